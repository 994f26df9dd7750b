/- MirrorFills, part 3 of the proof: LDel, CLoad, CTrack, LX1, LX2. -/
import Derived.WalkKit
import Derived.Orders
import Derived.RangeFuncLeaves
import Derived.RangeFuncCalls
import Derived.TacticsIn
import Derived.Handy
import Derived.OrdersHeld
import Derived.OrdersIn
import Derived.Below
import Derived.OpenShut
import Derived.Deep.Slices
import Derived.Scope
import Derived.KernelRfl
import Derived.RangeFuncRecord
import Derived.ChangeKeysEq
import Derived.ProofKit
import Derived.ShutString
import Derived.ChangeOld
import Derived.Test.YtcfnikegnhlghaaGreatChecked
import Derived.Test.YtcfnikegnhlghaaGreatRows
import Derived.Test.YtcfnikegnhlghaaGreatZMirrorFills2
set_option linter.unusedSimpArgs false
set_option linter.unusedVariables false
set_option maxRecDepth 20000
set_option maxHeartbeats 4000000
namespace Go.Proofs
open Go.VG
def zia (r_0:Rec) (p1:Int):Option (Bool) :=
  some ((decide (((r_0.d:Nat):Int)=p1)))
theorem zmq {W:World} {bp1:Nat} {r_0:Rec} {p1:Int} {r:Bool} (h:zia r_0 p1=some r) :
    CSpec Tryz.prog W 57 [.agg #[.int .i64 (((r_0.d:Nat):Int)),.int .i64 (((r_0.a:Nat):Int)),.int .u64 (r_0.v.toNat:Int)],ptr bp1 0] [blk bp1 3 [.int .i64 p1]] (fun x:Unit => .bool r) (fun _=>True) (fun x F=>blk bp1 3 [.int .i64 p1]::F) := by
 refine CSpec.of_body Tryz.func57 rfl Tryz.ntmps57 rfl fun F => ?_
 show CJ _ _ _ _ _ _ (_::F)
 unfold zia at h
 refine sR <| oO <| O_box rfl rfl rfl fun b1=>oA rfl rfl <| nT <| sR <| oP (zaa rfl ⟨_,_,_,Tryz.runUnderlying111,rfl,rfl,Tryz.sizeOf109,rfl⟩) rfl <| oP (zaa rfl ⟨_,_,_,Tryz.runUnderlying109,rfl,rfl,Tryz.sizeOf3,rfl⟩) rfl <| oV (zag rfl foc0 rfl Tryz.isAgg3) rfl <| oV (zag rfl foc1 rfl Tryz.isAgg3) rfl <| oP (P_eql (a:=((r_0.d:Nat):Int)) (b:=p1) rfl rfl) rfl <| oA rfl rfl <| nT <| zah ?_
 cases h
 exact fE (res1 Tryz.results57 rfl) () (t1_ (eD eR))
def zdr (p0:List Rec) (p1_c0:Int) (rec:Nat→Option ((Unit) ⊕ Int)) (x6:Nat):Option ((Unit) ⊕ Int) :=
  if (((x6:Nat):Int) < ((p0.length:Nat):Int)) then
    Option.bind (zia (p0.getD x6 r0) p1_c0) fun r7 =>
    if r7=true then
      some (.inr (((x6:Nat):Int)))
    else
      rec (x6 + 1)
  else
    some (.inl ())
def zb1 (p0:List Rec) (p1_c0:Int):Nat→Nat→Option ((Unit) ⊕ Int)
  | 0,_=>none
  | n + 1,x6=>zdr p0 p1_c0 (zb1 p0 p1_c0 n) x6
def zd8 (p0:List Rec) (p1_c0:Int):Option (Int) :=
  seqO (zb1 p0 p1_c0 FUEL 0) fun a5 =>
  some (-1:Int)
theorem zjr {W:World} {Ap0:HP} {vp0:Value} {bp1_c0:Nat} {p0:List Rec} {p1_c0:Int} {r:Int} (rp0:Reads Ap0 tyRec vp0 p0) (h:zd8 p0 p1_c0=some r) :
    CSpec Tryz.prog W 96 [vp0,.func (.func 57) #[] #[ptr bp1_c0 0]] [Ap0,blk bp1_c0 3 [.int .i64 p1_c0]] (fun x:Unit => .int .i64 r) (fun _=>True) (fun x F=>Ap0::blk bp1_c0 3 [.int .i64 p1_c0]::F) := by
 refine CSpec.of_body Tryz.func96 rfl Tryz.ntmps96 rfl fun F => ?_
 show CJ _ _ _ _ _ _ (_::_::F)
 unfold zd8 at h
 refine za1 (zcg rp0 del0) fun hlen1=>sR <| oA rfl rfl <| nT <| zac <| sR <| oM rfl rfl <| oV (V_len rfl foc0 rp0 Tryz.runUnderlying105) rfl <| oM rfl rfl <| nT ?_
 obtain ⟨y4,hl2,hK3⟩ := seq_e h
 refine zbv (X:=Unit) [4,5,8,9,10,11,12,13,14,15,16,17,18] (fun _=>([]:Slots)) (fun _ R=>R) (fun _=>y4 = .inl ()) Dels.nil ?_ ?_
 ·
  refine zaw <| zbd (X:=Nat × Nat) [4,5,8,9,10,11,12,13,14,15,16,17,18] (fun ⟨n,x6⟩=>([(8,.int .i64 (((x6:Nat):Int)))]:Slots)) (fun ⟨n,x6⟩ R=>R) (fun ⟨n,x6⟩=>zb1 p0 p1_c0 n x6=some y4) (fun ⟨n,x6⟩=>n) ⟨FUEL,0⟩ ?_ ?_ eR ?_
  · exact hl2
  · exact ⟨rfl,True.intro⟩
  ·
   rintro ⟨n,x6⟩ h
   cases n with
   | zero=>exact zbq h
   | succ n => ?_
   replace h:zdr p0 p1_c0 (zb1 p0 p1_c0 n) x6=some y4 := h
   unfold zdr at h
   show CJ _ _ _ _ _ (([(8,.int .i64 (((x6:Nat):Int)))]:Slots) ++ forget _ _) (_)
   refine sR <| oP (P_lss (a:=((x6:Nat):Int)) (b:=((p0.length:Nat):Int)) rfl rfl) rfl <| nT <| zac <| zan rfl zab (fun hg1 => ?_) (fun hg1 => ?_)
   ·
    replace h := ite_t hg1 h
    refine kT <| zac <| zaw <| sR <| oM rfl rfl <| oA rfl rfl <| nT <| sR <| oM rfl rfl <| oM rfl rfl <| oM rfl rfl <| oV (zay (i:=x6) rfl rfl rfl (by omega) foc0 rp0 Tryz.runUnderlying105 Tryz.sizeOf111) rfl <| oV (zh1 rfl rfl (by omega) foc0 rp0 rfl rfl Tryz.isAgg111 Tryz.sizeOf111) rfl ?_
    obtain ⟨r7,hr8,h⟩ := zar h
    refine oO <| ze3 rfl rfl (zmq hr8) Tryz.call57 (Dels.cons del1 Dels.nil) rfl fun _ _=>nT <| zan rfl Iff.rfl (fun hg2 => ?_) (fun hg2 => ?_)
    ·
     replace h := ite_t hg2 h
     refine sR <| oM rfl rfl <| oA rfl rfl <| nT <| zah <| zau <| zad <| za9 <| zau <| zad ?_
     have hE := Option.some.inj h
     replace hE := zce hK3 hE.symm
     subst hE
     exact fE (res1 Tryz.results96 rfl) () (t1_ eR)
    ·
     replace h := ite_f hg2 h
     exact zbr <| zao <| zam <| zaf <| oP (PJ_eq (P_add (a:=((x6:Nat):Int)) (b:=(1:Int)) rfl rfl (by omega)) rfl) rfl <| oM rfl rfl <| zap <| nR ⟨n,(x6 + 1)⟩ h ⟨rfl,True.intro⟩ (t1_ eR)
   ·
    replace h := ite_f hg1 h
    exact zbj <| za3 <| za2 <| za0 <| cR () (Option.some.inj h).symm True.intro eR
 ·
  rintro _ hy9
  replace h := zd0 hK3 hy9
  show CJ _ _ _ _ _ (([]:Slots) ++ forget _ _) (_)
  refine sR <| oA rfl rfl <| nT <| zah ?_
  cases h
  exact fE (res1 Tryz.results96 rfl) () eR
def zi7 (p1_c0:Int) (rec:(List Rec)→Int→Int→Option (Int × (List Rec))) (x10:List Rec) (x11:Int) (x12:Int):Option (Int × (List Rec)) :=
  if (x12 < ((x10.length:Nat):Int)) then
    grd (decide (0≤x12∧x12 < (x10.length:Int))) <|
    Option.bind (zia ((x10.getD ((x12).toNat) r0)) p1_c0) fun r15 =>
    if (¬ r15=true) then
      grd (decide (0≤x11∧x11 < (x10.length:Int))) <|
      grd (inI64 ((x11 + (1:Int)))) <|
      grd (inI64 ((x12 + (1:Int)))) <|
      rec ((x10.set ((x11).toNat) ((x10.getD ((x12).toNat) r0)))) ((x11 + (1:Int))) ((x12 + (1:Int)))
    else
      grd (inI64 ((x12 + (1:Int)))) <|
      rec x10 x11 ((x12 + (1:Int)))
  else
    some (x11,x10)
def zhv (p1_c0:Int):Nat→(List Rec)→Int→Int→Option (Int × (List Rec))
  | 0,_,_,_=>none
  | n + 1,x10,x11,x12=>zi7 p1_c0 (zhv p1_c0 n) x10 x11 x12
def zkv (p0:List Rec) (p1_c0:Int):Option ((List Rec)) :=
  Option.bind (zd8 p0 p1_c0) fun r2 =>
  if (r2=(-1:Int)) then
    some p0
  else
    grd (inI64 ((r2 + (1:Int)))) <|
    Option.bind (zhv p1_c0 FUEL p0 r2 ((r2 + (1:Int)))) fun a9 =>
    grd (decide (0≤a9.1∧(a9.1).toNat≤a9.2.length∧a9.2.length≤a9.2.length)) <|
    grd (decide (0≤a9.1∧0≤(a9.1).toNat∧(a9.1).toNat≤((a9.2.take ((a9.1).toNat) ++ List.replicate (a9.2.length - ((a9.1).toNat)) tyRec.dflt)).length)) <|
    some ((((a9.2.take ((a9.1).toNat) ++ List.replicate (a9.2.length - ((a9.1).toNat)) tyRec.dflt)).take ((a9.1).toNat)))
theorem zrr {W:World} {hdp0:Sl3} {bp1_c0:Nat} {p0:List Rec} {p1_c0:Int} {r:(List Rec)} (h:zkv p0 p1_c0=some r) :
    CSpec Tryz.prog W 56 [hdp0.v,.func (.func 57) #[] #[ptr bp1_c0 0]] [sl tyRec hdp0.v p0,blk bp1_c0 3 [.int .i64 p1_c0]] (fun x:Sl3=>x.v) (fun _=>True) (fun x F=>blk bp1_c0 3 [.int .i64 p1_c0]::sl tyRec x.v r::F) := by
 refine CSpec.of_body Tryz.func56 rfl Tryz.ntmps56 rfl fun F => ?_
 show CJ _ _ _ _ _ _ (_::_::F)
 unfold zkv at h
 refine lC del0 fun hlen1=>sR <| oA rfl rfl <| nT <| sR <| oM rfl rfl <| oM rfl rfl ?_
 obtain ⟨r2,hr3,h⟩ := zar h
 refine oO <| zat (zjr (Reads.sl _ _ _) hr3) rfl Tryz.call96 (Dels.cons del0 (Dels.cons del0 Dels.nil)) rfl fun _ _=>oA rfl rfl <| nT <| zac <| sR <| oM rfl rfl <| oP (P_eql (a:=r2) (b:=(-1:Int)) rfl rfl) rfl <| nT <| zan rfl zab (fun hg1 => ?_) (fun hg1 => ?_)
 ·
  replace h := ite_t hg1 h
  refine sR <| oM rfl rfl <| oA rfl rfl <| nT <| zah <| zad ?_
  cases h
  exact fE (res1 Tryz.results56 rfl) hdp0 (t1_ eR)
 ·
  replace h := ite_f hg1 h
  refine kT <| zac <| sR <| oM rfl rfl ?_
  obtain ⟨hg2,h⟩ := zd7 h
  refine oP (P_add (a:=r2) (b:=(1:Int)) rfl rfl hg2) rfl <| oA rfl rfl <| nT ?_
  obtain ⟨y6,hl4,hK5⟩ := zfw h
  refine zbv (X:=Int × (List Rec)) [5,6,7,16,17,18,19,20,21,22,23,24,25,26,27,28,29,30,31,32,33,34,35] (fun a9=>([(5,.int .i64 a9.1)]:Slots)) (fun a9 R=>sl tyRec hdp0.v a9.2::R) (fun a9=>y6=a9) (Dels.cons del0 Dels.nil) ?_ ?_
  ·
   refine zaw <| zbd (X:=Nat × (List Rec) × Int × Int) [5,6,7,16,17,18,19,20,21,22,23,24,25,26,27,28,29,30,31,32,33,34,35] (fun ⟨n,x10,x11,x12⟩=>([(5,.int .i64 x11),(6,.int .i64 x12)]:Slots)) (fun ⟨n,x10,x11,x12⟩ R=>sl tyRec hdp0.v x10::R) (fun ⟨n,x10,x11,x12⟩=>zhv p1_c0 n x10 x11 x12=some y6) (fun ⟨n,x10,x11,x12⟩=>n) ⟨FUEL,p0,r2,(r2 + (1:Int))⟩ ?_ ?_ eR ?_
   · exact hl4
   · exact ⟨rfl,rfl,True.intro⟩
   ·
    rintro ⟨n,x10,x11,x12⟩ h
    cases n with
    | zero=>exact zbq h
    | succ n => ?_
    replace h:zi7 p1_c0 (zhv p1_c0 n) x10 x11 x12=some y6 := h
    unfold zi7 at h
    show CJ _ _ _ _ _ (([(5,.int .i64 x11),(6,.int .i64 x12)]:Slots) ++ forget _ _) (sl tyRec hdp0.v x10::_)
    refine lC del0 fun hlen13=>zac <| sR <| oM rfl rfl <| oM rfl rfl <| oV (V_len rfl foc0 (Reads.sl _ _ _) Tryz.runUnderlying105) rfl <| oP (P_lss (a:=x12) (b:=((x10.length:Nat):Int)) rfl rfl) rfl <| nT <| zan rfl zab (fun hg3 => ?_) (fun hg3 => ?_)
    ·
     replace h := ite_t hg3 h
     refine kT <| zac <| zaw <| sR <| oM rfl rfl <| oM rfl rfl ?_
     obtain ⟨hg4,h⟩ := zbt h
     refine oV (zay (i:=(x12).toNat) rfl rfl (Int.toNat_of_nonneg (hg4.1)).symm (by omega) foc0 (Reads.sl _ _ _) Tryz.runUnderlying105 Tryz.sizeOf111) rfl <| oV (zh1 rfl rfl (by omega) foc0 (Reads.sl _ _ _) rfl rfl Tryz.isAgg111 Tryz.sizeOf111) rfl <| oO <| zes Tryz.zeroValue111 rfl rfl fun b14=>oO <| zfm rfl rfl foc0 Tryz.sizeOf111 rfl rfl rfl <| nT <| sR <| oM rfl rfl <| oV (zhb rfl foc0 Tryz.isAgg111 Tryz.sizeOf111 rfl rfl) rfl ?_
     obtain ⟨r15,hr16,h⟩ := zar h
     refine oO <| ze3 rfl rfl (zmq hr16) Tryz.call57 (Dels.cons del2 Dels.nil) rfl fun _ _=>oP (P_not rfl) rfl <| nT <| zan rfl (zdk Iff.rfl) (fun hg5 => ?_) (fun hg5 => ?_)
     ·
      replace h := ite_t hg5 h
      refine sR <| oM rfl rfl <| oM rfl rfl <| oV (zhb rfl foc1 Tryz.isAgg111 Tryz.sizeOf111 rfl rfl) rfl ?_
      obtain ⟨hg6,h⟩ := zbt h
      refine oV (zay (i:=(x11).toNat) rfl rfl (Int.toNat_of_nonneg (hg6.1)).symm (by omega) foc2 (Reads.sl _ _ _) Tryz.runUnderlying105 Tryz.sizeOf111) rfl <| oO <| zzv (x' := (x10.getD ((x12).toNat) r0)) rfl rfl rfl (by omega) foc2 rfl Tryz.sizeOf111 <| nT <| zaf <| oM rfl rfl ?_
      obtain ⟨hg7,h⟩ := zd7 h
      refine oP (P_add (a:=x11) (b:=(1:Int)) rfl rfl hg7) rfl <| oA rfl rfl <| zap <| zao <| zam <| zaf <| oM rfl rfl ?_
      obtain ⟨hg8,h⟩ := zd7 h
      exact oP (P_add (a:=x12) (b:=(1:Int)) rfl rfl hg8) rfl <| oA rfl rfl <| zap <| nR ⟨n,(x10.set ((x11).toNat) ((x10.getD ((x12).toNat) r0))),(x11 + (1:Int)),(x12 + (1:Int))⟩ h ⟨rfl,rfl,True.intro⟩ (t2_ (t0_ (eD eR)))
     ·
      replace h := ite_f hg5 h
      refine zbr <| zao <| zam <| zaf <| oM rfl rfl ?_
      obtain ⟨hg9,h⟩ := zd7 h
      exact oP (P_add (a:=x12) (b:=(1:Int)) rfl rfl hg9) rfl <| oA rfl rfl <| zap <| nR ⟨n,x10,x11,(x12 + (1:Int))⟩ h ⟨rfl,rfl,True.intro⟩ (t2_ (t0_ (eD eR)))
    ·
     replace h := ite_f hg3 h
     exact zbj <| za3 <| za2 <| za0 <| cR (x11,x10) (Option.some.inj h).symm ⟨rfl,True.intro⟩ eR
  ·
   rintro a9 hy17
   replace h := zd2 hK5 hy17
   show CJ _ _ _ _ _ (([(5,.int .i64 a9.1)]:Slots) ++ forget _ _) (sl tyRec hdp0.v a9.2::_)
   refine lC del0 fun hlen18=>sR <| oM rfl rfl <| oM rfl rfl ?_
   obtain ⟨hg10,h⟩ := zbt h
   refine oV (zrg (l:=(a9.1).toNat) (h:=a9.2.length) rfl foc0 (Reads.sl _ _ _) ⟨_,by rw [Int.toNat_of_nonneg (by omega)]; exact rfl⟩ rfl (by omega) (by omega) Tryz.underlying105 Tryz.sizeOf111) rfl <| oO <| z28 (l:=(a9.1).toNat) rfl (by omega) foc0 Tryz.underlying105 Tryz.zeroValue111 rfl <| nT <| sR <| oM rfl rfl <| oM rfl rfl ?_
   obtain ⟨hg11,h⟩ := zbt h
   refine oV (zrg (l:=0) (h:=(a9.1).toNat) rfl foc0 (Reads.sl _ _ _) rfl ⟨_,by rw [Int.toNat_of_nonneg (by omega)]; exact rfl⟩ (by omega) (by omega) Tryz.underlying105 Tryz.sizeOf111) rfl <| oA rfl rfl <| nT <| zah <| z27 (Ent.transX (t0_ eR) (zz4 (h:=(a9.1).toNat) (by omega))) fun hd19=>QJ_pur fun e20 => ?_
   rw [e20]
   cases h
   exact fE (res1 Tryz.results56 rfl) ⟨hd19.1,(((a9.2.take ((a9.1).toNat) ++ List.replicate (a9.2.length - ((a9.1).toNat)) tyRec.dflt)).take ((a9.1).toNat)).length,hd19.2⟩ (t1_ eR)
theorem zrk {α:Type} {l:List α} {i:Nat} {d:α} (h:i < l.length):l.getD i d=l[i] := by simp [List.getD,h]
theorem z0j (p:List Rec) (c:Int) (hl:p.length≤1000000000):∀ n k,p.length < n + k→k≤p.length→(∀ j,j < k → ¬ ((p.getD j r0).d:Int)=c) →
    (zb1 p c n k=some (.inl ()) ∧ ∀ j,j < p.length → ¬ ((p.getD j r0).d:Int)=c) ∨
    ∃ i,i < p.length∧zb1 p c n k=some (.inr (i:Int))∧((p.getD i r0).d:Int)=c ∧ ∀ j,j < i → ¬ ((p.getD j r0).d:Int)=c := by
  intro n
  induction n with
  | zero=>intro k h1 h2; omega
  | succ n ih =>
    intro k h1 h2 h3
    simp only [zb1,zdr,zia,Option.bind_some,grd]
    by_cases hk:k < p.length
    · have e1:((k:Int) < (p.length:Int)) := by omega
      rw [if_pos e1]
      by_cases hd:((p.getD k r0).d:Int)=c
      · refine .inr ⟨k,hk,?_,hd,h3⟩
        simp only [hd,decide_true,if_true]
      · simp only [hd,decide_false,Bool.false_eq_true,if_false]
        refine ih (k + 1) (by omega) hk fun j hj => ?_
        rcases Nat.lt_or_ge j k with h | h
        · exact h3 j h
        · obtain rfl:j=k := by omega
          exact hd
    · have e1:¬ ((k:Int) < (p.length:Int)) := by omega
      rw [if_neg e1]
      exact .inl ⟨rfl,fun j hj=>h3 j (by omega)⟩
def keepR (c:Int) (r:Rec):Bool := !decide ((r.d:Int)=c)
theorem zza (p:List Rec) (c:Int) (hl:p.length≤1000000000):∀ n (xs:List Rec) (i j:Nat),p.length < n + j→j≤p.length→i < j→xs.length=p.length→xs.take i=(p.take j).filter (keepR c)→xs.drop j=p.drop j →
    ∃ ys:List Rec, ∃ i':Nat,zhv c n xs (i:Int) (j:Int)=some ((i':Int),ys)∧ys.length=p.length∧i' ≤ p.length∧ys.take i' = p.filter (keepR c) := by
  intro n
  induction n with
  | zero=>intro xs i j h1 h2; omega
  | succ n ih =>
    intro xs i j h1 h2 h3 h4 h5 h6
    simp only [zhv,zi7,zia,Option.bind_some,grd,Int.toNat_natCast]
    have hi64:∀ k:Nat,k≤p.length→inI64 ((k:Int) + 1)=true := fun k hk=>by exact inI64_iff.2 ⟨by omega,by omega⟩
    by_cases hj:j < p.length
    · rw [if_pos (by omega)]
      have hx:xs.getD j r0=p.getD j r0 := by
        have := congrArg (fun l=>l.getD 0 r0) h6
        simpa [List.getD] using this
      have ht:p.take (j + 1)=p.take j ++ [p.getD j r0] := by rw [List.take_succ_eq_append_getElem hj,zrk hj]
      have hd:xs.drop (j + 1)=p.drop (j + 1) := by
        have := congrArg (List.drop 1) h6
        simpa [List.drop_drop] using this
      by_cases hc:((p.getD j r0).d:Int)=c
      · simp only [hx,hc,decide_true,not_true_eq_false,if_false,hi64 j (by omega),if_true,cond_true]
        rw [show decide (0≤(j:Int)∧(j:Int) < (xs.length:Int))=true from decide_eq_true (by omega)]
        refine ih xs i (j + 1) (by omega) hj (by omega) h4 ?_ hd
        have hk:¬ keepR c (p.getD j r0)=true := by unfold keepR; simp only [hc,decide_true]; decide
        rw [ht,List.filter_append,h5,List.filter_cons_of_neg hk,List.filter_nil,List.append_nil]
      · simp only [hx,hc,decide_false,Bool.false_eq_true,not_false_eq_true,if_true,hi64 j (by omega),hi64 i (by omega),cond_true]
        rw [show decide (0≤(j:Int)∧(j:Int) < (xs.length:Int))=true from decide_eq_true (by omega),show decide (0≤(i:Int)∧(i:Int) < (xs.length:Int))=true from decide_eq_true (by omega)]
        refine ih (xs.set i (p.getD j r0)) (i + 1) (j + 1) (by omega) hj (by omega) (by simpa using h4) ?_ ?_
        · rw [ht,List.filter_append, ← h5]
          have hk:keepR c (p.getD j r0)=true := by unfold keepR; simp only [hc,decide_false]; decide
          rw [List.take_succ_eq_append_getElem (by simp; omega),List.take_set_of_le (Nat.le_refl _),List.getElem_set_self,List.filter_cons_of_pos hk,List.filter_nil]
        · rw [List.drop_set_of_lt (by omega)]; exact hd
    · rw [if_neg (by omega)]
      obtain rfl:j=p.length := by omega
      exact ⟨xs,i,rfl,h4,by omega,by rw [h5,List.take_length]⟩
theorem zvq {p:List Rec} {c:Int} (hl:p.length≤1000000000):zkv p c=some (p.filter fun r => !decide ((r.d:Int)=c)) := by
  unfold zkv zd8
  have hF := zbp
  generalize FUEL=N at hF ⊢
  rcases z0j p c hl N 0 (by omega) (Nat.zero_le _) (fun j hj=>by omega) with ⟨h1,h2⟩ | ⟨i,h1,h2,h3,h4⟩
  · rw [h1]
    simp only [seqO,Option.bind_some,Sum.elim_inl]
    rw [if_pos trivial]
    refine congrArg some (List.filter_eq_self.2 fun r hr => ?_).symm
    obtain ⟨j,hj,rfl⟩ := List.getElem_of_mem hr
    have := h2 j hj
    rw [zrk hj] at this
    simpa using this
  · rw [h2]
    simp only [seqO,Option.bind_some,Sum.elim_inr]
    rw [if_neg (by omega)]
    have hf:p.take i=(p.take (i + 1)).filter (keepR c) := by
      rw [List.take_succ_eq_append_getElem h1,List.filter_append]
      have e1:(p.take i).filter (keepR c)=p.take i := List.filter_eq_self.2 fun r hr=>by
        obtain ⟨j,hj,rfl⟩ := List.getElem_of_mem hr
        have hj':j < i := by simp at hj; omega
        have := h4 j hj'
        rw [zrk (by omega)] at this
        simpa [keepR] using this
      rw [e1]
      rw [zrk h1] at h3
      simp [keepR,h3]
    obtain ⟨ys,i',h5,h6,h7,h8⟩ := zza p c hl N p i (i + 1) (by omega) (by omega) (by omega) rfl hf rfl
    have e2:((i:Int) + 1)=((i + 1:Nat):Int) := by omega
    rw [zya (show inI64 ((i:Int) + 1)=true by exact inI64_iff.2 ⟨by omega,by omega⟩),e2,h5]
    simp only [Option.bind_some,Int.toNat_natCast]
    rw [grd_d (by omega),grd_d (by simp; omega)]
    refine congrArg some ?_
    rw [List.take_append_of_le_length (by simp; omega),List.take_take,Nat.min_self,h8]
    rfl
theorem zx2 {W:World} {v:Sl3} {b:Nat} {p:List Rec} {d:Int} (hl:p.length≤1000000000) (TI:Nat := 3) :
    CSpec Tryz.prog W 56 [v.v,.func (.func 57) #[] #[ptr b 0]] [sl tyRec v.v p,blk b 3 [.int .i64 d]] (fun x:Sl3=>x.v) (fun _=>True) (fun x F=>blk b 3 [.int .i64 d]::sl tyRec x.v (p.filter fun r => !decide ((r.d:Int)=d))::F) :=
  zrr (zvq hl)
end Go.Proofs
set_option linter.unusedSimpArgs false
set_option maxRecDepth 20000
namespace Go.Proofs
open Go.VG
theorem zrs (v0:Int) (v1:Int):∀ w,(Instr.build 109 (#[(0,.int .i64 v0),(1,.int .i64 v1)]:Array (Nat × Value))).run Tryz.prog w = .ok (.agg #[.int .i64 v0,.int .i64 v1]) w := fun w=>by kernel_rfl
def ldC (s:ArrS) (d:Int) (im:List UInt64):Int := if inR s d then (if im.length=(s.drv.getD d.toNat d0).now.length then 0 else 3) else 1
def zku (m:List ((Int × Int) × Unit)) (d:Int) (k:Nat):List ((Int × Int) × Unit) := (List.range k).foldl (fun m (j:Nat)=>delM m (d,(j:Int))) m
theorem zqs (m:List ((Int × Int) × Unit)) (d:Int) (k:Nat):delM (zku m d k) (d,(k:Int))=zku m d (k + 1) := by
  simp [zku,List.range_succ,List.foldl_append]
def ldS (s:ArrS) (d:Int) (im:List UInt64):ArrS :=
  if ldC s d im=0 then { s with drv := s.drv.set d.toNat ⟨im,im,(s.drv.getD d.toNat d0).miss⟩,bad := zku s.bad d im.length,log := s.log.filter fun r => !decide ((r.d:Int)=d) } else s
theorem zs8 {xs ys:List UInt64} (h:ys.length=xs.length):copied xs ys=ys := by
  unfold copied; rw [h,Nat.min_self, ← h,List.take_length,List.drop_of_length_le (by omega),List.append_nil]
theorem z3h {s:ArrS} {i:Nat} {im:List UInt64} {m:List ((Int × Int) × Unit)} (hw:ArrWF s) (hi:i < s.drv.length) (hl:im.length=(s.drv.getD i d0).now.length) :
    ArrWF { s with drv := s.drv.set i ⟨im,im,(s.drv.getD i d0).miss⟩,bad := m,log := s.log.filter fun r => !decide ((r.d:Int)=(i:Int)) } := by
  have hsz:∀ x,ArrS.size { s with drv := s.drv.set i ⟨im,im,(s.drv.getD i d0).miss⟩,bad := m,log := s.log.filter fun r => !decide ((r.d:Int)=(i:Int)) } x=s.size x := fun x=>by
    show ((s.drv.set i _).getD x d0).now.length=(s.drv.getD x d0).now.length
    simp only [List.getD,List.getElem?_set]
    by_cases hx:i=x
    · subst hx; simp [hi,List.getD] at hl ⊢; exact hl
    · simp [hx]
  have hsub:∀ r ∈ s.log.filter (fun r => !decide ((r.d:Int)=(i:Int))),r.d < s.drv.length∧r.a < s.size r.d := fun r hr=>by
    obtain ⟨j,hj,rfl⟩ := List.getElem_of_mem (List.mem_filter.1 hr).1
    have := hw.log j hj
    simpa [List.getD,hj] using this
  refine { cnt := by simpa using hw.cnt,same := fun j hj => ?_,log := fun j hj => ?_,len := Nat.le_trans (List.length_filter_le _ _) hw.len,fuse := hw.fuse }
  · have hj':j < s.drv.length := by simpa using hj
    have := hw.same j hj'
    show ((s.drv.set i _).getD j d0).now.length=((s.drv.set i _).getD j d0).dur.length∧((s.drv.set i _).getD j d0).now.length≤65536
    simp only [List.getD,List.getElem?_set] at this hl ⊢
    by_cases hx:i=j
    · subst hx; simp [hi] at this hl ⊢; omega
    · simpa [hx] using this
  · rw [hsz]
    have := hsub _ (List.getElem_mem hj)
    have e:∀ (l:List Rec) (h:j < l.length),l.getD j r0=l[j] := fun l h=>by simp [List.getD,h]
    rw [e _ hj]
    exact ⟨by simpa using this.1,this.2⟩
theorem zyh {W:World} {b:Nat} {s:ArrS} {d:Int} {A:HP} {v:Value} {im:List UInt64} (hA:Reads A tyU v im) (hW:s.writes≤1000000000) :
    CSpec Tryz.prog W 25 [ptr b 0,.int .i64 d,v] [Arr b s,A] (fun _:Unit => .int .i64 (ldC s d im)) (fun _=>True) (fun _ F=>Arr b (ldS s d im)::A::F) := by
 refine CSpec.of_body Tryz.func25 rfl Tryz.ntmps25 rfl fun F => ?_
 show CJ _ _ _ _ _ _ (_::_::F)
 refine zax (Ent.transX (t0_ eR) zh3) fun ⟨dv,lv,mr,l⟩=>zgl fun hX => ?_
 obtain ⟨hl,hm,hw⟩:l.map Prod.snd=(s).drv∧(∀ p ∈ l,p.1.miss=p.2.miss)∧ArrWF (s) := hX
 show CJ _ _ _ _ _ _ (blk b 107 [Sl3.v dv,.map (some mr),Sl3.v lv,_,_,_]::sl tyDrv (Sl3.v dv) (DL.hs l)::DOwn l::sl tyRec (Sl3.v lv) _::mpc mBad mr _::_)
 have hn := zjm hl
 have hwF := hw.fuse
 have hwL := hw.len
 have hwC := hw.cnt
 refine sR <| oO <| O_box rfl rfl rfl fun b1=>oA rfl rfl <| nT <| zac <| zac <| zbc 0 (by kernel_rfl) rfl <| aV 0 1 rfl rfl (zak rfl) (t0_ (t0_ (t0_ (t0_ (t0_ (t0_ (t0_ eR))))))) (zag rfl foc0 rfl Tryz.isAgg3) rfl <| aN 1 3 rfl rfl (P_lss rfl rfl) rfl <| aN 2 7 rfl rfl (zaj rfl) rfl ?_
 first | (refine zqf 11 rfl (fun hg1B hg1 => ?_) (fun hg1B hg1 => ?_)) | (refine zqg 11 rfl (fun hg1B hg1 => ?_) (fun hg1B hg1 => ?_)) | (refine zr6 11 rfl (fun hg1B => ?_) (fun hg1B => ?_))
 ·
  refine aS 3 15 rfl rfl (GY_no rfl rfl rfl hg1B) rfl <| aS 4 31 rfl rfl (GY_no rfl rfl rfl hg1B) rfl <| aS 5 63 rfl rfl (GY_no rfl rfl rfl hg1B) rfl <| aS 6 127 rfl rfl (GY_no rfl rfl rfl hg1B) rfl <| aS 7 255 rfl rfl (GY_no rfl rfl rfl hg1B) rfl <| aS 8 511 rfl rfl (GY_no rfl rfl rfl hg1B) rfl <| aS 9 1023 rfl rfl (GY_no rfl rfl rfl hg1B) rfl <| aN 10 2047 rfl rfl (zbh rfl hg1B rfl) rfl <| aD <| zck rfl rfl <| sR <| oA rfl rfl <| nT <| zah <| zad <| zcp (res1 Tryz.results25 rfl) ?_
  have hR:¬ inR s d := fun h=>by unfold inR at h; omega
  have hC:ldC s d im=1 := if_neg hR
  rw [show ldS s d im=s from if_neg (by rw [hC]; decide)]
  refine CSpec.close () ?_ ?_ (Ent.trans (Ent.trans (t1_ (t1_ (t1_ (t1_ (t1_ eR))))) (zeb hl hm hw)) (t0_ (t1_ (eD eR))))
  · exact iv hC.symm
  · trivial
 ·
  refine aV 3 15 rfl rfl (zal rfl rfl rfl hg1B) (t0_ (t0_ (t0_ (t0_ (t0_ (t0_ (t0_ eR))))))) (zag rfl foc0 rfl Tryz.isAgg3) rfl <| aP 4 31 rfl rfl (zal rfl rfl rfl hg1B) (zaj rfl) rfl <| aP 5 63 rfl rfl (zal rfl rfl rfl hg1B) (zae rfl) rfl <| aP 6 127 rfl rfl (zal rfl rfl rfl hg1B) (zaa rfl ⟨_,_,_,Tryz.runUnderlying107,rfl,rfl,Tryz.sizeOf103,rfl⟩) rfl <| aV 7 255 rfl rfl (zal rfl rfl rfl hg1B) (t0_ (t0_ (t0_ (t0_ (t0_ (t0_ (t0_ eR))))))) (zag rfl foc1 rfl Tryz.isAgg103) rfl <| aV 8 511 rfl rfl (zal rfl rfl rfl hg1B) (t0_ (t0_ (t0_ (t0_ (t0_ (t0_ (t0_ eR))))))) (V_len rfl foc2 (Reads.sl _ _ _) Tryz.runUnderlying103) rfl <| aP 9 1023 rfl rfl (zal rfl rfl rfl hg1B) (P_geq rfl rfl) rfl <| aN 10 2047 rfl rfl (za8 rfl hg1B rfl) rfl <| aD ?_
  first | (refine zcu rfl (fun hg2 => ?_) (fun hg2 => ?_)) | (refine zcv rfl (fun hg2 => ?_) (fun hg2 => ?_)) | (refine zct rfl (fun hg2 => ?_) (fun hg2 => ?_))
  ·
   refine sR <| oA rfl rfl <| nT <| zah <| zad <| zcp (res1 Tryz.results25 rfl) ?_
   have hR:¬ inR s d := fun h=>by unfold inR at h; omega
   have hC:ldC s d im=1 := if_neg hR
   rw [show ldS s d im=s from if_neg (by rw [hC]; decide)]
   refine CSpec.close () ?_ ?_ (Ent.trans (Ent.trans (t1_ (t1_ (t1_ (t1_ (t1_ eR))))) (zeb hl hm hw)) (t0_ (t1_ (eD eR))))
   · exact iv hC.symm
   · trivial
  ·
   have hR:inR s d := ⟨by omega,by omega⟩
   obtain ⟨i,rfl⟩ := Int.eq_ofNat_of_zero_le hR.1
   have hsm := hw.same i (by omega)
   refine kT <| zac <| zde (Ent.trans (t3_ eR) (zkz i hl (by omega))) <| zbc 256 (by kernel_rfl) rfl <| aN 0 1 rfl rfl (zaj rfl) rfl <| aN 1 3 rfl rfl (zae rfl) rfl <| aN 2 7 rfl rfl (zaa rfl ⟨_,_,_,Tryz.runUnderlying107,rfl,rfl,Tryz.sizeOf103,rfl⟩) rfl <| aV 3 15 rfl rfl (zak rfl) (t0_ (t0_ (t0_ (t0_ (t0_ (t0_ (t0_ (t0_ (t0_ eR))))))))) (zag rfl foc4 rfl Tryz.isAgg103) rfl <| aV 4 31 rfl rfl (zak rfl) (t0_ (t0_ (t0_ (t0_ (t0_ (t0_ (t0_ (t0_ (t0_ eR))))))))) (zag rfl foc3 rfl Tryz.isAgg3) rfl ?_
   first | (refine zij 5 63 rfl (by kernel_rfl) rfl (by kernel_rfl) (by kernel_rfl) (zak rfl) (t0_ (t0_ (t0_ (t0_ (t0_ (t0_ (t0_ (t0_ (t0_ eR))))))))) (zay rfl rfl rfl (by omega) foc5 (Reads.sl _ _ _) Tryz.runUnderlying103 Tryz.sizeOf113) rfl (fun _ _ _ _ h=>h) ?_) | (refine zij 5 63 rfl (by kernel_rfl) rfl (by kernel_rfl) (by kernel_rfl) (zak rfl) (t0_ (t0_ (t0_ (t0_ (t0_ (t0_ (t0_ (t0_ (t0_ eR))))))))) (zay rfl rfl (Int.toNat_of_nonneg (by omega)).symm (by omega) foc5 (Reads.sl _ _ _) Tryz.runUnderlying103 Tryz.sizeOf113) rfl (fun _ _ _ _ h=>h) ?_)
   refine aV 6 127 rfl rfl (zak rfl) (t0_ (t0_ (t0_ (t0_ (t0_ (t0_ (t0_ (t0_ (t0_ eR))))))))) (zh1 rfl rfl (by omega) foc5 (Reads.sl _ _ _) rfl rfl Tryz.isAgg113 Tryz.sizeOf113) rfl <| AJ_op 7 255 rfl (by kernel_rfl) rfl (zak rfl) <| zes Tryz.zeroValue113 rfl rfl fun b2=>⟨fun _=>(t1_ (t1_ (t1_ (t1_ (t1_ (t1_ (t1_ (t1_ (t1_ (eD eR)))))))))),?_⟩
   refine AJ_op 8 511 rfl (by kernel_rfl) rfl (zak rfl) <| zfm rfl rfl foc0 Tryz.sizeOf113 rfl rfl rfl <| ⟨fun h=>absurd h (by decide),?_⟩
   refine aD <| zac <| sR <| oM rfl rfl <| oV (V_len rfl foc9 hA Tryz.runUnderlying29) rfl <| oP (zaa rfl ⟨_,_,_,Tryz.runUnderlying113,rfl,rfl,Tryz.sizeOf29,rfl⟩) rfl <| oV (zag rfl foc0 rfl Tryz.isAgg29) rfl <| oV (V_len rfl foc1 (Reads.sl _ _ _) Tryz.runUnderlying29) rfl <| oP (P_neq rfl rfl) rfl <| nT ?_
   first | (refine zcu rfl (fun hg3 => ?_) (fun hg3 => ?_)) | (refine zcv rfl (fun hg3 => ?_) (fun hg3 => ?_)) | (refine zct rfl (fun hg3 => ?_) (fun hg3 => ?_))
   ·
    refine sR <| oA rfl rfl <| nT <| zah <| zad <| zcp (res1 Tryz.results25 rfl) ?_
    have hC:ldC s i im=3 := by rw [ldC,if_pos hR,if_neg (by show ¬ im.length=(s.drv.getD i d0).now.length; omega)]
    rw [show ldS s i im=s from if_neg (by rw [hC]; decide)]
    refine CSpec.close () ?_ ?_ (Ent.trans (Ent.trans (t1_ (t1_ (t1_ eR))) (zql hl (by omega))) (Ent.trans (Ent.trans (t3_ (t3_ (t0_ (t2_ (t2_ eR))))) (zeb hl hm hw)) (t0_ (t2_ (eD (eD eR))))))
    · exact iv hC.symm
    · trivial
   ·
    refine kT <| sR <| oP (zaa rfl ⟨_,_,_,Tryz.runUnderlying113,rfl,rfl,Tryz.sizeOf29,rfl⟩) rfl <| oV (zag rfl foc0 rfl Tryz.isAgg29) rfl <| oM rfl rfl <| oO <| zvz (t:=tyU) (bytes:=8) rfl rfl del1 foc8 hA Tryz.underlying29 znd rfl <| nT <| sR <| oP (zaa rfl ⟨_,_,_,Tryz.runUnderlying113,rfl,rfl,Tryz.sizeOf29,rfl⟩) rfl <| oV (zag rfl foc1 rfl Tryz.isAgg29) rfl <| oM rfl rfl <| oO <| zvz (t:=tyU) (bytes:=8) rfl rfl del2 foc8 hA Tryz.underlying29 znd rfl <| nT <| sR <| oM rfl rfl <| oM rfl rfl <| oP (zae rfl) rfl <| oP (zaa rfl ⟨_,_,_,Tryz.runUnderlying107,rfl,rfl,Tryz.sizeOf105,rfl⟩) rfl <| oV (zag rfl foc5 rfl Tryz.isAgg105) rfl <| oP (zb6 rfl rfl) rfl <| oO <| zat (zx2 (by omega)) rfl Tryz.call56 (Dels.cons del7 (Dels.cons del4 Dels.nil)) rfl fun dx3 hc5=>oP (zae rfl) rfl <| oP (zaa rfl ⟨_,_,_,Tryz.runUnderlying107,rfl,rfl,Tryz.sizeOf105,rfl⟩) rfl <| oO <| zbu rfl rfl foc6 rfl rfl Tryz.sizeOf105 <| nT <| zac <| sR <| oM rfl rfl <| oV (V_len rfl foc9 hA Tryz.runUnderlying29) rfl <| oM rfl rfl <| nT <| zaw ?_
    refine zbd (X:=Nat) [8,52,53,54,55,56,57,58,59,60,61,62] (fun k  => ([(52,.int .i64 (k:Nat))]:Slots)) (fun k R=>mpc mBad mr (zku s.bad i k)::R) (fun k  => k≤im.length) (fun k  => im.length - k) (0) ?_ ?_ (t8_ (t0_ (t0_ (t0_ (t0_ (t0_ (t0_ (t0_ (t0_ (t0_ eR)))))))))) ?_
    · exact Nat.zero_le _
    · exact ⟨rfl,True.intro⟩
    ·
     intro k hk
     show CJ _ _ _ _ _ (([(52,.int .i64 (k:Nat))]:Slots) ++ forget _ _) (mpc mBad mr (zku s.bad i k)::_)
     refine sR <| oP (P_lss rfl rfl) rfl <| nT <| zac ?_
     first | (refine zcu rfl (fun hg4 => ?_) (fun hg4 => ?_)) | (refine zcv rfl (fun hg4 => ?_) (fun hg4 => ?_)) | (refine zct rfl (fun hg4 => ?_) (fun hg4 => ?_))
     ·
      refine kT <| zac <| zaw <| sR <| oM rfl rfl <| oA rfl rfl <| nT <| zbc 128 (by kernel_rfl) rfl <| aN 0 1 rfl rfl (zaj rfl) rfl <| aN 1 3 rfl rfl (zae rfl) rfl <| aN 2 7 rfl rfl (zaa rfl ⟨_,_,_,Tryz.runUnderlying107,rfl,rfl,Tryz.sizeOf104,rfl⟩) rfl <| aV 3 15 rfl rfl (zak rfl) (t0_ (t0_ (t0_ (t0_ (t0_ (t0_ (t0_ (t0_ (t0_ (t0_ eR)))))))))) (zag rfl foc7 rfl Tryz.isAgg104) rfl <| aV 4 31 rfl rfl (zak rfl) (t0_ (t0_ (t0_ (t0_ (t0_ (t0_ (t0_ (t0_ (t0_ (t0_ eR)))))))))) (zag rfl foc1 rfl Tryz.isAgg3) rfl <| aN 5 63 rfl rfl (zaj rfl) rfl <| aN 6 127 rfl rfl (zfn rfl (zrs _ _)) rfl <| AJ_op 7 255 rfl (by kernel_rfl) rfl (zak rfl) <| zps (M:=mBad) (k:=((i:Int),(k:Int))) rfl rfl foc0 zri <| ⟨fun h=>absurd h (by decide),?_⟩
      refine zcd (by kernel_rfl) <| zao <| zam <| zaf <| oP (P_add rfl rfl (by omega)) rfl <| oM rfl rfl <| zap <| zf2 (k + 1) (by first | omega | (simp only []; omega)) ?_ (by repeat (first | exact Kp.base | exact Kp.self | refine Kp.cons rfl ?_ | refine Kp.forget rfl ?_)) ?_ (Ent.takeC del0 (congrArg (mpc mBad mr) (zqs _ _ _)) (t0_ (t0_ (t0_ (t0_ (t0_ (t0_ (t0_ (t0_ (t0_ eR))))))))))
      · omega
      · exact ⟨rfl,True.intro⟩
     ·
      refine zbj <| za3 <| za2 <| za0 <| zam <| sR <| oA rfl rfl <| nT <| zah <| zcp (res1 Tryz.results25 rfl) ?_
      obtain rfl:k=im.length := by omega
      have hC:ldC s i im=0 := by rw [ldC,if_pos hR,if_pos (show im.length=(s.drv.getD ((i:Int)).toNat d0).now.length by rw [Int.toNat_natCast]; omega)]
      rw [show ldS s i im=_ from if_pos hC]
      refine CSpec.close () ?_ ?_ (Ent.trans (Ent.trans (t7_ (t7_ (Ent.takeC del4 (by rw [zs8 (by omega)]) (Ent.takeC del3 (by rw [zs8 (by omega)]) (t4_ (t2_ (t0_ eR))))))) (znu (s' := { s with drv := s.drv.set i ⟨im,im,(s.drv.getD i d0).miss⟩,bad := zku s.bad i im.length,log := s.log.filter fun r => !decide ((r.d:Int)=(i:Int)) }) (lv:=dx3) i ⟨im,im,(s.drv.getD i d0).miss⟩ hl hm (by omega) rfl rfl (z3h hw (by omega) (by omega)))) (t0_ (t2_ (eD (eD eR)))))
      · exact iv hC.symm
      · trivial
end Go.Proofs
set_option linter.unusedSimpArgs false
set_option maxRecDepth 20000
namespace Go.Proofs
open Go.VG
theorem zkk (v0:Int):zfb Tryz.prog 29 1 [(0,.int .u64 v0)] 23 [.int .u64 v0] := fun w=>by kernel_rfl
theorem zt8:∀ w,(Instr.build 54 (#[]:Array (Nat × Value))).run Tryz.prog w = .ok (.agg #[.slice none 0 0]) w := fun w=>by kernel_rfl
theorem zqa (v0:(Option Addr)) (v1:Nat) (v2:Nat) (v3:Bool) (v4:Int):∀ w,(Instr.build 62 (#[(0,.slice v0 v1 v2),(1,.bool v3),(2,.int .u64 v4)]:Array (Nat × Value))).run Tryz.prog w = .ok (.agg #[.slice v0 v1 v2,.bool v3,.int .u64 v4]) w := fun w=>by kernel_rfl
theorem zsa (v0:(Option Addr)) (v1:Nat) (v2:Nat) (v3:Bool) (v4:Int):zfb Tryz.prog 52 1 [(0,.agg #[.slice v0 v1 v2,.bool v3,.int .u64 v4])] 62 [.slice v0 v1 v2,.bool v3,.int .u64 v4] := fun w=>by kernel_rfl
structure SecH where
  some:Sl3
  known:Bool
  value:UInt64
structure Sec where
  some:List UInt64
  known:Bool
  value:UInt64
abbrev sH0:SecH := ⟨⟨none,0,0⟩,false,0⟩
abbrev s0:Sec := ⟨[],false,0⟩
abbrev tySec:Ty SecH := { T := 62,sz := 3,enc := fun x=>[x.some.v,.bool x.known,.int .u64 (x.value.toNat:Int)],dflt := sH0,len := fun _=>rfl,one := fun _=>rfl,pos := by decide }
theorem z16:ElemOk Tryz.prog tySec 40 := ⟨Tryz.t62,.agg #[.slice none 0 0,.bool false,.int .u64 0],by kernel_rfl,rfl,rfl,rfl,rfl⟩
abbrev SL := List (SecH × Sec)
def ownS (p:SecH × Sec):HP := sl tyU p.1.some.v p.2.some
abbrev SL.hs (l:SL):List SecH := l.map Prod.fst
structure SOk (l:SL) (t:List Sec):Prop where
  ds:l.map Prod.snd=t
  ag:∀ p ∈ l,p.1.known=p.2.known∧p.1.value=p.2.value
  cnt:t.length≤65536
theorem SOk.len {l:SL} {t:List Sec} (h:SOk l t):(SL.hs l).length=t.length := by rw [← h.ds]; simp
theorem SOk.at {l:SL} {t:List Sec} (h:SOk l t) {i:Nat} (hi:i < t.length):((SL.hs l).getD i sH0).known=(t.getD i s0).known∧((SL.hs l).getD i sH0).value=(t.getD i s0).value := by
  have hi':i < l.length := by rw [← h.ds] at hi; simpa using hi
  rw [← h.ds]
  show ((l.map Prod.fst).getD i (Prod.fst (sH0,s0))).known=((l.map Prod.snd).getD i (Prod.snd (sH0,s0))).known∧((l.map Prod.fst).getD i (Prod.fst (sH0,s0))).value=((l.map Prod.snd).getD i (Prod.snd (sH0,s0))).value
  rw [zmy,zmy]
  have:l.getD i (sH0,s0)=l[i] := by simp [List.getD,hi']
  rw [this]
  exact h.ag _ (List.getElem_mem hi')
theorem SOk.set {l:SL} {t:List Sec} (h:SOk l t) (i:Nat) (x:SecH × Sec) (hx:x.1.known=x.2.known∧x.1.value=x.2.value):SOk (l.set i x) (t.set i x.2) where
  ds := by rw [List.map_set,h.ds]
  ag := fun p hp=>by
    rcases List.mem_or_eq_of_mem_set hp with hp | rfl
    · exact h.ag p hp
    · exact hx
  cnt := by simpa using h.cnt
def Trk (b:Nat) (t:List Sec):HP := ex fun c:Sl3 × SL=>star [pur (SOk c.2 t),blk b 54 [c.1.v],sl tySec c.1.v (SL.hs c.2),VG.Own ownS c.2]
theorem zi9 {b:Nat} {t:List Sec} {R:List HP} : EntX (Trk b t::R) fun c:Sl3 × SL=>pur (SOk c.2 t)::blk b 54 [c.1.v]::sl tySec c.1.v (SL.hs c.2)::VG.Own ownS c.2::R :=
  fun _ hh=>let ⟨c,hc⟩ := stars_ex.1 hh; ⟨c,stars_star.1 hc⟩
theorem zec {b:Nat} {t:List Sec} {sv:Sl3} {l:SL} (h:SOk l t) {R:List HP} : Ent (blk b 54 [sv.v]::sl tySec sv.v (SL.hs l)::VG.Own ownS l::R) (Trk b t::R) :=
  fun _ hh=>stars_ex.2 ⟨(sv,l),stars_star.2 (stars_pur.2 ⟨h,hh⟩)⟩
theorem zqt {l:SL} {t:List Sec} (h:SOk l t) (i:Nat) (hi:i < t.length) {R:List HP} : Ent (VG.Own ownS l::R) (sl tyU ((SL.hs l).getD i sH0).some.v (t.getD i s0).some::ORest ownS l i::R) := by
  have hi':i < l.length := by rw [← h.ds] at hi; simpa using hi
  have := z1q ownS (R:=R) i (sH0,s0) hi'
  rw [← h.ds]
  show Ent _ (sl tyU ((l.map Prod.fst).getD i (Prod.fst (sH0,s0))).some.v ((l.map Prod.snd).getD i (Prod.snd (sH0,s0))).some::_)
  rw [zmy,zmy]; exact this
def upto {α:Type} (g:α→α) (n:Nat) (D:List α):List α := (D.take n).map g ++ D.drop n
theorem zuz {α:Type} (g:α→α) (D:List α):upto g 0 D=D := by simp [upto]
theorem zwe {α:Type} (g:α→α) (D:List α):upto g D.length D=D.map g := by simp [upto]
theorem zsb {α:Type} (g:α→α) (n:Nat) (D:List α):(upto g n D).length=D.length := by simp [upto]; omega
theorem zrl {α:Type} {g:α→α} {n:Nat} {D:List α} {d:α} (hn:n < D.length):(upto g n D).getD n d=D.getD n d := by
  have:((D.take n).map g).length=n := by simp; omega
  simp only [upto,List.getD]
  rw [List.getElem?_append_right (by omega),this]; simp
theorem zqu {α:Type} {g:α→α} {n:Nat} {D:List α} {d:α} (hn:n < D.length):(upto g n D).set n (g (D.getD n d))=upto g (n + 1) D := by
  have h1:((D.take n).map g).length=n := by simp; omega
  simp only [upto]
  rw [List.set_append,if_neg (by omega),h1,Nat.sub_self,List.drop_eq_getElem_cons hn,List.set_cons_zero,List.take_succ_eq_append_getElem hn,List.map_append,List.append_assoc,show D.getD n d=D[n] by simp [List.getD,hn]]
  rfl
theorem z17 {l:SL} {t:List Sec} (h:SOk l t) {i:Nat} {x:SecH × Sec} (h1:x.1.some=((SL.hs l).getD i sH0).some) (h2:x.2.some=(t.getD i s0).some):VG.Own ownS (l.set i x)=VG.Own ownS l := by
  unfold VG.Own
  have e:(l.set i x).map ownS=l.map ownS := by
    apply List.ext_getElem?
    intro j
    simp only [List.getElem?_map,List.getElem?_set]
    by_cases h3:i=j
    · subst h3
      by_cases h4:i < l.length
      · rw [← h.ds] at h2
        have a1:((l.map Prod.fst).getD i (Prod.fst (sH0,s0)))=(l.getD i (sH0,s0)).1 := zmy Prod.fst l i (sH0,s0)
        have a2:((l.map Prod.snd).getD i (Prod.snd (sH0,s0)))=(l.getD i (sH0,s0)).2 := zmy Prod.snd l i (sH0,s0)
        have a3:l.getD i (sH0,s0)=l[i] := by simp [List.getD,h4]
        have b1:x.1.some=l[i].1.some := h1.trans (by rw [← a3, ← a1])
        have b2:x.2.some=l[i].2.some := h2.trans (by rw [← a3, ← a2])
        simp [h4,ownS,b1,b2]
      · simp [h4]
    · simp [h3]
  rw [e]
def failX (x:Sec):Sec := { x with known := false }
def zf6 (x:Sec):Sec := if x.known=true then { x with some := [x.value] } else x
def zcq (t:List Sec) (d:Int) (v:UInt64) (ok:Bool):List Sec := if 0≤d∧d < t.length then t.set d.toNat ⟨(t.getD d.toNat s0).some ++ [v],ok,v⟩ else t
def ze1 (t:List Sec):List Sec := t.map zf6
def zji (t:List Sec):List Sec := t.map failX
theorem set3 {l:List SecH} {i:Nat} {A B C:SecH} : ((l.set i A).set i B).set i C=l.set i C := by simp [List.set_set]
theorem zo0 {l:List SecH} {i:Nat} (hi:i < l.length) {A:SecH} : (l.set i A).getD i sH0=A := by simp [List.getD,hi]
theorem zqv {t:List Sec} {i:Nat} {v:UInt64} {ok:Bool} (hi:i < t.length):zcq t i v ok=t.set i ⟨(t.getD i s0).some ++ [v],ok,v⟩ := if_pos ⟨Int.natCast_nonneg _,by omega⟩
theorem zu0 {t:List Sec} {d:Int} {v:UInt64} {ok:Bool} (h:¬ (0≤d∧d < t.length)):zcq t d v ok=t := if_neg h
theorem z0k {α:Type} {g:α→α} {n:Nat} {D:List α} {d:α} (hn:n < D.length) (h:g (D.getD n d)=D.getD n d):upto g n D=upto g (n + 1) D := by
  rw [← zqu (d:=d) hn,h, ← zrl (g:=g) (n:=n) (D:=D) (d:=d) hn]
  have hl := zsb g n D
  apply List.ext_getElem?
  intro j
  simp only [List.getElem?_set]
  split
  · rename_i h1; subst h1
    have:n < (upto g n D).length := by omega
    rw [if_pos this,List.getElem?_eq_getElem this]; simp [List.getD,this]
  · rfl
theorem zwf {x:Sec} (h:x.known=true):zf6 x = { x with some := [x.value] } := if_pos h
theorem z18 {x:Sec} (h:x.known=false):zf6 x=x := if_neg (by simp [h])
def rdTS (t:List Sec) (d:Int) (v:UInt64) (q:Bool):List Sec := if 0≤d∧d < t.length then (if (t.getD d.toNat s0).known=true then t else t.set d.toNat ⟨if q=true then [v] else (t.getD d.toNat s0).some,true,v⟩) else t
def rdTR (t:List Sec) (d:Int) (v:UInt64):Bool := if 0≤d∧d < t.length then (if (t.getD d.toNat s0).known=true then decide (v=(t.getD d.toNat s0).value) else (t.getD d.toNat s0).some.any (fun u=>decide (u=v))) else false
theorem zwg {xs:List UInt64} {k:Nat} {v:UInt64} (hk:k < xs.length):(xs.take (k + 1)).any (fun u=>decide (u=v))=((xs.take k).any (fun u=>decide (u=v)) || decide (xs.getD k 0=v)) := by
  rw [List.take_succ_eq_append_getElem hk,List.any_append]; simp [List.getD,hk]
theorem decU {a b:UInt64} : decide ((a.toNat:Int)=(b.toNat:Int))=decide (a=b) := decide_eq_decide.2 ⟨fun h=>UInt64.toNat_inj.1 (by omega),fun h=>by rw [h]⟩
def mkSec (x:UInt64):Sec := ⟨[x],true,x⟩
def trkT (xs:List UInt64):List Sec := xs.map mkSec
theorem SL.snoc (l:SL) (x:SecH × Sec):SL.hs (l ++ [x])=SL.hs l ++ [x.1] := by simp [SL.hs]
theorem SOk.push {l:SL} {t:List Sec} (h:SOk l t) (x:SecH × Sec) (hx:x.1.known=x.2.known∧x.1.value=x.2.value) (hc:t.length + 1≤65536):SOk (l ++ [x]) (t ++ [x.2]) where
  ds := by rw [List.map_append,h.ds]; rfl
  ag := fun p hp=>by
    rcases List.mem_append.1 hp with hp | hp
    · exact h.ag p hp
    · simp at hp; subst hp; exact hx
  cnt := by simpa using hc
theorem takeU (xs:List UInt64) (k:Nat) (h:k < xs.length):trkT (xs.take (k + 1))=trkT (xs.take k) ++ [mkSec (xs.getD k 0)] := by
  rw [List.take_succ_eq_append_getElem h,trkT,trkT,List.map_append]; simp [List.getD,h]
theorem z19 {W:World} {b:Nat} {t:List Sec} :
    CSpec Tryz.prog W 67 [ptr b 0] [Trk b t] (fun _:Unit => .tuple #[]) (fun _=>True) (fun _ F=>Trk b (zji t)::F) := by
 refine CSpec.of_body Tryz.func67 rfl Tryz.ntmps67 rfl fun F => ?_
 show CJ _ _ _ _ _ _ (_::F)
 refine zax (Ent.transX (t0_ eR) zi9) fun ⟨sv,l⟩=>zgl fun hX => ?_
 have hl:SOk l t := hX
 have hn := hl.len
 have hcn := hl.cnt
 show CJ _ _ _ _ _ _ (blk b 54 [Sl3.v sv]::sl tySec (Sl3.v sv) (SL.hs l)::VG.Own ownS l::_)
 refine sR <| oA rfl rfl <| nT <| zaw <| zbd (X:=Nat × SL) [2,3,4,5,6,7,8,9,10,11,12,13,14,15,16,17,18] (fun ⟨i,l1⟩  => ([(2,.int .i64 (i:Nat))]:Slots)) (fun ⟨i,l1⟩ R=>sl tySec (Sl3.v sv) (SL.hs l1)::VG.Own ownS l1::R) (fun ⟨i,l1⟩  => i≤t.length∧SOk l1 (upto failX i t)) (fun ⟨i,l1⟩  => t.length - i) ⟨0,l⟩ ?_ ?_ (t1_ (t1_ (t0_ eR))) ?_
 ·
  refine ⟨Nat.zero_le _,?_⟩
  rw [zuz]; exact hl
 · exact ⟨rfl,True.intro⟩
 ·
  rintro ⟨i,l1⟩ ⟨hi,h1⟩
  show CJ _ _ _ _ _ (([(2,.int .i64 (i:Nat))]:Slots) ++ forget _ _) (sl tySec (Sl3.v sv) (SL.hs l1)::VG.Own ownS l1::_)
  have hn1 := h1.len
  have hul := zsb failX i t
  refine zac <| sR <| oM rfl rfl <| oM rfl rfl <| oP (zae rfl) rfl <| oP (zaa rfl ⟨_,_,_,Tryz.runUnderlying54,rfl,rfl,Tryz.sizeOf52,rfl⟩) rfl <| oV (zag rfl foc2 rfl Tryz.isAgg52) rfl <| oV (V_len rfl foc0 (Reads.sl _ _ _) Tryz.runUnderlying52) rfl <| oP (P_lss rfl rfl) rfl <| nT ?_
  first | (refine zcu rfl (fun hg1 => ?_) (fun hg1 => ?_)) | (refine zcv rfl (fun hg1 => ?_) (fun hg1 => ?_)) | (refine zct rfl (fun hg1 => ?_) (fun hg1 => ?_))
  ·
   refine kT <| zac <| zaw <| zaf <| oM rfl rfl <| oP (zae rfl) rfl <| oP (zaa rfl ⟨_,_,_,Tryz.runUnderlying54,rfl,rfl,Tryz.sizeOf52,rfl⟩) rfl <| oV (zag rfl foc2 rfl Tryz.isAgg52) rfl <| oM rfl rfl ?_
   first | (refine RJ_op rfl (OJ_V (zay rfl rfl rfl (by omega) foc0 (Reads.sl _ _ _) Tryz.runUnderlying52 Tryz.sizeOf62) rfl ?_)) | (refine RJ_op rfl (OJ_V (zay rfl rfl (Int.toNat_of_nonneg (by omega)).symm (by omega) foc0 (Reads.sl _ _ _) Tryz.runUnderlying52 Tryz.sizeOf62) rfl ?_))
   refine oP (zbe rfl ⟨_,_,_,Tryz.runUnderlying62,rfl,rfl,Tryz.sizeOf4,rfl⟩) rfl <| oO <| zea (x' := { (SL.hs l1).getD i sH0 with known := false }) rfl rfl rfl (by omega) foc0 rfl rfl rfl Tryz.sizeOf4 <| zap <| zao <| zam <| zaf <| oM rfl rfl <| oP (P_add rfl rfl (by omega)) rfl <| oA rfl rfl <| zap <| zf2 ⟨i + 1,l1.set i ({ (SL.hs l1).getD i sH0 with known := false },failX ((upto failX i t).getD i s0))⟩ (by first | omega | (simp only []; omega)) ?_ (by repeat (first | exact Kp.base | exact Kp.self | refine Kp.cons rfl ?_ | refine Kp.forget rfl ?_)) ?_ (Ent.takeC del0 (congrArg (sl tySec _) (by simp only [SL.hs,List.map_set])) (Ent.takeC del0 (z17 h1 rfl rfl).symm (t0_ eR)))
   ·
    refine ⟨by omega,?_⟩
    rw [← zqu (d:=s0) (by omega), ← zrl (g:=failX) (n:=i) (D:=t) (d:=s0) (by omega)]
    exact h1.set i ({ (SL.hs l1).getD i sH0 with known := false },failX ((upto failX i t).getD i s0)) ⟨rfl,(h1.at (by omega)).2⟩
   · exact ⟨rfl,True.intro⟩
  ·
   refine zbj <| za3 <| za2 <| za0 <| znz (res0 Tryz.results67) ?_
   obtain rfl:i=t.length := by omega
   rw [zwe] at h1
   refine CSpec.close () ?_ ?_ (Ent.trans (Ent.trans (t2_ (t0_ (t0_ eR))) (zec h1)) (t0_ eR))
   · rfl
   · trivial
theorem zyi {W:World} {b:Nat} {t:List Sec} {d:Int} {v:UInt64} {o:Bool} (hs1:∀ i,(t.getD i s0).some.length≤100000) :
    CSpec Tryz.prog W 90 [ptr b 0,.int .i64 d,.int .u64 (v.toNat:Int),.bool o] [Trk b t] (fun _:Unit => .tuple #[]) (fun _=>True) (fun _ F=>Trk b (zcq t d v o)::F) := by
 refine CSpec.of_body Tryz.func90 rfl Tryz.ntmps90 rfl fun F => ?_
 show CJ _ _ _ _ _ _ (_::F)
 refine zax (Ent.transX (t0_ eR) zi9) fun ⟨sv,l⟩=>zgl fun hX => ?_
 have hl:SOk l t := hX
 have hn := hl.len
 have hcn := hl.cnt
 show CJ _ _ _ _ _ _ (blk b 54 [Sl3.v sv]::sl tySec (Sl3.v sv) (SL.hs l)::VG.Own ownS l::_)
 refine zac <| sR <| oM rfl rfl <| oP (P_lss rfl rfl) rfl <| oM rfl rfl ?_
 first | (refine zkd 11 rfl (fun hg1B hg1 => ?_) (fun hg1B hg1 => ?_)) | (refine zke 11 rfl (fun hg1B hg1 => ?_) (fun hg1B hg1 => ?_)) | (refine zkx 11 rfl (fun hg1B => ?_) (fun hg1B => ?_))
 ·
  refine RJ_gn (GY_no rfl rfl rfl hg1B) rfl rfl <| RJ_gn (GY_no rfl rfl rfl hg1B) rfl rfl <| RJ_gn (GY_no rfl rfl rfl hg1B) rfl rfl <| RJ_gn (GY_no rfl rfl rfl hg1B) rfl rfl <| RJ_gn (GY_no rfl rfl rfl hg1B) rfl rfl <| RJ_gn (GY_no rfl rfl rfl hg1B) rfl rfl <| RJ_gn (GY_no rfl rfl rfl hg1B) rfl rfl <| oP (zbh rfl hg1B rfl) rfl <| nT <| zck rfl rfl <| zah <| zad <| zcp (res0 Tryz.results90) ?_
  rw [zu0 (by omega)]
  refine CSpec.close () ?_ ?_ (Ent.trans (Ent.trans (t0_ (t0_ (t0_ eR))) (zec hl)) (t0_ eR))
  · rfl
  · trivial
 ·
  refine gP (zal rfl rfl rfl hg1B) (zaj rfl) rfl <| gP (zal rfl rfl rfl hg1B) (zaj rfl) rfl <| gP (zal rfl rfl rfl hg1B) (zae rfl) rfl <| gP (zal rfl rfl rfl hg1B) (zaa rfl ⟨_,_,_,Tryz.runUnderlying54,rfl,rfl,Tryz.sizeOf52,rfl⟩) rfl <| gV (zal rfl rfl rfl hg1B) (zag rfl foc0 rfl Tryz.isAgg52) rfl <| gV (zal rfl rfl rfl hg1B) (V_len rfl foc1 (Reads.sl _ _ _) Tryz.runUnderlying52) rfl <| gP (zal rfl rfl rfl hg1B) (P_geq rfl rfl) rfl <| oP (za8 rfl hg1B rfl) rfl <| nT ?_
  first | (refine zcu rfl (fun hg2 => ?_) (fun hg2 => ?_)) | (refine zcv rfl (fun hg2 => ?_) (fun hg2 => ?_)) | (refine zct rfl (fun hg2 => ?_) (fun hg2 => ?_))
  ·
   refine zah <| zad <| zcp (res0 Tryz.results90) ?_
   rw [zu0 (by omega)]
   refine CSpec.close () ?_ ?_ (Ent.trans (Ent.trans (t0_ (t0_ (t0_ eR))) (zec hl)) (t0_ eR))
   · rfl
   · trivial
  ·
   obtain ⟨i,rfl⟩ := Int.eq_ofNat_of_zero_le (show 0≤d by omega)
   have hi:i < t.length := by omega
   have hil:i < (SL.hs l).length := by omega
   have hsi := hs1 i
   refine kT <| zac <| zde (Ent.trans (t2_ eR) (zqt hl i (by omega))) <| zaf <| oM rfl rfl <| oP (zae rfl) rfl <| oP (zaa rfl ⟨_,_,_,Tryz.runUnderlying54,rfl,rfl,Tryz.sizeOf52,rfl⟩) rfl <| oV (zag rfl foc2 rfl Tryz.isAgg52) rfl <| oM rfl rfl ?_
   first | (refine RJ_op rfl (OJ_V (zay rfl rfl rfl (by first | omega | (simp only [List.length_set]; omega)) foc3 (Reads.sl _ _ _) Tryz.runUnderlying52 Tryz.sizeOf62) rfl ?_)) | (refine RJ_op rfl (OJ_V (zay rfl rfl (Int.toNat_of_nonneg (by first | omega | (simp only [List.length_set]; omega))).symm (by first | omega | (simp only [List.length_set]; omega)) foc3 (Reads.sl _ _ _) Tryz.runUnderlying52 Tryz.sizeOf62) rfl ?_))
   refine oA rfl rfl <| nT <| sR <| oM rfl rfl <| oM rfl rfl <| oP (zdi rfl) rfl <| oP (zbe rfl ⟨_,_,_,Tryz.runUnderlying62,rfl,rfl,Tryz.sizeOf29,rfl⟩) rfl <| oV (za6 rfl rfl (by first | omega | (simp only [List.length_set]; omega)) foc3 (Reads.sl _ _ _) rfl rfl Tryz.isAgg29) rfl <| zbb (fun h hh=>zdj (t:=tyU) h hh) <| oO <| zc9 (t:=tyU) (bytes:=8) rfl rfl del0 foc0 (Reads.sl _ _ _) Tryz.underlying29 znd (by simp only [List.length_append,List.length_cons,List.length_nil,maxLen] at *; omega) (by simp only [List.length_append,List.length_cons,List.length_nil,maxLen] at *; omega) rfl fun p3 c4=>oM rfl rfl <| oO <| zbf rfl (zkk _) rfl fun b5=>oO <| zc9 (t:=tyU) (bytes:=8) rfl rfl del1 foc0 (Reads.lit (t:=tyU) (ys:=[v]) rfl rfl (by decide) (by decide) rfl) Tryz.underlying29 znd (by simp only [List.length_append,List.length_cons,List.length_nil,maxLen] at *; omega) (by simp only [List.length_append,List.length_cons,List.length_nil,maxLen] at *; omega) rfl fun p6 c7=>oP (zdi rfl) rfl <| oP (zbe rfl ⟨_,_,_,Tryz.runUnderlying62,rfl,rfl,Tryz.sizeOf29,rfl⟩) rfl <| oO <| zea (x' := ⟨⟨p6,_,c7⟩,((SL.hs l).getD i sH0).known,((SL.hs l).getD i sH0).value⟩) rfl rfl rfl (by first | omega | (simp only [List.length_set]; omega)) foc5 rfl rfl rfl Tryz.sizeOf29 <| nT <| zaf <| oM rfl rfl <| oM rfl rfl <| oM rfl rfl <| oM rfl rfl <| oP (zdi rfl) rfl ?_
   refine oP (zbe rfl ⟨_,_,_,Tryz.runUnderlying62,rfl,rfl,Tryz.sizeOf4,rfl⟩) rfl <| oO <| zea (x' := ⟨⟨p6,_,c7⟩,o,((SL.hs l).getD i sH0).value⟩) rfl rfl rfl (by first | omega | (simp only [List.length_set]; omega)) foc5 rfl rfl (by rw [show List.getD _ _ tySec.dflt=_ from zo0 hil]; rfl) Tryz.sizeOf4 <| oP (zdi rfl) rfl <| oP (zbe rfl ⟨_,_,_,Tryz.runUnderlying62,rfl,rfl,Tryz.sizeOf23,rfl⟩) rfl <| oO <| zea (x' := ⟨⟨p6,_,c7⟩,o,v⟩) rfl rfl rfl (by first | omega | (simp only [List.length_set]; omega)) foc5 rfl rfl (by rw [show List.getD _ _ tySec.dflt=_ from zo0 (by simpa using hil)]; rfl) Tryz.sizeOf23 <| zap <| znz (res0 Tryz.results90) ?_
   rw [zqv (by omega)]
   refine CSpec.close () ?_ ?_ (Ent.trans (Ent.trans (Ent.takeC del0 (show _=ownS ((⟨⟨p6,_,c7⟩,o,v⟩:SecH),(⟨(t.getD i s0).some ++ [v],o,v⟩:Sec)) from rfl) (t2_ eR)) (zou ownS ((⟨⟨p6,_,c7⟩,o,v⟩:SecH),(⟨(t.getD i s0).some ++ [v],o,v⟩:Sec)) (by have := hl.len; simp at this; omega))) (Ent.trans (Ent.trans (t3_ (Ent.takeC del3 (congrArg (sl tySec _) (by rw [set3]; simp only [SL.hs,List.map_set])) (t0_ eR))) (zec (hl.set i ((⟨⟨p6,_,c7⟩,o,v⟩:SecH),(⟨(t.getD i s0).some ++ [v],o,v⟩:Sec)) ⟨rfl,rfl⟩))) (t0_ (eD (eD eR)))))
   · rfl
   · trivial
theorem z0l {W:World} {b:Nat} {t:List Sec} :
    CSpec Tryz.prog W 54 [ptr b 0] [Trk b t] (fun _:Unit => .tuple #[]) (fun _=>True) (fun _ F=>Trk b (ze1 t)::F) := by
 refine CSpec.of_body Tryz.func54 rfl Tryz.ntmps54 rfl fun F => ?_
 show CJ _ _ _ _ _ _ (_::F)
 refine zax (Ent.transX (t0_ eR) zi9) fun ⟨sv,l⟩=>zgl fun hX => ?_
 have hl:SOk l t := hX
 have hn := hl.len
 have hcn := hl.cnt
 show CJ _ _ _ _ _ _ (blk b 54 [Sl3.v sv]::sl tySec (Sl3.v sv) (SL.hs l)::VG.Own ownS l::_)
 refine sR <| oA rfl rfl <| nT <| zaw <| zbd (X:=Nat × SL) [2,3,4,5,6,7,8,9,10,11,12,13,14,15,16,17,18,19,20,21,22,23,24,25,26,27,28,29,30] (fun ⟨i,l1⟩  => ([(2,.int .i64 (i:Nat))]:Slots)) (fun ⟨i,l1⟩ R=>sl tySec (Sl3.v sv) (SL.hs l1)::VG.Own ownS l1::R) (fun ⟨i,l1⟩  => i≤t.length∧SOk l1 (upto zf6 i t)) (fun ⟨i,l1⟩  => t.length - i) ⟨0,l⟩ ?_ ?_ (t1_ (t1_ (t0_ eR))) ?_
 ·
  refine ⟨Nat.zero_le _,?_⟩
  rw [zuz]; exact hl
 · exact ⟨rfl,True.intro⟩
 ·
  rintro ⟨i,l1⟩ ⟨hi,h1⟩
  show CJ _ _ _ _ _ (([(2,.int .i64 (i:Nat))]:Slots) ++ forget _ _) (sl tySec (Sl3.v sv) (SL.hs l1)::VG.Own ownS l1::_)
  have hn1 := h1.len
  have hul := zsb zf6 i t
  refine zac <| sR <| oM rfl rfl <| oM rfl rfl <| oP (zae rfl) rfl <| oP (zaa rfl ⟨_,_,_,Tryz.runUnderlying54,rfl,rfl,Tryz.sizeOf52,rfl⟩) rfl <| oV (zag rfl foc2 rfl Tryz.isAgg52) rfl <| oV (V_len rfl foc0 (Reads.sl _ _ _) Tryz.runUnderlying52) rfl <| oP (P_lss rfl rfl) rfl <| nT ?_
  first | (refine zcu rfl (fun hg1 => ?_) (fun hg1 => ?_)) | (refine zcv rfl (fun hg1 => ?_) (fun hg1 => ?_)) | (refine zct rfl (fun hg1 => ?_) (fun hg1 => ?_))
  ·
   refine kT <| zac <| zaw <| sR <| oM rfl rfl <| oP (zae rfl) rfl <| oP (zaa rfl ⟨_,_,_,Tryz.runUnderlying54,rfl,rfl,Tryz.sizeOf52,rfl⟩) rfl <| oV (zag rfl foc2 rfl Tryz.isAgg52) rfl <| oM rfl rfl ?_
   first | (refine RJ_op rfl (OJ_V (zay rfl rfl rfl (by omega) foc0 (Reads.sl _ _ _) Tryz.runUnderlying52 Tryz.sizeOf62) rfl ?_)) | (refine RJ_op rfl (OJ_V (zay rfl rfl (Int.toNat_of_nonneg (by omega)).symm (by omega) foc0 (Reads.sl _ _ _) Tryz.runUnderlying52 Tryz.sizeOf62) rfl ?_))
   refine oA rfl rfl <| nT <| sR <| oM rfl rfl <| oP (zdi rfl) rfl <| oP (zbe rfl ⟨_,_,_,Tryz.runUnderlying62,rfl,rfl,Tryz.sizeOf4,rfl⟩) rfl <| oV (za6 rfl rfl (by omega) foc0 (Reads.sl _ _ _) rfl rfl Tryz.isAgg4) rfl <| nT ?_
   first | (refine zcu rfl (fun hg2 => ?_) (fun hg2 => ?_)) | (refine zcv rfl (fun hg2 => ?_) (fun hg2 => ?_)) | (refine zct rfl (fun hg2 => ?_) (fun hg2 => ?_))
   ·
    have hkn:((upto zf6 i t).getD i s0).known=true := by rw [← (h1.at (by omega)).1]; assumption
    refine zde (Ent.trans (t1_ eR) (zqt h1 i (by omega))) <| zaf <| oM rfl rfl <| oM rfl rfl <| oP (zdi rfl) rfl <| oP (zbe rfl ⟨_,_,_,Tryz.runUnderlying62,rfl,rfl,Tryz.sizeOf23,rfl⟩) rfl <| oV (za6 rfl rfl (by omega) foc2 (Reads.sl _ _ _) rfl rfl Tryz.isAgg23) rfl <| oO <| zbf rfl (zkk _) rfl fun b1=>zbb (Ent.trans (t0_ eR) (zjl (t:=tyU) (m:=1) [((SL.hs l1).getD i sH0).value] rfl rfl rfl (by decide))) <| oP (zdi rfl) rfl <| oP (zbe rfl ⟨_,_,_,Tryz.runUnderlying62,rfl,rfl,Tryz.sizeOf29,rfl⟩) rfl <| oO <| zea (x' := { (SL.hs l1).getD i sH0 with some := ⟨some ⟨b1,0,none⟩,1,1⟩ }) rfl rfl rfl (by omega) foc3 rfl rfl rfl Tryz.sizeOf29 <| zap <| zao <| zam <| zaf <| oM rfl rfl <| oP (P_add rfl rfl (by omega)) rfl <| oA rfl rfl <| zap ?_
    refine zf2 ⟨i + 1,l1.set i ({ (SL.hs l1).getD i sH0 with some := ⟨some ⟨b1,0,none⟩,1,1⟩ },zf6 ((upto zf6 i t).getD i s0))⟩ (by first | omega | (simp only []; omega)) ?_ (by repeat (first | exact Kp.base | exact Kp.self | refine Kp.cons rfl ?_ | refine Kp.forget rfl ?_)) ?_ (Ent.trans (Ent.trans (Ent.takeC del0 (show _=sl tyU _ _ by rw [zwf hkn]; exact congrArg (fun z=>sl tyU _ [z]) (h1.at (by omega)).2) (t1_ eR)) (zou ownS ({ (SL.hs l1).getD i sH0 with some := ⟨some ⟨b1,0,none⟩,1,1⟩ },zf6 ((upto zf6 i t).getD i s0)) (by have := h1.len; simp at this; omega))) (Ent.takeC del2 (congrArg (sl tySec _) (by simp only [SL.hs,List.map_set])) (t0_ (t1_ (eD eR)))))
    ·
     refine ⟨by omega,?_⟩
     rw [← zqu (d:=s0) (by omega), ← zrl (g:=zf6) (n:=i) (D:=t) (d:=s0) (by omega)]
     refine h1.set i ({ (SL.hs l1).getD i sH0 with some := ⟨some ⟨b1,0,none⟩,1,1⟩ },zf6 ((upto zf6 i t).getD i s0)) ?_
     rw [zwf hkn]; exact h1.at (by omega)
    · exact ⟨rfl,True.intro⟩
   ·
    refine zbr <| zao <| zam <| zaf <| oM rfl rfl <| oP (P_add rfl rfl (by omega)) rfl <| oA rfl rfl <| zap <| zf2 ⟨i + 1,l1⟩ (by first | omega | (simp only []; omega)) ?_ (by repeat (first | exact Kp.base | exact Kp.self | refine Kp.cons rfl ?_ | refine Kp.forget rfl ?_)) ?_ (t0_ (t0_ (t0_ eR)))
    ·
     refine ⟨by omega,?_⟩
     rw [← z0k (d:=s0) (by omega) (z18 (by rw [← zrl (g:=zf6) (n:=i) (by omega), ← (h1.at (by omega)).1]; assumption))]; exact h1
    · exact ⟨rfl,True.intro⟩
  ·
   refine zbj <| za3 <| za2 <| za0 <| znz (res0 Tryz.results54) ?_
   obtain rfl:i=t.length := by omega
   rw [zwe] at h1
   refine CSpec.close () ?_ ?_ (Ent.trans (Ent.trans (t2_ (t0_ (t0_ eR))) (zec h1)) (t0_ eR))
   · rfl
   · trivial
theorem z3i {W:World} {b:Nat} {t:List Sec} {d:Int} {v:UInt64} {q:Bool} (hs1:∀ i,(t.getD i s0).some.length≤100000) :
    CSpec Tryz.prog W 91 [ptr b 0,.int .i64 d,.int .u64 (v.toNat:Int),.bool q] [Trk b t] (fun _:Unit => .bool (rdTR t d v)) (fun _=>True) (fun _ F=>Trk b (rdTS t d v q)::F) := by
 refine CSpec.of_body Tryz.func91 rfl Tryz.ntmps91 rfl fun F => ?_
 show CJ _ _ _ _ _ _ (_::F)
 refine zax (Ent.transX (t0_ eR) zi9) fun ⟨sv,l⟩=>zgl fun hX => ?_
 have hl:SOk l t := hX
 have hn := hl.len
 have hcn := hl.cnt
 show CJ _ _ _ _ _ _ (blk b 54 [Sl3.v sv]::sl tySec (Sl3.v sv) (SL.hs l)::VG.Own ownS l::_)
 refine sR <| oA rfl rfl <| nT <| zac <| sR <| oM rfl rfl <| oP (P_lss rfl rfl) rfl <| oM rfl rfl ?_
 first | (refine zkd 14 rfl (fun hg1B hg1 => ?_) (fun hg1B hg1 => ?_)) | (refine zke 14 rfl (fun hg1B hg1 => ?_) (fun hg1B hg1 => ?_)) | (refine zkx 14 rfl (fun hg1B => ?_) (fun hg1B => ?_))
 ·
  refine RJ_gn (GY_no rfl rfl rfl hg1B) rfl rfl <| RJ_gn (GY_no rfl rfl rfl hg1B) rfl rfl <| RJ_gn (GY_no rfl rfl rfl hg1B) rfl rfl <| RJ_gn (GY_no rfl rfl rfl hg1B) rfl rfl <| RJ_gn (GY_no rfl rfl rfl hg1B) rfl rfl <| RJ_gn (GY_no rfl rfl rfl hg1B) rfl rfl <| RJ_gn (GY_no rfl rfl rfl hg1B) rfl rfl <| oP (zbh rfl hg1B rfl) rfl <| nT <| zck rfl rfl <| sR <| oA rfl rfl <| nT <| zah <| zad <| zcp (res1 Tryz.results91 rfl) ?_
  have hR:¬ (0≤d∧d < t.length) := by omega
  rw [rdTS,if_neg hR]
  refine CSpec.close () ?_ ?_ (Ent.trans (Ent.trans (t0_ (t0_ (t0_ eR))) (zec hl)) (t0_ eR))
  · exact bv (show _=rdTR t d v by rw [rdTR,if_neg hR])
  · trivial
 ·
  refine gP (zal rfl rfl rfl hg1B) (zaj rfl) rfl <| gP (zal rfl rfl rfl hg1B) (zaj rfl) rfl <| gP (zal rfl rfl rfl hg1B) (zae rfl) rfl <| gP (zal rfl rfl rfl hg1B) (zaa rfl ⟨_,_,_,Tryz.runUnderlying54,rfl,rfl,Tryz.sizeOf52,rfl⟩) rfl <| gV (zal rfl rfl rfl hg1B) (zag rfl foc0 rfl Tryz.isAgg52) rfl <| gV (zal rfl rfl rfl hg1B) (V_len rfl foc1 (Reads.sl _ _ _) Tryz.runUnderlying52) rfl <| gP (zal rfl rfl rfl hg1B) (P_geq rfl rfl) rfl <| oP (za8 rfl hg1B rfl) rfl <| nT ?_
  first | (refine zcu rfl (fun hg2 => ?_) (fun hg2 => ?_)) | (refine zcv rfl (fun hg2 => ?_) (fun hg2 => ?_)) | (refine zct rfl (fun hg2 => ?_) (fun hg2 => ?_))
  ·
   refine sR <| oA rfl rfl <| nT <| zah <| zad <| zcp (res1 Tryz.results91 rfl) ?_
   have hR:¬ (0≤d∧d < t.length) := by omega
   rw [rdTS,if_neg hR]
   refine CSpec.close () ?_ ?_ (Ent.trans (Ent.trans (t0_ (t0_ (t0_ eR))) (zec hl)) (t0_ eR))
   · exact bv (show _=rdTR t d v by rw [rdTR,if_neg hR])
   · trivial
  ·
   obtain ⟨i,rfl⟩ := Int.eq_ofNat_of_zero_le (show 0≤d by omega)
   have hi:i < t.length := by omega
   have hil:i < (SL.hs l).length := by omega
   have hll:i < l.length := by simpa using hil
   have hsi := hs1 i
   have hat := hl.at hi
   have hR:0≤(i:Int)∧(i:Int) < t.length := ⟨by omega,by omega⟩
   refine kT <| sR <| oM rfl rfl <| oP (zae rfl) rfl <| oP (zaa rfl ⟨_,_,_,Tryz.runUnderlying54,rfl,rfl,Tryz.sizeOf52,rfl⟩) rfl <| oV (zag rfl foc0 rfl Tryz.isAgg52) rfl <| oM rfl rfl ?_
   first | (refine RJ_op rfl (OJ_V (zay rfl rfl rfl (by first | omega | (simp only [List.length_set]; omega)) foc1 (Reads.sl _ _ _) Tryz.runUnderlying52 Tryz.sizeOf62) rfl ?_)) | (refine RJ_op rfl (OJ_V (zay rfl rfl (Int.toNat_of_nonneg (by first | omega | (simp only [List.length_set]; omega))).symm (by first | omega | (simp only [List.length_set]; omega)) foc1 (Reads.sl _ _ _) Tryz.runUnderlying52 Tryz.sizeOf62) rfl ?_))
   refine oA rfl rfl <| nT <| zac <| sR <| oM rfl rfl <| oP (zdi rfl) rfl <| oP (zbe rfl ⟨_,_,_,Tryz.runUnderlying62,rfl,rfl,Tryz.sizeOf4,rfl⟩) rfl <| oV (za6 rfl rfl (by first | omega | (simp only [List.length_set]; omega)) foc1 (Reads.sl _ _ _) rfl rfl Tryz.isAgg4) rfl <| nT ?_
   first | (refine zcu rfl (fun hg3 => ?_) (fun hg3 => ?_)) | (refine zcv rfl (fun hg3 => ?_) (fun hg3 => ?_)) | (refine zct rfl (fun hg3 => ?_) (fun hg3 => ?_))
   ·
    have hkn:(t.getD ((i:Int)).toNat s0).known=true := hat.1.symm.trans hg3
    refine sR <| oM rfl rfl <| oM rfl rfl <| oP (zdi rfl) rfl <| oP (zbe rfl ⟨_,_,_,Tryz.runUnderlying62,rfl,rfl,Tryz.sizeOf23,rfl⟩) rfl <| oV (za6 rfl rfl (by first | omega | (simp only [List.length_set]; omega)) foc1 (Reads.sl _ _ _) rfl rfl Tryz.isAgg23) rfl <| oP (P_eql rfl rfl) rfl <| oA rfl rfl <| nT <| zah <| zad <| zcp (res1 Tryz.results91 rfl) ?_
    rw [rdTS,if_pos hR,if_pos hkn]
    refine CSpec.close () ?_ ?_ (Ent.trans (Ent.trans (t0_ (t0_ (t0_ eR))) (zec hl)) (t0_ eR))
    · exact bv (show _=rdTR t i v by rw [rdTR,if_pos hR,if_pos hkn,hat.2]; exact decU)
    · trivial
   ·
    have hkf:¬ (t.getD ((i:Int)).toNat s0).known=true := by
      have h9:(t.getD i s0).known=false := hat.1.symm.trans hg3
      intro e; exact absurd (show (t.getD i s0).known=true from e) (by rw [h9]; decide)
    refine kT <| zac <| zde (Ent.trans (t2_ eR) (zqt hl i (by omega))) <| zaf <| oA rfl rfl <| nT <| zac <| sR <| oA rfl rfl <| nT <| zaw <| zbd (X:=Nat) [10,11,39,40,41,42,43,44,45,46,47,48,49,50,51,52,53,54,55,56,57,58,59] (fun k  => ([(11,.int .i64 (k:Nat)),(10,.bool (((t.getD i s0).some.take k).any (fun u=>decide (u=v))))]:Slots)) (fun k R=>R) (fun k  => k≤(t.getD i s0).some.length) (fun k  => (t.getD i s0).some.length - k) (0) ?_ ?_ (t0_ (t0_ (t0_ (t0_ eR)))) ?_
    · omega
    · exact ⟨rfl,rfl,True.intro⟩
    ·
     intro k hk
     show CJ _ _ _ _ _ (([(11,.int .i64 (k:Nat)),(10,.bool (((t.getD i s0).some.take k).any (fun u=>decide (u=v))))]:Slots) ++ forget _ _) (_)
     refine zac <| sR <| oM rfl rfl <| oM rfl rfl <| oP (zdi rfl) rfl <| oP (zbe rfl ⟨_,_,_,Tryz.runUnderlying62,rfl,rfl,Tryz.sizeOf29,rfl⟩) rfl <| oV (za6 rfl rfl (by first | omega | (simp only [List.length_set]; omega)) foc3 (Reads.sl _ _ _) rfl rfl Tryz.isAgg29) rfl <| oV (V_len rfl foc0 (Reads.sl _ _ _) Tryz.runUnderlying29) rfl <| oP (P_lss rfl rfl) rfl <| nT ?_
     first | (refine zcu rfl (fun hg4 => ?_) (fun hg4 => ?_)) | (refine zcv rfl (fun hg4 => ?_) (fun hg4 => ?_)) | (refine zct rfl (fun hg4 => ?_) (fun hg4 => ?_))
     ·
      refine kT <| zac <| zaw <| zaf <| oM rfl rfl <| oM rfl rfl ?_
      first | (refine zkd 49 rfl (fun hg5B hg5 => ?_) (fun hg5B hg5 => ?_)) | (refine zke 49 rfl (fun hg5B hg5 => ?_) (fun hg5B hg5 => ?_)) | (refine zkx 49 rfl (fun hg5B => ?_) (fun hg5B => ?_))
      ·
       refine RJ_gn (GY_no rfl rfl rfl hg5B) rfl rfl <| RJ_gn (GY_no rfl rfl rfl hg5B) rfl rfl <| RJ_gn (GY_no rfl rfl rfl hg5B) rfl rfl <| RJ_gn (GY_no rfl rfl rfl hg5B) rfl rfl <| RJ_gn (GY_no rfl rfl rfl hg5B) rfl rfl <| RJ_gn (GY_no rfl rfl rfl hg5B) rfl rfl <| RJ_gn (GY_no rfl rfl rfl hg5B) rfl rfl <| RJ_gn (GY_no rfl rfl rfl hg5B) rfl rfl <| RJ_gn (GY_no rfl rfl rfl hg5B) rfl rfl <| oP (zbh rfl hg5B rfl) rfl <| oA rfl rfl <| zap <| zao <| zam <| zaf <| oM rfl rfl <| oP (P_add rfl rfl (by first | omega | (simp only [List.length_set]; omega))) rfl <| oA rfl rfl <| zap <| zf2 (k + 1) (by first | omega | (simp only []; omega)) ?_ (by repeat (first | exact Kp.base | exact Kp.self | refine Kp.cons rfl ?_ | refine Kp.forget rfl ?_)) ?_ (t0_ (t0_ (t0_ (t0_ eR))))
       · omega
       ·
        refine ⟨rfl,?_,True.intro⟩
        refine (congrArg (fun z=>some (Value.bool z)) ?_:some (Value.bool _)=some (Value.bool _))
        rw [zwg (by omega), ‹(((t.getD i s0).some.take k).any (fun u=>decide (u=v)))=true›]; rfl
      ·
       refine gP (zal rfl rfl rfl hg5B) (zaj rfl) rfl <| gP (zal rfl rfl rfl hg5B) (zdi rfl) rfl <| gP (zal rfl rfl rfl hg5B) (zbe rfl ⟨_,_,_,Tryz.runUnderlying62,rfl,rfl,Tryz.sizeOf29,rfl⟩) rfl <| gV (zal rfl rfl rfl hg5B) (za6 rfl rfl (by first | omega | (simp only [List.length_set]; omega)) foc3 (Reads.sl _ _ _) rfl rfl Tryz.isAgg29) rfl <| gP (zal rfl rfl rfl hg5B) (zaj rfl) rfl ?_
       first | (refine RJ_gy (zal rfl rfl rfl hg5B) (OJ_V (zay rfl rfl rfl (by first | omega | (simp only [List.length_set]; omega)) foc0 (Reads.sl _ _ _) Tryz.runUnderlying29 Tryz.sizeOf23) rfl ?_)) | (refine RJ_gy (zal rfl rfl rfl hg5B) (OJ_V (zay rfl rfl (Int.toNat_of_nonneg (by first | omega | (simp only [List.length_set]; omega))).symm (by first | omega | (simp only [List.length_set]; omega)) foc0 (Reads.sl _ _ _) Tryz.runUnderlying29 Tryz.sizeOf23) rfl ?_))
       refine gV (zal rfl rfl rfl hg5B) (za6 rfl rfl (by first | omega | (simp only [List.length_set]; omega)) foc0 (Reads.sl _ _ _) rfl rfl Tryz.isAgg23) rfl <| gP (zal rfl rfl rfl hg5B) (zaj rfl) rfl <| gP (zal rfl rfl rfl hg5B) (P_eql rfl rfl) rfl <| oP (za8 rfl hg5B rfl) rfl <| oA rfl rfl <| zap <| zao <| zam <| zaf <| oM rfl rfl <| oP (P_add rfl rfl (by first | omega | (simp only [List.length_set]; omega))) rfl <| oA rfl rfl <| zap <| zf2 (k + 1) (by first | omega | (simp only []; omega)) ?_ (by repeat (first | exact Kp.base | exact Kp.self | refine Kp.cons rfl ?_ | refine Kp.forget rfl ?_)) ?_ (t0_ (t0_ (t0_ (t0_ eR))))
       · omega
       ·
        refine ⟨rfl,?_,True.intro⟩
        refine (congrArg (fun z=>some (Value.bool z)) ?_:some (Value.bool _)=some (Value.bool _))
        rw [zwg (by omega), ‹(((t.getD i s0).some.take k).any (fun u=>decide (u=v)))=false›,Bool.false_or]; exact decU
     ·
      refine zbj <| za3 <| za2 <| za0 <| zam <| zac ?_
      have hk2:k=(t.getD i s0).some.length := by omega
      refine zaf <| oM rfl rfl <| oM rfl rfl <| oM rfl rfl <| oP (zdi rfl) rfl <| oP (zbe rfl ⟨_,_,_,Tryz.runUnderlying62,rfl,rfl,Tryz.sizeOf4,rfl⟩) rfl <| oO <| zea (x' := { (SL.hs l).getD i sH0 with known := true }) rfl rfl rfl (by first | omega | (simp only [List.length_set]; omega)) foc3 rfl rfl rfl Tryz.sizeOf4 <| oP (zdi rfl) rfl <| oP (zbe rfl ⟨_,_,_,Tryz.runUnderlying62,rfl,rfl,Tryz.sizeOf23,rfl⟩) rfl <| oO <| zea (x' := ⟨((SL.hs l).getD i sH0).some,true,v⟩) rfl rfl rfl (by first | omega | (simp only [List.length_set]; omega)) foc3 rfl rfl (by rw [show List.getD _ _ tySec.dflt=_ from zo0 hil]; rfl) Tryz.sizeOf23 <| nT <| zac <| sR <| oM rfl rfl <| nT ?_
      first | (refine zcu rfl (fun hg6 => ?_) (fun hg6 => ?_)) | (refine zcv rfl (fun hg6 => ?_) (fun hg6 => ?_)) | (refine zct rfl (fun hg6 => ?_) (fun hg6 => ?_))
      ·
       refine zaf <| oM rfl rfl <| oM rfl rfl <| oO <| zbf rfl (zkk _) rfl fun b1=>zbb (Ent.trans (t0_ eR) (zjl (t:=tyU) (m:=1) [v] rfl rfl rfl (by decide))) <| oP (zdi rfl) rfl <| oP (zbe rfl ⟨_,_,_,Tryz.runUnderlying62,rfl,rfl,Tryz.sizeOf29,rfl⟩) rfl <| oO <| zea (x' := ⟨⟨some ⟨b1,0,none⟩,1,1⟩,true,v⟩) rfl rfl rfl (by first | omega | (simp only [List.length_set]; omega)) foc4 rfl rfl (by rw [show List.getD _ _ tySec.dflt=_ from zo0 (by simpa using hil)]; rfl) Tryz.sizeOf29 <| nT <| sR <| oM rfl rfl <| oA rfl rfl <| nT <| zah <| zcp (res1 Tryz.results91 rfl) ?_
       rw [rdTS,if_pos hR,if_neg hkf,if_pos ‹q=true›]
       refine CSpec.close () ?_ ?_ (Ent.trans (Ent.trans (t0_ (t1_ eR)) (zou ownS ((⟨⟨some ⟨b1,0,none⟩,1,1⟩,true,v⟩:SecH),(⟨[v],true,v⟩:Sec)) hll)) (Ent.trans (Ent.trans (t2_ (Ent.takeC del2 (congrArg (sl tySec _) (by rw [set3]; simp only [SL.hs,List.map_set])) (t0_ eR))) (zec (hl.set i ((⟨⟨some ⟨b1,0,none⟩,1,1⟩,true,v⟩:SecH),(⟨[v],true,v⟩:Sec)) ⟨rfl,rfl⟩))) (t0_ (eD eR))))
       · exact bv (show _=rdTR t i v by rw [rdTR,if_pos hR,if_neg hkf,hk2,List.take_length]; rfl)
       · trivial
      ·
       refine kT <| sR <| oM rfl rfl <| oA rfl rfl <| nT <| zah <| zcp (res1 Tryz.results91 rfl) ?_
       rw [rdTS,if_pos hR,if_neg hkf,if_neg (by rw [‹q=false›]; decide)]
       refine CSpec.close () ?_ ?_ (Ent.trans (Ent.trans (t0_ (t0_ eR)) (zou ownS ((⟨((SL.hs l).getD i sH0).some,true,v⟩:SecH),(⟨(t.getD i s0).some,true,v⟩:Sec)) hll)) (Ent.trans (Ent.trans (t1_ (Ent.takeC del1 (congrArg (sl tySec _) (by rw [List.set_set]; simp only [SL.hs,List.map_set])) (t0_ eR))) (zec (hl.set i ((⟨((SL.hs l).getD i sH0).some,true,v⟩:SecH),(⟨(t.getD i s0).some,true,v⟩:Sec)) ⟨rfl,rfl⟩))) (t0_ eR)))
       · exact bv (show _=rdTR t i v by rw [rdTR,if_pos hR,if_neg hkf,hk2,List.take_length]; rfl)
       · trivial
theorem z0m {W:World} {A:HP} {v:Value} {xs:List UInt64} (hA:Reads A tyU v xs) (hl:xs.length≤65536) :
    CSpec Tryz.prog W 47 [v] [A] (fun b:Nat=>ptr b 0) (fun _=>True) (fun b F=>Trk b (trkT xs)::A::F) := by
 refine CSpec.of_body Tryz.func47 rfl Tryz.ntmps47 rfl fun F => ?_
 show CJ _ _ _ _ _ _ (_::F)
 refine sR <| oA rfl rfl <| nT <| sR <| oP (zfn rfl (zt8)) rfl <| oO <| O_box rfl rfl rfl fun b1=>oA rfl rfl <| nT <| zac <| sR <| oA rfl rfl <| nT <| zaw <| zde (fun h hh=>zdj (t:=tySec) h hh) <| zde (z25 ownS) <| zbd (X:=Nat × Sl3 × SL) [4,7,8,9,10,11,12,13,14,15,16,17,18,19,20,21,22,23,24,25,26,27,28,29,30,31] (fun ⟨k,sv,l⟩  => ([(4,.int .i64 (k:Nat))]:Slots)) (fun ⟨k,sv,l⟩ R=>blk b1 54 [sv.v]::sl tySec sv.v (SL.hs l)::VG.Own ownS l::R) (fun ⟨k,sv,l⟩  => k≤xs.length∧SOk l (trkT (xs.take k))) (fun ⟨k,sv,l⟩  => xs.length - k) ⟨0,⟨none,0,0⟩,[]⟩ ?_ ?_ (t2_ (t1_ (t0_ (t0_ eR)))) ?_
 · exact ⟨Nat.zero_le _,rfl,(fun p hp=>by cases hp),Nat.zero_le _⟩
 · exact ⟨rfl,True.intro⟩
 ·
  rintro ⟨k,sv,l⟩ ⟨hk,hs⟩
  show CJ _ _ _ _ _ (([(4,.int .i64 (k:Nat))]:Slots) ++ forget _ _) (blk b1 54 [sv.v]::sl tySec sv.v (SL.hs l)::VG.Own ownS l::_)
  have hlen:(SL.hs l).length=k := by rw [hs.len]; simp [trkT]; omega
  refine zac <| sR <| oM rfl rfl <| oM rfl rfl <| oV (V_len rfl foc3 hA Tryz.runUnderlying29) rfl <| oP (P_lss rfl rfl) rfl <| nT ?_
  first | (refine zcu rfl (fun hg1 => ?_) (fun hg1 => ?_)) | (refine zcv rfl (fun hg1 => ?_) (fun hg1 => ?_)) | (refine zct rfl (fun hg1 => ?_) (fun hg1 => ?_))
  ·
   refine kT <| zac <| zaw <| zbc 589824 (by kernel_rfl) rfl <| aN 0 1 rfl rfl (zaj rfl) rfl <| aN 1 3 rfl rfl (zaj rfl) rfl <| aN 2 7 rfl rfl (zae rfl) rfl <| aN 3 15 rfl rfl (zaa rfl ⟨_,_,_,Tryz.runUnderlying54,rfl,rfl,Tryz.sizeOf52,rfl⟩) rfl <| aV 4 31 rfl rfl (zak rfl) (t0_ (t0_ (t0_ (t0_ eR)))) (zag rfl foc0 rfl Tryz.isAgg52) rfl <| aN 5 63 rfl rfl (zaj rfl) rfl <| aN 6 127 rfl rfl (zaj rfl) rfl ?_
   first | (refine zij 7 255 rfl (by kernel_rfl) rfl (by kernel_rfl) (by kernel_rfl) (zak rfl) (t0_ (t0_ (t0_ (t0_ eR)))) (zay rfl rfl rfl (by omega) foc3 hA Tryz.runUnderlying29 Tryz.sizeOf23) rfl (fun _ _ _ _ h=>h) ?_) | (refine zij 7 255 rfl (by kernel_rfl) rfl (by kernel_rfl) (by kernel_rfl) (zak rfl) (t0_ (t0_ (t0_ (t0_ eR)))) (zay rfl rfl (Int.toNat_of_nonneg (by omega)).symm (by omega) foc3 hA Tryz.runUnderlying29 Tryz.sizeOf23) rfl (fun _ _ _ _ h=>h) ?_)
   refine aV 8 511 rfl rfl (zak rfl) (t0_ (t0_ (t0_ (t0_ eR)))) (za6 rfl rfl (by omega) foc3 hA rfl rfl Tryz.isAgg23) rfl <| aN 10 1535 rfl rfl (zaj rfl) rfl <| aN 11 3583 rfl rfl (zaj rfl) rfl ?_
   first | (refine zij 12 7679 rfl (by kernel_rfl) rfl (by kernel_rfl) (by kernel_rfl) (zak rfl) (t0_ (t0_ (t0_ (t0_ eR)))) (zay rfl rfl rfl (by omega) foc3 hA Tryz.runUnderlying29 Tryz.sizeOf23) rfl (fun _ _ _ _ h=>h) ?_) | (refine zij 12 7679 rfl (by kernel_rfl) rfl (by kernel_rfl) (by kernel_rfl) (zak rfl) (t0_ (t0_ (t0_ (t0_ eR)))) (zay rfl rfl (Int.toNat_of_nonneg (by omega)).symm (by omega) foc3 hA Tryz.runUnderlying29 Tryz.sizeOf23) rfl (fun _ _ _ _ h=>h) ?_)
   refine aV 13 15871 rfl rfl (zak rfl) (t0_ (t0_ (t0_ (t0_ eR)))) (za6 rfl rfl (by omega) foc3 hA rfl rfl Tryz.isAgg23) rfl <| AJ_op 9 16383 rfl (by kernel_rfl) rfl (zak rfl) <| zbf rfl (zkk _) rfl fun b2=>⟨fun _=>(t1_ (t1_ (t1_ (t1_ (eD eR))))),?_⟩
   refine aN 14 32767 rfl rfl (zfn rfl (zqa _ _ _ _ _)) rfl <| AJ_op 15 65535 rfl (by kernel_rfl) rfl (zak rfl) <| zbf rfl (zsa _ _ _ _ _) rfl fun b3=>⟨fun _=>(t2_ (t2_ (t2_ (t2_ (eD (eD eR)))))),?_⟩
   refine AJ_op 16 131071 rfl (by kernel_rfl) rfl (zak rfl) <| zc9 (t:=tySec) (bytes:=40) rfl rfl del3 foc0 (Reads.lit (t:=tySec) (ys:=[⟨⟨some ⟨b2,0,none⟩,1,1⟩,true,xs.getD k 0⟩]) rfl rfl (by decide) (by decide) rfl) Tryz.underlying52 z16 (by simp only [List.length_append,List.length_cons,List.length_nil,maxLen] at *; omega) (by simp only [List.length_append,List.length_cons,List.length_nil,maxLen] at *; omega) rfl fun p4 c5=>⟨fun h=>absurd h (by decide),?_⟩
   refine aN 17 262143 rfl rfl (zae rfl) rfl <| aN 18 524287 rfl rfl (zaa rfl ⟨_,_,_,Tryz.runUnderlying54,rfl,rfl,Tryz.sizeOf52,rfl⟩) rfl <| AJ_op 19 1048575 rfl (by kernel_rfl) rfl (zak rfl) <| zbu rfl rfl foc3 rfl rfl Tryz.sizeOf52 <| ⟨fun h=>absurd h (by decide),?_⟩
   refine zcd (by kernel_rfl) <| zao <| zam <| zaf <| oM rfl rfl <| oP (P_add rfl rfl (by omega)) rfl <| oA rfl rfl <| zap <| zf2 ⟨k + 1,⟨p4,_,c5⟩,l ++ [((⟨⟨some ⟨b2,0,none⟩,1,1⟩,true,xs.getD k 0⟩:SecH),mkSec (xs.getD k 0))]⟩ (by first | omega | (simp only []; omega)) ?_ (by repeat (first | exact Kp.base | exact Kp.self | refine Kp.cons rfl ?_ | refine Kp.forget rfl ?_)) ?_ (Ent.trans (Ent.trans (t2_ eR) (zjl (t:=tyU) (m:=1) [xs.getD k 0] rfl rfl rfl (by decide))) (Ent.trans (Ent.trans (t0_ (t3_ eR)) (z1r ownS ((⟨⟨some ⟨b2,0,none⟩,1,1⟩,true,xs.getD k 0⟩:SecH),mkSec (xs.getD k 0)))) (t3_ (Ent.takeC del1 (congrArg (sl tySec _) (SL.snoc l ((⟨⟨some ⟨b2,0,none⟩,1,1⟩,true,xs.getD k 0⟩:SecH),mkSec (xs.getD k 0))).symm) (t0_ (t1_ (eD eR)))))))
   ·
    refine ⟨by omega,?_⟩
    rw [takeU xs k (by omega)]
    exact hs.push ((⟨⟨some ⟨b2,0,none⟩,1,1⟩,true,xs.getD k 0⟩:SecH),mkSec (xs.getD k 0)) ⟨rfl,rfl⟩ (by simp [trkT]; omega)
   · exact ⟨rfl,True.intro⟩
  ·
   refine zbj <| za3 <| za2 <| za0 <| zam <| sR <| oM rfl rfl <| oA rfl rfl <| nT <| zah <| zcp (res1 Tryz.results47 rfl) ?_
   obtain rfl:k=xs.length := by omega
   rw [List.take_length] at hs
   refine CSpec.close b1 ?_ ?_ (Ent.trans (Ent.trans (t0_ (t0_ (t0_ eR))) (zec hs)) (t0_ (t0_ eR)))
   · rfl
   · trivial
end Go.Proofs
set_option linter.unusedSimpArgs false
set_option linter.unusedVariables false
set_option maxRecDepth 20000
set_option maxHeartbeats 4000000
namespace Go.Proofs
open Go.VG
theorem CSpec.exq2 {α:Type} {P:Program} {W:World} {f:FuncId} {args:List Value} {X:Type} {A:α→HP} {A0:HP} {B0:X→HP} {B:α→X→HP} {R:List HP} {R':X→List HP} {res:X→Value} {pf:X→Prop} (hA:∀ F,EntX (A0::F) (fun v=>A v::F)) (hB:∀ v x F,Ent (B v x::F) (B0 x::F)) (h:∀ v,CSpec P W f args (A v::R) res pf (fun x F=>B v x::(R' x ++ F))):CSpec P W f args (A0::R) res pf (fun x F=>B0 x::(R' x ++ F)) := by
  intro F w hs
  obtain ⟨gg,hgg⟩ := hs.heap
  obtain ⟨v,hv⟩ := hA (R ++ F) _ hgg
  refine (h v F w ⟨hs.os,hs.tape,hs.output,gg,hv⟩).mono ?_
  rintro e w' ⟨x,h1,h2,h3⟩
  exact ⟨x,h1,h2,h3.imp (hB v x _)⟩
abbrev tyDev:Ty IfH := { T := 96,sz := 1,enc := fun x=>[.iface x.t x.u],dflt := ⟨0,.bool false⟩,len := fun _=>rfl,one := fun _=>rfl,pos := by decide }
theorem z2a:ElemOk Tryz.prog tyDev 16 := ⟨Tryz.t96,.nilIface,by kernel_rfl,rfl,rfl,rfl,rfl⟩
structure Dvc where
  dep:Nat
  size:ArrS→Option Int
  rd:ArrS→Int→Option (UInt64 × Int)
  wr:ArrS→Int→UInt64→Option (Int × ArrS)
  fl:ArrS→Option (Int × ArrS)
abbrev dv0:Dvc := ⟨0,fun _=>none,fun _ _=>none,fun _ _ _=>none,fun _=>none⟩
structure DevOk (a:Nat) (x:Dvc) (h:IfH) (R:HP):Prop where
  dup:Dup R
  dep:x.dep≤60
  nil : ∀ n, 1 ≤ n → ∀ w, (nilAhead n h.t h.u "Write").run Tryz.prog w = .ok (some false) w
  size : ∀ {W s r}, x.size s = some r → IOk Tryz.prog W x.dep h "Size" [] [R, Arr a s] (fun _ : Unit => .int .i64 r) (fun _ => True) (fun _ F => R :: Arr a s :: F)
  rd : ∀ {W s k r}, x.rd s k = some r → IOk Tryz.prog W x.dep h "Read" [.int .i64 k] [R, Arr a s] (fun _ : Unit => .tuple #[.int .u64 (r.1.toNat : Int), .int .i64 r.2]) (fun _ => True) (fun _ F => R :: Arr a s :: F)
  wr : ∀ {W s k v r}, x.wr s k v = some r → IOk Tryz.prog W x.dep h "Write" [.int .i64 k, .int .u64 (v.toNat : Int)] [R, Arr a s] (fun _ : Unit => .int .i64 r.1) (fun _ => True) (fun _ F => R :: Arr a r.2 :: F)
  fl : ∀ {W s r}, x.fl s = some r → IOk Tryz.prog W x.dep h "Flush" [] [R, Arr a s] (fun _ : Unit => .int .i64 r.1) (fun _ => True) (fun _ F => R :: Arr a r.2 :: F)
def DevP (a:Nat) (x:Dvc) (h:IfH):HP := ex fun R:HP=>starX [emp (DevOk a x h R),R]
theorem z3j {a:Nat} {x:Dvc} {h:IfH} {l:List HP} {R:List HP} (hk:DevOk a x h (starX l)):Ent (l ++ R) (DevP a x h::R) :=
  fun g hg=>stars_ex.2 ⟨starX l,stars_starX.2 (stars_emp.2 ⟨hk,stars_starX.2 hg⟩)⟩
theorem zhl {a:Nat} {x:Dvc} {h:IfH} : Dup (DevP a x h) := by
  intro g ⟨R,h1,h2,hd,he,⟨hk,hn⟩,h3,h4,hd2,he2,hR,h5⟩ k
  exact (Dup.starX (Hs:=[emp (DevOk a x h R),R]) (by intro A hA; simp only [List.mem_cons,List.not_mem_nil,or_false] at hA; rcases hA with rfl | rfl; exact Dup.emp; exact hk.dup)) g ⟨h1,h2,hd,he,⟨hk,hn⟩,h3,h4,hd2,he2,hR,h5⟩ k
theorem zd3 {a:Nat} {x:Dvc} {h:IfH} {R:List HP} (g:PH) (hg:stars (DevP a x h::R) g):x.dep≤60 := by
  obtain ⟨R',hg⟩ := stars_ex.1 hg
  exact (stars_emp.1 (stars_starX.1 hg)).1.dep
theorem zs9 {P:Program} {a:Nat} {x:Dvc} {h:IfH} {W:World} {k:Nat} {g:IfH} {name:String} {args:List Value} {pre:List HP} {X:Type} {res:X→Value} {pf:X→Prop} {post:X→List HP→List HP}
    (hm:∀ R,DevOk a x h R→IOk P W k g name args (R::pre) res pf (fun y F=>R::post y F)):IOk P W k g name args (DevP a x h::pre) res pf (fun y F=>DevP a x h::post y F) := by
  refine IOk.exI fun R=>IOk.starI (IOk.empI fun hk => ?_)
  refine (hm R hk).post0 fun y F => ?_
  exact fun g hg=>stars_ex.2 ⟨R,stars_starX.2 (stars_emp.2 ⟨hk,hg⟩)⟩
theorem zlx {W : World} {a : Nat} {x : Dvc} {h : IfH} {s : ArrS} {r : Int} (e : x.size s = some r) (hd : x.dep ≤ 60) : ICall Tryz.prog W h.v "Size" [] [DevP a x h, Arr a s] (fun _ : Unit => .int .i64 r) (fun _ => True) (fun _ F => DevP a x h :: Arr a s :: F) := (zs9 fun _ hk => hk.size e).call (by omega)
theorem zsc {W : World} {a : Nat} {x : Dvc} {h : IfH} {s : ArrS} {k : Int} {r : UInt64 × Int} (e : x.rd s k = some r) (hd : x.dep ≤ 60) : ICall Tryz.prog W h.v "Read" [.int .i64 k] [DevP a x h, Arr a s] (fun _ : Unit => .tuple #[.int .u64 (r.1.toNat : Int), .int .i64 r.2]) (fun _ => True) (fun _ F => DevP a x h :: Arr a s :: F) := (zs9 fun _ hk => hk.rd e).call (by omega)
theorem zjn {W : World} {a : Nat} {x : Dvc} {h : IfH} {s : ArrS} {k : Int} {v : UInt64} {r : Int × ArrS} (e : x.wr s k v = some r) (hd : x.dep ≤ 60) : ICall Tryz.prog W h.v "Write" [.int .i64 k, .int .u64 (v.toNat : Int)] [DevP a x h, Arr a s] (fun _ : Unit => .int .i64 r.1) (fun _ => True) (fun _ F => DevP a x h :: Arr a r.2 :: F) := (zs9 fun _ hk => hk.wr e).call (by omega)
theorem zk1 {W : World} {a : Nat} {x : Dvc} {h : IfH} {s : ArrS} {r : Int × ArrS} (e : x.fl s = some r) (hd : x.dep ≤ 60) : ICall Tryz.prog W h.v "Flush" [] [DevP a x h, Arr a s] (fun _ : Unit => .int .i64 r.1) (fun _ => True) (fun _ F => DevP a x h :: Arr a r.2 :: F) := (zs9 fun _ hk => hk.fl e).call (by omega)
abbrev tyRow:Ty Sl3 := { T := 29,sz := 1,enc := fun x=>[x.v],dflt := ⟨none,0,0⟩,len := fun _=>rfl,one := fun _=>rfl,pos := by decide }
theorem zwh:ElemOk Tryz.prog tyRow 24 := ⟨Tryz.t29,.slice none 0 0,by kernel_rfl,rfl,rfl,rfl,rfl⟩
def Sl3.sub (sz:Nat) (x:Sl3) (l h:Nat):Sl3 := ⟨if x.c=l then x.p else x.p.map (·.add (l * sz)),h - l,x.c - l⟩
def RowP (x:List UInt64) (h:Sl3):HP := fun g => ∃ A:HP,Dup A∧Reads A tyU h.v x∧A g
theorem zwi (x:List UInt64) (h:Sl3):Dup (RowP x h) := fun g ⟨_,hd,_,hA⟩=>hd g hA
theorem zyj {A:HP} {x:List UInt64} {h:Sl3} (hd:Dup A) (hr:Reads A tyU h.v x):∀ g,A g→RowP x h g := fun _ hA=>⟨A,hd,hr,hA⟩
theorem Reads.rowP {x:List UInt64} {h:Sl3} : Reads (RowP x h) tyU h.v x := fun g ⟨_,_,hr,hA⟩=>hr g hA
def RowsR (B:HP) (l:List (List UInt64)) (hs:List Sl3):Prop := hs.length=l.length ∧ ∀ i,i < l.length→Reads B tyU (Sl3.v (hs.getD i tyRow.dflt)) (l.getD i [])
theorem RowsR.nil {B:HP} : RowsR B [] [] := ⟨rfl,fun i h=>absurd h (by simp)⟩
theorem RowsR.cons {A:HP} {As:List HP} {x:List UInt64} {g:Sl3} {l:List (List UInt64)} {hs:List Sl3} (h:Reads A tyU (Sl3.v g) x) (hr:RowsR (starX As) l hs):RowsR (starX (A::As)) (x::l) (g::hs) :=
  ⟨by simp [hr.1],fun i hi=>by
    cases i with
    | zero=>exact Reads.hd h
    | succ i=>exact Reads.tl (hr.2 i (by simpa using hi))⟩
theorem RowsR.rs {l:List (List UInt64)} {hs:List Sl3} (hl:hs.length=l.length):RowsR (Rs RowP l hs) l hs :=
  ⟨hl,fun _ hi=>Reads.of_ent (zv9 hi) Reads.rowP⟩
theorem zqw {α:Type} {t:Ty α} {A:HP} {v:Value} {xs:List α} {H R:List HP} (hr:Reads A t v xs) (hd:Del H A R):∀ h,stars H h → ∃ x:Sl3,v=Sl3.v x := by
  intro h hh
  obtain ⟨h1,h2,_,_,hA,_⟩ := zaq hd.out h hh
  rcases hr h1 hA with ⟨e,_⟩ | ⟨a,c,e,_⟩
  · exact ⟨⟨none,0,0⟩,e⟩
  · exact ⟨⟨some a,_,c⟩,e⟩
def newB (zs:List Int):Bool := Nat.ble zs.length 8 && zs.all (fun z=>decide (1≤z) && decide (z≤65536))
theorem newB_iff {zs:List Int} : newB zs=true↔NewOk zs := by
  unfold newB NewOk
  rw [Bool.and_eq_true,Nat.ble_eq,List.all_eq_true]
  refine and_congr Iff.rfl ⟨fun h k hk => ?_,fun h z hz => ?_⟩
  · have h1 := h zs[k] (List.getElem_mem hk)
    have:zs.getD k 0=zs[k] := by simp [List.getD,hk]
    rw [this]; simpa using h1
  · obtain ⟨k,hk,rfl⟩ := List.getElem_of_mem hz
    have h1 := h k hk
    have:zs.getD k 0=zs[k] := by simp [List.getD,hk]
    rw [this] at h1; simpa using h1
def newO (zs:List Int):Option ArrS := if newB zs then some (newS zs) else none
def newC (zs:List Int):Int := if newB zs then 0 else if Nat.blt 8 zs.length then 4 else 1
theorem c_NewO {W:World} {A:HP} {v:Value} {zs:List Int} (hA:Reads A tyI v zs) (hl:zs.length≤1000000000) :
    CSpec Tryz.prog W 83 [v] [A] (fun b:Nat => .tuple #[oval (newO zs) b,.int .i64 (newC zs)]) (fun _=>True) (fun b F=>optP (Arr b) (newO zs)::A::F) := by
  intro F w hs
  by_cases h:newB zs=true
  · have h2 := newB_iff.1 h
    unfold newO newC; rw [if_pos h,if_pos h]
    exact c_New hA h2 F w hs
  · have h2:¬ NewOk zs := fun e=>h (newB_iff.2 e)
    unfold newO newC; rw [if_neg h,if_neg h]
    refine (z14 hA h2 (by omega) F w hs).mono fun e w' ⟨x,hx,hp,hs'⟩=>⟨0,?_,trivial,hs'.imp (fun g hg=>zb8 g hg)⟩
    rw [hx]
    by_cases h3:8 < zs.length
    · rw [if_pos h3,if_pos (by simpa [Nat.blt_eq] using h3)]; rfl
    · rw [if_neg h3,if_neg (by simpa [Nat.blt_eq] using h3)]; rfl
theorem zx3 {α:Type} {t:Ty α} {A:HP} {v:Value} {xs:List α} (hA:Reads A t v xs) {h:PH} (hh:A h):∃ x:Sl3,v=x.v := by
  rcases hA h hh with ⟨e,_⟩ | ⟨a,c,e,_⟩
  · exact ⟨⟨none,0,0⟩,e⟩
  · exact ⟨⟨some a,_,c⟩,e⟩
def znj (x_0_a:ArrS) (x_0_d:Int) (x_0_start:Int) (x_0_length:Int):Option (Int) :=
  some x_0_length
theorem zta {W:World} {bx_0:Nat} {bx_0_a:Nat} {x_0_a:ArrS} {x_0_d:Int} {x_0_start:Int} {x_0_length:Int} {r:Int} (h:znj x_0_a x_0_d x_0_start x_0_length=some r) :
    CSpec Tryz.prog W 141 [ptr bx_0 0] [blkR bx_0 162 [ptr bx_0_a 0,.int .i64 x_0_d,.int .i64 x_0_start,.int .i64 x_0_length],Arr bx_0_a x_0_a] (fun x:Unit => .int .i64 r) (fun _=>True) (fun x F=>blkR bx_0 162 [ptr bx_0_a 0,.int .i64 x_0_d,.int .i64 x_0_start,.int .i64 x_0_length]::Arr bx_0_a x_0_a::F) := by
 refine CSpec.of_body Tryz.func141 rfl Tryz.ntmps141 rfl fun F => ?_
 show CJ _ _ _ _ _ _ (_::_::F)
 unfold znj at h
 refine sR <| oA rfl rfl <| nT <| sR <| oM rfl rfl <| oP (zae rfl) rfl <| oP (zaa rfl ⟨_,_,_,Tryz.runUnderlying162,rfl,rfl,Tryz.sizeOf3,rfl⟩) rfl <| oV (zj1 rfl foc0 rfl Tryz.isAgg3) rfl <| oA rfl rfl <| nT <| zah ?_
 cases h
 exact fE (res1 Tryz.results141 rfl) () eR
def zgw (size:Int) (at_1:Int) (n_2:Int):Option (Bool) :=
  some (((((decide ((0:Int)≤at_1)) && (decide (at_1≤size))) && (decide ((0:Int)≤n_2))) && (decide (n_2≤(IntKind.i64.wrap (size - at_1))))))
theorem zj2 {W:World} {size:Int} {at_1:Int} {n_2:Int} {r:Bool} (h:zgw size at_1 n_2=some r) :
    CSpec Tryz.prog W 111 [.int .i64 size,.int .i64 at_1,.int .i64 n_2] [] (fun x:Unit => .bool r) (fun _=>True) (fun x F=>F) := by
 refine CSpec.of_body Tryz.func111 rfl Tryz.ntmps111 rfl fun F => ?_
 show CJ _ _ _ _ _ _ (F)
 unfold zgw at h
 refine sR <| oA rfl rfl <| nT <| sR <| oM rfl rfl <| oP (P_geq (a:=at_1) (b:=(0:Int)) rfl rfl) rfl <| oM rfl rfl <| zbk rfl rfl rfl (fun hG1=>have hP2:((0:Int)≤at_1) := (zab).1 hG1; VJ_P (zaj rfl)) <| zbk rfl rfl rfl (fun hG3=>have hP4:((0:Int)≤at_1) := (zab).1 hG3; VJ_P (zaj rfl)) <| zbk rfl rfl rfl (fun hG5=>have hP6:((0:Int)≤at_1) := (zab).1 hG5; VJ_P (P_leq (a:=at_1) (b:=size) (mbx hG5 rfl) (mbx hG5 rfl))) <| oP (zd1 rfl (fun hh=>mbx hh rfl) rfl) rfl <| oM rfl rfl <| zbk rfl rfl rfl (fun hG7=>have hP8:(((0:Int)≤at_1)∧(at_1≤size)) := ((zc3 zab zab)).1 hG7; VJ_P (zaj rfl)) <| zbk rfl rfl rfl (fun hG9=>have hP10:(((0:Int)≤at_1)∧(at_1≤size)) := ((zc3 zab zab)).1 hG9; VJ_P (P_geq (a:=n_2) (b:=(0:Int)) (mbx hG9 rfl) rfl)) <| oP (zd1 rfl (fun hh=>mbx hh rfl) rfl) rfl <| oM rfl rfl <| zbk rfl rfl rfl (fun hG11=>have hP12:((((0:Int)≤at_1)∧(at_1≤size))∧((0:Int)≤n_2)) := ((zc3 (zc3 zab zab) zab)).1 hG11; VJ_P (zaj rfl)) <| zbk rfl rfl rfl (fun hG13=>have hP14:((((0:Int)≤at_1)∧(at_1≤size))∧((0:Int)≤n_2)) := ((zc3 (zc3 zab zab) zab)).1 hG13; VJ_P (zaj rfl)) <| zbk rfl rfl rfl (fun hG15=>have hP16:((((0:Int)≤at_1)∧(at_1≤size))∧((0:Int)≤n_2)) := ((zc3 (zc3 zab zab) zab)).1 hG15; VJ_P (zaj rfl)) ?_
 refine zbk rfl rfl rfl (fun hG17=>have hP18:((((0:Int)≤at_1)∧(at_1≤size))∧((0:Int)≤n_2)) := ((zc3 (zc3 zab zab) zab)).1 hG17; VJ_P (P_subW (a:=size) (b:=at_1) (mbx hG17 rfl) (mbx hG17 rfl))) <| zbk rfl rfl rfl (fun hG19=>have hP20:((((0:Int)≤at_1)∧(at_1≤size))∧((0:Int)≤n_2)) := ((zc3 (zc3 zab zab) zab)).1 hG19; VJ_P (P_leq (a:=n_2) (b:=(IntKind.i64.wrap (size - at_1))) (mbx hG19 rfl) (mbx hG19 rfl))) <| oP (zd1 rfl (fun hh=>mbx hh rfl) rfl) rfl <| oA rfl rfl <| nT <| zah ?_
 cases h
 exact fE (res1 Tryz.results111 rfl) () eR
def zkr (x_0_a:ArrS) (x_0_d:Int) (x_0_start:Int) (x_0_length:Int) (at_1:Int):Option (UInt64 × Int) :=
  Option.bind (zgw x_0_length at_1 (1:Int)) fun r1 =>
  if (¬ r1=true) then
    some (((0:UInt64),(1:Int)))
  else
    grd (inI64 (x_0_start + at_1)) <|
    some (((rdV x_0_a x_0_d (x_0_start + at_1)),(rdC x_0_a x_0_d (x_0_start + at_1))))
theorem ztb {W:World} {bx_0:Nat} {bx_0_a:Nat} {x_0_a:ArrS} {x_0_d:Int} {x_0_start:Int} {x_0_length:Int} {at_1:Int} {r:UInt64 × Int} (h:zkr x_0_a x_0_d x_0_start x_0_length at_1=some r) :
    CSpec Tryz.prog W 140 [ptr bx_0 0,.int .i64 at_1] [blkR bx_0 162 [ptr bx_0_a 0,.int .i64 x_0_d,.int .i64 x_0_start,.int .i64 x_0_length],Arr bx_0_a x_0_a] (fun x:Unit => .tuple #[.int .u64 (r.1.toNat:Int),.int .i64 r.2]) (fun _=>True) (fun x F=>blkR bx_0 162 [ptr bx_0_a 0,.int .i64 x_0_d,.int .i64 x_0_start,.int .i64 x_0_length]::Arr bx_0_a x_0_a::F) := by
 refine CSpec.of_body Tryz.func140 rfl Tryz.ntmps140 rfl fun F => ?_
 show CJ _ _ _ _ _ _ (_::_::F)
 unfold zkr at h
 refine sR <| oA rfl rfl <| oA rfl rfl <| nT <| zac <| sR <| oM rfl rfl <| oP (zae rfl) rfl <| oP (zaa rfl ⟨_,_,_,Tryz.runUnderlying162,rfl,rfl,Tryz.sizeOf3,rfl⟩) rfl <| oV (zj1 rfl foc0 rfl Tryz.isAgg3) rfl <| oM rfl rfl ?_
 obtain ⟨r1,hr2,h⟩ := zar h
 refine oO <| zat (zj2 hr2) rfl Tryz.call111 Dels.nil rfl fun _ _=>oP (P_not rfl) rfl <| nT <| zan rfl (zdk Iff.rfl) (fun hg1 => ?_) (fun hg1 => ?_)
 ·
  replace h := ite_t hg1 h
  refine sR <| oA rfl rfl <| oA rfl rfl <| nT <| zah <| zad ?_
  cases h
  exact fE (res2 Tryz.results140 rfl rfl) () eR
 ·
  replace h := ite_f hg1 h
  refine kT <| zac <| zbc 16384 (by kernel_rfl) rfl <| aN 0 1 rfl rfl (zaj rfl) rfl <| aN 1 3 rfl rfl (zae rfl) rfl <| aN 2 7 rfl rfl (zaa rfl ⟨_,_,_,Tryz.runUnderlying162,rfl,rfl,Tryz.sizeOf26,rfl⟩) rfl <| aV 3 15 rfl rfl (zak rfl) eR (zj1 rfl foc0 rfl Tryz.isAgg26) rfl <| aN 4 31 rfl rfl (zaj rfl) rfl <| aN 5 63 rfl rfl (zae rfl) rfl <| aN 6 127 rfl rfl (zaa rfl ⟨_,_,_,Tryz.runUnderlying162,rfl,rfl,Tryz.sizeOf3,rfl⟩) rfl <| aV 7 255 rfl rfl (zak rfl) eR (zj1 rfl foc0 rfl Tryz.isAgg3) rfl <| aN 8 511 rfl rfl (zaj rfl) rfl <| aN 9 1023 rfl rfl (zae rfl) rfl <| aN 10 2047 rfl rfl (zaa rfl ⟨_,_,_,Tryz.runUnderlying162,rfl,rfl,Tryz.sizeOf3,rfl⟩) rfl <| aV 11 4095 rfl rfl (zak rfl) eR (zj1 rfl foc0 rfl Tryz.isAgg3) rfl <| aN 12 8191 rfl rfl (zaj rfl) rfl ?_
  obtain ⟨hg2,h⟩ := zd7 h
  refine aN 13 16383 rfl rfl (P_add (a:=x_0_start) (b:=at_1) rfl rfl hg2) rfl <| AJ_op 14 32767 rfl (by kernel_rfl) rfl (zak rfl) <| zat (c_Read) rfl Tryz.call36 (Dels.cons del1 Dels.nil) rfl fun _ _=>⟨fun h=>absurd h (by decide),?_⟩
  refine aN 15 65535 rfl rfl (za4 rfl rfl) rfl <| aN 16 131071 rfl rfl (za4 rfl rfl) rfl <| aN 17 262143 rfl rfl (zb0 rfl) rfl <| aN 18 524287 rfl rfl (zb0 rfl) rfl <| aD <| zah ?_
  cases h
  exact fE (res2 Tryz.results140 rfl rfl) () (t1_ eR)
def zj3 (x_0_a:ArrS) (x_0_d:Int) (x_0_start:Int) (x_0_length:Int) (at_1:Int) (v:UInt64):Option (Int × ArrS) :=
  Option.bind (zgw x_0_length at_1 (1:Int)) fun r1 =>
  if (¬ r1=true) then
    some (((1:Int),x_0_a))
  else
    grd (inI64 (x_0_start + at_1)) <|
    grd (inLen x_0_a.writes) <|
    some (((wrR x_0_a x_0_d (x_0_start + at_1)),(wrS x_0_a x_0_d (x_0_start + at_1) v)))
theorem zsd {W:World} {bx_0:Nat} {bx_0_a:Nat} {x_0_a:ArrS} {x_0_d:Int} {x_0_start:Int} {x_0_length:Int} {at_1:Int} {v:UInt64} {r:Int × ArrS} (h:zj3 x_0_a x_0_d x_0_start x_0_length at_1 v=some r) :
    CSpec Tryz.prog W 142 [ptr bx_0 0,.int .i64 at_1,.int .u64 (v.toNat:Int)] [blkR bx_0 162 [ptr bx_0_a 0,.int .i64 x_0_d,.int .i64 x_0_start,.int .i64 x_0_length],Arr bx_0_a x_0_a] (fun x:Unit => .int .i64 r.1) (fun _=>True) (fun x F=>blkR bx_0 162 [ptr bx_0_a 0,.int .i64 x_0_d,.int .i64 x_0_start,.int .i64 x_0_length]::Arr bx_0_a r.2::F) := by
 refine CSpec.of_body Tryz.func142 rfl Tryz.ntmps142 rfl fun F => ?_
 show CJ _ _ _ _ _ _ (_::_::F)
 unfold zj3 at h
 refine sR <| oA rfl rfl <| nT <| zac <| sR <| oM rfl rfl <| oP (zae rfl) rfl <| oP (zaa rfl ⟨_,_,_,Tryz.runUnderlying162,rfl,rfl,Tryz.sizeOf3,rfl⟩) rfl <| oV (zj1 rfl foc0 rfl Tryz.isAgg3) rfl <| oM rfl rfl ?_
 obtain ⟨r1,hr2,h⟩ := zar h
 refine oO <| zat (zj2 hr2) rfl Tryz.call111 Dels.nil rfl fun _ _=>oP (P_not rfl) rfl <| nT <| zan rfl (zdk Iff.rfl) (fun hg1 => ?_) (fun hg1 => ?_)
 ·
  replace h := ite_t hg1 h
  refine sR <| oA rfl rfl <| nT <| zah <| zad ?_
  cases h
  exact fE (res1 Tryz.results142 rfl) () eR
 ·
  replace h := ite_f hg1 h
  refine kT <| zac <| zbc 32768 (by kernel_rfl) rfl <| aN 0 1 rfl rfl (zaj rfl) rfl <| aN 1 3 rfl rfl (zae rfl) rfl <| aN 2 7 rfl rfl (zaa rfl ⟨_,_,_,Tryz.runUnderlying162,rfl,rfl,Tryz.sizeOf26,rfl⟩) rfl <| aV 3 15 rfl rfl (zak rfl) eR (zj1 rfl foc0 rfl Tryz.isAgg26) rfl <| aN 4 31 rfl rfl (zaj rfl) rfl <| aN 5 63 rfl rfl (zae rfl) rfl <| aN 6 127 rfl rfl (zaa rfl ⟨_,_,_,Tryz.runUnderlying162,rfl,rfl,Tryz.sizeOf3,rfl⟩) rfl <| aV 7 255 rfl rfl (zak rfl) eR (zj1 rfl foc0 rfl Tryz.isAgg3) rfl <| aN 8 511 rfl rfl (zaj rfl) rfl <| aN 9 1023 rfl rfl (zae rfl) rfl <| aN 10 2047 rfl rfl (zaa rfl ⟨_,_,_,Tryz.runUnderlying162,rfl,rfl,Tryz.sizeOf3,rfl⟩) rfl <| aV 11 4095 rfl rfl (zak rfl) eR (zj1 rfl foc0 rfl Tryz.isAgg3) rfl <| aN 12 8191 rfl rfl (zaj rfl) rfl ?_
  obtain ⟨hg2,h⟩ := zd7 h
  refine aN 13 16383 rfl rfl (P_add (a:=x_0_start) (b:=at_1) rfl rfl hg2) rfl <| aN 14 32767 rfl rfl (zaj rfl) rfl ?_
  obtain ⟨hg3,h⟩ := zfo h
  refine AJ_op 15 65535 rfl (by kernel_rfl) rfl (zak rfl) <| zat (z3g hg3 (v:=v)) rfl Tryz.call133 (Dels.cons del1 Dels.nil) rfl fun _ _=>⟨fun h=>absurd h (by decide),?_⟩
  refine aN 16 131071 rfl rfl (zb0 rfl) rfl <| aD <| zah ?_
  cases h
  exact fE (res1 Tryz.results142 rfl) () (t1_ eR)
def zj4 (x_0_a:ArrS) (x_0_d:Int) (x_0_start:Int) (x_0_length:Int):Option (Int × ArrS) :=
  grd (inLen x_0_a.writes) <|
  some (((flC x_0_a x_0_d),(flS x_0_a x_0_d)))
theorem zse {W:World} {bx_0:Nat} {bx_0_a:Nat} {x_0_a:ArrS} {x_0_d:Int} {x_0_start:Int} {x_0_length:Int} {r:Int × ArrS} (h:zj4 x_0_a x_0_d x_0_start x_0_length=some r) :
    CSpec Tryz.prog W 139 [ptr bx_0 0] [blkR bx_0 162 [ptr bx_0_a 0,.int .i64 x_0_d,.int .i64 x_0_start,.int .i64 x_0_length],Arr bx_0_a x_0_a] (fun x:Unit => .int .i64 r.1) (fun _=>True) (fun x F=>blkR bx_0 162 [ptr bx_0_a 0,.int .i64 x_0_d,.int .i64 x_0_start,.int .i64 x_0_length]::Arr bx_0_a r.2::F) := by
 refine CSpec.of_body Tryz.func139 rfl Tryz.ntmps139 rfl fun F => ?_
 show CJ _ _ _ _ _ _ (_::_::F)
 unfold zj4 at h
 refine sR <| oA rfl rfl <| nT <| zac <| zbc 256 (by kernel_rfl) rfl <| aN 0 1 rfl rfl (zaj rfl) rfl <| aN 1 3 rfl rfl (zae rfl) rfl <| aN 2 7 rfl rfl (zaa rfl ⟨_,_,_,Tryz.runUnderlying162,rfl,rfl,Tryz.sizeOf26,rfl⟩) rfl <| aV 3 15 rfl rfl (zak rfl) eR (zj1 rfl foc0 rfl Tryz.isAgg26) rfl <| aN 4 31 rfl rfl (zaj rfl) rfl <| aN 5 63 rfl rfl (zae rfl) rfl <| aN 6 127 rfl rfl (zaa rfl ⟨_,_,_,Tryz.runUnderlying162,rfl,rfl,Tryz.sizeOf3,rfl⟩) rfl <| aV 7 255 rfl rfl (zak rfl) eR (zj1 rfl foc0 rfl Tryz.isAgg3) rfl ?_
 obtain ⟨hg1,h⟩ := zfo h
 refine AJ_op 8 511 rfl (by kernel_rfl) rfl (zak rfl) <| zat (z15 hg1) rfl Tryz.call132 (Dels.cons del1 Dels.nil) rfl fun _ _=>⟨fun h=>absurd h (by decide),?_⟩
 refine aN 9 1023 rfl rfl (zb0 rfl) rfl <| aD <| zah ?_
 cases h
 exact fE (res1 Tryz.results139 rfl) () (t1_ eR)
def Dvc.span (x_d:Int) (x_start:Int) (x_length:Int):Dvc := { dep := 1,size := fun s=>znj s x_d x_start x_length,rd := fun s k=>zkr s x_d x_start x_length k,wr := fun s k v=>zj3 s x_d x_start x_length k v,fl := fun s=>zj4 s x_d x_start x_length }
theorem zx4 {a:Nat} {bx:Nat} {x_d:Int} {x_start:Int} {x_length:Int} : DevOk a (Dvc.span x_d x_start x_length) ⟨160,ptr bx 0⟩ (starX [blkR bx 162 [ptr a 0,.int .i64 x_d,.int .i64 x_start,.int .i64 x_length]]) where
  dup := Dup.starX (by intro A hA; simp only [List.mem_cons,List.not_mem_nil,or_false] at hA; subst hA; exact Dup.blkR)
  dep := by simp [Dvc.span]
  nil := fun n hn w=>by
    obtain ⟨m,rfl⟩:∃ m,n=m + 1 := ⟨n - 1,by omega⟩
    kernel_rfl
  size := fun {W s r} e=>IOk.conseq (G:=[]) (IOk.of (fun n w=>by kernel_rfl) Tryz.call141 (zta e)) (fun F=>Ent.starE (Ent.take del0 (Ent.take del0 Ent.refl))) (fun _ F=>Ent.starI (Ent.take del0 (Ent.take del0 Ent.refl)))
  rd := fun {W s k r} e=>IOk.conseq (G:=[]) (IOk.of (fun n w=>by kernel_rfl) Tryz.call140 (ztb e)) (fun F=>Ent.starE (Ent.take del0 (Ent.take del0 Ent.refl))) (fun _ F=>Ent.starI (Ent.take del0 (Ent.take del0 Ent.refl)))
  wr := fun {W s k v r} e=>IOk.conseq (G:=[]) (IOk.of (fun n w=>by kernel_rfl) Tryz.call142 (zsd e)) (fun F=>Ent.starE (Ent.take del0 (Ent.take del0 Ent.refl))) (fun _ F=>Ent.starI (Ent.take del0 (Ent.take del0 Ent.refl)))
  fl := fun {W s r} e=>IOk.conseq (G:=[]) (IOk.of (fun n w=>by kernel_rfl) Tryz.call139 (zse e)) (fun F=>Ent.starE (Ent.take del0 (Ent.take del0 Ent.refl))) (fun _ F=>Ent.starI (Ent.take del0 (Ent.take del0 Ent.refl)))
theorem zu1 (v0:Int):zfb Tryz.prog 29 1 [(0,.int .u64 v0)] 23 [.int .u64 v0] := fun w=>by kernel_rfl
theorem zhn (v0:Int):zfb Tryz.prog 45 1 [(0,.int .i64 v0)] 3 [.int .i64 v0] := fun w=>by kernel_rfl
theorem ztc (v0:(Option Addr)) (v1:Int) (v2:Int) (v3:Int):∀ w,(Instr.build 162 (#[(0,.pointer v0),(1,.int .i64 v1),(2,.int .i64 v2),(3,.int .i64 v3)]:Array (Nat × Value))).run Tryz.prog w = .ok (.agg #[.pointer v0,.int .i64 v1,.int .i64 v2,.int .i64 v3]) w := fun w=>by kernel_rfl
theorem z0n (v0:TypeId) (v1:Value):zfb Tryz.prog 92 1 [(0,.iface v0 v1)] 96 [.iface v0 v1] := fun w=>by kernel_rfl
theorem z0o (v0:Bool):zfb Tryz.prog 34 1 [(0,.bool v0)] 4 [.bool v0] := fun w=>by kernel_rfl
def zf7 (n_0:Int) (seed:UInt64) (rec:(List UInt64)→Nat→Option ((List UInt64))) (x8:List UInt64) (x10:Nat):Option ((List UInt64)) :=
  if (((x10:Nat):Int) < n_0) then
    grd (inLen (x8.length + 1)) <|
    grd (inN64 (x10 + 1)) <|
    rec ((x8 ++ [(seed + ((zh2 (((x10:Nat):Int))) * (11400714819323198485:UInt64)))])) (x10 + 1)
  else
    some x8
def zgx (n_0:Int) (seed:UInt64):Nat→(List UInt64)→Nat→Option ((List UInt64))
  | 0,_,_=>none
  | n + 1,x8,x10=>zf7 n_0 seed (zgx n_0 seed n) x8 x10
def zgt (n_0:Int) (seed:UInt64):Option ((List UInt64)) :=
  Option.bind (zgx n_0 seed FUEL ([]) 0) fun a7 =>
  some a7
theorem zlh {W:World} {n_0:Int} {seed:UInt64} {r:(List UInt64)} (h:zgt n_0 seed=some r) :
    CSpec Tryz.prog W 26 [.int .i64 n_0,.int .u64 (seed.toNat:Int)] [] (fun x:Sl3=>x.v) (fun _=>True) (fun x F=>sl tyU x.v r::F) := by
 refine CSpec.of_body Tryz.func26 rfl Tryz.ntmps26 rfl fun F => ?_
 show CJ _ _ _ _ _ _ (F)
 unfold zgt at h
 refine sR <| oA rfl rfl <| nT <| sR <| oA rfl rfl <| nT <| zac <| sR <| oA rfl rfl <| nT <| zde (fun h hh=>zdj (t:=tyU) h hh) ?_
 obtain ⟨y4,hl2,hK3⟩ := zfw h
 refine zbv (X:=(List UInt64) × Sl3) [5,6,7,8,9,10,11,12,13,14,15,16,17,18,19] (fun ⟨a7,hd6⟩=>([(5,hd6.v)]:Slots)) (fun ⟨a7,hd6⟩ R=>sl tyU hd6.v a7::R) (fun ⟨a7,hd6⟩=>y4=a7) (Dels.cons del0 Dels.nil) ?_ ?_
 ·
  refine zaw <| zbd (X:=Nat × (List UInt64) × Nat × Sl3) [5,6,7,8,9,10,11,12,13,14,15,16,17,18,19] (fun ⟨n,x8,x10,hd9⟩=>([(5,hd9.v),(6,.int .i64 (((x10:Nat):Int)))]:Slots)) (fun ⟨n,x8,x10,hd9⟩ R=>sl tyU hd9.v x8::R) (fun ⟨n,x8,x10,hd9⟩=>zgx n_0 seed n x8 x10=some y4) (fun ⟨n,x8,x10,hd9⟩=>n) ⟨FUEL,[],0,⟨none,0,0⟩⟩ ?_ ?_ eR ?_
  · exact hl2
  · exact ⟨rfl,rfl,True.intro⟩
  ·
   rintro ⟨n,x8,x10,hd9⟩ h
   cases n with
   | zero=>exact zbq h
   | succ n => ?_
   replace h:zf7 n_0 seed (zgx n_0 seed n) x8 x10=some y4 := h
   unfold zf7 at h
   show CJ _ _ _ _ _ (([(5,hd9.v),(6,.int .i64 (((x10:Nat):Int)))]:Slots) ++ forget _ _) (sl tyU hd9.v x8::_)
   refine lC del0 fun hlen11=>zac <| sR <| oM rfl rfl <| oM rfl rfl <| oP (P_lss (a:=((x10:Nat):Int)) (b:=n_0) rfl rfl) rfl <| nT <| zan rfl zab (fun hg1 => ?_) (fun hg1 => ?_)
   ·
    replace h := ite_t hg1 h
    refine kT <| zac <| zaw <| zaf <| oM rfl rfl <| oM rfl rfl <| oM rfl rfl <| oP (zpu (a:=((x10:Nat):Int)) rfl Tryz.runUnderlying3 Tryz.runUnderlying23) rfl <| oP (zz1 (a:=(zh2 (((x10:Nat):Int)))) (b:=(11400714819323198485:UInt64)) rfl rfl) rfl <| oP (zqk (a:=seed) (b:=((zh2 (((x10:Nat):Int))) * (11400714819323198485:UInt64))) rfl rfl) rfl <| oO <| zbf rfl (zu1 _) rfl fun b12 => ?_
    obtain ⟨hg2,h⟩ := zfo h
    refine oO <| zc9 (t:=tyU) (bytes:=8) rfl rfl del1 foc0 (Reads.lit (t:=tyU) (ys:=[(seed + ((zh2 (((x10:Nat):Int))) * (11400714819323198485:UInt64)))]) rfl rfl (by decide) (by decide) rfl) Tryz.underlying29 znd (apl (m:=1) (b:=8) hg2 (by decide)).1 (apl (m:=1) (b:=8) hg2 (by decide)).2 rfl fun p14 c15=>oA rfl rfl <| zap <| zao <| zam <| zaf <| oM rfl rfl ?_
    obtain ⟨hg3,h⟩ := zfg h
    exact oP (PJ_eq (P_add (a:=((x10:Nat):Int)) (b:=(1:Int)) rfl rfl (zfh hg3)) rfl) rfl <| oA rfl rfl <| zap <| nR ⟨n,(x8 ++ [(seed + ((zh2 (((x10:Nat):Int))) * (11400714819323198485:UInt64)))]),(x10 + 1),⟨p14,(x8 ++ [(seed + ((zh2 (((x10:Nat):Int))) * (11400714819323198485:UInt64)))]).length,c15⟩⟩ h ⟨rfl,rfl,True.intro⟩ (t0_ (eD eR))
   ·
    replace h := ite_f hg1 h
    exact zbj <| za3 <| za2 <| za0 <| cR ⟨x8,hd9⟩ (Option.some.inj h).symm ⟨rfl,True.intro⟩ eR
 ·
  rintro ⟨a7,hd6⟩ hy16
  replace h := zd2 hK3 hy16
  show CJ _ _ _ _ _ (([(5,hd6.v)]:Slots) ++ forget _ _) (sl tyU hd6.v a7::_)
  refine lC del0 fun hlen17=>sR <| oM rfl rfl <| oA rfl rfl <| nT <| zah ?_
  cases h
  exact fE (res1 Tryz.results26 rfl) hd6 eR
def zfx (l:List (List UInt64)) (rec:(List Int)→Nat→Option ((List Int))) (x9:List Int) (x11:Nat):Option ((List Int)) :=
  if (((x11:Nat):Int) < ((l.length:Nat):Int)) then
    grd (inLen (x9.length + 1)) <|
    grd (inN64 (x11 + 1)) <|
    rec ((x9 ++ [(((l.getD x11 []).length:Nat):Int)])) (x11 + 1)
  else
    some x9
def zgm (l:List (List UInt64)):Nat→(List Int)→Nat→Option ((List Int))
  | 0,_,_=>none
  | n + 1,x9,x11=>zfx l (zgm l n) x9 x11
def zfy (l:List (List UInt64)) (rec:ArrS→Nat→Option ((ArrS) ⊕ (Option ArrS))) (x32:ArrS) (x33:Nat):Option ((ArrS) ⊕ (Option ArrS)) :=
  if (((x33:Nat):Int) < ((l.length:Nat):Int)) then
    grd (inLen x32.writes) <|
    if ((ldC x32 (((x33:Nat):Int)) (l.getD x33 []))≠(0:Int)) then
      some (.inr none)
    else
      grd (inN64 (x33 + 1)) <|
      rec ((ldS x32 (((x33:Nat):Int)) (l.getD x33 []))) (x33 + 1)
  else
    some (.inl x32)
def zgn (l:List (List UInt64)):Nat→ArrS→Nat→Option ((ArrS) ⊕ (Option ArrS))
  | 0,_,_=>none
  | n + 1,x32,x33=>zfy l (zgn l n) x32 x33
def zhr (l:List (List UInt64)):Option ((Option ArrS)) :=
  Option.bind (zgm l FUEL ([]) 0) fun a8 =>
  grd (inLen a8.length) <|
  if ((newC a8)≠(0:Int)) then
    some none
  else
    Option.elim (newO a8) (
      some none) fun o26 =>
    seqO (zgn l FUEL o26 0) fun a31 =>
    some (some a31)
theorem zn9 {W:World} {Al:HP} {vl:Value} {hsl:List Sl3} {Bl:HP} {l:List (List UInt64)} {r:(Option ArrS)} (rl:Reads Al tyRow vl hsl) (ql:RowsR Bl l hsl) (h:zhr l=some r) :
    CSpec Tryz.prog W 43 [vl] [Al,Bl] (fun x:Nat=>oval r x) (fun _=>True) (fun x F=>Al::Bl::optP (Arr x) r::F) := by
 refine CSpec.of_body Tryz.func43 rfl Tryz.ntmps43 rfl fun F => ?_
 show CJ _ _ _ _ _ _ (_::_::F)
 unfold zhr at h
 refine za1 (zcg rl del0) fun hlen1=>sR <| oA rfl rfl <| nT <| sR <| oA rfl rfl <| nT <| zac <| sR <| oA rfl rfl <| nT <| zde (fun h hh=>zdj (t:=tyI) h hh) ?_
 obtain ⟨y5,hl3,hK4⟩ := zfw h
 refine zbv (X:=(List Int) × Sl3) [3,4,8,9,10,11,12,13,14,15,16,17,18,19,20,21] (fun ⟨a8,hd7⟩=>([(3,hd7.v)]:Slots)) (fun ⟨a8,hd7⟩ R=>sl tyI hd7.v a8::R) (fun ⟨a8,hd7⟩=>y5=a8) (Dels.cons del0 Dels.nil) ?_ ?_
 ·
  refine zaw <| zbd (X:=Nat × (List Int) × Nat × Sl3) [3,4,8,9,10,11,12,13,14,15,16,17,18,19,20,21] (fun ⟨n,x9,x11,hd10⟩=>([(3,hd10.v),(4,.int .i64 (((x11:Nat):Int)))]:Slots)) (fun ⟨n,x9,x11,hd10⟩ R=>sl tyI hd10.v x9::R) (fun ⟨n,x9,x11,hd10⟩=>zgm l n x9 x11=some y5) (fun ⟨n,x9,x11,hd10⟩=>n) ⟨FUEL,[],0,⟨none,0,0⟩⟩ ?_ ?_ eR ?_
  · exact hl3
  · exact ⟨rfl,rfl,True.intro⟩
  ·
   rintro ⟨n,x9,x11,hd10⟩ h
   cases n with
   | zero=>exact zbq h
   | succ n => ?_
   replace h:zfx l (zgm l n) x9 x11=some y5 := h
   unfold zfx at h
   show CJ _ _ _ _ _ (([(3,hd10.v),(4,.int .i64 (((x11:Nat):Int)))]:Slots) ++ forget _ _) (sl tyI hd10.v x9::_)
   refine lC del0 fun hlen12=>zac <| sR <| oM rfl rfl <| oM rfl rfl <| oV (VJ_eq (V_len rfl foc1 rl Tryz.runUnderlying90) (congrArg (fun z:Nat=>Value.int .i64 (z:Int)) (ql.1).symm)) rfl <| oP (P_lss (a:=((x11:Nat):Int)) (b:=((l.length:Nat):Int)) rfl rfl) rfl <| nT <| zan rfl zab (fun hg1 => ?_) (fun hg1 => ?_)
   ·
    replace h := ite_t hg1 h
    refine kT <| zac <| zaw <| zaf <| oM rfl rfl <| oM rfl rfl <| oM rfl rfl <| oV (zay (i:=x11) rfl rfl rfl (by have hz:x11 < l.length := (by omega); have hy := ql.1; omega) foc1 rl Tryz.runUnderlying90 Tryz.sizeOf29) rfl <| oV (za6 rfl rfl (by have hz:x11 < l.length := (by omega); have hy := ql.1; omega) foc1 rl rfl rfl Tryz.isAgg29) rfl <| oV (V_len rfl foc2 (ql.2 _ (by omega)) Tryz.runUnderlying29) rfl <| oO <| zbf rfl (zhn _) rfl fun b13 => ?_
    obtain ⟨hg2,h⟩ := zfo h
    refine oO <| zc9 (t:=tyI) (bytes:=8) rfl rfl del1 foc0 (Reads.lit (t:=tyI) (ys:=[(((l.getD x11 []).length:Nat):Int)]) rfl rfl (by decide) (by decide) rfl) Tryz.underlying45 zkq (apl (m:=1) (b:=8) hg2 (by decide)).1 (apl (m:=1) (b:=8) hg2 (by decide)).2 rfl fun p15 c16=>oA rfl rfl <| zap <| zao <| zam <| zaf <| oM rfl rfl ?_
    obtain ⟨hg3,h⟩ := zfg h
    exact oP (PJ_eq (P_add (a:=((x11:Nat):Int)) (b:=(1:Int)) rfl rfl (zfh hg3)) rfl) rfl <| oA rfl rfl <| zap <| nR ⟨n,(x9 ++ [(((l.getD x11 []).length:Nat):Int)]),(x11 + 1),⟨p15,(x9 ++ [(((l.getD x11 []).length:Nat):Int)]).length,c16⟩⟩ h ⟨rfl,rfl,True.intro⟩ (t0_ (t1_ (t1_ (eD eR))))
   ·
    replace h := ite_f hg1 h
    exact zbj <| za3 <| za2 <| za0 <| cR ⟨x9,hd10⟩ (Option.some.inj h).symm ⟨rfl,True.intro⟩ eR
 ·
  rintro ⟨a8,hd7⟩ hy17
  replace h := zd2 hK4 hy17
  show CJ _ _ _ _ _ (([(3,hd7.v)]:Slots) ++ forget _ _) (sl tyI hd7.v a8::_)
  refine lC del0 fun hlen18=>sR <| oM rfl rfl ?_
  obtain ⟨hg4,h⟩ := zfo h
  refine oO <| zat (c_NewO (Reads.sl _ _ _) hg4) rfl Tryz.call83 (Dels.cons del0 Dels.nil) rfl fun X19 _=>oM rfl rfl <| oP (za4 rfl rfl) rfl <| oP (za4 rfl rfl) rfl <| oA rfl rfl <| oA rfl rfl <| nT <| zac <| sR <| oM rfl rfl <| oP (P_neq (a:=(newC a8)) (b:=(0:Int)) rfl rfl) rfl <| oM rfl rfl <| zaz rfl rfl rfl (fun hG21=>have hP22:¬ ((newC a8)≠(0:Int)) := nP (zab) hG21; VJ_P (zaj rfl)) <| zb7 29 rfl zab (fun hg5B hg5 => ?_) (fun hg5B hg5 => ?_)
  ·
   replace h := ite_t hg5 h
   refine RJ_gn (GY_no rfl rfl rfl hg5B) rfl rfl <| oP (zbh rfl hg5B rfl) rfl <| nT <| zck rfl rfl <| sR <| oA rfl rfl <| nT <| zah <| zad ?_
   cases h
   exact fE (res1 Tryz.results43 rfl) 0 (t2_ (t2_ (Ent.trans (fun h hh=>zb8 h hh) <| t0_ (eD (eD eR)))))
  ·
   replace h := ite_f hg5 h
   rcases opt_e h with ⟨ht25,h⟩ | ⟨o26,ht25,h⟩
   ·
    rw [ht25]
    refine zbb (t1_ (t1_ (t1_ (eD eR)))) <| gP (zal rfl rfl rfl hg5B) (zmx (mbx (not_f hg5B) rfl) rfl Tryz.underlying26) rfl <| oP (za8 rfl hg5B rfl) rfl <| nT <| zck rfl rfl <| sR <| oA rfl rfl <| nT <| zah <| zad ?_
    cases h
    exact fE (res1 Tryz.results43 rfl) 0 (t1_ (t1_ (Ent.trans (fun h hh=>zb8 h hh) <| t0_ (eD eR))))
   ·
    rw [ht25]
    refine zbb (Ent.takeC (A' := Arr X19 o26) del0 rfl eR) <| gP (zal rfl rfl rfl hg5B) (zmw (mbx (not_f hg5B) rfl) rfl Tryz.underlying26) rfl <| oP (za8 rfl hg5B rfl) rfl <| nT <| zgh rfl rfl <| kT <| zac <| sR <| oA rfl rfl <| nT ?_
    obtain ⟨y29,hl27,hK28⟩ := seq_e h
    refine zbv (X:=ArrS) [2,7,33,34,35,36,37,38,39,40,41,42,43,44,45,46] (fun a31=>([]:Slots)) (fun a31 R=>Arr X19 a31::R) (fun a31=>y29 = .inl a31) (Dels.cons del0 Dels.nil) ?_ ?_
    ·
     refine zaw <| zbd (X:=Nat × ArrS × Nat) [2,7,33,34,35,36,37,38,39,40,41,42,43,44,45,46] (fun ⟨n,x32,x33⟩=>([(7,.int .i64 (((x33:Nat):Int)))]:Slots)) (fun ⟨n,x32,x33⟩ R=>Arr X19 x32::R) (fun ⟨n,x32,x33⟩=>zgn l n x32 x33=some y29) (fun ⟨n,x32,x33⟩=>n) ⟨FUEL,o26,0⟩ ?_ ?_ eR ?_
     · exact hl27
     · exact ⟨rfl,True.intro⟩
     ·
      rintro ⟨n,x32,x33⟩ h
      cases n with
      | zero=>exact zbq h
      | succ n => ?_
      replace h:zfy l (zgn l n) x32 x33=some y29 := h
      unfold zfy at h
      show CJ _ _ _ _ _ (([(7,.int .i64 (((x33:Nat):Int)))]:Slots) ++ forget _ _) (Arr X19 x32::_)
      refine zac <| sR <| oM rfl rfl <| oM rfl rfl <| oV (VJ_eq (V_len rfl foc2 rl Tryz.runUnderlying90) (congrArg (fun z:Nat=>Value.int .i64 (z:Int)) (ql.1).symm)) rfl <| oP (P_lss (a:=((x33:Nat):Int)) (b:=((l.length:Nat):Int)) rfl rfl) rfl <| nT <| zan rfl zab (fun hg6 => ?_) (fun hg6 => ?_)
      ·
       replace h := ite_t hg6 h
       refine kT <| zac <| zaw <| sR <| oM rfl rfl <| oM rfl rfl <| oM rfl rfl <| oM rfl rfl <| oV (zay (i:=x33) rfl rfl rfl (by have hz:x33 < l.length := (by omega); have hy := ql.1; omega) foc2 rl Tryz.runUnderlying90 Tryz.sizeOf29) rfl <| oV (za6 rfl rfl (by have hz:x33 < l.length := (by omega); have hy := ql.1; omega) foc2 rl rfl rfl Tryz.isAgg29) rfl ?_
       obtain ⟨hg7,h⟩ := zfo h
       refine oO <| zat (zyh (ql.2 _ (by omega)) hg7) rfl Tryz.call25 (Dels.cons del0 (Dels.cons del2 Dels.nil)) rfl fun _ _=>oP (P_neq (a:=(ldC x32 (((x33:Nat):Int)) (l.getD x33 []))) (b:=(0:Int)) rfl rfl) rfl <| nT <| zan rfl zab (fun hg8 => ?_) (fun hg8 => ?_)
       ·
        replace h := ite_t hg8 h
        refine sR <| oA rfl rfl <| nT <| zah <| zau <| zad <| za9 <| zau <| zad ?_
        have hE := Option.some.inj h
        replace hE := zce hK28 hE.symm
        subst hE
        exact fE (res1 Tryz.results43 rfl) 0 (t3_ (t1_ (Ent.trans (fun h hh=>zb8 h hh) <| t0_ (eD (eD eR)))))
       ·
        replace h := ite_f hg8 h
        refine zbr <| zao <| zam <| zaf <| oM rfl rfl ?_
        obtain ⟨hg9,h⟩ := zfg h
        exact oP (PJ_eq (P_add (a:=((x33:Nat):Int)) (b:=(1:Int)) rfl rfl (zfh hg9)) rfl) rfl <| oA rfl rfl <| zap <| nR ⟨n,(ldS x32 (((x33:Nat):Int)) (l.getD x33 [])),(x33 + 1)⟩ h ⟨rfl,True.intro⟩ (t0_ (t1_ (t1_ eR)))
      ·
       replace h := ite_f hg6 h
       exact zbj <| za3 <| za2 <| za0 <| cR x32 (Option.some.inj h).symm True.intro eR
    ·
     rintro a31 hy34
     replace h := zd0 hK28 hy34
     show CJ _ _ _ _ _ (([]:Slots) ++ forget _ _) (Arr X19 a31::_)
     refine sR <| oM rfl rfl <| oA rfl rfl <| nT <| zah ?_
     cases h
     exact fE (res1 Tryz.results43 rfl) X19 (t2_ (t2_ (t0_ (eD eR))))
def zmi (a:ArrS) (d:Int) (start:Int) (length:Int):Option ((Option Dvc) × Int) :=
  if (length < (1:Int)) then
    some ((none,(1:Int)))
  else
    Option.bind (zgw (sizeI a d) start length) fun r1 =>
    if (¬ r1=true) then
      some ((none,(1:Int)))
    else
      some (((some (Dvc.span d start length)),(0:Int)))
theorem zwj {W:World} {ba:Nat} {a:ArrS} {d:Int} {start:Int} {length:Int} {r:(Option Dvc) × Int} (h:zmi a d start length=some r) :
    CSpec Tryz.prog W 85 [ptr ba 0,.int .i64 d,.int .i64 start,.int .i64 length] [Arr ba a] (fun x:IfH => .tuple #[oif r.1 x,.int .i64 r.2]) (fun _=>True) (fun x F=>Arr ba a::optP (DevP ba · x) r.1::F) := by
 refine CSpec.of_body Tryz.func85 rfl Tryz.ntmps85 rfl fun F => ?_
 show CJ _ _ _ _ _ _ (_::F)
 unfold zmi at h
 refine sR <| oA rfl rfl <| oA rfl rfl <| nT <| zac <| sR <| oM rfl rfl <| oP (P_lss (a:=length) (b:=(1:Int)) rfl rfl) rfl <| oM rfl rfl <| zb7 12 rfl zab (fun hg1B hg1 => ?_) (fun hg1B hg1 => ?_)
 ·
  replace h := ite_t hg1 h
  refine RJ_gn (GY_no rfl rfl rfl hg1B) rfl rfl <| RJ_gn (GY_no rfl rfl rfl hg1B) rfl rfl <| RJ_gn (GY_no rfl rfl rfl hg1B) rfl rfl <| RJ_gn (GY_no rfl rfl rfl hg1B) rfl rfl <| RJ_gn (GY_no rfl rfl rfl hg1B) rfl rfl <| RJ_gn (GY_no rfl rfl rfl hg1B) rfl rfl <| RJ_gn (GY_no rfl rfl rfl hg1B) rfl rfl <| oP (zbh rfl hg1B rfl) rfl <| nT <| zck rfl rfl <| sR <| oA rfl rfl <| oA rfl rfl <| nT <| zah <| zad ?_
  cases h
  exact fE (res2 Tryz.results85 rfl rfl) ⟨0,.bool false⟩ (t0_ (Ent.trans (fun h hh=>zb8 h hh) <| t0_ eR))
 ·
  replace h := ite_f hg1 h
  refine gP (zal rfl rfl rfl hg1B) (zaj rfl) rfl <| gP (zal rfl rfl rfl hg1B) (zaj rfl) rfl <| RJ_gy (zal rfl rfl rfl hg1B) <| zat (zt3) rfl Tryz.call86 (Dels.cons del0 Dels.nil) rfl fun _ _=>gP (zal rfl rfl rfl hg1B) (zaj rfl) rfl <| gP (zal rfl rfl rfl hg1B) (zaj rfl) rfl ?_
  obtain ⟨r1,hr2,h⟩ := zar h
  refine RJ_gy (zal rfl rfl rfl hg1B) <| zat (zj2 hr2) rfl Tryz.call111 Dels.nil rfl fun _ _=>gP (zal rfl rfl rfl hg1B) (P_not rfl) rfl <| oP (za8 rfl hg1B rfl) rfl <| nT <| zan rfl (zdk Iff.rfl) (fun hg2 => ?_) (fun hg2 => ?_)
  ·
   replace h := ite_t hg2 h
   refine sR <| oA rfl rfl <| oA rfl rfl <| nT <| zah <| zad ?_
   cases h
   exact fE (res2 Tryz.results85 rfl rfl) ⟨0,.bool false⟩ (t0_ (Ent.trans (fun h hh=>zb8 h hh) <| t0_ eR))
  ·
   replace h := ite_f hg2 h
   refine kT <| sR <| oM rfl rfl <| oM rfl rfl <| oM rfl rfl <| oM rfl rfl <| oP (zfn rfl (ztc _ _ _ _)) rfl <| oO <| O_box rfl rfl rfl fun b3=>z1s del0 <| oP (zrt rfl Tryz.runUnderlying160 (by intro ms h; cases h)) rfl <| zbb (Ent.trans (t0_ eR) (z3j (a:=ba) (x:=(Dvc.span d start length)) (h:=(⟨160,ptr b3 0⟩:IfH)) (zx4))) <| oA rfl rfl <| oA rfl rfl <| nT <| zah ?_
   cases h
   exact fE (res2 Tryz.results85 rfl rfl) ((⟨160,ptr b3 0⟩:IfH)) (t1_ eR)
def zf8 (a:ArrS) (rec:(List Dvc)→Nat→Option (((List Dvc)) ⊕ (List Dvc))) (x10:List Dvc) (x13:Nat):Option (((List Dvc)) ⊕ (List Dvc)) :=
  if (((x13:Nat):Int) < ((a.drv.length:Nat):Int)) then
    Option.bind (zmi a (((x13:Nat):Int)) (0:Int) ((sizeI a (((x13:Nat):Int))))) fun r16 =>
    if (r16.2≠(0:Int)) then
      some (.inr ([]:List Dvc))
    else
      Option.elim r16.1 (
        some (.inr ([]:List Dvc))) fun o27 =>
      grd (inLen (x10.length + 1)) <|
      grd (inN64 (x13 + 1)) <|
      rec (x10 ++ [o27]) (x13 + 1)
  else
    some (.inl x10)
def zgy (a:ArrS):Nat→(List Dvc)→Nat→Option (((List Dvc)) ⊕ (List Dvc))
  | 0,_,_=>none
  | n + 1,x10,x13=>zf8 a (zgy a n) x10 x13
def zfp (a:ArrS):Option ((List Dvc)) :=
  seqO (zgy a FUEL ([]:List Dvc) 0) fun a9 =>
  some a9
theorem zli {W:World} {ba:Nat} {a:ArrS} {r:(List Dvc)} (h:zfp a=some r) :
    CSpec Tryz.prog W 44 [ptr ba 0] [Arr ba a] (fun x:(Sl3 × List IfH)=>x.1.v) (fun _=>True) (fun x F=>Arr ba a::sl tyDev x.1.v x.2::Rs (DevP ba) r x.2::F) := by
 refine CSpec.of_body Tryz.func44 rfl Tryz.ntmps44 rfl fun F => ?_
 show CJ _ _ _ _ _ _ (_::F)
 unfold zfp at h
 refine sR <| oA rfl rfl <| nT <| sR <| oA rfl rfl <| nT <| zac <| sR <| oA rfl rfl <| nT <| zde (fun h hh=>zdj (t:=tyDev) h (zpe (RP:=DevP ba) h hh)) ?_
 obtain ⟨y5,hl3,hK4⟩ := seq_e h
 refine zbv (X:=(List Dvc) × Sl3 × (List IfH)) [2,3,4,5,6,7,8,9,10,11,12,13,14,15,16,17,18,19,20,21,22,23,24,25,26,27,28,29,30,31] (fun ⟨a9,hd7,hs8⟩=>([(3,hd7.v)]:Slots)) (fun ⟨a9,hd7,hs8⟩ R=>sl tyDev hd7.v hs8::Rs (DevP ba) a9 hs8::R) (fun ⟨a9,hd7,hs8⟩=>y5 = .inl a9) (Dels.cons del0 (Dels.cons del0 Dels.nil)) ?_ ?_
 ·
  refine zaw <| zbd (X:=Nat × (List Dvc) × Nat × Sl3 × (List IfH)) [2,3,4,5,6,7,8,9,10,11,12,13,14,15,16,17,18,19,20,21,22,23,24,25,26,27,28,29,30,31] (fun ⟨n,x10,x13,hd11,hs12⟩=>([(3,hd11.v),(4,.int .i64 (((x13:Nat):Int)))]:Slots)) (fun ⟨n,x10,x13,hd11,hs12⟩ R=>sl tyDev hd11.v hs12::Rs (DevP ba) x10 hs12::R) (fun ⟨n,x10,x13,hd11,hs12⟩=>zgy a n x10 x13=some y5) (fun ⟨n,x10,x13,hd11,hs12⟩=>n) ⟨FUEL,([]:List Dvc),0,⟨none,0,0⟩,([]:List IfH)⟩ ?_ ?_ eR ?_
  · exact hl3
  · exact ⟨rfl,rfl,True.intro⟩
  ·
   rintro ⟨n,x10,x13,hd11,hs12⟩ h
   cases n with
   | zero=>exact zbq h
   | succ n => ?_
   replace h:zf8 a (zgy a n) x10 x13=some y5 := h
   unfold zf8 at h
   show CJ _ _ _ _ _ (([(3,hd11.v),(4,.int .i64 (((x13:Nat):Int)))]:Slots) ++ forget _ _) (sl tyDev hd11.v hs12::Rs (DevP ba) x10 hs12::_)
   refine lC del0 fun hlen14=>za1 (fun h hh=>za7 (zaq (del1 (A:=Rs (DevP ba) x10 hs12)).out h hh)) fun hdl15=>zac <| sR <| oM rfl rfl <| oM rfl rfl <| oO <| zat (z13) rfl Tryz.call84 (Dels.cons del2 Dels.nil) rfl fun _ _=>oP (P_lss (a:=((x13:Nat):Int)) (b:=((a.drv.length:Nat):Int)) rfl rfl) rfl <| nT <| zan rfl zab (fun hg1 => ?_) (fun hg1 => ?_)
   ·
    replace h := ite_t hg1 h
    refine kT <| zac <| zaw <| sR <| oM rfl rfl <| oM rfl rfl <| oM rfl rfl <| oM rfl rfl <| oO <| zat (zt3) rfl Tryz.call86 (Dels.cons del0 Dels.nil) rfl fun _ _ => ?_
    obtain ⟨r16,hr17,h⟩ := zar h
    refine oO <| zat (zwj hr17) rfl Tryz.call85 (Dels.cons del0 Dels.nil) rfl fun X18 _=>oM rfl rfl <| oP (za4 rfl rfl) rfl <| oP (za4 rfl rfl) rfl <| oA rfl rfl <| oA rfl rfl <| nT <| zac <| sR <| oM rfl rfl <| oP (P_neq (a:=r16.2) (b:=(0:Int)) rfl rfl) rfl <| oM rfl rfl <| zaz rfl rfl rfl (fun hG20=>have hP21:¬ (r16.2≠(0:Int)) := nP (zab) hG20; VJ_P (zaj rfl)) <| zb7 24 rfl zab (fun hg2B hg2 => ?_) (fun hg2B hg2 => ?_)
    ·
     replace h := ite_t hg2 h
     refine RJ_gn (GY_no rfl rfl rfl hg2B) rfl rfl <| oP (zbh rfl hg2B rfl) rfl <| nT <| zck rfl rfl <| sR <| oA rfl rfl <| nT <| zah <| zad <| zau <| zad <| za9 <| zau <| zad <| zas (fun h hh=>zdj (t:=tyDev) h (zpe (RP:=DevP ba) h hh)) ?_
     have hE := Option.some.inj h
     replace hE := zce hK4 hE.symm
     subst hE
     exact fE (res1 Tryz.results44 rfl) ((⟨none,0,0⟩,([]:List IfH))) (t2_ (t0_ (t0_ (eD (eD (eD eR))))))
    ·
     replace h := ite_f hg2 h
     rcases opt_e h with ⟨ht26,h⟩ | ⟨o27,ht26,h⟩
     ·
      rw [ht26]
      refine zbb (t0_ (t1_ (t1_ (eD eR)))) <| gP (zal rfl rfl rfl hg2B) (z26 (mbx (not_f hg2B) rfl) Tryz.underlying96) rfl <| oP (za8 rfl hg2B rfl) rfl <| nT <| zck rfl rfl <| sR <| oA rfl rfl <| nT <| zah <| zad <| zau <| zad <| za9 <| zau <| zad <| zas (fun h hh=>zdj (t:=tyDev) h (zpe (RP:=DevP ba) h hh)) ?_
      have hE := Option.some.inj h
      replace hE := zce hK4 hE.symm
      subst hE
      exact fE (res1 Tryz.results44 rfl) ((⟨none,0,0⟩,([]:List IfH))) (t2_ (t0_ (t0_ (eD (eD eR)))))
     ·
      rw [ht26]
      refine zbb (Ent.takeC (A' := DevP ba o27 X18) del1 rfl eR) <| gP (zal rfl rfl rfl hg2B) (z1w (mbx (not_f hg2B) rfl) rfl Tryz.underlying96) rfl <| oP (za8 rfl hg2B rfl) rfl <| nT <| zgh rfl rfl <| kT <| zaf <| oM rfl rfl <| oM rfl rfl <| oO <| zbf rfl (z0n _ _) rfl fun b30 => ?_
      obtain ⟨hg3,h⟩ := zfo h
      refine oO <| zc9 (t:=tyDev) (bytes:=16) rfl rfl del3 foc0 (Reads.lit (t:=tyDev) (ys:=[X18]) rfl rfl (by decide) (by decide) rfl) Tryz.underlying92 z2a (apl (m:=1) (b:=16) (by have hz:_≤1000000000 := hg3; have := hdl15; omega) (by decide)).1 (apl (m:=1) (b:=16) (by have hz:_≤1000000000 := hg3; have := hdl15; omega) (by decide)).2 rfl fun p32 c33=>zbb (Ent.trans (t4_ (t2_ eR)) (zpf (x:=o27) (g:=X18) (fun _ _=>zhl))) <| zcl (fun h hh=>za7 (zaq (del0 (A:=Rs (DevP ba) (x10 ++ [o27]) (hs12 ++ [X18]))).out h hh)) fun hdl34=>oA rfl rfl <| zap <| zao <| zam <| zaf <| oM rfl rfl ?_
      obtain ⟨hg4,h⟩ := zfg h
      exact oP (PJ_eq (P_add (a:=((x13:Nat):Int)) (b:=(1:Int)) rfl rfl (zfh hg4)) rfl) rfl <| oA rfl rfl <| zap <| nR ⟨n,(x10 ++ [o27]),(x13 + 1),⟨p32,(hs12 ++ [X18]).length,c33⟩,(hs12 ++ [X18])⟩ h ⟨rfl,rfl,True.intro⟩ (t2_ (t0_ (t2_ (eD (eD eR)))))
   ·
    replace h := ite_f hg1 h
    exact zbj <| za3 <| za2 <| za0 <| cR ⟨x10,hd11,hs12⟩ (Option.some.inj h).symm ⟨rfl,True.intro⟩ (t1_ (t1_ eR))
 ·
  rintro ⟨a9,hd7,hs8⟩ hy35
  replace h := zd0 hK4 hy35
  show CJ _ _ _ _ _ (([(3,hd7.v)]:Slots) ++ forget _ _) (sl tyDev hd7.v hs8::Rs (DevP ba) a9 hs8::_)
  refine lC del0 fun hlen36=>za1 (fun h hh=>za7 (zaq (del1 (A:=Rs (DevP ba) a9 hs8)).out h hh)) fun hdl37=>sR <| oM rfl rfl <| oA rfl rfl <| nT <| zah ?_
  cases h
  exact fE (res1 Tryz.results44 rfl) (hd7,hs8) (t2_ eR)
end Go.Proofs
set_option linter.unusedSimpArgs false
set_option linter.unusedVariables false
set_option maxRecDepth 20000
set_option maxHeartbeats 4000000
namespace Go.Proofs
open Go.VG
def zgo (w:UInt64) (rec:(List Bool)→Nat→Option ((List Bool))) (x8:List Bool) (x10:Nat):Option ((List Bool)) :=
  if (((x10:Nat):Int) < (192:Int)) then
    grd (inLen (x8.length + 1)) <|
    rec ((x8 ++ [(decide (((zik w (x10 % 64)) &&& (1:UInt64))=(1:UInt64)))])) (x10 + 1)
  else
    some x8
def zhf (w:UInt64):Nat→(List Bool)→Nat→Option ((List Bool))
  | 0,_,_=>none
  | n + 1,x8,x10=>zgo w (zhf w n) x8 x10
def zh4 (w:UInt64):Option ((List Bool)) :=
  Option.bind (zhf w FUEL ([]) 0) fun a7 =>
  some a7
theorem zo5 {W:World} {w:UInt64} {r:(List Bool)} (h:zh4 w=some r) :
    CSpec Tryz.prog W 20 [.int .u64 (w.toNat:Int)] [] (fun x:Sl3=>x.v) (fun _=>True) (fun x F=>sl tyB x.v r::F) := by
 refine CSpec.of_body Tryz.func20 rfl Tryz.ntmps20 rfl fun F => ?_
 show CJ _ _ _ _ _ _ (F)
 unfold zh4 at h
 refine sR <| oA rfl rfl <| nT <| sR <| oA rfl rfl <| nT <| zac <| sR <| oA rfl rfl <| nT <| zde (fun h hh=>zdj (t:=tyB) h hh) ?_
 obtain ⟨y4,hl2,hK3⟩ := zfw h
 refine zbv (X:=(List Bool) × Sl3) [3,4,5,6,7,8,9,10,11,12,13,14,15,16,17] (fun ⟨a7,hd6⟩=>([(3,hd6.v)]:Slots)) (fun ⟨a7,hd6⟩ R=>sl tyB hd6.v a7::R) (fun ⟨a7,hd6⟩=>y4=a7) (Dels.cons del0 Dels.nil) ?_ ?_
 ·
  refine zaw <| zbd (X:=Nat × (List Bool) × Nat × Sl3) [3,4,5,6,7,8,9,10,11,12,13,14,15,16,17] (fun ⟨n,x8,x10,hd9⟩=>([(3,hd9.v),(4,.int .i64 (((x10:Nat):Int)))]:Slots)) (fun ⟨n,x8,x10,hd9⟩ R=>sl tyB hd9.v x8::R) (fun ⟨n,x8,x10,hd9⟩=>zhf w n x8 x10=some y4) (fun ⟨n,x8,x10,hd9⟩=>n) ⟨FUEL,[],0,⟨none,0,0⟩⟩ ?_ ?_ eR ?_
  · exact hl2
  · exact ⟨rfl,rfl,True.intro⟩
  ·
   rintro ⟨n,x8,x10,hd9⟩ h
   cases n with
   | zero=>exact zbq h
   | succ n => ?_
   replace h:zgo w (zhf w n) x8 x10=some y4 := h
   unfold zgo at h
   show CJ _ _ _ _ _ (([(3,hd9.v),(4,.int .i64 (((x10:Nat):Int)))]:Slots) ++ forget _ _) (sl tyB hd9.v x8::_)
   refine lC del0 fun hlen11=>zac <| sR <| oM rfl rfl <| oP (P_lss (a:=((x10:Nat):Int)) (b:=(192:Int)) rfl rfl) rfl <| nT <| zan rfl zab (fun hg1 => ?_) (fun hg1 => ?_)
   ·
    replace h := ite_t hg1 h
    refine kT <| zac <| zaw <| zaf <| oM rfl rfl <| oM rfl rfl <| oM rfl rfl <| oP (PJ_eq (P_rem (a:=((x10:Nat):Int)) (b:=(64:Int)) rfl rfl (by omega)) rfl) rfl <| oP (zur (a:=w) (m:=(x10 % 64)) rfl rfl rfl) rfl <| oP (zup (a:=(zik w (x10 % 64))) (b:=(1:UInt64)) rfl rfl) rfl <| oP (zpt (a:=((zik w (x10 % 64)) &&& (1:UInt64))) (b:=(1:UInt64)) rfl rfl) rfl <| oO <| zbf rfl (z0o _) rfl fun b12 => ?_
    obtain ⟨hg2,h⟩ := zfo h
    exact oO <| zc9 (t:=tyB) (bytes:=1) rfl rfl del1 foc0 (Reads.lit (t:=tyB) (ys:=[(decide (((zik w (x10 % 64)) &&& (1:UInt64))=(1:UInt64)))]) rfl rfl (by decide) (by decide) rfl) Tryz.underlying34 ok_tyB (apl (m:=1) (b:=1) hg2 (by decide)).1 (apl (m:=1) (b:=1) hg2 (by decide)).2 rfl fun p14 c15=>oA rfl rfl <| zap <| zao <| zam <| zaf <| oM rfl rfl <| oP (PJ_eq (P_add (a:=((x10:Nat):Int)) (b:=(1:Int)) rfl rfl (by omega)) rfl) rfl <| oA rfl rfl <| zap <| nR ⟨n,(x8 ++ [(decide (((zik w (x10 % 64)) &&& (1:UInt64))=(1:UInt64)))]),(x10 + 1),⟨p14,(x8 ++ [(decide (((zik w (x10 % 64)) &&& (1:UInt64))=(1:UInt64)))]).length,c15⟩⟩ h ⟨rfl,rfl,True.intro⟩ (t0_ (eD eR))
   ·
    replace h := ite_f hg1 h
    exact zbj <| za3 <| za2 <| za0 <| cR ⟨x8,hd9⟩ (Option.some.inj h).symm ⟨rfl,True.intro⟩ eR
 ·
  rintro ⟨a7,hd6⟩ hy16
  replace h := zd2 hK3 hy16
  show CJ _ _ _ _ _ (([(3,hd6.v)]:Slots) ++ forget _ _) (sl tyB hd6.v a7::_)
  refine lC del0 fun hlen17=>sR <| oM rfl rfl <| oA rfl rfl <| nT <| zah ?_
  cases h
  exact fE (res1 Tryz.results20 rfl) hd6 eR
def zgz (x_0:Dvc) (at_1:Int) (n_2:Int) (s:ArrS) (rec:Nat→(List UInt64)→Option (((List UInt64)) ⊕ ((List UInt64) × Int))) (x14:Nat) (x15:List UInt64):Option (((List UInt64)) ⊕ ((List UInt64) × Int)) :=
  if (((x14:Nat):Int) < n_2) then
    grd (inI64 ((at_1 + ((x14:Nat):Int)))) <|
    Option.bind (Dvc.rd x_0 s ((at_1 + ((x14:Nat):Int)))) fun r19 =>
    if (r19.2≠(0:Int)) then
      some (.inr ([],r19.2))
    else
      grd (inLen (x15.length + 1)) <|
      grd (inN64 (x14 + 1)) <|
      rec (x14 + 1) (x15 ++ [r19.1])
  else
    some (.inl x15)
def zht (x_0:Dvc) (at_1:Int) (n_2:Int) (s:ArrS):Nat→Nat→(List UInt64)→Option (((List UInt64)) ⊕ ((List UInt64) × Int))
  | 0,_,_=>none
  | n + 1,x14,x15=>zgz x_0 at_1 n_2 s (zht x_0 at_1 n_2 s n) x14 x15
def zi1 (x_0:Dvc) (at_1:Int) (n_2:Int) (s:ArrS):Option ((List UInt64) × Int) :=
  Option.bind (Dvc.size x_0 s) fun r2 =>
  Option.bind (zgw r2 at_1 n_2) fun r4 =>
  if (¬ r4=true) then
    some (([],(1:Int)))
  else
    seqO (zht x_0 at_1 n_2 s FUEL 0 ([])) fun a13 =>
    some ((a13,(0:Int)))
theorem ztd {W:World} {vx_0:IfH} {bs:Nat} {x_0:Dvc} {at_1:Int} {n_2:Int} {s:ArrS} {r:(List UInt64) × Int} (h:zi1 x_0 at_1 n_2 s=some r) :
    CSpec Tryz.prog W 113 [IfH.v vx_0,.int .i64 at_1,.int .i64 n_2] [DevP bs x_0 vx_0,Arr bs s] (fun x:Sl3 => .tuple #[x.v,.int .i64 r.2]) (fun _=>True) (fun x F=>DevP bs x_0 vx_0::Arr bs s::sl tyU x.v r.1::F) := by
 refine CSpec.of_body Tryz.func113 rfl Tryz.ntmps113 rfl fun F => ?_
 show CJ _ _ _ _ _ _ (_::_::F)
 unfold zi1 at h
 refine sR <| oA rfl rfl <| oA rfl rfl <| nT <| zac <| sR <| oM rfl rfl <| zcl (fun h hh=>zd3 h (zaq (del0 (A:=DevP bs x_0 vx_0)).out h hh)) fun hdp1 => ?_
 obtain ⟨r2,hr3,h⟩ := zar h
 refine oO <| zc8 rfl (zlx hr3 hdp1) rfl (Dels.cons del0 (Dels.cons del0 Dels.nil)) rfl fun _ _=>oM rfl rfl <| oM rfl rfl ?_
 obtain ⟨r4,hr5,h⟩ := zar h
 refine oO <| zat (zj2 hr5) rfl Tryz.call111 Dels.nil rfl fun _ _=>oP (P_not rfl) rfl <| nT <| zan rfl (zdk Iff.rfl) (fun hg1 => ?_) (fun hg1 => ?_)
 ·
  replace h := ite_t hg1 h
  refine sR <| oA rfl rfl <| oA rfl rfl <| nT <| zah <| zad <| zas (fun h hh=>zdj (t:=tyU) h hh) ?_
  cases h
  exact fE (res2 Tryz.results113 rfl rfl) ⟨none,0,0⟩ (t1_ (t1_ eR))
 ·
  replace h := ite_f hg1 h
  refine kT <| sR <| oA rfl rfl <| nT <| zac <| sR <| oM rfl rfl <| oM rfl rfl <| nT <| zde (fun h hh=>zdj (t:=tyU) h hh) ?_
  obtain ⟨y10,hl8,hK9⟩ := seq_e h
  refine zbv (X:=(List UInt64) × Sl3) [6,7,8,9,10,11,19,20,21,22,23,24,25,26,27,28,29,30,31,32,33,34,35,36,37] (fun ⟨a13,hd12⟩=>([(8,hd12.v)]:Slots)) (fun ⟨a13,hd12⟩ R=>sl tyU hd12.v a13::R) (fun ⟨a13,hd12⟩=>y10 = .inl a13) (Dels.cons del0 Dels.nil) ?_ ?_
  ·
   refine zaw <| zbd (X:=Nat × Nat × (List UInt64) × Sl3) [6,7,8,9,10,11,19,20,21,22,23,24,25,26,27,28,29,30,31,32,33,34,35,36,37] (fun ⟨n,x14,x15,hd16⟩=>([(8,hd16.v),(19,.int .i64 (((x14:Nat):Int)))]:Slots)) (fun ⟨n,x14,x15,hd16⟩ R=>sl tyU hd16.v x15::R) (fun ⟨n,x14,x15,hd16⟩=>zht x_0 at_1 n_2 s n x14 x15=some y10) (fun ⟨n,x14,x15,hd16⟩=>n) ⟨FUEL,0,[],⟨none,0,0⟩⟩ ?_ ?_ eR ?_
   · exact hl8
   · exact ⟨rfl,rfl,True.intro⟩
   ·
    rintro ⟨n,x14,x15,hd16⟩ h
    cases n with
    | zero=>exact zbq h
    | succ n => ?_
    replace h:zgz x_0 at_1 n_2 s (zht x_0 at_1 n_2 s n) x14 x15=some y10 := h
    unfold zgz at h
    show CJ _ _ _ _ _ (([(8,hd16.v),(19,.int .i64 (((x14:Nat):Int)))]:Slots) ++ forget _ _) (sl tyU hd16.v x15::_)
    refine lC del0 fun hlen17=>sR <| oP (P_lss (a:=((x14:Nat):Int)) (b:=n_2) rfl rfl) rfl <| nT <| zac <| zan rfl zab (fun hg2 => ?_) (fun hg2 => ?_)
    ·
     replace h := ite_t hg2 h
     refine kT <| zac <| zaw <| sR <| oM rfl rfl <| oA rfl rfl <| nT <| sR <| oM rfl rfl <| oM rfl rfl <| oM rfl rfl ?_
     obtain ⟨hg3,h⟩ := zd7 h
     refine oP (P_add (a:=at_1) (b:=((x14:Nat):Int)) rfl rfl hg3) rfl <| zcl (fun h hh=>zd3 h (zaq (del1 (A:=DevP bs x_0 vx_0)).out h hh)) fun hdp18 => ?_
     obtain ⟨r19,hr20,h⟩ := zar h
     refine oO <| zc8 rfl (zsc hr20 hdp18) rfl (Dels.cons del1 (Dels.cons del1 Dels.nil)) rfl fun _ _=>oM rfl rfl <| oP (za4 rfl rfl) rfl <| oP (za4 rfl rfl) rfl <| oA rfl rfl <| oA rfl rfl <| nT <| zac <| sR <| oM rfl rfl <| oP (P_neq (a:=r19.2) (b:=(0:Int)) rfl rfl) rfl <| nT <| zan rfl zab (fun hg4 => ?_) (fun hg4 => ?_)
     ·
      replace h := ite_t hg4 h
      refine sR <| oM rfl rfl <| oA rfl rfl <| oA rfl rfl <| nT <| zah <| zad <| zau <| zad <| za9 <| zau <| zad <| zas (fun h hh=>zdj (t:=tyU) h hh) ?_
      have hE := Option.some.inj h
      replace hE := zce hK9 hE.symm
      subst hE
      exact fE (res2 Tryz.results113 rfl rfl) ⟨none,0,0⟩ (t1_ (t1_ (t0_ (eD eR))))
     ·
      replace h := ite_f hg4 h
      refine kT <| zaf <| oM rfl rfl <| oM rfl rfl <| oO <| zbf rfl (zu1 _) rfl fun b22 => ?_
      obtain ⟨hg5,h⟩ := zfo h
      refine oO <| zc9 (t:=tyU) (bytes:=8) rfl rfl del3 foc0 (Reads.lit (t:=tyU) (ys:=[r19.1]) rfl rfl (by decide) (by decide) rfl) Tryz.underlying29 znd (apl (m:=1) (b:=8) hg5 (by decide)).1 (apl (m:=1) (b:=8) hg5 (by decide)).2 rfl fun p24 c25=>oA rfl rfl <| zap <| zao <| zam <| zaf ?_
      obtain ⟨hg6,h⟩ := zfg h
      exact oP (PJ_eq (P_add (a:=((x14:Nat):Int)) (b:=(1:Int)) rfl rfl (zfh hg6)) rfl) rfl <| oM rfl rfl <| zap <| nR ⟨n,(x14 + 1),(x15 ++ [r19.1]),⟨p24,(x15 ++ [r19.1]).length,c25⟩⟩ h ⟨rfl,rfl,True.intro⟩ (t0_ (t1_ (t1_ (eD eR))))
    ·
     replace h := ite_f hg2 h
     exact zbj <| za3 <| za2 <| za0 <| cR ⟨x15,hd16⟩ (Option.some.inj h).symm ⟨rfl,True.intro⟩ eR
  ·
   rintro ⟨a13,hd12⟩ hy26
   replace h := zd0 hK9 hy26
   show CJ _ _ _ _ _ (([(8,hd12.v)]:Slots) ++ forget _ _) (sl tyU hd12.v a13::_)
   refine lC del0 fun hlen27=>sR <| oM rfl rfl <| oA rfl rfl <| oA rfl rfl <| nT <| zah ?_
   cases h
   exact fE (res2 Tryz.results113 rfl rfl) hd12 (t1_ (t1_ eR))
def zig (x_0:Dvc) (at_1:Int) (l:List UInt64) (rec:ArrS→Nat→Option ((ArrS) ⊕ (Int × ArrS))) (x12:ArrS) (x13:Nat):Option ((ArrS) ⊕ (Int × ArrS)) :=
  if (((x13:Nat):Int) < ((l.length:Nat):Int)) then
    grd (inI64 ((at_1 + ((x13:Nat):Int)))) <|
    Option.bind (Dvc.wr x_0 x12 ((at_1 + ((x13:Nat):Int))) (l.getD x13 0)) fun r15 =>
    if (r15.1≠(0:Int)) then
      some (.inr (r15.1,r15.2))
    else
      rec r15.2 (x13 + 1)
  else
    some (.inl x12)
def zi4 (x_0:Dvc) (at_1:Int) (l:List UInt64):Nat→ArrS→Nat→Option ((ArrS) ⊕ (Int × ArrS))
  | 0,_,_=>none
  | n + 1,x12,x13=>zig x_0 at_1 l (zi4 x_0 at_1 l n) x12 x13
def zj5 (x_0:Dvc) (at_1:Int) (l:List UInt64) (s:ArrS):Option (Int × ArrS) :=
  Option.bind (Dvc.size x_0 s) fun r3 =>
  Option.bind (zgw r3 at_1 (((l.length:Nat):Int))) fun r5 =>
  if (¬ r5=true) then
    some (((1:Int),s))
  else
    seqO (zi4 x_0 at_1 l FUEL s 0) fun a11 =>
    some (((0:Int),a11))
theorem zsf {W:World} {vx_0:IfH} {Al:HP} {vl:Value} {bs:Nat} {x_0:Dvc} {at_1:Int} {l:List UInt64} {s:ArrS} {r:Int × ArrS} (rl:Reads Al tyU vl l) (h:zj5 x_0 at_1 l s=some r) :
    CSpec Tryz.prog W 88 [IfH.v vx_0,.int .i64 at_1,vl] [DevP bs x_0 vx_0,Al,Arr bs s] (fun x:Unit => .int .i64 r.1) (fun _=>True) (fun x F=>DevP bs x_0 vx_0::Al::Arr bs r.2::F) := by
 refine CSpec.of_body Tryz.func88 rfl Tryz.ntmps88 rfl fun F => ?_
 show CJ _ _ _ _ _ _ (_::_::_::F)
 unfold zj5 at h
 refine za1 (zcg rl del1) fun hlen1=>sR <| oA rfl rfl <| nT <| zac <| sR <| oM rfl rfl <| zcl (fun h hh=>zd3 h (zaq (del0 (A:=DevP bs x_0 vx_0)).out h hh)) fun hdp2 => ?_
 obtain ⟨r3,hr4,h⟩ := zar h
 refine oO <| zc8 rfl (zlx hr4 hdp2) rfl (Dels.cons del0 (Dels.cons del1 Dels.nil)) rfl fun _ _=>oM rfl rfl <| oM rfl rfl <| oV (V_len rfl foc2 rl Tryz.runUnderlying29) rfl ?_
 obtain ⟨r5,hr6,h⟩ := zar h
 refine oO <| zat (zj2 hr6) rfl Tryz.call111 Dels.nil rfl fun _ _=>oP (P_not rfl) rfl <| nT <| zan rfl (zdk Iff.rfl) (fun hg1 => ?_) (fun hg1 => ?_)
 ·
  replace h := ite_t hg1 h
  refine sR <| oA rfl rfl <| nT <| zah <| zad ?_
  cases h
  exact fE (res1 Tryz.results88 rfl) () (t0_ (t1_ eR))
 ·
  replace h := ite_f hg1 h
  refine kT <| zac <| sR <| oM rfl rfl <| oV (V_len rfl foc2 rl Tryz.runUnderlying29) rfl <| oM rfl rfl <| nT ?_
  obtain ⟨y9,hl7,hK8⟩ := seq_e h
  refine zbv (X:=ArrS) [6,7,8,9,19,20,21,22,23,24,25,26,27,28,29,30,31,32,33] (fun a11=>([]:Slots)) (fun a11 R=>Arr bs a11::R) (fun a11=>y9 = .inl a11) (Dels.cons del1 Dels.nil) ?_ ?_
  ·
   refine zaw <| zbd (X:=Nat × ArrS × Nat) [6,7,8,9,19,20,21,22,23,24,25,26,27,28,29,30,31,32,33] (fun ⟨n,x12,x13⟩=>([(19,.int .i64 (((x13:Nat):Int)))]:Slots)) (fun ⟨n,x12,x13⟩ R=>Arr bs x12::R) (fun ⟨n,x12,x13⟩=>zi4 x_0 at_1 l n x12 x13=some y9) (fun ⟨n,x12,x13⟩=>n) ⟨FUEL,s,0⟩ ?_ ?_ (t1_ eR) ?_
   · exact hl7
   · exact ⟨rfl,True.intro⟩
   ·
    rintro ⟨n,x12,x13⟩ h
    cases n with
    | zero=>exact zbq h
    | succ n => ?_
    replace h:zig x_0 at_1 l (zi4 x_0 at_1 l n) x12 x13=some y9 := h
    unfold zig at h
    show CJ _ _ _ _ _ (([(19,.int .i64 (((x13:Nat):Int)))]:Slots) ++ forget _ _) (Arr bs x12::_)
    refine sR <| oP (P_lss (a:=((x13:Nat):Int)) (b:=((l.length:Nat):Int)) rfl rfl) rfl <| nT <| zac <| zan rfl zab (fun hg2 => ?_) (fun hg2 => ?_)
    ·
     replace h := ite_t hg2 h
     refine kT <| zac <| zaw <| sR <| oM rfl rfl <| oV (zay (i:=x13) rfl rfl rfl (by omega) foc2 rl Tryz.runUnderlying29 Tryz.sizeOf23) rfl <| oV (za6 rfl rfl (by omega) foc2 rl rfl rfl Tryz.isAgg23) rfl <| oA rfl rfl <| oA rfl rfl <| nT <| sR <| oM rfl rfl <| oM rfl rfl <| oM rfl rfl ?_
     obtain ⟨hg3,h⟩ := zd7 h
     refine oP (P_add (a:=at_1) (b:=((x13:Nat):Int)) rfl rfl hg3) rfl <| oM rfl rfl <| zcl (fun h hh=>zd3 h (zaq (del1 (A:=DevP bs x_0 vx_0)).out h hh)) fun hdp14 => ?_
     obtain ⟨r15,hr16,h⟩ := zar h
     refine oO <| zc8 rfl (zjn hr16 hdp14) rfl (Dels.cons del1 (Dels.cons del0 Dels.nil)) rfl fun _ _=>oA rfl rfl <| nT <| sR <| oM rfl rfl <| oP (P_neq (a:=r15.1) (b:=(0:Int)) rfl rfl) rfl <| nT <| zan rfl zab (fun hg4 => ?_) (fun hg4 => ?_)
     ·
      replace h := ite_t hg4 h
      refine sR <| oM rfl rfl <| oA rfl rfl <| nT <| zah <| zau <| zad <| za9 <| zau <| zad ?_
      have hE := Option.some.inj h
      replace hE := zce hK8 hE.symm
      subst hE
      exact fE (res1 Tryz.results88 rfl) () (t0_ (t1_ eR))
     ·
      replace h := ite_f hg4 h
      exact zbr <| zao <| zam <| zaf <| oP (PJ_eq (P_add (a:=((x13:Nat):Int)) (b:=(1:Int)) rfl rfl (by omega)) rfl) rfl <| oM rfl rfl <| zap <| nR ⟨n,r15.2,(x13 + 1)⟩ h ⟨rfl,True.intro⟩ (t1_ eR)
    ·
     replace h := ite_f hg2 h
     exact zbj <| za3 <| za2 <| za0 <| cR x12 (Option.some.inj h).symm True.intro eR
  ·
   rintro a11 hy17
   replace h := zd0 hK8 hy17
   show CJ _ _ _ _ _ (([]:Slots) ++ forget _ _) (Arr bs a11::_)
   refine sR <| oA rfl rfl <| nT <| zah ?_
   cases h
   exact fE (res1 Tryz.results88 rfl) () (t1_ (t1_ eR))
theorem z3k:zfb Tryz.prog 29 0 [] 23 [] := fun w=>by kernel_rfl
theorem zwk {W:World} {A:HP} {v:Sl3} {xs:List (UInt64)} (hA:Reads A tyU v.v xs) (hl:xs.length≤1000000000) :
    CSpec Tryz.prog W 55 [v.v] [A] (fun x:Sl3=>x.v) (fun _=>True) (fun x F=>sl tyU x.v xs::A::F) := by
 refine CSpec.of_body Tryz.func55 rfl Tryz.ntmps55 rfl fun F => ?_
 show CJ _ _ _ _ _ _ (_::F)
 have hll := hl
 refine zac <| zaf <| RJ_op rfl <| OJ_P (zb0 rfl) rfl <| zap <| zam <| zac <| zac <| zaf <| RJ_op rfl <| OJ_P (zaj rfl) rfl <| RJ_op rfl <| OJ_P (z24 rfl rfl Tryz.underlying29) rfl <| zap <| zam ?_
 first | (refine zcu rfl (fun hg1 => ?_) (fun hg1 => ?_)) | (refine zcv rfl (fun hg1 => ?_) (fun hg1 => ?_)) | (refine zct rfl (fun hg1 => ?_) (fun hg1 => ?_))
 ·
  refine zac <| zaf <| RJ_op rfl <| OJ_P (zb0 rfl) rfl <| zap <| zam <| zah <| zad <| zcp (res1 Tryz.results55 rfl) ?_
  obtain ⟨vp,vn,vc⟩ := v
  obtain rfl:vp=none := by simpa using hg1
  refine fun w hs => ?_
  obtain rfl := zy9 hA _ hs.heap.choose_spec
  revert w hs
  show ∀ w,St W w _→_
  refine CSpec.close ⟨none,0,0⟩ ?_ ?_ (Ent.trans (fun h hh=>zdj (t:=tyU) h hh) eR)
  · rfl
  · trivial
 ·
  refine zbr <| zam <| zac <| zaf <| RJ_op rfl <| zbf rfl (z3k) rfl fun b1=>zbb (Ent.trans (t0_ eR) (zjl (t:=tyU) (m:=0) [] rfl rfl rfl (by decide))) <| oM rfl rfl <| oO <| zc9 (t:=tyU) (bytes:=8) rfl rfl del0 foc0 hA Tryz.underlying29 znd (apl (m:=xs.length) (b:=8) (by simpa using hll) (by decide)).1 (apl (m:=xs.length) (b:=8) (by simpa using hll) (by decide)).2 rfl fun p2 c3=>oO <| OJ_P (zb0 rfl) rfl <| zap <| zam <| zah <| zcp (res1 Tryz.results55 rfl) <| CSpec.close ⟨p2,_,c3⟩ ?_ ?_ (t0_ (t0_ eR))
  · rfl
  · trivial
theorem zzb {W:World} {A:HP} {v:Value} {xs:List (UInt64)} (hA:Reads A tyU v xs) (hl:xs.length≤1000000000) :
    CSpec Tryz.prog W 55 [v] [A] (fun x:Sl3=>x.v) (fun _=>True) (fun x F=>sl tyU x.v xs::A::F) := by
  intro F w hs
  obtain ⟨h,hh⟩ := hs.heap
  obtain ⟨h1,h2,_,_,hh1,_⟩ := hh
  obtain ⟨x,rfl⟩ := zx3 hA hh1
  exact zwk hA hl F w hs
def zoa (l:List UInt64) (n_1:Int):Option (Bool × Int) :=
  if ((n_1 < (0:Int))∨(((l.length:Nat):Int)≤(IntKind.i64.wrap (n_1.tdiv (64:Int))))) then
    some ((false,(1:Int)))
  else
    grd (decide (0≤(IntKind.i64.wrap (n_1.tdiv (64:Int)))∧(IntKind.i64.wrap (n_1.tdiv (64:Int))) < (l.length:Int))) <|
    lt ((zik ((l.getD (((IntKind.i64.wrap (n_1.tdiv (64:Int)))).toNat) 0)) (((n_1 % (64:Int))).toNat))) fun w12 =>
    some (((decide ((w12 &&& (1:UInt64))=(1:UInt64))),(0:Int)))
theorem zzc {W:World} {Al:HP} {vl:Value} {l:List UInt64} {n_1:Int} {r:Bool × Int} (rl:Reads Al tyU vl l) (h:zoa l n_1=some r) :
    CSpec Tryz.prog W 114 [vl,.int .i64 n_1] [Al] (fun x:Unit => .tuple #[.bool r.1,.int .i64 r.2]) (fun _=>True) (fun x F=>Al::F) := by
 refine CSpec.of_body Tryz.func114 rfl Tryz.ntmps114 rfl fun F => ?_
 show CJ _ _ _ _ _ _ (_::F)
 unfold zoa at h
 refine za1 (zcg rl del0) fun hlen1=>sR <| oA rfl rfl <| oA rfl rfl <| nT <| zac <| sR <| oM rfl rfl <| oP (P_lss (a:=n_1) (b:=(0:Int)) rfl rfl) rfl <| oM rfl rfl <| zaz rfl rfl rfl (fun hG2=>have hP3:¬ (n_1 < (0:Int)) := nP (zab) hG2; VJ_P (zaj rfl)) <| zaz rfl rfl rfl (fun hG4=>have hP5:¬ (n_1 < (0:Int)) := nP (zab) hG4; VJ_P (zko (a:=n_1) (b:=(64:Int)) (mbx hG4 rfl) rfl (by decide))) <| zaz rfl rfl rfl (fun hG6=>have hP7:¬ (n_1 < (0:Int)) := nP (zab) hG6; VJ_P (zaj rfl)) <| zaz rfl rfl rfl (fun hG8=>have hP9:¬ (n_1 < (0:Int)) := nP (zab) hG8; V_len (mbx hG8 rfl) foc0 rl Tryz.runUnderlying29) <| zaz rfl rfl rfl (fun hG10=>have hP11:¬ (n_1 < (0:Int)) := nP (zab) hG10; VJ_P (P_geq (a:=(IntKind.i64.wrap (n_1.tdiv (64:Int)))) (b:=((l.length:Nat):Int)) (mbx hG10 rfl) (mbx hG10 rfl))) <| oP (zcw rfl rfl (fun hh=>mbx (not_f hh) rfl)) rfl <| nT <| zan rfl (bT_or zab zab) (fun hg1 => ?_) (fun hg1 => ?_)
 ·
  replace h := ite_t hg1 h
  refine sR <| oA rfl rfl <| oA rfl rfl <| nT <| zah <| zad ?_
  cases h
  exact fE (res2 Tryz.results114 rfl rfl) () eR
 ·
  replace h := ite_f hg1 h
  refine kT <| sR <| oM rfl rfl <| oM rfl rfl <| oP (zko (a:=n_1) (b:=(64:Int)) rfl rfl (by decide)) rfl ?_
  obtain ⟨hg2,h⟩ := zbt h
  refine oV (zay (i:=((IntKind.i64.wrap (n_1.tdiv (64:Int)))).toNat) rfl rfl (Int.toNat_of_nonneg (hg2.1)).symm (by omega) foc0 rl Tryz.runUnderlying29 Tryz.sizeOf23) rfl <| oV (za6 rfl rfl (by omega) foc0 rl rfl rfl Tryz.isAgg23) rfl <| oM rfl rfl <| oP (P_rem (a:=n_1) (b:=(64:Int)) rfl rfl (by omega)) rfl <| oP (zur (a:=(l.getD (((IntKind.i64.wrap (n_1.tdiv (64:Int)))).toNat) 0)) (m:=((n_1 % (64:Int))).toNat) rfl rfl (Int.toNat_of_nonneg (by omega)).symm) rfl ?_
  obtain ⟨w12,hw12,h⟩ := lt_e h
  rw [← hw12]
  refine oP (zup (a:=w12) (b:=(1:UInt64)) rfl rfl) rfl <| oP (zpt (a:=(w12 &&& (1:UInt64))) (b:=(1:UInt64)) rfl rfl) rfl <| oA rfl rfl <| oA rfl rfl <| nT <| zah ?_
  cases h
  exact fE (res2 Tryz.results114 rfl rfl) () eR
def zlp (l:List UInt64) (n_1:Int) (is:Bool):Option ((List UInt64) × Int) :=
  if ((n_1 < (0:Int))∨(((l.length:Nat):Int)≤(IntKind.i64.wrap (n_1.tdiv (64:Int))))) then
    some (([],(1:Int)))
  else
    grd (inLen l.length) <|
    if is=true then
      grd (decide (0≤(IntKind.i64.wrap (n_1.tdiv (64:Int)))∧(IntKind.i64.wrap (n_1.tdiv (64:Int))) < (l.length:Int))) <|
      lt (((l.getD (((IntKind.i64.wrap (n_1.tdiv (64:Int)))).toNat) 0) ||| (zj0 (1:UInt64) (((n_1 % (64:Int))).toNat)))) fun w16 =>
      grd (decide (0≤(IntKind.i64.wrap (n_1.tdiv (64:Int)))∧(IntKind.i64.wrap (n_1.tdiv (64:Int))) < (l.length:Int))) <|
      some (((l.set (((IntKind.i64.wrap (n_1.tdiv (64:Int)))).toNat) w16),(0:Int)))
    else
      grd (decide (0≤(IntKind.i64.wrap (n_1.tdiv (64:Int)))∧(IntKind.i64.wrap (n_1.tdiv (64:Int))) < (l.length:Int))) <|
      lt (((l.getD (((IntKind.i64.wrap (n_1.tdiv (64:Int)))).toNat) 0) &&& ~~~(zj0 (1:UInt64) (((n_1 % (64:Int))).toNat)))) fun w17 =>
      grd (decide (0≤(IntKind.i64.wrap (n_1.tdiv (64:Int)))∧(IntKind.i64.wrap (n_1.tdiv (64:Int))) < (l.length:Int))) <|
      some (((l.set (((IntKind.i64.wrap (n_1.tdiv (64:Int)))).toNat) w17),(0:Int)))
theorem zvr {W:World} {Al:HP} {vl:Value} {l:List UInt64} {n_1:Int} {is:Bool} {r:(List UInt64) × Int} (rl:Reads Al tyU vl l) (h:zlp l n_1 is=some r) :
    CSpec Tryz.prog W 115 [vl,.int .i64 n_1,.bool is] [Al] (fun x:Sl3 => .tuple #[x.v,.int .i64 r.2]) (fun _=>True) (fun x F=>Al::sl tyU x.v r.1::F) := by
 refine CSpec.of_body Tryz.func115 rfl Tryz.ntmps115 rfl fun F => ?_
 show CJ _ _ _ _ _ _ (_::F)
 unfold zlp at h
 refine za1 (zcg rl del0) fun hlen1=>sR <| oA rfl rfl <| oA rfl rfl <| nT <| zac <| sR <| oM rfl rfl <| oP (P_lss (a:=n_1) (b:=(0:Int)) rfl rfl) rfl <| oM rfl rfl <| zaz rfl rfl rfl (fun hG2=>have hP3:¬ (n_1 < (0:Int)) := nP (zab) hG2; VJ_P (zaj rfl)) <| zaz rfl rfl rfl (fun hG4=>have hP5:¬ (n_1 < (0:Int)) := nP (zab) hG4; VJ_P (zko (a:=n_1) (b:=(64:Int)) (mbx hG4 rfl) rfl (by decide))) <| zaz rfl rfl rfl (fun hG6=>have hP7:¬ (n_1 < (0:Int)) := nP (zab) hG6; VJ_P (zaj rfl)) <| zaz rfl rfl rfl (fun hG8=>have hP9:¬ (n_1 < (0:Int)) := nP (zab) hG8; V_len (mbx hG8 rfl) foc0 rl Tryz.runUnderlying29) <| zaz rfl rfl rfl (fun hG10=>have hP11:¬ (n_1 < (0:Int)) := nP (zab) hG10; VJ_P (P_geq (a:=(IntKind.i64.wrap (n_1.tdiv (64:Int)))) (b:=((l.length:Nat):Int)) (mbx hG10 rfl) (mbx hG10 rfl))) <| oP (zcw rfl rfl (fun hh=>mbx (not_f hh) rfl)) rfl <| nT <| zan rfl (bT_or zab zab) (fun hg1 => ?_) (fun hg1 => ?_)
 ·
  replace h := ite_t hg1 h
  refine sR <| oA rfl rfl <| oA rfl rfl <| nT <| zah <| zad <| zas (fun h hh=>zdj (t:=tyU) h hh) ?_
  cases h
  exact fE (res2 Tryz.results115 rfl rfl) ⟨none,0,0⟩ (t1_ eR)
 ·
  replace h := ite_f hg1 h
  refine kT <| sR <| oM rfl rfl ?_
  obtain ⟨hg2,h⟩ := zfo h
  refine oO <| zat (zzb rl hg2) rfl Tryz.call55 (Dels.cons del0 Dels.nil) rfl fun X13 _=>zcl (zcg (Reads.sl _ _ _) del0) fun hlen15=>oA rfl rfl <| nT <| zac <| sR <| oM rfl rfl <| nT <| zan rfl Iff.rfl (fun hg3 => ?_) (fun hg3 => ?_)
  ·
   replace h := ite_t hg3 h
   refine zbc 1024 (by kernel_rfl) rfl <| aN 0 1 rfl rfl (zaj rfl) rfl <| aN 1 3 rfl rfl (zaj rfl) rfl <| aN 2 7 rfl rfl (zko (a:=n_1) (b:=(64:Int)) rfl rfl (by decide)) rfl ?_
   obtain ⟨hg4,h⟩ := zbt h
   refine aV 3 15 rfl rfl (zak rfl) eR (zay (i:=((IntKind.i64.wrap (n_1.tdiv (64:Int)))).toNat) rfl rfl (Int.toNat_of_nonneg (hg4.1)).symm (by omega) foc0 (Reads.sl _ _ _) Tryz.runUnderlying29 Tryz.sizeOf23) rfl <| aV 4 31 rfl rfl (zak rfl) eR (za6 rfl rfl (by omega) foc0 (Reads.sl _ _ _) rfl rfl Tryz.isAgg23) rfl <| aN 5 63 rfl rfl (zaj rfl) rfl <| aN 6 127 rfl rfl (P_rem (a:=n_1) (b:=(64:Int)) rfl rfl (by omega)) rfl <| aN 7 255 rfl rfl (zuq (a:=(1:UInt64)) (m:=((n_1 % (64:Int))).toNat) rfl rfl (Int.toNat_of_nonneg (by omega)).symm) rfl <| aN 8 511 rfl rfl (z1u (a:=(l.getD (((IntKind.i64.wrap (n_1.tdiv (64:Int)))).toNat) 0)) (b:=(zj0 (1:UInt64) (((n_1 % (64:Int))).toNat))) rfl rfl) rfl ?_
   obtain ⟨w16,hw16,h⟩ := lt_e h
   rw [← hw16]
   obtain ⟨hg5,h⟩ := zbt h
   refine aV 9 1023 rfl rfl (zak rfl) eR (zay (i:=((IntKind.i64.wrap (n_1.tdiv (64:Int)))).toNat) rfl rfl (Int.toNat_of_nonneg (hg5.1)).symm (by omega) foc0 (Reads.sl _ _ _) Tryz.runUnderlying29 Tryz.sizeOf23) rfl <| AJ_op 10 2047 rfl (by kernel_rfl) rfl (zak rfl) <| zea (x' := w16) rfl rfl rfl (by omega) foc0 rfl rfl rfl Tryz.sizeOf23 <| ⟨fun h=>absurd h (by decide),?_⟩
   refine aD <| sR <| oM rfl rfl <| oA rfl rfl <| oA rfl rfl <| nT <| zah ?_
   cases h
   exact fE (res2 Tryz.results115 rfl rfl) X13 (t1_ eR)
  ·
   replace h := ite_f hg3 h
   refine zbc 1024 (by kernel_rfl) rfl <| aN 0 1 rfl rfl (zaj rfl) rfl <| aN 1 3 rfl rfl (zaj rfl) rfl <| aN 2 7 rfl rfl (zko (a:=n_1) (b:=(64:Int)) rfl rfl (by decide)) rfl ?_
   obtain ⟨hg6,h⟩ := zbt h
   refine aV 3 15 rfl rfl (zak rfl) eR (zay (i:=((IntKind.i64.wrap (n_1.tdiv (64:Int)))).toNat) rfl rfl (Int.toNat_of_nonneg (hg6.1)).symm (by omega) foc0 (Reads.sl _ _ _) Tryz.runUnderlying29 Tryz.sizeOf23) rfl <| aV 4 31 rfl rfl (zak rfl) eR (za6 rfl rfl (by omega) foc0 (Reads.sl _ _ _) rfl rfl Tryz.isAgg23) rfl <| aN 5 63 rfl rfl (zaj rfl) rfl <| aN 6 127 rfl rfl (P_rem (a:=n_1) (b:=(64:Int)) rfl rfl (by omega)) rfl <| aN 7 255 rfl rfl (zuq (a:=(1:UInt64)) (m:=((n_1 % (64:Int))).toNat) rfl rfl (Int.toNat_of_nonneg (by omega)).symm) rfl <| aN 8 511 rfl rfl (zv4 (a:=(l.getD (((IntKind.i64.wrap (n_1.tdiv (64:Int)))).toNat) 0)) (b:=(zj0 (1:UInt64) (((n_1 % (64:Int))).toNat))) rfl rfl) rfl ?_
   obtain ⟨w17,hw17,h⟩ := lt_e h
   rw [← hw17]
   obtain ⟨hg7,h⟩ := zbt h
   refine aV 9 1023 rfl rfl (zak rfl) eR (zay (i:=((IntKind.i64.wrap (n_1.tdiv (64:Int)))).toNat) rfl rfl (Int.toNat_of_nonneg (hg7.1)).symm (by omega) foc0 (Reads.sl _ _ _) Tryz.runUnderlying29 Tryz.sizeOf23) rfl <| AJ_op 10 2047 rfl (by kernel_rfl) rfl (zak rfl) <| zea (x' := w17) rfl rfl rfl (by omega) foc0 rfl rfl rfl Tryz.sizeOf23 <| ⟨fun h=>absurd h (by decide),?_⟩
   refine aD <| sR <| oM rfl rfl <| oA rfl rfl <| oA rfl rfl <| nT <| zah ?_
   cases h
   exact fE (res2 Tryz.results115 rfl rfl) X13 (t1_ eR)
abbrev mp154:MTy Int Unit := { KT := 3,VT := 185,ek := fun k => .int .i64 k,ev := fun _ => .agg #[] }
theorem zsg:MOk Tryz.prog mp154 154 where
  ty := Tryz.underlying154
  eq := fun a b w=>eq_int Tryz.underlying3 a b w
  chk := fun e a w=>zt0 Tryz.underlying3 e a w 9999
  same := fun a=>by simp [Instr.sameBits]
  kd := ⟨_,Tryz.underlying3,.inr fun a b=>by simp only [Instr.sameNow,if_true]; rfl⟩
structure LogS where
  x:Dvc
  regions:Int
  bits:List UInt64
  durable:List (Int × Unit)
def LogP (a b:Nat) (l:LogS):HP := ex fun h:IfH × Sl3 × Nat=>star [blk b 156 [IfH.v h.1,.int .i64 l.regions,(Sl3.v h.2.1),.map (some h.2.2)],DevP a l.x h.1,RdP tyU (Sl3.v h.2.1) l.bits,mpc mp154 h.2.2 l.durable]
theorem zid {a b:Nat} {l:LogS} {R:List HP} : EntX (LogP a b l::R) fun h:IfH × Sl3 × Nat=>blk b 156 [IfH.v h.1,.int .i64 l.regions,(Sl3.v h.2.1),.map (some h.2.2)]::DevP a l.x h.1::RdP tyU (Sl3.v h.2.1) l.bits::mpc mp154 h.2.2 l.durable::R :=
  fun _ hh=>let ⟨c,hc⟩ := stars_ex.1 hh; ⟨c,stars_star.1 hc⟩
theorem zle {a b:Nat} {v0:Dvc} {v1:Int} {v2:List UInt64} {v3:List (Int × Unit)} {h0:IfH} {h1:Sl3} {h2:Nat} {R:List HP} : Ent (blk b 156 [IfH.v h0,.int .i64 v1,(Sl3.v h1),.map (some h2)]::DevP a v0 h0::RdP tyU (Sl3.v h1) v2::mpc mp154 h2 v3::R) (LogP a b ⟨v0,v1,v2,v3⟩::R) :=
  fun _ hh=>stars_ex.2 ⟨(h0,h1,h2),stars_star.2 hh⟩
theorem zte (v0:TypeId) (v1:Value) (v2:Int) (v3:(Option Addr)) (v4:Nat) (v5:Nat) (v6:(Option Nat)):∀ w,(Instr.build 156 (#[(0,.iface v0 v1),(1,.int .i64 v2),(2,.slice v3 v4 v5),(3,.map v6)]:Array (Nat × Value))).run Tryz.prog w = .ok (.agg #[.iface v0 v1,.int .i64 v2,.slice v3 v4 v5,.map v6]) w := fun w=>by kernel_rfl
theorem z3l:∀ w,(Instr.build 185 (#[]:Array (Nat × Value))).run Tryz.prog w = .ok (.agg #[]) w := fun w=>by kernel_rfl
def zfv (regions:Int):Option (Int) :=
  if ((regions < (1:Int))∨((1048576:Int) < regions)) then
    some (0:Int)
  else
    some (((1:Int) + ((regions + (63:Int)) / (64:Int))))
theorem zi5 {W:World} {regions:Int} {r:Int} (h:zfv regions=some r) :
    CSpec Tryz.prog W 89 [.int .i64 regions] [] (fun x:Unit => .int .i64 r) (fun _=>True) (fun x F=>F) := by
 refine CSpec.of_body Tryz.func89 rfl Tryz.ntmps89 rfl fun F => ?_
 show CJ _ _ _ _ _ _ (F)
 unfold zfv at h
 refine sR <| oA rfl rfl <| nT <| zac <| sR <| oM rfl rfl <| oP (P_lss (a:=regions) (b:=(1:Int)) rfl rfl) rfl <| oM rfl rfl <| zaz rfl rfl rfl (fun hG1=>have hP2:¬ (regions < (1:Int)) := nP (zab) hG1; VJ_P (zaj rfl)) <| zaz rfl rfl rfl (fun hG3=>have hP4:¬ (regions < (1:Int)) := nP (zab) hG3; VJ_P (P_gtr (a:=regions) (b:=(1048576:Int)) (mbx hG3 rfl) rfl)) <| oP (zcw rfl rfl (fun hh=>mbx (not_f hh) rfl)) rfl <| nT <| zan rfl (bT_or zab zab) (fun hg1 => ?_) (fun hg1 => ?_)
 ·
  replace h := ite_t hg1 h
  refine sR <| oA rfl rfl <| nT <| zah <| zad ?_
  cases h
  exact fE (res1 Tryz.results89 rfl) () eR
 ·
  replace h := ite_f hg1 h
  refine kT <| sR <| oM rfl rfl <| oP (P_add (a:=regions) (b:=(63:Int)) rfl rfl (by omega)) rfl <| oP (P_quo (a:=(regions + (63:Int))) (b:=(64:Int)) rfl rfl (by omega)) rfl <| oP (P_add (a:=(1:Int)) (b:=((regions + (63:Int)) / (64:Int))) rfl rfl (by omega)) rfl <| oA rfl rfl <| nT <| zah ?_
  cases h
  exact fE (res1 Tryz.results89 rfl) () eR
def ziy (x_0:Dvc) (regions:Int) (s:ArrS):Option (Int) :=
  Option.bind (zfv regions) fun r1 =>
  if (r1=(0:Int)) then
    some (1:Int)
  else
    Option.bind (Dvc.size x_0 s) fun r4 =>
    if (r4 < r1) then
      some (3:Int)
    else
      some (0:Int)
theorem znn {W:World} {vx_0:IfH} {bs:Nat} {x_0:Dvc} {regions:Int} {s:ArrS} {r:Int} (h:ziy x_0 regions s=some r) :
    CSpec Tryz.prog W 87 [IfH.v vx_0,.int .i64 regions] [DevP bs x_0 vx_0,Arr bs s] (fun x:Unit => .int .i64 r) (fun _=>True) (fun x F=>DevP bs x_0 vx_0::Arr bs s::F) := by
 refine CSpec.of_body Tryz.func87 rfl Tryz.ntmps87 rfl fun F => ?_
 show CJ _ _ _ _ _ _ (_::_::F)
 unfold ziy at h
 refine sR <| oA rfl rfl <| nT <| zac <| sR <| oM rfl rfl ?_
 obtain ⟨r1,hr2,h⟩ := zar h
 refine oO <| zat (zi5 hr2) rfl Tryz.call89 Dels.nil rfl fun _ _=>oA rfl rfl <| nT <| zaw <| sR <| oM rfl rfl <| oP (P_eql (a:=r1) (b:=(0:Int)) rfl rfl) rfl <| oA rfl rfl <| nT <| zan rfl zab (fun hg1 => ?_) (fun hg1 => ?_)
 ·
  replace h := ite_t hg1 h
  refine sR <| oA rfl rfl <| nT <| zah <| zau <| zad ?_
  cases h
  exact fE (res1 Tryz.results87 rfl) () eR
 ·
  replace h := ite_f hg1 h
  refine sR <| oM rfl rfl <| zcl (fun h hh=>zd3 h (zaq (del0 (A:=DevP bs x_0 vx_0)).out h hh)) fun hdp3 => ?_
  obtain ⟨r4,hr5,h⟩ := zar h
  refine oO <| zc8 rfl (zlx hr5 hdp3) rfl (Dels.cons del0 (Dels.cons del0 Dels.nil)) rfl fun _ _=>oM rfl rfl <| oP (P_lss (a:=r4) (b:=r1) rfl rfl) rfl <| oA rfl rfl <| nT <| zan rfl zab (fun hg2 => ?_) (fun hg2 => ?_)
  ·
   replace h := ite_t hg2 h
   refine sR <| oA rfl rfl <| nT <| zah <| zau <| zad ?_
   cases h
   exact fE (res1 Tryz.results87 rfl) () eR
  ·
   replace h := ite_f hg2 h
   refine zbr <| zao <| zam <| sR <| oA rfl rfl <| nT <| zah ?_
   cases h
   exact fE (res1 Tryz.results87 rfl) () eR
def zim (x_0:Dvc) (regions:Int) (s:ArrS):Option (Int × ArrS) :=
  Option.bind (ziy x_0 regions s) fun r1 =>
  if (r1≠(0:Int)) then
    some (r1,s)
  else
    Option.bind (zfv regions) fun r3 =>
    grd (inI64 ((r3 - (1:Int)))) <|
    grd (decide (0≤(r3 - (1:Int))∧(r3 - (1:Int))≤1000000000)) <|
    Option.bind (zj5 x_0 (1:Int) ((List.replicate (((r3 - (1:Int))).toNat) (0:UInt64))) s) fun r6 =>
    if (r6.1≠(0:Int)) then
      some (r6.1,r6.2)
    else
      Option.bind (Dvc.fl x_0 r6.2) fun r9 =>
      if (r9.1≠(0:Int)) then
        some (r9.1,r9.2)
      else
        Option.bind (Dvc.wr x_0 r9.2 (0:Int) (((5498691735368237056:UInt64) + (zh2 regions)))) fun r12 =>
        if (r12.1≠(0:Int)) then
          some (r12.1,r12.2)
        else
          Option.bind (Dvc.fl x_0 r12.2) fun r15 =>
          some (r15.1,r15.2)
theorem zqx {W:World} {vx_0:IfH} {bs:Nat} {x_0:Dvc} {regions:Int} {s:ArrS} {r:Int × ArrS} (h:zim x_0 regions s=some r) :
    CSpec Tryz.prog W 45 [IfH.v vx_0,.int .i64 regions] [DevP bs x_0 vx_0,Arr bs s] (fun x:Unit => .int .i64 r.1) (fun _=>True) (fun x F=>DevP bs x_0 vx_0::Arr bs r.2::F) := by
 refine CSpec.of_body Tryz.func45 rfl Tryz.ntmps45 rfl fun F => ?_
 show CJ _ _ _ _ _ _ (_::_::F)
 unfold zim at h
 refine sR <| oA rfl rfl <| nT <| zac <| sR <| oM rfl rfl <| oM rfl rfl ?_
 obtain ⟨r1,hr2,h⟩ := zar h
 refine oO <| zat (znn hr2) rfl Tryz.call87 (Dels.cons del0 (Dels.cons del0 Dels.nil)) rfl fun _ _=>oA rfl rfl <| nT <| sR <| oM rfl rfl <| oP (P_neq (a:=r1) (b:=(0:Int)) rfl rfl) rfl <| nT <| zan rfl zab (fun hg1 => ?_) (fun hg1 => ?_)
 ·
  replace h := ite_t hg1 h
  refine sR <| oM rfl rfl <| oA rfl rfl <| nT <| zah <| zad ?_
  cases h
  exact fE (res1 Tryz.results45 rfl) () eR
 ·
  replace h := ite_f hg1 h
  refine kT <| zac <| sR <| oM rfl rfl <| oM rfl rfl ?_
  obtain ⟨r3,hr4,h⟩ := zar h
  refine oO <| zat (zi5 hr4) rfl Tryz.call89 Dels.nil rfl fun _ _ => ?_
  obtain ⟨hg2,h⟩ := zd7 h
  refine oP (P_sub (a:=r3) (b:=(1:Int)) rfl rfl hg2) rfl ?_
  obtain ⟨hg3,h⟩ := zbt h
  refine oO <| zkp (t:=tyU) (m:=((r3 - (1:Int))).toNat) (x0:=0) (z:=_) (bytes:=_) rfl rfl (Int.toNat_of_nonneg (hg3.1)).symm (Int.toNat_of_nonneg (hg3.1)).symm Tryz.underlying29 ⟨Tryz.t23,by kernel_rfl,rfl,rfl,rfl⟩ rfl (by omega) (by decide) rfl fun b5 => ?_
  obtain ⟨r6,hr7,h⟩ := zar h
  refine oO <| zat (zsf (Reads.sl _ _ _) hr7) rfl Tryz.call88 (Dels.cons del1 (Dels.cons del0 (Dels.cons del0 Dels.nil))) rfl fun _ _=>oA rfl rfl <| nT <| sR <| oM rfl rfl <| oP (P_neq (a:=r6.1) (b:=(0:Int)) rfl rfl) rfl <| nT <| zan rfl zab (fun hg4 => ?_) (fun hg4 => ?_)
  ·
   replace h := ite_t hg4 h
   refine sR <| oM rfl rfl <| oA rfl rfl <| nT <| zah <| zad ?_
   cases h
   exact fE (res1 Tryz.results45 rfl) () (t0_ (t1_ (eD eR)))
  ·
   replace h := ite_f hg4 h
   refine kT <| zac <| sR <| oM rfl rfl <| zcl (fun h hh=>zd3 h (zaq (del0 (A:=DevP bs x_0 vx_0)).out h hh)) fun hdp8 => ?_
   obtain ⟨r9,hr10,h⟩ := zar h
   refine oO <| zc8 rfl (zk1 hr10 hdp8) rfl (Dels.cons del0 (Dels.cons del1 Dels.nil)) rfl fun _ _=>oA rfl rfl <| nT <| sR <| oM rfl rfl <| oP (P_neq (a:=r9.1) (b:=(0:Int)) rfl rfl) rfl <| nT <| zan rfl zab (fun hg5 => ?_) (fun hg5 => ?_)
   ·
    replace h := ite_t hg5 h
    refine sR <| oM rfl rfl <| oA rfl rfl <| nT <| zah <| zad ?_
    cases h
    exact fE (res1 Tryz.results45 rfl) () (t0_ (t0_ (eD eR)))
   ·
    replace h := ite_f hg5 h
    refine kT <| zac <| sR <| oM rfl rfl <| oM rfl rfl <| oP (zpu (a:=regions) rfl Tryz.runUnderlying3 Tryz.runUnderlying23) rfl <| oP (zqk (a:=(5498691735368237056:UInt64)) (b:=(zh2 regions)) rfl rfl) rfl <| zcl (fun h hh=>zd3 h (zaq (del0 (A:=DevP bs x_0 vx_0)).out h hh)) fun hdp11 => ?_
    obtain ⟨r12,hr13,h⟩ := zar h
    refine oO <| zc8 rfl (zjn hr13 hdp11) rfl (Dels.cons del0 (Dels.cons del0 Dels.nil)) rfl fun _ _=>oA rfl rfl <| nT <| sR <| oM rfl rfl <| oP (P_neq (a:=r12.1) (b:=(0:Int)) rfl rfl) rfl <| nT <| zan rfl zab (fun hg6 => ?_) (fun hg6 => ?_)
    ·
     replace h := ite_t hg6 h
     refine sR <| oM rfl rfl <| oA rfl rfl <| nT <| zah <| zad ?_
     cases h
     exact fE (res1 Tryz.results45 rfl) () (t0_ (t0_ (eD eR)))
    ·
     replace h := ite_f hg6 h
     refine kT <| sR <| oM rfl rfl <| zcl (fun h hh=>zd3 h (zaq (del0 (A:=DevP bs x_0 vx_0)).out h hh)) fun hdp14 => ?_
     obtain ⟨r15,hr16,h⟩ := zar h
     refine oO <| zc8 rfl (zk1 hr16 hdp14) rfl (Dels.cons del0 (Dels.cons del0 Dels.nil)) rfl fun _ _=>oA rfl rfl <| nT <| zah ?_
     cases h
     exact fE (res1 Tryz.results45 rfl) () (t0_ (t0_ (eD eR)))
def zin (x_0:Dvc) (regions:Int) (s:ArrS):Option ((Option LogS) × Int) :=
  Option.bind (ziy x_0 regions s) fun r1 =>
  if (r1≠(0:Int)) then
    some (none,r1)
  else
    Option.bind (zfv regions) fun r3 =>
    Option.bind (zi1 x_0 (0:Int) r3 s) fun r5 =>
    if (r5.2≠(0:Int)) then
      some (none,r5.2)
    else
      grd (decide (0 < r5.1.length)) <|
      if ((r5.1.getD 0 0)≠((5498691735368237056:UInt64) + (zh2 regions))) then
        some ((none,(2:Int)))
      else
        grd (decide (1≤r5.1.length∧r5.1.length≤r5.1.length)) <|
        some (((some ((⟨x_0,regions,((r5.1.take r5.1.length).drop 1),[]⟩:LogS))),(0:Int)))
theorem zsh {W:World} {vx_0:IfH} {bs:Nat} {x_0:Dvc} {regions:Int} {s:ArrS} {r:(Option LogS) × Int} (h:zin x_0 regions s=some r) :
    CSpec Tryz.prog W 94 [IfH.v vx_0,.int .i64 regions] [DevP bs x_0 vx_0,Arr bs s] (fun x:Nat => .tuple #[oval r.1 x,.int .i64 r.2]) (fun _=>True) (fun x F=>DevP bs x_0 vx_0::Arr bs s::optP (LogP bs x) r.1::F) := by
 refine CSpec.of_body Tryz.func94 rfl Tryz.ntmps94 rfl fun F => ?_
 show CJ _ _ _ _ _ _ (_::_::F)
 unfold zin at h
 refine sR <| oA rfl rfl <| oA rfl rfl <| nT <| zac <| sR <| oM rfl rfl <| oM rfl rfl ?_
 obtain ⟨r1,hr2,h⟩ := zar h
 refine oO <| zat (znn hr2) rfl Tryz.call87 (Dels.cons del0 (Dels.cons del0 Dels.nil)) rfl fun _ _=>oA rfl rfl <| nT <| sR <| oM rfl rfl <| oP (P_neq (a:=r1) (b:=(0:Int)) rfl rfl) rfl <| nT <| zan rfl zab (fun hg1 => ?_) (fun hg1 => ?_)
 ·
  replace h := ite_t hg1 h
  refine sR <| oM rfl rfl <| oA rfl rfl <| oA rfl rfl <| nT <| zah <| zad ?_
  cases h
  exact fE (res2 Tryz.results94 rfl rfl) 0 (t0_ (t0_ (Ent.trans (fun h hh=>zb8 h hh) <| t0_ eR)))
 ·
  replace h := ite_f hg1 h
  refine kT <| sR <| oM rfl rfl <| oM rfl rfl ?_
  obtain ⟨r3,hr4,h⟩ := zar h
  refine oO <| zat (zi5 hr4) rfl Tryz.call89 Dels.nil rfl fun _ _ => ?_
  obtain ⟨r5,hr6,h⟩ := zar h
  refine oO <| zat (ztd hr6) rfl Tryz.call113 (Dels.cons del0 (Dels.cons del0 Dels.nil)) rfl fun X7 _=>oM rfl rfl <| oP (za4 (v:=X7.v) rfl rfl) rfl <| oP (za4 rfl rfl) rfl <| oA rfl rfl <| oA rfl rfl <| nT <| zac <| sR <| oM rfl rfl <| oP (P_neq (a:=r5.2) (b:=(0:Int)) rfl rfl) rfl <| nT <| zan rfl zab (fun hg2 => ?_) (fun hg2 => ?_)
  ·
   replace h := ite_t hg2 h
   refine sR <| oM rfl rfl <| oA rfl rfl <| oA rfl rfl <| nT <| zah <| zad ?_
   cases h
   exact fE (res2 Tryz.results94 rfl rfl) 0 (t0_ (t0_ (Ent.trans (fun h hh=>zb8 h hh) <| t0_ (eD eR))))
  ·
   replace h := ite_f hg2 h
   refine kT <| zac <| sR <| oM rfl rfl ?_
   obtain ⟨hg3,h⟩ := zbt h
   refine oV (zay (i:=0) rfl rfl rfl hg3 foc2 (Reads.sl _ _ _) Tryz.runUnderlying29 Tryz.sizeOf23) rfl <| oV (za6 rfl rfl hg3 foc2 (Reads.sl _ _ _) rfl rfl Tryz.isAgg23) rfl <| oM rfl rfl <| oP (zpu (a:=regions) rfl Tryz.runUnderlying3 Tryz.runUnderlying23) rfl <| oP (zqk (a:=(5498691735368237056:UInt64)) (b:=(zh2 regions)) rfl rfl) rfl <| oP (z1t (a:=(r5.1.getD 0 0)) (b:=((5498691735368237056:UInt64) + (zh2 regions))) rfl rfl) rfl <| nT <| zan rfl zab (fun hg4 => ?_) (fun hg4 => ?_)
   ·
    replace h := ite_t hg4 h
    refine sR <| oA rfl rfl <| oA rfl rfl <| nT <| zah <| zad ?_
    cases h
    exact fE (res2 Tryz.results94 rfl rfl) 0 (t0_ (t0_ (Ent.trans (fun h hh=>zb8 h hh) <| t0_ (eD eR))))
   ·
    replace h := ite_f hg4 h
    refine kT <| sR <| oM rfl rfl <| oM rfl rfl <| oM rfl rfl ?_
    obtain ⟨hg5,h⟩ := zbt h
    refine oV (zrg (l:=1) (h:=r5.1.length) rfl foc2 (Reads.sl _ _ _) ⟨_,rfl⟩ rfl (by omega) (by omega) Tryz.underlying29 Tryz.sizeOf23) rfl <| oO <| zqi mp154 rfl fun mp9=>oP (zfn rfl (zte _ _ _ _ _ _ _)) rfl <| oO <| O_box rfl rfl rfl fun b10=>oA rfl rfl <| oA rfl rfl <| nT <| zah <| zas (Ent.trans (t2_ eR) (fun h hh=>zi8 zhl hh)) <| zyc (zqw (Reads.sliceV (l:=1) (h:=r5.1.length) (Reads.sl _ _ _) (by omega) (by omega)) del5) fun hsv13 => ?_
    obtain ⟨sv12,hsv13⟩ := hsv13
    refine zas (Ent.trans (t5_ eR) (zpg (t:=tyU) (v:=Sl3.v sv12) (xs:=((r5.1.take r5.1.length).drop 1)) (hsv13 ▸ (Reads.sliceV (l:=1) (h:=r5.1.length) (Reads.sl _ _ _) (by omega) (by omega))))) <| zas (Ent.trans (Ent.takeC del3 (congrArg (fun z=>blk b10 156 [IfH.v vx_0,.int .i64 regions,z,.map (some mp9)]) hsv13) (t1_ (t0_ (t1_ eR)))) (zle (v0:=x_0) (v1:=regions) (v2:=((r5.1.take r5.1.length).drop 1)) (v3:=[]) (h0:=vx_0) (h1:=sv12) (h2:=mp9))) ?_
    cases h
    exact fE (res2 Tryz.results94 rfl rfl) b10 (t1_ (t1_ eR))
end Go.Proofs
