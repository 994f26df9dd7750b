/- MirrorTwoLost, part 7 of the proof: LOwn, LOwn2, LBeg21, PMirO. -/
import Derived.WalkKit
import Derived.Orders
import Derived.RangeFuncLeaves
import Derived.RangeFuncCalls
import Derived.TacticsIn
import Derived.Handy
import Derived.OrdersHeld
import Derived.OrdersIn
import Derived.Below
import Derived.OpenShut
import Derived.Deep.Slices
import Derived.Scope
import Derived.KernelRfl
import Derived.RangeFuncRecord
import Derived.ChangeKeysEq
import Derived.ProofKit
import Derived.ShutString
import Derived.ChangeOld
import Derived.Test.YtcfnikegnhlghaaGreatChecked
import Derived.Test.YtcfnikegnhlghaaGreatRows
import Derived.Test.YtcfnikegnhlghaaGreatZMirrorTwoLost6
set_option linter.unusedSimpArgs false
set_option linter.unusedVariables false
set_option maxRecDepth 20000
set_option maxHeartbeats 4000000
namespace Go.Proofs
open Go.VG
def volumegroupmake_has_l1_b (l : List Int) (n_1 : Int) (rec : Nat→Option ((Unit) ⊕ Bool)) (x6 : Nat) : Option ((Unit) ⊕ Bool) :=
  if (((x6 : Nat) : Int) < ((l.length : Nat) : Int)) then
    if ((l.getD x6 0)=n_1) then
      some (.inr true)
    else
      rec (x6 + 1)
  else
    some (.inl ())
def volumegroupmake_has_l1 (l : List Int) (n_1 : Int) : Nat→Nat→Option ((Unit) ⊕ Bool)
  | 0,_=>none
  | n + 1,x6=>volumegroupmake_has_l1_b l n_1 (volumegroupmake_has_l1 l n_1 n) x6
def volumegroupmake_has (l : List Int) (n_1 : Int) : Option (Bool) :=
  seqO (volumegroupmake_has_l1 l n_1 FUEL 0) fun a5 =>
  some false
theorem L_volumegroupmake_has {W : World} {Al : HP} {vl : Value} {l : List Int} {n_1 : Int} {r : Bool} (rl : Reads Al tyI vl l) (h : volumegroupmake_has l n_1=some r) :
    CSpec Tryz.prog W 95 [vl,.int .i64 n_1] [Al] (fun x : Unit => .bool r) (fun _=>True) (fun x F=>Al::F) := by
 refine CSpec.of_body Tryz.func95 rfl Tryz.ntmps95 rfl fun F => ?_
 show CJ _ _ _ _ _ _ (_::F)
 unfold volumegroupmake_has at h
 refine CJ_pure (len_of rl del0) fun hlen1=>sR <| oA rfl rfl <| nT <| CJ_seq <| sR <| oA rfl rfl <| nT ?_
 obtain ⟨y4,hl2,hK3⟩ := seq_e h
 refine CJ_cutT (X:=Unit) [4,5,6,7,8,9,10,11,12,13,14,15,16,17] (fun _=>([] : Slots)) (fun _ R=>R) (fun _=>y4 = .inl ()) Dels.nil ?_ ?_
 ·
  refine CJ_block <| CJ_loopR (X:=Nat × Nat) [4,5,6,7,8,9,10,11,12,13,14,15,16,17] (fun ⟨n,x6⟩=>([(5,.int .i64 (((x6 : Nat) : Int)))] : Slots)) (fun ⟨n,x6⟩ R=>R) (fun ⟨n,x6⟩=>volumegroupmake_has_l1 l n_1 n x6=some y4) (fun ⟨n,x6⟩=>n) ⟨FUEL,0⟩ ?_ ?_ eR ?_
  · exact hl2
  · exact ⟨rfl,True.intro⟩
  ·
   rintro ⟨n,x6⟩ h
   cases n with
   | zero=>exact none_e h
   | succ n => ?_
   replace h : volumegroupmake_has_l1_b l n_1 (volumegroupmake_has_l1 l n_1 n) x6=some y4 := h
   unfold volumegroupmake_has_l1_b at h
   show CJ _ _ _ _ _ (([(5,.int .i64 (((x6 : Nat) : Int)))] : Slots) ++ forget _ _) (_)
   refine CJ_seq <| sR <| oM rfl rfl <| oM rfl rfl <| oV (V_len rfl foc0 rl Tryz.runUnderlying45) rfl <| oP (P_lss (a:=((x6 : Nat) : Int)) (b:=((l.length : Nat) : Int)) rfl rfl) rfl <| nT <| CJ_condP rfl bT_dec (fun hg1 => ?_) (fun hg1 => ?_)
   ·
    replace h := ite_t hg1 h
    refine kT <| CJ_seq <| CJ_block <| sR <| oM rfl rfl <| oM rfl rfl <| oV (V_index (i:=x6) rfl rfl rfl (by omega) foc0 rl Tryz.runUnderlying45 Tryz.sizeOf3) rfl <| oV (V_loadE rfl rfl (by omega) foc0 rl rfl rfl Tryz.isAgg3) rfl <| oM rfl rfl <| oP (P_eql (a:=(l.getD x6 0)) (b:=n_1) rfl rfl) rfl <| nT <| CJ_condP rfl bT_dec (fun hg2 => ?_) (fun hg2 => ?_)
    ·
     replace h := ite_t hg2 h
     refine sR <| oA rfl rfl <| nT <| CJ_ret <| QJ_block_ret <| QJ_then_ret <| QJ_round_ret <| QJ_block_ret <| QJ_then_ret ?_
     have hE := Option.some.inj h
     replace hE := seq_inr hK3 hE.symm
     subst hE
     exact fE (res1 Tryz.results95 rfl) () eR
    ·
     replace h := ite_f hg2 h
     exact CJ_skip <| QJ_block_normal <| QJ_then <| CJ_region <| oM rfl rfl <| oP (PJ_eq (P_add (a:=((x6 : Nat) : Int)) (b:=(1 : Int)) rfl rfl (by omega)) rfl) rfl <| oA rfl rfl <| RJ_nil <| nR ⟨n,(x6 + 1)⟩ h ⟨rfl,True.intro⟩ eR
   ·
    replace h := ite_f hg1 h
    exact CJ_exit <| QJ_then_exit <| QJ_round_exit <| QJ_block_here <| cR () (Option.some.inj h).symm True.intro eR
 ·
  rintro _ hy7
  replace h := seq_inl hK3 hy7
  show CJ _ _ _ _ _ (([] : Slots) ++ forget _ _) (_)
  refine sR <| oA rfl rfl <| nT <| CJ_ret ?_
  cases h
  exact fE (res1 Tryz.results95 rfl) () eR
def volumegroupmake_add_l1_b (l : List Int) (rec : Int→(List Int)→Nat→Option (Int × (List Int))) (x10 : Int) (x11 : List Int) (x13 : Nat) : Option (Int × (List Int)) :=
  if (((x13 : Nat) : Int) < ((l.length : Nat) : Int)) then
    Option.bind ((
      if (((0 : Int)≤x10)∧(x10 < (l.getD x13 0))) then
        grd (inLen (x11.length + 1)) <|
        some (((-1 : Int),(x11 ++ [x10])))
      else
        some (x10,x11) : Option (Int × (List Int)))) fun a33 =>
    if ((l.getD x13 0)=a33.1) then
      grd (inLen (a33.2.length + 1)) <|
      rec (-1 : Int) ((a33.2 ++ [(l.getD x13 0)])) (x13 + 1)
    else
      grd (inLen (a33.2.length + 1)) <|
      rec a33.1 ((a33.2 ++ [(l.getD x13 0)])) (x13 + 1)
  else
    some (x10,x11)
def volumegroupmake_add_l1 (l : List Int) : Nat→Int→(List Int)→Nat→Option (Int × (List Int))
  | 0,_,_,_=>none
  | n + 1,x10,x11,x13=>volumegroupmake_add_l1_b l (volumegroupmake_add_l1 l n) x10 x11 x13
def volumegroupmake_add (l : List Int) (n_1 : Int) : Option ((List Int)) :=
  Option.bind (volumegroupmake_add_l1 l FUEL n_1 ([]) 0) fun a9 =>
  if ((0 : Int)≤a9.1) then
    grd (inLen (a9.2.length + 1)) <|
    some (a9.2 ++ [a9.1])
  else
    some a9.2
theorem L_volumegroupmake_add {W : World} {Al : HP} {vl : Value} {l : List Int} {n_1 : Int} {r : (List Int)} (rl : Reads Al tyI vl l) (h : volumegroupmake_add l n_1=some r) :
    CSpec Tryz.prog W 48 [vl,.int .i64 n_1] [Al] (fun x : Sl3=>x.v) (fun _=>True) (fun x F=>Al::sl tyI x.v r::F) := by
 refine CSpec.of_body Tryz.func48 rfl Tryz.ntmps48 rfl fun F => ?_
 show CJ _ _ _ _ _ _ (_::F)
 unfold volumegroupmake_add at h
 refine CJ_pure (len_of rl del0) fun hlen1=>sR <| oA rfl rfl <| nT <| sR <| oA rfl rfl <| nT <| CJ_seq <| sR <| oA rfl rfl <| nT <| CJ_ent (fun h hh=>sl_nil (t:=tyI) h hh) ?_
 obtain ⟨y5,hl3,hK4⟩ := bind_c h
 refine CJ_cutT (X:=(Int × (List Int)) × Sl3) [1,5,6,7,8,9,10,11,12,13,14,15,16,17,18,19,20,21,22,23,24,25,26,27,28,29,30,31,32,33,34,35,36,37,38,39] (fun ⟨a9,hd8⟩=>([(1,.int .i64 a9.1),(5,hd8.v)] : Slots)) (fun ⟨a9,hd8⟩ R=>sl tyI hd8.v a9.2::R) (fun ⟨a9,hd8⟩=>y5=a9) (Dels.cons del0 Dels.nil) ?_ ?_
 ·
  refine CJ_block <| CJ_loopR (X:=Nat × Int × (List Int) × Nat × Sl3) [1,5,6,7,8,9,10,11,12,13,14,15,16,17,18,19,20,21,22,23,24,25,26,27,28,29,30,31,32,33,34,35,36,37,38,39] (fun ⟨n,x10,x11,x13,hd12⟩=>([(1,.int .i64 x10),(5,hd12.v),(6,.int .i64 (((x13 : Nat) : Int)))] : Slots)) (fun ⟨n,x10,x11,x13,hd12⟩ R=>sl tyI hd12.v x11::R) (fun ⟨n,x10,x11,x13,hd12⟩=>volumegroupmake_add_l1 l n x10 x11 x13=some y5) (fun ⟨n,x10,x11,x13,hd12⟩=>n) ⟨FUEL,n_1,[],0,⟨none,0,0⟩⟩ ?_ ?_ eR ?_
  · exact hl3
  · exact ⟨rfl,rfl,rfl,True.intro⟩
  ·
   rintro ⟨n,x10,x11,x13,hd12⟩ h
   cases n with
   | zero=>exact none_e h
   | succ n => ?_
   replace h : volumegroupmake_add_l1_b l (volumegroupmake_add_l1 l n) x10 x11 x13=some y5 := h
   unfold volumegroupmake_add_l1_b at h
   show CJ _ _ _ _ _ (([(1,.int .i64 x10),(5,hd12.v),(6,.int .i64 (((x13 : Nat) : Int)))] : Slots) ++ forget _ _) (sl tyI hd12.v x11::_)
   refine lC del0 fun hlen14=>CJ_seq <| sR <| oM rfl rfl <| oM rfl rfl <| oV (V_len rfl foc1 rl Tryz.runUnderlying45) rfl <| oP (P_lss (a:=((x13 : Nat) : Int)) (b:=((l.length : Nat) : Int)) rfl rfl) rfl <| nT <| CJ_condP rfl bT_dec (fun hg1 => ?_) (fun hg1 => ?_)
   ·
    replace h := ite_t hg1 h
    refine kT <| CJ_seq <| CJ_block <| CJ_seq <| sR <| oM rfl rfl <| oP (P_geq (a:=x10) (b:=(0 : Int)) rfl rfl) rfl <| oM rfl rfl <| RJ_mbT rfl rfl rfl (fun hG15=>have hP16 : ((0 : Int)≤x10) := (bT_dec).1 hG15; VJ_P (P_move rfl)) <| RJ_mbT rfl rfl rfl (fun hG17=>have hP18 : ((0 : Int)≤x10) := (bT_dec).1 hG17; VJ_P (P_move rfl)) <| RJ_mbT rfl rfl rfl (fun hG19=>have hP20 : ((0 : Int)≤x10) := (bT_dec).1 hG19; V_index (i:=x13) (mbx hG19 rfl) (mbx hG19 rfl) rfl (by omega) foc1 rl Tryz.runUnderlying45 Tryz.sizeOf3) <| RJ_mbT rfl rfl rfl (fun hG21=>have hP22 : ((0 : Int)≤x10) := (bT_dec).1 hG21; V_loadE (mbx hG21 rfl) rfl (by omega) foc1 rl rfl rfl Tryz.isAgg3) <| RJ_mbT rfl rfl rfl (fun hG23=>have hP24 : ((0 : Int)≤x10) := (bT_dec).1 hG23; VJ_P (P_move rfl)) <| RJ_mbT rfl rfl rfl (fun hG25=>have hP26 : ((0 : Int)≤x10) := (bT_dec).1 hG25; VJ_P (P_gtr (a:=(l.getD x13 0)) (b:=x10) (mbx hG25 rfl) (mbx hG25 rfl))) <| oP (P_pickAnd rfl (fun hh=>mbx hh rfl) rfl) rfl <| nT ?_
    obtain ⟨y29,hl27,hK28⟩ := bind_c h
    refine CJ_cutT (X:=(Int × (List Int)) × Sl3) [1,5,23,24,25,26] (fun ⟨a33,hd32⟩=>([(1,.int .i64 a33.1),(5,hd32.v)] : Slots)) (fun ⟨a33,hd32⟩ R=>sl tyI hd32.v a33.2::R) (fun ⟨a33,hd32⟩=>y29=a33) (Dels.cons del0 Dels.nil) ?_ ?_
    ·
     have h := hl27
     refine CJ_condP rfl (bT_and bT_dec bT_dec) (fun hg2 => ?_) (fun hg2 => ?_)
     ·
      replace h := ite_t hg2 h
      refine CJ_region <| oM rfl rfl <| oM rfl rfl <| oO <| O_buildSlice rfl (bs_45_1_0 _) rfl fun b34 => ?_
      obtain ⟨hg3,h⟩ := grd_Le h
      exact oO <| O_append (t:=tyI) (bytes:=8) rfl rfl del1 foc0 (Reads.lit (t:=tyI) (ys:=[x10]) rfl rfl (by decide) (by decide) rfl) Tryz.underlying45 ok_tyI (apl (m:=1) (b:=8) hg3 (by decide)).1 (apl (m:=1) (b:=8) hg3 (by decide)).2 rfl fun p36 c37=>oA rfl rfl <| oA rfl rfl <| RJ_nil <| cR ⟨((-1 : Int),(x11 ++ [x10])),⟨p36,(x11 ++ [x10]).length,c37⟩⟩ (Option.some.inj h).symm ⟨rfl,rfl,True.intro⟩ (t0_ (t1_ (eD eR)))
     ·
      replace h := ite_f hg2 h
      exact CJ_skip <| cR ⟨(x10,x11),hd12⟩ (Option.some.inj h).symm ⟨rfl,rfl,True.intro⟩ eR
    ·
     rintro ⟨a33,hd32⟩ hy38
     replace h := bindK_at hK28 hy38
     show CJ _ _ _ _ _ (([(1,.int .i64 a33.1),(5,hd32.v)] : Slots) ++ forget _ _) (sl tyI hd32.v a33.2::_)
     refine CJ_seq <| sR <| oM rfl rfl <| oM rfl rfl <| oV (V_index (i:=x13) rfl rfl rfl (by omega) foc1 rl Tryz.runUnderlying45 Tryz.sizeOf3) rfl <| oV (V_loadE rfl rfl (by omega) foc1 rl rfl rfl Tryz.isAgg3) rfl <| oM rfl rfl <| oP (P_eql (a:=(l.getD x13 0)) (b:=a33.1) rfl rfl) rfl <| nT <| CJ_condP rfl bT_dec (fun hg4 => ?_) (fun hg4 => ?_)
     ·
      replace h := ite_t hg4 h
      refine CJ_region <| oA rfl rfl <| nT <| CJ_region <| oM rfl rfl <| oM rfl rfl <| oM rfl rfl <| oV (V_index (i:=x13) rfl rfl rfl (by omega) foc1 rl Tryz.runUnderlying45 Tryz.sizeOf3) rfl <| oV (V_loadE rfl rfl (by omega) foc1 rl rfl rfl Tryz.isAgg3) rfl <| oO <| O_buildSlice rfl (bs_45_1_0 _) rfl fun b39 => ?_
      obtain ⟨hg5,h⟩ := grd_Le h
      exact oO <| O_append (t:=tyI) (bytes:=8) rfl rfl del1 foc0 (Reads.lit (t:=tyI) (ys:=[(l.getD x13 0)]) rfl rfl (by decide) (by decide) rfl) Tryz.underlying45 ok_tyI (apl (m:=1) (b:=8) hg5 (by decide)).1 (apl (m:=1) (b:=8) hg5 (by decide)).2 rfl fun p41 c42=>oA rfl rfl <| RJ_nil <| QJ_block_normal <| QJ_then <| CJ_region <| oM rfl rfl <| oP (PJ_eq (P_add (a:=((x13 : Nat) : Int)) (b:=(1 : Int)) rfl rfl (by omega)) rfl) rfl <| oA rfl rfl <| RJ_nil <| nR ⟨n,(-1 : Int),(a33.2 ++ [(l.getD x13 0)]),(x13 + 1),⟨p41,(a33.2 ++ [(l.getD x13 0)]).length,c42⟩⟩ h ⟨rfl,rfl,rfl,True.intro⟩ (t0_ (t1_ (eD eR)))
     ·
      replace h := ite_f hg4 h
      refine kT <| CJ_region <| oM rfl rfl <| oM rfl rfl <| oM rfl rfl <| oV (V_index (i:=x13) rfl rfl rfl (by omega) foc1 rl Tryz.runUnderlying45 Tryz.sizeOf3) rfl <| oV (V_loadE rfl rfl (by omega) foc1 rl rfl rfl Tryz.isAgg3) rfl <| oO <| O_buildSlice rfl (bs_45_1_0 _) rfl fun b43 => ?_
      obtain ⟨hg6,h⟩ := grd_Le h
      exact oO <| O_append (t:=tyI) (bytes:=8) rfl rfl del1 foc0 (Reads.lit (t:=tyI) (ys:=[(l.getD x13 0)]) rfl rfl (by decide) (by decide) rfl) Tryz.underlying45 ok_tyI (apl (m:=1) (b:=8) hg6 (by decide)).1 (apl (m:=1) (b:=8) hg6 (by decide)).2 rfl fun p45 c46=>oA rfl rfl <| RJ_nil <| QJ_block_normal <| QJ_then <| CJ_region <| oM rfl rfl <| oP (PJ_eq (P_add (a:=((x13 : Nat) : Int)) (b:=(1 : Int)) rfl rfl (by omega)) rfl) rfl <| oA rfl rfl <| RJ_nil <| nR ⟨n,a33.1,(a33.2 ++ [(l.getD x13 0)]),(x13 + 1),⟨p45,(a33.2 ++ [(l.getD x13 0)]).length,c46⟩⟩ h ⟨rfl,rfl,rfl,True.intro⟩ (t0_ (t1_ (eD eR)))
   ·
    replace h := ite_f hg1 h
    exact CJ_exit <| QJ_then_exit <| QJ_round_exit <| QJ_block_here <| cR ⟨(x10,x11),hd12⟩ (Option.some.inj h).symm ⟨rfl,rfl,True.intro⟩ eR
 ·
  rintro ⟨a9,hd8⟩ hy47
  replace h := bindK_at hK4 hy47
  show CJ _ _ _ _ _ (([(1,.int .i64 a9.1),(5,hd8.v)] : Slots) ++ forget _ _) (sl tyI hd8.v a9.2::_)
  refine lC del0 fun hlen48=>CJ_seq <| sR <| oM rfl rfl <| oP (P_geq (a:=a9.1) (b:=(0 : Int)) rfl rfl) rfl <| nT <| CJ_condP rfl bT_dec (fun hg7 => ?_) (fun hg7 => ?_)
  ·
   replace h := ite_t hg7 h
   refine CJ_region <| oM rfl rfl <| oM rfl rfl <| oO <| O_buildSlice rfl (bs_45_1_0 _) rfl fun b49 => ?_
   obtain ⟨hg8,h⟩ := grd_Le h
   refine oO <| O_append (t:=tyI) (bytes:=8) rfl rfl del1 foc0 (Reads.lit (t:=tyI) (ys:=[a9.1]) rfl rfl (by decide) (by decide) rfl) Tryz.underlying45 ok_tyI (apl (m:=1) (b:=8) hg8 (by decide)).1 (apl (m:=1) (b:=8) hg8 (by decide)).2 rfl fun p51 c52=>oA rfl rfl <| nT <| sR <| oM rfl rfl <| oA rfl rfl <| nT <| CJ_ret ?_
   cases h
   exact fE (res1 Tryz.results48 rfl) ⟨p51,(a9.2 ++ [a9.1]).length,c52⟩ (t2_ (t0_ (eD eR)))
  ·
   replace h := ite_f hg7 h
   refine kT <| sR <| oM rfl rfl <| oA rfl rfl <| nT <| CJ_ret ?_
   cases h
   exact fE (res1 Tryz.results48 rfl) hd8 (t1_ eR)
def volumegroupmake_Owner_drop_l1_b (s : ArrS) (r7 : (List Int)) (rec : OwnS→Nat→Option ((OwnS) ⊕ (Bool × OwnS))) (x16 : OwnS) (x17 : Nat) : Option ((OwnS) ⊕ (Bool × OwnS)) :=
  if (((x17 : Nat) : Int) < ((r7.length : Nat) : Int)) then
    Option.bind (volumegroupmake_has x16.Lost (r7.getD x17 0)) fun r22 =>
    if (¬ r22=true) then
      some (.inr (false,x16))
    else
      Option.elim x16.X (
        none) fun o25 =>
      Option.bind (mirror_Mirror_Drop o25 (r7.getD x17 0) s) fun r26 =>
      if (r26.1≠(0 : Int)) then
        some (.inr ((false, { x16 with X := (some r26.2) })))
      else
        Option.bind (volumegroupmake_add x16.Stale (r7.getD x17 0)) fun r32 =>
        grd (inN64 (x17 + 1)) <|
        rec ((⟨x16.Open_1,x16.Open_2,x16.Open_3,x16.Open_4,(some r26.2),x16.T,r32,x16.Lost⟩ : OwnS)) (x17 + 1)
  else
    some (.inl x16)
def volumegroupmake_Owner_drop_l1 (s : ArrS) (r7 : (List Int)) : Nat→OwnS→Nat→Option ((OwnS) ⊕ (Bool × OwnS))
  | 0,_,_=>none
  | n + 1,x16,x17=>volumegroupmake_Owner_drop_l1_b s r7 (volumegroupmake_Owner_drop_l1 s r7 n) x16 x17
def volumegroupmake_Owner_drop (o : OwnS) (s : ArrS) : Option (Bool × OwnS) :=
  Option.elim o.X (
    none) fun o6 =>
  Option.bind (mirror_Mirror_Failed o6 s) fun r7 =>
  seqO (volumegroupmake_Owner_drop_l1 s r7 FUEL ({ o with X := (some o6) }) 0) fun a15 =>
  some (((decide ((0 : Int) < ((r7.length : Nat) : Int))),a15))
theorem L_volumegroupmake_Owner_drop {W : World} {bo : Nat} {bs : Nat} {o : OwnS} {s : ArrS} {r : Bool × OwnS} (h : volumegroupmake_Owner_drop o s=some r) :
    CSpec Tryz.prog W 53 [ptr bo 0] [OwnP bs bo o,Arr bs s] (fun x : Unit => .bool r.1) (fun _=>True) (fun x F=>OwnP bs bo r.2::Arr bs s::F) := by
 refine CSpec.of_body Tryz.func53 rfl Tryz.ntmps53 rfl fun F => ?_
 show CJ _ _ _ _ _ _ (_::_::F)
 unfold volumegroupmake_Owner_drop at h
 refine sR <| oA rfl rfl <| nT <| CJ_seq <| CJ_entX (Ent.transX (t0_ eR) (OwnP_open (l:=o))) fun oc1=>lC del4 fun hlen3=>lC del5 fun hlen4=>CJ_region <| oM rfl rfl <| oP (P_nilCheck rfl) rfl <| oP (P_fieldAddr rfl ⟨_,_,_,Tryz.runUnderlying60,rfl,rfl,Tryz.sizeOf57,rfl⟩) rfl <| oV (V_load rfl foc0 rfl Tryz.isAgg57) rfl ?_
 rcases opt_e h with ⟨ht5,h⟩ | ⟨o6,ht5,h⟩
 ·
  rw [ht5]
  exact RJ_ent (t0_ (t0_ (t1_ (t1_ (t1_ (t1_ (eD eR))))))) <| none_e h
 ·
  rw [ht5]
  refine RJ_ent (Ent.takeC (A' := MirP bs oc1.2.1 o6) del2 rfl eR) ?_
  obtain ⟨r7,hr8,h⟩ := bind_e h
  refine oO <| O_callI rfl (ICall.of (fun w=>by kernel_rfl) Tryz.call97 (L_mirror_Mirror_Failed hr8)) rfl (Dels.cons del0 (Dels.cons del5 Dels.nil)) rfl fun X9 _=>oA rfl rfl <| RJ_nil <| QJ_ent (Ent.trans (t3_ (t3_ (t0_ (t2_ (t2_ (t2_ eR)))))) (OwnP_mk (v0:=o.Open_1) (v1:=o.Open_2) (v2:=o.Open_3) (v3:=o.Open_4) (v4:=(some o6)) (v5:=o.T) (v6:=o.Stale) (v7:=o.Lost) (h0:=oc1.1) (h1:=oc1.2.1) (h2:=oc1.2.2.1) (h3:=oc1.2.2.2.1) (h4:=oc1.2.2.2.2))) <| QJ_then <| CJ_seq <| sR <| oA rfl rfl <| nT ?_
  obtain ⟨y13,hl11,hK12⟩ := seq_e h
  refine CJ_cutT (X:=OwnS) [2,4,10,11,12,13,14,15,16,17,18,19,20,21,22,23,24,25,26,27,28,29,30,31,32,33,34,35,36,37,38,39,40,41,42,43,44,45,46,47,48,49,50,51] (fun a15=>([] : Slots)) (fun a15 R=>OwnP bs bo a15::R) (fun a15=>y13 = .inl a15) (Dels.cons del0 Dels.nil) ?_ ?_
  ·
   refine CJ_block <| CJ_loopR (X:=Nat × OwnS × Nat) [2,4,10,11,12,13,14,15,16,17,18,19,20,21,22,23,24,25,26,27,28,29,30,31,32,33,34,35,36,37,38,39,40,41,42,43,44,45,46,47,48,49,50,51] (fun ⟨n,x16,x17⟩=>([(4,.int .i64 (((x17 : Nat) : Int)))] : Slots)) (fun ⟨n,x16,x17⟩ R=>OwnP bs bo x16::R) (fun ⟨n,x16,x17⟩=>volumegroupmake_Owner_drop_l1 s r7 n x16 x17=some y13) (fun ⟨n,x16,x17⟩=>n) ⟨FUEL, { o with X := (some o6) },0⟩ ?_ ?_ eR ?_
   · exact hl11
   · exact ⟨rfl,True.intro⟩
   ·
    rintro ⟨n,x16,x17⟩ h
    cases n with
    | zero=>exact none_e h
    | succ n => ?_
    replace h : volumegroupmake_Owner_drop_l1_b s r7 (volumegroupmake_Owner_drop_l1 s r7 n) x16 x17=some y13 := h
    unfold volumegroupmake_Owner_drop_l1_b at h
    show CJ _ _ _ _ _ (([(4,.int .i64 (((x17 : Nat) : Int)))] : Slots) ++ forget _ _) (OwnP bs bo x16::_)
    refine CJ_seq <| sR <| oM rfl rfl <| oM rfl rfl <| oV (V_len rfl foc2 (Reads.sl _ _ _) Tryz.runUnderlying45) rfl <| oP (P_lss (a:=((x17 : Nat) : Int)) (b:=((r7.length : Nat) : Int)) rfl rfl) rfl <| nT <| CJ_condP rfl bT_dec (fun hg1 => ?_) (fun hg1 => ?_)
    ·
     replace h := ite_t hg1 h
     refine kT <| CJ_seq <| CJ_block <| CJ_seq <| CJ_seq <| CJ_entX (Ent.transX (t0_ eR) (OwnP_open (l:=x16))) fun oc18=>lC del4 fun hlen20=>lC del5 fun hlen21=>AJ_startH 2097152 (by kernel_rfl) rfl <| aN 0 1 rfl rfl (P_move rfl) rfl <| aN 1 3 rfl rfl (P_nilCheck rfl) rfl <| aN 2 7 rfl rfl (P_fieldAddr rfl ⟨_,_,_,Tryz.runUnderlying60,rfl,rfl,Tryz.sizeOf45,rfl⟩) rfl <| aV 3 15 rfl rfl (GY_none rfl) eR (V_load rfl foc0 rfl Tryz.isAgg45) rfl <| aN 4 31 rfl rfl (P_move rfl) rfl <| aN 5 63 rfl rfl (P_move rfl) rfl <| aV 6 127 rfl rfl (GY_none rfl) eR (V_index (i:=x17) rfl rfl rfl (by omega) foc7 (Reads.sl _ _ _) Tryz.runUnderlying45 Tryz.sizeOf3) rfl <| aV 7 255 rfl rfl (GY_none rfl) eR (V_loadE rfl rfl (by omega) foc7 (Reads.sl _ _ _) rfl rfl Tryz.isAgg3) rfl ?_
     obtain ⟨r22,hr23,h⟩ := bind_e h
     refine AJ_op 8 511 rfl (by kernel_rfl) rfl (GY_none rfl) <| O_call (L_volumegroupmake_has (Reads.sl _ _ _) hr23) rfl Tryz.call95 (Dels.cons del5 Dels.nil) rfl fun _ _=>⟨fun _=>(t1_ (t1_ (t1_ (t1_ (t1_ eR))))),?_⟩
     refine aN 9 1023 rfl rfl (P_not rfl) rfl <| aN 10 2047 rfl rfl (P_move rfl) rfl <| AJ_splitP 26 rfl (bT_not Iff.rfl) (fun hg2B hg2 => ?_) (fun hg2B hg2 => ?_)
     ·
      replace h := ite_t hg2 h
      refine aS 11 4095 rfl rfl (GY_no rfl rfl rfl hg2B) rfl <| aS 12 8191 rfl rfl (GY_no rfl rfl rfl hg2B) rfl <| aS 13 16383 rfl rfl (GY_no rfl rfl rfl hg2B) rfl <| aS 14 32767 rfl rfl (GY_no rfl rfl rfl hg2B) rfl <| aS 15 65535 rfl rfl (GY_no rfl rfl rfl hg2B) rfl <| aS 16 131071 rfl rfl (GY_no rfl rfl rfl hg2B) rfl <| aS 17 262143 rfl rfl (GY_no rfl rfl rfl hg2B) rfl <| aS 18 524287 rfl rfl (GY_no rfl rfl rfl hg2B) rfl <| aS 19 1048575 rfl rfl (GY_no rfl rfl rfl hg2B) rfl <| aS 20 2097151 rfl rfl (GY_no rfl rfl rfl hg2B) rfl <| aS 21 4194303 rfl rfl (GY_no rfl rfl rfl hg2B) rfl <| aS 22 8388607 rfl rfl (GY_no rfl rfl rfl hg2B) rfl <| aN 23 16777215 rfl rfl (P_pickT rfl hg2B rfl) rfl <| AJ_done (by kernel_rfl) <| QJ_ent (Ent.trans (t1_ (t1_ (t1_ (t1_ (t1_ eR))))) (OwnP_mk (v0:=x16.Open_1) (v1:=x16.Open_2) (v2:=x16.Open_3) (v3:=x16.Open_4) (v4:=x16.X) (v5:=x16.T) (v6:=x16.Stale) (v7:=x16.Lost) (h0:=oc18.1) (h1:=oc18.2.1) (h2:=oc18.2.2.1) (h3:=oc18.2.2.2.1) (h4:=oc18.2.2.2.2))) <| QJ_then <| CJ_condT rfl rfl <| sR <| oA rfl rfl <| nT <| CJ_ret <| QJ_then_ret <| QJ_block_ret <| QJ_then_ret <| QJ_round_ret <| QJ_block_ret <| QJ_then_ret ?_
      have hE := Option.some.inj h
      replace hE := seq_inr hK12 hE.symm
      subst hE
      exact fE (res1 Tryz.results53 rfl) () (t0_ (t0_ (eD eR)))
     ·
      replace h := ite_f hg2 h
      refine aP 11 4095 rfl rfl (GY_yes rfl rfl rfl hg2B) (P_move rfl) rfl <| aP 12 8191 rfl rfl (GY_yes rfl rfl rfl hg2B) (P_nilCheck rfl) rfl <| aP 13 16383 rfl rfl (GY_yes rfl rfl rfl hg2B) (P_fieldAddr rfl ⟨_,_,_,Tryz.runUnderlying60,rfl,rfl,Tryz.sizeOf57,rfl⟩) rfl <| aV 14 32767 rfl rfl (GY_yes rfl rfl rfl hg2B) (t1_ (t1_ (t1_ (t1_ (t1_ eR))))) (V_load rfl foc0 rfl Tryz.isAgg57) rfl <| aP 15 65535 rfl rfl (GY_yes rfl rfl rfl hg2B) (P_move rfl) rfl <| aP 16 131071 rfl rfl (GY_yes rfl rfl rfl hg2B) (P_move rfl) rfl <| aV 17 262143 rfl rfl (GY_yes rfl rfl rfl hg2B) (t1_ (t1_ (t1_ (t1_ (t1_ eR))))) (V_index (i:=x17) rfl rfl rfl (by omega) foc7 (Reads.sl _ _ _) Tryz.runUnderlying45 Tryz.sizeOf3) rfl <| aV 18 524287 rfl rfl (GY_yes rfl rfl rfl hg2B) (t1_ (t1_ (t1_ (t1_ (t1_ eR))))) (V_loadE rfl rfl (by omega) foc7 (Reads.sl _ _ _) rfl rfl Tryz.isAgg3) rfl ?_
      rcases opt_e h with ⟨ht24,h⟩ | ⟨o25,ht24,h⟩
      ·
       rw [ht24]
       exact none_e h
      ·
       rw [ht24]
       refine AJ_ent (Ent.takeC (A' := MirP bs oc18.2.1 o25) del3 rfl eR) <| aP 19 1048575 rfl rfl (GY_yes rfl rfl rfl hg2B) (P_nilCheckI rfl) rfl <| aP 20 2097151 rfl rfl (GY_yes rfl rfl rfl hg2B) (P_move rfl) rfl ?_
       obtain ⟨r26,hr27,h⟩ := bind_e h
       refine AJ_op 21 4194303 rfl (by kernel_rfl) rfl (GY_yes rfl rfl rfl hg2B) <| O_callI rfl (ICall.of (fun w=>by kernel_rfl) Tryz.call134 (L_mirror_Mirror_Drop hr27)) rfl (Dels.cons del0 (Dels.cons del5 Dels.nil)) rfl fun _ _=>⟨fun h=>absurd h (by decide),?_⟩
       refine aP 22 8388607 rfl rfl (GY_yes rfl rfl rfl hg2B) (P_neq (a:=r26.1) (b:=(0 : Int)) rfl rfl) rfl <| aN 23 16777215 rfl rfl (P_pickF rfl hg2B rfl) rfl <| AJ_done (by kernel_rfl) <| QJ_ent (Ent.trans (t3_ (t3_ (t0_ (t2_ (t2_ (t1_ eR)))))) (OwnP_mk (v0:=x16.Open_1) (v1:=x16.Open_2) (v2:=x16.Open_3) (v3:=x16.Open_4) (v4:=(some r26.2)) (v5:=x16.T) (v6:=x16.Stale) (v7:=x16.Lost) (h0:=oc18.1) (h1:=oc18.2.1) (h2:=oc18.2.2.1) (h3:=oc18.2.2.2.1) (h4:=oc18.2.2.2.2))) <| QJ_then <| CJ_condP rfl bT_dec (fun hg3 => ?_) (fun hg3 => ?_)
       ·
        replace h := ite_t hg3 h
        refine sR <| oA rfl rfl <| nT <| CJ_ret <| QJ_then_ret <| QJ_block_ret <| QJ_then_ret <| QJ_round_ret <| QJ_block_ret <| QJ_then_ret ?_
        have hE := Option.some.inj h
        replace hE := seq_inr hK12 hE.symm
        subst hE
        exact fE (res1 Tryz.results53 rfl) () (t0_ (t0_ (eD eR)))
       ·
        replace h := ite_f hg3 h
        refine kT <| CJ_entX (Ent.transX (t0_ eR) (OwnP_open (l := { x16 with X := (some r26.2) }))) fun oc28=>lC del4 fun hlen30=>lC del5 fun hlen31=>AJ_startH 4608 (by kernel_rfl) rfl <| aN 0 1 rfl rfl (P_move rfl) rfl <| aN 1 3 rfl rfl (P_move rfl) rfl <| aN 2 7 rfl rfl (P_nilCheck rfl) rfl <| aN 3 15 rfl rfl (P_fieldAddr rfl ⟨_,_,_,Tryz.runUnderlying60,rfl,rfl,Tryz.sizeOf45,rfl⟩) rfl <| aV 4 31 rfl rfl (GY_none rfl) eR (V_load rfl foc0 rfl Tryz.isAgg45) rfl <| aN 5 63 rfl rfl (P_move rfl) rfl <| aN 6 127 rfl rfl (P_move rfl) rfl <| aV 7 255 rfl rfl (GY_none rfl) eR (V_index (i:=x17) rfl rfl rfl (by omega) foc7 (Reads.sl _ _ _) Tryz.runUnderlying45 Tryz.sizeOf3) rfl <| aV 8 511 rfl rfl (GY_none rfl) eR (V_loadE rfl rfl (by omega) foc7 (Reads.sl _ _ _) rfl rfl Tryz.isAgg3) rfl ?_
        obtain ⟨r32,hr33,h⟩ := bind_e h
        refine AJ_op 9 1023 rfl (by kernel_rfl) rfl (GY_none rfl) <| O_call (L_volumegroupmake_add (Reads.sl _ _ _) hr33) rfl Tryz.call48 (Dels.cons del4 Dels.nil) rfl fun X34 _=>⟨fun h=>absurd h (by decide),?_⟩
        refine aN 10 2047 rfl rfl (P_nilCheck rfl) rfl <| aN 11 4095 rfl rfl (P_fieldAddr rfl ⟨_,_,_,Tryz.runUnderlying60,rfl,rfl,Tryz.sizeOf45,rfl⟩) rfl <| AJ_op 12 8191 rfl (by kernel_rfl) rfl (GY_none rfl) <| O_store rfl rfl foc2 rfl rfl Tryz.sizeOf45 <| ⟨fun h=>absurd h (by decide),?_⟩
        refine AJ_done (by kernel_rfl) <| QJ_ent (Ent.trans (t2_ (t2_ (t2_ (t2_ (t1_ (t1_ eR)))))) (OwnP_mk (v0:=x16.Open_1) (v1:=x16.Open_2) (v2:=x16.Open_3) (v3:=x16.Open_4) (v4:=(some r26.2)) (v5:=x16.T) (v6:=r32) (v7:=x16.Lost) (h0:=oc28.1) (h1:=oc28.2.1) (h2:=oc28.2.2.1) (h3:=X34) (h4:=oc28.2.2.2.2))) <| QJ_block_normal <| QJ_then <| CJ_region <| oM rfl rfl ?_
        obtain ⟨hg4,h⟩ := grd_Ne h
        exact oP (PJ_eq (P_add (a:=((x17 : Nat) : Int)) (b:=(1 : Int)) rfl rfl (nat_in hg4)) rfl) rfl <| oA rfl rfl <| RJ_nil <| nR ⟨n,(⟨x16.Open_1,x16.Open_2,x16.Open_3,x16.Open_4,(some r26.2),x16.T,r32,x16.Lost⟩ : OwnS),(x17 + 1)⟩ h ⟨rfl,True.intro⟩ (t0_ (t1_ (t1_ (eD eR))))
    ·
     replace h := ite_f hg1 h
     exact CJ_exit <| QJ_then_exit <| QJ_round_exit <| QJ_block_here <| cR x16 (Option.some.inj h).symm True.intro eR
  ·
   rintro a15 hy36
   replace h := seq_inl hK12 hy36
   show CJ _ _ _ _ _ (([] : Slots) ++ forget _ _) (OwnP bs bo a15::_)
   refine sR <| oM rfl rfl <| oV (V_len rfl foc2 (Reads.sl _ _ _) Tryz.runUnderlying45) rfl <| oP (P_gtr (a:=((r7.length : Nat) : Int)) (b:=(0 : Int)) rfl rfl) rfl <| oA rfl rfl <| nT <| CJ_ret ?_
   cases h
   exact fE (res1 Tryz.results53 rfl) () (t0_ (t0_ (eD eR)))
def regionlog_check_2 (regions : Int) : Option (Int) :=
  Option.bind (regionlog_Words regions) fun r1 =>
  if (r1=(0 : Int)) then
    some (1 : Int)
  else
    none
theorem L_regionlog_check_2 {W : World} {regions : Int} {r : Int} (h : regionlog_check_2 regions=some r) :
    CSpec Tryz.prog W 87 [.nilIface,.int .i64 regions] [] (fun x : Unit => .int .i64 r) (fun _=>True) (fun x F=>F) := by
 refine CSpec.of_body Tryz.func87 rfl Tryz.ntmps87 rfl fun F => ?_
 show CJ _ _ _ _ _ _ (F)
 unfold regionlog_check_2 at h
 refine sR <| oA rfl rfl <| nT <| CJ_seq <| sR <| oM rfl rfl ?_
 obtain ⟨r1,hr2,h⟩ := bind_e h
 refine oO <| O_call (L_regionlog_Words hr2) rfl Tryz.call89 Dels.nil rfl fun _ _=>oA rfl rfl <| nT <| CJ_block <| sR <| oM rfl rfl <| oP (P_eql (a:=r1) (b:=(0 : Int)) rfl rfl) rfl <| oA rfl rfl <| nT <| CJ_condP rfl bT_dec (fun hg1 => ?_) (fun hg1 => ?_)
 ·
  replace h := ite_t hg1 h
  refine sR <| oA rfl rfl <| nT <| CJ_ret <| QJ_block_ret <| QJ_then_ret ?_
  cases h
  exact fE (res1 Tryz.results87 rfl) () eR
 ·
  replace h := ite_f hg1 h
  exact sR <| oM rfl rfl <| none_e h
def regionlog_Open_2 (regions : Int) : Option (Int) :=
  Option.bind (regionlog_check_2 regions) fun r1 =>
  if (r1≠(0 : Int)) then
    some r1
  else
    Option.bind (regionlog_Words regions) fun r3 =>
    none
theorem L_regionlog_Open_2 {W : World} {regions : Int} {r : Int} (h : regionlog_Open_2 regions=some r) :
    CSpec Tryz.prog W 94 [.nilIface,.int .i64 regions] [] (fun x : Unit => .tuple #[.pointer none,.int .i64 r]) (fun _=>True) (fun x F=>F) := by
 refine CSpec.of_body Tryz.func94 rfl Tryz.ntmps94 rfl fun F => ?_
 show CJ _ _ _ _ _ _ (F)
 unfold regionlog_Open_2 at h
 refine sR <| oA rfl rfl <| oA rfl rfl <| nT <| CJ_seq <| sR <| oM rfl rfl <| oM rfl rfl ?_
 obtain ⟨r1,hr2,h⟩ := bind_e h
 refine oO <| O_call (L_regionlog_check_2 hr2) rfl Tryz.call87 Dels.nil rfl fun _ _=>oA rfl rfl <| nT <| sR <| oM rfl rfl <| oP (P_neq (a:=r1) (b:=(0 : Int)) rfl rfl) rfl <| nT <| CJ_condP rfl bT_dec (fun hg1 => ?_) (fun hg1 => ?_)
 ·
  replace h := ite_t hg1 h
  refine sR <| oM rfl rfl <| oA rfl rfl <| oA rfl rfl <| nT <| CJ_ret <| QJ_then_ret ?_
  cases h
  exact fE (res2 Tryz.results94 rfl rfl) () eR
 ·
  replace h := ite_f hg1 h
  refine kT <| sR <| oM rfl rfl <| oM rfl rfl ?_
  obtain ⟨r3,hr4,h⟩ := bind_e h
  exact oO <| O_call (L_regionlog_Words hr4) rfl Tryz.call89 Dels.nil rfl fun _ _=>none_e h
def mirror_Open_2_l1_b (legs : List Dvc) (staleLegs : List Int) (region : Int) (s : ArrS) (rec : MirS→Nat→Nat→Option (Nat × MirS)) (x33 : MirS) (x34 : Nat) (x35 : Nat) : Option (Nat × MirS) :=
  if (((x35 : Nat) : Int) < ((legs.length : Nat) : Int)) then
    Option.bind (slices_Contains_int staleLegs (((x35 : Nat) : Int))) fun r38 =>
    Option.bind ((
      if r38=true then
        some (x34,2)
      else
        grd (inN64 (x34 + 1)) <|
        some (((x34 + 1),0)) : Option (Nat × Nat))) fun a45 =>
    grd (inLen (x33.legs.length + 1)) <|
    Option.bind (Dvc.size (legs.getD x35 dv0) s) fun r63 =>
    rec ((⟨(x33.legs ++ [(⟨(legs.getD x35 dv0),((a45.2 : Nat) : Int),(0 : Int)⟩ : mlegS)]),x33.log,x33.hasLog,x33.logState,(min x33.size r63),x33.region,x33.dirty,x33.copied⟩ : MirS)) a45.1 (x35 + 1)
  else
    some (x34,x33)
def mirror_Open_2_l1 (legs : List Dvc) (staleLegs : List Int) (region : Int) (s : ArrS) : Nat→MirS→Nat→Nat→Option (Nat × MirS)
  | 0,_,_,_=>none
  | n + 1,x33,x34,x35=>mirror_Open_2_l1_b legs staleLegs region s (mirror_Open_2_l1 legs staleLegs region s n) x33 x34 x35
def mirror_Open_2_l3_b (r71 : Int) (rec : MirS→Nat→Option (MirS)) (x101 : MirS) (x102 : Nat) : Option (MirS) :=
  if (((x102 : Nat) : Int) < ((((List.replicate ((r71).toNat) false)).length : Nat) : Int)) then
    grd (decide (x102 < x101.dirty.length)) <|
    grd (inN64 (x102 + 1)) <|
    rec ({ x101 with dirty := (x101.dirty.set x102 true) }) (x102 + 1)
  else
    some x101
def mirror_Open_2_l3 (r71 : Int) : Nat→MirS→Nat→Option (MirS)
  | 0,_,_=>none
  | n + 1,x101,x102=>mirror_Open_2_l3_b r71 (mirror_Open_2_l3 r71 n) x101 x102
def mirror_Open_2 (legs : List Dvc) (staleLegs : List Int) (region : Int) (s : ArrS) : Option ((Option MirS) × Int) :=
  if ((((((legs.length : Nat) : Int) < (2 : Int))∨((6 : Int) < ((legs.length : Nat) : Int)))∨(region < (1 : Int)))∨((65536 : Int) < region)) then
    some ((none,(1 : Int)))
  else
    Option.bind (slices_ContainsFunc_int__mirror_Open_1 staleLegs (((legs.length : Nat) : Int))) fun r17 =>
    if r17=true then
      some ((none,(1 : Int)))
    else
      Option.bind (Dvc.size (legs.getD 0 dv0) s) fun r21 =>
      Option.bind (mirror_Open_2_l1 legs staleLegs region s FUEL ((⟨([] : List mlegS),none,false,(0 : Int),r21,region,[],(0 : Int)⟩ : MirS)) 0 0) fun a32 =>
      if (((a32.1 : Nat) : Int)=(0 : Int)) then
        some ((none,(19 : Int)))
      else
        Option.bind (mirror_Regions a32.2.size region) fun r71 =>
        grd (decide (0≤r71∧r71≤1000000000)) <|
        Option.bind (slices_Contains_int staleLegs (((legs.length : Nat) : Int))) fun r74 =>
        if (r74=true∨(¬ a32.2.hasLog=true)) then
          Option.bind (mirror_Open_2_l3 r71 FUEL ((⟨a32.2.legs,a32.2.log,a32.2.hasLog,(2 : Int),a32.2.size,a32.2.region,(List.replicate ((r71).toNat) false),a32.2.copied⟩ : MirS)) 0) fun a100 =>
          some (((some a100),(0 : Int)))
        else
          Option.bind (regionlog_Open_2 (((((List.replicate ((r71).toNat) false)).length : Nat) : Int))) fun r114 =>
          if ((r114≠(0 : Int))∧(r114≠(5 : Int))) then
            some ((none,(18 : Int)))
          else
            if (r114≠(0 : Int)) then
              some (none,r114)
            else
              none
theorem L_mirror_Open_2 {W : World} {Alegs : HP} {vlegs : Value} {hslegs : List IfH} {AstaleLegs : HP} {vstaleLegs : Value} {bs : Nat} {legs : List Dvc} {staleLegs : List Int} {region : Int} {s : ArrS} {r : (Option MirS) × Int} (rlegs : Reads Alegs tyDev vlegs hslegs) (rstaleLegs : Reads AstaleLegs tyI vstaleLegs staleLegs) (h : mirror_Open_2 legs staleLegs region s=some r) :
    CSpec Tryz.prog W 52 [vlegs,vstaleLegs,.nilIface,.int .i64 region] [Alegs,Rs (DevP bs) legs hslegs,AstaleLegs,Arr bs s] (fun x : Nat => .tuple #[oval r.1 x,.int .i64 r.2]) (fun _=>True) (fun x F=>Alegs::Rs (DevP bs) legs hslegs::AstaleLegs::Arr bs s::optP (MirP bs x) r.1::F) := by
 refine CSpec.of_body Tryz.func52 rfl Tryz.ntmps52 rfl fun F => ?_
 show CJ _ _ _ _ _ _ (_::_::_::_::F)
 unfold mirror_Open_2 at h
 refine CJ_pure (len_of rlegs del0) fun hlen1=>CJ_pure (fun h hh=>Rs_len (stars_perm (del1 (A:=Rs (DevP bs) legs hslegs)).out h hh)) fun hdl2=>CJ_pure (len_of rstaleLegs del2) fun hlen3=>sR <| oA rfl rfl <| oA rfl rfl <| nT <| sR <| oM rfl rfl <| oV (VJ_eq (V_len rfl foc0 rlegs Tryz.runUnderlying92) (congrArg (fun z : Nat=>Value.int .i64 (z : Int)) (hdl2).symm)) rfl <| oO <| O_alloc Tryz.zeroValue3 rfl rfl fun b4=>oO <| O_store rfl rfl foc0 rfl rfl Tryz.sizeOf3 <| nT <| sR <| oP (P_makeFunc rfl rfl) rfl <| oA rfl rfl <| nT <| CJ_seq <| sR <| oV (V_load rfl foc0 rfl Tryz.isAgg3) rfl <| oP (P_lss (a:=((legs.length : Nat) : Int)) (b:=(2 : Int)) rfl rfl) rfl <| oM rfl rfl <| RJ_mbF rfl rfl rfl (fun hG5=>have hP6 : ¬ (((legs.length : Nat) : Int) < (2 : Int)) := nP (bT_dec) hG5; V_load rfl foc0 rfl Tryz.isAgg3) <| RJ_mbF rfl rfl rfl (fun hG7=>have hP8 : ¬ (((legs.length : Nat) : Int) < (2 : Int)) := nP (bT_dec) hG7; VJ_P (P_gtr (a:=((legs.length : Nat) : Int)) (b:=(6 : Int)) (mbx hG7 rfl) rfl)) <| oP (P_pickOr rfl rfl (fun hh=>mbx (not_f hh) rfl)) rfl <| oM rfl rfl <| RJ_mbF rfl rfl rfl (fun hG9=>have hP10 : ¬ ((((legs.length : Nat) : Int) < (2 : Int))∨((6 : Int) < ((legs.length : Nat) : Int))) := nP ((bT_or bT_dec bT_dec)) hG9; VJ_P (P_move rfl)) ?_
 refine RJ_mbF rfl rfl rfl (fun hG11=>have hP12 : ¬ ((((legs.length : Nat) : Int) < (2 : Int))∨((6 : Int) < ((legs.length : Nat) : Int))) := nP ((bT_or bT_dec bT_dec)) hG11; VJ_P (P_lss (a:=region) (b:=(1 : Int)) (mbx hG11 rfl) rfl)) <| oP (P_pickOr rfl rfl (fun hh=>mbx (not_f hh) rfl)) rfl <| oM rfl rfl <| RJ_mbF rfl rfl rfl (fun hG13=>have hP14 : ¬ (((((legs.length : Nat) : Int) < (2 : Int))∨((6 : Int) < ((legs.length : Nat) : Int)))∨(region < (1 : Int))) := nP ((bT_or (bT_or bT_dec bT_dec) bT_dec)) hG13; VJ_P (P_move rfl)) <| RJ_mbF rfl rfl rfl (fun hG15=>have hP16 : ¬ (((((legs.length : Nat) : Int) < (2 : Int))∨((6 : Int) < ((legs.length : Nat) : Int)))∨(region < (1 : Int))) := nP ((bT_or (bT_or bT_dec bT_dec) bT_dec)) hG15; VJ_P (P_gtr (a:=region) (b:=(65536 : Int)) (mbx hG15 rfl) rfl)) <| oP (P_pickOr rfl rfl (fun hh=>mbx (not_f hh) rfl)) rfl <| oM rfl rfl <| RJ_splitP 39 rfl (bT_or (bT_or (bT_or bT_dec bT_dec) bT_dec) bT_dec) (fun hg1B hg1 => ?_) (fun hg1B hg1 => ?_)
 ·
  replace h := ite_t hg1 h
  refine RJ_gn (GY_no rfl rfl rfl hg1B) rfl rfl <| RJ_gn (GY_no rfl rfl rfl hg1B) rfl rfl <| RJ_gn (GY_no rfl rfl rfl hg1B) rfl rfl <| oP (P_pickT rfl hg1B rfl) rfl <| nT <| CJ_condT rfl rfl <| sR <| oA rfl rfl <| oA rfl rfl <| nT <| CJ_ret <| QJ_then_ret ?_
  cases h
  exact fE (res2 Tryz.results52 rfl rfl) 0 (t1_ (t1_ (t1_ (t1_ (Ent.trans (fun h hh=>optP_none h hh) <| t0_ (eD eR))))))
 ·
  replace h := ite_f hg1 h
  refine gP (GY_yes rfl rfl rfl hg1B) (P_move rfl) rfl <| gP (GY_yes rfl rfl rfl hg1B) (P_move rfl) rfl ?_
  obtain ⟨r17,hr18,h⟩ := bind_e h
  refine RJ_gy (GY_yes rfl rfl rfl hg1B) <| O_call (L_slices_ContainsFunc_int__mirror_Open_1 rstaleLegs hr18) rfl Tryz.call93 (Dels.cons del3 (Dels.cons del0 Dels.nil)) rfl fun _ _=>oP (P_pickF rfl hg1B rfl) rfl <| nT <| CJ_condP rfl Iff.rfl (fun hg2 => ?_) (fun hg2 => ?_)
  ·
   replace h := ite_t hg2 h
   refine sR <| oA rfl rfl <| oA rfl rfl <| nT <| CJ_ret <| QJ_then_ret ?_
   cases h
   exact fE (res2 Tryz.results52 rfl rfl) 0 (t2_ (t2_ (t0_ (t1_ (Ent.trans (fun h hh=>optP_none h hh) <| t0_ (eD eR))))))
  ·
   replace h := ite_f hg2 h
   refine kT <| CJ_seq <| AJ_startH 264 (by kernel_rfl) rfl <| aN 0 1 rfl rfl (P_move rfl) rfl <| aV 1 3 rfl rfl (GY_none rfl) eR (V_index (i:=0) rfl rfl rfl (by have hz : 0 < legs.length := (by omega); have hy := hdl2; omega) foc2 rlegs Tryz.runUnderlying92 Tryz.sizeOf96) rfl <| AJ_ent (Ent.trans (t3_ eR) (Rs_at (fun _ _=>Dup_DevP) (dx:=dv0) (dh:=tyDev.dflt) (i:=0) (by omega))) <| aV 2 7 rfl rfl (GY_none rfl) (t2_ (t2_ (t2_ (t1_ (t1_ (eD eR)))))) (V_loadE rfl rfl (by have hz : 0 < legs.length := (by omega); have hy := hdl2; omega) foc2 rlegs rfl rfl Tryz.isAgg96) rfl <| aN 4 23 rfl rfl (P_move rfl) rfl <| aN 5 55 rfl rfl (P_move rfl) rfl <| aN 6 119 rfl rfl (P_neqIN rfl Tryz.underlying96) rfl <| AJ_pure (fun h hh=>DevP_dep h (stars_perm (del0 (A:=DevP bs (legs.getD 0 dv0) (hslegs.getD 0 tyDev.dflt))).out h hh)) fun hdp20 => ?_
   obtain ⟨r21,hr22,h⟩ := bind_e h
   refine AJ_op 3 127 rfl (by kernel_rfl) rfl (GY_none rfl) <| O_callI rfl (dev_Size hr22 hdp20) rfl (Dels.cons del0 (Dels.cons del4 Dels.nil)) rfl fun _ _=>⟨fun h=>absurd h (by decide),?_⟩
   refine aN 7 255 rfl rfl (P_build rfl (bld_119_4_5_2 _ _ _)) rfl <| AJ_op 8 511 rfl (by kernel_rfl) rfl (GY_none rfl) <| O_box rfl rfl rfl fun b23=>⟨fun h=>absurd h (by decide),?_⟩
   refine aN 9 1023 rfl rfl (P_assign rfl) rfl <| AJ_done (by kernel_rfl) <| QJ_ent (t0_ (t1_ (t1_ (t1_ (t1_ (t1_ (eD eR))))))) <| QJ_then <| sR <| oA rfl rfl <| nT <| CJ_seq <| sR <| oM rfl rfl <| oV (VJ_eq (V_len rfl foc5 rlegs Tryz.runUnderlying92) (congrArg (fun z : Nat=>Value.int .i64 (z : Int)) (hdl2).symm)) rfl <| oM rfl rfl <| nT <| CJ_ent (fun h hh=>sl_nil (t:=tymlegH) h (rs_nil (RP:=DevP bs) h hh)) <| CJ_ent (fun h hh=>sl_nil (t:=tyB) h hh) <| CJ_ent (Ent.trans (t3_ (t1_ (t1_ (Ent.trans (fun h hh=>optP_none h hh) <| t0_ eR)))) (MirP_mk (v0:=([] : List mlegS)) (v1:=none) (v2:=false) (v3:=(0 : Int)) (v4:=r21) (v5:=region) (v6:=[]) (v7:=(0 : Int)) (h0:=⟨none,0,0⟩) (h1:=([] : List IfH)) (h2:=0) (h3:=⟨none,0,0⟩))) ?_
   obtain ⟨y29,hl27,hK28⟩ := bind_c h
   refine CJ_cutT (X:=Nat × MirS) [13,14,15,16,55,56,57,58,59,60,61,62,63,64,65,66,67,68,69,70,71,72,73,74,75,76,77,78,79,80,81,82,83,84,85,86,87,88] (fun a32=>([(13,.int .i64 (((a32.1 : Nat) : Int)))] : Slots)) (fun a32 R=>MirP bs b23 a32.2::R) (fun a32=>y29=a32) (Dels.cons del0 Dels.nil) ?_ ?_
   ·
    refine CJ_block <| CJ_loopR (X:=Nat × MirS × Nat × Nat) [13,14,15,16,55,56,57,58,59,60,61,62,63,64,65,66,67,68,69,70,71,72,73,74,75,76,77,78,79,80,81,82,83,84,85,86,87,88] (fun ⟨n,x33,x34,x35⟩=>([(13,.int .i64 (((x34 : Nat) : Int))),(55,.int .i64 (((x35 : Nat) : Int)))] : Slots)) (fun ⟨n,x33,x34,x35⟩ R=>MirP bs b23 x33::R) (fun ⟨n,x33,x34,x35⟩=>mirror_Open_2_l1 legs staleLegs region s n x33 x34 x35=some y29) (fun ⟨n,x33,x34,x35⟩=>n) ⟨FUEL,(⟨([] : List mlegS),none,false,(0 : Int),r21,region,[],(0 : Int)⟩ : MirS),0,0⟩ ?_ ?_ eR ?_
    · exact hl27
    · exact ⟨rfl,rfl,True.intro⟩
    ·
     rintro ⟨n,x33,x34,x35⟩ h
     cases n with
     | zero=>exact none_e h
     | succ n => ?_
     replace h : mirror_Open_2_l1_b legs staleLegs region s (mirror_Open_2_l1 legs staleLegs region s n) x33 x34 x35=some y29 := h
     unfold mirror_Open_2_l1_b at h
     show CJ _ _ _ _ _ (([(13,.int .i64 (((x34 : Nat) : Int))),(55,.int .i64 (((x35 : Nat) : Int)))] : Slots) ++ forget _ _) (MirP bs b23 x33::_)
     refine sR <| oP (P_lss (a:=((x35 : Nat) : Int)) (b:=((legs.length : Nat) : Int)) rfl rfl) rfl <| nT <| CJ_seq <| CJ_condP rfl bT_dec (fun hg3 => ?_) (fun hg3 => ?_)
     ·
      replace h := ite_t hg3 h
      refine kT <| CJ_seq <| CJ_block <| sR <| oM rfl rfl <| oV (V_index (i:=x35) rfl rfl rfl (by have hz : x35 < legs.length := (by omega); have hy := hdl2; omega) foc5 rlegs Tryz.runUnderlying92 Tryz.sizeOf96) rfl <| RJ_ent (Ent.trans (t2_ eR) (Rs_at (fun _ _=>Dup_DevP) (dx:=dv0) (dh:=tyDev.dflt) (i:=x35) (by omega))) <| oV (V_loadE rfl rfl (by have hz : x35 < legs.length := (by omega); have hy := hdl2; omega) foc6 rlegs rfl rfl Tryz.isAgg96) rfl <| oA rfl rfl <| oA rfl rfl <| nT <| sR <| oM rfl rfl <| oP (P_build rfl (bld_129_0 _ _)) rfl <| oO <| O_alloc Tryz.zeroValue129 rfl rfl fun b37=>oO <| O_storeN rfl rfl foc0 Tryz.sizeOf129 rfl rfl rfl <| nT <| CJ_seq <| sR <| oM rfl rfl <| oM rfl rfl ?_
      obtain ⟨r38,hr39,h⟩ := bind_e h
      refine oO <| O_call (L_slices_Contains_int rstaleLegs hr39) rfl Tryz.call81 (Dels.cons del5 Dels.nil) rfl fun _ _=>nT ?_
      obtain ⟨y42,hl40,hK41⟩ := bind_c h
      refine CJ_cutT (X:=Nat × Nat) [13,65,66,67] (fun a45=>([(13,.int .i64 (((a45.1 : Nat) : Int)))] : Slots)) (fun a45 R=>blk b37 129 [IfH.v (hslegs.getD x35 tyDev.dflt),.int .i64 (((a45.2 : Nat) : Int)),.int .i64 (0 : Int)]::R) (fun a45=>y42=a45) (Dels.cons del1 Dels.nil) ?_ ?_
      ·
       have h := hl40
       refine CJ_condP rfl Iff.rfl (fun hg4 => ?_) (fun hg4 => ?_)
       ·
        replace h := ite_t hg4 h
        exact CJ_region <| oP (P_fieldAddr rfl ⟨_,_,_,Tryz.runUnderlying129,rfl,rfl,Tryz.sizeOf117,rfl⟩) rfl <| oO <| O_store rfl rfl foc1 rfl rfl Tryz.sizeOf117 <| RJ_nil <| cR (x34,2) (Option.some.inj h).symm ⟨rfl,True.intro⟩ (t1_ eR)
       ·
        replace h := ite_f hg4 h
        refine CJ_region <| oM rfl rfl ?_
        obtain ⟨hg5,h⟩ := grd_Ne h
        exact oP (PJ_eq (P_add (a:=((x34 : Nat) : Int)) (b:=(1 : Int)) rfl rfl (nat_in hg5)) rfl) rfl <| oA rfl rfl <| RJ_nil <| cR ((x34 + 1),0) (Option.some.inj h).symm ⟨rfl,True.intro⟩ (t1_ eR)
      ·
       rintro a45 hy46
       replace h := bindK_at hK41 hy46
       show CJ _ _ _ _ _ (([(13,.int .i64 (((a45.1 : Nat) : Int)))] : Slots) ++ forget _ _) (blk b37 129 [IfH.v (hslegs.getD x35 tyDev.dflt),.int .i64 (((a45.2 : Nat) : Int)),.int .i64 (0 : Int)]::_)
       refine CJ_seq <| CJ_entX (Ent.transX (t4_ eR) (MirP_open (l:=x33))) fun oc47=>CJ_pure (fun h hh=>Rs_len (stars_perm (del2 (A:=Rs (DevP bs) (x33.legs.map mlegS.dev) oc47.2.1)).out h hh)) fun hdl49=>lC del1 fun hlen50 => ?_
       rw [mk_mleg_len (by have := hdl49; simpa using this)] at hlen50
       refine lC del4 fun hlen51=>AJ_startH 1152 (by kernel_rfl) rfl <| aN 0 1 rfl rfl (P_move rfl) rfl <| aN 1 3 rfl rfl (P_move rfl) rfl <| aN 2 7 rfl rfl (P_nilCheck rfl) rfl <| aN 3 15 rfl rfl (P_fieldAddr rfl ⟨_,_,_,Tryz.runUnderlying119,rfl,rfl,Tryz.sizeOf115,rfl⟩) rfl <| aV 4 31 rfl rfl (GY_none rfl) eR (V_load rfl foc0 rfl Tryz.isAgg115) rfl <| aV 5 63 rfl rfl (GY_none rfl) eR (V_loadN rfl foc5 Tryz.isAgg129 Tryz.sizeOf129 rfl rfl) rfl <| AJ_op 6 127 rfl (by kernel_rfl) rfl (GY_none rfl) <| O_buildSlice rfl (bs_115_1_0 _ _ _ _) rfl fun b52=>⟨fun _=>(t1_ (t1_ (t1_ (t1_ (t1_ (t1_ (t1_ (t1_ (t1_ (t1_ (t1_ (t1_ (eD eR))))))))))))),?_⟩
       obtain ⟨hg6,h⟩ := grd_Le h
       refine AJ_op 7 255 rfl (by kernel_rfl) rfl (GY_none rfl) <| O_append (t:=tymlegH) (bytes:=32) rfl rfl del2 foc0 (Reads.lit (t:=tymlegH) (ys:=[(⟨((hslegs.getD x35 tyDev.dflt) : IfH),((a45.2 : Nat) : Int),(0 : Int)⟩ : mlegH)]) rfl rfl (by decide) (by decide) rfl) Tryz.underlying115 ok_tymlegH (apl (m:=1) (b:=32) (show (mk_mleg x33.legs oc47.2.1).length + 1≤1000000000 by rw [mk_mleg_len (by have := hdl49; simpa using this)]; exact hg6) (by decide)).1 (apl (m:=1) (b:=32) (show (mk_mleg x33.legs oc47.2.1).length + 1≤1000000000 by rw [mk_mleg_len (by have := hdl49; simpa using this)]; exact hg6) (by decide)).2 rfl fun p54 c55=>⟨fun h=>absurd h (by decide),?_⟩
       refine AJ_ent (Ent.takeC (A' := sl tymlegH (.slice p54 (mk_mleg x33.legs oc47.2.1 ++ [(⟨((hslegs.getD x35 tyDev.dflt) : IfH),((a45.2 : Nat) : Int),(0 : Int)⟩ : mlegH)]).length c55) (mk_mleg (x33.legs ++ [(⟨(legs.getD x35 dv0),((a45.2 : Nat) : Int),(0 : Int)⟩ : mlegS)]) (oc47.2.1 ++ [((hslegs.getD x35 tyDev.dflt) : IfH)]))) del0 (congrArg (sl tymlegH _) (mk_mleg_snoc (by have := hdl49; simpa using this) (⟨(legs.getD x35 dv0),((a45.2 : Nat) : Int),(0 : Int)⟩ : mlegS) ((hslegs.getD x35 tyDev.dflt) : IfH))) eR) <| AJ_ent (Ent.trans (t3_ (t7_ eR)) (Rs_push (x:=(legs.getD x35 dv0)) (g:=((hslegs.getD x35 tyDev.dflt) : IfH)) (fun _ _=>Dup_DevP))) <| AJ_ent (Ent.takeC (A' := Rs (DevP bs) (((x33.legs ++ [(⟨(legs.getD x35 dv0),((a45.2 : Nat) : Int),(0 : Int)⟩ : mlegS)])).map mlegS.dev) (oc47.2.1 ++ [((hslegs.getD x35 tyDev.dflt) : IfH)])) del0 (congrArg (fun z=>Rs (DevP bs) z (oc47.2.1 ++ [((hslegs.getD x35 tyDev.dflt) : IfH)])) (by simp)) eR) <| AJ_pure (fun h hh=>Rs_len (stars_perm (del0 (A:=Rs (DevP bs) ((((x33.legs ++ [(⟨(legs.getD x35 dv0),((a45.2 : Nat) : Int),(0 : Int)⟩ : mlegS)])).map mlegS.dev)) ((oc47.2.1 ++ [((hslegs.getD x35 tyDev.dflt) : IfH)])))).out h hh)) fun hdl56=>aN 8 511 rfl rfl (P_nilCheck rfl) rfl <| aN 9 1023 rfl rfl (P_fieldAddr rfl ⟨_,_,_,Tryz.runUnderlying119,rfl,rfl,Tryz.sizeOf115,rfl⟩) rfl <| AJ_op 10 2047 rfl (by kernel_rfl) rfl (GY_none rfl) <| O_store rfl rfl foc4 rfl rfl Tryz.sizeOf115 ?_
       refine ⟨fun h=>absurd h (by decide),?_⟩
       refine AJ_done (by kernel_rfl) <| QJ_ent (Ent.trans (t4_ (t2_ (t0_ (t2_ (t2_ eR))))) (MirP_mk (v0:=(x33.legs ++ [(⟨(legs.getD x35 dv0),((a45.2 : Nat) : Int),(0 : Int)⟩ : mlegS)])) (v1:=x33.log) (v2:=x33.hasLog) (v3:=x33.logState) (v4:=x33.size) (v5:=x33.region) (v6:=x33.dirty) (v7:=x33.copied) (h0:=⟨p54,(mk_mleg x33.legs oc47.2.1 ++ [(⟨((hslegs.getD x35 tyDev.dflt) : IfH),((a45.2 : Nat) : Int),(0 : Int)⟩ : mlegH)]).length,c55⟩) (h1:=(oc47.2.1 ++ [((hslegs.getD x35 tyDev.dflt) : IfH)])) (h2:=oc47.2.2.1) (h3:=oc47.2.2.2))) <| QJ_ent (t0_ (t0_ (t2_ (t2_ (t2_ (t2_ (t2_ (eD (eD eR))))))))) <| QJ_then <| CJ_entX (Ent.transX (t0_ eR) (MirP_open (l := { x33 with legs := (x33.legs ++ [(⟨(legs.getD x35 dv0),((a45.2 : Nat) : Int),(0 : Int)⟩ : mlegS)]) }))) fun oc57=>CJ_pure (fun h hh=>Rs_len (stars_perm (del2 (A:=Rs (DevP bs) ((((x33.legs ++ [(⟨(legs.getD x35 dv0),((a45.2 : Nat) : Int),(0 : Int)⟩ : mlegS)])).map mlegS.dev)) oc57.2.1)).out h hh)) fun hdl59=>lC del1 fun hlen60 => ?_
       rw [mk_mleg_len (by have := hdl59; simpa using this)] at hlen60
       refine lC del4 fun hlen61=>AJ_startH 1024 (by kernel_rfl) rfl <| aN 0 1 rfl rfl (P_move rfl) rfl <| aN 1 3 rfl rfl (P_move rfl) rfl <| aN 2 7 rfl rfl (P_nilCheck rfl) rfl <| aN 3 15 rfl rfl (P_fieldAddr rfl ⟨_,_,_,Tryz.runUnderlying119,rfl,rfl,Tryz.sizeOf3,rfl⟩) rfl <| aV 4 31 rfl rfl (GY_none rfl) eR (V_load rfl foc0 rfl Tryz.isAgg3) rfl <| aN 5 63 rfl rfl (P_move rfl) rfl <| AJ_pure (fun h hh=>DevP_dep h (stars_perm (del5 (A:=DevP bs (legs.getD x35 dv0) (hslegs.getD x35 tyDev.dflt))).out h hh)) fun hdp62 => ?_
       obtain ⟨r63,hr64,h⟩ := bind_e h
       refine AJ_op 6 127 rfl (by kernel_rfl) rfl (GY_none rfl) <| O_callI rfl (dev_Size hr64 hdp62) rfl (Dels.cons del5 (Dels.cons del7 Dels.nil)) rfl fun _ _=>⟨fun _=>(t2_ (t2_ (t2_ (t2_ (t2_ (t0_ (t1_ (t1_ eR)))))))),?_⟩
       refine aN 7 255 rfl rfl (P_min (a:=x33.size) (b:=r63) rfl rfl) rfl <| aN 8 511 rfl rfl (P_nilCheck rfl) rfl <| aN 9 1023 rfl rfl (P_fieldAddr rfl ⟨_,_,_,Tryz.runUnderlying119,rfl,rfl,Tryz.sizeOf3,rfl⟩) rfl <| AJ_op 10 2047 rfl (by kernel_rfl) rfl (GY_none rfl) <| O_store rfl rfl foc2 rfl rfl Tryz.sizeOf3 <| ⟨fun h=>absurd h (by decide),?_⟩
       exact AJ_done (by kernel_rfl) <| QJ_ent (Ent.trans (t2_ (t2_ (t2_ (t2_ (t2_ eR))))) (MirP_mk (v0:=(x33.legs ++ [(⟨(legs.getD x35 dv0),((a45.2 : Nat) : Int),(0 : Int)⟩ : mlegS)])) (v1:=x33.log) (v2:=x33.hasLog) (v3:=x33.logState) (v4:=(min x33.size r63)) (v5:=x33.region) (v6:=x33.dirty) (v7:=x33.copied) (h0:=oc57.1) (h1:=oc57.2.1) (h2:=oc57.2.2.1) (h3:=oc57.2.2.2))) <| QJ_block_normal <| QJ_ent (t0_ (t1_ (t1_ (t1_ (t1_ (t1_ (eD eR))))))) <| QJ_then <| CJ_region <| oP (PJ_eq (P_add (a:=((x35 : Nat) : Int)) (b:=(1 : Int)) rfl rfl (by omega)) rfl) rfl <| oM rfl rfl <| RJ_nil <| nR ⟨n,(⟨(x33.legs ++ [(⟨(legs.getD x35 dv0),((a45.2 : Nat) : Int),(0 : Int)⟩ : mlegS)]),x33.log,x33.hasLog,x33.logState,(min x33.size r63),x33.region,x33.dirty,x33.copied⟩ : MirS),a45.1,(x35 + 1)⟩ h ⟨rfl,rfl,True.intro⟩ (t0_ (t0_ (t1_ eR)))
     ·
      replace h := ite_f hg3 h
      exact CJ_exit <| QJ_then_exit <| QJ_round_exit <| QJ_block_here <| cR (x34,x33) (Option.some.inj h).symm ⟨rfl,True.intro⟩ eR
   ·
    rintro a32 hy65
    replace h := bindK_at hK28 hy65
    show CJ _ _ _ _ _ (([(13,.int .i64 (((a32.1 : Nat) : Int)))] : Slots) ++ forget _ _) (MirP bs b23 a32.2::_)
    refine CJ_seq <| sR <| oM rfl rfl <| oP (P_eql (a:=((a32.1 : Nat) : Int)) (b:=(0 : Int)) rfl rfl) rfl <| nT <| CJ_condP rfl bT_dec (fun hg7 => ?_) (fun hg7 => ?_)
    ·
     replace h := ite_t hg7 h
     refine sR <| oA rfl rfl <| oA rfl rfl <| nT <| CJ_ret <| QJ_then_ret ?_
     cases h
     exact fE (res2 Tryz.results52 rfl rfl) 0 (t5_ (t2_ (t2_ (t1_ (Ent.trans (fun h hh=>optP_none h hh) <| t0_ (eD (eD eR)))))))
    ·
     replace h := ite_f hg7 h
     refine kT <| CJ_seq <| CJ_entX (Ent.transX (t0_ eR) (MirP_open (l:=a32.2))) fun oc66=>CJ_pure (fun h hh=>Rs_len (stars_perm (del2 (A:=Rs (DevP bs) (a32.2.legs.map mlegS.dev) oc66.2.1)).out h hh)) fun hdl68=>lC del1 fun hlen69 => ?_
     rw [mk_mleg_len (by have := hdl68; simpa using this)] at hlen69
     refine lC del4 fun hlen70=>CJ_region <| oM rfl rfl <| oM rfl rfl <| oP (P_nilCheck rfl) rfl <| oP (P_fieldAddr rfl ⟨_,_,_,Tryz.runUnderlying119,rfl,rfl,Tryz.sizeOf3,rfl⟩) rfl <| oV (V_load rfl foc0 rfl Tryz.isAgg3) rfl <| oM rfl rfl ?_
     obtain ⟨r71,hr72,h⟩ := bind_e h
     refine oO <| O_call (L_mirror_Regions hr72) rfl Tryz.call42 Dels.nil rfl fun _ _ => ?_
     obtain ⟨hg8,h⟩ := grd_de h
     refine oO <| O_make (t:=tyB) (m:=(r71).toNat) (x0:=false) (z:=_) (bytes:=_) rfl rfl (Int.toNat_of_nonneg (hg8.1)).symm (Int.toNat_of_nonneg (hg8.1)).symm Tryz.underlying34 ⟨Tryz.t4,by kernel_rfl,rfl,rfl,rfl⟩ rfl (by omega) (by decide) rfl fun b73=>oP (P_nilCheck rfl) rfl <| oP (P_fieldAddr rfl ⟨_,_,_,Tryz.runUnderlying119,rfl,rfl,Tryz.sizeOf34,rfl⟩) rfl <| oO <| O_store rfl rfl foc1 rfl rfl Tryz.sizeOf34 <| RJ_nil <| QJ_ent (Ent.trans (t1_ (t1_ (t1_ (t1_ eR)))) (MirP_mk (v0:=a32.2.legs) (v1:=a32.2.log) (v2:=a32.2.hasLog) (v3:=a32.2.logState) (v4:=a32.2.size) (v5:=a32.2.region) (v6:=(List.replicate ((r71).toNat) false)) (v7:=a32.2.copied) (h0:=oc66.1) (h1:=oc66.2.1) (h2:=oc66.2.2.1) (h3:=⟨some ⟨b73,0,none⟩,(r71).toNat,(r71).toNat⟩))) <| QJ_ent (t0_ (t1_ (t1_ (t1_ (t1_ (t1_ (eD eR))))))) <| QJ_then <| CJ_seq <| sR <| oM rfl rfl <| oV (V_load rfl foc4 rfl Tryz.isAgg3) rfl ?_
     obtain ⟨r74,hr75,h⟩ := bind_e h
     refine oO <| O_call (L_slices_Contains_int rstaleLegs hr75) rfl Tryz.call81 (Dels.cons del3 Dels.nil) rfl fun _ _=>oM rfl rfl <| RJ_mbF rfl rfl rfl (fun hG76=>have hP77 : ¬ r74=true := nP (Iff.rfl) hG76; VJ_P (P_move rfl)) <| RJ_mbF rfl rfl rfl (fun hG78=>have hP79 : ¬ r74=true := nP (Iff.rfl) hG78; VJ_P (P_nilCheck (mbx hG78 rfl))) <| RJ_mbF rfl rfl rfl (fun hG80=>have hP81 : ¬ r74=true := nP (Iff.rfl) hG80; VJ_P (P_fieldAddr (mbx hG80 rfl) ⟨_,_,_,Tryz.runUnderlying119,rfl,rfl,Tryz.sizeOf4,rfl⟩)) <| RJ_mbF rfl rfl rfl (fun hG82=>have hP83 : ¬ r74=true := nP (Iff.rfl) hG82; VJ_entX (Ent.transX (t1_ eR) (MirP_open (l := { a32.2 with dirty := (List.replicate ((r71).toNat) false) }))) (fun _=>V_load (mbx hG82 rfl) foc0 rfl Tryz.isAgg4)) <| RJ_mbF rfl rfl rfl (fun hG84=>have hP85 : ¬ r74=true := nP (Iff.rfl) hG84; VJ_P (P_not (mbx hG84 rfl))) <| oP (P_pickOr rfl rfl (fun hh=>mbx (not_f hh) rfl)) rfl <| nT <| CJ_condP rfl (bT_or Iff.rfl (bT_not Iff.rfl)) (fun hg9 => ?_) (fun hg9 => ?_)
     ·
      replace h := ite_t hg9 h
      refine CJ_seq <| CJ_entX (Ent.transX (t1_ eR) (MirP_open (l := { a32.2 with dirty := (List.replicate ((r71).toNat) false) }))) fun oc86=>CJ_pure (fun h hh=>Rs_len (stars_perm (del2 (A:=Rs (DevP bs) (a32.2.legs.map mlegS.dev) oc86.2.1)).out h hh)) fun hdl88=>lC del1 fun hlen89 => ?_
      rw [mk_mleg_len (by have := hdl88; simpa using this)] at hlen89
      refine lC del4 fun hlen90=>CJ_region <| oM rfl rfl <| oP (P_nilCheck rfl) rfl <| oP (P_fieldAddr rfl ⟨_,_,_,Tryz.runUnderlying119,rfl,rfl,Tryz.sizeOf117,rfl⟩) rfl <| oO <| O_store rfl rfl foc0 rfl rfl Tryz.sizeOf117 <| RJ_nil <| QJ_ent (Ent.trans eR (MirP_mk (v0:=a32.2.legs) (v1:=a32.2.log) (v2:=a32.2.hasLog) (v3:=(2 : Int)) (v4:=a32.2.size) (v5:=a32.2.region) (v6:=(List.replicate ((r71).toNat) false)) (v7:=a32.2.copied) (h0:=oc86.1) (h1:=oc86.2.1) (h2:=oc86.2.2.1) (h3:=oc86.2.2.2))) <| QJ_then <| CJ_seq <| CJ_seq <| CJ_entX (Ent.transX (t0_ eR) (MirP_open (l:=(⟨a32.2.legs,a32.2.log,a32.2.hasLog,(2 : Int),a32.2.size,a32.2.region,(List.replicate ((r71).toNat) false),a32.2.copied⟩ : MirS)))) fun oc91=>CJ_pure (fun h hh=>Rs_len (stars_perm (del2 (A:=Rs (DevP bs) (a32.2.legs.map mlegS.dev) oc91.2.1)).out h hh)) fun hdl93=>lC del1 fun hlen94 => ?_
      rw [mk_mleg_len (by have := hdl93; simpa using this)] at hlen94
      refine lC del4 fun hlen95=>CJ_region <| oM rfl rfl <| oP (P_nilCheck rfl) rfl <| oP (P_fieldAddr rfl ⟨_,_,_,Tryz.runUnderlying119,rfl,rfl,Tryz.sizeOf34,rfl⟩) rfl <| oV (V_load rfl foc0 rfl Tryz.isAgg34) rfl <| oV (V_len rfl foc4 (Reads.sl _ _ _) Tryz.runUnderlying34) rfl <| oM rfl rfl <| RJ_nil <| QJ_ent (Ent.trans eR (MirP_mk (v0:=a32.2.legs) (v1:=a32.2.log) (v2:=a32.2.hasLog) (v3:=(2 : Int)) (v4:=a32.2.size) (v5:=a32.2.region) (v6:=(List.replicate ((r71).toNat) false)) (v7:=a32.2.copied) (h0:=oc91.1) (h1:=oc91.2.1) (h2:=oc91.2.2.1) (h3:=oc91.2.2.2))) <| QJ_then ?_
      obtain ⟨y98,hl96,hK97⟩ := bind_c h
      refine CJ_cutT (X:=MirS) [17,119,120,121,122,123,124,125,126,127,128] (fun a100=>([] : Slots)) (fun a100 R=>MirP bs b23 a100::R) (fun a100=>y98=a100) (Dels.cons del0 Dels.nil) ?_ ?_
      ·
       refine CJ_block <| CJ_loopR (X:=Nat × MirS × Nat) [17,119,120,121,122,123,124,125,126,127,128] (fun ⟨n,x101,x102⟩=>([(119,.int .i64 (((x102 : Nat) : Int)))] : Slots)) (fun ⟨n,x101,x102⟩ R=>MirP bs b23 x101::R) (fun ⟨n,x101,x102⟩=>mirror_Open_2_l3 r71 n x101 x102=some y98) (fun ⟨n,x101,x102⟩=>n) ⟨FUEL,(⟨a32.2.legs,a32.2.log,a32.2.hasLog,(2 : Int),a32.2.size,a32.2.region,(List.replicate ((r71).toNat) false),a32.2.copied⟩ : MirS),0⟩ ?_ ?_ eR ?_
       · exact hl96
       · exact ⟨rfl,True.intro⟩
       ·
        rintro ⟨n,x101,x102⟩ h
        cases n with
        | zero=>exact none_e h
        | succ n => ?_
        replace h : mirror_Open_2_l3_b r71 (mirror_Open_2_l3 r71 n) x101 x102=some y98 := h
        unfold mirror_Open_2_l3_b at h
        show CJ _ _ _ _ _ (([(119,.int .i64 (((x102 : Nat) : Int)))] : Slots) ++ forget _ _) (MirP bs b23 x101::_)
        refine sR <| oP (P_lss (a:=((x102 : Nat) : Int)) (b:=((((List.replicate ((r71).toNat) false)).length : Nat) : Int)) rfl rfl) rfl <| nT <| CJ_seq <| CJ_condP rfl bT_dec (fun hg10 => ?_) (fun hg10 => ?_)
        ·
         replace h := ite_t hg10 h
         refine kT <| CJ_seq <| CJ_block <| sR <| oM rfl rfl <| oA rfl rfl <| nT <| CJ_entX (Ent.transX (t0_ eR) (MirP_open (l:=x101))) fun oc103=>CJ_pure (fun h hh=>Rs_len (stars_perm (del2 (A:=Rs (DevP bs) (x101.legs.map mlegS.dev) oc103.2.1)).out h hh)) fun hdl105=>lC del1 fun hlen106 => ?_
         rw [mk_mleg_len (by have := hdl105; simpa using this)] at hlen106
         refine lC del4 fun hlen107=>CJ_region <| oM rfl rfl <| oP (P_nilCheck rfl) rfl <| oP (P_fieldAddr rfl ⟨_,_,_,Tryz.runUnderlying119,rfl,rfl,Tryz.sizeOf34,rfl⟩) rfl <| oV (V_load rfl foc0 rfl Tryz.isAgg34) rfl <| oM rfl rfl ?_
         obtain ⟨hg11,h⟩ := grd_de h
         refine oV (V_index (i:=x102) rfl rfl rfl hg11 foc4 (Reads.sl _ _ _) Tryz.runUnderlying34 Tryz.sizeOf4) rfl <| oO <| O_storeE (x' := true) rfl rfl rfl hg11 foc4 rfl rfl rfl Tryz.sizeOf4 <| RJ_nil <| QJ_ent (Ent.trans eR (MirP_mk (v0:=x101.legs) (v1:=x101.log) (v2:=x101.hasLog) (v3:=x101.logState) (v4:=x101.size) (v5:=x101.region) (v6:=(x101.dirty.set x102 true)) (v7:=x101.copied) (h0:=oc103.1) (h1:=oc103.2.1) (h2:=oc103.2.2.1) (h3:=oc103.2.2.2))) <| QJ_block_normal <| QJ_then <| CJ_region ?_
         obtain ⟨hg12,h⟩ := grd_Ne h
         exact oP (PJ_eq (P_add (a:=((x102 : Nat) : Int)) (b:=(1 : Int)) rfl rfl (nat_in hg12)) rfl) rfl <| oM rfl rfl <| RJ_nil <| nR ⟨n, { x101 with dirty := (x101.dirty.set x102 true) },(x102 + 1)⟩ h ⟨rfl,True.intro⟩ eR
        ·
         replace h := ite_f hg10 h
         exact CJ_exit <| QJ_then_exit <| QJ_round_exit <| QJ_block_here <| cR x101 (Option.some.inj h).symm True.intro eR
      ·
       rintro a100 hy108
       replace h := bindK_at hK97 hy108
       show CJ _ _ _ _ _ (([] : Slots) ++ forget _ _) (MirP bs b23 a100::_)
       refine sR <| oM rfl rfl <| oA rfl rfl <| oA rfl rfl <| nT <| CJ_ret <| QJ_then_ret ?_
       cases h
       exact fE (res2 Tryz.results52 rfl rfl) b23 (t5_ (t3_ (t1_ (t1_ (t0_ (eD eR))))))
     ·
      replace h := ite_f hg9 h
      refine kT <| CJ_seq <| CJ_entX (Ent.transX (t1_ eR) (MirP_open (l := { a32.2 with dirty := (List.replicate ((r71).toNat) false) }))) fun oc109=>CJ_pure (fun h hh=>Rs_len (stars_perm (del2 (A:=Rs (DevP bs) (a32.2.legs.map mlegS.dev) oc109.2.1)).out h hh)) fun hdl111=>lC del1 fun hlen112 => ?_
      rw [mk_mleg_len (by have := hdl111; simpa using this)] at hlen112
      refine lC del4 fun hlen113=>CJ_region <| oM rfl rfl <| oM rfl rfl <| oP (P_nilCheck rfl) rfl <| oP (P_fieldAddr rfl ⟨_,_,_,Tryz.runUnderlying119,rfl,rfl,Tryz.sizeOf34,rfl⟩) rfl <| oV (V_load rfl foc0 rfl Tryz.isAgg34) rfl <| oV (V_len rfl foc4 (Reads.sl _ _ _) Tryz.runUnderlying34) rfl ?_
      obtain ⟨r114,hr115,h⟩ := bind_e h
      refine oO <| O_call (L_regionlog_Open_2 hr115) rfl Tryz.call94 Dels.nil rfl fun _ _=>oM rfl rfl <| oP (P_extract rfl rfl) rfl <| oP (P_extract rfl rfl) rfl <| oA rfl rfl <| oA rfl rfl <| RJ_nil <| QJ_ent (Ent.trans eR (MirP_mk (v0:=a32.2.legs) (v1:=a32.2.log) (v2:=a32.2.hasLog) (v3:=a32.2.logState) (v4:=a32.2.size) (v5:=a32.2.region) (v6:=(List.replicate ((r71).toNat) false)) (v7:=a32.2.copied) (h0:=oc109.1) (h1:=oc109.2.1) (h2:=oc109.2.2.1) (h3:=oc109.2.2.2))) <| QJ_then <| CJ_seq <| sR <| oM rfl rfl <| oP (P_neq (a:=r114) (b:=(0 : Int)) rfl rfl) rfl <| oM rfl rfl <| RJ_mbT rfl rfl rfl (fun hG116=>have hP117 : (r114≠(0 : Int)) := (bT_dec).1 hG116; VJ_P (P_move rfl)) <| RJ_mbT rfl rfl rfl (fun hG118=>have hP119 : (r114≠(0 : Int)) := (bT_dec).1 hG118; VJ_P (P_neq (a:=r114) (b:=(5 : Int)) (mbx hG118 rfl) rfl)) <| oP (P_pickAnd rfl (fun hh=>mbx hh rfl) rfl) rfl <| nT <| CJ_condP rfl (bT_and bT_dec bT_dec) (fun hg13 => ?_) (fun hg13 => ?_)
      ·
       replace h := ite_t hg13 h
       refine sR <| oA rfl rfl <| oA rfl rfl <| nT <| CJ_ret <| QJ_then_ret ?_
       cases h
       exact fE (res2 Tryz.results52 rfl rfl) 0 (t5_ (t3_ (t1_ (t1_ (Ent.trans (fun h hh=>optP_none h hh) <| t0_ (eD (eD eR)))))))
      ·
       replace h := ite_f hg13 h
       refine kT <| CJ_seq <| sR <| oM rfl rfl <| oP (P_neq (a:=r114) (b:=(0 : Int)) rfl rfl) rfl <| nT <| CJ_condP rfl bT_dec (fun hg14 => ?_) (fun hg14 => ?_)
       ·
        replace h := ite_t hg14 h
        refine sR <| oM rfl rfl <| oA rfl rfl <| oA rfl rfl <| nT <| CJ_ret <| QJ_then_ret ?_
        cases h
        exact fE (res2 Tryz.results52 rfl rfl) 0 (t5_ (t3_ (t1_ (t1_ (Ent.trans (fun h hh=>optP_none h hh) <| t0_ (eD (eD eR)))))))
       ·
        replace h := ite_f hg14 h
        refine kT <| CJ_seq <| CJ_entX (Ent.transX (t0_ eR) (MirP_open (l := { a32.2 with dirty := (List.replicate ((r71).toNat) false) }))) fun oc120=>CJ_pure (fun h hh=>Rs_len (stars_perm (del2 (A:=Rs (DevP bs) (a32.2.legs.map mlegS.dev) oc120.2.1)).out h hh)) fun hdl122=>lC del1 fun hlen123 => ?_
        rw [mk_mleg_len (by have := hdl122; simpa using this)] at hlen123
        exact lC del4 fun hlen124=>CJ_region <| oM rfl rfl <| oM rfl rfl <| oP (P_nilCheck rfl) rfl <| oP (P_fieldAddr rfl ⟨_,_,_,Tryz.runUnderlying119,rfl,rfl,Tryz.sizeOf116,rfl⟩) rfl <| oO <| O_store rfl rfl foc0 rfl rfl Tryz.sizeOf116 <| RJ_nil <| QJ_ent (Ent.trans (t0_ (t0_ (t0_ (Ent.trans (fun h hh=>optP_none h hh) <| t0_ (t1_ eR))))) (MirP_mk (v0:=a32.2.legs) (v1:=none) (v2:=a32.2.hasLog) (v3:=a32.2.logState) (v4:=a32.2.size) (v5:=a32.2.region) (v6:=(List.replicate ((r71).toNat) false)) (v7:=a32.2.copied) (h0:=oc120.1) (h1:=oc120.2.1) (h2:=0) (h3:=oc120.2.2.2))) <| QJ_ent (t0_ (t1_ (t1_ (t1_ (t2_ (eD (eD eR))))))) <| QJ_then <| CJ_seq <| sR <| oM rfl rfl <| none_e h
def volumegrouplaw21_setting_open (s_0_a : ArrS) (s_0_legs : Int) (s_0_size : Int) (s_0_region : Int) (s_0_log : Bool) (stale : List Int) : Option ((Option MirS) × Int) :=
  Option.bind (volumegroupmake_Spans s_0_a) fun r3 =>
  if (((r3.length : Nat) : Int) < s_0_legs) then
    some ((none,(12 : Int)))
  else
    Option.bind ((
      if (s_0_log=true∧(s_0_legs < ((r3.length : Nat) : Int))) then
        grd (decide (0≤s_0_legs∧s_0_legs < (r3.length : Int))) <|
        some ((some ((r3.getD ((s_0_legs).toNat) dv0))))
      else
        some none : Option ((Option Dvc)))) fun a25 =>
    grd (decide (0≤s_0_legs∧(s_0_legs).toNat≤r3.length)) <|
    Option.elim a25 (
      Option.bind (mirror_Open_2 ((r3.take ((s_0_legs).toNat))) stale s_0_region s_0_a) fun r33 =>
      some (r33.1,r33.2)) fun o32 =>
    Option.bind (mirror_Open ((r3.take ((s_0_legs).toNat))) stale o32 s_0_region s_0_a) fun r37 =>
    some (r37.1,r37.2)
theorem L_volumegrouplaw21_setting_open {W : World} {bs_0_a : Nat} {Astale : HP} {vstale : Value} {s_0_a : ArrS} {s_0_legs : Int} {s_0_size : Int} {s_0_region : Int} {s_0_log : Bool} {stale : List Int} {r : (Option MirS) × Int} (rstale : Reads Astale tyI vstale stale) (h : volumegrouplaw21_setting_open s_0_a s_0_legs s_0_size s_0_region s_0_log stale=some r) :
    CSpec Tryz.prog W 21 [.agg #[ptr bs_0_a 0,.int .i64 s_0_legs,.int .i64 s_0_size,.int .i64 s_0_region,.bool s_0_log],vstale] [Arr bs_0_a s_0_a,Astale] (fun x : Nat => .tuple #[oval r.1 x,.int .i64 r.2]) (fun _=>True) (fun x F=>Arr bs_0_a s_0_a::Astale::optP (MirP bs_0_a x) r.1::F) := by
 refine CSpec.of_body Tryz.func21 rfl Tryz.ntmps21 rfl fun F => ?_
 show CJ _ _ _ _ _ _ (_::_::F)
 unfold volumegrouplaw21_setting_open at h
 refine CJ_pure (len_of rstale del1) fun hlen1=>sR <| oO <| O_box rfl rfl rfl fun b2=>oA rfl rfl <| oA rfl rfl <| nT <| sR <| oP (P_fieldAddr rfl ⟨_,_,_,Tryz.runUnderlying28,rfl,rfl,Tryz.sizeOf26,rfl⟩) rfl <| oV (V_load rfl foc0 rfl Tryz.isAgg26) rfl ?_
 obtain ⟨r3,hr4,h⟩ := bind_e h
 refine oO <| O_call (L_volumegroupmake_Spans hr4) rfl Tryz.call44 (Dels.cons del1 Dels.nil) rfl fun X5 _=>RJ_pure (fun h hh=>Rs_len (stars_perm (del2 (A:=Rs (DevP bs_0_a) r3 X5.2)).out h hh)) fun hdl8=>oA rfl rfl <| nT <| CJ_seq <| sR <| oM rfl rfl <| oV (VJ_eq (V_len rfl foc1 (Reads.sl _ _ _) Tryz.runUnderlying92) (congrArg (fun z : Nat=>Value.int .i64 (z : Int)) (hdl8).symm)) rfl <| oP (P_fieldAddr rfl ⟨_,_,_,Tryz.runUnderlying28,rfl,rfl,Tryz.sizeOf3,rfl⟩) rfl <| oV (V_load rfl foc3 rfl Tryz.isAgg3) rfl <| oP (P_lss (a:=((r3.length : Nat) : Int)) (b:=s_0_legs) rfl rfl) rfl <| nT <| CJ_condP rfl bT_dec (fun hg1 => ?_) (fun hg1 => ?_)
 ·
  replace h := ite_t hg1 h
  refine sR <| oA rfl rfl <| oA rfl rfl <| nT <| CJ_ret <| QJ_then_ret ?_
  cases h
  exact fE (res2 Tryz.results21 rfl rfl) 0 (t0_ (t3_ (Ent.trans (fun h hh=>optP_none h hh) <| t0_ (eD (eD (eD eR))))))
 ·
  replace h := ite_f hg1 h
  refine kT <| sR <| oA rfl rfl <| nT <| CJ_seq <| sR <| oP (P_fieldAddr rfl ⟨_,_,_,Tryz.runUnderlying28,rfl,rfl,Tryz.sizeOf4,rfl⟩) rfl <| oV (V_load rfl foc3 rfl Tryz.isAgg4) rfl <| oM rfl rfl <| RJ_mbT rfl rfl rfl (fun hG9=>have hP10 : s_0_log=true := (Iff.rfl).1 hG9; VJ_P (P_move rfl)) <| RJ_mbT rfl rfl rfl (fun hG11=>have hP12 : s_0_log=true := (Iff.rfl).1 hG11; VJ_eq (V_len (mbx hG11 rfl) foc1 (Reads.sl _ _ _) Tryz.runUnderlying92) (congrArg (fun z : Nat=>Value.int .i64 (z : Int)) (hdl8).symm)) <| RJ_mbT rfl rfl rfl (fun hG13=>have hP14 : s_0_log=true := (Iff.rfl).1 hG13; VJ_P (P_fieldAddr rfl ⟨_,_,_,Tryz.runUnderlying28,rfl,rfl,Tryz.sizeOf3,rfl⟩)) <| RJ_mbT rfl rfl rfl (fun hG15=>have hP16 : s_0_log=true := (Iff.rfl).1 hG15; V_load (mbx hG15 rfl) foc3 rfl Tryz.isAgg3) <| RJ_mbT rfl rfl rfl (fun hG17=>have hP18 : s_0_log=true := (Iff.rfl).1 hG17; VJ_P (P_gtr (a:=((r3.length : Nat) : Int)) (b:=s_0_legs) (mbx hG17 rfl) (mbx hG17 rfl))) <| oP (P_pickAnd rfl (fun hh=>mbx hh rfl) rfl) rfl <| nT <| CJ_ent (fun h hh=>optP_none (f:=(DevP bs_0_a · ⟨0,.bool false⟩)) h hh) ?_
  obtain ⟨y22,hl20,hK21⟩ := bind_c h
  refine CJ_cutT (X:=(Option Dvc) × IfH) [7,25,26,27,28,29] (fun ⟨a25,dv24⟩=>([(7,oif a25 dv24)] : Slots)) (fun ⟨a25,dv24⟩ R=>optP (DevP bs_0_a · dv24) a25::R) (fun ⟨a25,dv24⟩=>y22=a25) (Dels.cons del0 Dels.nil) ?_ ?_
  ·
   have h := hl20
   refine CJ_condP rfl (bT_and Iff.rfl bT_dec) (fun hg2 => ?_) (fun hg2 => ?_)
   ·
    replace h := ite_t hg2 h
    refine CJ_region <| oM rfl rfl <| oP (P_fieldAddr rfl ⟨_,_,_,Tryz.runUnderlying28,rfl,rfl,Tryz.sizeOf3,rfl⟩) rfl <| oV (V_load rfl foc4 rfl Tryz.isAgg3) rfl ?_
    obtain ⟨hg3,h⟩ := grd_de h
    exact oV (V_index (i:=(s_0_legs).toNat) rfl rfl (Int.toNat_of_nonneg (hg3.1)).symm (by have hz : (s_0_legs).toNat < r3.length := (by omega); have hy := hdl8; omega) foc2 (Reads.sl _ _ _) Tryz.runUnderlying92 Tryz.sizeOf96) rfl <| RJ_ent (Ent.trans (t3_ eR) (Rs_at (fun _ _=>Dup_DevP) (dx:=dv0) (dh:=tyDev.dflt) (i:=(s_0_legs).toNat) (by omega))) <| oV (V_loadE rfl rfl (by have hz : (s_0_legs).toNat < r3.length := (by omega); have hy := hdl8; omega) foc4 (Reads.sl _ _ _) rfl rfl Tryz.isAgg96) rfl <| oA rfl rfl <| RJ_nil <| QJ_ent (Ent.trans (t0_ eR) (fun h hh=>stars_dup Dup_DevP hh)) <| QJ_ent (Ent.takeC (A' := optP (DevP bs_0_a · ((X5.2.getD ((s_0_legs).toNat) tyDev.dflt))) ((some ((r3.getD ((s_0_legs).toNat) dv0))))) del0 rfl eR) <| cR ⟨(some ((r3.getD ((s_0_legs).toNat) dv0))),(X5.2.getD ((s_0_legs).toNat) tyDev.dflt)⟩ (Option.some.inj h).symm ⟨rfl,True.intro⟩ (t0_ (t3_ (t3_ (t1_ (t2_ (t2_ (eD (eD eR))))))))
   ·
    replace h := ite_f hg2 h
    exact CJ_skip <| cR ⟨none,⟨0,.bool false⟩⟩ (Option.some.inj h).symm ⟨rfl,True.intro⟩ eR
  ·
   rintro ⟨a25,dv24⟩ hy28
   replace h := bindK_at hK21 hy28
   show CJ _ _ _ _ _ (([(7,oif a25 dv24)] : Slots) ++ forget _ _) (optP (DevP bs_0_a · dv24) a25::_)
   refine CJ_seq <| AJ_startH 256 (by kernel_rfl) rfl <| aN 0 1 rfl rfl (P_move rfl) rfl <| aN 1 3 rfl rfl (P_fieldAddr rfl ⟨_,_,_,Tryz.runUnderlying28,rfl,rfl,Tryz.sizeOf3,rfl⟩) rfl <| aV 2 7 rfl rfl (GY_none rfl) eR (V_load rfl foc4 rfl Tryz.isAgg3) rfl ?_
   obtain ⟨hg4,h⟩ := grd_de h
   refine AJ_ent (Ent.trans (t3_ eR) (fun h hh=>stars_dup (Dup_Rs (fun _ _=>Dup_DevP)) hh)) <| AJ_ent (Ent.trans (t0_ eR) (Rs_take (fun _ _=>Dup_DevP) ((s_0_legs).toNat))) <| AJ_pure (fun h hh=>Rs_len (stars_perm (del0 (A:=Rs (DevP bs_0_a) ((r3.take ((s_0_legs).toNat))) ((X5.2.take ((s_0_legs).toNat))))).out h hh)) fun hdl30=>aV 3 15 rfl rfl (GY_none rfl) (t2_ (t2_ (t2_ (t1_ (t1_ (t1_ (eD eR))))))) (V_slice (l:=0) (h:=(s_0_legs).toNat) rfl foc2 (Reads.sl _ _ _) rfl ⟨_,by rw [Int.toNat_of_nonneg (by omega)]; exact rfl⟩ (Nat.zero_le _) (show (s_0_legs).toNat≤X5.2.length by have := hg4; have := hdl8; omega) Tryz.underlying92 Tryz.sizeOf96) rfl <| aN 4 31 rfl rfl (P_move rfl) rfl <| aN 5 63 rfl rfl (P_move rfl) rfl <| aN 6 127 rfl rfl (P_fieldAddr rfl ⟨_,_,_,Tryz.runUnderlying28,rfl,rfl,Tryz.sizeOf3,rfl⟩) rfl <| aV 7 255 rfl rfl (GY_none rfl) (t2_ (t2_ (t2_ (t1_ (t1_ (t1_ (eD eR))))))) (V_load rfl foc4 rfl Tryz.isAgg3) rfl ?_
   rcases opt_e h with ⟨ht31,h⟩ | ⟨o32,ht31,h⟩
   ·
    rw [ht31]
    obtain ⟨r33,hr34,h⟩ := bind_e h
    refine AJ_op 8 511 rfl (by kernel_rfl) rfl (GY_none rfl) <| O_call (L_mirror_Open_2 (reads_take (Reads.sliceV (l:=0) (h:=(s_0_legs).toNat) (Reads.sl _ _ _) (Nat.zero_le _) (show (s_0_legs).toNat≤X5.2.length by have := hg4; have := hdl8; omega))) rstale hr34) rfl Tryz.call52 (Dels.cons del4 (Dels.cons del0 (Dels.cons del4 (Dels.cons del2 Dels.nil)))) rfl fun X35 _=>⟨fun h=>absurd h (by decide),?_⟩
    refine aN 9 1023 rfl rfl (P_extract rfl rfl) rfl <| aN 10 2047 rfl rfl (P_extract rfl rfl) rfl <| aN 11 4095 rfl rfl (P_assign rfl) rfl <| aN 12 8191 rfl rfl (P_assign rfl) rfl <| AJ_done (by kernel_rfl) <| QJ_ent (t2_ (t2_ (t2_ (eD (eD (eD (eD (eD eR)))))))) <| QJ_then <| CJ_ret ?_
    cases h
    exact fE (res2 Tryz.results21 rfl rfl) X35 (t1_ eR)
   ·
    rw [ht31]
    refine AJ_ent (Ent.takeC (A' := DevP bs_0_a o32 dv24) del2 rfl eR) ?_
    obtain ⟨r37,hr38,h⟩ := bind_e h
    refine AJ_op 8 511 rfl (by kernel_rfl) rfl (GY_none rfl) <| O_call (L_mirror_Open (reads_take (Reads.sliceV (l:=0) (h:=(s_0_legs).toNat) (Reads.sl _ _ _) (Nat.zero_le _) (show (s_0_legs).toNat≤X5.2.length by have := hg4; have := hdl8; omega))) rstale hr38) rfl Tryz.call52 (Dels.cons del4 (Dels.cons del1 (Dels.cons del4 (Dels.cons del0 (Dels.cons del1 Dels.nil))))) rfl fun X39 _=>⟨fun h=>absurd h (by decide),?_⟩
    refine aN 9 1023 rfl rfl (P_extract rfl rfl) rfl <| aN 10 2047 rfl rfl (P_extract rfl rfl) rfl <| aN 11 4095 rfl rfl (P_assign rfl) rfl <| aN 12 8191 rfl rfl (P_assign rfl) rfl <| AJ_done (by kernel_rfl) <| QJ_ent (t2_ (t3_ (t3_ (eD (eD (eD (eD (eD eR)))))))) <| QJ_then <| CJ_ret ?_
    cases h
    exact fE (res2 Tryz.results21 rfl rfl) X39 (t1_ eR)
def volumegrouplaw21_setting_owner_1 (stale : List Int) (p1_a : ArrS) (p1_legs : Int) (p1_size : Int) (p1_region : Int) (p1_log : Bool) : Option ((Option MirS) × Int) :=
  Option.bind (volumegrouplaw21_setting_open p1_a p1_legs p1_size p1_region p1_log stale) fun r2 =>
  Option.elim r2.1 (
    if (r2.2=(0 : Int)) then
      some ((none,(20 : Int)))
    else
      some (none,r2.2)) fun o7 =>
  some (((some o7),r2.2))
theorem L_volumegrouplaw21_setting_owner_1 {W : World} {Astale : HP} {vstale : Value} {bp1 : Nat} {bp1_a : Nat} {stale : List Int} {p1_a : ArrS} {p1_legs : Int} {p1_size : Int} {p1_region : Int} {p1_log : Bool} {r : (Option MirS) × Int} (rstale : Reads Astale tyI vstale stale) (h : volumegrouplaw21_setting_owner_1 stale p1_a p1_legs p1_size p1_region p1_log=some r) :
    CSpec Tryz.prog W 46 [vstale,ptr bp1 0] [Astale,blk bp1 28 [ptr bp1_a 0,.int .i64 p1_legs,.int .i64 p1_size,.int .i64 p1_region,.bool p1_log],Arr bp1_a p1_a] (fun x : Nat => .tuple #[oifc 41 r.1 x,.int .i64 r.2]) (fun _=>True) (fun x F=>Astale::blk bp1 28 [ptr bp1_a 0,.int .i64 p1_legs,.int .i64 p1_size,.int .i64 p1_region,.bool p1_log]::Arr bp1_a p1_a::optP (MirP bp1_a x) r.1::F) := by
 refine CSpec.of_body Tryz.func46 rfl Tryz.ntmps46 rfl fun F => ?_
 show CJ _ _ _ _ _ _ (_::_::_::F)
 unfold volumegrouplaw21_setting_owner_1 at h
 refine CJ_pure (len_of rstale del0) fun hlen1=>sR <| oA rfl rfl <| oA rfl rfl <| nT <| sR <| oV (V_loadN rfl foc1 Tryz.isAgg28 Tryz.sizeOf28 rfl rfl) rfl <| oM rfl rfl ?_
 obtain ⟨r2,hr3,h⟩ := bind_e h
 refine oO <| O_call (L_volumegrouplaw21_setting_open rstale hr3) rfl Tryz.call21 (Dels.cons del2 (Dels.cons del0 Dels.nil)) rfl fun X4 _=>oM rfl rfl <| oP (P_extract rfl rfl) rfl <| oP (P_extract rfl rfl) rfl <| oA rfl rfl <| oA rfl rfl <| nT <| CJ_seq <| sR <| oM rfl rfl ?_
 rcases opt_e h with ⟨ht6,h⟩ | ⟨o7,ht6,h⟩
 ·
  rw [ht6]
  refine RJ_ent (t0_ (t0_ (t1_ (eD eR)))) <| oP (P_eqlNN rfl rfl Tryz.underlying41) rfl <| nT <| CJ_condT rfl rfl <| CJ_seq <| sR <| oM rfl rfl <| oP (P_eql (a:=r2.2) (b:=(0 : Int)) rfl rfl) rfl <| nT <| CJ_condP rfl bT_dec (fun hg1 => ?_) (fun hg1 => ?_)
  ·
   replace h := ite_t hg1 h
   refine CJ_region <| oA rfl rfl <| nT <| sR <| oM rfl rfl <| oA rfl rfl <| oA rfl rfl <| nT <| CJ_ret <| QJ_then_ret ?_
   cases h
   exact fE (res2 Tryz.results46 rfl rfl) 0 (t1_ (t1_ (t0_ (Ent.trans (fun h hh=>optP_none h hh) <| t0_ eR))))
  ·
   replace h := ite_f hg1 h
   refine kT <| sR <| oM rfl rfl <| oA rfl rfl <| oA rfl rfl <| nT <| CJ_ret <| QJ_then_ret ?_
   cases h
   exact fE (res2 Tryz.results46 rfl rfl) 0 (t1_ (t1_ (t0_ (Ent.trans (fun h hh=>optP_none h hh) <| t0_ eR))))
 ·
  rw [ht6]
  refine RJ_ent (Ent.takeC (A' := MirP bp1_a X4 o7) del2 rfl eR) <| oP (P_eqlPN rfl rfl Tryz.underlying41) rfl <| nT <| CJ_condF rfl rfl <| kT <| sR <| oM rfl rfl <| oP (P_makeIface rfl Tryz.runUnderlying41 (by intro ms h; cases h)) rfl <| oM rfl rfl <| oA rfl rfl <| oA rfl rfl <| nT <| CJ_ret ?_
  cases h
  exact fE (res2 Tryz.results46 rfl rfl) X4 (t2_ (t2_ (t1_ eR)))
def volumegroupmake_Owner_Begin_l1_b (s : ArrS) (rec : OwnS→(Option MirS)→Int→Nat→Option ((Option MirS) × Int × OwnS)) (x17 : OwnS) (x18 : Option MirS) (x20 : Int) (x21 : Nat) : Option ((Option MirS) × Int × OwnS) :=
  if ((((x21 : Nat) : Int) < ((x17.Lost.length : Nat) : Int))∧(x20=(18 : Int))) then
    Option.bind (volumegroupmake_add x17.Stale (x17.Lost.getD x21 0)) fun r34 =>
    Option.bind (volumegrouplaw21_setting_owner_1 r34 s x17.Open_1 x17.Open_2 x17.Open_3 x17.Open_4) fun r42 =>
    rec ({ x17 with Stale := r34 }) r42.1 r42.2 (x21 + 1)
  else
    some (x18,x20,x17)
def volumegroupmake_Owner_Begin_l1 (s : ArrS) : Nat→OwnS→(Option MirS)→Int→Nat→Option ((Option MirS) × Int × OwnS)
  | 0,_,_,_,_=>none
  | n + 1,x17,x18,x20,x21=>volumegroupmake_Owner_Begin_l1_b s (volumegroupmake_Owner_Begin_l1 s n) x17 x18 x20 x21
def volumegroupmake_Owner_Begin (o : OwnS) (s : ArrS) : Option (Bool × OwnS) :=
  Option.bind (volumegrouplaw21_setting_owner_1 o.Stale s o.Open_1 o.Open_2 o.Open_3 o.Open_4) fun r5 =>
  Option.bind (volumegroupmake_Owner_Begin_l1 s FUEL o r5.1 r5.2 0) fun a16 =>
  if (a16.2.1=(0 : Int)) then
    Option.elim a16.1 (
      if false=true then
        none
      else
        some (false, { a16.2.2 with X := none })) fun o54 =>
    if true=true then
      Option.bind (mirror_Mirror_Size o54 s) fun r55 =>
      some (((decide (r55=((a16.2.2.T.length : Nat) : Int))), { a16.2.2 with X := (some o54) }))
    else
      some ((false, { a16.2.2 with X := (some o54) }))
  else
    if false=true then
      Option.elim a16.1 (
        none) fun o58 =>
      Option.bind (mirror_Mirror_Size o58 s) fun r59 =>
      some (((decide (r59=((a16.2.2.T.length : Nat) : Int))), { a16.2.2 with X := (some o58) }))
    else
      some (false, { a16.2.2 with X := a16.1 })
theorem L_volumegroupmake_Owner_Begin {W : World} {bo : Nat} {bs : Nat} {o : OwnS} {s : ArrS} {r : Bool × OwnS} (h : volumegroupmake_Owner_Begin o s=some r) :
    CSpec Tryz.prog W 16 [ptr bo 0] [OwnP bs bo o,Arr bs s] (fun x : Unit => .bool r.1) (fun _=>True) (fun x F=>OwnP bs bo r.2::Arr bs s::F) := by
 refine CSpec.of_body Tryz.func16 rfl Tryz.ntmps16 rfl fun F => ?_
 show CJ _ _ _ _ _ _ (_::_::F)
 unfold volumegroupmake_Owner_Begin at h
 refine sR <| oA rfl rfl <| nT <| CJ_seq <| CJ_entX (Ent.transX (t0_ eR) (OwnP_open (l:=o))) fun oc1=>lC del4 fun hlen3=>lC del5 fun hlen4=>AJ_startH 256 (by kernel_rfl) rfl <| aN 0 1 rfl rfl (P_move rfl) rfl <| aN 1 3 rfl rfl (P_nilCheck rfl) rfl <| aN 2 7 rfl rfl (P_fieldAddr rfl ⟨_,_,_,Tryz.runUnderlying60,rfl,rfl,Tryz.sizeOf55,rfl⟩) rfl <| aV 3 15 rfl rfl (GY_none rfl) eR (V_load rfl foc0 rfl Tryz.isAgg55) rfl <| aN 4 31 rfl rfl (P_move rfl) rfl <| aN 5 63 rfl rfl (P_nilCheck rfl) rfl <| aN 6 127 rfl rfl (P_fieldAddr rfl ⟨_,_,_,Tryz.runUnderlying60,rfl,rfl,Tryz.sizeOf45,rfl⟩) rfl <| aV 7 255 rfl rfl (GY_none rfl) eR (V_load rfl foc0 rfl Tryz.isAgg45) rfl ?_
 obtain ⟨r5,hr6,h⟩ := bind_e h
 refine AJ_op 8 511 rfl (by kernel_rfl) rfl (GY_none rfl) <| O_callV rfl rfl (L_volumegrouplaw21_setting_owner_1 (Reads.sl _ _ _) hr6) Tryz.call46 (Dels.cons del4 (Dels.cons del1 (Dels.cons del4 Dels.nil))) rfl fun X7 _=>⟨fun h=>absurd h (by decide),?_⟩
 refine aN 9 1023 rfl rfl (P_move rfl) rfl <| aN 10 2047 rfl rfl (P_extract rfl rfl) rfl <| aN 11 4095 rfl rfl (P_extract rfl rfl) rfl <| aN 12 8191 rfl rfl (P_assign rfl) rfl <| aN 13 16383 rfl rfl (P_assign rfl) rfl <| AJ_done (by kernel_rfl) <| QJ_ent (Ent.trans (t4_ (t1_ (t3_ (t3_ (t0_ (t2_ eR)))))) (OwnP_mk (v0:=o.Open_1) (v1:=o.Open_2) (v2:=o.Open_3) (v3:=o.Open_4) (v4:=o.X) (v5:=o.T) (v6:=o.Stale) (v7:=o.Lost) (h0:=oc1.1) (h1:=oc1.2.1) (h2:=oc1.2.2.1) (h3:=oc1.2.2.2.1) (h4:=oc1.2.2.2.2))) <| QJ_then <| CJ_seq <| sR <| oA rfl rfl <| nT ?_
 obtain ⟨y11,hl9,hK10⟩ := bind_c h
 refine CJ_cutT (X:=((Option MirS) × Int × OwnS) × Nat) [3,4,5,18,19,20,21,22,23,24,25,26,27,28,29,30,31,32,33,34,35,36,37,38,39,40,41,42,43,44,45,46,47,48,49,50,51,52,53,54,55,56,57] (fun ⟨a16,pb13⟩=>([(3,oifc 41 a16.1 pb13),(4,.int .i64 a16.2.1)] : Slots)) (fun ⟨a16,pb13⟩ R=>optP (MirP bs pb13) a16.1::OwnP bs bo a16.2.2::R) (fun ⟨a16,pb13⟩=>y11=a16) (Dels.cons del2 (Dels.cons del0 Dels.nil)) ?_ ?_
 ·
  refine CJ_block <| CJ_loopR (X:=Nat × OwnS × (Option MirS) × Int × Nat × Nat) [3,4,5,18,19,20,21,22,23,24,25,26,27,28,29,30,31,32,33,34,35,36,37,38,39,40,41,42,43,44,45,46,47,48,49,50,51,52,53,54,55,56,57] (fun ⟨n,x17,x18,x20,x21,pb19⟩=>([(3,oifc 41 x18 pb19),(4,.int .i64 x20),(5,.int .i64 (((x21 : Nat) : Int)))] : Slots)) (fun ⟨n,x17,x18,x20,x21,pb19⟩ R=>OwnP bs bo x17::optP (MirP bs pb19) x18::R) (fun ⟨n,x17,x18,x20,x21,pb19⟩=>volumegroupmake_Owner_Begin_l1 s n x17 x18 x20 x21=some y11) (fun ⟨n,x17,x18,x20,x21,pb19⟩=>n) ⟨FUEL,o,r5.1,r5.2,0,X7⟩ ?_ ?_ (t0_ (t1_ eR)) ?_
  · exact hl9
  · exact ⟨rfl,rfl,rfl,True.intro⟩
  ·
   rintro ⟨n,x17,x18,x20,x21,pb19⟩ h
   cases n with
   | zero=>exact none_e h
   | succ n => ?_
   replace h : volumegroupmake_Owner_Begin_l1_b s (volumegroupmake_Owner_Begin_l1 s n) x17 x18 x20 x21=some y11 := h
   unfold volumegroupmake_Owner_Begin_l1_b at h
   show CJ _ _ _ _ _ (([(3,oifc 41 x18 pb19),(4,.int .i64 x20),(5,.int .i64 (((x21 : Nat) : Int)))] : Slots) ++ forget _ _) (OwnP bs bo x17::optP (MirP bs pb19) x18::_)
   refine CJ_seq <| CJ_seq <| CJ_entX (Ent.transX (t0_ eR) (OwnP_open (l:=x17))) fun oc22=>lC del4 fun hlen24=>lC del5 fun hlen25=>CJ_region <| oM rfl rfl <| oM rfl rfl <| oP (P_nilCheck rfl) rfl <| oP (P_fieldAddr rfl ⟨_,_,_,Tryz.runUnderlying60,rfl,rfl,Tryz.sizeOf45,rfl⟩) rfl <| oV (V_load rfl foc0 rfl Tryz.isAgg45) rfl <| oV (V_len rfl foc5 (Reads.sl _ _ _) Tryz.runUnderlying45) rfl <| oP (P_lss (a:=((x21 : Nat) : Int)) (b:=((x17.Lost.length : Nat) : Int)) rfl rfl) rfl <| oM rfl rfl <| RJ_mbT rfl rfl rfl (fun hG26=>have hP27 : (((x21 : Nat) : Int) < ((x17.Lost.length : Nat) : Int)) := (bT_dec).1 hG26; VJ_P (P_move rfl)) <| RJ_mbT rfl rfl rfl (fun hG28=>have hP29 : (((x21 : Nat) : Int) < ((x17.Lost.length : Nat) : Int)) := (bT_dec).1 hG28; VJ_P (P_eql (a:=x20) (b:=(18 : Int)) (mbx hG28 rfl) rfl)) <| oP (P_pickAnd rfl (fun hh=>mbx hh rfl) rfl) rfl <| RJ_nil <| QJ_ent (Ent.trans eR (OwnP_mk (v0:=x17.Open_1) (v1:=x17.Open_2) (v2:=x17.Open_3) (v3:=x17.Open_4) (v4:=x17.X) (v5:=x17.T) (v6:=x17.Stale) (v7:=x17.Lost) (h0:=oc22.1) (h1:=oc22.2.1) (h2:=oc22.2.2.1) (h3:=oc22.2.2.2.1) (h4:=oc22.2.2.2.2))) <| QJ_then <| CJ_condP rfl (bT_and bT_dec bT_dec) (fun hg1 => ?_) (fun hg1 => ?_)
   ·
    replace h := ite_t hg1 h
    refine kT <| CJ_seq <| CJ_block <| CJ_seq <| CJ_entX (Ent.transX (t0_ eR) (OwnP_open (l:=x17))) fun oc30=>lC del4 fun hlen32=>lC del5 fun hlen33=>AJ_startH 36864 (by kernel_rfl) rfl <| aN 0 1 rfl rfl (P_move rfl) rfl <| aN 1 3 rfl rfl (P_move rfl) rfl <| aN 2 7 rfl rfl (P_nilCheck rfl) rfl <| aN 3 15 rfl rfl (P_fieldAddr rfl ⟨_,_,_,Tryz.runUnderlying60,rfl,rfl,Tryz.sizeOf45,rfl⟩) rfl <| aV 4 31 rfl rfl (GY_none rfl) eR (V_load rfl foc0 rfl Tryz.isAgg45) rfl <| aN 5 63 rfl rfl (P_move rfl) rfl <| aN 6 127 rfl rfl (P_nilCheck rfl) rfl <| aN 7 255 rfl rfl (P_fieldAddr rfl ⟨_,_,_,Tryz.runUnderlying60,rfl,rfl,Tryz.sizeOf45,rfl⟩) rfl <| aV 8 511 rfl rfl (GY_none rfl) eR (V_load rfl foc0 rfl Tryz.isAgg45) rfl <| aN 9 1023 rfl rfl (P_move rfl) rfl <| aV 10 2047 rfl rfl (GY_none rfl) eR (V_index (i:=x21) rfl rfl rfl (by omega) foc5 (Reads.sl _ _ _) Tryz.runUnderlying45 Tryz.sizeOf3) rfl <| aV 11 4095 rfl rfl (GY_none rfl) eR (V_loadE rfl rfl (by omega) foc5 (Reads.sl _ _ _) rfl rfl Tryz.isAgg3) rfl ?_
    obtain ⟨r34,hr35,h⟩ := bind_e h
    refine AJ_op 12 8191 rfl (by kernel_rfl) rfl (GY_none rfl) <| O_call (L_volumegroupmake_add (Reads.sl _ _ _) hr35) rfl Tryz.call48 (Dels.cons del4 Dels.nil) rfl fun X36 _=>⟨fun h=>absurd h (by decide),?_⟩
    refine aN 13 16383 rfl rfl (P_nilCheck rfl) rfl <| aN 14 32767 rfl rfl (P_fieldAddr rfl ⟨_,_,_,Tryz.runUnderlying60,rfl,rfl,Tryz.sizeOf45,rfl⟩) rfl <| AJ_op 15 65535 rfl (by kernel_rfl) rfl (GY_none rfl) <| O_store rfl rfl foc2 rfl rfl Tryz.sizeOf45 <| ⟨fun h=>absurd h (by decide),?_⟩
    refine AJ_done (by kernel_rfl) <| QJ_ent (Ent.trans (t2_ (t2_ (t2_ (t2_ (t1_ (t1_ eR)))))) (OwnP_mk (v0:=x17.Open_1) (v1:=x17.Open_2) (v2:=x17.Open_3) (v3:=x17.Open_4) (v4:=x17.X) (v5:=x17.T) (v6:=r34) (v7:=x17.Lost) (h0:=oc30.1) (h1:=oc30.2.1) (h2:=oc30.2.2.1) (h3:=X36) (h4:=oc30.2.2.2.2))) <| QJ_then <| CJ_entX (Ent.transX (t0_ eR) (OwnP_open (l := { x17 with Stale := r34 }))) fun oc38=>lC del4 fun hlen40=>lC del5 fun hlen41=>AJ_startH 256 (by kernel_rfl) rfl <| aN 0 1 rfl rfl (P_move rfl) rfl <| aN 1 3 rfl rfl (P_nilCheck rfl) rfl <| aN 2 7 rfl rfl (P_fieldAddr rfl ⟨_,_,_,Tryz.runUnderlying60,rfl,rfl,Tryz.sizeOf55,rfl⟩) rfl <| aV 3 15 rfl rfl (GY_none rfl) eR (V_load rfl foc0 rfl Tryz.isAgg55) rfl <| aN 4 31 rfl rfl (P_move rfl) rfl <| aN 5 63 rfl rfl (P_nilCheck rfl) rfl <| aN 6 127 rfl rfl (P_fieldAddr rfl ⟨_,_,_,Tryz.runUnderlying60,rfl,rfl,Tryz.sizeOf45,rfl⟩) rfl <| aV 7 255 rfl rfl (GY_none rfl) eR (V_load rfl foc0 rfl Tryz.isAgg45) rfl ?_
    obtain ⟨r42,hr43,h⟩ := bind_e h
    refine AJ_op 8 511 rfl (by kernel_rfl) rfl (GY_none rfl) <| O_callV rfl rfl (L_volumegrouplaw21_setting_owner_1 (Reads.sl _ _ _) hr43) Tryz.call46 (Dels.cons del4 (Dels.cons del1 (Dels.cons del6 Dels.nil))) rfl fun X44 _=>⟨fun h=>absurd h (by decide),?_⟩
    exact aN 9 1023 rfl rfl (P_move rfl) rfl <| aN 10 2047 rfl rfl (P_extract rfl rfl) rfl <| aN 11 4095 rfl rfl (P_extract rfl rfl) rfl <| aN 12 8191 rfl rfl (P_assign rfl) rfl <| aN 13 16383 rfl rfl (P_assign rfl) rfl <| AJ_done (by kernel_rfl) <| QJ_ent (Ent.trans (t4_ (t1_ (t3_ (t3_ (t0_ (t2_ eR)))))) (OwnP_mk (v0:=x17.Open_1) (v1:=x17.Open_2) (v2:=x17.Open_3) (v3:=x17.Open_4) (v4:=x17.X) (v5:=x17.T) (v6:=r34) (v7:=x17.Lost) (h0:=oc38.1) (h1:=oc38.2.1) (h2:=oc38.2.2.1) (h3:=oc38.2.2.2.1) (h4:=oc38.2.2.2.2))) <| QJ_block_normal <| QJ_then <| CJ_region <| oM rfl rfl <| oP (PJ_eq (P_add (a:=((x21 : Nat) : Int)) (b:=(1 : Int)) rfl rfl (by omega)) rfl) rfl <| oA rfl rfl <| RJ_nil <| nR ⟨n, { x17 with Stale := r34 },r42.1,r42.2,(x21 + 1),X44⟩ h ⟨rfl,rfl,rfl,True.intro⟩ (t0_ (t1_ (t0_ (eD (eD eR)))))
   ·
    replace h := ite_f hg1 h
    exact CJ_exit <| QJ_then_exit <| QJ_round_exit <| QJ_block_here <| cR ⟨(x18,x20,x17),pb19⟩ (Option.some.inj h).symm ⟨rfl,rfl,True.intro⟩ (t1_ eR)
 ·
  rintro ⟨a16,pb13⟩ hy46
  replace h := bindK_at hK10 hy46
  show CJ _ _ _ _ _ (([(3,oifc 41 a16.1 pb13),(4,.int .i64 a16.2.1)] : Slots) ++ forget _ _) (optP (MirP bs pb13) a16.1::OwnP bs bo a16.2.2::_)
  refine CJ_seq <| CJ_entX (Ent.transX (t1_ eR) (OwnP_open (l:=a16.2.2))) fun oc47=>lC del4 fun hlen49=>lC del5 fun hlen50=>CJ_region <| oM rfl rfl <| oM rfl rfl <| oP (P_nilCheck rfl) rfl <| oP (P_fieldAddr rfl ⟨_,_,_,Tryz.runUnderlying60,rfl,rfl,Tryz.sizeOf57,rfl⟩) rfl <| oO <| O_store rfl rfl foc0 rfl oneCell_oifc Tryz.sizeOf57 <| RJ_nil <| QJ_ent (t0_ (t0_ (t1_ (t1_ (t1_ (t1_ (t1_ (eD eR)))))))) <| QJ_then <| CJ_seq <| CJ_entX (Ent.transX (t2_ eR) Trk_open) fun tc51=>CJ_pur fun hS52=>AJ_startH 0 (by kernel_rfl) rfl <| aN 0 1 rfl rfl (P_move rfl) rfl <| aN 1 3 rfl rfl (P_eql (a:=a16.2.1) (b:=(0 : Int)) rfl rfl) rfl <| aN 2 7 rfl rfl (P_move rfl) rfl <| AJ_splitP 64 rfl bT_dec (fun hg2B hg2 => ?_) (fun hg2B hg2 => ?_)
  ·
   replace h := ite_t hg2 h
   refine aP 3 15 rfl rfl (GY_yes rfl rfl rfl hg2B) (P_move rfl) rfl ?_
   rcases opt_e h with ⟨ht53,h⟩ | ⟨o54,ht53,h⟩
   ·
    rw [ht53]
    refine aP 4 31 rfl rfl (GY_yes rfl rfl rfl hg2B) (P_neqIN rfl Tryz.underlying57) rfl <| aN 5 63 rfl rfl (P_pickT rfl hg2B rfl) rfl <| aN 6 127 rfl rfl (P_move rfl) rfl <| AJ_splitP 68 rfl Iff.rfl (fun hg3B hg3 => ?_) (fun hg3B hg3 => ?_)
    ·
     replace h := ite_t hg3 h
     exact aP 7 255 rfl rfl (GY_yes rfl rfl rfl hg3B) (P_move rfl) rfl <| aP 9 767 rfl rfl (GY_yes rfl rfl rfl hg3B) (P_move rfl) rfl <| aP 10 1791 rfl rfl (GY_yes rfl rfl rfl hg3B) (P_nilCheck rfl) rfl <| aP 11 3839 rfl rfl (GY_yes rfl rfl rfl hg3B) (P_fieldAddr rfl ⟨_,_,_,Tryz.runUnderlying60,rfl,rfl,Tryz.sizeOf58,rfl⟩) rfl <| aV 12 7935 rfl rfl (GY_yes rfl rfl rfl hg3B) eR (V_load rfl foc3 rfl Tryz.isAgg58) rfl <| aP 13 16127 rfl rfl (GY_yes rfl rfl rfl hg3B) (P_nilCheck rfl) rfl <| aP 14 32511 rfl rfl (GY_yes rfl rfl rfl hg3B) (P_fieldAddr rfl ⟨_,_,_,Tryz.runUnderlying54,rfl,rfl,Tryz.sizeOf52,rfl⟩) rfl <| aV 15 65279 rfl rfl (GY_yes rfl rfl rfl hg3B) eR (V_load rfl foc0 rfl Tryz.isAgg52) rfl <| aV 16 130815 rfl rfl (GY_yes rfl rfl rfl hg3B) eR (VJ_eq (V_len rfl foc1 (Reads.sl _ _ _) Tryz.runUnderlying52) (congrArg (fun z : Nat=>Value.int .i64 (z : Int)) hS52.len.symm)) rfl <| none_e h
    ·
     replace h := ite_f hg3 h
     refine aS 7 255 rfl rfl (GY_no rfl rfl rfl hg3B) rfl <| aS 9 767 rfl rfl (GY_no rfl rfl rfl hg3B) rfl <| aS 10 1791 rfl rfl (GY_no rfl rfl rfl hg3B) rfl <| aS 11 3839 rfl rfl (GY_no rfl rfl rfl hg3B) rfl <| aS 12 7935 rfl rfl (GY_no rfl rfl rfl hg3B) rfl <| aS 13 16127 rfl rfl (GY_no rfl rfl rfl hg3B) rfl <| aS 14 32511 rfl rfl (GY_no rfl rfl rfl hg3B) rfl <| aS 15 65279 rfl rfl (GY_no rfl rfl rfl hg3B) rfl <| aS 16 130815 rfl rfl (GY_no rfl rfl rfl hg3B) rfl <| aS 8 131071 rfl rfl (GY_no rfl rfl rfl hg3B) rfl <| aS 17 262143 rfl rfl (GY_no rfl rfl rfl hg3B) rfl <| aN 18 524287 rfl rfl (P_pickF rfl hg3B rfl) rfl <| aN 19 1048575 rfl rfl (P_assign rfl) rfl <| AJ_done (by kernel_rfl) <| QJ_ent (Ent.trans (t0_ (t0_ (t0_ eR))) (Trk_close hS52)) <| QJ_ent (t0_ (t0_ (t0_ (t0_ (t0_ (t1_ (eD eR))))))) <| QJ_then <| CJ_ret <| QJ_ent (Ent.trans (t1_ (t1_ (Ent.trans (fun h hh=>optP_none h hh) <| t0_ eR))) (OwnP_mk (v0:=a16.2.2.Open_1) (v1:=a16.2.2.Open_2) (v2:=a16.2.2.Open_3) (v3:=a16.2.2.Open_4) (v4:=none) (v5:=a16.2.2.T) (v6:=a16.2.2.Stale) (v7:=a16.2.2.Lost) (h0:=oc47.1) (h1:=0) (h2:=oc47.2.2.1) (h3:=oc47.2.2.2.1) (h4:=oc47.2.2.2.2))) ?_
     cases h
     exact fE (res1 Tryz.results16 rfl) () eR
   ·
    rw [ht53]
    refine AJ_ent (Ent.takeC (A' := MirP bs pb13 o54) del7 rfl eR) <| aP 4 31 rfl rfl (GY_yes rfl rfl rfl hg2B) (P_neqIfN rfl rfl Tryz.underlying57) rfl <| aN 5 63 rfl rfl (P_pickT rfl hg2B rfl) rfl <| aN 6 127 rfl rfl (P_move rfl) rfl <| AJ_splitP 68 rfl Iff.rfl (fun hg4B hg4 => ?_) (fun hg4B hg4 => ?_)
    ·
     replace h := ite_t hg4 h
     refine aP 7 255 rfl rfl (GY_yes rfl rfl rfl hg4B) (P_move rfl) rfl <| aP 9 767 rfl rfl (GY_yes rfl rfl rfl hg4B) (P_move rfl) rfl <| aP 10 1791 rfl rfl (GY_yes rfl rfl rfl hg4B) (P_nilCheck rfl) rfl <| aP 11 3839 rfl rfl (GY_yes rfl rfl rfl hg4B) (P_fieldAddr rfl ⟨_,_,_,Tryz.runUnderlying60,rfl,rfl,Tryz.sizeOf58,rfl⟩) rfl <| aV 12 7935 rfl rfl (GY_yes rfl rfl rfl hg4B) (t1_ (t1_ (t1_ (t1_ (t1_ (t1_ (t1_ eR))))))) (V_load rfl foc3 rfl Tryz.isAgg58) rfl <| aP 13 16127 rfl rfl (GY_yes rfl rfl rfl hg4B) (P_nilCheck rfl) rfl <| aP 14 32511 rfl rfl (GY_yes rfl rfl rfl hg4B) (P_fieldAddr rfl ⟨_,_,_,Tryz.runUnderlying54,rfl,rfl,Tryz.sizeOf52,rfl⟩) rfl <| aV 15 65279 rfl rfl (GY_yes rfl rfl rfl hg4B) (t1_ (t1_ (t1_ (t1_ (t1_ (t1_ (t1_ eR))))))) (V_load rfl foc0 rfl Tryz.isAgg52) rfl <| aV 16 130815 rfl rfl (GY_yes rfl rfl rfl hg4B) (t1_ (t1_ (t1_ (t1_ (t1_ (t1_ (t1_ eR))))))) (VJ_eq (V_len rfl foc1 (Reads.sl _ _ _) Tryz.runUnderlying52) (congrArg (fun z : Nat=>Value.int .i64 (z : Int)) hS52.len.symm)) rfl ?_
     obtain ⟨r55,hr56,h⟩ := bind_e h
     refine AJ_op 8 131071 rfl (by kernel_rfl) rfl (GY_yes rfl rfl rfl hg4B) <| O_callI rfl (ICall.of (fun w=>by kernel_rfl) Tryz.call135 (L_mirror_Mirror_Size hr56)) rfl (Dels.cons del0 (Dels.cons del7 Dels.nil)) rfl fun _ _=>⟨fun _=>(t2_ (t2_ (t2_ (t2_ (t2_ (t2_ (t2_ eR))))))),?_⟩
     refine aP 17 262143 rfl rfl (GY_yes rfl rfl rfl hg4B) (P_eql (a:=r55) (b:=((a16.2.2.T.length : Nat) : Int)) rfl rfl) rfl <| aN 18 524287 rfl rfl (P_pickT rfl hg4B rfl) rfl <| aN 19 1048575 rfl rfl (P_assign rfl) rfl <| AJ_done (by kernel_rfl) <| QJ_ent (Ent.trans (t2_ (t2_ (t2_ eR))) (Trk_close hS52)) <| QJ_then <| CJ_ret <| QJ_ent (Ent.trans (t3_ (t3_ (t1_ (t0_ (t1_ (t1_ eR)))))) (OwnP_mk (v0:=a16.2.2.Open_1) (v1:=a16.2.2.Open_2) (v2:=a16.2.2.Open_3) (v3:=a16.2.2.Open_4) (v4:=(some o54)) (v5:=a16.2.2.T) (v6:=a16.2.2.Stale) (v7:=a16.2.2.Lost) (h0:=oc47.1) (h1:=pb13) (h2:=oc47.2.2.1) (h3:=oc47.2.2.2.1) (h4:=oc47.2.2.2.2))) ?_
     cases h
     exact fE (res1 Tryz.results16 rfl) () eR
    ·
     replace h := ite_f hg4 h
     refine aS 7 255 rfl rfl (GY_no rfl rfl rfl hg4B) rfl <| aS 9 767 rfl rfl (GY_no rfl rfl rfl hg4B) rfl <| aS 10 1791 rfl rfl (GY_no rfl rfl rfl hg4B) rfl <| aS 11 3839 rfl rfl (GY_no rfl rfl rfl hg4B) rfl <| aS 12 7935 rfl rfl (GY_no rfl rfl rfl hg4B) rfl <| aS 13 16127 rfl rfl (GY_no rfl rfl rfl hg4B) rfl <| aS 14 32511 rfl rfl (GY_no rfl rfl rfl hg4B) rfl <| aS 15 65279 rfl rfl (GY_no rfl rfl rfl hg4B) rfl <| aS 16 130815 rfl rfl (GY_no rfl rfl rfl hg4B) rfl <| aS 8 131071 rfl rfl (GY_no rfl rfl rfl hg4B) rfl <| aS 17 262143 rfl rfl (GY_no rfl rfl rfl hg4B) rfl <| aN 18 524287 rfl rfl (P_pickF rfl hg4B rfl) rfl <| aN 19 1048575 rfl rfl (P_assign rfl) rfl <| AJ_done (by kernel_rfl) <| QJ_ent (Ent.trans (t1_ (t1_ (t1_ eR))) (Trk_close hS52)) <| QJ_then <| CJ_ret <| QJ_ent (Ent.trans (t2_ (t2_ (t1_ eR))) (OwnP_mk (v0:=a16.2.2.Open_1) (v1:=a16.2.2.Open_2) (v2:=a16.2.2.Open_3) (v3:=a16.2.2.Open_4) (v4:=(some o54)) (v5:=a16.2.2.T) (v6:=a16.2.2.Stale) (v7:=a16.2.2.Lost) (h0:=oc47.1) (h1:=pb13) (h2:=oc47.2.2.1) (h3:=oc47.2.2.2.1) (h4:=oc47.2.2.2.2))) ?_
     cases h
     exact fE (res1 Tryz.results16 rfl) () eR
  ·
   replace h := ite_f hg2 h
   refine aS 3 15 rfl rfl (GY_no rfl rfl rfl hg2B) rfl <| aS 4 31 rfl rfl (GY_no rfl rfl rfl hg2B) rfl <| aN 5 63 rfl rfl (P_pickF rfl hg2B rfl) rfl <| aN 6 127 rfl rfl (P_move rfl) rfl <| AJ_splitP 68 rfl Iff.rfl (fun hg5B hg5 => ?_) (fun hg5B hg5 => ?_)
   ·
    replace h := ite_t hg5 h
    refine aP 7 255 rfl rfl (GY_yes rfl rfl rfl hg5B) (P_move rfl) rfl <| aP 9 767 rfl rfl (GY_yes rfl rfl rfl hg5B) (P_move rfl) rfl <| aP 10 1791 rfl rfl (GY_yes rfl rfl rfl hg5B) (P_nilCheck rfl) rfl <| aP 11 3839 rfl rfl (GY_yes rfl rfl rfl hg5B) (P_fieldAddr rfl ⟨_,_,_,Tryz.runUnderlying60,rfl,rfl,Tryz.sizeOf58,rfl⟩) rfl <| aV 12 7935 rfl rfl (GY_yes rfl rfl rfl hg5B) eR (V_load rfl foc3 rfl Tryz.isAgg58) rfl <| aP 13 16127 rfl rfl (GY_yes rfl rfl rfl hg5B) (P_nilCheck rfl) rfl <| aP 14 32511 rfl rfl (GY_yes rfl rfl rfl hg5B) (P_fieldAddr rfl ⟨_,_,_,Tryz.runUnderlying54,rfl,rfl,Tryz.sizeOf52,rfl⟩) rfl <| aV 15 65279 rfl rfl (GY_yes rfl rfl rfl hg5B) eR (V_load rfl foc0 rfl Tryz.isAgg52) rfl <| aV 16 130815 rfl rfl (GY_yes rfl rfl rfl hg5B) eR (VJ_eq (V_len rfl foc1 (Reads.sl _ _ _) Tryz.runUnderlying52) (congrArg (fun z : Nat=>Value.int .i64 (z : Int)) hS52.len.symm)) rfl ?_
    rcases opt_e h with ⟨ht57,h⟩ | ⟨o58,ht57,h⟩
    ·
     rw [ht57]
     exact none_e h
    ·
     rw [ht57]
     refine AJ_ent (Ent.takeC (A' := MirP bs pb13 o58) del7 rfl eR) ?_
     obtain ⟨r59,hr60,h⟩ := bind_e h
     refine AJ_op 8 131071 rfl (by kernel_rfl) rfl (GY_yes rfl rfl rfl hg5B) <| O_callI rfl (ICall.of (fun w=>by kernel_rfl) Tryz.call135 (L_mirror_Mirror_Size hr60)) rfl (Dels.cons del0 (Dels.cons del7 Dels.nil)) rfl fun _ _=>⟨fun _=>(t2_ (t2_ (t2_ (t2_ (t2_ (t2_ (t2_ eR))))))),?_⟩
     refine aP 17 262143 rfl rfl (GY_yes rfl rfl rfl hg5B) (P_eql (a:=r59) (b:=((a16.2.2.T.length : Nat) : Int)) rfl rfl) rfl <| aN 18 524287 rfl rfl (P_pickT rfl hg5B rfl) rfl <| aN 19 1048575 rfl rfl (P_assign rfl) rfl <| AJ_done (by kernel_rfl) <| QJ_ent (Ent.trans (t2_ (t2_ (t2_ eR))) (Trk_close hS52)) <| QJ_then <| CJ_ret <| QJ_ent (Ent.trans (t3_ (t3_ (t1_ (t0_ (t1_ (t1_ eR)))))) (OwnP_mk (v0:=a16.2.2.Open_1) (v1:=a16.2.2.Open_2) (v2:=a16.2.2.Open_3) (v3:=a16.2.2.Open_4) (v4:=(some o58)) (v5:=a16.2.2.T) (v6:=a16.2.2.Stale) (v7:=a16.2.2.Lost) (h0:=oc47.1) (h1:=pb13) (h2:=oc47.2.2.1) (h3:=oc47.2.2.2.1) (h4:=oc47.2.2.2.2))) ?_
     cases h
     exact fE (res1 Tryz.results16 rfl) () eR
   ·
    replace h := ite_f hg5 h
    refine aS 7 255 rfl rfl (GY_no rfl rfl rfl hg5B) rfl <| aS 9 767 rfl rfl (GY_no rfl rfl rfl hg5B) rfl <| aS 10 1791 rfl rfl (GY_no rfl rfl rfl hg5B) rfl <| aS 11 3839 rfl rfl (GY_no rfl rfl rfl hg5B) rfl <| aS 12 7935 rfl rfl (GY_no rfl rfl rfl hg5B) rfl <| aS 13 16127 rfl rfl (GY_no rfl rfl rfl hg5B) rfl <| aS 14 32511 rfl rfl (GY_no rfl rfl rfl hg5B) rfl <| aS 15 65279 rfl rfl (GY_no rfl rfl rfl hg5B) rfl <| aS 16 130815 rfl rfl (GY_no rfl rfl rfl hg5B) rfl <| aS 8 131071 rfl rfl (GY_no rfl rfl rfl hg5B) rfl <| aS 17 262143 rfl rfl (GY_no rfl rfl rfl hg5B) rfl <| aN 18 524287 rfl rfl (P_pickF rfl hg5B rfl) rfl <| aN 19 1048575 rfl rfl (P_assign rfl) rfl <| AJ_done (by kernel_rfl) <| QJ_ent (Ent.trans (t0_ (t0_ (t0_ eR))) (Trk_close hS52)) <| QJ_then <| CJ_ret <| QJ_ent (Ent.trans (t1_ (t1_ (t3_ eR))) (OwnP_mk (v0:=a16.2.2.Open_1) (v1:=a16.2.2.Open_2) (v2:=a16.2.2.Open_3) (v3:=a16.2.2.Open_4) (v4:=a16.1) (v5:=a16.2.2.T) (v6:=a16.2.2.Stale) (v7:=a16.2.2.Lost) (h0:=oc47.1) (h1:=pb13) (h2:=oc47.2.2.1) (h3:=oc47.2.2.2.1) (h4:=oc47.2.2.2.2))) ?_
    cases h
    exact fE (res1 Tryz.results16 rfl) () eR
def volumegroupmake_Owner_Power (o : OwnS) (keep : UInt64) (s : ArrS) : Option (Bool × OwnS × ArrS) :=
  Option.bind (volumegroupmake_Keep keep) fun r9 =>
  grd (inLen s.writes) <|
  Option.bind (volumegroupmake_Owner_Begin ({ o with T := (failedT o.T) }) (rsS s r9)) fun r13 =>
  some ((r13.1,r13.2,(rsS s r9)))
theorem L_volumegroupmake_Owner_Power {W : World} {bo : Nat} {bs : Nat} {o : OwnS} {keep : UInt64} {s : ArrS} {r : Bool × OwnS × ArrS} (h : volumegroupmake_Owner_Power o keep s=some r) :
    CSpec Tryz.prog W 33 [ptr bo 0,.int .u64 (keep.toNat : Int)] [OwnP bs bo o,Arr bs s] (fun x : Unit => .bool r.1) (fun _=>True) (fun x F=>OwnP bs bo r.2.1::Arr bs r.2.2::F) := by
 refine CSpec.of_body Tryz.func33 rfl Tryz.ntmps33 rfl fun F => ?_
 show CJ _ _ _ _ _ _ (_::_::F)
 unfold volumegroupmake_Owner_Power at h
 refine sR <| oA rfl rfl <| nT <| CJ_seq <| CJ_entX (Ent.transX (t0_ eR) (OwnP_open (l:=o))) fun oc1=>lC del4 fun hlen3=>lC del5 fun hlen4=>CJ_region <| oM rfl rfl <| oP (P_nilCheck rfl) rfl <| oP (P_fieldAddr rfl ⟨_,_,_,Tryz.runUnderlying60,rfl,rfl,Tryz.sizeOf58,rfl⟩) rfl <| oV (V_load rfl foc0 rfl Tryz.isAgg58) rfl <| oO <| O_call (c_Failed) rfl Tryz.call67 (Dels.cons del3 Dels.nil) rfl fun _ _=>RJ_nil <| QJ_ent (Ent.trans (t1_ (t1_ (t1_ eR))) (OwnP_mk (v0:=o.Open_1) (v1:=o.Open_2) (v2:=o.Open_3) (v3:=o.Open_4) (v4:=o.X) (v5:=(failedT o.T)) (v6:=o.Stale) (v7:=o.Lost) (h0:=oc1.1) (h1:=oc1.2.1) (h2:=oc1.2.2.1) (h3:=oc1.2.2.2.1) (h4:=oc1.2.2.2.2))) <| QJ_then <| CJ_seq <| CJ_entX (Ent.transX (t0_ eR) (OwnP_open (l := { o with T := (failedT o.T) }))) fun oc5=>lC del4 fun hlen7=>lC del5 fun hlen8=>AJ_startH 64 (by kernel_rfl) rfl <| aN 0 1 rfl rfl (P_move rfl) rfl <| aN 1 3 rfl rfl (P_nilCheck rfl) rfl <| aN 2 7 rfl rfl (P_fieldAddr rfl ⟨_,_,_,Tryz.runUnderlying60,rfl,rfl,Tryz.sizeOf26,rfl⟩) rfl <| aV 3 15 rfl rfl (GY_none rfl) eR (V_load rfl foc0 rfl Tryz.isAgg26) rfl <| aN 4 31 rfl rfl (P_move rfl) rfl ?_
 obtain ⟨r9,hr10,h⟩ := bind_e h
 refine AJ_op 5 63 rfl (by kernel_rfl) rfl (GY_none rfl) <| O_call (L_volumegroupmake_Keep hr10) rfl Tryz.call20 Dels.nil rfl fun X11 _=>⟨fun _=>(t1_ (t1_ (t1_ (t1_ (t1_ (t1_ (t1_ (eD eR)))))))),?_⟩
 obtain ⟨hg1,h⟩ := grd_Le h
 refine AJ_op 6 127 rfl (by kernel_rfl) rfl (GY_none rfl) <| O_call (c_Restart (Reads.sl _ _ _) hg1) rfl Tryz.call19 (Dels.cons del7 (Dels.cons del0 Dels.nil)) rfl fun _ _=>⟨fun h=>absurd h (by decide),?_⟩
 refine AJ_done (by kernel_rfl) <| QJ_ent (Ent.trans (t2_ (t2_ (t2_ (t2_ (t2_ (t2_ eR)))))) (OwnP_mk (v0:=o.Open_1) (v1:=o.Open_2) (v2:=o.Open_3) (v3:=o.Open_4) (v4:=o.X) (v5:=(failedT o.T)) (v6:=o.Stale) (v7:=o.Lost) (h0:=oc5.1) (h1:=oc5.2.1) (h2:=oc5.2.2.1) (h3:=oc5.2.2.2.1) (h4:=oc5.2.2.2.2))) <| QJ_then <| sR <| oM rfl rfl ?_
 obtain ⟨r13,hr14,h⟩ := bind_e h
 refine oO <| O_call (L_volumegroupmake_Owner_Begin hr14) rfl Tryz.call16 (Dels.cons del0 (Dels.cons del0 Dels.nil)) rfl fun _ _=>oA rfl rfl <| nT <| CJ_ret ?_
 cases h
 exact fE (res1 Tryz.results33 rfl) () (t0_ (t0_ (eD eR)))
def volumegroupmake_Owner_Read_l1_b (at_1 : Int) (rec : OwnS→ArrS→Nat→UInt64→Int→Option ((UInt64 × Int × OwnS × ArrS) ⊕ (Int × Bool × OwnS × ArrS))) (x17 : OwnS) (x18 : ArrS) (x19 : Nat) (x20 : UInt64) (x21 : Int) : Option ((UInt64 × Int × OwnS × ArrS) ⊕ (Int × Bool × OwnS × ArrS)) :=
  if ((((x19 : Nat) : Int) < (8 : Int))∧(x21=(18 : Int))) then
    Option.bind (volumegroupmake_Owner_drop x17 x18) fun r26 =>
    if (¬ r26.1=true) then
      some (.inr (x21,false,r26.2,x18))
    else
      Option.elim r26.2.X (
        none) fun o33 =>
      Option.bind (mirror_Mirror_Read o33 at_1 x18) fun r34 =>
      rec ({ r26.2 with X := (some r34.2.2.1) }) r34.2.2.2 (x19 + 1) r34.1 r34.2.1
  else
    some (.inl (x20,x21,x17,x18))
def volumegroupmake_Owner_Read_l1 (at_1 : Int) : Nat→OwnS→ArrS→Nat→UInt64→Int→Option ((UInt64 × Int × OwnS × ArrS) ⊕ (Int × Bool × OwnS × ArrS))
  | 0,_,_,_,_,_=>none
  | n + 1,x17,x18,x19,x20,x21=>volumegroupmake_Owner_Read_l1_b at_1 (volumegroupmake_Owner_Read_l1 at_1 n) x17 x18 x19 x20 x21
def volumegroupmake_Owner_Read (o : OwnS) (at_1 : Int) (settled : Bool) (s : ArrS) : Option (Int × Bool × OwnS × ArrS) :=
  Option.elim o.X (
    none) fun o6 =>
  Option.bind (mirror_Mirror_Read o6 at_1 s) fun r7 =>
  seqO (volumegroupmake_Owner_Read_l1 at_1 FUEL ({ o with X := (some r7.2.2.1) }) r7.2.2.2 0 r7.1 r7.2.1) fun a16 =>
  if (a16.2.1=(5 : Int)) then
    some (a16.2.1,true,a16.2.2.1,a16.2.2.2)
  else
    if (a16.2.1=(0 : Int)) then
      grd (decide (smallT a16.2.2.1.T=true)) <|
      some ((a16.2.1,(rdTR a16.2.2.1.T at_1 a16.1), { a16.2.2.1 with T := (rdTS a16.2.2.1.T at_1 a16.1 settled) },a16.2.2.2))
    else
      some (a16.2.1,false,a16.2.2.1,a16.2.2.2)
theorem L_volumegroupmake_Owner_Read {W : World} {bo : Nat} {bs : Nat} {o : OwnS} {at_1 : Int} {settled : Bool} {s : ArrS} {r : Int × Bool × OwnS × ArrS} (h : volumegroupmake_Owner_Read o at_1 settled s=some r) :
    CSpec Tryz.prog W 50 [ptr bo 0,.int .i64 at_1,.bool settled] [OwnP bs bo o,Arr bs s] (fun x : Unit => .tuple #[.int .i64 r.1,.bool r.2.1]) (fun _=>True) (fun x F=>OwnP bs bo r.2.2.1::Arr bs r.2.2.2::F) := by
 refine CSpec.of_body Tryz.func50 rfl Tryz.ntmps50 rfl fun F => ?_
 show CJ _ _ _ _ _ _ (_::_::F)
 unfold volumegroupmake_Owner_Read at h
 refine sR <| oA rfl rfl <| oA rfl rfl <| nT <| CJ_seq <| CJ_entX (Ent.transX (t0_ eR) (OwnP_open (l:=o))) fun oc1=>lC del4 fun hlen3=>lC del5 fun hlen4=>CJ_region <| oM rfl rfl <| oP (P_nilCheck rfl) rfl <| oP (P_fieldAddr rfl ⟨_,_,_,Tryz.runUnderlying60,rfl,rfl,Tryz.sizeOf57,rfl⟩) rfl <| oV (V_load rfl foc0 rfl Tryz.isAgg57) rfl <| oM rfl rfl ?_
 rcases opt_e h with ⟨ht5,h⟩ | ⟨o6,ht5,h⟩
 ·
  rw [ht5]
  exact RJ_ent (t0_ (t0_ (t1_ (t1_ (t1_ (t1_ (eD eR))))))) <| none_e h
 ·
  rw [ht5]
  refine RJ_ent (Ent.takeC (A' := MirP bs oc1.2.1 o6) del2 rfl eR) ?_
  obtain ⟨r7,hr8,h⟩ := bind_e h
  refine oO <| O_callI rfl (ICall.of (fun w=>by kernel_rfl) Tryz.call41 (L_mirror_Mirror_Read hr8)) rfl (Dels.cons del0 (Dels.cons del5 Dels.nil)) rfl fun _ _=>oM rfl rfl <| oP (P_extract rfl rfl) rfl <| oP (P_extract rfl rfl) rfl <| oA rfl rfl <| oA rfl rfl <| RJ_nil <| QJ_ent (Ent.trans (t2_ (t2_ (t0_ (t1_ (t1_ (t1_ eR)))))) (OwnP_mk (v0:=o.Open_1) (v1:=o.Open_2) (v2:=o.Open_3) (v3:=o.Open_4) (v4:=(some r7.2.2.1)) (v5:=o.T) (v6:=o.Stale) (v7:=o.Lost) (h0:=oc1.1) (h1:=oc1.2.1) (h2:=oc1.2.2.1) (h3:=oc1.2.2.2.1) (h4:=oc1.2.2.2.2))) <| QJ_then <| CJ_seq <| sR <| oA rfl rfl <| nT ?_
  obtain ⟨y11,hl9,hK10⟩ := seq_e h
  refine CJ_cutT (X:=UInt64 × Int × OwnS × ArrS) [6,7,8,9,10,20,21,22,23,24,25,26,27,28,29,30,31,32,33,34,35,36,37,38,39,40] (fun a16=>([(8,.int .u64 (a16.1.toNat : Int)),(9,.int .i64 a16.2.1)] : Slots)) (fun a16 R=>OwnP bs bo a16.2.2.1::Arr bs a16.2.2.2::R) (fun a16=>y11 = .inl a16) (Dels.cons del0 (Dels.cons del0 Dels.nil)) ?_ ?_
  ·
   refine CJ_block <| CJ_loopR (X:=Nat × OwnS × ArrS × Nat × UInt64 × Int) [6,7,8,9,10,20,21,22,23,24,25,26,27,28,29,30,31,32,33,34,35,36,37,38,39,40] (fun ⟨n,x17,x18,x19,x20,x21⟩=>([(8,.int .u64 (x20.toNat : Int)),(9,.int .i64 x21),(10,.int .i64 (((x19 : Nat) : Int)))] : Slots)) (fun ⟨n,x17,x18,x19,x20,x21⟩ R=>OwnP bs bo x17::Arr bs x18::R) (fun ⟨n,x17,x18,x19,x20,x21⟩=>volumegroupmake_Owner_Read_l1 at_1 n x17 x18 x19 x20 x21=some y11) (fun ⟨n,x17,x18,x19,x20,x21⟩=>n) ⟨FUEL, { o with X := (some r7.2.2.1) },r7.2.2.2,0,r7.1,r7.2.1⟩ ?_ ?_ eR ?_
   · exact hl9
   · exact ⟨rfl,rfl,rfl,True.intro⟩
   ·
    rintro ⟨n,x17,x18,x19,x20,x21⟩ h
    cases n with
    | zero=>exact none_e h
    | succ n => ?_
    replace h : volumegroupmake_Owner_Read_l1_b at_1 (volumegroupmake_Owner_Read_l1 at_1 n) x17 x18 x19 x20 x21=some y11 := h
    unfold volumegroupmake_Owner_Read_l1_b at h
    show CJ _ _ _ _ _ (([(8,.int .u64 (x20.toNat : Int)),(9,.int .i64 x21),(10,.int .i64 (((x19 : Nat) : Int)))] : Slots) ++ forget _ _) (OwnP bs bo x17::Arr bs x18::_)
    refine CJ_seq <| sR <| oM rfl rfl <| oP (P_lss (a:=((x19 : Nat) : Int)) (b:=(8 : Int)) rfl rfl) rfl <| oM rfl rfl <| RJ_mbT rfl rfl rfl (fun hG22=>have hP23 : (((x19 : Nat) : Int) < (8 : Int)) := (bT_dec).1 hG22; VJ_P (P_move rfl)) <| RJ_mbT rfl rfl rfl (fun hG24=>have hP25 : (((x19 : Nat) : Int) < (8 : Int)) := (bT_dec).1 hG24; VJ_P (P_eql (a:=x21) (b:=(18 : Int)) (mbx hG24 rfl) rfl)) <| oP (P_pickAnd rfl (fun hh=>mbx hh rfl) rfl) rfl <| nT <| CJ_condP rfl (bT_and bT_dec bT_dec) (fun hg1 => ?_) (fun hg1 => ?_)
    ·
     replace h := ite_t hg1 h
     refine kT <| CJ_seq <| CJ_block <| CJ_seq <| sR <| oM rfl rfl ?_
     obtain ⟨r26,hr27,h⟩ := bind_e h
     refine oO <| O_call (L_volumegroupmake_Owner_drop hr27) rfl Tryz.call53 (Dels.cons del0 (Dels.cons del0 Dels.nil)) rfl fun _ _=>oP (P_not rfl) rfl <| nT <| CJ_condP rfl (bT_not Iff.rfl) (fun hg2 => ?_) (fun hg2 => ?_)
     ·
      replace h := ite_t hg2 h
      refine sR <| oM rfl rfl <| oA rfl rfl <| oA rfl rfl <| nT <| CJ_ret <| QJ_then_ret <| QJ_block_ret <| QJ_then_ret <| QJ_round_ret <| QJ_block_ret <| QJ_then_ret ?_
      have hE := Option.some.inj h
      replace hE := seq_inr hK10 hE.symm
      subst hE
      exact fE (res2 Tryz.results50 rfl rfl) () eR
     ·
      replace h := ite_f hg2 h
      refine kT <| CJ_entX (Ent.transX (t0_ eR) (OwnP_open (l:=r26.2))) fun oc28=>lC del4 fun hlen30=>lC del5 fun hlen31=>CJ_region <| oM rfl rfl <| oP (P_nilCheck rfl) rfl <| oP (P_fieldAddr rfl ⟨_,_,_,Tryz.runUnderlying60,rfl,rfl,Tryz.sizeOf57,rfl⟩) rfl <| oV (V_load rfl foc0 rfl Tryz.isAgg57) rfl <| oM rfl rfl ?_
      rcases opt_e h with ⟨ht32,h⟩ | ⟨o33,ht32,h⟩
      ·
       rw [ht32]
       exact RJ_ent (t0_ (t0_ (t1_ (t1_ (t1_ (t1_ (eD eR))))))) <| none_e h
      ·
       rw [ht32]
       refine RJ_ent (Ent.takeC (A' := MirP bs oc28.2.1 o33) del2 rfl eR) ?_
       obtain ⟨r34,hr35,h⟩ := bind_e h
       exact oO <| O_callI rfl (ICall.of (fun w=>by kernel_rfl) Tryz.call41 (L_mirror_Mirror_Read hr35)) rfl (Dels.cons del0 (Dels.cons del5 Dels.nil)) rfl fun _ _=>oM rfl rfl <| oP (P_extract rfl rfl) rfl <| oP (P_extract rfl rfl) rfl <| oA rfl rfl <| oA rfl rfl <| RJ_nil <| QJ_ent (Ent.trans (t2_ (t2_ (t0_ (t1_ (t1_ (t1_ eR)))))) (OwnP_mk (v0:=r26.2.Open_1) (v1:=r26.2.Open_2) (v2:=r26.2.Open_3) (v3:=r26.2.Open_4) (v4:=(some r34.2.2.1)) (v5:=r26.2.T) (v6:=r26.2.Stale) (v7:=r26.2.Lost) (h0:=oc28.1) (h1:=oc28.2.1) (h2:=oc28.2.2.1) (h3:=oc28.2.2.2.1) (h4:=oc28.2.2.2.2))) <| QJ_block_normal <| QJ_then <| CJ_region <| oM rfl rfl <| oP (PJ_eq (P_add (a:=((x19 : Nat) : Int)) (b:=(1 : Int)) rfl rfl (by omega)) rfl) rfl <| oA rfl rfl <| RJ_nil <| nR ⟨n, { r26.2 with X := (some r34.2.2.1) },r34.2.2.2,(x19 + 1),r34.1,r34.2.1⟩ h ⟨rfl,rfl,rfl,True.intro⟩ eR
    ·
     replace h := ite_f hg1 h
     exact CJ_exit <| QJ_then_exit <| QJ_round_exit <| QJ_block_here <| cR (x20,x21,x17,x18) (Option.some.inj h).symm ⟨rfl,rfl,True.intro⟩ eR
  ·
   rintro a16 hy36
   replace h := seq_inl hK10 hy36
   show CJ _ _ _ _ _ (([(8,.int .u64 (a16.1.toNat : Int)),(9,.int .i64 a16.2.1)] : Slots) ++ forget _ _) (OwnP bs bo a16.2.2.1::Arr bs a16.2.2.2::_)
   refine CJ_seq <| sR <| oM rfl rfl <| oP (P_eql (a:=a16.2.1) (b:=(5 : Int)) rfl rfl) rfl <| nT <| CJ_condP rfl bT_dec (fun hg3 => ?_) (fun hg3 => ?_)
   ·
    replace h := ite_t hg3 h
    refine sR <| oM rfl rfl <| oA rfl rfl <| oA rfl rfl <| nT <| CJ_ret <| QJ_then_ret ?_
    cases h
    exact fE (res2 Tryz.results50 rfl rfl) () eR
   ·
    replace h := ite_f hg3 h
    refine kT <| CJ_seq <| CJ_entX (Ent.transX (t0_ eR) (OwnP_open (l:=a16.2.2.1))) fun oc37=>lC del4 fun hlen39=>lC del5 fun hlen40=>CJ_region <| oM rfl rfl <| oM rfl rfl <| oP (P_eql (a:=a16.2.1) (b:=(0 : Int)) rfl rfl) rfl <| oM rfl rfl <| RJ_splitP 47 rfl bT_dec (fun hg4B hg4 => ?_) (fun hg4B hg4 => ?_)
    ·
     replace h := ite_t hg4 h
     refine gP (GY_yes rfl rfl rfl hg4B) (P_move rfl) rfl <| gP (GY_yes rfl rfl rfl hg4B) (P_nilCheck rfl) rfl <| gP (GY_yes rfl rfl rfl hg4B) (P_fieldAddr rfl ⟨_,_,_,Tryz.runUnderlying60,rfl,rfl,Tryz.sizeOf58,rfl⟩) rfl <| gV (GY_yes rfl rfl rfl hg4B) (V_load rfl foc0 rfl Tryz.isAgg58) rfl <| gP (GY_yes rfl rfl rfl hg4B) (P_move rfl) rfl <| gP (GY_yes rfl rfl rfl hg4B) (P_move rfl) rfl <| gP (GY_yes rfl rfl rfl hg4B) (P_move rfl) rfl ?_
     obtain ⟨hg5,h⟩ := grd_de h
     refine RJ_gy (GY_yes rfl rfl rfl hg4B) <| O_call (c_Reads (smallT_at hg5) (v:=a16.1)) rfl Tryz.call91 (Dels.cons del3 Dels.nil) rfl fun _ _=>oP (P_pickT rfl hg4B rfl) rfl <| oA rfl rfl <| oA rfl rfl <| RJ_nil <| QJ_ent (Ent.trans (t1_ (t1_ (t1_ eR))) (OwnP_mk (v0:=a16.2.2.1.Open_1) (v1:=a16.2.2.1.Open_2) (v2:=a16.2.2.1.Open_3) (v3:=a16.2.2.1.Open_4) (v4:=a16.2.2.1.X) (v5:=(rdTS a16.2.2.1.T at_1 a16.1 settled)) (v6:=a16.2.2.1.Stale) (v7:=a16.2.2.1.Lost) (h0:=oc37.1) (h1:=oc37.2.1) (h2:=oc37.2.2.1) (h3:=oc37.2.2.2.1) (h4:=oc37.2.2.2.2))) <| QJ_then <| CJ_ret ?_
     cases h
     exact fE (res2 Tryz.results50 rfl rfl) () eR
    ·
     replace h := ite_f hg4 h
     refine RJ_gn (GY_no rfl rfl rfl hg4B) rfl rfl <| RJ_gn (GY_no rfl rfl rfl hg4B) rfl rfl <| RJ_gn (GY_no rfl rfl rfl hg4B) rfl rfl <| RJ_gn (GY_no rfl rfl rfl hg4B) rfl rfl <| RJ_gn (GY_no rfl rfl rfl hg4B) rfl rfl <| RJ_gn (GY_no rfl rfl rfl hg4B) rfl rfl <| RJ_gn (GY_no rfl rfl rfl hg4B) rfl rfl <| RJ_gn (GY_no rfl rfl rfl hg4B) rfl rfl <| oP (P_pickF rfl hg4B rfl) rfl <| oA rfl rfl <| oA rfl rfl <| RJ_nil <| QJ_ent (Ent.trans eR (OwnP_mk (v0:=a16.2.2.1.Open_1) (v1:=a16.2.2.1.Open_2) (v2:=a16.2.2.1.Open_3) (v3:=a16.2.2.1.Open_4) (v4:=a16.2.2.1.X) (v5:=a16.2.2.1.T) (v6:=a16.2.2.1.Stale) (v7:=a16.2.2.1.Lost) (h0:=oc37.1) (h1:=oc37.2.1) (h2:=oc37.2.2.1) (h3:=oc37.2.2.2.1) (h4:=oc37.2.2.2.2))) <| QJ_then <| CJ_ret ?_
     cases h
     exact fE (res2 Tryz.results50 rfl rfl) () eR
def volumegroupmake_Owner_All_l1_b (settled : Bool) (rec : OwnS→ArrS→Nat→Option ((OwnS × ArrS) ⊕ (Bool × OwnS × ArrS))) (x7 : OwnS) (x8 : ArrS) (x9 : Nat) : Option ((OwnS × ArrS) ⊕ (Bool × OwnS × ArrS)) :=
  if (((x9 : Nat) : Int) < ((x7.T.length : Nat) : Int)) then
    Option.bind (volumegroupmake_Owner_Read x7 (((x9 : Nat) : Int)) settled x8) fun r16 =>
    if ((¬ r16.2.1=true)∨(r16.1≠(0 : Int))) then
      some (.inr (false,r16.2.2.1,r16.2.2.2))
    else
      grd (inN64 (x9 + 1)) <|
      rec r16.2.2.1 r16.2.2.2 (x9 + 1)
  else
    some (.inl (x7,x8))
def volumegroupmake_Owner_All_l1 (settled : Bool) : Nat→OwnS→ArrS→Nat→Option ((OwnS × ArrS) ⊕ (Bool × OwnS × ArrS))
  | 0,_,_,_=>none
  | n + 1,x7,x8,x9=>volumegroupmake_Owner_All_l1_b settled (volumegroupmake_Owner_All_l1 settled n) x7 x8 x9
def volumegroupmake_Owner_All (o : OwnS) (settled : Bool) (s : ArrS) : Option (Bool × OwnS × ArrS) :=
  seqO (volumegroupmake_Owner_All_l1 settled FUEL o s 0) fun a6 =>
  some (true,a6.1,a6.2)
theorem L_volumegroupmake_Owner_All {W : World} {bo : Nat} {bs : Nat} {o : OwnS} {settled : Bool} {s : ArrS} {r : Bool × OwnS × ArrS} (h : volumegroupmake_Owner_All o settled s=some r) :
    CSpec Tryz.prog W 34 [ptr bo 0,.bool settled] [OwnP bs bo o,Arr bs s] (fun x : Unit => .bool r.1) (fun _=>True) (fun x F=>OwnP bs bo r.2.1::Arr bs r.2.2::F) := by
 refine CSpec.of_body Tryz.func34 rfl Tryz.ntmps34 rfl fun F => ?_
 show CJ _ _ _ _ _ _ (_::_::F)
 unfold volumegroupmake_Owner_All at h
 refine sR <| oA rfl rfl <| nT <| CJ_seq <| sR <| oA rfl rfl <| nT ?_
 obtain ⟨y3,hl1,hK2⟩ := seq_e h
 refine CJ_cutT (X:=OwnS × ArrS) [4,5,6,7,8,9,10,11,12,13,14,15,16,17,18,19,20,21,22,23,24,25,26,27,28,29,30,31,32] (fun a6=>([] : Slots)) (fun a6 R=>OwnP bs bo a6.1::Arr bs a6.2::R) (fun a6=>y3 = .inl a6) (Dels.cons del0 (Dels.cons del0 Dels.nil)) ?_ ?_
 ·
  refine CJ_block <| CJ_loopR (X:=Nat × OwnS × ArrS × Nat) [4,5,6,7,8,9,10,11,12,13,14,15,16,17,18,19,20,21,22,23,24,25,26,27,28,29,30,31,32] (fun ⟨n,x7,x8,x9⟩=>([(5,.int .i64 (((x9 : Nat) : Int)))] : Slots)) (fun ⟨n,x7,x8,x9⟩ R=>OwnP bs bo x7::Arr bs x8::R) (fun ⟨n,x7,x8,x9⟩=>volumegroupmake_Owner_All_l1 settled n x7 x8 x9=some y3) (fun ⟨n,x7,x8,x9⟩=>n) ⟨FUEL,o,s,0⟩ ?_ ?_ eR ?_
  · exact hl1
  · exact ⟨rfl,True.intro⟩
  ·
   rintro ⟨n,x7,x8,x9⟩ h
   cases n with
   | zero=>exact none_e h
   | succ n => ?_
   replace h : volumegroupmake_Owner_All_l1_b settled (volumegroupmake_Owner_All_l1 settled n) x7 x8 x9=some y3 := h
   unfold volumegroupmake_Owner_All_l1_b at h
   show CJ _ _ _ _ _ (([(5,.int .i64 (((x9 : Nat) : Int)))] : Slots) ++ forget _ _) (OwnP bs bo x7::Arr bs x8::_)
   refine CJ_seq <| CJ_seq <| CJ_entX (Ent.transX (t0_ eR) (OwnP_open (l:=x7))) fun oc10=>lC del4 fun hlen12=>lC del5 fun hlen13=>CJ_entX (Ent.transX (t3_ eR) Trk_open) fun tc14=>CJ_pur fun hS15=>CJ_region <| oM rfl rfl <| oM rfl rfl <| oP (P_nilCheck rfl) rfl <| oP (P_fieldAddr rfl ⟨_,_,_,Tryz.runUnderlying60,rfl,rfl,Tryz.sizeOf58,rfl⟩) rfl <| oV (V_load rfl foc3 rfl Tryz.isAgg58) rfl <| oP (P_nilCheck rfl) rfl <| oP (P_fieldAddr rfl ⟨_,_,_,Tryz.runUnderlying54,rfl,rfl,Tryz.sizeOf52,rfl⟩) rfl <| oV (V_load rfl foc0 rfl Tryz.isAgg52) rfl <| oV (VJ_eq (V_len rfl foc1 (Reads.sl _ _ _) Tryz.runUnderlying52) (congrArg (fun z : Nat=>Value.int .i64 (z : Int)) hS15.len.symm)) rfl <| oP (P_lss (a:=((x9 : Nat) : Int)) (b:=((x7.T.length : Nat) : Int)) rfl rfl) rfl <| RJ_nil <| QJ_ent (Ent.trans (t0_ (t0_ (t0_ eR))) (Trk_close hS15)) <| QJ_ent (Ent.trans (t1_ (t1_ (t1_ eR))) (OwnP_mk (v0:=x7.Open_1) (v1:=x7.Open_2) (v2:=x7.Open_3) (v3:=x7.Open_4) (v4:=x7.X) (v5:=x7.T) (v6:=x7.Stale) (v7:=x7.Lost) (h0:=oc10.1) (h1:=oc10.2.1) (h2:=oc10.2.2.1) (h3:=oc10.2.2.2.1) (h4:=oc10.2.2.2.2))) <| QJ_then <| CJ_condP rfl bT_dec (fun hg1 => ?_) (fun hg1 => ?_)
   ·
    replace h := ite_t hg1 h
    refine kT <| CJ_seq <| CJ_block <| sR <| oM rfl rfl <| oM rfl rfl <| oM rfl rfl ?_
    obtain ⟨r16,hr17,h⟩ := bind_e h
    refine oO <| O_call (L_volumegroupmake_Owner_Read hr17) rfl Tryz.call50 (Dels.cons del0 (Dels.cons del0 Dels.nil)) rfl fun _ _=>oM rfl rfl <| oP (P_extract rfl rfl) rfl <| oP (P_extract rfl rfl) rfl <| oA rfl rfl <| oA rfl rfl <| nT <| sR <| oM rfl rfl <| oP (P_not rfl) rfl <| oM rfl rfl <| RJ_mbF rfl rfl rfl (fun hG18=>have hP19 : ¬ (¬ r16.2.1=true) := nP ((bT_not Iff.rfl)) hG18; VJ_P (P_move rfl)) <| RJ_mbF rfl rfl rfl (fun hG20=>have hP21 : ¬ (¬ r16.2.1=true) := nP ((bT_not Iff.rfl)) hG20; VJ_P (P_neq (a:=r16.1) (b:=(0 : Int)) (mbx hG20 rfl) rfl)) <| oP (P_pickOr rfl rfl (fun hh=>mbx (not_f hh) rfl)) rfl <| nT <| CJ_condP rfl (bT_or (bT_not Iff.rfl) bT_dec) (fun hg2 => ?_) (fun hg2 => ?_)
    ·
     replace h := ite_t hg2 h
     refine sR <| oA rfl rfl <| nT <| CJ_ret <| QJ_block_ret <| QJ_then_ret <| QJ_round_ret <| QJ_block_ret <| QJ_then_ret ?_
     have hE := Option.some.inj h
     replace hE := seq_inr hK2 hE.symm
     subst hE
     exact fE (res1 Tryz.results34 rfl) () eR
    ·
     replace h := ite_f hg2 h
     refine CJ_skip <| QJ_block_normal <| QJ_then <| CJ_region <| oM rfl rfl ?_
     obtain ⟨hg3,h⟩ := grd_Ne h
     exact oP (PJ_eq (P_add (a:=((x9 : Nat) : Int)) (b:=(1 : Int)) rfl rfl (nat_in hg3)) rfl) rfl <| oA rfl rfl <| RJ_nil <| nR ⟨n,r16.2.2.1,r16.2.2.2,(x9 + 1)⟩ h ⟨rfl,True.intro⟩ eR
   ·
    replace h := ite_f hg1 h
    exact CJ_exit <| QJ_then_exit <| QJ_round_exit <| QJ_block_here <| cR (x7,x8) (Option.some.inj h).symm True.intro eR
 ·
  rintro a6 hy22
  replace h := seq_inl hK2 hy22
  show CJ _ _ _ _ _ (([] : Slots) ++ forget _ _) (OwnP bs bo a6.1::Arr bs a6.2::_)
  refine sR <| oA rfl rfl <| nT <| CJ_ret ?_
  cases h
  exact fE (res1 Tryz.results34 rfl) () eR
def volumegroupmake_Owner_Write_l1_b (at_1 : Int) (v : UInt64) (rec : OwnS→ArrS→Int→Nat→Option ((Int × OwnS × ArrS) ⊕ (Int × Bool × OwnS × ArrS))) (x16 : OwnS) (x17 : ArrS) (x18 : Int) (x19 : Nat) : Option ((Int × OwnS × ArrS) ⊕ (Int × Bool × OwnS × ArrS)) :=
  if ((((x19 : Nat) : Int) < (8 : Int))∧(x18=(18 : Int))) then
    grd (decide (smallT x16.T=true)) <|
    Option.bind (volumegroupmake_Owner_drop ({ x16 with T := (wroteT x16.T at_1 v false) }) x17) fun r28 =>
    if (¬ r28.1=true) then
      some (.inr (x18,false,r28.2,x17))
    else
      Option.elim r28.2.X (
        none) fun o35 =>
      Option.bind (mirror_Mirror_Write o35 at_1 v x17) fun r36 =>
      rec ({ r28.2 with X := (some r36.2.1) }) r36.2.2 r36.1 (x19 + 1)
  else
    some (.inl (x18,x16,x17))
def volumegroupmake_Owner_Write_l1 (at_1 : Int) (v : UInt64) : Nat→OwnS→ArrS→Int→Nat→Option ((Int × OwnS × ArrS) ⊕ (Int × Bool × OwnS × ArrS))
  | 0,_,_,_,_=>none
  | n + 1,x16,x17,x18,x19=>volumegroupmake_Owner_Write_l1_b at_1 v (volumegroupmake_Owner_Write_l1 at_1 v n) x16 x17 x18 x19
def volumegroupmake_Owner_Write (o : OwnS) (at_1 : Int) (v : UInt64) (s : ArrS) : Option (Int × Bool × OwnS × ArrS) :=
  Option.elim o.X (
    none) fun o6 =>
  Option.bind (mirror_Mirror_Write o6 at_1 v s) fun r7 =>
  seqO (volumegroupmake_Owner_Write_l1 at_1 v FUEL ({ o with X := (some r7.2.1) }) r7.2.2 r7.1 0) fun a15 =>
  grd (decide (smallT a15.2.1.T=true)) <|
  some ((a15.1,((decide (a15.1=(0 : Int))) || (decide (a15.1=(5 : Int)))), { a15.2.1 with T := (wroteT a15.2.1.T at_1 v ((decide (a15.1=(0 : Int))))) },a15.2.2))
theorem L_volumegroupmake_Owner_Write {W : World} {bo : Nat} {bs : Nat} {o : OwnS} {at_1 : Int} {v : UInt64} {s : ArrS} {r : Int × Bool × OwnS × ArrS} (h : volumegroupmake_Owner_Write o at_1 v s=some r) :
    CSpec Tryz.prog W 49 [ptr bo 0,.int .i64 at_1,.int .u64 (v.toNat : Int)] [OwnP bs bo o,Arr bs s] (fun x : Unit => .tuple #[.int .i64 r.1,.bool r.2.1]) (fun _=>True) (fun x F=>OwnP bs bo r.2.2.1::Arr bs r.2.2.2::F) := by
 refine CSpec.of_body Tryz.func49 rfl Tryz.ntmps49 rfl fun F => ?_
 show CJ _ _ _ _ _ _ (_::_::F)
 unfold volumegroupmake_Owner_Write at h
 refine sR <| oA rfl rfl <| oA rfl rfl <| nT <| CJ_seq <| CJ_entX (Ent.transX (t0_ eR) (OwnP_open (l:=o))) fun oc1=>lC del4 fun hlen3=>lC del5 fun hlen4=>CJ_region <| oM rfl rfl <| oP (P_nilCheck rfl) rfl <| oP (P_fieldAddr rfl ⟨_,_,_,Tryz.runUnderlying60,rfl,rfl,Tryz.sizeOf57,rfl⟩) rfl <| oV (V_load rfl foc0 rfl Tryz.isAgg57) rfl <| oM rfl rfl <| oM rfl rfl ?_
 rcases opt_e h with ⟨ht5,h⟩ | ⟨o6,ht5,h⟩
 ·
  rw [ht5]
  exact RJ_ent (t0_ (t0_ (t1_ (t1_ (t1_ (t1_ (eD eR))))))) <| none_e h
 ·
  rw [ht5]
  refine RJ_ent (Ent.takeC (A' := MirP bs oc1.2.1 o6) del2 rfl eR) ?_
  obtain ⟨r7,hr8,h⟩ := bind_e h
  refine oO <| O_callI rfl (ICall.of (fun w=>by kernel_rfl) Tryz.call136 (L_mirror_Mirror_Write hr8)) rfl (Dels.cons del0 (Dels.cons del5 Dels.nil)) rfl fun _ _=>oA rfl rfl <| RJ_nil <| QJ_ent (Ent.trans (t2_ (t2_ (t0_ (t1_ (t1_ (t1_ eR)))))) (OwnP_mk (v0:=o.Open_1) (v1:=o.Open_2) (v2:=o.Open_3) (v3:=o.Open_4) (v4:=(some r7.2.1)) (v5:=o.T) (v6:=o.Stale) (v7:=o.Lost) (h0:=oc1.1) (h1:=oc1.2.1) (h2:=oc1.2.2.1) (h3:=oc1.2.2.2.1) (h4:=oc1.2.2.2.2))) <| QJ_then <| CJ_seq <| sR <| oA rfl rfl <| nT ?_
  obtain ⟨y11,hl9,hK10⟩ := seq_e h
  refine CJ_cutT (X:=Int × OwnS × ArrS) [6,7,8,9,17,18,19,20,21,22,23,24,25,26,27,28,29,30,31,32,33,34,35,36,37,38,39,40,41,42] (fun a15=>([(8,.int .i64 a15.1)] : Slots)) (fun a15 R=>OwnP bs bo a15.2.1::Arr bs a15.2.2::R) (fun a15=>y11 = .inl a15) (Dels.cons del0 (Dels.cons del0 Dels.nil)) ?_ ?_
  ·
   refine CJ_block <| CJ_loopR (X:=Nat × OwnS × ArrS × Int × Nat) [6,7,8,9,17,18,19,20,21,22,23,24,25,26,27,28,29,30,31,32,33,34,35,36,37,38,39,40,41,42] (fun ⟨n,x16,x17,x18,x19⟩=>([(8,.int .i64 x18),(9,.int .i64 (((x19 : Nat) : Int)))] : Slots)) (fun ⟨n,x16,x17,x18,x19⟩ R=>OwnP bs bo x16::Arr bs x17::R) (fun ⟨n,x16,x17,x18,x19⟩=>volumegroupmake_Owner_Write_l1 at_1 v n x16 x17 x18 x19=some y11) (fun ⟨n,x16,x17,x18,x19⟩=>n) ⟨FUEL, { o with X := (some r7.2.1) },r7.2.2,r7.1,0⟩ ?_ ?_ eR ?_
   · exact hl9
   · exact ⟨rfl,rfl,True.intro⟩
   ·
    rintro ⟨n,x16,x17,x18,x19⟩ h
    cases n with
    | zero=>exact none_e h
    | succ n => ?_
    replace h : volumegroupmake_Owner_Write_l1_b at_1 v (volumegroupmake_Owner_Write_l1 at_1 v n) x16 x17 x18 x19=some y11 := h
    unfold volumegroupmake_Owner_Write_l1_b at h
    show CJ _ _ _ _ _ (([(8,.int .i64 x18),(9,.int .i64 (((x19 : Nat) : Int)))] : Slots) ++ forget _ _) (OwnP bs bo x16::Arr bs x17::_)
    refine CJ_seq <| sR <| oM rfl rfl <| oP (P_lss (a:=((x19 : Nat) : Int)) (b:=(8 : Int)) rfl rfl) rfl <| oM rfl rfl <| RJ_mbT rfl rfl rfl (fun hG20=>have hP21 : (((x19 : Nat) : Int) < (8 : Int)) := (bT_dec).1 hG20; VJ_P (P_move rfl)) <| RJ_mbT rfl rfl rfl (fun hG22=>have hP23 : (((x19 : Nat) : Int) < (8 : Int)) := (bT_dec).1 hG22; VJ_P (P_eql (a:=x18) (b:=(18 : Int)) (mbx hG22 rfl) rfl)) <| oP (P_pickAnd rfl (fun hh=>mbx hh rfl) rfl) rfl <| nT <| CJ_condP rfl (bT_and bT_dec bT_dec) (fun hg1 => ?_) (fun hg1 => ?_)
    ·
     replace h := ite_t hg1 h
     refine kT <| CJ_seq <| CJ_block <| CJ_seq <| CJ_entX (Ent.transX (t0_ eR) (OwnP_open (l:=x16))) fun oc24=>lC del4 fun hlen26=>lC del5 fun hlen27=>CJ_region <| oM rfl rfl <| oP (P_nilCheck rfl) rfl <| oP (P_fieldAddr rfl ⟨_,_,_,Tryz.runUnderlying60,rfl,rfl,Tryz.sizeOf58,rfl⟩) rfl <| oV (V_load rfl foc0 rfl Tryz.isAgg58) rfl <| oM rfl rfl <| oM rfl rfl ?_
     obtain ⟨hg2,h⟩ := grd_de h
     refine oO <| O_call (c_Wrote (smallT_at hg2) (v:=v)) rfl Tryz.call90 (Dels.cons del3 Dels.nil) rfl fun _ _=>RJ_nil <| QJ_ent (Ent.trans (t1_ (t1_ (t1_ eR))) (OwnP_mk (v0:=x16.Open_1) (v1:=x16.Open_2) (v2:=x16.Open_3) (v3:=x16.Open_4) (v4:=x16.X) (v5:=(wroteT x16.T at_1 v false)) (v6:=x16.Stale) (v7:=x16.Lost) (h0:=oc24.1) (h1:=oc24.2.1) (h2:=oc24.2.2.1) (h3:=oc24.2.2.2.1) (h4:=oc24.2.2.2.2))) <| QJ_then <| CJ_seq <| sR <| oM rfl rfl ?_
     obtain ⟨r28,hr29,h⟩ := bind_e h
     refine oO <| O_call (L_volumegroupmake_Owner_drop hr29) rfl Tryz.call53 (Dels.cons del0 (Dels.cons del0 Dels.nil)) rfl fun _ _=>oP (P_not rfl) rfl <| nT <| CJ_condP rfl (bT_not Iff.rfl) (fun hg3 => ?_) (fun hg3 => ?_)
     ·
      replace h := ite_t hg3 h
      refine sR <| oM rfl rfl <| oA rfl rfl <| oA rfl rfl <| nT <| CJ_ret <| QJ_then_ret <| QJ_block_ret <| QJ_then_ret <| QJ_round_ret <| QJ_block_ret <| QJ_then_ret ?_
      have hE := Option.some.inj h
      replace hE := seq_inr hK10 hE.symm
      subst hE
      exact fE (res2 Tryz.results49 rfl rfl) () eR
     ·
      replace h := ite_f hg3 h
      refine kT <| CJ_entX (Ent.transX (t0_ eR) (OwnP_open (l:=r28.2))) fun oc30=>lC del4 fun hlen32=>lC del5 fun hlen33=>CJ_region <| oM rfl rfl <| oP (P_nilCheck rfl) rfl <| oP (P_fieldAddr rfl ⟨_,_,_,Tryz.runUnderlying60,rfl,rfl,Tryz.sizeOf57,rfl⟩) rfl <| oV (V_load rfl foc0 rfl Tryz.isAgg57) rfl <| oM rfl rfl <| oM rfl rfl ?_
      rcases opt_e h with ⟨ht34,h⟩ | ⟨o35,ht34,h⟩
      ·
       rw [ht34]
       exact RJ_ent (t0_ (t0_ (t1_ (t1_ (t1_ (t1_ (eD eR))))))) <| none_e h
      ·
       rw [ht34]
       refine RJ_ent (Ent.takeC (A' := MirP bs oc30.2.1 o35) del2 rfl eR) ?_
       obtain ⟨r36,hr37,h⟩ := bind_e h
       exact oO <| O_callI rfl (ICall.of (fun w=>by kernel_rfl) Tryz.call136 (L_mirror_Mirror_Write hr37)) rfl (Dels.cons del0 (Dels.cons del5 Dels.nil)) rfl fun _ _=>oA rfl rfl <| RJ_nil <| QJ_ent (Ent.trans (t2_ (t2_ (t0_ (t1_ (t1_ (t1_ eR)))))) (OwnP_mk (v0:=r28.2.Open_1) (v1:=r28.2.Open_2) (v2:=r28.2.Open_3) (v3:=r28.2.Open_4) (v4:=(some r36.2.1)) (v5:=r28.2.T) (v6:=r28.2.Stale) (v7:=r28.2.Lost) (h0:=oc30.1) (h1:=oc30.2.1) (h2:=oc30.2.2.1) (h3:=oc30.2.2.2.1) (h4:=oc30.2.2.2.2))) <| QJ_block_normal <| QJ_then <| CJ_region <| oM rfl rfl <| oP (PJ_eq (P_add (a:=((x19 : Nat) : Int)) (b:=(1 : Int)) rfl rfl (by omega)) rfl) rfl <| oA rfl rfl <| RJ_nil <| nR ⟨n, { r28.2 with X := (some r36.2.1) },r36.2.2,r36.1,(x19 + 1)⟩ h ⟨rfl,rfl,True.intro⟩ eR
    ·
     replace h := ite_f hg1 h
     exact CJ_exit <| QJ_then_exit <| QJ_round_exit <| QJ_block_here <| cR (x18,x16,x17) (Option.some.inj h).symm ⟨rfl,True.intro⟩ eR
  ·
   rintro a15 hy38
   replace h := seq_inl hK10 hy38
   show CJ _ _ _ _ _ (([(8,.int .i64 a15.1)] : Slots) ++ forget _ _) (OwnP bs bo a15.2.1::Arr bs a15.2.2::_)
   refine CJ_seq <| CJ_entX (Ent.transX (t0_ eR) (OwnP_open (l:=a15.2.1))) fun oc39=>lC del4 fun hlen41=>lC del5 fun hlen42=>CJ_region <| oM rfl rfl <| oP (P_nilCheck rfl) rfl <| oP (P_fieldAddr rfl ⟨_,_,_,Tryz.runUnderlying60,rfl,rfl,Tryz.sizeOf58,rfl⟩) rfl <| oV (V_load rfl foc0 rfl Tryz.isAgg58) rfl <| oM rfl rfl <| oM rfl rfl <| oM rfl rfl <| oP (P_eql (a:=a15.1) (b:=(0 : Int)) rfl rfl) rfl ?_
   obtain ⟨hg4,h⟩ := grd_de h
   refine oO <| O_call (c_Wrote (smallT_at hg4) (v:=v)) rfl Tryz.call90 (Dels.cons del3 Dels.nil) rfl fun _ _=>RJ_nil <| QJ_ent (Ent.trans (t1_ (t1_ (t1_ eR))) (OwnP_mk (v0:=a15.2.1.Open_1) (v1:=a15.2.1.Open_2) (v2:=a15.2.1.Open_3) (v3:=a15.2.1.Open_4) (v4:=a15.2.1.X) (v5:=(wroteT a15.2.1.T at_1 v ((decide (a15.1=(0 : Int)))))) (v6:=a15.2.1.Stale) (v7:=a15.2.1.Lost) (h0:=oc39.1) (h1:=oc39.2.1) (h2:=oc39.2.2.1) (h3:=oc39.2.2.2.1) (h4:=oc39.2.2.2.2))) <| QJ_then <| sR <| oM rfl rfl <| oM rfl rfl <| oP (P_eql (a:=a15.1) (b:=(0 : Int)) rfl rfl) rfl <| oM rfl rfl <| RJ_mbF rfl rfl rfl (fun hG43=>have hP44 : ¬ (a15.1=(0 : Int)) := nP (bT_dec) hG43; VJ_P (P_move rfl)) <| RJ_mbF rfl rfl rfl (fun hG45=>have hP46 : ¬ (a15.1=(0 : Int)) := nP (bT_dec) hG45; VJ_P (P_eql (a:=a15.1) (b:=(5 : Int)) (mbx hG45 rfl) rfl)) <| oP (P_pickOr rfl rfl (fun hh=>mbx (not_f hh) rfl)) rfl <| oA rfl rfl <| oA rfl rfl <| nT <| CJ_ret ?_
   cases h
   exact fE (res2 Tryz.results49 rfl rfl) () eR
def volumegroupmake_Owner_Flush_l1_b (rec : OwnS→ArrS→Int→Nat→Option ((Int × OwnS × ArrS) ⊕ (Int × Bool × OwnS × ArrS))) (x16 : OwnS) (x17 : ArrS) (x18 : Int) (x19 : Nat) : Option ((Int × OwnS × ArrS) ⊕ (Int × Bool × OwnS × ArrS)) :=
  if ((((x19 : Nat) : Int) < (8 : Int))∧(x18=(18 : Int))) then
    Option.bind (volumegroupmake_Owner_drop x16 x17) fun r24 =>
    if (¬ r24.1=true) then
      some (.inr (x18,false,r24.2,x17))
    else
      Option.elim r24.2.X (
        none) fun o31 =>
      Option.bind (mirror_Mirror_Flush o31 x17) fun r32 =>
      rec ({ r24.2 with X := (some r32.2.1) }) r32.2.2 r32.1 (x19 + 1)
  else
    some (.inl (x18,x16,x17))
def volumegroupmake_Owner_Flush_l1 : Nat→OwnS→ArrS→Int→Nat→Option ((Int × OwnS × ArrS) ⊕ (Int × Bool × OwnS × ArrS))
  | 0,_,_,_,_=>none
  | n + 1,x16,x17,x18,x19=>volumegroupmake_Owner_Flush_l1_b (volumegroupmake_Owner_Flush_l1 n) x16 x17 x18 x19
def volumegroupmake_Owner_Flush (o : OwnS) (s : ArrS) : Option (Int × Bool × OwnS × ArrS) :=
  Option.elim o.X (
    none) fun o6 =>
  Option.bind (mirror_Mirror_Flush o6 s) fun r7 =>
  seqO (volumegroupmake_Owner_Flush_l1 FUEL ({ o with X := (some r7.2.1) }) r7.2.2 r7.1 0) fun a15 =>
  if (a15.1=(0 : Int)) then
    some ((a15.1,((decide (a15.1=(0 : Int))) || (decide (a15.1=(5 : Int)))), { a15.2.1 with T := (flushedT a15.2.1.T) },a15.2.2))
  else
    some ((a15.1,((decide (a15.1=(0 : Int))) || (decide (a15.1=(5 : Int)))),a15.2.1,a15.2.2))
theorem L_volumegroupmake_Owner_Flush {W : World} {bo : Nat} {bs : Nat} {o : OwnS} {s : ArrS} {r : Int × Bool × OwnS × ArrS} (h : volumegroupmake_Owner_Flush o s=some r) :
    CSpec Tryz.prog W 23 [ptr bo 0] [OwnP bs bo o,Arr bs s] (fun x : Unit => .tuple #[.int .i64 r.1,.bool r.2.1]) (fun _=>True) (fun x F=>OwnP bs bo r.2.2.1::Arr bs r.2.2.2::F) := by
 refine CSpec.of_body Tryz.func23 rfl Tryz.ntmps23 rfl fun F => ?_
 show CJ _ _ _ _ _ _ (_::_::F)
 unfold volumegroupmake_Owner_Flush at h
 refine sR <| oA rfl rfl <| oA rfl rfl <| nT <| CJ_seq <| CJ_entX (Ent.transX (t0_ eR) (OwnP_open (l:=o))) fun oc1=>lC del4 fun hlen3=>lC del5 fun hlen4=>CJ_region <| oM rfl rfl <| oP (P_nilCheck rfl) rfl <| oP (P_fieldAddr rfl ⟨_,_,_,Tryz.runUnderlying60,rfl,rfl,Tryz.sizeOf57,rfl⟩) rfl <| oV (V_load rfl foc0 rfl Tryz.isAgg57) rfl ?_
 rcases opt_e h with ⟨ht5,h⟩ | ⟨o6,ht5,h⟩
 ·
  rw [ht5]
  exact RJ_ent (t0_ (t0_ (t1_ (t1_ (t1_ (t1_ (eD eR))))))) <| none_e h
 ·
  rw [ht5]
  refine RJ_ent (Ent.takeC (A' := MirP bs oc1.2.1 o6) del2 rfl eR) ?_
  obtain ⟨r7,hr8,h⟩ := bind_e h
  refine oO <| O_callI rfl (ICall.of (fun w=>by kernel_rfl) Tryz.call37 (L_mirror_Mirror_Flush hr8)) rfl (Dels.cons del0 (Dels.cons del5 Dels.nil)) rfl fun _ _=>oA rfl rfl <| RJ_nil <| QJ_ent (Ent.trans (t2_ (t2_ (t0_ (t1_ (t1_ (t1_ eR)))))) (OwnP_mk (v0:=o.Open_1) (v1:=o.Open_2) (v2:=o.Open_3) (v3:=o.Open_4) (v4:=(some r7.2.1)) (v5:=o.T) (v6:=o.Stale) (v7:=o.Lost) (h0:=oc1.1) (h1:=oc1.2.1) (h2:=oc1.2.2.1) (h3:=oc1.2.2.2.1) (h4:=oc1.2.2.2.2))) <| QJ_then <| CJ_seq <| sR <| oA rfl rfl <| nT ?_
  obtain ⟨y11,hl9,hK10⟩ := seq_e h
  refine CJ_cutT (X:=Int × OwnS × ArrS) [2,3,4,5,11,12,13,14,15,16,17,18,19,20,21,22,23,24,25,26,27] (fun a15=>([(4,.int .i64 a15.1)] : Slots)) (fun a15 R=>OwnP bs bo a15.2.1::Arr bs a15.2.2::R) (fun a15=>y11 = .inl a15) (Dels.cons del0 (Dels.cons del0 Dels.nil)) ?_ ?_
  ·
   refine CJ_block <| CJ_loopR (X:=Nat × OwnS × ArrS × Int × Nat) [2,3,4,5,11,12,13,14,15,16,17,18,19,20,21,22,23,24,25,26,27] (fun ⟨n,x16,x17,x18,x19⟩=>([(4,.int .i64 x18),(5,.int .i64 (((x19 : Nat) : Int)))] : Slots)) (fun ⟨n,x16,x17,x18,x19⟩ R=>OwnP bs bo x16::Arr bs x17::R) (fun ⟨n,x16,x17,x18,x19⟩=>volumegroupmake_Owner_Flush_l1 n x16 x17 x18 x19=some y11) (fun ⟨n,x16,x17,x18,x19⟩=>n) ⟨FUEL, { o with X := (some r7.2.1) },r7.2.2,r7.1,0⟩ ?_ ?_ eR ?_
   · exact hl9
   · exact ⟨rfl,rfl,True.intro⟩
   ·
    rintro ⟨n,x16,x17,x18,x19⟩ h
    cases n with
    | zero=>exact none_e h
    | succ n => ?_
    replace h : volumegroupmake_Owner_Flush_l1_b (volumegroupmake_Owner_Flush_l1 n) x16 x17 x18 x19=some y11 := h
    unfold volumegroupmake_Owner_Flush_l1_b at h
    show CJ _ _ _ _ _ (([(4,.int .i64 x18),(5,.int .i64 (((x19 : Nat) : Int)))] : Slots) ++ forget _ _) (OwnP bs bo x16::Arr bs x17::_)
    refine CJ_seq <| sR <| oM rfl rfl <| oP (P_lss (a:=((x19 : Nat) : Int)) (b:=(8 : Int)) rfl rfl) rfl <| oM rfl rfl <| RJ_mbT rfl rfl rfl (fun hG20=>have hP21 : (((x19 : Nat) : Int) < (8 : Int)) := (bT_dec).1 hG20; VJ_P (P_move rfl)) <| RJ_mbT rfl rfl rfl (fun hG22=>have hP23 : (((x19 : Nat) : Int) < (8 : Int)) := (bT_dec).1 hG22; VJ_P (P_eql (a:=x18) (b:=(18 : Int)) (mbx hG22 rfl) rfl)) <| oP (P_pickAnd rfl (fun hh=>mbx hh rfl) rfl) rfl <| nT <| CJ_condP rfl (bT_and bT_dec bT_dec) (fun hg1 => ?_) (fun hg1 => ?_)
    ·
     replace h := ite_t hg1 h
     refine kT <| CJ_seq <| CJ_block <| CJ_seq <| sR <| oM rfl rfl ?_
     obtain ⟨r24,hr25,h⟩ := bind_e h
     refine oO <| O_call (L_volumegroupmake_Owner_drop hr25) rfl Tryz.call53 (Dels.cons del0 (Dels.cons del0 Dels.nil)) rfl fun _ _=>oP (P_not rfl) rfl <| nT <| CJ_condP rfl (bT_not Iff.rfl) (fun hg2 => ?_) (fun hg2 => ?_)
     ·
      replace h := ite_t hg2 h
      refine sR <| oM rfl rfl <| oA rfl rfl <| oA rfl rfl <| nT <| CJ_ret <| QJ_then_ret <| QJ_block_ret <| QJ_then_ret <| QJ_round_ret <| QJ_block_ret <| QJ_then_ret ?_
      have hE := Option.some.inj h
      replace hE := seq_inr hK10 hE.symm
      subst hE
      exact fE (res2 Tryz.results23 rfl rfl) () eR
     ·
      replace h := ite_f hg2 h
      refine kT <| CJ_entX (Ent.transX (t0_ eR) (OwnP_open (l:=r24.2))) fun oc26=>lC del4 fun hlen28=>lC del5 fun hlen29=>CJ_region <| oM rfl rfl <| oP (P_nilCheck rfl) rfl <| oP (P_fieldAddr rfl ⟨_,_,_,Tryz.runUnderlying60,rfl,rfl,Tryz.sizeOf57,rfl⟩) rfl <| oV (V_load rfl foc0 rfl Tryz.isAgg57) rfl ?_
      rcases opt_e h with ⟨ht30,h⟩ | ⟨o31,ht30,h⟩
      ·
       rw [ht30]
       exact RJ_ent (t0_ (t0_ (t1_ (t1_ (t1_ (t1_ (eD eR))))))) <| none_e h
      ·
       rw [ht30]
       refine RJ_ent (Ent.takeC (A' := MirP bs oc26.2.1 o31) del2 rfl eR) ?_
       obtain ⟨r32,hr33,h⟩ := bind_e h
       exact oO <| O_callI rfl (ICall.of (fun w=>by kernel_rfl) Tryz.call37 (L_mirror_Mirror_Flush hr33)) rfl (Dels.cons del0 (Dels.cons del5 Dels.nil)) rfl fun _ _=>oA rfl rfl <| RJ_nil <| QJ_ent (Ent.trans (t2_ (t2_ (t0_ (t1_ (t1_ (t1_ eR)))))) (OwnP_mk (v0:=r24.2.Open_1) (v1:=r24.2.Open_2) (v2:=r24.2.Open_3) (v3:=r24.2.Open_4) (v4:=(some r32.2.1)) (v5:=r24.2.T) (v6:=r24.2.Stale) (v7:=r24.2.Lost) (h0:=oc26.1) (h1:=oc26.2.1) (h2:=oc26.2.2.1) (h3:=oc26.2.2.2.1) (h4:=oc26.2.2.2.2))) <| QJ_block_normal <| QJ_then <| CJ_region <| oM rfl rfl <| oP (PJ_eq (P_add (a:=((x19 : Nat) : Int)) (b:=(1 : Int)) rfl rfl (by omega)) rfl) rfl <| oA rfl rfl <| RJ_nil <| nR ⟨n, { r24.2 with X := (some r32.2.1) },r32.2.2,r32.1,(x19 + 1)⟩ h ⟨rfl,rfl,True.intro⟩ eR
    ·
     replace h := ite_f hg1 h
     exact CJ_exit <| QJ_then_exit <| QJ_round_exit <| QJ_block_here <| cR (x18,x16,x17) (Option.some.inj h).symm ⟨rfl,True.intro⟩ eR
  ·
   rintro a15 hy34
   replace h := seq_inl hK10 hy34
   show CJ _ _ _ _ _ (([(4,.int .i64 a15.1)] : Slots) ++ forget _ _) (OwnP bs bo a15.2.1::Arr bs a15.2.2::_)
   refine CJ_seq <| sR <| oM rfl rfl <| oP (P_eql (a:=a15.1) (b:=(0 : Int)) rfl rfl) rfl <| nT <| CJ_condP rfl bT_dec (fun hg3 => ?_) (fun hg3 => ?_)
   ·
    replace h := ite_t hg3 h
    refine CJ_entX (Ent.transX (t0_ eR) (OwnP_open (l:=a15.2.1))) fun oc35=>lC del4 fun hlen37=>lC del5 fun hlen38=>CJ_region <| oM rfl rfl <| oP (P_nilCheck rfl) rfl <| oP (P_fieldAddr rfl ⟨_,_,_,Tryz.runUnderlying60,rfl,rfl,Tryz.sizeOf58,rfl⟩) rfl <| oV (V_load rfl foc0 rfl Tryz.isAgg58) rfl <| oO <| O_call (c_Flushed) rfl Tryz.call54 (Dels.cons del3 Dels.nil) rfl fun _ _=>RJ_nil <| QJ_ent (Ent.trans (t1_ (t1_ (t1_ eR))) (OwnP_mk (v0:=a15.2.1.Open_1) (v1:=a15.2.1.Open_2) (v2:=a15.2.1.Open_3) (v3:=a15.2.1.Open_4) (v4:=a15.2.1.X) (v5:=(flushedT a15.2.1.T)) (v6:=a15.2.1.Stale) (v7:=a15.2.1.Lost) (h0:=oc35.1) (h1:=oc35.2.1) (h2:=oc35.2.2.1) (h3:=oc35.2.2.2.1) (h4:=oc35.2.2.2.2))) <| QJ_then <| sR <| oM rfl rfl <| oM rfl rfl <| oP (P_eql (a:=a15.1) (b:=(0 : Int)) rfl rfl) rfl <| oM rfl rfl <| RJ_mbF rfl rfl rfl (fun hG39=>have hP40 : ¬ (a15.1=(0 : Int)) := nP (bT_dec) hG39; VJ_P (P_move rfl)) <| RJ_mbF rfl rfl rfl (fun hG41=>have hP42 : ¬ (a15.1=(0 : Int)) := nP (bT_dec) hG41; VJ_P (P_eql (a:=a15.1) (b:=(5 : Int)) (mbx hG41 rfl) rfl)) <| oP (P_pickOr rfl rfl (fun hh=>mbx (not_f hh) rfl)) rfl <| oA rfl rfl <| oA rfl rfl <| nT <| CJ_ret ?_
    cases h
    exact fE (res2 Tryz.results23 rfl rfl) () eR
   ·
    replace h := ite_f hg3 h
    refine kT <| sR <| oM rfl rfl <| oM rfl rfl <| oP (P_eql (a:=a15.1) (b:=(0 : Int)) rfl rfl) rfl <| oM rfl rfl <| RJ_mbF rfl rfl rfl (fun hG43=>have hP44 : ¬ (a15.1=(0 : Int)) := nP (bT_dec) hG43; VJ_P (P_move rfl)) <| RJ_mbF rfl rfl rfl (fun hG45=>have hP46 : ¬ (a15.1=(0 : Int)) := nP (bT_dec) hG45; VJ_P (P_eql (a:=a15.1) (b:=(5 : Int)) (mbx hG45 rfl) rfl)) <| oP (P_pickOr rfl rfl (fun hh=>mbx (not_f hh) rfl)) rfl <| oA rfl rfl <| oA rfl rfl <| nT <| CJ_ret ?_
    cases h
    exact fE (res2 Tryz.results23 rfl rfl) () eR
def volumegroupmake_Owner_Lose (o : OwnS) (disk : Int) (leg : Int) (s : ArrS) : Option (Bool × OwnS × ArrS) :=
  Option.bind (volumegroupmake_add o.Lost leg) fun r5 =>
  some (((decide ((smR s disk)=(0 : Int))), { o with Lost := r5 },(smS s disk true)))
theorem L_volumegroupmake_Owner_Lose {W : World} {bo : Nat} {bs : Nat} {o : OwnS} {disk : Int} {leg : Int} {s : ArrS} {r : Bool × OwnS × ArrS} (h : volumegroupmake_Owner_Lose o disk leg s=some r) :
    CSpec Tryz.prog W 30 [ptr bo 0,.int .i64 disk,.int .i64 leg] [OwnP bs bo o,Arr bs s] (fun x : Unit => .bool r.1) (fun _=>True) (fun x F=>OwnP bs bo r.2.1::Arr bs r.2.2::F) := by
 refine CSpec.of_body Tryz.func30 rfl Tryz.ntmps30 rfl fun F => ?_
 show CJ _ _ _ _ _ _ (_::_::F)
 unfold volumegroupmake_Owner_Lose at h
 refine sR <| oA rfl rfl <| nT <| CJ_seq <| CJ_entX (Ent.transX (t0_ eR) (OwnP_open (l:=o))) fun oc1=>lC del4 fun hlen3=>lC del5 fun hlen4=>CJ_region <| oM rfl rfl <| oM rfl rfl <| oP (P_nilCheck rfl) rfl <| oP (P_fieldAddr rfl ⟨_,_,_,Tryz.runUnderlying60,rfl,rfl,Tryz.sizeOf45,rfl⟩) rfl <| oV (V_load rfl foc0 rfl Tryz.isAgg45) rfl <| oM rfl rfl ?_
 obtain ⟨r5,hr6,h⟩ := bind_e h
 refine oO <| O_call (L_volumegroupmake_add (Reads.sl _ _ _) hr6) rfl Tryz.call48 (Dels.cons del5 Dels.nil) rfl fun X7 _=>oP (P_nilCheck rfl) rfl <| oP (P_fieldAddr rfl ⟨_,_,_,Tryz.runUnderlying60,rfl,rfl,Tryz.sizeOf45,rfl⟩) rfl <| oO <| O_store rfl rfl foc2 rfl rfl Tryz.sizeOf45 <| RJ_nil <| QJ_ent (Ent.trans (t2_ (t2_ (t2_ (t2_ (t2_ (t1_ eR)))))) (OwnP_mk (v0:=o.Open_1) (v1:=o.Open_2) (v2:=o.Open_3) (v3:=o.Open_4) (v4:=o.X) (v5:=o.T) (v6:=o.Stale) (v7:=r5) (h0:=oc1.1) (h1:=oc1.2.1) (h2:=oc1.2.2.1) (h3:=oc1.2.2.2.1) (h4:=X7))) <| QJ_then <| CJ_seq <| CJ_entX (Ent.transX (t0_ eR) (OwnP_open (l := { o with Lost := r5 }))) fun oc9=>lC del4 fun hlen11=>lC del5 fun hlen12=>CJ_region <| oM rfl rfl <| oP (P_nilCheck rfl) rfl <| oP (P_fieldAddr rfl ⟨_,_,_,Tryz.runUnderlying60,rfl,rfl,Tryz.sizeOf26,rfl⟩) rfl <| oV (V_load rfl foc0 rfl Tryz.isAgg26) rfl <| oM rfl rfl <| oO <| O_call (c_SetMissing) rfl Tryz.call66 (Dels.cons del7 Dels.nil) rfl fun _ _=>oP (P_eql (a:=(smR s disk)) (b:=(0 : Int)) rfl rfl) rfl <| oA rfl rfl <| RJ_nil ?_
 refine QJ_ent (Ent.trans (t1_ (t1_ (t1_ (t1_ (t1_ (t1_ eR)))))) (OwnP_mk (v0:=o.Open_1) (v1:=o.Open_2) (v2:=o.Open_3) (v3:=o.Open_4) (v4:=o.X) (v5:=o.T) (v6:=o.Stale) (v7:=r5) (h0:=oc9.1) (h1:=oc9.2.1) (h2:=oc9.2.2.1) (h3:=oc9.2.2.2.1) (h4:=oc9.2.2.2.2))) <| QJ_then <| CJ_ret ?_
 cases h
 exact fE (res1 Tryz.results30 rfl) () (t0_ (t0_ (eD eR)))
end Go.Proofs
set_option linter.unusedSimpArgs false
set_option linter.unusedVariables false
set_option maxRecDepth 20000
set_option maxHeartbeats 4000000
namespace Go.Proofs
open Go.VG
def volumegroupmake_Owner_Settled (o : OwnS) (s : ArrS) : Option (Bool × OwnS × ArrS) :=
  Option.bind (volumegroupmake_Owner_All o true s) fun r1 =>
  some (r1.1,r1.2.1,r1.2.2)
theorem L_volumegroupmake_Owner_Settled {W : World} {bo : Nat} {bs : Nat} {o : OwnS} {s : ArrS} {r : Bool × OwnS × ArrS} (h : volumegroupmake_Owner_Settled o s=some r) :
    CSpec Tryz.prog W 51 [ptr bo 0] [OwnP bs bo o,Arr bs s] (fun x : Unit => .bool r.1) (fun _=>True) (fun x F=>OwnP bs bo r.2.1::Arr bs r.2.2::F) := by
 refine CSpec.of_body Tryz.func51 rfl Tryz.ntmps51 rfl fun F => ?_
 show CJ _ _ _ _ _ _ (_::_::F)
 unfold volumegroupmake_Owner_Settled at h
 refine sR <| oA rfl rfl <| nT <| sR <| oM rfl rfl ?_
 obtain ⟨r1,hr2,h⟩ := bind_e h
 refine oO <| O_call (L_volumegroupmake_Owner_All hr2) rfl Tryz.call34 (Dels.cons del0 (Dels.cons del0 Dels.nil)) rfl fun _ _=>oA rfl rfl <| nT <| CJ_ret ?_
 cases h
 exact fE (res1 Tryz.results51 rfl) () eR
def volumegroupmake_Owner_Step (o : OwnS) (s_1 : volumegroupmake_Step) (s : ArrS) : Option (Bool × OwnS × ArrS) :=
  grd (decide (¬ ((o.T.length : Nat) : Int)=0)) <|
  grd (inI64 (((s_1.At.tmod (((o.T.length : Nat) : Int))) + ((o.T.length : Nat) : Int)))) <|
  grd (decide (¬ ((o.T.length : Nat) : Int)=0)) <|
  lt (((((s_1.At.tmod (((o.T.length : Nat) : Int))) + ((o.T.length : Nat) : Int))).tmod (((o.T.length : Nat) : Int)))) fun w8 =>
  Option.bind ((
    if (s_1.Kind=(0 : Int)) then
      Option.bind (volumegroupmake_Owner_Write o w8 s_1.Value s) fun r17 =>
      some (r17.1,r17.2.1,r17.2.2.1,r17.2.2.2)
    else
      if (s_1.Kind=(1 : Int)) then
        Option.bind (volumegroupmake_Owner_Read o w8 false s) fun r19 =>
        some (r19.1,r19.2.1,r19.2.2.1,r19.2.2.2)
      else
        if (s_1.Kind=(2 : Int)) then
          Option.bind (volumegroupmake_Owner_Flush o s) fun r21 =>
          some (r21.1,r21.2.1,r21.2.2.1,r21.2.2.2)
        else
          if (s_1.Kind=(3 : Int)) then
            some (((5 : Int),true,o,s))
          else
            if (s_1.Kind=(4 : Int)) then
              grd (inI64 (((1 : Int) + w8))) <|
              grd (inI64 (((1 : Int) + w8))) <|
              some (((0 : Int),true,o, { s with fuse := (((1 : Int) + w8)).toNat }))
            else
              some (((0 : Int),true,o,s)) : Option (Int × Bool × OwnS × ArrS))) fun a16 =>
  if (¬ a16.2.1=true) then
    some (false,a16.2.2.1,a16.2.2.2)
  else
    if (a16.1≠(5 : Int)) then
      some (true,a16.2.2.1,a16.2.2.2)
    else
      Option.bind (volumegroupmake_Owner_Power a16.2.2.1 s_1.Keep a16.2.2.2) fun r28 =>
      if r28.1=true then
        Option.bind (volumegroupmake_Owner_Settled r28.2.1 r28.2.2) fun r30 =>
        some (r30.1,r30.2.1,r30.2.2)
      else
        some (false,r28.2.1,r28.2.2)
theorem L_volumegroupmake_Owner_Step {W : World} {bo : Nat} {bs : Nat} {o : OwnS} {s_1 : volumegroupmake_Step} {s : ArrS} {r : Bool × OwnS × ArrS} (h : volumegroupmake_Owner_Step o s_1 s=some r) :
    CSpec Tryz.prog W 18 [ptr bo 0,.agg #[.int .i64 s_1.Kind,.int .i64 s_1.At,.int .u64 (s_1.Value.toNat : Int),.int .u64 (s_1.Keep.toNat : Int)]] [OwnP bs bo o,Arr bs s] (fun x : Unit => .bool r.1) (fun _=>True) (fun x F=>OwnP bs bo r.2.1::Arr bs r.2.2::F) := by
 refine CSpec.of_body Tryz.func18 rfl Tryz.ntmps18 rfl fun F => ?_
 show CJ _ _ _ _ _ _ (_::_::F)
 unfold volumegroupmake_Owner_Step at h
 refine sR <| oO <| O_box rfl rfl rfl fun b1=>oA rfl rfl <| nT <| CJ_seq <| CJ_entX (Ent.transX (t1_ eR) (OwnP_open (l:=o))) fun oc2=>lC del4 fun hlen4=>lC del5 fun hlen5=>CJ_entX (Ent.transX (t3_ eR) Trk_open) fun tc6=>CJ_pur fun hS7=>CJ_region <| oM rfl rfl <| oP (P_nilCheck rfl) rfl <| oP (P_fieldAddr rfl ⟨_,_,_,Tryz.runUnderlying60,rfl,rfl,Tryz.sizeOf58,rfl⟩) rfl <| oV (V_load rfl foc3 rfl Tryz.isAgg58) rfl <| oP (P_nilCheck rfl) rfl <| oP (P_fieldAddr rfl ⟨_,_,_,Tryz.runUnderlying54,rfl,rfl,Tryz.sizeOf52,rfl⟩) rfl <| oV (V_load rfl foc0 rfl Tryz.isAgg52) rfl <| oV (VJ_eq (V_len rfl foc1 (Reads.sl _ _ _) Tryz.runUnderlying52) (congrArg (fun z : Nat=>Value.int .i64 (z : Int)) hS7.len.symm)) rfl <| oA rfl rfl <| RJ_nil <| QJ_ent (Ent.trans (t0_ (t0_ (t0_ eR))) (Trk_close hS7)) <| QJ_ent (Ent.trans (t1_ (t1_ (t1_ eR))) (OwnP_mk (v0:=o.Open_1) (v1:=o.Open_2) (v2:=o.Open_3) (v3:=o.Open_4) (v4:=o.X) (v5:=o.T) (v6:=o.Stale) (v7:=o.Lost) (h0:=oc2.1) (h1:=oc2.2.1) (h2:=oc2.2.2.1) (h3:=oc2.2.2.2.1) (h4:=oc2.2.2.2.2))) <| QJ_then <| sR <| oP (P_fieldAddr rfl ⟨_,_,_,Tryz.runUnderlying37,rfl,rfl,Tryz.sizeOf3,rfl⟩) rfl <| oV (V_load rfl foc1 rfl Tryz.isAgg3) rfl <| oM rfl rfl ?_
 obtain ⟨hg1,h⟩ := grd_de h
 refine oP (P_remT (a:=s_1.At) (b:=((o.T.length : Nat) : Int)) rfl rfl hg1) rfl <| oM rfl rfl ?_
 obtain ⟨hg2,h⟩ := grd_Ie h
 refine oP (P_add (a:=(s_1.At.tmod (((o.T.length : Nat) : Int)))) (b:=((o.T.length : Nat) : Int)) rfl rfl hg2) rfl <| oM rfl rfl ?_
 obtain ⟨hg3,h⟩ := grd_de h
 refine oP (P_remT (a:=((s_1.At.tmod (((o.T.length : Nat) : Int))) + ((o.T.length : Nat) : Int))) (b:=((o.T.length : Nat) : Int)) rfl rfl hg3) rfl ?_
 obtain ⟨w8,hw8,h⟩ := lt_e h
 rw [← hw8]
 refine oA rfl rfl <| nT <| sR <| oA rfl rfl <| oA rfl rfl <| nT <| CJ_seq <| sR <| oP (P_fieldAddr rfl ⟨_,_,_,Tryz.runUnderlying37,rfl,rfl,Tryz.sizeOf3,rfl⟩) rfl <| oV (V_load rfl foc1 rfl Tryz.isAgg3) rfl <| nT ?_
 obtain ⟨y11,hl9,hK10⟩ := bind_c h
 refine CJ_cutT (X:=Int × Bool × OwnS × ArrS) [7,8,27,28,29,30,31,32,33,34,35,36,37,38,39,40,41,42,43,44,45,46,47,48,49,50,51,52,53,54,55,56,57,58,59,60,61,62] (fun a16=>([(7,.int .i64 a16.1),(8,.bool a16.2.1)] : Slots)) (fun a16 R=>OwnP bs bo a16.2.2.1::Arr bs a16.2.2.2::R) (fun a16=>y11=a16) (Dels.cons del0 (Dels.cons del1 Dels.nil)) ?_ ?_
 ·
  have h := hl9
  refine CJ_block <| sR <| oP (P_eql (a:=s_1.Kind) (b:=(0 : Int)) rfl rfl) rfl <| oA rfl rfl <| nT <| CJ_condP rfl bT_dec (fun hg4 => ?_) (fun hg4 => ?_)
  ·
   replace h := ite_t hg4 h
   refine CJ_region <| oM rfl rfl <| oM rfl rfl <| oP (P_fieldAddr rfl ⟨_,_,_,Tryz.runUnderlying37,rfl,rfl,Tryz.sizeOf23,rfl⟩) rfl <| oV (V_load rfl foc1 rfl Tryz.isAgg23) rfl ?_
   obtain ⟨r17,hr18,h⟩ := bind_e h
   exact oO <| O_call (L_volumegroupmake_Owner_Write hr18) rfl Tryz.call49 (Dels.cons del0 (Dels.cons del1 Dels.nil)) rfl fun _ _=>oM rfl rfl <| oP (P_extract rfl rfl) rfl <| oP (P_extract rfl rfl) rfl <| oA rfl rfl <| oA rfl rfl <| RJ_nil <| QJ_block_normal <| cR (r17.1,r17.2.1,r17.2.2.1,r17.2.2.2) (Option.some.inj h).symm ⟨rfl,rfl,True.intro⟩ eR
  ·
   replace h := ite_f hg4 h
   refine sR <| oP (P_eql (a:=s_1.Kind) (b:=(1 : Int)) rfl rfl) rfl <| oA rfl rfl <| nT <| CJ_condP rfl bT_dec (fun hg5 => ?_) (fun hg5 => ?_)
   ·
    replace h := ite_t hg5 h
    refine CJ_region <| oM rfl rfl <| oM rfl rfl ?_
    obtain ⟨r19,hr20,h⟩ := bind_e h
    exact oO <| O_call (L_volumegroupmake_Owner_Read hr20) rfl Tryz.call50 (Dels.cons del0 (Dels.cons del1 Dels.nil)) rfl fun _ _=>oM rfl rfl <| oP (P_extract rfl rfl) rfl <| oP (P_extract rfl rfl) rfl <| oA rfl rfl <| oA rfl rfl <| RJ_nil <| QJ_block_normal <| cR (r19.1,r19.2.1,r19.2.2.1,r19.2.2.2) (Option.some.inj h).symm ⟨rfl,rfl,True.intro⟩ eR
   ·
    replace h := ite_f hg5 h
    refine sR <| oP (P_eql (a:=s_1.Kind) (b:=(2 : Int)) rfl rfl) rfl <| oA rfl rfl <| nT <| CJ_condP rfl bT_dec (fun hg6 => ?_) (fun hg6 => ?_)
    ·
     replace h := ite_t hg6 h
     refine CJ_region <| oM rfl rfl ?_
     obtain ⟨r21,hr22,h⟩ := bind_e h
     exact oO <| O_call (L_volumegroupmake_Owner_Flush hr22) rfl Tryz.call23 (Dels.cons del0 (Dels.cons del1 Dels.nil)) rfl fun _ _=>oM rfl rfl <| oP (P_extract rfl rfl) rfl <| oP (P_extract rfl rfl) rfl <| oA rfl rfl <| oA rfl rfl <| RJ_nil <| QJ_block_normal <| cR (r21.1,r21.2.1,r21.2.2.1,r21.2.2.2) (Option.some.inj h).symm ⟨rfl,rfl,True.intro⟩ eR
    ·
     replace h := ite_f hg6 h
     refine sR <| oP (P_eql (a:=s_1.Kind) (b:=(3 : Int)) rfl rfl) rfl <| oA rfl rfl <| nT <| CJ_condP rfl bT_dec (fun hg7 => ?_) (fun hg7 => ?_)
     ·
      replace h := ite_t hg7 h
      exact CJ_region <| oA rfl rfl <| RJ_nil <| QJ_block_normal <| cR ((5 : Int),true,o,s) (Option.some.inj h).symm ⟨rfl,rfl,True.intro⟩ (t0_ (t1_ eR))
     ·
      replace h := ite_f hg7 h
      refine sR <| oP (P_eql (a:=s_1.Kind) (b:=(4 : Int)) rfl rfl) rfl <| oA rfl rfl <| nT <| CJ_condP rfl bT_dec (fun hg8 => ?_) (fun hg8 => ?_)
      ·
       replace h := ite_t hg8 h
       refine CJ_entX (Ent.transX (t0_ eR) (OwnP_open (l:=o))) fun oc23=>lC del4 fun hlen25=>lC del5 fun hlen26=>CJ_region <| oM rfl rfl <| oP (P_nilCheck rfl) rfl <| oP (P_fieldAddr rfl ⟨_,_,_,Tryz.runUnderlying60,rfl,rfl,Tryz.sizeOf26,rfl⟩) rfl <| oV (V_load rfl foc0 rfl Tryz.isAgg26) rfl <| oM rfl rfl ?_
       obtain ⟨hg9,h⟩ := grd_Ie h
       refine oP (P_add (a:=(1 : Int)) (b:=w8) rfl rfl hg9) rfl ?_
       obtain ⟨hg10,h⟩ := grd_Ie h
       exact oO <| O_call (c_FuseD hg10.2) rfl Tryz.call31 (Dels.cons del7 Dels.nil) rfl fun _ _=>RJ_nil <| QJ_ent (Ent.trans (t1_ (t1_ (t1_ (t1_ (t1_ (t1_ eR)))))) (OwnP_mk (v0:=o.Open_1) (v1:=o.Open_2) (v2:=o.Open_3) (v3:=o.Open_4) (v4:=o.X) (v5:=o.T) (v6:=o.Stale) (v7:=o.Lost) (h0:=oc23.1) (h1:=oc23.2.1) (h2:=oc23.2.2.1) (h3:=oc23.2.2.2.1) (h4:=oc23.2.2.2.2))) <| QJ_block_normal <| cR ((0 : Int),true,o, { s with fuse := (((1 : Int) + w8)).toNat }) (Option.some.inj h).symm ⟨rfl,rfl,True.intro⟩ eR
      ·
       replace h := ite_f hg8 h
       exact CJ_skip <| QJ_block_normal <| cR ((0 : Int),true,o,s) (Option.some.inj h).symm ⟨rfl,rfl,True.intro⟩ (t0_ (t1_ eR))
 ·
  rintro a16 hy27
  replace h := bindK_at hK10 hy27
  show CJ _ _ _ _ _ (([(7,.int .i64 a16.1),(8,.bool a16.2.1)] : Slots) ++ forget _ _) (OwnP bs bo a16.2.2.1::Arr bs a16.2.2.2::_)
  refine CJ_seq <| sR <| oM rfl rfl <| oP (P_not rfl) rfl <| nT <| CJ_condP rfl (bT_not Iff.rfl) (fun hg11 => ?_) (fun hg11 => ?_)
  ·
   replace h := ite_t hg11 h
   refine sR <| oA rfl rfl <| nT <| CJ_ret <| QJ_then_ret ?_
   cases h
   exact fE (res1 Tryz.results18 rfl) () (t0_ (t0_ (eD eR)))
  ·
   replace h := ite_f hg11 h
   refine kT <| sR <| oM rfl rfl <| oP (P_neq (a:=a16.1) (b:=(5 : Int)) rfl rfl) rfl <| oM rfl rfl <| RJ_splitP 67 rfl bT_dec (fun hg12B hg12 => ?_) (fun hg12B hg12 => ?_)
   ·
    replace h := ite_t hg12 h
    refine RJ_gn (GY_no rfl rfl rfl hg12B) rfl rfl <| RJ_gn (GY_no rfl rfl rfl hg12B) rfl rfl <| RJ_gn (GY_no rfl rfl rfl hg12B) rfl rfl <| RJ_gn (GY_no rfl rfl rfl hg12B) rfl rfl <| RJ_gn (GY_no rfl rfl rfl hg12B) rfl rfl <| RJ_gn (GY_undef rfl rfl rfl) rfl rfl <| RJ_gn (GY_undef rfl rfl rfl) rfl rfl <| RJ_gn (GY_no rfl rfl rfl hg12B) rfl rfl <| oP (P_pickT rfl hg12B rfl) rfl <| oA rfl rfl <| nT <| CJ_ret ?_
    cases h
    exact fE (res1 Tryz.results18 rfl) () (t0_ (t0_ (eD eR)))
   ·
    replace h := ite_f hg12 h
    refine gP (GY_yes rfl rfl rfl hg12B) (P_move rfl) rfl <| gP (GY_yes rfl rfl rfl hg12B) (P_fieldAddr rfl ⟨_,_,_,Tryz.runUnderlying37,rfl,rfl,Tryz.sizeOf23,rfl⟩) rfl <| gV (GY_yes rfl rfl rfl hg12B) (V_load rfl foc2 rfl Tryz.isAgg23) rfl ?_
    obtain ⟨r28,hr29,h⟩ := bind_e h
    refine RJ_gy (GY_yes rfl rfl rfl hg12B) <| O_call (L_volumegroupmake_Owner_Power hr29) rfl Tryz.call33 (Dels.cons del0 (Dels.cons del0 Dels.nil)) rfl fun _ _=>gP (GY_yes rfl rfl rfl hg12B) (P_move rfl) rfl <| RJ_splitP 72 rfl Iff.rfl (fun hg13B hg13 => ?_) (fun hg13B hg13 => ?_)
    ·
     replace h := ite_t hg13 h
     refine gP (GY_yes rfl rfl rfl hg13B) (P_move rfl) rfl ?_
     obtain ⟨r30,hr31,h⟩ := bind_e h
     refine RJ_gy (GY_yes rfl rfl rfl hg13B) <| O_call (L_volumegroupmake_Owner_Settled hr31) rfl Tryz.call51 (Dels.cons del0 (Dels.cons del0 Dels.nil)) rfl fun _ _=>gP (GY_yes rfl rfl rfl hg12B) (P_pickT rfl hg13B rfl) rfl <| oP (P_pickF rfl hg12B rfl) rfl <| oA rfl rfl <| nT <| CJ_ret ?_
     cases h
     exact fE (res1 Tryz.results18 rfl) () (t0_ (t0_ (eD eR)))
    ·
     replace h := ite_f hg13 h
     refine RJ_gn (GY_no rfl rfl rfl hg13B) rfl rfl <| RJ_gn (GY_no rfl rfl rfl hg13B) rfl rfl <| gP (GY_yes rfl rfl rfl hg12B) (P_pickF rfl hg13B rfl) rfl <| oP (P_pickF rfl hg12B rfl) rfl <| oA rfl rfl <| nT <| CJ_ret ?_
     cases h
     exact fE (res1 Tryz.results18 rfl) () (t0_ (t0_ (eD eR)))
end Go.Proofs
set_option linter.unusedSimpArgs false
set_option linter.unusedVariables false
set_option maxRecDepth 20000
set_option maxHeartbeats 4000000
namespace Go.Proofs
open Go.VG
theorem bld_28_1_2_3_4 (v0 : Int) (v1 : Int) (v2 : Int) (v3 : Bool) : ∀ w,(Instr.build 28 (#[(1,.int .i64 v0),(2,.int .i64 v1),(3,.int .i64 v2),(4,.bool v3)] : Array (Nat × Value))).run Tryz.prog w = .ok (.agg #[.pointer none,.int .i64 v0,.int .i64 v1,.int .i64 v2,.bool v3]) w := fun w=>by kernel_rfl
theorem bs_90_1_0 (v0 : (Option Addr)) (v1 : Nat) (v2 : Nat) : BuildsSlice Tryz.prog 90 1 [(0,.slice v0 v1 v2)] 29 [.slice v0 v1 v2] := fun w=>by kernel_rfl
def volumegroupref21_Regions (size : Int) (region : Int) : Option (Int) :=
  if ((size < (1 : Int))∨(region < (1 : Int))) then
    some (0 : Int)
  else
    grd (inI64 ((size - (1 : Int)))) <|
    grd (inI64 (((IntKind.i64.wrap (((size - (1 : Int))).tdiv region)) + (1 : Int)))) <|
    some (((IntKind.i64.wrap (((size - (1 : Int))).tdiv region)) + (1 : Int)))
theorem L_volumegroupref21_Regions {W : World} {size : Int} {region : Int} {r : Int} (h : volumegroupref21_Regions size region=some r) :
    CSpec Tryz.prog W 17 [.int .i64 size,.int .i64 region] [] (fun x : Unit => .int .i64 r) (fun _=>True) (fun x F=>F) := by
 refine CSpec.of_body Tryz.func17 rfl Tryz.ntmps17 rfl fun F => ?_
 show CJ _ _ _ _ _ _ (F)
 unfold volumegroupref21_Regions at h
 refine sR <| oA rfl rfl <| nT <| CJ_seq <| sR <| oM rfl rfl <| oP (P_lss (a:=size) (b:=(1 : Int)) rfl rfl) rfl <| oM rfl rfl <| RJ_mbF rfl rfl rfl (fun hG1=>have hP2 : ¬ (size < (1 : Int)) := nP (bT_dec) hG1; VJ_P (P_move rfl)) <| RJ_mbF rfl rfl rfl (fun hG3=>have hP4 : ¬ (size < (1 : Int)) := nP (bT_dec) hG3; VJ_P (P_lss (a:=region) (b:=(1 : Int)) (mbx hG3 rfl) rfl)) <| oP (P_pickOr rfl rfl (fun hh=>mbx (not_f hh) rfl)) rfl <| nT <| CJ_condP rfl (bT_or bT_dec bT_dec) (fun hg1 => ?_) (fun hg1 => ?_)
 ·
  replace h := ite_t hg1 h
  refine sR <| oA rfl rfl <| nT <| CJ_ret <| QJ_then_ret ?_
  cases h
  exact fE (res1 Tryz.results17 rfl) () eR
 ·
  replace h := ite_f hg1 h
  refine kT <| sR <| oM rfl rfl ?_
  obtain ⟨hg2,h⟩ := grd_Ie h
  refine oP (P_sub (a:=size) (b:=(1 : Int)) rfl rfl hg2) rfl <| oM rfl rfl <| oP (P_quoT (a:=(size - (1 : Int))) (b:=region) rfl rfl (by omega)) rfl ?_
  obtain ⟨hg3,h⟩ := grd_Ie h
  refine oP (P_add (a:=(IntKind.i64.wrap (((size - (1 : Int))).tdiv region))) (b:=(1 : Int)) rfl rfl hg3) rfl <| oA rfl rfl <| nT <| CJ_ret ?_
  cases h
  exact fE (res1 Tryz.results17 rfl) () eR
def volumegrouplaw21_begun_l1_b (n_0 : UInt8) (r3 : (List UInt64)) (rec : (List (List UInt64))→Nat→Option ((List (List UInt64)))) (x16 : List (List UInt64)) (x19 : Nat) : Option ((List (List UInt64))) :=
  if (((x19 : Nat) : Int) < (((2 + ((n_0 % (2 : UInt8))).toNat) : Nat) : Int)) then
    grd (inLen (x16.length + 1)) <|
    grd (inN64 (x19 + 1)) <|
    rec (x16 ++ [r3]) (x19 + 1)
  else
    some x16
def volumegrouplaw21_begun_l1 (n_0 : UInt8) (r3 : (List UInt64)) : Nat→(List (List UInt64))→Nat→Option ((List (List UInt64)))
  | 0,_,_=>none
  | n + 1,x16,x19=>volumegrouplaw21_begun_l1_b n_0 r3 (volumegrouplaw21_begun_l1 n_0 r3 n) x16 x19
def volumegrouplaw21_begun (n_0 : UInt8) : Option ((Option ArrS) × Nat × Nat × Nat × Bool × (List UInt64)) :=
  grd (inN64 ((2 + ((n_0 % (2 : UInt8))).toNat))) <|
  grd (inN64 ((1 + (((n_0 / (2 : UInt8)) % (12 : UInt8))).toNat))) <|
  grd (inN64 ((1 + (((n_0 / (24 : UInt8)) % (4 : UInt8))).toNat))) <|
  Option.bind (volumegroupmake_Words ((((1 + (((n_0 / (2 : UInt8)) % (12 : UInt8))).toNat) : Nat) : Int)) (5 : UInt64)) fun r3 =>
  Option.bind (volumegrouplaw21_begun_l1 n_0 r3 FUEL (([] : List (List UInt64))) 0) fun a15 =>
  grd (inLen (a15.length + 1)) <|
  Option.bind (volumegroupmake_Loaded ((a15 ++ [(List.replicate 3 (0 : UInt64))]))) fun r38 =>
  Option.elim r38 (
    some ((none,(2 + ((n_0 % (2 : UInt8))).toNat),(1 + (((n_0 / (2 : UInt8)) % (12 : UInt8))).toNat),(1 + (((n_0 / (24 : UInt8)) % (4 : UInt8))).toNat),(decide (((128 : UInt8).toNat : Int)≤(n_0.toNat : Int))),[]))) fun o43 =>
  Option.bind (volumegroupmake_Spans o43) fun r46 =>
  grd (inN64 (((2 + ((n_0 % (2 : UInt8))).toNat) + 1))) <|
  if (((r46.length : Nat) : Int)≠((((2 + ((n_0 % (2 : UInt8))).toNat) + 1) : Nat) : Int)) then
    some ((none,(2 + ((n_0 % (2 : UInt8))).toNat),(1 + (((n_0 / (2 : UInt8)) % (12 : UInt8))).toNat),(1 + (((n_0 / (24 : UInt8)) % (4 : UInt8))).toNat),(decide (((128 : UInt8).toNat : Int)≤(n_0.toNat : Int))),r3))
  else
    Option.bind (volumegroupref21_Regions ((((1 + (((n_0 / (2 : UInt8)) % (12 : UInt8))).toNat) : Nat) : Int)) ((((1 + (((n_0 / (24 : UInt8)) % (4 : UInt8))).toNat) : Nat) : Int))) fun r54 =>
    Option.bind (regionlog_Format ((r46.getD ((2 + ((n_0 % (2 : UInt8))).toNat)) dv0)) r54 o43) fun r56 =>
    if (r56.1≠(0 : Int)) then
      some ((none,(2 + ((n_0 % (2 : UInt8))).toNat),(1 + (((n_0 / (2 : UInt8)) % (12 : UInt8))).toNat),(1 + (((n_0 / (24 : UInt8)) % (4 : UInt8))).toNat),(decide (((128 : UInt8).toNat : Int)≤(n_0.toNat : Int))),r3))
    else
      some (((some r56.2),(2 + ((n_0 % (2 : UInt8))).toNat),(1 + (((n_0 / (2 : UInt8)) % (12 : UInt8))).toNat),(1 + (((n_0 / (24 : UInt8)) % (4 : UInt8))).toNat),(decide (((128 : UInt8).toNat : Int)≤(n_0.toNat : Int))),r3))
theorem L_volumegrouplaw21_begun {W : World} {n_0 : UInt8} {r : (Option ArrS) × Nat × Nat × Nat × Bool × (List UInt64)} (h : volumegrouplaw21_begun n_0=some r) :
    CSpec Tryz.prog W 14 [.int .u8 (n_0.toNat : Int)] [] (fun x : Nat × Value => .tuple #[.agg #[oval r.1 x.1,.int .i64 (((r.2.1 : Nat) : Int)),.int .i64 (((r.2.2.1 : Nat) : Int)),.int .i64 (((r.2.2.2.1 : Nat) : Int)),.bool r.2.2.2.2.1],x.2]) (fun _=>True) (fun x F=>optP (Arr x.1) r.1::RdP tyU x.2 r.2.2.2.2.2::F) := by
 refine CSpec.of_body Tryz.func14 rfl Tryz.ntmps14 rfl fun F => ?_
 show CJ _ _ _ _ _ _ (F)
 unfold volumegrouplaw21_begun at h
 refine sR <| oO <| O_alloc Tryz.zeroValue28 rfl rfl fun b1=>oA rfl rfl <| nT <| sR <| oM rfl rfl <| oP (P_rem_u8 (a:=n_0) (b:=(2 : UInt8)) rfl rfl (by decide)) rfl <| oP (P_convSame rfl Tryz.runUnderlying5 Tryz.runUnderlying3 (wrap64_u _ (by have h9 := ((n_0 % (2 : UInt8))).toNat_lt; exact (by omega : ((n_0 % (2 : UInt8))).toNat < 9223372036854775808)))) rfl ?_
 obtain ⟨hg1,h⟩ := grd_Ne h
 refine oP (PJ_eq (P_add (a:=(2 : Int)) (b:=((((n_0 % (2 : UInt8))).toNat : Nat) : Int)) rfl rfl (nat_in hg1)) rfl) rfl <| oM rfl rfl <| oP (P_quo_u8 (a:=n_0) (b:=(2 : UInt8)) rfl rfl (by decide)) rfl <| oP (P_rem_u8 (a:=(n_0 / (2 : UInt8))) (b:=(12 : UInt8)) rfl rfl (by decide)) rfl <| oP (P_convSame rfl Tryz.runUnderlying5 Tryz.runUnderlying3 (wrap64_u _ (by have h9 := (((n_0 / (2 : UInt8)) % (12 : UInt8))).toNat_lt; exact (by omega : (((n_0 / (2 : UInt8)) % (12 : UInt8))).toNat < 9223372036854775808)))) rfl ?_
 obtain ⟨hg2,h⟩ := grd_Ne h
 refine oP (PJ_eq (P_add (a:=(1 : Int)) (b:=(((((n_0 / (2 : UInt8)) % (12 : UInt8))).toNat : Nat) : Int)) rfl rfl (nat_in hg2)) rfl) rfl <| oM rfl rfl <| oP (P_quo_u8 (a:=n_0) (b:=(24 : UInt8)) rfl rfl (by decide)) rfl <| oP (P_rem_u8 (a:=(n_0 / (24 : UInt8))) (b:=(4 : UInt8)) rfl rfl (by decide)) rfl <| oP (P_convSame rfl Tryz.runUnderlying5 Tryz.runUnderlying3 (wrap64_u _ (by have h9 := (((n_0 / (24 : UInt8)) % (4 : UInt8))).toNat_lt; exact (by omega : (((n_0 / (24 : UInt8)) % (4 : UInt8))).toNat < 9223372036854775808)))) rfl ?_
 obtain ⟨hg3,h⟩ := grd_Ne h
 refine oP (PJ_eq (P_add (a:=(1 : Int)) (b:=(((((n_0 / (24 : UInt8)) % (4 : UInt8))).toNat : Nat) : Int)) rfl rfl (nat_in hg3)) rfl) rfl <| oM rfl rfl <| oP (P_geq (a:=(n_0.toNat : Int)) (b:=((128 : UInt8).toNat : Int)) rfl rfl) rfl <| oP (P_build rfl (bld_28_1_2_3_4 _ _ _ _)) rfl <| oO <| O_alloc Tryz.zeroValue28 rfl rfl fun b2=>oO <| O_storeN rfl rfl foc0 Tryz.sizeOf28 rfl rfl rfl <| nT <| sR <| oP (P_fieldAddr rfl ⟨_,_,_,Tryz.runUnderlying28,rfl,rfl,Tryz.sizeOf3,rfl⟩) rfl <| oV (V_load rfl foc0 rfl Tryz.isAgg3) rfl ?_
 obtain ⟨r3,hr4,h⟩ := bind_e h
 refine oO <| O_call (L_volumegroupmake_Words hr4) rfl Tryz.call26 Dels.nil rfl fun X5 _=>oA rfl rfl <| nT <| sR <| oA rfl rfl <| nT <| CJ_seq <| sR <| oA rfl rfl <| nT <| CJ_shareS del0 <| CJ_ent (fun h hh=>sl_nil (t:=tyRow) h (rs_nil (RP:=RowP) h hh)) ?_
 obtain ⟨y11,hl9,hK10⟩ := bind_c h
 refine CJ_cutT (X:=(List (List UInt64)) × Sl3 × (List Sl3)) [6,7,29,30,31,32,33,34,35,36,37,38] (fun ⟨a15,hd13,hs14⟩=>([(6,hd13.v)] : Slots)) (fun ⟨a15,hd13,hs14⟩ R=>sl tyRow hd13.v hs14::Rs RowP a15 hs14::R) (fun ⟨a15,hd13,hs14⟩=>y11=a15) (Dels.cons del0 (Dels.cons del0 Dels.nil)) ?_ ?_
 ·
  refine CJ_block <| CJ_loopR (X:=Nat × (List (List UInt64)) × Nat × Sl3 × (List Sl3)) [6,7,29,30,31,32,33,34,35,36,37,38] (fun ⟨n,x16,x19,hd17,hs18⟩=>([(6,hd17.v),(7,.int .i64 (((x19 : Nat) : Int)))] : Slots)) (fun ⟨n,x16,x19,hd17,hs18⟩ R=>sl tyRow hd17.v hs18::Rs RowP x16 hs18::R) (fun ⟨n,x16,x19,hd17,hs18⟩=>volumegrouplaw21_begun_l1 n_0 r3 n x16 x19=some y11) (fun ⟨n,x16,x19,hd17,hs18⟩=>n) ⟨FUEL,([] : List (List UInt64)),0,⟨none,0,0⟩,([] : List Sl3)⟩ ?_ ?_ eR ?_
  · exact hl9
  · exact ⟨rfl,rfl,True.intro⟩
  ·
   rintro ⟨n,x16,x19,hd17,hs18⟩ h
   cases n with
   | zero=>exact none_e h
   | succ n => ?_
   replace h : volumegrouplaw21_begun_l1_b n_0 r3 (volumegrouplaw21_begun_l1 n_0 r3 n) x16 x19=some y11 := h
   unfold volumegrouplaw21_begun_l1_b at h
   show CJ _ _ _ _ _ (([(6,hd17.v),(7,.int .i64 (((x19 : Nat) : Int)))] : Slots) ++ forget _ _) (sl tyRow hd17.v hs18::Rs RowP x16 hs18::_)
   refine lC del0 fun hlen20=>CJ_pure (fun h hh=>Rs_len (stars_perm (del1 (A:=Rs RowP x16 hs18)).out h hh)) fun hdl21=>CJ_seq <| sR <| oM rfl rfl <| oP (P_fieldAddr rfl ⟨_,_,_,Tryz.runUnderlying28,rfl,rfl,Tryz.sizeOf3,rfl⟩) rfl <| oV (V_load rfl foc3 rfl Tryz.isAgg3) rfl <| oP (P_lss (a:=((x19 : Nat) : Int)) (b:=(((2 + ((n_0 % (2 : UInt8))).toNat) : Nat) : Int)) rfl rfl) rfl <| nT <| CJ_condP rfl bT_dec (fun hg4 => ?_) (fun hg4 => ?_)
   ·
    replace h := ite_t hg4 h
    refine kT <| CJ_seq <| CJ_block <| CJ_region <| oM rfl rfl <| oM rfl rfl <| oO <| O_buildSlice rfl (bs_90_1_0 _ _ _) rfl fun b22=>RJ_ent (Ent.trans (t3_ eR) (fun h hh=>stars_dup Dup.slR hh)) <| RJ_ent (Ent.take1 del0 (RowP_of (h:=(X5 : Sl3)) Dup.slR (Reads.slR _ _ _)) eR) ?_
    obtain ⟨hg5,h⟩ := grd_Le h
    refine oO <| O_append (t:=tyRow) (bytes:=24) rfl rfl del3 foc2 (Reads.lit (t:=tyRow) (ys:=[(X5 : Sl3)]) rfl rfl (by decide) (by decide) rfl) Tryz.underlying90 ok_tyRow (apl (m:=1) (b:=24) (by have hz : _≤1000000000 := hg5; have := hdl21; omega) (by decide)).1 (apl (m:=1) (b:=24) (by have hz : _≤1000000000 := hg5; have := hdl21; omega) (by decide)).2 rfl fun p25 c26=>RJ_ent (Ent.trans (t4_ (t1_ eR)) (Rs_push (x:=r3) (g:=(X5 : Sl3)) Dup_RowP)) <| RJ_pure (fun h hh=>Rs_len (stars_perm (del0 (A:=Rs RowP (x16 ++ [r3]) ((hs18 ++ [(X5 : Sl3)])))).out h hh)) fun hdl27=>oA rfl rfl <| RJ_nil <| QJ_block_normal <| QJ_ent (t0_ (t1_ (t1_ (t2_ (t2_ (eD (eD eR))))))) <| QJ_then <| CJ_region <| oM rfl rfl ?_
    obtain ⟨hg6,h⟩ := grd_Ne h
    exact oP (PJ_eq (P_add (a:=((x19 : Nat) : Int)) (b:=(1 : Int)) rfl rfl (nat_in hg6)) rfl) rfl <| oA rfl rfl <| RJ_nil <| nR ⟨n,(x16 ++ [r3]),(x19 + 1),⟨p25,(hs18 ++ [(X5 : Sl3)]).length,c26⟩,(hs18 ++ [(X5 : Sl3)])⟩ h ⟨rfl,rfl,True.intro⟩ (t1_ eR)
   ·
    replace h := ite_f hg4 h
    exact CJ_exit <| QJ_then_exit <| QJ_round_exit <| QJ_block_here <| cR ⟨x16,hd17,hs18⟩ (Option.some.inj h).symm ⟨rfl,True.intro⟩ eR
 ·
  rintro ⟨a15,hd13,hs14⟩ hy28
  replace h := bindK_at hK10 hy28
  show CJ _ _ _ _ _ (([(6,hd13.v)] : Slots) ++ forget _ _) (sl tyRow hd13.v hs14::Rs RowP a15 hs14::_)
  refine lC del0 fun hlen29=>CJ_pure (fun h hh=>Rs_len (stars_perm (del1 (A:=Rs RowP a15 hs14)).out h hh)) fun hdl30=>sR <| oM rfl rfl <| oO <| O_make (t:=tyU) (m:=3) (x0:=0) (z:=_) (bytes:=_) rfl rfl rfl rfl Tryz.underlying29 ⟨Tryz.t23,by kernel_rfl,rfl,rfl,rfl⟩ rfl (by omega) (by decide) rfl fun b31=>oO <| O_buildSlice rfl (bs_90_1_0 _ _ _) rfl fun b32=>RJ_shareS del1 <| RJ_ent (Ent.trans (t0_ eR) (fun h hh=>stars_dup Dup.slR hh)) <| RJ_ent (Ent.take1 del0 (RowP_of (h:=(⟨some ⟨b31,0,none⟩,3,3⟩ : Sl3)) Dup.slR (Reads.slR _ _ _)) eR) ?_
  obtain ⟨hg7,h⟩ := grd_Le h
  refine oO <| O_append (t:=tyRow) (bytes:=24) rfl rfl del3 foc2 (Reads.lit (t:=tyRow) (ys:=[(⟨some ⟨b31,0,none⟩,3,3⟩ : Sl3)]) rfl rfl (by decide) (by decide) rfl) Tryz.underlying90 ok_tyRow (apl (m:=1) (b:=24) (by have hz : _≤1000000000 := hg7; have := hdl30; omega) (by decide)).1 (apl (m:=1) (b:=24) (by have hz : _≤1000000000 := hg7; have := hdl30; omega) (by decide)).2 rfl fun p35 c36=>RJ_ent (Ent.trans (t4_ (t1_ eR)) (Rs_push (x:=(List.replicate 3 (0 : UInt64))) (g:=(⟨some ⟨b31,0,none⟩,3,3⟩ : Sl3)) Dup_RowP)) <| RJ_pure (fun h hh=>Rs_len (stars_perm (del0 (A:=Rs RowP ((a15 ++ [(List.replicate 3 (0 : UInt64))])) ((hs14 ++ [(⟨some ⟨b31,0,none⟩,3,3⟩ : Sl3)])))).out h hh)) fun hdl37=>oA rfl rfl <| RJ_nil <| QJ_ent (t0_ (t1_ (t3_ (t3_ (t3_ (eD (eD (eD eR)))))))) <| QJ_then <| sR <| oM rfl rfl ?_
  obtain ⟨r38,hr39,h⟩ := bind_e h
  refine oO <| O_call (L_volumegroupmake_Loaded (Reads.sl _ _ _) (RowsR.rs hdl37) hr39) rfl Tryz.call43 (Dels.cons del1 (Dels.cons del0 Dels.nil)) rfl fun X40 _=>oP (P_fieldAddr rfl ⟨_,_,_,Tryz.runUnderlying28,rfl,rfl,Tryz.sizeOf26,rfl⟩) rfl <| oO <| O_store rfl rfl foc4 rfl oneCell_oval Tryz.sizeOf26 <| nT <| CJ_seq <| sR <| oP (P_fieldAddr rfl ⟨_,_,_,Tryz.runUnderlying28,rfl,rfl,Tryz.sizeOf26,rfl⟩) rfl <| oV (V_load rfl foc4 rfl Tryz.isAgg26) rfl ?_
  rcases opt_e h with ⟨ht42,h⟩ | ⟨o43,ht42,h⟩
  ·
   rw [ht42]
   refine RJ_ent (t0_ (t0_ (t1_ (t1_ (t1_ (eD eR)))))) <| oP (P_eqlNN rfl rfl Tryz.underlying26) rfl <| nT <| CJ_condT rfl rfl <| sR <| oV (V_loadN rfl foc3 Tryz.isAgg28 Tryz.sizeOf28 rfl rfl) rfl <| oO <| O_storeN rfl rfl foc4 Tryz.sizeOf28 rfl rfl rfl <| oA rfl rfl <| nT <| CJ_ret <| QJ_then_ret <| QJ_ent (fun h hh=>sl_nil (t:=tyU) h hh) <| QJ_ent (Ent.trans (t0_ eR) (RdP_mk (t:=tyU) (v := .slice none 0 0) (xs:=[]) (Reads.sl _ _ _))) ?_
   cases h
   exact fE (resA2 Tryz.results14 (RV_cellN rfl foc5 Tryz.isAgg28 Tryz.sizeOf28 rfl rfl) (RV_tmp rfl)) ⟨0,.slice none 0 0⟩ (Ent.trans (fun h hh=>optP_none h hh) <| t0_ (t0_ (eD (eD (eD (eD (eD eR)))))))
  ·
   rw [ht42]
   refine RJ_ent (Ent.takeC (A' := Arr X40 o43) del2 rfl eR) <| oP (P_eqlPN rfl rfl Tryz.underlying26) rfl <| nT <| CJ_condF rfl rfl <| kT <| sR <| oP (P_fieldAddr rfl ⟨_,_,_,Tryz.runUnderlying28,rfl,rfl,Tryz.sizeOf26,rfl⟩) rfl <| oV (V_load rfl foc4 rfl Tryz.isAgg26) rfl ?_
   obtain ⟨r46,hr47,h⟩ := bind_e h
   refine oO <| O_call (L_volumegroupmake_Spans hr47) rfl Tryz.call44 (Dels.cons del0 Dels.nil) rfl fun X48 _=>RJ_pure (fun h hh=>Rs_len (stars_perm (del2 (A:=Rs (DevP X40) r46 X48.2)).out h hh)) fun hdl51=>oA rfl rfl <| RJ_nil <| QJ_ent (t0_ (t0_ (t0_ (t2_ (t2_ (t2_ (eD (eD eR)))))))) <| QJ_then <| CJ_seq <| CJ_seq <| AJ_startH 131072 (by kernel_rfl) rfl <| aN 0 1 rfl rfl (P_move rfl) rfl <| aV 1 3 rfl rfl (GY_none rfl) eR (VJ_eq (V_len rfl foc1 (Reads.sl _ _ _) Tryz.runUnderlying92) (congrArg (fun z : Nat=>Value.int .i64 (z : Int)) (hdl51).symm)) rfl <| aN 2 7 rfl rfl (P_fieldAddr rfl ⟨_,_,_,Tryz.runUnderlying28,rfl,rfl,Tryz.sizeOf3,rfl⟩) rfl <| aV 3 15 rfl rfl (GY_none rfl) eR (V_load rfl foc4 rfl Tryz.isAgg3) rfl ?_
   obtain ⟨hg8,h⟩ := grd_Ne h
   refine aN 4 31 rfl rfl (PJ_eq (P_add (a:=(((2 + ((n_0 % (2 : UInt8))).toNat) : Nat) : Int)) (b:=(1 : Int)) rfl rfl (nat_in hg8)) rfl) rfl <| aN 5 63 rfl rfl (P_neq (a:=((r46.length : Nat) : Int)) (b:=((((2 + ((n_0 % (2 : UInt8))).toNat) + 1) : Nat) : Int)) rfl rfl) rfl <| aN 6 127 rfl rfl (P_move rfl) rfl <| AJ_splitP 59 rfl bT_dec (fun hg9B hg9 => ?_) (fun hg9B hg9 => ?_)
   ·
    replace h := ite_t hg9 h
    refine aS 7 255 rfl rfl (GY_no rfl rfl rfl hg9B) rfl <| aS 8 511 rfl rfl (GY_no rfl rfl rfl hg9B) rfl <| aS 9 1023 rfl rfl (GY_no rfl rfl rfl hg9B) rfl <| aS 10 2047 rfl rfl (GY_no rfl rfl rfl hg9B) rfl <| aS 11 4095 rfl rfl (GY_no rfl rfl rfl hg9B) rfl <| aS 12 8191 rfl rfl (GY_no rfl rfl rfl hg9B) rfl <| aS 13 16383 rfl rfl (GY_no rfl rfl rfl hg9B) rfl <| aS 14 32767 rfl rfl (GY_no rfl rfl rfl hg9B) rfl <| aS 15 65535 rfl rfl (GY_no rfl rfl rfl hg9B) rfl <| aS 16 131071 rfl rfl (GY_no rfl rfl rfl hg9B) rfl <| aS 17 262143 rfl rfl (GY_no rfl rfl rfl hg9B) rfl <| aS 18 524287 rfl rfl (GY_no rfl rfl rfl hg9B) rfl <| aN 19 1048575 rfl rfl (P_pickT rfl hg9B rfl) rfl <| aD <| CJ_condT rfl rfl <| CJ_region <| oP (P_fieldAddr rfl ⟨_,_,_,Tryz.runUnderlying28,rfl,rfl,Tryz.sizeOf26,rfl⟩) rfl <| oO <| O_store rfl rfl foc4 rfl rfl Tryz.sizeOf26 <| nT <| sR <| oV (V_loadN rfl foc4 Tryz.isAgg28 Tryz.sizeOf28 rfl rfl) rfl <| oM rfl rfl <| oO <| O_storeN rfl rfl foc5 Tryz.sizeOf28 rfl rfl rfl <| oA rfl rfl <| nT <| CJ_ret <| QJ_ent (Ent.trans (t3_ eR) (RdP_mk (t:=tyU) (v:=X5.v) (xs:=r3) (Reads.slR _ _ _))) ?_
    cases h
    exact fE (resA2 Tryz.results14 (RV_cellN rfl foc5 Tryz.isAgg28 Tryz.sizeOf28 rfl rfl) (RV_tmp rfl)) ⟨0,X5.v⟩ (Ent.trans (fun h hh=>optP_none h hh) <| t0_ (t0_ (eD (eD (eD (eD (eD eR)))))))
   ·
    replace h := ite_f hg9 h
    refine aP 7 255 rfl rfl (GY_yes rfl rfl rfl hg9B) (P_move rfl) rfl <| aP 8 511 rfl rfl (GY_yes rfl rfl rfl hg9B) (P_fieldAddr rfl ⟨_,_,_,Tryz.runUnderlying28,rfl,rfl,Tryz.sizeOf3,rfl⟩) rfl <| aV 9 1023 rfl rfl (GY_yes rfl rfl rfl hg9B) eR (V_load rfl foc4 rfl Tryz.isAgg3) rfl <| aV 10 2047 rfl rfl (GY_yes rfl rfl rfl hg9B) eR (V_index (i:=(2 + ((n_0 % (2 : UInt8))).toNat)) rfl rfl rfl (by have hz : (2 + ((n_0 % (2 : UInt8))).toNat) < r46.length := (by omega); have hy := hdl51; omega) foc1 (Reads.sl _ _ _) Tryz.runUnderlying92 Tryz.sizeOf96) rfl <| AJ_ent (Ent.trans (t2_ eR) (Rs_at (fun _ _=>Dup_DevP) (dx:=dv0) (dh:=tyDev.dflt) (i:=(2 + ((n_0 % (2 : UInt8))).toNat)) (by omega))) <| aV 11 4095 rfl rfl (GY_yes rfl rfl rfl hg9B) (t2_ (t2_ (t1_ (t1_ (t1_ (t1_ (eD eR))))))) (V_loadE rfl rfl (by have hz : (2 + ((n_0 % (2 : UInt8))).toNat) < r46.length := (by omega); have hy := hdl51; omega) foc1 (Reads.sl _ _ _) rfl rfl Tryz.isAgg96) rfl <| aP 12 8191 rfl rfl (GY_yes rfl rfl rfl hg9B) (P_fieldAddr rfl ⟨_,_,_,Tryz.runUnderlying28,rfl,rfl,Tryz.sizeOf3,rfl⟩) rfl <| aV 13 16383 rfl rfl (GY_yes rfl rfl rfl hg9B) (t2_ (t2_ (t1_ (t1_ (t1_ (t1_ (eD eR))))))) (V_load rfl foc4 rfl Tryz.isAgg3) rfl ?_
    refine aP 14 32767 rfl rfl (GY_yes rfl rfl rfl hg9B) (P_fieldAddr rfl ⟨_,_,_,Tryz.runUnderlying28,rfl,rfl,Tryz.sizeOf3,rfl⟩) rfl <| aV 15 65535 rfl rfl (GY_yes rfl rfl rfl hg9B) (t2_ (t2_ (t1_ (t1_ (t1_ (t1_ (eD eR))))))) (V_load rfl foc4 rfl Tryz.isAgg3) rfl ?_
    obtain ⟨r54,hr55,h⟩ := bind_e h
    refine AJ_op 16 131071 rfl (by kernel_rfl) rfl (GY_yes rfl rfl rfl hg9B) <| O_call (L_volumegroupref21_Regions hr55) rfl Tryz.call17 Dels.nil rfl fun _ _=>⟨fun _=>(t2_ (t2_ (t1_ (t1_ (t1_ (t1_ (eD eR))))))),?_⟩
    obtain ⟨r56,hr57,h⟩ := bind_e h
    refine AJ_op 17 262143 rfl (by kernel_rfl) rfl (GY_yes rfl rfl rfl hg9B) <| O_call (L_regionlog_Format hr57) rfl Tryz.call45 (Dels.cons del0 (Dels.cons del1 Dels.nil)) rfl fun _ _=>⟨fun h=>absurd h (by decide),?_⟩
    refine aP 18 524287 rfl rfl (GY_yes rfl rfl rfl hg9B) (P_neq (a:=r56.1) (b:=(0 : Int)) rfl rfl) rfl <| aN 19 1048575 rfl rfl (P_pickF rfl hg9B rfl) rfl <| AJ_done (by kernel_rfl) <| QJ_ent (t1_ (t3_ (t3_ (t3_ (eD (eD (eD eR))))))) <| QJ_then <| CJ_condP rfl bT_dec (fun hg10 => ?_) (fun hg10 => ?_)
    ·
     replace h := ite_t hg10 h
     refine CJ_region <| oP (P_fieldAddr rfl ⟨_,_,_,Tryz.runUnderlying28,rfl,rfl,Tryz.sizeOf26,rfl⟩) rfl <| oO <| O_store rfl rfl foc2 rfl rfl Tryz.sizeOf26 <| nT <| sR <| oV (V_loadN rfl foc2 Tryz.isAgg28 Tryz.sizeOf28 rfl rfl) rfl <| oM rfl rfl <| oO <| O_storeN rfl rfl foc3 Tryz.sizeOf28 rfl rfl rfl <| oA rfl rfl <| nT <| CJ_ret <| QJ_ent (Ent.trans (t1_ eR) (RdP_mk (t:=tyU) (v:=X5.v) (xs:=r3) (Reads.slR _ _ _))) ?_
     cases h
     exact fE (resA2 Tryz.results14 (RV_cellN rfl foc3 Tryz.isAgg28 Tryz.sizeOf28 rfl rfl) (RV_tmp rfl)) ⟨0,X5.v⟩ (Ent.trans (fun h hh=>optP_none h hh) <| t0_ (t0_ (eD (eD (eD eR)))))
    ·
     replace h := ite_f hg10 h
     refine kT <| sR <| oV (V_loadN rfl foc2 Tryz.isAgg28 Tryz.sizeOf28 rfl rfl) rfl <| oM rfl rfl <| oO <| O_storeN rfl rfl foc3 Tryz.sizeOf28 rfl rfl rfl <| oA rfl rfl <| nT <| CJ_ret <| QJ_ent (Ent.trans (t1_ eR) (RdP_mk (t:=tyU) (v:=X5.v) (xs:=r3) (Reads.slR _ _ _))) ?_
     cases h
     exact fE (resA2 Tryz.results14 (RV_cellN rfl foc3 Tryz.isAgg28 Tryz.sizeOf28 rfl rfl) (RV_tmp rfl)) ⟨X40,X5.v⟩ (t1_ (t0_ (eD (eD eR))))
def volumegrouplaw21_awake : Option (Bool) :=
  Option.bind (volumegrouplaw21_begun (2 : UInt8)) fun r1 =>
  Option.elim r1.1 (
    some false) fun o8 =>
  if (((r1.2.2.2.2.2.length : Nat) : Int)≠(2 : Int)) then
    some false
  else
    Option.bind (volumegrouplaw21_setting_open o8 (((r1.2.1 : Nat) : Int)) (((r1.2.2.1 : Nat) : Int)) (((r1.2.2.2.1 : Nat) : Int)) r1.2.2.2.2.1 ([])) fun r10 =>
    if (r10.2≠(0 : Int)) then
      some false
    else
      Option.elim r10.1 (
        some false) fun o19 =>
      Option.bind (mirror_Mirror_Dirty o19 o8) fun r20 =>
      if (((r20.length : Nat) : Int)≠(2 : Int)) then
        some false
      else
        Option.bind (mirror_Mirror_Resync o19 (100 : Int) o8) fun r24 =>
        Option.bind (mirror_Mirror_Read r24.2.2.1 (1 : Int) r24.2.2.2) fun r26 =>
        if ((r24.2.1=(0 : Int))∧(r24.1=(0 : Int))) then
          Option.bind (mirror_Mirror_Dirty r26.2.2.1 r26.2.2.2) fun r32 =>
          if (((((r32.length : Nat) : Int)=(0 : Int))∧(r26.2.1=(0 : Int)))∧(r26.1=(r1.2.2.2.2.2.getD 1 0))) then
            Option.bind (mirror_Regions (9 : Int) (4 : Int)) fun r50 =>
            some ((decide (r50=(3 : Int))))
          else
            some false
        else
          some false
theorem L_volumegrouplaw21_awake {W : World} {r : Bool} (h : volumegrouplaw21_awake=some r) :
    CSpec Tryz.prog W 13 [] [] (fun x : Unit => .bool r) (fun _=>True) (fun x F=>F) := by
 refine CSpec.of_body Tryz.func13 rfl Tryz.ntmps13 rfl fun F => ?_
 show CJ _ _ _ _ _ _ (F)
 unfold volumegrouplaw21_awake at h
 refine sR <| oA rfl rfl <| nT <| sR ?_
 obtain ⟨r1,hr2,h⟩ := bind_e h
 refine oO <| O_call (L_volumegrouplaw21_begun hr2) rfl Tryz.call14 Dels.nil rfl fun X3 _=>oM rfl rfl <| oP (P_extract rfl rfl) rfl <| oP (P_extract (v:=X3.2) rfl rfl) rfl <| oO <| O_alloc Tryz.zeroValue28 rfl rfl fun b6=>oO <| O_storeN rfl rfl foc0 Tryz.sizeOf28 rfl rfl (by simp only [allOne,oneCell_oval,oneCell_oif,oneCell_oifc,Bool.true_and]; rfl) <| oA rfl rfl <| nT <| CJ_seq <| sR <| oP (P_fieldAddr rfl ⟨_,_,_,Tryz.runUnderlying28,rfl,rfl,Tryz.sizeOf26,rfl⟩) rfl <| oV (V_load rfl foc0 rfl Tryz.isAgg26) rfl ?_
 rcases opt_e h with ⟨ht7,h⟩ | ⟨o8,ht7,h⟩
 ·
  rw [ht7]
  refine RJ_ent (t0_ (t1_ (eD eR))) <| oP (P_eqlNN rfl rfl Tryz.underlying26) rfl <| oM rfl rfl <| RJ_gn (GY_no rfl rfl rfl rfl) rfl rfl <| RJ_gn (GY_no rfl rfl rfl rfl) rfl rfl <| RJ_gn (GY_no rfl rfl rfl rfl) rfl rfl <| oP (P_pickT rfl rfl rfl) rfl <| nT <| CJ_condT rfl rfl <| sR <| oA rfl rfl <| nT <| CJ_ret <| QJ_then_ret ?_
  cases h
  exact fE (res1 Tryz.results13 rfl) () (eD (eD eR))
 ·
  rw [ht7]
  refine RJ_ent (Ent.takeC (A' := Arr X3.1 o8) del1 rfl eR) <| oP (P_eqlPN rfl rfl Tryz.underlying26) rfl <| oM rfl rfl <| gP (GY_yes rfl rfl rfl rfl) (P_move rfl) rfl <| gV (GY_yes rfl rfl rfl rfl) (V_len rfl foc2 (Reads.rdp _ _ _) Tryz.runUnderlying29) rfl <| gP (GY_yes rfl rfl rfl rfl) (P_neq (a:=((r1.2.2.2.2.2.length : Nat) : Int)) (b:=(2 : Int)) rfl rfl) rfl <| oP (P_pickF rfl rfl rfl) rfl <| nT <| CJ_condP rfl bT_dec (fun hg1 => ?_) (fun hg1 => ?_)
  ·
   replace h := ite_t hg1 h
   refine sR <| oA rfl rfl <| nT <| CJ_ret <| QJ_then_ret ?_
   cases h
   exact fE (res1 Tryz.results13 rfl) () (eD (eD (eD eR)))
  ·
   replace h := ite_f hg1 h
   refine kT <| sR <| oV (V_loadN rfl foc1 Tryz.isAgg28 Tryz.sizeOf28 rfl rfl) rfl <| RJ_ent (fun h hh=>sl_nil (t:=tyI) h hh) ?_
   obtain ⟨r10,hr11,h⟩ := bind_e h
   refine oO <| O_call (L_volumegrouplaw21_setting_open (Reads.sl _ _ _) hr11) rfl Tryz.call21 (Dels.cons del1 (Dels.cons del0 Dels.nil)) rfl fun X12 _=>oM rfl rfl <| oP (P_extract rfl rfl) rfl <| oP (P_extract rfl rfl) rfl <| oA rfl rfl <| oA rfl rfl <| nT <| CJ_seq <| sR <| oM rfl rfl <| oP (P_neq (a:=r10.2) (b:=(0 : Int)) rfl rfl) rfl <| oM rfl rfl <| RJ_mbF rfl rfl rfl (fun hG14=>have hP15 : ¬ (r10.2≠(0 : Int)) := nP (bT_dec) hG14; VJ_P (P_move rfl)) <| RJ_splitP 28 rfl bT_dec (fun hg2B hg2 => ?_) (fun hg2B hg2 => ?_)
   ·
    replace h := ite_t hg2 h
    refine RJ_gn (GY_no rfl rfl rfl hg2B) rfl rfl <| oP (P_pickT rfl hg2B rfl) rfl <| oM rfl rfl <| RJ_gn (GY_no rfl rfl rfl rfl) rfl rfl <| RJ_gn (GY_no rfl rfl rfl rfl) rfl rfl <| RJ_gn (GY_no rfl rfl rfl rfl) rfl rfl <| RJ_gn (GY_no rfl rfl rfl rfl) rfl rfl <| oP (P_pickT rfl rfl rfl) rfl <| nT <| CJ_condT rfl rfl <| sR <| oA rfl rfl <| nT <| CJ_ret <| QJ_then_ret ?_
    cases h
    exact fE (res1 Tryz.results13 rfl) () (eD (eD (eD (eD (eD eR)))))
   ·
    replace h := ite_f hg2 h
    rcases opt_e h with ⟨ht18,h⟩ | ⟨o19,ht18,h⟩
    ·
     rw [ht18]
     refine RJ_ent (t0_ (t0_ (t1_ (t1_ (eD eR))))) <| gP (GY_yes rfl rfl rfl hg2B) (P_eqlNN (mbx (not_f hg2B) rfl) rfl Tryz.underlying41) rfl <| oP (P_pickF rfl hg2B rfl) rfl <| oM rfl rfl <| RJ_gn (GY_no rfl rfl rfl rfl) rfl rfl <| RJ_gn (GY_no rfl rfl rfl rfl) rfl rfl <| RJ_gn (GY_no rfl rfl rfl rfl) rfl rfl <| RJ_gn (GY_no rfl rfl rfl rfl) rfl rfl <| oP (P_pickT rfl rfl rfl) rfl <| nT <| CJ_condT rfl rfl <| sR <| oA rfl rfl <| nT <| CJ_ret <| QJ_then_ret ?_
     cases h
     exact fE (res1 Tryz.results13 rfl) () (eD (eD (eD (eD eR))))
    ·
     rw [ht18]
     refine RJ_ent (Ent.takeC (A' := MirP X3.1 X12 o19) del2 rfl eR) <| gP (GY_yes rfl rfl rfl hg2B) (P_eqlPN (mbx (not_f hg2B) rfl) rfl Tryz.underlying41) rfl <| oP (P_pickF rfl hg2B rfl) rfl <| oM rfl rfl <| gP (GY_yes rfl rfl rfl rfl) (P_move rfl) rfl ?_
     obtain ⟨r20,hr21,h⟩ := bind_e h
     refine RJ_gy (GY_yes rfl rfl rfl rfl) <| O_call (L_mirror_Mirror_Dirty hr21) rfl Tryz.call22 (Dels.cons del0 (Dels.cons del0 Dels.nil)) rfl fun X22 _=>gV (GY_yes rfl rfl rfl rfl) (V_len rfl foc2 (Reads.sl _ _ _) Tryz.runUnderlying45) rfl <| gP (GY_yes rfl rfl rfl rfl) (P_neq (a:=((r20.length : Nat) : Int)) (b:=(2 : Int)) rfl rfl) rfl <| oP (P_pickF rfl rfl rfl) rfl <| nT <| CJ_condP rfl bT_dec (fun hg3 => ?_) (fun hg3 => ?_)
     ·
      replace h := ite_t hg3 h
      refine sR <| oA rfl rfl <| nT <| CJ_ret <| QJ_then_ret ?_
      cases h
      exact fE (res1 Tryz.results13 rfl) () (eD (eD (eD (eD (eD (eD eR))))))
     ·
      replace h := ite_f hg3 h
      refine kT <| sR <| oM rfl rfl ?_
      obtain ⟨r24,hr25,h⟩ := bind_e h
      refine oO <| O_call (L_mirror_Mirror_Resync hr25) rfl Tryz.call27 (Dels.cons del0 (Dels.cons del0 Dels.nil)) rfl fun _ _=>oM rfl rfl <| oP (P_extract rfl rfl) rfl <| oP (P_extract rfl rfl) rfl <| oA rfl rfl <| oA rfl rfl <| nT <| sR <| oM rfl rfl ?_
      obtain ⟨r26,hr27,h⟩ := bind_e h
      refine oO <| O_call (L_mirror_Mirror_Read hr27) rfl Tryz.call41 (Dels.cons del0 (Dels.cons del0 Dels.nil)) rfl fun _ _=>oM rfl rfl <| oP (P_extract rfl rfl) rfl <| oP (P_extract rfl rfl) rfl <| oA rfl rfl <| oA rfl rfl <| nT <| sR <| oM rfl rfl <| oP (P_eql (a:=r24.2.1) (b:=(0 : Int)) rfl rfl) rfl <| oM rfl rfl <| RJ_mbT rfl rfl rfl (fun hG28=>have hP29 : (r24.2.1=(0 : Int)) := (bT_dec).1 hG28; VJ_P (P_move rfl)) <| RJ_mbT rfl rfl rfl (fun hG30=>have hP31 : (r24.2.1=(0 : Int)) := (bT_dec).1 hG30; VJ_P (P_eql (a:=r24.1) (b:=(0 : Int)) (mbx hG30 rfl) rfl)) <| oP (P_pickAnd rfl (fun hh=>mbx hh rfl) rfl) rfl <| oM rfl rfl <| RJ_splitP 54 rfl (bT_and bT_dec bT_dec) (fun hg4B hg4 => ?_) (fun hg4B hg4 => ?_)
      ·
       replace h := ite_t hg4 h
       refine gP (GY_yes rfl rfl rfl hg4B) (P_move rfl) rfl ?_
       obtain ⟨r32,hr33,h⟩ := bind_e h
       refine RJ_gy (GY_yes rfl rfl rfl hg4B) <| O_call (L_mirror_Mirror_Dirty hr33) rfl Tryz.call22 (Dels.cons del0 (Dels.cons del0 Dels.nil)) rfl fun X34 _=>gV (GY_yes rfl rfl rfl hg4B) (V_len rfl foc2 (Reads.sl _ _ _) Tryz.runUnderlying45) rfl <| gP (GY_yes rfl rfl rfl hg4B) (P_eql (a:=((r32.length : Nat) : Int)) (b:=(0 : Int)) rfl rfl) rfl <| oP (P_pickT rfl hg4B rfl) rfl <| oM rfl rfl <| RJ_mbT rfl rfl rfl (fun hG36=>have hP37 : (((r32.length : Nat) : Int)=(0 : Int)) := (bT_dec).1 hG36; VJ_P (P_move rfl)) <| RJ_mbT rfl rfl rfl (fun hG38=>have hP39 : (((r32.length : Nat) : Int)=(0 : Int)) := (bT_dec).1 hG38; VJ_P (P_eql (a:=r26.2.1) (b:=(0 : Int)) (mbx hG38 rfl) rfl)) <| oP (P_pickAnd rfl (fun hh=>mbx hh rfl) rfl) rfl <| oM rfl rfl <| RJ_mbT rfl rfl rfl (fun hG40=>have hP41 : ((((r32.length : Nat) : Int)=(0 : Int))∧(r26.2.1=(0 : Int))) := ((bT_and bT_dec bT_dec)).1 hG40; VJ_P (P_move rfl)) <| RJ_mbT rfl rfl rfl (fun hG42=>have hP43 : ((((r32.length : Nat) : Int)=(0 : Int))∧(r26.2.1=(0 : Int))) := ((bT_and bT_dec bT_dec)).1 hG42; VJ_P (P_move rfl)) <| RJ_mbT rfl rfl rfl (fun hG44=>have hP45 : ((((r32.length : Nat) : Int)=(0 : Int))∧(r26.2.1=(0 : Int))) := ((bT_and bT_dec bT_dec)).1 hG44; V_index (i:=1) (mbx hG44 rfl) rfl rfl (by omega) foc6 (Reads.rdp _ _ _) Tryz.runUnderlying29 Tryz.sizeOf23) ?_
       refine RJ_mbT rfl rfl rfl (fun hG46=>have hP47 : ((((r32.length : Nat) : Int)=(0 : Int))∧(r26.2.1=(0 : Int))) := ((bT_and bT_dec bT_dec)).1 hG46; V_loadE (mbx hG46 rfl) rfl (by omega) foc6 (Reads.rdp _ _ _) rfl rfl Tryz.isAgg23) <| RJ_mbT rfl rfl rfl (fun hG48=>have hP49 : ((((r32.length : Nat) : Int)=(0 : Int))∧(r26.2.1=(0 : Int))) := ((bT_and bT_dec bT_dec)).1 hG48; VJ_P (P_eq_u64 (a:=r26.1) (b:=(r1.2.2.2.2.2.getD 1 0)) (mbx hG48 rfl) (mbx hG48 rfl))) <| oP (P_pickAnd rfl (fun hh=>mbx hh rfl) rfl) rfl <| oM rfl rfl <| RJ_splitP 71 rfl (bT_and (bT_and bT_dec bT_dec) bT_dec) (fun hg5B hg5 => ?_) (fun hg5B hg5 => ?_)
       ·
        replace h := ite_t hg5 h
        obtain ⟨r50,hr51,h⟩ := bind_e h
        refine RJ_gy (GY_yes rfl rfl rfl hg5B) <| O_call (L_mirror_Regions hr51) rfl Tryz.call42 Dels.nil rfl fun _ _=>gP (GY_yes rfl rfl rfl hg5B) (P_eql (a:=r50) (b:=(3 : Int)) rfl rfl) rfl <| oP (P_pickT rfl hg5B rfl) rfl <| oA rfl rfl <| RJ_nil <| QJ_ent (t1_ (eD (eD (eD (eD (eD (eD eR))))))) <| QJ_then <| CJ_ret ?_
        cases h
        exact fE (res1 Tryz.results13 rfl) () (eD eR)
       ·
        replace h := ite_f hg5 h
        refine RJ_gn (GY_no rfl rfl rfl hg5B) rfl rfl <| RJ_gn (GY_no rfl rfl rfl hg5B) rfl rfl <| oP (P_pickF rfl hg5B rfl) rfl <| oA rfl rfl <| RJ_nil <| QJ_ent (t1_ (eD (eD (eD (eD (eD (eD eR))))))) <| QJ_then <| CJ_ret ?_
        cases h
        exact fE (res1 Tryz.results13 rfl) () (eD eR)
      ·
       replace h := ite_f hg4 h
       refine RJ_gn (GY_no rfl rfl rfl hg4B) rfl rfl <| RJ_gn (GY_no rfl rfl rfl hg4B) rfl rfl <| RJ_gn (GY_no rfl rfl rfl hg4B) rfl rfl <| RJ_gn (GY_no rfl rfl rfl hg4B) rfl rfl <| oP (P_pickF rfl hg4B rfl) rfl <| oM rfl rfl <| RJ_gn (GY_no rfl rfl rfl rfl) rfl rfl <| RJ_gn (GY_no rfl rfl rfl rfl) rfl rfl <| oP (P_pickF rfl rfl rfl) rfl <| oM rfl rfl <| RJ_gn (GY_no rfl rfl rfl rfl) rfl rfl <| RJ_gn (GY_no rfl rfl rfl rfl) rfl rfl <| RJ_gn (GY_no rfl rfl rfl rfl) rfl rfl <| RJ_gn (GY_no rfl rfl rfl rfl) rfl rfl <| RJ_gn (GY_no rfl rfl rfl rfl) rfl rfl <| oP (P_pickF rfl rfl rfl) rfl <| oM rfl rfl <| RJ_gn (GY_no rfl rfl rfl rfl) rfl rfl <| RJ_gn (GY_no rfl rfl rfl rfl) rfl rfl <| oP (P_pickF rfl rfl rfl) rfl <| oA rfl rfl <| nT <| CJ_ret ?_
       cases h
       exact fE (res1 Tryz.results13 rfl) () (eD (eD (eD (eD (eD (eD eR))))))
end Go.Proofs
namespace Go.Proofs
open Go.VG
section
variable {C : MC} {K a i r : Nat} {s t u y : ArrS} {lv : LV} {m m' x : MirS} {w v : UInt64} {st : List Int}
theorem regI : IntKind.i64.wrap (((C.sz : Int) - 1).tdiv (C.rg : Int))=(((C.sz - 1) / C.rg : Nat) : Int) := by
  have h1 : (C.sz : Int) - 1=((C.sz - 1 : Nat) : Int) := by have := C.hs; omega
  rw [h1]
  have h2 : ((C.sz - 1 : Nat) : Int).tdiv (C.rg : Int)=(((C.sz - 1) / C.rg : Nat) : Int) := (Int.ofNat_tdiv _ _).symm
  have h3 : (C.sz - 1) / C.rg≤C.sz - 1 := Nat.div_le_self _ _
  have h4 := C.hs
  rw [h2]
  generalize (C.sz - 1) / C.rg=q at h3 ⊢
  exact wrap64_in (by omega) (by omega)
theorem regions_eq : mirror_Regions (C.sz : Int) (C.rg : Int)=some (C.R : Int) := by
  have h1 := C.hs
  have h2 := C.hr
  have hR := C.hR
  unfold mirror_Regions
  rw [if_neg (by omega),grd_t (inI64_of (by omega)),regI]
  have e : (((C.sz - 1) / C.rg : Nat) : Int) + 1=(C.R : Int) := rfl
  rw [e,grd_t (inI64_of (by omega))]
theorem refRegions_eq : volumegroupref21_Regions (C.sz : Int) (C.rg : Int)=some (C.R : Int) := by
  have h1 := C.hs
  have h2 := C.hr
  have hR := C.hR
  unfold volumegroupref21_Regions
  rw [if_neg (by omega),grd_t (inI64_of (by omega)),regI]
  have e : (((C.sz - 1) / C.rg : Nat) : Int) + 1=(C.R : Int) := rfl
  rw [e,grd_t (inI64_of (by omega))]
def legM (C : MC) (st : List Int) (i : Nat) : mlegS := ⟨xL i C.sz,if (i : Int) ∈ st then 2 else 0,0⟩
def legsM (C : MC) (st : List Int) (n : Nat) : List mlegS := (List.range n).map (legM C st)
theorem legsM_at {n : Nat} (h : i < n) : (legsM C st n).getD i mleg_x0=legM C st i := by simp [legsM,List.getD,h]
theorem legsM_len {n : Nat} : (legsM C st n).length=n := by simp [legsM]
theorem legsM_succ {n : Nat} : legsM C st (n + 1)=legsM C st n ++ [legM C st n] := by simp [legsM,List.range_succ]
theorem idxF_l1 {n : Int} : ∀ (l : List Int) (_ : ∀ k ∈ l,0≤k∧k≤n) (N i : Nat),l.length - i < N→i≤l.length→slices_IndexFunc_int__mirror_Open_1_l1 l n N i=some (.inl ())
  | _,_,0,_,h,_=>absurd h (by omega)
  | l,hl,N + 1,i,h,hi=>by
    have hu : slices_IndexFunc_int__mirror_Open_1_l1 l n (N + 1) i=slices_IndexFunc_int__mirror_Open_1_l1_b l n (slices_IndexFunc_int__mirror_Open_1_l1 l n N) i := rfl
    rw [hu]
    unfold slices_IndexFunc_int__mirror_Open_1_l1_b
    by_cases hlt : i < l.length
    · rw [if_pos (by omega)]
      unfold mirror_Open_1
      have hk := hl (l.getD i 0) (by simp [List.getD,hlt])
      simp only [Option.bind_some]
      rw [if_neg (by rw [Bool.or_eq_true,decide_eq_true_iff,decide_eq_true_iff]; omega)]
      exact idxF_l1 l hl N (i + 1) (by omega) (by omega)
    · rw [if_neg (by omega)]
theorem containsF {n : Int} {l : List Int} (hl : ∀ k ∈ l,0≤k∧k≤n) (hlen : l.length≤1000000) : slices_ContainsFunc_int__mirror_Open_1 l n=some false := by
  unfold slices_ContainsFunc_int__mirror_Open_1 slices_IndexFunc_int__mirror_Open_1
  have hF := fuel_big
  rw [idxF_l1 l hl FUEL 0 (by omega) (by omega),seqO_inl]; rfl
def openB (legs : List Dvc) (staleLegs : List Int) (s : ArrS) (rec : MirS→Nat→Nat→Option (Nat × MirS)) (x33 : MirS) (x34 : Nat) (x35 : Nat) : Option (Nat × MirS) :=
  if (((x35 : Nat) : Int) < ((legs.length : Nat) : Int)) then
    Option.bind (slices_Contains_int staleLegs (((x35 : Nat) : Int))) fun r38 =>
    Option.bind ((
      if r38=true then
        some (x34,2)
      else
        grd (inN64 (x34 + 1)) <|
        some (((x34 + 1),0)) : Option (Nat × Nat))) fun a45 =>
    grd (inLen (x33.legs.length + 1)) <|
    Option.bind (Dvc.size (legs.getD x35 dv0) s) fun r63 =>
    rec ((⟨(x33.legs ++ [(⟨(legs.getD x35 dv0),((a45.2 : Nat) : Int),(0 : Int)⟩ : mlegS)]),x33.log,x33.hasLog,x33.logState,(min x33.size r63),x33.region,x33.dirty,x33.copied⟩ : MirS)) a45.1 (x35 + 1)
  else
    some (x34,x33)
theorem open_rule {f : Nat→MirS→Nat→Nat→Option (Nat × MirS)} {legs : List Dvc} (hf : ∀ n x p i,f (n + 1) x p i=openB legs st s (f n) x p i) (hll : legs.length=C.L) (hlx : ∀ i,i < C.L→legs.getD i dv0=xL i C.sz) (hst : st.length≤1000000) {lg : Bool} {reg : Int} :
    ∀ (N i p : Nat),C.L - i < N→i≤C.L→p≤i→((∃ j,j < i∧(j : Int) ∉ st)→0 < p) → ∃ q,((∃ j,j < C.L∧(j : Int) ∉ st)→0 < q)∧f N ⟨legsM C st i,none,lg,0,(C.sz : Int),reg,[],0⟩ p i=some (q,⟨legsM C st C.L,none,lg,0,(C.sz : Int),reg,[],0⟩)
  | 0,_,_,h,_,_,_=>absurd h (by omega)
  | N + 1,i,p,hN,hi,hp,hq=>by
    have hrec := fun p=>open_rule hf hll hlx hst (lg:=lg) (reg:=reg) N (i + 1) p
    have hL := C.hL
    rw [hf]
    unfold openB
    by_cases hlt : i < C.L
    · have hsz : Dvc.size (xL i C.sz) s=some (C.sz : Int) := span_size
      rw [if_pos (by rw [hll]; omega),contains_eq hst,hlx i hlt,hsz]; simp only [Option.bind_some,legsM_len]
      have hmin : min (C.sz : Int) (C.sz : Int)=C.sz := by omega
      by_cases hm : (i : Int) ∈ st
      · rw [if_pos (by simpa using hm)]; simp only [Option.bind_some]
        rw [grd_t (inLen_of (by omega)),hmin]
        have e : legsM C st i ++ [(⟨xL i C.sz,((2 : Nat) : Int),0⟩ : mlegS)]=legsM C st (i + 1) := by rw [legsM_succ]; unfold legM; rw [if_pos hm]; rfl
        rw [e]
        refine hrec p (by omega) (by omega) (by omega) (fun ⟨j,hj,hjn⟩=>hq ⟨j,?_,hjn⟩)
        rcases Nat.lt_or_ge j i with x | x
        · exact x
        · have : j=i := by omega
          subst this; exact absurd hm hjn
      · rw [if_neg (by simpa using hm),grd_t (inN64_of (by omega))]; simp only [Option.bind_some]
        rw [grd_t (inLen_of (by omega)),hmin]
        have e : legsM C st i ++ [(⟨xL i C.sz,((0 : Nat) : Int),0⟩ : mlegS)]=legsM C st (i + 1) := by rw [legsM_succ]; unfold legM; rw [if_neg hm]; rfl
        rw [e]
        exact hrec (p + 1) (by omega) (by omega) (by omega) (fun _=>by omega)
    · rw [if_neg (by rw [hll]; omega)]
      have : i=C.L := by omega
      subst this
      exact ⟨p,hq,rfl⟩
theorem setB' {l : List Bool} {i j : Nat} {v : Bool} (h : i < l.length) : (l.set i v).getD j false=if j=i then v else l.getD j false := by
  simp only [List.getD,List.getElem?_set]
  by_cases e : i=j
  · subst e; simp [h]
  · rw [if_neg e,if_neg (fun x=>e x.symm)]
theorem all_rule {f : Nat→MirS→Nat→Option MirS} {R : Nat} (hR : R≤1000000) (hf : ∀ n x i,f (n + 1) x i=if (((i : Nat) : Int) < ((((List.replicate (((R : Nat) : Int)).toNat false)).length : Nat) : Int)) then grd (decide (i < x.dirty.length)) <| grd (inN64 (i + 1)) <| f n ({ x with dirty := (x.dirty.set i true) }) (i + 1) else some x) :
    ∀ (N i : Nat) (x : MirS),R - i < N→i≤R→x.dirty.length=R→(∀ r,r < i→x.dirty.getD r false=true) → ∃ d : List Bool,d.length=R∧(∀ r,r < R→d.getD r false=true)∧f N x i=some { x with dirty := d }
  | 0,_,_,h,_,_,_=>absurd h (by omega)
  | N + 1,i,x,hN,hi,hl,hd=>by
    rw [hf]
    by_cases hlt : i < R
    · rw [if_pos (by simp; omega),grd_t (decide_eq_true (by omega)),grd_t (inN64_of (by omega))]
      obtain ⟨d,h1,h2,h3⟩ := all_rule hR hf N (i + 1) { x with dirty := x.dirty.set i true } (by omega) (by omega) (by simp [hl]) (fun r hr=>by
        show (x.dirty.set i true).getD r false=true
        rw [setB' (by omega)]
        split
        · rfl
        · exact hd r (by omega))
      exact ⟨d,h1,h2,h3⟩
    · rw [if_neg (by simp; omega)]
      exact ⟨x.dirty,hl,fun r hr=>hd r (by omega),rfl⟩
theorem some_l4 {l : List Int} {R : Nat} (hl : ∀ k,k < l.length → ∃ r : Nat,r < R∧l.getD k 0=r) (hl2 : l.length≤1000000) : ∀ (N k : Nat) (x : MirS),l.length - k < N→k≤l.length→x.dirty.length=R →
    ∃ d : List Bool,d.length=R∧(∀ r : Nat,r < R→(d.getD r false=true↔x.dirty.getD r false=true ∨ ∃ q,k≤q∧q < l.length∧l.getD q 0=(r : Int)))∧mirror_Open_l4 l N x k=some { x with dirty := d }
  | 0,_,_,h,_,_=>absurd h (by omega)
  | N + 1,k,x,hN,hk,hd=>by
    have hu : mirror_Open_l4 l (N + 1) x k=mirror_Open_l4_b l (mirror_Open_l4 l N) x k := rfl
    rw [hu]
    unfold mirror_Open_l4_b
    by_cases hlt : k < l.length
    · obtain ⟨r,hr,her⟩ := hl k hlt
      rw [if_pos (by omega),her,grd_t (decide_eq_true ⟨Int.natCast_nonneg _,by rw [hd]; exact Int.ofNat_lt.2 hr⟩),grd_t (inN64_of (by omega)),Int.toNat_natCast]
      obtain ⟨d,h1,h2,h3⟩ := some_l4 hl hl2 N (k + 1) { x with dirty := x.dirty.set r true } (by omega) (by omega) (by simp [hd])
      refine ⟨d,h1,fun q hq => ?_,h3⟩
      rw [h2 q hq]
      show ((x.dirty.set r true).getD q false=true∨_)↔_
      rw [setB' (by omega)]
      by_cases e : q=r
      · subst e
        rw [if_pos rfl]
        exact ⟨fun _ => .inr ⟨k,Nat.le_refl _,hlt,her⟩,fun _ => .inl rfl⟩
      · rw [if_neg e]
        refine or_congr Iff.rfl ⟨fun ⟨q',g1,g2,g3⟩=>⟨q',by omega,g2,g3⟩,fun ⟨q',g1,g2,g3⟩=>⟨q',?_,g2,g3⟩⟩
        rcases Nat.lt_or_ge k q' with y | y
        · exact y
        · have : q' = k := by omega
          subst this
          rw [her] at g3
          exact absurd (by omega) e
    · rw [if_neg (by omega)]
      refine ⟨x.dirty,hd,fun r _ => ?_,rfl⟩
      exact ⟨fun h => .inl h,fun h=>h.elim id (fun ⟨q,g1,g2,_⟩=>by omega)⟩
theorem dirtyL_has {l : List UInt64} {n r : Nat} (hr : r < n) : (∃ q,0≤q∧q < (dirtyL l n).length∧(dirtyL l n).getD q 0=(r : Int))↔bitR l r=true := by
  have hm : (r : Int) ∈ dirtyL l n↔bitR l r=true := by
    unfold dirtyL
    rw [List.mem_map]
    constructor
    · rintro ⟨q,hq,e⟩
      have := (List.mem_filter.1 hq).2
      have e' : q=r := by omega
      rw [e'] at this; simpa using this
    · intro h
      exact ⟨r,List.mem_filter.2 ⟨List.mem_range.2 hr,by simpa using h⟩,rfl⟩
  rw [← hm,List.mem_iff_getElem]
  constructor
  · rintro ⟨q, -,hq,e⟩
    exact ⟨q,hq,by simpa [List.getD,hq] using e⟩
  · rintro ⟨q,hq,e⟩
    exact ⟨q,by omega,hq,by simp [List.getD,hq,e]⟩
end
end Go.Proofs
