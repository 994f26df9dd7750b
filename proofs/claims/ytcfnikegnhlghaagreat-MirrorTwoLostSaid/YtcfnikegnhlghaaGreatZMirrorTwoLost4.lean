/- MirrorTwoLost, part 4 of the proof: LLog, PLog, PLogOps, LRef20, LMirC, LMir1. -/
import Derived.WalkKit
import Derived.Orders
import Derived.RangeFuncLeaves
import Derived.RangeFuncCalls
import Derived.TacticsIn
import Derived.Handy
import Derived.OrdersHeld
import Derived.OrdersIn
import Derived.Below
import Derived.OpenShut
import Derived.Deep.Slices
import Derived.Scope
import Derived.KernelRfl
import Derived.RangeFuncRecord
import Derived.ChangeKeysEq
import Derived.ProofKit
import Derived.ShutString
import Derived.ChangeOld
import Derived.Test.YtcfnikegnhlghaaGreatChecked
import Derived.Test.YtcfnikegnhlghaaGreatRows
import Derived.Test.YtcfnikegnhlghaaGreatZMirrorTwoLost3
set_option linter.unusedSimpArgs false
set_option linter.unusedVariables false
set_option maxRecDepth 20000
set_option maxHeartbeats 4000000
namespace Go.Proofs
open Go.VG
theorem bld_156_0_1_2_3 (v0 : TypeId) (v1 : Value) (v2 : Int) (v3 : (Option Addr)) (v4 : Nat) (v5 : Nat) (v6 : (Option Nat)) : ∀ w,(Instr.build 156 (#[(0,.iface v0 v1),(1,.int .i64 v2),(2,.slice v3 v4 v5),(3,.map v6)] : Array (Nat × Value))).run Tryz.prog w = .ok (.agg #[.iface v0 v1,.int .i64 v2,.slice v3 v4 v5,.map v6]) w := fun w=>by kernel_rfl
theorem bld_185 : ∀ w,(Instr.build 185 (#[] : Array (Nat × Value))).run Tryz.prog w = .ok (.agg #[]) w := fun w=>by kernel_rfl
def regionlog_Words (regions : Int) : Option (Int) :=
  if ((regions < (1 : Int))∨((1048576 : Int) < regions)) then
    some (0 : Int)
  else
    some (((1 : Int) + ((regions + (63 : Int)) / (64 : Int))))
theorem L_regionlog_Words {W : World} {regions : Int} {r : Int} (h : regionlog_Words regions=some r) :
    CSpec Tryz.prog W 89 [.int .i64 regions] [] (fun x : Unit => .int .i64 r) (fun _=>True) (fun x F=>F) := by
 refine CSpec.of_body Tryz.func89 rfl Tryz.ntmps89 rfl fun F => ?_
 show CJ _ _ _ _ _ _ (F)
 unfold regionlog_Words at h
 refine sR <| oA rfl rfl <| nT <| CJ_seq <| sR <| oM rfl rfl <| oP (P_lss (a:=regions) (b:=(1 : Int)) rfl rfl) rfl <| oM rfl rfl <| RJ_mbF rfl rfl rfl (fun hG1=>have hP2 : ¬ (regions < (1 : Int)) := nP (bT_dec) hG1; VJ_P (P_move rfl)) <| RJ_mbF rfl rfl rfl (fun hG3=>have hP4 : ¬ (regions < (1 : Int)) := nP (bT_dec) hG3; VJ_P (P_gtr (a:=regions) (b:=(1048576 : Int)) (mbx hG3 rfl) rfl)) <| oP (P_pickOr rfl rfl (fun hh=>mbx (not_f hh) rfl)) rfl <| nT <| CJ_condP rfl (bT_or bT_dec bT_dec) (fun hg1 => ?_) (fun hg1 => ?_)
 ·
  replace h := ite_t hg1 h
  refine sR <| oA rfl rfl <| nT <| CJ_ret <| QJ_then_ret ?_
  cases h
  exact fE (res1 Tryz.results89 rfl) () eR
 ·
  replace h := ite_f hg1 h
  refine kT <| sR <| oM rfl rfl <| oP (P_add (a:=regions) (b:=(63 : Int)) rfl rfl (by omega)) rfl <| oP (P_quo (a:=(regions + (63 : Int))) (b:=(64 : Int)) rfl rfl (by omega)) rfl <| oP (P_add (a:=(1 : Int)) (b:=((regions + (63 : Int)) / (64 : Int))) rfl rfl (by omega)) rfl <| oA rfl rfl <| nT <| CJ_ret ?_
  cases h
  exact fE (res1 Tryz.results89 rfl) () eR
def regionlog_check (x_0 : Dvc) (regions : Int) (s : ArrS) : Option (Int) :=
  Option.bind (regionlog_Words regions) fun r1 =>
  if (r1=(0 : Int)) then
    some (1 : Int)
  else
    Option.bind (Dvc.size x_0 s) fun r4 =>
    if (r4 < r1) then
      some (3 : Int)
    else
      some (0 : Int)
theorem L_regionlog_check {W : World} {vx_0 : IfH} {bs : Nat} {x_0 : Dvc} {regions : Int} {s : ArrS} {r : Int} (h : regionlog_check x_0 regions s=some r) :
    CSpec Tryz.prog W 87 [IfH.v vx_0,.int .i64 regions] [DevP bs x_0 vx_0,Arr bs s] (fun x : Unit => .int .i64 r) (fun _=>True) (fun x F=>DevP bs x_0 vx_0::Arr bs s::F) := by
 refine CSpec.of_body Tryz.func87 rfl Tryz.ntmps87 rfl fun F => ?_
 show CJ _ _ _ _ _ _ (_::_::F)
 unfold regionlog_check at h
 refine sR <| oA rfl rfl <| nT <| CJ_seq <| sR <| oM rfl rfl ?_
 obtain ⟨r1,hr2,h⟩ := bind_e h
 refine oO <| O_call (L_regionlog_Words hr2) rfl Tryz.call89 Dels.nil rfl fun _ _=>oA rfl rfl <| nT <| CJ_block <| sR <| oM rfl rfl <| oP (P_eql (a:=r1) (b:=(0 : Int)) rfl rfl) rfl <| oA rfl rfl <| nT <| CJ_condP rfl bT_dec (fun hg1 => ?_) (fun hg1 => ?_)
 ·
  replace h := ite_t hg1 h
  refine sR <| oA rfl rfl <| nT <| CJ_ret <| QJ_block_ret <| QJ_then_ret ?_
  cases h
  exact fE (res1 Tryz.results87 rfl) () eR
 ·
  replace h := ite_f hg1 h
  refine sR <| oM rfl rfl <| RJ_pure (fun h hh=>DevP_dep h (stars_perm (del0 (A:=DevP bs x_0 vx_0)).out h hh)) fun hdp3 => ?_
  obtain ⟨r4,hr5,h⟩ := bind_e h
  refine oO <| O_callI rfl (dev_Size hr5 hdp3) rfl (Dels.cons del0 (Dels.cons del0 Dels.nil)) rfl fun _ _=>oM rfl rfl <| oP (P_lss (a:=r4) (b:=r1) rfl rfl) rfl <| oA rfl rfl <| nT <| CJ_condP rfl bT_dec (fun hg2 => ?_) (fun hg2 => ?_)
  ·
   replace h := ite_t hg2 h
   refine sR <| oA rfl rfl <| nT <| CJ_ret <| QJ_block_ret <| QJ_then_ret ?_
   cases h
   exact fE (res1 Tryz.results87 rfl) () eR
  ·
   replace h := ite_f hg2 h
   refine CJ_skip <| QJ_block_normal <| QJ_then <| sR <| oA rfl rfl <| nT <| CJ_ret ?_
   cases h
   exact fE (res1 Tryz.results87 rfl) () eR
def regionlog_Format (x_0 : Dvc) (regions : Int) (s : ArrS) : Option (Int × ArrS) :=
  Option.bind (regionlog_check x_0 regions s) fun r1 =>
  if (r1≠(0 : Int)) then
    some (r1,s)
  else
    Option.bind (regionlog_Words regions) fun r3 =>
    grd (inI64 ((r3 - (1 : Int)))) <|
    grd (decide (0≤(r3 - (1 : Int))∧(r3 - (1 : Int))≤1000000000)) <|
    Option.bind (block_WriteAll x_0 (1 : Int) ((List.replicate (((r3 - (1 : Int))).toNat) (0 : UInt64))) s) fun r6 =>
    if (r6.1≠(0 : Int)) then
      some (r6.1,r6.2)
    else
      Option.bind (Dvc.fl x_0 r6.2) fun r9 =>
      if (r9.1≠(0 : Int)) then
        some (r9.1,r9.2)
      else
        Option.bind (Dvc.wr x_0 r9.2 (0 : Int) (((5498691735368237056 : UInt64) + (to_u64 regions)))) fun r12 =>
        if (r12.1≠(0 : Int)) then
          some (r12.1,r12.2)
        else
          Option.bind (Dvc.fl x_0 r12.2) fun r15 =>
          some (r15.1,r15.2)
theorem L_regionlog_Format {W : World} {vx_0 : IfH} {bs : Nat} {x_0 : Dvc} {regions : Int} {s : ArrS} {r : Int × ArrS} (h : regionlog_Format x_0 regions s=some r) :
    CSpec Tryz.prog W 45 [IfH.v vx_0,.int .i64 regions] [DevP bs x_0 vx_0,Arr bs s] (fun x : Unit => .int .i64 r.1) (fun _=>True) (fun x F=>DevP bs x_0 vx_0::Arr bs r.2::F) := by
 refine CSpec.of_body Tryz.func45 rfl Tryz.ntmps45 rfl fun F => ?_
 show CJ _ _ _ _ _ _ (_::_::F)
 unfold regionlog_Format at h
 refine sR <| oA rfl rfl <| nT <| CJ_seq <| sR <| oM rfl rfl <| oM rfl rfl ?_
 obtain ⟨r1,hr2,h⟩ := bind_e h
 refine oO <| O_call (L_regionlog_check hr2) rfl Tryz.call87 (Dels.cons del0 (Dels.cons del0 Dels.nil)) rfl fun _ _=>oA rfl rfl <| nT <| sR <| oM rfl rfl <| oP (P_neq (a:=r1) (b:=(0 : Int)) rfl rfl) rfl <| nT <| CJ_condP rfl bT_dec (fun hg1 => ?_) (fun hg1 => ?_)
 ·
  replace h := ite_t hg1 h
  refine sR <| oM rfl rfl <| oA rfl rfl <| nT <| CJ_ret <| QJ_then_ret ?_
  cases h
  exact fE (res1 Tryz.results45 rfl) () eR
 ·
  replace h := ite_f hg1 h
  refine kT <| CJ_seq <| sR <| oM rfl rfl <| oM rfl rfl ?_
  obtain ⟨r3,hr4,h⟩ := bind_e h
  refine oO <| O_call (L_regionlog_Words hr4) rfl Tryz.call89 Dels.nil rfl fun _ _ => ?_
  obtain ⟨hg2,h⟩ := grd_Ie h
  refine oP (P_sub (a:=r3) (b:=(1 : Int)) rfl rfl hg2) rfl ?_
  obtain ⟨hg3,h⟩ := grd_de h
  refine oO <| O_make (t:=tyU) (m:=((r3 - (1 : Int))).toNat) (x0:=0) (z:=_) (bytes:=_) rfl rfl (Int.toNat_of_nonneg (hg3.1)).symm (Int.toNat_of_nonneg (hg3.1)).symm Tryz.underlying29 ⟨Tryz.t23,by kernel_rfl,rfl,rfl,rfl⟩ rfl (by omega) (by decide) rfl fun b5 => ?_
  obtain ⟨r6,hr7,h⟩ := bind_e h
  refine oO <| O_call (L_block_WriteAll (Reads.sl _ _ _) hr7) rfl Tryz.call88 (Dels.cons del1 (Dels.cons del0 (Dels.cons del0 Dels.nil))) rfl fun _ _=>oA rfl rfl <| nT <| sR <| oM rfl rfl <| oP (P_neq (a:=r6.1) (b:=(0 : Int)) rfl rfl) rfl <| nT <| CJ_condP rfl bT_dec (fun hg4 => ?_) (fun hg4 => ?_)
  ·
   replace h := ite_t hg4 h
   refine sR <| oM rfl rfl <| oA rfl rfl <| nT <| CJ_ret <| QJ_then_ret ?_
   cases h
   exact fE (res1 Tryz.results45 rfl) () (t0_ (t1_ (eD eR)))
  ·
   replace h := ite_f hg4 h
   refine kT <| CJ_seq <| sR <| oM rfl rfl <| RJ_pure (fun h hh=>DevP_dep h (stars_perm (del0 (A:=DevP bs x_0 vx_0)).out h hh)) fun hdp8 => ?_
   obtain ⟨r9,hr10,h⟩ := bind_e h
   refine oO <| O_callI rfl (dev_Flush hr10 hdp8) rfl (Dels.cons del0 (Dels.cons del1 Dels.nil)) rfl fun _ _=>oA rfl rfl <| nT <| sR <| oM rfl rfl <| oP (P_neq (a:=r9.1) (b:=(0 : Int)) rfl rfl) rfl <| nT <| CJ_condP rfl bT_dec (fun hg5 => ?_) (fun hg5 => ?_)
   ·
    replace h := ite_t hg5 h
    refine sR <| oM rfl rfl <| oA rfl rfl <| nT <| CJ_ret <| QJ_then_ret ?_
    cases h
    exact fE (res1 Tryz.results45 rfl) () (t0_ (t0_ (eD eR)))
   ·
    replace h := ite_f hg5 h
    refine kT <| CJ_seq <| sR <| oM rfl rfl <| oM rfl rfl <| oP (P_conv_u64 (a:=regions) rfl Tryz.runUnderlying3 Tryz.runUnderlying23) rfl <| oP (P_add_u64 (a:=(5498691735368237056 : UInt64)) (b:=(to_u64 regions)) rfl rfl) rfl <| RJ_pure (fun h hh=>DevP_dep h (stars_perm (del0 (A:=DevP bs x_0 vx_0)).out h hh)) fun hdp11 => ?_
    obtain ⟨r12,hr13,h⟩ := bind_e h
    refine oO <| O_callI rfl (dev_Write hr13 hdp11) rfl (Dels.cons del0 (Dels.cons del0 Dels.nil)) rfl fun _ _=>oA rfl rfl <| nT <| sR <| oM rfl rfl <| oP (P_neq (a:=r12.1) (b:=(0 : Int)) rfl rfl) rfl <| nT <| CJ_condP rfl bT_dec (fun hg6 => ?_) (fun hg6 => ?_)
    ·
     replace h := ite_t hg6 h
     refine sR <| oM rfl rfl <| oA rfl rfl <| nT <| CJ_ret <| QJ_then_ret ?_
     cases h
     exact fE (res1 Tryz.results45 rfl) () (t0_ (t0_ (eD eR)))
    ·
     replace h := ite_f hg6 h
     refine kT <| sR <| oM rfl rfl <| RJ_pure (fun h hh=>DevP_dep h (stars_perm (del0 (A:=DevP bs x_0 vx_0)).out h hh)) fun hdp14 => ?_
     obtain ⟨r15,hr16,h⟩ := bind_e h
     refine oO <| O_callI rfl (dev_Flush hr16 hdp14) rfl (Dels.cons del0 (Dels.cons del0 Dels.nil)) rfl fun _ _=>oA rfl rfl <| nT <| CJ_ret ?_
     cases h
     exact fE (res1 Tryz.results45 rfl) () (t0_ (t0_ (eD eR)))
def regionlog_Open (x_0 : Dvc) (regions : Int) (s : ArrS) : Option ((Option LogS) × Int) :=
  Option.bind (regionlog_check x_0 regions s) fun r1 =>
  if (r1≠(0 : Int)) then
    some (none,r1)
  else
    Option.bind (regionlog_Words regions) fun r3 =>
    Option.bind (block_ReadAll x_0 (0 : Int) r3 s) fun r5 =>
    if (r5.2≠(0 : Int)) then
      some (none,r5.2)
    else
      grd (decide (0 < r5.1.length)) <|
      if ((r5.1.getD 0 0)≠((5498691735368237056 : UInt64) + (to_u64 regions))) then
        some ((none,(2 : Int)))
      else
        grd (decide (1≤r5.1.length∧r5.1.length≤r5.1.length)) <|
        some (((some ((⟨x_0,regions,((r5.1.take r5.1.length).drop 1),[]⟩ : LogS))),(0 : Int)))
theorem L_regionlog_Open {W : World} {vx_0 : IfH} {bs : Nat} {x_0 : Dvc} {regions : Int} {s : ArrS} {r : (Option LogS) × Int} (h : regionlog_Open x_0 regions s=some r) :
    CSpec Tryz.prog W 94 [IfH.v vx_0,.int .i64 regions] [DevP bs x_0 vx_0,Arr bs s] (fun x : Nat => .tuple #[oval r.1 x,.int .i64 r.2]) (fun _=>True) (fun x F=>DevP bs x_0 vx_0::Arr bs s::optP (LogP bs x) r.1::F) := by
 refine CSpec.of_body Tryz.func94 rfl Tryz.ntmps94 rfl fun F => ?_
 show CJ _ _ _ _ _ _ (_::_::F)
 unfold regionlog_Open at h
 refine sR <| oA rfl rfl <| oA rfl rfl <| nT <| CJ_seq <| sR <| oM rfl rfl <| oM rfl rfl ?_
 obtain ⟨r1,hr2,h⟩ := bind_e h
 refine oO <| O_call (L_regionlog_check hr2) rfl Tryz.call87 (Dels.cons del0 (Dels.cons del0 Dels.nil)) rfl fun _ _=>oA rfl rfl <| nT <| sR <| oM rfl rfl <| oP (P_neq (a:=r1) (b:=(0 : Int)) rfl rfl) rfl <| nT <| CJ_condP rfl bT_dec (fun hg1 => ?_) (fun hg1 => ?_)
 ·
  replace h := ite_t hg1 h
  refine sR <| oM rfl rfl <| oA rfl rfl <| oA rfl rfl <| nT <| CJ_ret <| QJ_then_ret ?_
  cases h
  exact fE (res2 Tryz.results94 rfl rfl) 0 (t0_ (t0_ (Ent.trans (fun h hh=>optP_none h hh) <| t0_ eR)))
 ·
  replace h := ite_f hg1 h
  refine kT <| sR <| oM rfl rfl <| oM rfl rfl ?_
  obtain ⟨r3,hr4,h⟩ := bind_e h
  refine oO <| O_call (L_regionlog_Words hr4) rfl Tryz.call89 Dels.nil rfl fun _ _ => ?_
  obtain ⟨r5,hr6,h⟩ := bind_e h
  refine oO <| O_call (L_block_ReadAll hr6) rfl Tryz.call113 (Dels.cons del0 (Dels.cons del0 Dels.nil)) rfl fun X7 _=>oM rfl rfl <| oP (P_extract (v:=X7.v) rfl rfl) rfl <| oP (P_extract rfl rfl) rfl <| oA rfl rfl <| oA rfl rfl <| nT <| CJ_seq <| sR <| oM rfl rfl <| oP (P_neq (a:=r5.2) (b:=(0 : Int)) rfl rfl) rfl <| nT <| CJ_condP rfl bT_dec (fun hg2 => ?_) (fun hg2 => ?_)
  ·
   replace h := ite_t hg2 h
   refine sR <| oM rfl rfl <| oA rfl rfl <| oA rfl rfl <| nT <| CJ_ret <| QJ_then_ret ?_
   cases h
   exact fE (res2 Tryz.results94 rfl rfl) 0 (t0_ (t0_ (Ent.trans (fun h hh=>optP_none h hh) <| t0_ (eD eR))))
  ·
   replace h := ite_f hg2 h
   refine kT <| CJ_seq <| sR <| oM rfl rfl ?_
   obtain ⟨hg3,h⟩ := grd_de h
   refine oV (V_index (i:=0) rfl rfl rfl hg3 foc2 (Reads.sl _ _ _) Tryz.runUnderlying29 Tryz.sizeOf23) rfl <| oV (V_loadE rfl rfl hg3 foc2 (Reads.sl _ _ _) rfl rfl Tryz.isAgg23) rfl <| oM rfl rfl <| oP (P_conv_u64 (a:=regions) rfl Tryz.runUnderlying3 Tryz.runUnderlying23) rfl <| oP (P_add_u64 (a:=(5498691735368237056 : UInt64)) (b:=(to_u64 regions)) rfl rfl) rfl <| oP (P_ne_u64 (a:=(r5.1.getD 0 0)) (b:=((5498691735368237056 : UInt64) + (to_u64 regions))) rfl rfl) rfl <| nT <| CJ_condP rfl bT_dec (fun hg4 => ?_) (fun hg4 => ?_)
   ·
    replace h := ite_t hg4 h
    refine sR <| oA rfl rfl <| oA rfl rfl <| nT <| CJ_ret <| QJ_then_ret ?_
    cases h
    exact fE (res2 Tryz.results94 rfl rfl) 0 (t0_ (t0_ (Ent.trans (fun h hh=>optP_none h hh) <| t0_ (eD eR))))
   ·
    replace h := ite_f hg4 h
    refine kT <| sR <| oM rfl rfl <| oM rfl rfl <| oM rfl rfl ?_
    obtain ⟨hg5,h⟩ := grd_de h
    refine oV (V_slice (l:=1) (h:=r5.1.length) rfl foc2 (Reads.sl _ _ _) ⟨_,rfl⟩ rfl (by omega) (by omega) Tryz.underlying29 Tryz.sizeOf23) rfl <| oO <| O_makeMap mp154 rfl fun mp9=>oP (P_build rfl (bld_156_0_1_2_3 _ _ _ _ _ _ _)) rfl <| oO <| O_box rfl rfl rfl fun b10=>oA rfl rfl <| oA rfl rfl <| nT <| CJ_ret <| QJ_ent (Ent.trans (t2_ eR) (fun h hh=>stars_dup Dup_DevP hh)) <| QJ_pure (reads_sl3 (Reads.sliceV (l:=1) (h:=r5.1.length) (Reads.sl _ _ _) (by omega) (by omega)) del5) fun hsv13 => ?_
    obtain ⟨sv12,hsv13⟩ := hsv13
    refine QJ_ent (Ent.trans (t5_ eR) (RdP_mk (t:=tyU) (v:=Sl3.v sv12) (xs:=((r5.1.take r5.1.length).drop 1)) (hsv13 ▸ (Reads.sliceV (l:=1) (h:=r5.1.length) (Reads.sl _ _ _) (by omega) (by omega))))) <| QJ_ent (Ent.trans (Ent.takeC del3 (congrArg (fun z=>blk b10 156 [IfH.v vx_0,.int .i64 regions,z,.map (some mp9)]) hsv13) (t1_ (t0_ (t1_ eR)))) (LogP_mk (v0:=x_0) (v1:=regions) (v2:=((r5.1.take r5.1.length).drop 1)) (v3:=[]) (h0:=vx_0) (h1:=sv12) (h2:=mp9))) ?_
    cases h
    exact fE (res2 Tryz.results94 rfl rfl) b10 (t1_ (t1_ eR))
def regionlog_Log_set (l : LogS) (region : Int) (is : Bool) (keep : Bool) (s : ArrS) : Option (Int × LogS × ArrS) :=
  Option.bind (pack_SetBit l.bits region is) fun r4 =>
  if (r4.2≠(0 : Int)) then
    some (r4.2,l,s)
  else
    grd (inI64 (((1 : Int) + (IntKind.i64.wrap (region.tdiv (64 : Int)))))) <|
    grd (decide (0≤(IntKind.i64.wrap (region.tdiv (64 : Int)))∧(IntKind.i64.wrap (region.tdiv (64 : Int))) < (r4.1.length : Int))) <|
    Option.bind (Dvc.wr l.x s (((1 : Int) + (IntKind.i64.wrap (region.tdiv (64 : Int))))) ((r4.1.getD (((IntKind.i64.wrap (region.tdiv (64 : Int)))).toNat) 0))) fun r12 =>
    if ((r12.1=(0 : Int))∨keep=true) then
      some (r12.1, { l with bits := r4.1 },r12.2)
    else
      some (r12.1,l,r12.2)
theorem L_regionlog_Log_set {W : World} {bl : Nat} {bs : Nat} {l : LogS} {region : Int} {is : Bool} {keep : Bool} {s : ArrS} {r : Int × LogS × ArrS} (h : regionlog_Log_set l region is keep s=some r) :
    CSpec Tryz.prog W 106 [ptr bl 0,.int .i64 region,.bool is,.bool keep] [LogP bs bl l,Arr bs s] (fun x : Unit => .int .i64 r.1) (fun _=>True) (fun x F=>LogP bs bl r.2.1::Arr bs r.2.2::F) := by
 refine CSpec.of_body Tryz.func106 rfl Tryz.ntmps106 rfl fun F => ?_
 show CJ _ _ _ _ _ _ (_::_::F)
 unfold regionlog_Log_set at h
 refine sR <| oA rfl rfl <| nT <| CJ_seq <| CJ_entX (Ent.transX (t0_ eR) (LogP_open (l:=l))) fun oc1=>CJ_pure (len_of (Reads.rdp _ _ _) del2) fun hlen3=>CJ_region <| oM rfl rfl <| oP (P_nilCheck rfl) rfl <| oP (P_fieldAddr rfl ⟨_,_,_,Tryz.runUnderlying156,rfl,rfl,Tryz.sizeOf29,rfl⟩) rfl <| oV (V_load rfl foc0 rfl Tryz.isAgg29) rfl <| oM rfl rfl <| oM rfl rfl ?_
 obtain ⟨r4,hr5,h⟩ := bind_e h
 refine oO <| O_call (L_pack_SetBit (Reads.rdp _ _ _) hr5) rfl Tryz.call115 (Dels.cons del2 Dels.nil) rfl fun X6 _=>oM rfl rfl <| oP (P_extract (v:=X6.v) rfl rfl) rfl <| oP (P_extract rfl rfl) rfl <| oA rfl rfl <| oA rfl rfl <| RJ_nil <| QJ_ent (Ent.trans (t2_ (t2_ (t0_ (t1_ eR)))) (LogP_mk (v0:=l.x) (v1:=l.regions) (v2:=l.bits) (v3:=l.durable) (h0:=oc1.1) (h1:=oc1.2.1) (h2:=oc1.2.2))) <| QJ_then <| CJ_seq <| sR <| oM rfl rfl <| oP (P_neq (a:=r4.2) (b:=(0 : Int)) rfl rfl) rfl <| nT <| CJ_condP rfl bT_dec (fun hg1 => ?_) (fun hg1 => ?_)
 ·
  replace h := ite_t hg1 h
  refine sR <| oM rfl rfl <| oA rfl rfl <| nT <| CJ_ret <| QJ_then_ret ?_
  cases h
  exact fE (res1 Tryz.results106 rfl) () (t0_ (t1_ (eD eR)))
 ·
  replace h := ite_f hg1 h
  refine kT <| CJ_seq <| CJ_entX (Ent.transX (t0_ eR) (LogP_open (l:=l))) fun oc8=>CJ_pure (len_of (Reads.rdp _ _ _) del2) fun hlen10=>AJ_startH 16384 (by kernel_rfl) rfl <| aN 0 1 rfl rfl (P_move rfl) rfl <| aN 1 3 rfl rfl (P_nilCheck rfl) rfl <| aN 2 7 rfl rfl (P_fieldAddr rfl ⟨_,_,_,Tryz.runUnderlying156,rfl,rfl,Tryz.sizeOf96,rfl⟩) rfl <| aV 3 15 rfl rfl (GY_none rfl) eR (V_load rfl foc0 rfl Tryz.isAgg96) rfl <| aN 4 31 rfl rfl (P_move rfl) rfl <| aN 5 63 rfl rfl (P_quoT (a:=region) (b:=(64 : Int)) rfl rfl (by decide)) rfl ?_
  obtain ⟨hg2,h⟩ := grd_Ie h
  refine aN 6 127 rfl rfl (P_add (a:=(1 : Int)) (b:=(IntKind.i64.wrap (region.tdiv (64 : Int)))) rfl rfl hg2) rfl <| aN 7 255 rfl rfl (P_move rfl) rfl <| aN 8 511 rfl rfl (P_move rfl) rfl <| aN 9 1023 rfl rfl (P_quoT (a:=region) (b:=(64 : Int)) rfl rfl (by decide)) rfl ?_
  obtain ⟨hg3,h⟩ := grd_de h
  refine aV 10 2047 rfl rfl (GY_none rfl) eR (V_index (i:=((IntKind.i64.wrap (region.tdiv (64 : Int)))).toNat) rfl rfl (Int.toNat_of_nonneg (hg3.1)).symm (by omega) foc4 (Reads.sl _ _ _) Tryz.runUnderlying29 Tryz.sizeOf23) rfl <| aV 11 4095 rfl rfl (GY_none rfl) eR (V_loadE rfl rfl (by omega) foc4 (Reads.sl _ _ _) rfl rfl Tryz.isAgg23) rfl <| aN 12 8191 rfl rfl (P_nilCheckI rfl) rfl <| aN 13 16383 rfl rfl (P_move rfl) rfl <| AJ_pure (fun h hh=>DevP_dep h (stars_perm (del1 (A:=DevP bs l.x oc8.1)).out h hh)) fun hdp11 => ?_
  obtain ⟨r12,hr13,h⟩ := bind_e h
  refine AJ_op 14 32767 rfl (by kernel_rfl) rfl (GY_none rfl) <| O_callI rfl (dev_Write hr13 hdp11) rfl (Dels.cons del1 (Dels.cons del4 Dels.nil)) rfl fun _ _=>⟨fun h=>absurd h (by decide),?_⟩
  refine aN 15 65535 rfl rfl (P_assign rfl) rfl <| AJ_done (by kernel_rfl) <| QJ_ent (Ent.trans (t0_ eR) (fun h hh=>stars_dup Dup_DevP hh)) <| QJ_ent (Ent.trans (t3_ (t0_ (t2_ (t2_ eR)))) (LogP_mk (v0:=l.x) (v1:=l.regions) (v2:=l.bits) (v3:=l.durable) (h0:=oc8.1) (h1:=oc8.2.1) (h2:=oc8.2.2))) <| QJ_then <| CJ_seq <| sR <| oM rfl rfl <| oP (P_eql (a:=r12.1) (b:=(0 : Int)) rfl rfl) rfl <| oM rfl rfl <| RJ_mbF rfl rfl rfl (fun hG15=>have hP16 : ¬ (r12.1=(0 : Int)) := nP (bT_dec) hG15; VJ_P (P_move rfl)) <| oP (P_pickOr rfl rfl (fun hh=>mbx (not_f hh) rfl)) rfl <| nT <| CJ_condP rfl (bT_or bT_dec Iff.rfl) (fun hg4 => ?_) (fun hg4 => ?_)
  ·
   replace h := ite_t hg4 h
   refine CJ_entX (Ent.transX (t0_ eR) (LogP_open (l:=l))) fun oc17=>CJ_pure (len_of (Reads.rdp _ _ _) del2) fun hlen19=>CJ_region <| oM rfl rfl <| oM rfl rfl <| oP (P_nilCheck rfl) rfl <| oP (P_fieldAddr rfl ⟨_,_,_,Tryz.runUnderlying156,rfl,rfl,Tryz.sizeOf29,rfl⟩) rfl <| oO <| O_store rfl rfl foc0 rfl rfl Tryz.sizeOf29 <| RJ_nil <| QJ_pure (reads_sl3 (Reads.sl _ _ _) del6) fun hsv21 => ?_
   obtain ⟨sv20,hsv21⟩ := hsv21
   refine QJ_ent (Ent.trans (t6_ eR) (RdP_mk (t:=tyU) (v:=Sl3.v sv20) (xs:=r4.1) (hsv21 ▸ (Reads.sl _ _ _)))) <| QJ_ent (Ent.trans (Ent.takeC del1 (congrArg (fun z=>blk bl 156 [IfH.v oc17.1,.int .i64 l.regions,z,.map (some oc17.2.2)]) hsv21) (t1_ (t0_ (t1_ eR)))) (LogP_mk (v0:=l.x) (v1:=l.regions) (v2:=r4.1) (v3:=l.durable) (h0:=oc17.1) (h1:=sv20) (h2:=oc17.2.2))) <| QJ_then <| sR <| oM rfl rfl <| oA rfl rfl <| nT <| CJ_ret ?_
   cases h
   exact fE (res1 Tryz.results106 rfl) () (t0_ (t2_ (eD (eD eR))))
  ·
   replace h := ite_f hg4 h
   refine kT <| sR <| oM rfl rfl <| oA rfl rfl <| nT <| CJ_ret ?_
   cases h
   exact fE (res1 Tryz.results106 rfl) () (t0_ (t1_ (eD (eD eR))))
def regionlog_Log_Mark (l : LogS) (region : Int) (s : ArrS) : Option (Int × LogS × ArrS) :=
  if ((region < (0 : Int))∨(l.regions≤region)) then
    some (((1 : Int),l,s))
  else
    if ((lookM l.durable region)).isSome=true then
      some (((0 : Int),l,s))
    else
      Option.bind (regionlog_Log_set l region true true s) fun r17 =>
      if (r17.1≠(0 : Int)) then
        some (r17.1,r17.2.1,r17.2.2)
      else
        Option.bind (Dvc.fl r17.2.1.x r17.2.2) fun r23 =>
        if (r23.1≠(0 : Int)) then
          some (r23.1,r17.2.1,r23.2)
        else
          some (((0 : Int), { r17.2.1 with durable := (setM r17.2.1.durable region ()) },r23.2))
theorem L_regionlog_Log_Mark {W : World} {bl : Nat} {bs : Nat} {l : LogS} {region : Int} {s : ArrS} {r : Int × LogS × ArrS} (h : regionlog_Log_Mark l region s=some r) :
    CSpec Tryz.prog W 137 [ptr bl 0,.int .i64 region] [LogP bs bl l,Arr bs s] (fun x : Unit => .int .i64 r.1) (fun _=>True) (fun x F=>LogP bs bl r.2.1::Arr bs r.2.2::F) := by
 refine CSpec.of_body Tryz.func137 rfl Tryz.ntmps137 rfl fun F => ?_
 show CJ _ _ _ _ _ _ (_::_::F)
 unfold regionlog_Log_Mark at h
 refine sR <| oA rfl rfl <| nT <| CJ_seq <| sR <| oM rfl rfl <| oP (P_lss (a:=region) (b:=(0 : Int)) rfl rfl) rfl <| oM rfl rfl <| RJ_mbF rfl rfl rfl (fun hG1=>have hP2 : ¬ (region < (0 : Int)) := nP (bT_dec) hG1; VJ_P (P_move rfl)) <| RJ_mbF rfl rfl rfl (fun hG3=>have hP4 : ¬ (region < (0 : Int)) := nP (bT_dec) hG3; VJ_P (P_move rfl)) <| RJ_mbF rfl rfl rfl (fun hG5=>have hP6 : ¬ (region < (0 : Int)) := nP (bT_dec) hG5; VJ_P (P_nilCheck (mbx hG5 rfl))) <| RJ_mbF rfl rfl rfl (fun hG7=>have hP8 : ¬ (region < (0 : Int)) := nP (bT_dec) hG7; VJ_P (P_fieldAddr (mbx hG7 rfl) ⟨_,_,_,Tryz.runUnderlying156,rfl,rfl,Tryz.sizeOf3,rfl⟩)) <| RJ_mbF rfl rfl rfl (fun hG9=>have hP10 : ¬ (region < (0 : Int)) := nP (bT_dec) hG9; VJ_entX (Ent.transX (t0_ eR) (LogP_open (l:=l))) (fun _=>V_load (mbx hG9 rfl) foc0 rfl Tryz.isAgg3)) <| RJ_mbF rfl rfl rfl (fun hG11=>have hP12 : ¬ (region < (0 : Int)) := nP (bT_dec) hG11; VJ_P (P_geq (a:=region) (b:=l.regions) (mbx hG11 rfl) (mbx hG11 rfl))) <| oP (P_pickOr rfl rfl (fun hh=>mbx (not_f hh) rfl)) rfl <| nT <| CJ_condP rfl (bT_or bT_dec bT_dec) (fun hg1 => ?_) (fun hg1 => ?_)
 ·
  replace h := ite_t hg1 h
  refine sR <| oA rfl rfl <| nT <| CJ_ret <| QJ_then_ret ?_
  cases h
  exact fE (res1 Tryz.results137 rfl) () eR
 ·
  replace h := ite_f hg1 h
  refine kT <| CJ_seq <| CJ_seq <| CJ_entX (Ent.transX (t0_ eR) (LogP_open (l:=l))) fun oc13=>CJ_pure (len_of (Reads.rdp _ _ _) del2) fun hlen15=>CJ_region <| oM rfl rfl <| oP (P_nilCheck rfl) rfl <| oP (P_fieldAddr rfl ⟨_,_,_,Tryz.runUnderlying156,rfl,rfl,Tryz.sizeOf154,rfl⟩) rfl <| oV (V_load rfl foc0 rfl Tryz.isAgg154) rfl <| oM rfl rfl <| oV (V_lookup2 (M:=mp154) (k:=region) (z := .agg #[]) (out:=fun o => .agg #[]) rfl rfl foc3 ok_mp154 Tryz.zeroValue185 (fun _=>rfl) rfl) rfl <| oM rfl rfl <| oP (P_extract rfl rfl) rfl <| oP (P_extract rfl rfl) rfl <| oO <| O_alloc Tryz.zeroValue185 rfl rfl fun b16=>oO <| O_storeN rfl rfl foc0 Tryz.sizeOf185 rfl rfl rfl <| oA rfl rfl <| RJ_nil <| QJ_ent (Ent.trans (t1_ (t1_ (t1_ (t1_ eR)))) (LogP_mk (v0:=l.x) (v1:=l.regions) (v2:=l.bits) (v3:=l.durable) (h0:=oc13.1) (h1:=oc13.2.1) (h2:=oc13.2.2))) <| QJ_then <| sR <| oM rfl rfl <| nT <| CJ_condP rfl Iff.rfl (fun hg2 => ?_) (fun hg2 => ?_)
  ·
   replace h := ite_t hg2 h
   refine sR <| oA rfl rfl <| nT <| CJ_ret <| QJ_then_ret ?_
   cases h
   exact fE (res1 Tryz.results137 rfl) () (t0_ (t1_ (eD eR)))
  ·
   replace h := ite_f hg2 h
   refine kT <| CJ_seq <| sR <| oM rfl rfl <| oM rfl rfl ?_
   obtain ⟨r17,hr18,h⟩ := bind_e h
   refine oO <| O_call (L_regionlog_Log_set hr18) rfl Tryz.call106 (Dels.cons del0 (Dels.cons del1 Dels.nil)) rfl fun _ _=>oA rfl rfl <| nT <| sR <| oM rfl rfl <| oP (P_neq (a:=r17.1) (b:=(0 : Int)) rfl rfl) rfl <| nT <| CJ_condP rfl bT_dec (fun hg3 => ?_) (fun hg3 => ?_)
   ·
    replace h := ite_t hg3 h
    refine sR <| oM rfl rfl <| oA rfl rfl <| nT <| CJ_ret <| QJ_then_ret ?_
    cases h
    exact fE (res1 Tryz.results137 rfl) () (t0_ (t0_ (eD eR)))
   ·
    replace h := ite_f hg3 h
    refine kT <| CJ_seq <| CJ_seq <| CJ_entX (Ent.transX (t0_ eR) (LogP_open (l:=r17.2.1))) fun oc19=>CJ_pure (len_of (Reads.rdp _ _ _) del2) fun hlen21=>CJ_region <| oM rfl rfl <| oP (P_nilCheck rfl) rfl <| oP (P_fieldAddr rfl ⟨_,_,_,Tryz.runUnderlying156,rfl,rfl,Tryz.sizeOf96,rfl⟩) rfl <| oV (V_load rfl foc0 rfl Tryz.isAgg96) rfl <| RJ_pure (fun h hh=>DevP_dep h (stars_perm (del1 (A:=DevP bs r17.2.1.x oc19.1)).out h hh)) fun hdp22 => ?_
    obtain ⟨r23,hr24,h⟩ := bind_e h
    refine oO <| O_callI rfl (dev_Flush hr24 hdp22) rfl (Dels.cons del1 (Dels.cons del3 Dels.nil)) rfl fun _ _=>oA rfl rfl <| RJ_nil <| QJ_ent (Ent.trans (t0_ eR) (fun h hh=>stars_dup Dup_DevP hh)) <| QJ_ent (Ent.trans (t3_ (t0_ (t2_ (t2_ eR)))) (LogP_mk (v0:=r17.2.1.x) (v1:=r17.2.1.regions) (v2:=r17.2.1.bits) (v3:=r17.2.1.durable) (h0:=oc19.1) (h1:=oc19.2.1) (h2:=oc19.2.2))) <| QJ_then <| sR <| oM rfl rfl <| oP (P_neq (a:=r23.1) (b:=(0 : Int)) rfl rfl) rfl <| nT <| CJ_condP rfl bT_dec (fun hg4 => ?_) (fun hg4 => ?_)
    ·
     replace h := ite_t hg4 h
     refine sR <| oM rfl rfl <| oA rfl rfl <| nT <| CJ_ret <| QJ_then_ret ?_
     cases h
     exact fE (res1 Tryz.results137 rfl) () (t0_ (t1_ (eD (eD eR))))
    ·
     replace h := ite_f hg4 h
     refine kT <| CJ_seq <| CJ_entX (Ent.transX (t0_ eR) (LogP_open (l:=r17.2.1))) fun oc26=>CJ_pure (len_of (Reads.rdp _ _ _) del2) fun hlen28=>CJ_region <| oM rfl rfl <| oP (P_nilCheck rfl) rfl <| oP (P_fieldAddr rfl ⟨_,_,_,Tryz.runUnderlying156,rfl,rfl,Tryz.sizeOf154,rfl⟩) rfl <| oV (V_load rfl foc0 rfl Tryz.isAgg154) rfl <| oM rfl rfl <| oP (P_build rfl (bld_185)) rfl <| oO <| O_mapUpdate (M:=mp154) (k:=region) (v:=()) rfl rfl rfl foc3 ok_mp154 <| RJ_nil <| QJ_ent (Ent.trans eR (LogP_mk (v0:=r17.2.1.x) (v1:=r17.2.1.regions) (v2:=r17.2.1.bits) (v3:=(setM r17.2.1.durable region ())) (h0:=oc26.1) (h1:=oc26.2.1) (h2:=oc26.2.2))) <| QJ_then <| sR <| oA rfl rfl <| nT <| CJ_ret ?_
     cases h
     exact fE (res1 Tryz.results137 rfl) () (t0_ (t1_ (eD (eD eR))))
def regionlog_Log_Clear (l : LogS) (region : Int) (s : ArrS) : Option (Int × LogS × ArrS) :=
  if ((region < (0 : Int))∨(l.regions≤region)) then
    some (((1 : Int),l,s))
  else
    Option.bind (regionlog_Log_set ({ l with durable := (delM l.durable region) }) region false false s) fun r16 =>
    some (r16.1,r16.2.1,r16.2.2)
theorem L_regionlog_Log_Clear {W : World} {bl : Nat} {bs : Nat} {l : LogS} {region : Int} {s : ArrS} {r : Int × LogS × ArrS} (h : regionlog_Log_Clear l region s=some r) :
    CSpec Tryz.prog W 77 [ptr bl 0,.int .i64 region] [LogP bs bl l,Arr bs s] (fun x : Unit => .int .i64 r.1) (fun _=>True) (fun x F=>LogP bs bl r.2.1::Arr bs r.2.2::F) := by
 refine CSpec.of_body Tryz.func77 rfl Tryz.ntmps77 rfl fun F => ?_
 show CJ _ _ _ _ _ _ (_::_::F)
 unfold regionlog_Log_Clear at h
 refine sR <| oA rfl rfl <| nT <| CJ_seq <| sR <| oM rfl rfl <| oP (P_lss (a:=region) (b:=(0 : Int)) rfl rfl) rfl <| oM rfl rfl <| RJ_mbF rfl rfl rfl (fun hG1=>have hP2 : ¬ (region < (0 : Int)) := nP (bT_dec) hG1; VJ_P (P_move rfl)) <| RJ_mbF rfl rfl rfl (fun hG3=>have hP4 : ¬ (region < (0 : Int)) := nP (bT_dec) hG3; VJ_P (P_move rfl)) <| RJ_mbF rfl rfl rfl (fun hG5=>have hP6 : ¬ (region < (0 : Int)) := nP (bT_dec) hG5; VJ_P (P_nilCheck (mbx hG5 rfl))) <| RJ_mbF rfl rfl rfl (fun hG7=>have hP8 : ¬ (region < (0 : Int)) := nP (bT_dec) hG7; VJ_P (P_fieldAddr (mbx hG7 rfl) ⟨_,_,_,Tryz.runUnderlying156,rfl,rfl,Tryz.sizeOf3,rfl⟩)) <| RJ_mbF rfl rfl rfl (fun hG9=>have hP10 : ¬ (region < (0 : Int)) := nP (bT_dec) hG9; VJ_entX (Ent.transX (t0_ eR) (LogP_open (l:=l))) (fun _=>V_load (mbx hG9 rfl) foc0 rfl Tryz.isAgg3)) <| RJ_mbF rfl rfl rfl (fun hG11=>have hP12 : ¬ (region < (0 : Int)) := nP (bT_dec) hG11; VJ_P (P_geq (a:=region) (b:=l.regions) (mbx hG11 rfl) (mbx hG11 rfl))) <| oP (P_pickOr rfl rfl (fun hh=>mbx (not_f hh) rfl)) rfl <| nT <| CJ_condP rfl (bT_or bT_dec bT_dec) (fun hg1 => ?_) (fun hg1 => ?_)
 ·
  replace h := ite_t hg1 h
  refine sR <| oA rfl rfl <| nT <| CJ_ret <| QJ_then_ret ?_
  cases h
  exact fE (res1 Tryz.results77 rfl) () eR
 ·
  replace h := ite_f hg1 h
  refine kT <| CJ_seq <| CJ_entX (Ent.transX (t0_ eR) (LogP_open (l:=l))) fun oc13=>CJ_pure (len_of (Reads.rdp _ _ _) del2) fun hlen15=>CJ_region <| oM rfl rfl <| oP (P_nilCheck rfl) rfl <| oP (P_fieldAddr rfl ⟨_,_,_,Tryz.runUnderlying156,rfl,rfl,Tryz.sizeOf154,rfl⟩) rfl <| oV (V_load rfl foc0 rfl Tryz.isAgg154) rfl <| oM rfl rfl <| oO <| O_delete (M:=mp154) (k:=region) rfl rfl foc3 ok_mp154 <| RJ_nil <| QJ_ent (Ent.trans eR (LogP_mk (v0:=l.x) (v1:=l.regions) (v2:=l.bits) (v3:=(delM l.durable region)) (h0:=oc13.1) (h1:=oc13.2.1) (h2:=oc13.2.2))) <| QJ_then <| sR <| oM rfl rfl <| oM rfl rfl ?_
  obtain ⟨r16,hr17,h⟩ := bind_e h
  refine oO <| O_call (L_regionlog_Log_set hr17) rfl Tryz.call106 (Dels.cons del0 (Dels.cons del0 Dels.nil)) rfl fun _ _=>oA rfl rfl <| nT <| CJ_ret ?_
  cases h
  exact fE (res1 Tryz.results77 rfl) () eR
def regionlog_Log_IsDirty (l : LogS) (region : Int) (s : ArrS) : Option (Bool) :=
  if ((region < (0 : Int))∨(l.regions≤region)) then
    some false
  else
    Option.bind (pack_Bit l.bits region) fun r16 =>
    some r16.1
theorem L_regionlog_Log_IsDirty {W : World} {bl : Nat} {bs : Nat} {l : LogS} {region : Int} {s : ArrS} {r : Bool} (h : regionlog_Log_IsDirty l region s=some r) :
    CSpec Tryz.prog W 105 [ptr bl 0,.int .i64 region] [LogP bs bl l,Arr bs s] (fun x : Unit => .bool r) (fun _=>True) (fun x F=>LogP bs bl l::Arr bs s::F) := by
 refine CSpec.of_body Tryz.func105 rfl Tryz.ntmps105 rfl fun F => ?_
 show CJ _ _ _ _ _ _ (_::_::F)
 unfold regionlog_Log_IsDirty at h
 refine sR <| oA rfl rfl <| nT <| CJ_seq <| sR <| oM rfl rfl <| oP (P_lss (a:=region) (b:=(0 : Int)) rfl rfl) rfl <| oM rfl rfl <| RJ_mbF rfl rfl rfl (fun hG1=>have hP2 : ¬ (region < (0 : Int)) := nP (bT_dec) hG1; VJ_P (P_move rfl)) <| RJ_mbF rfl rfl rfl (fun hG3=>have hP4 : ¬ (region < (0 : Int)) := nP (bT_dec) hG3; VJ_P (P_move rfl)) <| RJ_mbF rfl rfl rfl (fun hG5=>have hP6 : ¬ (region < (0 : Int)) := nP (bT_dec) hG5; VJ_P (P_nilCheck (mbx hG5 rfl))) <| RJ_mbF rfl rfl rfl (fun hG7=>have hP8 : ¬ (region < (0 : Int)) := nP (bT_dec) hG7; VJ_P (P_fieldAddr (mbx hG7 rfl) ⟨_,_,_,Tryz.runUnderlying156,rfl,rfl,Tryz.sizeOf3,rfl⟩)) <| RJ_mbF rfl rfl rfl (fun hG9=>have hP10 : ¬ (region < (0 : Int)) := nP (bT_dec) hG9; VJ_entX (Ent.transX (t0_ eR) (LogP_open (l:=l))) (fun _=>V_load (mbx hG9 rfl) foc0 rfl Tryz.isAgg3)) <| RJ_mbF rfl rfl rfl (fun hG11=>have hP12 : ¬ (region < (0 : Int)) := nP (bT_dec) hG11; VJ_P (P_geq (a:=region) (b:=l.regions) (mbx hG11 rfl) (mbx hG11 rfl))) <| oP (P_pickOr rfl rfl (fun hh=>mbx (not_f hh) rfl)) rfl <| nT <| CJ_condP rfl (bT_or bT_dec bT_dec) (fun hg1 => ?_) (fun hg1 => ?_)
 ·
  replace h := ite_t hg1 h
  refine sR <| oA rfl rfl <| nT <| CJ_ret <| QJ_then_ret ?_
  cases h
  exact fE (res1 Tryz.results105 rfl) () eR
 ·
  replace h := ite_f hg1 h
  refine kT <| CJ_seq <| CJ_entX (Ent.transX (t0_ eR) (LogP_open (l:=l))) fun oc13=>CJ_pure (len_of (Reads.rdp _ _ _) del2) fun hlen15=>CJ_region <| oM rfl rfl <| oP (P_nilCheck rfl) rfl <| oP (P_fieldAddr rfl ⟨_,_,_,Tryz.runUnderlying156,rfl,rfl,Tryz.sizeOf29,rfl⟩) rfl <| oV (V_load rfl foc0 rfl Tryz.isAgg29) rfl <| oM rfl rfl ?_
  obtain ⟨r16,hr17,h⟩ := bind_e h
  refine oO <| O_call (L_pack_Bit (Reads.rdp _ _ _) hr17) rfl Tryz.call114 (Dels.cons del2 Dels.nil) rfl fun _ _=>oM rfl rfl <| oP (P_extract rfl rfl) rfl <| oP (P_extract rfl rfl) rfl <| oA rfl rfl <| oA rfl rfl <| RJ_nil <| QJ_ent (Ent.trans (t1_ (t1_ eR)) (LogP_mk (v0:=l.x) (v1:=l.regions) (v2:=l.bits) (v3:=l.durable) (h0:=oc13.1) (h1:=oc13.2.1) (h2:=oc13.2.2))) <| QJ_then <| sR <| oM rfl rfl <| oA rfl rfl <| nT <| CJ_ret ?_
  cases h
  exact fE (res1 Tryz.results105 rfl) () eR
def regionlog_Log_Dirty_l1_b (l : LogS) (s : ArrS) (rec : (List Int)→Nat→Option ((List Int))) (x8 : List Int) (x10 : Nat) : Option ((List Int)) :=
  if (((x10 : Nat) : Int) < l.regions) then
    Option.bind (regionlog_Log_IsDirty l (((x10 : Nat) : Int)) s) fun r12 =>
    if r12=true then
      grd (inLen (x8.length + 1)) <|
      grd (inN64 (x10 + 1)) <|
      rec ((x8 ++ [((x10 : Nat) : Int)])) (x10 + 1)
    else
      grd (inN64 (x10 + 1)) <|
      rec x8 (x10 + 1)
  else
    some x8
def regionlog_Log_Dirty_l1 (l : LogS) (s : ArrS) : Nat→(List Int)→Nat→Option ((List Int))
  | 0,_,_=>none
  | n + 1,x8,x10=>regionlog_Log_Dirty_l1_b l s (regionlog_Log_Dirty_l1 l s n) x8 x10
def regionlog_Log_Dirty (l : LogS) (s : ArrS) : Option ((List Int)) :=
  Option.bind (regionlog_Log_Dirty_l1 l s FUEL ([]) 0) fun a7 =>
  some a7
theorem L_regionlog_Log_Dirty {W : World} {bl : Nat} {bs : Nat} {l : LogS} {s : ArrS} {r : (List Int)} (h : regionlog_Log_Dirty l s=some r) :
    CSpec Tryz.prog W 75 [ptr bl 0] [LogP bs bl l,Arr bs s] (fun x : Sl3=>x.v) (fun _=>True) (fun x F=>LogP bs bl l::Arr bs s::sl tyI x.v r::F) := by
 refine CSpec.of_body Tryz.func75 rfl Tryz.ntmps75 rfl fun F => ?_
 show CJ _ _ _ _ _ _ (_::_::F)
 unfold regionlog_Log_Dirty at h
 refine sR <| oA rfl rfl <| nT <| sR <| oA rfl rfl <| nT <| CJ_seq <| sR <| oM rfl rfl <| oP (P_nilCheck rfl) rfl <| oP (P_fieldAddr rfl ⟨_,_,_,Tryz.runUnderlying156,rfl,rfl,Tryz.sizeOf3,rfl⟩) rfl <| oV (VJ_entX (Ent.transX (t0_ eR) (LogP_open (l:=l))) (fun _=>V_load rfl foc0 rfl Tryz.isAgg3)) rfl <| oM rfl rfl <| nT <| CJ_ent (fun h hh=>sl_nil (t:=tyI) h hh) ?_
 obtain ⟨y4,hl2,hK3⟩ := bind_c h
 refine CJ_cutT (X:=(List Int) × Sl3) [3,4,9,10,11,12,13,14,15,16,17,18,19] (fun ⟨a7,hd6⟩=>([(3,hd6.v)] : Slots)) (fun ⟨a7,hd6⟩ R=>sl tyI hd6.v a7::R) (fun ⟨a7,hd6⟩=>y4=a7) (Dels.cons del0 Dels.nil) ?_ ?_
 ·
  refine CJ_block <| CJ_loopR (X:=Nat × (List Int) × Nat × Sl3) [3,4,9,10,11,12,13,14,15,16,17,18,19] (fun ⟨n,x8,x10,hd9⟩=>([(3,hd9.v),(9,.int .i64 (((x10 : Nat) : Int)))] : Slots)) (fun ⟨n,x8,x10,hd9⟩ R=>sl tyI hd9.v x8::R) (fun ⟨n,x8,x10,hd9⟩=>regionlog_Log_Dirty_l1 l s n x8 x10=some y4) (fun ⟨n,x8,x10,hd9⟩=>n) ⟨FUEL,[],0,⟨none,0,0⟩⟩ ?_ ?_ eR ?_
  · exact hl2
  · exact ⟨rfl,rfl,True.intro⟩
  ·
   rintro ⟨n,x8,x10,hd9⟩ h
   cases n with
   | zero=>exact none_e h
   | succ n => ?_
   replace h : regionlog_Log_Dirty_l1_b l s (regionlog_Log_Dirty_l1 l s n) x8 x10=some y4 := h
   unfold regionlog_Log_Dirty_l1_b at h
   show CJ _ _ _ _ _ (([(3,hd9.v),(9,.int .i64 (((x10 : Nat) : Int)))] : Slots) ++ forget _ _) (sl tyI hd9.v x8::_)
   refine lC del0 fun hlen11=>sR <| oP (P_lss (a:=((x10 : Nat) : Int)) (b:=l.regions) rfl rfl) rfl <| nT <| CJ_seq <| CJ_condP rfl bT_dec (fun hg1 => ?_) (fun hg1 => ?_)
   ·
    replace h := ite_t hg1 h
    refine kT <| CJ_seq <| CJ_block <| sR <| oM rfl rfl <| oA rfl rfl <| nT <| sR <| oM rfl rfl <| oM rfl rfl ?_
    obtain ⟨r12,hr13,h⟩ := bind_e h
    refine oO <| O_call (L_regionlog_Log_IsDirty hr13) rfl Tryz.call105 (Dels.cons del1 (Dels.cons del1 Dels.nil)) rfl fun _ _=>nT <| CJ_condP rfl Iff.rfl (fun hg2 => ?_) (fun hg2 => ?_)
    ·
     replace h := ite_t hg2 h
     refine CJ_region <| oM rfl rfl <| oM rfl rfl <| oO <| O_buildSlice rfl (bs_45_1_0 _) rfl fun b14 => ?_
     obtain ⟨hg3,h⟩ := grd_Le h
     refine oO <| O_append (t:=tyI) (bytes:=8) rfl rfl del3 foc0 (Reads.lit (t:=tyI) (ys:=[((x10 : Nat) : Int)]) rfl rfl (by decide) (by decide) rfl) Tryz.underlying45 ok_tyI (apl (m:=1) (b:=8) hg3 (by decide)).1 (apl (m:=1) (b:=8) hg3 (by decide)).2 rfl fun p16 c17=>oA rfl rfl <| RJ_nil <| QJ_block_normal <| QJ_then <| CJ_region ?_
     obtain ⟨hg4,h⟩ := grd_Ne h
     exact oP (PJ_eq (P_add (a:=((x10 : Nat) : Int)) (b:=(1 : Int)) rfl rfl (nat_in hg4)) rfl) rfl <| oM rfl rfl <| RJ_nil <| nR ⟨n,(x8 ++ [((x10 : Nat) : Int)]),(x10 + 1),⟨p16,(x8 ++ [((x10 : Nat) : Int)]).length,c17⟩⟩ h ⟨rfl,rfl,True.intro⟩ (t0_ (t1_ (t1_ (eD eR))))
    ·
     replace h := ite_f hg2 h
     refine CJ_skip <| QJ_block_normal <| QJ_then <| CJ_region ?_
     obtain ⟨hg5,h⟩ := grd_Ne h
     exact oP (PJ_eq (P_add (a:=((x10 : Nat) : Int)) (b:=(1 : Int)) rfl rfl (nat_in hg5)) rfl) rfl <| oM rfl rfl <| RJ_nil <| nR ⟨n,x8,(x10 + 1),hd9⟩ h ⟨rfl,rfl,True.intro⟩ (t2_ eR)
   ·
    replace h := ite_f hg1 h
    exact CJ_exit <| QJ_then_exit <| QJ_round_exit <| QJ_block_here <| cR ⟨x8,hd9⟩ (Option.some.inj h).symm ⟨rfl,True.intro⟩ eR
 ·
  rintro ⟨a7,hd6⟩ hy18
  replace h := bindK_at hK3 hy18
  show CJ _ _ _ _ _ (([(3,hd6.v)] : Slots) ++ forget _ _) (sl tyI hd6.v a7::_)
  refine lC del0 fun hlen19=>sR <| oM rfl rfl <| oA rfl rfl <| nT <| CJ_ret ?_
  cases h
  exact fE (res1 Tryz.results75 rfl) hd6 (t1_ (t1_ eR))
end Go.Proofs
namespace Go.Proofs
open Go.VG
abbrev xL (d m : Nat) : Dvc := Dvc.span (d : Int) ((0 : Nat) : Int) (m : Int)
def headL (R : Nat) : UInt64 := (5498691735368237056 : UInt64) + to_u64 (R : Int)
def nW (R : Nat) : Nat := (R + 63) / 64
theorem wordsI {r : Int} : regionlog_Words r=some (if r < 1∨1048576 < r then 0 else 1 + (r + 63) / 64) := by unfold regionlog_Words; split <;> rfl
theorem wordsN {R : Nat} (hR : 1≤R∧R≤1048576) : regionlog_Words (R : Int)=some (((1 + nW R : Nat) : Int)) := by
  rw [wordsI,if_neg (by omega)]; exact congrArg some (by unfold nW; omega)
section
variable {ns : List Nat} {K d m : Nat} {s : ArrS}
theorem log_rd (hd : d < ns.length) (hm : ns.getD d 0=m) (hb : m≤1000000) (h : ArrOk ns K s) (hdn : s.down=false) (hms : miss s d=false) {k : Nat} (hk : k < m) : (xL d m).rd s (k : Int)=some (now s d k,0) := by
  obtain ⟨h1,h2⟩ := h.rdA hdn hd (a:=k) (by rw [hm]; exact hk) hms
  rw [span_rd (by omega) (by omega),if_pos (by omega)]
  have e : ((0 : Nat) : Int) + (k : Int)=((k : Nat) : Int) := by omega
  rw [e,h1,h2]
theorem log_wr (hd : d < ns.length) (hm : ns.getD d 0=m) (hb : m≤1000000) (h : ArrOk ns K s) (hK : K≤1000000) {k : Nat} {v : UInt64} (hk : k < m) : (xL d m).wr s (k : Int) v=some (wrR s d k,wrS s d k v) := by
  rw [span_wr (by omega) (by omega) (by have := h.wr; omega),if_pos (by omega)]
  have e : ((0 : Nat) : Int) + (k : Int)=((k : Nat) : Int) := by omega
  rw [e]
theorem log_fl (hd : d < ns.length) (hm : ns.getD d 0=m) (hb : m≤1000000) (h : ArrOk ns K s) (hK : K≤1000000) : (xL d m).fl s=some (flC s d,flS s d) := span_fl (by have := h.wr; omega)
def zs (d : Nat) (s : ArrS) : Nat→ArrS
  | 0=>s
  | i + 1=>wrS (zs d s i) d ((1 + i : Nat) : Int) 0
structure Zd (ns : List Nat) (K d : Nat) (s : ArrS) (i : Nat) (t : ArrS) : Prop where
  ok : ArrOk ns (K + i) t
  dn : t.down=false
  fuse : t.fuse=0
  miss : ∀ e,Go.Proofs.miss t e=Go.Proofs.miss s e
  now : ∀ e b,Go.Proofs.now t e b=if e=d∧1≤b∧b < 1 + i then 0 else Go.Proofs.now s e b
  other : ∀ e b,e≠d→cand t e b=cand s e b
theorem zs_ok (hd : d < ns.length) (hm : ns.getD d 0=m) (hb : m≤1000000) (h : ArrOk ns K s) (hdn : s.down=false) (hms : miss s d=false) (hf : s.fuse=0) : ∀ {i : Nat},1 + i≤m→K + i≤1000000→Zd ns K d s i (zs d s i)
  | 0,_,_=>⟨h,hdn,hf,fun _=>rfl,fun e b=>by rw [if_neg (by omega)]; rfl,fun _ _ _=>rfl⟩
  | i + 1,hi,hK=>by
    have hz := zs_ok hd hm hb h hdn hms hf (i:=i) (by omega) (by omega)
    rcases hz.ok.wrA (d:=d) (a:=1 + i) (v:=0) (by omega) hz.dn hd (by rw [hm]; omega) (by rw [hz.miss]; exact hms) with ⟨h1,h2,h3⟩ | ⟨h1, -⟩
    · refine ⟨h3.ok,h3.dn,by show (wrS _ _ _ _).fuse=0; rw [h3.fuse,hz.fuse],fun e=>by show miss (wrS _ _ _ _) e=_; rw [h3.miss,hz.miss],fun e b => ?_,fun e b he => ?_⟩
      · show now (wrS _ _ _ _) e b=_
        rw [h3.now,hz.now]
        by_cases h4 : d=e∧1 + i=b
        · rw [if_pos h4,if_pos (by omega)]
        · rw [if_neg h4]
          by_cases h5 : e=d∧1≤b∧b < 1 + i
          · rw [if_pos h5,if_pos (by omega)]
          · rw [if_neg h5,if_neg (by omega)]
      · show cand (wrS _ _ _ _) e b=_
        rw [h3.cand,if_neg (fun x=>he x.1.symm),hz.other e b he]
    · rw [hz.fuse] at h1; cases h1
structure Fresh (ns : List Nat) (K d m R : Nat) (s t : ArrS) : Prop where
  ok : ArrOk ns K t
  dn : t.down=false
  fuse : t.fuse=0
  miss : ∀ e,Go.Proofs.miss t e=Go.Proofs.miss s e
  now : ∀ b,b < m→Go.Proofs.now t d b=if b=0 then headL R else if b < 1 + nW R then 0 else Go.Proofs.now s d b
  cand : ∀ b,b < m→Go.Proofs.cand t d b=[Go.Proofs.now t d b]
  other : ∀ e b,e≠d→e < ns.length→b < ns.getD e 0→Go.Proofs.now t e b=Go.Proofs.now s e b∧Go.Proofs.cand t e b=Go.Proofs.cand s e b
  last : ∃ u,Coh u∧u.drv.length=ns.length∧flC u d=0∧t=flS u d
theorem checkN (hd : d < ns.length) (hm : ns.getD d 0=m) (hb : m≤1000000) {R : Nat} (hR : 1≤R∧R≤1048576) : regionlog_check (xL d m) (R : Int) s=some (if m < 1 + nW R then 3 else 0) := by
  unfold regionlog_check
  rw [wordsN hR]; simp only [Option.bind_some]
  rw [if_neg (by omega),span_size]; simp only [Option.bind_some]
  by_cases h : m < 1 + nW R
  · rw [if_pos (by omega),if_pos h]
  · rw [if_neg (by omega),if_neg h]
theorem format_eq (hd : d < ns.length) (hm : ns.getD d 0=m) (hb : m≤1000000) (h : ArrOk ns K s) (hdn : s.down=false) (hms : miss s d=false) (hf : s.fuse=0) {R : Nat} (hR : 1≤R∧R≤1048576) (hW : 1 + nW R≤m) (hK : K + m≤1000000) :
    ∃ t,regionlog_Format (xL d m) (R : Int) s=some (0,t)∧Fresh ns (K + nW R + 1) d m R s t := by
  unfold regionlog_Format
  rw [checkN hd hm hb hR,if_neg (by omega)]; simp only [Option.bind_some]
  rw [if_neg (by decide),wordsN hR]; simp only [Option.bind_some]
  have hn16 : nW R≤16384 := by unfold nW; omega
  have e1 : ((1 + nW R : Nat) : Int) - 1=((nW R : Nat) : Int) := by omega
  rw [e1,grd_t (inI64_of (by omega)),grd_t (decide_eq_true ⟨by omega,by omega⟩),Int.toNat_natCast]
  have hz := fun i (hi : i≤nW R)=>zs_ok hd hm hb h hdn hms hf (i:=i) (by omega) (by omega)
  have hwa := writeAll_eq (x:=xL d m) (at_:=1) (m:=(m : Int)) (l:=List.replicate (nW R) 0) (st:=zs d s) rfl (by omega) ⟨by omega,by rw [List.length_replicate]; omega⟩ (fun i hi=>by
    rw [List.length_replicate] at hi
    have e2 : (1 : Int) + (i : Int)=((1 + i : Nat) : Int) := by omega
    have hzi := hz i (by omega)
    rw [e2,log_wr hd hm hb hzi.ok (by omega) (by omega)]
    have e3 : (List.replicate (nW R) (0 : UInt64)).getD i 0=0 := by simp [List.getD,hi]
    rw [e3]
    rcases hzi.ok.wrA (d:=d) (a:=1 + i) (v:=0) (by omega) hzi.dn hd (by rw [hm]; omega) (by rw [hzi.miss]; exact hms) with ⟨-,h2, -⟩ | ⟨h1, -⟩
    · rw [h2]; rfl
    · rw [hzi.fuse] at h1; cases h1)
  rw [List.length_replicate] at hwa
  have hz0 : zs d s 0=s := rfl
  rw [hz0] at hwa
  rw [hwa]; simp only [Option.bind_some]
  have hzn := hz (nW R) (Nat.le_refl _)
  rw [if_neg (by decide),log_fl hd hm hb hzn.ok (by omega)]; simp only [Option.bind_some]
  obtain ⟨f1,f2⟩ := hzn.ok.flA (d:=d) hzn.dn hd (by rw [hzn.miss]; exact hms)
  rw [if_neg (by rw [f1]; decide)]
  have e0 : (0 : Int)=((0 : Nat) : Int) := rfl
  rw [e0,log_wr hd hm hb f2.ok (by omega) (by omega)]; simp only [Option.bind_some]
  rcases f2.ok.wrA (d:=d) (a:=0) (v:=(5498691735368237056 : UInt64) + to_u64 (R : Int)) (by omega) f2.dn hd (by rw [hm]; omega) (by rw [f2.miss,hzn.miss]; exact hms) with ⟨-,g2,g3⟩ | ⟨g1, -⟩
  · rw [g2,if_neg (by decide),log_fl hd hm hb g3.ok (by omega)]; simp only [Option.bind_some]
    obtain ⟨k1,k2⟩ := g3.ok.flA (d:=d) g3.dn hd (by rw [g3.miss,f2.miss,hzn.miss]; exact hms)
    rw [k1]
    refine ⟨_,rfl,k2.ok,k2.dn,by rw [k2.fuse,g3.fuse,f2.fuse,hzn.fuse],fun e=>by rw [k2.miss,g3.miss,f2.miss,hzn.miss],fun b hbm => ?_,fun b hbm => ?_,fun e b he hel hbl => ?_,_,g3.ok.coh,g3.ok.sz.cnt,k1,rfl⟩
    · rw [k2.now,g3.now,f2.now,hzn.now]
      by_cases b0 : b=0
      · subst b0; rw [if_pos ⟨rfl,rfl⟩,if_pos rfl]; rfl
      · rw [if_neg (fun x=>b0 x.2.symm),if_neg b0]
        by_cases b1 : b < 1 + nW R
        · rw [if_pos ⟨rfl,by omega,b1⟩,if_pos b1]
        · rw [if_neg (fun x=>b1 x.2.2),if_neg b1]
    · rw [k2.cand d b hd (by rw [hm]; exact hbm),if_pos rfl,k2.now]
    · refine ⟨?_,?_⟩
      · rw [k2.now,g3.now,f2.now,hzn.now,if_neg (fun x=>he x.1.symm),if_neg (fun x=>he x.1)]
      · rw [k2.cand e b hel hbl,if_neg (fun x=>he x.symm),g3.cand,if_neg (fun x=>he x.1.symm),f2.cand e b hel hbl,if_neg (fun x=>he x.symm),hzn.other e b he]
  · rw [f2.fuse,hzn.fuse] at g1; cases g1
def openL (x : Dvc) (R : Nat) (f : Nat→UInt64) : LogS := ⟨x,(R : Int),(List.range (nW R)).map fun i=>f (1 + i),[]⟩
theorem open_eq (hd : d < ns.length) (hm : ns.getD d 0=m) (hb : m≤1000000) (h : ArrOk ns K s) (hdn : s.down=false) (hms : miss s d=false) {R : Nat} (hR : 1≤R∧R≤1048576) (hW : 1 + nW R≤m) :
    regionlog_Open (xL d m) (R : Int) s=some (if now s d 0=headL R then (some (openL (xL d m) R (now s d)),0) else (none,2)) := by
  unfold regionlog_Open
  rw [checkN hd hm hb hR,if_neg (by omega)]; simp only [Option.bind_some]
  rw [if_neg (by decide),wordsN hR]; simp only [Option.bind_some]
  rw [readAll_eq (x:=xL d m) (at_:=0) (m:=(m : Int)) (f:=now s d) rfl (by omega) ⟨by omega,by omega⟩ (fun i hi=>by
    have e : (0 : Int) + (i : Int)=((i : Nat) : Int) := by omega
    rw [e,log_rd hd hm hb h hdn hms (by omega)])]
  simp only [Option.bind_some]
  have hl : ((List.range (1 + nW R)).map (now s d)).length=1 + nW R := by simp
  have e0 : ((List.range (1 + nW R)).map (now s d)).getD 0 0=now s d 0 := getD_map_range (by omega)
  rw [if_neg (by decide),grd_t (decide_eq_true (by rw [hl]; omega)),e0]
  by_cases hh : now s d 0=headL R
  · rw [if_neg (fun x=>x hh),if_pos hh,grd_t (decide_eq_true ⟨by rw [hl]; omega,Nat.le_refl _⟩),List.take_length]
    have e2 : ((List.range (1 + nW R)).map (now s d)).drop 1=(List.range (nW R)).map fun i=>now s d (1 + i) := by
      apply List.ext_getElem (by simp)
      intro i h1 h2
      simp [Nat.add_comm]
    rw [e2]; rfl
  · rw [if_pos (show now s d 0≠(5498691735368237056 : UInt64) + to_u64 (R : Int) from hh),if_neg hh]
end
def dirtyL (l : List UInt64) (n : Nat) : List Int := ((List.range n).filter fun r=>bitR l r).map fun r=>((r : Nat) : Int)
theorem dirtyL_succ {l : List UInt64} {n : Nat} : dirtyL l (n + 1)=dirtyL l n ++ if bitR l n then [((n : Nat) : Int)] else [] := by
  unfold dirtyL
  rw [List.range_succ,List.filter_append,List.map_append]
  congr 1
  by_cases h : bitR l n=true <;> simp [h]
theorem dirtyL_le {l : List UInt64} {n : Nat} : (dirtyL l n).length≤n := by
  unfold dirtyL
  rw [List.length_map]
  exact Nat.le_trans (List.length_filter_le _ _) (by simp)
theorem isDirty_eq {l : LogS} {R : Nat} {s : ArrS} {r : Int} (hl : l.regions=(R : Int)) (hn : R≤64 * l.bits.length) (hR : R≤1048576) : regionlog_Log_IsDirty l r s=some (decide (0≤r∧r < (R : Int)) && bitR l.bits r.toNat) := by
  unfold regionlog_Log_IsDirty
  rw [hl]
  by_cases h : 0≤r∧r < (R : Int)
  · obtain ⟨k,rfl⟩ := Int.eq_ofNat_of_zero_le h.1
    rw [if_neg (by omega),packBit (by omega) (by omega)]
    simp only [Option.bind_some]
    rw [decide_eq_true h,Bool.true_and,Int.toNat_natCast]
  · rw [if_pos (by omega),decide_eq_false h,Bool.false_and]
theorem dirty_l1 {l : LogS} {R : Nat} {s : ArrS} (hl : l.regions=(R : Int)) (hn : R≤64 * l.bits.length) (hR : R≤1048576) : ∀ (N i : Nat),R - i < N→i≤R→regionlog_Log_Dirty_l1 l s N (dirtyL l.bits i) i=some (dirtyL l.bits R)
  | 0,_,h,_=>absurd h (by omega)
  | N + 1,i,h,hi=>by
    show regionlog_Log_Dirty_l1_b _ _ _ _ _=_
    unfold regionlog_Log_Dirty_l1_b
    rw [hl]
    by_cases hlt : i < R
    · have hrec := dirty_l1 hl hn hR (s:=s) N (i + 1) (by omega) (by omega)
      rw [dirtyL_succ] at hrec
      rw [if_pos (by omega),isDirty_eq hl hn hR]; simp only [Option.bind_some]
      rw [decide_eq_true (⟨by omega,by omega⟩ : 0≤(i : Int)∧(i : Int) < (R : Int)),Bool.true_and,Int.toNat_natCast]
      have hle := @dirtyL_le l.bits i
      by_cases hb : bitR l.bits i=true
      · rw [if_pos hb] at hrec
        rw [if_pos hb,grd_t (inLen_of (by omega)),grd_t (inN64_of (by omega)),hrec]
      · rw [if_neg hb,List.append_nil] at hrec
        rw [if_neg hb,grd_t (inN64_of (by omega)),hrec]
    · rw [if_neg (by omega)]
      have : i=R := by omega
      rw [this]
theorem dirty_eq {l : LogS} {R : Nat} {s : ArrS} (hl : l.regions=(R : Int)) (hn : R≤64 * l.bits.length) (hR : R≤1048576) : regionlog_Log_Dirty l s=some (dirtyL l.bits R) := by
  unfold regionlog_Log_Dirty
  have hF := fuel_big
  have h := dirty_l1 hl hn hR (s:=s) FUEL 0 (by omega) (by omega)
  have e : dirtyL l.bits 0=[] := rfl
  rw [e] at h
  rw [h]; rfl
end Go.Proofs
namespace Go.Proofs
open Go.VG
structure LogOk (d m R : Nat) (l : LogS) : Prop where
  x : l.x=xL d m
  reg : l.regions=(R : Int)
  len : l.bits.length=nW R
  nd : (l.durable.map (·.1)).Nodup
section
variable {ns : List Nat} {K d m R : Nat} {s : ArrS} {l : LogS}
theorem nW_lt {r : Nat} (hr : r < R) : r / 64 < nW R := by unfold nW; omega
theorem mark_dur {r : Nat} (hl : LogOk d m R l) (h : r < R) (hdur : (lookM l.durable (r : Int)).isSome=true) : regionlog_Log_Mark l (r : Int) s=some (0,l,s) := by
  unfold regionlog_Log_Mark
  rw [hl.reg,if_neg (by omega),if_pos hdur]
theorem set_eq (hd : d < ns.length) (hm : ns.getD d 0=m) (hb : m≤1000000) (hl : LogOk d m R l) (h : ArrOk ns K s) (hK : K≤1000000) {r : Nat} (hr : r < R) (hR : R≤1048576) (hW : 1 + nW R≤m) {is keep : Bool} : regionlog_Log_set l (r : Int) is keep s =
    some (if wrR s d ((1 + r / 64 : Nat) : Int)=0∨keep=true then (wrR s d ((1 + r / 64 : Nat) : Int), { l with bits := setR l.bits r is },wrS s d ((1 + r / 64 : Nat) : Int) ((setR l.bits r is).getD (r / 64) 0)) else (wrR s d ((1 + r / 64 : Nat) : Int),l,wrS s d ((1 + r / 64 : Nat) : Int) ((setR l.bits r is).getD (r / 64) 0))) := by
  unfold regionlog_Log_set
  have hw := nW_lt hr
  have hn : nW R≤16384 := by unfold nW; omega
  have hlen := hl.len
  rw [packSetBit (by omega) (by omega) (by omega)]; simp only [Option.bind_some]
  have e : (1 : Int) + ((r / 64 : Nat) : Int)=((1 + r / 64 : Nat) : Int) := by omega
  rw [if_neg (by decide),div64 (by omega),e,grd_t (inI64_of (by omega)),grd_t (decide_eq_true ⟨by omega,by rw [setR_length]; omega⟩),Int.toNat_natCast,hl.x,log_wr hd hm hb h hK (by omega)]
  simp only [Option.bind_some]
  by_cases hc : wrR s d ((1 + r / 64 : Nat) : Int)=0∨keep=true
  · rw [if_pos hc,if_pos hc]
  · rw [if_neg hc,if_neg hc]
theorem mark_out (hd : d < ns.length) (hm : ns.getD d 0=m) (hb : m≤1000000) (hl : LogOk d m R l) (h : ArrOk ns K s) (hdn : s.down=false) (hms : miss s d=false) (hK : K < 1000000) {r : Nat} (hr : r < R) (hR : R≤1048576) (hW : 1 + nW R≤m) (hdur : (lookM l.durable (r : Int)).isSome=false) :
    (s.fuse≠1 ∧ ∃ u t,regionlog_Log_Mark l (r : Int) s=some (0, { l with bits := setR l.bits r true,durable := setM l.durable (r : Int) () },t)∧Wrote ns K s d (1 + r / 64) ((setR l.bits r true).getD (r / 64) 0) u∧Flushed1 ns (K + 1) u d t) ∨
    (s.fuse=1 ∧ ∃ t,regionlog_Log_Mark l (r : Int) s=some (5, { l with bits := setR l.bits r true },t)∧Fell ns K s t) := by
  have hw := nW_lt hr
  unfold regionlog_Log_Mark
  rw [if_neg (by rw [hl.reg]; omega),if_neg (by rw [hdur]; decide),set_eq hd hm hb hl h (by omega) hr hR hW,if_pos (.inr rfl)]
  simp only [Option.bind_some]
  rcases h.wrA (d:=d) (a:=1 + r / 64) (v:=(setR l.bits r true).getD (r / 64) 0) (by omega) hdn hd (by rw [hm]; omega) hms with ⟨h1,h2,h3⟩ | ⟨h1,h2,h3⟩
  · obtain ⟨k1,k2⟩ := h3.ok.flA (d:=d) h3.dn hd (by rw [h3.miss]; exact hms)
    refine .inl ⟨h1,_,_,?_,h3,k2⟩
    rw [h2,if_neg (by decide),hl.x,log_fl hd hm hb h3.ok (by omega)]; simp only [Option.bind_some]
    rw [k1,if_neg (by decide)]
  · refine .inr ⟨h1,_,?_,h3⟩
    rw [h2,if_pos (by decide)]
theorem clear_out (hd : d < ns.length) (hm : ns.getD d 0=m) (hb : m≤1000000) (hl : LogOk d m R l) (h : ArrOk ns K s) (hdn : s.down=false) (hms : miss s d=false) (hK : K < 1000000) {r : Nat} (hr : r < R) (hR : R≤1048576) (hW : 1 + nW R≤m) :
    (s.fuse≠1 ∧ ∃ t,regionlog_Log_Clear l (r : Int) s=some (0, { l with bits := setR l.bits r false,durable := delM l.durable (r : Int) },t)∧Wrote ns K s d (1 + r / 64) ((setR l.bits r false).getD (r / 64) 0) t) ∨
    (s.fuse=1 ∧ ∃ t,regionlog_Log_Clear l (r : Int) s=some (5, { l with durable := delM l.durable (r : Int) },t)∧Fell ns K s t) := by
  have hw := nW_lt hr
  unfold regionlog_Log_Clear
  have hl' : LogOk d m R { l with durable := delM l.durable (r : Int) } := ⟨hl.x,hl.reg,hl.len,nodup_delM _ _ hl.nd⟩
  rw [if_neg (by rw [hl.reg]; omega),set_eq hd hm hb hl' h (by omega) hr hR hW]
  rcases h.wrA (d:=d) (a:=1 + r / 64) (v:=(setR l.bits r false).getD (r / 64) 0) (by omega) hdn hd (by rw [hm]; omega) hms with ⟨h1,h2,h3⟩ | ⟨h1,h2,h3⟩
  · refine .inl ⟨h1,_,?_,h3⟩
    rw [h2,if_pos (.inl rfl)]; rfl
  · refine .inr ⟨h1,_,?_,h3⟩
    rw [h2,if_neg (by decide)]; rfl
end
end Go.Proofs
set_option linter.unusedSimpArgs false
set_option linter.unusedVariables false
set_option maxRecDepth 20000
set_option maxHeartbeats 4000000
namespace Go.Proofs
open Go.VG
end Go.Proofs
set_option linter.unusedSimpArgs false
set_option linter.unusedVariables false
set_option maxRecDepth 20000
set_option maxHeartbeats 4000000
namespace Go.Proofs
open Go.VG
structure mlegS where
  dev : Dvc
  state : Int
  copied : Int
structure mlegH where
  dev : IfH
  state : Int
  copied : Int
abbrev mleg_x0 : mlegS := ⟨dv0,0,0⟩
abbrev mleg_h0 : mlegH := ⟨tyDev.dflt,0,0⟩
abbrev tymlegH : Ty mlegH := { T := 129,sz := 3,enc := fun x=>[x.dev.v,.int .i64 x.state,.int .i64 x.copied],dflt := mleg_h0,len := fun _=>rfl,one := fun _=>rfl,pos := by decide }
theorem ok_tymlegH : ElemOk Tryz.prog tymlegH 32 := ⟨Tryz.t129,.agg #[.nilIface,.int .i64 0,.int .i64 0],by kernel_rfl,rfl,rfl,rfl,rfl⟩
def mk_mleg (l : List mlegS) (hs : List IfH) : List mlegH := List.zipWith (fun x h=>⟨h,x.state,x.copied⟩) l hs
theorem mk_mleg_len {l : List mlegS} {hs : List IfH} (hl : hs.length=l.length) : (mk_mleg l hs).length=l.length := by simp [mk_mleg,hl]
theorem mk_mleg_at {l : List mlegS} {hs : List IfH} (hl : hs.length=l.length) (i : Nat) : (mk_mleg l hs).getD i mleg_h0=⟨hs.getD i tyDev.dflt,(l.getD i mleg_x0).state,(l.getD i mleg_x0).copied⟩ := by
  by_cases h : i < l.length
  · have h2 : i < hs.length := by omega
    have h4 : i < (mk_mleg l hs).length := by rw [mk_mleg_len hl]; exact h
    simp only [List.getD,List.getElem?_eq_getElem h,List.getElem?_eq_getElem h2,List.getElem?_eq_getElem h4,Option.getD_some]
    simp [mk_mleg]
  · have h2 : ¬ i < hs.length := by omega
    have h3 : (mk_mleg l hs).length=l.length := mk_mleg_len hl
    simp only [List.getD]
    rw [List.getElem?_eq_none (by omega),List.getElem?_eq_none (by omega),List.getElem?_eq_none (by omega)]; rfl
theorem mk_mleg_set {l : List mlegS} {hs : List IfH} (hl : hs.length=l.length) {i : Nat} (hi : i < l.length) (y : mlegS) : (mk_mleg l hs).set i ⟨hs.getD i tyDev.dflt,y.state,y.copied⟩=mk_mleg (l.set i y) hs := by
  apply List.ext_getElem (by simp [mk_mleg])
  intro j h1 h2
  rw [List.getElem_set]
  simp only [mk_mleg,List.getElem_zipWith,List.getElem_set]
  by_cases e : i=j
  · subst e; simp [List.getD,show i < hs.length by omega]
  · simp [e]
theorem mk_mleg_set_state {l : List mlegS} {hs : List IfH} (hl : hs.length=l.length) {i : Nat} (hi : i < l.length) (v : Int) : (mk_mleg l hs).set i { (mk_mleg l hs).getD i mleg_h0 with state := v } = mk_mleg (l.set i { l.getD i mleg_x0 with state := v }) hs := by
  rw [mk_mleg_at hl, ← mk_mleg_set hl hi]
theorem mk_mleg_dev_state {l : List mlegS} {i : Nat} (v : Int) : (l.set i { l.getD i mleg_x0 with state := v }).map mlegS.dev=l.map mlegS.dev := by
  apply List.ext_getElem (by simp)
  intro j h1 h2
  simp only [List.getElem_map,List.getElem_set]
  split
  · rename_i e; subst e; simp at h2; simp [List.getD,h2]
  · rfl
theorem mk_mleg_set_copied {l : List mlegS} {hs : List IfH} (hl : hs.length=l.length) {i : Nat} (hi : i < l.length) (v : Int) : (mk_mleg l hs).set i { (mk_mleg l hs).getD i mleg_h0 with copied := v } = mk_mleg (l.set i { l.getD i mleg_x0 with copied := v }) hs := by
  rw [mk_mleg_at hl, ← mk_mleg_set hl hi]
theorem mk_mleg_dev_copied {l : List mlegS} {i : Nat} (v : Int) : (l.set i { l.getD i mleg_x0 with copied := v }).map mlegS.dev=l.map mlegS.dev := by
  apply List.ext_getElem (by simp)
  intro j h1 h2
  simp only [List.getElem_map,List.getElem_set]
  split
  · rename_i e; subst e; simp at h2; simp [List.getD,h2]
  · rfl
theorem mk_mleg_snoc {l : List mlegS} {hs : List IfH} (hl : hs.length=l.length) (x : mlegS) (h : IfH) : mk_mleg l hs ++ [⟨h,x.state,x.copied⟩]=mk_mleg (l ++ [x]) (hs ++ [h]) := by
  simp only [mk_mleg]; rw [List.zipWith_append hl.symm]; rfl
theorem mk_mleg_rs {a : Nat} {l : List mlegS} {hs : List IfH} {i : Nat} {R : List HP} (hi : i < l.length) : Ent (Rs (DevP a) (l.map mlegS.dev) hs::R) (DevP a (l.getD i mleg_x0).dev (hs.getD i tyDev.dflt)::Rs (DevP a) (l.map mlegS.dev) hs::R) := by
  have h := Rs_at (RP:=DevP a) (fun _ _=>Dup_DevP) (dx:=dv0) (dh:=tyDev.dflt) (l:=l.map mlegS.dev) (hs:=hs) (i:=i) (R:=R) (by simpa using hi)
  have e : (l.map mlegS.dev).getD i dv0=(l.getD i mleg_x0).dev := by simp [List.getD,hi]
  rwa [e] at h
structure MirS where
  legs : List mlegS
  log : Option LogS
  hasLog : Bool
  logState : Int
  size : Int
  region : Int
  dirty : List Bool
  copied : Int
def MirP (a b : Nat) (l : MirS) : HP := ex fun h : Sl3 × (List IfH) × Nat × Sl3=>star [blk b 119 [(Sl3.v h.1),oval l.log h.2.2.1,.bool l.hasLog,.int .i64 l.logState,.int .i64 l.size,.int .i64 l.region,(Sl3.v h.2.2.2),.int .i64 l.copied],sl tymlegH (Sl3.v h.1) (mk_mleg l.legs h.2.1),Rs (DevP a) (l.legs.map mlegS.dev) h.2.1,optP (LogP a h.2.2.1) l.log,sl tyB (Sl3.v h.2.2.2) l.dirty]
theorem MirP_open {a b : Nat} {l : MirS} {R : List HP} : EntX (MirP a b l::R) fun h : Sl3 × (List IfH) × Nat × Sl3=>blk b 119 [(Sl3.v h.1),oval l.log h.2.2.1,.bool l.hasLog,.int .i64 l.logState,.int .i64 l.size,.int .i64 l.region,(Sl3.v h.2.2.2),.int .i64 l.copied]::sl tymlegH (Sl3.v h.1) (mk_mleg l.legs h.2.1)::Rs (DevP a) (l.legs.map mlegS.dev) h.2.1::optP (LogP a h.2.2.1) l.log::sl tyB (Sl3.v h.2.2.2) l.dirty::R :=
  fun _ hh=>let ⟨c,hc⟩ := stars_ex.1 hh; ⟨c,stars_star.1 hc⟩
theorem MirP_mk {a b : Nat} {v0 : List mlegS} {v1 : Option LogS} {v2 : Bool} {v3 : Int} {v4 : Int} {v5 : Int} {v6 : List Bool} {v7 : Int} {h0 : Sl3} {h1 : List IfH} {h2 : Nat} {h3 : Sl3} {R : List HP} : Ent (blk b 119 [(Sl3.v h0),oval v1 h2,.bool v2,.int .i64 v3,.int .i64 v4,.int .i64 v5,(Sl3.v h3),.int .i64 v7]::sl tymlegH (Sl3.v h0) (mk_mleg v0 h1)::Rs (DevP a) (v0.map mlegS.dev) h1::optP (LogP a h2) v1::sl tyB (Sl3.v h3) v6::R) (MirP a b ⟨v0,v1,v2,v3,v4,v5,v6,v7⟩::R) :=
  fun _ hh=>stars_ex.2 ⟨(h0,h1,h2,h3),stars_star.2 hh⟩
end Go.Proofs
set_option linter.unusedSimpArgs false
set_option linter.unusedVariables false
set_option maxRecDepth 20000
set_option maxHeartbeats 4000000
namespace Go.Proofs
open Go.VG
theorem bld_119_4_5_2 (v0 : Int) (v1 : Int) (v2 : Bool) : ∀ w,(Instr.build 119 (#[(4,.int .i64 v0),(5,.int .i64 v1),(2,.bool v2)] : Array (Nat × Value))).run Tryz.prog w = .ok (.agg #[.slice none 0 0,.pointer none,.bool v2,.int .i64 (0 : Int),.int .i64 v0,.int .i64 v1,.slice none 0 0,.int .i64 (0 : Int)]) w := fun w=>by kernel_rfl
theorem bld_129_0 (v0 : TypeId) (v1 : Value) : ∀ w,(Instr.build 129 (#[(0,.iface v0 v1)] : Array (Nat × Value))).run Tryz.prog w = .ok (.agg #[.iface v0 v1,.int .i64 (0 : Int),.int .i64 (0 : Int)]) w := fun w=>by kernel_rfl
theorem bs_115_1_0 (v0 : TypeId) (v1 : Value) (v2 : Int) (v3 : Int) : BuildsSlice Tryz.prog 115 1 [(0,.agg #[.iface v0 v1,.int .i64 v2,.int .i64 v3])] 129 [.iface v0 v1,.int .i64 v2,.int .i64 v3] := fun w=>by kernel_rfl
def mirror_Regions (size : Int) (region : Int) : Option (Int) :=
  if ((size < (1 : Int))∨(region < (1 : Int))) then
    some (0 : Int)
  else
    grd (inI64 ((size - (1 : Int)))) <|
    grd (inI64 (((IntKind.i64.wrap (((size - (1 : Int))).tdiv region)) + (1 : Int)))) <|
    some (((IntKind.i64.wrap (((size - (1 : Int))).tdiv region)) + (1 : Int)))
theorem L_mirror_Regions {W : World} {size : Int} {region : Int} {r : Int} (h : mirror_Regions size region=some r) :
    CSpec Tryz.prog W 42 [.int .i64 size,.int .i64 region] [] (fun x : Unit => .int .i64 r) (fun _=>True) (fun x F=>F) := by
 refine CSpec.of_body Tryz.func42 rfl Tryz.ntmps42 rfl fun F => ?_
 show CJ _ _ _ _ _ _ (F)
 unfold mirror_Regions at h
 refine sR <| oA rfl rfl <| nT <| CJ_seq <| sR <| oM rfl rfl <| oP (P_lss (a:=size) (b:=(1 : Int)) rfl rfl) rfl <| oM rfl rfl <| RJ_mbF rfl rfl rfl (fun hG1=>have hP2 : ¬ (size < (1 : Int)) := nP (bT_dec) hG1; VJ_P (P_move rfl)) <| RJ_mbF rfl rfl rfl (fun hG3=>have hP4 : ¬ (size < (1 : Int)) := nP (bT_dec) hG3; VJ_P (P_lss (a:=region) (b:=(1 : Int)) (mbx hG3 rfl) rfl)) <| oP (P_pickOr rfl rfl (fun hh=>mbx (not_f hh) rfl)) rfl <| nT <| CJ_condP rfl (bT_or bT_dec bT_dec) (fun hg1 => ?_) (fun hg1 => ?_)
 ·
  replace h := ite_t hg1 h
  refine sR <| oA rfl rfl <| nT <| CJ_ret <| QJ_then_ret ?_
  cases h
  exact fE (res1 Tryz.results42 rfl) () eR
 ·
  replace h := ite_f hg1 h
  refine kT <| sR <| oM rfl rfl ?_
  obtain ⟨hg2,h⟩ := grd_Ie h
  refine oP (P_sub (a:=size) (b:=(1 : Int)) rfl rfl hg2) rfl <| oM rfl rfl <| oP (P_quoT (a:=(size - (1 : Int))) (b:=region) rfl rfl (by omega)) rfl ?_
  obtain ⟨hg3,h⟩ := grd_Ie h
  refine oP (P_add (a:=(IntKind.i64.wrap (((size - (1 : Int))).tdiv region))) (b:=(1 : Int)) rfl rfl hg3) rfl <| oA rfl rfl <| nT <| CJ_ret ?_
  cases h
  exact fE (res1 Tryz.results42 rfl) () eR
def mirror_Open_1 (k : Int) (p1 : Int) : Option (Bool) :=
  some (((decide (k < (0 : Int))) || (decide (p1 < k))))
theorem L_mirror_Open_1 {W : World} {bp1 : Nat} {k : Int} {p1 : Int} {r : Bool} (h : mirror_Open_1 k p1=some r) :
    CSpec Tryz.prog W 92 [.int .i64 k,ptr bp1 0] [blk bp1 3 [.int .i64 p1]] (fun x : Unit => .bool r) (fun _=>True) (fun x F=>blk bp1 3 [.int .i64 p1]::F) := by
 refine CSpec.of_body Tryz.func92 rfl Tryz.ntmps92 rfl fun F => ?_
 show CJ _ _ _ _ _ _ (_::F)
 unfold mirror_Open_1 at h
 refine sR <| oA rfl rfl <| nT <| sR <| oM rfl rfl <| oP (P_lss (a:=k) (b:=(0 : Int)) rfl rfl) rfl <| oM rfl rfl <| RJ_mbF rfl rfl rfl (fun hG1=>have hP2 : ¬ (k < (0 : Int)) := nP (bT_dec) hG1; VJ_P (P_move rfl)) <| RJ_mbF rfl rfl rfl (fun hG3=>have hP4 : ¬ (k < (0 : Int)) := nP (bT_dec) hG3; V_load rfl foc0 rfl Tryz.isAgg3) <| RJ_mbF rfl rfl rfl (fun hG5=>have hP6 : ¬ (k < (0 : Int)) := nP (bT_dec) hG5; VJ_P (P_gtr (a:=k) (b:=p1) (mbx hG5 rfl) (mbx hG5 rfl))) <| oP (P_pickOr rfl rfl (fun hh=>mbx (not_f hh) rfl)) rfl <| oA rfl rfl <| nT <| CJ_ret ?_
 cases h
 exact fE (res1 Tryz.results92 rfl) () eR
def slices_IndexFunc_int__mirror_Open_1_l1_b (p0 : List Int) (p1_c0 : Int) (rec : Nat→Option ((Unit) ⊕ Int)) (x6 : Nat) : Option ((Unit) ⊕ Int) :=
  if (((x6 : Nat) : Int) < ((p0.length : Nat) : Int)) then
    Option.bind (mirror_Open_1 (p0.getD x6 0) p1_c0) fun r7 =>
    if r7=true then
      some (.inr (((x6 : Nat) : Int)))
    else
      rec (x6 + 1)
  else
    some (.inl ())
def slices_IndexFunc_int__mirror_Open_1_l1 (p0 : List Int) (p1_c0 : Int) : Nat→Nat→Option ((Unit) ⊕ Int)
  | 0,_=>none
  | n + 1,x6=>slices_IndexFunc_int__mirror_Open_1_l1_b p0 p1_c0 (slices_IndexFunc_int__mirror_Open_1_l1 p0 p1_c0 n) x6
def slices_IndexFunc_int__mirror_Open_1 (p0 : List Int) (p1_c0 : Int) : Option (Int) :=
  seqO (slices_IndexFunc_int__mirror_Open_1_l1 p0 p1_c0 FUEL 0) fun a5 =>
  some (-1 : Int)
theorem L_slices_IndexFunc_int__mirror_Open_1 {W : World} {Ap0 : HP} {vp0 : Value} {bp1_c0 : Nat} {p0 : List Int} {p1_c0 : Int} {r : Int} (rp0 : Reads Ap0 tyI vp0 p0) (h : slices_IndexFunc_int__mirror_Open_1 p0 p1_c0=some r) :
    CSpec Tryz.prog W 112 [vp0,.func (.func 92) #[] #[ptr bp1_c0 0]] [Ap0,blk bp1_c0 3 [.int .i64 p1_c0]] (fun x : Unit => .int .i64 r) (fun _=>True) (fun x F=>Ap0::blk bp1_c0 3 [.int .i64 p1_c0]::F) := by
 refine CSpec.of_body Tryz.func112 rfl Tryz.ntmps112 rfl fun F => ?_
 show CJ _ _ _ _ _ _ (_::_::F)
 unfold slices_IndexFunc_int__mirror_Open_1 at h
 refine CJ_pure (len_of rp0 del0) fun hlen1=>sR <| oA rfl rfl <| nT <| CJ_seq <| sR <| oM rfl rfl <| oV (V_len rfl foc0 rp0 Tryz.runUnderlying45) rfl <| oM rfl rfl <| nT ?_
 obtain ⟨y4,hl2,hK3⟩ := seq_e h
 refine CJ_cutT (X:=Unit) [4,5,8,9,10,11,12,13,14,15,16,17,18] (fun _=>([] : Slots)) (fun _ R=>R) (fun _=>y4 = .inl ()) Dels.nil ?_ ?_
 ·
  refine CJ_block <| CJ_loopR (X:=Nat × Nat) [4,5,8,9,10,11,12,13,14,15,16,17,18] (fun ⟨n,x6⟩=>([(8,.int .i64 (((x6 : Nat) : Int)))] : Slots)) (fun ⟨n,x6⟩ R=>R) (fun ⟨n,x6⟩=>slices_IndexFunc_int__mirror_Open_1_l1 p0 p1_c0 n x6=some y4) (fun ⟨n,x6⟩=>n) ⟨FUEL,0⟩ ?_ ?_ eR ?_
  · exact hl2
  · exact ⟨rfl,True.intro⟩
  ·
   rintro ⟨n,x6⟩ h
   cases n with
   | zero=>exact none_e h
   | succ n => ?_
   replace h : slices_IndexFunc_int__mirror_Open_1_l1_b p0 p1_c0 (slices_IndexFunc_int__mirror_Open_1_l1 p0 p1_c0 n) x6=some y4 := h
   unfold slices_IndexFunc_int__mirror_Open_1_l1_b at h
   show CJ _ _ _ _ _ (([(8,.int .i64 (((x6 : Nat) : Int)))] : Slots) ++ forget _ _) (_)
   refine sR <| oP (P_lss (a:=((x6 : Nat) : Int)) (b:=((p0.length : Nat) : Int)) rfl rfl) rfl <| nT <| CJ_seq <| CJ_condP rfl bT_dec (fun hg1 => ?_) (fun hg1 => ?_)
   ·
    replace h := ite_t hg1 h
    refine kT <| CJ_seq <| CJ_block <| sR <| oM rfl rfl <| oA rfl rfl <| nT <| sR <| oM rfl rfl <| oM rfl rfl <| oM rfl rfl <| oV (V_index (i:=x6) rfl rfl rfl (by omega) foc0 rp0 Tryz.runUnderlying45 Tryz.sizeOf3) rfl <| oV (V_loadE rfl rfl (by omega) foc0 rp0 rfl rfl Tryz.isAgg3) rfl ?_
    obtain ⟨r7,hr8,h⟩ := bind_e h
    refine oO <| O_callV rfl rfl (L_mirror_Open_1 hr8) Tryz.call92 (Dels.cons del1 Dels.nil) rfl fun _ _=>nT <| CJ_condP rfl Iff.rfl (fun hg2 => ?_) (fun hg2 => ?_)
    ·
     replace h := ite_t hg2 h
     refine sR <| oM rfl rfl <| oA rfl rfl <| nT <| CJ_ret <| QJ_block_ret <| QJ_then_ret <| QJ_round_ret <| QJ_block_ret <| QJ_then_ret ?_
     have hE := Option.some.inj h
     replace hE := seq_inr hK3 hE.symm
     subst hE
     exact fE (res1 Tryz.results112 rfl) () (t1_ eR)
    ·
     replace h := ite_f hg2 h
     exact CJ_skip <| QJ_block_normal <| QJ_then <| CJ_region <| oP (PJ_eq (P_add (a:=((x6 : Nat) : Int)) (b:=(1 : Int)) rfl rfl (by omega)) rfl) rfl <| oM rfl rfl <| RJ_nil <| nR ⟨n,(x6 + 1)⟩ h ⟨rfl,True.intro⟩ (t1_ eR)
   ·
    replace h := ite_f hg1 h
    exact CJ_exit <| QJ_then_exit <| QJ_round_exit <| QJ_block_here <| cR () (Option.some.inj h).symm True.intro eR
 ·
  rintro _ hy9
  replace h := seq_inl hK3 hy9
  show CJ _ _ _ _ _ (([] : Slots) ++ forget _ _) (_)
  refine sR <| oA rfl rfl <| nT <| CJ_ret ?_
  cases h
  exact fE (res1 Tryz.results112 rfl) () eR
def slices_ContainsFunc_int__mirror_Open_1 (p0 : List Int) (p1_c0 : Int) : Option (Bool) :=
  Option.bind (slices_IndexFunc_int__mirror_Open_1 p0 p1_c0) fun r2 =>
  some ((decide ((0 : Int)≤r2)))
theorem L_slices_ContainsFunc_int__mirror_Open_1 {W : World} {Ap0 : HP} {vp0 : Value} {bp1_c0 : Nat} {p0 : List Int} {p1_c0 : Int} {r : Bool} (rp0 : Reads Ap0 tyI vp0 p0) (h : slices_ContainsFunc_int__mirror_Open_1 p0 p1_c0=some r) :
    CSpec Tryz.prog W 93 [vp0,.func (.func 92) #[] #[ptr bp1_c0 0]] [Ap0,blk bp1_c0 3 [.int .i64 p1_c0]] (fun x : Unit => .bool r) (fun _=>True) (fun x F=>Ap0::blk bp1_c0 3 [.int .i64 p1_c0]::F) := by
 refine CSpec.of_body Tryz.func93 rfl Tryz.ntmps93 rfl fun F => ?_
 show CJ _ _ _ _ _ _ (_::_::F)
 unfold slices_ContainsFunc_int__mirror_Open_1 at h
 refine CJ_pure (len_of rp0 del0) fun hlen1=>sR <| oA rfl rfl <| nT <| sR <| oM rfl rfl <| oM rfl rfl ?_
 obtain ⟨r2,hr3,h⟩ := bind_e h
 refine oO <| O_call (L_slices_IndexFunc_int__mirror_Open_1 rp0 hr3) rfl Tryz.call112 (Dels.cons del0 (Dels.cons del0 Dels.nil)) rfl fun _ _=>oP (P_geq (a:=r2) (b:=(0 : Int)) rfl rfl) rfl <| oA rfl rfl <| nT <| CJ_ret ?_
 cases h
 exact fE (res1 Tryz.results93 rfl) () eR
def slices_Index_int_l1_b (p0 : List Int) (p1 : Int) (rec : Nat→Option ((Unit) ⊕ Int)) (x6 : Nat) : Option ((Unit) ⊕ Int) :=
  if (((x6 : Nat) : Int) < ((p0.length : Nat) : Int)) then
    if (p1=(p0.getD x6 0)) then
      some (.inr (((x6 : Nat) : Int)))
    else
      rec (x6 + 1)
  else
    some (.inl ())
def slices_Index_int_l1 (p0 : List Int) (p1 : Int) : Nat→Nat→Option ((Unit) ⊕ Int)
  | 0,_=>none
  | n + 1,x6=>slices_Index_int_l1_b p0 p1 (slices_Index_int_l1 p0 p1 n) x6
def slices_Index_int (p0 : List Int) (p1 : Int) : Option (Int) :=
  seqO (slices_Index_int_l1 p0 p1 FUEL 0) fun a5 =>
  some (-1 : Int)
theorem L_slices_Index_int {W : World} {Ap0 : HP} {vp0 : Value} {p0 : List Int} {p1 : Int} {r : Int} (rp0 : Reads Ap0 tyI vp0 p0) (h : slices_Index_int p0 p1=some r) :
    CSpec Tryz.prog W 110 [vp0,.int .i64 p1] [Ap0] (fun x : Unit => .int .i64 r) (fun _=>True) (fun x F=>Ap0::F) := by
 refine CSpec.of_body Tryz.func110 rfl Tryz.ntmps110 rfl fun F => ?_
 show CJ _ _ _ _ _ _ (_::F)
 unfold slices_Index_int at h
 refine CJ_pure (len_of rp0 del0) fun hlen1=>sR <| oA rfl rfl <| nT <| CJ_seq <| sR <| oM rfl rfl <| oV (V_len rfl foc0 rp0 Tryz.runUnderlying45) rfl <| oM rfl rfl <| nT ?_
 obtain ⟨y4,hl2,hK3⟩ := seq_e h
 refine CJ_cutT (X:=Unit) [4,5,8,9,10,11,12,13,14,15,16,17,18] (fun _=>([] : Slots)) (fun _ R=>R) (fun _=>y4 = .inl ()) Dels.nil ?_ ?_
 ·
  refine CJ_block <| CJ_loopR (X:=Nat × Nat) [4,5,8,9,10,11,12,13,14,15,16,17,18] (fun ⟨n,x6⟩=>([(8,.int .i64 (((x6 : Nat) : Int)))] : Slots)) (fun ⟨n,x6⟩ R=>R) (fun ⟨n,x6⟩=>slices_Index_int_l1 p0 p1 n x6=some y4) (fun ⟨n,x6⟩=>n) ⟨FUEL,0⟩ ?_ ?_ eR ?_
  · exact hl2
  · exact ⟨rfl,True.intro⟩
  ·
   rintro ⟨n,x6⟩ h
   cases n with
   | zero=>exact none_e h
   | succ n => ?_
   replace h : slices_Index_int_l1_b p0 p1 (slices_Index_int_l1 p0 p1 n) x6=some y4 := h
   unfold slices_Index_int_l1_b at h
   show CJ _ _ _ _ _ (([(8,.int .i64 (((x6 : Nat) : Int)))] : Slots) ++ forget _ _) (_)
   refine sR <| oP (P_lss (a:=((x6 : Nat) : Int)) (b:=((p0.length : Nat) : Int)) rfl rfl) rfl <| nT <| CJ_seq <| CJ_condP rfl bT_dec (fun hg1 => ?_) (fun hg1 => ?_)
   ·
    replace h := ite_t hg1 h
    refine kT <| CJ_seq <| CJ_block <| sR <| oM rfl rfl <| oA rfl rfl <| nT <| sR <| oM rfl rfl <| oM rfl rfl <| oM rfl rfl <| oV (V_index (i:=x6) rfl rfl rfl (by omega) foc0 rp0 Tryz.runUnderlying45 Tryz.sizeOf3) rfl <| oV (V_loadE rfl rfl (by omega) foc0 rp0 rfl rfl Tryz.isAgg3) rfl <| oP (P_eql (a:=p1) (b:=(p0.getD x6 0)) rfl rfl) rfl <| nT <| CJ_condP rfl bT_dec (fun hg2 => ?_) (fun hg2 => ?_)
    ·
     replace h := ite_t hg2 h
     refine sR <| oM rfl rfl <| oA rfl rfl <| nT <| CJ_ret <| QJ_block_ret <| QJ_then_ret <| QJ_round_ret <| QJ_block_ret <| QJ_then_ret ?_
     have hE := Option.some.inj h
     replace hE := seq_inr hK3 hE.symm
     subst hE
     exact fE (res1 Tryz.results110 rfl) () eR
    ·
     replace h := ite_f hg2 h
     exact CJ_skip <| QJ_block_normal <| QJ_then <| CJ_region <| oP (PJ_eq (P_add (a:=((x6 : Nat) : Int)) (b:=(1 : Int)) rfl rfl (by omega)) rfl) rfl <| oM rfl rfl <| RJ_nil <| nR ⟨n,(x6 + 1)⟩ h ⟨rfl,True.intro⟩ eR
   ·
    replace h := ite_f hg1 h
    exact CJ_exit <| QJ_then_exit <| QJ_round_exit <| QJ_block_here <| cR () (Option.some.inj h).symm True.intro eR
 ·
  rintro _ hy7
  replace h := seq_inl hK3 hy7
  show CJ _ _ _ _ _ (([] : Slots) ++ forget _ _) (_)
  refine sR <| oA rfl rfl <| nT <| CJ_ret ?_
  cases h
  exact fE (res1 Tryz.results110 rfl) () eR
def slices_Contains_int (p0 : List Int) (p1 : Int) : Option (Bool) :=
  Option.bind (slices_Index_int p0 p1) fun r2 =>
  some ((decide ((0 : Int)≤r2)))
theorem L_slices_Contains_int {W : World} {Ap0 : HP} {vp0 : Value} {p0 : List Int} {p1 : Int} {r : Bool} (rp0 : Reads Ap0 tyI vp0 p0) (h : slices_Contains_int p0 p1=some r) :
    CSpec Tryz.prog W 81 [vp0,.int .i64 p1] [Ap0] (fun x : Unit => .bool r) (fun _=>True) (fun x F=>Ap0::F) := by
 refine CSpec.of_body Tryz.func81 rfl Tryz.ntmps81 rfl fun F => ?_
 show CJ _ _ _ _ _ _ (_::F)
 unfold slices_Contains_int at h
 refine CJ_pure (len_of rp0 del0) fun hlen1=>sR <| oA rfl rfl <| nT <| sR <| oM rfl rfl <| oM rfl rfl ?_
 obtain ⟨r2,hr3,h⟩ := bind_e h
 refine oO <| O_call (L_slices_Index_int rp0 hr3) rfl Tryz.call110 (Dels.cons del0 Dels.nil) rfl fun _ _=>oP (P_geq (a:=r2) (b:=(0 : Int)) rfl rfl) rfl <| oA rfl rfl <| nT <| CJ_ret ?_
 cases h
 exact fE (res1 Tryz.results81 rfl) () eR
def mirror_Open_l1_b (legs : List Dvc) (staleLegs : List Int) (log : Dvc) (region : Int) (s : ArrS) (rec : MirS→Nat→Nat→Option (Nat × MirS)) (x33 : MirS) (x34 : Nat) (x35 : Nat) : Option (Nat × MirS) :=
  if (((x35 : Nat) : Int) < ((legs.length : Nat) : Int)) then
    Option.bind (slices_Contains_int staleLegs (((x35 : Nat) : Int))) fun r38 =>
    Option.bind ((
      if r38=true then
        some (x34,2)
      else
        grd (inN64 (x34 + 1)) <|
        some (((x34 + 1),0)) : Option (Nat × Nat))) fun a45 =>
    grd (inLen (x33.legs.length + 1)) <|
    Option.bind (Dvc.size (legs.getD x35 dv0) s) fun r63 =>
    rec ((⟨(x33.legs ++ [(⟨(legs.getD x35 dv0),((a45.2 : Nat) : Int),(0 : Int)⟩ : mlegS)]),x33.log,x33.hasLog,x33.logState,(min x33.size r63),x33.region,x33.dirty,x33.copied⟩ : MirS)) a45.1 (x35 + 1)
  else
    some (x34,x33)
def mirror_Open_l1 (legs : List Dvc) (staleLegs : List Int) (log : Dvc) (region : Int) (s : ArrS) : Nat→MirS→Nat→Nat→Option (Nat × MirS)
  | 0,_,_,_=>none
  | n + 1,x33,x34,x35=>mirror_Open_l1_b legs staleLegs log region s (mirror_Open_l1 legs staleLegs log region s n) x33 x34 x35
def mirror_Open_l3_b (r71 : Int) (rec : MirS→Nat→Option (MirS)) (x101 : MirS) (x102 : Nat) : Option (MirS) :=
  if (((x102 : Nat) : Int) < ((((List.replicate ((r71).toNat) false)).length : Nat) : Int)) then
    grd (decide (x102 < x101.dirty.length)) <|
    grd (inN64 (x102 + 1)) <|
    rec ({ x101 with dirty := (x101.dirty.set x102 true) }) (x102 + 1)
  else
    some x101
def mirror_Open_l3 (r71 : Int) : Nat→MirS→Nat→Option (MirS)
  | 0,_,_=>none
  | n + 1,x101,x102=>mirror_Open_l3_b r71 (mirror_Open_l3 r71 n) x101 x102
def mirror_Open_l4_b (r129 : (List Int)) (rec : MirS→Nat→Option (MirS)) (x138 : MirS) (x139 : Nat) : Option (MirS) :=
  if (((x139 : Nat) : Int) < ((r129.length : Nat) : Int)) then
    grd (decide (0≤(r129.getD x139 0)∧(r129.getD x139 0) < (x138.dirty.length : Int))) <|
    grd (inN64 (x139 + 1)) <|
    rec ({ x138 with dirty := (x138.dirty.set (((r129.getD x139 0)).toNat) true) }) (x139 + 1)
  else
    some x138
def mirror_Open_l4 (r129 : (List Int)) : Nat→MirS→Nat→Option (MirS)
  | 0,_,_=>none
  | n + 1,x138,x139=>mirror_Open_l4_b r129 (mirror_Open_l4 r129 n) x138 x139
def mirror_Open (legs : List Dvc) (staleLegs : List Int) (log : Dvc) (region : Int) (s : ArrS) : Option ((Option MirS) × Int) :=
  if ((((((legs.length : Nat) : Int) < (2 : Int))∨((6 : Int) < ((legs.length : Nat) : Int)))∨(region < (1 : Int)))∨((65536 : Int) < region)) then
    some ((none,(1 : Int)))
  else
    Option.bind (slices_ContainsFunc_int__mirror_Open_1 staleLegs (((legs.length : Nat) : Int))) fun r17 =>
    if r17=true then
      some ((none,(1 : Int)))
    else
      Option.bind (Dvc.size (legs.getD 0 dv0) s) fun r21 =>
      Option.bind (mirror_Open_l1 legs staleLegs log region s FUEL ((⟨([] : List mlegS),none,true,(0 : Int),r21,region,[],(0 : Int)⟩ : MirS)) 0 0) fun a32 =>
      if (((a32.1 : Nat) : Int)=(0 : Int)) then
        some ((none,(19 : Int)))
      else
        Option.bind (mirror_Regions a32.2.size region) fun r71 =>
        grd (decide (0≤r71∧r71≤1000000000)) <|
        Option.bind (slices_Contains_int staleLegs (((legs.length : Nat) : Int))) fun r74 =>
        if (r74=true∨(¬ a32.2.hasLog=true)) then
          Option.bind (mirror_Open_l3 r71 FUEL ((⟨a32.2.legs,a32.2.log,a32.2.hasLog,(2 : Int),a32.2.size,a32.2.region,(List.replicate ((r71).toNat) false),a32.2.copied⟩ : MirS)) 0) fun a100 =>
          some (((some a100),(0 : Int)))
        else
          Option.bind (regionlog_Open log (((((List.replicate ((r71).toNat) false)).length : Nat) : Int)) s) fun r114 =>
          if ((r114.2≠(0 : Int))∧(r114.2≠(5 : Int))) then
            some ((none,(18 : Int)))
          else
            if (r114.2≠(0 : Int)) then
              some (none,r114.2)
            else
              Option.elim r114.1 (
                none) fun o128 =>
              Option.bind (regionlog_Log_Dirty o128 s) fun r129 =>
              Option.bind (mirror_Open_l4 r129 FUEL ((⟨a32.2.legs,(some o128),a32.2.hasLog,a32.2.logState,a32.2.size,a32.2.region,(List.replicate ((r71).toNat) false),a32.2.copied⟩ : MirS)) 0) fun a137 =>
              some (((some a137),(0 : Int)))
theorem L_mirror_Open {W : World} {Alegs : HP} {vlegs : Value} {hslegs : List IfH} {AstaleLegs : HP} {vstaleLegs : Value} {vlog : IfH} {bs : Nat} {legs : List Dvc} {staleLegs : List Int} {log : Dvc} {region : Int} {s : ArrS} {r : (Option MirS) × Int} (rlegs : Reads Alegs tyDev vlegs hslegs) (rstaleLegs : Reads AstaleLegs tyI vstaleLegs staleLegs) (h : mirror_Open legs staleLegs log region s=some r) :
    CSpec Tryz.prog W 52 [vlegs,vstaleLegs,IfH.v vlog,.int .i64 region] [Alegs,Rs (DevP bs) legs hslegs,AstaleLegs,DevP bs log vlog,Arr bs s] (fun x : Nat => .tuple #[oval r.1 x,.int .i64 r.2]) (fun _=>True) (fun x F=>Alegs::Rs (DevP bs) legs hslegs::AstaleLegs::DevP bs log vlog::Arr bs s::optP (MirP bs x) r.1::F) := by
 refine CSpec.of_body Tryz.func52 rfl Tryz.ntmps52 rfl fun F => ?_
 show CJ _ _ _ _ _ _ (_::_::_::_::_::F)
 unfold mirror_Open at h
 refine CJ_pure (len_of rlegs del0) fun hlen1=>CJ_pure (fun h hh=>Rs_len (stars_perm (del1 (A:=Rs (DevP bs) legs hslegs)).out h hh)) fun hdl2=>CJ_pure (len_of rstaleLegs del2) fun hlen3=>sR <| oA rfl rfl <| oA rfl rfl <| nT <| sR <| oM rfl rfl <| oV (VJ_eq (V_len rfl foc0 rlegs Tryz.runUnderlying92) (congrArg (fun z : Nat=>Value.int .i64 (z : Int)) (hdl2).symm)) rfl <| oO <| O_alloc Tryz.zeroValue3 rfl rfl fun b4=>oO <| O_store rfl rfl foc0 rfl rfl Tryz.sizeOf3 <| nT <| sR <| oP (P_makeFunc rfl rfl) rfl <| oA rfl rfl <| nT <| CJ_seq <| sR <| oV (V_load rfl foc0 rfl Tryz.isAgg3) rfl <| oP (P_lss (a:=((legs.length : Nat) : Int)) (b:=(2 : Int)) rfl rfl) rfl <| oM rfl rfl <| RJ_mbF rfl rfl rfl (fun hG5=>have hP6 : ¬ (((legs.length : Nat) : Int) < (2 : Int)) := nP (bT_dec) hG5; V_load rfl foc0 rfl Tryz.isAgg3) <| RJ_mbF rfl rfl rfl (fun hG7=>have hP8 : ¬ (((legs.length : Nat) : Int) < (2 : Int)) := nP (bT_dec) hG7; VJ_P (P_gtr (a:=((legs.length : Nat) : Int)) (b:=(6 : Int)) (mbx hG7 rfl) rfl)) <| oP (P_pickOr rfl rfl (fun hh=>mbx (not_f hh) rfl)) rfl <| oM rfl rfl <| RJ_mbF rfl rfl rfl (fun hG9=>have hP10 : ¬ ((((legs.length : Nat) : Int) < (2 : Int))∨((6 : Int) < ((legs.length : Nat) : Int))) := nP ((bT_or bT_dec bT_dec)) hG9; VJ_P (P_move rfl)) ?_
 refine RJ_mbF rfl rfl rfl (fun hG11=>have hP12 : ¬ ((((legs.length : Nat) : Int) < (2 : Int))∨((6 : Int) < ((legs.length : Nat) : Int))) := nP ((bT_or bT_dec bT_dec)) hG11; VJ_P (P_lss (a:=region) (b:=(1 : Int)) (mbx hG11 rfl) rfl)) <| oP (P_pickOr rfl rfl (fun hh=>mbx (not_f hh) rfl)) rfl <| oM rfl rfl <| RJ_mbF rfl rfl rfl (fun hG13=>have hP14 : ¬ (((((legs.length : Nat) : Int) < (2 : Int))∨((6 : Int) < ((legs.length : Nat) : Int)))∨(region < (1 : Int))) := nP ((bT_or (bT_or bT_dec bT_dec) bT_dec)) hG13; VJ_P (P_move rfl)) <| RJ_mbF rfl rfl rfl (fun hG15=>have hP16 : ¬ (((((legs.length : Nat) : Int) < (2 : Int))∨((6 : Int) < ((legs.length : Nat) : Int)))∨(region < (1 : Int))) := nP ((bT_or (bT_or bT_dec bT_dec) bT_dec)) hG15; VJ_P (P_gtr (a:=region) (b:=(65536 : Int)) (mbx hG15 rfl) rfl)) <| oP (P_pickOr rfl rfl (fun hh=>mbx (not_f hh) rfl)) rfl <| oM rfl rfl <| RJ_splitP 39 rfl (bT_or (bT_or (bT_or bT_dec bT_dec) bT_dec) bT_dec) (fun hg1B hg1 => ?_) (fun hg1B hg1 => ?_)
 ·
  replace h := ite_t hg1 h
  refine RJ_gn (GY_no rfl rfl rfl hg1B) rfl rfl <| RJ_gn (GY_no rfl rfl rfl hg1B) rfl rfl <| RJ_gn (GY_no rfl rfl rfl hg1B) rfl rfl <| oP (P_pickT rfl hg1B rfl) rfl <| nT <| CJ_condT rfl rfl <| sR <| oA rfl rfl <| oA rfl rfl <| nT <| CJ_ret <| QJ_then_ret ?_
  cases h
  exact fE (res2 Tryz.results52 rfl rfl) 0 (t1_ (t1_ (t1_ (t1_ (t1_ (Ent.trans (fun h hh=>optP_none h hh) <| t0_ (eD eR)))))))
 ·
  replace h := ite_f hg1 h
  refine gP (GY_yes rfl rfl rfl hg1B) (P_move rfl) rfl <| gP (GY_yes rfl rfl rfl hg1B) (P_move rfl) rfl ?_
  obtain ⟨r17,hr18,h⟩ := bind_e h
  refine RJ_gy (GY_yes rfl rfl rfl hg1B) <| O_call (L_slices_ContainsFunc_int__mirror_Open_1 rstaleLegs hr18) rfl Tryz.call93 (Dels.cons del3 (Dels.cons del0 Dels.nil)) rfl fun _ _=>oP (P_pickF rfl hg1B rfl) rfl <| nT <| CJ_condP rfl Iff.rfl (fun hg2 => ?_) (fun hg2 => ?_)
  ·
   replace h := ite_t hg2 h
   refine sR <| oA rfl rfl <| oA rfl rfl <| nT <| CJ_ret <| QJ_then_ret ?_
   cases h
   exact fE (res2 Tryz.results52 rfl rfl) 0 (t2_ (t2_ (t0_ (t1_ (t1_ (Ent.trans (fun h hh=>optP_none h hh) <| t0_ (eD eR)))))))
  ·
   replace h := ite_f hg2 h
   refine kT <| CJ_seq <| AJ_startH 264 (by kernel_rfl) rfl <| aN 0 1 rfl rfl (P_move rfl) rfl <| aV 1 3 rfl rfl (GY_none rfl) eR (V_index (i:=0) rfl rfl rfl (by have hz : 0 < legs.length := (by omega); have hy := hdl2; omega) foc2 rlegs Tryz.runUnderlying92 Tryz.sizeOf96) rfl <| AJ_ent (Ent.trans (t3_ eR) (Rs_at (fun _ _=>Dup_DevP) (dx:=dv0) (dh:=tyDev.dflt) (i:=0) (by omega))) <| aV 2 7 rfl rfl (GY_none rfl) (t2_ (t2_ (t2_ (t1_ (t1_ (t1_ (eD eR))))))) (V_loadE rfl rfl (by have hz : 0 < legs.length := (by omega); have hy := hdl2; omega) foc2 rlegs rfl rfl Tryz.isAgg96) rfl <| aN 4 23 rfl rfl (P_move rfl) rfl <| aN 5 55 rfl rfl (P_move rfl) rfl <| aN 6 119 rfl rfl (P_neqIfN rfl rfl Tryz.underlying96) rfl <| AJ_pure (fun h hh=>DevP_dep h (stars_perm (del0 (A:=DevP bs (legs.getD 0 dv0) (hslegs.getD 0 tyDev.dflt))).out h hh)) fun hdp20 => ?_
   obtain ⟨r21,hr22,h⟩ := bind_e h
   refine AJ_op 3 127 rfl (by kernel_rfl) rfl (GY_none rfl) <| O_callI rfl (dev_Size hr22 hdp20) rfl (Dels.cons del0 (Dels.cons del5 Dels.nil)) rfl fun _ _=>⟨fun h=>absurd h (by decide),?_⟩
   refine aN 7 255 rfl rfl (P_build rfl (bld_119_4_5_2 _ _ _)) rfl <| AJ_op 8 511 rfl (by kernel_rfl) rfl (GY_none rfl) <| O_box rfl rfl rfl fun b23=>⟨fun h=>absurd h (by decide),?_⟩
   refine aN 9 1023 rfl rfl (P_assign rfl) rfl <| AJ_done (by kernel_rfl) <| QJ_ent (t0_ (t1_ (t1_ (t1_ (t1_ (t1_ (t1_ (eD eR)))))))) <| QJ_then <| sR <| oA rfl rfl <| nT <| CJ_seq <| sR <| oM rfl rfl <| oV (VJ_eq (V_len rfl foc5 rlegs Tryz.runUnderlying92) (congrArg (fun z : Nat=>Value.int .i64 (z : Int)) (hdl2).symm)) rfl <| oM rfl rfl <| nT <| CJ_ent (fun h hh=>sl_nil (t:=tymlegH) h (rs_nil (RP:=DevP bs) h hh)) <| CJ_ent (fun h hh=>sl_nil (t:=tyB) h hh) <| CJ_ent (Ent.trans (t3_ (t1_ (t1_ (Ent.trans (fun h hh=>optP_none h hh) <| t0_ eR)))) (MirP_mk (v0:=([] : List mlegS)) (v1:=none) (v2:=true) (v3:=(0 : Int)) (v4:=r21) (v5:=region) (v6:=[]) (v7:=(0 : Int)) (h0:=⟨none,0,0⟩) (h1:=([] : List IfH)) (h2:=0) (h3:=⟨none,0,0⟩))) ?_
   obtain ⟨y29,hl27,hK28⟩ := bind_c h
   refine CJ_cutT (X:=Nat × MirS) [13,14,15,16,55,56,57,58,59,60,61,62,63,64,65,66,67,68,69,70,71,72,73,74,75,76,77,78,79,80,81,82,83,84,85,86,87,88] (fun a32=>([(13,.int .i64 (((a32.1 : Nat) : Int)))] : Slots)) (fun a32 R=>MirP bs b23 a32.2::R) (fun a32=>y29=a32) (Dels.cons del0 Dels.nil) ?_ ?_
   ·
    refine CJ_block <| CJ_loopR (X:=Nat × MirS × Nat × Nat) [13,14,15,16,55,56,57,58,59,60,61,62,63,64,65,66,67,68,69,70,71,72,73,74,75,76,77,78,79,80,81,82,83,84,85,86,87,88] (fun ⟨n,x33,x34,x35⟩=>([(13,.int .i64 (((x34 : Nat) : Int))),(55,.int .i64 (((x35 : Nat) : Int)))] : Slots)) (fun ⟨n,x33,x34,x35⟩ R=>MirP bs b23 x33::R) (fun ⟨n,x33,x34,x35⟩=>mirror_Open_l1 legs staleLegs log region s n x33 x34 x35=some y29) (fun ⟨n,x33,x34,x35⟩=>n) ⟨FUEL,(⟨([] : List mlegS),none,true,(0 : Int),r21,region,[],(0 : Int)⟩ : MirS),0,0⟩ ?_ ?_ eR ?_
    · exact hl27
    · exact ⟨rfl,rfl,True.intro⟩
    ·
     rintro ⟨n,x33,x34,x35⟩ h
     cases n with
     | zero=>exact none_e h
     | succ n => ?_
     replace h : mirror_Open_l1_b legs staleLegs log region s (mirror_Open_l1 legs staleLegs log region s n) x33 x34 x35=some y29 := h
     unfold mirror_Open_l1_b at h
     show CJ _ _ _ _ _ (([(13,.int .i64 (((x34 : Nat) : Int))),(55,.int .i64 (((x35 : Nat) : Int)))] : Slots) ++ forget _ _) (MirP bs b23 x33::_)
     refine sR <| oP (P_lss (a:=((x35 : Nat) : Int)) (b:=((legs.length : Nat) : Int)) rfl rfl) rfl <| nT <| CJ_seq <| CJ_condP rfl bT_dec (fun hg3 => ?_) (fun hg3 => ?_)
     ·
      replace h := ite_t hg3 h
      refine kT <| CJ_seq <| CJ_block <| sR <| oM rfl rfl <| oV (V_index (i:=x35) rfl rfl rfl (by have hz : x35 < legs.length := (by omega); have hy := hdl2; omega) foc5 rlegs Tryz.runUnderlying92 Tryz.sizeOf96) rfl <| RJ_ent (Ent.trans (t2_ eR) (Rs_at (fun _ _=>Dup_DevP) (dx:=dv0) (dh:=tyDev.dflt) (i:=x35) (by omega))) <| oV (V_loadE rfl rfl (by have hz : x35 < legs.length := (by omega); have hy := hdl2; omega) foc6 rlegs rfl rfl Tryz.isAgg96) rfl <| oA rfl rfl <| oA rfl rfl <| nT <| sR <| oM rfl rfl <| oP (P_build rfl (bld_129_0 _ _)) rfl <| oO <| O_alloc Tryz.zeroValue129 rfl rfl fun b37=>oO <| O_storeN rfl rfl foc0 Tryz.sizeOf129 rfl rfl rfl <| nT <| CJ_seq <| sR <| oM rfl rfl <| oM rfl rfl ?_
      obtain ⟨r38,hr39,h⟩ := bind_e h
      refine oO <| O_call (L_slices_Contains_int rstaleLegs hr39) rfl Tryz.call81 (Dels.cons del5 Dels.nil) rfl fun _ _=>nT ?_
      obtain ⟨y42,hl40,hK41⟩ := bind_c h
      refine CJ_cutT (X:=Nat × Nat) [13,65,66,67] (fun a45=>([(13,.int .i64 (((a45.1 : Nat) : Int)))] : Slots)) (fun a45 R=>blk b37 129 [IfH.v (hslegs.getD x35 tyDev.dflt),.int .i64 (((a45.2 : Nat) : Int)),.int .i64 (0 : Int)]::R) (fun a45=>y42=a45) (Dels.cons del1 Dels.nil) ?_ ?_
      ·
       have h := hl40
       refine CJ_condP rfl Iff.rfl (fun hg4 => ?_) (fun hg4 => ?_)
       ·
        replace h := ite_t hg4 h
        exact CJ_region <| oP (P_fieldAddr rfl ⟨_,_,_,Tryz.runUnderlying129,rfl,rfl,Tryz.sizeOf117,rfl⟩) rfl <| oO <| O_store rfl rfl foc1 rfl rfl Tryz.sizeOf117 <| RJ_nil <| cR (x34,2) (Option.some.inj h).symm ⟨rfl,True.intro⟩ (t1_ eR)
       ·
        replace h := ite_f hg4 h
        refine CJ_region <| oM rfl rfl ?_
        obtain ⟨hg5,h⟩ := grd_Ne h
        exact oP (PJ_eq (P_add (a:=((x34 : Nat) : Int)) (b:=(1 : Int)) rfl rfl (nat_in hg5)) rfl) rfl <| oA rfl rfl <| RJ_nil <| cR ((x34 + 1),0) (Option.some.inj h).symm ⟨rfl,True.intro⟩ (t1_ eR)
      ·
       rintro a45 hy46
       replace h := bindK_at hK41 hy46
       show CJ _ _ _ _ _ (([(13,.int .i64 (((a45.1 : Nat) : Int)))] : Slots) ++ forget _ _) (blk b37 129 [IfH.v (hslegs.getD x35 tyDev.dflt),.int .i64 (((a45.2 : Nat) : Int)),.int .i64 (0 : Int)]::_)
       refine CJ_seq <| CJ_entX (Ent.transX (t4_ eR) (MirP_open (l:=x33))) fun oc47=>CJ_pure (fun h hh=>Rs_len (stars_perm (del2 (A:=Rs (DevP bs) (x33.legs.map mlegS.dev) oc47.2.1)).out h hh)) fun hdl49=>lC del1 fun hlen50 => ?_
       rw [mk_mleg_len (by have := hdl49; simpa using this)] at hlen50
       refine lC del4 fun hlen51=>AJ_startH 1152 (by kernel_rfl) rfl <| aN 0 1 rfl rfl (P_move rfl) rfl <| aN 1 3 rfl rfl (P_move rfl) rfl <| aN 2 7 rfl rfl (P_nilCheck rfl) rfl <| aN 3 15 rfl rfl (P_fieldAddr rfl ⟨_,_,_,Tryz.runUnderlying119,rfl,rfl,Tryz.sizeOf115,rfl⟩) rfl <| aV 4 31 rfl rfl (GY_none rfl) eR (V_load rfl foc0 rfl Tryz.isAgg115) rfl <| aV 5 63 rfl rfl (GY_none rfl) eR (V_loadN rfl foc5 Tryz.isAgg129 Tryz.sizeOf129 rfl rfl) rfl <| AJ_op 6 127 rfl (by kernel_rfl) rfl (GY_none rfl) <| O_buildSlice rfl (bs_115_1_0 _ _ _ _) rfl fun b52=>⟨fun _=>(t1_ (t1_ (t1_ (t1_ (t1_ (t1_ (t1_ (t1_ (t1_ (t1_ (t1_ (t1_ (t1_ (eD eR)))))))))))))),?_⟩
       obtain ⟨hg6,h⟩ := grd_Le h
       refine AJ_op 7 255 rfl (by kernel_rfl) rfl (GY_none rfl) <| O_append (t:=tymlegH) (bytes:=32) rfl rfl del2 foc0 (Reads.lit (t:=tymlegH) (ys:=[(⟨((hslegs.getD x35 tyDev.dflt) : IfH),((a45.2 : Nat) : Int),(0 : Int)⟩ : mlegH)]) rfl rfl (by decide) (by decide) rfl) Tryz.underlying115 ok_tymlegH (apl (m:=1) (b:=32) (show (mk_mleg x33.legs oc47.2.1).length + 1≤1000000000 by rw [mk_mleg_len (by have := hdl49; simpa using this)]; exact hg6) (by decide)).1 (apl (m:=1) (b:=32) (show (mk_mleg x33.legs oc47.2.1).length + 1≤1000000000 by rw [mk_mleg_len (by have := hdl49; simpa using this)]; exact hg6) (by decide)).2 rfl fun p54 c55=>⟨fun h=>absurd h (by decide),?_⟩
       refine AJ_ent (Ent.takeC (A' := sl tymlegH (.slice p54 (mk_mleg x33.legs oc47.2.1 ++ [(⟨((hslegs.getD x35 tyDev.dflt) : IfH),((a45.2 : Nat) : Int),(0 : Int)⟩ : mlegH)]).length c55) (mk_mleg (x33.legs ++ [(⟨(legs.getD x35 dv0),((a45.2 : Nat) : Int),(0 : Int)⟩ : mlegS)]) (oc47.2.1 ++ [((hslegs.getD x35 tyDev.dflt) : IfH)]))) del0 (congrArg (sl tymlegH _) (mk_mleg_snoc (by have := hdl49; simpa using this) (⟨(legs.getD x35 dv0),((a45.2 : Nat) : Int),(0 : Int)⟩ : mlegS) ((hslegs.getD x35 tyDev.dflt) : IfH))) eR) <| AJ_ent (Ent.trans (t3_ (t7_ eR)) (Rs_push (x:=(legs.getD x35 dv0)) (g:=((hslegs.getD x35 tyDev.dflt) : IfH)) (fun _ _=>Dup_DevP))) <| AJ_ent (Ent.takeC (A' := Rs (DevP bs) (((x33.legs ++ [(⟨(legs.getD x35 dv0),((a45.2 : Nat) : Int),(0 : Int)⟩ : mlegS)])).map mlegS.dev) (oc47.2.1 ++ [((hslegs.getD x35 tyDev.dflt) : IfH)])) del0 (congrArg (fun z=>Rs (DevP bs) z (oc47.2.1 ++ [((hslegs.getD x35 tyDev.dflt) : IfH)])) (by simp)) eR) <| AJ_pure (fun h hh=>Rs_len (stars_perm (del0 (A:=Rs (DevP bs) ((((x33.legs ++ [(⟨(legs.getD x35 dv0),((a45.2 : Nat) : Int),(0 : Int)⟩ : mlegS)])).map mlegS.dev)) ((oc47.2.1 ++ [((hslegs.getD x35 tyDev.dflt) : IfH)])))).out h hh)) fun hdl56=>aN 8 511 rfl rfl (P_nilCheck rfl) rfl <| aN 9 1023 rfl rfl (P_fieldAddr rfl ⟨_,_,_,Tryz.runUnderlying119,rfl,rfl,Tryz.sizeOf115,rfl⟩) rfl <| AJ_op 10 2047 rfl (by kernel_rfl) rfl (GY_none rfl) <| O_store rfl rfl foc4 rfl rfl Tryz.sizeOf115 ?_
       refine ⟨fun h=>absurd h (by decide),?_⟩
       refine AJ_done (by kernel_rfl) <| QJ_ent (Ent.trans (t4_ (t2_ (t0_ (t2_ (t2_ eR))))) (MirP_mk (v0:=(x33.legs ++ [(⟨(legs.getD x35 dv0),((a45.2 : Nat) : Int),(0 : Int)⟩ : mlegS)])) (v1:=x33.log) (v2:=x33.hasLog) (v3:=x33.logState) (v4:=x33.size) (v5:=x33.region) (v6:=x33.dirty) (v7:=x33.copied) (h0:=⟨p54,(mk_mleg x33.legs oc47.2.1 ++ [(⟨((hslegs.getD x35 tyDev.dflt) : IfH),((a45.2 : Nat) : Int),(0 : Int)⟩ : mlegH)]).length,c55⟩) (h1:=(oc47.2.1 ++ [((hslegs.getD x35 tyDev.dflt) : IfH)])) (h2:=oc47.2.2.1) (h3:=oc47.2.2.2))) <| QJ_ent (t0_ (t0_ (t2_ (t2_ (t2_ (t2_ (t2_ (t2_ (eD (eD eR)))))))))) <| QJ_then <| CJ_entX (Ent.transX (t0_ eR) (MirP_open (l := { x33 with legs := (x33.legs ++ [(⟨(legs.getD x35 dv0),((a45.2 : Nat) : Int),(0 : Int)⟩ : mlegS)]) }))) fun oc57=>CJ_pure (fun h hh=>Rs_len (stars_perm (del2 (A:=Rs (DevP bs) ((((x33.legs ++ [(⟨(legs.getD x35 dv0),((a45.2 : Nat) : Int),(0 : Int)⟩ : mlegS)])).map mlegS.dev)) oc57.2.1)).out h hh)) fun hdl59=>lC del1 fun hlen60 => ?_
       rw [mk_mleg_len (by have := hdl59; simpa using this)] at hlen60
       refine lC del4 fun hlen61=>AJ_startH 1024 (by kernel_rfl) rfl <| aN 0 1 rfl rfl (P_move rfl) rfl <| aN 1 3 rfl rfl (P_move rfl) rfl <| aN 2 7 rfl rfl (P_nilCheck rfl) rfl <| aN 3 15 rfl rfl (P_fieldAddr rfl ⟨_,_,_,Tryz.runUnderlying119,rfl,rfl,Tryz.sizeOf3,rfl⟩) rfl <| aV 4 31 rfl rfl (GY_none rfl) eR (V_load rfl foc0 rfl Tryz.isAgg3) rfl <| aN 5 63 rfl rfl (P_move rfl) rfl <| AJ_pure (fun h hh=>DevP_dep h (stars_perm (del5 (A:=DevP bs (legs.getD x35 dv0) (hslegs.getD x35 tyDev.dflt))).out h hh)) fun hdp62 => ?_
       obtain ⟨r63,hr64,h⟩ := bind_e h
       refine AJ_op 6 127 rfl (by kernel_rfl) rfl (GY_none rfl) <| O_callI rfl (dev_Size hr64 hdp62) rfl (Dels.cons del5 (Dels.cons del7 Dels.nil)) rfl fun _ _=>⟨fun _=>(t2_ (t2_ (t2_ (t2_ (t2_ (t0_ (t1_ (t1_ eR)))))))),?_⟩
       refine aN 7 255 rfl rfl (P_min (a:=x33.size) (b:=r63) rfl rfl) rfl <| aN 8 511 rfl rfl (P_nilCheck rfl) rfl <| aN 9 1023 rfl rfl (P_fieldAddr rfl ⟨_,_,_,Tryz.runUnderlying119,rfl,rfl,Tryz.sizeOf3,rfl⟩) rfl <| AJ_op 10 2047 rfl (by kernel_rfl) rfl (GY_none rfl) <| O_store rfl rfl foc2 rfl rfl Tryz.sizeOf3 <| ⟨fun h=>absurd h (by decide),?_⟩
       exact AJ_done (by kernel_rfl) <| QJ_ent (Ent.trans (t2_ (t2_ (t2_ (t2_ (t2_ eR))))) (MirP_mk (v0:=(x33.legs ++ [(⟨(legs.getD x35 dv0),((a45.2 : Nat) : Int),(0 : Int)⟩ : mlegS)])) (v1:=x33.log) (v2:=x33.hasLog) (v3:=x33.logState) (v4:=(min x33.size r63)) (v5:=x33.region) (v6:=x33.dirty) (v7:=x33.copied) (h0:=oc57.1) (h1:=oc57.2.1) (h2:=oc57.2.2.1) (h3:=oc57.2.2.2))) <| QJ_block_normal <| QJ_ent (t0_ (t1_ (t1_ (t1_ (t1_ (t1_ (t1_ (eD eR)))))))) <| QJ_then <| CJ_region <| oP (PJ_eq (P_add (a:=((x35 : Nat) : Int)) (b:=(1 : Int)) rfl rfl (by omega)) rfl) rfl <| oM rfl rfl <| RJ_nil <| nR ⟨n,(⟨(x33.legs ++ [(⟨(legs.getD x35 dv0),((a45.2 : Nat) : Int),(0 : Int)⟩ : mlegS)]),x33.log,x33.hasLog,x33.logState,(min x33.size r63),x33.region,x33.dirty,x33.copied⟩ : MirS),a45.1,(x35 + 1)⟩ h ⟨rfl,rfl,True.intro⟩ (t0_ (t0_ (t1_ eR)))
     ·
      replace h := ite_f hg3 h
      exact CJ_exit <| QJ_then_exit <| QJ_round_exit <| QJ_block_here <| cR (x34,x33) (Option.some.inj h).symm ⟨rfl,True.intro⟩ eR
   ·
    rintro a32 hy65
    replace h := bindK_at hK28 hy65
    show CJ _ _ _ _ _ (([(13,.int .i64 (((a32.1 : Nat) : Int)))] : Slots) ++ forget _ _) (MirP bs b23 a32.2::_)
    refine CJ_seq <| sR <| oM rfl rfl <| oP (P_eql (a:=((a32.1 : Nat) : Int)) (b:=(0 : Int)) rfl rfl) rfl <| nT <| CJ_condP rfl bT_dec (fun hg7 => ?_) (fun hg7 => ?_)
    ·
     replace h := ite_t hg7 h
     refine sR <| oA rfl rfl <| oA rfl rfl <| RJ_nil <| QJ_ent (t1_ (t1_ (t1_ (t2_ (t2_ (eD (eD eR))))))) <| QJ_then <| CJ_ret <| QJ_then_ret ?_
     cases h
     exact fE (res2 Tryz.results52 rfl rfl) 0 (t3_ (t1_ (t1_ (t1_ (t0_ (Ent.trans (fun h hh=>optP_none h hh) <| t0_ eR))))))
    ·
     replace h := ite_f hg7 h
     refine kT <| CJ_seq <| CJ_entX (Ent.transX (t0_ eR) (MirP_open (l:=a32.2))) fun oc66=>CJ_pure (fun h hh=>Rs_len (stars_perm (del2 (A:=Rs (DevP bs) (a32.2.legs.map mlegS.dev) oc66.2.1)).out h hh)) fun hdl68=>lC del1 fun hlen69 => ?_
     rw [mk_mleg_len (by have := hdl68; simpa using this)] at hlen69
     refine lC del4 fun hlen70=>CJ_region <| oM rfl rfl <| oM rfl rfl <| oP (P_nilCheck rfl) rfl <| oP (P_fieldAddr rfl ⟨_,_,_,Tryz.runUnderlying119,rfl,rfl,Tryz.sizeOf3,rfl⟩) rfl <| oV (V_load rfl foc0 rfl Tryz.isAgg3) rfl <| oM rfl rfl ?_
     obtain ⟨r71,hr72,h⟩ := bind_e h
     refine oO <| O_call (L_mirror_Regions hr72) rfl Tryz.call42 Dels.nil rfl fun _ _ => ?_
     obtain ⟨hg8,h⟩ := grd_de h
     refine oO <| O_make (t:=tyB) (m:=(r71).toNat) (x0:=false) (z:=_) (bytes:=_) rfl rfl (Int.toNat_of_nonneg (hg8.1)).symm (Int.toNat_of_nonneg (hg8.1)).symm Tryz.underlying34 ⟨Tryz.t4,by kernel_rfl,rfl,rfl,rfl⟩ rfl (by omega) (by decide) rfl fun b73=>oP (P_nilCheck rfl) rfl <| oP (P_fieldAddr rfl ⟨_,_,_,Tryz.runUnderlying119,rfl,rfl,Tryz.sizeOf34,rfl⟩) rfl <| oO <| O_store rfl rfl foc1 rfl rfl Tryz.sizeOf34 <| RJ_nil <| QJ_ent (Ent.trans (t1_ (t1_ (t1_ (t1_ eR)))) (MirP_mk (v0:=a32.2.legs) (v1:=a32.2.log) (v2:=a32.2.hasLog) (v3:=a32.2.logState) (v4:=a32.2.size) (v5:=a32.2.region) (v6:=(List.replicate ((r71).toNat) false)) (v7:=a32.2.copied) (h0:=oc66.1) (h1:=oc66.2.1) (h2:=oc66.2.2.1) (h3:=⟨some ⟨b73,0,none⟩,(r71).toNat,(r71).toNat⟩))) <| QJ_ent (t0_ (t1_ (t1_ (t1_ (t1_ (t1_ (t1_ (eD eR)))))))) <| QJ_then <| CJ_seq <| sR <| oM rfl rfl <| oV (V_load rfl foc4 rfl Tryz.isAgg3) rfl ?_
     obtain ⟨r74,hr75,h⟩ := bind_e h
     refine oO <| O_call (L_slices_Contains_int rstaleLegs hr75) rfl Tryz.call81 (Dels.cons del3 Dels.nil) rfl fun _ _=>oM rfl rfl <| RJ_mbF rfl rfl rfl (fun hG76=>have hP77 : ¬ r74=true := nP (Iff.rfl) hG76; VJ_P (P_move rfl)) <| RJ_mbF rfl rfl rfl (fun hG78=>have hP79 : ¬ r74=true := nP (Iff.rfl) hG78; VJ_P (P_nilCheck (mbx hG78 rfl))) <| RJ_mbF rfl rfl rfl (fun hG80=>have hP81 : ¬ r74=true := nP (Iff.rfl) hG80; VJ_P (P_fieldAddr (mbx hG80 rfl) ⟨_,_,_,Tryz.runUnderlying119,rfl,rfl,Tryz.sizeOf4,rfl⟩)) <| RJ_mbF rfl rfl rfl (fun hG82=>have hP83 : ¬ r74=true := nP (Iff.rfl) hG82; VJ_entX (Ent.transX (t1_ eR) (MirP_open (l := { a32.2 with dirty := (List.replicate ((r71).toNat) false) }))) (fun _=>V_load (mbx hG82 rfl) foc0 rfl Tryz.isAgg4)) <| RJ_mbF rfl rfl rfl (fun hG84=>have hP85 : ¬ r74=true := nP (Iff.rfl) hG84; VJ_P (P_not (mbx hG84 rfl))) <| oP (P_pickOr rfl rfl (fun hh=>mbx (not_f hh) rfl)) rfl <| RJ_nil <| QJ_ent (t0_ (t0_ (t0_ (t0_ (t1_ (t1_ (eD eR))))))) <| QJ_then <| CJ_condP rfl (bT_or Iff.rfl (bT_not Iff.rfl)) (fun hg9 => ?_) (fun hg9 => ?_)
     ·
      replace h := ite_t hg9 h
      refine CJ_seq <| CJ_entX (Ent.transX (t1_ eR) (MirP_open (l := { a32.2 with dirty := (List.replicate ((r71).toNat) false) }))) fun oc86=>CJ_pure (fun h hh=>Rs_len (stars_perm (del2 (A:=Rs (DevP bs) (a32.2.legs.map mlegS.dev) oc86.2.1)).out h hh)) fun hdl88=>lC del1 fun hlen89 => ?_
      rw [mk_mleg_len (by have := hdl88; simpa using this)] at hlen89
      refine lC del4 fun hlen90=>CJ_region <| oM rfl rfl <| oP (P_nilCheck rfl) rfl <| oP (P_fieldAddr rfl ⟨_,_,_,Tryz.runUnderlying119,rfl,rfl,Tryz.sizeOf117,rfl⟩) rfl <| oO <| O_store rfl rfl foc0 rfl rfl Tryz.sizeOf117 <| RJ_nil <| QJ_ent (Ent.trans eR (MirP_mk (v0:=a32.2.legs) (v1:=a32.2.log) (v2:=a32.2.hasLog) (v3:=(2 : Int)) (v4:=a32.2.size) (v5:=a32.2.region) (v6:=(List.replicate ((r71).toNat) false)) (v7:=a32.2.copied) (h0:=oc86.1) (h1:=oc86.2.1) (h2:=oc86.2.2.1) (h3:=oc86.2.2.2))) <| QJ_then <| CJ_seq <| CJ_seq <| CJ_entX (Ent.transX (t0_ eR) (MirP_open (l:=(⟨a32.2.legs,a32.2.log,a32.2.hasLog,(2 : Int),a32.2.size,a32.2.region,(List.replicate ((r71).toNat) false),a32.2.copied⟩ : MirS)))) fun oc91=>CJ_pure (fun h hh=>Rs_len (stars_perm (del2 (A:=Rs (DevP bs) (a32.2.legs.map mlegS.dev) oc91.2.1)).out h hh)) fun hdl93=>lC del1 fun hlen94 => ?_
      rw [mk_mleg_len (by have := hdl93; simpa using this)] at hlen94
      refine lC del4 fun hlen95=>CJ_region <| oM rfl rfl <| oP (P_nilCheck rfl) rfl <| oP (P_fieldAddr rfl ⟨_,_,_,Tryz.runUnderlying119,rfl,rfl,Tryz.sizeOf34,rfl⟩) rfl <| oV (V_load rfl foc0 rfl Tryz.isAgg34) rfl <| oV (V_len rfl foc4 (Reads.sl _ _ _) Tryz.runUnderlying34) rfl <| oM rfl rfl <| RJ_nil <| QJ_ent (Ent.trans eR (MirP_mk (v0:=a32.2.legs) (v1:=a32.2.log) (v2:=a32.2.hasLog) (v3:=(2 : Int)) (v4:=a32.2.size) (v5:=a32.2.region) (v6:=(List.replicate ((r71).toNat) false)) (v7:=a32.2.copied) (h0:=oc91.1) (h1:=oc91.2.1) (h2:=oc91.2.2.1) (h3:=oc91.2.2.2))) <| QJ_then ?_
      obtain ⟨y98,hl96,hK97⟩ := bind_c h
      refine CJ_cutT (X:=MirS) [17,119,120,121,122,123,124,125,126,127,128] (fun a100=>([] : Slots)) (fun a100 R=>MirP bs b23 a100::R) (fun a100=>y98=a100) (Dels.cons del0 Dels.nil) ?_ ?_
      ·
       refine CJ_block <| CJ_loopR (X:=Nat × MirS × Nat) [17,119,120,121,122,123,124,125,126,127,128] (fun ⟨n,x101,x102⟩=>([(119,.int .i64 (((x102 : Nat) : Int)))] : Slots)) (fun ⟨n,x101,x102⟩ R=>MirP bs b23 x101::R) (fun ⟨n,x101,x102⟩=>mirror_Open_l3 r71 n x101 x102=some y98) (fun ⟨n,x101,x102⟩=>n) ⟨FUEL,(⟨a32.2.legs,a32.2.log,a32.2.hasLog,(2 : Int),a32.2.size,a32.2.region,(List.replicate ((r71).toNat) false),a32.2.copied⟩ : MirS),0⟩ ?_ ?_ eR ?_
       · exact hl96
       · exact ⟨rfl,True.intro⟩
       ·
        rintro ⟨n,x101,x102⟩ h
        cases n with
        | zero=>exact none_e h
        | succ n => ?_
        replace h : mirror_Open_l3_b r71 (mirror_Open_l3 r71 n) x101 x102=some y98 := h
        unfold mirror_Open_l3_b at h
        show CJ _ _ _ _ _ (([(119,.int .i64 (((x102 : Nat) : Int)))] : Slots) ++ forget _ _) (MirP bs b23 x101::_)
        refine sR <| oP (P_lss (a:=((x102 : Nat) : Int)) (b:=((((List.replicate ((r71).toNat) false)).length : Nat) : Int)) rfl rfl) rfl <| nT <| CJ_seq <| CJ_condP rfl bT_dec (fun hg10 => ?_) (fun hg10 => ?_)
        ·
         replace h := ite_t hg10 h
         refine kT <| CJ_seq <| CJ_block <| sR <| oM rfl rfl <| oA rfl rfl <| nT <| CJ_entX (Ent.transX (t0_ eR) (MirP_open (l:=x101))) fun oc103=>CJ_pure (fun h hh=>Rs_len (stars_perm (del2 (A:=Rs (DevP bs) (x101.legs.map mlegS.dev) oc103.2.1)).out h hh)) fun hdl105=>lC del1 fun hlen106 => ?_
         rw [mk_mleg_len (by have := hdl105; simpa using this)] at hlen106
         refine lC del4 fun hlen107=>CJ_region <| oM rfl rfl <| oP (P_nilCheck rfl) rfl <| oP (P_fieldAddr rfl ⟨_,_,_,Tryz.runUnderlying119,rfl,rfl,Tryz.sizeOf34,rfl⟩) rfl <| oV (V_load rfl foc0 rfl Tryz.isAgg34) rfl <| oM rfl rfl ?_
         obtain ⟨hg11,h⟩ := grd_de h
         refine oV (V_index (i:=x102) rfl rfl rfl hg11 foc4 (Reads.sl _ _ _) Tryz.runUnderlying34 Tryz.sizeOf4) rfl <| oO <| O_storeE (x' := true) rfl rfl rfl hg11 foc4 rfl rfl rfl Tryz.sizeOf4 <| RJ_nil <| QJ_ent (Ent.trans eR (MirP_mk (v0:=x101.legs) (v1:=x101.log) (v2:=x101.hasLog) (v3:=x101.logState) (v4:=x101.size) (v5:=x101.region) (v6:=(x101.dirty.set x102 true)) (v7:=x101.copied) (h0:=oc103.1) (h1:=oc103.2.1) (h2:=oc103.2.2.1) (h3:=oc103.2.2.2))) <| QJ_block_normal <| QJ_then <| CJ_region ?_
         obtain ⟨hg12,h⟩ := grd_Ne h
         exact oP (PJ_eq (P_add (a:=((x102 : Nat) : Int)) (b:=(1 : Int)) rfl rfl (nat_in hg12)) rfl) rfl <| oM rfl rfl <| RJ_nil <| nR ⟨n, { x101 with dirty := (x101.dirty.set x102 true) },(x102 + 1)⟩ h ⟨rfl,True.intro⟩ eR
        ·
         replace h := ite_f hg10 h
         exact CJ_exit <| QJ_then_exit <| QJ_round_exit <| QJ_block_here <| cR x101 (Option.some.inj h).symm True.intro eR
      ·
       rintro a100 hy108
       replace h := bindK_at hK97 hy108
       show CJ _ _ _ _ _ (([] : Slots) ++ forget _ _) (MirP bs b23 a100::_)
       refine sR <| oM rfl rfl <| oA rfl rfl <| oA rfl rfl <| nT <| CJ_ret <| QJ_then_ret ?_
       cases h
       exact fE (res2 Tryz.results52 rfl rfl) b23 (t4_ (t3_ (t1_ (t2_ (t1_ eR)))))
     ·
      replace h := ite_f hg9 h
      refine kT <| CJ_seq <| CJ_entX (Ent.transX (t1_ eR) (MirP_open (l := { a32.2 with dirty := (List.replicate ((r71).toNat) false) }))) fun oc109=>CJ_pure (fun h hh=>Rs_len (stars_perm (del2 (A:=Rs (DevP bs) (a32.2.legs.map mlegS.dev) oc109.2.1)).out h hh)) fun hdl111=>lC del1 fun hlen112 => ?_
      rw [mk_mleg_len (by have := hdl111; simpa using this)] at hlen112
      refine lC del4 fun hlen113=>CJ_region <| oM rfl rfl <| oM rfl rfl <| oP (P_nilCheck rfl) rfl <| oP (P_fieldAddr rfl ⟨_,_,_,Tryz.runUnderlying119,rfl,rfl,Tryz.sizeOf34,rfl⟩) rfl <| oV (V_load rfl foc0 rfl Tryz.isAgg34) rfl <| oV (V_len rfl foc4 (Reads.sl _ _ _) Tryz.runUnderlying34) rfl ?_
      obtain ⟨r114,hr115,h⟩ := bind_e h
      refine oO <| O_call (L_regionlog_Open hr115) rfl Tryz.call94 (Dels.cons del9 (Dels.cons del6 Dels.nil)) rfl fun X116 _=>oM rfl rfl <| oP (P_extract rfl rfl) rfl <| oP (P_extract rfl rfl) rfl <| oA rfl rfl <| oA rfl rfl <| RJ_nil <| QJ_ent (Ent.trans (t3_ (t3_ (t3_ (t3_ (t3_ eR))))) (MirP_mk (v0:=a32.2.legs) (v1:=a32.2.log) (v2:=a32.2.hasLog) (v3:=a32.2.logState) (v4:=a32.2.size) (v5:=a32.2.region) (v6:=(List.replicate ((r71).toNat) false)) (v7:=a32.2.copied) (h0:=oc109.1) (h1:=oc109.2.1) (h2:=oc109.2.2.1) (h3:=oc109.2.2.2))) <| QJ_then <| CJ_seq <| sR <| oM rfl rfl <| oP (P_neq (a:=r114.2) (b:=(0 : Int)) rfl rfl) rfl <| oM rfl rfl <| RJ_mbT rfl rfl rfl (fun hG118=>have hP119 : (r114.2≠(0 : Int)) := (bT_dec).1 hG118; VJ_P (P_move rfl)) <| RJ_mbT rfl rfl rfl (fun hG120=>have hP121 : (r114.2≠(0 : Int)) := (bT_dec).1 hG120; VJ_P (P_neq (a:=r114.2) (b:=(5 : Int)) (mbx hG120 rfl) rfl)) <| oP (P_pickAnd rfl (fun hh=>mbx hh rfl) rfl) rfl <| nT <| CJ_condP rfl (bT_and bT_dec bT_dec) (fun hg13 => ?_) (fun hg13 => ?_)
      ·
       replace h := ite_t hg13 h
       refine sR <| oA rfl rfl <| oA rfl rfl <| RJ_nil <| QJ_ent (t1_ (t1_ (t2_ (t2_ (t2_ (eD (eD eR))))))) <| QJ_then <| CJ_ret <| QJ_then_ret ?_
       cases h
       exact fE (res2 Tryz.results52 rfl rfl) 0 (t4_ (t3_ (t2_ (t0_ (t0_ (Ent.trans (fun h hh=>optP_none h hh) <| t0_ eR))))))
      ·
       replace h := ite_f hg13 h
       refine kT <| CJ_seq <| sR <| oM rfl rfl <| oP (P_neq (a:=r114.2) (b:=(0 : Int)) rfl rfl) rfl <| nT <| CJ_condP rfl bT_dec (fun hg14 => ?_) (fun hg14 => ?_)
       ·
        replace h := ite_t hg14 h
        refine sR <| oM rfl rfl <| oA rfl rfl <| oA rfl rfl <| RJ_nil <| QJ_ent (t1_ (t1_ (t2_ (t2_ (t2_ (eD (eD eR))))))) <| QJ_then <| CJ_ret <| QJ_then_ret ?_
        cases h
        exact fE (res2 Tryz.results52 rfl rfl) 0 (t4_ (t3_ (t2_ (t0_ (t0_ (Ent.trans (fun h hh=>optP_none h hh) <| t0_ eR))))))
       ·
        replace h := ite_f hg14 h
        refine kT <| CJ_seq <| CJ_entX (Ent.transX (t0_ eR) (MirP_open (l := { a32.2 with dirty := (List.replicate ((r71).toNat) false) }))) fun oc122=>CJ_pure (fun h hh=>Rs_len (stars_perm (del2 (A:=Rs (DevP bs) (a32.2.legs.map mlegS.dev) oc122.2.1)).out h hh)) fun hdl124=>lC del1 fun hlen125 => ?_
        rw [mk_mleg_len (by have := hdl124; simpa using this)] at hlen125
        refine lC del4 fun hlen126=>CJ_region <| oM rfl rfl <| oM rfl rfl <| oP (P_nilCheck rfl) rfl <| oP (P_fieldAddr rfl ⟨_,_,_,Tryz.runUnderlying119,rfl,rfl,Tryz.sizeOf116,rfl⟩) rfl <| oO <| O_store rfl rfl foc0 rfl oneCell_oval Tryz.sizeOf116 <| RJ_nil <| QJ_ent (t0_ (t0_ (t0_ (t1_ (t1_ (t1_ (t1_ (t1_ (t1_ (t1_ (eD eR))))))))))) <| QJ_then <| CJ_seq <| sR <| oM rfl rfl ?_
        rcases opt_e h with ⟨ht127,h⟩ | ⟨o128,ht127,h⟩
        ·
         rw [ht127]
         exact RJ_ent (t0_ (t0_ (t0_ (t0_ (t0_ (t0_ (t1_ (t1_ (t1_ (eD eR)))))))))) <| none_e h
        ·
         rw [ht127]
         refine RJ_ent (Ent.takeC (A' := LogP bs X116 o128) del6 rfl eR) ?_
         obtain ⟨r129,hr130,h⟩ := bind_e h
         refine oO <| O_call (L_regionlog_Log_Dirty hr130) rfl Tryz.call75 (Dels.cons del0 (Dels.cons del5 Dels.nil)) rfl fun X131 _=>oV (V_len rfl foc2 (Reads.sl _ _ _) Tryz.runUnderlying45) rfl <| oM rfl rfl <| nT <| CJ_ent (Ent.trans (t3_ (t3_ (t3_ (t0_ (t2_ eR))))) (MirP_mk (v0:=a32.2.legs) (v1:=(some o128)) (v2:=a32.2.hasLog) (v3:=a32.2.logState) (v4:=a32.2.size) (v5:=a32.2.region) (v6:=(List.replicate ((r71).toNat) false)) (v7:=a32.2.copied) (h0:=oc122.1) (h1:=oc122.2.1) (h2:=X116) (h3:=oc122.2.2.2))) ?_
         obtain ⟨y135,hl133,hK134⟩ := bind_c h
         refine CJ_cutT (X:=MirS) [21,156,157,158,159,160,161,162,163,164,165,166] (fun a137=>([] : Slots)) (fun a137 R=>MirP bs b23 a137::R) (fun a137=>y135=a137) (Dels.cons del0 Dels.nil) ?_ ?_
         ·
          refine CJ_block <| CJ_loopR (X:=Nat × MirS × Nat) [21,156,157,158,159,160,161,162,163,164,165,166] (fun ⟨n,x138,x139⟩=>([(156,.int .i64 (((x139 : Nat) : Int)))] : Slots)) (fun ⟨n,x138,x139⟩ R=>MirP bs b23 x138::R) (fun ⟨n,x138,x139⟩=>mirror_Open_l4 r129 n x138 x139=some y135) (fun ⟨n,x138,x139⟩=>n) ⟨FUEL,(⟨a32.2.legs,(some o128),a32.2.hasLog,a32.2.logState,a32.2.size,a32.2.region,(List.replicate ((r71).toNat) false),a32.2.copied⟩ : MirS),0⟩ ?_ ?_ eR ?_
          · exact hl133
          · exact ⟨rfl,True.intro⟩
          ·
           rintro ⟨n,x138,x139⟩ h
           cases n with
           | zero=>exact none_e h
           | succ n => ?_
           replace h : mirror_Open_l4_b r129 (mirror_Open_l4 r129 n) x138 x139=some y135 := h
           unfold mirror_Open_l4_b at h
           show CJ _ _ _ _ _ (([(156,.int .i64 (((x139 : Nat) : Int)))] : Slots) ++ forget _ _) (MirP bs b23 x138::_)
           refine sR <| oP (P_lss (a:=((x139 : Nat) : Int)) (b:=((r129.length : Nat) : Int)) rfl rfl) rfl <| nT <| CJ_seq <| CJ_condP rfl bT_dec (fun hg15 => ?_) (fun hg15 => ?_)
           ·
            replace h := ite_t hg15 h
            refine kT <| CJ_seq <| CJ_block <| sR <| oV (V_index (i:=x139) rfl rfl rfl (by omega) foc2 (Reads.sl _ _ _) Tryz.runUnderlying45 Tryz.sizeOf3) rfl <| oV (V_loadE rfl rfl (by omega) foc2 (Reads.sl _ _ _) rfl rfl Tryz.isAgg3) rfl <| oA rfl rfl <| nT <| CJ_entX (Ent.transX (t0_ eR) (MirP_open (l:=x138))) fun oc140=>CJ_pure (fun h hh=>Rs_len (stars_perm (del2 (A:=Rs (DevP bs) (x138.legs.map mlegS.dev) oc140.2.1)).out h hh)) fun hdl142=>lC del1 fun hlen143 => ?_
            rw [mk_mleg_len (by have := hdl142; simpa using this)] at hlen143
            refine lC del4 fun hlen144=>CJ_region <| oM rfl rfl <| oP (P_nilCheck rfl) rfl <| oP (P_fieldAddr rfl ⟨_,_,_,Tryz.runUnderlying119,rfl,rfl,Tryz.sizeOf34,rfl⟩) rfl <| oV (V_load rfl foc0 rfl Tryz.isAgg34) rfl <| oM rfl rfl ?_
            obtain ⟨hg16,h⟩ := grd_de h
            refine oV (V_index (i:=((r129.getD x139 0)).toNat) rfl rfl (Int.toNat_of_nonneg (hg16.1)).symm (by omega) foc4 (Reads.sl _ _ _) Tryz.runUnderlying34 Tryz.sizeOf4) rfl <| oO <| O_storeE (x' := true) rfl rfl rfl (by omega) foc4 rfl rfl rfl Tryz.sizeOf4 <| RJ_nil <| QJ_ent (Ent.trans eR (MirP_mk (v0:=x138.legs) (v1:=x138.log) (v2:=x138.hasLog) (v3:=x138.logState) (v4:=x138.size) (v5:=x138.region) (v6:=(x138.dirty.set (((r129.getD x139 0)).toNat) true)) (v7:=x138.copied) (h0:=oc140.1) (h1:=oc140.2.1) (h2:=oc140.2.2.1) (h3:=oc140.2.2.2))) <| QJ_block_normal <| QJ_then <| CJ_region ?_
            obtain ⟨hg17,h⟩ := grd_Ne h
            exact oP (PJ_eq (P_add (a:=((x139 : Nat) : Int)) (b:=(1 : Int)) rfl rfl (nat_in hg17)) rfl) rfl <| oM rfl rfl <| RJ_nil <| nR ⟨n, { x138 with dirty := (x138.dirty.set (((r129.getD x139 0)).toNat) true) },(x139 + 1)⟩ h ⟨rfl,True.intro⟩ eR
           ·
            replace h := ite_f hg15 h
            exact CJ_exit <| QJ_then_exit <| QJ_round_exit <| QJ_block_here <| cR x138 (Option.some.inj h).symm True.intro eR
         ·
          rintro a137 hy145
          replace h := bindK_at hK134 hy145
          show CJ _ _ _ _ _ (([] : Slots) ++ forget _ _) (MirP bs b23 a137::_)
          refine sR <| oM rfl rfl <| oA rfl rfl <| oA rfl rfl <| RJ_nil <| QJ_ent (t0_ (t0_ (t1_ (t1_ (t1_ (t1_ (eD eR))))))) <| QJ_then <| CJ_ret ?_
          cases h
          exact fE (res2 Tryz.results52 rfl rfl) b23 (t5_ (t4_ (t3_ (t2_ (t1_ eR)))))
def mirror_Mirror_Size (m : MirS) (s : ArrS) : Option (Int) :=
  some m.size
theorem L_mirror_Mirror_Size {W : World} {bm : Nat} {bs : Nat} {m : MirS} {s : ArrS} {r : Int} (h : mirror_Mirror_Size m s=some r) :
    CSpec Tryz.prog W 135 [ptr bm 0] [MirP bs bm m,Arr bs s] (fun x : Unit => .int .i64 r) (fun _=>True) (fun x F=>MirP bs bm m::Arr bs s::F) := by
 refine CSpec.of_body Tryz.func135 rfl Tryz.ntmps135 rfl fun F => ?_
 show CJ _ _ _ _ _ _ (_::_::F)
 unfold mirror_Mirror_Size at h
 refine sR <| oA rfl rfl <| nT <| sR <| oM rfl rfl <| oP (P_nilCheck rfl) rfl <| oP (P_fieldAddr rfl ⟨_,_,_,Tryz.runUnderlying119,rfl,rfl,Tryz.sizeOf3,rfl⟩) rfl <| oV (VJ_entX (Ent.transX (t0_ eR) (MirP_open (l:=m))) (fun _=>V_load rfl foc0 rfl Tryz.isAgg3)) rfl <| oA rfl rfl <| nT <| CJ_ret ?_
 cases h
 exact fE (res1 Tryz.results135 rfl) () eR
def mirror_Mirror_Failed_l1_b (m : MirS) (rec : Nat→(List Int)→Option ((List Int))) (x13 : Nat) (x14 : List Int) : Option ((List Int)) :=
  if (((x13 : Nat) : Int) < ((m.legs.length : Nat) : Int)) then
    if ((m.legs.getD x13 mleg_x0).state=(1 : Int)) then
      grd (inLen (x14.length + 1)) <|
      rec (x13 + 1) ((x14 ++ [((x13 : Nat) : Int)]))
    else
      rec (x13 + 1) x14
  else
    some x14
def mirror_Mirror_Failed_l1 (m : MirS) : Nat→Nat→(List Int)→Option ((List Int))
  | 0,_,_=>none
  | n + 1,x13,x14=>mirror_Mirror_Failed_l1_b m (mirror_Mirror_Failed_l1 m n) x13 x14
def mirror_Mirror_Failed (m : MirS) (s : ArrS) : Option ((List Int)) :=
  Option.bind (mirror_Mirror_Failed_l1 m FUEL 0 ([])) fun a12 =>
  if (m.hasLog=true∧(m.logState=(1 : Int))) then
    grd (inLen (a12.length + 1)) <|
    some ((a12 ++ [((m.legs.length : Nat) : Int)]))
  else
    some a12
theorem L_mirror_Mirror_Failed {W : World} {bm : Nat} {bs : Nat} {m : MirS} {s : ArrS} {r : (List Int)} (h : mirror_Mirror_Failed m s=some r) :
    CSpec Tryz.prog W 97 [ptr bm 0] [MirP bs bm m,Arr bs s] (fun x : Sl3=>x.v) (fun _=>True) (fun x F=>MirP bs bm m::Arr bs s::sl tyI x.v r::F) := by
 refine CSpec.of_body Tryz.func97 rfl Tryz.ntmps97 rfl fun F => ?_
 show CJ _ _ _ _ _ _ (_::_::F)
 unfold mirror_Mirror_Failed at h
 refine sR <| oA rfl rfl <| nT <| sR <| oA rfl rfl <| nT <| CJ_seq <| CJ_seq <| CJ_entX (Ent.transX (t0_ eR) (MirP_open (l:=m))) fun oc1=>CJ_pure (fun h hh=>Rs_len (stars_perm (del2 (A:=Rs (DevP bs) (m.legs.map mlegS.dev) oc1.2.1)).out h hh)) fun hdl3=>lC del1 fun hlen4 => ?_
 rw [mk_mleg_len (by have := hdl3; simpa using this)] at hlen4
 refine lC del4 fun hlen5=>CJ_region <| oM rfl rfl <| oP (P_nilCheck rfl) rfl <| oP (P_fieldAddr rfl ⟨_,_,_,Tryz.runUnderlying119,rfl,rfl,Tryz.sizeOf115,rfl⟩) rfl <| oV (V_load rfl foc0 rfl Tryz.isAgg115) rfl <| oV (VJ_eq (V_len rfl foc1 (Reads.sl _ _ _) Tryz.runUnderlying115) (congrArg (fun z : Nat=>Value.int .i64 (z : Int)) (mk_mleg_len (by have := hdl3; simpa using this)).symm)) rfl <| oM rfl rfl <| nT <| CJ_ent (fun h hh=>sl_nil (t:=tyI) h hh) ?_
 obtain ⟨y9,hl7,hK8⟩ := bind_c h
 refine CJ_cutT (X:=(List Int) × Sl3) [3,4,5,11,12,13,14,15,16,17,18,19,20,21,22,23] (fun ⟨a12,hd11⟩=>([(3,hd11.v)] : Slots)) (fun ⟨a12,hd11⟩ R=>sl tyI hd11.v a12::R) (fun ⟨a12,hd11⟩=>y9=a12) (Dels.cons del0 Dels.nil) ?_ ?_
 ·
  refine CJ_block <| CJ_loopR (X:=Nat × Nat × (List Int) × Sl3) [3,4,5,11,12,13,14,15,16,17,18,19,20,21,22,23] (fun ⟨n,x13,x14,hd15⟩=>([(3,hd15.v),(11,.int .i64 (((x13 : Nat) : Int)))] : Slots)) (fun ⟨n,x13,x14,hd15⟩ R=>sl tyI hd15.v x14::R) (fun ⟨n,x13,x14,hd15⟩=>mirror_Mirror_Failed_l1 m n x13 x14=some y9) (fun ⟨n,x13,x14,hd15⟩=>n) ⟨FUEL,0,[],⟨none,0,0⟩⟩ ?_ ?_ eR ?_
  · exact hl7
  · exact ⟨rfl,rfl,True.intro⟩
  ·
   rintro ⟨n,x13,x14,hd15⟩ h
   cases n with
   | zero=>exact none_e h
   | succ n => ?_
   replace h : mirror_Mirror_Failed_l1_b m (mirror_Mirror_Failed_l1 m n) x13 x14=some y9 := h
   unfold mirror_Mirror_Failed_l1_b at h
   show CJ _ _ _ _ _ (([(3,hd15.v),(11,.int .i64 (((x13 : Nat) : Int)))] : Slots) ++ forget _ _) (sl tyI hd15.v x14::_)
   refine lC del0 fun hlen16=>sR <| oP (P_lss (a:=((x13 : Nat) : Int)) (b:=((m.legs.length : Nat) : Int)) rfl rfl) rfl <| nT <| CJ_seq <| CJ_condP rfl bT_dec (fun hg1 => ?_) (fun hg1 => ?_)
   ·
    replace h := ite_t hg1 h
    refine kT <| CJ_seq <| CJ_block <| sR <| oM rfl rfl <| oV (V_index (i:=x13) rfl rfl rfl (show x13 < (mk_mleg m.legs oc1.2.1).length by rw [mk_mleg_len (by have := hdl3; simpa using this)]; exact (by omega)) foc2 (Reads.sl _ _ _) Tryz.runUnderlying115 Tryz.sizeOf129) rfl <| RJ_ent (Ent.trans (t3_ eR) (mk_mleg_rs (i:=x13) (by omega))) <| oV (VJ_eq (V_loadEN rfl rfl (show x13 < (mk_mleg m.legs oc1.2.1).length by rw [mk_mleg_len (by have := hdl3; simpa using this)]; exact (by omega)) foc4 (Reads.sl _ _ _) rfl rfl Tryz.isAgg129 Tryz.sizeOf129) (show Value.agg #[IfH.v (oc1.2.1.getD x13 tyDev.dflt),.int .i64 ((m.legs.getD x13 mleg_x0).state),.int .i64 ((m.legs.getD x13 mleg_x0).copied)]=Value.agg #[IfH.v ((mk_mleg m.legs oc1.2.1).getD x13 mleg_h0).dev,.int .i64 ((mk_mleg m.legs oc1.2.1).getD x13 mleg_h0).state,.int .i64 ((mk_mleg m.legs oc1.2.1).getD x13 mleg_h0).copied] from by rw [mk_mleg_at (by have := hdl3; simpa using this)])) rfl <| oO <| O_alloc Tryz.zeroValue129 rfl rfl fun b18=>oA rfl rfl <| oO <| O_storeN rfl rfl foc0 Tryz.sizeOf129 rfl rfl rfl <| nT <| sR <| oP (P_fieldAddr rfl ⟨_,_,_,Tryz.runUnderlying129,rfl,rfl,Tryz.sizeOf117,rfl⟩) rfl <| oV (V_load rfl foc0 rfl Tryz.isAgg117) rfl <| oP (P_eql (a:=(m.legs.getD x13 mleg_x0).state) (b:=(1 : Int)) rfl rfl) rfl <| RJ_nil <| QJ_ent (t2_ (t2_ (t2_ (t2_ (t2_ (t2_ (t2_ (eD (eD eR))))))))) <| QJ_then ?_
    refine CJ_condP rfl bT_dec (fun hg2 => ?_) (fun hg2 => ?_)
    ·
     replace h := ite_t hg2 h
     refine CJ_region <| oM rfl rfl <| oM rfl rfl <| oO <| O_buildSlice rfl (bs_45_1_0 _) rfl fun b19 => ?_
     obtain ⟨hg3,h⟩ := grd_Le h
     exact oO <| O_append (t:=tyI) (bytes:=8) rfl rfl del2 foc0 (Reads.lit (t:=tyI) (ys:=[((x13 : Nat) : Int)]) rfl rfl (by decide) (by decide) rfl) Tryz.underlying45 ok_tyI (apl (m:=1) (b:=8) hg3 (by decide)).1 (apl (m:=1) (b:=8) hg3 (by decide)).2 rfl fun p21 c22=>oA rfl rfl <| RJ_nil <| QJ_block_normal <| QJ_ent (t0_ (t1_ (t1_ (t1_ (t1_ (t1_ (t1_ (eD eR)))))))) <| QJ_then <| CJ_region <| oP (PJ_eq (P_add (a:=((x13 : Nat) : Int)) (b:=(1 : Int)) rfl rfl (by omega)) rfl) rfl <| oM rfl rfl <| RJ_nil <| nR ⟨n,(x13 + 1),(x14 ++ [((x13 : Nat) : Int)]),⟨p21,(x14 ++ [((x13 : Nat) : Int)]).length,c22⟩⟩ h ⟨rfl,rfl,True.intro⟩ (t0_ (t1_ (t1_ eR)))
    ·
     replace h := ite_f hg2 h
     exact CJ_skip <| QJ_block_normal <| QJ_then <| CJ_region <| oP (PJ_eq (P_add (a:=((x13 : Nat) : Int)) (b:=(1 : Int)) rfl rfl (by omega)) rfl) rfl <| oM rfl rfl <| RJ_nil <| nR ⟨n,(x13 + 1),x14,hd15⟩ h ⟨rfl,rfl,True.intro⟩ (t1_ (t1_ (t1_ eR)))
   ·
    replace h := ite_f hg1 h
    exact CJ_exit <| QJ_then_exit <| QJ_round_exit <| QJ_block_here <| cR ⟨x14,hd15⟩ (Option.some.inj h).symm ⟨rfl,True.intro⟩ eR
 ·
  rintro ⟨a12,hd11⟩ hy23
  replace h := bindK_at hK8 hy23
  show CJ _ _ _ _ _ (([(3,hd11.v)] : Slots) ++ forget _ _) (sl tyI hd11.v a12::_)
  refine lC del0 fun hlen24=>CJ_seq <| sR <| oM rfl rfl <| oP (P_nilCheck rfl) rfl <| oP (P_fieldAddr rfl ⟨_,_,_,Tryz.runUnderlying119,rfl,rfl,Tryz.sizeOf4,rfl⟩) rfl <| oV (V_load rfl foc1 rfl Tryz.isAgg4) rfl <| oM rfl rfl <| RJ_mbT rfl rfl rfl (fun hG25=>have hP26 : m.hasLog=true := (Iff.rfl).1 hG25; VJ_P (P_move rfl)) <| RJ_mbT rfl rfl rfl (fun hG27=>have hP28 : m.hasLog=true := (Iff.rfl).1 hG27; VJ_P (P_nilCheck (mbx hG27 rfl))) <| RJ_mbT rfl rfl rfl (fun hG29=>have hP30 : m.hasLog=true := (Iff.rfl).1 hG29; VJ_P (P_fieldAddr (mbx hG29 rfl) ⟨_,_,_,Tryz.runUnderlying119,rfl,rfl,Tryz.sizeOf117,rfl⟩)) <| RJ_mbT rfl rfl rfl (fun hG31=>have hP32 : m.hasLog=true := (Iff.rfl).1 hG31; V_load (mbx hG31 rfl) foc1 rfl Tryz.isAgg117) <| RJ_mbT rfl rfl rfl (fun hG33=>have hP34 : m.hasLog=true := (Iff.rfl).1 hG33; VJ_P (P_eql (a:=m.logState) (b:=(1 : Int)) (mbx hG33 rfl) rfl)) <| oP (P_pickAnd rfl (fun hh=>mbx hh rfl) rfl) rfl <| nT <| CJ_condP rfl (bT_and Iff.rfl bT_dec) (fun hg4 => ?_) (fun hg4 => ?_)
  ·
   replace h := ite_t hg4 h
   refine CJ_region <| oM rfl rfl <| oM rfl rfl <| oP (P_nilCheck rfl) rfl <| oP (P_fieldAddr rfl ⟨_,_,_,Tryz.runUnderlying119,rfl,rfl,Tryz.sizeOf115,rfl⟩) rfl <| oV (V_load rfl foc1 rfl Tryz.isAgg115) rfl <| oV (VJ_eq (V_len rfl foc2 (Reads.sl _ _ _) Tryz.runUnderlying115) (congrArg (fun z : Nat=>Value.int .i64 (z : Int)) (mk_mleg_len (by have := hdl3; simpa using this)).symm)) rfl <| oO <| O_buildSlice rfl (bs_45_1_0 _) rfl fun b35 => ?_
   obtain ⟨hg5,h⟩ := grd_Le h
   refine oO <| O_append (t:=tyI) (bytes:=8) rfl rfl del1 foc0 (Reads.lit (t:=tyI) (ys:=[((m.legs.length : Nat) : Int)]) rfl rfl (by decide) (by decide) rfl) Tryz.underlying45 ok_tyI (apl (m:=1) (b:=8) hg5 (by decide)).1 (apl (m:=1) (b:=8) hg5 (by decide)).2 rfl fun p37 c38=>oA rfl rfl <| RJ_nil <| QJ_ent (t0_ (t1_ (t1_ (t1_ (t1_ (t1_ (t1_ (eD eR)))))))) <| QJ_then <| sR <| oM rfl rfl <| oA rfl rfl <| nT <| CJ_ret <| QJ_ent (Ent.trans (t1_ (t1_ (t1_ (t1_ (t1_ eR))))) (MirP_mk (v0:=m.legs) (v1:=m.log) (v2:=m.hasLog) (v3:=m.logState) (v4:=m.size) (v5:=m.region) (v6:=m.dirty) (v7:=m.copied) (h0:=oc1.1) (h1:=oc1.2.1) (h2:=oc1.2.2.1) (h3:=oc1.2.2.2))) ?_
   cases h
   exact fE (res1 Tryz.results97 rfl) ⟨p37,(a12 ++ [((m.legs.length : Nat) : Int)]).length,c38⟩ (t0_ (t1_ eR))
  ·
   replace h := ite_f hg4 h
   refine kT <| sR <| oM rfl rfl <| oA rfl rfl <| nT <| CJ_ret <| QJ_ent (Ent.trans (t1_ (t1_ (t1_ (t1_ (t1_ eR))))) (MirP_mk (v0:=m.legs) (v1:=m.log) (v2:=m.hasLog) (v3:=m.logState) (v4:=m.size) (v5:=m.region) (v6:=m.dirty) (v7:=m.copied) (h0:=oc1.1) (h1:=oc1.2.1) (h2:=oc1.2.2.1) (h3:=oc1.2.2.2))) ?_
   cases h
   exact fE (res1 Tryz.results97 rfl) hd11 (t0_ (t1_ eR))
def mirror_Mirror_result (m : MirS) (s : ArrS) : Option (Int) :=
  Option.bind (mirror_Mirror_Failed m s) fun r1 =>
  if ((0 : Int) < ((r1.length : Nat) : Int)) then
    some (18 : Int)
  else
    some (0 : Int)
theorem L_mirror_Mirror_result {W : World} {bm : Nat} {bs : Nat} {m : MirS} {s : ArrS} {r : Int} (h : mirror_Mirror_result m s=some r) :
    CSpec Tryz.prog W 58 [ptr bm 0] [MirP bs bm m,Arr bs s] (fun x : Unit => .int .i64 r) (fun _=>True) (fun x F=>MirP bs bm m::Arr bs s::F) := by
 refine CSpec.of_body Tryz.func58 rfl Tryz.ntmps58 rfl fun F => ?_
 show CJ _ _ _ _ _ _ (_::_::F)
 unfold mirror_Mirror_result at h
 refine sR <| oA rfl rfl <| nT <| CJ_seq <| sR <| oM rfl rfl ?_
 obtain ⟨r1,hr2,h⟩ := bind_e h
 refine oO <| O_call (L_mirror_Mirror_Failed hr2) rfl Tryz.call97 (Dels.cons del0 (Dels.cons del0 Dels.nil)) rfl fun X3 _=>oV (V_len rfl foc2 (Reads.sl _ _ _) Tryz.runUnderlying45) rfl <| oP (P_gtr (a:=((r1.length : Nat) : Int)) (b:=(0 : Int)) rfl rfl) rfl <| nT <| CJ_condP rfl bT_dec (fun hg1 => ?_) (fun hg1 => ?_)
 ·
  replace h := ite_t hg1 h
  refine sR <| oA rfl rfl <| nT <| CJ_ret <| QJ_then_ret ?_
  cases h
  exact fE (res1 Tryz.results58 rfl) () (t0_ (t0_ (eD eR)))
 ·
  replace h := ite_f hg1 h
  refine kT <| sR <| oA rfl rfl <| nT <| CJ_ret ?_
  cases h
  exact fE (res1 Tryz.results58 rfl) () (t0_ (t0_ (eD eR)))
def mirror_Mirror_note (m : MirS) (i : Int) (e_2 : Int) (s : ArrS) : Option (Int × MirS) :=
  if ((e_2=(0 : Int))∨(e_2=(5 : Int))) then
    some (e_2,m)
  else
    if (i=((m.legs.length : Nat) : Int)) then
      some (((0 : Int), { m with logState := (1 : Int) }))
    else
      grd (decide (0≤i∧i < (m.legs.length : Int))) <|
      if ((m.legs.getD ((i).toNat) mleg_x0).state=(2 : Int)) then
        grd (decide (0≤i∧i < (m.legs.length : Int))) <|
        some (((0 : Int), { m with legs := (m.legs.set ((i).toNat) { m.legs.getD ((i).toNat) mleg_x0 with copied := (0 : Int) }) }))
      else
        grd (decide (0≤i∧i < (m.legs.length : Int))) <|
        some (((0 : Int), { m with legs := (m.legs.set ((i).toNat) { m.legs.getD ((i).toNat) mleg_x0 with state := (1 : Int) }) }))
theorem L_mirror_Mirror_note {W : World} {bm : Nat} {bs : Nat} {m : MirS} {i : Int} {e_2 : Int} {s : ArrS} {r : Int × MirS} (h : mirror_Mirror_note m i e_2 s=some r) :
    CSpec Tryz.prog W 76 [ptr bm 0,.int .i64 i,.int .i64 e_2] [MirP bs bm m,Arr bs s] (fun x : Unit => .int .i64 r.1) (fun _=>True) (fun x F=>MirP bs bm r.2::Arr bs s::F) := by
 refine CSpec.of_body Tryz.func76 rfl Tryz.ntmps76 rfl fun F => ?_
 show CJ _ _ _ _ _ _ (_::_::F)
 unfold mirror_Mirror_note at h
 refine sR <| oA rfl rfl <| nT <| CJ_seq <| CJ_block <| sR <| oM rfl rfl <| oP (P_eql (a:=e_2) (b:=(0 : Int)) rfl rfl) rfl <| oM rfl rfl <| RJ_mbF rfl rfl rfl (fun hG1=>have hP2 : ¬ (e_2=(0 : Int)) := nP (bT_dec) hG1; VJ_P (P_move rfl)) <| RJ_mbF rfl rfl rfl (fun hG3=>have hP4 : ¬ (e_2=(0 : Int)) := nP (bT_dec) hG3; VJ_P (P_eql (a:=e_2) (b:=(5 : Int)) (mbx hG3 rfl) rfl)) <| oP (P_pickOr rfl rfl (fun hh=>mbx (not_f hh) rfl)) rfl <| oA rfl rfl <| nT <| CJ_condP rfl (bT_or bT_dec bT_dec) (fun hg1 => ?_) (fun hg1 => ?_)
 ·
  replace h := ite_t hg1 h
  refine sR <| oM rfl rfl <| oA rfl rfl <| nT <| CJ_ret <| QJ_block_ret <| QJ_then_ret ?_
  cases h
  exact fE (res1 Tryz.results76 rfl) () eR
 ·
  replace h := ite_f hg1 h
  refine CJ_seq <| CJ_entX (Ent.transX (t0_ eR) (MirP_open (l:=m))) fun oc5=>CJ_pure (fun h hh=>Rs_len (stars_perm (del2 (A:=Rs (DevP bs) (m.legs.map mlegS.dev) oc5.2.1)).out h hh)) fun hdl7=>lC del1 fun hlen8 => ?_
  rw [mk_mleg_len (by have := hdl7; simpa using this)] at hlen8
  refine lC del4 fun hlen9=>CJ_region <| oM rfl rfl <| oM rfl rfl <| oP (P_nilCheck rfl) rfl <| oP (P_fieldAddr rfl ⟨_,_,_,Tryz.runUnderlying119,rfl,rfl,Tryz.sizeOf115,rfl⟩) rfl <| oV (V_load rfl foc0 rfl Tryz.isAgg115) rfl <| oV (VJ_eq (V_len rfl foc1 (Reads.sl _ _ _) Tryz.runUnderlying115) (congrArg (fun z : Nat=>Value.int .i64 (z : Int)) (mk_mleg_len (by have := hdl7; simpa using this)).symm)) rfl <| oP (P_eql (a:=i) (b:=((m.legs.length : Nat) : Int)) rfl rfl) rfl <| oA rfl rfl <| RJ_nil <| QJ_ent (Ent.trans eR (MirP_mk (v0:=m.legs) (v1:=m.log) (v2:=m.hasLog) (v3:=m.logState) (v4:=m.size) (v5:=m.region) (v6:=m.dirty) (v7:=m.copied) (h0:=oc5.1) (h1:=oc5.2.1) (h2:=oc5.2.2.1) (h3:=oc5.2.2.2))) <| QJ_then <| CJ_condP rfl bT_dec (fun hg2 => ?_) (fun hg2 => ?_)
  ·
   replace h := ite_t hg2 h
   refine CJ_entX (Ent.transX (t0_ eR) (MirP_open (l:=m))) fun oc10=>CJ_pure (fun h hh=>Rs_len (stars_perm (del2 (A:=Rs (DevP bs) (m.legs.map mlegS.dev) oc10.2.1)).out h hh)) fun hdl12=>lC del1 fun hlen13 => ?_
   rw [mk_mleg_len (by have := hdl12; simpa using this)] at hlen13
   refine lC del4 fun hlen14=>CJ_region <| oM rfl rfl <| oP (P_nilCheck rfl) rfl <| oP (P_fieldAddr rfl ⟨_,_,_,Tryz.runUnderlying119,rfl,rfl,Tryz.sizeOf117,rfl⟩) rfl <| oO <| O_store rfl rfl foc0 rfl rfl Tryz.sizeOf117 <| RJ_nil <| QJ_ent (Ent.trans eR (MirP_mk (v0:=m.legs) (v1:=m.log) (v2:=m.hasLog) (v3:=(1 : Int)) (v4:=m.size) (v5:=m.region) (v6:=m.dirty) (v7:=m.copied) (h0:=oc10.1) (h1:=oc10.2.1) (h2:=oc10.2.2.1) (h3:=oc10.2.2.2))) <| QJ_block_normal <| QJ_then <| sR <| oA rfl rfl <| nT <| CJ_ret ?_
   cases h
   exact fE (res1 Tryz.results76 rfl) () eR
  ·
   replace h := ite_f hg2 h
   refine CJ_seq <| CJ_entX (Ent.transX (t0_ eR) (MirP_open (l:=m))) fun oc15=>CJ_pure (fun h hh=>Rs_len (stars_perm (del2 (A:=Rs (DevP bs) (m.legs.map mlegS.dev) oc15.2.1)).out h hh)) fun hdl17=>lC del1 fun hlen18 => ?_
   rw [mk_mleg_len (by have := hdl17; simpa using this)] at hlen18
   refine lC del4 fun hlen19=>CJ_region <| oM rfl rfl <| oP (P_nilCheck rfl) rfl <| oP (P_fieldAddr rfl ⟨_,_,_,Tryz.runUnderlying119,rfl,rfl,Tryz.sizeOf115,rfl⟩) rfl <| oV (V_load rfl foc0 rfl Tryz.isAgg115) rfl <| oM rfl rfl ?_
   obtain ⟨hg3,h⟩ := grd_de h
   refine oV (V_index (i:=(i).toNat) rfl rfl (Int.toNat_of_nonneg (hg3.1)).symm (show (i).toNat < (mk_mleg m.legs oc15.2.1).length by rw [mk_mleg_len (by have := hdl17; simpa using this)]; exact (by omega)) foc1 (Reads.sl _ _ _) Tryz.runUnderlying115 Tryz.sizeOf129) rfl <| oP (P_fieldE rfl ⟨_,_,_,Tryz.runUnderlying129,rfl,rfl,Tryz.sizeOf117,rfl⟩) rfl <| oV (VJ_eq (V_loadE rfl rfl (show (i).toNat < (mk_mleg m.legs oc15.2.1).length by rw [mk_mleg_len (by have := hdl17; simpa using this)]; exact (by omega)) foc1 (Reads.sl _ _ _) rfl rfl Tryz.isAgg117) (show (.int .i64 ((m.legs.getD ((i).toNat) mleg_x0).state) : Value) = .int .i64 ((mk_mleg m.legs oc15.2.1).getD ((i).toNat) mleg_h0).state from by rw [mk_mleg_at (by have := hdl17; simpa using this)])) rfl <| oP (P_eql (a:=(m.legs.getD ((i).toNat) mleg_x0).state) (b:=(2 : Int)) rfl rfl) rfl <| oA rfl rfl <| RJ_nil <| QJ_ent (Ent.trans eR (MirP_mk (v0:=m.legs) (v1:=m.log) (v2:=m.hasLog) (v3:=m.logState) (v4:=m.size) (v5:=m.region) (v6:=m.dirty) (v7:=m.copied) (h0:=oc15.1) (h1:=oc15.2.1) (h2:=oc15.2.2.1) (h3:=oc15.2.2.2))) <| QJ_then <| CJ_condP rfl bT_dec (fun hg4 => ?_) (fun hg4 => ?_)
   ·
    replace h := ite_t hg4 h
    refine CJ_entX (Ent.transX (t0_ eR) (MirP_open (l:=m))) fun oc20=>CJ_pure (fun h hh=>Rs_len (stars_perm (del2 (A:=Rs (DevP bs) (m.legs.map mlegS.dev) oc20.2.1)).out h hh)) fun hdl22=>lC del1 fun hlen23 => ?_
    rw [mk_mleg_len (by have := hdl22; simpa using this)] at hlen23
    refine lC del4 fun hlen24=>CJ_region <| oM rfl rfl <| oP (P_nilCheck rfl) rfl <| oP (P_fieldAddr rfl ⟨_,_,_,Tryz.runUnderlying119,rfl,rfl,Tryz.sizeOf115,rfl⟩) rfl <| oV (V_load rfl foc0 rfl Tryz.isAgg115) rfl <| oM rfl rfl ?_
    obtain ⟨hg5,h⟩ := grd_de h
    refine oV (V_index (i:=(i).toNat) rfl rfl (Int.toNat_of_nonneg (hg5.1)).symm (show (i).toNat < (mk_mleg m.legs oc20.2.1).length by rw [mk_mleg_len (by have := hdl22; simpa using this)]; exact (by omega)) foc1 (Reads.sl _ _ _) Tryz.runUnderlying115 Tryz.sizeOf129) rfl <| oP (P_fieldE rfl ⟨_,_,_,Tryz.runUnderlying129,rfl,rfl,Tryz.sizeOf3,rfl⟩) rfl <| oO <| O_storeE (x' := { (mk_mleg m.legs oc20.2.1).getD ((i).toNat) mleg_h0 with copied := (0 : Int) }) rfl rfl rfl (show (i).toNat < (mk_mleg m.legs oc20.2.1).length by rw [mk_mleg_len (by have := hdl22; simpa using this)]; exact (by omega)) foc1 rfl rfl rfl Tryz.sizeOf3 <| RJ_ent (Ent.takeC (A' := sl tymlegH (Sl3.v oc20.1) (mk_mleg (m.legs.set ((i).toNat) { m.legs.getD ((i).toNat) mleg_x0 with copied := (0 : Int) }) oc20.2.1)) del1 (congrArg (sl tymlegH (Sl3.v oc20.1)) (mk_mleg_set_copied (by have := hdl22; simpa using this) (by omega) (0 : Int))) (Ent.takeC (A' := Rs (DevP bs) (((m.legs.set ((i).toNat) { m.legs.getD ((i).toNat) mleg_x0 with copied := (0 : Int) })).map mlegS.dev) oc20.2.1) del1 (congrArg (fun z=>Rs (DevP bs) z oc20.2.1) (mk_mleg_dev_copied (l:=m.legs) (i:=((i).toNat)) (0 : Int)).symm) eR)) <| RJ_pure (fun h hh=>Rs_len (stars_perm (del1 (A:=Rs (DevP bs) ((((m.legs.set ((i).toNat) { m.legs.getD ((i).toNat) mleg_x0 with copied := (0 : Int) })).map mlegS.dev)) oc20.2.1)).out h hh)) fun hdl25=>RJ_nil ?_
    refine QJ_ent (Ent.trans (t2_ eR) (MirP_mk (v0:=(m.legs.set ((i).toNat) { m.legs.getD ((i).toNat) mleg_x0 with copied := (0 : Int) })) (v1:=m.log) (v2:=m.hasLog) (v3:=m.logState) (v4:=m.size) (v5:=m.region) (v6:=m.dirty) (v7:=m.copied) (h0:=oc20.1) (h1:=oc20.2.1) (h2:=oc20.2.2.1) (h3:=oc20.2.2.2))) <| QJ_block_normal <| QJ_then <| sR <| oA rfl rfl <| nT <| CJ_ret ?_
    cases h
    exact fE (res1 Tryz.results76 rfl) () eR
   ·
    replace h := ite_f hg4 h
    refine CJ_entX (Ent.transX (t0_ eR) (MirP_open (l:=m))) fun oc26=>CJ_pure (fun h hh=>Rs_len (stars_perm (del2 (A:=Rs (DevP bs) (m.legs.map mlegS.dev) oc26.2.1)).out h hh)) fun hdl28=>lC del1 fun hlen29 => ?_
    rw [mk_mleg_len (by have := hdl28; simpa using this)] at hlen29
    refine lC del4 fun hlen30=>CJ_region <| oM rfl rfl <| oP (P_nilCheck rfl) rfl <| oP (P_fieldAddr rfl ⟨_,_,_,Tryz.runUnderlying119,rfl,rfl,Tryz.sizeOf115,rfl⟩) rfl <| oV (V_load rfl foc0 rfl Tryz.isAgg115) rfl <| oM rfl rfl ?_
    obtain ⟨hg6,h⟩ := grd_de h
    refine oV (V_index (i:=(i).toNat) rfl rfl (Int.toNat_of_nonneg (hg6.1)).symm (show (i).toNat < (mk_mleg m.legs oc26.2.1).length by rw [mk_mleg_len (by have := hdl28; simpa using this)]; exact (by omega)) foc1 (Reads.sl _ _ _) Tryz.runUnderlying115 Tryz.sizeOf129) rfl <| oP (P_fieldE rfl ⟨_,_,_,Tryz.runUnderlying129,rfl,rfl,Tryz.sizeOf117,rfl⟩) rfl <| oO <| O_storeE (x' := { (mk_mleg m.legs oc26.2.1).getD ((i).toNat) mleg_h0 with state := (1 : Int) }) rfl rfl rfl (show (i).toNat < (mk_mleg m.legs oc26.2.1).length by rw [mk_mleg_len (by have := hdl28; simpa using this)]; exact (by omega)) foc1 rfl rfl rfl Tryz.sizeOf117 <| RJ_ent (Ent.takeC (A' := sl tymlegH (Sl3.v oc26.1) (mk_mleg (m.legs.set ((i).toNat) { m.legs.getD ((i).toNat) mleg_x0 with state := (1 : Int) }) oc26.2.1)) del1 (congrArg (sl tymlegH (Sl3.v oc26.1)) (mk_mleg_set_state (by have := hdl28; simpa using this) (by omega) (1 : Int))) (Ent.takeC (A' := Rs (DevP bs) (((m.legs.set ((i).toNat) { m.legs.getD ((i).toNat) mleg_x0 with state := (1 : Int) })).map mlegS.dev) oc26.2.1) del1 (congrArg (fun z=>Rs (DevP bs) z oc26.2.1) (mk_mleg_dev_state (l:=m.legs) (i:=((i).toNat)) (1 : Int)).symm) eR)) <| RJ_pure (fun h hh=>Rs_len (stars_perm (del1 (A:=Rs (DevP bs) ((((m.legs.set ((i).toNat) { m.legs.getD ((i).toNat) mleg_x0 with state := (1 : Int) })).map mlegS.dev)) oc26.2.1)).out h hh)) fun hdl31=>RJ_nil ?_
    refine QJ_ent (Ent.trans (t2_ eR) (MirP_mk (v0:=(m.legs.set ((i).toNat) { m.legs.getD ((i).toNat) mleg_x0 with state := (1 : Int) })) (v1:=m.log) (v2:=m.hasLog) (v3:=m.logState) (v4:=m.size) (v5:=m.region) (v6:=m.dirty) (v7:=m.copied) (h0:=oc26.1) (h1:=oc26.2.1) (h2:=oc26.2.2.1) (h3:=oc26.2.2.2))) <| QJ_block_normal <| QJ_then <| sR <| oA rfl rfl <| nT <| CJ_ret ?_
    cases h
    exact fE (res1 Tryz.results76 rfl) () eR
def mirror_Mirror_Dirty_l1_b (m : MirS) (rec : Nat→(List Int)→Option ((List Int))) (x13 : Nat) (x14 : List Int) : Option ((List Int)) :=
  if (((x13 : Nat) : Int) < ((m.dirty.length : Nat) : Int)) then
    if (m.dirty.getD x13 false)=true then
      grd (inLen (x14.length + 1)) <|
      rec (x13 + 1) ((x14 ++ [((x13 : Nat) : Int)]))
    else
      rec (x13 + 1) x14
  else
    some x14
def mirror_Mirror_Dirty_l1 (m : MirS) : Nat→Nat→(List Int)→Option ((List Int))
  | 0,_,_=>none
  | n + 1,x13,x14=>mirror_Mirror_Dirty_l1_b m (mirror_Mirror_Dirty_l1 m n) x13 x14
def mirror_Mirror_Dirty (m : MirS) (s : ArrS) : Option ((List Int)) :=
  Option.bind (mirror_Mirror_Dirty_l1 m FUEL 0 ([])) fun a12 =>
  some a12
theorem L_mirror_Mirror_Dirty {W : World} {bm : Nat} {bs : Nat} {m : MirS} {s : ArrS} {r : (List Int)} (h : mirror_Mirror_Dirty m s=some r) :
    CSpec Tryz.prog W 22 [ptr bm 0] [MirP bs bm m,Arr bs s] (fun x : Sl3=>x.v) (fun _=>True) (fun x F=>MirP bs bm m::Arr bs s::sl tyI x.v r::F) := by
 refine CSpec.of_body Tryz.func22 rfl Tryz.ntmps22 rfl fun F => ?_
 show CJ _ _ _ _ _ _ (_::_::F)
 unfold mirror_Mirror_Dirty at h
 refine sR <| oA rfl rfl <| nT <| sR <| oA rfl rfl <| nT <| CJ_seq <| CJ_seq <| CJ_entX (Ent.transX (t0_ eR) (MirP_open (l:=m))) fun oc1=>CJ_pure (fun h hh=>Rs_len (stars_perm (del2 (A:=Rs (DevP bs) (m.legs.map mlegS.dev) oc1.2.1)).out h hh)) fun hdl3=>lC del1 fun hlen4 => ?_
 rw [mk_mleg_len (by have := hdl3; simpa using this)] at hlen4
 refine lC del4 fun hlen5=>CJ_region <| oM rfl rfl <| oP (P_nilCheck rfl) rfl <| oP (P_fieldAddr rfl ⟨_,_,_,Tryz.runUnderlying119,rfl,rfl,Tryz.sizeOf34,rfl⟩) rfl <| oV (V_load rfl foc0 rfl Tryz.isAgg34) rfl <| oV (V_len rfl foc4 (Reads.sl _ _ _) Tryz.runUnderlying34) rfl <| oM rfl rfl <| nT <| CJ_ent (fun h hh=>sl_nil (t:=tyI) h hh) ?_
 obtain ⟨y9,hl7,hK8⟩ := bind_c h
 refine CJ_cutT (X:=(List Int) × Sl3) [3,4,5,11,12,13,14,15,16,17,18,19,20,21] (fun ⟨a12,hd11⟩=>([(3,hd11.v)] : Slots)) (fun ⟨a12,hd11⟩ R=>sl tyI hd11.v a12::R) (fun ⟨a12,hd11⟩=>y9=a12) (Dels.cons del0 Dels.nil) ?_ ?_
 ·
  refine CJ_block <| CJ_loopR (X:=Nat × Nat × (List Int) × Sl3) [3,4,5,11,12,13,14,15,16,17,18,19,20,21] (fun ⟨n,x13,x14,hd15⟩=>([(3,hd15.v),(11,.int .i64 (((x13 : Nat) : Int)))] : Slots)) (fun ⟨n,x13,x14,hd15⟩ R=>sl tyI hd15.v x14::R) (fun ⟨n,x13,x14,hd15⟩=>mirror_Mirror_Dirty_l1 m n x13 x14=some y9) (fun ⟨n,x13,x14,hd15⟩=>n) ⟨FUEL,0,[],⟨none,0,0⟩⟩ ?_ ?_ eR ?_
  · exact hl7
  · exact ⟨rfl,rfl,True.intro⟩
  ·
   rintro ⟨n,x13,x14,hd15⟩ h
   cases n with
   | zero=>exact none_e h
   | succ n => ?_
   replace h : mirror_Mirror_Dirty_l1_b m (mirror_Mirror_Dirty_l1 m n) x13 x14=some y9 := h
   unfold mirror_Mirror_Dirty_l1_b at h
   show CJ _ _ _ _ _ (([(3,hd15.v),(11,.int .i64 (((x13 : Nat) : Int)))] : Slots) ++ forget _ _) (sl tyI hd15.v x14::_)
   refine lC del0 fun hlen16=>sR <| oP (P_lss (a:=((x13 : Nat) : Int)) (b:=((m.dirty.length : Nat) : Int)) rfl rfl) rfl <| nT <| CJ_seq <| CJ_condP rfl bT_dec (fun hg1 => ?_) (fun hg1 => ?_)
   ·
    replace h := ite_t hg1 h
    refine kT <| CJ_seq <| CJ_block <| sR <| oM rfl rfl <| oV (V_index (i:=x13) rfl rfl rfl (by omega) foc5 (Reads.sl _ _ _) Tryz.runUnderlying34 Tryz.sizeOf4) rfl <| oV (V_loadE rfl rfl (by omega) foc5 (Reads.sl _ _ _) rfl rfl Tryz.isAgg4) rfl <| oA rfl rfl <| oA rfl rfl <| nT <| sR <| oM rfl rfl <| nT <| CJ_condP rfl Iff.rfl (fun hg2 => ?_) (fun hg2 => ?_)
    ·
     replace h := ite_t hg2 h
     refine CJ_region <| oM rfl rfl <| oM rfl rfl <| oO <| O_buildSlice rfl (bs_45_1_0 _) rfl fun b17 => ?_
     obtain ⟨hg3,h⟩ := grd_Le h
     exact oO <| O_append (t:=tyI) (bytes:=8) rfl rfl del1 foc0 (Reads.lit (t:=tyI) (ys:=[((x13 : Nat) : Int)]) rfl rfl (by decide) (by decide) rfl) Tryz.underlying45 ok_tyI (apl (m:=1) (b:=8) hg3 (by decide)).1 (apl (m:=1) (b:=8) hg3 (by decide)).2 rfl fun p19 c20=>oA rfl rfl <| RJ_nil <| QJ_block_normal <| QJ_ent (t0_ (t1_ (t1_ (t1_ (t1_ (t1_ (t1_ (eD eR)))))))) <| QJ_then <| CJ_region <| oP (PJ_eq (P_add (a:=((x13 : Nat) : Int)) (b:=(1 : Int)) rfl rfl (by omega)) rfl) rfl <| oM rfl rfl <| RJ_nil <| nR ⟨n,(x13 + 1),(x14 ++ [((x13 : Nat) : Int)]),⟨p19,(x14 ++ [((x13 : Nat) : Int)]).length,c20⟩⟩ h ⟨rfl,rfl,True.intro⟩ eR
    ·
     replace h := ite_f hg2 h
     exact CJ_skip <| QJ_block_normal <| QJ_then <| CJ_region <| oP (PJ_eq (P_add (a:=((x13 : Nat) : Int)) (b:=(1 : Int)) rfl rfl (by omega)) rfl) rfl <| oM rfl rfl <| RJ_nil <| nR ⟨n,(x13 + 1),x14,hd15⟩ h ⟨rfl,rfl,True.intro⟩ eR
   ·
    replace h := ite_f hg1 h
    exact CJ_exit <| QJ_then_exit <| QJ_round_exit <| QJ_block_here <| cR ⟨x14,hd15⟩ (Option.some.inj h).symm ⟨rfl,True.intro⟩ eR
 ·
  rintro ⟨a12,hd11⟩ hy21
  replace h := bindK_at hK8 hy21
  show CJ _ _ _ _ _ (([(3,hd11.v)] : Slots) ++ forget _ _) (sl tyI hd11.v a12::_)
  refine lC del0 fun hlen22=>sR <| oM rfl rfl <| oA rfl rfl <| nT <| CJ_ret <| QJ_ent (Ent.trans (t1_ (t1_ (t1_ (t1_ (t1_ eR))))) (MirP_mk (v0:=m.legs) (v1:=m.log) (v2:=m.hasLog) (v3:=m.logState) (v4:=m.size) (v5:=m.region) (v6:=m.dirty) (v7:=m.copied) (h0:=oc1.1) (h1:=oc1.2.1) (h2:=oc1.2.2.1) (h3:=oc1.2.2.2))) ?_
  cases h
  exact fE (res1 Tryz.results22 rfl) hd11 (t0_ (t1_ eR))
def mirror_Mirror_end (m : MirS) (r_1 : Int) (s : ArrS) : Option (Int) :=
  grd (inI64 ((r_1 + (1 : Int)))) <|
  grd (inI64 (((r_1 + (1 : Int)) * m.region))) <|
  some ((min (((r_1 + (1 : Int)) * m.region)) m.size))
theorem L_mirror_Mirror_end {W : World} {bm : Nat} {bs : Nat} {m : MirS} {r_1 : Int} {s : ArrS} {r : Int} (h : mirror_Mirror_end m r_1 s=some r) :
    CSpec Tryz.prog W 59 [ptr bm 0,.int .i64 r_1] [MirP bs bm m,Arr bs s] (fun x : Unit => .int .i64 r) (fun _=>True) (fun x F=>MirP bs bm m::Arr bs s::F) := by
 refine CSpec.of_body Tryz.func59 rfl Tryz.ntmps59 rfl fun F => ?_
 show CJ _ _ _ _ _ _ (_::_::F)
 unfold mirror_Mirror_end at h
 refine sR <| oA rfl rfl <| nT <| CJ_seq <| AJ_startH 0 (by kernel_rfl) rfl <| aN 0 1 rfl rfl (P_move rfl) rfl ?_
 obtain ⟨hg1,h⟩ := grd_Ie h
 refine aN 1 3 rfl rfl (P_add (a:=r_1) (b:=(1 : Int)) rfl rfl hg1) rfl <| aN 2 7 rfl rfl (P_move rfl) rfl <| aN 3 15 rfl rfl (P_nilCheck rfl) rfl <| aN 4 31 rfl rfl (P_fieldAddr rfl ⟨_,_,_,Tryz.runUnderlying119,rfl,rfl,Tryz.sizeOf3,rfl⟩) rfl <| aV 5 63 rfl rfl (GY_none rfl) eR (VJ_entX (Ent.transX (t0_ eR) (MirP_open (l:=m))) (fun _=>V_load rfl foc0 rfl Tryz.isAgg3)) rfl ?_
 obtain ⟨hg2,h⟩ := grd_Ie h
 refine aN 6 127 rfl rfl (P_mul (a:=(r_1 + (1 : Int))) (b:=m.region) rfl rfl hg2) rfl <| aN 7 255 rfl rfl (P_move rfl) rfl <| aN 8 511 rfl rfl (P_nilCheck rfl) rfl <| aN 9 1023 rfl rfl (P_fieldAddr rfl ⟨_,_,_,Tryz.runUnderlying119,rfl,rfl,Tryz.sizeOf3,rfl⟩) rfl <| aV 10 2047 rfl rfl (GY_none rfl) eR (VJ_entX (Ent.transX (t0_ eR) (MirP_open (l:=m))) (fun _=>V_load rfl foc0 rfl Tryz.isAgg3)) rfl <| aN 11 4095 rfl rfl (P_min (a:=((r_1 + (1 : Int)) * m.region)) (b:=m.size) rfl rfl) rfl <| aN 12 8191 rfl rfl (P_assign rfl) rfl <| aD <| CJ_ret ?_
 cases h
 exact fE (res1 Tryz.results59 rfl) () eR
def mirror_Mirror_rest_l1_b (m : MirS) (s : ArrS) (r1 : (List Int)) (rec : Nat→Int→Option (Int)) (x10 : Nat) (x11 : Int) : Option (Int) :=
  if (((x10 : Nat) : Int) < ((r1.length : Nat) : Int)) then
    grd (inI64 (((r1.getD x10 0) * m.region))) <|
    Option.bind (mirror_Mirror_end m (r1.getD x10 0) s) fun r12 =>
    grd (inI64 ((r12 - ((r1.getD x10 0) * m.region)))) <|
    grd (inI64 ((x11 + (r12 - ((r1.getD x10 0) * m.region))))) <|
    grd (inN64 (x10 + 1)) <|
    rec (x10 + 1) ((x11 + (r12 - ((r1.getD x10 0) * m.region))))
  else
    some x11
def mirror_Mirror_rest_l1 (m : MirS) (s : ArrS) (r1 : (List Int)) : Nat→Nat→Int→Option (Int)
  | 0,_,_=>none
  | n + 1,x10,x11=>mirror_Mirror_rest_l1_b m s r1 (mirror_Mirror_rest_l1 m s r1 n) x10 x11
def mirror_Mirror_rest (m : MirS) (s : ArrS) : Option (Int) :=
  grd (inI64 (0 - m.copied)) <|
  Option.bind (mirror_Mirror_Dirty m s) fun r1 =>
  Option.bind (mirror_Mirror_rest_l1 m s r1 FUEL 0 (0 - m.copied)) fun a9 =>
  some a9
theorem L_mirror_Mirror_rest {W : World} {bm : Nat} {bs : Nat} {m : MirS} {s : ArrS} {r : Int} (h : mirror_Mirror_rest m s=some r) :
    CSpec Tryz.prog W 65 [ptr bm 0] [MirP bs bm m,Arr bs s] (fun x : Unit => .int .i64 r) (fun _=>True) (fun x F=>MirP bs bm m::Arr bs s::F) := by
 refine CSpec.of_body Tryz.func65 rfl Tryz.ntmps65 rfl fun F => ?_
 show CJ _ _ _ _ _ _ (_::_::F)
 unfold mirror_Mirror_rest at h
 refine sR <| oA rfl rfl <| nT <| sR <| oM rfl rfl <| oP (P_nilCheck rfl) rfl <| oP (P_fieldAddr rfl ⟨_,_,_,Tryz.runUnderlying119,rfl,rfl,Tryz.sizeOf3,rfl⟩) rfl <| oV (VJ_entX (Ent.transX (t0_ eR) (MirP_open (l:=m))) (fun _=>V_load rfl foc0 rfl Tryz.isAgg3)) rfl ?_
 obtain ⟨hg1,h⟩ := grd_Ie h
 refine oP (P_neg rfl hg1) rfl <| oA rfl rfl <| nT <| CJ_seq <| sR <| oM rfl rfl ?_
 obtain ⟨r1,hr2,h⟩ := bind_e h
 refine oO <| O_call (L_mirror_Mirror_Dirty hr2) rfl Tryz.call22 (Dels.cons del0 (Dels.cons del0 Dels.nil)) rfl fun X3 _=>oV (V_len rfl foc2 (Reads.sl _ _ _) Tryz.runUnderlying45) rfl <| oM rfl rfl <| nT ?_
 obtain ⟨y7,hl5,hK6⟩ := bind_c h
 refine CJ_cutT (X:=Int) [3,5,14,15,16,17,18,19,20,21,22,23,24,25,26,27,28,29,30] (fun a9=>([(3,.int .i64 a9)] : Slots)) (fun a9 R=>R) (fun a9=>y7=a9) Dels.nil ?_ ?_
 ·
  refine CJ_block <| CJ_loopR (X:=Nat × Nat × Int) [3,5,14,15,16,17,18,19,20,21,22,23,24,25,26,27,28,29,30] (fun ⟨n,x10,x11⟩=>([(3,.int .i64 x11),(14,.int .i64 (((x10 : Nat) : Int)))] : Slots)) (fun ⟨n,x10,x11⟩ R=>R) (fun ⟨n,x10,x11⟩=>mirror_Mirror_rest_l1 m s r1 n x10 x11=some y7) (fun ⟨n,x10,x11⟩=>n) ⟨FUEL,0,(0 - m.copied)⟩ ?_ ?_ eR ?_
  · exact hl5
  · exact ⟨rfl,rfl,True.intro⟩
  ·
   rintro ⟨n,x10,x11⟩ h
   cases n with
   | zero=>exact none_e h
   | succ n => ?_
   replace h : mirror_Mirror_rest_l1_b m s r1 (mirror_Mirror_rest_l1 m s r1 n) x10 x11=some y7 := h
   unfold mirror_Mirror_rest_l1_b at h
   show CJ _ _ _ _ _ (([(3,.int .i64 x11),(14,.int .i64 (((x10 : Nat) : Int)))] : Slots) ++ forget _ _) (_)
   refine sR <| oP (P_lss (a:=((x10 : Nat) : Int)) (b:=((r1.length : Nat) : Int)) rfl rfl) rfl <| nT <| CJ_seq <| CJ_condP rfl bT_dec (fun hg2 => ?_) (fun hg2 => ?_)
   ·
    replace h := ite_t hg2 h
    refine kT <| CJ_seq <| CJ_block <| sR <| oV (V_index (i:=x10) rfl rfl rfl (by omega) foc2 (Reads.sl _ _ _) Tryz.runUnderlying45 Tryz.sizeOf3) rfl <| oV (V_loadE rfl rfl (by omega) foc2 (Reads.sl _ _ _) rfl rfl Tryz.isAgg3) rfl <| oA rfl rfl <| nT <| AJ_startH 0 (by kernel_rfl) rfl <| aN 0 1 rfl rfl (P_move rfl) rfl <| aN 1 3 rfl rfl (P_move rfl) rfl <| aN 2 7 rfl rfl (P_move rfl) rfl <| aN 4 23 rfl rfl (P_move rfl) rfl <| aN 5 55 rfl rfl (P_move rfl) rfl <| aN 6 119 rfl rfl (P_nilCheck rfl) rfl <| aN 7 247 rfl rfl (P_fieldAddr rfl ⟨_,_,_,Tryz.runUnderlying119,rfl,rfl,Tryz.sizeOf3,rfl⟩) rfl <| aV 8 503 rfl rfl (GY_none rfl) eR (VJ_entX (Ent.transX (t0_ eR) (MirP_open (l:=m))) (fun _=>V_load rfl foc0 rfl Tryz.isAgg3)) rfl ?_
    obtain ⟨hg3,h⟩ := grd_Ie h
    refine aN 9 1015 rfl rfl (P_mul (a:=(r1.getD x10 0)) (b:=m.region) rfl rfl hg3) rfl ?_
    obtain ⟨r12,hr13,h⟩ := bind_e h
    refine AJ_op 3 1023 rfl (by kernel_rfl) rfl (GY_none rfl) <| O_call (L_mirror_Mirror_end hr13) rfl Tryz.call59 (Dels.cons del0 (Dels.cons del0 Dels.nil)) rfl fun _ _=>⟨fun _=>eR,?_⟩
    obtain ⟨hg4,h⟩ := grd_Ie h
    refine aN 10 2047 rfl rfl (P_sub (a:=r12) (b:=((r1.getD x10 0) * m.region)) rfl rfl hg4) rfl ?_
    obtain ⟨hg5,h⟩ := grd_Ie h
    refine aN 11 4095 rfl rfl (P_add (a:=x11) (b:=(r12 - ((r1.getD x10 0) * m.region))) rfl rfl hg5) rfl <| aN 12 8191 rfl rfl (P_assign rfl) rfl <| AJ_done (by kernel_rfl) <| QJ_block_normal <| QJ_then <| CJ_region ?_
    obtain ⟨hg6,h⟩ := grd_Ne h
    exact oP (PJ_eq (P_add (a:=((x10 : Nat) : Int)) (b:=(1 : Int)) rfl rfl (nat_in hg6)) rfl) rfl <| oM rfl rfl <| RJ_nil <| nR ⟨n,(x10 + 1),(x11 + (r12 - ((r1.getD x10 0) * m.region)))⟩ h ⟨rfl,rfl,True.intro⟩ eR
   ·
    replace h := ite_f hg2 h
    exact CJ_exit <| QJ_then_exit <| QJ_round_exit <| QJ_block_here <| cR x11 (Option.some.inj h).symm ⟨rfl,True.intro⟩ eR
 ·
  rintro a9 hy14
  replace h := bindK_at hK6 hy14
  show CJ _ _ _ _ _ (([(3,.int .i64 a9)] : Slots) ++ forget _ _) (_)
  refine sR <| oM rfl rfl <| oA rfl rfl <| nT <| CJ_ret ?_
  cases h
  exact fE (res1 Tryz.results65 rfl) () (t0_ (t0_ (eD eR)))
def mirror_Mirror_Drop_l1_b (m : MirS) (k : Int) (rec : Nat→Nat→Option (Nat)) (x48 : Nat) (x49 : Nat) : Option (Nat) :=
  if (((x48 : Nat) : Int) < ((m.legs.length : Nat) : Int)) then
    if ((((x48 : Nat) : Int)≠k)∧((m.legs.getD x48 mleg_x0).state≠(2 : Int))) then
      grd (inN64 (x49 + 1)) <|
      rec (x48 + 1) (x49 + 1)
    else
      rec (x48 + 1) x49
  else
    some x49
def mirror_Mirror_Drop_l1 (m : MirS) (k : Int) : Nat→Nat→Nat→Option (Nat)
  | 0,_,_=>none
  | n + 1,x48,x49=>mirror_Mirror_Drop_l1_b m k (mirror_Mirror_Drop_l1 m k n) x48 x49
def mirror_Mirror_Drop (m : MirS) (k : Int) (s : ArrS) : Option (Int × MirS) :=
  if ((k=((m.legs.length : Nat) : Int))∧m.hasLog=true) then
    some (((0 : Int), { m with log := none,logState := (2 : Int) }))
  else
    if ((k < (0 : Int))∨(((m.legs.length : Nat) : Int)≤k)) then
      some (((1 : Int),m))
    else
      Option.bind (mirror_Mirror_Drop_l1 m k FUEL 0 0) fun a47 =>
      if (((a47 : Nat) : Int)=(0 : Int)) then
        some (((19 : Int),m))
      else
        grd (decide (0≤k∧k < (((m.legs.set ((k).toNat) { m.legs.getD ((k).toNat) mleg_x0 with state := (2 : Int) })).length : Int))) <|
        some (((0 : Int), { m with legs := (((m.legs.set ((k).toNat) { m.legs.getD ((k).toNat) mleg_x0 with state := (2 : Int) })).set ((k).toNat) { ((m.legs.set ((k).toNat) { m.legs.getD ((k).toNat) mleg_x0 with state := (2 : Int) })).getD ((k).toNat) mleg_x0 with copied := (0 : Int) }) }))
theorem L_mirror_Mirror_Drop {W : World} {bm : Nat} {bs : Nat} {m : MirS} {k : Int} {s : ArrS} {r : Int × MirS} (h : mirror_Mirror_Drop m k s=some r) :
    CSpec Tryz.prog W 134 [ptr bm 0,.int .i64 k] [MirP bs bm m,Arr bs s] (fun x : Unit => .int .i64 r.1) (fun _=>True) (fun x F=>MirP bs bm r.2::Arr bs s::F) := by
 refine CSpec.of_body Tryz.func134 rfl Tryz.ntmps134 rfl fun F => ?_
 show CJ _ _ _ _ _ _ (_::_::F)
 unfold mirror_Mirror_Drop at h
 refine sR <| oA rfl rfl <| nT <| CJ_seq <| CJ_seq <| CJ_entX (Ent.transX (t0_ eR) (MirP_open (l:=m))) fun oc1=>CJ_pure (fun h hh=>Rs_len (stars_perm (del2 (A:=Rs (DevP bs) (m.legs.map mlegS.dev) oc1.2.1)).out h hh)) fun hdl3=>lC del1 fun hlen4 => ?_
 rw [mk_mleg_len (by have := hdl3; simpa using this)] at hlen4
 refine lC del4 fun hlen5=>CJ_region <| oM rfl rfl <| oM rfl rfl <| oP (P_nilCheck rfl) rfl <| oP (P_fieldAddr rfl ⟨_,_,_,Tryz.runUnderlying119,rfl,rfl,Tryz.sizeOf115,rfl⟩) rfl <| oV (V_load rfl foc0 rfl Tryz.isAgg115) rfl <| oV (VJ_eq (V_len rfl foc1 (Reads.sl _ _ _) Tryz.runUnderlying115) (congrArg (fun z : Nat=>Value.int .i64 (z : Int)) (mk_mleg_len (by have := hdl3; simpa using this)).symm)) rfl <| oP (P_eql (a:=k) (b:=((m.legs.length : Nat) : Int)) rfl rfl) rfl <| oM rfl rfl <| RJ_mbT rfl rfl rfl (fun hG6=>have hP7 : (k=((m.legs.length : Nat) : Int)) := (bT_dec).1 hG6; VJ_P (P_move rfl)) <| RJ_mbT rfl rfl rfl (fun hG8=>have hP9 : (k=((m.legs.length : Nat) : Int)) := (bT_dec).1 hG8; VJ_P (P_nilCheck (mbx hG8 rfl))) <| RJ_mbT rfl rfl rfl (fun hG10=>have hP11 : (k=((m.legs.length : Nat) : Int)) := (bT_dec).1 hG10; VJ_P (P_fieldAddr (mbx hG10 rfl) ⟨_,_,_,Tryz.runUnderlying119,rfl,rfl,Tryz.sizeOf4,rfl⟩)) <| RJ_mbT rfl rfl rfl (fun hG12=>have hP13 : (k=((m.legs.length : Nat) : Int)) := (bT_dec).1 hG12; V_load (mbx hG12 rfl) foc0 rfl Tryz.isAgg4) <| oP (P_pickAnd rfl (fun hh=>mbx hh rfl) rfl) rfl <| RJ_nil <| QJ_ent (Ent.trans eR (MirP_mk (v0:=m.legs) (v1:=m.log) (v2:=m.hasLog) (v3:=m.logState) (v4:=m.size) (v5:=m.region) (v6:=m.dirty) (v7:=m.copied) (h0:=oc1.1) (h1:=oc1.2.1) (h2:=oc1.2.2.1) (h3:=oc1.2.2.2))) <| QJ_then <| CJ_condP rfl (bT_and bT_dec Iff.rfl) (fun hg1 => ?_) (fun hg1 => ?_)
 ·
  replace h := ite_t hg1 h
  refine CJ_seq <| CJ_entX (Ent.transX (t0_ eR) (MirP_open (l:=m))) fun oc14=>CJ_pure (fun h hh=>Rs_len (stars_perm (del2 (A:=Rs (DevP bs) (m.legs.map mlegS.dev) oc14.2.1)).out h hh)) fun hdl16=>lC del1 fun hlen17 => ?_
  rw [mk_mleg_len (by have := hdl16; simpa using this)] at hlen17
  refine lC del4 fun hlen18=>CJ_region <| oM rfl rfl <| oM rfl rfl <| oP (P_nilCheck rfl) rfl <| oP (P_fieldAddr rfl ⟨_,_,_,Tryz.runUnderlying119,rfl,rfl,Tryz.sizeOf116,rfl⟩) rfl <| oO <| O_store rfl rfl foc0 rfl rfl Tryz.sizeOf116 <| oP (P_nilCheck rfl) rfl <| oP (P_fieldAddr rfl ⟨_,_,_,Tryz.runUnderlying119,rfl,rfl,Tryz.sizeOf117,rfl⟩) rfl <| oO <| O_store rfl rfl foc0 rfl rfl Tryz.sizeOf117 <| RJ_nil <| QJ_ent (Ent.trans (t0_ (t0_ (t0_ (Ent.trans (fun h hh=>optP_none h hh) <| t0_ (t1_ eR))))) (MirP_mk (v0:=m.legs) (v1:=none) (v2:=m.hasLog) (v3:=(2 : Int)) (v4:=m.size) (v5:=m.region) (v6:=m.dirty) (v7:=m.copied) (h0:=oc14.1) (h1:=oc14.2.1) (h2:=0) (h3:=oc14.2.2.2))) <| QJ_then <| sR <| oA rfl rfl <| nT <| CJ_ret <| QJ_then_ret ?_
  cases h
  exact fE (res1 Tryz.results134 rfl) () (t0_ (t1_ (eD eR)))
 ·
  replace h := ite_f hg1 h
  refine kT <| CJ_seq <| CJ_seq <| CJ_entX (Ent.transX (t0_ eR) (MirP_open (l:=m))) fun oc19=>CJ_pure (fun h hh=>Rs_len (stars_perm (del2 (A:=Rs (DevP bs) (m.legs.map mlegS.dev) oc19.2.1)).out h hh)) fun hdl21=>lC del1 fun hlen22 => ?_
  rw [mk_mleg_len (by have := hdl21; simpa using this)] at hlen22
  refine lC del4 fun hlen23=>CJ_region <| oM rfl rfl <| oP (P_lss (a:=k) (b:=(0 : Int)) rfl rfl) rfl <| oM rfl rfl <| RJ_mbF rfl rfl rfl (fun hG24=>have hP25 : ¬ (k < (0 : Int)) := nP (bT_dec) hG24; VJ_P (P_move rfl)) <| RJ_mbF rfl rfl rfl (fun hG26=>have hP27 : ¬ (k < (0 : Int)) := nP (bT_dec) hG26; VJ_P (P_move rfl)) <| RJ_mbF rfl rfl rfl (fun hG28=>have hP29 : ¬ (k < (0 : Int)) := nP (bT_dec) hG28; VJ_P (P_nilCheck (mbx hG28 rfl))) <| RJ_mbF rfl rfl rfl (fun hG30=>have hP31 : ¬ (k < (0 : Int)) := nP (bT_dec) hG30; VJ_P (P_fieldAddr (mbx hG30 rfl) ⟨_,_,_,Tryz.runUnderlying119,rfl,rfl,Tryz.sizeOf115,rfl⟩)) <| RJ_mbF rfl rfl rfl (fun hG32=>have hP33 : ¬ (k < (0 : Int)) := nP (bT_dec) hG32; V_load (mbx hG32 rfl) foc0 rfl Tryz.isAgg115) <| RJ_mbF rfl rfl rfl (fun hG34=>have hP35 : ¬ (k < (0 : Int)) := nP (bT_dec) hG34; VJ_eq (V_len (mbx hG34 rfl) foc1 (Reads.sl _ _ _) Tryz.runUnderlying115) (congrArg (fun z : Nat=>Value.int .i64 (z : Int)) (mk_mleg_len (by have := hdl21; simpa using this)).symm)) <| RJ_mbF rfl rfl rfl (fun hG36=>have hP37 : ¬ (k < (0 : Int)) := nP (bT_dec) hG36; VJ_P (P_geq (a:=k) (b:=((m.legs.length : Nat) : Int)) (mbx hG36 rfl) (mbx hG36 rfl))) <| oP (P_pickOr rfl rfl (fun hh=>mbx (not_f hh) rfl)) rfl <| RJ_nil ?_
  refine QJ_ent (Ent.trans eR (MirP_mk (v0:=m.legs) (v1:=m.log) (v2:=m.hasLog) (v3:=m.logState) (v4:=m.size) (v5:=m.region) (v6:=m.dirty) (v7:=m.copied) (h0:=oc19.1) (h1:=oc19.2.1) (h2:=oc19.2.2.1) (h3:=oc19.2.2.2))) <| QJ_then <| CJ_condP rfl (bT_or bT_dec bT_dec) (fun hg2 => ?_) (fun hg2 => ?_)
  ·
   replace h := ite_t hg2 h
   refine sR <| oA rfl rfl <| nT <| CJ_ret <| QJ_then_ret ?_
   cases h
   exact fE (res1 Tryz.results134 rfl) () eR
  ·
   replace h := ite_f hg2 h
   refine kT <| sR <| oA rfl rfl <| nT <| CJ_seq <| CJ_seq <| CJ_entX (Ent.transX (t0_ eR) (MirP_open (l:=m))) fun oc38=>CJ_pure (fun h hh=>Rs_len (stars_perm (del2 (A:=Rs (DevP bs) (m.legs.map mlegS.dev) oc38.2.1)).out h hh)) fun hdl40=>lC del1 fun hlen41 => ?_
   rw [mk_mleg_len (by have := hdl40; simpa using this)] at hlen41
   refine lC del4 fun hlen42=>CJ_region <| oM rfl rfl <| oP (P_nilCheck rfl) rfl <| oP (P_fieldAddr rfl ⟨_,_,_,Tryz.runUnderlying119,rfl,rfl,Tryz.sizeOf115,rfl⟩) rfl <| oV (V_load rfl foc0 rfl Tryz.isAgg115) rfl <| oV (VJ_eq (V_len rfl foc1 (Reads.sl _ _ _) Tryz.runUnderlying115) (congrArg (fun z : Nat=>Value.int .i64 (z : Int)) (mk_mleg_len (by have := hdl40; simpa using this)).symm)) rfl <| oM rfl rfl <| nT ?_
   obtain ⟨y45,hl43,hK44⟩ := bind_c h
   refine CJ_cutT (X:=Nat) [5,6,7,43,44,45,46,47,48,49,50,51,52,53,54,55,56,57,58] (fun a47=>([(5,.int .i64 (((a47 : Nat) : Int)))] : Slots)) (fun a47 R=>R) (fun a47=>y45=a47) Dels.nil ?_ ?_
   ·
    refine CJ_block <| CJ_loopR (X:=Nat × Nat × Nat) [5,6,7,43,44,45,46,47,48,49,50,51,52,53,54,55,56,57,58] (fun ⟨n,x48,x49⟩=>([(5,.int .i64 (((x49 : Nat) : Int))),(43,.int .i64 (((x48 : Nat) : Int)))] : Slots)) (fun ⟨n,x48,x49⟩ R=>R) (fun ⟨n,x48,x49⟩=>mirror_Mirror_Drop_l1 m k n x48 x49=some y45) (fun ⟨n,x48,x49⟩=>n) ⟨FUEL,0,0⟩ ?_ ?_ eR ?_
    · exact hl43
    · exact ⟨rfl,rfl,True.intro⟩
    ·
     rintro ⟨n,x48,x49⟩ h
     cases n with
     | zero=>exact none_e h
     | succ n => ?_
     replace h : mirror_Mirror_Drop_l1_b m k (mirror_Mirror_Drop_l1 m k n) x48 x49=some y45 := h
     unfold mirror_Mirror_Drop_l1_b at h
     show CJ _ _ _ _ _ (([(5,.int .i64 (((x49 : Nat) : Int))),(43,.int .i64 (((x48 : Nat) : Int)))] : Slots) ++ forget _ _) (_)
     refine sR <| oP (P_lss (a:=((x48 : Nat) : Int)) (b:=((m.legs.length : Nat) : Int)) rfl rfl) rfl <| nT <| CJ_seq <| CJ_condP rfl bT_dec (fun hg3 => ?_) (fun hg3 => ?_)
     ·
      replace h := ite_t hg3 h
      refine kT <| CJ_seq <| CJ_block <| sR <| oM rfl rfl <| oV (V_index (i:=x48) rfl rfl rfl (show x48 < (mk_mleg m.legs oc38.2.1).length by rw [mk_mleg_len (by have := hdl40; simpa using this)]; exact (by omega)) foc1 (Reads.sl _ _ _) Tryz.runUnderlying115 Tryz.sizeOf129) rfl <| RJ_ent (Ent.trans (t2_ eR) (mk_mleg_rs (i:=x48) (by omega))) <| oV (VJ_eq (V_loadEN rfl rfl (show x48 < (mk_mleg m.legs oc38.2.1).length by rw [mk_mleg_len (by have := hdl40; simpa using this)]; exact (by omega)) foc3 (Reads.sl _ _ _) rfl rfl Tryz.isAgg129 Tryz.sizeOf129) (show Value.agg #[IfH.v (oc38.2.1.getD x48 tyDev.dflt),.int .i64 ((m.legs.getD x48 mleg_x0).state),.int .i64 ((m.legs.getD x48 mleg_x0).copied)]=Value.agg #[IfH.v ((mk_mleg m.legs oc38.2.1).getD x48 mleg_h0).dev,.int .i64 ((mk_mleg m.legs oc38.2.1).getD x48 mleg_h0).state,.int .i64 ((mk_mleg m.legs oc38.2.1).getD x48 mleg_h0).copied] from by rw [mk_mleg_at (by have := hdl40; simpa using this)])) rfl <| oO <| O_alloc Tryz.zeroValue129 rfl rfl fun b51=>oA rfl rfl <| oO <| O_storeN rfl rfl foc0 Tryz.sizeOf129 rfl rfl rfl <| nT <| sR <| oM rfl rfl <| oM rfl rfl <| oP (P_neq (a:=((x48 : Nat) : Int)) (b:=k) rfl rfl) rfl <| oM rfl rfl <| RJ_mbT rfl rfl rfl (fun hG52=>have hP53 : (((x48 : Nat) : Int)≠k) := (bT_dec).1 hG52; VJ_P (P_fieldAddr rfl ⟨_,_,_,Tryz.runUnderlying129,rfl,rfl,Tryz.sizeOf117,rfl⟩)) ?_
      refine RJ_mbT rfl rfl rfl (fun hG54=>have hP55 : (((x48 : Nat) : Int)≠k) := (bT_dec).1 hG54; V_load (mbx hG54 rfl) foc0 rfl Tryz.isAgg117) <| RJ_mbT rfl rfl rfl (fun hG56=>have hP57 : (((x48 : Nat) : Int)≠k) := (bT_dec).1 hG56; VJ_P (P_neq (a:=(m.legs.getD x48 mleg_x0).state) (b:=(2 : Int)) (mbx hG56 rfl) rfl)) <| oP (P_pickAnd rfl (fun hh=>mbx hh rfl) rfl) rfl <| RJ_nil <| QJ_ent (t2_ (t2_ (t2_ (t2_ (t2_ (t2_ (eD (eD eR)))))))) <| QJ_then <| CJ_condP rfl (bT_and bT_dec bT_dec) (fun hg4 => ?_) (fun hg4 => ?_)
      ·
       replace h := ite_t hg4 h
       refine CJ_region <| oM rfl rfl ?_
       obtain ⟨hg5,h⟩ := grd_Ne h
       exact oP (PJ_eq (P_add (a:=((x49 : Nat) : Int)) (b:=(1 : Int)) rfl rfl (nat_in hg5)) rfl) rfl <| oA rfl rfl <| RJ_nil <| QJ_block_normal <| QJ_then <| CJ_region <| oP (PJ_eq (P_add (a:=((x48 : Nat) : Int)) (b:=(1 : Int)) rfl rfl (by omega)) rfl) rfl <| oM rfl rfl <| RJ_nil <| nR ⟨n,(x48 + 1),(x49 + 1)⟩ h ⟨rfl,rfl,True.intro⟩ (t1_ (t1_ eR))
      ·
       replace h := ite_f hg4 h
       exact CJ_skip <| QJ_block_normal <| QJ_then <| CJ_region <| oP (PJ_eq (P_add (a:=((x48 : Nat) : Int)) (b:=(1 : Int)) rfl rfl (by omega)) rfl) rfl <| oM rfl rfl <| RJ_nil <| nR ⟨n,(x48 + 1),x49⟩ h ⟨rfl,rfl,True.intro⟩ (t1_ (t1_ eR))
     ·
      replace h := ite_f hg3 h
      exact CJ_exit <| QJ_then_exit <| QJ_round_exit <| QJ_block_here <| cR x49 (Option.some.inj h).symm ⟨rfl,True.intro⟩ eR
   ·
    rintro a47 hy58
    replace h := bindK_at hK44 hy58
    show CJ _ _ _ _ _ (([(5,.int .i64 (((a47 : Nat) : Int)))] : Slots) ++ forget _ _) (_)
    refine CJ_seq <| sR <| oM rfl rfl <| oP (P_eql (a:=((a47 : Nat) : Int)) (b:=(0 : Int)) rfl rfl) rfl <| nT <| CJ_condP rfl bT_dec (fun hg6 => ?_) (fun hg6 => ?_)
    ·
     replace h := ite_t hg6 h
     refine sR <| oA rfl rfl <| nT <| CJ_ret <| QJ_then_ret <| QJ_ent (Ent.trans eR (MirP_mk (v0:=m.legs) (v1:=m.log) (v2:=m.hasLog) (v3:=m.logState) (v4:=m.size) (v5:=m.region) (v6:=m.dirty) (v7:=m.copied) (h0:=oc38.1) (h1:=oc38.2.1) (h2:=oc38.2.2.1) (h3:=oc38.2.2.2))) ?_
     cases h
     exact fE (res1 Tryz.results134 rfl) () eR
    ·
     replace h := ite_f hg6 h
     refine kT <| CJ_seq <| AJ_start [blk bm 119 [(Sl3.v oc38.1),oval m.log oc38.2.2.1,.bool m.hasLog,.int .i64 m.logState,.int .i64 m.size,.int .i64 m.region,(Sl3.v oc38.2.2.2),.int .i64 m.copied],optP (LogP bs oc38.2.2.1) m.log,sl tyB (Sl3.v oc38.2.2.2) m.dirty,Arr bs s] 32768 (by kernel_rfl) rfl <| aN 0 1 rfl rfl (P_move rfl) rfl <| aN 1 3 rfl rfl (P_nilCheck rfl) rfl <| aN 2 7 rfl rfl (P_fieldAddr rfl ⟨_,_,_,Tryz.runUnderlying119,rfl,rfl,Tryz.sizeOf115,rfl⟩) rfl <| aV 3 15 rfl rfl (GY_none rfl) (t0_ (t2_ (t2_ (t2_ Ent.done)))) (V_load rfl foc0 rfl Tryz.isAgg115) rfl <| aN 4 31 rfl rfl (P_move rfl) rfl <| aN 5 63 rfl rfl (P_move rfl) rfl <| aN 6 127 rfl rfl (P_nilCheck rfl) rfl <| aN 7 255 rfl rfl (P_fieldAddr rfl ⟨_,_,_,Tryz.runUnderlying119,rfl,rfl,Tryz.sizeOf115,rfl⟩) rfl <| aV 8 511 rfl rfl (GY_none rfl) (t0_ (t2_ (t2_ (t2_ Ent.done)))) (V_load rfl foc0 rfl Tryz.isAgg115) rfl <| aN 9 1023 rfl rfl (P_move rfl) rfl <| AJ_op 10 2047 rfl (by kernel_rfl) rfl (GY_none rfl) <| OJ_V (V_index (i:=(k).toNat) rfl rfl (Int.toNat_of_nonneg (by omega)).symm (show (k).toNat < (mk_mleg m.legs oc38.2.1).length by rw [mk_mleg_len (by have := hdl40; simpa using this)]; exact (by omega)) foc1 (Reads.sl _ _ _) Tryz.runUnderlying115 Tryz.sizeOf129) rfl <| ⟨fun _=>(t0_ (t2_ (t2_ (t2_ Ent.done)))),?_⟩
     refine aN 11 4095 rfl rfl (P_fieldE rfl ⟨_,_,_,Tryz.runUnderlying129,rfl,rfl,Tryz.sizeOf117,rfl⟩) rfl <| AJ_op 12 8191 rfl (by kernel_rfl) rfl (GY_none rfl) <| O_storeE (x' := { (mk_mleg m.legs oc38.2.1).getD ((k).toNat) mleg_h0 with state := (2 : Int) }) rfl rfl rfl (show (k).toNat < (mk_mleg m.legs oc38.2.1).length by rw [mk_mleg_len (by have := hdl40; simpa using this)]; exact (by omega)) foc1 rfl rfl rfl Tryz.sizeOf117 <| ⟨fun _=>(t0_ (t2_ (t2_ (t2_ Ent.done)))),?_⟩
     refine AJ_ent (Ent.takeC (A' := sl tymlegH (Sl3.v oc38.1) (mk_mleg (m.legs.set ((k).toNat) { m.legs.getD ((k).toNat) mleg_x0 with state := (2 : Int) }) oc38.2.1)) del1 (congrArg (sl tymlegH (Sl3.v oc38.1)) (mk_mleg_set_state (by have := hdl40; simpa using this) (by omega) (2 : Int))) (Ent.takeC (A' := Rs (DevP bs) (((m.legs.set ((k).toNat) { m.legs.getD ((k).toNat) mleg_x0 with state := (2 : Int) })).map mlegS.dev) oc38.2.1) del1 (congrArg (fun z=>Rs (DevP bs) z oc38.2.1) (mk_mleg_dev_state (l:=m.legs) (i:=((k).toNat)) (2 : Int)).symm) eR)) <| AJ_pure (fun h hh=>Rs_len (stars_perm (del1 (A:=Rs (DevP bs) ((((m.legs.set ((k).toNat) { m.legs.getD ((k).toNat) mleg_x0 with state := (2 : Int) })).map mlegS.dev)) oc38.2.1)).out h hh)) fun hdl59 => ?_
     obtain ⟨hg7,h⟩ := grd_de h
     refine AJ_op 13 16383 rfl (by kernel_rfl) rfl (GY_none rfl) <| OJ_V (V_index (i:=(k).toNat) rfl rfl (Int.toNat_of_nonneg (hg7.1)).symm (show (k).toNat < (mk_mleg ((m.legs.set ((k).toNat) { m.legs.getD ((k).toNat) mleg_x0 with state := (2 : Int) })) oc38.2.1).length by rw [mk_mleg_len (by have := hdl59; simpa using this)]; exact (by omega)) foc0 (Reads.sl _ _ _) Tryz.runUnderlying115 Tryz.sizeOf129) rfl <| ⟨fun _=>(t2_ (t2_ (t2_ (t2_ Ent.done)))),?_⟩
     refine aN 14 32767 rfl rfl (P_fieldE rfl ⟨_,_,_,Tryz.runUnderlying129,rfl,rfl,Tryz.sizeOf3,rfl⟩) rfl <| AJ_op 15 65535 rfl (by kernel_rfl) rfl (GY_none rfl) <| O_storeE (x' := { (mk_mleg ((m.legs.set ((k).toNat) { m.legs.getD ((k).toNat) mleg_x0 with state := (2 : Int) })) oc38.2.1).getD ((k).toNat) mleg_h0 with copied := (0 : Int) }) rfl rfl rfl (show (k).toNat < (mk_mleg ((m.legs.set ((k).toNat) { m.legs.getD ((k).toNat) mleg_x0 with state := (2 : Int) })) oc38.2.1).length by rw [mk_mleg_len (by have := hdl59; simpa using this)]; exact (by omega)) foc0 rfl rfl rfl Tryz.sizeOf3 <| ⟨fun h=>absurd h (by decide),?_⟩
     refine AJ_ent (Ent.takeC (A' := sl tymlegH (Sl3.v oc38.1) (mk_mleg (((m.legs.set ((k).toNat) { m.legs.getD ((k).toNat) mleg_x0 with state := (2 : Int) })).set ((k).toNat) { ((m.legs.set ((k).toNat) { m.legs.getD ((k).toNat) mleg_x0 with state := (2 : Int) })).getD ((k).toNat) mleg_x0 with copied := (0 : Int) }) oc38.2.1)) del0 (congrArg (sl tymlegH (Sl3.v oc38.1)) (mk_mleg_set_copied (by have := hdl59; simpa using this) (by omega) (0 : Int))) (Ent.takeC (A' := Rs (DevP bs) (((((m.legs.set ((k).toNat) { m.legs.getD ((k).toNat) mleg_x0 with state := (2 : Int) })).set ((k).toNat) { ((m.legs.set ((k).toNat) { m.legs.getD ((k).toNat) mleg_x0 with state := (2 : Int) })).getD ((k).toNat) mleg_x0 with copied := (0 : Int) })).map mlegS.dev) oc38.2.1) del0 (congrArg (fun z=>Rs (DevP bs) z oc38.2.1) (mk_mleg_dev_copied (l:=((m.legs.set ((k).toNat) { m.legs.getD ((k).toNat) mleg_x0 with state := (2 : Int) }))) (i:=((k).toNat)) (0 : Int)).symm) eR)) <| AJ_pure (fun h hh=>Rs_len (stars_perm (del1 (A:=Rs (DevP bs) ((((((m.legs.set ((k).toNat) { m.legs.getD ((k).toNat) mleg_x0 with state := (2 : Int) })).set ((k).toNat) { ((m.legs.set ((k).toNat) { m.legs.getD ((k).toNat) mleg_x0 with state := (2 : Int) })).getD ((k).toNat) mleg_x0 with copied := (0 : Int) })).map mlegS.dev)) oc38.2.1)).out h hh)) fun hdl60=>aD <| sR <| oA rfl rfl <| nT <| CJ_ret ?_
     refine QJ_ent (Ent.trans (t2_ eR) (MirP_mk (v0:=(((m.legs.set ((k).toNat) { m.legs.getD ((k).toNat) mleg_x0 with state := (2 : Int) })).set ((k).toNat) { ((m.legs.set ((k).toNat) { m.legs.getD ((k).toNat) mleg_x0 with state := (2 : Int) })).getD ((k).toNat) mleg_x0 with copied := (0 : Int) })) (v1:=m.log) (v2:=m.hasLog) (v3:=m.logState) (v4:=m.size) (v5:=m.region) (v6:=m.dirty) (v7:=m.copied) (h0:=oc38.1) (h1:=oc38.2.1) (h2:=oc38.2.2.1) (h3:=oc38.2.2.2))) ?_
     cases h
     exact fE (res1 Tryz.results134 rfl) () eR
end Go.Proofs
