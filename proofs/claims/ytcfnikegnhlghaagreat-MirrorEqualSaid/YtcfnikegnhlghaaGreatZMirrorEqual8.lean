/- MirrorEqual,part 8 of the proof: LBeg21,PMirO,PMirO2,PKeep,POwn1,POwn2,POwn3,POwn4,POwn5,POwn6,POwn7,POwn8,PWords,PMirB,POwn9,PMirD. -/
import Derived.WalkKit
import Derived.Orders
import Derived.Handy
import Derived.OrdersHeld
import Derived.Below
import Derived.OpenShut
import Derived.Deep.Slices
import Derived.Scope
import Derived.KernelRfl
import Derived.ProofKit
import Derived.ShutString
import Derived.ChangeOld
import Derived.Test.YtcfnikegnhlghaaGreatChecked
import Derived.Test.YtcfnikegnhlghaaGreatRows
import Derived.Test.YtcfnikegnhlghaaGreatZMirrorEqual7
set_option linter.unusedSimpArgs false
set_option linter.unusedVariables false
set_option maxRecDepth 20000
set_option maxHeartbeats 4000000
namespace Go.Proofs
open Go.VG
theorem bld_28_1_2_3_4 (v0 : Int) (v1 : Int) (v2 : Int) (v3 : Bool) : ∀ w,(Instr.build 28 (#[(1,.int .i64 v0),(2,.int .i64 v1),(3,.int .i64 v2),(4,.bool v3)] : Array (Nat × Value))).run Tryz.prog w = .ok (.agg #[.pointer none,.int .i64 v0,.int .i64 v1,.int .i64 v2,.bool v3]) w := fun w => by kernel_rfl
theorem bs_90_1_0 (v0 : (Option Addr)) (v1 : Nat) (v2 : Nat) : BuildsSlice Tryz.prog 90 1 [(0,.slice v0 v1 v2)] 29 [.slice v0 v1 v2] := fun w => by kernel_rfl
def volumegroupref21_Regions (size : Int) (region : Int) : Option (Int) :=
  if ((size < (1 : Int)) ∨ (region < (1 : Int))) then
    some (0 : Int)
  else
    grd (inI64 ((size - (1 : Int)))) <|
    grd (inI64 (((IntKind.i64.wrap (((size - (1 : Int))).tdiv region)) + (1 : Int)))) <|
    some (((IntKind.i64.wrap (((size - (1 : Int))).tdiv region)) + (1 : Int)))
theorem L_volumegroupref21_Regions {W : World} {size : Int} {region : Int} {r : Int} (h : volumegroupref21_Regions size region = some r) :
    CSpec Tryz.prog W 17 [.int .i64 size,.int .i64 region] [] (fun x : Unit => .int .i64 r) (fun _ => True) (fun x F => F) := by
 refine CSpec.of_body Tryz.func17 rfl Tryz.ntmps17 rfl fun F => ?_
 show CJ _ _ _ _ _ _ (F)
 unfold volumegroupref21_Regions at h
 refine sR <| oA rfl rfl <| nT <| CJ_seq <| sR <| oM rfl rfl <| oP (P_lss (a := size) (b := (1 : Int)) rfl rfl) rfl <| oM rfl rfl <| RJ_mbF rfl rfl rfl (fun hG1 => have hP2 : ¬ (size < (1 : Int)) := nP (bT_dec) hG1; VJ_P (P_move rfl)) <| RJ_mbF rfl rfl rfl (fun hG3 => have hP4 : ¬ (size < (1 : Int)) := nP (bT_dec) hG3; VJ_P (P_lss (a := region) (b := (1 : Int)) (mbx hG3 rfl) rfl)) <| oP (P_pickOr rfl rfl (fun hh => mbx (not_f hh) rfl)) rfl <| nT <| CJ_condP rfl (bT_or bT_dec bT_dec) (fun hg1 => ?_) (fun hg1 => ?_)
 ·
  replace h := ite_t hg1 h
  refine sR <| oA rfl rfl <| nT <| CJ_ret <| QJ_then_ret ?_
  cases h
  exact fE (res1 Tryz.results17 rfl) () eR
 ·
  replace h := ite_f hg1 h
  refine kT <| sR <| oM rfl rfl ?_
  obtain ⟨hg2,h⟩ := grd_Ie h
  refine oP (P_sub (a := size) (b := (1 : Int)) rfl rfl hg2) rfl <| oM rfl rfl <| oP (P_quoT (a := (size - (1 : Int))) (b := region) rfl rfl (by omega)) rfl ?_
  obtain ⟨hg3,h⟩ := grd_Ie h
  refine oP (P_add (a := (IntKind.i64.wrap (((size - (1 : Int))).tdiv region))) (b := (1 : Int)) rfl rfl hg3) rfl <| oA rfl rfl <| nT <| CJ_ret ?_
  cases h
  exact fE (res1 Tryz.results17 rfl) () eR
def volumegrouplaw21_begun_l1_b (n_0 : UInt8) (r3 : (List UInt64)) (rec : (List (List UInt64)) → Nat → Option ((List (List UInt64)))) (x16 : List (List UInt64)) (x19 : Nat) : Option ((List (List UInt64))) :=
  if (((x19 : Nat) : Int) < (((2 + ((n_0 % (2 : UInt8))).toNat) : Nat) : Int)) then
    grd (inLen (x16.length + 1)) <|
    grd (inN64 (x19 + 1)) <|
    rec (x16 ++ [r3]) (x19 + 1)
  else
    some x16
def volumegrouplaw21_begun_l1 (n_0 : UInt8) (r3 : (List UInt64)) : Nat → (List (List UInt64)) → Nat → Option ((List (List UInt64)))
  | 0,_,_ => none
  | n + 1,x16,x19 => volumegrouplaw21_begun_l1_b n_0 r3 (volumegrouplaw21_begun_l1 n_0 r3 n) x16 x19
def volumegrouplaw21_begun (n_0 : UInt8) : Option ((Option ArrS) × Nat × Nat × Nat × Bool × (List UInt64)) :=
  grd (inN64 ((2 + ((n_0 % (2 : UInt8))).toNat))) <|
  grd (inN64 ((1 + (((n_0 / (2 : UInt8)) % (12 : UInt8))).toNat))) <|
  grd (inN64 ((1 + (((n_0 / (24 : UInt8)) % (4 : UInt8))).toNat))) <|
  Option.bind (volumegroupmake_Words ((((1 + (((n_0 / (2 : UInt8)) % (12 : UInt8))).toNat) : Nat) : Int)) (5 : UInt64)) fun r3 =>
  Option.bind (volumegrouplaw21_begun_l1 n_0 r3 FUEL (([] : List (List UInt64))) 0) fun a15 =>
  grd (inLen (a15.length + 1)) <|
  Option.bind (volumegroupmake_Loaded ((a15 ++ [(List.replicate 3 0)]))) fun r36 =>
  Option.elim r36 (
    some ((none,(2 + ((n_0 % (2 : UInt8))).toNat),(1 + (((n_0 / (2 : UInt8)) % (12 : UInt8))).toNat),(1 + (((n_0 / (24 : UInt8)) % (4 : UInt8))).toNat),(decide (((128 : UInt8).toNat : Int) ≤ (n_0.toNat : Int))),[]))) fun o41 =>
  Option.bind (volumegroupmake_Spans o41) fun r44 =>
  grd (inN64 (((2 + ((n_0 % (2 : UInt8))).toNat) + 1))) <|
  if (((r44.length : Nat) : Int) ≠ ((((2 + ((n_0 % (2 : UInt8))).toNat) + 1) : Nat) : Int)) then
    some ((none,(2 + ((n_0 % (2 : UInt8))).toNat),(1 + (((n_0 / (2 : UInt8)) % (12 : UInt8))).toNat),(1 + (((n_0 / (24 : UInt8)) % (4 : UInt8))).toNat),(decide (((128 : UInt8).toNat : Int) ≤ (n_0.toNat : Int))),r3))
  else
    Option.bind (volumegroupref21_Regions ((((1 + (((n_0 / (2 : UInt8)) % (12 : UInt8))).toNat) : Nat) : Int)) ((((1 + (((n_0 / (24 : UInt8)) % (4 : UInt8))).toNat) : Nat) : Int))) fun r52 =>
    Option.bind (regionlog_Format ((r44.getD ((2 + ((n_0 % (2 : UInt8))).toNat)) dv0)) r52 o41) fun r54 =>
    if (r54.1 ≠ (0 : Int)) then
      some ((none,(2 + ((n_0 % (2 : UInt8))).toNat),(1 + (((n_0 / (2 : UInt8)) % (12 : UInt8))).toNat),(1 + (((n_0 / (24 : UInt8)) % (4 : UInt8))).toNat),(decide (((128 : UInt8).toNat : Int) ≤ (n_0.toNat : Int))),r3))
    else
      some (((some r54.2),(2 + ((n_0 % (2 : UInt8))).toNat),(1 + (((n_0 / (2 : UInt8)) % (12 : UInt8))).toNat),(1 + (((n_0 / (24 : UInt8)) % (4 : UInt8))).toNat),(decide (((128 : UInt8).toNat : Int) ≤ (n_0.toNat : Int))),r3))
theorem L_volumegrouplaw21_begun {W : World} {n_0 : UInt8} {r : (Option ArrS) × Nat × Nat × Nat × Bool × (List UInt64)} (h : volumegrouplaw21_begun n_0 = some r) :
    CSpec Tryz.prog W 14 [.int .u8 (n_0.toNat : Int)] [] (fun x : Nat × Value => .tuple #[.agg #[oval r.1 x.1,.int .i64 (((r.2.1 : Nat) : Int)),.int .i64 (((r.2.2.1 : Nat) : Int)),.int .i64 (((r.2.2.2.1 : Nat) : Int)),.bool r.2.2.2.2.1],x.2]) (fun _ => True) (fun x F => optP (Arr x.1) r.1 :: RdP tyU x.2 r.2.2.2.2.2 :: F) := by
 refine CSpec.of_body Tryz.func14 rfl Tryz.ntmps14 rfl fun F => ?_
 show CJ _ _ _ _ _ _ (F)
 unfold volumegrouplaw21_begun at h
 refine sR <| oO <| O_alloc Tryz.zeroValue28 rfl rfl fun b1 => oA rfl rfl <| nT <| sR <| oM rfl rfl <| oP (P_rem_u8 (a := n_0) (b := (2 : UInt8)) rfl rfl (by decide)) rfl <| oP (P_convSame rfl Tryz.runUnderlying5 Tryz.runUnderlying3 (wrap64_u _ (by have h9 := ((n_0 % (2 : UInt8))).toNat_lt; exact (by omega : ((n_0 % (2 : UInt8))).toNat < 9223372036854775808)))) rfl ?_
 obtain ⟨hg1,h⟩ := grd_Ne h
 refine oP (PJ_eq (P_add (a := (2 : Int)) (b := ((((n_0 % (2 : UInt8))).toNat : Nat) : Int)) rfl rfl (nat_in hg1)) rfl) rfl <| oM rfl rfl <| oP (P_quo_u8 (a := n_0) (b := (2 : UInt8)) rfl rfl (by decide)) rfl <| oP (P_rem_u8 (a := (n_0 / (2 : UInt8))) (b := (12 : UInt8)) rfl rfl (by decide)) rfl <| oP (P_convSame rfl Tryz.runUnderlying5 Tryz.runUnderlying3 (wrap64_u _ (by have h9 := (((n_0 / (2 : UInt8)) % (12 : UInt8))).toNat_lt; exact (by omega : (((n_0 / (2 : UInt8)) % (12 : UInt8))).toNat < 9223372036854775808)))) rfl ?_
 obtain ⟨hg2,h⟩ := grd_Ne h
 refine oP (PJ_eq (P_add (a := (1 : Int)) (b := (((((n_0 / (2 : UInt8)) % (12 : UInt8))).toNat : Nat) : Int)) rfl rfl (nat_in hg2)) rfl) rfl <| oM rfl rfl <| oP (P_quo_u8 (a := n_0) (b := (24 : UInt8)) rfl rfl (by decide)) rfl <| oP (P_rem_u8 (a := (n_0 / (24 : UInt8))) (b := (4 : UInt8)) rfl rfl (by decide)) rfl <| oP (P_convSame rfl Tryz.runUnderlying5 Tryz.runUnderlying3 (wrap64_u _ (by have h9 := (((n_0 / (24 : UInt8)) % (4 : UInt8))).toNat_lt; exact (by omega : (((n_0 / (24 : UInt8)) % (4 : UInt8))).toNat < 9223372036854775808)))) rfl ?_
 obtain ⟨hg3,h⟩ := grd_Ne h
 refine oP (PJ_eq (P_add (a := (1 : Int)) (b := (((((n_0 / (24 : UInt8)) % (4 : UInt8))).toNat : Nat) : Int)) rfl rfl (nat_in hg3)) rfl) rfl <| oM rfl rfl <| oP (P_geq (a := (n_0.toNat : Int)) (b := ((128 : UInt8).toNat : Int)) rfl rfl) rfl <| oP (P_build rfl (bld_28_1_2_3_4 _ _ _ _)) rfl <| oO <| O_alloc Tryz.zeroValue28 rfl rfl fun b2 => oO <| O_storeN rfl rfl foc0 Tryz.sizeOf28 rfl rfl rfl <| nT <| sR <| oP (P_fieldAddr rfl ⟨_,_,_,Tryz.runUnderlying28,rfl,rfl,Tryz.sizeOf3,rfl⟩) rfl <| oV (V_load rfl foc0 rfl Tryz.isAgg3) rfl ?_
 obtain ⟨r3,hr4,h⟩ := bind_e h
 refine oO <| O_call (L_volumegroupmake_Words hr4) rfl Tryz.call26 Dels.nil rfl fun X5 _ => oA rfl rfl <| nT <| sR <| oA rfl rfl <| nT <| CJ_seq <| sR <| oA rfl rfl <| nT <| CJ_shareS del0 <| CJ_ent (fun h hh => sl_nil (t := tyRow) h (rs_nil (RP := RowP) h hh)) ?_
 obtain ⟨y11,hl9,hK10⟩ := bind_c h
 refine CJ_cutT (X := (List (List UInt64)) × Sl3 × (List Sl3)) [6,7,29,30,31,32,33,34,35,36,37,38] (fun ⟨a15,hd13,hs14⟩ => ([(6,hd13.v)] : Slots)) (fun ⟨a15,hd13,hs14⟩ R => sl tyRow hd13.v hs14 :: Rs RowP a15 hs14 :: R) (fun ⟨a15,hd13,hs14⟩ => y11 = a15) (Dels.cons del0 (Dels.cons del0 Dels.nil)) ?_ ?_
 ·
  refine CJ_block <| CJ_loopR (X := Nat × (List (List UInt64)) × Nat × Sl3 × (List Sl3)) [6,7,29,30,31,32,33,34,35,36,37,38] (fun ⟨n,x16,x19,hd17,hs18⟩ => ([(6,hd17.v),(7,.int .i64 (((x19 : Nat) : Int)))] : Slots)) (fun ⟨n,x16,x19,hd17,hs18⟩ R => sl tyRow hd17.v hs18 :: Rs RowP x16 hs18 :: R) (fun ⟨n,x16,x19,hd17,hs18⟩ => volumegrouplaw21_begun_l1 n_0 r3 n x16 x19 = some y11) (fun ⟨n,x16,x19,hd17,hs18⟩ => n) ⟨FUEL,([] : List (List UInt64)),0,⟨none,0,0⟩,([] : List Sl3)⟩ ?_ ?_ eR ?_
  · exact hl9
  · exact ⟨rfl,rfl,True.intro⟩
  ·
   rintro ⟨n,x16,x19,hd17,hs18⟩ h
   cases n with
   | zero => exact none_e h
   | succ n => ?_
   replace h : volumegrouplaw21_begun_l1_b n_0 r3 (volumegrouplaw21_begun_l1 n_0 r3 n) x16 x19 = some y11 := h
   unfold volumegrouplaw21_begun_l1_b at h
   show CJ _ _ _ _ _ (([(6,hd17.v),(7,.int .i64 (((x19 : Nat) : Int)))] : Slots) ++ forget _ _) (sl tyRow hd17.v hs18 :: Rs RowP x16 hs18 :: _)
   refine lC del0 fun hlen20 => CJ_pure (fun h hh => Rs_len (stars_perm (del1 (A := Rs RowP x16 hs18)).out h hh)) fun hdl21 => CJ_seq <| sR <| oM rfl rfl <| oP (P_fieldAddr rfl ⟨_,_,_,Tryz.runUnderlying28,rfl,rfl,Tryz.sizeOf3,rfl⟩) rfl <| oV (V_load rfl foc3 rfl Tryz.isAgg3) rfl <| oP (P_lss (a := ((x19 : Nat) : Int)) (b := (((2 + ((n_0 % (2 : UInt8))).toNat) : Nat) : Int)) rfl rfl) rfl <| nT <| CJ_condP rfl bT_dec (fun hg4 => ?_) (fun hg4 => ?_)
   ·
    replace h := ite_t hg4 h
    refine kT <| CJ_seq <| CJ_block <| CJ_region <| oM rfl rfl <| oM rfl rfl <| oO <| O_buildSlice rfl (bs_90_1_0 _ _ _) rfl fun b22 => ?_
    obtain ⟨hg5,h⟩ := grd_Le h
    refine oO <| O_append (t := tyRow) (bytes := 24) rfl rfl del1 foc0 (Reads.lit (t := tyRow) (ys := [(X5 : Sl3)]) rfl rfl (by decide) (by decide) rfl) Tryz.underlying90 ok_tyRow (apl (m := 1) (b := 24) (by have hz : _ ≤ 1000000000 := hg5; have := hdl21; omega) (by decide)).1 (apl (m := 1) (b := 24) (by have hz : _ ≤ 1000000000 := hg5; have := hdl21; omega) (by decide)).2 rfl fun p24 c25 => RJ_ent (Ent.trans (t2_ (t2_ eR)) (Rs_push (x := r3) (g := (X5 : Sl3)) Dup_RowP)) <| RJ_pure (fun h hh => Rs_len (stars_perm (del0 (A := Rs RowP (x16 ++ [r3]) ((hs18 ++ [(X5 : Sl3)])))).out h hh)) fun hdl26 => oA rfl rfl <| RJ_nil <| QJ_block_normal <| QJ_then <| CJ_region <| oM rfl rfl ?_
    obtain ⟨hg6,h⟩ := grd_Ne h
    exact oP (PJ_eq (P_add (a := ((x19 : Nat) : Int)) (b := (1 : Int)) rfl rfl (nat_in hg6)) rfl) rfl <| oA rfl rfl <| RJ_nil <| nR ⟨n,(x16 ++ [r3]),(x19 + 1),⟨p24,(hs18 ++ [(X5 : Sl3)]).length,c25⟩,(hs18 ++ [(X5 : Sl3)])⟩ h ⟨rfl,rfl,True.intro⟩ (t2_ (t0_ (t0_ (t1_ (t1_ (eD eR))))))
   ·
    replace h := ite_f hg4 h
    exact CJ_exit <| QJ_then_exit <| QJ_round_exit <| QJ_block_here <| cR ⟨x16,hd17,hs18⟩ (Option.some.inj h).symm ⟨rfl,True.intro⟩ eR
 ·
  rintro ⟨a15,hd13,hs14⟩ hy27
  replace h := bindK_at hK10 hy27
  show CJ _ _ _ _ _ (([(6,hd13.v)] : Slots) ++ forget _ _) (sl tyRow hd13.v hs14 :: Rs RowP a15 hs14 :: _)
  refine lC del0 fun hlen28 => CJ_pure (fun h hh => Rs_len (stars_perm (del1 (A := Rs RowP a15 hs14)).out h hh)) fun hdl29 => sR <| oM rfl rfl <| oO <| O_make (t := tyU) (m := 3) (x0 := 0) (z := _) (bytes := _) rfl rfl rfl rfl Tryz.underlying29 ⟨Tryz.t23,by kernel_rfl,rfl,rfl,rfl⟩ rfl (by omega) (by decide) rfl fun b30 => oO <| O_buildSlice rfl (bs_90_1_0 _ _ _) rfl fun b31 => RJ_shareS del1 ?_
  obtain ⟨hg7,h⟩ := grd_Le h
  refine oO <| O_append (t := tyRow) (bytes := 24) rfl rfl del2 foc1 (Reads.lit (t := tyRow) (ys := [(⟨some ⟨b30,0,none⟩,3,3⟩ : Sl3)]) rfl rfl (by decide) (by decide) rfl) Tryz.underlying90 ok_tyRow (apl (m := 1) (b := 24) (by have hz : _ ≤ 1000000000 := hg7; have := hdl29; omega) (by decide)).1 (apl (m := 1) (b := 24) (by have hz : _ ≤ 1000000000 := hg7; have := hdl29; omega) (by decide)).2 rfl fun p33 c34 => RJ_ent (Ent.trans (t3_ (t1_ eR)) (Rs_push (x := (List.replicate 3 0)) (g := (⟨some ⟨b30,0,none⟩,3,3⟩ : Sl3)) Dup_RowP)) <| RJ_pure (fun h hh => Rs_len (stars_perm (del0 (A := Rs RowP ((a15 ++ [(List.replicate 3 0)])) ((hs14 ++ [(⟨some ⟨b30,0,none⟩,3,3⟩ : Sl3)])))).out h hh)) fun hdl35 => oA rfl rfl <| RJ_nil <| QJ_ent (t0_ (t1_ (t2_ (t2_ (t2_ (eD (eD eR))))))) <| QJ_then <| sR <| oM rfl rfl ?_
  obtain ⟨r36,hr37,h⟩ := bind_e h
  refine oO <| O_call (L_volumegroupmake_Loaded (Reads.sl _ _ _) (RowsR.rs hdl35) hr37) rfl Tryz.call43 (Dels.cons del1 (Dels.cons del0 Dels.nil)) rfl fun X38 _ => oP (P_fieldAddr rfl ⟨_,_,_,Tryz.runUnderlying28,rfl,rfl,Tryz.sizeOf26,rfl⟩) rfl <| oO <| O_store rfl rfl foc4 rfl oneCell_oval Tryz.sizeOf26 <| nT <| CJ_seq <| sR <| oP (P_fieldAddr rfl ⟨_,_,_,Tryz.runUnderlying28,rfl,rfl,Tryz.sizeOf26,rfl⟩) rfl <| oV (V_load rfl foc4 rfl Tryz.isAgg26) rfl ?_
  rcases opt_e h with ⟨ht40,h⟩ | ⟨o41,ht40,h⟩
  ·
   rw [ht40]
   refine RJ_ent (t0_ (t0_ (t1_ (t1_ (t1_ (eD eR)))))) <| oP (P_eqlNN rfl rfl Tryz.underlying26) rfl <| nT <| CJ_condT rfl rfl <| sR <| oV (V_loadN rfl foc3 Tryz.isAgg28 Tryz.sizeOf28 rfl rfl) rfl <| oO <| O_storeN rfl rfl foc4 Tryz.sizeOf28 rfl rfl rfl <| oA rfl rfl <| nT <| CJ_ret <| QJ_then_ret <| QJ_ent (fun h hh => sl_nil (t := tyU) h hh) <| QJ_ent (Ent.trans (t0_ eR) (RdP_mk (t := tyU) (v := .slice none 0 0) (xs := []) (Reads.sl _ _ _))) ?_
   cases h
   exact fE (resA2 Tryz.results14 (RV_cellN rfl foc5 Tryz.isAgg28 Tryz.sizeOf28 rfl rfl) (RV_tmp rfl)) ⟨0,.slice none 0 0⟩ (Ent.trans (fun h hh => optP_none h hh) <| t0_ (t0_ (eD (eD (eD (eD (eD eR)))))))
  ·
   rw [ht40]
   refine RJ_ent (Ent.takeC (A' := Arr X38 o41) del2 rfl eR) <| oP (P_eqlPN rfl rfl Tryz.underlying26) rfl <| nT <| CJ_condF rfl rfl <| kT <| sR <| oP (P_fieldAddr rfl ⟨_,_,_,Tryz.runUnderlying28,rfl,rfl,Tryz.sizeOf26,rfl⟩) rfl <| oV (V_load rfl foc4 rfl Tryz.isAgg26) rfl ?_
   obtain ⟨r44,hr45,h⟩ := bind_e h
   refine oO <| O_call (L_volumegroupmake_Spans hr45) rfl Tryz.call44 (Dels.cons del0 Dels.nil) rfl fun X46 _ => RJ_pure (fun h hh => Rs_len (stars_perm (del2 (A := Rs (DevP X38) r44 X46.2)).out h hh)) fun hdl49 => oA rfl rfl <| RJ_nil <| QJ_ent (t0_ (t0_ (t0_ (t2_ (t2_ (t2_ (eD (eD eR)))))))) <| QJ_then <| CJ_seq <| CJ_seq <| AJ_startH 131072 (by kernel_rfl) rfl <| aN 0 1 rfl rfl (P_move rfl) rfl <| aV 1 3 rfl rfl (GY_none rfl) eR (VJ_eq (V_len rfl foc1 (Reads.sl _ _ _) Tryz.runUnderlying92) (congrArg (fun z : Nat => Value.int .i64 (z : Int)) (hdl49).symm)) rfl <| aN 2 7 rfl rfl (P_fieldAddr rfl ⟨_,_,_,Tryz.runUnderlying28,rfl,rfl,Tryz.sizeOf3,rfl⟩) rfl <| aV 3 15 rfl rfl (GY_none rfl) eR (V_load rfl foc4 rfl Tryz.isAgg3) rfl ?_
   obtain ⟨hg8,h⟩ := grd_Ne h
   refine aN 4 31 rfl rfl (PJ_eq (P_add (a := (((2 + ((n_0 % (2 : UInt8))).toNat) : Nat) : Int)) (b := (1 : Int)) rfl rfl (nat_in hg8)) rfl) rfl <| aN 5 63 rfl rfl (P_neq (a := ((r44.length : Nat) : Int)) (b := ((((2 + ((n_0 % (2 : UInt8))).toNat) + 1) : Nat) : Int)) rfl rfl) rfl <| aN 6 127 rfl rfl (P_move rfl) rfl <| AJ_splitP 59 rfl bT_dec (fun hg9B hg9 => ?_) (fun hg9B hg9 => ?_)
   ·
    replace h := ite_t hg9 h
    refine aS 7 255 rfl rfl (GY_no rfl rfl rfl hg9B) rfl <| aS 8 511 rfl rfl (GY_no rfl rfl rfl hg9B) rfl <| aS 9 1023 rfl rfl (GY_no rfl rfl rfl hg9B) rfl <| aS 10 2047 rfl rfl (GY_no rfl rfl rfl hg9B) rfl <| aS 11 4095 rfl rfl (GY_no rfl rfl rfl hg9B) rfl <| aS 12 8191 rfl rfl (GY_no rfl rfl rfl hg9B) rfl <| aS 13 16383 rfl rfl (GY_no rfl rfl rfl hg9B) rfl <| aS 14 32767 rfl rfl (GY_no rfl rfl rfl hg9B) rfl <| aS 15 65535 rfl rfl (GY_no rfl rfl rfl hg9B) rfl <| aS 16 131071 rfl rfl (GY_no rfl rfl rfl hg9B) rfl <| aS 17 262143 rfl rfl (GY_no rfl rfl rfl hg9B) rfl <| aS 18 524287 rfl rfl (GY_no rfl rfl rfl hg9B) rfl <| aN 19 1048575 rfl rfl (P_pickT rfl hg9B rfl) rfl <| aD <| CJ_condT rfl rfl <| CJ_region <| oP (P_fieldAddr rfl ⟨_,_,_,Tryz.runUnderlying28,rfl,rfl,Tryz.sizeOf26,rfl⟩) rfl <| oO <| O_store rfl rfl foc4 rfl rfl Tryz.sizeOf26 <| nT <| sR <| oV (V_loadN rfl foc4 Tryz.isAgg28 Tryz.sizeOf28 rfl rfl) rfl <| oM rfl rfl <| oO <| O_storeN rfl rfl foc5 Tryz.sizeOf28 rfl rfl rfl <| oA rfl rfl <| nT <| CJ_ret <| QJ_ent (Ent.trans (t3_ eR) (RdP_mk (t := tyU) (v := X5.v) (xs := r3) (Reads.slR _ _ _))) ?_
    cases h
    exact fE (resA2 Tryz.results14 (RV_cellN rfl foc5 Tryz.isAgg28 Tryz.sizeOf28 rfl rfl) (RV_tmp rfl)) ⟨0,X5.v⟩ (Ent.trans (fun h hh => optP_none h hh) <| t0_ (t0_ (eD (eD (eD (eD (eD eR)))))))
   ·
    replace h := ite_f hg9 h
    refine aP 7 255 rfl rfl (GY_yes rfl rfl rfl hg9B) (P_move rfl) rfl <| aP 8 511 rfl rfl (GY_yes rfl rfl rfl hg9B) (P_fieldAddr rfl ⟨_,_,_,Tryz.runUnderlying28,rfl,rfl,Tryz.sizeOf3,rfl⟩) rfl <| aV 9 1023 rfl rfl (GY_yes rfl rfl rfl hg9B) eR (V_load rfl foc4 rfl Tryz.isAgg3) rfl <| aV 10 2047 rfl rfl (GY_yes rfl rfl rfl hg9B) eR (V_index (i := (2 + ((n_0 % (2 : UInt8))).toNat)) rfl rfl rfl (by have hz : (2 + ((n_0 % (2 : UInt8))).toNat) < r44.length := (by omega); have hy := hdl49; omega) foc1 (Reads.sl _ _ _) Tryz.runUnderlying92 Tryz.sizeOf96) rfl <| AJ_ent (Ent.trans (t2_ eR) (Rs_at (fun _ _ => Dup_DevP) (dx := dv0) (dh := tyDev.dflt) (i := (2 + ((n_0 % (2 : UInt8))).toNat)) (by omega))) <| aV 11 4095 rfl rfl (GY_yes rfl rfl rfl hg9B) (t2_ (t2_ (t1_ (t1_ (t1_ (t1_ (eD eR))))))) (V_loadE rfl rfl (by have hz : (2 + ((n_0 % (2 : UInt8))).toNat) < r44.length := (by omega); have hy := hdl49; omega) foc1 (Reads.sl _ _ _) rfl rfl Tryz.isAgg96) rfl <| aP 12 8191 rfl rfl (GY_yes rfl rfl rfl hg9B) (P_fieldAddr rfl ⟨_,_,_,Tryz.runUnderlying28,rfl,rfl,Tryz.sizeOf3,rfl⟩) rfl <| aV 13 16383 rfl rfl (GY_yes rfl rfl rfl hg9B) (t2_ (t2_ (t1_ (t1_ (t1_ (t1_ (eD eR))))))) (V_load rfl foc4 rfl Tryz.isAgg3) rfl ?_
    refine aP 14 32767 rfl rfl (GY_yes rfl rfl rfl hg9B) (P_fieldAddr rfl ⟨_,_,_,Tryz.runUnderlying28,rfl,rfl,Tryz.sizeOf3,rfl⟩) rfl <| aV 15 65535 rfl rfl (GY_yes rfl rfl rfl hg9B) (t2_ (t2_ (t1_ (t1_ (t1_ (t1_ (eD eR))))))) (V_load rfl foc4 rfl Tryz.isAgg3) rfl ?_
    obtain ⟨r52,hr53,h⟩ := bind_e h
    refine AJ_op 16 131071 rfl (by kernel_rfl) rfl (GY_yes rfl rfl rfl hg9B) <| O_call (L_volumegroupref21_Regions hr53) rfl Tryz.call17 Dels.nil rfl fun _ _ => ⟨fun _ => (t2_ (t2_ (t1_ (t1_ (t1_ (t1_ (eD eR))))))),?_⟩
    obtain ⟨r54,hr55,h⟩ := bind_e h
    refine AJ_op 17 262143 rfl (by kernel_rfl) rfl (GY_yes rfl rfl rfl hg9B) <| O_call (L_regionlog_Format hr55) rfl Tryz.call45 (Dels.cons del0 (Dels.cons del1 Dels.nil)) rfl fun _ _ => ⟨fun h => absurd h (by decide),?_⟩
    refine aP 18 524287 rfl rfl (GY_yes rfl rfl rfl hg9B) (P_neq (a := r54.1) (b := (0 : Int)) rfl rfl) rfl <| aN 19 1048575 rfl rfl (P_pickF rfl hg9B rfl) rfl <| AJ_done (by kernel_rfl) <| QJ_ent (t1_ (t3_ (t3_ (t3_ (eD (eD (eD eR))))))) <| QJ_then <| CJ_condP rfl bT_dec (fun hg10 => ?_) (fun hg10 => ?_)
    ·
     replace h := ite_t hg10 h
     refine CJ_region <| oP (P_fieldAddr rfl ⟨_,_,_,Tryz.runUnderlying28,rfl,rfl,Tryz.sizeOf26,rfl⟩) rfl <| oO <| O_store rfl rfl foc2 rfl rfl Tryz.sizeOf26 <| nT <| sR <| oV (V_loadN rfl foc2 Tryz.isAgg28 Tryz.sizeOf28 rfl rfl) rfl <| oM rfl rfl <| oO <| O_storeN rfl rfl foc3 Tryz.sizeOf28 rfl rfl rfl <| oA rfl rfl <| nT <| CJ_ret <| QJ_ent (Ent.trans (t1_ eR) (RdP_mk (t := tyU) (v := X5.v) (xs := r3) (Reads.slR _ _ _))) ?_
     cases h
     exact fE (resA2 Tryz.results14 (RV_cellN rfl foc3 Tryz.isAgg28 Tryz.sizeOf28 rfl rfl) (RV_tmp rfl)) ⟨0,X5.v⟩ (Ent.trans (fun h hh => optP_none h hh) <| t0_ (t0_ (eD (eD (eD eR)))))
    ·
     replace h := ite_f hg10 h
     refine kT <| sR <| oV (V_loadN rfl foc2 Tryz.isAgg28 Tryz.sizeOf28 rfl rfl) rfl <| oM rfl rfl <| oO <| O_storeN rfl rfl foc3 Tryz.sizeOf28 rfl rfl rfl <| oA rfl rfl <| nT <| CJ_ret <| QJ_ent (Ent.trans (t1_ eR) (RdP_mk (t := tyU) (v := X5.v) (xs := r3) (Reads.slR _ _ _))) ?_
     cases h
     exact fE (resA2 Tryz.results14 (RV_cellN rfl foc3 Tryz.isAgg28 Tryz.sizeOf28 rfl rfl) (RV_tmp rfl)) ⟨X38,X5.v⟩ (t1_ (t0_ (eD (eD eR))))
def volumegrouplaw21_awake : Option (Bool) :=
  Option.bind (volumegrouplaw21_begun (2 : UInt8)) fun r1 =>
  Option.elim r1.1 (
    some false) fun o8 =>
  if (((r1.2.2.2.2.2.length : Nat) : Int) ≠ (2 : Int)) then
    some false
  else
    Option.bind (volumegrouplaw21_setting_open o8 (((r1.2.1 : Nat) : Int)) (((r1.2.2.1 : Nat) : Int)) (((r1.2.2.2.1 : Nat) : Int)) r1.2.2.2.2.1 ([])) fun r10 =>
    if (r10.2 ≠ (0 : Int)) then
      some false
    else
      Option.elim r10.1 (
        some false) fun o19 =>
      Option.bind (mirror_Mirror_Dirty o19 o8) fun r20 =>
      if (((r20.length : Nat) : Int) ≠ (2 : Int)) then
        some false
      else
        Option.bind (mirror_Mirror_Resync o19 (100 : Int) o8) fun r24 =>
        Option.bind (mirror_Mirror_Read r24.2.2.1 (1 : Int) r24.2.2.2) fun r26 =>
        if ((r24.2.1 = (0 : Int)) ∧ (r24.1 = (0 : Int))) then
          Option.bind (mirror_Mirror_Dirty r26.2.2.1 r26.2.2.2) fun r32 =>
          if (((((r32.length : Nat) : Int) = (0 : Int)) ∧ (r26.2.1 = (0 : Int))) ∧ (r26.1 = (r1.2.2.2.2.2.getD 1 0))) then
            Option.bind (mirror_Regions (9 : Int) (4 : Int)) fun r50 =>
            some ((decide (r50 = (3 : Int))))
          else
            some false
        else
          some false
theorem L_volumegrouplaw21_awake {W : World} {r : Bool} (h : volumegrouplaw21_awake = some r) :
    CSpec Tryz.prog W 13 [] [] (fun x : Unit => .bool r) (fun _ => True) (fun x F => F) := by
 refine CSpec.of_body Tryz.func13 rfl Tryz.ntmps13 rfl fun F => ?_
 show CJ _ _ _ _ _ _ (F)
 unfold volumegrouplaw21_awake at h
 refine sR <| oA rfl rfl <| nT <| sR ?_
 obtain ⟨r1,hr2,h⟩ := bind_e h
 refine oO <| O_call (L_volumegrouplaw21_begun hr2) rfl Tryz.call14 Dels.nil rfl fun X3 _ => oM rfl rfl <| oP (P_extract rfl rfl) rfl <| oP (P_extract rfl rfl) rfl <| oO <| O_alloc Tryz.zeroValue28 rfl rfl fun b6 => oO <| O_storeN rfl rfl foc0 Tryz.sizeOf28 rfl rfl (by simp only [allOne,oneCell_oval,oneCell_oif,oneCell_oifc,Bool.true_and]; rfl) <| oA rfl rfl <| nT <| CJ_seq <| sR <| oP (P_fieldAddr rfl ⟨_,_,_,Tryz.runUnderlying28,rfl,rfl,Tryz.sizeOf26,rfl⟩) rfl <| oV (V_load rfl foc0 rfl Tryz.isAgg26) rfl ?_
 rcases opt_e h with ⟨ht7,h⟩ | ⟨o8,ht7,h⟩
 ·
  rw [ht7]
  refine RJ_ent (t0_ (t1_ (eD eR))) <| oP (P_eqlNN rfl rfl Tryz.underlying26) rfl <| oM rfl rfl <| RJ_gn (GY_no rfl rfl rfl rfl) rfl rfl <| RJ_gn (GY_no rfl rfl rfl rfl) rfl rfl <| RJ_gn (GY_no rfl rfl rfl rfl) rfl rfl <| oP (P_pickT rfl rfl rfl) rfl <| nT <| CJ_condT rfl rfl <| sR <| oA rfl rfl <| nT <| CJ_ret <| QJ_then_ret ?_
  cases h
  exact fE (res1 Tryz.results13 rfl) () (eD (eD eR))
 ·
  rw [ht7]
  refine RJ_ent (Ent.takeC (A' := Arr X3.1 o8) del1 rfl eR) <| oP (P_eqlPN rfl rfl Tryz.underlying26) rfl <| oM rfl rfl <| gP (GY_yes rfl rfl rfl rfl) (P_move rfl) rfl <| gV (GY_yes rfl rfl rfl rfl) (V_len rfl foc2 (Reads.rdp _ _ _) Tryz.runUnderlying29) rfl <| gP (GY_yes rfl rfl rfl rfl) (P_neq (a := ((r1.2.2.2.2.2.length : Nat) : Int)) (b := (2 : Int)) rfl rfl) rfl <| oP (P_pickF rfl rfl rfl) rfl <| nT <| CJ_condP rfl bT_dec (fun hg1 => ?_) (fun hg1 => ?_)
  ·
   replace h := ite_t hg1 h
   refine sR <| oA rfl rfl <| nT <| CJ_ret <| QJ_then_ret ?_
   cases h
   exact fE (res1 Tryz.results13 rfl) () (eD (eD (eD eR)))
  ·
   replace h := ite_f hg1 h
   refine kT <| sR <| oV (V_loadN rfl foc1 Tryz.isAgg28 Tryz.sizeOf28 rfl rfl) rfl <| RJ_ent (fun h hh => sl_nil (t := tyI) h hh) ?_
   obtain ⟨r10,hr11,h⟩ := bind_e h
   refine oO <| O_call (L_volumegrouplaw21_setting_open (Reads.sl _ _ _) hr11) rfl Tryz.call21 (Dels.cons del1 (Dels.cons del0 Dels.nil)) rfl fun X12 _ => oM rfl rfl <| oP (P_extract rfl rfl) rfl <| oP (P_extract rfl rfl) rfl <| oA rfl rfl <| oA rfl rfl <| nT <| CJ_seq <| sR <| oM rfl rfl <| oP (P_neq (a := r10.2) (b := (0 : Int)) rfl rfl) rfl <| oM rfl rfl <| RJ_mbF rfl rfl rfl (fun hG14 => have hP15 : ¬ (r10.2 ≠ (0 : Int)) := nP (bT_dec) hG14; VJ_P (P_move rfl)) <| RJ_splitP 28 rfl bT_dec (fun hg2B hg2 => ?_) (fun hg2B hg2 => ?_)
   ·
    replace h := ite_t hg2 h
    refine RJ_gn (GY_no rfl rfl rfl hg2B) rfl rfl <| oP (P_pickT rfl hg2B rfl) rfl <| oM rfl rfl <| RJ_gn (GY_no rfl rfl rfl rfl) rfl rfl <| RJ_gn (GY_no rfl rfl rfl rfl) rfl rfl <| RJ_gn (GY_no rfl rfl rfl rfl) rfl rfl <| RJ_gn (GY_no rfl rfl rfl rfl) rfl rfl <| oP (P_pickT rfl rfl rfl) rfl <| nT <| CJ_condT rfl rfl <| sR <| oA rfl rfl <| nT <| CJ_ret <| QJ_then_ret ?_
    cases h
    exact fE (res1 Tryz.results13 rfl) () (eD (eD (eD (eD (eD eR)))))
   ·
    replace h := ite_f hg2 h
    rcases opt_e h with ⟨ht18,h⟩ | ⟨o19,ht18,h⟩
    ·
     rw [ht18]
     refine RJ_ent (t0_ (t0_ (t1_ (t1_ (eD eR))))) <| gP (GY_yes rfl rfl rfl hg2B) (P_eqlNN (mbx (not_f hg2B) rfl) rfl Tryz.underlying41) rfl <| oP (P_pickF rfl hg2B rfl) rfl <| oM rfl rfl <| RJ_gn (GY_no rfl rfl rfl rfl) rfl rfl <| RJ_gn (GY_no rfl rfl rfl rfl) rfl rfl <| RJ_gn (GY_no rfl rfl rfl rfl) rfl rfl <| RJ_gn (GY_no rfl rfl rfl rfl) rfl rfl <| oP (P_pickT rfl rfl rfl) rfl <| nT <| CJ_condT rfl rfl <| sR <| oA rfl rfl <| nT <| CJ_ret <| QJ_then_ret ?_
     cases h
     exact fE (res1 Tryz.results13 rfl) () (eD (eD (eD (eD eR))))
    ·
     rw [ht18]
     refine RJ_ent (Ent.takeC (A' := MirP X3.1 X12 o19) del2 rfl eR) <| gP (GY_yes rfl rfl rfl hg2B) (P_eqlPN (mbx (not_f hg2B) rfl) rfl Tryz.underlying41) rfl <| oP (P_pickF rfl hg2B rfl) rfl <| oM rfl rfl <| gP (GY_yes rfl rfl rfl rfl) (P_move rfl) rfl ?_
     obtain ⟨r20,hr21,h⟩ := bind_e h
     refine RJ_gy (GY_yes rfl rfl rfl rfl) <| O_call (L_mirror_Mirror_Dirty hr21) rfl Tryz.call22 (Dels.cons del0 (Dels.cons del0 Dels.nil)) rfl fun X22 _ => gV (GY_yes rfl rfl rfl rfl) (V_len rfl foc2 (Reads.sl _ _ _) Tryz.runUnderlying45) rfl <| gP (GY_yes rfl rfl rfl rfl) (P_neq (a := ((r20.length : Nat) : Int)) (b := (2 : Int)) rfl rfl) rfl <| oP (P_pickF rfl rfl rfl) rfl <| nT <| CJ_condP rfl bT_dec (fun hg3 => ?_) (fun hg3 => ?_)
     ·
      replace h := ite_t hg3 h
      refine sR <| oA rfl rfl <| nT <| CJ_ret <| QJ_then_ret ?_
      cases h
      exact fE (res1 Tryz.results13 rfl) () (eD (eD (eD (eD (eD (eD eR))))))
     ·
      replace h := ite_f hg3 h
      refine kT <| sR <| oM rfl rfl ?_
      obtain ⟨r24,hr25,h⟩ := bind_e h
      refine oO <| O_call (L_mirror_Mirror_Resync hr25) rfl Tryz.call27 (Dels.cons del0 (Dels.cons del0 Dels.nil)) rfl fun _ _ => oM rfl rfl <| oP (P_extract rfl rfl) rfl <| oP (P_extract rfl rfl) rfl <| oA rfl rfl <| oA rfl rfl <| nT <| sR <| oM rfl rfl ?_
      obtain ⟨r26,hr27,h⟩ := bind_e h
      refine oO <| O_call (L_mirror_Mirror_Read hr27) rfl Tryz.call41 (Dels.cons del0 (Dels.cons del0 Dels.nil)) rfl fun _ _ => oM rfl rfl <| oP (P_extract rfl rfl) rfl <| oP (P_extract rfl rfl) rfl <| oA rfl rfl <| oA rfl rfl <| nT <| sR <| oM rfl rfl <| oP (P_eql (a := r24.2.1) (b := (0 : Int)) rfl rfl) rfl <| oM rfl rfl <| RJ_mbT rfl rfl rfl (fun hG28 => have hP29 : (r24.2.1 = (0 : Int)) := (bT_dec).1 hG28; VJ_P (P_move rfl)) <| RJ_mbT rfl rfl rfl (fun hG30 => have hP31 : (r24.2.1 = (0 : Int)) := (bT_dec).1 hG30; VJ_P (P_eql (a := r24.1) (b := (0 : Int)) (mbx hG30 rfl) rfl)) <| oP (P_pickAnd rfl (fun hh => mbx hh rfl) rfl) rfl <| oM rfl rfl <| RJ_splitP 54 rfl (bT_and bT_dec bT_dec) (fun hg4B hg4 => ?_) (fun hg4B hg4 => ?_)
      ·
       replace h := ite_t hg4 h
       refine gP (GY_yes rfl rfl rfl hg4B) (P_move rfl) rfl ?_
       obtain ⟨r32,hr33,h⟩ := bind_e h
       refine RJ_gy (GY_yes rfl rfl rfl hg4B) <| O_call (L_mirror_Mirror_Dirty hr33) rfl Tryz.call22 (Dels.cons del0 (Dels.cons del0 Dels.nil)) rfl fun X34 _ => gV (GY_yes rfl rfl rfl hg4B) (V_len rfl foc2 (Reads.sl _ _ _) Tryz.runUnderlying45) rfl <| gP (GY_yes rfl rfl rfl hg4B) (P_eql (a := ((r32.length : Nat) : Int)) (b := (0 : Int)) rfl rfl) rfl <| oP (P_pickT rfl hg4B rfl) rfl <| oM rfl rfl <| RJ_mbT rfl rfl rfl (fun hG36 => have hP37 : (((r32.length : Nat) : Int) = (0 : Int)) := (bT_dec).1 hG36; VJ_P (P_move rfl)) <| RJ_mbT rfl rfl rfl (fun hG38 => have hP39 : (((r32.length : Nat) : Int) = (0 : Int)) := (bT_dec).1 hG38; VJ_P (P_eql (a := r26.2.1) (b := (0 : Int)) (mbx hG38 rfl) rfl)) <| oP (P_pickAnd rfl (fun hh => mbx hh rfl) rfl) rfl <| oM rfl rfl <| RJ_mbT rfl rfl rfl (fun hG40 => have hP41 : ((((r32.length : Nat) : Int) = (0 : Int)) ∧ (r26.2.1 = (0 : Int))) := ((bT_and bT_dec bT_dec)).1 hG40; VJ_P (P_move rfl)) <| RJ_mbT rfl rfl rfl (fun hG42 => have hP43 : ((((r32.length : Nat) : Int) = (0 : Int)) ∧ (r26.2.1 = (0 : Int))) := ((bT_and bT_dec bT_dec)).1 hG42; VJ_P (P_move rfl)) <| RJ_mbT rfl rfl rfl (fun hG44 => have hP45 : ((((r32.length : Nat) : Int) = (0 : Int)) ∧ (r26.2.1 = (0 : Int))) := ((bT_and bT_dec bT_dec)).1 hG44; V_index (i := 1) (mbx hG44 rfl) rfl rfl (by omega) foc6 (Reads.rdp _ _ _) Tryz.runUnderlying29 Tryz.sizeOf23) ?_
       refine RJ_mbT rfl rfl rfl (fun hG46 => have hP47 : ((((r32.length : Nat) : Int) = (0 : Int)) ∧ (r26.2.1 = (0 : Int))) := ((bT_and bT_dec bT_dec)).1 hG46; V_loadE (mbx hG46 rfl) rfl (by omega) foc6 (Reads.rdp _ _ _) rfl rfl Tryz.isAgg23) <| RJ_mbT rfl rfl rfl (fun hG48 => have hP49 : ((((r32.length : Nat) : Int) = (0 : Int)) ∧ (r26.2.1 = (0 : Int))) := ((bT_and bT_dec bT_dec)).1 hG48; VJ_P (P_eq_u64 (a := r26.1) (b := (r1.2.2.2.2.2.getD 1 0)) (mbx hG48 rfl) (mbx hG48 rfl))) <| oP (P_pickAnd rfl (fun hh => mbx hh rfl) rfl) rfl <| oM rfl rfl <| RJ_splitP 71 rfl (bT_and (bT_and bT_dec bT_dec) bT_dec) (fun hg5B hg5 => ?_) (fun hg5B hg5 => ?_)
       ·
        replace h := ite_t hg5 h
        obtain ⟨r50,hr51,h⟩ := bind_e h
        refine RJ_gy (GY_yes rfl rfl rfl hg5B) <| O_call (L_mirror_Regions hr51) rfl Tryz.call42 Dels.nil rfl fun _ _ => gP (GY_yes rfl rfl rfl hg5B) (P_eql (a := r50) (b := (3 : Int)) rfl rfl) rfl <| oP (P_pickT rfl hg5B rfl) rfl <| oA rfl rfl <| RJ_nil <| QJ_ent (t1_ (eD (eD (eD (eD (eD (eD eR))))))) <| QJ_then <| CJ_ret ?_
        cases h
        exact fE (res1 Tryz.results13 rfl) () (eD eR)
       ·
        replace h := ite_f hg5 h
        refine RJ_gn (GY_no rfl rfl rfl hg5B) rfl rfl <| RJ_gn (GY_no rfl rfl rfl hg5B) rfl rfl <| oP (P_pickF rfl hg5B rfl) rfl <| oA rfl rfl <| RJ_nil <| QJ_ent (t1_ (eD (eD (eD (eD (eD (eD eR))))))) <| QJ_then <| CJ_ret ?_
        cases h
        exact fE (res1 Tryz.results13 rfl) () (eD eR)
      ·
       replace h := ite_f hg4 h
       refine RJ_gn (GY_no rfl rfl rfl hg4B) rfl rfl <| RJ_gn (GY_no rfl rfl rfl hg4B) rfl rfl <| RJ_gn (GY_no rfl rfl rfl hg4B) rfl rfl <| RJ_gn (GY_no rfl rfl rfl hg4B) rfl rfl <| oP (P_pickF rfl hg4B rfl) rfl <| oM rfl rfl <| RJ_gn (GY_no rfl rfl rfl rfl) rfl rfl <| RJ_gn (GY_no rfl rfl rfl rfl) rfl rfl <| oP (P_pickF rfl rfl rfl) rfl <| oM rfl rfl <| RJ_gn (GY_no rfl rfl rfl rfl) rfl rfl <| RJ_gn (GY_no rfl rfl rfl rfl) rfl rfl <| RJ_gn (GY_no rfl rfl rfl rfl) rfl rfl <| RJ_gn (GY_no rfl rfl rfl rfl) rfl rfl <| RJ_gn (GY_no rfl rfl rfl rfl) rfl rfl <| oP (P_pickF rfl rfl rfl) rfl <| oM rfl rfl <| RJ_gn (GY_no rfl rfl rfl rfl) rfl rfl <| RJ_gn (GY_no rfl rfl rfl rfl) rfl rfl <| oP (P_pickF rfl rfl rfl) rfl <| oA rfl rfl <| nT <| CJ_ret ?_
       cases h
       exact fE (res1 Tryz.results13 rfl) () (eD (eD (eD (eD (eD (eD eR))))))
end Go.Proofs
namespace Go.Proofs
open Go.VG
section
variable {C : MC} {K a i r : Nat} {s t u y : ArrS} {lv : LV} {m m' x : MirS} {w v : UInt64} {st : List Int}
theorem regI : IntKind.i64.wrap (((C.sz : Int) - 1).tdiv (C.rg : Int)) = (((C.sz - 1) / C.rg : Nat) : Int) := by
  have h1 : (C.sz : Int) - 1 = ((C.sz - 1 : Nat) : Int) := by have := C.hs; omega
  rw [h1]
  have h2 : ((C.sz - 1 : Nat) : Int).tdiv (C.rg : Int) = (((C.sz - 1) / C.rg : Nat) : Int) := (Int.ofNat_tdiv _ _).symm
  have h3 : (C.sz - 1) / C.rg ≤ C.sz - 1 := Nat.div_le_self _ _
  have h4 := C.hs
  rw [h2]
  generalize (C.sz - 1) / C.rg = q at h3 ⊢
  exact wrap64_in (by omega) (by omega)
theorem regions_eq : mirror_Regions (C.sz : Int) (C.rg : Int) = some (C.R : Int) := by
  have h1 := C.hs
  have h2 := C.hr
  have hR := C.hR
  unfold mirror_Regions
  rw [if_neg (by omega),grd_t (inI64_of (by omega)),regI]
  have e : (((C.sz - 1) / C.rg : Nat) : Int) + 1 = (C.R : Int) := rfl
  rw [e,grd_t (inI64_of (by omega))]
theorem refRegions_eq : volumegroupref21_Regions (C.sz : Int) (C.rg : Int) = some (C.R : Int) := by
  have h1 := C.hs
  have h2 := C.hr
  have hR := C.hR
  unfold volumegroupref21_Regions
  rw [if_neg (by omega),grd_t (inI64_of (by omega)),regI]
  have e : (((C.sz - 1) / C.rg : Nat) : Int) + 1 = (C.R : Int) := rfl
  rw [e,grd_t (inI64_of (by omega))]
def legM (C : MC) (st : List Int) (i : Nat) : mlegS := ⟨xL i C.sz,if (i : Int) ∈ st then 2 else 0,0⟩
def legsM (C : MC) (st : List Int) (n : Nat) : List mlegS := (List.range n).map (legM C st)
theorem legsM_at {n : Nat} (h : i < n) : (legsM C st n).getD i mleg_x0 = legM C st i := by simp [legsM,List.getD,h]
theorem legsM_len {n : Nat} : (legsM C st n).length = n := by simp [legsM]
theorem legsM_succ {n : Nat} : legsM C st (n + 1) = legsM C st n ++ [legM C st n] := by simp [legsM,List.range_succ]
theorem idxF_l1 {n : Int} : ∀ (l : List Int) (_ : ∀ k ∈ l,0 ≤ k ∧ k ≤ n) (N i : Nat),l.length - i < N → i ≤ l.length → slices_IndexFunc_int__mirror_Open_1_l1 l n N i = some (.inl ())
  | _,_,0,_,h,_ => absurd h (by omega)
  | l,hl,N + 1,i,h,hi => by
    have hu : slices_IndexFunc_int__mirror_Open_1_l1 l n (N + 1) i = slices_IndexFunc_int__mirror_Open_1_l1_b l n (slices_IndexFunc_int__mirror_Open_1_l1 l n N) i := rfl
    rw [hu]
    unfold slices_IndexFunc_int__mirror_Open_1_l1_b
    by_cases hlt : i < l.length
    · rw [if_pos (by omega)]
      unfold mirror_Open_1
      have hk := hl (l.getD i 0) (by simp [List.getD,hlt])
      simp only [Option.bind_some]
      rw [if_neg (by rw [Bool.or_eq_true,decide_eq_true_iff,decide_eq_true_iff]; omega)]
      exact idxF_l1 l hl N (i + 1) (by omega) (by omega)
    · rw [if_neg (by omega)]
theorem containsF {n : Int} {l : List Int} (hl : ∀ k ∈ l,0 ≤ k ∧ k ≤ n) (hlen : l.length ≤ 1000000) : slices_ContainsFunc_int__mirror_Open_1 l n = some false := by
  unfold slices_ContainsFunc_int__mirror_Open_1 slices_IndexFunc_int__mirror_Open_1
  have hF := fuel_big
  rw [idxF_l1 l hl FUEL 0 (by omega) (by omega),seqO_inl]; rfl
def openB (legs : List Dvc) (staleLegs : List Int) (s : ArrS) (rec : MirS → Nat → Nat → Option (Nat × MirS)) (x33 : MirS) (x34 : Nat) (x35 : Nat) : Option (Nat × MirS) :=
  if (((x35 : Nat) : Int) < ((legs.length : Nat) : Int)) then
    Option.bind (slices_Contains_int staleLegs (((x35 : Nat) : Int))) fun r38 =>
    Option.bind ((
      if r38 = true then
        some (x34,2)
      else
        grd (inN64 (x34 + 1)) <|
        some (((x34 + 1),0)) : Option (Nat × Nat))) fun a45 =>
    grd (inLen (x33.legs.length + 1)) <|
    Option.bind (Dvc.size (legs.getD x35 dv0) s) fun r63 =>
    rec ((⟨(x33.legs ++ [(⟨(legs.getD x35 dv0),((a45.2 : Nat) : Int),(0 : Int)⟩ : mlegS)]),x33.log,x33.hasLog,x33.logState,(min x33.size r63),x33.region,x33.dirty,x33.copied⟩ : MirS)) a45.1 (x35 + 1)
  else
    some (x34,x33)
theorem open_rule {f : Nat → MirS → Nat → Nat → Option (Nat × MirS)} {legs : List Dvc} (hf : ∀ n x p i,f (n + 1) x p i = openB legs st s (f n) x p i) (hll : legs.length = C.L) (hlx : ∀ i,i < C.L → legs.getD i dv0 = xL i C.sz) (hst : st.length ≤ 1000000) {lg : Bool} {reg : Int} :
    ∀ (N i p : Nat),C.L - i < N → i ≤ C.L → p ≤ i → ((∃ j,j < i ∧ (j : Int) ∉ st) → 0 < p) → ∃ q,((∃ j,j < C.L ∧ (j : Int) ∉ st) → 0 < q) ∧ f N ⟨legsM C st i,none,lg,0,(C.sz : Int),reg,[],0⟩ p i = some (q,⟨legsM C st C.L,none,lg,0,(C.sz : Int),reg,[],0⟩)
  | 0,_,_,h,_,_,_ => absurd h (by omega)
  | N + 1,i,p,hN,hi,hp,hq => by
    have hrec := fun p => open_rule hf hll hlx hst (lg := lg) (reg := reg) N (i + 1) p
    have hL := C.hL
    rw [hf]
    unfold openB
    by_cases hlt : i < C.L
    · have hsz : Dvc.size (xL i C.sz) s = some (C.sz : Int) := span_size
      rw [if_pos (by rw [hll]; omega),contains_eq hst,hlx i hlt,hsz]; simp only [Option.bind_some,legsM_len]
      have hmin : min (C.sz : Int) (C.sz : Int) = C.sz := by omega
      by_cases hm : (i : Int) ∈ st
      · rw [if_pos (by simpa using hm)]; simp only [Option.bind_some]
        rw [grd_t (inLen_of (by omega)),hmin]
        have e : legsM C st i ++ [(⟨xL i C.sz,((2 : Nat) : Int),0⟩ : mlegS)] = legsM C st (i + 1) := by rw [legsM_succ]; unfold legM; rw [if_pos hm]; rfl
        rw [e]
        refine hrec p (by omega) (by omega) (by omega) (fun ⟨j,hj,hjn⟩ => hq ⟨j,?_,hjn⟩)
        rcases Nat.lt_or_ge j i with x | x
        · exact x
        · have : j = i := by omega
          subst this; exact absurd hm hjn
      · rw [if_neg (by simpa using hm),grd_t (inN64_of (by omega))]; simp only [Option.bind_some]
        rw [grd_t (inLen_of (by omega)),hmin]
        have e : legsM C st i ++ [(⟨xL i C.sz,((0 : Nat) : Int),0⟩ : mlegS)] = legsM C st (i + 1) := by rw [legsM_succ]; unfold legM; rw [if_neg hm]; rfl
        rw [e]
        exact hrec (p + 1) (by omega) (by omega) (by omega) (fun _ => by omega)
    · rw [if_neg (by rw [hll]; omega)]
      have : i = C.L := by omega
      subst this
      exact ⟨p,hq,rfl⟩
theorem setB' {l : List Bool} {i j : Nat} {v : Bool} (h : i < l.length) : (l.set i v).getD j false = if j = i then v else l.getD j false := by
  simp only [List.getD,List.getElem?_set]
  by_cases e : i = j
  · subst e; simp [h]
  · rw [if_neg e,if_neg (fun x => e x.symm)]
theorem all_rule {f : Nat → MirS → Nat → Option MirS} {R : Nat} (hR : R ≤ 1000000) (hf : ∀ n x i,f (n + 1) x i = if (((i : Nat) : Int) < ((((List.replicate (((R : Nat) : Int)).toNat false)).length : Nat) : Int)) then grd (decide (i < x.dirty.length)) <| grd (inN64 (i + 1)) <| f n ({ x with dirty := (x.dirty.set i true) }) (i + 1) else some x) :
    ∀ (N i : Nat) (x : MirS),R - i < N → i ≤ R → x.dirty.length = R → (∀ r,r < i → x.dirty.getD r false = true) → ∃ d : List Bool,d.length = R ∧ (∀ r,r < R → d.getD r false = true) ∧ f N x i = some { x with dirty := d }
  | 0,_,_,h,_,_,_ => absurd h (by omega)
  | N + 1,i,x,hN,hi,hl,hd => by
    rw [hf]
    by_cases hlt : i < R
    · rw [if_pos (by simp; omega),grd_t (decide_eq_true (by omega)),grd_t (inN64_of (by omega))]
      obtain ⟨d,h1,h2,h3⟩ := all_rule hR hf N (i + 1) { x with dirty := x.dirty.set i true } (by omega) (by omega) (by simp [hl]) (fun r hr => by
        show (x.dirty.set i true).getD r false = true
        rw [setB' (by omega)]
        split
        · rfl
        · exact hd r (by omega))
      exact ⟨d,h1,h2,h3⟩
    · rw [if_neg (by simp; omega)]
      exact ⟨x.dirty,hl,fun r hr => hd r (by omega),rfl⟩
theorem some_l4 {l : List Int} {R : Nat} (hl : ∀ k,k < l.length → ∃ r : Nat,r < R ∧ l.getD k 0 = r) (hl2 : l.length ≤ 1000000) : ∀ (N k : Nat) (x : MirS),l.length - k < N → k ≤ l.length → x.dirty.length = R →
    ∃ d : List Bool,d.length = R ∧ (∀ r : Nat,r < R → (d.getD r false = true ↔ x.dirty.getD r false = true ∨ ∃ q,k ≤ q ∧ q < l.length ∧ l.getD q 0 = (r : Int))) ∧ mirror_Open_l4 l N x k = some { x with dirty := d }
  | 0,_,_,h,_,_ => absurd h (by omega)
  | N + 1,k,x,hN,hk,hd => by
    have hu : mirror_Open_l4 l (N + 1) x k = mirror_Open_l4_b l (mirror_Open_l4 l N) x k := rfl
    rw [hu]
    unfold mirror_Open_l4_b
    by_cases hlt : k < l.length
    · obtain ⟨r,hr,her⟩ := hl k hlt
      rw [if_pos (by omega),her,grd_t (decide_eq_true ⟨Int.natCast_nonneg _,by rw [hd]; exact Int.ofNat_lt.2 hr⟩),grd_t (inN64_of (by omega)),Int.toNat_natCast]
      obtain ⟨d,h1,h2,h3⟩ := some_l4 hl hl2 N (k + 1) { x with dirty := x.dirty.set r true } (by omega) (by omega) (by simp [hd])
      refine ⟨d,h1,fun q hq => ?_,h3⟩
      rw [h2 q hq]
      show ((x.dirty.set r true).getD q false = true ∨ _) ↔ _
      rw [setB' (by omega)]
      by_cases e : q = r
      · subst e
        rw [if_pos rfl]
        exact ⟨fun _ => .inr ⟨k,Nat.le_refl _,hlt,her⟩,fun _ => .inl rfl⟩
      · rw [if_neg e]
        refine or_congr Iff.rfl ⟨fun ⟨q',g1,g2,g3⟩ => ⟨q',by omega,g2,g3⟩,fun ⟨q',g1,g2,g3⟩ => ⟨q',?_,g2,g3⟩⟩
        rcases Nat.lt_or_ge k q' with y | y
        · exact y
        · have : q' = k := by omega
          subst this
          rw [her] at g3
          exact absurd (by omega) e
    · rw [if_neg (by omega)]
      refine ⟨x.dirty,hd,fun r _ => ?_,rfl⟩
      exact ⟨fun h => .inl h,fun h => h.elim id (fun ⟨q,g1,g2,_⟩ => by omega)⟩
theorem dirtyL_has {l : List UInt64} {n r : Nat} (hr : r < n) : (∃ q,0 ≤ q ∧ q < (dirtyL l n).length ∧ (dirtyL l n).getD q 0 = (r : Int)) ↔ bitR l r = true := by
  have hm : (r : Int) ∈ dirtyL l n ↔ bitR l r = true := by
    unfold dirtyL
    rw [List.mem_map]
    constructor
    · rintro ⟨q,hq,e⟩
      have := (List.mem_filter.1 hq).2
      have e' : q = r := by omega
      rw [e'] at this; simpa using this
    · intro h
      exact ⟨r,List.mem_filter.2 ⟨List.mem_range.2 hr,by simpa using h⟩,rfl⟩
  rw [← hm,List.mem_iff_getElem]
  constructor
  · rintro ⟨q, -,hq,e⟩
    exact ⟨q,hq,by simpa [List.getD,hq] using e⟩
  · rintro ⟨q,hq,e⟩
    exact ⟨q,by omega,hq,by simp [List.getD,hq,e]⟩
end
end Go.Proofs
namespace Go.Proofs
open Go.VG
section
variable {C : MC} {K a i r : Nat} {s t u y : ArrS} {lv : LV} {m m' x : MirS} {w v : UInt64} {st : List Int} {legs : List Dvc}
theorem open_miss {R : Nat} (hR : 1 ≤ R ∧ R ≤ 12) (hok : ArrOk C.ns K s) (hdn : s.down = false) (hm : miss s C.L = true) : regionlog_Open (xL C.L 3) (R : Int) s = some (none,6) := by
  have hnW : nW R = 1 := by unfold nW; omega
  have hF := fuel_big
  have hns : C.ns.getD C.L 0 = 3 := MC.log
  unfold regionlog_Open
  rw [checkN logL hns (by decide) ⟨hR.1,by omega⟩,if_neg (by rw [hnW]; omega)]; simp only [Option.bind_some]
  rw [if_neg (by simp),wordsN ⟨hR.1,by omega⟩,hnW]; simp only [Option.bind_some]
  have hrd : ∃ w,(xL C.L 3).rd s (0 : Int) = some (w,6) := by
    have h1 := hok.rdM (d := C.L) (a := 0) hdn logL (by rw [hns]; decide) hm
    rw [span_rd (by omega) (by omega),if_pos (by omega)]
    have e : ((0 : Nat) : Int) + (0 : Int) = ((0 : Nat) : Int) := by omega
    rw [e,h1]; exact ⟨_,rfl⟩
  obtain ⟨w,hrd⟩ := hrd
  have hra : block_ReadAll (xL C.L 3) (0 : Int) ((1 + 1 : Nat) : Int) s = some ([],6) := by
    unfold block_ReadAll
    have hsz : (xL C.L 3).size s = some ((3 : Nat) : Int) := span_size
    rw [hsz]; simp only [Option.bind_some]
    rw [inside_t (by omega) (by omega)]; simp only [Option.bind_some]
    rw [if_neg (by simp)]
    obtain ⟨N,hN⟩ : ∃ N,FUEL = N + 1 := ⟨FUEL - 1,by omega⟩
    have hu : block_ReadAll_l1 (xL C.L 3) (0 : Int) ((1 + 1 : Nat) : Int) s (N + 1) 0 [] = block_ReadAll_l1_b (xL C.L 3) (0 : Int) ((1 + 1 : Nat) : Int) s (block_ReadAll_l1 (xL C.L 3) (0 : Int) ((1 + 1 : Nat) : Int) s N) 0 [] := rfl
    rw [hN,hu]
    unfold block_ReadAll_l1_b
    have e : (0 : Int) + ((0 : Nat) : Int) = 0 := rfl
    rw [if_pos (by omega),e,grd_t (inI64_of (by omega)),hrd]; simp only [Option.bind_some]
    rw [if_pos (by simp),seqO_inr]
  rw [hra]; simp only [Option.bind_some]
  rw [if_pos (by simp)]
structure OpH (C : MC) (s : ArrS) (legs : List Dvc) (st : List Int) : Prop where
  ll : legs.length = C.L
  lx : ∀ i,i < C.L → legs.getD i dv0 = xL i C.sz
  rg : ∀ k ∈ st,0 ≤ k ∧ k ≤ (C.L : Int)
  sl : st.length ≤ 1000000
  ex : ∃ j,j < C.L ∧ (j : Int) ∉ st
theorem OpH.guard (h : OpH C s legs st) : ¬ ((((((legs.length : Nat) : Int) < (2 : Int)) ∨ ((6 : Int) < ((legs.length : Nat) : Int))) ∨ ((C.rg : Int) < (1 : Int))) ∨ ((65536 : Int) < (C.rg : Int))) := by
  have h1 := C.hL
  have h2 := C.hr
  rw [h.ll]; omega
theorem open2_eq' {R : Nat} (hR : 1 ≤ R ∧ R ≤ 12) (hreg : mirror_Regions (C.sz : Int) (C.rg : Int) = some (R : Int)) (h : OpH C s legs st) : ∃ d : List Bool,d.length = R ∧ (∀ r,r < R → d.getD r false = true) ∧ mirror_Open_2 legs st (C.rg : Int) s = some (some ⟨legsM C st C.L,none,false,2,(C.sz : Int),(C.rg : Int),d,0⟩,0) := by
  have hL := C.hL
  have hnW : nW R = 1 := by unfold nW; omega
  have hF := fuel_big
  unfold mirror_Open_2
  generalize FUEL = N at hF ⊢
  rw [if_neg h.guard,containsF (by rw [h.ll]; exact h.rg) h.sl]; simp only [Option.bind_some]
  have hsz : Dvc.size (legs.getD 0 dv0) s = some (C.sz : Int) := by rw [h.lx 0 (by omega)]; exact span_size
  rw [if_neg (by simp),hsz]; simp only [Option.bind_some]
  obtain ⟨q,q1,q2⟩ := open_rule (f := mirror_Open_2_l1 legs st (C.rg : Int) s) (s := s) (fun _ _ _ _ => rfl) h.ll h.lx h.sl (lg := false) (reg := (C.rg : Int)) N 0 0 (by omega) (by omega) (by omega) (fun ⟨j,hj,_⟩ => absurd hj (by omega))
  have e0 : legsM C st 0 = [] := rfl
  rw [e0] at q2
  rw [q2]; simp only [Option.bind_some]
  have := q1 h.ex
  rw [if_neg (by omega),hreg]; simp only [Option.bind_some]
  rw [grd_t (decide_eq_true ⟨by omega,by omega⟩),contains_eq h.sl]; simp only [Option.bind_some]
  rw [if_pos (by simp)]
  obtain ⟨d,d1,d2,d3⟩ := all_rule (f := mirror_Open_2_l3 (R : Int)) (R := R) (by omega) (fun _ _ _ => rfl) N 0 ⟨legsM C st C.L,none,false,2,(C.sz : Int),(C.rg : Int),List.replicate ((R : Int)).toNat false,0⟩ (by omega) (by omega) (by simp) (fun r hr => absurd hr (by omega))
  rw [d3]
  exact ⟨d,d1,d2,rfl⟩
theorem open1_eq' {R : Nat} (hR : 1 ≤ R ∧ R ≤ 12) (hreg : mirror_Regions (C.sz : Int) (C.rg : Int) = some (R : Int)) (h : OpH C s legs st) (hok : ArrOk C.ns K s) (hdn : s.down = false) :
    ((C.L : Int) ∈ st → ∃ d : List Bool,d.length = R ∧ (∀ r,r < R → d.getD r false = true) ∧ mirror_Open legs st (xL C.L 3) (C.rg : Int) s = some (some ⟨legsM C st C.L,none,true,2,(C.sz : Int),(C.rg : Int),d,0⟩,0)) ∧
    ((C.L : Int) ∉ st → miss s C.L = true → mirror_Open legs st (xL C.L 3) (C.rg : Int) s = some (none,18)) ∧
    ((C.L : Int) ∉ st → miss s C.L = false → now s C.L 0 = headL R → ∃ d : List Bool,d.length = R ∧ (∀ r,r < R → (d.getD r false = true ↔ tb (now s C.L 1) r = true)) ∧ mirror_Open legs st (xL C.L 3) (C.rg : Int) s = some (some ⟨legsM C st C.L,some (openL (xL C.L 3) R (now s C.L)),true,0,(C.sz : Int),(C.rg : Int),d,0⟩,0)) := by
  have hL := C.hL
  have hnW : nW R = 1 := by unfold nW; omega
  have hF := fuel_big
  have hsz : Dvc.size (legs.getD 0 dv0) s = some (C.sz : Int) := by rw [h.lx 0 (by omega)]; exact span_size
  have e0 : legsM C st 0 = [] := rfl
  have hlen : ((((List.replicate ((R : Int)).toNat false)).length : Nat) : Int) = (R : Int) := by simp
  refine ⟨fun h1 => ?_,fun h1 h2 => ?_,fun h1 h2 h3 => ?_⟩
  · unfold mirror_Open
    generalize FUEL = N at hF ⊢
    obtain ⟨q,q1,q2⟩ := open_rule (f := mirror_Open_l1 legs st (xL C.L 3) (C.rg : Int) s) (s := s) (fun _ _ _ _ => rfl) h.ll h.lx h.sl (lg := true) (reg := (C.rg : Int)) N 0 0 (by omega) (by omega) (by omega) (fun ⟨j,hj,_⟩ => absurd hj (by omega))
    rw [e0] at q2
    have hq := q1 h.ex
    rw [if_neg h.guard,containsF (by rw [h.ll]; exact h.rg) h.sl]; simp only [Option.bind_some]
    rw [if_neg (by simp),hsz]; simp only [Option.bind_some]
    rw [q2]; simp only [Option.bind_some]
    rw [if_neg (by omega),hreg]; simp only [Option.bind_some]
    rw [grd_t (decide_eq_true ⟨by omega,by omega⟩),contains_eq h.sl]; simp only [Option.bind_some]
    rw [if_pos (.inl (by rw [h.ll]; exact decide_eq_true h1))]
    obtain ⟨d,d1,d2,d3⟩ := all_rule (f := mirror_Open_l3 (R : Int)) (R := R) (by omega) (fun _ _ _ => rfl) N 0 ⟨legsM C st C.L,none,true,2,(C.sz : Int),(C.rg : Int),List.replicate ((R : Int)).toNat false,0⟩ (by omega) (by omega) (by simp) (fun r hr => absurd hr (by omega))
    rw [d3]
    exact ⟨d,d1,d2,rfl⟩
  · unfold mirror_Open
    generalize FUEL = N at hF ⊢
    obtain ⟨q,q1,q2⟩ := open_rule (f := mirror_Open_l1 legs st (xL C.L 3) (C.rg : Int) s) (s := s) (fun _ _ _ _ => rfl) h.ll h.lx h.sl (lg := true) (reg := (C.rg : Int)) N 0 0 (by omega) (by omega) (by omega) (fun ⟨j,hj,_⟩ => absurd hj (by omega))
    rw [e0] at q2
    have hq := q1 h.ex
    rw [if_neg h.guard,containsF (by rw [h.ll]; exact h.rg) h.sl]; simp only [Option.bind_some]
    rw [if_neg (by simp),hsz]; simp only [Option.bind_some]
    rw [q2]; simp only [Option.bind_some]
    rw [if_neg (by omega),hreg]; simp only [Option.bind_some]
    rw [grd_t (decide_eq_true ⟨by omega,by omega⟩),contains_eq h.sl]; simp only [Option.bind_some]
    rw [if_neg (by rintro (x | x); rw [h.ll] at x; exact h1 (of_decide_eq_true x); exact x trivial),hlen,open_miss hR hok hdn h2]; simp only [Option.bind_some]
    rw [if_pos ⟨by decide,by decide⟩]
  · unfold mirror_Open
    generalize FUEL = N at hF ⊢
    obtain ⟨q,q1,q2⟩ := open_rule (f := mirror_Open_l1 legs st (xL C.L 3) (C.rg : Int) s) (s := s) (fun _ _ _ _ => rfl) h.ll h.lx h.sl (lg := true) (reg := (C.rg : Int)) N 0 0 (by omega) (by omega) (by omega) (fun ⟨j,hj,_⟩ => absurd hj (by omega))
    rw [e0] at q2
    have hq := q1 h.ex
    rw [if_neg h.guard,containsF (by rw [h.ll]; exact h.rg) h.sl]; simp only [Option.bind_some]
    rw [if_neg (by simp),hsz]; simp only [Option.bind_some]
    rw [q2]; simp only [Option.bind_some]
    rw [if_neg (by omega),hreg]; simp only [Option.bind_some]
    rw [grd_t (decide_eq_true ⟨by omega,by omega⟩),contains_eq h.sl]; simp only [Option.bind_some]
    rw [if_neg (by rintro (x | x); rw [h.ll] at x; exact h1 (of_decide_eq_true x); exact x trivial),hlen,open_eq logL MC.log (by decide) hok hdn h2 ⟨hR.1,by omega⟩ (by rw [hnW]; omega),if_pos h3]; simp only [Option.bind_some]
    rw [if_neg (by simp),if_neg (by simp)]; simp only [Option.elim_some]
    have hregs : (openL (xL C.L 3) R (now s C.L)).regions = (R : Int) := rfl
    have hbl : (openL (xL C.L 3) R (now s C.L)).bits.length = nW R := by simp [openL]
    rw [dirty_eq hregs (by rw [hbl,hnW]; omega) (by omega)]; simp only [Option.bind_some]
    have hle := @dirtyL_le (openL (xL C.L 3) R (now s C.L)).bits R
    obtain ⟨d,d1,d2,d3⟩ := some_l4 (l := dirtyL (openL (xL C.L 3) R (now s C.L)).bits R) (R := R) (fun k hk => dirtyL_mem hk) (by omega) N 0 ⟨legsM C st C.L,some (openL (xL C.L 3) R (now s C.L)),true,0,(C.sz : Int),(C.rg : Int),List.replicate ((R : Int)).toNat false,0⟩ (by omega) (by omega) (by simp)
    rw [d3]
    refine ⟨d,d1,fun r hr => ?_,rfl⟩
    have hb0 : ∀ l : List UInt64,bitR l r = tb (l.getD 0 0) r := fun l => by unfold bitR; rw [show r / 64 = 0 by omega,show r % 64 = r by omega]
    rw [d2 r hr,dirtyL_has hr,hb0]
    have e1 : (openL (xL C.L 3) R (now s C.L)).bits.getD 0 0 = now s C.L 1 := by
      have : (openL (xL C.L 3) R (now s C.L)).bits = (List.range (nW R)).map fun i => now s C.L (1 + i) := rfl
      rw [this,getD_map_range (by rw [hnW]; decide)]
    rw [e1]
    have e2 : (List.replicate ((R : Int)).toNat false).getD r false = false := by
      simp only [List.getD,List.getElem?_replicate]; split <;> rfl
    show (List.replicate ((R : Int)).toNat false).getD r false = true ∨ _ ↔ _
    rw [e2]
    exact ⟨fun hx => hx.elim (fun hy => (by cases hy)) id,.inr⟩
theorem open2_eq (h : OpH C s legs st) : ∃ d : List Bool,d.length = C.R ∧ (∀ r,r < C.R → d.getD r false = true) ∧ mirror_Open_2 legs st (C.rg : Int) s = some (some ⟨legsM C st C.L,none,false,2,(C.sz : Int),(C.rg : Int),d,0⟩,0) :=
  open2_eq' C.hR regions_eq h
theorem open1_eq (h : OpH C s legs st) (hok : ArrOk C.ns K s) (hdn : s.down = false) :
    ((C.L : Int) ∈ st → ∃ d : List Bool,d.length = C.R ∧ (∀ r,r < C.R → d.getD r false = true) ∧ mirror_Open legs st (xL C.L 3) (C.rg : Int) s = some (some ⟨legsM C st C.L,none,true,2,(C.sz : Int),(C.rg : Int),d,0⟩,0)) ∧
    ((C.L : Int) ∉ st → miss s C.L = true → mirror_Open legs st (xL C.L 3) (C.rg : Int) s = some (none,18)) ∧
    ((C.L : Int) ∉ st → miss s C.L = false → now s C.L 0 = headL C.R → ∃ d : List Bool,d.length = C.R ∧ (∀ r,r < C.R → (d.getD r false = true ↔ tb (now s C.L 1) r = true)) ∧ mirror_Open legs st (xL C.L 3) (C.rg : Int) s = some (some ⟨legsM C st C.L,some (openL (xL C.L 3) C.R (now s C.L)),true,0,(C.sz : Int),(C.rg : Int),d,0⟩,0)) :=
  open1_eq' C.hR regions_eq h hok hdn
theorem opener_eq (hok : ArrOk C.ns K s) (hdn : s.down = false) (hst : ∀ k ∈ st,0 ≤ k ∧ k ≤ (C.L : Int)) (hsl : st.length ≤ 1000000) (hex : ∃ j,j < C.L ∧ (j : Int) ∉ st) (hh : C.lg = true → (C.L : Int) ∉ st → miss s C.L = false → now s C.L 0 = headL C.R) :
    (¬ (C.lg = true ∧ (C.L : Int) ∉ st) → ∃ d : List Bool,d.length = C.R ∧ (∀ r,r < C.R → d.getD r false = true) ∧ volumegrouplaw21_setting_owner_1 st s (C.L : Int) (C.sz : Int) (C.rg : Int) C.lg = some (some ⟨legsM C st C.L,none,C.lg,2,(C.sz : Int),(C.rg : Int),d,0⟩,0)) ∧
    (C.lg = true → (C.L : Int) ∉ st → miss s C.L = true → volumegrouplaw21_setting_owner_1 st s (C.L : Int) (C.sz : Int) (C.rg : Int) C.lg = some (none,18)) ∧
    (C.lg = true → (C.L : Int) ∉ st → miss s C.L = false → ∃ d : List Bool,d.length = C.R ∧ (∀ r,r < C.R → (d.getD r false = true ↔ tb (now s C.L 1) r = true)) ∧ volumegrouplaw21_setting_owner_1 st s (C.L : Int) (C.sz : Int) (C.rg : Int) C.lg = some (some ⟨legsM C st C.L,some (openL (xL C.L 3) C.R (now s C.L)),true,0,(C.sz : Int),(C.rg : Int),d,0⟩,0)) := by
  have hL := C.hL
  have hs := C.hs
  have hcnt : s.drv.length = C.L + 1 := by rw [hok.sz.cnt]; exact MC.len
  have hsize : ∀ i,i < C.L → s.size i = C.sz := fun i hi => by rw [hok.sz.size i (by rw [MC.len]; omega),MC.leg hi]
  have hsizeL : s.size C.L = 3 := by rw [hok.sz.size C.L logL,MC.log]
  have hsp : volumegroupmake_Spans s = some (spansA s) := spans_eq (by omega) (fun i hi => by
    rcases Nat.lt_or_ge i C.L with x | x
    · rw [hsize i x]; omega
    · have : i = C.L := by omega
      subst this; rw [hsizeL]; omega)
  have hop : OpH C s ((spansA s).take C.L) st := by
    refine ⟨by rw [List.length_take,spansA_length]; omega,fun i hi => ?_,hst,hsl,hex⟩
    have h1 : ((spansA s).take C.L).getD i dv0 = (spansA s).getD i dv0 := by simp [List.getD,hi]
    rw [h1,spansA_getD (by omega),hsize i hi]; rfl
  have hlogd : (spansA s).getD C.L dv0 = xL C.L 3 := by rw [spansA_getD (by omega),hsizeL]; rfl
  have hopen : ∀ {o : Option MirS} {e : Int},(C.lg = false → mirror_Open_2 ((spansA s).take C.L) st (C.rg : Int) s = some (o,e)) → (C.lg = true → mirror_Open ((spansA s).take C.L) st (xL C.L 3) (C.rg : Int) s = some (o,e)) → volumegrouplaw21_setting_open s (C.L : Int) (C.sz : Int) (C.rg : Int) C.lg st = some (o,e) := by
    intro o e h1 h2
    unfold volumegrouplaw21_setting_open
    rw [hsp]; simp only [Option.bind_some,spansA_length,hcnt,Int.toNat_natCast]
    rw [if_neg (by omega)]
    cases hlg : C.lg
    · rw [if_neg (by simp)]; simp only [Option.bind_some]
      rw [grd_t (decide_eq_true ⟨by omega,by omega⟩)]; simp only [Option.elim_none]
      rw [h1 hlg]; rfl
    · rw [if_pos ⟨rfl,by omega⟩,grd_t (decide_eq_true ⟨by omega,by omega⟩),hlogd]; simp only [Option.bind_some]
      rw [grd_t (decide_eq_true ⟨by omega,by omega⟩)]; simp only [Option.elim_some]
      rw [h2 hlg]; rfl
  have hown : ∀ {o : MirS},volumegrouplaw21_setting_open s (C.L : Int) (C.sz : Int) (C.rg : Int) C.lg st = some (some o,0) → volumegrouplaw21_setting_owner_1 st s (C.L : Int) (C.sz : Int) (C.rg : Int) C.lg = some (some o,0) := by
    intro o h1
    unfold volumegrouplaw21_setting_owner_1
    rw [h1]; rfl
  obtain ⟨o1,o2,o3⟩ := open1_eq hop hok hdn
  refine ⟨fun h1 => ?_,fun h1 h2 h3 => ?_,fun h1 h2 h3 => ?_⟩
  · cases hlg : C.lg
    · obtain ⟨d,d1,d2,d3⟩ := open2_eq hop
      have := hown (hopen (fun _ => d3) (fun hx => by rw [hlg] at hx; cases hx))
      rw [hlg] at this
      exact ⟨d,d1,d2,this⟩
    · have hin : (C.L : Int) ∈ st := Classical.byContradiction fun hx => h1 ⟨hlg,hx⟩
      obtain ⟨d,d1,d2,d3⟩ := o1 hin
      have := hown (hopen (fun hx => by rw [hlg] at hx; cases hx) (fun _ => d3))
      rw [hlg] at this
      exact ⟨d,d1,d2,this⟩
  · have h4 := hopen (fun hx => by rw [h1] at hx; cases hx) (fun _ => o2 h2 h3)
    unfold volumegrouplaw21_setting_owner_1
    rw [h4]; rfl
  · obtain ⟨d,d1,d2,d3⟩ := o3 h2 h3 (hh h1 h2 h3)
    exact ⟨d,d1,d2,hown (hopen (fun hx => by rw [h1] at hx; cases hx) (fun _ => d3))⟩
end
end Go.Proofs
namespace Go.Proofs
open Go.VG
theorem keep_l1 {w : UInt64} : ∀ (N i : Nat) (acc : List Bool),192 - i < N → i ≤ 192 → acc.length = i → ∃ ks,volumegroupmake_Keep_l1 w N acc i = some ks
  | 0,_,_,h,_,_ => absurd h (by omega)
  | N + 1,i,acc,h,hi,ha => by
    show ∃ ks,volumegroupmake_Keep_l1_b _ _ _ _ = _
    unfold volumegroupmake_Keep_l1_b
    by_cases hlt : i < 192
    · rw [if_pos (by omega),grd_t (inLen_of (by omega))]
      exact keep_l1 N (i + 1) _ (by omega) (by omega) (by simp [ha])
    · rw [if_neg (by omega)]; exact ⟨_,rfl⟩
theorem keep_ok (w : UInt64) : ∃ ks,volumegroupmake_Keep w = some ks := by
  unfold volumegroupmake_Keep
  have hF := fuel_big
  generalize FUEL = N at hF ⊢
  obtain ⟨ks,h⟩ := keep_l1 (w := w) N 0 [] (by omega) (by omega) rfl
  exact ⟨ks,by rw [h]; rfl⟩
theorem at_ok (a : Int) {n : Nat} (hn : 0 < n) (hb : n ≤ 65536) : ∃ k : Nat,(a.tmod (n : Int) + (n : Int)).tmod (n : Int) = (k : Int) ∧ k < n ∧ -65536 < a.tmod (n : Int) ∧ a.tmod (n : Int) < 65536 := by
  have h1 : -(n : Int) < a.tmod n ∧ a.tmod n < n := by
    have h := Int.natAbs_tmod a n
    have h2 := Nat.mod_lt a.natAbs (show 0 < (n : Int).natAbs by omega)
    omega
  have h2 : 0 ≤ a.tmod n + n := by omega
  have h3 := Int.tmod_nonneg (a := a.tmod n + n) n h2
  have h4 := Int.tmod_lt_of_pos (a.tmod n + n) (show (0 : Int) < n by omega)
  exact ⟨((a.tmod n + n).tmod n).toNat,by omega,by omega,by omega,by omega⟩
end Go.Proofs
namespace Go.Proofs
open Go.VG
theorem has_l1 {l : List Int} {k : Int} : ∀ (N i : Nat),l.length - i < N → i ≤ l.length → (∀ j,j < i → l.getD j 0 ≠ k) → volumegroupmake_has_l1 l k N i = some (.inl ()) ∧ k ∉ l ∨ volumegroupmake_has_l1 l k N i = some (.inr true) ∧ k ∈ l
  | 0,_,h,_,_ => absurd h (by omega)
  | N + 1,i,h,hi,hn => by
    have hrec := has_l1 (l := l) (k := k) N (i + 1)
    have hu : volumegroupmake_has_l1 l k (N + 1) i = volumegroupmake_has_l1_b l k (volumegroupmake_has_l1 l k N) i := rfl
    rw [hu]
    unfold volumegroupmake_has_l1_b
    by_cases hlt : i < l.length
    · rw [if_pos (by omega)]
      by_cases he : l.getD i 0 = k
      · rw [if_pos he]
        exact .inr ⟨rfl,by rw [← he]; simp [List.getD,hlt]⟩
      · rw [if_neg he]
        exact hrec (by omega) (by omega) (fun j hj => by
          by_cases e : j = i
          · rw [e]; exact he
          · exact hn j (by omega))
    · rw [if_neg (by omega)]
      refine .inl ⟨rfl,fun hk => ?_⟩
      obtain ⟨j,hj,e⟩ := List.mem_iff_getElem.1 hk
      exact hn j (by omega) (by simp [List.getD,hj,e])
theorem has_eq {l : List Int} {k : Int} (hl : l.length ≤ 1000000) : volumegroupmake_has l k = some (decide (k ∈ l)) := by
  unfold volumegroupmake_has
  have hF := fuel_big
  rcases has_l1 (l := l) (k := k) FUEL 0 (by omega) (by omega) (fun j hj => absurd hj (by omega)) with ⟨h1,h2⟩ | ⟨h1,h2⟩
  · rw [h1,seqO_inl,decide_eq_false h2]
  · rw [h1,seqO_inr,decide_eq_true h2]
theorem add_l1 {l : List Int} {n : Int} (h0 : 0 ≤ n) (hl : ∀ k ∈ l,0 ≤ k) (hlen : l.length ≤ 1000000) : ∀ (N i : Nat) (x : Int) (acc : List Int),l.length - i < N → i ≤ l.length → (x = n ∧ acc.length = i ∧ (∀ z,z ∈ acc ↔ z ∈ l.take i) ∨ x = -1 ∧ acc.length ≤ i + 1 ∧ (∀ z,z ∈ acc ↔ z ∈ l.take i ∨ z = n)) →
    ∃ x' acc',volumegroupmake_add_l1 l N x acc i = some (x',acc') ∧ (x' = n ∧ acc'.length = l.length ∧ (∀ z,z ∈ acc' ↔ z ∈ l) ∨ x' = -1 ∧ acc'.length ≤ l.length + 1 ∧ (∀ z,z ∈ acc' ↔ z ∈ l ∨ z = n))
  | 0,_,_,_,h,_,_ => absurd h (by omega)
  | N + 1,i,x,acc,h,hi,hx => by
    have hrec := add_l1 h0 hl hlen N (i + 1)
    have hu : volumegroupmake_add_l1 l (N + 1) x acc i = volumegroupmake_add_l1_b l (volumegroupmake_add_l1 l N) x acc i := rfl
    rw [hu]
    unfold volumegroupmake_add_l1_b
    by_cases hlt : i < l.length
    · have hk := hl (l.getD i 0) (by simp [List.getD,hlt])
      have hsn : ∀ z,z ∈ l.take (i + 1) ↔ z ∈ l.take i ∨ z = l.getD i 0 := fun z => by rw [getD_take_snoc (d := 0) hlt,List.mem_append,List.mem_singleton]
      rw [if_pos (by omega)]
      generalize l.getD i 0 = g at hk hsn ⊢
      rcases hx with ⟨rfl,h1,h2⟩ | ⟨rfl,h1,h2⟩
      · by_cases hc : (0 : Int) ≤ x ∧ x < g
        · rw [if_pos hc,grd_t (inLen_of (by omega))]; simp only [Option.bind_some]
          rw [if_neg (by omega),grd_t (inLen_of (by simp; omega))]
          refine hrec _ _ (by omega) (by omega) (.inr ⟨rfl,by simp; omega,fun z => ?_⟩)
          rw [List.mem_append,List.mem_append,List.mem_singleton,List.mem_singleton,h2,hsn]
          constructor
          · rintro ((a | a) | a)
            · exact .inl (.inl a)
            · exact .inr a
            · exact .inl (.inr a)
          · rintro ((a | a) | a)
            · exact .inl (.inl a)
            · exact .inr a
            · exact .inl (.inr a)
        · rw [if_neg hc]; simp only [Option.bind_some]
          by_cases he : g = x
          · rw [if_pos he,grd_t (inLen_of (by omega))]
            refine hrec _ _ (by omega) (by omega) (.inr ⟨rfl,by simp; omega,fun z => ?_⟩)
            rw [List.mem_append,List.mem_singleton,h2,hsn,he]
            exact ⟨fun a => .inl a,fun a => a.elim id .inr⟩
          · rw [if_neg he,grd_t (inLen_of (by omega))]
            refine hrec _ _ (by omega) (by omega) (.inl ⟨rfl,by simp; omega,fun z => ?_⟩)
            rw [List.mem_append,List.mem_singleton,h2,hsn]
      · rw [if_neg (by omega)]; simp only [Option.bind_some]
        rw [if_neg (by omega),grd_t (inLen_of (by omega))]
        refine hrec _ _ (by omega) (by omega) (.inr ⟨rfl,by simp; omega,fun z => ?_⟩)
        rw [List.mem_append,List.mem_singleton,h2,hsn]
        constructor
        · rintro ((a | a) | a)
          · exact .inl (.inl a)
          · exact .inr a
          · exact .inl (.inr a)
        · rintro ((a | a) | a)
          · exact .inl (.inl a)
          · exact .inr a
          · exact .inl (.inr a)
    · rw [if_neg (by omega)]
      have e : l.take i = l := List.take_of_length_le (by omega)
      have e2 : i = l.length := by omega
      rw [e] at hx
      subst e2
      exact ⟨_,_,rfl,hx⟩
theorem add_eq {l : List Int} {n : Int} (h0 : 0 ≤ n) (hl : ∀ k ∈ l,0 ≤ k) (hlen : l.length ≤ 1000000) : ∃ l',volumegroupmake_add l n = some l' ∧ l'.length ≤ l.length + 1 ∧ ∀ z,z ∈ l' ↔ z ∈ l ∨ z = n := by
  unfold volumegroupmake_add
  have hF := fuel_big
  obtain ⟨x',acc',h1,h2⟩ := add_l1 h0 hl hlen FUEL 0 n [] (by omega) (by omega) (.inl ⟨rfl,rfl,fun z => by simp⟩)
  rw [h1]; simp only [Option.bind_some]
  rcases h2 with ⟨rfl,h2,h3⟩ | ⟨rfl,h2,h3⟩
  · rw [if_pos h0,grd_t (inLen_of (by omega))]
    exact ⟨_,rfl,by simp [h2],fun z => by rw [List.mem_append,List.mem_singleton,h3]⟩
  · rw [if_neg (by omega)]
    exact ⟨_,rfl,h2,h3⟩
def dropM (m : MirS) (k : Nat) : MirS := { m with legs := m.legs.set k ⟨(m.legs.getD k mleg_x0).dev,2,0⟩ }
section
variable {C : MC} {K a i k : Nat} {s t u y : ArrS} {lv : LV} {m m' x : MirS} {w v : UInt64}
theorem dropM_at (h : i < m.legs.length) {j : Nat} : (dropM m i).legs.getD j mleg_x0 = if j = i then ⟨(m.legs.getD i mleg_x0).dev,2,0⟩ else m.legs.getD j mleg_x0 := getD_setM h
theorem drop_l1 (hl : m.legs.length ≤ 6) : ∀ (N i c : Nat),m.legs.length - i < N → i ≤ m.legs.length → c ≤ i → ∃ c',mirror_Mirror_Drop_l1 m ((k : Nat) : Int) N i c = some c' ∧ ((∃ j,i ≤ j ∧ j < m.legs.length ∧ j ≠ k ∧ stM m j ≠ 2) ∨ 0 < c → 0 < c')
  | 0,_,_,h,_,_ => absurd h (by omega)
  | N + 1,i,c,h,hi,hc => by
    have hu : mirror_Mirror_Drop_l1 m ((k : Nat) : Int) (N + 1) i c = mirror_Mirror_Drop_l1_b m ((k : Nat) : Int) (mirror_Mirror_Drop_l1 m ((k : Nat) : Int) N) i c := rfl
    rw [hu]
    unfold mirror_Mirror_Drop_l1_b
    by_cases hlt : i < m.legs.length
    · rw [if_pos (by omega)]
      by_cases h1 : (((i : Nat) : Int) ≠ ((k : Nat) : Int)) ∧ (m.legs.getD i mleg_x0).state ≠ 2
      · rw [if_pos h1,grd_t (inN64_of (by omega))]
        obtain ⟨c',k1,k2⟩ := drop_l1 hl N (i + 1) (c + 1) (by omega) (by omega) (by omega)
        exact ⟨c',k1,fun _ => k2 (.inr (by omega))⟩
      · rw [if_neg h1]
        obtain ⟨c',k1,k2⟩ := drop_l1 hl N (i + 1) c (by omega) (by omega) (by omega)
        refine ⟨c',k1,fun hx => k2 ?_⟩
        rcases hx with ⟨j,j1,j2,j3,j4⟩ | hx
        · rcases Nat.lt_or_ge i j with z | z
          · exact .inl ⟨j,z,j2,j3,j4⟩
          · have : j = i := by omega
            subst this
            exact absurd ⟨by omega,j4⟩ h1
        · exact .inr hx
    · rw [if_neg (by omega)]
      refine ⟨c,rfl,fun hx => ?_⟩
      rcases hx with ⟨j,j1,j2, -⟩ | hx
      · omega
      · exact hx
theorem drop_leg (h : MI C s lv m) (hex : ∃ j,j < C.L ∧ lv j = true) (hk : k < C.L) (hl : lv k = false) : mirror_Mirror_Drop m ((k : Nat) : Int) s = some (0,dropM m k) ∧ MI C s lv (dropM m k) := by
  have hF := fuel_big
  have hkm : k < m.legs.length := by rw [h.len]; exact hk
  obtain ⟨j,hj,hlj⟩ := hex
  constructor
  · unfold mirror_Mirror_Drop
    rw [if_neg (by rintro ⟨x, -⟩; rw [h.len] at x; omega),if_neg (by rw [h.len]; omega)]
    obtain ⟨c',c1,c2⟩ := drop_l1 (k := k) h.l6 FUEL 0 0 (by have := h.l6; omega) (by omega) (by omega)
    have hc := c2 (.inl ⟨j,by omega,by rw [h.len]; exact hj,fun e => (by rw [e,hl] at hlj; cases hlj),by rw [(h.live hj hlj).1]; decide⟩)
    rw [c1]; simp only [Option.bind_some]
    rw [if_neg (by omega),Int.toNat_natCast,grd_t (decide_eq_true ⟨by omega,by simp; omega⟩)]
    have e : ((m.legs.set k { m.legs.getD k mleg_x0 with state := 2 }).set k { (m.legs.set k { m.legs.getD k mleg_x0 with state := 2 }).getD k mleg_x0 with copied := 0 }) = m.legs.set k ⟨(m.legs.getD k mleg_x0).dev,2,0⟩ := by
      rw [List.set_set,getD_setM hkm,if_pos rfl]
    rw [e]; rfl
  · refine ⟨by simp [dropM,h.len],fun i hi => ?_,h.size,h.region,h.hasLog,h.dl,h.log,h.d⟩
    unfold stM
    rw [dropM_at hkm]
    by_cases e : i = k
    · subst e
      rw [if_pos rfl]
      exact ⟨h.dev hi,rfl,.inr ⟨hl,.inl rfl⟩⟩
    · rw [if_neg e]; exact h.leg i hi
theorem drop_log (h : MI C s lv m) (hlg : C.lg = true) (hl : lv C.L = false) : mirror_Mirror_Drop m ((C.L : Nat) : Int) s = some (0, { m with log := none,logState := 2 }) ∧ MI C s lv { m with log := none,logState := 2 } := by
  constructor
  · unfold mirror_Mirror_Drop
    rw [if_pos ⟨by rw [h.len],by rw [h.hasLog]; exact hlg⟩]
  · exact ⟨h.len,h.leg,h.size,h.region,h.hasLog,h.dl,.inr ⟨hl,.inl ⟨rfl,rfl⟩⟩,fun hx => absurd hx (by rw [hl]; decide)⟩
def gB (C : MC) (m : MirS) (i : Nat) : Nat := if i < C.L ∧ stM m i ≠ 2 then 1 else 0
def gM (C : MC) (m : MirS) : Nat := gB C m 0 + gB C m 1 + gB C m 2 + if m.logState = 2 then 0 else 1
theorem gB_le : gB C m i ≤ 1 := by unfold gB; split <;> omega
theorem gM_le : gM C m ≤ 4 := by
  have h0 := @gB_le C 0 m
  have h1 := @gB_le C 1 m
  have h2 := @gB_le C 2 m
  unfold gM
  split <;> omega
theorem Mk.g (h : Mk m m') (hl : m.legs.length = C.L) : gM C m' = gM C m := by
  have hb : ∀ i,gB C m' i = gB C m i := fun i => by
    unfold gB
    by_cases hi : i < C.L
    · have := h.st i (by rw [hl]; exact hi)
      by_cases h2 : stM m i = 2
      · rw [if_neg (fun x => x.2 (this.2 h2)),if_neg (fun x => x.2 h2)]
      · rw [if_pos ⟨hi,fun x => h2 (this.1 x)⟩,if_pos ⟨hi,h2⟩]
    · rw [if_neg (fun x => hi x.1),if_neg (fun x => hi x.1)]
  unfold gM
  rw [hb,hb,hb]
  congr 1
  by_cases h2 : m.logState = 2
  · rw [if_pos h2,if_pos (h.lst.2 h2)]
  · rw [if_neg h2,if_neg (fun x => h2 (h.lst.1 x))]
structure Sh (C : MC) (m m' : MirS) : Prop where
  leg : ∀ i,i < C.L → stM m i = 2 → stM m' i = 2
  log : m.logState = 2 → m'.logState = 2
theorem Sh.le (h : Sh C m m') (i : Nat) : gB C m' i ≤ gB C m i := by
  unfold gB
  by_cases h1 : i < C.L ∧ stM m i ≠ 2
  · rw [if_pos h1]; split <;> omega
  · rw [if_neg h1,if_neg]
    · omega
    · rintro ⟨h2,h3⟩
      exact h1 ⟨h2,fun x => h3 (h.leg i h2 x)⟩
theorem Sh.lt (h : Sh C m m') (hx : (∃ i,i < C.L ∧ stM m i ≠ 2 ∧ stM m' i = 2) ∨ m.logState ≠ 2 ∧ m'.logState = 2) : gM C m' < gM C m := by
  have h0 := h.le 0
  have h1 := h.le 1
  have h2 := h.le 2
  have hL := C.hL
  have hlog : (if m'.logState = 2 then 0 else 1) ≤ (if m.logState = 2 then 0 else 1) := by
    by_cases e : m.logState = 2
    · rw [if_pos e,if_pos (h.log e)]; omega
    · rw [if_neg e]; split <;> omega
  unfold gM
  rcases hx with ⟨i,i1,i2,i3⟩ | ⟨i1,i2⟩
  · have hs : gB C m' i < gB C m i := by
      have e1 : gB C m i = 1 := if_pos ⟨i1,i2⟩
      have e2 : gB C m' i = 0 := if_neg (fun x => x.2 i3)
      omega
    have : i = 0 ∨ i = 1 ∨ i = 2 := by omega
    rcases this with rfl | rfl | rfl <;> omega
  · rw [if_pos i2,if_neg i1]; omega
end
end Go.Proofs
namespace Go.Proofs
open Go.VG
structure OI (C : MC) (K : Nat) (lv : LV) (s : ArrS) (o : OwnS) : Prop where
  o1 : o.Open_1 = (C.L : Int)
  o2 : o.Open_2 = (C.sz : Int)
  o3 : o.Open_3 = (C.rg : Int)
  o4 : o.Open_4 = C.lg
  st : ∀ k ∈ o.Stale, ∃ i : Nat,i ≤ C.L ∧ k = i ∧ lv i = false
  sl : o.Stale.length ≤ K
  nl : ∀ i,i ≤ C.L → lv i = false → (i : Int) ∈ o.Stale ∨ miss s i = true ∨ i = C.L ∧ C.lg = false
  lo : ∀ i,i ≤ C.L → miss s i = true → (i : Int) ∈ o.Lost
  lr : ∀ k ∈ o.Lost, ∃ i : Nat,i ≤ C.L ∧ k = i ∧ lv i = false
  ll : o.Lost = lv.lost ∧ lv.lost.length ≤ 10
section
variable {C : MC} {K a i k : Nat} {s t u y : ArrS} {lv : LV} {m m' x : MirS} {w v : UInt64} {o : OwnS}
theorem OI.mono {K' : Nat} (h : OI C K lv s o) (hK : K ≤ K') : OI C K' lv s o := { h with sl := Nat.le_trans h.sl hK }
theorem OI.arr (h : OI C K lv s o) (hm : ∀ e,miss t e = miss s e) : OI C K lv t o := { h with nl := fun i hi hl => by rw [hm]; exact h.nl i hi hl,lo := fun i hi hx => h.lo i hi (by rw [← hm]; exact hx) }
theorem OI.set {o' : OwnS} (h : OI C K lv s o) (e1 : o'.Open_1 = o.Open_1) (e2 : o'.Open_2 = o.Open_2) (e3 : o'.Open_3 = o.Open_3) (e4 : o'.Open_4 = o.Open_4) (e5 : o'.Stale = o.Stale) (e6 : o'.Lost = o.Lost) : OI C K lv s o' :=
  ⟨e1.trans h.o1,e2.trans h.o2,e3.trans h.o3,e4.trans h.o4,by rw [e5]; exact h.st,by rw [e5]; exact h.sl,by rw [e5]; exact h.nl,by rw [e6]; exact h.lo,by rw [e6]; exact h.lr,by rw [e6]; exact h.ll⟩
theorem OI.stale {o' : OwnS} {l : List Int} (h : OI C K lv s o) (hk : k ≤ C.L) (hl : lv k = false) (h1 : l.length ≤ o.Stale.length + 1) (h2 : ∀ z,z ∈ l ↔ z ∈ o.Stale ∨ z = (k : Int)) (e1 : o'.Open_1 = o.Open_1) (e2 : o'.Open_2 = o.Open_2) (e3 : o'.Open_3 = o.Open_3) (e4 : o'.Open_4 = o.Open_4) (e5 : o'.Stale = l) (e6 : o'.Lost = o.Lost) : OI C (K + 1) lv s o' :=
  ⟨e1.trans h.o1,e2.trans h.o2,e3.trans h.o3,e4.trans h.o4,by
    rw [e5]; intro z hz
    rcases (h2 z).1 hz with x | x
    · exact h.st z x
    · exact ⟨k,hk,x,hl⟩,by rw [e5]; have := h.sl; omega,by
    rw [e5]; intro i hi hli
    rcases h.nl i hi hli with x | x
    · exact .inl ((h2 _).2 (.inl x))
    · exact .inr x,by rw [e6]; exact h.lo,by rw [e6]; exact h.lr,by rw [e6]; exact h.ll⟩
structure Dp (C : MC) (K : Nat) (lv : LV) (s : ArrS) (m : MirS) (t : List Sec) (i : Nat) (o : OwnS) (m' : MirS) : Prop where
  x : o.X = some m'
  oi : OI C (K + i) lv s o
  mi : MI C s lv m'
  t : o.T = t
  sh : Sh C m m'
  dirty : m'.dirty = m.dirty
  copied : m'.copied = m.copied
  leg : ∀ j : Nat,j < C.L → stM m' j = 1 → (j : Int) ∈ (failedL m).drop i
  log : m'.logState = 1 → C.lg = true → (C.L : Int) ∈ (failedL m).drop i
  dn : ∀ j : Nat,j < C.L → (j : Int) ∈ (failedL m).take i → stM m' j = 2
  dnl : (C.L : Int) ∈ (failedL m).take i → m'.logState = 2
theorem odrop_l1 (hmi : MI C s lv m) (hex : ∃ j,j < C.L ∧ lv j = true) (hK : K ≤ 900000) (hlen : (failedL m).length ≤ 4) {T : List Sec} : ∀ (N i : Nat) (o : OwnS) (m' : MirS),(failedL m).length - i < N → i ≤ (failedL m).length → Dp C K lv s m T i o m' →
    ∃ o' m'',volumegroupmake_Owner_drop_l1 s (failedL m) N o i = some (.inl o') ∧ Dp C K lv s m T (failedL m).length o' m''
  | 0,_,_,_,h,_,_ => absurd h (by omega)
  | N + 1,i,o,m',h,hi,hp => by
    have hu : volumegroupmake_Owner_drop_l1 s (failedL m) (N + 1) o i = volumegroupmake_Owner_drop_l1_b s (failedL m) (volumegroupmake_Owner_drop_l1 s (failedL m) N) o i := rfl
    rw [hu]
    unfold volumegroupmake_Owner_drop_l1_b
    by_cases hlt : i < (failedL m).length
    · have hmem : (failedL m).getD i 0 ∈ failedL m := by simp [List.getD,hlt]
      have hdr : (failedL m).drop i = (failedL m).getD i 0 :: (failedL m).drop (i + 1) := by rw [List.drop_eq_getElem_cons hlt]; simp [List.getD,hlt]
      have htk : (failedL m).take (i + 1) = (failedL m).take i ++ [(failedL m).getD i 0] := getD_take_snoc hlt
      rw [if_pos (by omega)]
      -- which one
      have hwho : ∃ k : Nat,k ≤ C.L ∧ (failedL m).getD i 0 = (k : Int) ∧ lv k = false ∧ miss s k = true ∧ (k = C.L → C.lg = true) := by
        rcases mem_failedL.1 hmem with ⟨j,j1,j2,j3⟩ | ⟨j1,j2,j3⟩
        · rw [hmi.len] at j1
          rcases (hmi.leg j j1).2.2 with ⟨-,z, -⟩ | ⟨z1,z | ⟨z2, -⟩⟩
          · rw [j2] at z; cases z
          · rw [j2] at z; cases z
          · exact ⟨j,by omega,j3,z1,z2,fun e => by omega⟩
        · rw [hmi.len] at j3
          rcases hmi.log with ⟨-,z, -⟩ | ⟨z1,⟨-,z⟩ | ⟨z2,z3, -⟩⟩
          · rw [j2] at z; cases z
          · rw [j2] at z; cases z
          · exact ⟨C.L,Nat.le_refl _,j3,z1,z3,fun _ => z2⟩
      obtain ⟨k,k1,k2,k3,k4,k5⟩ := hwho
      rw [k2] at hdr htk ⊢
      rw [has_eq (by have := hp.oi.ll.2; rw [hp.oi.ll.1]; omega)]; simp only [Option.bind_some]
      rw [if_neg (by simpa using hp.oi.lo k k1 k4),hp.x]; simp only [Option.elim_some]
      obtain ⟨l',l1,l2,l3⟩ := add_eq (l := o.Stale) (n := (k : Int)) (by omega) (fun z hz => by obtain ⟨i, -,rfl, -⟩ := hp.oi.st z hz; omega) (by have := hp.oi.sl; omega)
      by_cases hkL : k = C.L
      · subst hkL
        obtain ⟨d1,d2⟩ := drop_log hp.mi (k5 rfl) k3
        rw [d1]; simp only [Option.bind_some]
        rw [if_neg (by simp),l1]; simp only [Option.bind_some]
        rw [grd_t (inN64_of (by omega))]
        refine odrop_l1 hmi hex hK hlen N (i + 1) _ { m' with log := none,logState := 2 } (by omega) (by omega) ⟨rfl,hp.oi.stale (Nat.le_refl _) k3 l2 l3 rfl rfl rfl rfl rfl rfl,d2,hp.t,⟨hp.sh.leg,fun _ => rfl⟩,hp.dirty,hp.copied,fun j hj hs => ?_,fun hs => (by cases hs),fun j hj hm => ?_,fun _ => rfl⟩
        · have := hp.leg j hj hs
          rw [hdr] at this
          rcases List.mem_cons.1 this with z | z
          · omega
          · exact z
        · rw [htk] at hm
          rcases List.mem_append.1 hm with z | z
          · exact hp.dn j hj z
          · have := List.mem_singleton.1 z; omega
      · have hkl : k < C.L := by omega
        obtain ⟨d1,d2⟩ := drop_leg hp.mi hex hkl k3
        rw [d1]; simp only [Option.bind_some]
        rw [if_neg (by simp),l1]; simp only [Option.bind_some]
        rw [grd_t (inN64_of (by omega))]
        have hkm : k < m'.legs.length := by rw [hp.mi.len]; exact hkl
        have hst : ∀ j,stM (dropM m' k) j = if j = k then 2 else stM m' j := fun j => by
          unfold stM; rw [dropM_at hkm]; split <;> rfl
        refine odrop_l1 hmi hex hK hlen N (i + 1) _ (dropM m' k) (by omega) (by omega) ⟨rfl,hp.oi.stale k1 k3 l2 l3 rfl rfl rfl rfl rfl rfl,d2,hp.t,⟨fun j hj hs => ?_,hp.sh.log⟩,hp.dirty,hp.copied,fun j hj hs => ?_,fun hs hlg => ?_,fun j hj hm => ?_,fun hm => ?_⟩
        · rw [hst]; split
          · rfl
          · exact hp.sh.leg j hj hs
        · rw [hst] at hs
          split at hs
          · cases hs
          · rename_i hne
            have := hp.leg j hj hs
            rw [hdr] at this
            rcases List.mem_cons.1 this with z | z
            · exact absurd (by omega) hne
            · exact z
        · have := hp.log hs hlg
          rw [hdr] at this
          rcases List.mem_cons.1 this with z | z
          · omega
          · exact z
        · rw [hst]
          rw [htk] at hm
          rcases List.mem_append.1 hm with z | z
          · split
            · rfl
            · exact hp.dn j hj z
          · have := List.mem_singleton.1 z
            rw [if_pos (by omega)]
        · rw [htk] at hm
          rcases List.mem_append.1 hm with z | z
          · exact hp.dnl z
          · have := List.mem_singleton.1 z; omega
    · rw [if_neg (by omega)]
      have : i = (failedL m).length := by omega
      subst this
      exact ⟨o,m',rfl,hp⟩
theorem failedL_le (h : MI C s lv m) : (failedL m).length ≤ 4 := by
  have h1 := @failsL_le m m.legs.length
  have h2 := C.hL
  have h3 := h.len
  unfold failedL
  rw [List.length_append]
  split
  · simp; omega
  · simp; omega
theorem odrop (hx : o.X = some m) (hoi : OI C K lv s o) (hmi : MI C s lv m) (hex : ∃ j,j < C.L ∧ lv j = true) (hnf : ¬ NF m) (hK : K ≤ 900000) :
    ∃ o' m',volumegroupmake_Owner_drop o s = some (true,o') ∧ o'.X = some m' ∧ OI C (K + 4) lv s o' ∧ MI C s lv m' ∧ NF m' ∧ gM C m' < gM C m ∧ o'.T = o.T ∧ m'.dirty = m.dirty ∧ m'.copied = m.copied := by
  have hF := fuel_big
  have hlen := failedL_le hmi
  unfold volumegroupmake_Owner_drop
  rw [hx]; simp only [Option.elim_some]
  rw [failed_eq hmi.l6]; simp only [Option.bind_some]
  obtain ⟨o',m',h1,h2⟩ := odrop_l1 (T := o.T) hmi hex hK hlen FUEL 0 { o with X := some m } m (by omega) (by omega)
    ⟨rfl,hoi.set rfl rfl rfl rfl rfl rfl,hmi,rfl,⟨fun _ _ h => h,id⟩,rfl,rfl,fun j hj hs => by rw [List.drop_zero]; exact mem_failedL.2 (.inl ⟨j,by rw [hmi.len]; exact hj,hs,rfl⟩),fun hs hlg => by rw [List.drop_zero]; exact mem_failedL.2 (.inr ⟨by rw [hmi.hasLog]; exact hlg,hs,by rw [hmi.len]⟩),fun j hj hm => by simp at hm,fun hm => by simp at hm⟩
  rw [h1,seqO_inl]
  have hne : failedL m ≠ [] := fun e => hnf (nf_iff.1 e)
  have hpos := List.length_pos_iff.2 hne
  rw [decide_eq_true (show (0 : Int) < (((failedL m).length : Nat) : Int) by omega)]
  refine ⟨o',m',rfl,h2.x,h2.oi.mono (by omega),h2.mi,⟨fun j hj hs => ?_,fun ⟨z1,z2⟩ => ?_⟩,h2.sh.lt ?_,h2.t,h2.dirty,h2.copied⟩
  · have := h2.leg j (by rw [← h2.mi.len]; exact hj) hs
    rw [List.drop_length] at this; cases this
  · have := h2.log z2 (by rw [← h2.mi.hasLog]; exact z1)
    rw [List.drop_length] at this; cases this
  · obtain ⟨k,hk⟩ := List.exists_mem_of_ne_nil _ hne
    rcases mem_failedL.1 hk with ⟨j,j1,j2,rfl⟩ | ⟨j1,j2,rfl⟩
    · rw [hmi.len] at j1
      exact .inl ⟨j,j1,by rw [j2]; decide,h2.dn j j1 (by rw [List.take_length]; exact hk)⟩
    · rw [hmi.len] at hk
      exact .inr ⟨by rw [j2]; decide,h2.dnl (by rw [List.take_length]; exact hk)⟩
end
end Go.Proofs
namespace Go.Proofs
open Go.VG
theorem secSet {t : List Sec} {i j : Nat} {y : Sec} (h : i < t.length) : (t.set i y).getD j s0 = if j = i then y else t.getD j s0 := by
  simp only [List.getD,List.getElem?_set]
  by_cases e : i = j
  · subst e; simp [h]
  · rw [if_neg e,if_neg (fun x => e x.symm)]
theorem secMap {t : List Sec} {g : Sec → Sec} {j : Nat} (h : j < t.length) : (t.map g).getD j s0 = g (t.getD j s0) := by
  simp only [List.getD,List.getElem?_map]; rw [List.getElem?_eq_getElem h]; rfl
theorem wroteT_at {t : List Sec} {a b : Nat} {v : UInt64} {q : Bool} (h : a < t.length) : (wroteT t (a : Int) v q).getD b s0 = if b = a then ⟨(t.getD a s0).some ++ [v],q,v⟩ else t.getD b s0 := by
  rw [wroteT_ok h,secSet h]
theorem wroteT_len {t : List Sec} {a : Nat} {v : UInt64} {q : Bool} (h : a < t.length) : (wroteT t (a : Int) v q).length = t.length := by rw [wroteT_ok h]; simp
theorem smallT_of {t : List Sec} {n : Nat} (h : ∀ a,a < n → (t.getD a s0).some.length ≤ 100000) (hl : t.length = n) : smallT t = true := by
  unfold smallT
  rw [List.all_eq_true]
  intro y hy
  obtain ⟨i,hi,rfl⟩ := List.getElem_of_mem hy
  have := h i (by omega)
  simp only [List.getD,List.getElem?_eq_getElem hi,Option.getD_some] at this
  rw [Nat.ble_eq]; omega
structure UP (C : MC) (K : Nat) (lv : LV) (s : ArrS) (o : OwnS) (m : MirS) (ex : Nat → Prop) : Prop where
  x : o.X = some m
  oi : OI C K lv s o
  di : DI C K s o.T lv
  mi : MI C s lv m
  kn : ∀ a,a < C.sz → ¬ ex a → (o.T.getD a s0).known = true ∧ ∀ j,j < C.L → lv j = true → now s j a = (o.T.getD a s0).value
  sm : ∀ a,a < C.sz → (o.T.getD a s0).some.length ≤ K + 1
  dn : s.down = false
structure DN (C : MC) (K : Nat) (lv : LV) (s : ArrS) (o : OwnS) : Prop where
  oi : OI C K lv s o
  di : DI C K s o.T lv
  sm : ∀ a,a < C.sz → (o.T.getD a s0).some.length ≤ K + 1
section
variable {C : MC} {K K' a i k : Nat} {s t u y : ArrS} {lv : LV} {m m' x : MirS} {w v : UInt64} {o : OwnS} {ex : Nat → Prop} {T : List Sec}
theorem DI.mono (h : DI C K s T lv) (hK : K ≤ K') : DI C K' s T lv := { h with ok := h.ok.mono hK }
theorem UP.mono (h : UP C K lv s o m ex) (hK : K ≤ K') : UP C K' lv s o m ex := { h with oi := h.oi.mono hK,di := h.di.mono hK,sm := fun a ha => Nat.le_trans (h.sm a ha) (by omega) }
theorem DN.mono (h : DN C K lv s o) (hK : K ≤ K') : DN C K' lv s o := { h with oi := h.oi.mono hK,di := h.di.mono hK,sm := fun a ha => Nat.le_trans (h.sm a ha) (by omega) }
theorem UP.small (h : UP C K lv s o m ex) (hK : K ≤ 90000) : smallT o.T = true := smallT_of (fun a ha => Nat.le_trans (h.sm a ha) (by omega)) h.di.tl
theorem UP.tl (h : UP C K lv s o m ex) (ha : a < C.sz) : a < o.T.length := by rw [h.di.tl]; exact ha
theorem UP.dropped (h : UP C K lv s o m ex) (hnf : ¬ NF m) (hK : K ≤ 80000) : ∃ o' m',volumegroupmake_Owner_drop o s = some (true,o') ∧ UP C (K + 4) lv s o' m' ex ∧ NF m' ∧ gM C m' < gM C m ∧ o'.T = o.T ∧ m'.dirty = m.dirty ∧ m'.copied = m.copied := by
  obtain ⟨o',m',h1,h2,h3,h4,h5,h6,h7,h8,h9⟩ := odrop h.x h.oi h.mi h.di.ex hnf (by omega)
  exact ⟨o',m',h1,⟨h2,h3,by rw [h7]; exact h.di.mono (by omega),h4,by rw [h7]; exact h.kn,by rw [h7]; exact fun a ha => Nat.le_trans (h.sm a ha) (by omega),h.dn⟩,h5,h6,h7,h8,h9⟩
theorem UP.fd (h : UP C K lv s o m ex) (hf : Fd s m m' 0) : UP C K lv s { o with X := some m' } m' ex :=
  ⟨rfl,h.oi.set rfl rfl rfl rfl rfl rfl,h.di,h.mi.fd hf,h.kn,h.sm,h.dn⟩
theorem oread_l1 (ha : a < C.sz) {q : Bool} : ∀ (N n : Nat) (K : Nat) (o : OwnS) (m : MirS) (w0 : UInt64) (e : Int),9 - n < N → n + gM C m ≤ 5 → K + 4 * gM C m ≤ 70000 → UP C K lv s o m (fun _ => False) → (e = 0 ∧ NF m ∧ w0 = (o.T.getD a s0).value ∨ e = 18 ∧ ¬ NF m) →
    ∃ o' m',volumegroupmake_Owner_Read_l1 (a : Int) N o s n w0 e = some (.inl ((o.T.getD a s0).value,0,o',s)) ∧ UP C (K + 4 * gM C m) lv s o' m' (fun _ => False) ∧ NF m' ∧ o'.T = o.T ∧ m'.dirty = m.dirty ∧ m'.copied = m.copied
  | 0,_,_,_,_,_,_,h,_,_,_,_ => absurd h (by omega)
  | N + 1,n,K,o,m,w0,e,h,hn,hK,hu,he => by
    have hun : volumegroupmake_Owner_Read_l1 (a : Int) (N + 1) o s n w0 e = volumegroupmake_Owner_Read_l1_b (a : Int) (volumegroupmake_Owner_Read_l1 (a : Int) N) o s n w0 e := rfl
    rw [hun]
    unfold volumegroupmake_Owner_Read_l1_b
    rcases he with ⟨rfl,h1,rfl⟩ | ⟨rfl,h1⟩
    · rw [if_neg (fun x => absurd x.2 (by decide))]
      exact ⟨o,m,rfl,hu.mono (by omega),h1,rfl,rfl,rfl⟩
    · rw [if_pos ⟨by omega,rfl⟩]
      obtain ⟨o',m',d1,d2,d3,d4,d5,d6,d7⟩ := hu.dropped h1 (by omega)
      rw [d1]; simp only [Option.bind_some]
      rw [if_neg (by simp),d2.x]; simp only [Option.elim_some]
      have hkn := (d2.kn a ha (fun x => x)).2
      obtain ⟨m2,f1,f2⟩ := read_u (w := (o'.T.getD a s0).value) d2.mi d3 d2.di.ok d2.dn ha d2.di.ex hkn
      have hg : gM C m2 = gM C m' := f1.mks.g d2.mi.len
      have hdi : m2.dirty = m'.dirty := by rw [f1.oth]
      have hco : m2.copied = m'.copied := by rw [f1.oth]
      rcases f2 with ⟨f2,f3⟩ | ⟨⟨w',f2⟩,f3⟩
      · rw [f2]; simp only [Option.bind_some]
        obtain ⟨o3,m3,g1,g2,g3,g4,g5,g6⟩ := oread_l1 ha (q := q) N (n + 1) (K + 4) _ m2 _ 0 (by omega) (by omega) (by omega) (d2.fd f1) (.inl ⟨rfl,f3,rfl⟩)
        rw [← d5]
        exact ⟨o3,m3,g1,g2.mono (by omega),g3,g4,g5.trans (hdi.trans d6),g6.trans (hco.trans d7)⟩
      · rw [f2]; simp only [Option.bind_some]
        obtain ⟨o3,m3,g1,g2,g3,g4,g5,g6⟩ := oread_l1 ha (q := q) N (n + 1) (K + 4) _ m2 w' 18 (by omega) (by omega) (by omega) (d2.fd f1) (.inr ⟨rfl,f3⟩)
        rw [← d5]
        exact ⟨o3,m3,g1,g2.mono (by omega),g3,g4,g5.trans (hdi.trans d6),g6.trans (hco.trans d7)⟩
theorem oread (hu : UP C K lv s o m (fun _ => False)) (hnf : NF m) (ha : a < C.sz) (hK : K ≤ 50000) {q : Bool} :
    ∃ o' m',volumegroupmake_Owner_Read o (a : Int) q s = some (0,true,o',s) ∧ UP C (K + 20) lv s o' m' (fun _ => False) ∧ NF m' ∧ o'.T = o.T ∧ m'.dirty = m.dirty ∧ m'.copied = m.copied := by
  have hF := fuel_big
  have hg4 := @gM_le C m
  unfold volumegroupmake_Owner_Read
  rw [hu.x]; simp only [Option.elim_some]
  obtain ⟨k1,k2⟩ := hu.kn a ha (fun x => x)
  obtain ⟨m2,f1,f2⟩ := read_u (w := (o.T.getD a s0).value) hu.mi hnf hu.di.ok hu.dn ha hu.di.ex k2
  have hg : gM C m2 = gM C m := f1.mks.g hu.mi.len
  have hdi : m2.dirty = m.dirty := by rw [f1.oth]
  have hco : m2.copied = m.copied := by rw [f1.oth]
  have fin : ∀ {w' : UInt64} {e : Int},(e = 0 ∧ NF m2 ∧ w' = (o.T.getD a s0).value ∨ e = 18 ∧ ¬ NF m2) → mirror_Mirror_Read m (a : Int) s = some (w',e,m2,s) →
      ∃ o' m',(Option.bind (mirror_Mirror_Read m (a : Int) s) fun r7 =>
        seqO (volumegroupmake_Owner_Read_l1 (a : Int) FUEL ({ o with X := (some r7.2.2.1) }) r7.2.2.2 0 r7.1 r7.2.1) fun a16 =>
        if (a16.2.1 = (5 : Int)) then
          some (a16.2.1,true,a16.2.2.1,a16.2.2.2)
        else
          if (a16.2.1 = (0 : Int)) then
            grd (decide (smallT a16.2.2.1.T = true)) <|
            some ((a16.2.1,(rdTR a16.2.2.1.T (a : Int) a16.1), { a16.2.2.1 with T := (rdTS a16.2.2.1.T (a : Int) a16.1 q) },a16.2.2.2))
          else
            some (a16.2.1,false,a16.2.2.1,a16.2.2.2)) = some (0,true,o',s) ∧ UP C (K + 20) lv s o' m' (fun _ => False) ∧ NF m' ∧ o'.T = o.T ∧ m'.dirty = m.dirty ∧ m'.copied = m.copied := by
    intro w' e h1 h2
    rw [h2]; simp only [Option.bind_some]
    obtain ⟨o3,m3,g1,g2,g3,g4,g5,g6⟩ := oread_l1 ha (q := q) FUEL 0 K _ m2 w' e (by omega) (by omega) (by omega) (hu.fd f1) h1
    have e1 : ({ o with X := some m2 } : OwnS).T = o.T := rfl
    rw [e1] at g1 g4
    rw [g1,seqO_inl]
    have hl : 0 ≤ (a : Int) ∧ (a : Int) < (o3.T.length : Int) := ⟨by omega,by have := g2.tl ha; omega⟩
    rw [if_neg (by simp),if_pos rfl,grd_t (decide_eq_true (g2.small (by omega)))]
    have e2 : rdTR o3.T (a : Int) (o.T.getD a s0).value = true := by
      unfold rdTR
      rw [if_pos hl,Int.toNat_natCast,g4,if_pos k1,decide_eq_true rfl]
    have e3 : rdTS o3.T (a : Int) (o.T.getD a s0).value q = o3.T := by
      unfold rdTS
      rw [if_pos hl,Int.toNat_natCast,g4,if_pos k1]
    rw [e2,e3]
    have e4 : ({ o3 with T := o3.T } : OwnS) = o3 := rfl
    rw [e4]
    exact ⟨o3,m3,rfl,g2.mono (by omega),g3,g4,g5.trans hdi,g6.trans hco⟩
  rcases f2 with ⟨f2,f3⟩ | ⟨⟨w',f2⟩,f3⟩
  · exact fin (.inl ⟨rfl,f3,rfl⟩) f2
  · exact fin (.inr ⟨rfl,f3⟩) f2
theorem wr_di {q : Bool} (h : DI C K s T lv) (hw : WrD C K' s lv a v t) (ha : a < C.sz) : DI C K' t (wroteT T (a : Int) v q) lv := by
  have hlt : a < T.length := by rw [h.tl]; exact ha
  refine ⟨hw.ok,by rw [wroteT_len hlt]; exact h.tl,h.ex,fun i hi hl => by rw [hw.miss]; exact h.miss i hi hl,h.lgl,fun b hb j hj hl c hc => ?_,fun hl c hc => hw.head c hc hl,fun hl r hr => ?_⟩
  · rw [wroteT_at hlt]
    rcases hw.cnd j hj hl b hb c hc with x | ⟨x1,x2⟩
    · have := h.cnd b hb j hj hl c x
      split
      · rename_i e; subst e; exact List.mem_append_left _ this
      · exact this
    · rw [if_pos x1,x2]; exact List.mem_append_right _ (List.mem_singleton.2 rfl)
  · rcases h.c hl r hr with x | ⟨f,x⟩
    · exact .inl (hw.set r hr hl x)
    · by_cases e : r = a / C.rg
      · rcases hw.reg hl with z | z
        · rw [e]; exact .inl z
        · exact .inr ⟨f,fun b hb hbr j hj hlj c hc => x b hb hbr j hj hlj c (by rw [z j hj hlj b hb] at hc; exact hc)⟩
      · refine .inr ⟨f,fun b hb hbr j hj hlj c hc => ?_⟩
        rcases hw.cnd j hj hlj b hb c hc with z | ⟨z, -⟩
        · exact x b hb hbr j hj hlj c z
        · exact absurd (by rw [← hbr,z]) e
theorem wr_sm {q : Bool} (h : ∀ b,b < C.sz → (T.getD b s0).some.length ≤ K + 1) (htl : T.length = C.sz) (ha : a < C.sz) : ∀ b,b < C.sz → ((wroteT T (a : Int) v q).getD b s0).some.length ≤ (K + 1) + 1 := fun b hb => by
  rw [wroteT_at (by rw [htl]; exact ha)]
  split
  · simp; exact h a ha
  · have := h b hb; omega
theorem owrite1 (hu : UP C K lv s o m ex) (hex : ∀ b,ex b → b = a) (hnf : NF m) (ha : a < C.sz) (hK : K ≤ 80000) :
    ∃ e m' s',mirror_Mirror_Write m (a : Int) v s = some (e,m',s') ∧
      (e = 0 ∧ NF m' ∧ UP C (K + 8) lv s' { o with X := some m',T := wroteT o.T (a : Int) v true } m' (fun _ => False) ∧ Mk m m' ∧ Wr C (K + 8) s lv a v s' ∨
       e = 18 ∧ ¬ NF m' ∧ UP C (K + 8) lv s' { o with X := some m',T := wroteT o.T (a : Int) v false } m' (fun b => b = a) ∧ Mk m m' ∧ Wr C (K + 8) s lv a v s' ∨
       e = 5 ∧ s.fuse ≠ 0 ∧ DN C (K + 8) lv s' { o with X := some m',T := wroteT o.T (a : Int) v false } ∧ WrD C (K + 8) s lv a v s') := by
  have hlt : a < o.T.length := hu.tl ha
  obtain ⟨e,m',s',h1,h2⟩ := write_eq (v := v) hu.mi hnf hu.di.ok hu.dn (by omega) ha
  refine ⟨e,m',s',h1,?_⟩
  have hoi : ∀ {q : Bool},WrD C (K + 8) s lv a v s' → OI C (K + 8) lv s' { o with X := some m',T := wroteT o.T (a : Int) v q } := fun {q} hw => by
    have h9 : OI C K lv s { o with X := some m',T := wroteT o.T (a : Int) v q } := hu.oi.set rfl rfl rfl rfl rfl rfl
    exact (h9.arr hw.miss).mono (by omega)
  have hsm : ∀ {q : Bool}, ∀ b,b < C.sz → ((wroteT o.T (a : Int) v q).getD b s0).some.length ≤ K + 8 + 1 := fun b hb => Nat.le_trans (wr_sm hu.sm hu.di.tl ha b hb) (by omega)
  have hoth : ∀ {q : Bool},Wr C (K + 8) s lv a v s' → ∀ b,b < C.sz → b ≠ a → ((wroteT o.T (a : Int) v q).getD b s0).known = true ∧ ∀ j,j < C.L → lv j = true → now s' j b = ((wroteT o.T (a : Int) v q).getD b s0).value := fun hw b hb hba => by
    rw [wroteT_at hlt,if_neg hba]
    obtain ⟨k1,k2⟩ := hu.kn b hb (fun x => hba (hex b x))
    exact ⟨k1,fun j hj hl => by rw [hw.now j hj hl b hb hba]; exact k2 j hj hl⟩
  rcases h2 with ⟨rfl,g1,g2,g3,g4,g5⟩ | ⟨rfl,g1,g2,g3,g4⟩ | ⟨rfl,g1,g2⟩
  · refine .inl ⟨rfl,g1,⟨rfl,hoi g4.toWrD,wr_di hu.di g4.toWrD ha,g2,fun b hb _ => ?_,hsm,g4.dn⟩,g3,g4⟩
    by_cases e : b = a
    · subst e
      show ((wroteT o.T (b : Int) v true).getD b s0).known = true ∧ ∀ j,j < C.L → lv j = true → now s' j b = ((wroteT o.T (b : Int) v true).getD b s0).value
      rw [wroteT_at hlt,if_pos rfl]
      exact ⟨rfl,g5⟩
    · exact hoth g4 b hb e
  · exact .inr (.inl ⟨rfl,g1,⟨rfl,hoi g4.toWrD,wr_di hu.di g4.toWrD ha,g2,fun b hb hba => hoth g4 b hb hba,hsm,g4.dn⟩,g3,g4⟩)
  · exact .inr (.inr ⟨rfl,g1,⟨hoi g2,wr_di hu.di g2 ha,hsm⟩,g2⟩)
end
end Go.Proofs
namespace Go.Proofs
open Go.VG
structure Ev (C : MC) (lv : LV) (s t : ArrS) (p : Nat → Prop) : Prop where
  miss : ∀ e,Go.Proofs.miss t e = Go.Proofs.miss s e
  dead : ∀ j,j < C.L → lv j = false → ∀ b,b < C.sz → now t j b = now s j b
  bit : lv C.L = true → ∀ c ∈ cand t C.L 1, ∀ r,r < C.R → tb c r = true → p r ∨ ∃ c' ∈ cand s C.L 1,tb c' r = true
section
variable {C : MC} {K K' a i k : Nat} {s t u y : ArrS} {lv : LV} {m m' x : MirS} {w v : UInt64} {o : OwnS} {ex p : Nat → Prop} {T : List Sec}
theorem Ev.refl : Ev C lv s s p := ⟨fun _ => rfl,fun _ _ _ _ _ => rfl,fun _ c hc _ _ hb => .inr ⟨c,hc,hb⟩⟩
theorem Ev.trans (h : Ev C lv s t p) (h' : Ev C lv t u p) : Ev C lv s u p :=
  ⟨fun e => (h'.miss e).trans (h.miss e),fun j hj hl b hb => (h'.dead j hj hl b hb).trans (h.dead j hj hl b hb),fun hl c hc r hr hb => by
    rcases h'.bit hl c hc r hr hb with x | ⟨c',x,x2⟩
    · exact .inl x
    · exact h.bit hl c' x r hr x2⟩
theorem WrD.ev (h : WrD C K s lv a v t) : Ev C lv s t (fun r => r = a / C.rg) := ⟨h.miss,h.dead,h.bit⟩
theorem FlD.ev (h : FlD C K s lv t) : Ev C lv s t p := ⟨h.miss,fun j hj _ b hb => h.now j b hj hb,fun hl c hc r hr hb => .inr (h.bit hl c hc r hr hb)⟩
theorem owrite_l1 (ha : a < C.sz) {s9 : ArrS} : ∀ (N n K : Nat) (o : OwnS) (m : MirS) (s : ArrS) (e : Int),9 - n < N → n + gM C m ≤ 5 → K + 16 * gM C m ≤ 70000 → o.X = some m → Ev C lv s9 s (fun r => r = a / C.rg) →
    (e = 0 ∧ NF m ∧ UP C K lv s { o with T := wroteT o.T (a : Int) v true } m (fun _ => False) ∧ (s9.fuse = 0 → s.fuse = 0) ∨ e = 18 ∧ ¬ NF m ∧ UP C K lv s { o with T := wroteT o.T (a : Int) v false } m (fun b => b = a) ∧ (s9.fuse = 0 → s.fuse = 0) ∨ e = 5 ∧ s9.fuse ≠ 0 ∧ DN C K lv s { o with T := wroteT o.T (a : Int) v false }) →
    ∃ e' o' m' s',volumegroupmake_Owner_Write_l1 (a : Int) v N o s e n = some (.inl (e',o',s')) ∧ Ev C lv s9 s' (fun r => r = a / C.rg) ∧
      (e' = 0 ∧ NF m' ∧ UP C (K + 16 * gM C m) lv s' { o' with T := wroteT o'.T (a : Int) v true } m' (fun _ => False) ∧ (s9.fuse = 0 → s'.fuse = 0) ∧ m'.dirty = m.dirty ∧ m'.copied = m.copied ∨ e' = 5 ∧ s9.fuse ≠ 0 ∧ DN C (K + 16 * gM C m) lv s' { o' with T := wroteT o'.T (a : Int) v false })
  | 0,_,_,_,_,_,_,h,_,_,_,_,_ => absurd h (by omega)
  | N + 1,n,K,o,m,s,e,h,hn,hK,hX,hev,he => by
    have hun : volumegroupmake_Owner_Write_l1 (a : Int) v (N + 1) o s e n = volumegroupmake_Owner_Write_l1_b (a : Int) v (volumegroupmake_Owner_Write_l1 (a : Int) v N) o s e n := rfl
    rw [hun]
    unfold volumegroupmake_Owner_Write_l1_b
    rcases he with ⟨rfl,h1,h2,h3⟩ | ⟨rfl,h1,h2,h3⟩ | ⟨rfl,h1,h2⟩
    · rw [if_neg (fun x => absurd x.2 (by decide))]
      exact ⟨0,o,m,s,rfl,hev,.inl ⟨rfl,h1,h2.mono (by omega),h3,rfl,rfl⟩⟩
    · rw [if_pos ⟨by omega,rfl⟩]
      have hsm : smallT o.T = true := by
        have hlen : o.T.length = C.sz := by
          have h9 := h2.di.tl
          have h8 : (wroteT o.T (a : Int) v false).length = C.sz := h9
          unfold wroteT at h8
          split at h8
          · simpa using h8
          · exact h8
        refine smallT_of (fun b hb => ?_) hlen
        have h9 := h2.sm b hb
        have h8 : ((wroteT o.T (a : Int) v false).getD b s0).some.length ≤ K + 1 := h9
        rw [wroteT_at (by rw [hlen]; exact ha)] at h8
        split at h8
        · rename_i e; subst e
          have h6 : ((o.T.getD b s0).some ++ [v]).length ≤ K + 1 := h8
          rw [List.length_append] at h6; omega
        · omega
      rw [grd_t (decide_eq_true hsm)]
      obtain ⟨o',m',d1,d2,d3,d4,d5,d6,d7⟩ := h2.dropped h1 (by omega)
      rw [d1]; simp only [Option.bind_some]
      rw [if_neg (by simp),d2.x]; simp only [Option.elim_some]
      obtain ⟨e,m2,s2,w1,w2⟩ := owrite1 (v := v) d2 (fun b hb => hb) d3 ha (by omega)
      rw [w1]; simp only [Option.bind_some]
      rcases w2 with ⟨rfl,g1,g2,g3,g4⟩ | ⟨rfl,g1,g2,g3,g4⟩ | ⟨rfl,g1,g2,g3⟩
      · have hg : gM C m2 = gM C m' := g3.g d2.mi.len
        obtain ⟨e',o3,m3,s3,q1,q2,q3⟩ := owrite_l1 ha (s9 := s9) N (n + 1) (K + 4 + 8) { o' with X := some m2 } m2 s2 0 (by omega) (by omega) (by omega) rfl (hev.trans g4.toWrD.ev) (.inl ⟨rfl,g1,g2,fun hf => g4.fz (h3 hf)⟩)
        refine ⟨e',o3,m3,s3,q1,q2,?_⟩
        rcases q3 with ⟨q3,q4,q5,q6,q7,q8⟩ | ⟨q3,q4,q5⟩
        · exact .inl ⟨q3,q4,q5.mono (by omega),q6,q7.trans (g3.dirty.trans d6),q8.trans (g3.copied.trans d7)⟩
        · exact .inr ⟨q3,q4,q5.mono (by omega)⟩
      · have hg : gM C m2 = gM C m' := g3.g d2.mi.len
        obtain ⟨e',o3,m3,s3,q1,q2,q3⟩ := owrite_l1 ha (s9 := s9) N (n + 1) (K + 4 + 8) { o' with X := some m2 } m2 s2 18 (by omega) (by omega) (by omega) rfl (hev.trans g4.toWrD.ev) (.inr (.inl ⟨rfl,g1,g2,fun hf => g4.fz (h3 hf)⟩))
        refine ⟨e',o3,m3,s3,q1,q2,?_⟩
        rcases q3 with ⟨q3,q4,q5,q6,q7,q8⟩ | ⟨q3,q4,q5⟩
        · exact .inl ⟨q3,q4,q5.mono (by omega),q6,q7.trans (g3.dirty.trans d6),q8.trans (g3.copied.trans d7)⟩
        · exact .inr ⟨q3,q4,q5.mono (by omega)⟩
      · have hN : ∃ N',N = N' + 1 := ⟨N - 1,by omega⟩
        obtain ⟨N',rfl⟩ := hN
        have hun2 : volumegroupmake_Owner_Write_l1 (a : Int) v (N' + 1) { o' with X := some m2 } s2 5 (n + 1) = volumegroupmake_Owner_Write_l1_b (a : Int) v (volumegroupmake_Owner_Write_l1 (a : Int) v N') { o' with X := some m2 } s2 5 (n + 1) := rfl
        rw [hun2]
        unfold volumegroupmake_Owner_Write_l1_b
        rw [if_neg (fun x => absurd x.2 (by decide))]
        exact ⟨5,_,m2,s2,rfl,hev.trans g3.ev,.inr ⟨rfl,fun hf => g1 (h3 hf),g2.mono (by omega)⟩⟩
    · rw [if_neg (fun x => absurd x.2 (by decide))]
      exact ⟨5,o,m,s,rfl,hev,.inr ⟨rfl,h1,h2.mono (by omega)⟩⟩
theorem owrite (hu : UP C K lv s o m (fun _ => False)) (hnf : NF m) (ha : a < C.sz) (hK : K ≤ 50000) :
    ∃ e o' s',volumegroupmake_Owner_Write o (a : Int) v s = some (e,true,o',s') ∧ Ev C lv s s' (fun r => r = a / C.rg) ∧
      (e = 0 ∧ (s.fuse = 0 → s'.fuse = 0) ∧ (∃ m',UP C (K + 80) lv s' o' m' (fun _ => False) ∧ NF m' ∧ m'.dirty = m.dirty ∧ m'.copied = m.copied) ∨ e = 5 ∧ s.fuse ≠ 0 ∧ DN C (K + 80) lv s' o') := by
  have hF := fuel_big
  have hg4 := @gM_le C m
  unfold volumegroupmake_Owner_Write
  rw [hu.x]; simp only [Option.elim_some]
  obtain ⟨e,m2,s2,w1,w2⟩ := owrite1 (v := v) hu (fun b hb => hb.elim) hnf ha (by omega)
  rw [w1]; simp only [Option.bind_some]
  have fin : ∀ {e : Int},(Ev C lv s s2 (fun r => r = a / C.rg)) → gM C m2 ≤ 4 → (e ≠ 5 → m2.dirty = m.dirty ∧ m2.copied = m.copied) →
      (e = 0 ∧ NF m2 ∧ UP C (K + 8) lv s2 { o with X := some m2,T := wroteT o.T (a : Int) v true } m2 (fun _ => False) ∧ (s.fuse = 0 → s2.fuse = 0) ∨ e = 18 ∧ ¬ NF m2 ∧ UP C (K + 8) lv s2 { o with X := some m2,T := wroteT o.T (a : Int) v false } m2 (fun b => b = a) ∧ (s.fuse = 0 → s2.fuse = 0) ∨ e = 5 ∧ s.fuse ≠ 0 ∧ DN C (K + 8) lv s2 { o with X := some m2,T := wroteT o.T (a : Int) v false }) →
      ∃ e' o' s',(seqO (volumegroupmake_Owner_Write_l1 (a : Int) v FUEL ({ o with X := (some m2) }) s2 e 0) fun a15 =>
        grd (decide (smallT a15.2.1.T = true)) <|
        some ((a15.1,((decide (a15.1 = (0 : Int))) || (decide (a15.1 = (5 : Int)))), { a15.2.1 with T := (wroteT a15.2.1.T (a : Int) v ((decide (a15.1 = (0 : Int))))) },a15.2.2))) = some (e',true,o',s') ∧ Ev C lv s s' (fun r => r = a / C.rg) ∧
      (e' = 0 ∧ (s.fuse = 0 → s'.fuse = 0) ∧ (∃ m',UP C (K + 80) lv s' o' m' (fun _ => False) ∧ NF m' ∧ m'.dirty = m.dirty ∧ m'.copied = m.copied) ∨ e' = 5 ∧ s.fuse ≠ 0 ∧ DN C (K + 80) lv s' o') := by
    intro e hev hg hdm hc
    obtain ⟨e',o3,m3,s3,q1,q2,q3⟩ := owrite_l1 ha (s9 := s) FUEL 0 (K + 8) { o with X := some m2 } m2 s2 e (by omega) (by omega) (by omega) rfl hev hc
    rw [q1,seqO_inl]
    have hsm : ∀ {q : Bool},(wroteT o3.T (a : Int) v q).length = C.sz → (∀ b,b < C.sz → ((wroteT o3.T (a : Int) v q).getD b s0).some.length ≤ K + 8 + 16 * gM C m2 + 1) → smallT o3.T = true := fun {q} h8 h9 => by
      have hlen : o3.T.length = C.sz := by
        unfold wroteT at h8
        split at h8
        · simpa using h8
        · exact h8
      refine smallT_of (fun b hb => ?_) hlen
      have h7 := h9 b hb
      rw [wroteT_at (by rw [hlen]; exact ha)] at h7
      split at h7
      · rename_i e; subst e
        have h6 : ((o3.T.getD b s0).some ++ [v]).length ≤ K + 8 + 16 * gM C m2 + 1 := h7
        rw [List.length_append] at h6; omega
      · omega
    rcases q3 with ⟨rfl,q4,q5,q6,q7,q8⟩ | ⟨rfl,q4,q5⟩
    · rw [grd_t (decide_eq_true (hsm q5.di.tl q5.sm))]
      by_cases he5 : e = 5
      · rcases hc with ⟨z, -⟩ | ⟨z, -⟩ | ⟨-,z1,z2⟩
        · rw [he5] at z; cases z
        · rw [he5] at z; cases z
        · subst he5
          obtain ⟨N',hN⟩ : ∃ N',FUEL = N' + 1 := ⟨FUEL - 1,by omega⟩
          rw [hN] at q1
          have hun2 : volumegroupmake_Owner_Write_l1 (a : Int) v (N' + 1) { o with X := some m2 } s2 5 0 = volumegroupmake_Owner_Write_l1_b (a : Int) v (volumegroupmake_Owner_Write_l1 (a : Int) v N') { o with X := some m2 } s2 5 0 := rfl
          rw [hun2] at q1
          unfold volumegroupmake_Owner_Write_l1_b at q1
          rw [if_neg (fun x => absurd x.2 (by decide))] at q1
          simp at q1
      · obtain ⟨hd1,hd2⟩ := hdm he5
        exact ⟨_,_,_,rfl,q2,.inl ⟨rfl,q6,m3,q5.mono (by omega),q4,q7.trans hd1,q8.trans hd2⟩⟩
    · rw [grd_t (decide_eq_true (hsm q5.di.tl q5.sm))]
      exact ⟨_,_,_,rfl,q2,.inr ⟨rfl,q4,q5.mono (by omega)⟩⟩
  rcases w2 with ⟨rfl,g1,g2,g3,g4⟩ | ⟨rfl,g1,g2,g3,g4⟩ | ⟨rfl,g1,g2,g3⟩
  · exact fin g4.toWrD.ev gM_le (fun _ => ⟨g3.dirty,g3.copied⟩) (.inl ⟨rfl,g1,g2,g4.fz⟩)
  · exact fin g4.toWrD.ev gM_le (fun _ => ⟨g3.dirty,g3.copied⟩) (.inr (.inl ⟨rfl,g1,g2,g4.fz⟩))
  · exact fin g3.ev gM_le (fun x => absurd rfl x) (.inr (.inr ⟨rfl,g1,g2⟩))
end
end Go.Proofs
namespace Go.Proofs
open Go.VG
section
variable {C : MC} {K K' a i k : Nat} {s t u y : ArrS} {lv : LV} {m m' x : MirS} {w v : UInt64} {o : OwnS} {ex p : Nat → Prop} {T : List Sec}
theorem fl_di (h : DI C K s T lv) (hk : ∀ a,a < C.sz → ∀ j,j < C.L → lv j = true → now s j a = (T.getD a s0).value) (hf : FlD C K' s lv t) : DI C K' t T lv := by
  refine ⟨hf.ok,h.tl,h.ex,fun i hi hl => by rw [hf.miss]; exact h.miss i hi hl,h.lgl,fun b hb j hj hl c hc => h.cnd b hb j hj hl c (hf.sub j hj hl b hb c hc),hf.head,fun hl r hr => ?_⟩
  rcases hf.c hl with z | z
  · rcases h.c hl r hr with x | ⟨f,x⟩
    · exact .inl (z r hr x)
    · exact .inr ⟨f,fun b hb hbr j hj hlj c hc => x b hb hbr j hj hlj c (hf.sub j hj hlj b hb c hc)⟩
  · refine .inr ⟨fun b => (T.getD b s0).value,fun b hb _ j hj hlj c hc => ?_⟩
    rw [z j hj hlj b hb,List.mem_singleton] at hc
    rw [hc]; exact hk b hb j hj hlj
theorem flT_at (htl : T.length = C.sz) (ha : a < C.sz) : (flushedT T).getD a s0 = flushX (T.getD a s0) := by
  unfold flushedT; exact secMap (by omega)
theorem fl_di2 (h : DI C K t T lv) (hk : ∀ a,a < C.sz → (T.getD a s0).known = true ∧ ∀ j,j < C.L → lv j = true → now t j a = (T.getD a s0).value) (hc1 : ∀ j,j < C.L → lv j = true → ∀ b,b < C.sz → cand t j b = [now t j b]) : DI C K t (flushedT T) lv := by
  refine ⟨h.ok,by unfold flushedT; simp; exact h.tl,h.ex,h.miss,h.lgl,fun b hb j hj hl c hc => ?_,h.head,h.c⟩
  rw [flT_at h.tl hb]
  obtain ⟨k1,k2⟩ := hk b hb
  unfold flushX
  rw [if_pos k1]
  rw [hc1 j hj hl b hb,List.mem_singleton] at hc
  rw [hc,k2 j hj hl]; exact List.mem_singleton.2 rfl
theorem oflush1 (hu : UP C K lv s o m (fun _ => False)) (hnf : NF m) (hK : K ≤ 80000) :
    ∃ e m' s',mirror_Mirror_Flush m s = some (e,m',s') ∧ Ev C lv s s' p ∧
      (e = 0 ∧ NF m' ∧ UP C (K + 12) lv s' { o with X := some m' } m' (fun _ => False) ∧ Mk m m' ∧ (s.fuse = 0 → s'.fuse = 0) ∧ (∀ j,j < C.L → lv j = true → ∀ b,b < C.sz → cand s' j b = [now s' j b]) ∨
       e = 18 ∧ ¬ NF m' ∧ UP C (K + 12) lv s' { o with X := some m' } m' (fun _ => False) ∧ Mk m m' ∧ (s.fuse = 0 → s'.fuse = 0) ∨
       e = 5 ∧ s.fuse ≠ 0 ∧ DN C (K + 12) lv s' { o with X := some m' }) := by
  obtain ⟨e,m',s',h1,h2⟩ := flush_eq hu.mi hnf hu.di.ok hu.dn (by omega)
  have hk : ∀ a,a < C.sz → ∀ j,j < C.L → lv j = true → now s j a = (o.T.getD a s0).value := fun a ha => (hu.kn a ha (fun x => x)).2
  have hoi : FlD C (K + 12) s lv s' → OI C (K + 12) lv s' { o with X := some m' } := fun hf => by
    have h9 : OI C K lv s { o with X := some m' } := hu.oi.set rfl rfl rfl rfl rfl rfl
    exact (h9.arr hf.miss).mono (by omega)
  have hsm : ∀ a,a < C.sz → (o.T.getD a s0).some.length ≤ K + 12 + 1 := fun a ha => Nat.le_trans (hu.sm a ha) (by omega)
  have hkn : FlD C (K + 12) s lv s' → ∀ a,a < C.sz → ¬ False → (o.T.getD a s0).known = true ∧ ∀ j,j < C.L → lv j = true → now s' j a = (o.T.getD a s0).value := fun hf a ha _ => by
    obtain ⟨k1,k2⟩ := hu.kn a ha (fun x => x)
    exact ⟨k1,fun j hj hl => by rw [hf.now j a hj ha]; exact k2 j hj hl⟩
  rcases h2 with ⟨rfl,g1,g2,g3,g4,g5⟩ | ⟨rfl,g1,g2,g3,g4⟩ | ⟨rfl,g1,g2⟩
  · exact ⟨_,m',s',h1,g4.toFlD.ev,.inl ⟨rfl,g1,⟨rfl,hoi g4.toFlD,fl_di hu.di hk g4.toFlD,g2,hkn g4.toFlD,hsm,g4.dn⟩,g3,g4.fz,fun j hj hl b hb => by rw [g5 j hj hl b hb,g4.now j b hj hb]⟩⟩
  · exact ⟨_,m',s',h1,g4.toFlD.ev,.inr (.inl ⟨rfl,g1,⟨rfl,hoi g4.toFlD,fl_di hu.di hk g4.toFlD,g2,hkn g4.toFlD,hsm,g4.dn⟩,g3,g4.fz⟩)⟩
  · exact ⟨_,m',s',h1,g2.ev,.inr (.inr ⟨rfl,g1,⟨hoi g2,fl_di hu.di hk g2,hsm⟩⟩)⟩
theorem oflush_l1 {s9 : ArrS} : ∀ (N n K : Nat) (o : OwnS) (m : MirS) (s : ArrS) (e : Int),9 - n < N → n + gM C m ≤ 5 → K + 16 * gM C m ≤ 70000 → Ev C lv s9 s p →
    (e = 0 ∧ NF m ∧ UP C K lv s o m (fun _ => False) ∧ (s9.fuse = 0 → s.fuse = 0) ∧ (∀ j,j < C.L → lv j = true → ∀ b,b < C.sz → cand s j b = [now s j b]) ∨ e = 18 ∧ ¬ NF m ∧ UP C K lv s o m (fun _ => False) ∧ (s9.fuse = 0 → s.fuse = 0) ∨ e = 5 ∧ s9.fuse ≠ 0 ∧ DN C K lv s o) →
    ∃ e' o' m' s',volumegroupmake_Owner_Flush_l1 N o s e n = some (.inl (e',o',s')) ∧ Ev C lv s9 s' p ∧ (e' = 0 ∧ e ≠ 5 ∨ e' = 5) ∧
      (e' = 0 ∧ NF m' ∧ UP C (K + 16 * gM C m) lv s' o' m' (fun _ => False) ∧ (s9.fuse = 0 → s'.fuse = 0) ∧ (∀ j,j < C.L → lv j = true → ∀ b,b < C.sz → cand s' j b = [now s' j b]) ∧ m'.dirty = m.dirty ∧ m'.copied = m.copied ∧ o'.T = o.T ∨ e' = 5 ∧ s9.fuse ≠ 0 ∧ DN C (K + 16 * gM C m) lv s' o')
  | 0,_,_,_,_,_,_,h,_,_,_,_ => absurd h (by omega)
  | N + 1,n,K,o,m,s,e,h,hn,hK,hev,he => by
    have hun : volumegroupmake_Owner_Flush_l1 (N + 1) o s e n = volumegroupmake_Owner_Flush_l1_b (volumegroupmake_Owner_Flush_l1 N) o s e n := rfl
    rw [hun]
    unfold volumegroupmake_Owner_Flush_l1_b
    rcases he with ⟨rfl,h1,h2,h3,h4⟩ | ⟨rfl,h1,h2,h3⟩ | ⟨rfl,h1,h2⟩
    · rw [if_neg (fun x => absurd x.2 (by decide))]
      exact ⟨0,o,m,s,rfl,hev,.inl ⟨rfl,by decide⟩,.inl ⟨rfl,h1,h2.mono (by omega),h3,h4,rfl,rfl,rfl⟩⟩
    · rw [if_pos ⟨by omega,rfl⟩]
      obtain ⟨o',m',d1,d2,d3,d4,d5,d6,d7⟩ := h2.dropped h1 (by omega)
      rw [d1]; simp only [Option.bind_some]
      rw [if_neg (by simp),d2.x]; simp only [Option.elim_some]
      obtain ⟨e,m2,s2,w1,w0,w2⟩ := oflush1 (p := p) d2 d3 (by omega)
      rw [w1]; simp only [Option.bind_some]
      rcases w2 with ⟨rfl,g1,g2,g3,g4,g5⟩ | ⟨rfl,g1,g2,g3,g4⟩ | ⟨rfl,g1,g2⟩
      · have hg : gM C m2 = gM C m' := g3.g d2.mi.len
        obtain ⟨e',o3,m3,s3,q1,q2,q0,q3⟩ := oflush_l1 (s9 := s9) N (n + 1) (K + 4 + 12) { o' with X := some m2 } m2 s2 0 (by omega) (by omega) (by omega) (hev.trans w0) (.inl ⟨rfl,g1,g2,fun hf => g4 (h3 hf),g5⟩)
        refine ⟨e',o3,m3,s3,q1,q2,q0.imp (fun z => ⟨z.1,by decide⟩) id,?_⟩
        rcases q3 with ⟨q3,q4,q5,q6,q7,q8,q9,q10⟩ | ⟨q3,q4,q5⟩
        · exact .inl ⟨q3,q4,q5.mono (by omega),q6,q7,q8.trans (g3.dirty.trans d6),q9.trans (g3.copied.trans d7),q10.trans d5⟩
        · exact .inr ⟨q3,q4,q5.mono (by omega)⟩
      · have hg : gM C m2 = gM C m' := g3.g d2.mi.len
        obtain ⟨e',o3,m3,s3,q1,q2,q0,q3⟩ := oflush_l1 (s9 := s9) N (n + 1) (K + 4 + 12) { o' with X := some m2 } m2 s2 18 (by omega) (by omega) (by omega) (hev.trans w0) (.inr (.inl ⟨rfl,g1,g2,fun hf => g4 (h3 hf)⟩))
        refine ⟨e',o3,m3,s3,q1,q2,q0.imp (fun z => ⟨z.1,by decide⟩) id,?_⟩
        rcases q3 with ⟨q3,q4,q5,q6,q7,q8,q9,q10⟩ | ⟨q3,q4,q5⟩
        · exact .inl ⟨q3,q4,q5.mono (by omega),q6,q7,q8.trans (g3.dirty.trans d6),q9.trans (g3.copied.trans d7),q10.trans d5⟩
        · exact .inr ⟨q3,q4,q5.mono (by omega)⟩
      · have hN : ∃ N',N = N' + 1 := ⟨N - 1,by omega⟩
        obtain ⟨N',rfl⟩ := hN
        have hun2 : volumegroupmake_Owner_Flush_l1 (N' + 1) { o' with X := some m2 } s2 5 (n + 1) = volumegroupmake_Owner_Flush_l1_b (volumegroupmake_Owner_Flush_l1 N') { o' with X := some m2 } s2 5 (n + 1) := rfl
        rw [hun2]
        unfold volumegroupmake_Owner_Flush_l1_b
        rw [if_neg (fun x => absurd x.2 (by decide))]
        exact ⟨5,_,m2,s2,rfl,hev.trans w0,.inr rfl,.inr ⟨rfl,fun hf => g1 (h3 hf),g2.mono (by omega)⟩⟩
    · rw [if_neg (fun x => absurd x.2 (by decide))]
      exact ⟨5,o,m,s,rfl,hev,.inr rfl,.inr ⟨rfl,h1,h2.mono (by omega)⟩⟩
theorem oflush (hu : UP C K lv s o m (fun _ => False)) (hnf : NF m) (hK : K ≤ 50000) :
    ∃ e o' s',volumegroupmake_Owner_Flush o s = some (e,true,o',s') ∧ Ev C lv s s' p ∧
      (e = 0 ∧ (s.fuse = 0 → s'.fuse = 0) ∧ (∃ m',UP C (K + 80) lv s' o' m' (fun _ => False) ∧ NF m' ∧ m'.dirty = m.dirty ∧ m'.copied = m.copied) ∧ (∀ j,j < C.L → lv j = true → ∀ b,b < C.sz → cand s' j b = [now s' j b]) ∨ e = 5 ∧ s.fuse ≠ 0 ∧ DN C (K + 80) lv s' o') := by
  have hF := fuel_big
  unfold volumegroupmake_Owner_Flush
  rw [hu.x]; simp only [Option.elim_some]
  obtain ⟨e,m2,s2,w1,w0,w2⟩ := oflush1 (p := p) hu hnf (by omega)
  rw [w1]; simp only [Option.bind_some]
  have hg4 := @gM_le C m2
  have hdm : e ≠ 5 → m2.dirty = m.dirty ∧ m2.copied = m.copied := fun he => by
    rcases w2 with ⟨-, -, -,g3, -⟩ | ⟨-, -, -,g3, -⟩ | ⟨g, -⟩
    · exact ⟨g3.dirty,g3.copied⟩
    · exact ⟨g3.dirty,g3.copied⟩
    · exact absurd g he
  have hc : (e = 0 ∧ NF m2 ∧ UP C (K + 12) lv s2 { o with X := some m2 } m2 (fun _ => False) ∧ (s.fuse = 0 → s2.fuse = 0) ∧ (∀ j,j < C.L → lv j = true → ∀ b,b < C.sz → cand s2 j b = [now s2 j b]) ∨ e = 18 ∧ ¬ NF m2 ∧ UP C (K + 12) lv s2 { o with X := some m2 } m2 (fun _ => False) ∧ (s.fuse = 0 → s2.fuse = 0) ∨ e = 5 ∧ s.fuse ≠ 0 ∧ DN C (K + 12) lv s2 { o with X := some m2 }) := by
    rcases w2 with ⟨g0,g1,g2,g3,g4,g5⟩ | ⟨g0,g1,g2,g3,g4⟩ | ⟨g0,g1,g2⟩
    · exact .inl ⟨g0,g1,g2,g4,g5⟩
    · exact .inr (.inl ⟨g0,g1,g2,g4⟩)
    · exact .inr (.inr ⟨g0,g1,g2⟩)
  obtain ⟨e',o3,m3,s3,q1,q2,q0,q3⟩ := oflush_l1 (s9 := s) (p := p) FUEL 0 (K + 12) { o with X := some m2 } m2 s2 e (by omega) (by omega) (by omega) w0 hc
  rw [q1,seqO_inl]
  rcases q3 with ⟨rfl,q4,q5,q6,q7,q8,q9,q10⟩ | ⟨rfl,q4,q5⟩
  · rw [if_pos (by simp)]
    have he5 : e ≠ 5 := by
      rcases q0 with z | z
      · exact z.2
      · cases z
    obtain ⟨hd1,hd2⟩ := hdm he5
    have hkn : ∀ a,a < C.sz → (o3.T.getD a s0).known = true ∧ ∀ j,j < C.L → lv j = true → now s3 j a = (o3.T.getD a s0).value := fun a ha => q5.kn a ha (fun x => x)
    refine ⟨_,_,_,rfl,q2,.inl ⟨rfl,q6,⟨m3,⟨q5.x,?_,(fl_di2 q5.di hkn q7).mono (by omega),q5.mi,fun a ha _ => ?_,fun a ha => ?_,q5.dn⟩,q4,q8.trans hd1,q9.trans hd2⟩,q7⟩⟩
    · have h9 : OI C (K + 12 + 16 * gM C m2) lv s3 { o3 with T := flushedT o3.T } := q5.oi.set rfl rfl rfl rfl rfl rfl
      exact h9.mono (by omega)
    · show ((flushedT o3.T).getD a s0).known = true ∧ ∀ j,j < C.L → lv j = true → now s3 j a = ((flushedT o3.T).getD a s0).value
      rw [flT_at q5.di.tl ha]
      obtain ⟨k1,k2⟩ := hkn a ha
      unfold flushX
      rw [if_pos k1]
      exact ⟨k1,k2⟩
    · show ((flushedT o3.T).getD a s0).some.length ≤ _
      rw [flT_at q5.di.tl ha]
      unfold flushX
      rw [if_pos (hkn a ha).1]
      simp
  · rw [if_neg (by simp)]
    exact ⟨_,_,_,rfl,q2,.inr ⟨rfl,q4,q5.mono (by omega)⟩⟩
end
end Go.Proofs
namespace Go.Proofs
open Go.VG
structure SP (C : MC) (K : Nat) (lv : LV) (s : ArrS) (o : OwnS) (m : MirS) (i : Nat) : Prop where
  x : o.X = some m
  oi : OI C K lv s o
  di : DI C K s o.T lv
  mi : MI C s lv m
  sm : ∀ a,a < C.sz → (o.T.getD a s0).some.length ≤ K + 1
  dn : s.down = false
  fz : s.fuse = 0
  one : ∀ j,j < C.L → lv j = true → ∀ b,b < C.sz → cand s j b = [now s j b]
  kn : ∀ a,a < C.sz → a < i → (o.T.getD a s0).known = true ∧ ∀ j,j < C.L → lv j = true → now s j a = (o.T.getD a s0).value
  un : ∀ a,a < C.sz → i ≤ a → (o.T.getD a s0).known = false ∧ (m.dirty.getD (a / C.rg) false = false → ∀ j k,j < C.L → lv j = true → k < C.L → lv k = true → now s j a = now s k a)
section
variable {C : MC} {K K' a i k : Nat} {s t u y : ArrS} {lv : LV} {m m' x : MirS} {w v : UInt64} {o : OwnS} {ex p : Nat → Prop} {T : List Sec}
theorem SP.mono (h : SP C K lv s o m i) (hK : K ≤ K') : SP C K' lv s o m i := { h with oi := h.oi.mono hK,di := h.di.mono hK,sm := fun a ha => Nat.le_trans (h.sm a ha) (by omega) }
theorem SP.up (h : SP C K lv s o m C.sz) : UP C K lv s o m (fun _ => False) := ⟨h.x,h.oi,h.di,h.mi,fun a ha _ => h.kn a ha ha,h.sm,h.dn⟩
theorem SP.dropped (h : SP C K lv s o m i) (hnf : ¬ NF m) (hK : K ≤ 80000) : ∃ o' m',volumegroupmake_Owner_drop o s = some (true,o') ∧ SP C (K + 4) lv s o' m' i ∧ NF m' ∧ gM C m' < gM C m ∧ o'.T = o.T ∧ m'.copied = m.copied := by
  obtain ⟨o',m',h1,h2,h3,h4,h5,h6,h7,h8,h9⟩ := odrop h.x h.oi h.mi h.di.ex hnf (by omega)
  exact ⟨o',m',h1,⟨h2,h3,by rw [h7]; exact h.di.mono (by omega),h4,by rw [h7]; exact fun a ha => Nat.le_trans (h.sm a ha) (by omega),h.dn,h.fz,h.one,by rw [h7]; exact h.kn,by rw [h7,h8]; exact h.un⟩,h5,h6,h7,h9⟩
theorem SP.fd (h : SP C K lv s o m i) (hf : Fd s m m' 0) : SP C K lv s { o with X := some m' } m' i := by
  have e : m'.dirty = m.dirty := by rw [hf.oth]
  exact ⟨rfl,h.oi.set rfl rfl rfl rfl rfl rfl,h.di,h.mi.fd hf,h.sm,h.dn,h.fz,h.one,h.kn,by rw [e]; exact h.un⟩
theorem rd_di (h : DI C K s T lv) (hm : MI C s lv m) (ha : a < C.sz) (h1 : ∀ j,j < C.L → lv j = true → ∀ b,b < C.sz → cand s j b = [now s j b]) (hd : m.dirty.getD (a / C.rg) false = true) (hr : Rd C K' s lv a t) : DI C K' t T lv := by
  refine ⟨hr.ok,h.tl,h.ex,fun i hi hl => by rw [hr.miss]; exact h.miss i hi hl,h.lgl,fun b hb j hj hl c hc => ?_,fun hl c hc => h.head hl c (by rw [(hr.log 0 (by decide)).2] at hc; exact hc),fun hl r hrr => ?_⟩
  · rw [hr.one j hj hl b hb,List.mem_singleton] at hc
    subst hc
    by_cases e : b = a
    · subst e
      obtain ⟨f,f1,f2,f3⟩ := hr.at_ j hj hl
      rw [f3]
      exact h.cnd b hb f f1 f2 _ (by rw [h1 f f1 f2 b hb]; exact List.mem_singleton.2 rfl)
    · rw [hr.oth j hj hl b hb e]
      exact h.cnd b hb j hj hl _ (by rw [h1 j hj hl b hb]; exact List.mem_singleton.2 rfl)
  · have hs : SetB C s r → SetB C t r := fun hx c hc => hx c (by rw [(hr.log 1 (by decide)).2] at hc; exact hc)
    by_cases e : r = a / C.rg
    · exact .inl (hs (hm.d hl r hrr (by rw [e]; exact hd)))
    · rcases h.c hl r hrr with x | ⟨f,x⟩
      · exact .inl (hs x)
      · refine .inr ⟨f,fun b hb hbr j hj hlj c hc => x b hb hbr j hj hlj c ?_⟩
        have hba : b ≠ a := fun z => e (by rw [← hbr,z])
        rw [hr.one j hj hlj b hb,hr.oth j hj hlj b hb hba] at hc
        rw [h1 j hj hlj b hb]; exact hc
theorem SP.rd (h : SP C K lv s o m i) (hi : i < C.sz) (hd : m.dirty.getD (i / C.rg) false = true) (hf : Fd s m m' 0) (hr : Rd C K' s lv i t) (hK : K ≤ K') : SP C K' lv t { o with X := some m' } m' i := by
  have e : m'.dirty = m.dirty := by rw [hf.oth]
  have h9 : OI C K lv s { o with X := some m' } := h.oi.set rfl rfl rfl rfl rfl rfl
  refine ⟨rfl,(h9.arr hr.miss).mono hK,rd_di h.di h.mi hi h.one hd hr,(h.mi.fd hf).arr hr.miss hr.log,fun a ha => Nat.le_trans (h.sm a ha) (by omega),hr.dn,hr.fz,hr.one,fun a ha hai => ?_,fun a ha hai => ?_⟩
  · obtain ⟨k1,k2⟩ := h.kn a ha hai
    exact ⟨k1,fun j hj hl => by rw [hr.oth j hj hl a ha (by omega)]; exact k2 j hj hl⟩
  · obtain ⟨k1,k2⟩ := h.un a ha hai
    refine ⟨k1,fun hx j k hj hl hk hlk => ?_⟩
    rw [e] at hx
    by_cases ea : a = i
    · subst ea; rw [hd] at hx; cases hx
    · rw [hr.oth j hj hl a ha ea,hr.oth k hk hlk a ha ea]; exact k2 hx j k hj hl hk hlk
theorem oread1_s (h : SP C K lv s o m i) (hi : i < C.sz) (hnf : NF m) (hK : K ≤ 80000) :
    ∃ e w m' t,mirror_Mirror_Read m (i : Int) s = some (w,e,m',t) ∧ SP C (K + 8) lv t { o with X := some m' } m' i ∧ gM C m' = gM C m ∧ m'.copied = m.copied ∧ (e = 0 ∧ NF m' ∧ (∀ j,j < C.L → lv j = true → now t j i = w) ∨ e = 18 ∧ ¬ NF m') := by
  by_cases hd : m.dirty.getD (i / C.rg) false = true
  · obtain ⟨m',t,h1,h2,h3⟩ := read_s h.mi hnf h.di.ok h.dn (by omega) hi h.di.ex h.fz h.one hd
    have hsp := h.rd hi hd h1 h2 (by omega)
    have hg := h1.mks.g h.mi.len
    have hc := h1.mks.copied
    rcases h3 with ⟨⟨w,h3,h4⟩,h5⟩ | ⟨⟨w,h3⟩,h5⟩
    · exact ⟨_,_,_,_,h3,hsp,hg,hc,.inl ⟨rfl,h5,h4⟩⟩
    · exact ⟨_,_,_,_,h3,hsp,hg,hc,.inr ⟨rfl,h5⟩⟩
  · rw [Bool.not_eq_true] at hd
    obtain ⟨j0,hj0,hl0⟩ := h.di.ex
    have hw : ∀ j,j < C.L → lv j = true → now s j i = now s j0 i := fun j hj hl => (h.un i hi (Nat.le_refl _)).2 hd j j0 hj hl hj0 hl0
    obtain ⟨m',h1,h3⟩ := read_u h.mi hnf h.di.ok h.dn hi h.di.ex hw
    have hsp := (h.fd h1).mono (show K ≤ K + 8 by omega)
    have hg := h1.mks.g h.mi.len
    have hc := h1.mks.copied
    rcases h3 with ⟨h3,h5⟩ | ⟨⟨w,h3⟩,h5⟩
    · exact ⟨_,_,_,_,h3,hsp,hg,hc,.inl ⟨rfl,h5,hw⟩⟩
    · exact ⟨_,_,_,_,h3,hsp,hg,hc,.inr ⟨rfl,h5⟩⟩
theorem oread_s_l1 (hi : i < C.sz) : ∀ (N n K : Nat) (o : OwnS) (m : MirS) (s : ArrS) (w0 : UInt64) (e : Int),9 - n < N → n + gM C m ≤ 5 → K + 16 * gM C m ≤ 70000 → SP C K lv s o m i → (e = 0 ∧ NF m ∧ (∀ j,j < C.L → lv j = true → now s j i = w0) ∨ e = 18 ∧ ¬ NF m) →
    ∃ o' m' s' w,volumegroupmake_Owner_Read_l1 (i : Int) N o s n w0 e = some (.inl (w,0,o',s')) ∧ SP C (K + 16 * gM C m) lv s' o' m' i ∧ NF m' ∧ (∀ j,j < C.L → lv j = true → now s' j i = w) ∧ m'.copied = m.copied
  | 0,_,_,_,_,_,_,_,h,_,_,_,_ => absurd h (by omega)
  | N + 1,n,K,o,m,s,w0,e,h,hn,hK,hu,he => by
    have hun : volumegroupmake_Owner_Read_l1 (i : Int) (N + 1) o s n w0 e = volumegroupmake_Owner_Read_l1_b (i : Int) (volumegroupmake_Owner_Read_l1 (i : Int) N) o s n w0 e := rfl
    rw [hun]
    unfold volumegroupmake_Owner_Read_l1_b
    rcases he with ⟨rfl,h1,h2⟩ | ⟨rfl,h1⟩
    · rw [if_neg (fun x => absurd x.2 (by decide))]
      exact ⟨o,m,s,w0,rfl,hu.mono (by omega),h1,h2,rfl⟩
    · rw [if_pos ⟨by omega,rfl⟩]
      obtain ⟨o',m',d1,d2,d3,d4,d5,d6⟩ := hu.dropped h1 (by omega)
      rw [d1]; simp only [Option.bind_some]
      rw [if_neg (by simp),d2.x]; simp only [Option.elim_some]
      obtain ⟨e,w,m2,t,r1,r2,r3,r5,r4⟩ := oread1_s d2 hi d3 (by omega)
      rw [r1]; simp only [Option.bind_some]
      obtain ⟨o3,m3,s3,w3,g1,g2,g3,g4,g5⟩ := oread_s_l1 hi N (n + 1) (K + 4 + 8) _ m2 t w e (by omega) (by omega) (by omega) r2 r4
      exact ⟨o3,m3,s3,w3,g1,g2.mono (by omega),g3,g4,g5.trans (r5.trans d6)⟩
theorem oread_s (h : SP C K lv s o m i) (hi : i < C.sz) (hnf : NF m) (hK : K ≤ 50000) :
    ∃ o' m' s',volumegroupmake_Owner_Read o (i : Int) true s = some (0,true,o',s') ∧ SP C (K + 80) lv s' o' m' (i + 1) ∧ NF m' ∧ m'.copied = m.copied := by
  have hF := fuel_big
  unfold volumegroupmake_Owner_Read
  rw [h.x]; simp only [Option.elim_some]
  obtain ⟨e,w,m2,t,r1,r2,r3,r5,r4⟩ := oread1_s h hi hnf (by omega)
  have hg4 := @gM_le C m2
  rw [r1]; simp only [Option.bind_some]
  obtain ⟨o3,m3,s3,w3,g1,g2,g3,g4,g5⟩ := oread_s_l1 hi FUEL 0 (K + 8) _ m2 t w e (by omega) (by omega) (by omega) r2 r4
  rw [g1,seqO_inl]
  have hil : i < o3.T.length := by rw [g2.di.tl]; exact hi
  have hl : 0 ≤ (i : Int) ∧ (i : Int) < (o3.T.length : Int) := ⟨by omega,by omega⟩
  rw [if_neg (by simp),if_pos rfl,grd_t (decide_eq_true (smallT_of (fun a ha => Nat.le_trans (g2.sm a ha) (by omega)) g2.di.tl))]
  obtain ⟨k1,k2⟩ := g2.un i hi (Nat.le_refl _)
  have kn' : ¬ (o3.T.getD i s0).known = true := by rw [k1]; decide
  obtain ⟨j0,hj0,hl0⟩ := g2.di.ex
  have hin : w3 ∈ (o3.T.getD i s0).some := g2.di.cnd i hi j0 hj0 hl0 w3 (by rw [g2.one j0 hj0 hl0 i hi,g4 j0 hj0 hl0]; exact List.mem_singleton.2 rfl)
  have e2 : rdTR o3.T (i : Int) w3 = true := by
    unfold rdTR
    rw [if_pos hl,Int.toNat_natCast,if_neg kn',List.any_eq_true]
    exact ⟨w3,hin,decide_eq_true rfl⟩
  have e3 : rdTS o3.T (i : Int) w3 true = o3.T.set i ⟨[w3],true,w3⟩ := by
    unfold rdTS
    rw [if_pos hl,Int.toNat_natCast,if_neg kn',if_pos rfl]
  rw [e2,e3]
  have hat : ∀ b,(o3.T.set i ⟨[w3],true,w3⟩).getD b s0 = if b = i then ⟨[w3],true,w3⟩ else o3.T.getD b s0 := fun b => secSet hil
  refine ⟨{ o3 with T := o3.T.set i ⟨[w3],true,w3⟩ },m3,s3,rfl,⟨g2.x,?_,?_,g2.mi,fun a ha => ?_,g2.dn,g2.fz,g2.one,fun a ha hai => ?_,fun a ha hai => ?_⟩,g3,g5.trans r5⟩
  · have h9 : OI C (K + 8 + 16 * gM C m2) lv s3 { o3 with T := o3.T.set i ⟨[w3],true,w3⟩ } := g2.oi.set rfl rfl rfl rfl rfl rfl
    exact h9.mono (by omega)
  · have hd := g2.di.mono (show K + 8 + 16 * gM C m2 ≤ K + 80 by omega)
    refine { hd with tl := by simp [g2.di.tl],cnd := fun a ha j hj hlj c hc => ?_ }
    show c ∈ ((o3.T.set i ⟨[w3],true,w3⟩).getD a s0).some
    rw [hat]
    split
    · rename_i e; subst e
      rw [g2.one j hj hlj a ha,g4 j hj hlj] at hc
      exact hc
    · exact g2.di.cnd a ha j hj hlj c hc
  · show ((o3.T.set i ⟨[w3],true,w3⟩).getD a s0).some.length ≤ _
    rw [hat]
    split
    · simp
    · exact Nat.le_trans (g2.sm a ha) (by omega)
  · show ((o3.T.set i ⟨[w3],true,w3⟩).getD a s0).known = true ∧ ∀ j,j < C.L → lv j = true → now s3 j a = ((o3.T.set i ⟨[w3],true,w3⟩).getD a s0).value
    rw [hat]
    split
    · rename_i e; subst e; exact ⟨rfl,g4⟩
    · exact g2.kn a ha (by omega)
  · show ((o3.T.set i ⟨[w3],true,w3⟩).getD a s0).known = false ∧ _
    rw [hat,if_neg (by omega)]
    exact g2.un a ha (by omega)
theorem oall_s_l1 : ∀ (N i K : Nat) (o : OwnS) (m : MirS) (s : ArrS),C.sz - i < N → i ≤ C.sz → K + 80 * (C.sz - i) ≤ 50000 → SP C K lv s o m i → NF m →
    ∃ o' m' s',volumegroupmake_Owner_All_l1 true N o s i = some (.inl (o',s')) ∧ SP C (K + 80 * (C.sz - i)) lv s' o' m' C.sz ∧ NF m' ∧ m'.copied = m.copied
  | 0,_,_,_,_,_,h,_,_,_,_ => absurd h (by omega)
  | N + 1,i,K,o,m,s,h,hi,hK,hp,hnf => by
    have hs := C.hs
    have hun : volumegroupmake_Owner_All_l1 true (N + 1) o s i = volumegroupmake_Owner_All_l1_b true (volumegroupmake_Owner_All_l1 true N) o s i := rfl
    rw [hun]
    unfold volumegroupmake_Owner_All_l1_b
    by_cases hlt : i < C.sz
    · rw [if_pos (by rw [hp.di.tl]; omega)]
      obtain ⟨o',m',s',r1,r2,r3,r4⟩ := oread_s hp hlt hnf (by omega)
      rw [r1]; simp only [Option.bind_some]
      rw [if_neg (by simp),grd_t (inN64_of (by omega))]
      obtain ⟨o3,m3,s3,g1,g2,g3,g4⟩ := oall_s_l1 N (i + 1) (K + 80) o' m' s' (by omega) (by omega) (by omega) r2 r3
      exact ⟨o3,m3,s3,g1,g2.mono (by omega),g3,g4.trans r4⟩
    · rw [if_neg (by rw [hp.di.tl]; omega)]
      have : i = C.sz := by omega
      subst this
      exact ⟨o,m,s,rfl,hp.mono (by omega),hnf,rfl⟩
theorem oall_s (h : SP C K lv s o m 0) (hnf : NF m) (hK : K ≤ 40000) : ∃ o' m' s',volumegroupmake_Owner_All o true s = some (true,o',s') ∧ SP C (K + 960) lv s' o' m' C.sz ∧ NF m' ∧ m'.copied = m.copied := by
  have hF := fuel_big
  have hs := C.hs
  unfold volumegroupmake_Owner_All
  obtain ⟨o',m',s',h1,h2,h3,h4⟩ := oall_s_l1 FUEL 0 K o m s (by omega) (by omega) (by omega) h hnf
  rw [h1,seqO_inl]
  exact ⟨o',m',s',rfl,h2.mono (by omega),h3,h4⟩
theorem oall_u_l1 {q : Bool} : ∀ (N i K : Nat) (o : OwnS) (m : MirS),C.sz - i < N → i ≤ C.sz → K + 20 * (C.sz - i) ≤ 50000 → UP C K lv s o m (fun _ => False) → NF m →
    ∃ o' m',volumegroupmake_Owner_All_l1 q N o s i = some (.inl (o',s)) ∧ UP C (K + 20 * (C.sz - i)) lv s o' m' (fun _ => False) ∧ NF m' ∧ o'.T = o.T ∧ m'.dirty = m.dirty ∧ m'.copied = m.copied
  | 0,_,_,_,_,h,_,_,_,_ => absurd h (by omega)
  | N + 1,i,K,o,m,h,hi,hK,hp,hnf => by
    have hs := C.hs
    have hun : volumegroupmake_Owner_All_l1 q (N + 1) o s i = volumegroupmake_Owner_All_l1_b q (volumegroupmake_Owner_All_l1 q N) o s i := rfl
    rw [hun]
    unfold volumegroupmake_Owner_All_l1_b
    by_cases hlt : i < C.sz
    · rw [if_pos (by rw [hp.di.tl]; omega)]
      obtain ⟨o',m',r1,r2,r3,r4,r5,r6⟩ := oread (q := q) hp hnf hlt (by omega)
      rw [r1]; simp only [Option.bind_some]
      rw [if_neg (by simp),grd_t (inN64_of (by omega))]
      obtain ⟨o3,m3,g1,g2,g3,g4,g5,g6⟩ := oall_u_l1 (q := q) N (i + 1) (K + 20) o' m' (by omega) (by omega) (by omega) r2 r3
      exact ⟨o3,m3,g1,g2.mono (by omega),g3,g4.trans r4,g5.trans r5,g6.trans r6⟩
    · rw [if_neg (by rw [hp.di.tl]; omega)]
      exact ⟨o,m,rfl,hp.mono (by omega),hnf,rfl,rfl,rfl⟩
theorem oall_u {q : Bool} (h : UP C K lv s o m (fun _ => False)) (hnf : NF m) (hK : K ≤ 40000) : ∃ o' m',volumegroupmake_Owner_All o q s = some (true,o',s) ∧ UP C (K + 240) lv s o' m' (fun _ => False) ∧ NF m' ∧ o'.T = o.T ∧ m'.dirty = m.dirty ∧ m'.copied = m.copied := by
  have hF := fuel_big
  have hs := C.hs
  unfold volumegroupmake_Owner_All
  obtain ⟨o',m',h1,h2,h3,h4,h5,h6⟩ := oall_u_l1 (q := q) FUEL 0 K o m (by omega) (by omega) (by omega) h hnf
  rw [h1,seqO_inl]
  exact ⟨o',m',rfl,h2.mono (by omega),h3,h4,h5,h6⟩
end
end Go.Proofs
namespace Go.Proofs
open Go.VG
section
variable {C : MC} {K K' a i k : Nat} {s t u y : ArrS} {lv : LV} {m m' x : MirS} {w v : UInt64} {o : OwnS} {ex p : Nat → Prop} {T : List Sec}
theorem OI.rg (h : OI C K lv s o) : ∀ k ∈ o.Stale,0 ≤ k ∧ k ≤ (C.L : Int) := fun k hk => by
  obtain ⟨i,hi,rfl, -⟩ := h.st k hk; omega
theorem OI.notin (h : OI C K lv s o) {i : Nat} (hl : lv i = true) : (i : Int) ∉ o.Stale := fun hi => by
  obtain ⟨j, -,e,hj⟩ := h.st _ hi
  have : j = i := by omega
  subst this; rw [hl] at hj; cases hj
theorem legs_mi (hoi : OI C K lv s o) (hms : ∀ i,i ≤ C.L → lv i = true → miss s i = false) {d : List Bool} (hd : d.length = C.R) {lg : Option LogS} {ls : Int} (hlog : lv C.L = true ∧ ls = 0 ∧ (∃ g,lg = some g ∧ LI C s g) ∧ (∀ r,r < C.R → d.getD r false = true → SetB C s r) ∨ lv C.L = false ∧ lg = none ∧ ls = 2) :
    MI C s lv ⟨legsM C o.Stale C.L,lg,C.lg,ls,(C.sz : Int),(C.rg : Int),d,0⟩ ∧ NF ⟨legsM C o.Stale C.L,lg,C.lg,ls,(C.sz : Int),(C.rg : Int),d,0⟩ := by
  have hat : ∀ i,i < C.L → (legsM C o.Stale C.L).getD i mleg_x0 = legM C o.Stale i := fun i hi => legsM_at hi
  refine ⟨⟨legsM_len,fun i hi => ?_,rfl,rfl,rfl,hd,?_,fun hl r hr hdr => ?_⟩,⟨fun i hi hs => ?_,fun hs => ?_⟩⟩
  · unfold stM
    rw [hat i hi]
    refine ⟨rfl,rfl,?_⟩
    unfold legM
    cases hl : lv i
    · refine .inr ⟨rfl,?_⟩
      by_cases hin : (i : Int) ∈ o.Stale
      · rw [if_pos hin]; exact .inl rfl
      · rw [if_neg hin]
        rcases hoi.nl i (by omega) hl with z | z | ⟨z, -⟩
        · exact absurd z hin
        · exact .inr ⟨z,.inl rfl⟩
        · omega
    · rw [if_neg (hoi.notin hl)]
      exact .inl ⟨rfl,rfl,hms i (by omega) hl⟩
  · rcases hlog with ⟨h1,h2,⟨g,h3,h4⟩, -⟩ | ⟨h1,h2,h3⟩
    · exact .inl ⟨h1,h2,hms _ (Nat.le_refl _) h1,g,h3,h4⟩
    · exact .inr ⟨h1,.inl ⟨h2,h3⟩⟩
  · rcases hlog with ⟨-, -, -,h4⟩ | ⟨h1, -⟩
    · exact h4 r hr hdr
    · rw [h1] at hl; cases hl
  · have hi' : i < C.L := by have h9 := @legsM_len C o.Stale C.L; exact h9 ▸ hi
    unfold stM at hs
    rw [hat i hi'] at hs
    unfold legM at hs
    split at hs <;> cases hs
  · rcases hlog with ⟨-,h2, -⟩ | ⟨-, -,h2⟩
    · rw [h2] at hs; cases hs.2
    · rw [h2] at hs; cases hs.2
structure Op (C : MC) (K : Nat) (lv : LV) (s : ArrS) (o o' : OwnS) (m : MirS) : Prop where
  oi : OI C K lv s o'
  T : o'.T = o.T
  mi : MI C s lv m
  nf : NF m
  copied : m.copied = 0
  dirty : ∀ r,r < C.R → (m.dirty.getD r false = true ↔ (lv C.L = true → tb (now s C.L 1) r = true))
theorem open_a (hoi : OI C K lv s o) (hms : ∀ i,i ≤ C.L → lv i = true → miss s i = false) (hok : ArrOk C.ns K s) (hdn : s.down = false) (hex : ∃ i,i < C.L ∧ lv i = true) (hlgl : lv C.L = true → C.lg = true) (hK : K ≤ 90000)
    (hh : lv C.L = true → ∀ c ∈ cand s C.L 0,c = headL C.R) (h1 : lv C.L = true → cand s C.L 1 = [now s C.L 1]) :
    (∃ m,volumegrouplaw21_setting_owner_1 o.Stale s (C.L : Int) (C.sz : Int) (C.rg : Int) C.lg = some (some m,0) ∧ Op C K lv s o o m) ∨
    (volumegrouplaw21_setting_owner_1 o.Stale s (C.L : Int) (C.sz : Int) (C.rg : Int) C.lg = some (none,18) ∧ C.lg = true ∧ (C.L : Int) ∉ o.Stale ∧ miss s C.L = true ∧ lv C.L = false) := by
  obtain ⟨j0,hj0,hl0⟩ := hex
  have hhead : lv C.L = true → now s C.L 0 = headL C.R := fun hl => hh hl _ (hok.now_cand logL (by rw [MC.log]; decide))
  cases hl : lv C.L
  · by_cases hc : C.lg = true ∧ (C.L : Int) ∉ o.Stale
    · have hm : miss s C.L = true := by
        rcases hoi.nl C.L (Nat.le_refl _) hl with z | z | ⟨-,z⟩
        · exact absurd z hc.2
        · exact z
        · rw [hc.1] at z; cases z
      obtain ⟨-,o2, -⟩ := opener_eq hok hdn hoi.rg (by have := hoi.sl; omega) ⟨j0,hj0,hoi.notin hl0⟩ (fun _ _ hx => by rw [hm] at hx; cases hx)
      exact .inr ⟨o2 hc.1 hc.2 hm,hc.1,hc.2,hm,rfl⟩
    · obtain ⟨o1, -, -⟩ := opener_eq hok hdn hoi.rg (by have := hoi.sl; omega) ⟨j0,hj0,hoi.notin hl0⟩ (fun z1 z2 _ => absurd ⟨z1,z2⟩ hc)
      obtain ⟨d,d1,d2,d3⟩ := o1 hc
      obtain ⟨g1,g2⟩ := legs_mi hoi hms d1 (lg := none) (ls := 2) (.inr ⟨hl,rfl,rfl⟩)
      exact .inl ⟨_,d3,hoi,rfl,g1,g2,rfl,fun r hr => ⟨fun _ hx => (by rw [hl] at hx; cases hx),fun _ => d2 r hr⟩⟩
  · have hlg := hlgl hl
    obtain ⟨-, -,o3⟩ := opener_eq hok hdn hoi.rg (by have := hoi.sl; omega) ⟨j0,hj0,hoi.notin hl0⟩ (fun _ _ _ => hhead hl)
    obtain ⟨d,d1,d2,d3⟩ := o3 hlg (hoi.notin hl) (hms _ (Nat.le_refl _) hl)
    have hset : ∀ r,r < C.R → d.getD r false = true → SetB C s r := fun r hr hd c hc => by
      rw [h1 hl,List.mem_singleton] at hc
      rw [hc]; exact (d2 r hr).1 hd
    have hbl : (openL (xL C.L 3) C.R (now s C.L)).bits.getD 0 0 = now s C.L 1 := by
      have : (openL (xL C.L 3) C.R (now s C.L)).bits = (List.range (nW C.R)).map fun i => now s C.L (1 + i) := rfl
      rw [this,getD_map_range (by rw [MC.nW1]; decide)]
    have hli : LI C s (openL (xL C.L 3) C.R (now s C.L)) := ⟨⟨rfl,rfl,by simp [openL],List.nodup_nil⟩,hh hl,hbl.symm,fun r hr hd => by simp [openL,lookM] at hd⟩
    obtain ⟨g1,g2⟩ := legs_mi hoi hms d1 (lg := some (openL (xL C.L 3) C.R (now s C.L))) (ls := 0) (.inl ⟨hl,rfl,⟨_,rfl,hli⟩,hset⟩)
    rw [hlg] at g1 g2
    rw [hlg] at d3 ⊢
    exact .inl ⟨_,d3,hoi,rfl,g1,g2,rfl,fun r hr => ⟨fun hx _ => (d2 r hr).1 hx,fun hx => (d2 r hr).2 (hx hl)⟩⟩
theorem obegin_l1 (hms : ∀ i,i ≤ C.L → lv i = true → miss s i = false) (hok : ArrOk C.ns K s) (hdn : s.down = false) (hex : ∃ i,i < C.L ∧ lv i = true) (hlgl : lv C.L = true → C.lg = true) (hK : K ≤ 80000)
    (hh : lv C.L = true → ∀ c ∈ cand s C.L 0,c = headL C.R) (h1 : lv C.L = true → cand s C.L 1 = [now s C.L 1]) : ∀ (N i : Nat) (o : OwnS) (X : Option MirS) (e : Int),o.Lost.length - i < N → i ≤ o.Lost.length → OI C (K + i) lv s o → (e = 0 ∧ (∃ m,X = some m ∧ Op C (K + i) lv s o o m) ∨ e = 18 ∧ C.lg = true ∧ (C.L : Int) ∉ o.Stale ∧ miss s C.L = true ∧ lv C.L = false ∧ ∃ j,i ≤ j ∧ j < o.Lost.length ∧ o.Lost.getD j 0 = (C.L : Int)) →
    ∃ o' m,volumegroupmake_Owner_Begin_l1 s N o X e i = some (some m,0,o') ∧ Op C (K + o.Lost.length) lv s o o' m
  | 0,_,_,_,_,h,_,_,_ => absurd h (by omega)
  | N + 1,i,o,X,e,h,hi,hoi,he => by
    have hun : volumegroupmake_Owner_Begin_l1 s (N + 1) o X e i = volumegroupmake_Owner_Begin_l1_b s (volumegroupmake_Owner_Begin_l1 s N) o X e i := rfl
    rw [hun]
    unfold volumegroupmake_Owner_Begin_l1_b
    have hll : o.Lost.length ≤ 10 := by rw [hoi.ll.1]; exact hoi.ll.2
    rcases he with ⟨rfl,m,rfl,h2⟩ | ⟨rfl,h2,h3,h4,h5,j,j1,j2,j3⟩
    · rw [if_neg (fun x => absurd x.2 (by decide))]
      exact ⟨o,m,rfl,⟨h2.oi.mono (by omega),rfl,h2.mi,h2.nf,h2.copied,h2.dirty⟩⟩
    · rw [if_pos ⟨by omega,rfl⟩]
      have hlt : i < o.Lost.length := by omega
      obtain ⟨k,k1,k2,k3⟩ := hoi.lr (o.Lost.getD i 0) (by simp [List.getD,hlt])
      rw [k2]
      obtain ⟨l',l1,l2,l3⟩ := add_eq (l := o.Stale) (n := (k : Int)) (by omega) (fun z hz => (hoi.rg z hz).1) (by have := hoi.sl; omega)
      rw [l1]; simp only [Option.bind_some]
      have hoi2 : OI C (K + (i + 1)) lv s { o with Stale := l' } := hoi.stale k1 k3 l2 l3 rfl rfl rfl rfl rfl rfl
      have hop := open_a (o := { o with Stale := l' }) hoi2 hms (hok.mono (by omega)) hdn hex hlgl (by omega) hh h1
      have hargs : volumegrouplaw21_setting_owner_1 l' s o.Open_1 o.Open_2 o.Open_3 o.Open_4 = volumegrouplaw21_setting_owner_1 l' s (C.L : Int) (C.sz : Int) (C.rg : Int) C.lg := by rw [hoi.o1,hoi.o2,hoi.o3,hoi.o4]
      rw [hargs]
      have fin : ∀ {X : Option MirS} {e : Int},volumegrouplaw21_setting_owner_1 l' s (C.L : Int) (C.sz : Int) (C.rg : Int) C.lg = some (X,e) → (e = 0 ∧ (∃ m,X = some m ∧ Op C (K + (i + 1)) lv s { o with Stale := l' } { o with Stale := l' } m) ∨ e = 18 ∧ C.lg = true ∧ (C.L : Int) ∉ l' ∧ miss s C.L = true ∧ lv C.L = false ∧ ∃ j,i + 1 ≤ j ∧ j < o.Lost.length ∧ o.Lost.getD j 0 = (C.L : Int)) →
          ∃ o' m,(Option.bind (volumegrouplaw21_setting_owner_1 l' s (C.L : Int) (C.sz : Int) (C.rg : Int) C.lg) fun r42 => volumegroupmake_Owner_Begin_l1 s N ({ o with Stale := l' }) r42.1 r42.2 (i + 1)) = some (some m,0,o') ∧ Op C (K + o.Lost.length) lv s o o' m := by
        intro X e e1 e2
        rw [e1]; simp only [Option.bind_some]
        obtain ⟨o',m,q1,q2⟩ := obegin_l1 hms hok hdn hex hlgl hK hh h1 N (i + 1) { o with Stale := l' } X e (by show o.Lost.length - (i + 1) < N; omega) (by show i + 1 ≤ o.Lost.length; omega) hoi2 e2
        exact ⟨o',m,q1,⟨q2.oi,q2.T,q2.mi,q2.nf,q2.copied,q2.dirty⟩⟩
      rcases hop with ⟨m,q1,q2⟩ | ⟨q1,q2,q3,q4,q5⟩
      · exact fin q1 (.inl ⟨rfl,m,rfl,q2⟩)
      · refine fin q1 (.inr ⟨rfl,q2,q3,q4,q5,j,?_,j2,j3⟩)
        rcases Nat.lt_or_ge i j with z | z
        · exact z
        · have : j = i := by omega
          subst this
          rw [k2] at j3
          exact absurd ((l3 _).2 (.inr (by omega))) q3
theorem obegin (hoi : OI C K lv s o) (hms : ∀ i,i ≤ C.L → lv i = true → miss s i = false) (hok : ArrOk C.ns K s) (hdn : s.down = false) (hex : ∃ i,i < C.L ∧ lv i = true) (hlgl : lv C.L = true → C.lg = true) (hK : K ≤ 80000)
    (hh : lv C.L = true → ∀ c ∈ cand s C.L 0,c = headL C.R) (h1 : lv C.L = true → cand s C.L 1 = [now s C.L 1]) (htl : o.T.length = C.sz) :
    ∃ o' m,volumegroupmake_Owner_Begin o s = some (true,o') ∧ o'.X = some m ∧ Op C (K + 10) lv s o o' m := by
  have hF := fuel_big
  have hll : o.Lost.length ≤ 10 := by rw [hoi.ll.1]; exact hoi.ll.2
  unfold volumegroupmake_Owner_Begin
  have hop := open_a hoi hms hok hdn hex hlgl (by omega) hh h1
  have hargs : volumegrouplaw21_setting_owner_1 o.Stale s o.Open_1 o.Open_2 o.Open_3 o.Open_4 = volumegrouplaw21_setting_owner_1 o.Stale s (C.L : Int) (C.sz : Int) (C.rg : Int) C.lg := by rw [hoi.o1,hoi.o2,hoi.o3,hoi.o4]
  rw [hargs]
  have fin : ∀ {X : Option MirS} {e : Int},volumegrouplaw21_setting_owner_1 o.Stale s (C.L : Int) (C.sz : Int) (C.rg : Int) C.lg = some (X,e) → (e = 0 ∧ (∃ m,X = some m ∧ Op C (K + 0) lv s o o m) ∨ e = 18 ∧ C.lg = true ∧ (C.L : Int) ∉ o.Stale ∧ miss s C.L = true ∧ lv C.L = false ∧ ∃ j,0 ≤ j ∧ j < o.Lost.length ∧ o.Lost.getD j 0 = (C.L : Int)) →
      ∃ o' m,(Option.bind (volumegrouplaw21_setting_owner_1 o.Stale s (C.L : Int) (C.sz : Int) (C.rg : Int) C.lg) fun r5 =>
        Option.bind (volumegroupmake_Owner_Begin_l1 s FUEL o r5.1 r5.2 0) fun a16 =>
        if (a16.2.1 = (0 : Int)) then
          Option.elim a16.1 (
            if false = true then
              none
            else
              some (false, { a16.2.2 with X := none })) fun o54 =>
          if true = true then
            Option.bind (mirror_Mirror_Size o54 s) fun r55 =>
            some (((decide (r55 = ((a16.2.2.T.length : Nat) : Int))), { a16.2.2 with X := (some o54) }))
          else
            some ((false, { a16.2.2 with X := (some o54) }))
        else
          if false = true then
            Option.elim a16.1 (
              none) fun o58 =>
            Option.bind (mirror_Mirror_Size o58 s) fun r59 =>
            some (((decide (r59 = ((a16.2.2.T.length : Nat) : Int))), { a16.2.2 with X := (some o58) }))
          else
            some (false, { a16.2.2 with X := a16.1 })) = some (true,o') ∧ o'.X = some m ∧ Op C (K + 10) lv s o o' m := by
    intro X e e1 e2
    rw [e1]; simp only [Option.bind_some]
    obtain ⟨o',m,q1,q2⟩ := obegin_l1 hms hok hdn hex hlgl hK hh h1 FUEL 0 o X e (by omega) (by omega) (hoi.mono (by omega)) e2
    rw [q1]; simp only [Option.bind_some,Option.elim_some]
    rw [if_pos trivial,if_pos trivial]
    unfold mirror_Mirror_Size
    simp only [Option.bind_some]
    have hdec : decide (m.size = ((o'.T.length : Nat) : Int)) = true := by rw [q2.mi.size,q2.T,htl]; exact decide_eq_true rfl
    rw [hdec]
    have h9 : OI C (K + o.Lost.length) lv s { o' with X := some m } := q2.oi.set rfl rfl rfl rfl rfl rfl
    exact ⟨_,m,rfl,rfl,⟨h9.mono (by omega),q2.T,q2.mi,q2.nf,q2.copied,q2.dirty⟩⟩
  rcases hop with ⟨m,q1,q2⟩ | ⟨q1,q2,q3,q4,q5⟩
  · exact fin q1 (.inl ⟨rfl,m,rfl,q2⟩)
  · obtain ⟨j,hj,e⟩ := List.mem_iff_getElem.1 (hoi.lo C.L (Nat.le_refl _) q4)
    exact fin q1 (.inr ⟨rfl,q2,q3,q4,q5,j,by omega,hj,by simp [List.getD,hj,e]⟩)
theorem failT_at (htl : T.length = C.sz) (ha : a < C.sz) : (failedT T).getD a s0 = failX (T.getD a s0) := by
  unfold failedT; exact secMap (by omega)
theorem opower (h : DN C K lv s o) (hK : K ≤ 80000) {kp : UInt64} : ∃ o' m s',volumegroupmake_Owner_Power o kp s = some (true,o',s') ∧ SP C (K + 10) lv s' o' m 0 ∧ NF m ∧ m.copied = 0 := by
  obtain ⟨ks,hks⟩ := keep_ok kp
  have hr := h.di.ok.rs ks
  have hL := C.hL
  unfold volumegroupmake_Owner_Power
  rw [hks]; simp only [Option.bind_some]
  rw [grd_t (inLen_of (by have := h.di.ok.wr; omega))]
  have hin : ∀ i,i < C.L → i < C.ns.length := fun i hi => by rw [MC.len]; omega
  have hsub : ∀ i,i < C.L → ∀ b,b < C.sz → ∀ c ∈ cand (rsS s ks) i b,c ∈ cand s i b := fun i hi b hb c hc => by
    rw [hr.cand,List.mem_singleton] at hc
    rw [hc]; exact hr.now i b (hin i hi) (by rw [MC.leg hi]; exact hb)
  have hsubL : ∀ b,b < 3 → ∀ c ∈ cand (rsS s ks) C.L b,c ∈ cand s C.L b := fun b hb c hc => by
    rw [hr.cand,List.mem_singleton] at hc
    rw [hc]; exact hr.now C.L b logL (by rw [MC.log]; exact hb)
  have hset : ∀ r,SetB C s r → SetB C (rsS s ks) r := fun r hx c hc => hx c (hsubL 1 (by decide) c hc)
  have hdi : DI C K (rsS s ks) (failedT o.T) lv := by
    refine ⟨hr.ok,by unfold failedT; simp; exact h.di.tl,h.di.ex,fun i hi hl => by rw [hr.miss]; exact h.di.miss i hi hl,h.di.lgl,fun a ha i hi hl c hc => ?_,fun hl c hc => h.di.head hl c (hsubL 0 (by decide) c hc),fun hl r hrr => ?_⟩
    · rw [failT_at h.di.tl ha]
      exact h.di.cnd a ha i hi hl c (hsub i hi a ha c hc)
    · rcases h.di.c hl r hrr with z | ⟨f,z⟩
      · exact .inl (hset r z)
      · exact .inr ⟨f,fun b hb hbr j hj hlj c hc => z b hb hbr j hj hlj c (hsub j hj b hb c hc)⟩
  have h9 : OI C K lv s { o with T := failedT o.T } := h.oi.set rfl rfl rfl rfl rfl rfl
  obtain ⟨o',m,b1,b2,b3⟩ := obegin (o := { o with T := failedT o.T }) (h9.arr hr.miss) hdi.miss hdi.ok hr.dn hdi.ex hdi.lgl hK hdi.head (fun _ => hr.cand C.L 1) hdi.tl
  have hT : o'.T = failedT o.T := b3.T
  rw [b1]; simp only [Option.bind_some]
  refine ⟨o',m,_,rfl,⟨b2,b3.oi,by rw [hT]; exact hdi.mono (by omega),b3.mi,fun a ha => ?_,hr.dn,hr.fuse,fun j _ _ b _ => hr.cand j b,fun a _ ha => absurd ha (by omega),fun a ha _ => ?_⟩,b3.nf,b3.copied⟩
  · rw [hT,failT_at h.di.tl ha]
    exact Nat.le_trans (h.sm a ha) (by omega)
  · rw [hT,failT_at h.di.tl ha]
    refine ⟨rfl,fun hd j k hj hlj hk hlk => ?_⟩
    have hrr := MC.reg ha
    have hnd : ¬ (lv C.L = true → tb (now (rsS s ks) C.L 1) (a / C.rg) = true) := fun z => by
      have := (b3.dirty _ hrr).2 z
      rw [hd] at this; cases this
    rw [Classical.not_imp] at hnd
    obtain ⟨hl,hnb⟩ := hnd
    rcases hdi.c hl _ hrr with z | ⟨f,z⟩
    · exact absurd (z _ (by rw [hr.cand]; exact List.mem_singleton.2 rfl)) hnb
    · rw [z a ha rfl j hj hlj (now (rsS s ks) j a) (by rw [hr.cand]; exact List.mem_singleton.2 rfl),z a ha rfl k hk hlk (now (rsS s ks) k a) (by rw [hr.cand]; exact List.mem_singleton.2 rfl)]
end
end Go.Proofs
namespace Go.Proofs
open Go.VG
section
variable {C : MC} {K K' a i k : Nat} {s t u y : ArrS} {lv : LV} {m m' x : MirS} {w v : UInt64} {o : OwnS} {ex p : Nat → Prop} {T : List Sec}
theorem UP.fuse (h : UP C K lv s o m ex) {n : Nat} : UP C K lv { s with fuse := n } o m ex :=
  ⟨h.x,h.oi.arr (fun _ => rfl),⟨h.di.ok.fuse,h.di.tl,h.di.ex,h.di.miss,h.di.lgl,h.di.cnd,h.di.head,h.di.c⟩,h.mi.arr (fun _ => rfl) (fun _ _ => ⟨rfl,rfl⟩),h.kn,h.sm,h.dn⟩
theorem UP.dnn (h : UP C K lv s o m ex) : DN C K lv s o := ⟨h.oi,h.di,h.sm⟩
theorem smS_facts (hok : ArrOk C.ns K s) (hk : k < C.ns.length) : smR s k = 0 ∧ ArrOk C.ns K (smS s k true) ∧ (∀ e,miss (smS s k true) e = if e = k then true else miss s e) ∧ (∀ e b,now (smS s k true) e b = now s e b) ∧ (∀ e b,cand (smS s k true) e b = cand s e b) ∧ (smS s k true).down = s.down ∧ (smS s k true).fuse = s.fuse := by
  have hkl : k < s.drv.length := hok.disk hk
  have hin : inR s (k : Int) := ⟨by omega,by omega⟩
  have hsz : ∀ e,(s.drv.set k { s.drv.getD k d0 with miss := true }).getD e d0 = if e = k then { s.drv.getD k d0 with miss := true } else s.drv.getD e d0 := fun e => drv_set hkl
  have hnow : ∀ e,nowL (smS s k true) e = nowL s e := fun e => by
    rw [smS_ok hin]; unfold nowL
    show ((s.drv.set k { s.drv.getD k d0 with miss := true }).getD e d0).now = _
    rw [hsz]; split
    · rename_i h; rw [h]
    · rfl
  have hdur : ∀ e,durL (smS s k true) e = durL s e := fun e => by
    rw [smS_ok hin]; unfold durL
    show ((s.drv.set k { s.drv.getD k d0 with miss := true }).getD e d0).dur = _
    rw [hsz]; split
    · rename_i h; rw [h]
    · rfl
  have hlog : (smS s k true).log = s.log := by rw [smS_ok hin]
  have hlen : (smS s k true).drv.length = s.drv.length := by rw [smS_ok hin]; simp
  have hsize : ∀ e,(smS s k true).size e = s.size e := fun e => by rw [size_nowL,size_nowL,hnow]
  refine ⟨if_pos hin,⟨⟨by rw [hlen]; exact hok.sz.cnt,fun d hd => by rw [hsize]; exact hok.sz.size d hd,by rw [smS_ok hin]; exact hok.sz.wr⟩,by rw [smS_ok hin]; exact hok.wr,⟨fun d => by rw [hnow,hdur]; exact hok.coh.len d,fun d b hb => ?_,fun r hr => ?_⟩,by rw [smS_ok hin]; exact hok.bad⟩,fun e => ?_,fun e b => by unfold now; rw [hnow],fun e b => by show dur _ _ _ :: pendR _ _ _ = dur _ _ _ :: pendR _ _ _; unfold dur; rw [hdur,hlog],by rw [smS_ok hin],by rw [smS_ok hin]⟩
  · rw [hsize] at hb
    have := hok.coh.last d b hb
    show lastD (dur _ _ _) (pendR _ _ _) = now _ _ _
    unfold dur now; rw [hdur,hnow,hlog]; exact this
  · rw [hlog] at hr
    rw [hlen,hsize]; exact hok.coh.log r hr
  · unfold miss
    rw [smS_ok hin]
    show ((s.drv.set k { s.drv.getD k d0 with miss := true }).getD e d0).miss = _
    rw [hsz]; split <;> rfl
def without (lv : LV) (k : Nat) (l : List Int) : LV := ⟨fun i => lv i && !decide (i = k),l⟩
theorem without_t {i : Nat} {l : List Int} : (without lv k l) i = true ↔ lv i = true ∧ i ≠ k := by unfold without; simp
theorem without_f {i : Nat} {l : List Int} : (without lv k l) i = false ↔ lv i = false ∨ i = k := by
  unfold without
  show (lv i && !decide (i = k)) = false ↔ _
  cases lv i <;> simp
theorem olose (h : UP C K lv s o m (fun _ => False)) (hk : k ≤ C.L) (hleft : ∃ j,j < C.L ∧ lv j = true ∧ j ≠ k) (hlgk : k = C.L → C.lg = true) (hl10 : lv.lost.length ≤ 8) :
    ∃ l' o' s',volumegroupmake_Owner_Lose o (k : Int) (k : Int) s = some (true,o',s') ∧ UP C K (without lv k l') s' o' m (fun _ => False) ∧ o'.T = o.T ∧ l'.length ≤ lv.lost.length + 1 ∧ s'.fuse = s.fuse ∧ (∀ e b,now s' e b = now s e b) := by
  obtain ⟨f1,f2,f3,f4,f5,f6,f7⟩ := smS_facts h.di.ok (k := k) (by rw [MC.len]; omega)
  obtain ⟨l',l1,l2,l3⟩ := add_eq (l := o.Lost) (n := (k : Int)) (by omega) (fun z hz => by obtain ⟨i, -,rfl, -⟩ := h.oi.lr z hz; omega) (by rw [h.oi.ll.1]; omega)
  rw [h.oi.ll.1] at l2
  unfold volumegroupmake_Owner_Lose
  rw [l1]; simp only [Option.bind_some]
  rw [f1,decide_eq_true rfl]
  have hset : ∀ r,SetB C s r → SetB C (smS s k true) r := fun r hr c hc => hr c (by rw [f5] at hc; exact hc)
  have hone : ∀ r,One C s lv r → One C (smS s k true) (without lv k l') r := fun r ⟨f,hf⟩ => ⟨f,fun b hb hbr j hj hlj c hc => hf b hb hbr j hj (without_t.1 hlj).1 c (by rw [f5] at hc; exact hc)⟩
  have hli : ∀ g,LI C s g → LI C (smS s k true) g := fun g hg => hg.arr (fun c hc => by rw [f5] at hc; exact hc) (fun c hc => by rw [f5] at hc; exact hc) (f4 _ _)
  obtain ⟨j0,hj0,hl0,hne0⟩ := hleft
  refine ⟨l',_,_,rfl,⟨h.x,⟨h.oi.o1,h.oi.o2,h.oi.o3,h.oi.o4,fun z hz => ?_,h.oi.sl,fun i hi hl => ?_,fun i hi hm => ?_,fun z hz => ?_,?_⟩,⟨f2,h.di.tl,⟨j0,hj0,without_t.2 ⟨hl0,hne0⟩⟩,fun i hi hl => ?_,fun hl => h.di.lgl (without_t.1 hl).1,fun b hb j hj hl c hc => ?_,fun hl c hc => ?_,fun hl r hr => ?_⟩,⟨h.mi.len,fun i hi => ?_,h.mi.size,h.mi.region,h.mi.hasLog,h.mi.dl,?_,fun hl r hr hd => hset r (h.mi.d (without_t.1 hl).1 r hr hd)⟩,fun b hb hx => ?_,h.sm,by rw [f6]; exact h.dn⟩,rfl,l2,f7,f4⟩
  · obtain ⟨i,h1,h2,h3⟩ := h.oi.st z hz
    exact ⟨i,h1,h2,without_f.2 (.inl h3)⟩
  · rw [f3]
    rcases without_f.1 hl with z | z
    · rcases h.oi.nl i hi z with q | q | q
      · exact .inl q
      · refine .inr (.inl ?_); split
        · rfl
        · exact q
      · exact .inr (.inr q)
    · rw [if_pos z]; exact .inr (.inl rfl)
  · rw [f3] at hm
    split at hm
    · rename_i e; exact (l3 _).2 (.inr (by omega))
    · exact (l3 _).2 (.inl (h.oi.lo i hi hm))
  · rcases (l3 z).1 hz with q | q
    · obtain ⟨i,h1,h2,h3⟩ := h.oi.lr z q
      exact ⟨i,h1,h2,without_f.2 (.inl h3)⟩
    · exact ⟨k,hk,q,without_f.2 (.inr rfl)⟩
  · exact ⟨rfl,by show l'.length ≤ 10; omega⟩
  · obtain ⟨z1,z2⟩ := without_t.1 hl
    rw [f3,if_neg z2]; exact h.di.miss i hi z1
  · rw [f5] at hc; exact h.di.cnd b hb j hj (without_t.1 hl).1 c hc
  · rw [f5] at hc; exact h.di.head (without_t.1 hl).1 c hc
  · rcases h.di.c (without_t.1 hl).1 r hr with z | z
    · exact .inl (hset r z)
    · exact .inr (hone r z)
  · obtain ⟨g1,g2,g3⟩ := h.mi.leg i hi
    refine ⟨g1,g2,?_⟩
    rw [f3]
    by_cases e : i = k
    · rw [if_pos e]
      refine .inr ⟨without_f.2 (.inr e),?_⟩
      rcases g3 with ⟨-,z, -⟩ | ⟨-,z | ⟨-,z⟩⟩
      · exact .inr ⟨rfl,.inl z⟩
      · exact .inl z
      · exact .inr ⟨rfl,z⟩
    · rw [if_neg e]
      rcases g3 with ⟨z1,z2⟩ | ⟨z1,z2⟩
      · exact .inl ⟨without_t.2 ⟨z1,e⟩,z2⟩
      · exact .inr ⟨without_f.2 (.inl z1),z2⟩
  · rw [f3]
    rcases h.mi.log with ⟨z1,z2,z3,g,z4,z5⟩ | ⟨z1,z2⟩
    · by_cases e : C.L = k
      · rw [if_pos e]
        exact .inr ⟨without_f.2 (.inr e),.inr ⟨hlgk e.symm,rfl,.inl z2,g,z4,z5.lok⟩⟩
      · rw [if_neg e]
        exact .inl ⟨without_t.2 ⟨z1,e⟩,z2,z3,g,z4,hli g z5⟩
    · refine .inr ⟨without_f.2 (.inl z1),?_⟩
      rcases z2 with z2 | ⟨z2,z3,z4⟩
      · exact .inl z2
      · refine .inr ⟨z2,?_,z4⟩
        split
        · rfl
        · exact z3
  · obtain ⟨k1,k2⟩ := h.kn b hb hx
    exact ⟨k1,fun j hj hl => by rw [f4]; exact k2 j hj (without_t.1 hl).1⟩
theorem ostep (h : UP C K lv s o m (fun _ => False)) (hnf : NF m) (hK : K ≤ 35000) (S : volumegroupmake_Step) :
    ∃ o' m' s',volumegroupmake_Owner_Step o S s = some (true,o',s') ∧ UP C (K + 1200) lv s' o' m' (fun _ => False) ∧ NF m' ∧ (m.copied = 0 → m'.copied = 0) := by
  have hs := C.hs
  obtain ⟨a,ha1,ha,hlo,hhi⟩ := at_ok S.At (n := C.sz) (by omega) (by omega)
  unfold volumegroupmake_Owner_Step
  rw [h.di.tl,grd_t (decide_eq_true (by omega)),grd_t (inI64_of (by omega)),grd_t (decide_eq_true (by omega)),ha1]
  simp only [lt]
  have fin : ∀ {e : Int} {o1 : OwnS} {s1 : ArrS},(e ≠ 5 ∧ (∃ m',UP C (K + 80) lv s1 o1 m' (fun _ => False) ∧ NF m' ∧ m'.copied = m.copied) ∨ e = 5 ∧ DN C (K + 80) lv s1 o1) →
      ∃ o' m' s',(Option.bind (some (e,true,o1,s1)) fun a16 =>
        if (¬ a16.2.1 = true) then
          some (false,a16.2.2.1,a16.2.2.2)
        else
          if (a16.1 ≠ (5 : Int)) then
            some (true,a16.2.2.1,a16.2.2.2)
          else
            Option.bind (volumegroupmake_Owner_Power a16.2.2.1 S.Keep a16.2.2.2) fun r28 =>
            if r28.1 = true then
              Option.bind (volumegroupmake_Owner_Settled r28.2.1 r28.2.2) fun r30 =>
              some (r30.1,r30.2.1,r30.2.2)
            else
              some (false,r28.2.1,r28.2.2)) = some (true,o',s') ∧ UP C (K + 1200) lv s' o' m' (fun _ => False) ∧ NF m' ∧ (m.copied = 0 → m'.copied = 0) := by
    intro e o1 s1 hc
    simp only [Option.bind_some]
    rw [if_neg (by simp)]
    rcases hc with ⟨h5,m',h1,h2,h3⟩ | ⟨rfl,h1⟩
    · rw [if_pos (show ((e,true,o1,s1) : Int × Bool × OwnS × ArrS).1 ≠ 5 from h5)]
      exact ⟨o1,m',s1,rfl,h1.mono (by omega),h2,fun z => h3.trans z⟩
    · rw [if_neg (by simp)]
      obtain ⟨o2,m2,s2,p1,p2,p3,p4⟩ := opower h1 (kp := S.Keep) (by omega)
      rw [p1]; simp only [Option.bind_some]
      rw [if_pos trivial]
      unfold volumegroupmake_Owner_Settled
      obtain ⟨o3,m3,s3,q1,q2,q3,q4⟩ := oall_s p2 p3 (by omega)
      rw [q1]; simp only [Option.bind_some]
      exact ⟨o3,m3,s3,rfl,q2.up.mono (by omega),q3,fun _ => q4.trans p4⟩
  by_cases k0 : S.Kind = 0
  · rw [if_pos k0]
    obtain ⟨e,o1,s1,w1, -,w2⟩ := owrite (v := S.Value) h hnf ha (by omega)
    rw [w1]; simp only [Option.bind_some]
    refine fin ?_
    rcases w2 with ⟨rfl, -,m',z1,z2, -,z4⟩ | ⟨rfl, -,z⟩
    · exact .inl ⟨by decide,m',z1,z2,z4⟩
    · exact .inr ⟨rfl,z⟩
  · rw [if_neg k0]
    by_cases k1 : S.Kind = 1
    · rw [if_pos k1]
      obtain ⟨o1,m1,w1,w2,w3, -, -,w6⟩ := oread (q := false) h hnf ha (by omega)
      rw [w1]; simp only [Option.bind_some]
      exact fin (e := 0) (.inl ⟨by decide,m1,w2.mono (by omega),w3,w6⟩)
    · rw [if_neg k1]
      by_cases k2 : S.Kind = 2
      · rw [if_pos k2]
        obtain ⟨e,o1,s1,w1, -,w2⟩ := oflush (p := fun _ => False) h hnf (by omega)
        rw [w1]; simp only [Option.bind_some]
        refine fin ?_
        rcases w2 with ⟨rfl, -,⟨m',z1,z2, -,z4⟩, -⟩ | ⟨rfl, -,z⟩
        · exact .inl ⟨by decide,m',z1,z2,z4⟩
        · exact .inr ⟨rfl,z⟩
      · rw [if_neg k2]
        by_cases k3 : S.Kind = 3
        · rw [if_pos k3]
          exact fin (.inr ⟨rfl,h.dnn.mono (by omega)⟩)
        · rw [if_neg k3]
          by_cases k4 : S.Kind = 4
          · rw [if_pos k4,grd_t (inI64_of (by omega)),grd_t (inI64_of (by omega))]
            exact fin (e := 0) (.inl ⟨by decide,m,(h.fuse).mono (by omega),hnf,rfl⟩)
          · rw [if_neg k4]
            exact fin (e := 0) (.inl ⟨by decide,m,h.mono (by omega),hnf,rfl⟩)
theorem oplay_l1 {l : List volumegroupmake_Step} (hl : l.length ≤ 24) {lose : Int} {lv0 : LV} (hk : k ≤ C.L) (hlgk : k = C.L → C.lg = true) (hlost : lv0.lost.length ≤ 8) (hleft : 0 ≤ lose → ∃ j,j < C.L ∧ lv0 j = true ∧ j ≠ k) : ∀ (N i : Nat) (lv : LV) (o : OwnS) (m : MirS) (s : ArrS),l.length - i < N → i ≤ l.length → UP C (1000 + 1200 * i) lv s o m (fun _ => False) → NF m → ((i : Int) ≤ lose → lv = lv0) →
    ∃ lv' o' m' s',volumegroupmake_Owner_Play_l1 l lose (k : Int) (k : Int) N o s i = some (.inl (o',s')) ∧ UP C 30000 lv' s' o' m' (fun _ => False) ∧ NF m' ∧ (lose < 0 → lv' = lv)
  | 0,_,_,_,_,_,h,_,_,_,_ => absurd h (by omega)
  | N + 1,i,lv,o,m,s,h,hi,hu,hnf,hlo => by
    have hrec := fun lv o m s => oplay_l1 hl (lose := lose) hk hlgk hlost hleft N (i + 1) lv o m s
    have hun : volumegroupmake_Owner_Play_l1 l lose (k : Int) (k : Int) (N + 1) o s i = volumegroupmake_Owner_Play_l1_b l lose (k : Int) (k : Int) (volumegroupmake_Owner_Play_l1 l lose (k : Int) (k : Int) N) o s i := rfl
    rw [hun]
    unfold volumegroupmake_Owner_Play_l1_b
    by_cases hlt : i < l.length
    · rw [if_pos (by omega)]
      by_cases hlz : (i : Int) = lose
      · obtain rfl := hlo (by omega)
        obtain ⟨l',o1,s1,e1,e2,e3, -⟩ := olose hu hk (hleft (by omega)) hlgk hlost
        rw [if_pos hlz,e1]; simp only [Option.bind_some]
        rw [if_neg (by simp)]
        obtain ⟨o2,m2,s2,g1,g2,g3, -⟩ := ostep e2 hnf (by omega) (l.getD i ⟨0,0,0,0⟩)
        rw [g1]; simp only [Option.bind_some]
        rw [if_neg (by simp)]
        obtain ⟨lv',o3,m3,s3,q1,q2,q3,q4⟩ := hrec (without lv k l') o2 m2 s2 (by omega) (by omega) (g2.mono (by omega)) g3 (fun z => by omega)
        exact ⟨lv',o3,m3,s3,q1,q2,q3,fun z => by omega⟩
      · rw [if_neg hlz]
        obtain ⟨o2,m2,s2,g1,g2,g3, -⟩ := ostep hu hnf (by omega) (l.getD i ⟨0,0,0,0⟩)
        rw [g1]; simp only [Option.bind_some]
        rw [if_neg (by simp)]
        obtain ⟨lv',o3,m3,s3,q1,q2,q3,q4⟩ := hrec lv o2 m2 s2 (by omega) (by omega) (g2.mono (by omega)) g3 (fun z => hlo (by omega))
        exact ⟨lv',o3,m3,s3,q1,q2,q3,q4⟩
    · rw [if_neg (by omega)]
      exact ⟨lv,o,m,s,rfl,hu.mono (by omega),hnf,fun _ => rfl⟩
theorem oplay {l : List volumegroupmake_Step} (hl : l.length ≤ 24) {lose : Int} {lv0 : LV} (hk : k ≤ C.L) (hlgk : k = C.L → C.lg = true) (hlost : lv0.lost.length ≤ 8) (hleft : 0 ≤ lose → ∃ j,j < C.L ∧ lv0 j = true ∧ j ≠ k) {o1 : OwnS}
    (hb : volumegroupmake_Owner_Begin o s = some (true,o1)) (hu : UP C 1000 lv0 s o1 m (fun _ => False)) (hnf : NF m) :
    ∃ lv' o' m' s',volumegroupmake_Owner_Play o l lose (k : Int) (k : Int) s = some (true,o',s') ∧ UP C 40000 lv' s' o' m' (fun _ => False) ∧ NF m' ∧ s'.fuse = 0 ∧ (lose < 0 → lv' = lv0) ∧ m'.copied = 0 := by
  have hF := fuel_big
  have hs := C.hs
  unfold volumegroupmake_Owner_Play
  rw [hb]; simp only [Option.bind_some]
  rw [if_neg (by rw [hu.di.tl]; rintro (z | z); exact z trivial; omega)]
  obtain ⟨lv1,o2,m2,s2,p1,p2,p3,p4⟩ := oplay_l1 hl hk hlgk hlost hleft FUEL 0 lv0 o1 m s (by omega) (by omega) hu hnf (fun _ => rfl)
  rw [p1,seqO_inl,grd_t (inI64_of (by omega))]
  have p5 := p2.fuse (n := ((0 : Int)).toNat)
  rw [if_neg (by rw [p5.dn]; decide)]
  obtain ⟨o3,m3,q1,q2,q3, -⟩ := oall_u (q := false) p5 p3 (by omega)
  rw [q1]; simp only [Option.bind_some]
  rw [if_pos trivial]
  obtain ⟨o4,m4,s4,r1,r2,r3,r4⟩ := opower q2.dnn (kp := 0) (by omega)
  rw [r1]; simp only [Option.bind_some]
  rw [if_pos trivial]
  obtain ⟨o5,m5,s5,t1,t2,t3,t4⟩ := oall_s r2 r3 (by omega)
  rw [t1]; simp only [Option.bind_some]
  rw [if_pos trivial]
  obtain ⟨o6,m6,u1,u2,u3, -, -,u6⟩ := oall_u (q := true) t2.up t3 (by omega)
  rw [u1]; simp only [Option.bind_some]
  exact ⟨lv1,o6,m6,s5,rfl,u2.mono (by omega),u3,t2.fz,p4,u6.trans (t4.trans r4)⟩
end
end Go.Proofs
namespace Go.Proofs
open Go.VG
def wordsL (n : Nat) (seed : UInt64) : List UInt64 := (List.range n).map fun j => seed + to_u64 ((j : Nat) : Int) * (11400714819323198485 : UInt64)
@[simp] theorem wordsL_length {n : Nat} {seed : UInt64} : (wordsL n seed).length = n := by simp [wordsL]
theorem words_l1 {n : Nat} {seed : UInt64} (hn : n ≤ 1000000) : ∀ (N i : Nat) (acc : List UInt64),n - i < N → i ≤ n → acc = wordsL i seed →
    volumegroupmake_Words_l1 (n : Int) seed N acc i = some (wordsL n seed)
  | 0,_,_,h,_,_ => absurd h (by omega)
  | N + 1,i,acc,h,hi,ha => by
    show volumegroupmake_Words_l1_b _ _ _ _ _ = _
    unfold volumegroupmake_Words_l1_b
    subst ha
    by_cases hlt : i < n
    · rw [if_pos (by omega),grd_t (inLen_of (by simp; omega)),grd_t (inN64_of (by omega))]
      refine words_l1 hn N (i + 1) _ (by omega) (by omega) ?_
      simp [wordsL,List.range_succ]
    · rw [if_neg (by omega)]
      have : i = n := by omega
      rw [this]
theorem words_eq {n : Nat} {seed : UInt64} (hn : n ≤ 1000000) : volumegroupmake_Words (n : Int) seed = some (wordsL n seed) := by
  unfold volumegroupmake_Words
  have hF := fuel_big
  generalize FUEL = N at hF ⊢
  rw [words_l1 hn N 0 [] (by omega) (by omega) (by simp [wordsL])]; rfl
end Go.Proofs
namespace Go.Proofs
open Go.VG
theorem awake21 : volumegrouplaw21_awake = some true := by kernel_rfl
theorem u8mod {n k : UInt8} (hk : 0 < k.toNat) : (n % k).toNat < k.toNat := by rw [UInt8.toNat_mod]; exact Nat.mod_lt _ hk
def CM (n : UInt8) : MC where
  L := 2 + (n % 2).toNat
  sz := 1 + ((n / 2) % 12).toNat
  rg := 1 + ((n / 24) % 4).toNat
  lg := decide (((128 : UInt8).toNat : Int) ≤ (n.toNat : Int))
  hL := by have := @u8mod n 2 (by decide); have e : (2 : UInt8).toNat = 2 := rfl; omega
  hs := by have := @u8mod (n / 2) 12 (by decide); have e : (12 : UInt8).toNat = 12 := rfl; omega
  hr := by have := @u8mod (n / 24) 4 (by decide); have e : (4 : UInt8).toNat = 4 := rfl; omega
structure St0 (C : MC) (ws : List UInt64) (s : ArrS) : Prop where
  ok : ArrOk C.ns 10 s
  dn : s.down = false
  fuse : s.fuse = 0
  miss : ∀ e,miss s e = false
  wl : ws.length = C.sz
  now : ∀ i a,i < C.L → a < C.sz → now s i a = ws.getD a 0
  cand : ∀ i a,i ≤ C.L → a < C.ns.getD i 0 → cand s i a = [Go.Proofs.now s i a]
  head : Go.Proofs.now s C.L 0 = headL C.R
  bits : Go.Proofs.now s C.L 1 = 0
def imsM (C : MC) (ws : List UInt64) : List (List UInt64) := List.replicate C.L ws ++ [List.replicate 3 0]
section
variable {C : MC} {ws : List UInt64}
theorem lens_imsM (hw : ws.length = C.sz) : lensN (imsM C ws) = C.ns := by
  unfold lensN imsM MC.ns
  rw [List.map_append,List.map_replicate,hw]; rfl
theorem imsM_leg {i : Nat} (h : i < C.L) : (imsM C ws).getD i [] = ws := by
  unfold imsM
  simp only [List.getD,List.getElem?_append,List.length_replicate,h,if_true,List.getElem?_replicate]; rfl
theorem now_mkS {ims : List (List UInt64)} {i a : Nat} : now (mkS ims) i a = (ims.getD i []).getD a 0 ∧ cand (mkS ims) i a = [(ims.getD i []).getD a 0] := by
  constructor
  · simp only [now,nowL,mkS,List.getD,List.getElem?_map]; cases ims[i]? <;> rfl
  · show dur (mkS ims) i a :: pendR [] i a = _
    rw [pendR_nil]
    congr 1
    simp only [dur,durL,mkS,List.getD,List.getElem?_map]; cases ims[i]? <;> rfl
theorem begun_l1 {n : UInt8} (hC : C.L = 2 + (n % 2).toNat) : ∀ (N i : Nat),C.L - i < N → i ≤ C.L → volumegrouplaw21_begun_l1 n ws N (List.replicate i ws) i = some (List.replicate C.L ws)
  | 0,_,h,_ => absurd h (by omega)
  | N + 1,i,h,hi => by
    have hu : volumegrouplaw21_begun_l1 n ws (N + 1) (List.replicate i ws) i = volumegrouplaw21_begun_l1_b n ws (volumegrouplaw21_begun_l1 n ws N) (List.replicate i ws) i := rfl
    have hL := C.hL
    rw [hu]
    unfold volumegrouplaw21_begun_l1_b
    rw [← hC]
    by_cases hlt : i < C.L
    · rw [if_pos (by omega),grd_t (inLen_of (by simp; omega)),grd_t (inN64_of (by omega))]
      have e : List.replicate i ws ++ [ws] = List.replicate (i + 1) ws := by rw [List.replicate_succ']
      rw [e]
      exact begun_l1 hC N (i + 1) (by omega) (by omega)
    · rw [if_neg (by omega)]
      have : i = C.L := by omega
      rw [this]
theorem start0 (hw : ws.length = C.sz) : ∃ t,regionlog_Format (xL C.L 3) (C.R : Int) (mkS (imsM C ws)) = some (0,t) ∧ St0 C ws t := by
  have hR := C.hR
  have hsz : InSz C.ns (mkS (imsM C ws)) := by rw [← lens_imsM hw]; exact inSz_mkS
  have hok : ArrOk C.ns 0 (mkS (imsM C ws)) := ⟨hsz,Nat.le_refl _,coh_mkS,rfl⟩
  have hgood : Good (mkS (imsM C ws)) := good_mkS
  obtain ⟨t,h1,h2⟩ := format_eq (d := C.L) (m := 3) logL MC.log (by decide) hok rfl (hgood.miss C.L) rfl (R := C.R) ⟨hR.1,by omega⟩ (by rw [MC.nW1]; omega) (by decide)
  refine ⟨t,h1,⟨h2.ok.mono (by rw [MC.nW1]; omega),h2.dn,h2.fuse,fun e => by rw [h2.miss]; exact hgood.miss e,hw,fun i a hi ha => ?_,fun i a hi ha => ?_,?_,?_⟩⟩
  · rw [(h2.other i a (by omega) (by rw [MC.len]; omega) (by rw [MC.leg hi]; exact ha)).1,now_mkS.1,imsM_leg hi]
  · by_cases e : i = C.L
    · subst e
      exact h2.cand a (by rw [← MC.log (C := C)]; exact ha)
    · have hi' : i < C.L := by omega
      rw [MC.leg hi'] at ha
      obtain ⟨g1,g2⟩ := h2.other i a e (by rw [MC.len]; omega) (by rw [MC.leg hi']; exact ha)
      rw [g2,g1,now_mkS.1,now_mkS.2]
  · rw [h2.now 0 (by decide),if_pos rfl]
  · rw [h2.now 1 (by decide),if_neg (by decide),if_pos (by rw [MC.nW1]; decide)]
theorem begun_eq (n : UInt8) : ∃ a,volumegrouplaw21_begun n = some (some a,(CM n).L,(CM n).sz,(CM n).rg,(CM n).lg,wordsL (CM n).sz 5) ∧ St0 (CM n) (wordsL (CM n).sz 5) a := by
  have hL := (CM n).hL
  have hs := (CM n).hs
  have hr := (CM n).hr
  have hR := (CM n).hR
  have e1 : 2 + (n % 2).toNat = (CM n).L := rfl
  have e2 : 1 + ((n / 2) % 12).toNat = (CM n).sz := rfl
  have e3 : 1 + ((n / 24) % 4).toNat = (CM n).rg := rfl
  have e4 : decide (((128 : UInt8).toNat : Int) ≤ (n.toNat : Int)) = (CM n).lg := rfl
  unfold volumegrouplaw21_begun
  rw [e1,e2,e3,e4,grd_t (inN64_of (by omega)),grd_t (inN64_of (by omega)),grd_t (inN64_of (by omega)),words_eq (by omega)]; simp only [Option.bind_some]
  have hbl : volumegrouplaw21_begun_l1 n (wordsL (CM n).sz 5) FUEL [] 0 = some (List.replicate (CM n).L (wordsL (CM n).sz 5)) := by
    have hF := fuel_big
    exact begun_l1 (C := CM n) rfl FUEL 0 (by omega) (by omega)
  rw [hbl]; simp only [Option.bind_some]
  generalize hC : CM n = C at hL hs hr hR ⊢
  have him : List.replicate C.L (wordsL C.sz 5) ++ [List.replicate 3 0] = imsM C (wordsL C.sz 5) := rfl
  have hlen : (imsM C (wordsL C.sz 5)).length = C.L + 1 := by simp [imsM]
  rw [grd_t (inLen_of (by simp; omega)),him,loaded_eq (by omega) (fun im hm => by
    unfold imsM at hm
    rcases List.mem_append.1 hm with hm | hm
    · rw [(List.mem_replicate.1 hm).2,wordsL_length]; omega
    · rw [List.mem_singleton.1 hm]; simp)]; simp only [Option.bind_some,Option.elim_some]
  have hsz : InSz C.ns (mkS (imsM C (wordsL C.sz 5))) := by rw [← lens_imsM (C := C) (ws := wordsL C.sz 5) wordsL_length]; exact inSz_mkS
  have hcnt : (mkS (imsM C (wordsL C.sz 5))).drv.length = C.L + 1 := by rw [hsz.cnt]; exact MC.len
  have hsL : (mkS (imsM C (wordsL C.sz 5))).size C.L = 3 := by rw [hsz.size C.L logL,MC.log]
  rw [spans_eq (by omega) (fun i hi => by
    rcases Nat.lt_or_ge i C.L with x | x
    · rw [hsz.size i (by rw [MC.len]; omega),MC.leg x]; omega
    · have : i = C.L := by omega
      subst this; rw [hsL]; omega)]; simp only [Option.bind_some,spansA_length,hcnt]
  rw [grd_t (inN64_of (by omega)),if_neg (by simp),refRegions_eq]; simp only [Option.bind_some]
  have hx : (spansA (mkS (imsM C (wordsL C.sz 5)))).getD C.L dv0 = xL C.L 3 := by rw [spansA_getD (by omega),hsL]; rfl
  obtain ⟨t,t1,t2⟩ := start0 (C := C) (ws := wordsL C.sz 5) wordsL_length
  rw [hx,t1]; simp only [Option.bind_some]
  rw [if_neg (by simp)]
  exact ⟨t,rfl,t2⟩
def lvA (C : MC) : LV := ⟨fun i => decide (i < C.L) || (decide (i = C.L) && C.lg),[]⟩
theorem lvA_leg {i : Nat} (h : i < C.L) : (lvA C) i = true := by show (decide (i < C.L) || _) = true; rw [decide_eq_true h]; rfl
theorem lvA_log : (lvA C) C.L = C.lg := by show (decide (C.L < C.L) || (decide (C.L = C.L) && C.lg)) = C.lg; rw [decide_eq_false (Nat.lt_irrefl _),decide_eq_true rfl]; cases C.lg <;> rfl
def own0 (C : MC) (ws : List UInt64) : OwnS := ⟨(C.L : Int),(C.sz : Int),(C.rg : Int),C.lg,none,trkT ws,[],[]⟩
theorem trkT_at {a : Nat} (h : a < ws.length) : (trkT ws).getD a s0 = mkSec (ws.getD a 0) := by
  unfold trkT
  simp only [List.getD,List.getElem?_map,List.getElem?_eq_getElem h]; rfl
theorem St0.di {s : ArrS} {lv : LV} (h : St0 C ws s) (hex : ∃ i,i < C.L ∧ lv i = true) (hlg : lv C.L = true → C.lg = true) : DI C 10 s (trkT ws) lv := by
  refine ⟨h.ok,by unfold trkT; simp [h.wl],hex,fun i _ _ => h.miss i,hlg,fun a ha i hi _ c hc => ?_,fun _ c hc => ?_,fun _ r _ => .inr ⟨fun b => ws.getD b 0,fun b hb _ i hi _ c hc => ?_⟩⟩
  · rw [h.cand i a (by omega) (by rw [MC.leg hi]; exact ha),List.mem_singleton,h.now i a hi ha] at hc
    rw [trkT_at (by rw [h.wl]; exact ha),hc]; exact List.mem_singleton.2 rfl
  · rw [h.cand C.L 0 (Nat.le_refl _) (by rw [MC.log]; decide),List.mem_singleton,h.head] at hc
    exact hc
  · rw [h.cand i b (by omega) (by rw [MC.leg hi]; exact hb),List.mem_singleton,h.now i b hi hb] at hc
    exact hc
theorem St0.begin {s : ArrS} {lv : LV} {o : OwnS} (h : St0 C ws s) (hoi : OI C 10 lv s o) (hT : o.T = trkT ws) (hex : ∃ i,i < C.L ∧ lv i = true) (hlg : lv C.L = true → C.lg = true) :
    ∃ o' m,volumegroupmake_Owner_Begin o s = some (true,o') ∧ UP C 1000 lv s o' m (fun _ => False) ∧ NF m ∧ m.copied = 0 ∧ o'.T = trkT ws ∧ ∀ r,r < C.R → (m.dirty.getD r false = true ↔ (lv C.L = true → tb (Go.Proofs.now s C.L 1) r = true)) := by
  have hdi := h.di hex hlg
  obtain ⟨o',m,b1,b2,b3⟩ := obegin hoi hdi.miss hdi.ok h.dn hex hlg (by omega) hdi.head (fun _ => h.cand C.L 1 (Nat.le_refl _) (by rw [MC.log]; decide)) (by rw [hT]; exact hdi.tl)
  have hT' : o'.T = trkT ws := b3.T.trans hT
  have hs := C.hs
  refine ⟨o',m,b1,⟨b2,b3.oi.mono (by omega),by rw [hT']; exact hdi.mono (by omega),b3.mi,fun a ha _ => ?_,fun a ha => ?_,h.dn⟩,b3.nf,b3.copied,hT',b3.dirty⟩
  · rw [hT',trkT_at (by rw [h.wl]; exact ha)]
    exact ⟨rfl,fun j hj _ => h.now j a hj ha⟩
  · rw [hT',trkT_at (by rw [h.wl]; exact ha)]
    show ([_] : List UInt64).length ≤ _
    simp
theorem St0.oi {s : ArrS} (h : St0 C ws s) : OI C 10 (lvA C) s (own0 C ws) :=
  ⟨rfl,rfl,rfl,rfl,fun k hk => (by cases hk),by simp [own0],fun i hi hl => by
    rcases Nat.lt_or_ge i C.L with x | x
    · rw [lvA_leg x] at hl; cases hl
    · have : i = C.L := by omega
      subst this
      rw [lvA_log] at hl
      exact .inr (.inr ⟨rfl,hl⟩),fun i _ hm => (by rw [h.miss] at hm; cases hm),fun k hk => (by cases hk),⟨rfl,by simp [lvA]⟩⟩
theorem few_eq {l : List volumegroupmake_Step} : volumegroupmake_Few l = some (decide (l.length ≤ 24)) := by
  unfold volumegroupmake_Few
  congr 1
  exact decide_eq_decide.2 (by omega)
end
end Go.Proofs
namespace Go.Proofs
open Go.VG
section
variable {C : MC} {K K' a i k : Nat} {s t u y : ArrS} {lv : LV} {m m' x : MirS} {w v : UInt64} {o : OwnS} {ex p : Nat → Prop} {T : List Sec}
theorem Ev.mono {q : Nat → Prop} (h : Ev C lv s t p) (hpq : ∀ r,p r → q r) : Ev C lv s t q := ⟨h.miss,h.dead,fun hl c hc r hr hb => (h.bit hl c hc r hr hb).imp (hpq r) id⟩
end
end Go.Proofs
namespace Go.Proofs
open Go.VG
def drtyL (d : List Bool) (n : Nat) : List Int := ((List.range n).filter fun i => d.getD i false).map fun i => ((i : Nat) : Int)
theorem drtyL_succ {d : List Bool} {n : Nat} : drtyL d (n + 1) = drtyL d n ++ if d.getD n false = true then [((n : Nat) : Int)] else [] := by
  unfold drtyL
  rw [List.range_succ,List.filter_append,List.map_append]
  congr 1
  by_cases h : d.getD n false = true
  · rw [if_pos h,List.filter_cons_of_pos (by simpa using h)]; rfl
  · rw [if_neg h,List.filter_cons_of_neg (by simpa using h)]; rfl
theorem drtyL_le {d : List Bool} {n : Nat} : (drtyL d n).length ≤ n := by
  unfold drtyL
  rw [List.length_map]
  exact Nat.le_trans (List.length_filter_le _ _) (by simp)
theorem drtyL_mem {d : List Bool} {n k : Nat} (hk : k < (drtyL d n).length) : ∃ r : Nat,r < n ∧ d.getD r false = true ∧ (drtyL d n).getD k 0 = r := by
  have h1 : (drtyL d n).getD k 0 ∈ drtyL d n := by
    simp only [List.getD,List.getElem?_eq_getElem hk,Option.getD_some]; exact List.getElem_mem hk
  unfold drtyL at h1
  obtain ⟨r,hr,e⟩ := List.mem_map.1 h1
  have h2 := List.mem_filter.1 hr
  exact ⟨r,List.mem_range.1 h2.1,h2.2,e.symm⟩
theorem mdirty_l1 {m : MirS} (hd : m.dirty.length ≤ 1000) : ∀ (N i : Nat),m.dirty.length - i < N → i ≤ m.dirty.length → mirror_Mirror_Dirty_l1 m N i (drtyL m.dirty i) = some (drtyL m.dirty m.dirty.length)
  | 0,_,h,_ => absurd h (by omega)
  | N + 1,i,h,hi => by
    have hu : mirror_Mirror_Dirty_l1 m (N + 1) i (drtyL m.dirty i) = mirror_Mirror_Dirty_l1_b m (mirror_Mirror_Dirty_l1 m N) i (drtyL m.dirty i) := rfl
    rw [hu]
    unfold mirror_Mirror_Dirty_l1_b
    by_cases hlt : i < m.dirty.length
    · have hrec := mdirty_l1 hd N (i + 1) (by omega) (by omega)
      rw [drtyL_succ] at hrec
      have hle := @drtyL_le m.dirty i
      rw [if_pos (by omega)]
      by_cases hb : m.dirty.getD i false = true
      · rw [if_pos hb] at hrec
        rw [if_pos hb,grd_t (inLen_of (by omega)),hrec]
      · rw [if_neg hb,List.append_nil] at hrec
        rw [if_neg hb,hrec]
    · rw [if_neg (by omega)]
      have : i = m.dirty.length := by omega
      rw [this]
theorem mdirty_eq {m : MirS} {s : ArrS} (hd : m.dirty.length ≤ 1000) : mirror_Mirror_Dirty m s = some (drtyL m.dirty m.dirty.length) := by
  unfold mirror_Mirror_Dirty
  have hF := fuel_big
  have h := mdirty_l1 hd FUEL 0 (by omega) (by omega)
  have e : drtyL m.dirty 0 = [] := rfl
  rw [e] at h
  rw [h]; rfl
end Go.Proofs
