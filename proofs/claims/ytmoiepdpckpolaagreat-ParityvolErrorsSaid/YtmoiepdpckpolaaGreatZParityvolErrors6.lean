/- ParityvolErrors, part 6 of the proof: LOwn, POwnL, PQv6, PQe0, PQe1, PQv7, PSmS, PKeep, LOwn2, PQv8, LBeg19, PQv9. -/
import Derived.WalkKit
import Derived.Orders
import Derived.RangeFuncLeaves
import Derived.RangeFuncCalls
import Derived.TacticsIn
import Derived.Handy
import Derived.OrdersHeld
import Derived.OrdersIn
import Derived.Below
import Derived.OpenShut
import Derived.Deep.Slices
import Derived.Scope
import Derived.KernelRfl
import Derived.RangeFuncRecord
import Derived.ChangeKeysEq
import Derived.ProofKit
import Derived.ShutString
import Derived.ChangeOld
import Derived.Test.YtmoiepdpckpolaaGreatChecked
import Derived.Test.YtmoiepdpckpolaaGreatRows
import Derived.Test.YtmoiepdpckpolaaGreatZParityvolErrors5
set_option linter.unusedSimpArgs false
set_option linter.unusedVariables false
set_option maxRecDepth 20000
set_option maxHeartbeats 4000000
namespace Go.Proofs
open Go.VG
def volumegroupmake_has_l1_b (l : List Int) (n_1 : Int) (rec : Nat → Option ((Unit) ⊕ Bool)) (x6 : Nat) : Option ((Unit) ⊕ Bool) :=
  if (((x6 : Nat) : Int) < ((l.length : Nat) : Int)) then
    if ((l.getD x6 0) = n_1) then
      some (.inr true)
    else
      rec (x6 + 1)
  else
    some (.inl ())
def volumegroupmake_has_l1 (l : List Int) (n_1 : Int) : Nat → Nat → Option ((Unit) ⊕ Bool)
  | 0, _ => none
  | n + 1, x6 => volumegroupmake_has_l1_b l n_1 (volumegroupmake_has_l1 l n_1 n) x6
def volumegroupmake_has (l : List Int) (n_1 : Int) : Option (Bool) :=
  seqO (volumegroupmake_has_l1 l n_1 FUEL 0) fun a5 =>
  some false
theorem L_volumegroupmake_has {W : World} {Al : HP} {vl : Value} {l : List Int} {n_1 : Int} {r : Bool} (rl : Reads Al tyI vl l) (h : volumegroupmake_has l n_1 = some r) :
    CSpec Tryz.prog W 98 [vl, .int .i64 n_1] [Al] (fun x : Unit => .bool r) (fun _ => True) (fun x F => Al :: F) := by
 refine CSpec.of_body Tryz.func98 rfl Tryz.ntmps98 rfl fun F => ?_
 show CJ _ _ _ _ _ _ (_ :: F)
 unfold volumegroupmake_has at h
 refine CJ_pure (len_of rl del0) fun hlen1 => sR <| oA rfl rfl <| nT <| CJ_seq <| sR <| oA rfl rfl <| nT ?_
 obtain ⟨y4, hl2, hK3⟩ := seq_e h
 refine CJ_cutT (X := Unit) [4, 5, 6, 7, 8, 9, 10, 11, 12, 13, 14, 15, 16, 17] (fun _ => ([] : Slots)) (fun _ R => R) (fun _ => y4 = .inl ()) Dels.nil ?_ ?_
 ·
  refine CJ_block <| CJ_loopR (X := Nat × Nat) [4, 5, 6, 7, 8, 9, 10, 11, 12, 13, 14, 15, 16, 17] (fun ⟨n, x6⟩ => ([(5, .int .i64 (((x6 : Nat) : Int)))] : Slots)) (fun ⟨n, x6⟩ R => R) (fun ⟨n, x6⟩ => volumegroupmake_has_l1 l n_1 n x6 = some y4) (fun ⟨n, x6⟩ => n) ⟨FUEL, 0⟩ ?_ ?_ eR ?_
  · exact hl2
  · exact ⟨rfl, True.intro⟩
  ·
   rintro ⟨n, x6⟩ h
   cases n with
   | zero => exact none_e h
   | succ n => ?_
   replace h : volumegroupmake_has_l1_b l n_1 (volumegroupmake_has_l1 l n_1 n) x6 = some y4 := h
   unfold volumegroupmake_has_l1_b at h
   show CJ _ _ _ _ _ (([(5, .int .i64 (((x6 : Nat) : Int)))] : Slots) ++ forget _ _) (_)
   refine CJ_seq <| sR <| oM rfl rfl <| oM rfl rfl <| oV (V_len rfl foc0 rl Tryz.runUnderlying35) rfl <| oP (P_lss (a := ((x6 : Nat) : Int)) (b := ((l.length : Nat) : Int)) rfl rfl) rfl <| nT <| CJ_condP rfl bT_dec (fun hg1 => ?_) (fun hg1 => ?_)
   ·
    replace h := ite_t hg1 h
    refine kT <| CJ_seq <| CJ_block <| sR <| oM rfl rfl <| oM rfl rfl <| oV (V_index (i := x6) rfl rfl rfl (by omega) foc0 rl Tryz.runUnderlying35 Tryz.sizeOf3) rfl <| oV (V_loadE rfl rfl (by omega) foc0 rl rfl rfl Tryz.isAgg3) rfl <| oM rfl rfl <| oP (P_eql (a := (l.getD x6 0)) (b := n_1) rfl rfl) rfl <| nT <| CJ_condP rfl bT_dec (fun hg2 => ?_) (fun hg2 => ?_)
    ·
     replace h := ite_t hg2 h
     refine sR <| oA rfl rfl <| nT <| CJ_ret <| QJ_block_ret <| QJ_then_ret <| QJ_round_ret <| QJ_block_ret <| QJ_then_ret ?_
     have hE := Option.some.inj h
     replace hE := seq_inr hK3 hE.symm
     subst hE
     exact fE (res1 Tryz.results98 rfl) () eR
    ·
     replace h := ite_f hg2 h
     exact CJ_skip <| QJ_block_normal <| QJ_then <| CJ_region <| oM rfl rfl <| oP (PJ_eq (P_add (a := ((x6 : Nat) : Int)) (b := (1 : Int)) rfl rfl (by omega)) rfl) rfl <| oA rfl rfl <| RJ_nil <| nR ⟨n, (x6 + 1)⟩ h ⟨rfl, True.intro⟩ eR
   ·
    replace h := ite_f hg1 h
    exact CJ_exit <| QJ_then_exit <| QJ_round_exit <| QJ_block_here <| cR () (Option.some.inj h).symm True.intro eR
 ·
  rintro _ hy7
  replace h := seq_inl hK3 hy7
  show CJ _ _ _ _ _ (([] : Slots) ++ forget _ _) (_)
  refine sR <| oA rfl rfl <| nT <| CJ_ret ?_
  cases h
  exact fE (res1 Tryz.results98 rfl) () eR
def volumegroupmake_add_l1_b (l : List Int) (rec : Int → (List Int) → Nat → Option (Int × (List Int))) (x10 : Int) (x11 : List Int) (x13 : Nat) : Option (Int × (List Int)) :=
  if (((x13 : Nat) : Int) < ((l.length : Nat) : Int)) then
    Option.bind ((
      if (((0 : Int) ≤ x10) ∧ (x10 < (l.getD x13 0))) then
        grd (inLen (x11.length + 1)) <|
        some (((-1 : Int), (x11 ++ [x10])))
      else
        some (x10, x11) : Option (Int × (List Int)))) fun a33 =>
    if ((l.getD x13 0) = a33.1) then
      grd (inLen (a33.2.length + 1)) <|
      rec (-1 : Int) ((a33.2 ++ [(l.getD x13 0)])) (x13 + 1)
    else
      grd (inLen (a33.2.length + 1)) <|
      rec a33.1 ((a33.2 ++ [(l.getD x13 0)])) (x13 + 1)
  else
    some (x10, x11)
def volumegroupmake_add_l1 (l : List Int) : Nat → Int → (List Int) → Nat → Option (Int × (List Int))
  | 0, _, _, _ => none
  | n + 1, x10, x11, x13 => volumegroupmake_add_l1_b l (volumegroupmake_add_l1 l n) x10 x11 x13
def volumegroupmake_add (l : List Int) (n_1 : Int) : Option ((List Int)) :=
  Option.bind (volumegroupmake_add_l1 l FUEL n_1 ([]) 0) fun a9 =>
  if ((0 : Int) ≤ a9.1) then
    grd (inLen (a9.2.length + 1)) <|
    some (a9.2 ++ [a9.1])
  else
    some a9.2
theorem L_volumegroupmake_add {W : World} {Al : HP} {vl : Value} {l : List Int} {n_1 : Int} {r : (List Int)} (rl : Reads Al tyI vl l) (h : volumegroupmake_add l n_1 = some r) :
    CSpec Tryz.prog W 58 [vl, .int .i64 n_1] [Al] (fun x : Sl3 => x.v) (fun _ => True) (fun x F => Al :: sl tyI x.v r :: F) := by
 refine CSpec.of_body Tryz.func58 rfl Tryz.ntmps58 rfl fun F => ?_
 show CJ _ _ _ _ _ _ (_ :: F)
 unfold volumegroupmake_add at h
 refine CJ_pure (len_of rl del0) fun hlen1 => sR <| oA rfl rfl <| nT <| sR <| oA rfl rfl <| nT <| CJ_seq <| sR <| oA rfl rfl <| nT <| CJ_ent (fun h hh => sl_nil (t := tyI) h hh) ?_
 obtain ⟨y5, hl3, hK4⟩ := bind_c h
 refine CJ_cutT (X := (Int × (List Int)) × Sl3) [1, 5, 6, 7, 8, 9, 10, 11, 12, 13, 14, 15, 16, 17, 18, 19, 20, 21, 22, 23, 24, 25, 26, 27, 28, 29, 30, 31, 32, 33, 34, 35, 36, 37, 38, 39] (fun ⟨a9, hd8⟩ => ([(1, .int .i64 a9.1), (5, hd8.v)] : Slots)) (fun ⟨a9, hd8⟩ R => sl tyI hd8.v a9.2 :: R) (fun ⟨a9, hd8⟩ => y5 = a9) (Dels.cons del0 Dels.nil) ?_ ?_
 ·
  refine CJ_block <| CJ_loopR (X := Nat × Int × (List Int) × Nat × Sl3) [1, 5, 6, 7, 8, 9, 10, 11, 12, 13, 14, 15, 16, 17, 18, 19, 20, 21, 22, 23, 24, 25, 26, 27, 28, 29, 30, 31, 32, 33, 34, 35, 36, 37, 38, 39] (fun ⟨n, x10, x11, x13, hd12⟩ => ([(1, .int .i64 x10), (5, hd12.v), (6, .int .i64 (((x13 : Nat) : Int)))] : Slots)) (fun ⟨n, x10, x11, x13, hd12⟩ R => sl tyI hd12.v x11 :: R) (fun ⟨n, x10, x11, x13, hd12⟩ => volumegroupmake_add_l1 l n x10 x11 x13 = some y5) (fun ⟨n, x10, x11, x13, hd12⟩ => n) ⟨FUEL, n_1, [], 0, ⟨none, 0, 0⟩⟩ ?_ ?_ eR ?_
  · exact hl3
  · exact ⟨rfl, rfl, rfl, True.intro⟩
  ·
   rintro ⟨n, x10, x11, x13, hd12⟩ h
   cases n with
   | zero => exact none_e h
   | succ n => ?_
   replace h : volumegroupmake_add_l1_b l (volumegroupmake_add_l1 l n) x10 x11 x13 = some y5 := h
   unfold volumegroupmake_add_l1_b at h
   show CJ _ _ _ _ _ (([(1, .int .i64 x10), (5, hd12.v), (6, .int .i64 (((x13 : Nat) : Int)))] : Slots) ++ forget _ _) (sl tyI hd12.v x11 :: _)
   refine lC del0 fun hlen14 => CJ_seq <| sR <| oM rfl rfl <| oM rfl rfl <| oV (V_len rfl foc1 rl Tryz.runUnderlying35) rfl <| oP (P_lss (a := ((x13 : Nat) : Int)) (b := ((l.length : Nat) : Int)) rfl rfl) rfl <| nT <| CJ_condP rfl bT_dec (fun hg1 => ?_) (fun hg1 => ?_)
   ·
    replace h := ite_t hg1 h
    refine kT <| CJ_seq <| CJ_block <| CJ_seq <| sR <| oM rfl rfl <| oP (P_geq (a := x10) (b := (0 : Int)) rfl rfl) rfl <| oM rfl rfl <| RJ_mbT rfl rfl rfl (fun hG15 => have hP16 : ((0 : Int) ≤ x10) := (bT_dec).1 hG15; VJ_P (P_move rfl)) <| RJ_mbT rfl rfl rfl (fun hG17 => have hP18 : ((0 : Int) ≤ x10) := (bT_dec).1 hG17; VJ_P (P_move rfl)) <| RJ_mbT rfl rfl rfl (fun hG19 => have hP20 : ((0 : Int) ≤ x10) := (bT_dec).1 hG19; V_index (i := x13) (mbx hG19 rfl) (mbx hG19 rfl) rfl (by omega) foc1 rl Tryz.runUnderlying35 Tryz.sizeOf3) <| RJ_mbT rfl rfl rfl (fun hG21 => have hP22 : ((0 : Int) ≤ x10) := (bT_dec).1 hG21; V_loadE (mbx hG21 rfl) rfl (by omega) foc1 rl rfl rfl Tryz.isAgg3) <| RJ_mbT rfl rfl rfl (fun hG23 => have hP24 : ((0 : Int) ≤ x10) := (bT_dec).1 hG23; VJ_P (P_move rfl)) <| RJ_mbT rfl rfl rfl (fun hG25 => have hP26 : ((0 : Int) ≤ x10) := (bT_dec).1 hG25; VJ_P (P_gtr (a := (l.getD x13 0)) (b := x10) (mbx hG25 rfl) (mbx hG25 rfl))) <| oP (P_pickAnd rfl (fun hh => mbx hh rfl) rfl) rfl <| nT ?_
    obtain ⟨y29, hl27, hK28⟩ := bind_c h
    refine CJ_cutT (X := (Int × (List Int)) × Sl3) [1, 5, 23, 24, 25, 26] (fun ⟨a33, hd32⟩ => ([(1, .int .i64 a33.1), (5, hd32.v)] : Slots)) (fun ⟨a33, hd32⟩ R => sl tyI hd32.v a33.2 :: R) (fun ⟨a33, hd32⟩ => y29 = a33) (Dels.cons del0 Dels.nil) ?_ ?_
    ·
     have h := hl27
     refine CJ_condP rfl (bT_and bT_dec bT_dec) (fun hg2 => ?_) (fun hg2 => ?_)
     ·
      replace h := ite_t hg2 h
      refine CJ_region <| oM rfl rfl <| oM rfl rfl <| oO <| O_buildSlice rfl (bs_35_1_0 _) rfl fun b34 => ?_
      obtain ⟨hg3, h⟩ := grd_Le h
      exact oO <| O_append (t := tyI) (bytes := 8) rfl rfl del1 foc0 (Reads.lit (t := tyI) (ys := [x10]) rfl rfl (by decide) (by decide) rfl) Tryz.underlying35 ok_tyI (apl (m := 1) (b := 8) hg3 (by decide)).1 (apl (m := 1) (b := 8) hg3 (by decide)).2 rfl fun p36 c37 => oA rfl rfl <| oA rfl rfl <| RJ_nil <| cR ⟨((-1 : Int), (x11 ++ [x10])), ⟨p36, (x11 ++ [x10]).length, c37⟩⟩ (Option.some.inj h).symm ⟨rfl, rfl, True.intro⟩ (t0_ (t1_ (eD eR)))
     ·
      replace h := ite_f hg2 h
      exact CJ_skip <| cR ⟨(x10, x11), hd12⟩ (Option.some.inj h).symm ⟨rfl, rfl, True.intro⟩ eR
    ·
     rintro ⟨a33, hd32⟩ hy38
     replace h := bindK_at hK28 hy38
     show CJ _ _ _ _ _ (([(1, .int .i64 a33.1), (5, hd32.v)] : Slots) ++ forget _ _) (sl tyI hd32.v a33.2 :: _)
     refine CJ_seq <| sR <| oM rfl rfl <| oM rfl rfl <| oV (V_index (i := x13) rfl rfl rfl (by omega) foc1 rl Tryz.runUnderlying35 Tryz.sizeOf3) rfl <| oV (V_loadE rfl rfl (by omega) foc1 rl rfl rfl Tryz.isAgg3) rfl <| oM rfl rfl <| oP (P_eql (a := (l.getD x13 0)) (b := a33.1) rfl rfl) rfl <| nT <| CJ_condP rfl bT_dec (fun hg4 => ?_) (fun hg4 => ?_)
     ·
      replace h := ite_t hg4 h
      refine CJ_region <| oA rfl rfl <| nT <| CJ_region <| oM rfl rfl <| oM rfl rfl <| oM rfl rfl <| oV (V_index (i := x13) rfl rfl rfl (by omega) foc1 rl Tryz.runUnderlying35 Tryz.sizeOf3) rfl <| oV (V_loadE rfl rfl (by omega) foc1 rl rfl rfl Tryz.isAgg3) rfl <| oO <| O_buildSlice rfl (bs_35_1_0 _) rfl fun b39 => ?_
      obtain ⟨hg5, h⟩ := grd_Le h
      exact oO <| O_append (t := tyI) (bytes := 8) rfl rfl del1 foc0 (Reads.lit (t := tyI) (ys := [(l.getD x13 0)]) rfl rfl (by decide) (by decide) rfl) Tryz.underlying35 ok_tyI (apl (m := 1) (b := 8) hg5 (by decide)).1 (apl (m := 1) (b := 8) hg5 (by decide)).2 rfl fun p41 c42 => oA rfl rfl <| RJ_nil <| QJ_block_normal <| QJ_then <| CJ_region <| oM rfl rfl <| oP (PJ_eq (P_add (a := ((x13 : Nat) : Int)) (b := (1 : Int)) rfl rfl (by omega)) rfl) rfl <| oA rfl rfl <| RJ_nil <| nR ⟨n, (-1 : Int), (a33.2 ++ [(l.getD x13 0)]), (x13 + 1), ⟨p41, (a33.2 ++ [(l.getD x13 0)]).length, c42⟩⟩ h ⟨rfl, rfl, rfl, True.intro⟩ (t0_ (t1_ (eD eR)))
     ·
      replace h := ite_f hg4 h
      refine kT <| CJ_region <| oM rfl rfl <| oM rfl rfl <| oM rfl rfl <| oV (V_index (i := x13) rfl rfl rfl (by omega) foc1 rl Tryz.runUnderlying35 Tryz.sizeOf3) rfl <| oV (V_loadE rfl rfl (by omega) foc1 rl rfl rfl Tryz.isAgg3) rfl <| oO <| O_buildSlice rfl (bs_35_1_0 _) rfl fun b43 => ?_
      obtain ⟨hg6, h⟩ := grd_Le h
      exact oO <| O_append (t := tyI) (bytes := 8) rfl rfl del1 foc0 (Reads.lit (t := tyI) (ys := [(l.getD x13 0)]) rfl rfl (by decide) (by decide) rfl) Tryz.underlying35 ok_tyI (apl (m := 1) (b := 8) hg6 (by decide)).1 (apl (m := 1) (b := 8) hg6 (by decide)).2 rfl fun p45 c46 => oA rfl rfl <| RJ_nil <| QJ_block_normal <| QJ_then <| CJ_region <| oM rfl rfl <| oP (PJ_eq (P_add (a := ((x13 : Nat) : Int)) (b := (1 : Int)) rfl rfl (by omega)) rfl) rfl <| oA rfl rfl <| RJ_nil <| nR ⟨n, a33.1, (a33.2 ++ [(l.getD x13 0)]), (x13 + 1), ⟨p45, (a33.2 ++ [(l.getD x13 0)]).length, c46⟩⟩ h ⟨rfl, rfl, rfl, True.intro⟩ (t0_ (t1_ (eD eR)))
   ·
    replace h := ite_f hg1 h
    exact CJ_exit <| QJ_then_exit <| QJ_round_exit <| QJ_block_here <| cR ⟨(x10, x11), hd12⟩ (Option.some.inj h).symm ⟨rfl, rfl, True.intro⟩ eR
 ·
  rintro ⟨a9, hd8⟩ hy47
  replace h := bindK_at hK4 hy47
  show CJ _ _ _ _ _ (([(1, .int .i64 a9.1), (5, hd8.v)] : Slots) ++ forget _ _) (sl tyI hd8.v a9.2 :: _)
  refine lC del0 fun hlen48 => CJ_seq <| sR <| oM rfl rfl <| oP (P_geq (a := a9.1) (b := (0 : Int)) rfl rfl) rfl <| nT <| CJ_condP rfl bT_dec (fun hg7 => ?_) (fun hg7 => ?_)
  ·
   replace h := ite_t hg7 h
   refine CJ_region <| oM rfl rfl <| oM rfl rfl <| oO <| O_buildSlice rfl (bs_35_1_0 _) rfl fun b49 => ?_
   obtain ⟨hg8, h⟩ := grd_Le h
   refine oO <| O_append (t := tyI) (bytes := 8) rfl rfl del1 foc0 (Reads.lit (t := tyI) (ys := [a9.1]) rfl rfl (by decide) (by decide) rfl) Tryz.underlying35 ok_tyI (apl (m := 1) (b := 8) hg8 (by decide)).1 (apl (m := 1) (b := 8) hg8 (by decide)).2 rfl fun p51 c52 => oA rfl rfl <| nT <| sR <| oM rfl rfl <| oA rfl rfl <| nT <| CJ_ret ?_
   cases h
   exact fE (res1 Tryz.results58 rfl) ⟨p51, (a9.2 ++ [a9.1]).length, c52⟩ (t2_ (t0_ (eD eR)))
  ·
   replace h := ite_f hg7 h
   refine kT <| sR <| oM rfl rfl <| oA rfl rfl <| nT <| CJ_ret ?_
   cases h
   exact fE (res1 Tryz.results58 rfl) hd8 (t1_ eR)
def volumegroupmake_Owner_drop_l1_b (s : ArrS) (r7 : (List Int)) (rec : OwnS → Nat → Option ((OwnS) ⊕ (Bool × OwnS))) (x16 : OwnS) (x17 : Nat) : Option ((OwnS) ⊕ (Bool × OwnS)) :=
  if (((x17 : Nat) : Int) < ((r7.length : Nat) : Int)) then
    Option.bind (volumegroupmake_has x16.Lost (r7.getD x17 0)) fun r22 =>
    if (¬ r22 = true) then
      some (.inr (false, x16))
    else
      Option.elim x16.X (
        none) fun o25 =>
      Option.bind (parityvol_Volume_Drop o25 (r7.getD x17 0) s) fun r26 =>
      if (r26.1 ≠ (0 : Int)) then
        some (.inr ((false, { x16 with X := (some r26.2) })))
      else
        Option.bind (volumegroupmake_add x16.Stale (r7.getD x17 0)) fun r32 =>
        grd (inN64 (x17 + 1)) <|
        rec ((⟨x16.Open_1, (some r26.2), x16.T, r32, x16.Lost⟩ : OwnS)) (x17 + 1)
  else
    some (.inl x16)
def volumegroupmake_Owner_drop_l1 (s : ArrS) (r7 : (List Int)) : Nat → OwnS → Nat → Option ((OwnS) ⊕ (Bool × OwnS))
  | 0, _, _ => none
  | n + 1, x16, x17 => volumegroupmake_Owner_drop_l1_b s r7 (volumegroupmake_Owner_drop_l1 s r7 n) x16 x17
def volumegroupmake_Owner_drop (o : OwnS) (s : ArrS) : Option (Bool × OwnS) :=
  Option.elim o.X (
    none) fun o6 =>
  Option.bind (parityvol_Volume_Failed o6 s) fun r7 =>
  seqO (volumegroupmake_Owner_drop_l1 s r7 FUEL ({ o with X := (some o6) }) 0) fun a15 =>
  some (((decide ((0 : Int) < ((r7.length : Nat) : Int))), a15))
theorem L_volumegroupmake_Owner_drop {W : World} {bo : Nat} {bs : Nat} {o : OwnS} {s : ArrS} {r : Bool × OwnS} (h : volumegroupmake_Owner_drop o s = some r) :
    CSpec Tryz.prog W 50 [ptr bo 0] [OwnP bs bo o, Arr bs s] (fun x : Unit => .bool r.1) (fun _ => True) (fun x F => OwnP bs bo r.2 :: Arr bs s :: F) := by
 refine CSpec.of_body Tryz.func50 rfl Tryz.ntmps50 rfl fun F => ?_
 show CJ _ _ _ _ _ _ (_ :: _ :: F)
 unfold volumegroupmake_Owner_drop at h
 refine sR <| oA rfl rfl <| nT <| CJ_seq <| CJ_entX (Ent.transX (t0_ eR) (OwnP_open (l := o))) fun oc1 => lC del5 fun hlen3 => lC del6 fun hlen4 => CJ_region <| oM rfl rfl <| oP (P_nilCheck rfl) rfl <| oP (P_fieldAddr rfl ⟨_, _, _, Tryz.runUnderlying37, rfl, rfl, Tryz.sizeOf33, rfl⟩) rfl <| oV (V_load rfl foc0 rfl Tryz.isAgg33) rfl ?_
 rcases opt_e h with ⟨ht5, h⟩ | ⟨o6, ht5, h⟩
 ·
  rw [ht5]
  exact RJ_ent (t0_ (t0_ (t0_ (t1_ (t1_ (t1_ (t1_ (eD eR)))))))) <| none_e h
 ·
  rw [ht5]
  refine RJ_ent (Ent.takeC (A' := VolP bs oc1.2.2.1 o6) del3 rfl eR) ?_
  obtain ⟨r7, hr8, h⟩ := bind_e h
  refine oO <| O_callI rfl (ICall.of (fun w => by kernel_rfl) Tryz.call34 (L_parityvol_Volume_Failed hr8)) rfl (Dels.cons del0 (Dels.cons del6 Dels.nil)) rfl fun X9 _ => oA rfl rfl <| RJ_nil <| QJ_ent (Ent.trans (t3_ (t3_ (t3_ (t0_ (t2_ (t2_ (t2_ eR))))))) (OwnP_mk (v0 := o.Open_1) (v1 := (some o6)) (v2 := o.T) (v3 := o.Stale) (v4 := o.Lost) (h0 := oc1.1) (h1 := oc1.2.1) (h2 := oc1.2.2.1) (h3 := oc1.2.2.2.1) (h4 := oc1.2.2.2.2.1) (h5 := oc1.2.2.2.2.2))) <| QJ_then <| CJ_seq <| sR <| oA rfl rfl <| nT ?_
  obtain ⟨y13, hl11, hK12⟩ := seq_e h
  refine CJ_cutT (X := OwnS) [2, 4, 10, 11, 12, 13, 14, 15, 16, 17, 18, 19, 20, 21, 22, 23, 24, 25, 26, 27, 28, 29, 30, 31, 32, 33, 34, 35, 36, 37, 38, 39, 40, 41, 42, 43, 44, 45, 46, 47, 48, 49, 50, 51] (fun a15 => ([] : Slots)) (fun a15 R => OwnP bs bo a15 :: R) (fun a15 => y13 = .inl a15) (Dels.cons del0 Dels.nil) ?_ ?_
  ·
   refine CJ_block <| CJ_loopR (X := Nat × OwnS × Nat) [2, 4, 10, 11, 12, 13, 14, 15, 16, 17, 18, 19, 20, 21, 22, 23, 24, 25, 26, 27, 28, 29, 30, 31, 32, 33, 34, 35, 36, 37, 38, 39, 40, 41, 42, 43, 44, 45, 46, 47, 48, 49, 50, 51] (fun ⟨n, x16, x17⟩ => ([(4, .int .i64 (((x17 : Nat) : Int)))] : Slots)) (fun ⟨n, x16, x17⟩ R => OwnP bs bo x16 :: R) (fun ⟨n, x16, x17⟩ => volumegroupmake_Owner_drop_l1 s r7 n x16 x17 = some y13) (fun ⟨n, x16, x17⟩ => n) ⟨FUEL, { o with X := (some o6) }, 0⟩ ?_ ?_ eR ?_
   · exact hl11
   · exact ⟨rfl, True.intro⟩
   ·
    rintro ⟨n, x16, x17⟩ h
    cases n with
    | zero => exact none_e h
    | succ n => ?_
    replace h : volumegroupmake_Owner_drop_l1_b s r7 (volumegroupmake_Owner_drop_l1 s r7 n) x16 x17 = some y13 := h
    unfold volumegroupmake_Owner_drop_l1_b at h
    show CJ _ _ _ _ _ (([(4, .int .i64 (((x17 : Nat) : Int)))] : Slots) ++ forget _ _) (OwnP bs bo x16 :: _)
    refine CJ_seq <| sR <| oM rfl rfl <| oM rfl rfl <| oV (V_len rfl foc2 (Reads.sl _ _ _) Tryz.runUnderlying35) rfl <| oP (P_lss (a := ((x17 : Nat) : Int)) (b := ((r7.length : Nat) : Int)) rfl rfl) rfl <| nT <| CJ_condP rfl bT_dec (fun hg1 => ?_) (fun hg1 => ?_)
    ·
     replace h := ite_t hg1 h
     refine kT <| CJ_seq <| CJ_block <| CJ_seq <| CJ_seq <| CJ_entX (Ent.transX (t0_ eR) (OwnP_open (l := x16))) fun oc18 => lC del5 fun hlen20 => lC del6 fun hlen21 => AJ_startH 2097152 (by kernel_rfl) rfl <| aN 0 1 rfl rfl (P_move rfl) rfl <| aN 1 3 rfl rfl (P_nilCheck rfl) rfl <| aN 2 7 rfl rfl (P_fieldAddr rfl ⟨_, _, _, Tryz.runUnderlying37, rfl, rfl, Tryz.sizeOf35, rfl⟩) rfl <| aV 3 15 rfl rfl (GY_none rfl) eR (V_load rfl foc0 rfl Tryz.isAgg35) rfl <| aN 4 31 rfl rfl (P_move rfl) rfl <| aN 5 63 rfl rfl (P_move rfl) rfl <| aV 6 127 rfl rfl (GY_none rfl) eR (V_index (i := x17) rfl rfl rfl (by omega) foc8 (Reads.sl _ _ _) Tryz.runUnderlying35 Tryz.sizeOf3) rfl <| aV 7 255 rfl rfl (GY_none rfl) eR (V_loadE rfl rfl (by omega) foc8 (Reads.sl _ _ _) rfl rfl Tryz.isAgg3) rfl ?_
     obtain ⟨r22, hr23, h⟩ := bind_e h
     refine AJ_op 8 511 rfl (by kernel_rfl) rfl (GY_none rfl) <| O_call (L_volumegroupmake_has (Reads.sl _ _ _) hr23) rfl Tryz.call98 (Dels.cons del6 Dels.nil) rfl fun _ _ => ⟨fun _ => (t1_ (t1_ (t1_ (t1_ (t1_ (t1_ eR)))))), ?_⟩
     refine aN 9 1023 rfl rfl (P_not rfl) rfl <| aN 10 2047 rfl rfl (P_move rfl) rfl <| AJ_splitP 26 rfl (bT_not Iff.rfl) (fun hg2B hg2 => ?_) (fun hg2B hg2 => ?_)
     ·
      replace h := ite_t hg2 h
      refine aS 11 4095 rfl rfl (GY_no rfl rfl rfl hg2B) rfl <| aS 12 8191 rfl rfl (GY_no rfl rfl rfl hg2B) rfl <| aS 13 16383 rfl rfl (GY_no rfl rfl rfl hg2B) rfl <| aS 14 32767 rfl rfl (GY_no rfl rfl rfl hg2B) rfl <| aS 15 65535 rfl rfl (GY_no rfl rfl rfl hg2B) rfl <| aS 16 131071 rfl rfl (GY_no rfl rfl rfl hg2B) rfl <| aS 17 262143 rfl rfl (GY_no rfl rfl rfl hg2B) rfl <| aS 18 524287 rfl rfl (GY_no rfl rfl rfl hg2B) rfl <| aS 19 1048575 rfl rfl (GY_no rfl rfl rfl hg2B) rfl <| aS 20 2097151 rfl rfl (GY_no rfl rfl rfl hg2B) rfl <| aS 21 4194303 rfl rfl (GY_no rfl rfl rfl hg2B) rfl <| aS 22 8388607 rfl rfl (GY_no rfl rfl rfl hg2B) rfl <| aN 23 16777215 rfl rfl (P_pickT rfl hg2B rfl) rfl <| AJ_done (by kernel_rfl) <| QJ_ent (Ent.trans (t1_ (t1_ (t1_ (t1_ (t1_ (t1_ eR)))))) (OwnP_mk (v0 := x16.Open_1) (v1 := x16.X) (v2 := x16.T) (v3 := x16.Stale) (v4 := x16.Lost) (h0 := oc18.1) (h1 := oc18.2.1) (h2 := oc18.2.2.1) (h3 := oc18.2.2.2.1) (h4 := oc18.2.2.2.2.1) (h5 := oc18.2.2.2.2.2))) <| QJ_then <| CJ_condT rfl rfl <| sR <| oA rfl rfl <| nT <| CJ_ret <| QJ_then_ret <| QJ_block_ret <| QJ_then_ret <| QJ_round_ret <| QJ_block_ret <| QJ_then_ret ?_
      have hE := Option.some.inj h
      replace hE := seq_inr hK12 hE.symm
      subst hE
      exact fE (res1 Tryz.results50 rfl) () (t0_ (t0_ (eD eR)))
     ·
      replace h := ite_f hg2 h
      refine aP 11 4095 rfl rfl (GY_yes rfl rfl rfl hg2B) (P_move rfl) rfl <| aP 12 8191 rfl rfl (GY_yes rfl rfl rfl hg2B) (P_nilCheck rfl) rfl <| aP 13 16383 rfl rfl (GY_yes rfl rfl rfl hg2B) (P_fieldAddr rfl ⟨_, _, _, Tryz.runUnderlying37, rfl, rfl, Tryz.sizeOf33, rfl⟩) rfl <| aV 14 32767 rfl rfl (GY_yes rfl rfl rfl hg2B) (t1_ (t1_ (t1_ (t1_ (t1_ (t1_ eR)))))) (V_load rfl foc0 rfl Tryz.isAgg33) rfl <| aP 15 65535 rfl rfl (GY_yes rfl rfl rfl hg2B) (P_move rfl) rfl <| aP 16 131071 rfl rfl (GY_yes rfl rfl rfl hg2B) (P_move rfl) rfl <| aV 17 262143 rfl rfl (GY_yes rfl rfl rfl hg2B) (t1_ (t1_ (t1_ (t1_ (t1_ (t1_ eR)))))) (V_index (i := x17) rfl rfl rfl (by omega) foc8 (Reads.sl _ _ _) Tryz.runUnderlying35 Tryz.sizeOf3) rfl <| aV 18 524287 rfl rfl (GY_yes rfl rfl rfl hg2B) (t1_ (t1_ (t1_ (t1_ (t1_ (t1_ eR)))))) (V_loadE rfl rfl (by omega) foc8 (Reads.sl _ _ _) rfl rfl Tryz.isAgg3) rfl ?_
      rcases opt_e h with ⟨ht24, h⟩ | ⟨o25, ht24, h⟩
      ·
       rw [ht24]
       exact none_e h
      ·
       rw [ht24]
       refine AJ_ent (Ent.takeC (A' := VolP bs oc18.2.2.1 o25) del4 rfl eR) <| aP 19 1048575 rfl rfl (GY_yes rfl rfl rfl hg2B) (P_nilCheckI rfl) rfl <| aP 20 2097151 rfl rfl (GY_yes rfl rfl rfl hg2B) (P_move rfl) rfl ?_
       obtain ⟨r26, hr27, h⟩ := bind_e h
       refine AJ_op 21 4194303 rfl (by kernel_rfl) rfl (GY_yes rfl rfl rfl hg2B) <| O_callI rfl (ICall.of (fun w => by kernel_rfl) Tryz.call33 (L_parityvol_Volume_Drop hr27)) rfl (Dels.cons del0 (Dels.cons del6 Dels.nil)) rfl fun _ _ => ⟨fun h => absurd h (by decide), ?_⟩
       refine aP 22 8388607 rfl rfl (GY_yes rfl rfl rfl hg2B) (P_neq (a := r26.1) (b := (0 : Int)) rfl rfl) rfl <| aN 23 16777215 rfl rfl (P_pickF rfl hg2B rfl) rfl <| AJ_done (by kernel_rfl) <| QJ_ent (Ent.trans (t3_ (t3_ (t3_ (t0_ (t2_ (t2_ (t1_ eR))))))) (OwnP_mk (v0 := x16.Open_1) (v1 := (some r26.2)) (v2 := x16.T) (v3 := x16.Stale) (v4 := x16.Lost) (h0 := oc18.1) (h1 := oc18.2.1) (h2 := oc18.2.2.1) (h3 := oc18.2.2.2.1) (h4 := oc18.2.2.2.2.1) (h5 := oc18.2.2.2.2.2))) <| QJ_then <| CJ_condP rfl bT_dec (fun hg3 => ?_) (fun hg3 => ?_)
       ·
        replace h := ite_t hg3 h
        refine sR <| oA rfl rfl <| nT <| CJ_ret <| QJ_then_ret <| QJ_block_ret <| QJ_then_ret <| QJ_round_ret <| QJ_block_ret <| QJ_then_ret ?_
        have hE := Option.some.inj h
        replace hE := seq_inr hK12 hE.symm
        subst hE
        exact fE (res1 Tryz.results50 rfl) () (t0_ (t0_ (eD eR)))
       ·
        replace h := ite_f hg3 h
        refine kT <| CJ_entX (Ent.transX (t0_ eR) (OwnP_open (l := { x16 with X := (some r26.2) }))) fun oc28 => lC del5 fun hlen30 => lC del6 fun hlen31 => AJ_startH 4608 (by kernel_rfl) rfl <| aN 0 1 rfl rfl (P_move rfl) rfl <| aN 1 3 rfl rfl (P_move rfl) rfl <| aN 2 7 rfl rfl (P_nilCheck rfl) rfl <| aN 3 15 rfl rfl (P_fieldAddr rfl ⟨_, _, _, Tryz.runUnderlying37, rfl, rfl, Tryz.sizeOf35, rfl⟩) rfl <| aV 4 31 rfl rfl (GY_none rfl) eR (V_load rfl foc0 rfl Tryz.isAgg35) rfl <| aN 5 63 rfl rfl (P_move rfl) rfl <| aN 6 127 rfl rfl (P_move rfl) rfl <| aV 7 255 rfl rfl (GY_none rfl) eR (V_index (i := x17) rfl rfl rfl (by omega) foc8 (Reads.sl _ _ _) Tryz.runUnderlying35 Tryz.sizeOf3) rfl <| aV 8 511 rfl rfl (GY_none rfl) eR (V_loadE rfl rfl (by omega) foc8 (Reads.sl _ _ _) rfl rfl Tryz.isAgg3) rfl ?_
        obtain ⟨r32, hr33, h⟩ := bind_e h
        refine AJ_op 9 1023 rfl (by kernel_rfl) rfl (GY_none rfl) <| O_call (L_volumegroupmake_add (Reads.sl _ _ _) hr33) rfl Tryz.call58 (Dels.cons del5 Dels.nil) rfl fun X34 _ => ⟨fun h => absurd h (by decide), ?_⟩
        refine aN 10 2047 rfl rfl (P_nilCheck rfl) rfl <| aN 11 4095 rfl rfl (P_fieldAddr rfl ⟨_, _, _, Tryz.runUnderlying37, rfl, rfl, Tryz.sizeOf35, rfl⟩) rfl <| AJ_op 12 8191 rfl (by kernel_rfl) rfl (GY_none rfl) <| O_store rfl rfl foc2 rfl rfl Tryz.sizeOf35 <| ⟨fun h => absurd h (by decide), ?_⟩
        refine AJ_done (by kernel_rfl) <| QJ_ent (Ent.trans (t2_ (t2_ (t2_ (t2_ (t2_ (t1_ (t1_ eR))))))) (OwnP_mk (v0 := x16.Open_1) (v1 := (some r26.2)) (v2 := x16.T) (v3 := r32) (v4 := x16.Lost) (h0 := oc28.1) (h1 := oc28.2.1) (h2 := oc28.2.2.1) (h3 := oc28.2.2.2.1) (h4 := X34) (h5 := oc28.2.2.2.2.2))) <| QJ_block_normal <| QJ_then <| CJ_region <| oM rfl rfl ?_
        obtain ⟨hg4, h⟩ := grd_Ne h
        exact oP (PJ_eq (P_add (a := ((x17 : Nat) : Int)) (b := (1 : Int)) rfl rfl (nat_in hg4)) rfl) rfl <| oA rfl rfl <| RJ_nil <| nR ⟨n, (⟨x16.Open_1, (some r26.2), x16.T, r32, x16.Lost⟩ : OwnS), (x17 + 1)⟩ h ⟨rfl, True.intro⟩ (t0_ (t1_ (t1_ (eD eR))))
    ·
     replace h := ite_f hg1 h
     exact CJ_exit <| QJ_then_exit <| QJ_round_exit <| QJ_block_here <| cR x16 (Option.some.inj h).symm True.intro eR
  ·
   rintro a15 hy36
   replace h := seq_inl hK12 hy36
   show CJ _ _ _ _ _ (([] : Slots) ++ forget _ _) (OwnP bs bo a15 :: _)
   refine sR <| oM rfl rfl <| oV (V_len rfl foc2 (Reads.sl _ _ _) Tryz.runUnderlying35) rfl <| oP (P_gtr (a := ((r7.length : Nat) : Int)) (b := (0 : Int)) rfl rfl) rfl <| oA rfl rfl <| nT <| CJ_ret ?_
   cases h
   exact fE (res1 Tryz.results50 rfl) () (t0_ (t0_ (eD eR)))
def volumegrouplaw19_open_1 (stale : List Int) (p1_v : ArrS) (p2 : Int) : Option ((Option VolS) × Int × ArrS) :=
  Option.bind (volumegroupmake_Spans p1_v) fun r2 =>
  Option.bind (parityvol_Open r2 stale p2 p1_v) fun r8 =>
  Option.elim r8.1 (
    if (r8.2.1 = (0 : Int)) then
      some ((none, (20 : Int), r8.2.2))
    else
      some (none, r8.2.1, r8.2.2)) fun o13 =>
  some (((some o13), r8.2.1, r8.2.2))
theorem L_volumegrouplaw19_open_1 {W : World} {Astale : HP} {vstale : Value} {bp1 : Nat} {bp1_v : Nat} {bp2 : Nat} {stale : List Int} {p1_v : ArrS} {p2 : Int} {r : (Option VolS) × Int × ArrS} (rstale : Reads Astale tyI vstale stale) (h : volumegrouplaw19_open_1 stale p1_v p2 = some r) :
    CSpec Tryz.prog W 97 [vstale, ptr bp1 0, ptr bp2 0] [Astale, blk bp1 30 [ptr bp1_v 0], Arr bp1_v p1_v, blk bp2 3 [.int .i64 p2]] (fun x : Nat => .tuple #[oifc 65 r.1 x, .int .i64 r.2.1]) (fun _ => True) (fun x F => Astale :: blk bp1 30 [ptr bp1_v 0] :: Arr bp1_v r.2.2 :: blk bp2 3 [.int .i64 p2] :: optP (VolP bp1_v x) r.1 :: F) := by
 refine CSpec.of_body Tryz.func97 rfl Tryz.ntmps97 rfl fun F => ?_
 show CJ _ _ _ _ _ _ (_ :: _ :: _ :: _ :: F)
 unfold volumegrouplaw19_open_1 at h
 refine CJ_pure (len_of rstale del0) fun hlen1 => sR <| oA rfl rfl <| oA rfl rfl <| nT <| CJ_seq <| AJ_startH 16 (by kernel_rfl) rfl <| aV 0 1 rfl rfl (GY_none rfl) eR (V_load rfl foc1 rfl Tryz.isAgg30) rfl <| aN 2 5 rfl rfl (P_move rfl) rfl <| aV 3 13 rfl rfl (GY_none rfl) eR (V_load rfl foc3 rfl Tryz.isAgg3) rfl ?_
 obtain ⟨r2, hr3, h⟩ := bind_e h
 refine AJ_op 1 15 rfl (by kernel_rfl) rfl (GY_none rfl) <| O_call (L_volumegroupmake_Spans hr3) rfl Tryz.call24 (Dels.cons del2 Dels.nil) rfl fun X4 _ => ⟨fun _ => (t3_ (t3_ (t0_ (t2_ (eD (eD eR)))))), ?_⟩
 refine AJ_pure (fun h hh => Rs_len (stars_perm (del2 (A := Rs (DevP bp1_v) r2 X4.2)).out h hh)) fun hdl7 => ?_
 obtain ⟨r8, hr9, h⟩ := bind_e h
 refine AJ_op 4 31 rfl (by kernel_rfl) rfl (GY_none rfl) <| O_call (L_parityvol_Open (Reads.sl _ _ _) rstale hr9) rfl Tryz.call26 (Dels.cons del1 (Dels.cons del1 (Dels.cons del1 (Dels.cons del0 Dels.nil)))) rfl fun X10 _ => ⟨fun h => absurd h (by decide), ?_⟩
 refine aN 5 63 rfl rfl (P_move rfl) rfl <| aN 6 127 rfl rfl (P_extract rfl rfl) rfl <| aN 7 255 rfl rfl (P_extract rfl rfl) rfl <| aN 8 511 rfl rfl (P_assign rfl) rfl <| aN 9 1023 rfl rfl (P_assign rfl) rfl <| AJ_done (by kernel_rfl) <| QJ_ent (t2_ (t2_ (t2_ (t2_ (t2_ (eD (eD eR))))))) <| QJ_then <| CJ_seq <| sR <| oM rfl rfl ?_
 rcases opt_e h with ⟨ht12, h⟩ | ⟨o13, ht12, h⟩
 ·
  rw [ht12]
  refine RJ_ent (t0_ (t0_ (t1_ (t1_ (eD eR))))) <| oP (P_eqlNN rfl rfl Tryz.underlying65) rfl <| nT <| CJ_condT rfl rfl <| CJ_seq <| sR <| oM rfl rfl <| oP (P_eql (a := r8.2.1) (b := (0 : Int)) rfl rfl) rfl <| nT <| CJ_condP rfl bT_dec (fun hg1 => ?_) (fun hg1 => ?_)
  ·
   replace h := ite_t hg1 h
   refine CJ_region <| oA rfl rfl <| nT <| sR <| oM rfl rfl <| oA rfl rfl <| oA rfl rfl <| nT <| CJ_ret <| QJ_then_ret ?_
   cases h
   exact fE (res2 Tryz.results97 rfl rfl) 0 (t0_ (t1_ (t0_ (t0_ (Ent.trans (fun h hh => optP_none h hh) <| t0_ eR)))))
  ·
   replace h := ite_f hg1 h
   refine kT <| sR <| oM rfl rfl <| oA rfl rfl <| oA rfl rfl <| nT <| CJ_ret <| QJ_then_ret ?_
   cases h
   exact fE (res2 Tryz.results97 rfl rfl) 0 (t0_ (t1_ (t0_ (t0_ (Ent.trans (fun h hh => optP_none h hh) <| t0_ eR)))))
 ·
  rw [ht12]
  refine RJ_ent (Ent.takeC (A' := VolP bp1_v X10 o13) del2 rfl eR) <| oP (P_eqlPN rfl rfl Tryz.underlying65) rfl <| nT <| CJ_condF rfl rfl <| kT <| sR <| oM rfl rfl <| oP (P_makeIface rfl Tryz.runUnderlying65 (by intro ms h; cases h)) rfl <| oM rfl rfl <| oA rfl rfl <| oA rfl rfl <| nT <| CJ_ret ?_
  cases h
  exact fE (res2 Tryz.results97 rfl rfl) X10 (t1_ (t2_ (t1_ (t1_ eR))))
def volumegroupmake_Owner_Begin_l1_b (rec : OwnS → ArrS → (Option VolS) → Int → Nat → Option ((Option VolS) × Int × OwnS × ArrS)) (x18 : OwnS) (x19 : ArrS) (x20 : Option VolS) (x22 : Int) (x23 : Nat) : Option ((Option VolS) × Int × OwnS × ArrS) :=
  if ((((x23 : Nat) : Int) < ((x18.Lost.length : Nat) : Int)) ∧ (x22 = (18 : Int))) then
    Option.bind (volumegroupmake_add x18.Stale (x18.Lost.getD x23 0)) fun r36 =>
    Option.bind (volumegrouplaw19_open_1 r36 x19 x18.Open_1) fun r44 =>
    rec ({ x18 with Stale := r36 }) r44.2.2 r44.1 r44.2.1 (x23 + 1)
  else
    some (x20, x22, x18, x19)
def volumegroupmake_Owner_Begin_l1 : Nat → OwnS → ArrS → (Option VolS) → Int → Nat → Option ((Option VolS) × Int × OwnS × ArrS)
  | 0, _, _, _, _, _ => none
  | n + 1, x18, x19, x20, x22, x23 => volumegroupmake_Owner_Begin_l1_b (volumegroupmake_Owner_Begin_l1 n) x18 x19 x20 x22 x23
def volumegroupmake_Owner_Begin (o : OwnS) (s : ArrS) : Option (Bool × OwnS × ArrS) :=
  Option.bind (volumegrouplaw19_open_1 o.Stale s o.Open_1) fun r5 =>
  Option.bind (volumegroupmake_Owner_Begin_l1 FUEL o r5.2.2 r5.1 r5.2.1 0) fun a17 =>
  if (a17.2.1 = (0 : Int)) then
    Option.elim a17.1 (
      some (false, { a17.2.2.1 with X := none }, a17.2.2.2)) fun o56 =>
    Option.bind (parityvol_Volume_Size o56 a17.2.2.2) fun r57 =>
    some (((decide (r57 = ((a17.2.2.1.T.length : Nat) : Int))), { a17.2.2.1 with X := (some o56) }, a17.2.2.2))
  else
    some (false, { a17.2.2.1 with X := a17.1 }, a17.2.2.2)
theorem L_volumegroupmake_Owner_Begin {W : World} {bo : Nat} {bs : Nat} {o : OwnS} {s : ArrS} {r : Bool × OwnS × ArrS} (h : volumegroupmake_Owner_Begin o s = some r) :
    CSpec Tryz.prog W 18 [ptr bo 0] [OwnP bs bo o, Arr bs s] (fun x : Unit => .bool r.1) (fun _ => True) (fun x F => OwnP bs bo r.2.1 :: Arr bs r.2.2 :: F) := by
 refine CSpec.of_body Tryz.func18 rfl Tryz.ntmps18 rfl fun F => ?_
 show CJ _ _ _ _ _ _ (_ :: _ :: F)
 unfold volumegroupmake_Owner_Begin at h
 refine sR <| oA rfl rfl <| nT <| CJ_seq <| CJ_entX (Ent.transX (t0_ eR) (OwnP_open (l := o))) fun oc1 => lC del5 fun hlen3 => lC del6 fun hlen4 => AJ_startH 256 (by kernel_rfl) rfl <| aN 0 1 rfl rfl (P_move rfl) rfl <| aN 1 3 rfl rfl (P_nilCheck rfl) rfl <| aN 2 7 rfl rfl (P_fieldAddr rfl ⟨_, _, _, Tryz.runUnderlying37, rfl, rfl, Tryz.sizeOf31, rfl⟩) rfl <| aV 3 15 rfl rfl (GY_none rfl) eR (V_load rfl foc0 rfl Tryz.isAgg31) rfl <| aN 4 31 rfl rfl (P_move rfl) rfl <| aN 5 63 rfl rfl (P_nilCheck rfl) rfl <| aN 6 127 rfl rfl (P_fieldAddr rfl ⟨_, _, _, Tryz.runUnderlying37, rfl, rfl, Tryz.sizeOf35, rfl⟩) rfl <| aV 7 255 rfl rfl (GY_none rfl) eR (V_load rfl foc0 rfl Tryz.isAgg35) rfl ?_
 obtain ⟨r5, hr6, h⟩ := bind_e h
 refine AJ_op 8 511 rfl (by kernel_rfl) rfl (GY_none rfl) <| O_callV rfl rfl (L_volumegrouplaw19_open_1 (Reads.sl _ _ _) hr6) Tryz.call97 (Dels.cons del5 (Dels.cons del1 (Dels.cons del5 (Dels.cons del1 Dels.nil)))) rfl fun X7 _ => ⟨fun h => absurd h (by decide), ?_⟩
 refine aN 9 1023 rfl rfl (P_move rfl) rfl <| aN 10 2047 rfl rfl (P_extract rfl rfl) rfl <| aN 11 4095 rfl rfl (P_extract rfl rfl) rfl <| aN 12 8191 rfl rfl (P_assign rfl) rfl <| aN 13 16383 rfl rfl (P_assign rfl) rfl <| AJ_done (by kernel_rfl) <| QJ_ent (Ent.trans (t5_ (t1_ (t2_ (t3_ (t3_ (t0_ (t2_ eR))))))) (OwnP_mk (v0 := o.Open_1) (v1 := o.X) (v2 := o.T) (v3 := o.Stale) (v4 := o.Lost) (h0 := oc1.1) (h1 := oc1.2.1) (h2 := oc1.2.2.1) (h3 := oc1.2.2.2.1) (h4 := oc1.2.2.2.2.1) (h5 := oc1.2.2.2.2.2))) <| QJ_then <| CJ_seq <| sR <| oA rfl rfl <| nT ?_
 obtain ⟨y11, hl9, hK10⟩ := bind_c h
 refine CJ_cutT (X := ((Option VolS) × Int × OwnS × ArrS) × Nat) [3, 4, 5, 18, 19, 20, 21, 22, 23, 24, 25, 26, 27, 28, 29, 30, 31, 32, 33, 34, 35, 36, 37, 38, 39, 40, 41, 42, 43, 44, 45, 46, 47, 48, 49, 50, 51, 52, 53, 54, 55, 56, 57] (fun ⟨a17, pb13⟩ => ([(3, oifc 65 a17.1 pb13), (4, .int .i64 a17.2.1)] : Slots)) (fun ⟨a17, pb13⟩ R => optP (VolP bs pb13) a17.1 :: OwnP bs bo a17.2.2.1 :: Arr bs a17.2.2.2 :: R) (fun ⟨a17, pb13⟩ => y11 = a17) (Dels.cons del2 (Dels.cons del0 (Dels.cons del0 Dels.nil))) ?_ ?_
 ·
  refine CJ_block <| CJ_loopR (X := Nat × OwnS × ArrS × (Option VolS) × Int × Nat × Nat) [3, 4, 5, 18, 19, 20, 21, 22, 23, 24, 25, 26, 27, 28, 29, 30, 31, 32, 33, 34, 35, 36, 37, 38, 39, 40, 41, 42, 43, 44, 45, 46, 47, 48, 49, 50, 51, 52, 53, 54, 55, 56, 57] (fun ⟨n, x18, x19, x20, x22, x23, pb21⟩ => ([(3, oifc 65 x20 pb21), (4, .int .i64 x22), (5, .int .i64 (((x23 : Nat) : Int)))] : Slots)) (fun ⟨n, x18, x19, x20, x22, x23, pb21⟩ R => OwnP bs bo x18 :: Arr bs x19 :: optP (VolP bs pb21) x20 :: R) (fun ⟨n, x18, x19, x20, x22, x23, pb21⟩ => volumegroupmake_Owner_Begin_l1 n x18 x19 x20 x22 x23 = some y11) (fun ⟨n, x18, x19, x20, x22, x23, pb21⟩ => n) ⟨FUEL, o, r5.2.2, r5.1, r5.2.1, 0, X7⟩ ?_ ?_ eR ?_
  · exact hl9
  · exact ⟨rfl, rfl, rfl, True.intro⟩
  ·
   rintro ⟨n, x18, x19, x20, x22, x23, pb21⟩ h
   cases n with
   | zero => exact none_e h
   | succ n => ?_
   replace h : volumegroupmake_Owner_Begin_l1_b (volumegroupmake_Owner_Begin_l1 n) x18 x19 x20 x22 x23 = some y11 := h
   unfold volumegroupmake_Owner_Begin_l1_b at h
   show CJ _ _ _ _ _ (([(3, oifc 65 x20 pb21), (4, .int .i64 x22), (5, .int .i64 (((x23 : Nat) : Int)))] : Slots) ++ forget _ _) (OwnP bs bo x18 :: Arr bs x19 :: optP (VolP bs pb21) x20 :: _)
   refine CJ_seq <| CJ_seq <| CJ_entX (Ent.transX (t0_ eR) (OwnP_open (l := x18))) fun oc24 => lC del5 fun hlen26 => lC del6 fun hlen27 => CJ_region <| oM rfl rfl <| oM rfl rfl <| oP (P_nilCheck rfl) rfl <| oP (P_fieldAddr rfl ⟨_, _, _, Tryz.runUnderlying37, rfl, rfl, Tryz.sizeOf35, rfl⟩) rfl <| oV (V_load rfl foc0 rfl Tryz.isAgg35) rfl <| oV (V_len rfl foc6 (Reads.sl _ _ _) Tryz.runUnderlying35) rfl <| oP (P_lss (a := ((x23 : Nat) : Int)) (b := ((x18.Lost.length : Nat) : Int)) rfl rfl) rfl <| oM rfl rfl <| RJ_mbT rfl rfl rfl (fun hG28 => have hP29 : (((x23 : Nat) : Int) < ((x18.Lost.length : Nat) : Int)) := (bT_dec).1 hG28; VJ_P (P_move rfl)) <| RJ_mbT rfl rfl rfl (fun hG30 => have hP31 : (((x23 : Nat) : Int) < ((x18.Lost.length : Nat) : Int)) := (bT_dec).1 hG30; VJ_P (P_eql (a := x22) (b := (18 : Int)) (mbx hG30 rfl) rfl)) <| oP (P_pickAnd rfl (fun hh => mbx hh rfl) rfl) rfl <| RJ_nil <| QJ_ent (Ent.trans eR (OwnP_mk (v0 := x18.Open_1) (v1 := x18.X) (v2 := x18.T) (v3 := x18.Stale) (v4 := x18.Lost) (h0 := oc24.1) (h1 := oc24.2.1) (h2 := oc24.2.2.1) (h3 := oc24.2.2.2.1) (h4 := oc24.2.2.2.2.1) (h5 := oc24.2.2.2.2.2))) <| QJ_then <| CJ_condP rfl (bT_and bT_dec bT_dec) (fun hg1 => ?_) (fun hg1 => ?_)
   ·
    replace h := ite_t hg1 h
    refine kT <| CJ_seq <| CJ_block <| CJ_seq <| CJ_entX (Ent.transX (t0_ eR) (OwnP_open (l := x18))) fun oc32 => lC del5 fun hlen34 => lC del6 fun hlen35 => AJ_startH 36864 (by kernel_rfl) rfl <| aN 0 1 rfl rfl (P_move rfl) rfl <| aN 1 3 rfl rfl (P_move rfl) rfl <| aN 2 7 rfl rfl (P_nilCheck rfl) rfl <| aN 3 15 rfl rfl (P_fieldAddr rfl ⟨_, _, _, Tryz.runUnderlying37, rfl, rfl, Tryz.sizeOf35, rfl⟩) rfl <| aV 4 31 rfl rfl (GY_none rfl) eR (V_load rfl foc0 rfl Tryz.isAgg35) rfl <| aN 5 63 rfl rfl (P_move rfl) rfl <| aN 6 127 rfl rfl (P_nilCheck rfl) rfl <| aN 7 255 rfl rfl (P_fieldAddr rfl ⟨_, _, _, Tryz.runUnderlying37, rfl, rfl, Tryz.sizeOf35, rfl⟩) rfl <| aV 8 511 rfl rfl (GY_none rfl) eR (V_load rfl foc0 rfl Tryz.isAgg35) rfl <| aN 9 1023 rfl rfl (P_move rfl) rfl <| aV 10 2047 rfl rfl (GY_none rfl) eR (V_index (i := x23) rfl rfl rfl (by omega) foc6 (Reads.sl _ _ _) Tryz.runUnderlying35 Tryz.sizeOf3) rfl <| aV 11 4095 rfl rfl (GY_none rfl) eR (V_loadE rfl rfl (by omega) foc6 (Reads.sl _ _ _) rfl rfl Tryz.isAgg3) rfl ?_
    obtain ⟨r36, hr37, h⟩ := bind_e h
    refine AJ_op 12 8191 rfl (by kernel_rfl) rfl (GY_none rfl) <| O_call (L_volumegroupmake_add (Reads.sl _ _ _) hr37) rfl Tryz.call58 (Dels.cons del5 Dels.nil) rfl fun X38 _ => ⟨fun h => absurd h (by decide), ?_⟩
    refine aN 13 16383 rfl rfl (P_nilCheck rfl) rfl <| aN 14 32767 rfl rfl (P_fieldAddr rfl ⟨_, _, _, Tryz.runUnderlying37, rfl, rfl, Tryz.sizeOf35, rfl⟩) rfl <| AJ_op 15 65535 rfl (by kernel_rfl) rfl (GY_none rfl) <| O_store rfl rfl foc2 rfl rfl Tryz.sizeOf35 <| ⟨fun h => absurd h (by decide), ?_⟩
    refine AJ_done (by kernel_rfl) <| QJ_ent (Ent.trans (t2_ (t2_ (t2_ (t2_ (t2_ (t1_ (t1_ eR))))))) (OwnP_mk (v0 := x18.Open_1) (v1 := x18.X) (v2 := x18.T) (v3 := r36) (v4 := x18.Lost) (h0 := oc32.1) (h1 := oc32.2.1) (h2 := oc32.2.2.1) (h3 := oc32.2.2.2.1) (h4 := X38) (h5 := oc32.2.2.2.2.2))) <| QJ_then <| CJ_entX (Ent.transX (t0_ eR) (OwnP_open (l := { x18 with Stale := r36 }))) fun oc40 => lC del5 fun hlen42 => lC del6 fun hlen43 => AJ_startH 256 (by kernel_rfl) rfl <| aN 0 1 rfl rfl (P_move rfl) rfl <| aN 1 3 rfl rfl (P_nilCheck rfl) rfl <| aN 2 7 rfl rfl (P_fieldAddr rfl ⟨_, _, _, Tryz.runUnderlying37, rfl, rfl, Tryz.sizeOf31, rfl⟩) rfl <| aV 3 15 rfl rfl (GY_none rfl) eR (V_load rfl foc0 rfl Tryz.isAgg31) rfl <| aN 4 31 rfl rfl (P_move rfl) rfl <| aN 5 63 rfl rfl (P_nilCheck rfl) rfl <| aN 6 127 rfl rfl (P_fieldAddr rfl ⟨_, _, _, Tryz.runUnderlying37, rfl, rfl, Tryz.sizeOf35, rfl⟩) rfl <| aV 7 255 rfl rfl (GY_none rfl) eR (V_load rfl foc0 rfl Tryz.isAgg35) rfl ?_
    obtain ⟨r44, hr45, h⟩ := bind_e h
    refine AJ_op 8 511 rfl (by kernel_rfl) rfl (GY_none rfl) <| O_callV rfl rfl (L_volumegrouplaw19_open_1 (Reads.sl _ _ _) hr45) Tryz.call97 (Dels.cons del5 (Dels.cons del1 (Dels.cons del6 (Dels.cons del1 Dels.nil)))) rfl fun X46 _ => ⟨fun h => absurd h (by decide), ?_⟩
    exact aN 9 1023 rfl rfl (P_move rfl) rfl <| aN 10 2047 rfl rfl (P_extract rfl rfl) rfl <| aN 11 4095 rfl rfl (P_extract rfl rfl) rfl <| aN 12 8191 rfl rfl (P_assign rfl) rfl <| aN 13 16383 rfl rfl (P_assign rfl) rfl <| AJ_done (by kernel_rfl) <| QJ_ent (Ent.trans (t5_ (t1_ (t2_ (t3_ (t3_ (t0_ (t2_ eR))))))) (OwnP_mk (v0 := x18.Open_1) (v1 := x18.X) (v2 := x18.T) (v3 := r36) (v4 := x18.Lost) (h0 := oc40.1) (h1 := oc40.2.1) (h2 := oc40.2.2.1) (h3 := oc40.2.2.2.1) (h4 := oc40.2.2.2.2.1) (h5 := oc40.2.2.2.2.2))) <| QJ_block_normal <| QJ_then <| CJ_region <| oM rfl rfl <| oP (PJ_eq (P_add (a := ((x23 : Nat) : Int)) (b := (1 : Int)) rfl rfl (by omega)) rfl) rfl <| oA rfl rfl <| RJ_nil <| nR ⟨n, { x18 with Stale := r36 }, r44.2.2, r44.1, r44.2.1, (x23 + 1), X46⟩ h ⟨rfl, rfl, rfl, True.intro⟩ (t0_ (t0_ (t0_ (eD (eD eR)))))
   ·
    replace h := ite_f hg1 h
    exact CJ_exit <| QJ_then_exit <| QJ_round_exit <| QJ_block_here <| cR ⟨(x20, x22, x18, x19), pb21⟩ (Option.some.inj h).symm ⟨rfl, rfl, True.intro⟩ (t2_ eR)
 ·
  rintro ⟨a17, pb13⟩ hy48
  replace h := bindK_at hK10 hy48
  show CJ _ _ _ _ _ (([(3, oifc 65 a17.1 pb13), (4, .int .i64 a17.2.1)] : Slots) ++ forget _ _) (optP (VolP bs pb13) a17.1 :: OwnP bs bo a17.2.2.1 :: Arr bs a17.2.2.2 :: _)
  refine CJ_seq <| CJ_entX (Ent.transX (t1_ eR) (OwnP_open (l := a17.2.2.1))) fun oc49 => lC del5 fun hlen51 => lC del6 fun hlen52 => CJ_region <| oM rfl rfl <| oM rfl rfl <| oP (P_nilCheck rfl) rfl <| oP (P_fieldAddr rfl ⟨_, _, _, Tryz.runUnderlying37, rfl, rfl, Tryz.sizeOf33, rfl⟩) rfl <| oO <| O_store rfl rfl foc0 rfl oneCell_oifc Tryz.sizeOf33 <| RJ_nil <| QJ_ent (t0_ (t0_ (t0_ (t1_ (t1_ (t1_ (t1_ (t1_ (eD eR))))))))) <| QJ_then <| CJ_seq <| CJ_entX (Ent.transX (t3_ eR) Trk_open) fun tc53 => CJ_pur fun hS54 => AJ_startH 0 (by kernel_rfl) rfl <| aN 0 1 rfl rfl (P_move rfl) rfl <| aN 1 3 rfl rfl (P_eql (a := a17.2.1) (b := (0 : Int)) rfl rfl) rfl <| aN 2 7 rfl rfl (P_move rfl) rfl <| AJ_splitP 64 rfl bT_dec (fun hg2B hg2 => ?_) (fun hg2B hg2 => ?_)
  ·
   replace h := ite_t hg2 h
   refine aP 3 15 rfl rfl (GY_yes rfl rfl rfl hg2B) (P_move rfl) rfl ?_
   rcases opt_e h with ⟨ht55, h⟩ | ⟨o56, ht55, h⟩
   ·
    rw [ht55]
    refine aP 4 31 rfl rfl (GY_yes rfl rfl rfl hg2B) (P_neqIN rfl Tryz.underlying33) rfl <| aN 5 63 rfl rfl (P_pickT rfl hg2B rfl) rfl <| aN 6 127 rfl rfl (P_move rfl) rfl <| aS 7 255 rfl rfl (GY_no rfl rfl rfl rfl) rfl <| aS 9 767 rfl rfl (GY_no rfl rfl rfl rfl) rfl <| aS 10 1791 rfl rfl (GY_no rfl rfl rfl rfl) rfl <| aS 11 3839 rfl rfl (GY_no rfl rfl rfl rfl) rfl <| aS 12 7935 rfl rfl (GY_no rfl rfl rfl rfl) rfl <| aS 13 16127 rfl rfl (GY_no rfl rfl rfl rfl) rfl <| aS 14 32511 rfl rfl (GY_no rfl rfl rfl rfl) rfl <| aS 15 65279 rfl rfl (GY_no rfl rfl rfl rfl) rfl <| aS 16 130815 rfl rfl (GY_no rfl rfl rfl rfl) rfl <| aS 8 131071 rfl rfl (GY_no rfl rfl rfl rfl) rfl <| aS 17 262143 rfl rfl (GY_no rfl rfl rfl rfl) rfl <| aN 18 524287 rfl rfl (P_pickF rfl rfl rfl) rfl <| aN 19 1048575 rfl rfl (P_assign rfl) rfl <| AJ_done (by kernel_rfl) <| QJ_ent (Ent.trans (t0_ (t0_ (t0_ eR))) (Trk_close hS54)) <| QJ_ent (t0_ (t0_ (t0_ (t0_ (t0_ (t0_ (t1_ (eD eR)))))))) <| QJ_then <| CJ_ret <| QJ_ent (Ent.trans (t1_ (t1_ (t1_ (Ent.trans (fun h hh => optP_none h hh) <| t0_ eR)))) (OwnP_mk (v0 := a17.2.2.1.Open_1) (v1 := none) (v2 := a17.2.2.1.T) (v3 := a17.2.2.1.Stale) (v4 := a17.2.2.1.Lost) (h0 := oc49.1) (h1 := oc49.2.1) (h2 := 0) (h3 := oc49.2.2.2.1) (h4 := oc49.2.2.2.2.1) (h5 := oc49.2.2.2.2.2))) ?_
    cases h
    exact fE (res1 Tryz.results18 rfl) () eR
   ·
    rw [ht55]
    refine AJ_ent (Ent.takeC (A' := VolP bs pb13 o56) del8 rfl eR) <| aP 4 31 rfl rfl (GY_yes rfl rfl rfl hg2B) (P_neqIfN rfl rfl Tryz.underlying33) rfl <| aN 5 63 rfl rfl (P_pickT rfl hg2B rfl) rfl <| aN 6 127 rfl rfl (P_move rfl) rfl <| aP 7 255 rfl rfl (GY_yes rfl rfl rfl rfl) (P_move rfl) rfl <| aP 9 767 rfl rfl (GY_yes rfl rfl rfl rfl) (P_move rfl) rfl <| aP 10 1791 rfl rfl (GY_yes rfl rfl rfl rfl) (P_nilCheck rfl) rfl <| aP 11 3839 rfl rfl (GY_yes rfl rfl rfl rfl) (P_fieldAddr rfl ⟨_, _, _, Tryz.runUnderlying37, rfl, rfl, Tryz.sizeOf34, rfl⟩) rfl <| aV 12 7935 rfl rfl (GY_yes rfl rfl rfl rfl) (t1_ (t1_ (t1_ (t1_ (t1_ (t1_ (t1_ (t1_ eR)))))))) (V_load rfl foc3 rfl Tryz.isAgg34) rfl <| aP 13 16127 rfl rfl (GY_yes rfl rfl rfl rfl) (P_nilCheck rfl) rfl <| aP 14 32511 rfl rfl (GY_yes rfl rfl rfl rfl) (P_fieldAddr rfl ⟨_, _, _, Tryz.runUnderlying56, rfl, rfl, Tryz.sizeOf54, rfl⟩) rfl <| aV 15 65279 rfl rfl (GY_yes rfl rfl rfl rfl) (t1_ (t1_ (t1_ (t1_ (t1_ (t1_ (t1_ (t1_ eR)))))))) (V_load rfl foc0 rfl Tryz.isAgg54) rfl ?_
    refine aV 16 130815 rfl rfl (GY_yes rfl rfl rfl rfl) (t1_ (t1_ (t1_ (t1_ (t1_ (t1_ (t1_ (t1_ eR)))))))) (VJ_eq (V_len rfl foc1 (Reads.sl _ _ _) Tryz.runUnderlying54) (congrArg (fun z : Nat => Value.int .i64 (z : Int)) hS54.len.symm)) rfl ?_
    obtain ⟨r57, hr58, h⟩ := bind_e h
    refine AJ_op 8 131071 rfl (by kernel_rfl) rfl (GY_yes rfl rfl rfl rfl) <| O_callI rfl (ICall.of (fun w => by kernel_rfl) Tryz.call31 (L_parityvol_Volume_Size hr58)) rfl (Dels.cons del0 (Dels.cons del8 Dels.nil)) rfl fun _ _ => ⟨fun _ => (t2_ (t2_ (t2_ (t2_ (t2_ (t2_ (t2_ (t2_ eR)))))))), ?_⟩
    refine aP 17 262143 rfl rfl (GY_yes rfl rfl rfl rfl) (P_eql (a := r57) (b := ((a17.2.2.1.T.length : Nat) : Int)) rfl rfl) rfl <| aN 18 524287 rfl rfl (P_pickT rfl rfl rfl) rfl <| aN 19 1048575 rfl rfl (P_assign rfl) rfl <| AJ_done (by kernel_rfl) <| QJ_ent (Ent.trans (t2_ (t2_ (t2_ eR))) (Trk_close hS54)) <| QJ_then <| CJ_ret <| QJ_ent (Ent.trans (t3_ (t3_ (t3_ (t1_ (t0_ (t1_ (t1_ eR))))))) (OwnP_mk (v0 := a17.2.2.1.Open_1) (v1 := (some o56)) (v2 := a17.2.2.1.T) (v3 := a17.2.2.1.Stale) (v4 := a17.2.2.1.Lost) (h0 := oc49.1) (h1 := oc49.2.1) (h2 := pb13) (h3 := oc49.2.2.2.1) (h4 := oc49.2.2.2.2.1) (h5 := oc49.2.2.2.2.2))) ?_
    cases h
    exact fE (res1 Tryz.results18 rfl) () eR
  ·
   replace h := ite_f hg2 h
   refine aS 3 15 rfl rfl (GY_no rfl rfl rfl hg2B) rfl <| aS 4 31 rfl rfl (GY_no rfl rfl rfl hg2B) rfl <| aN 5 63 rfl rfl (P_pickF rfl hg2B rfl) rfl <| aN 6 127 rfl rfl (P_move rfl) rfl <| aS 7 255 rfl rfl (GY_no rfl rfl rfl rfl) rfl <| aS 9 767 rfl rfl (GY_no rfl rfl rfl rfl) rfl <| aS 10 1791 rfl rfl (GY_no rfl rfl rfl rfl) rfl <| aS 11 3839 rfl rfl (GY_no rfl rfl rfl rfl) rfl <| aS 12 7935 rfl rfl (GY_no rfl rfl rfl rfl) rfl <| aS 13 16127 rfl rfl (GY_no rfl rfl rfl rfl) rfl <| aS 14 32511 rfl rfl (GY_no rfl rfl rfl rfl) rfl <| aS 15 65279 rfl rfl (GY_no rfl rfl rfl rfl) rfl <| aS 16 130815 rfl rfl (GY_no rfl rfl rfl rfl) rfl <| aS 8 131071 rfl rfl (GY_no rfl rfl rfl rfl) rfl <| aS 17 262143 rfl rfl (GY_no rfl rfl rfl rfl) rfl <| aN 18 524287 rfl rfl (P_pickF rfl rfl rfl) rfl <| aN 19 1048575 rfl rfl (P_assign rfl) rfl <| AJ_done (by kernel_rfl) <| QJ_ent (Ent.trans (t0_ (t0_ (t0_ eR))) (Trk_close hS54)) <| QJ_then <| CJ_ret <| QJ_ent (Ent.trans (t1_ (t1_ (t1_ (t3_ eR)))) (OwnP_mk (v0 := a17.2.2.1.Open_1) (v1 := a17.1) (v2 := a17.2.2.1.T) (v3 := a17.2.2.1.Stale) (v4 := a17.2.2.1.Lost) (h0 := oc49.1) (h1 := oc49.2.1) (h2 := pb13) (h3 := oc49.2.2.2.1) (h4 := oc49.2.2.2.2.1) (h5 := oc49.2.2.2.2.2))) ?_
   cases h
   exact fE (res1 Tryz.results18 rfl) () eR
def volumegroupmake_Owner_Write_l1_b (at_1 : Int) (v : UInt64) (rec : OwnS → ArrS → Int → Nat → Option ((Int × OwnS × ArrS) ⊕ (Int × Bool × OwnS × ArrS))) (x16 : OwnS) (x17 : ArrS) (x18 : Int) (x19 : Nat) : Option ((Int × OwnS × ArrS) ⊕ (Int × Bool × OwnS × ArrS)) :=
  if ((((x19 : Nat) : Int) < (8 : Int)) ∧ (x18 = (18 : Int))) then
    grd (decide (smallT x16.T = true)) <|
    Option.bind (volumegroupmake_Owner_drop ({ x16 with T := (wroteT x16.T at_1 v false) }) x17) fun r28 =>
    if (¬ r28.1 = true) then
      some (.inr (x18, false, r28.2, x17))
    else
      Option.elim r28.2.X (
        none) fun o35 =>
      Option.bind (parityvol_Volume_Write o35 at_1 v x17) fun r36 =>
      rec ({ r28.2 with X := (some r36.2.1) }) r36.2.2 r36.1 (x19 + 1)
  else
    some (.inl (x18, x16, x17))
def volumegroupmake_Owner_Write_l1 (at_1 : Int) (v : UInt64) : Nat → OwnS → ArrS → Int → Nat → Option ((Int × OwnS × ArrS) ⊕ (Int × Bool × OwnS × ArrS))
  | 0, _, _, _, _ => none
  | n + 1, x16, x17, x18, x19 => volumegroupmake_Owner_Write_l1_b at_1 v (volumegroupmake_Owner_Write_l1 at_1 v n) x16 x17 x18 x19
def volumegroupmake_Owner_Write (o : OwnS) (at_1 : Int) (v : UInt64) (s : ArrS) : Option (Int × Bool × OwnS × ArrS) :=
  Option.elim o.X (
    none) fun o6 =>
  Option.bind (parityvol_Volume_Write o6 at_1 v s) fun r7 =>
  seqO (volumegroupmake_Owner_Write_l1 at_1 v FUEL ({ o with X := (some r7.2.1) }) r7.2.2 r7.1 0) fun a15 =>
  grd (decide (smallT a15.2.1.T = true)) <|
  some ((a15.1, ((decide (a15.1 = (0 : Int))) || (decide (a15.1 = (5 : Int)))), { a15.2.1 with T := (wroteT a15.2.1.T at_1 v ((decide (a15.1 = (0 : Int))))) }, a15.2.2))
theorem L_volumegroupmake_Owner_Write {W : World} {bo : Nat} {bs : Nat} {o : OwnS} {at_1 : Int} {v : UInt64} {s : ArrS} {r : Int × Bool × OwnS × ArrS} (h : volumegroupmake_Owner_Write o at_1 v s = some r) :
    CSpec Tryz.prog W 44 [ptr bo 0, .int .i64 at_1, .int .u64 (v.toNat : Int)] [OwnP bs bo o, Arr bs s] (fun x : Unit => .tuple #[.int .i64 r.1, .bool r.2.1]) (fun _ => True) (fun x F => OwnP bs bo r.2.2.1 :: Arr bs r.2.2.2 :: F) := by
 refine CSpec.of_body Tryz.func44 rfl Tryz.ntmps44 rfl fun F => ?_
 show CJ _ _ _ _ _ _ (_ :: _ :: F)
 unfold volumegroupmake_Owner_Write at h
 refine sR <| oA rfl rfl <| oA rfl rfl <| nT <| CJ_seq <| CJ_entX (Ent.transX (t0_ eR) (OwnP_open (l := o))) fun oc1 => lC del5 fun hlen3 => lC del6 fun hlen4 => CJ_region <| oM rfl rfl <| oP (P_nilCheck rfl) rfl <| oP (P_fieldAddr rfl ⟨_, _, _, Tryz.runUnderlying37, rfl, rfl, Tryz.sizeOf33, rfl⟩) rfl <| oV (V_load rfl foc0 rfl Tryz.isAgg33) rfl <| oM rfl rfl <| oM rfl rfl ?_
 rcases opt_e h with ⟨ht5, h⟩ | ⟨o6, ht5, h⟩
 ·
  rw [ht5]
  exact RJ_ent (t0_ (t0_ (t0_ (t1_ (t1_ (t1_ (t1_ (eD eR)))))))) <| none_e h
 ·
  rw [ht5]
  refine RJ_ent (Ent.takeC (A' := VolP bs oc1.2.2.1 o6) del3 rfl eR) ?_
  obtain ⟨r7, hr8, h⟩ := bind_e h
  refine oO <| O_callI rfl (ICall.of (fun w => by kernel_rfl) Tryz.call32 (L_parityvol_Volume_Write hr8)) rfl (Dels.cons del0 (Dels.cons del6 Dels.nil)) rfl fun _ _ => oA rfl rfl <| RJ_nil <| QJ_ent (Ent.trans (t2_ (t2_ (t2_ (t0_ (t1_ (t1_ (t1_ eR))))))) (OwnP_mk (v0 := o.Open_1) (v1 := (some r7.2.1)) (v2 := o.T) (v3 := o.Stale) (v4 := o.Lost) (h0 := oc1.1) (h1 := oc1.2.1) (h2 := oc1.2.2.1) (h3 := oc1.2.2.2.1) (h4 := oc1.2.2.2.2.1) (h5 := oc1.2.2.2.2.2))) <| QJ_then <| CJ_seq <| sR <| oA rfl rfl <| nT ?_
  obtain ⟨y11, hl9, hK10⟩ := seq_e h
  refine CJ_cutT (X := Int × OwnS × ArrS) [6, 7, 8, 9, 17, 18, 19, 20, 21, 22, 23, 24, 25, 26, 27, 28, 29, 30, 31, 32, 33, 34, 35, 36, 37, 38, 39, 40, 41, 42] (fun a15 => ([(8, .int .i64 a15.1)] : Slots)) (fun a15 R => OwnP bs bo a15.2.1 :: Arr bs a15.2.2 :: R) (fun a15 => y11 = .inl a15) (Dels.cons del0 (Dels.cons del0 Dels.nil)) ?_ ?_
  ·
   refine CJ_block <| CJ_loopR (X := Nat × OwnS × ArrS × Int × Nat) [6, 7, 8, 9, 17, 18, 19, 20, 21, 22, 23, 24, 25, 26, 27, 28, 29, 30, 31, 32, 33, 34, 35, 36, 37, 38, 39, 40, 41, 42] (fun ⟨n, x16, x17, x18, x19⟩ => ([(8, .int .i64 x18), (9, .int .i64 (((x19 : Nat) : Int)))] : Slots)) (fun ⟨n, x16, x17, x18, x19⟩ R => OwnP bs bo x16 :: Arr bs x17 :: R) (fun ⟨n, x16, x17, x18, x19⟩ => volumegroupmake_Owner_Write_l1 at_1 v n x16 x17 x18 x19 = some y11) (fun ⟨n, x16, x17, x18, x19⟩ => n) ⟨FUEL, { o with X := (some r7.2.1) }, r7.2.2, r7.1, 0⟩ ?_ ?_ eR ?_
   · exact hl9
   · exact ⟨rfl, rfl, True.intro⟩
   ·
    rintro ⟨n, x16, x17, x18, x19⟩ h
    cases n with
    | zero => exact none_e h
    | succ n => ?_
    replace h : volumegroupmake_Owner_Write_l1_b at_1 v (volumegroupmake_Owner_Write_l1 at_1 v n) x16 x17 x18 x19 = some y11 := h
    unfold volumegroupmake_Owner_Write_l1_b at h
    show CJ _ _ _ _ _ (([(8, .int .i64 x18), (9, .int .i64 (((x19 : Nat) : Int)))] : Slots) ++ forget _ _) (OwnP bs bo x16 :: Arr bs x17 :: _)
    refine CJ_seq <| sR <| oM rfl rfl <| oP (P_lss (a := ((x19 : Nat) : Int)) (b := (8 : Int)) rfl rfl) rfl <| oM rfl rfl <| RJ_mbT rfl rfl rfl (fun hG20 => have hP21 : (((x19 : Nat) : Int) < (8 : Int)) := (bT_dec).1 hG20; VJ_P (P_move rfl)) <| RJ_mbT rfl rfl rfl (fun hG22 => have hP23 : (((x19 : Nat) : Int) < (8 : Int)) := (bT_dec).1 hG22; VJ_P (P_eql (a := x18) (b := (18 : Int)) (mbx hG22 rfl) rfl)) <| oP (P_pickAnd rfl (fun hh => mbx hh rfl) rfl) rfl <| nT <| CJ_condP rfl (bT_and bT_dec bT_dec) (fun hg1 => ?_) (fun hg1 => ?_)
    ·
     replace h := ite_t hg1 h
     refine kT <| CJ_seq <| CJ_block <| CJ_seq <| CJ_entX (Ent.transX (t0_ eR) (OwnP_open (l := x16))) fun oc24 => lC del5 fun hlen26 => lC del6 fun hlen27 => CJ_region <| oM rfl rfl <| oP (P_nilCheck rfl) rfl <| oP (P_fieldAddr rfl ⟨_, _, _, Tryz.runUnderlying37, rfl, rfl, Tryz.sizeOf34, rfl⟩) rfl <| oV (V_load rfl foc0 rfl Tryz.isAgg34) rfl <| oM rfl rfl <| oM rfl rfl ?_
     obtain ⟨hg2, h⟩ := grd_de h
     refine oO <| O_call (c_Wrote (smallT_at hg2) (v := v)) rfl Tryz.call96 (Dels.cons del4 Dels.nil) rfl fun _ _ => RJ_nil <| QJ_ent (Ent.trans (t1_ (t1_ (t1_ (t1_ eR)))) (OwnP_mk (v0 := x16.Open_1) (v1 := x16.X) (v2 := (wroteT x16.T at_1 v false)) (v3 := x16.Stale) (v4 := x16.Lost) (h0 := oc24.1) (h1 := oc24.2.1) (h2 := oc24.2.2.1) (h3 := oc24.2.2.2.1) (h4 := oc24.2.2.2.2.1) (h5 := oc24.2.2.2.2.2))) <| QJ_then <| CJ_seq <| sR <| oM rfl rfl ?_
     obtain ⟨r28, hr29, h⟩ := bind_e h
     refine oO <| O_call (L_volumegroupmake_Owner_drop hr29) rfl Tryz.call50 (Dels.cons del0 (Dels.cons del0 Dels.nil)) rfl fun _ _ => oP (P_not rfl) rfl <| nT <| CJ_condP rfl (bT_not Iff.rfl) (fun hg3 => ?_) (fun hg3 => ?_)
     ·
      replace h := ite_t hg3 h
      refine sR <| oM rfl rfl <| oA rfl rfl <| oA rfl rfl <| nT <| CJ_ret <| QJ_then_ret <| QJ_block_ret <| QJ_then_ret <| QJ_round_ret <| QJ_block_ret <| QJ_then_ret ?_
      have hE := Option.some.inj h
      replace hE := seq_inr hK10 hE.symm
      subst hE
      exact fE (res2 Tryz.results44 rfl rfl) () eR
     ·
      replace h := ite_f hg3 h
      refine kT <| CJ_entX (Ent.transX (t0_ eR) (OwnP_open (l := r28.2))) fun oc30 => lC del5 fun hlen32 => lC del6 fun hlen33 => CJ_region <| oM rfl rfl <| oP (P_nilCheck rfl) rfl <| oP (P_fieldAddr rfl ⟨_, _, _, Tryz.runUnderlying37, rfl, rfl, Tryz.sizeOf33, rfl⟩) rfl <| oV (V_load rfl foc0 rfl Tryz.isAgg33) rfl <| oM rfl rfl <| oM rfl rfl ?_
      rcases opt_e h with ⟨ht34, h⟩ | ⟨o35, ht34, h⟩
      ·
       rw [ht34]
       exact RJ_ent (t0_ (t0_ (t0_ (t1_ (t1_ (t1_ (t1_ (eD eR)))))))) <| none_e h
      ·
       rw [ht34]
       refine RJ_ent (Ent.takeC (A' := VolP bs oc30.2.2.1 o35) del3 rfl eR) ?_
       obtain ⟨r36, hr37, h⟩ := bind_e h
       exact oO <| O_callI rfl (ICall.of (fun w => by kernel_rfl) Tryz.call32 (L_parityvol_Volume_Write hr37)) rfl (Dels.cons del0 (Dels.cons del6 Dels.nil)) rfl fun _ _ => oA rfl rfl <| RJ_nil <| QJ_ent (Ent.trans (t2_ (t2_ (t2_ (t0_ (t1_ (t1_ (t1_ eR))))))) (OwnP_mk (v0 := r28.2.Open_1) (v1 := (some r36.2.1)) (v2 := r28.2.T) (v3 := r28.2.Stale) (v4 := r28.2.Lost) (h0 := oc30.1) (h1 := oc30.2.1) (h2 := oc30.2.2.1) (h3 := oc30.2.2.2.1) (h4 := oc30.2.2.2.2.1) (h5 := oc30.2.2.2.2.2))) <| QJ_block_normal <| QJ_then <| CJ_region <| oM rfl rfl <| oP (PJ_eq (P_add (a := ((x19 : Nat) : Int)) (b := (1 : Int)) rfl rfl (by omega)) rfl) rfl <| oA rfl rfl <| RJ_nil <| nR ⟨n, { r28.2 with X := (some r36.2.1) }, r36.2.2, r36.1, (x19 + 1)⟩ h ⟨rfl, rfl, True.intro⟩ eR
    ·
     replace h := ite_f hg1 h
     exact CJ_exit <| QJ_then_exit <| QJ_round_exit <| QJ_block_here <| cR (x18, x16, x17) (Option.some.inj h).symm ⟨rfl, True.intro⟩ eR
  ·
   rintro a15 hy38
   replace h := seq_inl hK10 hy38
   show CJ _ _ _ _ _ (([(8, .int .i64 a15.1)] : Slots) ++ forget _ _) (OwnP bs bo a15.2.1 :: Arr bs a15.2.2 :: _)
   refine CJ_seq <| CJ_entX (Ent.transX (t0_ eR) (OwnP_open (l := a15.2.1))) fun oc39 => lC del5 fun hlen41 => lC del6 fun hlen42 => CJ_region <| oM rfl rfl <| oP (P_nilCheck rfl) rfl <| oP (P_fieldAddr rfl ⟨_, _, _, Tryz.runUnderlying37, rfl, rfl, Tryz.sizeOf34, rfl⟩) rfl <| oV (V_load rfl foc0 rfl Tryz.isAgg34) rfl <| oM rfl rfl <| oM rfl rfl <| oM rfl rfl <| oP (P_eql (a := a15.1) (b := (0 : Int)) rfl rfl) rfl ?_
   obtain ⟨hg4, h⟩ := grd_de h
   refine oO <| O_call (c_Wrote (smallT_at hg4) (v := v)) rfl Tryz.call96 (Dels.cons del4 Dels.nil) rfl fun _ _ => RJ_nil <| QJ_ent (Ent.trans (t1_ (t1_ (t1_ (t1_ eR)))) (OwnP_mk (v0 := a15.2.1.Open_1) (v1 := a15.2.1.X) (v2 := (wroteT a15.2.1.T at_1 v ((decide (a15.1 = (0 : Int)))))) (v3 := a15.2.1.Stale) (v4 := a15.2.1.Lost) (h0 := oc39.1) (h1 := oc39.2.1) (h2 := oc39.2.2.1) (h3 := oc39.2.2.2.1) (h4 := oc39.2.2.2.2.1) (h5 := oc39.2.2.2.2.2))) <| QJ_then <| sR <| oM rfl rfl <| oM rfl rfl <| oP (P_eql (a := a15.1) (b := (0 : Int)) rfl rfl) rfl <| oM rfl rfl <| RJ_mbF rfl rfl rfl (fun hG43 => have hP44 : ¬ (a15.1 = (0 : Int)) := nP (bT_dec) hG43; VJ_P (P_move rfl)) <| RJ_mbF rfl rfl rfl (fun hG45 => have hP46 : ¬ (a15.1 = (0 : Int)) := nP (bT_dec) hG45; VJ_P (P_eql (a := a15.1) (b := (5 : Int)) (mbx hG45 rfl) rfl)) <| oP (P_pickOr rfl rfl (fun hh => mbx (not_f hh) rfl)) rfl <| oA rfl rfl <| oA rfl rfl <| nT <| CJ_ret ?_
   cases h
   exact fE (res2 Tryz.results44 rfl rfl) () eR
def volumegroupmake_Owner_Flush_l1_b (rec : OwnS → ArrS → Int → Nat → Option ((Int × OwnS × ArrS) ⊕ (Int × Bool × OwnS × ArrS))) (x16 : OwnS) (x17 : ArrS) (x18 : Int) (x19 : Nat) : Option ((Int × OwnS × ArrS) ⊕ (Int × Bool × OwnS × ArrS)) :=
  if ((((x19 : Nat) : Int) < (8 : Int)) ∧ (x18 = (18 : Int))) then
    Option.bind (volumegroupmake_Owner_drop x16 x17) fun r24 =>
    if (¬ r24.1 = true) then
      some (.inr (x18, false, r24.2, x17))
    else
      Option.elim r24.2.X (
        none) fun o31 =>
      Option.bind (parityvol_Volume_Flush o31 x17) fun r32 =>
      rec ({ r24.2 with X := (some r32.2.1) }) r32.2.2 r32.1 (x19 + 1)
  else
    some (.inl (x18, x16, x17))
def volumegroupmake_Owner_Flush_l1 : Nat → OwnS → ArrS → Int → Nat → Option ((Int × OwnS × ArrS) ⊕ (Int × Bool × OwnS × ArrS))
  | 0, _, _, _, _ => none
  | n + 1, x16, x17, x18, x19 => volumegroupmake_Owner_Flush_l1_b (volumegroupmake_Owner_Flush_l1 n) x16 x17 x18 x19
def volumegroupmake_Owner_Flush (o : OwnS) (s : ArrS) : Option (Int × Bool × OwnS × ArrS) :=
  Option.elim o.X (
    none) fun o6 =>
  Option.bind (parityvol_Volume_Flush o6 s) fun r7 =>
  seqO (volumegroupmake_Owner_Flush_l1 FUEL ({ o with X := (some r7.2.1) }) r7.2.2 r7.1 0) fun a15 =>
  if (a15.1 = (0 : Int)) then
    some ((a15.1, ((decide (a15.1 = (0 : Int))) || (decide (a15.1 = (5 : Int)))), { a15.2.1 with T := (flushedT a15.2.1.T) }, a15.2.2))
  else
    some ((a15.1, ((decide (a15.1 = (0 : Int))) || (decide (a15.1 = (5 : Int)))), a15.2.1, a15.2.2))
theorem L_volumegroupmake_Owner_Flush {W : World} {bo : Nat} {bs : Nat} {o : OwnS} {s : ArrS} {r : Int × Bool × OwnS × ArrS} (h : volumegroupmake_Owner_Flush o s = some r) :
    CSpec Tryz.prog W 15 [ptr bo 0] [OwnP bs bo o, Arr bs s] (fun x : Unit => .tuple #[.int .i64 r.1, .bool r.2.1]) (fun _ => True) (fun x F => OwnP bs bo r.2.2.1 :: Arr bs r.2.2.2 :: F) := by
 refine CSpec.of_body Tryz.func15 rfl Tryz.ntmps15 rfl fun F => ?_
 show CJ _ _ _ _ _ _ (_ :: _ :: F)
 unfold volumegroupmake_Owner_Flush at h
 refine sR <| oA rfl rfl <| oA rfl rfl <| nT <| CJ_seq <| CJ_entX (Ent.transX (t0_ eR) (OwnP_open (l := o))) fun oc1 => lC del5 fun hlen3 => lC del6 fun hlen4 => CJ_region <| oM rfl rfl <| oP (P_nilCheck rfl) rfl <| oP (P_fieldAddr rfl ⟨_, _, _, Tryz.runUnderlying37, rfl, rfl, Tryz.sizeOf33, rfl⟩) rfl <| oV (V_load rfl foc0 rfl Tryz.isAgg33) rfl ?_
 rcases opt_e h with ⟨ht5, h⟩ | ⟨o6, ht5, h⟩
 ·
  rw [ht5]
  exact RJ_ent (t0_ (t0_ (t0_ (t1_ (t1_ (t1_ (t1_ (eD eR)))))))) <| none_e h
 ·
  rw [ht5]
  refine RJ_ent (Ent.takeC (A' := VolP bs oc1.2.2.1 o6) del3 rfl eR) ?_
  obtain ⟨r7, hr8, h⟩ := bind_e h
  refine oO <| O_callI rfl (ICall.of (fun w => by kernel_rfl) Tryz.call43 (L_parityvol_Volume_Flush hr8)) rfl (Dels.cons del0 (Dels.cons del6 Dels.nil)) rfl fun _ _ => oA rfl rfl <| RJ_nil <| QJ_ent (Ent.trans (t2_ (t2_ (t2_ (t0_ (t1_ (t1_ (t1_ eR))))))) (OwnP_mk (v0 := o.Open_1) (v1 := (some r7.2.1)) (v2 := o.T) (v3 := o.Stale) (v4 := o.Lost) (h0 := oc1.1) (h1 := oc1.2.1) (h2 := oc1.2.2.1) (h3 := oc1.2.2.2.1) (h4 := oc1.2.2.2.2.1) (h5 := oc1.2.2.2.2.2))) <| QJ_then <| CJ_seq <| sR <| oA rfl rfl <| nT ?_
  obtain ⟨y11, hl9, hK10⟩ := seq_e h
  refine CJ_cutT (X := Int × OwnS × ArrS) [2, 3, 4, 5, 11, 12, 13, 14, 15, 16, 17, 18, 19, 20, 21, 22, 23, 24, 25, 26, 27] (fun a15 => ([(4, .int .i64 a15.1)] : Slots)) (fun a15 R => OwnP bs bo a15.2.1 :: Arr bs a15.2.2 :: R) (fun a15 => y11 = .inl a15) (Dels.cons del0 (Dels.cons del0 Dels.nil)) ?_ ?_
  ·
   refine CJ_block <| CJ_loopR (X := Nat × OwnS × ArrS × Int × Nat) [2, 3, 4, 5, 11, 12, 13, 14, 15, 16, 17, 18, 19, 20, 21, 22, 23, 24, 25, 26, 27] (fun ⟨n, x16, x17, x18, x19⟩ => ([(4, .int .i64 x18), (5, .int .i64 (((x19 : Nat) : Int)))] : Slots)) (fun ⟨n, x16, x17, x18, x19⟩ R => OwnP bs bo x16 :: Arr bs x17 :: R) (fun ⟨n, x16, x17, x18, x19⟩ => volumegroupmake_Owner_Flush_l1 n x16 x17 x18 x19 = some y11) (fun ⟨n, x16, x17, x18, x19⟩ => n) ⟨FUEL, { o with X := (some r7.2.1) }, r7.2.2, r7.1, 0⟩ ?_ ?_ eR ?_
   · exact hl9
   · exact ⟨rfl, rfl, True.intro⟩
   ·
    rintro ⟨n, x16, x17, x18, x19⟩ h
    cases n with
    | zero => exact none_e h
    | succ n => ?_
    replace h : volumegroupmake_Owner_Flush_l1_b (volumegroupmake_Owner_Flush_l1 n) x16 x17 x18 x19 = some y11 := h
    unfold volumegroupmake_Owner_Flush_l1_b at h
    show CJ _ _ _ _ _ (([(4, .int .i64 x18), (5, .int .i64 (((x19 : Nat) : Int)))] : Slots) ++ forget _ _) (OwnP bs bo x16 :: Arr bs x17 :: _)
    refine CJ_seq <| sR <| oM rfl rfl <| oP (P_lss (a := ((x19 : Nat) : Int)) (b := (8 : Int)) rfl rfl) rfl <| oM rfl rfl <| RJ_mbT rfl rfl rfl (fun hG20 => have hP21 : (((x19 : Nat) : Int) < (8 : Int)) := (bT_dec).1 hG20; VJ_P (P_move rfl)) <| RJ_mbT rfl rfl rfl (fun hG22 => have hP23 : (((x19 : Nat) : Int) < (8 : Int)) := (bT_dec).1 hG22; VJ_P (P_eql (a := x18) (b := (18 : Int)) (mbx hG22 rfl) rfl)) <| oP (P_pickAnd rfl (fun hh => mbx hh rfl) rfl) rfl <| nT <| CJ_condP rfl (bT_and bT_dec bT_dec) (fun hg1 => ?_) (fun hg1 => ?_)
    ·
     replace h := ite_t hg1 h
     refine kT <| CJ_seq <| CJ_block <| CJ_seq <| sR <| oM rfl rfl ?_
     obtain ⟨r24, hr25, h⟩ := bind_e h
     refine oO <| O_call (L_volumegroupmake_Owner_drop hr25) rfl Tryz.call50 (Dels.cons del0 (Dels.cons del0 Dels.nil)) rfl fun _ _ => oP (P_not rfl) rfl <| nT <| CJ_condP rfl (bT_not Iff.rfl) (fun hg2 => ?_) (fun hg2 => ?_)
     ·
      replace h := ite_t hg2 h
      refine sR <| oM rfl rfl <| oA rfl rfl <| oA rfl rfl <| nT <| CJ_ret <| QJ_then_ret <| QJ_block_ret <| QJ_then_ret <| QJ_round_ret <| QJ_block_ret <| QJ_then_ret ?_
      have hE := Option.some.inj h
      replace hE := seq_inr hK10 hE.symm
      subst hE
      exact fE (res2 Tryz.results15 rfl rfl) () eR
     ·
      replace h := ite_f hg2 h
      refine kT <| CJ_entX (Ent.transX (t0_ eR) (OwnP_open (l := r24.2))) fun oc26 => lC del5 fun hlen28 => lC del6 fun hlen29 => CJ_region <| oM rfl rfl <| oP (P_nilCheck rfl) rfl <| oP (P_fieldAddr rfl ⟨_, _, _, Tryz.runUnderlying37, rfl, rfl, Tryz.sizeOf33, rfl⟩) rfl <| oV (V_load rfl foc0 rfl Tryz.isAgg33) rfl ?_
      rcases opt_e h with ⟨ht30, h⟩ | ⟨o31, ht30, h⟩
      ·
       rw [ht30]
       exact RJ_ent (t0_ (t0_ (t0_ (t1_ (t1_ (t1_ (t1_ (eD eR)))))))) <| none_e h
      ·
       rw [ht30]
       refine RJ_ent (Ent.takeC (A' := VolP bs oc26.2.2.1 o31) del3 rfl eR) ?_
       obtain ⟨r32, hr33, h⟩ := bind_e h
       exact oO <| O_callI rfl (ICall.of (fun w => by kernel_rfl) Tryz.call43 (L_parityvol_Volume_Flush hr33)) rfl (Dels.cons del0 (Dels.cons del6 Dels.nil)) rfl fun _ _ => oA rfl rfl <| RJ_nil <| QJ_ent (Ent.trans (t2_ (t2_ (t2_ (t0_ (t1_ (t1_ (t1_ eR))))))) (OwnP_mk (v0 := r24.2.Open_1) (v1 := (some r32.2.1)) (v2 := r24.2.T) (v3 := r24.2.Stale) (v4 := r24.2.Lost) (h0 := oc26.1) (h1 := oc26.2.1) (h2 := oc26.2.2.1) (h3 := oc26.2.2.2.1) (h4 := oc26.2.2.2.2.1) (h5 := oc26.2.2.2.2.2))) <| QJ_block_normal <| QJ_then <| CJ_region <| oM rfl rfl <| oP (PJ_eq (P_add (a := ((x19 : Nat) : Int)) (b := (1 : Int)) rfl rfl (by omega)) rfl) rfl <| oA rfl rfl <| RJ_nil <| nR ⟨n, { r24.2 with X := (some r32.2.1) }, r32.2.2, r32.1, (x19 + 1)⟩ h ⟨rfl, rfl, True.intro⟩ eR
    ·
     replace h := ite_f hg1 h
     exact CJ_exit <| QJ_then_exit <| QJ_round_exit <| QJ_block_here <| cR (x18, x16, x17) (Option.some.inj h).symm ⟨rfl, True.intro⟩ eR
  ·
   rintro a15 hy34
   replace h := seq_inl hK10 hy34
   show CJ _ _ _ _ _ (([(4, .int .i64 a15.1)] : Slots) ++ forget _ _) (OwnP bs bo a15.2.1 :: Arr bs a15.2.2 :: _)
   refine CJ_seq <| sR <| oM rfl rfl <| oP (P_eql (a := a15.1) (b := (0 : Int)) rfl rfl) rfl <| nT <| CJ_condP rfl bT_dec (fun hg3 => ?_) (fun hg3 => ?_)
   ·
    replace h := ite_t hg3 h
    refine CJ_entX (Ent.transX (t0_ eR) (OwnP_open (l := a15.2.1))) fun oc35 => lC del5 fun hlen37 => lC del6 fun hlen38 => CJ_region <| oM rfl rfl <| oP (P_nilCheck rfl) rfl <| oP (P_fieldAddr rfl ⟨_, _, _, Tryz.runUnderlying37, rfl, rfl, Tryz.sizeOf34, rfl⟩) rfl <| oV (V_load rfl foc0 rfl Tryz.isAgg34) rfl <| oO <| O_call (c_Flushed) rfl Tryz.call51 (Dels.cons del4 Dels.nil) rfl fun _ _ => RJ_nil <| QJ_ent (Ent.trans (t1_ (t1_ (t1_ (t1_ eR)))) (OwnP_mk (v0 := a15.2.1.Open_1) (v1 := a15.2.1.X) (v2 := (flushedT a15.2.1.T)) (v3 := a15.2.1.Stale) (v4 := a15.2.1.Lost) (h0 := oc35.1) (h1 := oc35.2.1) (h2 := oc35.2.2.1) (h3 := oc35.2.2.2.1) (h4 := oc35.2.2.2.2.1) (h5 := oc35.2.2.2.2.2))) <| QJ_then <| sR <| oM rfl rfl <| oM rfl rfl <| oP (P_eql (a := a15.1) (b := (0 : Int)) rfl rfl) rfl <| oM rfl rfl <| RJ_mbF rfl rfl rfl (fun hG39 => have hP40 : ¬ (a15.1 = (0 : Int)) := nP (bT_dec) hG39; VJ_P (P_move rfl)) <| RJ_mbF rfl rfl rfl (fun hG41 => have hP42 : ¬ (a15.1 = (0 : Int)) := nP (bT_dec) hG41; VJ_P (P_eql (a := a15.1) (b := (5 : Int)) (mbx hG41 rfl) rfl)) <| oP (P_pickOr rfl rfl (fun hh => mbx (not_f hh) rfl)) rfl <| oA rfl rfl <| oA rfl rfl <| nT <| CJ_ret ?_
    cases h
    exact fE (res2 Tryz.results15 rfl rfl) () eR
   ·
    replace h := ite_f hg3 h
    refine kT <| sR <| oM rfl rfl <| oM rfl rfl <| oP (P_eql (a := a15.1) (b := (0 : Int)) rfl rfl) rfl <| oM rfl rfl <| RJ_mbF rfl rfl rfl (fun hG43 => have hP44 : ¬ (a15.1 = (0 : Int)) := nP (bT_dec) hG43; VJ_P (P_move rfl)) <| RJ_mbF rfl rfl rfl (fun hG45 => have hP46 : ¬ (a15.1 = (0 : Int)) := nP (bT_dec) hG45; VJ_P (P_eql (a := a15.1) (b := (5 : Int)) (mbx hG45 rfl) rfl)) <| oP (P_pickOr rfl rfl (fun hh => mbx (not_f hh) rfl)) rfl <| oA rfl rfl <| oA rfl rfl <| nT <| CJ_ret ?_
    cases h
    exact fE (res2 Tryz.results15 rfl rfl) () eR
end Go.Proofs
namespace Go.Proofs
open Go.VG
end Go.Proofs
namespace Go.Proofs
open Go.VG
def stL : Option Nat → List Int
  | none => []
  | some k => [(k : Int)]
section
variable {C : PC} {V V' : Nat → Nat → UInt64} {st fl z : Option Nat} {q q' : UInt64} {e e' : PE} {k i d f o a : Nat} {mz : Nat → Bool} {F : Prop} {K K' : Nat} {s t u : ArrS}
def opnB (legs : List Dvc) (stale : List Int) (rec : VolS → Nat → Option (VolS)) (x24 : VolS) (x25 : Nat) : Option (VolS) :=
  if (((x25 : Nat) : Int) < ((legs.length : Nat) : Int)) then
    Option.bind (slices_Contains_int stale (((x25 : Nat) : Int))) fun r31 =>
    grd (inLen (x24.legs.length + 1)) <|
    rec ({ x24 with legs := (x24.legs ++ [(⟨(legs.getD x25 dv0), r31, false⟩ : prtS)]) }) (x25 + 1)
  else
    some x24
structure OwI (C : PC) (st z : Option Nat) (mz : Nat → Bool) (o : OwnS) : Prop where
  o1 : o.Open_1 = (C.c : Int)
  stl : o.Stale = stL st
  lost : o.Lost = stL z
  mzz : ∀ i, mz i = true → z = some i
  sz : st = none ∨ st = z
  zl : ∀ j, z = some j → j < C.L
theorem OwI.one {x : OwnS} (h : OwI C st z mz x) : ∀ i j, mz i = true → mz j = true → i = j := fun i j hi hj => by
  have a := h.mzz i hi
  rw [h.mzz j hj] at a
  exact (Option.some.inj a).symm
end
end Go.Proofs
namespace Go.Proofs
open Go.VG
def mnN (a : Nat) (f : Nat → Nat) : Nat → Nat
  | 0 => a
  | k + 1 => min (mnN a f k) (f k)
theorem mnN_le {a : Nat} {f : Nat → Nat} : ∀ {k i : Nat}, i < k → mnN a f k ≤ f i
  | 0, _, h => absurd h (by omega)
  | k + 1, i, h => by
    show min (mnN a f k) (f k) ≤ f i
    by_cases e : i = k
    · rw [e]; exact Nat.min_le_right _ _
    · exact Nat.le_trans (Nat.min_le_left _ _) (mnN_le (by omega))
theorem mnN_eq {a : Nat} {f : Nat → Nat} (h : f 0 ≤ a) : ∀ {k : Nat}, mnN a f (k + 1) = mnN (f 0) f (k + 1)
  | 0 => by
    show min a (f 0) = min (f 0) (f 0)
    omega
  | k + 1 => by
    show min (mnN a f (k + 1)) (f (k + 1)) = min (mnN (f 0) f (k + 1)) (f (k + 1))
    rw [mnN_eq h]
structure GE (ns : List Nat) (K : Nat) (s : ArrS) : Prop where
  ok : ArrOk ns K s
  dn : s.down = false
  fu : s.fuse = 0
  ms : ∀ e, miss s e = false
  zz : ∀ e b, now s e b = 0
section
variable {ns : List Nat} {K K' d a i n k : Nat} {s t : ArrS} {st : Option Nat} {v : VolS}
theorem GE.mono (h : GE ns K s) (hK : K ≤ K') : GE ns K' s := ⟨h.ok.mono hK, h.dn, h.fu, h.ms, h.zz⟩
theorem GE.rd {m : Nat} (h : GE ns K s) (hd : d < ns.length) (hm : m = ns.getD d 0) (ha : a < m) (hs : m ≤ 1000) : (xL d m).rd s (a : Int) = some (0, 0) := by
  obtain ⟨h1, h2⟩ := h.ok.rdA (d := d) (a := a) h.dn hd (by rw [← hm]; exact ha) (h.ms d)
  rw [span_rd (by omega) (by omega), if_pos (by omega)]
  have e : ((0 : Nat) : Int) + (a : Int) = ((a : Nat) : Int) := by omega
  rw [e, h1, h2, h.zz]
theorem GE.wr {m : Nat} (h : GE ns K s) (hK : K ≤ 900000) (hd : d < ns.length) (hm : m = ns.getD d 0) (ha : a < m) (hs : m ≤ 1000) : ∃ t, (xL d m).wr s (a : Int) 0 = some (0, t) ∧ GE ns (K + 1) t := by
  have e0 : (xL d m).wr s (a : Int) 0 = some (wrR s d a, wrS s d a 0) := by
    rw [span_wr (by omega) (by omega) (by have := h.ok.wr; omega), if_pos (by omega)]
    have e : ((0 : Nat) : Int) + (a : Int) = ((a : Nat) : Int) := by omega
    rw [e]
  rcases h.ok.wrA (v := 0) (d := d) (a := a) (by omega) h.dn hd (by rw [← hm]; exact ha) (h.ms d) with ⟨-, h2, h3⟩ | ⟨h1, -⟩
  · rw [h2] at e0
    exact ⟨_, e0, ⟨h3.ok, h3.dn, by rw [h3.fuse, h.fu], fun e => by rw [h3.miss]; exact h.ms e, fun e b => by
      rw [h3.now]; split
      · rfl
      · exact h.zz e b⟩⟩
  · rw [h.fu] at h1; cases h1
theorem GE.fl {m : Nat} (h : GE ns K s) (hK : K ≤ 900000) (hd : d < ns.length) : ∃ t, (xL d m).fl s = some (0, t) ∧ GE ns K t := by
  obtain ⟨h1, h2⟩ := h.ok.flA (d := d) h.dn hd (h.ms d)
  have e0 : (xL d m).fl s = some (flC s d, flS s d) := span_fl (by have := h.ok.wr; omega)
  rw [h1] at e0
  exact ⟨_, e0, ⟨h2.ok, h2.dn, by rw [h2.fuse]; exact h.fu, fun e => by rw [h2.miss]; exact h.ms e, fun e b => by rw [h2.now]; exact h.zz e b⟩⟩
def legsA (ns : List Nat) : List Dvc := (List.range ns.length).map fun i => xL i (ns.getD i 0)
theorem legsA_len : (legsA ns).length = ns.length := by simp [legsA]
theorem legsA_at (h : i < ns.length) : (legsA ns).getD i dv0 = xL i (ns.getD i 0) := by simp [legsA, List.getD, h]
theorem spansG (h : GE ns K s) (hn : ns.length ≤ 8) (hs : ∀ i, i < ns.length → 1 ≤ ns.getD i 0 ∧ ns.getD i 0 ≤ 1000) : volumegroupmake_Spans s = some (legsA ns) := by
  have hc := h.ok.sz.cnt
  have hz := h.ok.sz.size
  rw [spans_eq (by omega) (fun i hi => by rw [hz i (by omega)]; have := hs i (by omega); omega)]
  refine congrArg some ?_
  unfold spansA legsA
  rw [hc]
  refine List.map_congr_left (fun i hi => ?_)
  rw [hz i (List.mem_range.1 hi)]; rfl
theorem nlayG_l1 (a : Nat) : ∀ (N i : Nat), ns.length - i < N → i ≤ ns.length → parityvol_newLayout_l1 (legsA ns) s N i (mnN a (fun i => ns.getD i 0) i : Int) = some (mnN a (fun i => ns.getD i 0) ns.length : Int)
  | 0, _, h, _ => absurd h (by omega)
  | N + 1, i, h, hi => by
    have hu : parityvol_newLayout_l1 (legsA ns) s (N + 1) i (mnN a (fun i => ns.getD i 0) i : Int) = parityvol_newLayout_l1_b (legsA ns) s (parityvol_newLayout_l1 (legsA ns) s N) i (mnN a (fun i => ns.getD i 0) i : Int) := rfl
    rw [hu]
    unfold parityvol_newLayout_l1_b
    rw [legsA_len]
    by_cases hlt : i < ns.length
    · rw [if_pos (by omega), legsA_at hlt, show (xL i (ns.getD i 0)).size s = some ((ns.getD i 0 : Nat) : Int) from span_size]; simp only [Option.bind_some]
      have hr := nlayG_l1 a N (i + 1) (by omega) (by omega)
      have e1 : ((mnN a (fun i => ns.getD i 0) (i + 1) : Nat) : Int) = min ((mnN a (fun i => ns.getD i 0) i : Nat) : Int) ((ns.getD i 0 : Nat) : Int) := by
        show ((min (mnN a (fun i => ns.getD i 0) i) (ns.getD i 0) : Nat) : Int) = _
        omega
      rw [e1] at hr; exact hr
    · rw [if_neg (by omega)]
      have : i = ns.length := by omega
      rw [this]
def lst (ns : List Nat) : Nat := mnN 1048576 (fun i => ns.getD i 0) ns.length
theorem nlayG {ch : Int} (hch : ch ≤ 20) (h8 : ns.length ≤ 8) (hs : ∀ i, i < ns.length → 1 ≤ ns.getD i 0 ∧ ns.getD i 0 ≤ 1000) :
    parityvol_newLayout (legsA ns) ch s = if ((ns.length : Int) < 3 ∨ 6 < (ns.length : Int)) ∨ ch < 1 then some ((⟨0, 0, 0⟩ : parityvol_layout), 1) else if (lst ns : Int) < 16 + ch then some ((⟨0, 0, 0⟩ : parityvol_layout), 3) else some ((⟨(ns.length : Int), ch, ((lst ns - 16) / ch.toNat : Nat)⟩ : parityvol_layout), 0) := by
  have hF := fuel_big
  unfold parityvol_newLayout
  rw [legsA_len]
  by_cases h1 : ((ns.length : Int) < 3 ∨ 6 < (ns.length : Int)) ∨ ch < 1
  · rw [if_pos (.inl h1), if_pos h1]
  · rw [if_neg (by omega), if_neg h1, legsA_at (by omega), show (xL 0 (ns.getD 0 0)).size s = some ((ns.getD 0 0 : Nat) : Int) from span_size]; simp only [Option.bind_some]
    have hl := nlayG_l1 (ns := ns) (s := s) (ns.getD 0 0) FUEL 0 (by omega) (by omega)
    rw [show ((mnN (ns.getD 0 0) (fun i => ns.getD i 0) 0 : Nat) : Int) = ((ns.getD 0 0 : Nat) : Int) from rfl] at hl
    rw [hl]; simp only [Option.bind_some]
    have h0 := hs 0 (by omega)
    have e1 : mnN (ns.getD 0 0) (fun i => ns.getD i 0) ns.length = lst ns := by
      unfold lst
      obtain ⟨m, hm⟩ : ∃ m, ns.length = m + 1 := ⟨ns.length - 1, by omega⟩
      rw [hm]
      exact (mnN_eq (f := fun i => ns.getD i 0) (show ns.getD 0 0 ≤ 1048576 by omega)).symm
    rw [e1]
    have hle : lst ns ≤ 1000 := Nat.le_trans (mnN_le (show 0 < ns.length by omega)) h0.2
    by_cases h2 : (lst ns : Int) < 16 + ch
    · rw [if_pos h2, if_pos h2]
    · obtain ⟨c, hc⟩ : ∃ c : Nat, ch = (c : Int) := ⟨ch.toNat, by omega⟩
      have e2 : (lst ns : Int) - 16 = ((lst ns - 16 : Nat) : Int) := by omega
      have hd : (lst ns - 16) / c ≤ lst ns - 16 := Nat.div_le_self _ _
      rw [if_neg h2, if_neg h2, e2, grd_t (inI64_of (by omega)), hc, Int.toNat_natCast, tdivN, wrapN (by omega)]
theorem formG_l1 {m : Nat} {ch : Int} {r3 : parityvol_layout × Int} (hm : 16 + r3.1.rows * ch = (m : Int)) (h8 : ns.length ≤ 8) (hs : ∀ i, i < ns.length → m ≤ ns.getD i 0 ∧ ns.getD i 0 ≤ 1000) : ∀ (N i : Nat) (s : ArrS) (K : Nat), ns.length - i < N → i ≤ ns.length → K + 1000 * (ns.length - i) ≤ 100000 → GE ns K s →
    ∃ t, parityvol_Format_l1 (legsA ns) ch r3 N s i = some (.inl t) ∧ GE ns (K + 1000 * (ns.length - i)) t
  | 0, _, _, _, h, _, _, _ => absurd h (by omega)
  | N + 1, i, s, K, h, hi, hK, he => by
    have hu : parityvol_Format_l1 (legsA ns) ch r3 (N + 1) s i = parityvol_Format_l1_b (legsA ns) ch r3 (parityvol_Format_l1 (legsA ns) ch r3 N) s i := rfl
    rw [hu]
    unfold parityvol_Format_l1_b
    rw [legsA_len, hm, Int.toNat_natCast]
    by_cases hlt : i < ns.length
    · have h1 := hs i hlt
      rw [if_pos (by omega), legsA_at hlt]
      rcases writeAllR (x := xL i (ns.getD i 0)) (l := List.replicate m (0 : UInt64)) (at_ := 0) (m := (ns.getD i 0 : Int)) (s := s) (I := fun j t => GE ns (K + j) t) (E := fun _ _ => False) span_size (by omega) ⟨by omega, by rw [List.length_replicate]; omega⟩ (fun j t hj hI => by
          have hj' : j < m := by simpa using hj
          have e1 : (0 : Int) + (j : Int) = ((j : Nat) : Int) := by omega
          have e2 : (List.replicate m (0 : UInt64)).getD j 0 = 0 := by simp [List.getD, List.getElem?_replicate, hj']
          rw [e1, e2]
          exact .inl (hI.wr (by omega) hlt rfl (by omega) h1.2)) he with ⟨t, g1, g2⟩ | ⟨_, _, _, _, y⟩
      · rw [g1]; simp only [Option.bind_some]
        rw [if_neg (by simp)]
        rw [List.length_replicate] at g2
        obtain ⟨t', k1, k2⟩ := formG_l1 hm h8 hs N (i + 1) t (K + m) (by omega) (by omega) (by omega) g2
        exact ⟨t', k1, k2.mono (by omega)⟩
      · exact y.elim
    · rw [if_neg (by omega)]
      exact ⟨s, rfl, he.mono (by omega)⟩
theorem formG_l2 : ∀ (N i : Nat) (s : ArrS), ns.length - i < N → i ≤ ns.length → K ≤ 900000 → GE ns K s →
    ∃ t, parityvol_Format_l2 (legsA ns) N s i = some (.inl t) ∧ GE ns K t
  | 0, _, _, h, _, _, _ => absurd h (by omega)
  | N + 1, i, s, h, hi, hK, he => by
    have hu : parityvol_Format_l2 (legsA ns) (N + 1) s i = parityvol_Format_l2_b (legsA ns) (parityvol_Format_l2 (legsA ns) N) s i := rfl
    rw [hu]
    unfold parityvol_Format_l2_b
    rw [legsA_len]
    by_cases hlt : i < ns.length
    · obtain ⟨t, g1, g2⟩ := he.fl (m := ns.getD i 0) hK hlt
      rw [if_pos (by omega), legsA_at hlt, g1]; simp only [Option.bind_some]
      rw [if_neg (by simp)]
      exact formG_l2 N (i + 1) t (by omega) (by omega) hK g2
    · rw [if_neg (by omega)]
      exact ⟨s, rfl, he⟩
def volG (ns : List Nat) (c R : Nat) (st : Option Nat) : VolS := ⟨(ns.length : Int), (c : Int), (R : Int), (List.range ns.length).map fun i => ⟨xL i (ns.getD i 0), decide (st = some i), false⟩, 0, 0, 0, 0, 0, false, 0⟩
variable {c R : Nat}
theorem volG_len : (volG ns c R st).legs.length = ns.length := by simp [volG]
theorem volG_at (h : i < ns.length) : (volG ns c R st).legs.getD i prt_x0 = ⟨xL i (ns.getD i 0), decide (st = some i), false⟩ := by simp [volG, List.getD, h]
theorem staleG_l1 {l : List prtS} (hst : ∀ j, st = some j → j < l.length) (hl : ∀ i, i < l.length → (l.getD i prt_x0).stale = decide (st = some i)) (h8 : l.length ≤ 1000) : ∀ (N i : Nat), l.length - i < N → i ≤ l.length → (∀ j, st = some j → i ≤ j) → slices_IndexFunc_part__parityvol_Volume_staleLeg_1_l1 l s N i = some (stR st)
  | 0, _, h, _, _ => absurd h (by omega)
  | N + 1, i, h, hi, hn => by
    have hu : slices_IndexFunc_part__parityvol_Volume_staleLeg_1_l1 l s (N + 1) i = slices_IndexFunc_part__parityvol_Volume_staleLeg_1_l1_b l s (slices_IndexFunc_part__parityvol_Volume_staleLeg_1_l1 l s N) i := rfl
    rw [hu]
    unfold slices_IndexFunc_part__parityvol_Volume_staleLeg_1_l1_b parityvol_Volume_staleLeg_1
    by_cases hlt : i < l.length
    · rw [if_pos (by omega), hl i hlt]; simp only [Option.bind_some]
      by_cases z : st = some i
      · rw [if_pos (by simp [z]), z]; rfl
      · rw [if_neg (by simp [z]), grd_t (inN64_of (by omega))]
        refine staleG_l1 hst hl h8 N (i + 1) (by omega) (by omega) (fun j hj => ?_)
        have h1 := hn j hj
        have h2 : j ≠ i := fun x => z (by rw [hj, x])
        omega
    · rw [if_neg (by omega)]
      cases st with
      | none => rfl
      | some j => exact absurd (hst j rfl) (by have := hn j rfl; omega)
theorem staleG (hn : ns.length ≤ 8) (hst : ∀ j, st = some j → j < ns.length) : parityvol_Volume_staleLeg (volG ns c R st) s = some (stI st) := by
  have hF := fuel_big
  unfold parityvol_Volume_staleLeg slices_IndexFunc_part__parityvol_Volume_staleLeg_1
  have hl := volG_len (ns := ns) (c := c) (R := R) (st := st)
  rw [staleG_l1 (st := st) (by rw [hl]; exact hst) (fun i hi => by rw [volG_at (by omega)]) (by omega) FUEL 0 (by omega) (by omega) (fun j _ => Nat.zero_le j)]
  cases st with
  | none => rfl
  | some j => rfl
theorem failedG_l1 (hn : ns.length ≤ 8) : ∀ (N i : Nat), ns.length - i < N → i ≤ ns.length → parityvol_Volume_Failed_l1 (volG ns c R st) N i [] = some []
  | 0, _, h, _ => absurd h (by omega)
  | N + 1, i, h, hi => by
    have hu : parityvol_Volume_Failed_l1 (volG ns c R st) (N + 1) i [] = parityvol_Volume_Failed_l1_b (volG ns c R st) (parityvol_Volume_Failed_l1 (volG ns c R st) N) i [] := rfl
    rw [hu]
    unfold parityvol_Volume_Failed_l1_b
    rw [volG_len]
    by_cases hlt : i < ns.length
    · rw [if_pos (by omega), volG_at hlt, if_neg (by simp)]
      exact failedG_l1 hn N (i + 1) (by omega) (by omega)
    · rw [if_neg (by omega)]
theorem failedG (hn : ns.length ≤ 8) : parityvol_Volume_Failed (volG ns c R st) s = some [] := by
  have hF := fuel_big
  unfold parityvol_Volume_Failed
  rw [failedG_l1 hn FUEL 0 (by omega) (by omega)]; rfl
theorem readyG (hn : ns.length ≤ 8) : parityvol_Volume_ready (volG ns c R st) s = some (0, volG ns c R st, s) := by
  unfold parityvol_Volume_ready
  rw [failedG hn]; simp only [Option.bind_some]
  rw [if_neg (by simp), if_neg (by simp [volG])]
theorem dropG0 {j : Nat} (hn : ns.length ≤ 8) (hj : j < ns.length) (hst : st = none ∨ st = some j) : parityvol_Volume_Drop (volG ns c R st) (j : Int) s = some (0, volG ns c R (some j)) := by
  unfold parityvol_Volume_Drop
  have hl := volG_len (ns := ns) (c := c) (R := R) (st := st)
  rw [show (volG ns c R st).layout_n = (ns.length : Int) from rfl, if_neg (by omega), staleG hn (fun i hi => by rcases hst with z | z <;> rw [z] at hi; cases hi; cases hi; exact hj)]; simp only [Option.bind_some]
  rw [if_neg (by rcases hst with rfl | rfl <;> simp [stI]), Int.toNat_natCast, grd_t (decide_eq_true ⟨by omega, by omega⟩), grd_t (decide_eq_true ⟨by omega, by rw [List.length_set]; omega⟩)]
  rw [setP (by omega), if_pos rfl, List.set_set, volG_at hj]
  have e1 : (volG ns c R st).legs.set j ⟨xL j (ns.getD j 0), true, false⟩ = (volG ns c R (some j)).legs := by
    apply List.ext_getElem (by simp [volG])
    intro i h1 h2
    rw [List.getElem_set]
    simp only [volG, List.getElem_map, List.getElem_range]
    split
    · rename_i z; subst z; simp
    · rename_i z
      have z' : ¬ some j = some i := fun x => z (Option.some.inj x)
      have e2 : decide (st = some i) = false := decide_eq_false (by rcases hst with rfl | rfl; simp; exact z')
      rw [e2, decide_eq_false z']
  dsimp only
  rw [e1]; rfl
theorem dropG1 {j : Int} (hj : j < 0 ∨ (ns.length : Int) ≤ j) : parityvol_Volume_Drop (volG ns c R st) j s = some (1, volG ns c R st) := by
  unfold parityvol_Volume_Drop
  rw [show (volG ns c R st).layout_n = (ns.length : Int) from rfl, if_pos hj]
theorem dropG19 {i j : Nat} (hn : ns.length ≤ 8) (hj : j < ns.length) (hi : i < ns.length) (hne : i ≠ j) : parityvol_Volume_Drop (volG ns c R (some i)) (j : Int) s = some (19, volG ns c R (some i)) := by
  unfold parityvol_Volume_Drop
  rw [show (volG ns c R (some i)).layout_n = (ns.length : Int) from rfl, if_neg (by omega), staleG hn (fun k hk => by cases hk; exact hi)]; simp only [Option.bind_some]
  rw [if_pos ⟨by show (0 : Int) ≤ (i : Int); omega, by show (i : Int) ≠ (j : Int); omega⟩]
end
end Go.Proofs
namespace Go.Proofs
open Go.VG
theorem index_l1 {l : List Int} {p : Int} (hl : l.length ≤ 1000) : ∀ (N i : Nat), l.length - i < N → i ≤ l.length → (∃ j : Nat, slices_Index_int_l1 l p N i = some (.inr (j : Int)) ∧ ∃ m, i ≤ m ∧ m < l.length ∧ p = l.getD m 0) ∨ (slices_Index_int_l1 l p N i = some (.inl ()) ∧ ∀ m, i ≤ m → m < l.length → p ≠ l.getD m 0)
  | 0, _, h, _ => absurd h (by omega)
  | N + 1, i, h, hi => by
    have hu : slices_Index_int_l1 l p (N + 1) i = slices_Index_int_l1_b l p (slices_Index_int_l1 l p N) i := rfl
    rw [hu]
    unfold slices_Index_int_l1_b
    by_cases hlt : i < l.length
    · rw [if_pos (by omega)]
      by_cases z : p = l.getD i 0
      · rw [if_pos z]; exact .inl ⟨i, rfl, i, Nat.le_refl _, hlt, z⟩
      · rw [if_neg z]
        rcases index_l1 hl N (i + 1) (by omega) (by omega) with ⟨j, h1, m, h2, h3, h4⟩ | ⟨h1, h2⟩
        · exact .inl ⟨j, h1, m, by omega, h3, h4⟩
        · refine .inr ⟨h1, fun m hm hml => ?_⟩
          by_cases y : m = i
          · rw [y]; exact z
          · exact h2 m (by omega) hml
    · rw [if_neg (by omega)]
      exact .inr ⟨rfl, fun m hm hml => absurd hml (by omega)⟩
theorem containsI {l : List Int} {p : Int} (hl : l.length ≤ 1000) : ∃ b, slices_Contains_int l p = some b ∧ (b = true ↔ ∃ m, m < l.length ∧ p = l.getD m 0) := by
  have hF := fuel_big
  unfold slices_Contains_int slices_Index_int
  rcases index_l1 (p := p) hl FUEL 0 (by omega) (by omega) with ⟨j, h1, m, h2, h3, h4⟩ | ⟨h1, h2⟩
  · rw [h1, seqO_inr]; simp only [Option.bind_some]
    exact ⟨_, rfl, fun _ => ⟨m, h3, h4⟩, fun _ => decide_eq_true (by omega)⟩
  · rw [h1, seqO_inl]; simp only [Option.bind_some]
    exact ⟨_, rfl, fun y => absurd y (by simp), fun ⟨m, h3, h4⟩ => absurd h4 (h2 m (Nat.zero_le _) h3)⟩
def outR (n : Nat) (k : Int) : Prop := k < 0 ∨ (n : Int) ≤ k
theorem outs_l1 {l : List Int} {legs : List Dvc} {s : ArrS} (hl : l.length ≤ 1000) : ∀ (N i : Nat), l.length - i < N → i ≤ l.length → (∃ j : Nat, slices_IndexFunc_int__parityvol_Open_1_l1 l legs s N i = some (.inr (j : Int)) ∧ ∃ m, i ≤ m ∧ m < l.length ∧ outR legs.length (l.getD m 0)) ∨ (slices_IndexFunc_int__parityvol_Open_1_l1 l legs s N i = some (.inl ()) ∧ ∀ m, i ≤ m → m < l.length → ¬ outR legs.length (l.getD m 0))
  | 0, _, h, _ => absurd h (by omega)
  | N + 1, i, h, hi => by
    have hu : slices_IndexFunc_int__parityvol_Open_1_l1 l legs s (N + 1) i = slices_IndexFunc_int__parityvol_Open_1_l1_b l legs s (slices_IndexFunc_int__parityvol_Open_1_l1 l legs s N) i := rfl
    rw [hu]
    unfold slices_IndexFunc_int__parityvol_Open_1_l1_b parityvol_Open_1
    by_cases hlt : i < l.length
    · rw [if_pos (by omega)]; simp only [Option.bind_some]
      by_cases z : outR legs.length (l.getD i 0)
      · rw [if_pos (by unfold outR at z; simpa using z)]; exact .inl ⟨i, rfl, i, Nat.le_refl _, hlt, z⟩
      · rw [if_neg (by unfold outR at z; simpa using z)]
        rcases outs_l1 hl N (i + 1) (by omega) (by omega) with ⟨j, h1, m, h2, h3, h4⟩ | ⟨h1, h2⟩
        · exact .inl ⟨j, h1, m, by omega, h3, h4⟩
        · refine .inr ⟨h1, fun m hm hml => ?_⟩
          by_cases y : m = i
          · rw [y]; exact z
          · exact h2 m (by omega) hml
    · rw [if_neg (by omega)]
      exact .inr ⟨rfl, fun m hm hml => absurd hml (by omega)⟩
theorem outs_eq {l : List Int} {legs : List Dvc} {s : ArrS} (hl : l.length ≤ 1000) : ∃ b, slices_ContainsFunc_int__parityvol_Open_1 l legs s = some b ∧ (b = true ↔ ∃ m, m < l.length ∧ outR legs.length (l.getD m 0)) := by
  have hF := fuel_big
  unfold slices_ContainsFunc_int__parityvol_Open_1 slices_IndexFunc_int__parityvol_Open_1
  rcases outs_l1 (legs := legs) (s := s) hl FUEL 0 (by omega) (by omega) with ⟨j, h1, m, h2, h3, h4⟩ | ⟨h1, h2⟩
  · rw [h1, seqO_inr]; simp only [Option.bind_some]
    exact ⟨_, rfl, fun _ => ⟨m, h3, h4⟩, fun _ => decide_eq_true (by omega)⟩
  · rw [h1, seqO_inl]; simp only [Option.bind_some]
    exact ⟨_, rfl, fun y => absurd y (by simp), fun ⟨m, h3, h4⟩ => absurd h4 (h2 m (Nat.zero_le _) h3)⟩
theorem max_l2 {l : List Int} (hl : l.length ≤ 1000) : ∀ (N i : Nat) (a : Int), l.length - i < N → i ≤ l.length → ∃ r, slices_Max_int_l2 l N a i = some r ∧ a ≤ r ∧ (∀ m, i ≤ m → m < l.length → l.getD m 0 ≤ r) ∧ ((∀ m, i ≤ m → m < l.length → l.getD m 0 = a) → r = a)
  | 0, _, _, h, _ => absurd h (by omega)
  | N + 1, i, a, h, hi => by
    have hu : slices_Max_int_l2 l (N + 1) a i = slices_Max_int_l2_b l (slices_Max_int_l2 l N) a i := rfl
    rw [hu]
    unfold slices_Max_int_l2_b
    by_cases hlt : i < l.length
    · rw [if_pos (by omega)]
      obtain ⟨r, h1, h2, h3, h4⟩ := max_l2 hl N (i + 1) (max a (l.getD i 0)) (by omega) (by omega)
      refine ⟨r, h1, by omega, fun m hm hml => ?_, fun he => ?_⟩
      · by_cases y : m = i
        · rw [y]; omega
        · exact h3 m (by omega) hml
      · have e0 := he i (Nat.le_refl _) hlt
        have e1 : max a (l.getD i 0) = a := by omega
        rw [e1] at h4
        exact h4 (fun m hm hml => he m (by omega) hml)
    · rw [if_neg (by omega)]
      exact ⟨a, rfl, Int.le_refl _, fun m hm hml => absurd hml (by omega), fun _ => rfl⟩
theorem min_l2 {l : List Int} (hl : l.length ≤ 1000) : ∀ (N i : Nat) (a : Int), l.length - i < N → i ≤ l.length → ∃ r, slices_Min_int_l2 l N a i = some r ∧ r ≤ a ∧ (∀ m, i ≤ m → m < l.length → r ≤ l.getD m 0) ∧ ((∀ m, i ≤ m → m < l.length → l.getD m 0 = a) → r = a)
  | 0, _, _, h, _ => absurd h (by omega)
  | N + 1, i, a, h, hi => by
    have hu : slices_Min_int_l2 l (N + 1) a i = slices_Min_int_l2_b l (slices_Min_int_l2 l N) a i := rfl
    rw [hu]
    unfold slices_Min_int_l2_b
    by_cases hlt : i < l.length
    · rw [if_pos (by omega)]
      obtain ⟨r, h1, h2, h3, h4⟩ := min_l2 hl N (i + 1) (min a (l.getD i 0)) (by omega) (by omega)
      refine ⟨r, h1, by omega, fun m hm hml => ?_, fun he => ?_⟩
      · by_cases y : m = i
        · rw [y]; omega
        · exact h3 m (by omega) hml
      · have e0 := he i (Nat.le_refl _) hlt
        have e1 : min a (l.getD i 0) = a := by omega
        rw [e1] at h4
        exact h4 (fun m hm hml => he m (by omega) hml)
    · rw [if_neg (by omega)]
      exact ⟨a, rfl, Int.le_refl _, fun m hm hml => absurd hml (by omega), fun _ => rfl⟩
theorem maxmin {l : List Int} (hl : l.length ≤ 1000) (h0 : 0 < l.length) : ∃ a b, slices_Max_int l = some a ∧ slices_Min_int l = some b ∧ (a = b ↔ ∀ m, m < l.length → l.getD m 0 = l.getD 0 0) := by
  have hF := fuel_big
  unfold slices_Max_int slices_Min_int
  rw [if_neg (by omega)]; simp only [Option.bind_some]
  rw [grd_t (decide_eq_true h0), grd_t (decide_eq_true h0)]
  obtain ⟨a, a1, a2, a3, a4⟩ := max_l2 hl FUEL 1 (l.getD 0 0) (by omega) (by omega)
  obtain ⟨b, b1, b2, b3, b4⟩ := min_l2 hl FUEL 1 (l.getD 0 0) (by omega) (by omega)
  rw [a1, b1]
  refine ⟨a, b, rfl, rfl, fun he m hm => ?_, fun he => ?_⟩
  · by_cases y : m = 0
    · rw [y]
    · have c1 := a3 m (by omega) hm
      have c2 := b3 m (by omega) hm
      omega
  · rw [a4 (fun m _ hm => he m hm), b4 (fun m _ hm => he m hm)]
section
variable {ns : List Nat} {K K' d a i n k c R o : Nat} {s t : ArrS} {st : Option Nat} {v : VolS}
theorem on1G {er : Int} {v : VolS} {j : Int} (h : er = 0) : parityvol_Volume_on_1 er v j s = some (0, v) := by
  subst h
  exact on1_ok (.inl rfl)
theorem replayG_l1 (hn : ns.length ≤ 8) (hs : ∀ i, i < ns.length → 1 ≤ ns.getD i 0 ∧ ns.getD i 0 ≤ 1000) (he : GE ns K s) {v0 : VolS} (hv0 : v0.legs.length = ns.length) : ∀ (N i : Nat), ns.length - i < N → i ≤ ns.length → parityvol_Volume_replay_l1 v0 s N (volG ns c R st) i = some (.inl (volG ns c R st))
  | 0, _, h, _ => absurd h (by omega)
  | N + 1, i, h, hi => by
    have hu : parityvol_Volume_replay_l1 v0 s (N + 1) (volG ns c R st) i = parityvol_Volume_replay_l1_b v0 s (parityvol_Volume_replay_l1 v0 s N) (volG ns c R st) i := rfl
    rw [hu]
    unfold parityvol_Volume_replay_l1_b
    rw [hv0, volG_len]
    by_cases hlt : i < ns.length
    · have hr := replayG_l1 hn hs he hv0 N (i + 1) (by omega) (by omega)
      rw [if_pos (by omega), grd_t (decide_eq_true hlt), volG_at hlt]
      by_cases z : st = some i
      · rw [if_pos (decide_eq_true z)]; exact hr
      · rw [if_neg (by simpa using z)]
        have h1 := hs i hlt
        unfold parityvol_Volume_on__parityvol_Volume_replay_1 parityvol_Volume_replay_1
        rw [volG_len, Int.toNat_natCast, grd_t (decide_eq_true ⟨by omega, by omega⟩), volG_at hlt, show (xL i (ns.getD i 0)).rd s (0 : Int) = some (0, 0) from he.rd (a := 0) hlt rfl (by omega) h1.2]; simp only [Option.bind_some]
        rw [if_pos (.inr (by show (0 : Int) ≤ _; omega))]; simp only [Option.bind_some]
        rw [on1G rfl]; simp only [Option.bind_some]
        rw [if_neg (by simp)]; exact hr
    · rw [if_neg (by omega)]
theorem replayG (hn : ns.length ≤ 8) (hs : ∀ i, i < ns.length → 1 ≤ ns.getD i 0 ∧ ns.getD i 0 ≤ 1000) (he : GE ns K s) : parityvol_Volume_replay (volG ns c R st) s = some (0, volG ns c R st, s) := by
  have hF := fuel_big
  unfold parityvol_Volume_replay
  rw [replayG_l1 hn hs he volG_len FUEL 0 (by omega) (by omega), seqO_inl, if_pos (by rfl)]
theorem opnG_rule {g : Nat → VolS → Nat → Option VolS} {stale : List Int} (h8 : ns.length ≤ 8) (hcon : ∀ i : Nat, slices_Contains_int stale (i : Int) = some (decide (st = some i))) (hg : ∀ n v i, g (n + 1) v i = opnB (legsA ns) stale (g n) v i) (v0 : VolS) : ∀ (N i : Nat), ns.length - i < N → i ≤ ns.length →
    g N { v0 with legs := (List.range i).map fun i => (⟨xL i (ns.getD i 0), decide (st = some i), false⟩ : prtS) } i = some { v0 with legs := (List.range ns.length).map fun i => (⟨xL i (ns.getD i 0), decide (st = some i), false⟩ : prtS) }
  | 0, _, h, _ => absurd h (by omega)
  | N + 1, i, h, hi => by
    rw [hg]
    unfold opnB
    rw [legsA_len]
    by_cases hlt : i < ns.length
    · rw [if_pos (by omega), hcon]; simp only [Option.bind_some]
      rw [grd_t (inLen_of (by simp; omega)), legsA_at hlt]
      have hr := opnG_rule h8 hcon hg v0 N (i + 1) (by omega) (by omega)
      rw [List.range_succ, List.map_append] at hr
      exact hr
    · rw [if_neg (by omega)]
      have : i = ns.length := by omega
      rw [this]
inductive Sk (n : Nat) (l : List Int) : Int → Option Nat → Prop
  | out : (∃ m, m < l.length ∧ outR n (l.getD m 0)) → Sk n l 1 none
  | two : (∀ m, m < l.length → ¬ outR n (l.getD m 0)) → (∃ m, m < l.length ∧ l.getD m 0 ≠ l.getD 0 0) → Sk n l 19 none
  | no : l = [] → Sk n l 0 none
  | one : ∀ k : Nat, k < n → 0 < l.length → (∀ m, m < l.length → l.getD m 0 = (k : Int)) → Sk n l 0 (some k)
theorem sk_all (l : List Int) : ∃ er st, Sk n l er st := by
  by_cases h1 : ∃ m, m < l.length ∧ outR n (l.getD m 0)
  · exact ⟨_, _, .out h1⟩
  · have h1' : ∀ m, m < l.length → ¬ outR n (l.getD m 0) := fun m hm hx => h1 ⟨m, hm, hx⟩
    by_cases h2 : ∃ m, m < l.length ∧ l.getD m 0 ≠ l.getD 0 0
    · exact ⟨_, _, .two h1' h2⟩
    · by_cases h3 : l = []
      · exact ⟨_, _, .no h3⟩
      · have h4 : 0 < l.length := List.length_pos_iff.2 h3
        have h5 := h1' 0 h4
        unfold outR at h5
        refine ⟨_, _, .one (l.getD 0 0).toNat (by omega) h4 (fun m hm => ?_)⟩
        have h6 : l.getD m 0 = l.getD 0 0 := Classical.byContradiction fun y => h2 ⟨m, hm, y⟩
        omega
theorem openG {ch : Int} {er : Int} {stale : List Int} (hk : Sk ns.length stale er st) (hn : 3 ≤ ns.length ∧ ns.length ≤ 6) (hl : stale.length ≤ 5) (hs : ∀ i, i < ns.length → 1 ≤ ns.getD i 0 ∧ ns.getD i 0 ≤ 1000) (he : GE ns K s) (hc : ch = (c : Int)) (hR : parityvol_newLayout (legsA ns) ch s = some ((⟨(ns.length : Int), ch, (R : Int)⟩ : parityvol_layout), 0)) :
    parityvol_Open (legsA ns) stale ch s = some (if er ≠ 0 then none else some (volG ns c R st), er, s) := by
  have hF := fuel_big
  unfold parityvol_Open
  rw [hR]; simp only [Option.bind_some]
  rw [if_neg (by simp)]
  obtain ⟨b, b1, b2⟩ := outs_eq (l := stale) (legs := legsA ns) (s := s) (by omega)
  rw [legsA_len] at b2
  rw [b1]; simp only [Option.bind_some]
  have tail : ∀ (st : Option Nat), (∀ i : Nat, slices_Contains_int stale (i : Int) = some (decide (st = some i))) → ∀ (g : Nat → VolS → Nat → Option VolS), (∀ n v i, g (n + 1) v i = opnB (legsA ns) stale (g n) v i) →
      (Option.bind (g FUEL ((⟨(ns.length : Int), ch, (R : Int), ([] : List prtS), (0 : UInt64), (0 : Int), (0 : Int), (0 : UInt64), (0 : UInt64), false, (0 : Int)⟩ : VolS)) 0) fun a23 =>
          Option.bind (parityvol_Volume_replay a23 s) fun r39 =>
          if (r39.1 ≠ (0 : Int)) then
            some ((none : Option VolS), r39.1, r39.2.2)
          else
            some (((some r39.2.1), (0 : Int), r39.2.2))) = some (some (volG ns c R st), 0, s) := fun st hcon g hg => by
    have ho := opnG_rule (st := st) (g := g) (by omega) hcon hg ⟨(ns.length : Int), ch, (R : Int), ([] : List prtS), (0 : UInt64), (0 : Int), (0 : Int), (0 : UInt64), (0 : UInt64), false, (0 : Int)⟩ FUEL 0 (by omega) (by omega)
    rw [show g FUEL ((⟨(ns.length : Int), ch, (R : Int), ([] : List prtS), (0 : UInt64), (0 : Int), (0 : Int), (0 : UInt64), (0 : UInt64), false, (0 : Int)⟩ : VolS)) 0 = some (volG ns c R st) from by rw [show volG ns c R st = ({ (⟨(ns.length : Int), ch, (R : Int), ([] : List prtS), (0 : UInt64), (0 : Int), (0 : Int), (0 : UInt64), (0 : UInt64), false, (0 : Int)⟩ : VolS) with legs := (List.range ns.length).map fun i => (⟨xL i (ns.getD i 0), decide (st = some i), false⟩ : prtS) } : VolS) from by unfold volG; rw [hc]]; exact ho]; simp only [Option.bind_some]
    rw [replayG (by omega) hs he]; simp only [Option.bind_some]
    rw [if_neg (by simp)]
  cases hk with
  | out h =>
    rw [if_pos (b2.2 h), if_pos (by decide)]
  | two h1 h2 =>
    obtain ⟨m, hm, hx⟩ := h2
    rw [if_neg (fun y => by obtain ⟨m, m1, m2⟩ := b2.1 y; exact h1 m m1 m2), if_pos (by omega)]
    obtain ⟨a, b, c1, c2, c3⟩ := maxmin (l := stale) (by omega) (by omega)
    rw [c1]; simp only [Option.bind_some]
    rw [c2]; simp only [Option.bind_some]
    rw [if_pos (fun y => hx (c3.1 y m hm)), if_pos (by decide)]
  | no h =>
    subst h
    rw [if_neg (fun y => by obtain ⟨m, m1, m2⟩ := b2.1 y; exact absurd m1 (by simp)), if_neg (by simp), if_neg (by simp)]
    refine tail none (fun i => ?_) (parityvol_Open_l2 (legsA ns) []) (fun _ _ _ => rfl)
    obtain ⟨b, c1, c2⟩ := containsI (l := []) (p := (i : Int)) (by simp)
    have : b = false := by
      cases b
      · rfl
      · obtain ⟨m, m1, -⟩ := c2.1 rfl
        exact absurd m1 (by simp)
    rw [c1, this]; simp
  | one k h1 h2 h3 =>
    rw [if_neg (fun y => by
      obtain ⟨m, m1, m2⟩ := b2.1 y
      unfold outR at m2
      rw [h3 m m1] at m2; omega), if_pos (by omega)]
    obtain ⟨a, b, c1, c2, c3⟩ := maxmin (l := stale) (by omega) (by omega)
    rw [c1]; simp only [Option.bind_some]
    rw [c2]; simp only [Option.bind_some]
    rw [if_neg (fun y => y (c3.2 (fun m hm => by rw [h3 m hm, h3 0 h2]))), if_neg (by simp)]
    refine tail (some k) (fun i => ?_) (parityvol_Open_l1 (legsA ns) stale) (fun _ _ _ => rfl)
    obtain ⟨b, c1, c2⟩ := containsI (l := stale) (p := (i : Int)) (by omega)
    have : b = decide (some k = some i) := by
      rw [Bool.eq_iff_iff, c2]
      constructor
      · rintro ⟨m, m1, m2⟩
        rw [h3 m m1] at m2
        exact decide_eq_true (by rw [Int.ofNat.inj m2])
      · intro y
        have := Option.some.inj (of_decide_eq_true y)
        exact ⟨0, h2, by rw [h3 0 h2, this]⟩
    rw [c1, this]
theorem sizeG (hn : 3 ≤ ns.length ∧ ns.length ≤ 6) (hRc : R * c ≤ 1000) (hc : 1 ≤ c ∧ c ≤ 20) : parityvol_Volume_Size (volG ns c R st) s = some (((ns.length - 1) * R * c : Nat) : Int) := by
  have hR : R ≤ 1000 := Nat.le_trans (Nat.le_mul_of_pos_right _ (by omega)) hRc
  have e1 : (ns.length : Int) - 1 = ((ns.length - 1 : Nat) : Int) := by omega
  have e2 : ((ns.length - 1 : Nat) : Int) * (R : Int) = (((ns.length - 1) * R : Nat) : Int) := by push_cast; rfl
  have e3 : (((ns.length - 1) * R : Nat) : Int) * (c : Int) = (((ns.length - 1) * R * c : Nat) : Int) := by push_cast; rfl
  have h4 : (ns.length - 1) * R ≤ 5 * 1000 := Nat.mul_le_mul (by omega) hR
  have h5 : (ns.length - 1) * R * c ≤ 5000 * 20 := Nat.mul_le_mul h4 (by omega)
  unfold parityvol_Volume_Size
  rw [show (volG ns c R st).layout_n = (ns.length : Int) from rfl, show (volG ns c R st).layout_rows = (R : Int) from rfl, show (volG ns c R st).layout_chunk = (c : Int) from rfl, e1, e2, e3, grd_t (inI64_of (by omega)), grd_t (inI64_of (by omega)), grd_t (inI64_of (by omega))]
theorem placeG {n : Nat} (hn : 3 ≤ n ∧ n ≤ 6) (hRc : R * c ≤ 1000) (hc : 1 ≤ c ∧ c ≤ 20) (ha : a < (n - 1) * R * c) : ∃ leg off : Nat, ∃ par : Int, parityvol_layout_place (⟨(n : Int), (c : Int), (R : Int)⟩ : parityvol_layout) (a : Int) = some ((leg : Int), (off : Int), par) ∧ leg < n ∧ off < R * c := by
  have hR : R ≤ 1000 := Nat.le_trans (Nat.le_mul_of_pos_right _ (by omega)) hRc
  have h4 : (n - 1) * R ≤ 5 * 1000 := Nat.mul_le_mul (by omega) hR
  have h5 : (n - 1) * R * c ≤ 5000 * 20 := Nat.mul_le_mul h4 (by omega)
  unfold parityvol_layout_place parity_Place parity_newLayout
  simp only [Option.bind_some]
  rw [if_neg (by simp; omega)]
  unfold parity_sector
  simp only [Option.bind_some]
  rw [if_neg (by simp; omega), grd_t (decide_eq_true (by omega)), grd_t (inI64_of (by omega)), grd_t (decide_eq_true (by omega))]
  have e1 : (n : Int) - 1 = ((n - 1 : Nat) : Int) := by omega
  have d1 : a / c ≤ a := Nat.div_le_self _ _
  have d2 : a / c / (n - 1) ≤ a / c := Nat.div_le_self _ _
  have d3 : a / c / (n - 1) % n < n := Nat.mod_lt _ (by omega)
  have d4 : a / c % (n - 1) < n - 1 := Nat.mod_lt _ (by omega)
  have d5 : a % c < c := Nat.mod_lt _ (by omega)
  have d6 : a / c < (n - 1) * R := (Nat.div_lt_iff_lt_mul (by omega)).2 ha
  have d7 : a / c / (n - 1) < R := (Nat.div_lt_iff_lt_mul (by omega)).2 (by rw [Nat.mul_comm]; exact d6)
  have d8 : a / c / (n - 1) * c + a % c < R * c := by
    have h1 : (a / c / (n - 1) + 1) * c ≤ R * c := Nat.mul_le_mul_right _ d7
    rw [Nat.succ_mul] at h1; omega
  obtain ⟨r, hr⟩ : ∃ r, r = a / c / (n - 1) := ⟨_, rfl⟩
  obtain ⟨rm, hrm⟩ : ∃ r, r = a / c / (n - 1) % n := ⟨_, rfl⟩
  obtain ⟨x, hx⟩ : ∃ x, x = a / c % (n - 1) := ⟨_, rfl⟩
  obtain ⟨y, hy⟩ : ∃ y, y = a % c := ⟨_, rfl⟩
  rw [← hrm] at d3
  rw [← hx] at d4
  rw [← hy] at d5 d8
  rw [← hr] at d8
  rw [e1, tdivN, wrapN (by omega), tdivN, wrapN (by omega)]
  unfold parity_rows_parity lt
  simp only []
  rw [e1, tmodN, tmodN, tmodN, grd_t (inI64_of (by omega)), grd_t (decide_eq_true (by omega)), ← hrm, ← hx, ← hy, ← hr]
  have e2 : ((n - 1 : Nat) : Int) - (rm : Int) = ((n - 1 - rm : Nat) : Int) := by omega
  rw [e2, grd_t (inI64_of (by omega))]; simp only [Option.bind_some]
  have e3 : ((n - 1 - rm : Nat) : Int) + 1 + (x : Int) = ((n - 1 - rm + 1 + x : Nat) : Int) := by push_cast; rfl
  have e4 : (r : Int) * (c : Int) = ((r * c : Nat) : Int) := by push_cast; rfl
  have e5 : ((r * c : Nat) : Int) + (y : Int) = ((r * c + y : Nat) : Int) := by push_cast; rfl
  rw [grd_t (inI64_of (by omega)), grd_t (inI64_of (by omega)), grd_t (decide_eq_true (by omega)), e3, grd_t (inI64_of (by omega)), tmodN, e4, e5, grd_t (decide_eq_true (by omega)), grd_t (inI64_of (by omega)), grd_t (decide_eq_true (by omega)), grd_t (inI64_of (by omega))]
  exact ⟨_, _, _, rfl, Nat.mod_lt _ (by omega), d8⟩
theorem othersG_l1 (hn : ns.length ≤ 8) (hs : ∀ i, i < ns.length → 16 + o < ns.getD i 0 ∧ ns.getD i 0 ≤ 1000) (he : GE ns K s) : ∀ (N i : Nat) (acc : List UInt64), ns.length - i < N → i ≤ ns.length → acc.length ≤ i →
    ∃ acc', parityvol_Volume_others_l1 (volG ns c R st) (d : Int) (o : Int) true s N (volG ns c R st) acc i = some (.inl (acc', volG ns c R st)) ∧ acc'.length ≤ ns.length
  | 0, _, _, h, _, _ => absurd h (by omega)
  | N + 1, i, acc, h, hi, hl => by
    have hu : parityvol_Volume_others_l1 (volG ns c R st) (d : Int) (o : Int) true s (N + 1) (volG ns c R st) acc i = parityvol_Volume_others_l1_b (volG ns c R st) (d : Int) (o : Int) true s (parityvol_Volume_others_l1 (volG ns c R st) (d : Int) (o : Int) true s N) (volG ns c R st) acc i := rfl
    rw [hu]
    unfold parityvol_Volume_others_l1_b
    rw [volG_len]
    by_cases hlt : i < ns.length
    · have h1 := hs i hlt
      rw [if_pos (by omega)]
      by_cases hid : i = d
      · rw [if_pos (by omega)]
        exact othersG_l1 hn hs he N (i + 1) acc (by omega) (by omega) (by omega)
      · rw [if_neg (by omega), if_pos rfl]
        unfold parityvol_Volume_on__parityvol_Volume_others_1 parityvol_Volume_others_1
        have e16 : (16 : Int) + (o : Int) = ((16 + o : Nat) : Int) := by push_cast; rfl
        rw [volG_len, Int.toNat_natCast, grd_t (decide_eq_true ⟨by omega, by omega⟩), grd_t (inI64_of (by omega)), volG_at hlt, e16, he.rd (a := 16 + o) hlt rfl h1.1 h1.2]; simp only [Option.bind_some]
        rw [on1G rfl]; simp only [Option.bind_some]
        rw [if_neg (by simp), grd_t (inLen_of (by omega))]
        exact othersG_l1 hn hs he N (i + 1) _ (by omega) (by omega) (by simp; omega)
    · rw [if_neg (by omega)]
      exact ⟨acc, rfl, by omega⟩
theorem wordG (hn : ns.length ≤ 8) (hs : ∀ i, i < ns.length → 16 + o < ns.getD i 0 ∧ ns.getD i 0 ≤ 1000) (he : GE ns K s) (hd : d < ns.length) : ∃ w, parityvol_Volume_word (volG ns c R st) (d : Int) (o : Int) s = some (w, false, 0, volG ns c R st) := by
  have hF := fuel_big
  have h1 := hs d hd
  unfold parityvol_Volume_word
  rw [volG_len, Int.toNat_natCast, grd_t (decide_eq_true ⟨by omega, by omega⟩), volG_at hd]
  by_cases z : st = some d
  · rw [if_pos (decide_eq_true z)]
    unfold parityvol_Volume_others
    obtain ⟨acc, a1, a2⟩ := othersG_l1 (d := d) (c := c) (R := R) (st := st) hn hs he FUEL 0 [] (by omega) (by omega) (by simp)
    rw [a1, seqO_inl, parXor_eq (show acc.length ≤ 1000 by omega)]
    exact ⟨_, rfl⟩
  · rw [if_neg (by simpa using z)]
    unfold parityvol_Volume_on__parityvol_Volume_word_1 parityvol_Volume_word_1
    have e16 : (16 : Int) + (o : Int) = ((16 + o : Nat) : Int) := by push_cast; rfl
    rw [volG_len, Int.toNat_natCast, grd_t (decide_eq_true ⟨by omega, by omega⟩), grd_t (inI64_of (by omega)), volG_at hd, e16, he.rd (a := 16 + o) hd rfl h1.1 h1.2]; simp only [Option.bind_some]
    rw [if_neg (by simp)]; simp only [Option.bind_some]
    rw [on1G rfl]
    exact ⟨_, rfl⟩
theorem readG {x : Int} (hn : 3 ≤ ns.length ∧ ns.length ≤ 6) (hRc : R * c ≤ 1000) (hc : 1 ≤ c ∧ c ≤ 20) (hs : ∀ i, i < ns.length → 16 + R * c ≤ ns.getD i 0 ∧ ns.getD i 0 ≤ 1000) (he : GE ns K s) : ∃ w er, parityvol_Volume_Read (volG ns c R st) x s = some (w, er, volG ns c R st, s) ∧ ((x < 0 ∨ (((ns.length - 1) * R * c : Nat) : Int) ≤ x) ↔ er = 1) := by
  unfold parityvol_Volume_Read
  by_cases h0 : x < 0
  · rw [if_pos h0]; exact ⟨_, _, rfl, fun _ => rfl, fun _ => .inl h0⟩
  · rw [if_neg h0, sizeG hn hRc hc]; simp only [Option.bind_some]
    by_cases h1 : (((ns.length - 1) * R * c : Nat) : Int) ≤ x
    · rw [if_pos h1]; exact ⟨_, _, rfl, fun _ => rfl, fun _ => .inr h1⟩
    · obtain ⟨a, rfl⟩ : ∃ a : Nat, x = (a : Int) := ⟨x.toNat, by omega⟩
      rw [if_neg h1, readyG (by omega)]; simp only [Option.bind_some]
      obtain ⟨leg, off, par, p1, p2, p3⟩ := placeG (a := a) hn hRc hc (by omega)
      rw [if_neg (by simp), show (⟨(volG ns c R st).layout_n, (volG ns c R st).layout_chunk, (volG ns c R st).layout_rows⟩ : parityvol_layout) = ⟨(ns.length : Int), (c : Int), (R : Int)⟩ from rfl, p1]; simp only [Option.bind_some]
      obtain ⟨w, hw⟩ := wordG (o := off) (d := leg) (c := c) (R := R) (st := st) (by omega) (fun i hi => by have := hs i hi; omega) he p2
      rw [hw]; simp only [Option.bind_some]
      rw [if_neg (by simp), if_neg (by simp)]
      exact ⟨_, _, rfl, fun y => absurd y (by omega), fun y => by cases y⟩
theorem writeG {x : Int} {w : UInt64} (hn : 3 ≤ ns.length ∧ ns.length ≤ 6) (hRc : R * c ≤ 1000) (hc : 1 ≤ c ∧ c ≤ 20) (hx : x < 0 ∨ (((ns.length - 1) * R * c : Nat) : Int) ≤ x) : parityvol_Volume_Write (volG ns c R st) x w s = some (1, volG ns c R st, s) := by
  unfold parityvol_Volume_Write
  by_cases h0 : x < 0
  · rw [if_pos h0]
  · rw [if_neg h0, sizeG hn hRc hc]; simp only [Option.bind_some]
    rw [if_pos (hx.elim (fun y => absurd y h0) id)]
theorem acceptG (hn : ns.length ≤ 8) : parityvol_Volume_Accept (volG ns c R none) s = some (20, volG ns c R none, s) := by
  unfold parityvol_Volume_Accept
  rw [readyG hn]; simp only [Option.bind_some]
  rw [if_neg (by simp), staleG hn (fun j hj => by cases hj)]; simp only [Option.bind_some]
  rw [if_pos (by simp [stI])]
theorem filledG (hn : ns.length ≤ 8) : parityvol_Volume_Filled (volG ns c R none) s = some false := by
  unfold parityvol_Volume_Filled
  rw [staleG hn (fun j hj => by cases hj)]; simp only [Option.bind_some]
  rw [if_neg (by simp [stI])]
end
end Go.Proofs
namespace Go.Proofs
open Go.VG
theorem secSetP {t : List Sec} {i j : Nat} {y : Sec} (h : i < t.length) : (t.set i y).getD j s0 = if j = i then y else t.getD j s0 := by
  simp only [List.getD, List.getElem?_set]
  by_cases e : i = j
  · subst e; simp [h]
  · rw [if_neg e, if_neg (fun x => e x.symm)]
theorem secMapP {t : List Sec} {g : Sec → Sec} {j : Nat} (h : j < t.length) : (t.map g).getD j s0 = g (t.getD j s0) := by
  simp only [List.getD, List.getElem?_map]; rw [List.getElem?_eq_getElem h]; rfl
theorem wroteP_at {t : List Sec} {a b : Nat} {v : UInt64} {q : Bool} (h : a < t.length) : (wroteT t (a : Int) v q).getD b s0 = if b = a then ⟨(t.getD a s0).some ++ [v], q, v⟩ else t.getD b s0 := by
  rw [wroteT_ok h, secSetP h]
theorem smallP_of {t : List Sec} {n : Nat} (h : ∀ a, a < n → (t.getD a s0).some.length ≤ 100000) (hl : t.length = n) : smallT t = true := by
  unfold smallT
  rw [List.all_eq_true]
  intro y hy
  obtain ⟨i, hi, rfl⟩ := List.getElem_of_mem hy
  have := h i (by omega)
  simp only [List.getD, List.getElem?_eq_getElem hi, Option.getD_some] at this
  rw [Nat.ble_eq]; omega
def vlP (C : PC) (V : Nat → Nat → UInt64) (a : Nat) : UInt64 := V (C.leg a) (C.off a)
structure TI (C : PC) (T : List Sec) (V : Nat → Nat → UInt64) : Prop where
  ok : ∀ a, a < C.D → vlP C V a ∈ (T.getD a s0).some
  kn : ∀ a, a < C.D → (T.getD a s0).known = true → (T.getD a s0).value = vlP C V a
structure TL (C : PC) (K : Nat) (T : List Sec) : Prop where
  len : T.length = C.D
  sm : ∀ a, a < C.D → (T.getD a s0).some.length ≤ K + 1
section
variable {C : PC} {V V' V1 : Nat → Nat → UInt64} {st fl z : Option Nat} {q q' q1 : UInt64} {e e' e1 : PE} {k i j d f a b : Nat} {mz : Nat → Bool} {F : Prop} {K K' : Nat} {s t u : ArrS} {v w : UInt64} {T : List Sec} {o : OwnS} {p : Bool}
theorem TL.mono (h : TL C K T) (hK : K ≤ K') : TL C K' T := ⟨h.len, fun a ha => by have := h.sm a ha; omega⟩
theorem TL.small (h : TL C K T) (hK : K ≤ 90000) : smallT T = true := smallP_of (fun a ha => by have := h.sm a ha; omega) h.len
theorem TI.old (hl : T.length = C.D) (h : TI C T V) (ha : a < C.D) : TI C (wroteT T (a : Int) w false) V := by
  have hlt : a < T.length := by rw [hl]; exact ha
  refine ⟨fun b hb => ?_, fun b hb => ?_⟩
  · rw [wroteP_at hlt]
    split
    · rename_i y; subst y; exact List.mem_append_left _ (h.ok b hb)
    · exact h.ok b hb
  · rw [wroteP_at hlt]
    split
    · intro y; cases y
    · exact h.kn b hb
def Cs (C : PC) (st : Option Nat) (K : Nat) (S : (Nat → Nat → UInt64) → Prop) (s : ArrS) : Prop :=
  (∃ V q e, JV C V q e ∧ q.toNat ≤ K ∧ Qs C st V q e s ∧ S V) ∨ (∃ V q e V' q' e', JV C V q e ∧ q.toNat + 1 ≤ K ∧ Nx C V q V' q' e' ∧ Pe C st V q e V' q' e' s ∧ S V ∧ S V')
structure UPv (C : PC) (st z : Option Nat) (mz : Nat → Bool) (K : Nat) (V : Nat → Nat → UInt64) (q : UInt64) (e : PE) (o : OwnS) (s : ArrS) : Prop where
  x : ∃ k, (st = none ∨ k = 0) ∧ o.X = some (vol C st none q e false k)
  ow : OwI C st z mz o
  en : PEn C mz True K s
  jv : JV C V q e
  qk : q.toNat ≤ K
  qs : Qs C st V q e s
  ti : TI C o.T V
  tl : TL C K o.T
theorem OwI.set {o' : OwnS} (h : OwI C st z mz o) (h1 : o'.Open_1 = o.Open_1) (h2 : o'.Stale = o.Stale) (h3 : o'.Lost = o.Lost) : OwI C st z mz o' := ⟨h1.trans h.o1, h2.trans h.stl, h3.trans h.lost, h.mzz, h.sz, h.zl⟩
theorem Qs.drop (h : Qs C none V q e s) : Qs C st V q e s := fun d hd _ => h d hd (fun y => by cases y)
theorem Pe.drop (h : Pe C none V q e V' q' e' s) : Pe C st V q e V' q' e' s := h.imp (fun h d hd _ => h d hd (fun y => by cases y)) (fun h d hd _ => h d hd (fun y => by cases y))
theorem UPv.none (h : UPv C st z mz K V q e o s) (hj : mz j = true) (hs : st ≠ some j) : st = none ∧ z = some j := by
  have hz := h.ow.mzz j hj
  refine ⟨?_, hz⟩
  rcases h.ow.sz with y | y
  · exact y
  · rw [y] at hs; exact absurd hz hs
theorem OwI.no (h : OwI C (some j) (some j) mz o) : ∀ i, mz i = true → (some j : Option Nat) = some i := fun i hi => h.mzz i hi
theorem TI.flushed (h : TI C T V) (htl : TL C K T) : TI C (flushedT T) V ∧ TL C K (flushedT T) := by
  have hx : ∀ a, a < C.D → (flushedT T).getD a s0 = flushX (T.getD a s0) := fun a ha => by unfold flushedT; exact secMapP (by rw [htl.len]; exact ha)
  refine ⟨⟨fun a ha => ?_, fun a ha => ?_⟩, ⟨by unfold flushedT; rw [List.length_map]; exact htl.len, fun a ha => ?_⟩⟩
  · rw [hx a ha]; unfold flushX
    split
    · rename_i hk
      rw [h.kn a ha hk]; exact List.mem_singleton.2 rfl
    · exact h.ok a ha
  · rw [hx a ha]; unfold flushX
    split
    · intro hk; exact h.kn a ha hk
    · exact h.kn a ha
  · rw [hx a ha]; unfold flushX
    split
    · simp
    · exact htl.sm a ha
end
end Go.Proofs
namespace Go.Proofs
open Go.VG
end Go.Proofs
namespace Go.Proofs
open Go.VG
end Go.Proofs
set_option linter.unusedSimpArgs false
set_option linter.unusedVariables false
set_option maxRecDepth 20000
set_option maxHeartbeats 4000000
namespace Go.Proofs
open Go.VG
end Go.Proofs
namespace Go.Proofs
open Go.VG
section
variable {C : PC} {V V' V1 : Nat → Nat → UInt64} {st fl z : Option Nat} {q q' q1 : UInt64} {e e' e1 : PE} {k i j d f a b : Nat} {mz : Nat → Bool} {F : Prop} {K K' : Nat} {s t u : ArrS} {v w : UInt64} {T : List Sec} {o : OwnS} {p : Bool}
theorem UPv.mono (h : UPv C st z mz K V q e o s) (hK : K ≤ K') : UPv C st z mz K' V q e o s := ⟨h.x, h.ow, h.en.mono hK, h.jv, by have := h.qk; omega, h.qs, h.ti, h.tl.mono hK⟩
theorem Cs.drop {S : (Nat → Nat → UInt64) → Prop} (h : Cs C none K S s) : Cs C st K S s := h.imp (fun ⟨V, q, e, h1, h2, h3, h4⟩ => ⟨V, q, e, h1, h2, h3.drop, h4⟩) (fun ⟨V, q, e, V', q', e', h1, h2, h3, h4, h5⟩ => ⟨V, q, e, V', q', e', h1, h2, h3, h4.drop, h5⟩)
theorem TI.failed (htl : TL C K T) (h : ∀ a, a < C.D → vlP C V a ∈ (T.getD a s0).some) : TI C (failedT T) V ∧ TL C K (failedT T) := by
  have hx : ∀ a, a < C.D → (failedT T).getD a s0 = failX (T.getD a s0) := fun a ha => by unfold failedT; exact secMapP (by rw [htl.len]; exact ha)
  refine ⟨⟨fun a ha => by rw [hx a ha]; exact h a ha, fun a ha => by rw [hx a ha]; intro y; cases y⟩, ⟨by unfold failedT; rw [List.length_map]; exact htl.len, fun a ha => by rw [hx a ha]; exact htl.sm a ha⟩⟩
theorem PEn.any (h : PEn C mz False K s) : PEn C mz True K s := ⟨h.ok, h.dn, h.ms, fun y => absurd trivial y⟩
theorem UPv.fuse (h : UPv C st z mz K V q e o s) {n : Nat} : UPv C st z mz K V q e o { s with fuse := n } := ⟨h.x, h.ow, ⟨h.en.ok.fuse, h.en.dn, h.en.ms, fun y => absurd trivial y⟩, h.jv, h.qk, fun d hd hds => (h.qs d hd hds).frame (fun _ => rfl) (fun _ _ => rfl), h.ti, h.tl⟩
end
end Go.Proofs
set_option linter.unusedSimpArgs false
set_option linter.unusedVariables false
set_option maxRecDepth 20000
set_option maxHeartbeats 4000000
namespace Go.Proofs
open Go.VG
theorem bld_37_0_1_3 (v0 : (Option Addr)) (v1 : Fn) (v2 : (Array Value)) (v3 : (Array Value)) (v4 : (Option Addr)) : ∀ w, (Instr.build 37 (#[(0, .pointer v0), (1, .func v1 v2 v3), (3, .pointer v4)] : Array (Nat × Value))).run Tryz.prog w = .ok (.agg #[.pointer v0, .func v1 v2 v3, .nilIface, .pointer v4, .slice none 0 0, .slice none 0 0]) w := fun w => by kernel_rfl
def volumegrouplaw19_open (a : ArrS) (chunk : Int) : Option (Int) :=
  some chunk
def volumegrouplaw19_open_v (a : ArrS) (chunk : Int) : Int := chunk
theorem L_volumegrouplaw19_open {W : World} {ba : Nat} {a : ArrS} {chunk : Int} {r : Int} (h : volumegrouplaw19_open a chunk = some r) :
    CSpec Tryz.prog W 46 [ptr ba 0, .int .i64 chunk] [Arr ba a] (fun x : Nat × Nat => .func (.func 97) #[] #[ptr x.1 0, ptr x.2 0]) (fun _ => True) (fun x F => Arr ba a :: blk x.1 30 [ptr ba 0] :: blk x.2 3 [.int .i64 r] :: F) := by
 refine CSpec.of_body Tryz.func46 rfl Tryz.ntmps46 rfl fun F => ?_
 show CJ _ _ _ _ _ _ (_ :: F)
 unfold volumegrouplaw19_open at h
 refine sR <| oO <| O_box rfl rfl rfl fun b1 => oO <| O_box rfl rfl rfl fun b2 => oA rfl rfl <| nT <| sR <| oP (P_makeFunc rfl rfl) rfl <| oA rfl rfl <| nT <| CJ_ret ?_
 cases h
 exact fE (res1 Tryz.results46 rfl) ⟨b1, b2⟩ (t2_ (t1_ eR))
def volumegrouplaw19_begun_l1_b (legs : Int) (rows : Int) (chunk : Int) (rec : (List Int) → Nat → Option ((List Int))) (x8 : List Int) (x10 : Nat) : Option ((List Int)) :=
  if (((x10 : Nat) : Int) < legs) then
    grd (inI64 (rows * chunk)) <|
    grd (inI64 (((16 : Int) + (rows * chunk)))) <|
    grd (inLen (x8.length + 1)) <|
    grd (inN64 (x10 + 1)) <|
    rec ((x8 ++ [((16 : Int) + (rows * chunk))])) (x10 + 1)
  else
    some x8
def volumegrouplaw19_begun_l1 (legs : Int) (rows : Int) (chunk : Int) : Nat → (List Int) → Nat → Option ((List Int))
  | 0, _, _ => none
  | n + 1, x8, x10 => volumegrouplaw19_begun_l1_b legs rows chunk (volumegrouplaw19_begun_l1 legs rows chunk n) x8 x10
def volumegrouplaw19_begun (legs : Int) (rows : Int) (chunk : Int) : Option ((Option OwnS) × (Option ArrS)) :=
  Option.bind (volumegrouplaw19_begun_l1 legs rows chunk FUEL ([]) 0) fun a7 =>
  grd (inLen a7.length) <|
  if ((newC a7) ≠ (0 : Int)) then
    some (none, none)
  else
    Option.elim (newO a7) (
      some (none, none)) fun o25 =>
    Option.bind (volumegroupmake_Spans o25) fun r26 =>
    Option.bind (parityvol_Format r26 chunk o25) fun r32 =>
    if (r32.1 ≠ (0 : Int)) then
      some (none, none)
    else
      if (((r32.2.log.length : Nat) : Int) ≠ (0 : Int)) then
        some (none, none)
      else
        grd (inI64 ((legs - (1 : Int)))) <|
        grd (inI64 (((legs - (1 : Int)) * rows))) <|
        grd (inI64 ((((legs - (1 : Int)) * rows) * chunk))) <|
        grd (decide (0 ≤ (((legs - (1 : Int)) * rows) * chunk) ∧ (((legs - (1 : Int)) * rows) * chunk) ≤ 1000000000)) <|
        grd (decide (((List.replicate (((((legs - (1 : Int)) * rows) * chunk)).toNat) (0 : UInt64))).length ≤ 65536)) <|
        some (((some ((⟨(volumegrouplaw19_open_v r32.2 chunk), none, (trkT ((List.replicate (((((legs - (1 : Int)) * rows) * chunk)).toNat) (0 : UInt64)))), [], []⟩ : OwnS))), (some r32.2)))
theorem L_volumegrouplaw19_begun {W : World} {legs : Int} {rows : Int} {chunk : Int} {r : (Option OwnS) × (Option ArrS)} (h : volumegrouplaw19_begun legs rows chunk = some r) :
    CSpec Tryz.prog W 13 [.int .i64 legs, .int .i64 rows, .int .i64 chunk] [] (fun x : Nat × Nat => oval r.1 x.1) (fun _ => True) (fun x F => optP (OwnP x.2 x.1) r.1 :: optP (Arr x.2) r.2 :: F) := by
 refine CSpec.of_body Tryz.func13 rfl Tryz.ntmps13 rfl fun F => ?_
 show CJ _ _ _ _ _ _ (F)
 unfold volumegrouplaw19_begun at h
 refine sR <| oA rfl rfl <| nT <| sR <| oA rfl rfl <| nT <| CJ_seq <| sR <| oA rfl rfl <| nT <| CJ_ent (fun h hh => sl_nil (t := tyI) h hh) ?_
 obtain ⟨y4, hl2, hK3⟩ := bind_c h
 refine CJ_cutT (X := (List Int) × Sl3) [7, 8, 11, 12, 13, 14, 15, 16, 17, 18, 19, 20, 21, 22] (fun ⟨a7, hd6⟩ => ([(7, hd6.v)] : Slots)) (fun ⟨a7, hd6⟩ R => sl tyI hd6.v a7 :: R) (fun ⟨a7, hd6⟩ => y4 = a7) (Dels.cons del0 Dels.nil) ?_ ?_
 ·
  refine CJ_block <| CJ_loopR (X := Nat × (List Int) × Nat × Sl3) [7, 8, 11, 12, 13, 14, 15, 16, 17, 18, 19, 20, 21, 22] (fun ⟨n, x8, x10, hd9⟩ => ([(7, hd9.v), (8, .int .i64 (((x10 : Nat) : Int)))] : Slots)) (fun ⟨n, x8, x10, hd9⟩ R => sl tyI hd9.v x8 :: R) (fun ⟨n, x8, x10, hd9⟩ => volumegrouplaw19_begun_l1 legs rows chunk n x8 x10 = some y4) (fun ⟨n, x8, x10, hd9⟩ => n) ⟨FUEL, [], 0, ⟨none, 0, 0⟩⟩ ?_ ?_ eR ?_
  · exact hl2
  · exact ⟨rfl, rfl, True.intro⟩
  ·
   rintro ⟨n, x8, x10, hd9⟩ h
   cases n with
   | zero => exact none_e h
   | succ n => ?_
   replace h : volumegrouplaw19_begun_l1_b legs rows chunk (volumegrouplaw19_begun_l1 legs rows chunk n) x8 x10 = some y4 := h
   unfold volumegrouplaw19_begun_l1_b at h
   show CJ _ _ _ _ _ (([(7, hd9.v), (8, .int .i64 (((x10 : Nat) : Int)))] : Slots) ++ forget _ _) (sl tyI hd9.v x8 :: _)
   refine lC del0 fun hlen11 => CJ_seq <| sR <| oM rfl rfl <| oM rfl rfl <| oP (P_lss (a := ((x10 : Nat) : Int)) (b := legs) rfl rfl) rfl <| nT <| CJ_condP rfl bT_dec (fun hg1 => ?_) (fun hg1 => ?_)
   ·
    replace h := ite_t hg1 h
    refine kT <| CJ_seq <| CJ_block <| CJ_region <| oM rfl rfl <| oM rfl rfl <| oM rfl rfl ?_
    obtain ⟨hg2, h⟩ := grd_Ie h
    refine oP (P_mul (a := rows) (b := chunk) rfl rfl hg2) rfl ?_
    obtain ⟨hg3, h⟩ := grd_Ie h
    refine oP (P_add (a := (16 : Int)) (b := (rows * chunk)) rfl rfl hg3) rfl <| oO <| O_buildSlice rfl (bs_35_1_0 _) rfl fun b12 => ?_
    obtain ⟨hg4, h⟩ := grd_Le h
    refine oO <| O_append (t := tyI) (bytes := 8) rfl rfl del1 foc0 (Reads.lit (t := tyI) (ys := [((16 : Int) + (rows * chunk))]) rfl rfl (by decide) (by decide) rfl) Tryz.underlying35 ok_tyI (apl (m := 1) (b := 8) hg4 (by decide)).1 (apl (m := 1) (b := 8) hg4 (by decide)).2 rfl fun p14 c15 => oA rfl rfl <| RJ_nil <| QJ_block_normal <| QJ_then <| CJ_region <| oM rfl rfl ?_
    obtain ⟨hg5, h⟩ := grd_Ne h
    exact oP (PJ_eq (P_add (a := ((x10 : Nat) : Int)) (b := (1 : Int)) rfl rfl (nat_in hg5)) rfl) rfl <| oA rfl rfl <| RJ_nil <| nR ⟨n, (x8 ++ [((16 : Int) + (rows * chunk))]), (x10 + 1), ⟨p14, (x8 ++ [((16 : Int) + (rows * chunk))]).length, c15⟩⟩ h ⟨rfl, rfl, True.intro⟩ (t0_ (eD eR))
   ·
    replace h := ite_f hg1 h
    exact CJ_exit <| QJ_then_exit <| QJ_round_exit <| QJ_block_here <| cR ⟨x8, hd9⟩ (Option.some.inj h).symm ⟨rfl, True.intro⟩ eR
 ·
  rintro ⟨a7, hd6⟩ hy16
  replace h := bindK_at hK3 hy16
  show CJ _ _ _ _ _ (([(7, hd6.v)] : Slots) ++ forget _ _) (sl tyI hd6.v a7 :: _)
  refine lC del0 fun hlen17 => sR <| oM rfl rfl ?_
  obtain ⟨hg6, h⟩ := grd_Le h
  refine oO <| O_call (c_NewO (Reads.sl _ _ _) hg6) rfl Tryz.call23 (Dels.cons del0 Dels.nil) rfl fun X18 _ => oM rfl rfl <| oP (P_extract rfl rfl) rfl <| oP (P_extract rfl rfl) rfl <| oA rfl rfl <| oA rfl rfl <| nT <| CJ_seq <| sR <| oM rfl rfl <| oP (P_neq (a := (newC a7)) (b := (0 : Int)) rfl rfl) rfl <| oM rfl rfl <| RJ_mbF rfl rfl rfl (fun hG20 => have hP21 : ¬ ((newC a7) ≠ (0 : Int)) := nP (bT_dec) hG20; VJ_P (P_move rfl)) <| RJ_splitP 30 rfl bT_dec (fun hg7B hg7 => ?_) (fun hg7B hg7 => ?_)
  ·
   replace h := ite_t hg7 h
   refine RJ_gn (GY_no rfl rfl rfl hg7B) rfl rfl <| oP (P_pickT rfl hg7B rfl) rfl <| oM rfl rfl <| RJ_gn (GY_no rfl rfl rfl rfl) rfl rfl <| RJ_gn (GY_no rfl rfl rfl rfl) rfl rfl <| RJ_gn (GY_no rfl rfl rfl rfl) rfl rfl <| RJ_gn (GY_no rfl rfl rfl rfl) rfl rfl <| RJ_gn (GY_no rfl rfl rfl rfl) rfl rfl <| oP (P_pickT rfl rfl rfl) rfl <| oM rfl rfl <| RJ_gn (GY_no rfl rfl rfl rfl) rfl rfl <| RJ_gn (GY_no rfl rfl rfl rfl) rfl rfl <| RJ_gn (GY_no rfl rfl rfl rfl) rfl rfl <| oP (P_pickT rfl rfl rfl) rfl <| nT <| CJ_condT rfl rfl <| sR <| oA rfl rfl <| nT <| CJ_ret <| QJ_then_ret ?_
   cases h
   exact fE (res1 Tryz.results13 rfl) ⟨0, 0⟩ (Ent.trans (fun h hh => optP_none h hh) <| t0_ (Ent.trans (fun h hh => optP_none h hh) <| t0_ (eD (eD eR))))
  ·
   replace h := ite_f hg7 h
   rcases opt_e h with ⟨ht24, h⟩ | ⟨o25, ht24, h⟩
   ·
    rw [ht24]
    refine RJ_ent (t1_ (eD eR)) <| gP (GY_yes rfl rfl rfl hg7B) (P_eqlNN (mbx (not_f hg7B) rfl) rfl Tryz.underlying30) rfl <| oP (P_pickF rfl hg7B rfl) rfl <| oM rfl rfl <| RJ_gn (GY_no rfl rfl rfl rfl) rfl rfl <| RJ_gn (GY_no rfl rfl rfl rfl) rfl rfl <| RJ_gn (GY_no rfl rfl rfl rfl) rfl rfl <| RJ_gn (GY_no rfl rfl rfl rfl) rfl rfl <| RJ_gn (GY_no rfl rfl rfl rfl) rfl rfl <| oP (P_pickT rfl rfl rfl) rfl <| oM rfl rfl <| RJ_gn (GY_no rfl rfl rfl rfl) rfl rfl <| RJ_gn (GY_no rfl rfl rfl rfl) rfl rfl <| RJ_gn (GY_no rfl rfl rfl rfl) rfl rfl <| oP (P_pickT rfl rfl rfl) rfl <| nT <| CJ_condT rfl rfl <| sR <| oA rfl rfl <| nT <| CJ_ret <| QJ_then_ret ?_
    cases h
    exact fE (res1 Tryz.results13 rfl) ⟨0, 0⟩ (Ent.trans (fun h hh => optP_none h hh) <| t0_ (Ent.trans (fun h hh => optP_none h hh) <| t0_ (eD eR)))
   ·
    rw [ht24]
    refine RJ_ent (Ent.takeC (A' := Arr X18 o25) del0 rfl eR) <| gP (GY_yes rfl rfl rfl hg7B) (P_eqlPN (mbx (not_f hg7B) rfl) rfl Tryz.underlying30) rfl <| oP (P_pickF rfl hg7B rfl) rfl <| oM rfl rfl <| gP (GY_yes rfl rfl rfl rfl) (P_move rfl) rfl ?_
    obtain ⟨r26, hr27, h⟩ := bind_e h
    refine RJ_gy (GY_yes rfl rfl rfl rfl) <| O_call (L_volumegroupmake_Spans hr27) rfl Tryz.call24 (Dels.cons del0 Dels.nil) rfl fun X28 _ => RJ_pure (fun h hh => Rs_len (stars_perm (del2 (A := Rs (DevP X18) r26 X28.2)).out h hh)) fun hdl31 => gP (GY_yes rfl rfl rfl rfl) (P_move rfl) rfl ?_
    obtain ⟨r32, hr33, h⟩ := bind_e h
    refine RJ_gy (GY_yes rfl rfl rfl rfl) <| O_call (L_parityvol_Format (Reads.sl _ _ _) hr33) rfl Tryz.call25 (Dels.cons del1 (Dels.cons del1 (Dels.cons del0 Dels.nil))) rfl fun _ _ => gP (GY_yes rfl rfl rfl rfl) (P_neq (a := r32.1) (b := (0 : Int)) rfl rfl) rfl <| oP (P_pickF rfl rfl rfl) rfl <| oM rfl rfl <| RJ_splitP 41 rfl bT_dec (fun hg8B hg8 => ?_) (fun hg8B hg8 => ?_)
    ·
     replace h := ite_t hg8 h
     refine RJ_gn (GY_no rfl rfl rfl hg8B) rfl rfl <| RJ_gn (GY_no rfl rfl rfl hg8B) rfl rfl <| RJ_gn (GY_no rfl rfl rfl hg8B) rfl rfl <| oP (P_pickT rfl hg8B rfl) rfl <| nT <| CJ_condT rfl rfl <| sR <| oA rfl rfl <| nT <| CJ_ret <| QJ_then_ret ?_
     cases h
     exact fE (res1 Tryz.results13 rfl) ⟨0, 0⟩ (Ent.trans (fun h hh => optP_none h hh) <| t0_ (Ent.trans (fun h hh => optP_none h hh) <| t0_ (eD (eD (eD (eD eR))))))
    ·
     replace h := ite_f hg8 h
     refine gP (GY_yes rfl rfl rfl hg8B) (P_move rfl) rfl <| RJ_gy (GY_yes rfl rfl rfl hg8B) <| O_call (c_Unflushed) rfl Tryz.call45 (Dels.cons del2 Dels.nil) rfl fun _ _ => gP (GY_yes rfl rfl rfl hg8B) (P_neq (a := ((r32.2.log.length : Nat) : Int)) (b := (0 : Int)) rfl rfl) rfl <| oP (P_pickF rfl hg8B rfl) rfl <| nT <| CJ_condP rfl bT_dec (fun hg9 => ?_) (fun hg9 => ?_)
     ·
      replace h := ite_t hg9 h
      refine sR <| oA rfl rfl <| nT <| CJ_ret <| QJ_then_ret ?_
      cases h
      exact fE (res1 Tryz.results13 rfl) ⟨0, 0⟩ (Ent.trans (fun h hh => optP_none h hh) <| t0_ (Ent.trans (fun h hh => optP_none h hh) <| t0_ (eD (eD (eD (eD eR))))))
     ·
      replace h := ite_f hg9 h
      refine kT <| CJ_seq <| AJ_startH 11272 (by kernel_rfl) rfl <| aN 0 1 rfl rfl (P_move rfl) rfl <| aN 1 3 rfl rfl (P_move rfl) rfl <| aN 2 7 rfl rfl (P_move rfl) rfl <| aN 4 23 rfl rfl (P_move rfl) rfl ?_
      obtain ⟨hg10, h⟩ := grd_Ie h
      refine aN 5 55 rfl rfl (P_sub (a := legs) (b := (1 : Int)) rfl rfl hg10) rfl <| aN 6 119 rfl rfl (P_move rfl) rfl ?_
      obtain ⟨hg11, h⟩ := grd_Ie h
      refine aN 7 247 rfl rfl (P_mul (a := (legs - (1 : Int))) (b := rows) rfl rfl hg11) rfl <| aN 8 503 rfl rfl (P_move rfl) rfl ?_
      obtain ⟨hg12, h⟩ := grd_Ie h
      refine aN 9 1015 rfl rfl (P_mul (a := ((legs - (1 : Int)) * rows)) (b := chunk) rfl rfl hg12) rfl <| AJ_two 3 10 1023 2039 rfl rfl (by kernel_rfl) rfl rfl (GY_none rfl) (GY_none rfl) ?_ ?_
      ·
       refine O_call (L_volumegrouplaw19_open (rfl : volumegrouplaw19_open r32.2 chunk = some (volumegrouplaw19_open_v r32.2 chunk))) rfl Tryz.call46 (Dels.cons del0 Dels.nil) rfl fun X154 _ => ⟨fun h => absurd h (by decide), ?_⟩
       obtain ⟨hg13, h⟩ := grd_de h
       refine AJ_op 10 2047 rfl (by kernel_rfl) rfl (GY_none rfl) <| O_make (t := tyU) (m := ((((legs - (1 : Int)) * rows) * chunk)).toNat) (x0 := 0) (z := _) (bytes := _) rfl rfl (Int.toNat_of_nonneg (hg13.1)).symm (Int.toNat_of_nonneg (hg13.1)).symm Tryz.underlying43 ⟨Tryz.t44, by kernel_rfl, rfl, rfl, rfl⟩ rfl (by omega) (by decide) rfl fun b434 => ⟨fun h => absurd h (by decide), ?_⟩
       obtain ⟨hg14, h⟩ := grd_de h
       refine AJ_op 11 4095 rfl (by kernel_rfl) rfl (GY_none rfl) <| O_call (c_Tracked (Reads.sl _ _ _) hg14) rfl Tryz.call47 (Dels.cons del0 Dels.nil) rfl fun X474 _ => ⟨fun h => absurd h (by decide), ?_⟩
       refine aN 12 8191 rfl rfl (P_build rfl (bld_37_0_1_3 _ _ _ _ _)) rfl <| AJ_op 13 16383 rfl (by kernel_rfl) rfl (GY_none rfl) <| O_box rfl rfl rfl fun b554 => ⟨fun h => absurd h (by decide), ?_⟩
       refine aN 14 32767 rfl rfl (P_assign rfl) rfl <| AJ_done (by kernel_rfl) <| QJ_ent (t0_ (t0_ (t1_ (t1_ (t1_ (eD (eD (eD (eD eR))))))))) <| QJ_then <| CJ_ret <| QJ_ent (fun h hh => sl_nil (t := tyI) h hh) <| QJ_ent (fun h hh => sl_nil (t := tyI) h hh) <| QJ_ent (Ent.trans (t2_ (t4_ (t4_ (Ent.trans (fun h hh => optP_none h hh) <| t0_ (t2_ (t1_ eR)))))) (OwnP_mk (v0 := (volumegrouplaw19_open_v r32.2 chunk)) (v1 := none) (v2 := (trkT ((List.replicate (((((legs - (1 : Int)) * rows) * chunk)).toNat) (0 : UInt64))))) (v3 := []) (v4 := []) (h0 := X154.1) (h1 := X154.2) (h2 := 0) (h3 := X474) (h4 := ⟨none, 0, 0⟩) (h5 := ⟨none, 0, 0⟩))) ?_
       cases h
       exact fE (res1 Tryz.results13 rfl) ⟨b554, X18⟩ eR
      ·
       obtain ⟨hg13, h⟩ := grd_de h
       refine O_make (t := tyU) (m := ((((legs - (1 : Int)) * rows) * chunk)).toNat) (x0 := 0) (z := _) (bytes := _) rfl rfl (Int.toNat_of_nonneg (hg13.1)).symm (Int.toNat_of_nonneg (hg13.1)).symm Tryz.underlying43 ⟨Tryz.t44, by kernel_rfl, rfl, rfl, rfl⟩ rfl (by omega) (by decide) rfl fun b434 => ⟨fun h => absurd h (by decide), ?_⟩
       refine AJ_op 3 2047 rfl (by kernel_rfl) rfl (GY_none rfl) <| O_call (L_volumegrouplaw19_open (rfl : volumegrouplaw19_open r32.2 chunk = some (volumegrouplaw19_open_v r32.2 chunk))) rfl Tryz.call46 (Dels.cons del1 Dels.nil) rfl fun X154 _ => ⟨fun h => absurd h (by decide), ?_⟩
       obtain ⟨hg14, h⟩ := grd_de h
       refine AJ_op 11 4095 rfl (by kernel_rfl) rfl (GY_none rfl) <| O_call (c_Tracked (Reads.sl _ _ _) hg14) rfl Tryz.call47 (Dels.cons del3 Dels.nil) rfl fun X474 _ => ⟨fun h => absurd h (by decide), ?_⟩
       refine aN 12 8191 rfl rfl (P_build rfl (bld_37_0_1_3 _ _ _ _ _)) rfl <| AJ_op 13 16383 rfl (by kernel_rfl) rfl (GY_none rfl) <| O_box rfl rfl rfl fun b554 => ⟨fun h => absurd h (by decide), ?_⟩
       refine aN 14 32767 rfl rfl (P_assign rfl) rfl <| AJ_done (by kernel_rfl) <| QJ_ent (t0_ (t0_ (t1_ (t1_ (t1_ (eD (eD (eD (eD eR))))))))) <| QJ_then <| CJ_ret <| QJ_ent (fun h hh => sl_nil (t := tyI) h hh) <| QJ_ent (fun h hh => sl_nil (t := tyI) h hh) <| QJ_ent (Ent.trans (t2_ (t4_ (t4_ (Ent.trans (fun h hh => optP_none h hh) <| t0_ (t2_ (t1_ eR)))))) (OwnP_mk (v0 := (volumegrouplaw19_open_v r32.2 chunk)) (v1 := none) (v2 := (trkT ((List.replicate (((((legs - (1 : Int)) * rows) * chunk)).toNat) (0 : UInt64))))) (v3 := []) (v4 := []) (h0 := X154.1) (h1 := X154.2) (h2 := 0) (h3 := X474) (h4 := ⟨none, 0, 0⟩) (h5 := ⟨none, 0, 0⟩))) ?_
       cases h
       exact fE (res1 Tryz.results13 rfl) ⟨b554, X18⟩ eR
def volumegrouplaw19_awake : Option (Bool) :=
  Option.bind (volumegrouplaw19_begun (3 : Int) (2 : Int) (1 : Int)) fun r1 =>
  Option.elim r1.1 (
    some false) fun o7 =>
  Option.elim r1.2 (
    none) fun o9 =>
  Option.bind (volumegroupmake_Owner_Begin o7 o9) fun r10 =>
  if (¬ r10.1 = true) then
    some false
  else
    Option.bind (volumegroupmake_Owner_Write r10.2.1 (1 : Int) (77 : UInt64) r10.2.2) fun r12 =>
    if ((r12.1 ≠ (0 : Int)) ∨ (¬ r12.2.1 = true)) then
      some false
    else
      Option.bind (volumegroupmake_Owner_Flush r12.2.2.1 r12.2.2.2) fun r18 =>
      if ((r18.1 ≠ (0 : Int)) ∨ (¬ r18.2.1 = true)) then
        some false
      else
        Option.bind (volumegroupmake_Spans r18.2.2.2) fun r28 =>
        Option.bind (parityvol_Open r28 ([(1 : Int)]) (1 : Int) r18.2.2.2) fun r35 =>
        if (r35.2.1 ≠ (0 : Int)) then
          some false
        else
          Option.elim r35.1 (
            some false) fun o44 =>
          Option.bind (parityvol_Volume_Read o44 (1 : Int) r35.2.2) fun r45 =>
          if ((r45.2.1 = (0 : Int)) ∧ (r45.1 = (77 : UInt64))) then
            Option.bind (parityvol_Volume_Size r45.2.2.1 r45.2.2.2) fun r51 =>
            if (r51 = (4 : Int)) then
              Option.bind (parityvol_Volume_Stale r45.2.2.1 r45.2.2.2) fun r53 =>
              some ((decide (((r53.length : Nat) : Int) = (1 : Int))))
            else
              some false
          else
            some false
theorem L_volumegrouplaw19_awake {W : World} {r : Bool} (h : volumegrouplaw19_awake = some r) :
    CSpec Tryz.prog W 11 [] [] (fun x : Unit => .bool r) (fun _ => True) (fun x F => F) := by
 refine CSpec.of_body Tryz.func11 rfl Tryz.ntmps11 rfl fun F => ?_
 show CJ _ _ _ _ _ _ (F)
 unfold volumegrouplaw19_awake at h
 refine sR <| oA rfl rfl <| nT <| sR ?_
 obtain ⟨r1, hr2, h⟩ := bind_e h
 refine oO <| O_call (L_volumegrouplaw19_begun hr2) rfl Tryz.call13 Dels.nil rfl fun X3 _ => oA rfl rfl <| nT <| CJ_seq <| sR <| oM rfl rfl ?_
 rcases opt_e h with ⟨ht6, h⟩ | ⟨o7, ht6, h⟩
 ·
  rw [ht6]
  refine RJ_ent (t1_ (eD eR)) <| oP (P_eqlNN rfl rfl Tryz.underlying27) rfl <| oM rfl rfl <| RJ_gn (GY_no rfl rfl rfl rfl) rfl rfl <| RJ_gn (GY_no rfl rfl rfl rfl) rfl rfl <| RJ_gn (GY_no rfl rfl rfl rfl) rfl rfl <| oP (P_pickT rfl rfl rfl) rfl <| nT <| CJ_condT rfl rfl <| sR <| oA rfl rfl <| nT <| CJ_ret <| QJ_then_ret ?_
  cases h
  exact fE (res1 Tryz.results11 rfl) () (eD eR)
 ·
  rw [ht6]
  refine RJ_ent (Ent.takeC (A' := OwnP X3.2 X3.1 o7) del0 rfl eR) <| oP (P_eqlPN rfl rfl Tryz.underlying27) rfl <| oM rfl rfl <| gP (GY_yes rfl rfl rfl rfl) (P_move rfl) rfl ?_
  rcases opt_e h with ⟨ht8, h⟩ | ⟨o9, ht8, h⟩
  ·
   rw [ht8]
   exact RJ_ent (t0_ (eD eR)) <| none_e h
  ·
   rw [ht8]
   refine RJ_ent (Ent.takeC (A' := Arr X3.2 o9) del1 rfl eR) ?_
   obtain ⟨r10, hr11, h⟩ := bind_e h
   refine RJ_gy (GY_yes rfl rfl rfl rfl) <| O_call (L_volumegroupmake_Owner_Begin hr11) rfl Tryz.call18 (Dels.cons del1 (Dels.cons del0 Dels.nil)) rfl fun _ _ => gP (GY_yes rfl rfl rfl rfl) (P_not rfl) rfl <| oP (P_pickF rfl rfl rfl) rfl <| nT <| CJ_condP rfl (bT_not Iff.rfl) (fun hg1 => ?_) (fun hg1 => ?_)
   ·
    replace h := ite_t hg1 h
    refine sR <| oA rfl rfl <| nT <| CJ_ret <| QJ_then_ret ?_
    cases h
    exact fE (res1 Tryz.results11 rfl) () (eD (eD eR))
   ·
    replace h := ite_f hg1 h
    refine kT <| CJ_seq <| sR <| oM rfl rfl ?_
    obtain ⟨r12, hr13, h⟩ := bind_e h
    refine oO <| O_call (L_volumegroupmake_Owner_Write hr13) rfl Tryz.call44 (Dels.cons del0 (Dels.cons del0 Dels.nil)) rfl fun _ _ => oM rfl rfl <| oP (P_extract rfl rfl) rfl <| oP (P_extract rfl rfl) rfl <| oA rfl rfl <| oA rfl rfl <| nT <| sR <| oM rfl rfl <| oP (P_neq (a := r12.1) (b := (0 : Int)) rfl rfl) rfl <| oM rfl rfl <| RJ_mbF rfl rfl rfl (fun hG14 => have hP15 : ¬ (r12.1 ≠ (0 : Int)) := nP (bT_dec) hG14; VJ_P (P_move rfl)) <| RJ_mbF rfl rfl rfl (fun hG16 => have hP17 : ¬ (r12.1 ≠ (0 : Int)) := nP (bT_dec) hG16; VJ_P (P_not (mbx hG16 rfl))) <| oP (P_pickOr rfl rfl (fun hh => mbx (not_f hh) rfl)) rfl <| nT <| CJ_condP rfl (bT_or bT_dec (bT_not Iff.rfl)) (fun hg2 => ?_) (fun hg2 => ?_)
    ·
     replace h := ite_t hg2 h
     refine sR <| oA rfl rfl <| nT <| CJ_ret <| QJ_then_ret ?_
     cases h
     exact fE (res1 Tryz.results11 rfl) () (eD (eD eR))
    ·
     replace h := ite_f hg2 h
     refine kT <| CJ_seq <| sR <| oM rfl rfl ?_
     obtain ⟨r18, hr19, h⟩ := bind_e h
     refine oO <| O_call (L_volumegroupmake_Owner_Flush hr19) rfl Tryz.call15 (Dels.cons del0 (Dels.cons del0 Dels.nil)) rfl fun _ _ => oM rfl rfl <| oP (P_extract rfl rfl) rfl <| oP (P_extract rfl rfl) rfl <| oA rfl rfl <| oA rfl rfl <| nT <| sR <| oM rfl rfl <| oP (P_neq (a := r18.1) (b := (0 : Int)) rfl rfl) rfl <| oM rfl rfl <| RJ_mbF rfl rfl rfl (fun hG20 => have hP21 : ¬ (r18.1 ≠ (0 : Int)) := nP (bT_dec) hG20; VJ_P (P_move rfl)) <| RJ_mbF rfl rfl rfl (fun hG22 => have hP23 : ¬ (r18.1 ≠ (0 : Int)) := nP (bT_dec) hG22; VJ_P (P_not (mbx hG22 rfl))) <| oP (P_pickOr rfl rfl (fun hh => mbx (not_f hh) rfl)) rfl <| nT <| CJ_condP rfl (bT_or bT_dec (bT_not Iff.rfl)) (fun hg3 => ?_) (fun hg3 => ?_)
     ·
      replace h := ite_t hg3 h
      refine sR <| oA rfl rfl <| nT <| CJ_ret <| QJ_then_ret ?_
      cases h
      exact fE (res1 Tryz.results11 rfl) () (eD (eD eR))
     ·
      replace h := ite_f hg3 h
      refine kT <| CJ_seq <| CJ_entX (Ent.transX (t0_ eR) (OwnP_open (l := r18.2.2.1))) fun oc24 => lC del5 fun hlen26 => lC del6 fun hlen27 => CJ_region <| oM rfl rfl <| oP (P_nilCheck rfl) rfl <| oP (P_fieldAddr rfl ⟨_, _, _, Tryz.runUnderlying37, rfl, rfl, Tryz.sizeOf30, rfl⟩) rfl <| oV (V_load rfl foc0 rfl Tryz.isAgg30) rfl ?_
      obtain ⟨r28, hr29, h⟩ := bind_e h
      refine oO <| O_call (L_volumegroupmake_Spans hr29) rfl Tryz.call24 (Dels.cons del7 Dels.nil) rfl fun X30 _ => RJ_pure (fun h hh => Rs_len (stars_perm (del2 (A := Rs (DevP X3.2) r28 X30.2)).out h hh)) fun hdl33 => oO <| O_buildSlice rfl (bs_35_1_0 _) rfl fun b34 => RJ_ent (Ent.trans (t0_ eR) (sl_of_lit (t := tyI) (m := 1) [(1 : Int)] rfl rfl rfl (by decide))) ?_
      obtain ⟨r35, hr36, h⟩ := bind_e h
      refine oO <| O_call (L_parityvol_Open (Reads.sl _ _ _) (Reads.sl _ _ _) hr36) rfl Tryz.call26 (Dels.cons del2 (Dels.cons del2 (Dels.cons del0 (Dels.cons del0 Dels.nil)))) rfl fun X37 _ => oM rfl rfl <| oP (P_extract rfl rfl) rfl <| oP (P_extract rfl rfl) rfl <| oA rfl rfl <| oA rfl rfl <| RJ_nil <| QJ_ent (Ent.trans (t5_ (t5_ (t5_ (t5_ (t5_ (t5_ (t5_ eR))))))) (OwnP_mk (v0 := r18.2.2.1.Open_1) (v1 := r18.2.2.1.X) (v2 := r18.2.2.1.T) (v3 := r18.2.2.1.Stale) (v4 := r18.2.2.1.Lost) (h0 := oc24.1) (h1 := oc24.2.1) (h2 := oc24.2.2.1) (h3 := oc24.2.2.2.1) (h4 := oc24.2.2.2.2.1) (h5 := oc24.2.2.2.2.2))) <| QJ_then <| CJ_seq <| sR <| oM rfl rfl <| oP (P_neq (a := r35.2.1) (b := (0 : Int)) rfl rfl) rfl <| oM rfl rfl <| RJ_mbF rfl rfl rfl (fun hG39 => have hP40 : ¬ (r35.2.1 ≠ (0 : Int)) := nP (bT_dec) hG39; VJ_P (P_move rfl)) <| RJ_splitP 51 rfl bT_dec (fun hg4B hg4 => ?_) (fun hg4B hg4 => ?_)
      ·
       replace h := ite_t hg4 h
       refine RJ_gn (GY_no rfl rfl rfl hg4B) rfl rfl <| oP (P_pickT rfl hg4B rfl) rfl <| nT <| CJ_condT rfl rfl <| sR <| oA rfl rfl <| nT <| CJ_ret <| QJ_then_ret ?_
       cases h
       exact fE (res1 Tryz.results11 rfl) () (eD (eD (eD (eD (eD (eD eR))))))
      ·
       replace h := ite_f hg4 h
       rcases opt_e h with ⟨ht43, h⟩ | ⟨o44, ht43, h⟩
       ·
        rw [ht43]
        refine RJ_ent (t0_ (t0_ (t0_ (t0_ (t0_ (eD eR)))))) <| gP (GY_yes rfl rfl rfl hg4B) (P_eqlNN (mbx (not_f hg4B) rfl) rfl Tryz.underlying65) rfl <| oP (P_pickF rfl hg4B rfl) rfl <| nT <| CJ_condT rfl rfl <| sR <| oA rfl rfl <| nT <| CJ_ret <| QJ_then_ret ?_
        cases h
        exact fE (res1 Tryz.results11 rfl) () (eD (eD (eD (eD (eD eR)))))
       ·
        rw [ht43]
        refine RJ_ent (Ent.takeC (A' := VolP X3.2 X37 o44) del5 rfl eR) <| gP (GY_yes rfl rfl rfl hg4B) (P_eqlPN (mbx (not_f hg4B) rfl) rfl Tryz.underlying65) rfl <| oP (P_pickF rfl hg4B rfl) rfl <| nT <| CJ_condF rfl rfl <| kT <| sR <| oM rfl rfl ?_
        obtain ⟨r45, hr46, h⟩ := bind_e h
        refine oO <| O_call (L_parityvol_Volume_Read hr46) rfl Tryz.call28 (Dels.cons del0 (Dels.cons del4 Dels.nil)) rfl fun _ _ => oM rfl rfl <| oP (P_extract rfl rfl) rfl <| oP (P_extract rfl rfl) rfl <| oA rfl rfl <| oA rfl rfl <| nT <| sR <| oM rfl rfl <| oP (P_eql (a := r45.2.1) (b := (0 : Int)) rfl rfl) rfl <| oM rfl rfl <| RJ_mbT rfl rfl rfl (fun hG47 => have hP48 : (r45.2.1 = (0 : Int)) := (bT_dec).1 hG47; VJ_P (P_move rfl)) <| RJ_mbT rfl rfl rfl (fun hG49 => have hP50 : (r45.2.1 = (0 : Int)) := (bT_dec).1 hG49; VJ_P (P_eq_u64 (a := r45.1) (b := (77 : UInt64)) (mbx hG49 rfl) rfl)) <| oP (P_pickAnd rfl (fun hh => mbx hh rfl) rfl) rfl <| oM rfl rfl <| RJ_splitP 66 rfl (bT_and bT_dec bT_dec) (fun hg5B hg5 => ?_) (fun hg5B hg5 => ?_)
        ·
         replace h := ite_t hg5 h
         refine gP (GY_yes rfl rfl rfl hg5B) (P_move rfl) rfl ?_
         obtain ⟨r51, hr52, h⟩ := bind_e h
         refine RJ_gy (GY_yes rfl rfl rfl hg5B) <| O_call (L_parityvol_Volume_Size hr52) rfl Tryz.call31 (Dels.cons del0 (Dels.cons del0 Dels.nil)) rfl fun _ _ => gP (GY_yes rfl rfl rfl hg5B) (P_eql (a := r51) (b := (4 : Int)) rfl rfl) rfl <| oP (P_pickT rfl hg5B rfl) rfl <| oM rfl rfl <| RJ_splitP 71 rfl bT_dec (fun hg6B hg6 => ?_) (fun hg6B hg6 => ?_)
         ·
          replace h := ite_t hg6 h
          refine gP (GY_yes rfl rfl rfl hg6B) (P_move rfl) rfl ?_
          obtain ⟨r53, hr54, h⟩ := bind_e h
          refine RJ_gy (GY_yes rfl rfl rfl hg6B) <| O_call (L_parityvol_Volume_Stale hr54) rfl Tryz.call39 (Dels.cons del0 (Dels.cons del0 Dels.nil)) rfl fun X55 _ => gV (GY_yes rfl rfl rfl hg6B) (V_len rfl foc2 (Reads.sl _ _ _) Tryz.runUnderlying35) rfl <| gP (GY_yes rfl rfl rfl hg6B) (P_eql (a := ((r53.length : Nat) : Int)) (b := (1 : Int)) rfl rfl) rfl <| oP (P_pickT rfl hg6B rfl) rfl <| oA rfl rfl <| RJ_nil <| QJ_ent (t1_ (eD (eD (eD (eD (eD (eD eR))))))) <| QJ_then <| CJ_ret ?_
          cases h
          exact fE (res1 Tryz.results11 rfl) () (eD eR)
         ·
          replace h := ite_f hg6 h
          refine RJ_gn (GY_no rfl rfl rfl hg6B) rfl rfl <| RJ_gn (GY_no rfl rfl rfl hg6B) rfl rfl <| RJ_gn (GY_no rfl rfl rfl hg6B) rfl rfl <| RJ_gn (GY_no rfl rfl rfl hg6B) rfl rfl <| oP (P_pickF rfl hg6B rfl) rfl <| oA rfl rfl <| nT <| CJ_ret ?_
          cases h
          exact fE (res1 Tryz.results11 rfl) () (eD (eD (eD (eD (eD (eD eR))))))
        ·
         replace h := ite_f hg5 h
         refine RJ_gn (GY_no rfl rfl rfl hg5B) rfl rfl <| RJ_gn (GY_no rfl rfl rfl hg5B) rfl rfl <| RJ_gn (GY_no rfl rfl rfl hg5B) rfl rfl <| oP (P_pickF rfl hg5B rfl) rfl <| oM rfl rfl <| RJ_gn (GY_no rfl rfl rfl rfl) rfl rfl <| RJ_gn (GY_no rfl rfl rfl rfl) rfl rfl <| RJ_gn (GY_no rfl rfl rfl rfl) rfl rfl <| RJ_gn (GY_no rfl rfl rfl rfl) rfl rfl <| oP (P_pickF rfl rfl rfl) rfl <| oA rfl rfl <| nT <| CJ_ret ?_
         cases h
         exact fE (res1 Tryz.results11 rfl) () (eD (eD (eD (eD (eD (eD eR))))))
end Go.Proofs
namespace Go.Proofs
open Go.VG
theorem awake19 : volumegrouplaw19_awake = some true := by kernel_rfl
theorem u8modP {n k : UInt8} (hk : 0 < k.toNat) : (n % k).toNat < k.toNat := by rw [UInt8.toNat_mod]; exact Nat.mod_lt _ hk
end Go.Proofs
