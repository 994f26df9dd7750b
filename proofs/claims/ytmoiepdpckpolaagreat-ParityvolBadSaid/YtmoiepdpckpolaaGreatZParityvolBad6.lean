/- ParityvolBad, part 6 of the proof: LTAll, LOwnC, LOwn, POwnL, PQv6, PQv7, PSmS, PKeep, LOwn2, PQv8, LBeg19, PQv9, PQr0. -/
import Derived.WalkKit
import Derived.Orders
import Derived.RangeFuncLeaves
import Derived.RangeFuncCalls
import Derived.TacticsIn
import Derived.Handy
import Derived.OrdersHeld
import Derived.OrdersIn
import Derived.Below
import Derived.OpenShut
import Derived.Deep.Slices
import Derived.Scope
import Derived.KernelRfl
import Derived.RangeFuncRecord
import Derived.ChangeKeysEq
import Derived.ProofKit
import Derived.ShutString
import Derived.ChangeOld
import Derived.Test.YtmoiepdpckpolaaGreatChecked
import Derived.Test.YtmoiepdpckpolaaGreatRows
import Derived.Test.YtmoiepdpckpolaaGreatZParityvolBad5
set_option linter.unusedSimpArgs false
set_option linter.unusedVariables false
set_option maxRecDepth 20000
set_option maxHeartbeats 4000000
namespace Go.Proofs
open Go.VG
@[ext] structure volumegroupmake_Step where
  Kind : Int
  At : Int
  Value : UInt64
  Keep : UInt64
  deriving DecidableEq
abbrev tyvolumegroupmake_Step : Ty volumegroupmake_Step := { T := 49, sz := 4, enc := fun x => [.int .i64 x.Kind, .int .i64 x.At, .int .u64 (x.Value.toNat : Int), .int .u64 (x.Keep.toNat : Int)], dflt := ⟨0, 0, 0, 0⟩, len := fun _ => rfl, one := fun _ => rfl, pos := by decide }
def volumegroupmake_Few (l : List volumegroupmake_Step) : Option (Bool) :=
  some ((decide (((l.length : Nat) : Int) ≤ (24 : Int))))
theorem L_volumegroupmake_Few {W : World} {Al : HP} {vl : Value} {l : List volumegroupmake_Step} {r : Bool} (rl : Reads Al tyvolumegroupmake_Step vl l) (h : volumegroupmake_Few l = some r) :
    CSpec Tryz.prog W 10 [vl] [Al] (fun x : Unit => .bool r) (fun _ => True) (fun x F => Al :: F) := by
 refine CSpec.of_body Tryz.func10 rfl Tryz.ntmps10 rfl fun F => ?_
 show CJ _ _ _ _ _ _ (_ :: F)
 unfold volumegroupmake_Few at h
 refine CJ_pure (len_of rl del0) fun hlen1 => sR <| oA rfl rfl <| nT <| sR <| oM rfl rfl <| oV (V_len rfl foc0 rl Tryz.runUnderlying22) rfl <| oP (P_leq (a := ((l.length : Nat) : Int)) (b := (24 : Int)) rfl rfl) rfl <| oA rfl rfl <| nT <| CJ_ret ?_
 cases h
 exact fE (res1 Tryz.results10 rfl) () eR
end Go.Proofs
set_option linter.unusedSimpArgs false
set_option linter.unusedVariables false
set_option maxRecDepth 20000
set_option maxHeartbeats 4000000
namespace Go.Proofs
open Go.VG
structure OwnS where
  Open_1 : Int
  X : Option VolS
  T : List Sec
  Stale : List Int
  Lost : List Int
def OwnP (a b : Nat) (l : OwnS) : HP := ex fun h : Nat × Nat × Nat × Nat × Sl3 × Sl3 => star [blk b 37 [ptr a 0, .func (.func 97) #[] #[ptr h.1 0, ptr h.2.1 0], oifc 65 l.X h.2.2.1, ptr h.2.2.2.1 0, (Sl3.v h.2.2.2.2.1), (Sl3.v h.2.2.2.2.2)], blk h.1 30 [ptr a 0], blk h.2.1 3 [.int .i64 l.Open_1], optP (VolP a h.2.2.1) l.X, Trk h.2.2.2.1 l.T, sl tyI (Sl3.v h.2.2.2.2.1) l.Stale, sl tyI (Sl3.v h.2.2.2.2.2) l.Lost]
theorem OwnP_open {a b : Nat} {l : OwnS} {R : List HP} : EntX (OwnP a b l :: R) fun h : Nat × Nat × Nat × Nat × Sl3 × Sl3 => blk b 37 [ptr a 0, .func (.func 97) #[] #[ptr h.1 0, ptr h.2.1 0], oifc 65 l.X h.2.2.1, ptr h.2.2.2.1 0, (Sl3.v h.2.2.2.2.1), (Sl3.v h.2.2.2.2.2)] :: blk h.1 30 [ptr a 0] :: blk h.2.1 3 [.int .i64 l.Open_1] :: optP (VolP a h.2.2.1) l.X :: Trk h.2.2.2.1 l.T :: sl tyI (Sl3.v h.2.2.2.2.1) l.Stale :: sl tyI (Sl3.v h.2.2.2.2.2) l.Lost :: R :=
  fun _ hh => let ⟨c, hc⟩ := stars_ex.1 hh; ⟨c, stars_star.1 hc⟩
theorem OwnP_mk {a b : Nat} {v0 : Int} {v1 : Option VolS} {v2 : List Sec} {v3 : List Int} {v4 : List Int} {h0 : Nat} {h1 : Nat} {h2 : Nat} {h3 : Nat} {h4 : Sl3} {h5 : Sl3} {R : List HP} : Ent (blk b 37 [ptr a 0, .func (.func 97) #[] #[ptr h0 0, ptr h1 0], oifc 65 v1 h2, ptr h3 0, (Sl3.v h4), (Sl3.v h5)] :: blk h0 30 [ptr a 0] :: blk h1 3 [.int .i64 v0] :: optP (VolP a h2) v1 :: Trk h3 v2 :: sl tyI (Sl3.v h4) v3 :: sl tyI (Sl3.v h5) v4 :: R) (OwnP a b ⟨v0, v1, v2, v3, v4⟩ :: R) :=
  fun _ hh => stars_ex.2 ⟨(h0, h1, h2, h3, h4, h5), stars_star.2 hh⟩
end Go.Proofs
set_option linter.unusedSimpArgs false
set_option linter.unusedVariables false
set_option maxRecDepth 20000
set_option maxHeartbeats 4000000
namespace Go.Proofs
open Go.VG
def volumegroupmake_has_l1_b (l : List Int) (n_1 : Int) (rec : Nat → Option ((Unit) ⊕ Bool)) (x6 : Nat) : Option ((Unit) ⊕ Bool) :=
  if (((x6 : Nat) : Int) < ((l.length : Nat) : Int)) then
    if ((l.getD x6 0) = n_1) then
      some (.inr true)
    else
      rec (x6 + 1)
  else
    some (.inl ())
def volumegroupmake_has_l1 (l : List Int) (n_1 : Int) : Nat → Nat → Option ((Unit) ⊕ Bool)
  | 0, _ => none
  | n + 1, x6 => volumegroupmake_has_l1_b l n_1 (volumegroupmake_has_l1 l n_1 n) x6
def volumegroupmake_has (l : List Int) (n_1 : Int) : Option (Bool) :=
  seqO (volumegroupmake_has_l1 l n_1 FUEL 0) fun a5 =>
  some false
theorem L_volumegroupmake_has {W : World} {Al : HP} {vl : Value} {l : List Int} {n_1 : Int} {r : Bool} (rl : Reads Al tyI vl l) (h : volumegroupmake_has l n_1 = some r) :
    CSpec Tryz.prog W 98 [vl, .int .i64 n_1] [Al] (fun x : Unit => .bool r) (fun _ => True) (fun x F => Al :: F) := by
 refine CSpec.of_body Tryz.func98 rfl Tryz.ntmps98 rfl fun F => ?_
 show CJ _ _ _ _ _ _ (_ :: F)
 unfold volumegroupmake_has at h
 refine CJ_pure (len_of rl del0) fun hlen1 => sR <| oA rfl rfl <| nT <| CJ_seq <| sR <| oA rfl rfl <| nT ?_
 obtain ⟨y4, hl2, hK3⟩ := seq_e h
 refine CJ_cutT (X := Unit) [4, 5, 6, 7, 8, 9, 10, 11, 12, 13, 14, 15, 16, 17] (fun _ => ([] : Slots)) (fun _ R => R) (fun _ => y4 = .inl ()) Dels.nil ?_ ?_
 ·
  refine CJ_block <| CJ_loopR (X := Nat × Nat) [4, 5, 6, 7, 8, 9, 10, 11, 12, 13, 14, 15, 16, 17] (fun ⟨n, x6⟩ => ([(5, .int .i64 (((x6 : Nat) : Int)))] : Slots)) (fun ⟨n, x6⟩ R => R) (fun ⟨n, x6⟩ => volumegroupmake_has_l1 l n_1 n x6 = some y4) (fun ⟨n, x6⟩ => n) ⟨FUEL, 0⟩ ?_ ?_ eR ?_
  · exact hl2
  · exact ⟨rfl, True.intro⟩
  ·
   rintro ⟨n, x6⟩ h
   cases n with
   | zero => exact none_e h
   | succ n => ?_
   replace h : volumegroupmake_has_l1_b l n_1 (volumegroupmake_has_l1 l n_1 n) x6 = some y4 := h
   unfold volumegroupmake_has_l1_b at h
   show CJ _ _ _ _ _ (([(5, .int .i64 (((x6 : Nat) : Int)))] : Slots) ++ forget _ _) (_)
   refine CJ_seq <| sR <| oM rfl rfl <| oM rfl rfl <| oV (V_len rfl foc0 rl Tryz.runUnderlying35) rfl <| oP (P_lss (a := ((x6 : Nat) : Int)) (b := ((l.length : Nat) : Int)) rfl rfl) rfl <| nT <| CJ_condP rfl bT_dec (fun hg1 => ?_) (fun hg1 => ?_)
   ·
    replace h := ite_t hg1 h
    refine kT <| CJ_seq <| CJ_block <| sR <| oM rfl rfl <| oM rfl rfl <| oV (V_index (i := x6) rfl rfl rfl (by omega) foc0 rl Tryz.runUnderlying35 Tryz.sizeOf3) rfl <| oV (V_loadE rfl rfl (by omega) foc0 rl rfl rfl Tryz.isAgg3) rfl <| oM rfl rfl <| oP (P_eql (a := (l.getD x6 0)) (b := n_1) rfl rfl) rfl <| nT <| CJ_condP rfl bT_dec (fun hg2 => ?_) (fun hg2 => ?_)
    ·
     replace h := ite_t hg2 h
     refine sR <| oA rfl rfl <| nT <| CJ_ret <| QJ_block_ret <| QJ_then_ret <| QJ_round_ret <| QJ_block_ret <| QJ_then_ret ?_
     have hE := Option.some.inj h
     replace hE := seq_inr hK3 hE.symm
     subst hE
     exact fE (res1 Tryz.results98 rfl) () eR
    ·
     replace h := ite_f hg2 h
     exact CJ_skip <| QJ_block_normal <| QJ_then <| CJ_region <| oM rfl rfl <| oP (PJ_eq (P_add (a := ((x6 : Nat) : Int)) (b := (1 : Int)) rfl rfl (by omega)) rfl) rfl <| oA rfl rfl <| RJ_nil <| nR ⟨n, (x6 + 1)⟩ h ⟨rfl, True.intro⟩ eR
   ·
    replace h := ite_f hg1 h
    exact CJ_exit <| QJ_then_exit <| QJ_round_exit <| QJ_block_here <| cR () (Option.some.inj h).symm True.intro eR
 ·
  rintro _ hy7
  replace h := seq_inl hK3 hy7
  show CJ _ _ _ _ _ (([] : Slots) ++ forget _ _) (_)
  refine sR <| oA rfl rfl <| nT <| CJ_ret ?_
  cases h
  exact fE (res1 Tryz.results98 rfl) () eR
def volumegroupmake_add_l1_b (l : List Int) (rec : Int → (List Int) → Nat → Option (Int × (List Int))) (x10 : Int) (x11 : List Int) (x13 : Nat) : Option (Int × (List Int)) :=
  if (((x13 : Nat) : Int) < ((l.length : Nat) : Int)) then
    Option.bind ((
      if (((0 : Int) ≤ x10) ∧ (x10 < (l.getD x13 0))) then
        grd (inLen (x11.length + 1)) <|
        some (((-1 : Int), (x11 ++ [x10])))
      else
        some (x10, x11) : Option (Int × (List Int)))) fun a33 =>
    if ((l.getD x13 0) = a33.1) then
      grd (inLen (a33.2.length + 1)) <|
      rec (-1 : Int) ((a33.2 ++ [(l.getD x13 0)])) (x13 + 1)
    else
      grd (inLen (a33.2.length + 1)) <|
      rec a33.1 ((a33.2 ++ [(l.getD x13 0)])) (x13 + 1)
  else
    some (x10, x11)
def volumegroupmake_add_l1 (l : List Int) : Nat → Int → (List Int) → Nat → Option (Int × (List Int))
  | 0, _, _, _ => none
  | n + 1, x10, x11, x13 => volumegroupmake_add_l1_b l (volumegroupmake_add_l1 l n) x10 x11 x13
def volumegroupmake_add (l : List Int) (n_1 : Int) : Option ((List Int)) :=
  Option.bind (volumegroupmake_add_l1 l FUEL n_1 ([]) 0) fun a9 =>
  if ((0 : Int) ≤ a9.1) then
    grd (inLen (a9.2.length + 1)) <|
    some (a9.2 ++ [a9.1])
  else
    some a9.2
theorem L_volumegroupmake_add {W : World} {Al : HP} {vl : Value} {l : List Int} {n_1 : Int} {r : (List Int)} (rl : Reads Al tyI vl l) (h : volumegroupmake_add l n_1 = some r) :
    CSpec Tryz.prog W 58 [vl, .int .i64 n_1] [Al] (fun x : Sl3 => x.v) (fun _ => True) (fun x F => Al :: sl tyI x.v r :: F) := by
 refine CSpec.of_body Tryz.func58 rfl Tryz.ntmps58 rfl fun F => ?_
 show CJ _ _ _ _ _ _ (_ :: F)
 unfold volumegroupmake_add at h
 refine CJ_pure (len_of rl del0) fun hlen1 => sR <| oA rfl rfl <| nT <| sR <| oA rfl rfl <| nT <| CJ_seq <| sR <| oA rfl rfl <| nT <| CJ_ent (fun h hh => sl_nil (t := tyI) h hh) ?_
 obtain ⟨y5, hl3, hK4⟩ := bind_c h
 refine CJ_cutT (X := (Int × (List Int)) × Sl3) [1, 5, 6, 7, 8, 9, 10, 11, 12, 13, 14, 15, 16, 17, 18, 19, 20, 21, 22, 23, 24, 25, 26, 27, 28, 29, 30, 31, 32, 33, 34, 35, 36, 37, 38, 39] (fun ⟨a9, hd8⟩ => ([(1, .int .i64 a9.1), (5, hd8.v)] : Slots)) (fun ⟨a9, hd8⟩ R => sl tyI hd8.v a9.2 :: R) (fun ⟨a9, hd8⟩ => y5 = a9) (Dels.cons del0 Dels.nil) ?_ ?_
 ·
  refine CJ_block <| CJ_loopR (X := Nat × Int × (List Int) × Nat × Sl3) [1, 5, 6, 7, 8, 9, 10, 11, 12, 13, 14, 15, 16, 17, 18, 19, 20, 21, 22, 23, 24, 25, 26, 27, 28, 29, 30, 31, 32, 33, 34, 35, 36, 37, 38, 39] (fun ⟨n, x10, x11, x13, hd12⟩ => ([(1, .int .i64 x10), (5, hd12.v), (6, .int .i64 (((x13 : Nat) : Int)))] : Slots)) (fun ⟨n, x10, x11, x13, hd12⟩ R => sl tyI hd12.v x11 :: R) (fun ⟨n, x10, x11, x13, hd12⟩ => volumegroupmake_add_l1 l n x10 x11 x13 = some y5) (fun ⟨n, x10, x11, x13, hd12⟩ => n) ⟨FUEL, n_1, [], 0, ⟨none, 0, 0⟩⟩ ?_ ?_ eR ?_
  · exact hl3
  · exact ⟨rfl, rfl, rfl, True.intro⟩
  ·
   rintro ⟨n, x10, x11, x13, hd12⟩ h
   cases n with
   | zero => exact none_e h
   | succ n => ?_
   replace h : volumegroupmake_add_l1_b l (volumegroupmake_add_l1 l n) x10 x11 x13 = some y5 := h
   unfold volumegroupmake_add_l1_b at h
   show CJ _ _ _ _ _ (([(1, .int .i64 x10), (5, hd12.v), (6, .int .i64 (((x13 : Nat) : Int)))] : Slots) ++ forget _ _) (sl tyI hd12.v x11 :: _)
   refine lC del0 fun hlen14 => CJ_seq <| sR <| oM rfl rfl <| oM rfl rfl <| oV (V_len rfl foc1 rl Tryz.runUnderlying35) rfl <| oP (P_lss (a := ((x13 : Nat) : Int)) (b := ((l.length : Nat) : Int)) rfl rfl) rfl <| nT <| CJ_condP rfl bT_dec (fun hg1 => ?_) (fun hg1 => ?_)
   ·
    replace h := ite_t hg1 h
    refine kT <| CJ_seq <| CJ_block <| CJ_seq <| sR <| oM rfl rfl <| oP (P_geq (a := x10) (b := (0 : Int)) rfl rfl) rfl <| oM rfl rfl <| RJ_mbT rfl rfl rfl (fun hG15 => have hP16 : ((0 : Int) ≤ x10) := (bT_dec).1 hG15; VJ_P (P_move rfl)) <| RJ_mbT rfl rfl rfl (fun hG17 => have hP18 : ((0 : Int) ≤ x10) := (bT_dec).1 hG17; VJ_P (P_move rfl)) <| RJ_mbT rfl rfl rfl (fun hG19 => have hP20 : ((0 : Int) ≤ x10) := (bT_dec).1 hG19; V_index (i := x13) (mbx hG19 rfl) (mbx hG19 rfl) rfl (by omega) foc1 rl Tryz.runUnderlying35 Tryz.sizeOf3) <| RJ_mbT rfl rfl rfl (fun hG21 => have hP22 : ((0 : Int) ≤ x10) := (bT_dec).1 hG21; V_loadE (mbx hG21 rfl) rfl (by omega) foc1 rl rfl rfl Tryz.isAgg3) <| RJ_mbT rfl rfl rfl (fun hG23 => have hP24 : ((0 : Int) ≤ x10) := (bT_dec).1 hG23; VJ_P (P_move rfl)) <| RJ_mbT rfl rfl rfl (fun hG25 => have hP26 : ((0 : Int) ≤ x10) := (bT_dec).1 hG25; VJ_P (P_gtr (a := (l.getD x13 0)) (b := x10) (mbx hG25 rfl) (mbx hG25 rfl))) <| oP (P_pickAnd rfl (fun hh => mbx hh rfl) rfl) rfl <| nT ?_
    obtain ⟨y29, hl27, hK28⟩ := bind_c h
    refine CJ_cutT (X := (Int × (List Int)) × Sl3) [1, 5, 23, 24, 25, 26] (fun ⟨a33, hd32⟩ => ([(1, .int .i64 a33.1), (5, hd32.v)] : Slots)) (fun ⟨a33, hd32⟩ R => sl tyI hd32.v a33.2 :: R) (fun ⟨a33, hd32⟩ => y29 = a33) (Dels.cons del0 Dels.nil) ?_ ?_
    ·
     have h := hl27
     refine CJ_condP rfl (bT_and bT_dec bT_dec) (fun hg2 => ?_) (fun hg2 => ?_)
     ·
      replace h := ite_t hg2 h
      refine CJ_region <| oM rfl rfl <| oM rfl rfl <| oO <| O_buildSlice rfl (bs_35_1_0 _) rfl fun b34 => ?_
      obtain ⟨hg3, h⟩ := grd_Le h
      exact oO <| O_append (t := tyI) (bytes := 8) rfl rfl del1 foc0 (Reads.lit (t := tyI) (ys := [x10]) rfl rfl (by decide) (by decide) rfl) Tryz.underlying35 ok_tyI (apl (m := 1) (b := 8) hg3 (by decide)).1 (apl (m := 1) (b := 8) hg3 (by decide)).2 rfl fun p36 c37 => oA rfl rfl <| oA rfl rfl <| RJ_nil <| cR ⟨((-1 : Int), (x11 ++ [x10])), ⟨p36, (x11 ++ [x10]).length, c37⟩⟩ (Option.some.inj h).symm ⟨rfl, rfl, True.intro⟩ (t0_ (t1_ (eD eR)))
     ·
      replace h := ite_f hg2 h
      exact CJ_skip <| cR ⟨(x10, x11), hd12⟩ (Option.some.inj h).symm ⟨rfl, rfl, True.intro⟩ eR
    ·
     rintro ⟨a33, hd32⟩ hy38
     replace h := bindK_at hK28 hy38
     show CJ _ _ _ _ _ (([(1, .int .i64 a33.1), (5, hd32.v)] : Slots) ++ forget _ _) (sl tyI hd32.v a33.2 :: _)
     refine CJ_seq <| sR <| oM rfl rfl <| oM rfl rfl <| oV (V_index (i := x13) rfl rfl rfl (by omega) foc1 rl Tryz.runUnderlying35 Tryz.sizeOf3) rfl <| oV (V_loadE rfl rfl (by omega) foc1 rl rfl rfl Tryz.isAgg3) rfl <| oM rfl rfl <| oP (P_eql (a := (l.getD x13 0)) (b := a33.1) rfl rfl) rfl <| nT <| CJ_condP rfl bT_dec (fun hg4 => ?_) (fun hg4 => ?_)
     ·
      replace h := ite_t hg4 h
      refine CJ_region <| oA rfl rfl <| nT <| CJ_region <| oM rfl rfl <| oM rfl rfl <| oM rfl rfl <| oV (V_index (i := x13) rfl rfl rfl (by omega) foc1 rl Tryz.runUnderlying35 Tryz.sizeOf3) rfl <| oV (V_loadE rfl rfl (by omega) foc1 rl rfl rfl Tryz.isAgg3) rfl <| oO <| O_buildSlice rfl (bs_35_1_0 _) rfl fun b39 => ?_
      obtain ⟨hg5, h⟩ := grd_Le h
      exact oO <| O_append (t := tyI) (bytes := 8) rfl rfl del1 foc0 (Reads.lit (t := tyI) (ys := [(l.getD x13 0)]) rfl rfl (by decide) (by decide) rfl) Tryz.underlying35 ok_tyI (apl (m := 1) (b := 8) hg5 (by decide)).1 (apl (m := 1) (b := 8) hg5 (by decide)).2 rfl fun p41 c42 => oA rfl rfl <| RJ_nil <| QJ_block_normal <| QJ_then <| CJ_region <| oM rfl rfl <| oP (PJ_eq (P_add (a := ((x13 : Nat) : Int)) (b := (1 : Int)) rfl rfl (by omega)) rfl) rfl <| oA rfl rfl <| RJ_nil <| nR ⟨n, (-1 : Int), (a33.2 ++ [(l.getD x13 0)]), (x13 + 1), ⟨p41, (a33.2 ++ [(l.getD x13 0)]).length, c42⟩⟩ h ⟨rfl, rfl, rfl, True.intro⟩ (t0_ (t1_ (eD eR)))
     ·
      replace h := ite_f hg4 h
      refine kT <| CJ_region <| oM rfl rfl <| oM rfl rfl <| oM rfl rfl <| oV (V_index (i := x13) rfl rfl rfl (by omega) foc1 rl Tryz.runUnderlying35 Tryz.sizeOf3) rfl <| oV (V_loadE rfl rfl (by omega) foc1 rl rfl rfl Tryz.isAgg3) rfl <| oO <| O_buildSlice rfl (bs_35_1_0 _) rfl fun b43 => ?_
      obtain ⟨hg6, h⟩ := grd_Le h
      exact oO <| O_append (t := tyI) (bytes := 8) rfl rfl del1 foc0 (Reads.lit (t := tyI) (ys := [(l.getD x13 0)]) rfl rfl (by decide) (by decide) rfl) Tryz.underlying35 ok_tyI (apl (m := 1) (b := 8) hg6 (by decide)).1 (apl (m := 1) (b := 8) hg6 (by decide)).2 rfl fun p45 c46 => oA rfl rfl <| RJ_nil <| QJ_block_normal <| QJ_then <| CJ_region <| oM rfl rfl <| oP (PJ_eq (P_add (a := ((x13 : Nat) : Int)) (b := (1 : Int)) rfl rfl (by omega)) rfl) rfl <| oA rfl rfl <| RJ_nil <| nR ⟨n, a33.1, (a33.2 ++ [(l.getD x13 0)]), (x13 + 1), ⟨p45, (a33.2 ++ [(l.getD x13 0)]).length, c46⟩⟩ h ⟨rfl, rfl, rfl, True.intro⟩ (t0_ (t1_ (eD eR)))
   ·
    replace h := ite_f hg1 h
    exact CJ_exit <| QJ_then_exit <| QJ_round_exit <| QJ_block_here <| cR ⟨(x10, x11), hd12⟩ (Option.some.inj h).symm ⟨rfl, rfl, True.intro⟩ eR
 ·
  rintro ⟨a9, hd8⟩ hy47
  replace h := bindK_at hK4 hy47
  show CJ _ _ _ _ _ (([(1, .int .i64 a9.1), (5, hd8.v)] : Slots) ++ forget _ _) (sl tyI hd8.v a9.2 :: _)
  refine lC del0 fun hlen48 => CJ_seq <| sR <| oM rfl rfl <| oP (P_geq (a := a9.1) (b := (0 : Int)) rfl rfl) rfl <| nT <| CJ_condP rfl bT_dec (fun hg7 => ?_) (fun hg7 => ?_)
  ·
   replace h := ite_t hg7 h
   refine CJ_region <| oM rfl rfl <| oM rfl rfl <| oO <| O_buildSlice rfl (bs_35_1_0 _) rfl fun b49 => ?_
   obtain ⟨hg8, h⟩ := grd_Le h
   refine oO <| O_append (t := tyI) (bytes := 8) rfl rfl del1 foc0 (Reads.lit (t := tyI) (ys := [a9.1]) rfl rfl (by decide) (by decide) rfl) Tryz.underlying35 ok_tyI (apl (m := 1) (b := 8) hg8 (by decide)).1 (apl (m := 1) (b := 8) hg8 (by decide)).2 rfl fun p51 c52 => oA rfl rfl <| nT <| sR <| oM rfl rfl <| oA rfl rfl <| nT <| CJ_ret ?_
   cases h
   exact fE (res1 Tryz.results58 rfl) ⟨p51, (a9.2 ++ [a9.1]).length, c52⟩ (t2_ (t0_ (eD eR)))
  ·
   replace h := ite_f hg7 h
   refine kT <| sR <| oM rfl rfl <| oA rfl rfl <| nT <| CJ_ret ?_
   cases h
   exact fE (res1 Tryz.results58 rfl) hd8 (t1_ eR)
def volumegroupmake_Owner_drop_l1_b (s : ArrS) (r7 : (List Int)) (rec : OwnS → Nat → Option ((OwnS) ⊕ (Bool × OwnS))) (x16 : OwnS) (x17 : Nat) : Option ((OwnS) ⊕ (Bool × OwnS)) :=
  if (((x17 : Nat) : Int) < ((r7.length : Nat) : Int)) then
    Option.bind (volumegroupmake_has x16.Lost (r7.getD x17 0)) fun r22 =>
    if (¬ r22 = true) then
      some (.inr (false, x16))
    else
      Option.elim x16.X (
        none) fun o25 =>
      Option.bind (parityvol_Volume_Drop o25 (r7.getD x17 0) s) fun r26 =>
      if (r26.1 ≠ (0 : Int)) then
        some (.inr ((false, { x16 with X := (some r26.2) })))
      else
        Option.bind (volumegroupmake_add x16.Stale (r7.getD x17 0)) fun r32 =>
        grd (inN64 (x17 + 1)) <|
        rec ((⟨x16.Open_1, (some r26.2), x16.T, r32, x16.Lost⟩ : OwnS)) (x17 + 1)
  else
    some (.inl x16)
def volumegroupmake_Owner_drop_l1 (s : ArrS) (r7 : (List Int)) : Nat → OwnS → Nat → Option ((OwnS) ⊕ (Bool × OwnS))
  | 0, _, _ => none
  | n + 1, x16, x17 => volumegroupmake_Owner_drop_l1_b s r7 (volumegroupmake_Owner_drop_l1 s r7 n) x16 x17
def volumegroupmake_Owner_drop (o : OwnS) (s : ArrS) : Option (Bool × OwnS) :=
  Option.elim o.X (
    none) fun o6 =>
  Option.bind (parityvol_Volume_Failed o6 s) fun r7 =>
  seqO (volumegroupmake_Owner_drop_l1 s r7 FUEL ({ o with X := (some o6) }) 0) fun a15 =>
  some (((decide ((0 : Int) < ((r7.length : Nat) : Int))), a15))
theorem L_volumegroupmake_Owner_drop {W : World} {bo : Nat} {bs : Nat} {o : OwnS} {s : ArrS} {r : Bool × OwnS} (h : volumegroupmake_Owner_drop o s = some r) :
    CSpec Tryz.prog W 50 [ptr bo 0] [OwnP bs bo o, Arr bs s] (fun x : Unit => .bool r.1) (fun _ => True) (fun x F => OwnP bs bo r.2 :: Arr bs s :: F) := by
 refine CSpec.of_body Tryz.func50 rfl Tryz.ntmps50 rfl fun F => ?_
 show CJ _ _ _ _ _ _ (_ :: _ :: F)
 unfold volumegroupmake_Owner_drop at h
 refine sR <| oA rfl rfl <| nT <| CJ_seq <| CJ_entX (Ent.transX (t0_ eR) (OwnP_open (l := o))) fun oc1 => lC del5 fun hlen3 => lC del6 fun hlen4 => CJ_region <| oM rfl rfl <| oP (P_nilCheck rfl) rfl <| oP (P_fieldAddr rfl ⟨_, _, _, Tryz.runUnderlying37, rfl, rfl, Tryz.sizeOf33, rfl⟩) rfl <| oV (V_load rfl foc0 rfl Tryz.isAgg33) rfl ?_
 rcases opt_e h with ⟨ht5, h⟩ | ⟨o6, ht5, h⟩
 ·
  rw [ht5]
  exact RJ_ent (t0_ (t0_ (t0_ (t1_ (t1_ (t1_ (t1_ (eD eR)))))))) <| none_e h
 ·
  rw [ht5]
  refine RJ_ent (Ent.takeC (A' := VolP bs oc1.2.2.1 o6) del3 rfl eR) ?_
  obtain ⟨r7, hr8, h⟩ := bind_e h
  refine oO <| O_callI rfl (ICall.of (fun w => by kernel_rfl) Tryz.call34 (L_parityvol_Volume_Failed hr8)) rfl (Dels.cons del0 (Dels.cons del6 Dels.nil)) rfl fun X9 _ => oA rfl rfl <| RJ_nil <| QJ_ent (Ent.trans (t3_ (t3_ (t3_ (t0_ (t2_ (t2_ (t2_ eR))))))) (OwnP_mk (v0 := o.Open_1) (v1 := (some o6)) (v2 := o.T) (v3 := o.Stale) (v4 := o.Lost) (h0 := oc1.1) (h1 := oc1.2.1) (h2 := oc1.2.2.1) (h3 := oc1.2.2.2.1) (h4 := oc1.2.2.2.2.1) (h5 := oc1.2.2.2.2.2))) <| QJ_then <| CJ_seq <| sR <| oA rfl rfl <| nT ?_
  obtain ⟨y13, hl11, hK12⟩ := seq_e h
  refine CJ_cutT (X := OwnS) [2, 4, 10, 11, 12, 13, 14, 15, 16, 17, 18, 19, 20, 21, 22, 23, 24, 25, 26, 27, 28, 29, 30, 31, 32, 33, 34, 35, 36, 37, 38, 39, 40, 41, 42, 43, 44, 45, 46, 47, 48, 49, 50, 51] (fun a15 => ([] : Slots)) (fun a15 R => OwnP bs bo a15 :: R) (fun a15 => y13 = .inl a15) (Dels.cons del0 Dels.nil) ?_ ?_
  ·
   refine CJ_block <| CJ_loopR (X := Nat × OwnS × Nat) [2, 4, 10, 11, 12, 13, 14, 15, 16, 17, 18, 19, 20, 21, 22, 23, 24, 25, 26, 27, 28, 29, 30, 31, 32, 33, 34, 35, 36, 37, 38, 39, 40, 41, 42, 43, 44, 45, 46, 47, 48, 49, 50, 51] (fun ⟨n, x16, x17⟩ => ([(4, .int .i64 (((x17 : Nat) : Int)))] : Slots)) (fun ⟨n, x16, x17⟩ R => OwnP bs bo x16 :: R) (fun ⟨n, x16, x17⟩ => volumegroupmake_Owner_drop_l1 s r7 n x16 x17 = some y13) (fun ⟨n, x16, x17⟩ => n) ⟨FUEL, { o with X := (some o6) }, 0⟩ ?_ ?_ eR ?_
   · exact hl11
   · exact ⟨rfl, True.intro⟩
   ·
    rintro ⟨n, x16, x17⟩ h
    cases n with
    | zero => exact none_e h
    | succ n => ?_
    replace h : volumegroupmake_Owner_drop_l1_b s r7 (volumegroupmake_Owner_drop_l1 s r7 n) x16 x17 = some y13 := h
    unfold volumegroupmake_Owner_drop_l1_b at h
    show CJ _ _ _ _ _ (([(4, .int .i64 (((x17 : Nat) : Int)))] : Slots) ++ forget _ _) (OwnP bs bo x16 :: _)
    refine CJ_seq <| sR <| oM rfl rfl <| oM rfl rfl <| oV (V_len rfl foc2 (Reads.sl _ _ _) Tryz.runUnderlying35) rfl <| oP (P_lss (a := ((x17 : Nat) : Int)) (b := ((r7.length : Nat) : Int)) rfl rfl) rfl <| nT <| CJ_condP rfl bT_dec (fun hg1 => ?_) (fun hg1 => ?_)
    ·
     replace h := ite_t hg1 h
     refine kT <| CJ_seq <| CJ_block <| CJ_seq <| CJ_seq <| CJ_entX (Ent.transX (t0_ eR) (OwnP_open (l := x16))) fun oc18 => lC del5 fun hlen20 => lC del6 fun hlen21 => AJ_startH 2097152 (by kernel_rfl) rfl <| aN 0 1 rfl rfl (P_move rfl) rfl <| aN 1 3 rfl rfl (P_nilCheck rfl) rfl <| aN 2 7 rfl rfl (P_fieldAddr rfl ⟨_, _, _, Tryz.runUnderlying37, rfl, rfl, Tryz.sizeOf35, rfl⟩) rfl <| aV 3 15 rfl rfl (GY_none rfl) eR (V_load rfl foc0 rfl Tryz.isAgg35) rfl <| aN 4 31 rfl rfl (P_move rfl) rfl <| aN 5 63 rfl rfl (P_move rfl) rfl <| aV 6 127 rfl rfl (GY_none rfl) eR (V_index (i := x17) rfl rfl rfl (by omega) foc8 (Reads.sl _ _ _) Tryz.runUnderlying35 Tryz.sizeOf3) rfl <| aV 7 255 rfl rfl (GY_none rfl) eR (V_loadE rfl rfl (by omega) foc8 (Reads.sl _ _ _) rfl rfl Tryz.isAgg3) rfl ?_
     obtain ⟨r22, hr23, h⟩ := bind_e h
     refine AJ_op 8 511 rfl (by kernel_rfl) rfl (GY_none rfl) <| O_call (L_volumegroupmake_has (Reads.sl _ _ _) hr23) rfl Tryz.call98 (Dels.cons del6 Dels.nil) rfl fun _ _ => ⟨fun _ => (t1_ (t1_ (t1_ (t1_ (t1_ (t1_ eR)))))), ?_⟩
     refine aN 9 1023 rfl rfl (P_not rfl) rfl <| aN 10 2047 rfl rfl (P_move rfl) rfl <| AJ_splitP 26 rfl (bT_not Iff.rfl) (fun hg2B hg2 => ?_) (fun hg2B hg2 => ?_)
     ·
      replace h := ite_t hg2 h
      refine aS 11 4095 rfl rfl (GY_no rfl rfl rfl hg2B) rfl <| aS 12 8191 rfl rfl (GY_no rfl rfl rfl hg2B) rfl <| aS 13 16383 rfl rfl (GY_no rfl rfl rfl hg2B) rfl <| aS 14 32767 rfl rfl (GY_no rfl rfl rfl hg2B) rfl <| aS 15 65535 rfl rfl (GY_no rfl rfl rfl hg2B) rfl <| aS 16 131071 rfl rfl (GY_no rfl rfl rfl hg2B) rfl <| aS 17 262143 rfl rfl (GY_no rfl rfl rfl hg2B) rfl <| aS 18 524287 rfl rfl (GY_no rfl rfl rfl hg2B) rfl <| aS 19 1048575 rfl rfl (GY_no rfl rfl rfl hg2B) rfl <| aS 20 2097151 rfl rfl (GY_no rfl rfl rfl hg2B) rfl <| aS 21 4194303 rfl rfl (GY_no rfl rfl rfl hg2B) rfl <| aS 22 8388607 rfl rfl (GY_no rfl rfl rfl hg2B) rfl <| aN 23 16777215 rfl rfl (P_pickT rfl hg2B rfl) rfl <| AJ_done (by kernel_rfl) <| QJ_ent (Ent.trans (t1_ (t1_ (t1_ (t1_ (t1_ (t1_ eR)))))) (OwnP_mk (v0 := x16.Open_1) (v1 := x16.X) (v2 := x16.T) (v3 := x16.Stale) (v4 := x16.Lost) (h0 := oc18.1) (h1 := oc18.2.1) (h2 := oc18.2.2.1) (h3 := oc18.2.2.2.1) (h4 := oc18.2.2.2.2.1) (h5 := oc18.2.2.2.2.2))) <| QJ_then <| CJ_condT rfl rfl <| sR <| oA rfl rfl <| nT <| CJ_ret <| QJ_then_ret <| QJ_block_ret <| QJ_then_ret <| QJ_round_ret <| QJ_block_ret <| QJ_then_ret ?_
      have hE := Option.some.inj h
      replace hE := seq_inr hK12 hE.symm
      subst hE
      exact fE (res1 Tryz.results50 rfl) () (t0_ (t0_ (eD eR)))
     ·
      replace h := ite_f hg2 h
      refine aP 11 4095 rfl rfl (GY_yes rfl rfl rfl hg2B) (P_move rfl) rfl <| aP 12 8191 rfl rfl (GY_yes rfl rfl rfl hg2B) (P_nilCheck rfl) rfl <| aP 13 16383 rfl rfl (GY_yes rfl rfl rfl hg2B) (P_fieldAddr rfl ⟨_, _, _, Tryz.runUnderlying37, rfl, rfl, Tryz.sizeOf33, rfl⟩) rfl <| aV 14 32767 rfl rfl (GY_yes rfl rfl rfl hg2B) (t1_ (t1_ (t1_ (t1_ (t1_ (t1_ eR)))))) (V_load rfl foc0 rfl Tryz.isAgg33) rfl <| aP 15 65535 rfl rfl (GY_yes rfl rfl rfl hg2B) (P_move rfl) rfl <| aP 16 131071 rfl rfl (GY_yes rfl rfl rfl hg2B) (P_move rfl) rfl <| aV 17 262143 rfl rfl (GY_yes rfl rfl rfl hg2B) (t1_ (t1_ (t1_ (t1_ (t1_ (t1_ eR)))))) (V_index (i := x17) rfl rfl rfl (by omega) foc8 (Reads.sl _ _ _) Tryz.runUnderlying35 Tryz.sizeOf3) rfl <| aV 18 524287 rfl rfl (GY_yes rfl rfl rfl hg2B) (t1_ (t1_ (t1_ (t1_ (t1_ (t1_ eR)))))) (V_loadE rfl rfl (by omega) foc8 (Reads.sl _ _ _) rfl rfl Tryz.isAgg3) rfl ?_
      rcases opt_e h with ⟨ht24, h⟩ | ⟨o25, ht24, h⟩
      ·
       rw [ht24]
       exact none_e h
      ·
       rw [ht24]
       refine AJ_ent (Ent.takeC (A' := VolP bs oc18.2.2.1 o25) del4 rfl eR) <| aP 19 1048575 rfl rfl (GY_yes rfl rfl rfl hg2B) (P_nilCheckI rfl) rfl <| aP 20 2097151 rfl rfl (GY_yes rfl rfl rfl hg2B) (P_move rfl) rfl ?_
       obtain ⟨r26, hr27, h⟩ := bind_e h
       refine AJ_op 21 4194303 rfl (by kernel_rfl) rfl (GY_yes rfl rfl rfl hg2B) <| O_callI rfl (ICall.of (fun w => by kernel_rfl) Tryz.call33 (L_parityvol_Volume_Drop hr27)) rfl (Dels.cons del0 (Dels.cons del6 Dels.nil)) rfl fun _ _ => ⟨fun h => absurd h (by decide), ?_⟩
       refine aP 22 8388607 rfl rfl (GY_yes rfl rfl rfl hg2B) (P_neq (a := r26.1) (b := (0 : Int)) rfl rfl) rfl <| aN 23 16777215 rfl rfl (P_pickF rfl hg2B rfl) rfl <| AJ_done (by kernel_rfl) <| QJ_ent (Ent.trans (t3_ (t3_ (t3_ (t0_ (t2_ (t2_ (t1_ eR))))))) (OwnP_mk (v0 := x16.Open_1) (v1 := (some r26.2)) (v2 := x16.T) (v3 := x16.Stale) (v4 := x16.Lost) (h0 := oc18.1) (h1 := oc18.2.1) (h2 := oc18.2.2.1) (h3 := oc18.2.2.2.1) (h4 := oc18.2.2.2.2.1) (h5 := oc18.2.2.2.2.2))) <| QJ_then <| CJ_condP rfl bT_dec (fun hg3 => ?_) (fun hg3 => ?_)
       ·
        replace h := ite_t hg3 h
        refine sR <| oA rfl rfl <| nT <| CJ_ret <| QJ_then_ret <| QJ_block_ret <| QJ_then_ret <| QJ_round_ret <| QJ_block_ret <| QJ_then_ret ?_
        have hE := Option.some.inj h
        replace hE := seq_inr hK12 hE.symm
        subst hE
        exact fE (res1 Tryz.results50 rfl) () (t0_ (t0_ (eD eR)))
       ·
        replace h := ite_f hg3 h
        refine kT <| CJ_entX (Ent.transX (t0_ eR) (OwnP_open (l := { x16 with X := (some r26.2) }))) fun oc28 => lC del5 fun hlen30 => lC del6 fun hlen31 => AJ_startH 4608 (by kernel_rfl) rfl <| aN 0 1 rfl rfl (P_move rfl) rfl <| aN 1 3 rfl rfl (P_move rfl) rfl <| aN 2 7 rfl rfl (P_nilCheck rfl) rfl <| aN 3 15 rfl rfl (P_fieldAddr rfl ⟨_, _, _, Tryz.runUnderlying37, rfl, rfl, Tryz.sizeOf35, rfl⟩) rfl <| aV 4 31 rfl rfl (GY_none rfl) eR (V_load rfl foc0 rfl Tryz.isAgg35) rfl <| aN 5 63 rfl rfl (P_move rfl) rfl <| aN 6 127 rfl rfl (P_move rfl) rfl <| aV 7 255 rfl rfl (GY_none rfl) eR (V_index (i := x17) rfl rfl rfl (by omega) foc8 (Reads.sl _ _ _) Tryz.runUnderlying35 Tryz.sizeOf3) rfl <| aV 8 511 rfl rfl (GY_none rfl) eR (V_loadE rfl rfl (by omega) foc8 (Reads.sl _ _ _) rfl rfl Tryz.isAgg3) rfl ?_
        obtain ⟨r32, hr33, h⟩ := bind_e h
        refine AJ_op 9 1023 rfl (by kernel_rfl) rfl (GY_none rfl) <| O_call (L_volumegroupmake_add (Reads.sl _ _ _) hr33) rfl Tryz.call58 (Dels.cons del5 Dels.nil) rfl fun X34 _ => ⟨fun h => absurd h (by decide), ?_⟩
        refine aN 10 2047 rfl rfl (P_nilCheck rfl) rfl <| aN 11 4095 rfl rfl (P_fieldAddr rfl ⟨_, _, _, Tryz.runUnderlying37, rfl, rfl, Tryz.sizeOf35, rfl⟩) rfl <| AJ_op 12 8191 rfl (by kernel_rfl) rfl (GY_none rfl) <| O_store rfl rfl foc2 rfl rfl Tryz.sizeOf35 <| ⟨fun h => absurd h (by decide), ?_⟩
        refine AJ_done (by kernel_rfl) <| QJ_ent (Ent.trans (t2_ (t2_ (t2_ (t2_ (t2_ (t1_ (t1_ eR))))))) (OwnP_mk (v0 := x16.Open_1) (v1 := (some r26.2)) (v2 := x16.T) (v3 := r32) (v4 := x16.Lost) (h0 := oc28.1) (h1 := oc28.2.1) (h2 := oc28.2.2.1) (h3 := oc28.2.2.2.1) (h4 := X34) (h5 := oc28.2.2.2.2.2))) <| QJ_block_normal <| QJ_then <| CJ_region <| oM rfl rfl ?_
        obtain ⟨hg4, h⟩ := grd_Ne h
        exact oP (PJ_eq (P_add (a := ((x17 : Nat) : Int)) (b := (1 : Int)) rfl rfl (nat_in hg4)) rfl) rfl <| oA rfl rfl <| RJ_nil <| nR ⟨n, (⟨x16.Open_1, (some r26.2), x16.T, r32, x16.Lost⟩ : OwnS), (x17 + 1)⟩ h ⟨rfl, True.intro⟩ (t0_ (t1_ (t1_ (eD eR))))
    ·
     replace h := ite_f hg1 h
     exact CJ_exit <| QJ_then_exit <| QJ_round_exit <| QJ_block_here <| cR x16 (Option.some.inj h).symm True.intro eR
  ·
   rintro a15 hy36
   replace h := seq_inl hK12 hy36
   show CJ _ _ _ _ _ (([] : Slots) ++ forget _ _) (OwnP bs bo a15 :: _)
   refine sR <| oM rfl rfl <| oV (V_len rfl foc2 (Reads.sl _ _ _) Tryz.runUnderlying35) rfl <| oP (P_gtr (a := ((r7.length : Nat) : Int)) (b := (0 : Int)) rfl rfl) rfl <| oA rfl rfl <| nT <| CJ_ret ?_
   cases h
   exact fE (res1 Tryz.results50 rfl) () (t0_ (t0_ (eD eR)))
def volumegrouplaw19_open_1 (stale : List Int) (p1_v : ArrS) (p2 : Int) : Option ((Option VolS) × Int × ArrS) :=
  Option.bind (volumegroupmake_Spans p1_v) fun r2 =>
  Option.bind (parityvol_Open r2 stale p2 p1_v) fun r8 =>
  Option.elim r8.1 (
    if (r8.2.1 = (0 : Int)) then
      some ((none, (20 : Int), r8.2.2))
    else
      some (none, r8.2.1, r8.2.2)) fun o13 =>
  some (((some o13), r8.2.1, r8.2.2))
theorem L_volumegrouplaw19_open_1 {W : World} {Astale : HP} {vstale : Value} {bp1 : Nat} {bp1_v : Nat} {bp2 : Nat} {stale : List Int} {p1_v : ArrS} {p2 : Int} {r : (Option VolS) × Int × ArrS} (rstale : Reads Astale tyI vstale stale) (h : volumegrouplaw19_open_1 stale p1_v p2 = some r) :
    CSpec Tryz.prog W 97 [vstale, ptr bp1 0, ptr bp2 0] [Astale, blk bp1 30 [ptr bp1_v 0], Arr bp1_v p1_v, blk bp2 3 [.int .i64 p2]] (fun x : Nat => .tuple #[oifc 65 r.1 x, .int .i64 r.2.1]) (fun _ => True) (fun x F => Astale :: blk bp1 30 [ptr bp1_v 0] :: Arr bp1_v r.2.2 :: blk bp2 3 [.int .i64 p2] :: optP (VolP bp1_v x) r.1 :: F) := by
 refine CSpec.of_body Tryz.func97 rfl Tryz.ntmps97 rfl fun F => ?_
 show CJ _ _ _ _ _ _ (_ :: _ :: _ :: _ :: F)
 unfold volumegrouplaw19_open_1 at h
 refine CJ_pure (len_of rstale del0) fun hlen1 => sR <| oA rfl rfl <| oA rfl rfl <| nT <| CJ_seq <| AJ_startH 16 (by kernel_rfl) rfl <| aV 0 1 rfl rfl (GY_none rfl) eR (V_load rfl foc1 rfl Tryz.isAgg30) rfl <| aN 2 5 rfl rfl (P_move rfl) rfl <| aV 3 13 rfl rfl (GY_none rfl) eR (V_load rfl foc3 rfl Tryz.isAgg3) rfl ?_
 obtain ⟨r2, hr3, h⟩ := bind_e h
 refine AJ_op 1 15 rfl (by kernel_rfl) rfl (GY_none rfl) <| O_call (L_volumegroupmake_Spans hr3) rfl Tryz.call24 (Dels.cons del2 Dels.nil) rfl fun X4 _ => ⟨fun _ => (t3_ (t3_ (t0_ (t2_ (eD (eD eR)))))), ?_⟩
 refine AJ_pure (fun h hh => Rs_len (stars_perm (del2 (A := Rs (DevP bp1_v) r2 X4.2)).out h hh)) fun hdl7 => ?_
 obtain ⟨r8, hr9, h⟩ := bind_e h
 refine AJ_op 4 31 rfl (by kernel_rfl) rfl (GY_none rfl) <| O_call (L_parityvol_Open (Reads.sl _ _ _) rstale hr9) rfl Tryz.call26 (Dels.cons del1 (Dels.cons del1 (Dels.cons del1 (Dels.cons del0 Dels.nil)))) rfl fun X10 _ => ⟨fun h => absurd h (by decide), ?_⟩
 refine aN 5 63 rfl rfl (P_move rfl) rfl <| aN 6 127 rfl rfl (P_extract rfl rfl) rfl <| aN 7 255 rfl rfl (P_extract rfl rfl) rfl <| aN 8 511 rfl rfl (P_assign rfl) rfl <| aN 9 1023 rfl rfl (P_assign rfl) rfl <| AJ_done (by kernel_rfl) <| QJ_ent (t2_ (t2_ (t2_ (t2_ (t2_ (eD (eD eR))))))) <| QJ_then <| CJ_seq <| sR <| oM rfl rfl ?_
 rcases opt_e h with ⟨ht12, h⟩ | ⟨o13, ht12, h⟩
 ·
  rw [ht12]
  refine RJ_ent (t0_ (t0_ (t1_ (t1_ (eD eR))))) <| oP (P_eqlNN rfl rfl Tryz.underlying65) rfl <| nT <| CJ_condT rfl rfl <| CJ_seq <| sR <| oM rfl rfl <| oP (P_eql (a := r8.2.1) (b := (0 : Int)) rfl rfl) rfl <| nT <| CJ_condP rfl bT_dec (fun hg1 => ?_) (fun hg1 => ?_)
  ·
   replace h := ite_t hg1 h
   refine CJ_region <| oA rfl rfl <| nT <| sR <| oM rfl rfl <| oA rfl rfl <| oA rfl rfl <| nT <| CJ_ret <| QJ_then_ret ?_
   cases h
   exact fE (res2 Tryz.results97 rfl rfl) 0 (t0_ (t1_ (t0_ (t0_ (Ent.trans (fun h hh => optP_none h hh) <| t0_ eR)))))
  ·
   replace h := ite_f hg1 h
   refine kT <| sR <| oM rfl rfl <| oA rfl rfl <| oA rfl rfl <| nT <| CJ_ret <| QJ_then_ret ?_
   cases h
   exact fE (res2 Tryz.results97 rfl rfl) 0 (t0_ (t1_ (t0_ (t0_ (Ent.trans (fun h hh => optP_none h hh) <| t0_ eR)))))
 ·
  rw [ht12]
  refine RJ_ent (Ent.takeC (A' := VolP bp1_v X10 o13) del2 rfl eR) <| oP (P_eqlPN rfl rfl Tryz.underlying65) rfl <| nT <| CJ_condF rfl rfl <| kT <| sR <| oM rfl rfl <| oP (P_makeIface rfl Tryz.runUnderlying65 (by intro ms h; cases h)) rfl <| oM rfl rfl <| oA rfl rfl <| oA rfl rfl <| nT <| CJ_ret ?_
  cases h
  exact fE (res2 Tryz.results97 rfl rfl) X10 (t1_ (t2_ (t1_ (t1_ eR))))
def volumegroupmake_Owner_Begin_l1_b (rec : OwnS → ArrS → (Option VolS) → Int → Nat → Option ((Option VolS) × Int × OwnS × ArrS)) (x18 : OwnS) (x19 : ArrS) (x20 : Option VolS) (x22 : Int) (x23 : Nat) : Option ((Option VolS) × Int × OwnS × ArrS) :=
  if ((((x23 : Nat) : Int) < ((x18.Lost.length : Nat) : Int)) ∧ (x22 = (18 : Int))) then
    Option.bind (volumegroupmake_add x18.Stale (x18.Lost.getD x23 0)) fun r36 =>
    Option.bind (volumegrouplaw19_open_1 r36 x19 x18.Open_1) fun r44 =>
    rec ({ x18 with Stale := r36 }) r44.2.2 r44.1 r44.2.1 (x23 + 1)
  else
    some (x20, x22, x18, x19)
def volumegroupmake_Owner_Begin_l1 : Nat → OwnS → ArrS → (Option VolS) → Int → Nat → Option ((Option VolS) × Int × OwnS × ArrS)
  | 0, _, _, _, _, _ => none
  | n + 1, x18, x19, x20, x22, x23 => volumegroupmake_Owner_Begin_l1_b (volumegroupmake_Owner_Begin_l1 n) x18 x19 x20 x22 x23
def volumegroupmake_Owner_Begin (o : OwnS) (s : ArrS) : Option (Bool × OwnS × ArrS) :=
  Option.bind (volumegrouplaw19_open_1 o.Stale s o.Open_1) fun r5 =>
  Option.bind (volumegroupmake_Owner_Begin_l1 FUEL o r5.2.2 r5.1 r5.2.1 0) fun a17 =>
  if (a17.2.1 = (0 : Int)) then
    Option.elim a17.1 (
      some (false, { a17.2.2.1 with X := none }, a17.2.2.2)) fun o56 =>
    Option.bind (parityvol_Volume_Size o56 a17.2.2.2) fun r57 =>
    some (((decide (r57 = ((a17.2.2.1.T.length : Nat) : Int))), { a17.2.2.1 with X := (some o56) }, a17.2.2.2))
  else
    some (false, { a17.2.2.1 with X := a17.1 }, a17.2.2.2)
theorem L_volumegroupmake_Owner_Begin {W : World} {bo : Nat} {bs : Nat} {o : OwnS} {s : ArrS} {r : Bool × OwnS × ArrS} (h : volumegroupmake_Owner_Begin o s = some r) :
    CSpec Tryz.prog W 18 [ptr bo 0] [OwnP bs bo o, Arr bs s] (fun x : Unit => .bool r.1) (fun _ => True) (fun x F => OwnP bs bo r.2.1 :: Arr bs r.2.2 :: F) := by
 refine CSpec.of_body Tryz.func18 rfl Tryz.ntmps18 rfl fun F => ?_
 show CJ _ _ _ _ _ _ (_ :: _ :: F)
 unfold volumegroupmake_Owner_Begin at h
 refine sR <| oA rfl rfl <| nT <| CJ_seq <| CJ_entX (Ent.transX (t0_ eR) (OwnP_open (l := o))) fun oc1 => lC del5 fun hlen3 => lC del6 fun hlen4 => AJ_startH 256 (by kernel_rfl) rfl <| aN 0 1 rfl rfl (P_move rfl) rfl <| aN 1 3 rfl rfl (P_nilCheck rfl) rfl <| aN 2 7 rfl rfl (P_fieldAddr rfl ⟨_, _, _, Tryz.runUnderlying37, rfl, rfl, Tryz.sizeOf31, rfl⟩) rfl <| aV 3 15 rfl rfl (GY_none rfl) eR (V_load rfl foc0 rfl Tryz.isAgg31) rfl <| aN 4 31 rfl rfl (P_move rfl) rfl <| aN 5 63 rfl rfl (P_nilCheck rfl) rfl <| aN 6 127 rfl rfl (P_fieldAddr rfl ⟨_, _, _, Tryz.runUnderlying37, rfl, rfl, Tryz.sizeOf35, rfl⟩) rfl <| aV 7 255 rfl rfl (GY_none rfl) eR (V_load rfl foc0 rfl Tryz.isAgg35) rfl ?_
 obtain ⟨r5, hr6, h⟩ := bind_e h
 refine AJ_op 8 511 rfl (by kernel_rfl) rfl (GY_none rfl) <| O_callV rfl rfl (L_volumegrouplaw19_open_1 (Reads.sl _ _ _) hr6) Tryz.call97 (Dels.cons del5 (Dels.cons del1 (Dels.cons del5 (Dels.cons del1 Dels.nil)))) rfl fun X7 _ => ⟨fun h => absurd h (by decide), ?_⟩
 refine aN 9 1023 rfl rfl (P_move rfl) rfl <| aN 10 2047 rfl rfl (P_extract rfl rfl) rfl <| aN 11 4095 rfl rfl (P_extract rfl rfl) rfl <| aN 12 8191 rfl rfl (P_assign rfl) rfl <| aN 13 16383 rfl rfl (P_assign rfl) rfl <| AJ_done (by kernel_rfl) <| QJ_ent (Ent.trans (t5_ (t1_ (t2_ (t3_ (t3_ (t0_ (t2_ eR))))))) (OwnP_mk (v0 := o.Open_1) (v1 := o.X) (v2 := o.T) (v3 := o.Stale) (v4 := o.Lost) (h0 := oc1.1) (h1 := oc1.2.1) (h2 := oc1.2.2.1) (h3 := oc1.2.2.2.1) (h4 := oc1.2.2.2.2.1) (h5 := oc1.2.2.2.2.2))) <| QJ_then <| CJ_seq <| sR <| oA rfl rfl <| nT ?_
 obtain ⟨y11, hl9, hK10⟩ := bind_c h
 refine CJ_cutT (X := ((Option VolS) × Int × OwnS × ArrS) × Nat) [3, 4, 5, 18, 19, 20, 21, 22, 23, 24, 25, 26, 27, 28, 29, 30, 31, 32, 33, 34, 35, 36, 37, 38, 39, 40, 41, 42, 43, 44, 45, 46, 47, 48, 49, 50, 51, 52, 53, 54, 55, 56, 57] (fun ⟨a17, pb13⟩ => ([(3, oifc 65 a17.1 pb13), (4, .int .i64 a17.2.1)] : Slots)) (fun ⟨a17, pb13⟩ R => optP (VolP bs pb13) a17.1 :: OwnP bs bo a17.2.2.1 :: Arr bs a17.2.2.2 :: R) (fun ⟨a17, pb13⟩ => y11 = a17) (Dels.cons del2 (Dels.cons del0 (Dels.cons del0 Dels.nil))) ?_ ?_
 ·
  refine CJ_block <| CJ_loopR (X := Nat × OwnS × ArrS × (Option VolS) × Int × Nat × Nat) [3, 4, 5, 18, 19, 20, 21, 22, 23, 24, 25, 26, 27, 28, 29, 30, 31, 32, 33, 34, 35, 36, 37, 38, 39, 40, 41, 42, 43, 44, 45, 46, 47, 48, 49, 50, 51, 52, 53, 54, 55, 56, 57] (fun ⟨n, x18, x19, x20, x22, x23, pb21⟩ => ([(3, oifc 65 x20 pb21), (4, .int .i64 x22), (5, .int .i64 (((x23 : Nat) : Int)))] : Slots)) (fun ⟨n, x18, x19, x20, x22, x23, pb21⟩ R => OwnP bs bo x18 :: Arr bs x19 :: optP (VolP bs pb21) x20 :: R) (fun ⟨n, x18, x19, x20, x22, x23, pb21⟩ => volumegroupmake_Owner_Begin_l1 n x18 x19 x20 x22 x23 = some y11) (fun ⟨n, x18, x19, x20, x22, x23, pb21⟩ => n) ⟨FUEL, o, r5.2.2, r5.1, r5.2.1, 0, X7⟩ ?_ ?_ eR ?_
  · exact hl9
  · exact ⟨rfl, rfl, rfl, True.intro⟩
  ·
   rintro ⟨n, x18, x19, x20, x22, x23, pb21⟩ h
   cases n with
   | zero => exact none_e h
   | succ n => ?_
   replace h : volumegroupmake_Owner_Begin_l1_b (volumegroupmake_Owner_Begin_l1 n) x18 x19 x20 x22 x23 = some y11 := h
   unfold volumegroupmake_Owner_Begin_l1_b at h
   show CJ _ _ _ _ _ (([(3, oifc 65 x20 pb21), (4, .int .i64 x22), (5, .int .i64 (((x23 : Nat) : Int)))] : Slots) ++ forget _ _) (OwnP bs bo x18 :: Arr bs x19 :: optP (VolP bs pb21) x20 :: _)
   refine CJ_seq <| CJ_seq <| CJ_entX (Ent.transX (t0_ eR) (OwnP_open (l := x18))) fun oc24 => lC del5 fun hlen26 => lC del6 fun hlen27 => CJ_region <| oM rfl rfl <| oM rfl rfl <| oP (P_nilCheck rfl) rfl <| oP (P_fieldAddr rfl ⟨_, _, _, Tryz.runUnderlying37, rfl, rfl, Tryz.sizeOf35, rfl⟩) rfl <| oV (V_load rfl foc0 rfl Tryz.isAgg35) rfl <| oV (V_len rfl foc6 (Reads.sl _ _ _) Tryz.runUnderlying35) rfl <| oP (P_lss (a := ((x23 : Nat) : Int)) (b := ((x18.Lost.length : Nat) : Int)) rfl rfl) rfl <| oM rfl rfl <| RJ_mbT rfl rfl rfl (fun hG28 => have hP29 : (((x23 : Nat) : Int) < ((x18.Lost.length : Nat) : Int)) := (bT_dec).1 hG28; VJ_P (P_move rfl)) <| RJ_mbT rfl rfl rfl (fun hG30 => have hP31 : (((x23 : Nat) : Int) < ((x18.Lost.length : Nat) : Int)) := (bT_dec).1 hG30; VJ_P (P_eql (a := x22) (b := (18 : Int)) (mbx hG30 rfl) rfl)) <| oP (P_pickAnd rfl (fun hh => mbx hh rfl) rfl) rfl <| RJ_nil <| QJ_ent (Ent.trans eR (OwnP_mk (v0 := x18.Open_1) (v1 := x18.X) (v2 := x18.T) (v3 := x18.Stale) (v4 := x18.Lost) (h0 := oc24.1) (h1 := oc24.2.1) (h2 := oc24.2.2.1) (h3 := oc24.2.2.2.1) (h4 := oc24.2.2.2.2.1) (h5 := oc24.2.2.2.2.2))) <| QJ_then <| CJ_condP rfl (bT_and bT_dec bT_dec) (fun hg1 => ?_) (fun hg1 => ?_)
   ·
    replace h := ite_t hg1 h
    refine kT <| CJ_seq <| CJ_block <| CJ_seq <| CJ_entX (Ent.transX (t0_ eR) (OwnP_open (l := x18))) fun oc32 => lC del5 fun hlen34 => lC del6 fun hlen35 => AJ_startH 36864 (by kernel_rfl) rfl <| aN 0 1 rfl rfl (P_move rfl) rfl <| aN 1 3 rfl rfl (P_move rfl) rfl <| aN 2 7 rfl rfl (P_nilCheck rfl) rfl <| aN 3 15 rfl rfl (P_fieldAddr rfl ⟨_, _, _, Tryz.runUnderlying37, rfl, rfl, Tryz.sizeOf35, rfl⟩) rfl <| aV 4 31 rfl rfl (GY_none rfl) eR (V_load rfl foc0 rfl Tryz.isAgg35) rfl <| aN 5 63 rfl rfl (P_move rfl) rfl <| aN 6 127 rfl rfl (P_nilCheck rfl) rfl <| aN 7 255 rfl rfl (P_fieldAddr rfl ⟨_, _, _, Tryz.runUnderlying37, rfl, rfl, Tryz.sizeOf35, rfl⟩) rfl <| aV 8 511 rfl rfl (GY_none rfl) eR (V_load rfl foc0 rfl Tryz.isAgg35) rfl <| aN 9 1023 rfl rfl (P_move rfl) rfl <| aV 10 2047 rfl rfl (GY_none rfl) eR (V_index (i := x23) rfl rfl rfl (by omega) foc6 (Reads.sl _ _ _) Tryz.runUnderlying35 Tryz.sizeOf3) rfl <| aV 11 4095 rfl rfl (GY_none rfl) eR (V_loadE rfl rfl (by omega) foc6 (Reads.sl _ _ _) rfl rfl Tryz.isAgg3) rfl ?_
    obtain ⟨r36, hr37, h⟩ := bind_e h
    refine AJ_op 12 8191 rfl (by kernel_rfl) rfl (GY_none rfl) <| O_call (L_volumegroupmake_add (Reads.sl _ _ _) hr37) rfl Tryz.call58 (Dels.cons del5 Dels.nil) rfl fun X38 _ => ⟨fun h => absurd h (by decide), ?_⟩
    refine aN 13 16383 rfl rfl (P_nilCheck rfl) rfl <| aN 14 32767 rfl rfl (P_fieldAddr rfl ⟨_, _, _, Tryz.runUnderlying37, rfl, rfl, Tryz.sizeOf35, rfl⟩) rfl <| AJ_op 15 65535 rfl (by kernel_rfl) rfl (GY_none rfl) <| O_store rfl rfl foc2 rfl rfl Tryz.sizeOf35 <| ⟨fun h => absurd h (by decide), ?_⟩
    refine AJ_done (by kernel_rfl) <| QJ_ent (Ent.trans (t2_ (t2_ (t2_ (t2_ (t2_ (t1_ (t1_ eR))))))) (OwnP_mk (v0 := x18.Open_1) (v1 := x18.X) (v2 := x18.T) (v3 := r36) (v4 := x18.Lost) (h0 := oc32.1) (h1 := oc32.2.1) (h2 := oc32.2.2.1) (h3 := oc32.2.2.2.1) (h4 := X38) (h5 := oc32.2.2.2.2.2))) <| QJ_then <| CJ_entX (Ent.transX (t0_ eR) (OwnP_open (l := { x18 with Stale := r36 }))) fun oc40 => lC del5 fun hlen42 => lC del6 fun hlen43 => AJ_startH 256 (by kernel_rfl) rfl <| aN 0 1 rfl rfl (P_move rfl) rfl <| aN 1 3 rfl rfl (P_nilCheck rfl) rfl <| aN 2 7 rfl rfl (P_fieldAddr rfl ⟨_, _, _, Tryz.runUnderlying37, rfl, rfl, Tryz.sizeOf31, rfl⟩) rfl <| aV 3 15 rfl rfl (GY_none rfl) eR (V_load rfl foc0 rfl Tryz.isAgg31) rfl <| aN 4 31 rfl rfl (P_move rfl) rfl <| aN 5 63 rfl rfl (P_nilCheck rfl) rfl <| aN 6 127 rfl rfl (P_fieldAddr rfl ⟨_, _, _, Tryz.runUnderlying37, rfl, rfl, Tryz.sizeOf35, rfl⟩) rfl <| aV 7 255 rfl rfl (GY_none rfl) eR (V_load rfl foc0 rfl Tryz.isAgg35) rfl ?_
    obtain ⟨r44, hr45, h⟩ := bind_e h
    refine AJ_op 8 511 rfl (by kernel_rfl) rfl (GY_none rfl) <| O_callV rfl rfl (L_volumegrouplaw19_open_1 (Reads.sl _ _ _) hr45) Tryz.call97 (Dels.cons del5 (Dels.cons del1 (Dels.cons del6 (Dels.cons del1 Dels.nil)))) rfl fun X46 _ => ⟨fun h => absurd h (by decide), ?_⟩
    exact aN 9 1023 rfl rfl (P_move rfl) rfl <| aN 10 2047 rfl rfl (P_extract rfl rfl) rfl <| aN 11 4095 rfl rfl (P_extract rfl rfl) rfl <| aN 12 8191 rfl rfl (P_assign rfl) rfl <| aN 13 16383 rfl rfl (P_assign rfl) rfl <| AJ_done (by kernel_rfl) <| QJ_ent (Ent.trans (t5_ (t1_ (t2_ (t3_ (t3_ (t0_ (t2_ eR))))))) (OwnP_mk (v0 := x18.Open_1) (v1 := x18.X) (v2 := x18.T) (v3 := r36) (v4 := x18.Lost) (h0 := oc40.1) (h1 := oc40.2.1) (h2 := oc40.2.2.1) (h3 := oc40.2.2.2.1) (h4 := oc40.2.2.2.2.1) (h5 := oc40.2.2.2.2.2))) <| QJ_block_normal <| QJ_then <| CJ_region <| oM rfl rfl <| oP (PJ_eq (P_add (a := ((x23 : Nat) : Int)) (b := (1 : Int)) rfl rfl (by omega)) rfl) rfl <| oA rfl rfl <| RJ_nil <| nR ⟨n, { x18 with Stale := r36 }, r44.2.2, r44.1, r44.2.1, (x23 + 1), X46⟩ h ⟨rfl, rfl, rfl, True.intro⟩ (t0_ (t0_ (t0_ (eD (eD eR)))))
   ·
    replace h := ite_f hg1 h
    exact CJ_exit <| QJ_then_exit <| QJ_round_exit <| QJ_block_here <| cR ⟨(x20, x22, x18, x19), pb21⟩ (Option.some.inj h).symm ⟨rfl, rfl, True.intro⟩ (t2_ eR)
 ·
  rintro ⟨a17, pb13⟩ hy48
  replace h := bindK_at hK10 hy48
  show CJ _ _ _ _ _ (([(3, oifc 65 a17.1 pb13), (4, .int .i64 a17.2.1)] : Slots) ++ forget _ _) (optP (VolP bs pb13) a17.1 :: OwnP bs bo a17.2.2.1 :: Arr bs a17.2.2.2 :: _)
  refine CJ_seq <| CJ_entX (Ent.transX (t1_ eR) (OwnP_open (l := a17.2.2.1))) fun oc49 => lC del5 fun hlen51 => lC del6 fun hlen52 => CJ_region <| oM rfl rfl <| oM rfl rfl <| oP (P_nilCheck rfl) rfl <| oP (P_fieldAddr rfl ⟨_, _, _, Tryz.runUnderlying37, rfl, rfl, Tryz.sizeOf33, rfl⟩) rfl <| oO <| O_store rfl rfl foc0 rfl oneCell_oifc Tryz.sizeOf33 <| RJ_nil <| QJ_ent (t0_ (t0_ (t0_ (t1_ (t1_ (t1_ (t1_ (t1_ (eD eR))))))))) <| QJ_then <| CJ_seq <| CJ_entX (Ent.transX (t3_ eR) Trk_open) fun tc53 => CJ_pur fun hS54 => AJ_startH 0 (by kernel_rfl) rfl <| aN 0 1 rfl rfl (P_move rfl) rfl <| aN 1 3 rfl rfl (P_eql (a := a17.2.1) (b := (0 : Int)) rfl rfl) rfl <| aN 2 7 rfl rfl (P_move rfl) rfl <| AJ_splitP 64 rfl bT_dec (fun hg2B hg2 => ?_) (fun hg2B hg2 => ?_)
  ·
   replace h := ite_t hg2 h
   refine aP 3 15 rfl rfl (GY_yes rfl rfl rfl hg2B) (P_move rfl) rfl ?_
   rcases opt_e h with ⟨ht55, h⟩ | ⟨o56, ht55, h⟩
   ·
    rw [ht55]
    refine aP 4 31 rfl rfl (GY_yes rfl rfl rfl hg2B) (P_neqIN rfl Tryz.underlying33) rfl <| aN 5 63 rfl rfl (P_pickT rfl hg2B rfl) rfl <| aN 6 127 rfl rfl (P_move rfl) rfl <| aS 7 255 rfl rfl (GY_no rfl rfl rfl rfl) rfl <| aS 9 767 rfl rfl (GY_no rfl rfl rfl rfl) rfl <| aS 10 1791 rfl rfl (GY_no rfl rfl rfl rfl) rfl <| aS 11 3839 rfl rfl (GY_no rfl rfl rfl rfl) rfl <| aS 12 7935 rfl rfl (GY_no rfl rfl rfl rfl) rfl <| aS 13 16127 rfl rfl (GY_no rfl rfl rfl rfl) rfl <| aS 14 32511 rfl rfl (GY_no rfl rfl rfl rfl) rfl <| aS 15 65279 rfl rfl (GY_no rfl rfl rfl rfl) rfl <| aS 16 130815 rfl rfl (GY_no rfl rfl rfl rfl) rfl <| aS 8 131071 rfl rfl (GY_no rfl rfl rfl rfl) rfl <| aS 17 262143 rfl rfl (GY_no rfl rfl rfl rfl) rfl <| aN 18 524287 rfl rfl (P_pickF rfl rfl rfl) rfl <| aN 19 1048575 rfl rfl (P_assign rfl) rfl <| AJ_done (by kernel_rfl) <| QJ_ent (Ent.trans (t0_ (t0_ (t0_ eR))) (Trk_close hS54)) <| QJ_ent (t0_ (t0_ (t0_ (t0_ (t0_ (t0_ (t1_ (eD eR)))))))) <| QJ_then <| CJ_ret <| QJ_ent (Ent.trans (t1_ (t1_ (t1_ (Ent.trans (fun h hh => optP_none h hh) <| t0_ eR)))) (OwnP_mk (v0 := a17.2.2.1.Open_1) (v1 := none) (v2 := a17.2.2.1.T) (v3 := a17.2.2.1.Stale) (v4 := a17.2.2.1.Lost) (h0 := oc49.1) (h1 := oc49.2.1) (h2 := 0) (h3 := oc49.2.2.2.1) (h4 := oc49.2.2.2.2.1) (h5 := oc49.2.2.2.2.2))) ?_
    cases h
    exact fE (res1 Tryz.results18 rfl) () eR
   ·
    rw [ht55]
    refine AJ_ent (Ent.takeC (A' := VolP bs pb13 o56) del8 rfl eR) <| aP 4 31 rfl rfl (GY_yes rfl rfl rfl hg2B) (P_neqIfN rfl rfl Tryz.underlying33) rfl <| aN 5 63 rfl rfl (P_pickT rfl hg2B rfl) rfl <| aN 6 127 rfl rfl (P_move rfl) rfl <| aP 7 255 rfl rfl (GY_yes rfl rfl rfl rfl) (P_move rfl) rfl <| aP 9 767 rfl rfl (GY_yes rfl rfl rfl rfl) (P_move rfl) rfl <| aP 10 1791 rfl rfl (GY_yes rfl rfl rfl rfl) (P_nilCheck rfl) rfl <| aP 11 3839 rfl rfl (GY_yes rfl rfl rfl rfl) (P_fieldAddr rfl ⟨_, _, _, Tryz.runUnderlying37, rfl, rfl, Tryz.sizeOf34, rfl⟩) rfl <| aV 12 7935 rfl rfl (GY_yes rfl rfl rfl rfl) (t1_ (t1_ (t1_ (t1_ (t1_ (t1_ (t1_ (t1_ eR)))))))) (V_load rfl foc3 rfl Tryz.isAgg34) rfl <| aP 13 16127 rfl rfl (GY_yes rfl rfl rfl rfl) (P_nilCheck rfl) rfl <| aP 14 32511 rfl rfl (GY_yes rfl rfl rfl rfl) (P_fieldAddr rfl ⟨_, _, _, Tryz.runUnderlying56, rfl, rfl, Tryz.sizeOf54, rfl⟩) rfl <| aV 15 65279 rfl rfl (GY_yes rfl rfl rfl rfl) (t1_ (t1_ (t1_ (t1_ (t1_ (t1_ (t1_ (t1_ eR)))))))) (V_load rfl foc0 rfl Tryz.isAgg54) rfl ?_
    refine aV 16 130815 rfl rfl (GY_yes rfl rfl rfl rfl) (t1_ (t1_ (t1_ (t1_ (t1_ (t1_ (t1_ (t1_ eR)))))))) (VJ_eq (V_len rfl foc1 (Reads.sl _ _ _) Tryz.runUnderlying54) (congrArg (fun z : Nat => Value.int .i64 (z : Int)) hS54.len.symm)) rfl ?_
    obtain ⟨r57, hr58, h⟩ := bind_e h
    refine AJ_op 8 131071 rfl (by kernel_rfl) rfl (GY_yes rfl rfl rfl rfl) <| O_callI rfl (ICall.of (fun w => by kernel_rfl) Tryz.call31 (L_parityvol_Volume_Size hr58)) rfl (Dels.cons del0 (Dels.cons del8 Dels.nil)) rfl fun _ _ => ⟨fun _ => (t2_ (t2_ (t2_ (t2_ (t2_ (t2_ (t2_ (t2_ eR)))))))), ?_⟩
    refine aP 17 262143 rfl rfl (GY_yes rfl rfl rfl rfl) (P_eql (a := r57) (b := ((a17.2.2.1.T.length : Nat) : Int)) rfl rfl) rfl <| aN 18 524287 rfl rfl (P_pickT rfl rfl rfl) rfl <| aN 19 1048575 rfl rfl (P_assign rfl) rfl <| AJ_done (by kernel_rfl) <| QJ_ent (Ent.trans (t2_ (t2_ (t2_ eR))) (Trk_close hS54)) <| QJ_then <| CJ_ret <| QJ_ent (Ent.trans (t3_ (t3_ (t3_ (t1_ (t0_ (t1_ (t1_ eR))))))) (OwnP_mk (v0 := a17.2.2.1.Open_1) (v1 := (some o56)) (v2 := a17.2.2.1.T) (v3 := a17.2.2.1.Stale) (v4 := a17.2.2.1.Lost) (h0 := oc49.1) (h1 := oc49.2.1) (h2 := pb13) (h3 := oc49.2.2.2.1) (h4 := oc49.2.2.2.2.1) (h5 := oc49.2.2.2.2.2))) ?_
    cases h
    exact fE (res1 Tryz.results18 rfl) () eR
  ·
   replace h := ite_f hg2 h
   refine aS 3 15 rfl rfl (GY_no rfl rfl rfl hg2B) rfl <| aS 4 31 rfl rfl (GY_no rfl rfl rfl hg2B) rfl <| aN 5 63 rfl rfl (P_pickF rfl hg2B rfl) rfl <| aN 6 127 rfl rfl (P_move rfl) rfl <| aS 7 255 rfl rfl (GY_no rfl rfl rfl rfl) rfl <| aS 9 767 rfl rfl (GY_no rfl rfl rfl rfl) rfl <| aS 10 1791 rfl rfl (GY_no rfl rfl rfl rfl) rfl <| aS 11 3839 rfl rfl (GY_no rfl rfl rfl rfl) rfl <| aS 12 7935 rfl rfl (GY_no rfl rfl rfl rfl) rfl <| aS 13 16127 rfl rfl (GY_no rfl rfl rfl rfl) rfl <| aS 14 32511 rfl rfl (GY_no rfl rfl rfl rfl) rfl <| aS 15 65279 rfl rfl (GY_no rfl rfl rfl rfl) rfl <| aS 16 130815 rfl rfl (GY_no rfl rfl rfl rfl) rfl <| aS 8 131071 rfl rfl (GY_no rfl rfl rfl rfl) rfl <| aS 17 262143 rfl rfl (GY_no rfl rfl rfl rfl) rfl <| aN 18 524287 rfl rfl (P_pickF rfl rfl rfl) rfl <| aN 19 1048575 rfl rfl (P_assign rfl) rfl <| AJ_done (by kernel_rfl) <| QJ_ent (Ent.trans (t0_ (t0_ (t0_ eR))) (Trk_close hS54)) <| QJ_then <| CJ_ret <| QJ_ent (Ent.trans (t1_ (t1_ (t1_ (t3_ eR)))) (OwnP_mk (v0 := a17.2.2.1.Open_1) (v1 := a17.1) (v2 := a17.2.2.1.T) (v3 := a17.2.2.1.Stale) (v4 := a17.2.2.1.Lost) (h0 := oc49.1) (h1 := oc49.2.1) (h2 := pb13) (h3 := oc49.2.2.2.1) (h4 := oc49.2.2.2.2.1) (h5 := oc49.2.2.2.2.2))) ?_
   cases h
   exact fE (res1 Tryz.results18 rfl) () eR
def volumegroupmake_Owner_Power (o : OwnS) (keep : UInt64) (s : ArrS) : Option (Bool × OwnS × ArrS) :=
  Option.bind (volumegroupmake_Keep keep) fun r9 =>
  grd (inLen s.writes) <|
  Option.bind (volumegroupmake_Owner_Begin ({ o with T := (failedT o.T) }) (rsS s r9)) fun r13 =>
  some (r13.1, r13.2.1, r13.2.2)
theorem L_volumegroupmake_Owner_Power {W : World} {bo : Nat} {bs : Nat} {o : OwnS} {keep : UInt64} {s : ArrS} {r : Bool × OwnS × ArrS} (h : volumegroupmake_Owner_Power o keep s = some r) :
    CSpec Tryz.prog W 41 [ptr bo 0, .int .u64 (keep.toNat : Int)] [OwnP bs bo o, Arr bs s] (fun x : Unit => .bool r.1) (fun _ => True) (fun x F => OwnP bs bo r.2.1 :: Arr bs r.2.2 :: F) := by
 refine CSpec.of_body Tryz.func41 rfl Tryz.ntmps41 rfl fun F => ?_
 show CJ _ _ _ _ _ _ (_ :: _ :: F)
 unfold volumegroupmake_Owner_Power at h
 refine sR <| oA rfl rfl <| nT <| CJ_seq <| CJ_entX (Ent.transX (t0_ eR) (OwnP_open (l := o))) fun oc1 => lC del5 fun hlen3 => lC del6 fun hlen4 => CJ_region <| oM rfl rfl <| oP (P_nilCheck rfl) rfl <| oP (P_fieldAddr rfl ⟨_, _, _, Tryz.runUnderlying37, rfl, rfl, Tryz.sizeOf34, rfl⟩) rfl <| oV (V_load rfl foc0 rfl Tryz.isAgg34) rfl <| oO <| O_call (c_Failed) rfl Tryz.call91 (Dels.cons del4 Dels.nil) rfl fun _ _ => RJ_nil <| QJ_ent (Ent.trans (t1_ (t1_ (t1_ (t1_ eR)))) (OwnP_mk (v0 := o.Open_1) (v1 := o.X) (v2 := (failedT o.T)) (v3 := o.Stale) (v4 := o.Lost) (h0 := oc1.1) (h1 := oc1.2.1) (h2 := oc1.2.2.1) (h3 := oc1.2.2.2.1) (h4 := oc1.2.2.2.2.1) (h5 := oc1.2.2.2.2.2))) <| QJ_then <| CJ_seq <| CJ_entX (Ent.transX (t0_ eR) (OwnP_open (l := { o with T := (failedT o.T) }))) fun oc5 => lC del5 fun hlen7 => lC del6 fun hlen8 => AJ_startH 64 (by kernel_rfl) rfl <| aN 0 1 rfl rfl (P_move rfl) rfl <| aN 1 3 rfl rfl (P_nilCheck rfl) rfl <| aN 2 7 rfl rfl (P_fieldAddr rfl ⟨_, _, _, Tryz.runUnderlying37, rfl, rfl, Tryz.sizeOf30, rfl⟩) rfl <| aV 3 15 rfl rfl (GY_none rfl) eR (V_load rfl foc0 rfl Tryz.isAgg30) rfl <| aN 4 31 rfl rfl (P_move rfl) rfl ?_
 obtain ⟨r9, hr10, h⟩ := bind_e h
 refine AJ_op 5 63 rfl (by kernel_rfl) rfl (GY_none rfl) <| O_call (L_volumegroupmake_Keep hr10) rfl Tryz.call93 Dels.nil rfl fun X11 _ => ⟨fun _ => (t1_ (t1_ (t1_ (t1_ (t1_ (t1_ (t1_ (t1_ (eD eR))))))))), ?_⟩
 obtain ⟨hg1, h⟩ := grd_Le h
 refine AJ_op 6 127 rfl (by kernel_rfl) rfl (GY_none rfl) <| O_call (c_Restart (Reads.sl _ _ _) hg1) rfl Tryz.call92 (Dels.cons del8 (Dels.cons del0 Dels.nil)) rfl fun _ _ => ⟨fun h => absurd h (by decide), ?_⟩
 refine AJ_done (by kernel_rfl) <| QJ_ent (Ent.trans (t2_ (t2_ (t2_ (t2_ (t2_ (t2_ (t2_ eR))))))) (OwnP_mk (v0 := o.Open_1) (v1 := o.X) (v2 := (failedT o.T)) (v3 := o.Stale) (v4 := o.Lost) (h0 := oc5.1) (h1 := oc5.2.1) (h2 := oc5.2.2.1) (h3 := oc5.2.2.2.1) (h4 := oc5.2.2.2.2.1) (h5 := oc5.2.2.2.2.2))) <| QJ_then <| sR <| oM rfl rfl ?_
 obtain ⟨r13, hr14, h⟩ := bind_e h
 refine oO <| O_call (L_volumegroupmake_Owner_Begin hr14) rfl Tryz.call18 (Dels.cons del0 (Dels.cons del0 Dels.nil)) rfl fun _ _ => oA rfl rfl <| nT <| CJ_ret ?_
 cases h
 exact fE (res1 Tryz.results41 rfl) () (t0_ (t0_ (eD eR)))
def volumegroupmake_Owner_Read_l1_b (at_1 : Int) (rec : OwnS → ArrS → Nat → UInt64 → Int → Option ((UInt64 × Int × OwnS × ArrS) ⊕ (Int × Bool × OwnS × ArrS))) (x17 : OwnS) (x18 : ArrS) (x19 : Nat) (x20 : UInt64) (x21 : Int) : Option ((UInt64 × Int × OwnS × ArrS) ⊕ (Int × Bool × OwnS × ArrS)) :=
  if ((((x19 : Nat) : Int) < (8 : Int)) ∧ (x21 = (18 : Int))) then
    Option.bind (volumegroupmake_Owner_drop x17 x18) fun r26 =>
    if (¬ r26.1 = true) then
      some (.inr (x21, false, r26.2, x18))
    else
      Option.elim r26.2.X (
        none) fun o33 =>
      Option.bind (parityvol_Volume_Read o33 at_1 x18) fun r34 =>
      rec ({ r26.2 with X := (some r34.2.2.1) }) r34.2.2.2 (x19 + 1) r34.1 r34.2.1
  else
    some (.inl (x20, x21, x17, x18))
def volumegroupmake_Owner_Read_l1 (at_1 : Int) : Nat → OwnS → ArrS → Nat → UInt64 → Int → Option ((UInt64 × Int × OwnS × ArrS) ⊕ (Int × Bool × OwnS × ArrS))
  | 0, _, _, _, _, _ => none
  | n + 1, x17, x18, x19, x20, x21 => volumegroupmake_Owner_Read_l1_b at_1 (volumegroupmake_Owner_Read_l1 at_1 n) x17 x18 x19 x20 x21
def volumegroupmake_Owner_Read (o : OwnS) (at_1 : Int) (settled : Bool) (s : ArrS) : Option (Int × Bool × OwnS × ArrS) :=
  Option.elim o.X (
    none) fun o6 =>
  Option.bind (parityvol_Volume_Read o6 at_1 s) fun r7 =>
  seqO (volumegroupmake_Owner_Read_l1 at_1 FUEL ({ o with X := (some r7.2.2.1) }) r7.2.2.2 0 r7.1 r7.2.1) fun a16 =>
  if (a16.2.1 = (5 : Int)) then
    some (a16.2.1, true, a16.2.2.1, a16.2.2.2)
  else
    if (a16.2.1 = (0 : Int)) then
      grd (decide (smallT a16.2.2.1.T = true)) <|
      some ((a16.2.1, (rdTR a16.2.2.1.T at_1 a16.1), { a16.2.2.1 with T := (rdTS a16.2.2.1.T at_1 a16.1 settled) }, a16.2.2.2))
    else
      some (a16.2.1, false, a16.2.2.1, a16.2.2.2)
theorem L_volumegroupmake_Owner_Read {W : World} {bo : Nat} {bs : Nat} {o : OwnS} {at_1 : Int} {settled : Bool} {s : ArrS} {r : Int × Bool × OwnS × ArrS} (h : volumegroupmake_Owner_Read o at_1 settled s = some r) :
    CSpec Tryz.prog W 59 [ptr bo 0, .int .i64 at_1, .bool settled] [OwnP bs bo o, Arr bs s] (fun x : Unit => .tuple #[.int .i64 r.1, .bool r.2.1]) (fun _ => True) (fun x F => OwnP bs bo r.2.2.1 :: Arr bs r.2.2.2 :: F) := by
 refine CSpec.of_body Tryz.func59 rfl Tryz.ntmps59 rfl fun F => ?_
 show CJ _ _ _ _ _ _ (_ :: _ :: F)
 unfold volumegroupmake_Owner_Read at h
 refine sR <| oA rfl rfl <| oA rfl rfl <| nT <| CJ_seq <| CJ_entX (Ent.transX (t0_ eR) (OwnP_open (l := o))) fun oc1 => lC del5 fun hlen3 => lC del6 fun hlen4 => CJ_region <| oM rfl rfl <| oP (P_nilCheck rfl) rfl <| oP (P_fieldAddr rfl ⟨_, _, _, Tryz.runUnderlying37, rfl, rfl, Tryz.sizeOf33, rfl⟩) rfl <| oV (V_load rfl foc0 rfl Tryz.isAgg33) rfl <| oM rfl rfl ?_
 rcases opt_e h with ⟨ht5, h⟩ | ⟨o6, ht5, h⟩
 ·
  rw [ht5]
  exact RJ_ent (t0_ (t0_ (t0_ (t1_ (t1_ (t1_ (t1_ (eD eR)))))))) <| none_e h
 ·
  rw [ht5]
  refine RJ_ent (Ent.takeC (A' := VolP bs oc1.2.2.1 o6) del3 rfl eR) ?_
  obtain ⟨r7, hr8, h⟩ := bind_e h
  refine oO <| O_callI rfl (ICall.of (fun w => by kernel_rfl) Tryz.call28 (L_parityvol_Volume_Read hr8)) rfl (Dels.cons del0 (Dels.cons del6 Dels.nil)) rfl fun _ _ => oM rfl rfl <| oP (P_extract rfl rfl) rfl <| oP (P_extract rfl rfl) rfl <| oA rfl rfl <| oA rfl rfl <| RJ_nil <| QJ_ent (Ent.trans (t2_ (t2_ (t2_ (t0_ (t1_ (t1_ (t1_ eR))))))) (OwnP_mk (v0 := o.Open_1) (v1 := (some r7.2.2.1)) (v2 := o.T) (v3 := o.Stale) (v4 := o.Lost) (h0 := oc1.1) (h1 := oc1.2.1) (h2 := oc1.2.2.1) (h3 := oc1.2.2.2.1) (h4 := oc1.2.2.2.2.1) (h5 := oc1.2.2.2.2.2))) <| QJ_then <| CJ_seq <| sR <| oA rfl rfl <| nT ?_
  obtain ⟨y11, hl9, hK10⟩ := seq_e h
  refine CJ_cutT (X := UInt64 × Int × OwnS × ArrS) [6, 7, 8, 9, 10, 20, 21, 22, 23, 24, 25, 26, 27, 28, 29, 30, 31, 32, 33, 34, 35, 36, 37, 38, 39, 40] (fun a16 => ([(8, .int .u64 (a16.1.toNat : Int)), (9, .int .i64 a16.2.1)] : Slots)) (fun a16 R => OwnP bs bo a16.2.2.1 :: Arr bs a16.2.2.2 :: R) (fun a16 => y11 = .inl a16) (Dels.cons del0 (Dels.cons del0 Dels.nil)) ?_ ?_
  ·
   refine CJ_block <| CJ_loopR (X := Nat × OwnS × ArrS × Nat × UInt64 × Int) [6, 7, 8, 9, 10, 20, 21, 22, 23, 24, 25, 26, 27, 28, 29, 30, 31, 32, 33, 34, 35, 36, 37, 38, 39, 40] (fun ⟨n, x17, x18, x19, x20, x21⟩ => ([(8, .int .u64 (x20.toNat : Int)), (9, .int .i64 x21), (10, .int .i64 (((x19 : Nat) : Int)))] : Slots)) (fun ⟨n, x17, x18, x19, x20, x21⟩ R => OwnP bs bo x17 :: Arr bs x18 :: R) (fun ⟨n, x17, x18, x19, x20, x21⟩ => volumegroupmake_Owner_Read_l1 at_1 n x17 x18 x19 x20 x21 = some y11) (fun ⟨n, x17, x18, x19, x20, x21⟩ => n) ⟨FUEL, { o with X := (some r7.2.2.1) }, r7.2.2.2, 0, r7.1, r7.2.1⟩ ?_ ?_ eR ?_
   · exact hl9
   · exact ⟨rfl, rfl, rfl, True.intro⟩
   ·
    rintro ⟨n, x17, x18, x19, x20, x21⟩ h
    cases n with
    | zero => exact none_e h
    | succ n => ?_
    replace h : volumegroupmake_Owner_Read_l1_b at_1 (volumegroupmake_Owner_Read_l1 at_1 n) x17 x18 x19 x20 x21 = some y11 := h
    unfold volumegroupmake_Owner_Read_l1_b at h
    show CJ _ _ _ _ _ (([(8, .int .u64 (x20.toNat : Int)), (9, .int .i64 x21), (10, .int .i64 (((x19 : Nat) : Int)))] : Slots) ++ forget _ _) (OwnP bs bo x17 :: Arr bs x18 :: _)
    refine CJ_seq <| sR <| oM rfl rfl <| oP (P_lss (a := ((x19 : Nat) : Int)) (b := (8 : Int)) rfl rfl) rfl <| oM rfl rfl <| RJ_mbT rfl rfl rfl (fun hG22 => have hP23 : (((x19 : Nat) : Int) < (8 : Int)) := (bT_dec).1 hG22; VJ_P (P_move rfl)) <| RJ_mbT rfl rfl rfl (fun hG24 => have hP25 : (((x19 : Nat) : Int) < (8 : Int)) := (bT_dec).1 hG24; VJ_P (P_eql (a := x21) (b := (18 : Int)) (mbx hG24 rfl) rfl)) <| oP (P_pickAnd rfl (fun hh => mbx hh rfl) rfl) rfl <| nT <| CJ_condP rfl (bT_and bT_dec bT_dec) (fun hg1 => ?_) (fun hg1 => ?_)
    ·
     replace h := ite_t hg1 h
     refine kT <| CJ_seq <| CJ_block <| CJ_seq <| sR <| oM rfl rfl ?_
     obtain ⟨r26, hr27, h⟩ := bind_e h
     refine oO <| O_call (L_volumegroupmake_Owner_drop hr27) rfl Tryz.call50 (Dels.cons del0 (Dels.cons del0 Dels.nil)) rfl fun _ _ => oP (P_not rfl) rfl <| nT <| CJ_condP rfl (bT_not Iff.rfl) (fun hg2 => ?_) (fun hg2 => ?_)
     ·
      replace h := ite_t hg2 h
      refine sR <| oM rfl rfl <| oA rfl rfl <| oA rfl rfl <| nT <| CJ_ret <| QJ_then_ret <| QJ_block_ret <| QJ_then_ret <| QJ_round_ret <| QJ_block_ret <| QJ_then_ret ?_
      have hE := Option.some.inj h
      replace hE := seq_inr hK10 hE.symm
      subst hE
      exact fE (res2 Tryz.results59 rfl rfl) () eR
     ·
      replace h := ite_f hg2 h
      refine kT <| CJ_entX (Ent.transX (t0_ eR) (OwnP_open (l := r26.2))) fun oc28 => lC del5 fun hlen30 => lC del6 fun hlen31 => CJ_region <| oM rfl rfl <| oP (P_nilCheck rfl) rfl <| oP (P_fieldAddr rfl ⟨_, _, _, Tryz.runUnderlying37, rfl, rfl, Tryz.sizeOf33, rfl⟩) rfl <| oV (V_load rfl foc0 rfl Tryz.isAgg33) rfl <| oM rfl rfl ?_
      rcases opt_e h with ⟨ht32, h⟩ | ⟨o33, ht32, h⟩
      ·
       rw [ht32]
       exact RJ_ent (t0_ (t0_ (t0_ (t1_ (t1_ (t1_ (t1_ (eD eR)))))))) <| none_e h
      ·
       rw [ht32]
       refine RJ_ent (Ent.takeC (A' := VolP bs oc28.2.2.1 o33) del3 rfl eR) ?_
       obtain ⟨r34, hr35, h⟩ := bind_e h
       exact oO <| O_callI rfl (ICall.of (fun w => by kernel_rfl) Tryz.call28 (L_parityvol_Volume_Read hr35)) rfl (Dels.cons del0 (Dels.cons del6 Dels.nil)) rfl fun _ _ => oM rfl rfl <| oP (P_extract rfl rfl) rfl <| oP (P_extract rfl rfl) rfl <| oA rfl rfl <| oA rfl rfl <| RJ_nil <| QJ_ent (Ent.trans (t2_ (t2_ (t2_ (t0_ (t1_ (t1_ (t1_ eR))))))) (OwnP_mk (v0 := r26.2.Open_1) (v1 := (some r34.2.2.1)) (v2 := r26.2.T) (v3 := r26.2.Stale) (v4 := r26.2.Lost) (h0 := oc28.1) (h1 := oc28.2.1) (h2 := oc28.2.2.1) (h3 := oc28.2.2.2.1) (h4 := oc28.2.2.2.2.1) (h5 := oc28.2.2.2.2.2))) <| QJ_block_normal <| QJ_then <| CJ_region <| oM rfl rfl <| oP (PJ_eq (P_add (a := ((x19 : Nat) : Int)) (b := (1 : Int)) rfl rfl (by omega)) rfl) rfl <| oA rfl rfl <| RJ_nil <| nR ⟨n, { r26.2 with X := (some r34.2.2.1) }, r34.2.2.2, (x19 + 1), r34.1, r34.2.1⟩ h ⟨rfl, rfl, rfl, True.intro⟩ eR
    ·
     replace h := ite_f hg1 h
     exact CJ_exit <| QJ_then_exit <| QJ_round_exit <| QJ_block_here <| cR (x20, x21, x17, x18) (Option.some.inj h).symm ⟨rfl, rfl, True.intro⟩ eR
  ·
   rintro a16 hy36
   replace h := seq_inl hK10 hy36
   show CJ _ _ _ _ _ (([(8, .int .u64 (a16.1.toNat : Int)), (9, .int .i64 a16.2.1)] : Slots) ++ forget _ _) (OwnP bs bo a16.2.2.1 :: Arr bs a16.2.2.2 :: _)
   refine CJ_seq <| sR <| oM rfl rfl <| oP (P_eql (a := a16.2.1) (b := (5 : Int)) rfl rfl) rfl <| nT <| CJ_condP rfl bT_dec (fun hg3 => ?_) (fun hg3 => ?_)
   ·
    replace h := ite_t hg3 h
    refine sR <| oM rfl rfl <| oA rfl rfl <| oA rfl rfl <| nT <| CJ_ret <| QJ_then_ret ?_
    cases h
    exact fE (res2 Tryz.results59 rfl rfl) () eR
   ·
    replace h := ite_f hg3 h
    refine kT <| CJ_seq <| CJ_entX (Ent.transX (t0_ eR) (OwnP_open (l := a16.2.2.1))) fun oc37 => lC del5 fun hlen39 => lC del6 fun hlen40 => CJ_region <| oM rfl rfl <| oM rfl rfl <| oP (P_eql (a := a16.2.1) (b := (0 : Int)) rfl rfl) rfl <| oM rfl rfl <| RJ_splitP 47 rfl bT_dec (fun hg4B hg4 => ?_) (fun hg4B hg4 => ?_)
    ·
     replace h := ite_t hg4 h
     refine gP (GY_yes rfl rfl rfl hg4B) (P_move rfl) rfl <| gP (GY_yes rfl rfl rfl hg4B) (P_nilCheck rfl) rfl <| gP (GY_yes rfl rfl rfl hg4B) (P_fieldAddr rfl ⟨_, _, _, Tryz.runUnderlying37, rfl, rfl, Tryz.sizeOf34, rfl⟩) rfl <| gV (GY_yes rfl rfl rfl hg4B) (V_load rfl foc0 rfl Tryz.isAgg34) rfl <| gP (GY_yes rfl rfl rfl hg4B) (P_move rfl) rfl <| gP (GY_yes rfl rfl rfl hg4B) (P_move rfl) rfl <| gP (GY_yes rfl rfl rfl hg4B) (P_move rfl) rfl ?_
     obtain ⟨hg5, h⟩ := grd_de h
     refine RJ_gy (GY_yes rfl rfl rfl hg4B) <| O_call (c_Reads (smallT_at hg5) (v := a16.1)) rfl Tryz.call100 (Dels.cons del4 Dels.nil) rfl fun _ _ => oP (P_pickT rfl hg4B rfl) rfl <| oA rfl rfl <| oA rfl rfl <| RJ_nil <| QJ_ent (Ent.trans (t1_ (t1_ (t1_ (t1_ eR)))) (OwnP_mk (v0 := a16.2.2.1.Open_1) (v1 := a16.2.2.1.X) (v2 := (rdTS a16.2.2.1.T at_1 a16.1 settled)) (v3 := a16.2.2.1.Stale) (v4 := a16.2.2.1.Lost) (h0 := oc37.1) (h1 := oc37.2.1) (h2 := oc37.2.2.1) (h3 := oc37.2.2.2.1) (h4 := oc37.2.2.2.2.1) (h5 := oc37.2.2.2.2.2))) <| QJ_then <| CJ_ret ?_
     cases h
     exact fE (res2 Tryz.results59 rfl rfl) () eR
    ·
     replace h := ite_f hg4 h
     refine RJ_gn (GY_no rfl rfl rfl hg4B) rfl rfl <| RJ_gn (GY_no rfl rfl rfl hg4B) rfl rfl <| RJ_gn (GY_no rfl rfl rfl hg4B) rfl rfl <| RJ_gn (GY_no rfl rfl rfl hg4B) rfl rfl <| RJ_gn (GY_no rfl rfl rfl hg4B) rfl rfl <| RJ_gn (GY_no rfl rfl rfl hg4B) rfl rfl <| RJ_gn (GY_no rfl rfl rfl hg4B) rfl rfl <| RJ_gn (GY_no rfl rfl rfl hg4B) rfl rfl <| oP (P_pickF rfl hg4B rfl) rfl <| oA rfl rfl <| oA rfl rfl <| RJ_nil <| QJ_ent (Ent.trans eR (OwnP_mk (v0 := a16.2.2.1.Open_1) (v1 := a16.2.2.1.X) (v2 := a16.2.2.1.T) (v3 := a16.2.2.1.Stale) (v4 := a16.2.2.1.Lost) (h0 := oc37.1) (h1 := oc37.2.1) (h2 := oc37.2.2.1) (h3 := oc37.2.2.2.1) (h4 := oc37.2.2.2.2.1) (h5 := oc37.2.2.2.2.2))) <| QJ_then <| CJ_ret ?_
     cases h
     exact fE (res2 Tryz.results59 rfl rfl) () eR
def volumegroupmake_Owner_All_l1_b (settled : Bool) (rec : OwnS → ArrS → Nat → Option ((OwnS × ArrS) ⊕ (Bool × OwnS × ArrS))) (x7 : OwnS) (x8 : ArrS) (x9 : Nat) : Option ((OwnS × ArrS) ⊕ (Bool × OwnS × ArrS)) :=
  if (((x9 : Nat) : Int) < ((x7.T.length : Nat) : Int)) then
    Option.bind (volumegroupmake_Owner_Read x7 (((x9 : Nat) : Int)) settled x8) fun r16 =>
    if ((¬ r16.2.1 = true) ∨ (r16.1 ≠ (0 : Int))) then
      some (.inr (false, r16.2.2.1, r16.2.2.2))
    else
      grd (inN64 (x9 + 1)) <|
      rec r16.2.2.1 r16.2.2.2 (x9 + 1)
  else
    some (.inl (x7, x8))
def volumegroupmake_Owner_All_l1 (settled : Bool) : Nat → OwnS → ArrS → Nat → Option ((OwnS × ArrS) ⊕ (Bool × OwnS × ArrS))
  | 0, _, _, _ => none
  | n + 1, x7, x8, x9 => volumegroupmake_Owner_All_l1_b settled (volumegroupmake_Owner_All_l1 settled n) x7 x8 x9
def volumegroupmake_Owner_All (o : OwnS) (settled : Bool) (s : ArrS) : Option (Bool × OwnS × ArrS) :=
  seqO (volumegroupmake_Owner_All_l1 settled FUEL o s 0) fun a6 =>
  some (true, a6.1, a6.2)
theorem L_volumegroupmake_Owner_All {W : World} {bo : Nat} {bs : Nat} {o : OwnS} {settled : Bool} {s : ArrS} {r : Bool × OwnS × ArrS} (h : volumegroupmake_Owner_All o settled s = some r) :
    CSpec Tryz.prog W 21 [ptr bo 0, .bool settled] [OwnP bs bo o, Arr bs s] (fun x : Unit => .bool r.1) (fun _ => True) (fun x F => OwnP bs bo r.2.1 :: Arr bs r.2.2 :: F) := by
 refine CSpec.of_body Tryz.func21 rfl Tryz.ntmps21 rfl fun F => ?_
 show CJ _ _ _ _ _ _ (_ :: _ :: F)
 unfold volumegroupmake_Owner_All at h
 refine sR <| oA rfl rfl <| nT <| CJ_seq <| sR <| oA rfl rfl <| nT ?_
 obtain ⟨y3, hl1, hK2⟩ := seq_e h
 refine CJ_cutT (X := OwnS × ArrS) [4, 5, 6, 7, 8, 9, 10, 11, 12, 13, 14, 15, 16, 17, 18, 19, 20, 21, 22, 23, 24, 25, 26, 27, 28, 29, 30, 31, 32] (fun a6 => ([] : Slots)) (fun a6 R => OwnP bs bo a6.1 :: Arr bs a6.2 :: R) (fun a6 => y3 = .inl a6) (Dels.cons del0 (Dels.cons del0 Dels.nil)) ?_ ?_
 ·
  refine CJ_block <| CJ_loopR (X := Nat × OwnS × ArrS × Nat) [4, 5, 6, 7, 8, 9, 10, 11, 12, 13, 14, 15, 16, 17, 18, 19, 20, 21, 22, 23, 24, 25, 26, 27, 28, 29, 30, 31, 32] (fun ⟨n, x7, x8, x9⟩ => ([(5, .int .i64 (((x9 : Nat) : Int)))] : Slots)) (fun ⟨n, x7, x8, x9⟩ R => OwnP bs bo x7 :: Arr bs x8 :: R) (fun ⟨n, x7, x8, x9⟩ => volumegroupmake_Owner_All_l1 settled n x7 x8 x9 = some y3) (fun ⟨n, x7, x8, x9⟩ => n) ⟨FUEL, o, s, 0⟩ ?_ ?_ eR ?_
  · exact hl1
  · exact ⟨rfl, True.intro⟩
  ·
   rintro ⟨n, x7, x8, x9⟩ h
   cases n with
   | zero => exact none_e h
   | succ n => ?_
   replace h : volumegroupmake_Owner_All_l1_b settled (volumegroupmake_Owner_All_l1 settled n) x7 x8 x9 = some y3 := h
   unfold volumegroupmake_Owner_All_l1_b at h
   show CJ _ _ _ _ _ (([(5, .int .i64 (((x9 : Nat) : Int)))] : Slots) ++ forget _ _) (OwnP bs bo x7 :: Arr bs x8 :: _)
   refine CJ_seq <| CJ_seq <| CJ_entX (Ent.transX (t0_ eR) (OwnP_open (l := x7))) fun oc10 => lC del5 fun hlen12 => lC del6 fun hlen13 => CJ_entX (Ent.transX (t4_ eR) Trk_open) fun tc14 => CJ_pur fun hS15 => CJ_region <| oM rfl rfl <| oM rfl rfl <| oP (P_nilCheck rfl) rfl <| oP (P_fieldAddr rfl ⟨_, _, _, Tryz.runUnderlying37, rfl, rfl, Tryz.sizeOf34, rfl⟩) rfl <| oV (V_load rfl foc3 rfl Tryz.isAgg34) rfl <| oP (P_nilCheck rfl) rfl <| oP (P_fieldAddr rfl ⟨_, _, _, Tryz.runUnderlying56, rfl, rfl, Tryz.sizeOf54, rfl⟩) rfl <| oV (V_load rfl foc0 rfl Tryz.isAgg54) rfl <| oV (VJ_eq (V_len rfl foc1 (Reads.sl _ _ _) Tryz.runUnderlying54) (congrArg (fun z : Nat => Value.int .i64 (z : Int)) hS15.len.symm)) rfl <| oP (P_lss (a := ((x9 : Nat) : Int)) (b := ((x7.T.length : Nat) : Int)) rfl rfl) rfl <| RJ_nil <| QJ_ent (Ent.trans (t0_ (t0_ (t0_ eR))) (Trk_close hS15)) <| QJ_ent (Ent.trans (t1_ (t1_ (t1_ (t1_ eR)))) (OwnP_mk (v0 := x7.Open_1) (v1 := x7.X) (v2 := x7.T) (v3 := x7.Stale) (v4 := x7.Lost) (h0 := oc10.1) (h1 := oc10.2.1) (h2 := oc10.2.2.1) (h3 := oc10.2.2.2.1) (h4 := oc10.2.2.2.2.1) (h5 := oc10.2.2.2.2.2))) <| QJ_then <| CJ_condP rfl bT_dec (fun hg1 => ?_) (fun hg1 => ?_)
   ·
    replace h := ite_t hg1 h
    refine kT <| CJ_seq <| CJ_block <| sR <| oM rfl rfl <| oM rfl rfl <| oM rfl rfl ?_
    obtain ⟨r16, hr17, h⟩ := bind_e h
    refine oO <| O_call (L_volumegroupmake_Owner_Read hr17) rfl Tryz.call59 (Dels.cons del0 (Dels.cons del0 Dels.nil)) rfl fun _ _ => oM rfl rfl <| oP (P_extract rfl rfl) rfl <| oP (P_extract rfl rfl) rfl <| oA rfl rfl <| oA rfl rfl <| nT <| sR <| oM rfl rfl <| oP (P_not rfl) rfl <| oM rfl rfl <| RJ_mbF rfl rfl rfl (fun hG18 => have hP19 : ¬ (¬ r16.2.1 = true) := nP ((bT_not Iff.rfl)) hG18; VJ_P (P_move rfl)) <| RJ_mbF rfl rfl rfl (fun hG20 => have hP21 : ¬ (¬ r16.2.1 = true) := nP ((bT_not Iff.rfl)) hG20; VJ_P (P_neq (a := r16.1) (b := (0 : Int)) (mbx hG20 rfl) rfl)) <| oP (P_pickOr rfl rfl (fun hh => mbx (not_f hh) rfl)) rfl <| nT <| CJ_condP rfl (bT_or (bT_not Iff.rfl) bT_dec) (fun hg2 => ?_) (fun hg2 => ?_)
    ·
     replace h := ite_t hg2 h
     refine sR <| oA rfl rfl <| nT <| CJ_ret <| QJ_block_ret <| QJ_then_ret <| QJ_round_ret <| QJ_block_ret <| QJ_then_ret ?_
     have hE := Option.some.inj h
     replace hE := seq_inr hK2 hE.symm
     subst hE
     exact fE (res1 Tryz.results21 rfl) () eR
    ·
     replace h := ite_f hg2 h
     refine CJ_skip <| QJ_block_normal <| QJ_then <| CJ_region <| oM rfl rfl ?_
     obtain ⟨hg3, h⟩ := grd_Ne h
     exact oP (PJ_eq (P_add (a := ((x9 : Nat) : Int)) (b := (1 : Int)) rfl rfl (nat_in hg3)) rfl) rfl <| oA rfl rfl <| RJ_nil <| nR ⟨n, r16.2.2.1, r16.2.2.2, (x9 + 1)⟩ h ⟨rfl, True.intro⟩ eR
   ·
    replace h := ite_f hg1 h
    exact CJ_exit <| QJ_then_exit <| QJ_round_exit <| QJ_block_here <| cR (x7, x8) (Option.some.inj h).symm True.intro eR
 ·
  rintro a6 hy22
  replace h := seq_inl hK2 hy22
  show CJ _ _ _ _ _ (([] : Slots) ++ forget _ _) (OwnP bs bo a6.1 :: Arr bs a6.2 :: _)
  refine sR <| oA rfl rfl <| nT <| CJ_ret ?_
  cases h
  exact fE (res1 Tryz.results21 rfl) () eR
def volumegroupmake_Owner_Write_l1_b (at_1 : Int) (v : UInt64) (rec : OwnS → ArrS → Int → Nat → Option ((Int × OwnS × ArrS) ⊕ (Int × Bool × OwnS × ArrS))) (x16 : OwnS) (x17 : ArrS) (x18 : Int) (x19 : Nat) : Option ((Int × OwnS × ArrS) ⊕ (Int × Bool × OwnS × ArrS)) :=
  if ((((x19 : Nat) : Int) < (8 : Int)) ∧ (x18 = (18 : Int))) then
    grd (decide (smallT x16.T = true)) <|
    Option.bind (volumegroupmake_Owner_drop ({ x16 with T := (wroteT x16.T at_1 v false) }) x17) fun r28 =>
    if (¬ r28.1 = true) then
      some (.inr (x18, false, r28.2, x17))
    else
      Option.elim r28.2.X (
        none) fun o35 =>
      Option.bind (parityvol_Volume_Write o35 at_1 v x17) fun r36 =>
      rec ({ r28.2 with X := (some r36.2.1) }) r36.2.2 r36.1 (x19 + 1)
  else
    some (.inl (x18, x16, x17))
def volumegroupmake_Owner_Write_l1 (at_1 : Int) (v : UInt64) : Nat → OwnS → ArrS → Int → Nat → Option ((Int × OwnS × ArrS) ⊕ (Int × Bool × OwnS × ArrS))
  | 0, _, _, _, _ => none
  | n + 1, x16, x17, x18, x19 => volumegroupmake_Owner_Write_l1_b at_1 v (volumegroupmake_Owner_Write_l1 at_1 v n) x16 x17 x18 x19
def volumegroupmake_Owner_Write (o : OwnS) (at_1 : Int) (v : UInt64) (s : ArrS) : Option (Int × Bool × OwnS × ArrS) :=
  Option.elim o.X (
    none) fun o6 =>
  Option.bind (parityvol_Volume_Write o6 at_1 v s) fun r7 =>
  seqO (volumegroupmake_Owner_Write_l1 at_1 v FUEL ({ o with X := (some r7.2.1) }) r7.2.2 r7.1 0) fun a15 =>
  grd (decide (smallT a15.2.1.T = true)) <|
  some ((a15.1, ((decide (a15.1 = (0 : Int))) || (decide (a15.1 = (5 : Int)))), { a15.2.1 with T := (wroteT a15.2.1.T at_1 v ((decide (a15.1 = (0 : Int))))) }, a15.2.2))
theorem L_volumegroupmake_Owner_Write {W : World} {bo : Nat} {bs : Nat} {o : OwnS} {at_1 : Int} {v : UInt64} {s : ArrS} {r : Int × Bool × OwnS × ArrS} (h : volumegroupmake_Owner_Write o at_1 v s = some r) :
    CSpec Tryz.prog W 44 [ptr bo 0, .int .i64 at_1, .int .u64 (v.toNat : Int)] [OwnP bs bo o, Arr bs s] (fun x : Unit => .tuple #[.int .i64 r.1, .bool r.2.1]) (fun _ => True) (fun x F => OwnP bs bo r.2.2.1 :: Arr bs r.2.2.2 :: F) := by
 refine CSpec.of_body Tryz.func44 rfl Tryz.ntmps44 rfl fun F => ?_
 show CJ _ _ _ _ _ _ (_ :: _ :: F)
 unfold volumegroupmake_Owner_Write at h
 refine sR <| oA rfl rfl <| oA rfl rfl <| nT <| CJ_seq <| CJ_entX (Ent.transX (t0_ eR) (OwnP_open (l := o))) fun oc1 => lC del5 fun hlen3 => lC del6 fun hlen4 => CJ_region <| oM rfl rfl <| oP (P_nilCheck rfl) rfl <| oP (P_fieldAddr rfl ⟨_, _, _, Tryz.runUnderlying37, rfl, rfl, Tryz.sizeOf33, rfl⟩) rfl <| oV (V_load rfl foc0 rfl Tryz.isAgg33) rfl <| oM rfl rfl <| oM rfl rfl ?_
 rcases opt_e h with ⟨ht5, h⟩ | ⟨o6, ht5, h⟩
 ·
  rw [ht5]
  exact RJ_ent (t0_ (t0_ (t0_ (t1_ (t1_ (t1_ (t1_ (eD eR)))))))) <| none_e h
 ·
  rw [ht5]
  refine RJ_ent (Ent.takeC (A' := VolP bs oc1.2.2.1 o6) del3 rfl eR) ?_
  obtain ⟨r7, hr8, h⟩ := bind_e h
  refine oO <| O_callI rfl (ICall.of (fun w => by kernel_rfl) Tryz.call32 (L_parityvol_Volume_Write hr8)) rfl (Dels.cons del0 (Dels.cons del6 Dels.nil)) rfl fun _ _ => oA rfl rfl <| RJ_nil <| QJ_ent (Ent.trans (t2_ (t2_ (t2_ (t0_ (t1_ (t1_ (t1_ eR))))))) (OwnP_mk (v0 := o.Open_1) (v1 := (some r7.2.1)) (v2 := o.T) (v3 := o.Stale) (v4 := o.Lost) (h0 := oc1.1) (h1 := oc1.2.1) (h2 := oc1.2.2.1) (h3 := oc1.2.2.2.1) (h4 := oc1.2.2.2.2.1) (h5 := oc1.2.2.2.2.2))) <| QJ_then <| CJ_seq <| sR <| oA rfl rfl <| nT ?_
  obtain ⟨y11, hl9, hK10⟩ := seq_e h
  refine CJ_cutT (X := Int × OwnS × ArrS) [6, 7, 8, 9, 17, 18, 19, 20, 21, 22, 23, 24, 25, 26, 27, 28, 29, 30, 31, 32, 33, 34, 35, 36, 37, 38, 39, 40, 41, 42] (fun a15 => ([(8, .int .i64 a15.1)] : Slots)) (fun a15 R => OwnP bs bo a15.2.1 :: Arr bs a15.2.2 :: R) (fun a15 => y11 = .inl a15) (Dels.cons del0 (Dels.cons del0 Dels.nil)) ?_ ?_
  ·
   refine CJ_block <| CJ_loopR (X := Nat × OwnS × ArrS × Int × Nat) [6, 7, 8, 9, 17, 18, 19, 20, 21, 22, 23, 24, 25, 26, 27, 28, 29, 30, 31, 32, 33, 34, 35, 36, 37, 38, 39, 40, 41, 42] (fun ⟨n, x16, x17, x18, x19⟩ => ([(8, .int .i64 x18), (9, .int .i64 (((x19 : Nat) : Int)))] : Slots)) (fun ⟨n, x16, x17, x18, x19⟩ R => OwnP bs bo x16 :: Arr bs x17 :: R) (fun ⟨n, x16, x17, x18, x19⟩ => volumegroupmake_Owner_Write_l1 at_1 v n x16 x17 x18 x19 = some y11) (fun ⟨n, x16, x17, x18, x19⟩ => n) ⟨FUEL, { o with X := (some r7.2.1) }, r7.2.2, r7.1, 0⟩ ?_ ?_ eR ?_
   · exact hl9
   · exact ⟨rfl, rfl, True.intro⟩
   ·
    rintro ⟨n, x16, x17, x18, x19⟩ h
    cases n with
    | zero => exact none_e h
    | succ n => ?_
    replace h : volumegroupmake_Owner_Write_l1_b at_1 v (volumegroupmake_Owner_Write_l1 at_1 v n) x16 x17 x18 x19 = some y11 := h
    unfold volumegroupmake_Owner_Write_l1_b at h
    show CJ _ _ _ _ _ (([(8, .int .i64 x18), (9, .int .i64 (((x19 : Nat) : Int)))] : Slots) ++ forget _ _) (OwnP bs bo x16 :: Arr bs x17 :: _)
    refine CJ_seq <| sR <| oM rfl rfl <| oP (P_lss (a := ((x19 : Nat) : Int)) (b := (8 : Int)) rfl rfl) rfl <| oM rfl rfl <| RJ_mbT rfl rfl rfl (fun hG20 => have hP21 : (((x19 : Nat) : Int) < (8 : Int)) := (bT_dec).1 hG20; VJ_P (P_move rfl)) <| RJ_mbT rfl rfl rfl (fun hG22 => have hP23 : (((x19 : Nat) : Int) < (8 : Int)) := (bT_dec).1 hG22; VJ_P (P_eql (a := x18) (b := (18 : Int)) (mbx hG22 rfl) rfl)) <| oP (P_pickAnd rfl (fun hh => mbx hh rfl) rfl) rfl <| nT <| CJ_condP rfl (bT_and bT_dec bT_dec) (fun hg1 => ?_) (fun hg1 => ?_)
    ·
     replace h := ite_t hg1 h
     refine kT <| CJ_seq <| CJ_block <| CJ_seq <| CJ_entX (Ent.transX (t0_ eR) (OwnP_open (l := x16))) fun oc24 => lC del5 fun hlen26 => lC del6 fun hlen27 => CJ_region <| oM rfl rfl <| oP (P_nilCheck rfl) rfl <| oP (P_fieldAddr rfl ⟨_, _, _, Tryz.runUnderlying37, rfl, rfl, Tryz.sizeOf34, rfl⟩) rfl <| oV (V_load rfl foc0 rfl Tryz.isAgg34) rfl <| oM rfl rfl <| oM rfl rfl ?_
     obtain ⟨hg2, h⟩ := grd_de h
     refine oO <| O_call (c_Wrote (smallT_at hg2) (v := v)) rfl Tryz.call96 (Dels.cons del4 Dels.nil) rfl fun _ _ => RJ_nil <| QJ_ent (Ent.trans (t1_ (t1_ (t1_ (t1_ eR)))) (OwnP_mk (v0 := x16.Open_1) (v1 := x16.X) (v2 := (wroteT x16.T at_1 v false)) (v3 := x16.Stale) (v4 := x16.Lost) (h0 := oc24.1) (h1 := oc24.2.1) (h2 := oc24.2.2.1) (h3 := oc24.2.2.2.1) (h4 := oc24.2.2.2.2.1) (h5 := oc24.2.2.2.2.2))) <| QJ_then <| CJ_seq <| sR <| oM rfl rfl ?_
     obtain ⟨r28, hr29, h⟩ := bind_e h
     refine oO <| O_call (L_volumegroupmake_Owner_drop hr29) rfl Tryz.call50 (Dels.cons del0 (Dels.cons del0 Dels.nil)) rfl fun _ _ => oP (P_not rfl) rfl <| nT <| CJ_condP rfl (bT_not Iff.rfl) (fun hg3 => ?_) (fun hg3 => ?_)
     ·
      replace h := ite_t hg3 h
      refine sR <| oM rfl rfl <| oA rfl rfl <| oA rfl rfl <| nT <| CJ_ret <| QJ_then_ret <| QJ_block_ret <| QJ_then_ret <| QJ_round_ret <| QJ_block_ret <| QJ_then_ret ?_
      have hE := Option.some.inj h
      replace hE := seq_inr hK10 hE.symm
      subst hE
      exact fE (res2 Tryz.results44 rfl rfl) () eR
     ·
      replace h := ite_f hg3 h
      refine kT <| CJ_entX (Ent.transX (t0_ eR) (OwnP_open (l := r28.2))) fun oc30 => lC del5 fun hlen32 => lC del6 fun hlen33 => CJ_region <| oM rfl rfl <| oP (P_nilCheck rfl) rfl <| oP (P_fieldAddr rfl ⟨_, _, _, Tryz.runUnderlying37, rfl, rfl, Tryz.sizeOf33, rfl⟩) rfl <| oV (V_load rfl foc0 rfl Tryz.isAgg33) rfl <| oM rfl rfl <| oM rfl rfl ?_
      rcases opt_e h with ⟨ht34, h⟩ | ⟨o35, ht34, h⟩
      ·
       rw [ht34]
       exact RJ_ent (t0_ (t0_ (t0_ (t1_ (t1_ (t1_ (t1_ (eD eR)))))))) <| none_e h
      ·
       rw [ht34]
       refine RJ_ent (Ent.takeC (A' := VolP bs oc30.2.2.1 o35) del3 rfl eR) ?_
       obtain ⟨r36, hr37, h⟩ := bind_e h
       exact oO <| O_callI rfl (ICall.of (fun w => by kernel_rfl) Tryz.call32 (L_parityvol_Volume_Write hr37)) rfl (Dels.cons del0 (Dels.cons del6 Dels.nil)) rfl fun _ _ => oA rfl rfl <| RJ_nil <| QJ_ent (Ent.trans (t2_ (t2_ (t2_ (t0_ (t1_ (t1_ (t1_ eR))))))) (OwnP_mk (v0 := r28.2.Open_1) (v1 := (some r36.2.1)) (v2 := r28.2.T) (v3 := r28.2.Stale) (v4 := r28.2.Lost) (h0 := oc30.1) (h1 := oc30.2.1) (h2 := oc30.2.2.1) (h3 := oc30.2.2.2.1) (h4 := oc30.2.2.2.2.1) (h5 := oc30.2.2.2.2.2))) <| QJ_block_normal <| QJ_then <| CJ_region <| oM rfl rfl <| oP (PJ_eq (P_add (a := ((x19 : Nat) : Int)) (b := (1 : Int)) rfl rfl (by omega)) rfl) rfl <| oA rfl rfl <| RJ_nil <| nR ⟨n, { r28.2 with X := (some r36.2.1) }, r36.2.2, r36.1, (x19 + 1)⟩ h ⟨rfl, rfl, True.intro⟩ eR
    ·
     replace h := ite_f hg1 h
     exact CJ_exit <| QJ_then_exit <| QJ_round_exit <| QJ_block_here <| cR (x18, x16, x17) (Option.some.inj h).symm ⟨rfl, True.intro⟩ eR
  ·
   rintro a15 hy38
   replace h := seq_inl hK10 hy38
   show CJ _ _ _ _ _ (([(8, .int .i64 a15.1)] : Slots) ++ forget _ _) (OwnP bs bo a15.2.1 :: Arr bs a15.2.2 :: _)
   refine CJ_seq <| CJ_entX (Ent.transX (t0_ eR) (OwnP_open (l := a15.2.1))) fun oc39 => lC del5 fun hlen41 => lC del6 fun hlen42 => CJ_region <| oM rfl rfl <| oP (P_nilCheck rfl) rfl <| oP (P_fieldAddr rfl ⟨_, _, _, Tryz.runUnderlying37, rfl, rfl, Tryz.sizeOf34, rfl⟩) rfl <| oV (V_load rfl foc0 rfl Tryz.isAgg34) rfl <| oM rfl rfl <| oM rfl rfl <| oM rfl rfl <| oP (P_eql (a := a15.1) (b := (0 : Int)) rfl rfl) rfl ?_
   obtain ⟨hg4, h⟩ := grd_de h
   refine oO <| O_call (c_Wrote (smallT_at hg4) (v := v)) rfl Tryz.call96 (Dels.cons del4 Dels.nil) rfl fun _ _ => RJ_nil <| QJ_ent (Ent.trans (t1_ (t1_ (t1_ (t1_ eR)))) (OwnP_mk (v0 := a15.2.1.Open_1) (v1 := a15.2.1.X) (v2 := (wroteT a15.2.1.T at_1 v ((decide (a15.1 = (0 : Int)))))) (v3 := a15.2.1.Stale) (v4 := a15.2.1.Lost) (h0 := oc39.1) (h1 := oc39.2.1) (h2 := oc39.2.2.1) (h3 := oc39.2.2.2.1) (h4 := oc39.2.2.2.2.1) (h5 := oc39.2.2.2.2.2))) <| QJ_then <| sR <| oM rfl rfl <| oM rfl rfl <| oP (P_eql (a := a15.1) (b := (0 : Int)) rfl rfl) rfl <| oM rfl rfl <| RJ_mbF rfl rfl rfl (fun hG43 => have hP44 : ¬ (a15.1 = (0 : Int)) := nP (bT_dec) hG43; VJ_P (P_move rfl)) <| RJ_mbF rfl rfl rfl (fun hG45 => have hP46 : ¬ (a15.1 = (0 : Int)) := nP (bT_dec) hG45; VJ_P (P_eql (a := a15.1) (b := (5 : Int)) (mbx hG45 rfl) rfl)) <| oP (P_pickOr rfl rfl (fun hh => mbx (not_f hh) rfl)) rfl <| oA rfl rfl <| oA rfl rfl <| nT <| CJ_ret ?_
   cases h
   exact fE (res2 Tryz.results44 rfl rfl) () eR
def volumegroupmake_Owner_Flush_l1_b (rec : OwnS → ArrS → Int → Nat → Option ((Int × OwnS × ArrS) ⊕ (Int × Bool × OwnS × ArrS))) (x16 : OwnS) (x17 : ArrS) (x18 : Int) (x19 : Nat) : Option ((Int × OwnS × ArrS) ⊕ (Int × Bool × OwnS × ArrS)) :=
  if ((((x19 : Nat) : Int) < (8 : Int)) ∧ (x18 = (18 : Int))) then
    Option.bind (volumegroupmake_Owner_drop x16 x17) fun r24 =>
    if (¬ r24.1 = true) then
      some (.inr (x18, false, r24.2, x17))
    else
      Option.elim r24.2.X (
        none) fun o31 =>
      Option.bind (parityvol_Volume_Flush o31 x17) fun r32 =>
      rec ({ r24.2 with X := (some r32.2.1) }) r32.2.2 r32.1 (x19 + 1)
  else
    some (.inl (x18, x16, x17))
def volumegroupmake_Owner_Flush_l1 : Nat → OwnS → ArrS → Int → Nat → Option ((Int × OwnS × ArrS) ⊕ (Int × Bool × OwnS × ArrS))
  | 0, _, _, _, _ => none
  | n + 1, x16, x17, x18, x19 => volumegroupmake_Owner_Flush_l1_b (volumegroupmake_Owner_Flush_l1 n) x16 x17 x18 x19
def volumegroupmake_Owner_Flush (o : OwnS) (s : ArrS) : Option (Int × Bool × OwnS × ArrS) :=
  Option.elim o.X (
    none) fun o6 =>
  Option.bind (parityvol_Volume_Flush o6 s) fun r7 =>
  seqO (volumegroupmake_Owner_Flush_l1 FUEL ({ o with X := (some r7.2.1) }) r7.2.2 r7.1 0) fun a15 =>
  if (a15.1 = (0 : Int)) then
    some ((a15.1, ((decide (a15.1 = (0 : Int))) || (decide (a15.1 = (5 : Int)))), { a15.2.1 with T := (flushedT a15.2.1.T) }, a15.2.2))
  else
    some ((a15.1, ((decide (a15.1 = (0 : Int))) || (decide (a15.1 = (5 : Int)))), a15.2.1, a15.2.2))
theorem L_volumegroupmake_Owner_Flush {W : World} {bo : Nat} {bs : Nat} {o : OwnS} {s : ArrS} {r : Int × Bool × OwnS × ArrS} (h : volumegroupmake_Owner_Flush o s = some r) :
    CSpec Tryz.prog W 15 [ptr bo 0] [OwnP bs bo o, Arr bs s] (fun x : Unit => .tuple #[.int .i64 r.1, .bool r.2.1]) (fun _ => True) (fun x F => OwnP bs bo r.2.2.1 :: Arr bs r.2.2.2 :: F) := by
 refine CSpec.of_body Tryz.func15 rfl Tryz.ntmps15 rfl fun F => ?_
 show CJ _ _ _ _ _ _ (_ :: _ :: F)
 unfold volumegroupmake_Owner_Flush at h
 refine sR <| oA rfl rfl <| oA rfl rfl <| nT <| CJ_seq <| CJ_entX (Ent.transX (t0_ eR) (OwnP_open (l := o))) fun oc1 => lC del5 fun hlen3 => lC del6 fun hlen4 => CJ_region <| oM rfl rfl <| oP (P_nilCheck rfl) rfl <| oP (P_fieldAddr rfl ⟨_, _, _, Tryz.runUnderlying37, rfl, rfl, Tryz.sizeOf33, rfl⟩) rfl <| oV (V_load rfl foc0 rfl Tryz.isAgg33) rfl ?_
 rcases opt_e h with ⟨ht5, h⟩ | ⟨o6, ht5, h⟩
 ·
  rw [ht5]
  exact RJ_ent (t0_ (t0_ (t0_ (t1_ (t1_ (t1_ (t1_ (eD eR)))))))) <| none_e h
 ·
  rw [ht5]
  refine RJ_ent (Ent.takeC (A' := VolP bs oc1.2.2.1 o6) del3 rfl eR) ?_
  obtain ⟨r7, hr8, h⟩ := bind_e h
  refine oO <| O_callI rfl (ICall.of (fun w => by kernel_rfl) Tryz.call43 (L_parityvol_Volume_Flush hr8)) rfl (Dels.cons del0 (Dels.cons del6 Dels.nil)) rfl fun _ _ => oA rfl rfl <| RJ_nil <| QJ_ent (Ent.trans (t2_ (t2_ (t2_ (t0_ (t1_ (t1_ (t1_ eR))))))) (OwnP_mk (v0 := o.Open_1) (v1 := (some r7.2.1)) (v2 := o.T) (v3 := o.Stale) (v4 := o.Lost) (h0 := oc1.1) (h1 := oc1.2.1) (h2 := oc1.2.2.1) (h3 := oc1.2.2.2.1) (h4 := oc1.2.2.2.2.1) (h5 := oc1.2.2.2.2.2))) <| QJ_then <| CJ_seq <| sR <| oA rfl rfl <| nT ?_
  obtain ⟨y11, hl9, hK10⟩ := seq_e h
  refine CJ_cutT (X := Int × OwnS × ArrS) [2, 3, 4, 5, 11, 12, 13, 14, 15, 16, 17, 18, 19, 20, 21, 22, 23, 24, 25, 26, 27] (fun a15 => ([(4, .int .i64 a15.1)] : Slots)) (fun a15 R => OwnP bs bo a15.2.1 :: Arr bs a15.2.2 :: R) (fun a15 => y11 = .inl a15) (Dels.cons del0 (Dels.cons del0 Dels.nil)) ?_ ?_
  ·
   refine CJ_block <| CJ_loopR (X := Nat × OwnS × ArrS × Int × Nat) [2, 3, 4, 5, 11, 12, 13, 14, 15, 16, 17, 18, 19, 20, 21, 22, 23, 24, 25, 26, 27] (fun ⟨n, x16, x17, x18, x19⟩ => ([(4, .int .i64 x18), (5, .int .i64 (((x19 : Nat) : Int)))] : Slots)) (fun ⟨n, x16, x17, x18, x19⟩ R => OwnP bs bo x16 :: Arr bs x17 :: R) (fun ⟨n, x16, x17, x18, x19⟩ => volumegroupmake_Owner_Flush_l1 n x16 x17 x18 x19 = some y11) (fun ⟨n, x16, x17, x18, x19⟩ => n) ⟨FUEL, { o with X := (some r7.2.1) }, r7.2.2, r7.1, 0⟩ ?_ ?_ eR ?_
   · exact hl9
   · exact ⟨rfl, rfl, True.intro⟩
   ·
    rintro ⟨n, x16, x17, x18, x19⟩ h
    cases n with
    | zero => exact none_e h
    | succ n => ?_
    replace h : volumegroupmake_Owner_Flush_l1_b (volumegroupmake_Owner_Flush_l1 n) x16 x17 x18 x19 = some y11 := h
    unfold volumegroupmake_Owner_Flush_l1_b at h
    show CJ _ _ _ _ _ (([(4, .int .i64 x18), (5, .int .i64 (((x19 : Nat) : Int)))] : Slots) ++ forget _ _) (OwnP bs bo x16 :: Arr bs x17 :: _)
    refine CJ_seq <| sR <| oM rfl rfl <| oP (P_lss (a := ((x19 : Nat) : Int)) (b := (8 : Int)) rfl rfl) rfl <| oM rfl rfl <| RJ_mbT rfl rfl rfl (fun hG20 => have hP21 : (((x19 : Nat) : Int) < (8 : Int)) := (bT_dec).1 hG20; VJ_P (P_move rfl)) <| RJ_mbT rfl rfl rfl (fun hG22 => have hP23 : (((x19 : Nat) : Int) < (8 : Int)) := (bT_dec).1 hG22; VJ_P (P_eql (a := x18) (b := (18 : Int)) (mbx hG22 rfl) rfl)) <| oP (P_pickAnd rfl (fun hh => mbx hh rfl) rfl) rfl <| nT <| CJ_condP rfl (bT_and bT_dec bT_dec) (fun hg1 => ?_) (fun hg1 => ?_)
    ·
     replace h := ite_t hg1 h
     refine kT <| CJ_seq <| CJ_block <| CJ_seq <| sR <| oM rfl rfl ?_
     obtain ⟨r24, hr25, h⟩ := bind_e h
     refine oO <| O_call (L_volumegroupmake_Owner_drop hr25) rfl Tryz.call50 (Dels.cons del0 (Dels.cons del0 Dels.nil)) rfl fun _ _ => oP (P_not rfl) rfl <| nT <| CJ_condP rfl (bT_not Iff.rfl) (fun hg2 => ?_) (fun hg2 => ?_)
     ·
      replace h := ite_t hg2 h
      refine sR <| oM rfl rfl <| oA rfl rfl <| oA rfl rfl <| nT <| CJ_ret <| QJ_then_ret <| QJ_block_ret <| QJ_then_ret <| QJ_round_ret <| QJ_block_ret <| QJ_then_ret ?_
      have hE := Option.some.inj h
      replace hE := seq_inr hK10 hE.symm
      subst hE
      exact fE (res2 Tryz.results15 rfl rfl) () eR
     ·
      replace h := ite_f hg2 h
      refine kT <| CJ_entX (Ent.transX (t0_ eR) (OwnP_open (l := r24.2))) fun oc26 => lC del5 fun hlen28 => lC del6 fun hlen29 => CJ_region <| oM rfl rfl <| oP (P_nilCheck rfl) rfl <| oP (P_fieldAddr rfl ⟨_, _, _, Tryz.runUnderlying37, rfl, rfl, Tryz.sizeOf33, rfl⟩) rfl <| oV (V_load rfl foc0 rfl Tryz.isAgg33) rfl ?_
      rcases opt_e h with ⟨ht30, h⟩ | ⟨o31, ht30, h⟩
      ·
       rw [ht30]
       exact RJ_ent (t0_ (t0_ (t0_ (t1_ (t1_ (t1_ (t1_ (eD eR)))))))) <| none_e h
      ·
       rw [ht30]
       refine RJ_ent (Ent.takeC (A' := VolP bs oc26.2.2.1 o31) del3 rfl eR) ?_
       obtain ⟨r32, hr33, h⟩ := bind_e h
       exact oO <| O_callI rfl (ICall.of (fun w => by kernel_rfl) Tryz.call43 (L_parityvol_Volume_Flush hr33)) rfl (Dels.cons del0 (Dels.cons del6 Dels.nil)) rfl fun _ _ => oA rfl rfl <| RJ_nil <| QJ_ent (Ent.trans (t2_ (t2_ (t2_ (t0_ (t1_ (t1_ (t1_ eR))))))) (OwnP_mk (v0 := r24.2.Open_1) (v1 := (some r32.2.1)) (v2 := r24.2.T) (v3 := r24.2.Stale) (v4 := r24.2.Lost) (h0 := oc26.1) (h1 := oc26.2.1) (h2 := oc26.2.2.1) (h3 := oc26.2.2.2.1) (h4 := oc26.2.2.2.2.1) (h5 := oc26.2.2.2.2.2))) <| QJ_block_normal <| QJ_then <| CJ_region <| oM rfl rfl <| oP (PJ_eq (P_add (a := ((x19 : Nat) : Int)) (b := (1 : Int)) rfl rfl (by omega)) rfl) rfl <| oA rfl rfl <| RJ_nil <| nR ⟨n, { r24.2 with X := (some r32.2.1) }, r32.2.2, r32.1, (x19 + 1)⟩ h ⟨rfl, rfl, True.intro⟩ eR
    ·
     replace h := ite_f hg1 h
     exact CJ_exit <| QJ_then_exit <| QJ_round_exit <| QJ_block_here <| cR (x18, x16, x17) (Option.some.inj h).symm ⟨rfl, True.intro⟩ eR
  ·
   rintro a15 hy34
   replace h := seq_inl hK10 hy34
   show CJ _ _ _ _ _ (([(4, .int .i64 a15.1)] : Slots) ++ forget _ _) (OwnP bs bo a15.2.1 :: Arr bs a15.2.2 :: _)
   refine CJ_seq <| sR <| oM rfl rfl <| oP (P_eql (a := a15.1) (b := (0 : Int)) rfl rfl) rfl <| nT <| CJ_condP rfl bT_dec (fun hg3 => ?_) (fun hg3 => ?_)
   ·
    replace h := ite_t hg3 h
    refine CJ_entX (Ent.transX (t0_ eR) (OwnP_open (l := a15.2.1))) fun oc35 => lC del5 fun hlen37 => lC del6 fun hlen38 => CJ_region <| oM rfl rfl <| oP (P_nilCheck rfl) rfl <| oP (P_fieldAddr rfl ⟨_, _, _, Tryz.runUnderlying37, rfl, rfl, Tryz.sizeOf34, rfl⟩) rfl <| oV (V_load rfl foc0 rfl Tryz.isAgg34) rfl <| oO <| O_call (c_Flushed) rfl Tryz.call51 (Dels.cons del4 Dels.nil) rfl fun _ _ => RJ_nil <| QJ_ent (Ent.trans (t1_ (t1_ (t1_ (t1_ eR)))) (OwnP_mk (v0 := a15.2.1.Open_1) (v1 := a15.2.1.X) (v2 := (flushedT a15.2.1.T)) (v3 := a15.2.1.Stale) (v4 := a15.2.1.Lost) (h0 := oc35.1) (h1 := oc35.2.1) (h2 := oc35.2.2.1) (h3 := oc35.2.2.2.1) (h4 := oc35.2.2.2.2.1) (h5 := oc35.2.2.2.2.2))) <| QJ_then <| sR <| oM rfl rfl <| oM rfl rfl <| oP (P_eql (a := a15.1) (b := (0 : Int)) rfl rfl) rfl <| oM rfl rfl <| RJ_mbF rfl rfl rfl (fun hG39 => have hP40 : ¬ (a15.1 = (0 : Int)) := nP (bT_dec) hG39; VJ_P (P_move rfl)) <| RJ_mbF rfl rfl rfl (fun hG41 => have hP42 : ¬ (a15.1 = (0 : Int)) := nP (bT_dec) hG41; VJ_P (P_eql (a := a15.1) (b := (5 : Int)) (mbx hG41 rfl) rfl)) <| oP (P_pickOr rfl rfl (fun hh => mbx (not_f hh) rfl)) rfl <| oA rfl rfl <| oA rfl rfl <| nT <| CJ_ret ?_
    cases h
    exact fE (res2 Tryz.results15 rfl rfl) () eR
   ·
    replace h := ite_f hg3 h
    refine kT <| sR <| oM rfl rfl <| oM rfl rfl <| oP (P_eql (a := a15.1) (b := (0 : Int)) rfl rfl) rfl <| oM rfl rfl <| RJ_mbF rfl rfl rfl (fun hG43 => have hP44 : ¬ (a15.1 = (0 : Int)) := nP (bT_dec) hG43; VJ_P (P_move rfl)) <| RJ_mbF rfl rfl rfl (fun hG45 => have hP46 : ¬ (a15.1 = (0 : Int)) := nP (bT_dec) hG45; VJ_P (P_eql (a := a15.1) (b := (5 : Int)) (mbx hG45 rfl) rfl)) <| oP (P_pickOr rfl rfl (fun hh => mbx (not_f hh) rfl)) rfl <| oA rfl rfl <| oA rfl rfl <| nT <| CJ_ret ?_
    cases h
    exact fE (res2 Tryz.results15 rfl rfl) () eR
end Go.Proofs
namespace Go.Proofs
open Go.VG
end Go.Proofs
namespace Go.Proofs
open Go.VG
def stL : Option Nat → List Int
  | none => []
  | some k => [(k : Int)]
section
variable {C : PC} {V V' : Nat → Nat → UInt64} {st fl z : Option Nat} {q q' : UInt64} {e e' : PE} {k i d f o a : Nat} {mz : Nat → Bool} {F : Prop} {K K' : Nat} {s t u : ArrS}
theorem fuelS2 : ∃ N, FUEL = N + 1 + 1 := ⟨FUEL - 2, by have := fuel_big; omega⟩
theorem pcontains_eq {i : Nat} : slices_Contains_int (stL st) (i : Int) = some (decide (st = some i)) := by
  obtain ⟨N, hN⟩ := fuelS2
  unfold slices_Contains_int slices_Index_int
  rw [hN]
  cases st with
  | none =>
    show Option.bind (seqO (slices_Index_int_l1_b [] (i : Int) _ 0) _) _ = _
    unfold slices_Index_int_l1_b
    rw [if_neg (by simp)]; rfl
  | some k =>
    show Option.bind (seqO (slices_Index_int_l1_b [(k : Int)] (i : Int) _ 0) _) _ = _
    unfold slices_Index_int_l1_b
    rw [if_pos (by simp)]
    by_cases h : i = k
    · subst h
      rw [if_pos (show (i : Int) = [(i : Int)].getD 0 0 from rfl), seqO_inr]
      simp
    · rw [if_neg (show ¬ (i : Int) = [(k : Int)].getD 0 0 from fun y => h (Int.ofNat.inj y))]
      show Option.bind (seqO (slices_Index_int_l1_b [(k : Int)] (i : Int) _ 1) _) _ = _
      unfold slices_Index_int_l1_b
      rw [if_neg (by simp), seqO_inl, decide_eq_false (fun y => h (Option.some.inj y).symm)]; rfl
theorem pcontainsF {legs : List Dvc} (hl : legs.length = C.L) (hst : ∀ j, st = some j → j < C.L) : slices_ContainsFunc_int__parityvol_Open_1 (stL st) legs s = some false := by
  obtain ⟨N, hN⟩ := fuelS2
  unfold slices_ContainsFunc_int__parityvol_Open_1 slices_IndexFunc_int__parityvol_Open_1
  rw [hN]
  cases st with
  | none =>
    show Option.bind (seqO (slices_IndexFunc_int__parityvol_Open_1_l1_b [] legs s _ 0) _) _ = _
    unfold slices_IndexFunc_int__parityvol_Open_1_l1_b
    rw [if_neg (by simp)]; rfl
  | some k =>
    have hk := hst k rfl
    show Option.bind (seqO (slices_IndexFunc_int__parityvol_Open_1_l1_b [(k : Int)] legs s _ 0) _) _ = _
    unfold slices_IndexFunc_int__parityvol_Open_1_l1_b parityvol_Open_1
    rw [if_pos (by simp)]; simp only [Option.bind_some]
    rw [if_neg (by rw [hl]; simp [List.getD]; omega)]
    show Option.bind (seqO (slices_IndexFunc_int__parityvol_Open_1_l1_b [(k : Int)] legs s _ 1) _) _ = _
    unfold slices_IndexFunc_int__parityvol_Open_1_l1_b
    rw [if_neg (by simp)]; rfl
theorem pmax_eq {k : Int} : slices_Max_int [k] = some k ∧ slices_Min_int [k] = some k := by
  obtain ⟨N, hN⟩ := fuelS2
  constructor
  · unfold slices_Max_int
    rw [hN, if_neg (by simp)]; simp only [Option.bind_some]
    rw [grd_t (by simp)]
    show Option.bind (slices_Max_int_l2_b [k] _ _ 1) _ = _
    unfold slices_Max_int_l2_b
    rw [if_neg (by simp)]; rfl
  · unfold slices_Min_int
    rw [hN, if_neg (by simp)]; simp only [Option.bind_some]
    rw [grd_t (by simp)]
    show Option.bind (slices_Min_int_l2_b [k] _ _ 1) _ = _
    unfold slices_Min_int_l2_b
    rw [if_neg (by simp)]; rfl
theorem pspans (hok : ArrOk C.ns K s) : volumegroupmake_Spans s = some (spansA s) ∧ (spansA s).length = C.L ∧ ∀ i, i < C.L → (spansA s).getD i dv0 = xL i C.sz := by
  have hL := C.hL
  have hz := @PC.hsz C
  have hcnt : s.drv.length = C.L := by rw [hok.sz.cnt, PC.len]
  have hsize : ∀ i, i < C.L → s.size i = C.sz := fun i hi => by rw [hok.sz.size i (by rw [PC.len]; exact hi), PC.nsz hi]
  exact ⟨spans_eq (by omega) (fun i hi => by rw [hsize i (by omega)]; omega), by rw [spansA_length, hcnt], fun i hi => by rw [spansA_getD (by omega), hsize i hi]; rfl⟩
theorem nlay_l1 {legs : List Dvc} (hl : legs.length = C.L) (hx : ∀ i, i < C.L → legs.getD i dv0 = xL i C.sz) : ∀ (N i : Nat), C.L - i < N → i ≤ C.L → parityvol_newLayout_l1 legs s N i (C.sz : Int) = some (C.sz : Int)
  | 0, _, h, _ => absurd h (by omega)
  | N + 1, i, h, hi => by
    have hu : parityvol_newLayout_l1 legs s (N + 1) i (C.sz : Int) = parityvol_newLayout_l1_b legs s (parityvol_newLayout_l1 legs s N) i (C.sz : Int) := rfl
    rw [hu]
    unfold parityvol_newLayout_l1_b
    rw [hl]
    by_cases hlt : i < C.L
    · rw [if_pos (by omega), hx i hlt, show (xL i C.sz).size s = some (C.sz : Int) from span_size]; simp only [Option.bind_some]
      rw [show min (C.sz : Int) (C.sz : Int) = (C.sz : Int) by omega]
      exact nlay_l1 hl hx N (i + 1) (by omega) (by omega)
    · rw [if_neg (by omega)]
theorem nlay_eq {legs : List Dvc} (hl : legs.length = C.L) (hx : ∀ i, i < C.L → legs.getD i dv0 = xL i C.sz) : parityvol_newLayout legs (C.c : Int) s = some ((⟨(C.L : Int), (C.c : Int), (C.R : Int)⟩ : parityvol_layout), 0) := by
  have hF := fuel_big
  have hL := C.hL
  have hc := C.hc
  have hO := @PC.hO C
  have hR := C.hR
  have hsz : C.sz = 16 + C.O := rfl
  have hcO : C.c ≤ C.O := by unfold PC.O; exact Nat.le_mul_of_pos_left _ (by omega)
  unfold parityvol_newLayout
  rw [hl, if_neg (by omega), hx 0 (by omega), show (xL 0 C.sz).size s = some (C.sz : Int) from span_size]; simp only [Option.bind_some]
  rw [nlay_l1 hl hx FUEL 0 (by omega) (by omega)]; simp only [Option.bind_some]
  have e1 : (C.sz : Int) - 16 = (C.O : Int) := by omega
  have e2 : C.O / C.c = C.R := by unfold PC.O; exact Nat.mul_div_cancel _ (by omega)
  rw [if_neg (by omega), e1, grd_t (inI64_of (by omega)), tdivN, e2, wrapN (by omega)]
def opnB (legs : List Dvc) (stale : List Int) (rec : VolS → Nat → Option (VolS)) (x24 : VolS) (x25 : Nat) : Option (VolS) :=
  if (((x25 : Nat) : Int) < ((legs.length : Nat) : Int)) then
    Option.bind (slices_Contains_int stale (((x25 : Nat) : Int))) fun r31 =>
    grd (inLen (x24.legs.length + 1)) <|
    rec ({ x24 with legs := (x24.legs ++ [(⟨(legs.getD x25 dv0), r31, false⟩ : prtS)]) }) (x25 + 1)
  else
    some x24
theorem opn_rule {g : Nat → VolS → Nat → Option VolS} {legs : List Dvc} (hg : ∀ n v i, g (n + 1) v i = opnB legs (stL st) (g n) v i) (hl : legs.length = C.L) (hx : ∀ i, i < C.L → legs.getD i dv0 = xL i C.sz) (v0 : VolS) : ∀ (N i : Nat), C.L - i < N → i ≤ C.L →
    g N { v0 with legs := (List.range i).map (legP C st none) } i = some { v0 with legs := legsP C st none }
  | 0, _, h, _ => absurd h (by omega)
  | N + 1, i, h, hi => by
    have hL := C.hL
    rw [hg]
    unfold opnB
    rw [hl]
    by_cases hlt : i < C.L
    · rw [if_pos (by omega), pcontains_eq]; simp only [Option.bind_some]
      rw [grd_t (inLen_of (by simp; omega)), hx i hlt]
      have hr := opn_rule hg hl hx v0 N (i + 1) (by omega) (by omega)
      rw [List.range_succ, List.map_append] at hr
      exact hr
    · rw [if_neg (by omega)]
      have : i = C.L := by omega
      rw [this]; rfl
theorem pOpen0 (h2 : (spansA s).length = C.L) (h3 : ∀ i, i < C.L → (spansA s).getD i dv0 = xL i C.sz) (hst : ∀ j, st = some j → j < C.L) {m : VolS} {er : Int} {t : ArrS} (hr : parityvol_Volume_replay (vol C st none 0 ⟨0, 0, 0, 0⟩ false 0) s = some (er, m, t)) : parityvol_Open (spansA s) (stL st) (C.c : Int) s = some (if er ≠ 0 then (none, er, t) else (some m, 0, t)) := by
  have hF := fuel_big
  have hL := C.hL
  unfold parityvol_Open
  rw [nlay_eq h2 h3]; simp only [Option.bind_some]
  rw [if_neg (by simp), pcontainsF h2 hst]; simp only [Option.bind_some]
  rw [if_neg (by simp)]
  have hv : ({ (⟨(C.L : Int), (C.c : Int), (C.R : Int), ([] : List prtS), (0 : UInt64), (0 : Int), (0 : Int), (0 : UInt64), (0 : UInt64), false, (0 : Int)⟩ : VolS) with legs := legsP C st none } : VolS) = vol C st none 0 ⟨0, 0, 0, 0⟩ false 0 := rfl
  cases hs : st with
  | none =>
    rw [hs] at hr hv
    rw [if_neg (by simp [stL])]
    have ho := opn_rule (C := C) (st := none) (g := parityvol_Open_l2 (spansA s) (stL none)) (fun _ _ _ => rfl) h2 h3 ⟨(C.L : Int), (C.c : Int), (C.R : Int), ([] : List prtS), (0 : UInt64), (0 : Int), (0 : Int), (0 : UInt64), (0 : UInt64), false, (0 : Int)⟩ FUEL 0 (by omega) (by omega)
    rw [hv] at ho
    rw [show parityvol_Open_l2 (spansA s) (stL none) FUEL ⟨(C.L : Int), (C.c : Int), (C.R : Int), ([] : List prtS), (0 : UInt64), (0 : Int), (0 : Int), (0 : UInt64), (0 : UInt64), false, (0 : Int)⟩ 0 = some (vol C none none 0 ⟨0, 0, 0, 0⟩ false 0) from ho]; simp only [Option.bind_some]
    rw [hr]; simp only [Option.bind_some]
    by_cases h0 : er = 0
    · rw [if_neg (fun y => y h0), if_neg (fun y => y h0)]
    · rw [if_pos h0, if_pos h0]
  | some k =>
    rw [hs] at hr hv
    rw [if_pos (by simp [stL]), show stL (some k) = [(k : Int)] from rfl, pmax_eq.1]; simp only [Option.bind_some]
    rw [pmax_eq.2]; simp only [Option.bind_some]
    rw [if_neg (fun y => y rfl)]
    have ho := opn_rule (C := C) (st := some k) (g := parityvol_Open_l1 (spansA s) (stL (some k))) (fun _ _ _ => rfl) h2 h3 ⟨(C.L : Int), (C.c : Int), (C.R : Int), ([] : List prtS), (0 : UInt64), (0 : Int), (0 : Int), (0 : UInt64), (0 : UInt64), false, (0 : Int)⟩ FUEL 0 (by omega) (by omega)
    rw [hv] at ho
    rw [show parityvol_Open_l1 (spansA s) [(k : Int)] FUEL ⟨(C.L : Int), (C.c : Int), (C.R : Int), ([] : List prtS), (0 : UInt64), (0 : Int), (0 : Int), (0 : UInt64), (0 : UInt64), false, (0 : Int)⟩ 0 = some (vol C (some k) none 0 ⟨0, 0, 0, 0⟩ false 0) from ho]; simp only [Option.bind_some]
    rw [hr]; simp only [Option.bind_some]
    by_cases h0 : er = 0
    · rw [if_neg (fun y => y h0), if_neg (fun y => y h0)]
    · rw [if_pos h0, if_pos h0]
theorem pOpen_eq (he : PEn C mz False K s) (hK : K ≤ 500000) (hst : ∀ j, st = some j → j < C.L) (hrc : Rc C st V q e s) (hj : JW C V q e) :
    (∃ e1 t, parityvol_Open (spansA s) (stL st) (C.c : Int) s = some (some (vol C st none q e1 false 0), 0, t) ∧ PEn C mz False (K + 18) t ∧ Qs C st V q e1 t ∧ JW C V q e1) ∨
    (∃ j, j < C.L ∧ mz j = true ∧ st ≠ some j ∧ parityvol_Open (spansA s) (stL st) (C.c : Int) s = some (none, 18, s)) := by
  obtain ⟨-, h2, h3⟩ := pspans he.ok
  rcases replay_eq he hK hrc hj with ⟨e1, t, g1, g2, g3, g4⟩ | ⟨j, m, j1, j2, j3, g1⟩
  · refine .inl ⟨e1, t, ?_, g2, g3, g4⟩
    rw [pOpen0 h2 h3 hst g1, if_neg (fun y => y rfl)]
  · refine .inr ⟨j, j1, j2, j3, ?_⟩
    rw [pOpen0 h2 h3 hst g1, if_pos (by decide)]
theorem popen_eq (he : PEn C mz False K s) (hK : K ≤ 500000) (hst : ∀ j, st = some j → j < C.L) (hrc : Rc C st V q e s) (hj : JW C V q e) :
    (∃ e1 t, volumegrouplaw19_open_1 (stL st) s (C.c : Int) = some (some (vol C st none q e1 false 0), 0, t) ∧ PEn C mz False (K + 18) t ∧ Qs C st V q e1 t ∧ JW C V q e1) ∨
    (∃ j, j < C.L ∧ mz j = true ∧ st ≠ some j ∧ volumegrouplaw19_open_1 (stL st) s (C.c : Int) = some (none, 18, s)) := by
  have hF := fuel_big
  have hL := C.hL
  obtain ⟨h1, h2, h3⟩ := pspans he.ok
  unfold volumegrouplaw19_open_1
  rw [h1]; simp only [Option.bind_some]
  have key : ∀ {x : Option VolS × Int × ArrS}, parityvol_Open (spansA s) (stL st) (C.c : Int) s = some x → (Option.bind (parityvol_Open (spansA s) (stL st) (C.c : Int) s) fun r8 => Option.elim r8.1 (if (r8.2.1 = (0 : Int)) then some ((none, (20 : Int), r8.2.2)) else some (none, r8.2.1, r8.2.2)) fun o13 => some (((some o13), r8.2.1, r8.2.2))) = Option.elim x.1 (if (x.2.1 = (0 : Int)) then some ((none, (20 : Int), x.2.2)) else some (none, x.2.1, x.2.2)) fun o13 => some (((some o13), x.2.1, x.2.2)) := fun hx => by rw [hx]; rfl
  rcases pOpen_eq he hK hst hrc hj with ⟨e1, t, g1, g2, g3, g4⟩ | ⟨j, j1, j2, j3, g1⟩
  · rw [key g1]
    exact .inl ⟨e1, t, rfl, g2, g3, g4⟩
  · rw [key g1]
    exact .inr ⟨j, j1, j2, j3, by simp⟩
structure OwI (C : PC) (st z : Option Nat) (mz : Nat → Bool) (o : OwnS) : Prop where
  o1 : o.Open_1 = (C.c : Int)
  stl : o.Stale = stL st
  lost : o.Lost = stL z
  mzz : ∀ i, mz i = true → z = some i
  sz : st = none ∨ st = z
  zl : ∀ j, z = some j → j < C.L
theorem OwI.stl' {x : OwnS} (h : OwI C st z mz x) : ∀ j, st = some j → j < C.L := fun j hj => h.zl j (by rcases h.sz with y | y; rw [y] at hj; cases hj; rw [← y]; exact hj)
theorem OwI.one {x : OwnS} (h : OwI C st z mz x) : ∀ i j, mz i = true → mz j = true → i = j := fun i j hi hj => by
  have a := h.mzz i hi
  rw [h.mzz j hj] at a
  exact (Option.some.inj a).symm
theorem addL_nil {k : Nat} : volumegroupmake_add [] (k : Int) = some [(k : Int)] := by
  obtain ⟨N, hN⟩ := fuelS2
  unfold volumegroupmake_add
  rw [hN]
  show Option.bind (volumegroupmake_add_l1_b [] _ (k : Int) [] 0) _ = _
  unfold volumegroupmake_add_l1_b
  rw [if_neg (by simp)]; simp only [Option.bind_some]
  rw [if_pos (by omega), grd_t (inLen_of (by simp))]; rfl
theorem begin_eq {o : OwnS} {S : (Nat → Nat → UInt64) → UInt64 → Prop} (he : PEn C mz False K s) (hK : K ≤ 400000) (ho : OwI C st z mz o) (hT : o.T.length = C.D) (hrc : ∀ st', st' = st ∨ st' = z → ∃ V q e, Rc C st' V q e s ∧ JV C V q e ∧ S V q) :
    ∃ st' V q e t, volumegroupmake_Owner_Begin o s = some (true, { o with X := some (vol C st' none q e false 0), Stale := stL st' }, t) ∧ OwI C st' z mz { o with X := some (vol C st' none q e false 0), Stale := stL st' } ∧ PEn C mz False (K + 18) t ∧ JV C V q e ∧ Qs C st' V q e t ∧ S V q ∧ (st' = st ∨ st' = z ∧ ∃ j, z = some j ∧ mz j = true) := by
  have hF := fuel_big
  have hD := @PC.hD C
  obtain ⟨N, hN⟩ : ∃ N, FUEL = N + 1 + 1 + 1 := ⟨FUEL - 3, by omega⟩
  obtain ⟨a1, oX, oT, a4, a5⟩ := o
  have E1 : a1 = (C.c : Int) := ho.o1
  have E2 : a4 = stL st := ho.stl
  have E3 : a5 = stL z := ho.lost
  have hT' : oT.length = C.D := hT
  subst E1 E2 E3
  unfold volumegroupmake_Owner_Begin
  have fin : ∀ {st' : Option Nat} {V : Nat → Nat → UInt64} {q : UInt64} {e : PE} {t : ArrS} {n : Nat} {M : Nat}, (Option.bind (volumegroupmake_Owner_Begin_l1 (M + 1) (⟨(C.c : Int), oX, oT, stL st', stL z⟩ : OwnS) t (some (vol C st' none q e false 0)) 0 n) fun a17 =>
      if (a17.2.1 = (0 : Int)) then
        Option.elim a17.1 (some (false, { a17.2.2.1 with X := none }, a17.2.2.2)) fun o56 =>
        Option.bind (parityvol_Volume_Size o56 a17.2.2.2) fun r57 =>
        some (((decide (r57 = ((a17.2.2.1.T.length : Nat) : Int))), { a17.2.2.1 with X := (some o56) }, a17.2.2.2))
      else
        some (false, { a17.2.2.1 with X := a17.1 }, a17.2.2.2)) = some (true, (⟨(C.c : Int), some (vol C st' none q e false 0), oT, stL st', stL z⟩ : OwnS), t) := by
    intro st' V q e t n M
    show Option.bind (volumegroupmake_Owner_Begin_l1_b _ _ t _ 0 n) _ = _
    unfold volumegroupmake_Owner_Begin_l1_b
    rw [if_neg (fun y => absurd y.2 (by decide))]; simp only [Option.bind_some, Option.elim_some]
    rw [if_pos trivial, psize_eq]; simp only [Option.bind_some]
    rw [hT', decide_eq_true rfl]
  obtain ⟨V, q, e, r1, r2, r3⟩ := hrc st (.inl rfl)
  rcases popen_eq he (by omega) ho.stl' r1 r2.jw with ⟨e1, t, g1, g2, g3, g4⟩ | ⟨j, j1, j2, j3, g1⟩
  · simp only
    rw [g1]; simp only [Option.bind_some]
    rw [hN, fin (V := V)]
    exact ⟨st, V, q, e1, t, rfl, ⟨rfl, rfl, rfl, ho.mzz, ho.sz, ho.zl⟩, g2, ⟨r2.even, g4.ev, g4.sm⟩, g3, r3, .inl rfl⟩
  · have hz := ho.mzz j j2
    have hst : st = none := by
      rcases ho.sz with y | y
      · exact y
      · rw [y] at j3; exact absurd hz j3
    simp only
    rw [g1]; simp only [Option.bind_some]
    rw [hN]
    have e1 : ∀ o, volumegroupmake_Owner_Begin_l1 (N + 1 + 1 + 1) o s none 18 0 = volumegroupmake_Owner_Begin_l1_b (volumegroupmake_Owner_Begin_l1 (N + 1 + 1)) o s none 18 0 := fun _ => rfl
    rw [e1]
    unfold volumegroupmake_Owner_Begin_l1_b
    obtain ⟨V2, q2, e2, s1, s2, s3⟩ := hrc z (.inr rfl)
    subst hst
    subst hz
    simp only
    rw [if_pos ⟨by simp [stL], by first | trivial | rfl⟩, show (stL (some j)).getD 0 0 = (j : Int) from rfl, show stL none = [] from rfl, addL_nil]; simp only [Option.bind_some]
    rcases popen_eq he (by omega) (fun i hi => by cases hi; exact j1) s1 s2.jw with ⟨e3, t, k1, k2, k3, k4⟩ | ⟨i, i1, i2, i3, _⟩
    · rw [show [(j : Int)] = stL (some j) from rfl, k1]; simp only [Option.bind_some]
      rw [fin (V := V2) (st' := some j) (M := N + 1)]
      exact ⟨some j, V2, q2, e3, t, rfl, ⟨rfl, rfl, rfl, ho.mzz, .inr rfl, ho.zl⟩, k2, ⟨s2.even, k4.ev, k4.sm⟩, k3, s3, .inr ⟨rfl, j, rfl, j2⟩⟩
    · exact absurd (ho.mzz i i2) i3
end
end Go.Proofs
namespace Go.Proofs
open Go.VG
theorem secSetP {t : List Sec} {i j : Nat} {y : Sec} (h : i < t.length) : (t.set i y).getD j s0 = if j = i then y else t.getD j s0 := by
  simp only [List.getD, List.getElem?_set]
  by_cases e : i = j
  · subst e; simp [h]
  · rw [if_neg e, if_neg (fun x => e x.symm)]
theorem secMapP {t : List Sec} {g : Sec → Sec} {j : Nat} (h : j < t.length) : (t.map g).getD j s0 = g (t.getD j s0) := by
  simp only [List.getD, List.getElem?_map]; rw [List.getElem?_eq_getElem h]; rfl
theorem wroteP_at {t : List Sec} {a b : Nat} {v : UInt64} {q : Bool} (h : a < t.length) : (wroteT t (a : Int) v q).getD b s0 = if b = a then ⟨(t.getD a s0).some ++ [v], q, v⟩ else t.getD b s0 := by
  rw [wroteT_ok h, secSetP h]
theorem wroteP_len {t : List Sec} {a : Nat} {v : UInt64} {q : Bool} (h : a < t.length) : (wroteT t (a : Int) v q).length = t.length := by rw [wroteT_ok h]; simp
theorem smallP_of {t : List Sec} {n : Nat} (h : ∀ a, a < n → (t.getD a s0).some.length ≤ 100000) (hl : t.length = n) : smallT t = true := by
  unfold smallT
  rw [List.all_eq_true]
  intro y hy
  obtain ⟨i, hi, rfl⟩ := List.getElem_of_mem hy
  have := h i (by omega)
  simp only [List.getD, List.getElem?_eq_getElem hi, Option.getD_some] at this
  rw [Nat.ble_eq]; omega
def vlP (C : PC) (V : Nat → Nat → UInt64) (a : Nat) : UInt64 := V (C.leg a) (C.off a)
structure TI (C : PC) (T : List Sec) (V : Nat → Nat → UInt64) : Prop where
  ok : ∀ a, a < C.D → vlP C V a ∈ (T.getD a s0).some
  kn : ∀ a, a < C.D → (T.getD a s0).known = true → (T.getD a s0).value = vlP C V a
structure TL (C : PC) (K : Nat) (T : List Sec) : Prop where
  len : T.length = C.D
  sm : ∀ a, a < C.D → (T.getD a s0).some.length ≤ K + 1
section
variable {C : PC} {V V' V1 : Nat → Nat → UInt64} {st fl z : Option Nat} {q q' q1 : UInt64} {e e' e1 : PE} {k i j d f a b : Nat} {mz : Nat → Bool} {F : Prop} {K K' : Nat} {s t u : ArrS} {v w : UInt64} {T : List Sec} {o : OwnS} {p : Bool}
theorem TL.mono (h : TL C K T) (hK : K ≤ K') : TL C K' T := ⟨h.len, fun a ha => by have := h.sm a ha; omega⟩
theorem TL.small (h : TL C K T) (hK : K ≤ 90000) : smallT T = true := smallP_of (fun a ha => by have := h.sm a ha; omega) h.len
theorem TL.wrote (h : TL C K T) (ha : a < C.D) : TL C (K + 1) (wroteT T (a : Int) w p) := by
  have hlt : a < T.length := by rw [h.len]; exact ha
  refine ⟨by rw [wroteP_len hlt]; exact h.len, fun b hb => ?_⟩
  rw [wroteP_at hlt]
  split
  · have := h.sm a ha
    show ((T.getD a s0).some ++ [w]).length ≤ _
    rw [List.length_append, List.length_singleton]; omega
  · have := h.sm b hb; omega
theorem TI.old (hl : T.length = C.D) (h : TI C T V) (ha : a < C.D) : TI C (wroteT T (a : Int) w false) V := by
  have hlt : a < T.length := by rw [hl]; exact ha
  refine ⟨fun b hb => ?_, fun b hb => ?_⟩
  · rw [wroteP_at hlt]
    split
    · rename_i y; subst y; exact List.mem_append_left _ (h.ok b hb)
    · exact h.ok b hb
  · rw [wroteP_at hlt]
    split
    · intro y; cases y
    · exact h.kn b hb
theorem TI.new (hl : T.length = C.D) (h : TI C T V) (ha : a < C.D) : TI C (wroteT T (a : Int) w p) (wrV C V a w) := by
  have hlt : a < T.length := by rw [hl]; exact ha
  have hv : ∀ b, b < C.D → vlP C (wrV C V a w) b = if b = a then w else vlP C V b := fun b hb => wrV_at ha hb
  refine ⟨fun b hb => ?_, fun b hb => ?_⟩
  · rw [wroteP_at hlt, hv b hb]
    by_cases y : b = a
    · rw [if_pos y, if_pos y]; exact List.mem_append_right _ (List.mem_singleton.2 rfl)
    · rw [if_neg y, if_neg y]; exact h.ok b hb
  · rw [wroteP_at hlt, hv b hb]
    by_cases y : b = a
    · rw [if_pos y, if_pos y]; exact fun _ => rfl
    · rw [if_neg y, if_neg y]; exact h.kn b hb
def Cs (C : PC) (st : Option Nat) (K : Nat) (S : (Nat → Nat → UInt64) → Prop) (s : ArrS) : Prop :=
  (∃ V q e, JV C V q e ∧ q.toNat ≤ K ∧ Qs C st V q e s ∧ S V) ∨ (∃ V q e V' q' e', JV C V q e ∧ q.toNat + 1 ≤ K ∧ Nx C V q V' q' e' ∧ Pe C st V q e V' q' e' s ∧ S V ∧ S V')
structure UPv (C : PC) (st z : Option Nat) (mz : Nat → Bool) (K : Nat) (V : Nat → Nat → UInt64) (q : UInt64) (e : PE) (o : OwnS) (s : ArrS) : Prop where
  x : ∃ k, (st = none ∨ k = 0) ∧ o.X = some (vol C st none q e false k)
  ow : OwI C st z mz o
  en : PEn C mz True K s
  jv : JV C V q e
  qk : q.toNat ≤ K
  qs : Qs C st V q e s
  ti : TI C o.T V
  tl : TL C K o.T
theorem OwI.set {o' : OwnS} (h : OwI C st z mz o) (h1 : o'.Open_1 = o.Open_1) (h2 : o'.Stale = o.Stale) (h3 : o'.Lost = o.Lost) : OwI C st z mz o' := ⟨h1.trans h.o1, h2.trans h.stl, h3.trans h.lost, h.mzz, h.sz, h.zl⟩
theorem Qs.drop (h : Qs C none V q e s) : Qs C st V q e s := fun d hd _ => h d hd (fun y => by cases y)
theorem Pe.drop (h : Pe C none V q e V' q' e' s) : Pe C st V q e V' q' e' s := h.imp (fun h d hd _ => h d hd (fun y => by cases y)) (fun h d hd _ => h d hd (fun y => by cases y))
theorem UPv.none (h : UPv C st z mz K V q e o s) (hj : mz j = true) (hs : st ≠ some j) : st = none ∧ z = some j := by
  have hz := h.ow.mzz j hj
  refine ⟨?_, hz⟩
  rcases h.ow.sz with y | y
  · exact y
  · rw [y] at hs; exact absurd hz hs
theorem TI.read (h : TI C T V) (htl : TL C K T) (ha : a < C.D) {g : Bool} : rdTR T (a : Int) (vlP C V a) = true ∧ TI C (rdTS T (a : Int) (vlP C V a) g) V ∧ TL C K (rdTS T (a : Int) (vlP C V a) g) := by
  have hlt : a < T.length := by rw [htl.len]; exact ha
  have hl : 0 ≤ (a : Int) ∧ (a : Int) < (T.length : Int) := ⟨by omega, by omega⟩
  unfold rdTR rdTS
  rw [if_pos hl, if_pos hl, Int.toNat_natCast]
  by_cases hk : (T.getD a s0).known = true
  · rw [if_pos hk, if_pos hk]
    exact ⟨decide_eq_true (h.kn a ha hk).symm, h, htl⟩
  · rw [if_neg hk, if_neg hk]
    refine ⟨?_, ⟨fun b hb => ?_, fun b hb => ?_⟩, ⟨by rw [List.length_set]; exact htl.len, fun b hb => ?_⟩⟩
    · rw [List.any_eq_true]
      exact ⟨_, h.ok a ha, decide_eq_true rfl⟩
    · rw [secSetP hlt]
      split
      · rename_i y; subst y
        cases g
        · exact h.ok b hb
        · exact List.mem_singleton.2 rfl
      · exact h.ok b hb
    · rw [secSetP hlt]
      split
      · rename_i y; subst y; exact fun _ => rfl
      · exact h.kn b hb
    · rw [secSetP hlt]
      split
      · cases g
        · exact htl.sm a ha
        · simp
      · exact htl.sm b hb
theorem TI.flushed (h : TI C T V) (htl : TL C K T) : TI C (flushedT T) V ∧ TL C K (flushedT T) := by
  have hx : ∀ a, a < C.D → (flushedT T).getD a s0 = flushX (T.getD a s0) := fun a ha => by unfold flushedT; exact secMapP (by rw [htl.len]; exact ha)
  refine ⟨⟨fun a ha => ?_, fun a ha => ?_⟩, ⟨by unfold flushedT; rw [List.length_map]; exact htl.len, fun a ha => ?_⟩⟩
  · rw [hx a ha]; unfold flushX
    split
    · rename_i hk
      rw [h.kn a ha hk]; exact List.mem_singleton.2 rfl
    · exact h.ok a ha
  · rw [hx a ha]; unfold flushX
    split
    · intro hk; exact h.kn a ha hk
    · exact h.kn a ha
  · rw [hx a ha]; unfold flushX
    split
    · simp
    · exact htl.sm a ha
end
end Go.Proofs
namespace Go.Proofs
open Go.VG
end Go.Proofs
namespace Go.Proofs
open Go.VG
theorem at_ok (a : Int) {n : Nat} (hn : 0 < n) (hb : n ≤ 65536) : ∃ k : Nat, (a.tmod (n : Int) + (n : Int)).tmod (n : Int) = (k : Int) ∧ k < n ∧ -65536 < a.tmod (n : Int) ∧ a.tmod (n : Int) < 65536 := by
  have h1 : -(n : Int) < a.tmod n ∧ a.tmod n < n := by
    have h := Int.natAbs_tmod a n
    have h2 := Nat.mod_lt a.natAbs (show 0 < (n : Int).natAbs by omega)
    omega
  have h2 : 0 ≤ a.tmod n + n := by omega
  have h3 := Int.tmod_nonneg (a := a.tmod n + n) n h2
  have h4 := Int.tmod_lt_of_pos (a.tmod n + n) (show (0 : Int) < n by omega)
  exact ⟨((a.tmod n + n).tmod n).toNat, by omega, by omega, by omega, by omega⟩
end Go.Proofs
set_option linter.unusedSimpArgs false
set_option linter.unusedVariables false
set_option maxRecDepth 20000
set_option maxHeartbeats 4000000
namespace Go.Proofs
open Go.VG
def volumegroupmake_Owner_Settled (o : OwnS) (s : ArrS) : Option (Bool × OwnS × ArrS) :=
  Option.bind (volumegroupmake_Owner_All o true s) fun r1 =>
  some (r1.1, r1.2.1, r1.2.2)
theorem L_volumegroupmake_Owner_Settled {W : World} {bo : Nat} {bs : Nat} {o : OwnS} {s : ArrS} {r : Bool × OwnS × ArrS} (h : volumegroupmake_Owner_Settled o s = some r) :
    CSpec Tryz.prog W 60 [ptr bo 0] [OwnP bs bo o, Arr bs s] (fun x : Unit => .bool r.1) (fun _ => True) (fun x F => OwnP bs bo r.2.1 :: Arr bs r.2.2 :: F) := by
 refine CSpec.of_body Tryz.func60 rfl Tryz.ntmps60 rfl fun F => ?_
 show CJ _ _ _ _ _ _ (_ :: _ :: F)
 unfold volumegroupmake_Owner_Settled at h
 refine sR <| oA rfl rfl <| nT <| sR <| oM rfl rfl ?_
 obtain ⟨r1, hr2, h⟩ := bind_e h
 refine oO <| O_call (L_volumegroupmake_Owner_All hr2) rfl Tryz.call21 (Dels.cons del0 (Dels.cons del0 Dels.nil)) rfl fun _ _ => oA rfl rfl <| nT <| CJ_ret ?_
 cases h
 exact fE (res1 Tryz.results60 rfl) () eR
def volumegroupmake_Owner_Step (o : OwnS) (s_1 : volumegroupmake_Step) (s : ArrS) : Option (Bool × OwnS × ArrS) :=
  grd (decide (¬ ((o.T.length : Nat) : Int) = 0)) <|
  grd (inI64 (((s_1.At.tmod (((o.T.length : Nat) : Int))) + ((o.T.length : Nat) : Int)))) <|
  grd (decide (¬ ((o.T.length : Nat) : Int) = 0)) <|
  lt (((((s_1.At.tmod (((o.T.length : Nat) : Int))) + ((o.T.length : Nat) : Int))).tmod (((o.T.length : Nat) : Int)))) fun w8 =>
  Option.bind ((
    if (s_1.Kind = (0 : Int)) then
      Option.bind (volumegroupmake_Owner_Write o w8 s_1.Value s) fun r17 =>
      some (r17.1, r17.2.1, r17.2.2.1, r17.2.2.2)
    else
      if (s_1.Kind = (1 : Int)) then
        Option.bind (volumegroupmake_Owner_Read o w8 false s) fun r19 =>
        some (r19.1, r19.2.1, r19.2.2.1, r19.2.2.2)
      else
        if (s_1.Kind = (2 : Int)) then
          Option.bind (volumegroupmake_Owner_Flush o s) fun r21 =>
          some (r21.1, r21.2.1, r21.2.2.1, r21.2.2.2)
        else
          if (s_1.Kind = (3 : Int)) then
            some (((5 : Int), true, o, s))
          else
            if (s_1.Kind = (4 : Int)) then
              grd (inI64 (((1 : Int) + w8))) <|
              grd (inI64 (((1 : Int) + w8))) <|
              some (((0 : Int), true, o, { s with fuse := (((1 : Int) + w8)).toNat }))
            else
              some (((0 : Int), true, o, s)) : Option (Int × Bool × OwnS × ArrS))) fun a16 =>
  if (¬ a16.2.1 = true) then
    some (false, a16.2.2.1, a16.2.2.2)
  else
    if (a16.1 ≠ (5 : Int)) then
      some (true, a16.2.2.1, a16.2.2.2)
    else
      Option.bind (volumegroupmake_Owner_Power a16.2.2.1 s_1.Keep a16.2.2.2) fun r28 =>
      if r28.1 = true then
        Option.bind (volumegroupmake_Owner_Settled r28.2.1 r28.2.2) fun r30 =>
        some (r30.1, r30.2.1, r30.2.2)
      else
        some (false, r28.2.1, r28.2.2)
theorem L_volumegroupmake_Owner_Step {W : World} {bo : Nat} {bs : Nat} {o : OwnS} {s_1 : volumegroupmake_Step} {s : ArrS} {r : Bool × OwnS × ArrS} (h : volumegroupmake_Owner_Step o s_1 s = some r) :
    CSpec Tryz.prog W 19 [ptr bo 0, .agg #[.int .i64 s_1.Kind, .int .i64 s_1.At, .int .u64 (s_1.Value.toNat : Int), .int .u64 (s_1.Keep.toNat : Int)]] [OwnP bs bo o, Arr bs s] (fun x : Unit => .bool r.1) (fun _ => True) (fun x F => OwnP bs bo r.2.1 :: Arr bs r.2.2 :: F) := by
 refine CSpec.of_body Tryz.func19 rfl Tryz.ntmps19 rfl fun F => ?_
 show CJ _ _ _ _ _ _ (_ :: _ :: F)
 unfold volumegroupmake_Owner_Step at h
 refine sR <| oO <| O_box rfl rfl rfl fun b1 => oA rfl rfl <| nT <| CJ_seq <| CJ_entX (Ent.transX (t1_ eR) (OwnP_open (l := o))) fun oc2 => lC del5 fun hlen4 => lC del6 fun hlen5 => CJ_entX (Ent.transX (t4_ eR) Trk_open) fun tc6 => CJ_pur fun hS7 => CJ_region <| oM rfl rfl <| oP (P_nilCheck rfl) rfl <| oP (P_fieldAddr rfl ⟨_, _, _, Tryz.runUnderlying37, rfl, rfl, Tryz.sizeOf34, rfl⟩) rfl <| oV (V_load rfl foc3 rfl Tryz.isAgg34) rfl <| oP (P_nilCheck rfl) rfl <| oP (P_fieldAddr rfl ⟨_, _, _, Tryz.runUnderlying56, rfl, rfl, Tryz.sizeOf54, rfl⟩) rfl <| oV (V_load rfl foc0 rfl Tryz.isAgg54) rfl <| oV (VJ_eq (V_len rfl foc1 (Reads.sl _ _ _) Tryz.runUnderlying54) (congrArg (fun z : Nat => Value.int .i64 (z : Int)) hS7.len.symm)) rfl <| oA rfl rfl <| RJ_nil <| QJ_ent (Ent.trans (t0_ (t0_ (t0_ eR))) (Trk_close hS7)) <| QJ_ent (Ent.trans (t1_ (t1_ (t1_ (t1_ eR)))) (OwnP_mk (v0 := o.Open_1) (v1 := o.X) (v2 := o.T) (v3 := o.Stale) (v4 := o.Lost) (h0 := oc2.1) (h1 := oc2.2.1) (h2 := oc2.2.2.1) (h3 := oc2.2.2.2.1) (h4 := oc2.2.2.2.2.1) (h5 := oc2.2.2.2.2.2))) <| QJ_then <| sR <| oP (P_fieldAddr rfl ⟨_, _, _, Tryz.runUnderlying49, rfl, rfl, Tryz.sizeOf3, rfl⟩) rfl <| oV (V_load rfl foc1 rfl Tryz.isAgg3) rfl <| oM rfl rfl ?_
 obtain ⟨hg1, h⟩ := grd_de h
 refine oP (P_remT (a := s_1.At) (b := ((o.T.length : Nat) : Int)) rfl rfl hg1) rfl <| oM rfl rfl ?_
 obtain ⟨hg2, h⟩ := grd_Ie h
 refine oP (P_add (a := (s_1.At.tmod (((o.T.length : Nat) : Int)))) (b := ((o.T.length : Nat) : Int)) rfl rfl hg2) rfl <| oM rfl rfl ?_
 obtain ⟨hg3, h⟩ := grd_de h
 refine oP (P_remT (a := ((s_1.At.tmod (((o.T.length : Nat) : Int))) + ((o.T.length : Nat) : Int))) (b := ((o.T.length : Nat) : Int)) rfl rfl hg3) rfl ?_
 obtain ⟨w8, hw8, h⟩ := lt_e h
 rw [← hw8]
 refine oA rfl rfl <| nT <| sR <| oA rfl rfl <| oA rfl rfl <| nT <| CJ_seq <| sR <| oP (P_fieldAddr rfl ⟨_, _, _, Tryz.runUnderlying49, rfl, rfl, Tryz.sizeOf3, rfl⟩) rfl <| oV (V_load rfl foc1 rfl Tryz.isAgg3) rfl <| nT ?_
 obtain ⟨y11, hl9, hK10⟩ := bind_c h
 refine CJ_cutT (X := Int × Bool × OwnS × ArrS) [7, 8, 27, 28, 29, 30, 31, 32, 33, 34, 35, 36, 37, 38, 39, 40, 41, 42, 43, 44, 45, 46, 47, 48, 49, 50, 51, 52, 53, 54, 55, 56, 57, 58, 59, 60, 61, 62] (fun a16 => ([(7, .int .i64 a16.1), (8, .bool a16.2.1)] : Slots)) (fun a16 R => OwnP bs bo a16.2.2.1 :: Arr bs a16.2.2.2 :: R) (fun a16 => y11 = a16) (Dels.cons del0 (Dels.cons del1 Dels.nil)) ?_ ?_
 ·
  have h := hl9
  refine CJ_block <| sR <| oP (P_eql (a := s_1.Kind) (b := (0 : Int)) rfl rfl) rfl <| oA rfl rfl <| nT <| CJ_condP rfl bT_dec (fun hg4 => ?_) (fun hg4 => ?_)
  ·
   replace h := ite_t hg4 h
   refine CJ_region <| oM rfl rfl <| oM rfl rfl <| oP (P_fieldAddr rfl ⟨_, _, _, Tryz.runUnderlying49, rfl, rfl, Tryz.sizeOf44, rfl⟩) rfl <| oV (V_load rfl foc1 rfl Tryz.isAgg44) rfl ?_
   obtain ⟨r17, hr18, h⟩ := bind_e h
   exact oO <| O_call (L_volumegroupmake_Owner_Write hr18) rfl Tryz.call44 (Dels.cons del0 (Dels.cons del1 Dels.nil)) rfl fun _ _ => oM rfl rfl <| oP (P_extract rfl rfl) rfl <| oP (P_extract rfl rfl) rfl <| oA rfl rfl <| oA rfl rfl <| RJ_nil <| QJ_block_normal <| cR (r17.1, r17.2.1, r17.2.2.1, r17.2.2.2) (Option.some.inj h).symm ⟨rfl, rfl, True.intro⟩ eR
  ·
   replace h := ite_f hg4 h
   refine sR <| oP (P_eql (a := s_1.Kind) (b := (1 : Int)) rfl rfl) rfl <| oA rfl rfl <| nT <| CJ_condP rfl bT_dec (fun hg5 => ?_) (fun hg5 => ?_)
   ·
    replace h := ite_t hg5 h
    refine CJ_region <| oM rfl rfl <| oM rfl rfl ?_
    obtain ⟨r19, hr20, h⟩ := bind_e h
    exact oO <| O_call (L_volumegroupmake_Owner_Read hr20) rfl Tryz.call59 (Dels.cons del0 (Dels.cons del1 Dels.nil)) rfl fun _ _ => oM rfl rfl <| oP (P_extract rfl rfl) rfl <| oP (P_extract rfl rfl) rfl <| oA rfl rfl <| oA rfl rfl <| RJ_nil <| QJ_block_normal <| cR (r19.1, r19.2.1, r19.2.2.1, r19.2.2.2) (Option.some.inj h).symm ⟨rfl, rfl, True.intro⟩ eR
   ·
    replace h := ite_f hg5 h
    refine sR <| oP (P_eql (a := s_1.Kind) (b := (2 : Int)) rfl rfl) rfl <| oA rfl rfl <| nT <| CJ_condP rfl bT_dec (fun hg6 => ?_) (fun hg6 => ?_)
    ·
     replace h := ite_t hg6 h
     refine CJ_region <| oM rfl rfl ?_
     obtain ⟨r21, hr22, h⟩ := bind_e h
     exact oO <| O_call (L_volumegroupmake_Owner_Flush hr22) rfl Tryz.call15 (Dels.cons del0 (Dels.cons del1 Dels.nil)) rfl fun _ _ => oM rfl rfl <| oP (P_extract rfl rfl) rfl <| oP (P_extract rfl rfl) rfl <| oA rfl rfl <| oA rfl rfl <| RJ_nil <| QJ_block_normal <| cR (r21.1, r21.2.1, r21.2.2.1, r21.2.2.2) (Option.some.inj h).symm ⟨rfl, rfl, True.intro⟩ eR
    ·
     replace h := ite_f hg6 h
     refine sR <| oP (P_eql (a := s_1.Kind) (b := (3 : Int)) rfl rfl) rfl <| oA rfl rfl <| nT <| CJ_condP rfl bT_dec (fun hg7 => ?_) (fun hg7 => ?_)
     ·
      replace h := ite_t hg7 h
      exact CJ_region <| oA rfl rfl <| RJ_nil <| QJ_block_normal <| cR ((5 : Int), true, o, s) (Option.some.inj h).symm ⟨rfl, rfl, True.intro⟩ (t0_ (t1_ eR))
     ·
      replace h := ite_f hg7 h
      refine sR <| oP (P_eql (a := s_1.Kind) (b := (4 : Int)) rfl rfl) rfl <| oA rfl rfl <| nT <| CJ_condP rfl bT_dec (fun hg8 => ?_) (fun hg8 => ?_)
      ·
       replace h := ite_t hg8 h
       refine CJ_entX (Ent.transX (t0_ eR) (OwnP_open (l := o))) fun oc23 => lC del5 fun hlen25 => lC del6 fun hlen26 => CJ_region <| oM rfl rfl <| oP (P_nilCheck rfl) rfl <| oP (P_fieldAddr rfl ⟨_, _, _, Tryz.runUnderlying37, rfl, rfl, Tryz.sizeOf30, rfl⟩) rfl <| oV (V_load rfl foc0 rfl Tryz.isAgg30) rfl <| oM rfl rfl ?_
       obtain ⟨hg9, h⟩ := grd_Ie h
       refine oP (P_add (a := (1 : Int)) (b := w8) rfl rfl hg9) rfl ?_
       obtain ⟨hg10, h⟩ := grd_Ie h
       exact oO <| O_call (c_FuseD hg10.2) rfl Tryz.call48 (Dels.cons del8 Dels.nil) rfl fun _ _ => RJ_nil <| QJ_ent (Ent.trans (t1_ (t1_ (t1_ (t1_ (t1_ (t1_ (t1_ eR))))))) (OwnP_mk (v0 := o.Open_1) (v1 := o.X) (v2 := o.T) (v3 := o.Stale) (v4 := o.Lost) (h0 := oc23.1) (h1 := oc23.2.1) (h2 := oc23.2.2.1) (h3 := oc23.2.2.2.1) (h4 := oc23.2.2.2.2.1) (h5 := oc23.2.2.2.2.2))) <| QJ_block_normal <| cR ((0 : Int), true, o, { s with fuse := (((1 : Int) + w8)).toNat }) (Option.some.inj h).symm ⟨rfl, rfl, True.intro⟩ eR
      ·
       replace h := ite_f hg8 h
       exact CJ_skip <| QJ_block_normal <| cR ((0 : Int), true, o, s) (Option.some.inj h).symm ⟨rfl, rfl, True.intro⟩ (t0_ (t1_ eR))
 ·
  rintro a16 hy27
  replace h := bindK_at hK10 hy27
  show CJ _ _ _ _ _ (([(7, .int .i64 a16.1), (8, .bool a16.2.1)] : Slots) ++ forget _ _) (OwnP bs bo a16.2.2.1 :: Arr bs a16.2.2.2 :: _)
  refine CJ_seq <| sR <| oM rfl rfl <| oP (P_not rfl) rfl <| nT <| CJ_condP rfl (bT_not Iff.rfl) (fun hg11 => ?_) (fun hg11 => ?_)
  ·
   replace h := ite_t hg11 h
   refine sR <| oA rfl rfl <| nT <| CJ_ret <| QJ_then_ret ?_
   cases h
   exact fE (res1 Tryz.results19 rfl) () (t0_ (t0_ (eD eR)))
  ·
   replace h := ite_f hg11 h
   refine kT <| sR <| oM rfl rfl <| oP (P_neq (a := a16.1) (b := (5 : Int)) rfl rfl) rfl <| oM rfl rfl <| RJ_splitP 67 rfl bT_dec (fun hg12B hg12 => ?_) (fun hg12B hg12 => ?_)
   ·
    replace h := ite_t hg12 h
    refine RJ_gn (GY_no rfl rfl rfl hg12B) rfl rfl <| RJ_gn (GY_no rfl rfl rfl hg12B) rfl rfl <| RJ_gn (GY_no rfl rfl rfl hg12B) rfl rfl <| RJ_gn (GY_no rfl rfl rfl hg12B) rfl rfl <| RJ_gn (GY_no rfl rfl rfl hg12B) rfl rfl <| RJ_gn (GY_undef rfl rfl rfl) rfl rfl <| RJ_gn (GY_undef rfl rfl rfl) rfl rfl <| RJ_gn (GY_no rfl rfl rfl hg12B) rfl rfl <| oP (P_pickT rfl hg12B rfl) rfl <| oA rfl rfl <| nT <| CJ_ret ?_
    cases h
    exact fE (res1 Tryz.results19 rfl) () (t0_ (t0_ (eD eR)))
   ·
    replace h := ite_f hg12 h
    refine gP (GY_yes rfl rfl rfl hg12B) (P_move rfl) rfl <| gP (GY_yes rfl rfl rfl hg12B) (P_fieldAddr rfl ⟨_, _, _, Tryz.runUnderlying49, rfl, rfl, Tryz.sizeOf44, rfl⟩) rfl <| gV (GY_yes rfl rfl rfl hg12B) (V_load rfl foc2 rfl Tryz.isAgg44) rfl ?_
    obtain ⟨r28, hr29, h⟩ := bind_e h
    refine RJ_gy (GY_yes rfl rfl rfl hg12B) <| O_call (L_volumegroupmake_Owner_Power hr29) rfl Tryz.call41 (Dels.cons del0 (Dels.cons del0 Dels.nil)) rfl fun _ _ => gP (GY_yes rfl rfl rfl hg12B) (P_move rfl) rfl <| RJ_splitP 72 rfl Iff.rfl (fun hg13B hg13 => ?_) (fun hg13B hg13 => ?_)
    ·
     replace h := ite_t hg13 h
     refine gP (GY_yes rfl rfl rfl hg13B) (P_move rfl) rfl ?_
     obtain ⟨r30, hr31, h⟩ := bind_e h
     refine RJ_gy (GY_yes rfl rfl rfl hg13B) <| O_call (L_volumegroupmake_Owner_Settled hr31) rfl Tryz.call60 (Dels.cons del0 (Dels.cons del0 Dels.nil)) rfl fun _ _ => gP (GY_yes rfl rfl rfl hg12B) (P_pickT rfl hg13B rfl) rfl <| oP (P_pickF rfl hg12B rfl) rfl <| oA rfl rfl <| nT <| CJ_ret ?_
     cases h
     exact fE (res1 Tryz.results19 rfl) () (t0_ (t0_ (eD eR)))
    ·
     replace h := ite_f hg13 h
     refine RJ_gn (GY_no rfl rfl rfl hg13B) rfl rfl <| RJ_gn (GY_no rfl rfl rfl hg13B) rfl rfl <| gP (GY_yes rfl rfl rfl hg12B) (P_pickF rfl hg13B rfl) rfl <| oP (P_pickF rfl hg12B rfl) rfl <| oA rfl rfl <| nT <| CJ_ret ?_
     cases h
     exact fE (res1 Tryz.results19 rfl) () (t0_ (t0_ (eD eR)))
end Go.Proofs
namespace Go.Proofs
open Go.VG
section
variable {C : PC} {V V' V1 : Nat → Nat → UInt64} {st fl z : Option Nat} {q q' q1 : UInt64} {e e' e1 : PE} {k i j d f a b : Nat} {mz : Nat → Bool} {F : Prop} {K K' : Nat} {s t u : ArrS} {v w : UInt64} {T : List Sec} {o : OwnS} {p : Bool}
theorem UPv.mono (h : UPv C st z mz K V q e o s) (hK : K ≤ K') : UPv C st z mz K' V q e o s := ⟨h.x, h.ow, h.en.mono hK, h.jv, by have := h.qk; omega, h.qs, h.ti, h.tl.mono hK⟩
theorem Cs.drop {S : (Nat → Nat → UInt64) → Prop} (h : Cs C none K S s) : Cs C st K S s := h.imp (fun ⟨V, q, e, h1, h2, h3, h4⟩ => ⟨V, q, e, h1, h2, h3.drop, h4⟩) (fun ⟨V, q, e, V', q', e', h1, h2, h3, h4, h5⟩ => ⟨V, q, e, V', q', e', h1, h2, h3, h4.drop, h5⟩)
theorem Cs.rc {S : (Nat → Nat → UInt64) → Prop} (hK : K ≤ 900000) (h : Cs C st K S s) (hr : Restarted C.ns K' s t) : ∃ V q e, Rc C st V q e t ∧ JV C V q e ∧ q.toNat ≤ K ∧ S V := by
  rcases h with ⟨V, q, e, h1, h2, h3, h4⟩ | ⟨V, q, e, V', q', e', h1, h2, h3, h4, h5, h6⟩
  · exact ⟨V, q, e, (Rr.of_Q h3 hr).rc, h1, h2, h4⟩
  · have hq := seq_add h1.sm
    have hq' : q'.toNat ≤ K := by rw [h3.q, hq]; exact h2
    rcases h4 with h4 | h4
    · rcases Rr.of_Hf h1 h3 h4 hr with y | y
      · exact ⟨V, q, e, y.rc, h1, by omega, h5⟩
      · exact ⟨V', q', e', y.rc, h3.jv (by omega), hq', h6⟩
    · exact ⟨V', q', e', (Rr.of_Fu (h3.ne h1.sm) h4 hr).rc, h3.jv (by omega), hq', h6⟩
theorem TI.failed (htl : TL C K T) (h : ∀ a, a < C.D → vlP C V a ∈ (T.getD a s0).some) : TI C (failedT T) V ∧ TL C K (failedT T) := by
  have hx : ∀ a, a < C.D → (failedT T).getD a s0 = failX (T.getD a s0) := fun a ha => by unfold failedT; exact secMapP (by rw [htl.len]; exact ha)
  refine ⟨⟨fun a ha => by rw [hx a ha]; exact h a ha, fun a ha => by rw [hx a ha]; intro y; cases y⟩, ⟨by unfold failedT; rw [List.length_map]; exact htl.len, fun a ha => by rw [hx a ha]; exact htl.sm a ha⟩⟩
theorem PEn.any (h : PEn C mz False K s) : PEn C mz True K s := ⟨h.ok, h.dn, h.ms, fun y => absurd trivial y⟩
theorem UPv.fuse (h : UPv C st z mz K V q e o s) {n : Nat} : UPv C st z mz K V q e o { s with fuse := n } := ⟨h.x, h.ow, ⟨h.en.ok.fuse, h.en.dn, h.en.ms, fun y => absurd trivial y⟩, h.jv, h.qk, fun d hd hds => (h.qs d hd hds).frame (fun _ => rfl) (fun _ _ => rfl), h.ti, h.tl⟩
end
end Go.Proofs
set_option linter.unusedSimpArgs false
set_option linter.unusedVariables false
set_option maxRecDepth 20000
set_option maxHeartbeats 4000000
namespace Go.Proofs
open Go.VG
theorem bld_37_0_1_3 (v0 : (Option Addr)) (v1 : Fn) (v2 : (Array Value)) (v3 : (Array Value)) (v4 : (Option Addr)) : ∀ w, (Instr.build 37 (#[(0, .pointer v0), (1, .func v1 v2 v3), (3, .pointer v4)] : Array (Nat × Value))).run Tryz.prog w = .ok (.agg #[.pointer v0, .func v1 v2 v3, .nilIface, .pointer v4, .slice none 0 0, .slice none 0 0]) w := fun w => by kernel_rfl
def volumegrouplaw19_open (a : ArrS) (chunk : Int) : Option (Int) :=
  some chunk
def volumegrouplaw19_open_v (a : ArrS) (chunk : Int) : Int := chunk
theorem L_volumegrouplaw19_open {W : World} {ba : Nat} {a : ArrS} {chunk : Int} {r : Int} (h : volumegrouplaw19_open a chunk = some r) :
    CSpec Tryz.prog W 46 [ptr ba 0, .int .i64 chunk] [Arr ba a] (fun x : Nat × Nat => .func (.func 97) #[] #[ptr x.1 0, ptr x.2 0]) (fun _ => True) (fun x F => Arr ba a :: blk x.1 30 [ptr ba 0] :: blk x.2 3 [.int .i64 r] :: F) := by
 refine CSpec.of_body Tryz.func46 rfl Tryz.ntmps46 rfl fun F => ?_
 show CJ _ _ _ _ _ _ (_ :: F)
 unfold volumegrouplaw19_open at h
 refine sR <| oO <| O_box rfl rfl rfl fun b1 => oO <| O_box rfl rfl rfl fun b2 => oA rfl rfl <| nT <| sR <| oP (P_makeFunc rfl rfl) rfl <| oA rfl rfl <| nT <| CJ_ret ?_
 cases h
 exact fE (res1 Tryz.results46 rfl) ⟨b1, b2⟩ (t2_ (t1_ eR))
def volumegrouplaw19_begun_l1_b (legs : Int) (rows : Int) (chunk : Int) (rec : (List Int) → Nat → Option ((List Int))) (x8 : List Int) (x10 : Nat) : Option ((List Int)) :=
  if (((x10 : Nat) : Int) < legs) then
    grd (inI64 (rows * chunk)) <|
    grd (inI64 (((16 : Int) + (rows * chunk)))) <|
    grd (inLen (x8.length + 1)) <|
    grd (inN64 (x10 + 1)) <|
    rec ((x8 ++ [((16 : Int) + (rows * chunk))])) (x10 + 1)
  else
    some x8
def volumegrouplaw19_begun_l1 (legs : Int) (rows : Int) (chunk : Int) : Nat → (List Int) → Nat → Option ((List Int))
  | 0, _, _ => none
  | n + 1, x8, x10 => volumegrouplaw19_begun_l1_b legs rows chunk (volumegrouplaw19_begun_l1 legs rows chunk n) x8 x10
def volumegrouplaw19_begun (legs : Int) (rows : Int) (chunk : Int) : Option ((Option OwnS) × (Option ArrS)) :=
  Option.bind (volumegrouplaw19_begun_l1 legs rows chunk FUEL ([]) 0) fun a7 =>
  grd (inLen a7.length) <|
  if ((newC a7) ≠ (0 : Int)) then
    some (none, none)
  else
    Option.elim (newO a7) (
      some (none, none)) fun o25 =>
    Option.bind (volumegroupmake_Spans o25) fun r26 =>
    Option.bind (parityvol_Format r26 chunk o25) fun r32 =>
    if (r32.1 ≠ (0 : Int)) then
      some (none, none)
    else
      if (((r32.2.log.length : Nat) : Int) ≠ (0 : Int)) then
        some (none, none)
      else
        grd (inI64 ((legs - (1 : Int)))) <|
        grd (inI64 (((legs - (1 : Int)) * rows))) <|
        grd (inI64 ((((legs - (1 : Int)) * rows) * chunk))) <|
        grd (decide (0 ≤ (((legs - (1 : Int)) * rows) * chunk) ∧ (((legs - (1 : Int)) * rows) * chunk) ≤ 1000000000)) <|
        grd (decide (((List.replicate (((((legs - (1 : Int)) * rows) * chunk)).toNat) (0 : UInt64))).length ≤ 65536)) <|
        some (((some ((⟨(volumegrouplaw19_open_v r32.2 chunk), none, (trkT ((List.replicate (((((legs - (1 : Int)) * rows) * chunk)).toNat) (0 : UInt64)))), [], []⟩ : OwnS))), (some r32.2)))
theorem L_volumegrouplaw19_begun {W : World} {legs : Int} {rows : Int} {chunk : Int} {r : (Option OwnS) × (Option ArrS)} (h : volumegrouplaw19_begun legs rows chunk = some r) :
    CSpec Tryz.prog W 13 [.int .i64 legs, .int .i64 rows, .int .i64 chunk] [] (fun x : Nat × Nat => oval r.1 x.1) (fun _ => True) (fun x F => optP (OwnP x.2 x.1) r.1 :: optP (Arr x.2) r.2 :: F) := by
 refine CSpec.of_body Tryz.func13 rfl Tryz.ntmps13 rfl fun F => ?_
 show CJ _ _ _ _ _ _ (F)
 unfold volumegrouplaw19_begun at h
 refine sR <| oA rfl rfl <| nT <| sR <| oA rfl rfl <| nT <| CJ_seq <| sR <| oA rfl rfl <| nT <| CJ_ent (fun h hh => sl_nil (t := tyI) h hh) ?_
 obtain ⟨y4, hl2, hK3⟩ := bind_c h
 refine CJ_cutT (X := (List Int) × Sl3) [7, 8, 11, 12, 13, 14, 15, 16, 17, 18, 19, 20, 21, 22] (fun ⟨a7, hd6⟩ => ([(7, hd6.v)] : Slots)) (fun ⟨a7, hd6⟩ R => sl tyI hd6.v a7 :: R) (fun ⟨a7, hd6⟩ => y4 = a7) (Dels.cons del0 Dels.nil) ?_ ?_
 ·
  refine CJ_block <| CJ_loopR (X := Nat × (List Int) × Nat × Sl3) [7, 8, 11, 12, 13, 14, 15, 16, 17, 18, 19, 20, 21, 22] (fun ⟨n, x8, x10, hd9⟩ => ([(7, hd9.v), (8, .int .i64 (((x10 : Nat) : Int)))] : Slots)) (fun ⟨n, x8, x10, hd9⟩ R => sl tyI hd9.v x8 :: R) (fun ⟨n, x8, x10, hd9⟩ => volumegrouplaw19_begun_l1 legs rows chunk n x8 x10 = some y4) (fun ⟨n, x8, x10, hd9⟩ => n) ⟨FUEL, [], 0, ⟨none, 0, 0⟩⟩ ?_ ?_ eR ?_
  · exact hl2
  · exact ⟨rfl, rfl, True.intro⟩
  ·
   rintro ⟨n, x8, x10, hd9⟩ h
   cases n with
   | zero => exact none_e h
   | succ n => ?_
   replace h : volumegrouplaw19_begun_l1_b legs rows chunk (volumegrouplaw19_begun_l1 legs rows chunk n) x8 x10 = some y4 := h
   unfold volumegrouplaw19_begun_l1_b at h
   show CJ _ _ _ _ _ (([(7, hd9.v), (8, .int .i64 (((x10 : Nat) : Int)))] : Slots) ++ forget _ _) (sl tyI hd9.v x8 :: _)
   refine lC del0 fun hlen11 => CJ_seq <| sR <| oM rfl rfl <| oM rfl rfl <| oP (P_lss (a := ((x10 : Nat) : Int)) (b := legs) rfl rfl) rfl <| nT <| CJ_condP rfl bT_dec (fun hg1 => ?_) (fun hg1 => ?_)
   ·
    replace h := ite_t hg1 h
    refine kT <| CJ_seq <| CJ_block <| CJ_region <| oM rfl rfl <| oM rfl rfl <| oM rfl rfl ?_
    obtain ⟨hg2, h⟩ := grd_Ie h
    refine oP (P_mul (a := rows) (b := chunk) rfl rfl hg2) rfl ?_
    obtain ⟨hg3, h⟩ := grd_Ie h
    refine oP (P_add (a := (16 : Int)) (b := (rows * chunk)) rfl rfl hg3) rfl <| oO <| O_buildSlice rfl (bs_35_1_0 _) rfl fun b12 => ?_
    obtain ⟨hg4, h⟩ := grd_Le h
    refine oO <| O_append (t := tyI) (bytes := 8) rfl rfl del1 foc0 (Reads.lit (t := tyI) (ys := [((16 : Int) + (rows * chunk))]) rfl rfl (by decide) (by decide) rfl) Tryz.underlying35 ok_tyI (apl (m := 1) (b := 8) hg4 (by decide)).1 (apl (m := 1) (b := 8) hg4 (by decide)).2 rfl fun p14 c15 => oA rfl rfl <| RJ_nil <| QJ_block_normal <| QJ_then <| CJ_region <| oM rfl rfl ?_
    obtain ⟨hg5, h⟩ := grd_Ne h
    exact oP (PJ_eq (P_add (a := ((x10 : Nat) : Int)) (b := (1 : Int)) rfl rfl (nat_in hg5)) rfl) rfl <| oA rfl rfl <| RJ_nil <| nR ⟨n, (x8 ++ [((16 : Int) + (rows * chunk))]), (x10 + 1), ⟨p14, (x8 ++ [((16 : Int) + (rows * chunk))]).length, c15⟩⟩ h ⟨rfl, rfl, True.intro⟩ (t0_ (eD eR))
   ·
    replace h := ite_f hg1 h
    exact CJ_exit <| QJ_then_exit <| QJ_round_exit <| QJ_block_here <| cR ⟨x8, hd9⟩ (Option.some.inj h).symm ⟨rfl, True.intro⟩ eR
 ·
  rintro ⟨a7, hd6⟩ hy16
  replace h := bindK_at hK3 hy16
  show CJ _ _ _ _ _ (([(7, hd6.v)] : Slots) ++ forget _ _) (sl tyI hd6.v a7 :: _)
  refine lC del0 fun hlen17 => sR <| oM rfl rfl ?_
  obtain ⟨hg6, h⟩ := grd_Le h
  refine oO <| O_call (c_NewO (Reads.sl _ _ _) hg6) rfl Tryz.call23 (Dels.cons del0 Dels.nil) rfl fun X18 _ => oM rfl rfl <| oP (P_extract rfl rfl) rfl <| oP (P_extract rfl rfl) rfl <| oA rfl rfl <| oA rfl rfl <| nT <| CJ_seq <| sR <| oM rfl rfl <| oP (P_neq (a := (newC a7)) (b := (0 : Int)) rfl rfl) rfl <| oM rfl rfl <| RJ_mbF rfl rfl rfl (fun hG20 => have hP21 : ¬ ((newC a7) ≠ (0 : Int)) := nP (bT_dec) hG20; VJ_P (P_move rfl)) <| RJ_splitP 30 rfl bT_dec (fun hg7B hg7 => ?_) (fun hg7B hg7 => ?_)
  ·
   replace h := ite_t hg7 h
   refine RJ_gn (GY_no rfl rfl rfl hg7B) rfl rfl <| oP (P_pickT rfl hg7B rfl) rfl <| oM rfl rfl <| RJ_gn (GY_no rfl rfl rfl rfl) rfl rfl <| RJ_gn (GY_no rfl rfl rfl rfl) rfl rfl <| RJ_gn (GY_no rfl rfl rfl rfl) rfl rfl <| RJ_gn (GY_no rfl rfl rfl rfl) rfl rfl <| RJ_gn (GY_no rfl rfl rfl rfl) rfl rfl <| oP (P_pickT rfl rfl rfl) rfl <| oM rfl rfl <| RJ_gn (GY_no rfl rfl rfl rfl) rfl rfl <| RJ_gn (GY_no rfl rfl rfl rfl) rfl rfl <| RJ_gn (GY_no rfl rfl rfl rfl) rfl rfl <| oP (P_pickT rfl rfl rfl) rfl <| nT <| CJ_condT rfl rfl <| sR <| oA rfl rfl <| nT <| CJ_ret <| QJ_then_ret ?_
   cases h
   exact fE (res1 Tryz.results13 rfl) ⟨0, 0⟩ (Ent.trans (fun h hh => optP_none h hh) <| t0_ (Ent.trans (fun h hh => optP_none h hh) <| t0_ (eD (eD eR))))
  ·
   replace h := ite_f hg7 h
   rcases opt_e h with ⟨ht24, h⟩ | ⟨o25, ht24, h⟩
   ·
    rw [ht24]
    refine RJ_ent (t1_ (eD eR)) <| gP (GY_yes rfl rfl rfl hg7B) (P_eqlNN (mbx (not_f hg7B) rfl) rfl Tryz.underlying30) rfl <| oP (P_pickF rfl hg7B rfl) rfl <| oM rfl rfl <| RJ_gn (GY_no rfl rfl rfl rfl) rfl rfl <| RJ_gn (GY_no rfl rfl rfl rfl) rfl rfl <| RJ_gn (GY_no rfl rfl rfl rfl) rfl rfl <| RJ_gn (GY_no rfl rfl rfl rfl) rfl rfl <| RJ_gn (GY_no rfl rfl rfl rfl) rfl rfl <| oP (P_pickT rfl rfl rfl) rfl <| oM rfl rfl <| RJ_gn (GY_no rfl rfl rfl rfl) rfl rfl <| RJ_gn (GY_no rfl rfl rfl rfl) rfl rfl <| RJ_gn (GY_no rfl rfl rfl rfl) rfl rfl <| oP (P_pickT rfl rfl rfl) rfl <| nT <| CJ_condT rfl rfl <| sR <| oA rfl rfl <| nT <| CJ_ret <| QJ_then_ret ?_
    cases h
    exact fE (res1 Tryz.results13 rfl) ⟨0, 0⟩ (Ent.trans (fun h hh => optP_none h hh) <| t0_ (Ent.trans (fun h hh => optP_none h hh) <| t0_ (eD eR)))
   ·
    rw [ht24]
    refine RJ_ent (Ent.takeC (A' := Arr X18 o25) del0 rfl eR) <| gP (GY_yes rfl rfl rfl hg7B) (P_eqlPN (mbx (not_f hg7B) rfl) rfl Tryz.underlying30) rfl <| oP (P_pickF rfl hg7B rfl) rfl <| oM rfl rfl <| gP (GY_yes rfl rfl rfl rfl) (P_move rfl) rfl ?_
    obtain ⟨r26, hr27, h⟩ := bind_e h
    refine RJ_gy (GY_yes rfl rfl rfl rfl) <| O_call (L_volumegroupmake_Spans hr27) rfl Tryz.call24 (Dels.cons del0 Dels.nil) rfl fun X28 _ => RJ_pure (fun h hh => Rs_len (stars_perm (del2 (A := Rs (DevP X18) r26 X28.2)).out h hh)) fun hdl31 => gP (GY_yes rfl rfl rfl rfl) (P_move rfl) rfl ?_
    obtain ⟨r32, hr33, h⟩ := bind_e h
    refine RJ_gy (GY_yes rfl rfl rfl rfl) <| O_call (L_parityvol_Format (Reads.sl _ _ _) hr33) rfl Tryz.call25 (Dels.cons del1 (Dels.cons del1 (Dels.cons del0 Dels.nil))) rfl fun _ _ => gP (GY_yes rfl rfl rfl rfl) (P_neq (a := r32.1) (b := (0 : Int)) rfl rfl) rfl <| oP (P_pickF rfl rfl rfl) rfl <| oM rfl rfl <| RJ_splitP 41 rfl bT_dec (fun hg8B hg8 => ?_) (fun hg8B hg8 => ?_)
    ·
     replace h := ite_t hg8 h
     refine RJ_gn (GY_no rfl rfl rfl hg8B) rfl rfl <| RJ_gn (GY_no rfl rfl rfl hg8B) rfl rfl <| RJ_gn (GY_no rfl rfl rfl hg8B) rfl rfl <| oP (P_pickT rfl hg8B rfl) rfl <| nT <| CJ_condT rfl rfl <| sR <| oA rfl rfl <| nT <| CJ_ret <| QJ_then_ret ?_
     cases h
     exact fE (res1 Tryz.results13 rfl) ⟨0, 0⟩ (Ent.trans (fun h hh => optP_none h hh) <| t0_ (Ent.trans (fun h hh => optP_none h hh) <| t0_ (eD (eD (eD (eD eR))))))
    ·
     replace h := ite_f hg8 h
     refine gP (GY_yes rfl rfl rfl hg8B) (P_move rfl) rfl <| RJ_gy (GY_yes rfl rfl rfl hg8B) <| O_call (c_Unflushed) rfl Tryz.call45 (Dels.cons del2 Dels.nil) rfl fun _ _ => gP (GY_yes rfl rfl rfl hg8B) (P_neq (a := ((r32.2.log.length : Nat) : Int)) (b := (0 : Int)) rfl rfl) rfl <| oP (P_pickF rfl hg8B rfl) rfl <| nT <| CJ_condP rfl bT_dec (fun hg9 => ?_) (fun hg9 => ?_)
     ·
      replace h := ite_t hg9 h
      refine sR <| oA rfl rfl <| nT <| CJ_ret <| QJ_then_ret ?_
      cases h
      exact fE (res1 Tryz.results13 rfl) ⟨0, 0⟩ (Ent.trans (fun h hh => optP_none h hh) <| t0_ (Ent.trans (fun h hh => optP_none h hh) <| t0_ (eD (eD (eD (eD eR))))))
     ·
      replace h := ite_f hg9 h
      refine kT <| CJ_seq <| AJ_startH 11272 (by kernel_rfl) rfl <| aN 0 1 rfl rfl (P_move rfl) rfl <| aN 1 3 rfl rfl (P_move rfl) rfl <| aN 2 7 rfl rfl (P_move rfl) rfl <| aN 4 23 rfl rfl (P_move rfl) rfl ?_
      obtain ⟨hg10, h⟩ := grd_Ie h
      refine aN 5 55 rfl rfl (P_sub (a := legs) (b := (1 : Int)) rfl rfl hg10) rfl <| aN 6 119 rfl rfl (P_move rfl) rfl ?_
      obtain ⟨hg11, h⟩ := grd_Ie h
      refine aN 7 247 rfl rfl (P_mul (a := (legs - (1 : Int))) (b := rows) rfl rfl hg11) rfl <| aN 8 503 rfl rfl (P_move rfl) rfl ?_
      obtain ⟨hg12, h⟩ := grd_Ie h
      refine aN 9 1015 rfl rfl (P_mul (a := ((legs - (1 : Int)) * rows)) (b := chunk) rfl rfl hg12) rfl <| AJ_two 3 10 1023 2039 rfl rfl (by kernel_rfl) rfl rfl (GY_none rfl) (GY_none rfl) ?_ ?_
      ·
       refine O_call (L_volumegrouplaw19_open (rfl : volumegrouplaw19_open r32.2 chunk = some (volumegrouplaw19_open_v r32.2 chunk))) rfl Tryz.call46 (Dels.cons del0 Dels.nil) rfl fun X154 _ => ⟨fun h => absurd h (by decide), ?_⟩
       obtain ⟨hg13, h⟩ := grd_de h
       refine AJ_op 10 2047 rfl (by kernel_rfl) rfl (GY_none rfl) <| O_make (t := tyU) (m := ((((legs - (1 : Int)) * rows) * chunk)).toNat) (x0 := 0) (z := _) (bytes := _) rfl rfl (Int.toNat_of_nonneg (hg13.1)).symm (Int.toNat_of_nonneg (hg13.1)).symm Tryz.underlying43 ⟨Tryz.t44, by kernel_rfl, rfl, rfl, rfl⟩ rfl (by omega) (by decide) rfl fun b434 => ⟨fun h => absurd h (by decide), ?_⟩
       obtain ⟨hg14, h⟩ := grd_de h
       refine AJ_op 11 4095 rfl (by kernel_rfl) rfl (GY_none rfl) <| O_call (c_Tracked (Reads.sl _ _ _) hg14) rfl Tryz.call47 (Dels.cons del0 Dels.nil) rfl fun X474 _ => ⟨fun h => absurd h (by decide), ?_⟩
       refine aN 12 8191 rfl rfl (P_build rfl (bld_37_0_1_3 _ _ _ _ _)) rfl <| AJ_op 13 16383 rfl (by kernel_rfl) rfl (GY_none rfl) <| O_box rfl rfl rfl fun b554 => ⟨fun h => absurd h (by decide), ?_⟩
       refine aN 14 32767 rfl rfl (P_assign rfl) rfl <| AJ_done (by kernel_rfl) <| QJ_ent (t0_ (t0_ (t1_ (t1_ (t1_ (eD (eD (eD (eD eR))))))))) <| QJ_then <| CJ_ret <| QJ_ent (fun h hh => sl_nil (t := tyI) h hh) <| QJ_ent (fun h hh => sl_nil (t := tyI) h hh) <| QJ_ent (Ent.trans (t2_ (t4_ (t4_ (Ent.trans (fun h hh => optP_none h hh) <| t0_ (t2_ (t1_ eR)))))) (OwnP_mk (v0 := (volumegrouplaw19_open_v r32.2 chunk)) (v1 := none) (v2 := (trkT ((List.replicate (((((legs - (1 : Int)) * rows) * chunk)).toNat) (0 : UInt64))))) (v3 := []) (v4 := []) (h0 := X154.1) (h1 := X154.2) (h2 := 0) (h3 := X474) (h4 := ⟨none, 0, 0⟩) (h5 := ⟨none, 0, 0⟩))) ?_
       cases h
       exact fE (res1 Tryz.results13 rfl) ⟨b554, X18⟩ eR
      ·
       obtain ⟨hg13, h⟩ := grd_de h
       refine O_make (t := tyU) (m := ((((legs - (1 : Int)) * rows) * chunk)).toNat) (x0 := 0) (z := _) (bytes := _) rfl rfl (Int.toNat_of_nonneg (hg13.1)).symm (Int.toNat_of_nonneg (hg13.1)).symm Tryz.underlying43 ⟨Tryz.t44, by kernel_rfl, rfl, rfl, rfl⟩ rfl (by omega) (by decide) rfl fun b434 => ⟨fun h => absurd h (by decide), ?_⟩
       refine AJ_op 3 2047 rfl (by kernel_rfl) rfl (GY_none rfl) <| O_call (L_volumegrouplaw19_open (rfl : volumegrouplaw19_open r32.2 chunk = some (volumegrouplaw19_open_v r32.2 chunk))) rfl Tryz.call46 (Dels.cons del1 Dels.nil) rfl fun X154 _ => ⟨fun h => absurd h (by decide), ?_⟩
       obtain ⟨hg14, h⟩ := grd_de h
       refine AJ_op 11 4095 rfl (by kernel_rfl) rfl (GY_none rfl) <| O_call (c_Tracked (Reads.sl _ _ _) hg14) rfl Tryz.call47 (Dels.cons del3 Dels.nil) rfl fun X474 _ => ⟨fun h => absurd h (by decide), ?_⟩
       refine aN 12 8191 rfl rfl (P_build rfl (bld_37_0_1_3 _ _ _ _ _)) rfl <| AJ_op 13 16383 rfl (by kernel_rfl) rfl (GY_none rfl) <| O_box rfl rfl rfl fun b554 => ⟨fun h => absurd h (by decide), ?_⟩
       refine aN 14 32767 rfl rfl (P_assign rfl) rfl <| AJ_done (by kernel_rfl) <| QJ_ent (t0_ (t0_ (t1_ (t1_ (t1_ (eD (eD (eD (eD eR))))))))) <| QJ_then <| CJ_ret <| QJ_ent (fun h hh => sl_nil (t := tyI) h hh) <| QJ_ent (fun h hh => sl_nil (t := tyI) h hh) <| QJ_ent (Ent.trans (t2_ (t4_ (t4_ (Ent.trans (fun h hh => optP_none h hh) <| t0_ (t2_ (t1_ eR)))))) (OwnP_mk (v0 := (volumegrouplaw19_open_v r32.2 chunk)) (v1 := none) (v2 := (trkT ((List.replicate (((((legs - (1 : Int)) * rows) * chunk)).toNat) (0 : UInt64))))) (v3 := []) (v4 := []) (h0 := X154.1) (h1 := X154.2) (h2 := 0) (h3 := X474) (h4 := ⟨none, 0, 0⟩) (h5 := ⟨none, 0, 0⟩))) ?_
       cases h
       exact fE (res1 Tryz.results13 rfl) ⟨b554, X18⟩ eR
def volumegrouplaw19_awake : Option (Bool) :=
  Option.bind (volumegrouplaw19_begun (3 : Int) (2 : Int) (1 : Int)) fun r1 =>
  Option.elim r1.1 (
    some false) fun o7 =>
  Option.elim r1.2 (
    none) fun o9 =>
  Option.bind (volumegroupmake_Owner_Begin o7 o9) fun r10 =>
  if (¬ r10.1 = true) then
    some false
  else
    Option.bind (volumegroupmake_Owner_Write r10.2.1 (1 : Int) (77 : UInt64) r10.2.2) fun r12 =>
    if ((r12.1 ≠ (0 : Int)) ∨ (¬ r12.2.1 = true)) then
      some false
    else
      Option.bind (volumegroupmake_Owner_Flush r12.2.2.1 r12.2.2.2) fun r18 =>
      if ((r18.1 ≠ (0 : Int)) ∨ (¬ r18.2.1 = true)) then
        some false
      else
        Option.bind (volumegroupmake_Spans r18.2.2.2) fun r28 =>
        Option.bind (parityvol_Open r28 ([(1 : Int)]) (1 : Int) r18.2.2.2) fun r35 =>
        if (r35.2.1 ≠ (0 : Int)) then
          some false
        else
          Option.elim r35.1 (
            some false) fun o44 =>
          Option.bind (parityvol_Volume_Read o44 (1 : Int) r35.2.2) fun r45 =>
          if ((r45.2.1 = (0 : Int)) ∧ (r45.1 = (77 : UInt64))) then
            Option.bind (parityvol_Volume_Size r45.2.2.1 r45.2.2.2) fun r51 =>
            if (r51 = (4 : Int)) then
              Option.bind (parityvol_Volume_Stale r45.2.2.1 r45.2.2.2) fun r53 =>
              some ((decide (((r53.length : Nat) : Int) = (1 : Int))))
            else
              some false
          else
            some false
theorem L_volumegrouplaw19_awake {W : World} {r : Bool} (h : volumegrouplaw19_awake = some r) :
    CSpec Tryz.prog W 11 [] [] (fun x : Unit => .bool r) (fun _ => True) (fun x F => F) := by
 refine CSpec.of_body Tryz.func11 rfl Tryz.ntmps11 rfl fun F => ?_
 show CJ _ _ _ _ _ _ (F)
 unfold volumegrouplaw19_awake at h
 refine sR <| oA rfl rfl <| nT <| sR ?_
 obtain ⟨r1, hr2, h⟩ := bind_e h
 refine oO <| O_call (L_volumegrouplaw19_begun hr2) rfl Tryz.call13 Dels.nil rfl fun X3 _ => oA rfl rfl <| nT <| CJ_seq <| sR <| oM rfl rfl ?_
 rcases opt_e h with ⟨ht6, h⟩ | ⟨o7, ht6, h⟩
 ·
  rw [ht6]
  refine RJ_ent (t1_ (eD eR)) <| oP (P_eqlNN rfl rfl Tryz.underlying27) rfl <| oM rfl rfl <| RJ_gn (GY_no rfl rfl rfl rfl) rfl rfl <| RJ_gn (GY_no rfl rfl rfl rfl) rfl rfl <| RJ_gn (GY_no rfl rfl rfl rfl) rfl rfl <| oP (P_pickT rfl rfl rfl) rfl <| nT <| CJ_condT rfl rfl <| sR <| oA rfl rfl <| nT <| CJ_ret <| QJ_then_ret ?_
  cases h
  exact fE (res1 Tryz.results11 rfl) () (eD eR)
 ·
  rw [ht6]
  refine RJ_ent (Ent.takeC (A' := OwnP X3.2 X3.1 o7) del0 rfl eR) <| oP (P_eqlPN rfl rfl Tryz.underlying27) rfl <| oM rfl rfl <| gP (GY_yes rfl rfl rfl rfl) (P_move rfl) rfl ?_
  rcases opt_e h with ⟨ht8, h⟩ | ⟨o9, ht8, h⟩
  ·
   rw [ht8]
   exact RJ_ent (t0_ (eD eR)) <| none_e h
  ·
   rw [ht8]
   refine RJ_ent (Ent.takeC (A' := Arr X3.2 o9) del1 rfl eR) ?_
   obtain ⟨r10, hr11, h⟩ := bind_e h
   refine RJ_gy (GY_yes rfl rfl rfl rfl) <| O_call (L_volumegroupmake_Owner_Begin hr11) rfl Tryz.call18 (Dels.cons del1 (Dels.cons del0 Dels.nil)) rfl fun _ _ => gP (GY_yes rfl rfl rfl rfl) (P_not rfl) rfl <| oP (P_pickF rfl rfl rfl) rfl <| nT <| CJ_condP rfl (bT_not Iff.rfl) (fun hg1 => ?_) (fun hg1 => ?_)
   ·
    replace h := ite_t hg1 h
    refine sR <| oA rfl rfl <| nT <| CJ_ret <| QJ_then_ret ?_
    cases h
    exact fE (res1 Tryz.results11 rfl) () (eD (eD eR))
   ·
    replace h := ite_f hg1 h
    refine kT <| CJ_seq <| sR <| oM rfl rfl ?_
    obtain ⟨r12, hr13, h⟩ := bind_e h
    refine oO <| O_call (L_volumegroupmake_Owner_Write hr13) rfl Tryz.call44 (Dels.cons del0 (Dels.cons del0 Dels.nil)) rfl fun _ _ => oM rfl rfl <| oP (P_extract rfl rfl) rfl <| oP (P_extract rfl rfl) rfl <| oA rfl rfl <| oA rfl rfl <| nT <| sR <| oM rfl rfl <| oP (P_neq (a := r12.1) (b := (0 : Int)) rfl rfl) rfl <| oM rfl rfl <| RJ_mbF rfl rfl rfl (fun hG14 => have hP15 : ¬ (r12.1 ≠ (0 : Int)) := nP (bT_dec) hG14; VJ_P (P_move rfl)) <| RJ_mbF rfl rfl rfl (fun hG16 => have hP17 : ¬ (r12.1 ≠ (0 : Int)) := nP (bT_dec) hG16; VJ_P (P_not (mbx hG16 rfl))) <| oP (P_pickOr rfl rfl (fun hh => mbx (not_f hh) rfl)) rfl <| nT <| CJ_condP rfl (bT_or bT_dec (bT_not Iff.rfl)) (fun hg2 => ?_) (fun hg2 => ?_)
    ·
     replace h := ite_t hg2 h
     refine sR <| oA rfl rfl <| nT <| CJ_ret <| QJ_then_ret ?_
     cases h
     exact fE (res1 Tryz.results11 rfl) () (eD (eD eR))
    ·
     replace h := ite_f hg2 h
     refine kT <| CJ_seq <| sR <| oM rfl rfl ?_
     obtain ⟨r18, hr19, h⟩ := bind_e h
     refine oO <| O_call (L_volumegroupmake_Owner_Flush hr19) rfl Tryz.call15 (Dels.cons del0 (Dels.cons del0 Dels.nil)) rfl fun _ _ => oM rfl rfl <| oP (P_extract rfl rfl) rfl <| oP (P_extract rfl rfl) rfl <| oA rfl rfl <| oA rfl rfl <| nT <| sR <| oM rfl rfl <| oP (P_neq (a := r18.1) (b := (0 : Int)) rfl rfl) rfl <| oM rfl rfl <| RJ_mbF rfl rfl rfl (fun hG20 => have hP21 : ¬ (r18.1 ≠ (0 : Int)) := nP (bT_dec) hG20; VJ_P (P_move rfl)) <| RJ_mbF rfl rfl rfl (fun hG22 => have hP23 : ¬ (r18.1 ≠ (0 : Int)) := nP (bT_dec) hG22; VJ_P (P_not (mbx hG22 rfl))) <| oP (P_pickOr rfl rfl (fun hh => mbx (not_f hh) rfl)) rfl <| nT <| CJ_condP rfl (bT_or bT_dec (bT_not Iff.rfl)) (fun hg3 => ?_) (fun hg3 => ?_)
     ·
      replace h := ite_t hg3 h
      refine sR <| oA rfl rfl <| nT <| CJ_ret <| QJ_then_ret ?_
      cases h
      exact fE (res1 Tryz.results11 rfl) () (eD (eD eR))
     ·
      replace h := ite_f hg3 h
      refine kT <| CJ_seq <| CJ_entX (Ent.transX (t0_ eR) (OwnP_open (l := r18.2.2.1))) fun oc24 => lC del5 fun hlen26 => lC del6 fun hlen27 => CJ_region <| oM rfl rfl <| oP (P_nilCheck rfl) rfl <| oP (P_fieldAddr rfl ⟨_, _, _, Tryz.runUnderlying37, rfl, rfl, Tryz.sizeOf30, rfl⟩) rfl <| oV (V_load rfl foc0 rfl Tryz.isAgg30) rfl ?_
      obtain ⟨r28, hr29, h⟩ := bind_e h
      refine oO <| O_call (L_volumegroupmake_Spans hr29) rfl Tryz.call24 (Dels.cons del7 Dels.nil) rfl fun X30 _ => RJ_pure (fun h hh => Rs_len (stars_perm (del2 (A := Rs (DevP X3.2) r28 X30.2)).out h hh)) fun hdl33 => oO <| O_buildSlice rfl (bs_35_1_0 _) rfl fun b34 => RJ_ent (Ent.trans (t0_ eR) (sl_of_lit (t := tyI) (m := 1) [(1 : Int)] rfl rfl rfl (by decide))) ?_
      obtain ⟨r35, hr36, h⟩ := bind_e h
      refine oO <| O_call (L_parityvol_Open (Reads.sl _ _ _) (Reads.sl _ _ _) hr36) rfl Tryz.call26 (Dels.cons del2 (Dels.cons del2 (Dels.cons del0 (Dels.cons del0 Dels.nil)))) rfl fun X37 _ => oM rfl rfl <| oP (P_extract rfl rfl) rfl <| oP (P_extract rfl rfl) rfl <| oA rfl rfl <| oA rfl rfl <| RJ_nil <| QJ_ent (Ent.trans (t5_ (t5_ (t5_ (t5_ (t5_ (t5_ (t5_ eR))))))) (OwnP_mk (v0 := r18.2.2.1.Open_1) (v1 := r18.2.2.1.X) (v2 := r18.2.2.1.T) (v3 := r18.2.2.1.Stale) (v4 := r18.2.2.1.Lost) (h0 := oc24.1) (h1 := oc24.2.1) (h2 := oc24.2.2.1) (h3 := oc24.2.2.2.1) (h4 := oc24.2.2.2.2.1) (h5 := oc24.2.2.2.2.2))) <| QJ_then <| CJ_seq <| sR <| oM rfl rfl <| oP (P_neq (a := r35.2.1) (b := (0 : Int)) rfl rfl) rfl <| oM rfl rfl <| RJ_mbF rfl rfl rfl (fun hG39 => have hP40 : ¬ (r35.2.1 ≠ (0 : Int)) := nP (bT_dec) hG39; VJ_P (P_move rfl)) <| RJ_splitP 51 rfl bT_dec (fun hg4B hg4 => ?_) (fun hg4B hg4 => ?_)
      ·
       replace h := ite_t hg4 h
       refine RJ_gn (GY_no rfl rfl rfl hg4B) rfl rfl <| oP (P_pickT rfl hg4B rfl) rfl <| nT <| CJ_condT rfl rfl <| sR <| oA rfl rfl <| nT <| CJ_ret <| QJ_then_ret ?_
       cases h
       exact fE (res1 Tryz.results11 rfl) () (eD (eD (eD (eD (eD (eD eR))))))
      ·
       replace h := ite_f hg4 h
       rcases opt_e h with ⟨ht43, h⟩ | ⟨o44, ht43, h⟩
       ·
        rw [ht43]
        refine RJ_ent (t0_ (t0_ (t0_ (t0_ (t0_ (eD eR)))))) <| gP (GY_yes rfl rfl rfl hg4B) (P_eqlNN (mbx (not_f hg4B) rfl) rfl Tryz.underlying65) rfl <| oP (P_pickF rfl hg4B rfl) rfl <| nT <| CJ_condT rfl rfl <| sR <| oA rfl rfl <| nT <| CJ_ret <| QJ_then_ret ?_
        cases h
        exact fE (res1 Tryz.results11 rfl) () (eD (eD (eD (eD (eD eR)))))
       ·
        rw [ht43]
        refine RJ_ent (Ent.takeC (A' := VolP X3.2 X37 o44) del5 rfl eR) <| gP (GY_yes rfl rfl rfl hg4B) (P_eqlPN (mbx (not_f hg4B) rfl) rfl Tryz.underlying65) rfl <| oP (P_pickF rfl hg4B rfl) rfl <| nT <| CJ_condF rfl rfl <| kT <| sR <| oM rfl rfl ?_
        obtain ⟨r45, hr46, h⟩ := bind_e h
        refine oO <| O_call (L_parityvol_Volume_Read hr46) rfl Tryz.call28 (Dels.cons del0 (Dels.cons del4 Dels.nil)) rfl fun _ _ => oM rfl rfl <| oP (P_extract rfl rfl) rfl <| oP (P_extract rfl rfl) rfl <| oA rfl rfl <| oA rfl rfl <| nT <| sR <| oM rfl rfl <| oP (P_eql (a := r45.2.1) (b := (0 : Int)) rfl rfl) rfl <| oM rfl rfl <| RJ_mbT rfl rfl rfl (fun hG47 => have hP48 : (r45.2.1 = (0 : Int)) := (bT_dec).1 hG47; VJ_P (P_move rfl)) <| RJ_mbT rfl rfl rfl (fun hG49 => have hP50 : (r45.2.1 = (0 : Int)) := (bT_dec).1 hG49; VJ_P (P_eq_u64 (a := r45.1) (b := (77 : UInt64)) (mbx hG49 rfl) rfl)) <| oP (P_pickAnd rfl (fun hh => mbx hh rfl) rfl) rfl <| oM rfl rfl <| RJ_splitP 66 rfl (bT_and bT_dec bT_dec) (fun hg5B hg5 => ?_) (fun hg5B hg5 => ?_)
        ·
         replace h := ite_t hg5 h
         refine gP (GY_yes rfl rfl rfl hg5B) (P_move rfl) rfl ?_
         obtain ⟨r51, hr52, h⟩ := bind_e h
         refine RJ_gy (GY_yes rfl rfl rfl hg5B) <| O_call (L_parityvol_Volume_Size hr52) rfl Tryz.call31 (Dels.cons del0 (Dels.cons del0 Dels.nil)) rfl fun _ _ => gP (GY_yes rfl rfl rfl hg5B) (P_eql (a := r51) (b := (4 : Int)) rfl rfl) rfl <| oP (P_pickT rfl hg5B rfl) rfl <| oM rfl rfl <| RJ_splitP 71 rfl bT_dec (fun hg6B hg6 => ?_) (fun hg6B hg6 => ?_)
         ·
          replace h := ite_t hg6 h
          refine gP (GY_yes rfl rfl rfl hg6B) (P_move rfl) rfl ?_
          obtain ⟨r53, hr54, h⟩ := bind_e h
          refine RJ_gy (GY_yes rfl rfl rfl hg6B) <| O_call (L_parityvol_Volume_Stale hr54) rfl Tryz.call39 (Dels.cons del0 (Dels.cons del0 Dels.nil)) rfl fun X55 _ => gV (GY_yes rfl rfl rfl hg6B) (V_len rfl foc2 (Reads.sl _ _ _) Tryz.runUnderlying35) rfl <| gP (GY_yes rfl rfl rfl hg6B) (P_eql (a := ((r53.length : Nat) : Int)) (b := (1 : Int)) rfl rfl) rfl <| oP (P_pickT rfl hg6B rfl) rfl <| oA rfl rfl <| RJ_nil <| QJ_ent (t1_ (eD (eD (eD (eD (eD (eD eR))))))) <| QJ_then <| CJ_ret ?_
          cases h
          exact fE (res1 Tryz.results11 rfl) () (eD eR)
         ·
          replace h := ite_f hg6 h
          refine RJ_gn (GY_no rfl rfl rfl hg6B) rfl rfl <| RJ_gn (GY_no rfl rfl rfl hg6B) rfl rfl <| RJ_gn (GY_no rfl rfl rfl hg6B) rfl rfl <| RJ_gn (GY_no rfl rfl rfl hg6B) rfl rfl <| oP (P_pickF rfl hg6B rfl) rfl <| oA rfl rfl <| nT <| CJ_ret ?_
          cases h
          exact fE (res1 Tryz.results11 rfl) () (eD (eD (eD (eD (eD (eD eR))))))
        ·
         replace h := ite_f hg5 h
         refine RJ_gn (GY_no rfl rfl rfl hg5B) rfl rfl <| RJ_gn (GY_no rfl rfl rfl hg5B) rfl rfl <| RJ_gn (GY_no rfl rfl rfl hg5B) rfl rfl <| oP (P_pickF rfl hg5B rfl) rfl <| oM rfl rfl <| RJ_gn (GY_no rfl rfl rfl rfl) rfl rfl <| RJ_gn (GY_no rfl rfl rfl rfl) rfl rfl <| RJ_gn (GY_no rfl rfl rfl rfl) rfl rfl <| RJ_gn (GY_no rfl rfl rfl rfl) rfl rfl <| oP (P_pickF rfl rfl rfl) rfl <| oA rfl rfl <| nT <| CJ_ret ?_
         cases h
         exact fE (res1 Tryz.results11 rfl) () (eD (eD (eD (eD (eD (eD eR))))))
end Go.Proofs
namespace Go.Proofs
open Go.VG
theorem awake19 : volumegrouplaw19_awake = some true := by kernel_rfl
def stN (L R c : Nat) : ArrS := ⟨List.replicate L ⟨List.replicate (16 + R * c) 0, List.replicate (16 + R * c) 0, false⟩, [], [], 0, false, L * (16 + R * c)⟩
def owN (L R c : Nat) : OwnS := ⟨(c : Int), none, trkT (List.replicate ((L - 1) * R * c) 0), [], []⟩
theorem bg311 : volumegrouplaw19_begun 3 1 1 = some (some (owN 3 1 1), some (stN 3 1 1)) := by kernel_rfl
theorem bg312 : volumegrouplaw19_begun 3 1 2 = some (some (owN 3 1 2), some (stN 3 1 2)) := by kernel_rfl
theorem bg321 : volumegrouplaw19_begun 3 2 1 = some (some (owN 3 2 1), some (stN 3 2 1)) := by kernel_rfl
theorem bg322 : volumegrouplaw19_begun 3 2 2 = some (some (owN 3 2 2), some (stN 3 2 2)) := by kernel_rfl
theorem bg331 : volumegrouplaw19_begun 3 3 1 = some (some (owN 3 3 1), some (stN 3 3 1)) := by kernel_rfl
theorem bg332 : volumegrouplaw19_begun 3 3 2 = some (some (owN 3 3 2), some (stN 3 3 2)) := by kernel_rfl
theorem bg411 : volumegrouplaw19_begun 4 1 1 = some (some (owN 4 1 1), some (stN 4 1 1)) := by kernel_rfl
theorem bg412 : volumegrouplaw19_begun 4 1 2 = some (some (owN 4 1 2), some (stN 4 1 2)) := by kernel_rfl
theorem bg421 : volumegrouplaw19_begun 4 2 1 = some (some (owN 4 2 1), some (stN 4 2 1)) := by kernel_rfl
theorem bg422 : volumegrouplaw19_begun 4 2 2 = some (some (owN 4 2 2), some (stN 4 2 2)) := by kernel_rfl
theorem bg431 : volumegrouplaw19_begun 4 3 1 = some (some (owN 4 3 1), some (stN 4 3 1)) := by kernel_rfl
theorem bg432 : volumegrouplaw19_begun 4 3 2 = some (some (owN 4 3 2), some (stN 4 3 2)) := by kernel_rfl
def stB (C : PC) : ArrS := ⟨List.replicate C.L ⟨List.replicate C.sz 0, List.replicate C.sz 0, false⟩, [], [], 0, false, C.L * C.sz⟩
def owB (C : PC) : OwnS := ⟨(C.c : Int), none, trkT (List.replicate C.D 0), [], []⟩
theorem begunP_eq (C : PC) : volumegrouplaw19_begun (C.L : Int) (C.R : Int) (C.c : Int) = some (some (owB C), some (stB C)) := by
  have h1 := C.hL
  have h2 := C.hR
  have h6 := C.hc
  have e1 : owB C = owN C.L C.R C.c := rfl
  have e2 : stB C = stN C.L C.R C.c := rfl
  have h3 : C.R = 1 ∨ C.R = 2 ∨ C.R = 3 := by omega
  have h4 : C.c = 1 ∨ C.c = 2 := by omega
  have h5 : C.L = 3 ∨ C.L = 4 := by omega
  rw [e1, e2]
  rcases h3 with h3 | h3 | h3 <;> rcases h4 with h4 | h4 <;> rcases h5 with h5 | h5 <;> rw [h3, h4, h5]
  · exact bg311
  · exact bg411
  · exact bg312
  · exact bg412
  · exact bg321
  · exact bg421
  · exact bg322
  · exact bg422
  · exact bg331
  · exact bg431
  · exact bg332
  · exact bg432
section
variable {C : PC} {a d b : Nat}
theorem nowB : now (stB C) d b = 0 := by
  show (((stB C).drv.getD d d0).now).getD b 0 = 0
  unfold stB
  simp only [List.getD, List.getElem?_replicate]
  split <;> simp [d0, List.getElem?_replicate]
  split <;> rfl
theorem durB : dur (stB C) d b = 0 := by
  show (((stB C).drv.getD d d0).dur).getD b 0 = 0
  unfold stB
  simp only [List.getD, List.getElem?_replicate]
  split <;> simp [d0, List.getElem?_replicate]
  split <;> rfl
theorem candB : cand (stB C) d b = [0] := by
  show dur (stB C) d b :: pendR [] d b = _
  rw [durB]; rfl
theorem arrB : ArrOk C.ns 500 (stB C) := by
  have hz := @PC.hsz C
  have hL := C.hL
  have hims : (List.replicate C.L (List.replicate C.sz (0 : UInt64))).map (fun im => (⟨im, im, false⟩ : Drive)) = List.replicate C.L ⟨List.replicate C.sz 0, List.replicate C.sz 0, false⟩ := by rw [List.map_replicate]
  have hs : stB C = { mkS (List.replicate C.L (List.replicate C.sz 0)) with writes := C.L * C.sz } := by
    unfold stB mkS; rw [hims]
  have hns : lensN (List.replicate C.L (List.replicate C.sz (0 : UInt64))) = C.ns := by
    unfold lensN PC.ns; rw [List.map_replicate, List.length_replicate]
  have h1 := inSz_mkS (ims := List.replicate C.L (List.replicate C.sz (0 : UInt64)))
  rw [hns] at h1
  have hc := coh_mkS (ims := List.replicate C.L (List.replicate C.sz (0 : UInt64)))
  have hw : C.L * C.sz ≤ 4 * 22 := Nat.mul_le_mul hL.2 hz.2
  rw [hs]
  exact ⟨⟨h1.cnt, h1.size, by show C.L * C.sz ≤ _; omega⟩, by show C.L * C.sz ≤ _; omega, ⟨hc.len, hc.last, hc.log⟩, rfl⟩
theorem missB {e : Nat} : miss (stB C) e = false := by
  show ((stB C).drv.getD e d0).miss = false
  unfold stB
  simp only [List.getD, List.getElem?_replicate]
  split <;> rfl
theorem envB : PEn C (fun _ => false) False 500 (stB C) := ⟨arrB, rfl, fun _ => missB, fun _ => rfl⟩
theorem xr_zero : ∀ {n : Nat}, xr (fun _ => 0) n = 0
  | 0 => rfl
  | n + 1 => by
    show xr (fun _ => 0) n ^^^ 0 = 0
    rw [xr_zero, UInt64.xor_zero]
theorem jvB : JV C (fun _ _ => 0) 0 ⟨0, 0, 0, 0⟩ := ⟨fun _ _ => xr_zero, fun h => absurd rfl h, by decide⟩
theorem rcB : Rr C none (fun _ _ => 0) 0 ⟨0, 0, 0, 0⟩ (stB C) := by
  have hL := C.hL
  refine ⟨fun d _ _ => ?_, fun d _ _ _ h => absurd rfl h, fun d _ _ o _ _ => nowB, ⟨0, by omega, by simp, nowB⟩, fun d b => ?_⟩
  · show (now (stB C) d 0).toNat ≤ _
    rw [nowB]; exact Nat.le_refl _
  · rw [candB, nowB]
theorem owB_ok : OwI C none none (fun _ => false) (owB C) := ⟨rfl, rfl, rfl, fun _ h => (by cases h), .inl rfl, fun _ h => (by cases h)⟩
theorem trkB (h : a < C.D) : (owB C).T.getD a s0 = mkSec 0 := by
  show (trkT (List.replicate C.D 0)).getD a s0 = _
  unfold trkT
  rw [List.map_replicate]
  simp [List.getD, List.getElem?_replicate, h]
theorem tiB : TI C (owB C).T (fun _ _ => 0) := ⟨fun a ha => by rw [trkB ha]; exact List.mem_singleton.2 rfl, fun a ha _ => by rw [trkB ha]; rfl⟩
theorem tlB : TL C 500 (owB C).T := ⟨by show (trkT (List.replicate C.D 0)).length = _; unfold trkT; simp, fun a ha => by rw [trkB ha]; simp [mkSec]⟩
end
theorem u8modP {n k : UInt8} (hk : 0 < k.toNat) : (n % k).toNat < k.toNat := by rw [UInt8.toNat_mod]; exact Nat.mod_lt _ hk
def CP (n : UInt8) : PC where
  L := 3 + (n % 2).toNat
  R := 1 + ((n / 2) % 3).toNat
  c := 1 + ((n / 8) % 2).toNat
  hL := by have := @u8modP n 2 (by decide); have e : (2 : UInt8).toNat = 2 := rfl; omega
  hR := by have := @u8modP (n / 2) 3 (by decide); have e : (3 : UInt8).toNat = 3 := rfl; omega
  hc := by have := @u8modP (n / 8) 2 (by decide); have e : (2 : UInt8).toNat = 2 := rfl; omega
end Go.Proofs
namespace Go.Proofs
open Go.VG
def Fr (st : Option Nat) (s t : ArrS) : Prop := ∀ d, st = some d → ∀ b, now t d b = now s d b
def Fi (C : PC) (st : Option Nat) (k : Nat) (V : Nat → Nat → UInt64) (s : ArrS) : Prop := ∀ d, st = some d → ∀ o, o < C.O → o / C.c < k → now s d (16 + o) = V d o
section
variable {C : PC} {V V' : Nat → Nat → UInt64} {st fl : Option Nat} {qo q q' : UInt64} {e e' : PE} {hp hn hp' hn' : UInt64 → Prop} {x x' : Nat → Nat → Prop} {nwP nwP' bc bc' : Prop} {bn bn' k i d f o a : Nat} {mz : Nat → Bool} {K K' : Nat} {r s t u : ArrS} {v w : UInt64} {p : Bool}
theorem Fr.refl : Fr st s s := fun _ _ _ => rfl
theorem Fr.trans (h : Fr st s t) (h1 : Fr st t u) : Fr st s u := fun d hd b => (h1 d hd b).trans (h d hd b)
theorem Fr.upd (hu : Upd s t i a v) (hi : st ≠ some i) : Fr st s t := fun d hd b => by rw [hu.now, if_neg (fun z => hi (by rw [hd, z.1]))]
theorem Fr.fls (hu : Fls C s t i) : Fr st s t := fun d _ b => hu.now d b
theorem Fi.fr (h : Fi C st k V s) (hf : Fr st s t) : Fi C st k V t := fun d hd o ho hk => by rw [hf d hd]; exact h d hd o ho hk
theorem PEn.wrR (hm : ∀ i, mz i = false) (h : PEn C mz False K s) (hK : K ≤ 900000) (hd : d < C.L) (ha : a < C.sz) : ∃ t, (xL d C.sz).wr s (a : Int) v = some (0, t) ∧ PEn C mz False (K + 1) t ∧ Upd s t d a v := by
  rcases h.wr (v := v) hK hd ha (hm d) with y | ⟨t, -, y, -⟩
  · exact y
  · exact y.f.elim
theorem all_ruleR {on : VolS → Int → ArrS → Option (Int × VolS × ArrS)} {g : Nat → ArrS → VolS → Nat → Option ((VolS × ArrS) ⊕ (Int × VolS × ArrS))} (hf : ∀ n s v i, g (n + 1) s v i = allB (vol C st none q e p k) on (g n) s v i) {I : Nat → ArrS → Prop}
    (hstep : ∀ i s, i < C.L → st ≠ some i → I i s → ∃ t, on (vol C st none q e p k) (i : Int) s = some (0, vol C st none q e p k, t) ∧ I (i + 1) t) (hskip : ∀ i s, i < C.L → st = some i → I i s → I (i + 1) s) (h0 : I 0 s) : ∃ t, g FUEL s (vol C st none q e p k) 0 = some (.inl (vol C st none q e p k, t)) ∧ I C.L t := by
  have hF := fuel_big
  have hL := C.hL
  rcases all_rule (mz := fun _ => false) (G := fun _ => False) hf (fun i s h1 h2 h3 => .inl (hstep i s h1 h2 h3)) hskip FUEL 0 s (by omega) (by omega) h0 with y | ⟨_, _, y⟩ | ⟨j, _, _, y, _⟩
  · exact y
  · exact y.elim
  · cases y
end
end Go.Proofs
