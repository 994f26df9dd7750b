/- YteboelcolfoddaaLRef20: lifted functions of the program; printed by lift.py. -/
import Derived.Test.YteboelcolfoddaaLLog
set_option linter.unusedSimpArgs false
set_option linter.unusedVariables false
set_option maxRecDepth 20000
set_option maxHeartbeats 4000000
namespace Go.Proofs
open Go.VG

def volumegroupref20_Head (regions : Int) : Option (UInt64) :=
  some (((5498691735368237056 : UInt64) + (to_u64 regions)))

theorem L_volumegroupref20_Head {W : World} {regions : Int} {r : UInt64} (h : volumegroupref20_Head regions = some r) :
    CSpec Try.prog W 8 [.int .i64 regions] [] (fun x : Unit => .int .u64 (r.toNat : Int)) (fun _ => True) (fun x F => F) := by
  refine CSpec.of_body Try.func8 rfl Try.ntmps8 rfl (fun F => ?_)
  show CJ _ _ _ _ _ _ (F)
  unfold volumegroupref20_Head at h
  refine CJ_seq ?_
  refine CJ_region ?_
  refine RJ_op rfl (OJ_P (P_assign rfl) rfl ?_)
  refine RJ_nil ?_
  refine QJ_then ?_
  refine CJ_seq ?_
  refine CJ_region ?_
  refine RJ_op rfl (OJ_P (P_move rfl) rfl ?_)
  refine RJ_op rfl (OJ_P (P_conv_u64 (a := regions) rfl Try.runUnderlying3 Try.runUnderlying27) rfl ?_)
  refine RJ_op rfl (OJ_P (P_add_u64 (a := (5498691735368237056 : UInt64)) (b := (to_u64 regions)) rfl rfl) rfl ?_)
  refine RJ_op rfl (OJ_P (P_assign rfl) rfl ?_)
  refine RJ_nil ?_
  refine QJ_then ?_
  refine CJ_ret ?_
  have hE := Option.some.inj h
  subst hE
  refine QJ_end (res1 Try.results8 rfl) ?_
  refine CSpec.close () ?_ ?_ Ent.refl
  · rfl
  · trivial

def volumegroupref20_Words (regions : Int) : Option (Int) :=
  if ((regions < (1 : Int)) ∨ ((1048576 : Int) < regions)) then
    some (0 : Int)
  else
    some (((1 : Int) + ((regions + (63 : Int)) / (64 : Int))))

theorem L_volumegroupref20_Words {W : World} {regions : Int} {r : Int} (h : volumegroupref20_Words regions = some r) :
    CSpec Try.prog W 7 [.int .i64 regions] [] (fun x : Unit => .int .i64 r) (fun _ => True) (fun x F => F) := by
  refine CSpec.of_body Try.func7 rfl Try.ntmps7 rfl (fun F => ?_)
  show CJ _ _ _ _ _ _ (F)
  unfold volumegroupref20_Words at h
  refine CJ_seq ?_
  refine CJ_region ?_
  refine RJ_op rfl (OJ_P (P_assign rfl) rfl ?_)
  refine RJ_nil ?_
  refine QJ_then ?_
  refine CJ_seq ?_
  refine CJ_seq ?_
  refine CJ_region ?_
  refine RJ_op rfl (OJ_P (P_move rfl) rfl ?_)
  refine RJ_op rfl (OJ_P (P_lss (a := regions) (b := (1 : Int)) rfl rfl) rfl ?_)
  refine RJ_op rfl (OJ_P (P_move rfl) rfl ?_)
  refine RJ_mbF rfl rfl rfl (fun hG1 => have hP2 : ¬ (regions < (1 : Int)) := nP (bT_dec) hG1; VJ_P (P_move rfl)) ?_
  refine RJ_mbF rfl rfl rfl (fun hG3 => have hP4 : ¬ (regions < (1 : Int)) := nP (bT_dec) hG3; VJ_P (P_gtr (a := regions) (b := (1048576 : Int)) (mbx hG3 rfl) rfl)) ?_
  refine RJ_op rfl (OJ_P (P_pickOr rfl rfl (fun hh => mbx (not_f hh) rfl)) rfl ?_)
  refine RJ_nil ?_
  refine QJ_then ?_
  refine CJ_condP rfl (bT_or bT_dec bT_dec) (fun hg1 => ?_) (fun hg1 => ?_)
  ·
    replace h := ite_t hg1 h
    refine CJ_seq ?_
    refine CJ_region ?_
    refine RJ_op rfl (OJ_P (P_assign rfl) rfl ?_)
    refine RJ_nil ?_
    refine QJ_then ?_
    refine CJ_ret ?_
    refine QJ_then_ret ?_
    have hE := Option.some.inj h
    subst hE
    refine QJ_end (res1 Try.results7 rfl) ?_
    refine CSpec.close () ?_ ?_ Ent.refl
    · rfl
    · trivial
  ·
    replace h := ite_f hg1 h
    refine CJ_skip ?_
    refine QJ_then ?_
    refine CJ_seq ?_
    refine CJ_region ?_
    refine RJ_op rfl (OJ_P (P_move rfl) rfl ?_)
    refine RJ_op rfl (OJ_P (P_add (a := regions) (b := (63 : Int)) rfl rfl (by omega)) rfl ?_)
    refine RJ_op rfl (OJ_P (P_quo (a := (regions + (63 : Int))) (b := (64 : Int)) rfl rfl (by omega)) rfl ?_)
    refine RJ_op rfl (OJ_P (P_add (a := (1 : Int)) (b := ((regions + (63 : Int)) / (64 : Int))) rfl rfl (by omega)) rfl ?_)
    refine RJ_op rfl (OJ_P (P_assign rfl) rfl ?_)
    refine RJ_nil ?_
    refine QJ_then ?_
    refine CJ_ret ?_
    have hE := Option.some.inj h
    subst hE
    refine QJ_end (res1 Try.results7 rfl) ?_
    refine CSpec.close () ?_ ?_ Ent.refl
    · rfl
    · trivial

def volumegroupref20_Dirty_l1_b (bitmap : List UInt64) (regions : Int) (rec : (List Int) → Nat → Option ((List Int))) (x9 : List Int) (x11 : Nat) : Option ((List Int)) :=
  if ((((x11 : Nat) : Int) < regions) ∧ ((IntKind.i64.wrap ((((x11 : Nat) : Int)).tdiv (64 : Int))) < ((bitmap.length : Nat) : Int))) then
    grd (decide (0 ≤ (IntKind.i64.wrap ((((x11 : Nat) : Int)).tdiv (64 : Int))) ∧ (IntKind.i64.wrap ((((x11 : Nat) : Int)).tdiv (64 : Int))) < (bitmap.length : Int))) <|
    lt ((bitmap.getD (((IntKind.i64.wrap ((((x11 : Nat) : Int)).tdiv (64 : Int)))).toNat) 0)) fun w23 =>
    if (((shr_u64 w23 (x11 % 64)) &&& (1 : UInt64)) = (1 : UInt64)) then
      grd (inLen (x9.length + 1)) <|
      grd (inN64 (x11 + 1)) <|
      rec ((x9 ++ [((x11 : Nat) : Int)])) (x11 + 1)
    else
      grd (inN64 (x11 + 1)) <|
      rec x9 (x11 + 1)
  else
    some x9

def volumegroupref20_Dirty_l1 (bitmap : List UInt64) (regions : Int) : Nat → (List Int) → Nat → Option ((List Int))
  | 0, _, _ => none
  | n + 1, x9, x11 => volumegroupref20_Dirty_l1_b bitmap regions (volumegroupref20_Dirty_l1 bitmap regions n) x9 x11

def volumegroupref20_Dirty (bitmap : List UInt64) (regions : Int) : Option ((List Int)) :=
  Option.bind (volumegroupref20_Dirty_l1 bitmap regions FUEL ([]) 0) fun a8 =>
  some a8

theorem L_volumegroupref20_Dirty {W : World} {Abitmap : HP} {vbitmap : Value} {bitmap : List UInt64} {regions : Int} {r : (List Int)} (rbitmap : Reads Abitmap tyU vbitmap bitmap) (h : volumegroupref20_Dirty bitmap regions = some r) :
    CSpec Try.prog W 15 [vbitmap, .int .i64 regions] [Abitmap] (fun x : Sl3 => x.v) (fun _ => True) (fun x F => Abitmap :: sl tyI x.v r :: F) := by
  refine CSpec.of_body Try.func15 rfl Try.ntmps15 rfl (fun F => ?_)
  show CJ _ _ _ _ _ _ (_ :: F)
  unfold volumegroupref20_Dirty at h
  refine CJ_pure (len_of rbitmap del0) (fun hlen1 => ?_)
  refine CJ_seq ?_
  refine CJ_region ?_
  refine RJ_op rfl (OJ_P (P_assign rfl) rfl ?_)
  refine RJ_nil ?_
  refine QJ_then ?_
  refine CJ_seq ?_
  refine CJ_region ?_
  refine RJ_op rfl (OJ_P (P_assign rfl) rfl ?_)
  refine RJ_nil ?_
  refine QJ_then ?_
  refine CJ_seq ?_
  refine CJ_seq ?_
  refine CJ_region ?_
  refine RJ_op rfl (OJ_P (P_assign rfl) rfl ?_)
  refine RJ_nil ?_
  refine QJ_then ?_
  refine CJ_ent (fun h hh => sl_nil (t := tyI) h hh) ?_
  obtain ⟨y5, hl3, hK4⟩ := bind_c h
  refine CJ_cutT (X := (List Int) × Sl3) [5, 6, 7, 8, 9, 10, 11, 12, 13, 14, 15, 16, 17, 18, 19, 20, 21, 22, 23, 24, 25, 26, 27, 28, 29, 30, 31, 32] (fun ⟨a8, hd7⟩ => ([(5, hd7.v)] : Slots)) (fun ⟨a8, hd7⟩ R => sl tyI hd7.v a8 :: R) (fun ⟨a8, hd7⟩ => y5 = a8) (Dels.cons del0 Dels.nil) ?_ ?_
  ·
    refine CJ_block ?_
    refine CJ_loopR (X := Nat × (List Int) × Nat × Sl3) [5, 6, 7, 8, 9, 10, 11, 12, 13, 14, 15, 16, 17, 18, 19, 20, 21, 22, 23, 24, 25, 26, 27, 28, 29, 30, 31, 32] (fun ⟨n, x9, x11, hd10⟩ => ([(5, hd10.v), (6, .int .i64 (((x11 : Nat) : Int)))] : Slots)) (fun ⟨n, x9, x11, hd10⟩ R => sl tyI hd10.v x9 :: R) (fun ⟨n, x9, x11, hd10⟩ => volumegroupref20_Dirty_l1 bitmap regions n x9 x11 = some y5) (fun ⟨n, x9, x11, hd10⟩ => n) ⟨FUEL, [], 0, ⟨none, 0, 0⟩⟩ ?_ ?_ Ent.refl ?_
    · exact hl3
    · exact ⟨rfl, rfl, True.intro⟩
    ·
      rintro ⟨n, x9, x11, hd10⟩ h
      cases n with
      | zero => exact none_e h
      | succ n => ?_
      replace h : volumegroupref20_Dirty_l1_b bitmap regions (volumegroupref20_Dirty_l1 bitmap regions n) x9 x11 = some y5 := h
      unfold volumegroupref20_Dirty_l1_b at h
      show CJ _ _ _ _ _ (([(5, hd10.v), (6, .int .i64 (((x11 : Nat) : Int)))] : Slots) ++ forget _ _) (sl tyI hd10.v x9 :: _)
      refine CJ_pure (len_of (Reads.sl _ _ _) del0) (fun hlen12 => ?_)
      refine CJ_seq ?_
      refine CJ_seq ?_
      refine CJ_region ?_
      refine RJ_op rfl (OJ_P (P_move rfl) rfl ?_)
      refine RJ_op rfl (OJ_P (P_move rfl) rfl ?_)
      refine RJ_op rfl (OJ_P (P_lss (a := ((x11 : Nat) : Int)) (b := regions) rfl rfl) rfl ?_)
      refine RJ_op rfl (OJ_P (P_move rfl) rfl ?_)
      refine RJ_mbT rfl rfl rfl (fun hG13 => have hP14 : (((x11 : Nat) : Int) < regions) := (bT_dec).1 hG13; VJ_P (P_move rfl)) ?_
      refine RJ_mbT rfl rfl rfl (fun hG15 => have hP16 : (((x11 : Nat) : Int) < regions) := (bT_dec).1 hG15; VJ_P (P_quoT (a := ((x11 : Nat) : Int)) (b := (64 : Int)) (mbx hG15 rfl) rfl (by decide))) ?_
      refine RJ_mbT rfl rfl rfl (fun hG17 => have hP18 : (((x11 : Nat) : Int) < regions) := (bT_dec).1 hG17; VJ_P (P_move rfl)) ?_
      refine RJ_mbT rfl rfl rfl (fun hG19 => have hP20 : (((x11 : Nat) : Int) < regions) := (bT_dec).1 hG19; V_len (mbx hG19 rfl) foc1 rbitmap Try.runUnderlying22) ?_
      refine RJ_mbT rfl rfl rfl (fun hG21 => have hP22 : (((x11 : Nat) : Int) < regions) := (bT_dec).1 hG21; VJ_P (P_lss (a := (IntKind.i64.wrap ((((x11 : Nat) : Int)).tdiv (64 : Int)))) (b := ((bitmap.length : Nat) : Int)) (mbx hG21 rfl) (mbx hG21 rfl))) ?_
      refine RJ_op rfl (OJ_P (P_pickAnd rfl (fun hh => mbx hh rfl) rfl) rfl ?_)
      refine RJ_nil ?_
      refine QJ_then ?_
      refine CJ_condP rfl (bT_and bT_dec bT_dec) (fun hg1 => ?_) (fun hg1 => ?_)
      ·
        replace h := ite_t hg1 h
        refine CJ_skip ?_
        refine QJ_then ?_
        refine CJ_seq ?_
        refine CJ_block ?_
        refine CJ_seq ?_
        refine CJ_region ?_
        refine RJ_op rfl (OJ_P (P_move rfl) rfl ?_)
        refine RJ_op rfl (OJ_P (P_move rfl) rfl ?_)
        refine RJ_op rfl (OJ_P (P_quoT (a := ((x11 : Nat) : Int)) (b := (64 : Int)) rfl rfl (by decide)) rfl ?_)
        obtain ⟨hg2, h⟩ := grd_de h
        refine RJ_op rfl (OJ_V (V_index (i := ((IntKind.i64.wrap ((((x11 : Nat) : Int)).tdiv (64 : Int)))).toNat) rfl rfl (Int.toNat_of_nonneg (hg2.1)).symm (by omega) foc1 rbitmap Try.runUnderlying22 Try.sizeOf27) rfl ?_)
        refine RJ_op rfl (OJ_V (V_loadE rfl rfl (by omega) foc1 rbitmap rfl rfl Try.isAgg27) rfl ?_)
        obtain ⟨w23, hw23, h⟩ := lt_e h
        rw [← hw23]
        refine RJ_op rfl (OJ_P (P_move rfl) rfl ?_)
        refine RJ_op rfl (OJ_P (PJ_eq (P_rem (a := ((x11 : Nat) : Int)) (b := (64 : Int)) rfl rfl (by omega)) rfl) rfl ?_)
        refine RJ_op rfl (OJ_P (P_shr_u64 (a := w23) (m := (x11 % 64)) rfl rfl rfl) rfl ?_)
        refine RJ_op rfl (OJ_P (P_and_u64 (a := (shr_u64 w23 (x11 % 64))) (b := (1 : UInt64)) rfl rfl) rfl ?_)
        refine RJ_op rfl (OJ_P (P_eq_u64 (a := ((shr_u64 w23 (x11 % 64)) &&& (1 : UInt64))) (b := (1 : UInt64)) rfl rfl) rfl ?_)
        refine RJ_nil ?_
        refine QJ_then ?_
        refine CJ_condP rfl bT_dec (fun hg3 => ?_) (fun hg3 => ?_)
        ·
          replace h := ite_t hg3 h
          refine CJ_region ?_
          refine RJ_op rfl (OJ_P (P_move rfl) rfl ?_)
          refine RJ_op rfl (OJ_P (P_move rfl) rfl ?_)
          refine RJ_op rfl (O_buildSlice rfl (bs_24_1_0 _) rfl (fun b24 => ?_))
          obtain ⟨hg4, h⟩ := grd_Le h
          refine RJ_op rfl (O_append (t := tyI) (bytes := 8) rfl rfl del1 foc0 (Reads.lit (t := tyI) (ys := [((x11 : Nat) : Int)]) rfl rfl (by decide) (by decide) rfl) Try.underlying24 ok_tyI (apl (m := 1) (b := 8) hg4 (by decide)).1 (apl (m := 1) (b := 8) hg4 (by decide)).2 rfl (fun p26 c27 => ?_))
          refine RJ_op rfl (OJ_P (P_assign rfl) rfl ?_)
          refine RJ_nil ?_
          refine QJ_block_normal ?_
          refine QJ_then ?_
          refine CJ_region ?_
          refine RJ_op rfl (OJ_P (P_move rfl) rfl ?_)
          obtain ⟨hg5, h⟩ := grd_Ne h
          refine RJ_op rfl (OJ_P (PJ_eq (P_add (a := ((x11 : Nat) : Int)) (b := (1 : Int)) rfl rfl (nat_in hg5)) rfl) rfl ?_)
          refine RJ_op rfl (OJ_P (P_assign rfl) rfl ?_)
          refine RJ_nil ?_
          refine QJ_nextR ⟨n, (x9 ++ [((x11 : Nat) : Int)]), (x11 + 1), ⟨p26, (x9 ++ [((x11 : Nat) : Int)]).length, c27⟩⟩ (Nat.lt_succ_self _) ?_ (by repeat (first | exact Kp.base | exact Kp.self | refine Kp.cons rfl ?_ | refine Kp.forget rfl ?_)) ?_ (Ent.take del0 (Ent.take del1 (Ent.drop Ent.refl)))
          · exact h
          · exact ⟨rfl, rfl, True.intro⟩
        ·
          replace h := ite_f hg3 h
          refine CJ_skip ?_
          refine QJ_block_normal ?_
          refine QJ_then ?_
          refine CJ_region ?_
          refine RJ_op rfl (OJ_P (P_move rfl) rfl ?_)
          obtain ⟨hg6, h⟩ := grd_Ne h
          refine RJ_op rfl (OJ_P (PJ_eq (P_add (a := ((x11 : Nat) : Int)) (b := (1 : Int)) rfl rfl (nat_in hg6)) rfl) rfl ?_)
          refine RJ_op rfl (OJ_P (P_assign rfl) rfl ?_)
          refine RJ_nil ?_
          refine QJ_nextR ⟨n, x9, (x11 + 1), hd10⟩ (Nat.lt_succ_self _) ?_ (by repeat (first | exact Kp.base | exact Kp.self | refine Kp.cons rfl ?_ | refine Kp.forget rfl ?_)) ?_ Ent.refl
          · exact h
          · exact ⟨rfl, rfl, True.intro⟩
      ·
        replace h := ite_f hg1 h
        refine CJ_exit ?_
        refine QJ_then_exit ?_
        refine QJ_round_exit ?_
        refine QJ_block_here ?_
        refine QJ_cutR ⟨x9, hd10⟩ ?_ (by repeat (first | exact Kp.base | exact Kp.self | refine Kp.cons rfl ?_ | refine Kp.forget rfl ?_)) ?_ Ent.refl
        · exact (Option.some.inj h).symm
        · exact ⟨rfl, True.intro⟩
  ·
    rintro ⟨a8, hd7⟩ hy28
    replace h := bindK_at hK4 hy28
    show CJ _ _ _ _ _ (([(5, hd7.v)] : Slots) ++ forget _ _) (sl tyI hd7.v a8 :: _)
    refine CJ_pure (len_of (Reads.sl _ _ _) del0) (fun hlen29 => ?_)
    refine CJ_seq ?_
    refine CJ_region ?_
    refine RJ_op rfl (OJ_P (P_move rfl) rfl ?_)
    refine RJ_op rfl (OJ_P (P_assign rfl) rfl ?_)
    refine RJ_nil ?_
    refine QJ_then ?_
    refine CJ_ret ?_
    have hE := Option.some.inj h
    subst hE
    refine QJ_end (res1 Try.results15 rfl) ?_
    refine CSpec.close hd7 ?_ ?_ (Ent.take del1 Ent.refl)
    · rfl
    · trivial

def volumegroupref20_Same_l1_b (a : List Int) (b : List Int) (rec : Nat → Option ((Unit) ⊕ Bool)) (x7 : Nat) : Option ((Unit) ⊕ Bool) :=
  if (((x7 : Nat) : Int) < ((a.length : Nat) : Int)) then
    if ((a.getD x7 0) ≠ (b.getD x7 0)) then
      some (.inr false)
    else
      rec (x7 + 1)
  else
    some (.inl ())

def volumegroupref20_Same_l1 (a : List Int) (b : List Int) : Nat → Nat → Option ((Unit) ⊕ Bool)
  | 0, _ => none
  | n + 1, x7 => volumegroupref20_Same_l1_b a b (volumegroupref20_Same_l1 a b n) x7

def volumegroupref20_Same (a : List Int) (b : List Int) : Option (Bool) :=
  if (((a.length : Nat) : Int) ≠ ((b.length : Nat) : Int)) then
    some false
  else
    seqO (volumegroupref20_Same_l1 a b FUEL 0) fun a6 =>
    some true

theorem L_volumegroupref20_Same {W : World} {Aa : HP} {va : Value} {Ab : HP} {vb : Value} {a : List Int} {b : List Int} {r : Bool} (ra : Reads Aa tyI va a) (rb : Reads Ab tyI vb b) (h : volumegroupref20_Same a b = some r) :
    CSpec Try.prog W 13 [va, vb] [Aa, Ab] (fun x : Unit => .bool r) (fun _ => True) (fun x F => Aa :: Ab :: F) := by
  refine CSpec.of_body Try.func13 rfl Try.ntmps13 rfl (fun F => ?_)
  show CJ _ _ _ _ _ _ (_ :: _ :: F)
  unfold volumegroupref20_Same at h
  refine CJ_pure (len_of ra del0) (fun hlen1 => ?_)
  refine CJ_pure (len_of rb del1) (fun hlen2 => ?_)
  refine CJ_seq ?_
  refine CJ_region ?_
  refine RJ_op rfl (OJ_P (P_assign rfl) rfl ?_)
  refine RJ_nil ?_
  refine QJ_then ?_
  refine CJ_seq ?_
  refine CJ_seq ?_
  refine CJ_region ?_
  refine RJ_op rfl (OJ_P (P_move rfl) rfl ?_)
  refine RJ_op rfl (OJ_V (V_len rfl foc0 ra Try.runUnderlying24) rfl ?_)
  refine RJ_op rfl (OJ_P (P_move rfl) rfl ?_)
  refine RJ_op rfl (OJ_V (V_len rfl foc1 rb Try.runUnderlying24) rfl ?_)
  refine RJ_op rfl (OJ_P (P_neq (a := ((a.length : Nat) : Int)) (b := ((b.length : Nat) : Int)) rfl rfl) rfl ?_)
  refine RJ_nil ?_
  refine QJ_then ?_
  refine CJ_condP rfl bT_dec (fun hg1 => ?_) (fun hg1 => ?_)
  ·
    replace h := ite_t hg1 h
    refine CJ_seq ?_
    refine CJ_region ?_
    refine RJ_op rfl (OJ_P (P_assign rfl) rfl ?_)
    refine RJ_nil ?_
    refine QJ_then ?_
    refine CJ_ret ?_
    refine QJ_then_ret ?_
    have hE := Option.some.inj h
    subst hE
    refine QJ_end (res1 Try.results13 rfl) ?_
    refine CSpec.close () ?_ ?_ Ent.refl
    · rfl
    · trivial
  ·
    replace h := ite_f hg1 h
    refine CJ_skip ?_
    refine QJ_then ?_
    refine CJ_seq ?_
    refine CJ_seq ?_
    refine CJ_region ?_
    refine RJ_op rfl (OJ_P (P_assign rfl) rfl ?_)
    refine RJ_nil ?_
    refine QJ_then ?_
    obtain ⟨y5, hl3, hK4⟩ := seq_e h
    refine CJ_cutT (X := Unit) [4, 5, 11, 12, 13, 14, 15, 16, 17, 18, 19, 20, 21, 22, 23, 24, 25] (fun _ => ([] : Slots)) (fun _ R => R) (fun _ => y5 = .inl ()) Dels.nil ?_ ?_
    ·
      refine CJ_block ?_
      refine CJ_loopR (X := Nat × Nat) [4, 5, 11, 12, 13, 14, 15, 16, 17, 18, 19, 20, 21, 22, 23, 24, 25] (fun ⟨n, x7⟩ => ([(5, .int .i64 (((x7 : Nat) : Int)))] : Slots)) (fun ⟨n, x7⟩ R => R) (fun ⟨n, x7⟩ => volumegroupref20_Same_l1 a b n x7 = some y5) (fun ⟨n, x7⟩ => n) ⟨FUEL, 0⟩ ?_ ?_ Ent.refl ?_
      · exact hl3
      · exact ⟨rfl, True.intro⟩
      ·
        rintro ⟨n, x7⟩ h
        cases n with
        | zero => exact none_e h
        | succ n => ?_
        replace h : volumegroupref20_Same_l1_b a b (volumegroupref20_Same_l1 a b n) x7 = some y5 := h
        unfold volumegroupref20_Same_l1_b at h
        show CJ _ _ _ _ _ (([(5, .int .i64 (((x7 : Nat) : Int)))] : Slots) ++ forget _ _) (_)
        refine CJ_seq ?_
        refine CJ_seq ?_
        refine CJ_region ?_
        refine RJ_op rfl (OJ_P (P_move rfl) rfl ?_)
        refine RJ_op rfl (OJ_P (P_move rfl) rfl ?_)
        refine RJ_op rfl (OJ_V (V_len rfl foc0 ra Try.runUnderlying24) rfl ?_)
        refine RJ_op rfl (OJ_P (P_lss (a := ((x7 : Nat) : Int)) (b := ((a.length : Nat) : Int)) rfl rfl) rfl ?_)
        refine RJ_nil ?_
        refine QJ_then ?_
        refine CJ_condP rfl bT_dec (fun hg2 => ?_) (fun hg2 => ?_)
        ·
          replace h := ite_t hg2 h
          refine CJ_skip ?_
          refine QJ_then ?_
          refine CJ_seq ?_
          refine CJ_block ?_
          refine CJ_seq ?_
          refine AJ_startH 0 (by kernel_rfl) rfl ?_
          refine AJ_takeP 0 1 rfl (by kernel_rfl) rfl (GY_none rfl) (P_move rfl) rfl (fun _ _ _ _ h => h) ?_
          refine AJ_takeP 1 3 rfl (by kernel_rfl) rfl (GY_none rfl) (P_move rfl) rfl (fun _ _ _ _ h => h) ?_
          refine AJ_takeV 2 7 rfl (by kernel_rfl) rfl (by kernel_rfl) (by kernel_rfl) (GY_none rfl) Ent.refl (V_index (i := x7) rfl rfl rfl (by omega) foc0 ra Try.runUnderlying24 Try.sizeOf3) rfl (fun _ _ _ _ h => h) ?_
          refine AJ_takeV 3 15 rfl (by kernel_rfl) rfl (by kernel_rfl) (by kernel_rfl) (GY_none rfl) Ent.refl (V_loadE rfl rfl (by omega) foc0 ra rfl rfl Try.isAgg3) rfl (fun _ _ _ _ h => h) ?_
          refine AJ_takeP 4 31 rfl (by kernel_rfl) rfl (GY_none rfl) (P_move rfl) rfl (fun _ _ _ _ h => h) ?_
          refine AJ_takeP 5 63 rfl (by kernel_rfl) rfl (GY_none rfl) (P_move rfl) rfl (fun _ _ _ _ h => h) ?_
          refine AJ_takeV 6 127 rfl (by kernel_rfl) rfl (by kernel_rfl) (by kernel_rfl) (GY_none rfl) Ent.refl (V_index (i := x7) rfl rfl rfl (by omega) foc1 rb Try.runUnderlying24 Try.sizeOf3) rfl (fun _ _ _ _ h => h) ?_
          refine AJ_takeV 7 255 rfl (by kernel_rfl) rfl (by kernel_rfl) (by kernel_rfl) (GY_none rfl) Ent.refl (V_loadE rfl rfl (by omega) foc1 rb rfl rfl Try.isAgg3) rfl (fun _ _ _ _ h => h) ?_
          refine AJ_takeP 8 511 rfl (by kernel_rfl) rfl (GY_none rfl) (P_neq (a := (a.getD x7 0)) (b := (b.getD x7 0)) rfl rfl) rfl (fun _ _ _ _ h => h) ?_
          refine AJ_done (by kernel_rfl) ?_
          refine QJ_then ?_
          refine CJ_condP rfl bT_dec (fun hg3 => ?_) (fun hg3 => ?_)
          ·
            replace h := ite_t hg3 h
            refine CJ_seq ?_
            refine CJ_region ?_
            refine RJ_op rfl (OJ_P (P_assign rfl) rfl ?_)
            refine RJ_nil ?_
            refine QJ_then ?_
            refine CJ_ret ?_
            refine QJ_block_ret ?_
            refine QJ_then_ret ?_
            refine QJ_round_ret ?_
            refine QJ_block_ret ?_
            refine QJ_then_ret ?_
            have hE := Option.some.inj h
            replace hE := seq_inr hK4 hE.symm
            subst hE
            refine QJ_end (res1 Try.results13 rfl) ?_
            refine CSpec.close () ?_ ?_ Ent.refl
            · rfl
            · trivial
          ·
            replace h := ite_f hg3 h
            refine CJ_skip ?_
            refine QJ_block_normal ?_
            refine QJ_then ?_
            refine CJ_region ?_
            refine RJ_op rfl (OJ_P (P_move rfl) rfl ?_)
            refine RJ_op rfl (OJ_P (PJ_eq (P_add (a := ((x7 : Nat) : Int)) (b := (1 : Int)) rfl rfl (by omega)) rfl) rfl ?_)
            refine RJ_op rfl (OJ_P (P_assign rfl) rfl ?_)
            refine RJ_nil ?_
            refine QJ_nextR ⟨n, (x7 + 1)⟩ (Nat.lt_succ_self _) ?_ (by repeat (first | exact Kp.base | exact Kp.self | refine Kp.cons rfl ?_ | refine Kp.forget rfl ?_)) ?_ Ent.refl
            · exact h
            · exact ⟨rfl, True.intro⟩
        ·
          replace h := ite_f hg2 h
          refine CJ_exit ?_
          refine QJ_then_exit ?_
          refine QJ_round_exit ?_
          refine QJ_block_here ?_
          refine QJ_cutR () ?_ (by repeat (first | exact Kp.base | exact Kp.self | refine Kp.cons rfl ?_ | refine Kp.forget rfl ?_)) ?_ Ent.refl
          · exact (Option.some.inj h).symm
          · exact True.intro
    ·
      rintro _ hy8
      replace h := seq_inl hK4 hy8
      show CJ _ _ _ _ _ (([] : Slots) ++ forget _ _) (_)
      refine CJ_seq ?_
      refine CJ_region ?_
      refine RJ_op rfl (OJ_P (P_assign rfl) rfl ?_)
      refine RJ_nil ?_
      refine QJ_then ?_
      refine CJ_ret ?_
      have hE := Option.some.inj h
      subst hE
      refine QJ_end (res1 Try.results13 rfl) ?_
      refine CSpec.close () ?_ ?_ Ent.refl
      · rfl
      · trivial

end Go.Proofs
