/- YteboelcolfoddaaLMake: lifted functions of the program; printed by lift.py. -/
import Derived.Test.YteboelcolfoddaaLSpan
set_option linter.unusedSimpArgs false
set_option linter.unusedVariables false
set_option maxRecDepth 20000
set_option maxHeartbeats 4000000
namespace Go.Proofs
open Go.VG

theorem bs_24_1_0 (v0 : Int) : BuildsSlice Try.prog 24 1 [(0, .int .i64 v0)] 3 [.int .i64 v0] := fun w => by kernel_rfl
theorem bld_90_0_1_2_3 (v0 : (Option Addr)) (v1 : Int) (v2 : Int) (v3 : Int) : ∀ w, (Instr.build 90 (#[(0, .pointer v0), (1, .int .i64 v1), (2, .int .i64 v2), (3, .int .i64 v3)] : Array (Nat × Value))).run Try.prog w = .ok (.agg #[.pointer v0, .int .i64 v1, .int .i64 v2, .int .i64 v3]) w := fun w => by kernel_rfl
theorem bs_32_1_0 (v0 : TypeId) (v1 : Value) : BuildsSlice Try.prog 32 1 [(0, .iface v0 v1)] 38 [.iface v0 v1] := fun w => by kernel_rfl
theorem bs_51_1_0 (v0 : Bool) : BuildsSlice Try.prog 51 1 [(0, .bool v0)] 4 [.bool v0] := fun w => by kernel_rfl
def volumegroupmake_Loaded_l1_b (l : List (List UInt64)) (rec : (List Int) → Nat → Option ((List Int))) (x9 : List Int) (x11 : Nat) : Option ((List Int)) :=
  if (((x11 : Nat) : Int) < ((l.length : Nat) : Int)) then
    grd (inLen (x9.length + 1)) <|
    grd (inN64 (x11 + 1)) <|
    rec ((x9 ++ [(((l.getD x11 []).length : Nat) : Int)])) (x11 + 1)
  else
    some x9

def volumegroupmake_Loaded_l1 (l : List (List UInt64)) : Nat → (List Int) → Nat → Option ((List Int))
  | 0, _, _ => none
  | n + 1, x9, x11 => volumegroupmake_Loaded_l1_b l (volumegroupmake_Loaded_l1 l n) x9 x11

def volumegroupmake_Loaded_l2_b (l : List (List UInt64)) (rec : ArrS → Nat → Option ((ArrS) ⊕ (Option ArrS))) (x32 : ArrS) (x33 : Nat) : Option ((ArrS) ⊕ (Option ArrS)) :=
  if (((x33 : Nat) : Int) < ((l.length : Nat) : Int)) then
    grd (inLen x32.writes) <|
    if ((ldC x32 (((x33 : Nat) : Int)) (l.getD x33 [])) ≠ (0 : Int)) then
      some (.inr none)
    else
      grd (inN64 (x33 + 1)) <|
      rec ((ldS x32 (((x33 : Nat) : Int)) (l.getD x33 []))) (x33 + 1)
  else
    some (.inl x32)

def volumegroupmake_Loaded_l2 (l : List (List UInt64)) : Nat → ArrS → Nat → Option ((ArrS) ⊕ (Option ArrS))
  | 0, _, _ => none
  | n + 1, x32, x33 => volumegroupmake_Loaded_l2_b l (volumegroupmake_Loaded_l2 l n) x32 x33

def volumegroupmake_Loaded (l : List (List UInt64)) : Option ((Option ArrS)) :=
  Option.bind (volumegroupmake_Loaded_l1 l FUEL ([]) 0) fun a8 =>
  grd (inLen a8.length) <|
  if ((newC a8) ≠ (0 : Int)) then
    some none
  else
    Option.elim (newO a8) (
      some none) fun o26 =>
    seqO (volumegroupmake_Loaded_l2 l FUEL o26 0) fun a31 =>
    some (some a31)

theorem L_volumegroupmake_Loaded {W : World} {Al : HP} {vl : Value} {hsl : List Sl3} {Bl : HP} {l : List (List UInt64)} {r : (Option ArrS)} (rl : Reads Al tyRow vl hsl) (ql : RowsR Bl l hsl) (h : volumegroupmake_Loaded l = some r) :
    CSpec Try.prog W 9 [vl] [Al, Bl] (fun x : Nat => oval r x) (fun _ => True) (fun x F => Al :: Bl :: optP (Arr x) r :: F) := by
  refine CSpec.of_body Try.func9 rfl Try.ntmps9 rfl (fun F => ?_)
  show CJ _ _ _ _ _ _ (_ :: _ :: F)
  unfold volumegroupmake_Loaded at h
  refine CJ_pure (len_of rl del0) (fun hlen1 => ?_)
  refine CJ_seq ?_
  refine CJ_region ?_
  refine RJ_op rfl (OJ_P (P_assign rfl) rfl ?_)
  refine RJ_nil ?_
  refine QJ_then ?_
  refine CJ_seq ?_
  refine CJ_region ?_
  refine RJ_op rfl (OJ_P (P_assign rfl) rfl ?_)
  refine RJ_nil ?_
  refine QJ_then ?_
  refine CJ_seq ?_
  refine CJ_seq ?_
  refine CJ_region ?_
  refine RJ_op rfl (OJ_P (P_assign rfl) rfl ?_)
  refine RJ_nil ?_
  refine QJ_then ?_
  refine CJ_ent (fun h hh => sl_nil (t := tyI) h hh) ?_
  obtain ⟨y5, hl3, hK4⟩ := bind_c h
  refine CJ_cutT (X := (List Int) × Sl3) [3, 4, 8, 9, 10, 11, 12, 13, 14, 15, 16, 17, 18, 19, 20, 21] (fun ⟨a8, hd7⟩ => ([(3, hd7.v)] : Slots)) (fun ⟨a8, hd7⟩ R => sl tyI hd7.v a8 :: R) (fun ⟨a8, hd7⟩ => y5 = a8) (Dels.cons del0 Dels.nil) ?_ ?_
  ·
    refine CJ_block ?_
    refine CJ_loopR (X := Nat × (List Int) × Nat × Sl3) [3, 4, 8, 9, 10, 11, 12, 13, 14, 15, 16, 17, 18, 19, 20, 21] (fun ⟨n, x9, x11, hd10⟩ => ([(3, hd10.v), (4, .int .i64 (((x11 : Nat) : Int)))] : Slots)) (fun ⟨n, x9, x11, hd10⟩ R => sl tyI hd10.v x9 :: R) (fun ⟨n, x9, x11, hd10⟩ => volumegroupmake_Loaded_l1 l n x9 x11 = some y5) (fun ⟨n, x9, x11, hd10⟩ => n) ⟨FUEL, [], 0, ⟨none, 0, 0⟩⟩ ?_ ?_ Ent.refl ?_
    · exact hl3
    · exact ⟨rfl, rfl, True.intro⟩
    ·
      rintro ⟨n, x9, x11, hd10⟩ h
      cases n with
      | zero => exact none_e h
      | succ n => ?_
      replace h : volumegroupmake_Loaded_l1_b l (volumegroupmake_Loaded_l1 l n) x9 x11 = some y5 := h
      unfold volumegroupmake_Loaded_l1_b at h
      show CJ _ _ _ _ _ (([(3, hd10.v), (4, .int .i64 (((x11 : Nat) : Int)))] : Slots) ++ forget _ _) (sl tyI hd10.v x9 :: _)
      refine CJ_pure (len_of (Reads.sl _ _ _) del0) (fun hlen12 => ?_)
      refine CJ_seq ?_
      refine CJ_seq ?_
      refine CJ_region ?_
      refine RJ_op rfl (OJ_P (P_move rfl) rfl ?_)
      refine RJ_op rfl (OJ_P (P_move rfl) rfl ?_)
      refine RJ_op rfl (OJ_V (VJ_eq (V_len rfl foc1 rl Try.runUnderlying31) (congrArg (fun z : Nat => Value.int .i64 (z : Int)) (ql.1).symm)) rfl ?_)
      refine RJ_op rfl (OJ_P (P_lss (a := ((x11 : Nat) : Int)) (b := ((l.length : Nat) : Int)) rfl rfl) rfl ?_)
      refine RJ_nil ?_
      refine QJ_then ?_
      refine CJ_condP rfl bT_dec (fun hg1 => ?_) (fun hg1 => ?_)
      ·
        replace h := ite_t hg1 h
        refine CJ_skip ?_
        refine QJ_then ?_
        refine CJ_seq ?_
        refine CJ_block ?_
        refine CJ_region ?_
        refine RJ_op rfl (OJ_P (P_move rfl) rfl ?_)
        refine RJ_op rfl (OJ_P (P_move rfl) rfl ?_)
        refine RJ_op rfl (OJ_P (P_move rfl) rfl ?_)
        refine RJ_op rfl (OJ_V (V_index (i := x11) rfl rfl rfl (by have hz : x11 < l.length := (by omega); have hy := ql.1; omega) foc1 rl Try.runUnderlying31 Try.sizeOf22) rfl ?_)
        refine RJ_op rfl (OJ_V (V_loadE rfl rfl (by have hz : x11 < l.length := (by omega); have hy := ql.1; omega) foc1 rl rfl rfl Try.isAgg22) rfl ?_)
        refine RJ_op rfl (OJ_V (V_len rfl foc2 (ql.2 _ (by omega)) Try.runUnderlying22) rfl ?_)
        refine RJ_op rfl (O_buildSlice rfl (bs_24_1_0 _) rfl (fun b13 => ?_))
        obtain ⟨hg2, h⟩ := grd_Le h
        refine RJ_op rfl (O_append (t := tyI) (bytes := 8) rfl rfl del1 foc0 (Reads.lit (t := tyI) (ys := [(((l.getD x11 []).length : Nat) : Int)]) rfl rfl (by decide) (by decide) rfl) Try.underlying24 ok_tyI (apl (m := 1) (b := 8) hg2 (by decide)).1 (apl (m := 1) (b := 8) hg2 (by decide)).2 rfl (fun p15 c16 => ?_))
        refine RJ_op rfl (OJ_P (P_assign rfl) rfl ?_)
        refine RJ_nil ?_
        refine QJ_block_normal ?_
        refine QJ_then ?_
        refine CJ_region ?_
        refine RJ_op rfl (OJ_P (P_move rfl) rfl ?_)
        obtain ⟨hg3, h⟩ := grd_Ne h
        refine RJ_op rfl (OJ_P (PJ_eq (P_add (a := ((x11 : Nat) : Int)) (b := (1 : Int)) rfl rfl (nat_in hg3)) rfl) rfl ?_)
        refine RJ_op rfl (OJ_P (P_assign rfl) rfl ?_)
        refine RJ_nil ?_
        refine QJ_nextR ⟨n, (x9 ++ [(((l.getD x11 []).length : Nat) : Int)]), (x11 + 1), ⟨p15, (x9 ++ [(((l.getD x11 []).length : Nat) : Int)]).length, c16⟩⟩ (Nat.lt_succ_self _) ?_ (by repeat (first | exact Kp.base | exact Kp.self | refine Kp.cons rfl ?_ | refine Kp.forget rfl ?_)) ?_ (Ent.take del0 (Ent.take del1 (Ent.take del1 (Ent.drop Ent.refl))))
        · exact h
        · exact ⟨rfl, rfl, True.intro⟩
      ·
        replace h := ite_f hg1 h
        refine CJ_exit ?_
        refine QJ_then_exit ?_
        refine QJ_round_exit ?_
        refine QJ_block_here ?_
        refine QJ_cutR ⟨x9, hd10⟩ ?_ (by repeat (first | exact Kp.base | exact Kp.self | refine Kp.cons rfl ?_ | refine Kp.forget rfl ?_)) ?_ Ent.refl
        · exact (Option.some.inj h).symm
        · exact ⟨rfl, True.intro⟩
  ·
    rintro ⟨a8, hd7⟩ hy17
    replace h := bindK_at hK4 hy17
    show CJ _ _ _ _ _ (([(3, hd7.v)] : Slots) ++ forget _ _) (sl tyI hd7.v a8 :: _)
    refine CJ_pure (len_of (Reads.sl _ _ _) del0) (fun hlen18 => ?_)
    refine CJ_seq ?_
    refine CJ_region ?_
    refine RJ_op rfl (OJ_P (P_move rfl) rfl ?_)
    obtain ⟨hg4, h⟩ := grd_Le h
    refine RJ_op rfl (O_call (c_NewO (Reads.sl _ _ _) hg4) rfl Try.call25 (Dels.cons del0 Dels.nil) rfl (fun X19 _ => ?_))
    refine RJ_op rfl (OJ_P (P_move rfl) rfl ?_)
    refine RJ_op rfl (OJ_P (P_extract rfl rfl) rfl ?_)
    refine RJ_op rfl (OJ_P (P_extract rfl rfl) rfl ?_)
    refine RJ_op rfl (OJ_P (P_assign rfl) rfl ?_)
    refine RJ_op rfl (OJ_P (P_assign rfl) rfl ?_)
    refine RJ_nil ?_
    refine QJ_then ?_
    refine CJ_seq ?_
    refine CJ_seq ?_
    refine CJ_region ?_
    refine RJ_op rfl (OJ_P (P_move rfl) rfl ?_)
    refine RJ_op rfl (OJ_P (P_neq (a := (newC a8)) (b := (0 : Int)) rfl rfl) rfl ?_)
    refine RJ_op rfl (OJ_P (P_move rfl) rfl ?_)
    refine RJ_mbF rfl rfl rfl (fun hG21 => have hP22 : ¬ ((newC a8) ≠ (0 : Int)) := nP (bT_dec) hG21; VJ_P (P_move rfl)) ?_
    refine RJ_splitP 29 rfl bT_dec (fun hg5B hg5 => ?_) (fun hg5B hg5 => ?_)
    ·
      replace h := ite_t hg5 h
      refine RJ_gn (GY_no rfl rfl rfl hg5B) rfl rfl ?_
      refine RJ_op rfl (OJ_P (P_pickT rfl hg5B rfl) rfl ?_)
      refine RJ_nil ?_
      refine QJ_then ?_
      refine CJ_condT rfl rfl ?_
      refine CJ_seq ?_
      refine CJ_region ?_
      refine RJ_op rfl (OJ_P (P_assign rfl) rfl ?_)
      refine RJ_nil ?_
      refine QJ_then ?_
      refine CJ_ret ?_
      refine QJ_then_ret ?_
      have hE := Option.some.inj h
      subst hE
      refine QJ_end (res1 Try.results9 rfl) ?_
      refine CSpec.close 0 ?_ ?_ (Ent.take del2 (Ent.take del2 (Ent.trans (fun h hh => optP_none h hh) <| Ent.take del0 (Ent.drop (Ent.drop Ent.refl)))))
      · rfl
      · trivial
    ·
      replace h := ite_f hg5 h
      rcases opt_e h with ⟨ht25, h⟩ | ⟨o26, ht25, h⟩
      ·
        rw [ht25]
        refine RJ_ent (Ent.take del1 (Ent.take del1 (Ent.take del1 (Ent.drop Ent.refl)))) ?_
        refine RJ_gy (GY_yes rfl rfl rfl hg5B) (OJ_P (P_eqlNN (mbx (not_f hg5B) rfl) rfl Try.underlying29) rfl ?_)
        refine RJ_op rfl (OJ_P (P_pickF rfl hg5B rfl) rfl ?_)
        refine RJ_nil ?_
        refine QJ_then ?_
        refine CJ_condT rfl rfl ?_
        refine CJ_seq ?_
        refine CJ_region ?_
        refine RJ_op rfl (OJ_P (P_assign rfl) rfl ?_)
        refine RJ_nil ?_
        refine QJ_then ?_
        refine CJ_ret ?_
        refine QJ_then_ret ?_
        have hE := Option.some.inj h
        subst hE
        refine QJ_end (res1 Try.results9 rfl) ?_
        refine CSpec.close 0 ?_ ?_ (Ent.take del1 (Ent.take del1 (Ent.trans (fun h hh => optP_none h hh) <| Ent.take del0 (Ent.drop Ent.refl))))
        · rfl
        · trivial
      ·
        rw [ht25]
        refine RJ_ent (Ent.takeC (A' := Arr X19 o26) del0 rfl Ent.refl) ?_
        refine RJ_gy (GY_yes rfl rfl rfl hg5B) (OJ_P (P_eqlPN (mbx (not_f hg5B) rfl) rfl Try.underlying29) rfl ?_)
        refine RJ_op rfl (OJ_P (P_pickF rfl hg5B rfl) rfl ?_)
        refine RJ_nil ?_
        refine QJ_then ?_
        refine CJ_condF rfl rfl ?_
        refine CJ_skip ?_
        refine QJ_then ?_
        refine CJ_seq ?_
        refine CJ_seq ?_
        refine CJ_region ?_
        refine RJ_op rfl (OJ_P (P_assign rfl) rfl ?_)
        refine RJ_nil ?_
        refine QJ_then ?_
        obtain ⟨y29, hl27, hK28⟩ := seq_e h
        refine CJ_cutT (X := ArrS) [2, 7, 33, 34, 35, 36, 37, 38, 39, 40, 41, 42, 43, 44, 45, 46] (fun a31 => ([] : Slots)) (fun a31 R => Arr X19 a31 :: R) (fun a31 => y29 = .inl a31) (Dels.cons del0 Dels.nil) ?_ ?_
        ·
          refine CJ_block ?_
          refine CJ_loopR (X := Nat × ArrS × Nat) [2, 7, 33, 34, 35, 36, 37, 38, 39, 40, 41, 42, 43, 44, 45, 46] (fun ⟨n, x32, x33⟩ => ([(7, .int .i64 (((x33 : Nat) : Int)))] : Slots)) (fun ⟨n, x32, x33⟩ R => Arr X19 x32 :: R) (fun ⟨n, x32, x33⟩ => volumegroupmake_Loaded_l2 l n x32 x33 = some y29) (fun ⟨n, x32, x33⟩ => n) ⟨FUEL, o26, 0⟩ ?_ ?_ Ent.refl ?_
          · exact hl27
          · exact ⟨rfl, True.intro⟩
          ·
            rintro ⟨n, x32, x33⟩ h
            cases n with
            | zero => exact none_e h
            | succ n => ?_
            replace h : volumegroupmake_Loaded_l2_b l (volumegroupmake_Loaded_l2 l n) x32 x33 = some y29 := h
            unfold volumegroupmake_Loaded_l2_b at h
            show CJ _ _ _ _ _ (([(7, .int .i64 (((x33 : Nat) : Int)))] : Slots) ++ forget _ _) (Arr X19 x32 :: _)
            refine CJ_seq ?_
            refine CJ_seq ?_
            refine CJ_region ?_
            refine RJ_op rfl (OJ_P (P_move rfl) rfl ?_)
            refine RJ_op rfl (OJ_P (P_move rfl) rfl ?_)
            refine RJ_op rfl (OJ_V (VJ_eq (V_len rfl foc2 rl Try.runUnderlying31) (congrArg (fun z : Nat => Value.int .i64 (z : Int)) (ql.1).symm)) rfl ?_)
            refine RJ_op rfl (OJ_P (P_lss (a := ((x33 : Nat) : Int)) (b := ((l.length : Nat) : Int)) rfl rfl) rfl ?_)
            refine RJ_nil ?_
            refine QJ_then ?_
            refine CJ_condP rfl bT_dec (fun hg6 => ?_) (fun hg6 => ?_)
            ·
              replace h := ite_t hg6 h
              refine CJ_skip ?_
              refine QJ_then ?_
              refine CJ_seq ?_
              refine CJ_block ?_
              refine CJ_seq ?_
              refine CJ_region ?_
              refine RJ_op rfl (OJ_P (P_move rfl) rfl ?_)
              refine RJ_op rfl (OJ_P (P_move rfl) rfl ?_)
              refine RJ_op rfl (OJ_P (P_move rfl) rfl ?_)
              refine RJ_op rfl (OJ_P (P_move rfl) rfl ?_)
              refine RJ_op rfl (OJ_V (V_index (i := x33) rfl rfl rfl (by have hz : x33 < l.length := (by omega); have hy := ql.1; omega) foc2 rl Try.runUnderlying31 Try.sizeOf22) rfl ?_)
              refine RJ_op rfl (OJ_V (V_loadE rfl rfl (by have hz : x33 < l.length := (by omega); have hy := ql.1; omega) foc2 rl rfl rfl Try.isAgg22) rfl ?_)
              obtain ⟨hg7, h⟩ := grd_Le h
              refine RJ_op rfl (O_call (c_LoadD (ql.2 _ (by omega)) hg7) rfl Try.call26 (Dels.cons del0 (Dels.cons del2 Dels.nil)) rfl (fun _ _ => ?_))
              refine RJ_op rfl (OJ_P (P_neq (a := (ldC x32 (((x33 : Nat) : Int)) (l.getD x33 []))) (b := (0 : Int)) rfl rfl) rfl ?_)
              refine RJ_nil ?_
              refine QJ_then ?_
              refine CJ_condP rfl bT_dec (fun hg8 => ?_) (fun hg8 => ?_)
              ·
                replace h := ite_t hg8 h
                refine CJ_seq ?_
                refine CJ_region ?_
                refine RJ_op rfl (OJ_P (P_assign rfl) rfl ?_)
                refine RJ_nil ?_
                refine QJ_then ?_
                refine CJ_ret ?_
                refine QJ_block_ret ?_
                refine QJ_then_ret ?_
                refine QJ_round_ret ?_
                refine QJ_block_ret ?_
                refine QJ_then_ret ?_
                have hE := Option.some.inj h
                replace hE := seq_inr hK28 hE.symm
                subst hE
                refine QJ_end (res1 Try.results9 rfl) ?_
                refine CSpec.close 0 ?_ ?_ (Ent.take del3 (Ent.take del1 (Ent.trans (fun h hh => optP_none h hh) <| Ent.take del0 (Ent.drop (Ent.drop Ent.refl)))))
                · rfl
                · trivial
              ·
                replace h := ite_f hg8 h
                refine CJ_skip ?_
                refine QJ_block_normal ?_
                refine QJ_then ?_
                refine CJ_region ?_
                refine RJ_op rfl (OJ_P (P_move rfl) rfl ?_)
                obtain ⟨hg9, h⟩ := grd_Ne h
                refine RJ_op rfl (OJ_P (PJ_eq (P_add (a := ((x33 : Nat) : Int)) (b := (1 : Int)) rfl rfl (nat_in hg9)) rfl) rfl ?_)
                refine RJ_op rfl (OJ_P (P_assign rfl) rfl ?_)
                refine RJ_nil ?_
                refine QJ_nextR ⟨n, (ldS x32 (((x33 : Nat) : Int)) (l.getD x33 [])), (x33 + 1)⟩ (Nat.lt_succ_self _) ?_ (by repeat (first | exact Kp.base | exact Kp.self | refine Kp.cons rfl ?_ | refine Kp.forget rfl ?_)) ?_ (Ent.take del0 (Ent.take del1 (Ent.take del1 Ent.refl)))
                · exact h
                · exact ⟨rfl, True.intro⟩
            ·
              replace h := ite_f hg6 h
              refine CJ_exit ?_
              refine QJ_then_exit ?_
              refine QJ_round_exit ?_
              refine QJ_block_here ?_
              refine QJ_cutR x32 ?_ (by repeat (first | exact Kp.base | exact Kp.self | refine Kp.cons rfl ?_ | refine Kp.forget rfl ?_)) ?_ Ent.refl
              · exact (Option.some.inj h).symm
              · exact True.intro
        ·
          rintro a31 hy34
          replace h := seq_inl hK28 hy34
          show CJ _ _ _ _ _ (([] : Slots) ++ forget _ _) (Arr X19 a31 :: _)
          refine CJ_seq ?_
          refine CJ_region ?_
          refine RJ_op rfl (OJ_P (P_move rfl) rfl ?_)
          refine RJ_op rfl (OJ_P (P_assign rfl) rfl ?_)
          refine RJ_nil ?_
          refine QJ_then ?_
          refine CJ_ret ?_
          have hE := Option.some.inj h
          subst hE
          refine QJ_end (res1 Try.results9 rfl) ?_
          refine CSpec.close X19 ?_ ?_ (Ent.take del2 (Ent.take del2 (Ent.take del0 (Ent.drop Ent.refl))))
          · rfl
          · trivial

def block_Span (a : ArrS) (d : Int) (start : Int) (length : Int) : Option ((Option Dvc) × Int) :=
  if (length < (1 : Int)) then
    some ((none, (1 : Int)))
  else
    Option.bind (block_inside (sizeI a d) start length) fun r1 =>
    if (¬ r1 = true) then
      some ((none, (1 : Int)))
    else
      some (((some (Dvc.span d start length)), (0 : Int)))

theorem L_block_Span {W : World} {ba : Nat} {a : ArrS} {d : Int} {start : Int} {length : Int} {r : (Option Dvc) × Int} (h : block_Span a d start length = some r) :
    CSpec Try.prog W 28 [ptr ba 0, .int .i64 d, .int .i64 start, .int .i64 length] [Arr ba a] (fun x : IfH => .tuple #[oif r.1 x, .int .i64 r.2]) (fun _ => True) (fun x F => Arr ba a :: optP (DevP ba · x) r.1 :: F) := by
  refine CSpec.of_body Try.func28 rfl Try.ntmps28 rfl (fun F => ?_)
  show CJ _ _ _ _ _ _ (_ :: F)
  unfold block_Span at h
  refine CJ_seq ?_
  refine CJ_region ?_
  refine RJ_op rfl (OJ_P (P_assign rfl) rfl ?_)
  refine RJ_op rfl (OJ_P (P_assign rfl) rfl ?_)
  refine RJ_nil ?_
  refine QJ_then ?_
  refine CJ_seq ?_
  refine CJ_seq ?_
  refine CJ_region ?_
  refine RJ_op rfl (OJ_P (P_move rfl) rfl ?_)
  refine RJ_op rfl (OJ_P (P_lss (a := length) (b := (1 : Int)) rfl rfl) rfl ?_)
  refine RJ_op rfl (OJ_P (P_move rfl) rfl ?_)
  refine RJ_splitP 12 rfl bT_dec (fun hg1B hg1 => ?_) (fun hg1B hg1 => ?_)
  ·
    replace h := ite_t hg1 h
    refine RJ_gn (GY_no rfl rfl rfl hg1B) rfl rfl ?_
    refine RJ_gn (GY_no rfl rfl rfl hg1B) rfl rfl ?_
    refine RJ_gn (GY_no rfl rfl rfl hg1B) rfl rfl ?_
    refine RJ_gn (GY_no rfl rfl rfl hg1B) rfl rfl ?_
    refine RJ_gn (GY_no rfl rfl rfl hg1B) rfl rfl ?_
    refine RJ_gn (GY_no rfl rfl rfl hg1B) rfl rfl ?_
    refine RJ_gn (GY_no rfl rfl rfl hg1B) rfl rfl ?_
    refine RJ_op rfl (OJ_P (P_pickT rfl hg1B rfl) rfl ?_)
    refine RJ_nil ?_
    refine QJ_then ?_
    refine CJ_condT rfl rfl ?_
    refine CJ_seq ?_
    refine CJ_region ?_
    refine RJ_op rfl (OJ_P (P_assign rfl) rfl ?_)
    refine RJ_op rfl (OJ_P (P_assign rfl) rfl ?_)
    refine RJ_nil ?_
    refine QJ_then ?_
    refine CJ_ret ?_
    refine QJ_then_ret ?_
    have hE := Option.some.inj h
    subst hE
    refine QJ_end (res2 Try.results28 rfl rfl) ?_
    refine CSpec.close ⟨0, .bool false⟩ ?_ ?_ (Ent.take del0 (Ent.trans (fun h hh => optP_none h hh) <| Ent.take del0 Ent.refl))
    · rfl
    · trivial
  ·
    replace h := ite_f hg1 h
    refine RJ_gy (GY_yes rfl rfl rfl hg1B) (OJ_P (P_move rfl) rfl ?_)
    refine RJ_gy (GY_yes rfl rfl rfl hg1B) (OJ_P (P_move rfl) rfl ?_)
    refine RJ_gy (GY_yes rfl rfl rfl hg1B) (O_call (c_SizeD) rfl Try.call29 (Dels.cons del0 Dels.nil) rfl (fun _ _ => ?_))
    refine RJ_gy (GY_yes rfl rfl rfl hg1B) (OJ_P (P_move rfl) rfl ?_)
    refine RJ_gy (GY_yes rfl rfl rfl hg1B) (OJ_P (P_move rfl) rfl ?_)
    obtain ⟨r1, hr2, h⟩ := bind_e h
    refine RJ_gy (GY_yes rfl rfl rfl hg1B) (O_call (L_block_inside hr2) rfl Try.call37 Dels.nil rfl (fun _ _ => ?_))
    refine RJ_gy (GY_yes rfl rfl rfl hg1B) (OJ_P (P_not rfl) rfl ?_)
    refine RJ_op rfl (OJ_P (P_pickF rfl hg1B rfl) rfl ?_)
    refine RJ_nil ?_
    refine QJ_then ?_
    refine CJ_condP rfl (bT_not Iff.rfl) (fun hg2 => ?_) (fun hg2 => ?_)
    ·
      replace h := ite_t hg2 h
      refine CJ_seq ?_
      refine CJ_region ?_
      refine RJ_op rfl (OJ_P (P_assign rfl) rfl ?_)
      refine RJ_op rfl (OJ_P (P_assign rfl) rfl ?_)
      refine RJ_nil ?_
      refine QJ_then ?_
      refine CJ_ret ?_
      refine QJ_then_ret ?_
      have hE := Option.some.inj h
      subst hE
      refine QJ_end (res2 Try.results28 rfl rfl) ?_
      refine CSpec.close ⟨0, .bool false⟩ ?_ ?_ (Ent.take del0 (Ent.trans (fun h hh => optP_none h hh) <| Ent.take del0 Ent.refl))
      · rfl
      · trivial
    ·
      replace h := ite_f hg2 h
      refine CJ_skip ?_
      refine QJ_then ?_
      refine CJ_seq ?_
      refine CJ_region ?_
      refine RJ_op rfl (OJ_P (P_move rfl) rfl ?_)
      refine RJ_op rfl (OJ_P (P_move rfl) rfl ?_)
      refine RJ_op rfl (OJ_P (P_move rfl) rfl ?_)
      refine RJ_op rfl (OJ_P (P_move rfl) rfl ?_)
      refine RJ_op rfl (OJ_P (P_build rfl (bld_90_0_1_2_3 _ _ _ _)) rfl ?_)
      refine RJ_op rfl (O_box rfl rfl rfl (fun b3 => ?_))
      refine RJ_share del0 ?_
      refine RJ_op rfl (OJ_P (P_makeIface rfl Try.runUnderlying88 (by intro ms h; cases h)) rfl ?_)
      refine RJ_ent (Ent.trans (Ent.take del0 Ent.refl) (DevP_mk (a := ba) (x := (Dvc.span d start length)) (h := (⟨88, ptr b3 0⟩ : IfH)) (ok_Dvc_span))) ?_
      refine RJ_op rfl (OJ_P (P_assign rfl) rfl ?_)
      refine RJ_op rfl (OJ_P (P_assign rfl) rfl ?_)
      refine RJ_nil ?_
      refine QJ_then ?_
      refine CJ_ret ?_
      have hE := Option.some.inj h
      subst hE
      refine QJ_end (res2 Try.results28 rfl rfl) ?_
      refine CSpec.close ((⟨88, ptr b3 0⟩ : IfH)) ?_ ?_ (Ent.take del1 Ent.refl)
      · rfl
      · trivial

def volumegroupmake_Spans_l1_b (a : ArrS) (rec : (List Dvc) → Nat → Option (((List Dvc)) ⊕ (List Dvc))) (x10 : List Dvc) (x13 : Nat) : Option (((List Dvc)) ⊕ (List Dvc)) :=
  if (((x13 : Nat) : Int) < ((a.drv.length : Nat) : Int)) then
    Option.bind (block_Span a (((x13 : Nat) : Int)) (0 : Int) ((sizeI a (((x13 : Nat) : Int))))) fun r16 =>
    if (r16.2 ≠ (0 : Int)) then
      some (.inr ([] : List Dvc))
    else
      Option.elim r16.1 (
        some (.inr ([] : List Dvc))) fun o27 =>
      grd (inLen (x10.length + 1)) <|
      grd (inN64 (x13 + 1)) <|
      rec (x10 ++ [o27]) (x13 + 1)
  else
    some (.inl x10)

def volumegroupmake_Spans_l1 (a : ArrS) : Nat → (List Dvc) → Nat → Option (((List Dvc)) ⊕ (List Dvc))
  | 0, _, _ => none
  | n + 1, x10, x13 => volumegroupmake_Spans_l1_b a (volumegroupmake_Spans_l1 a n) x10 x13

def volumegroupmake_Spans (a : ArrS) : Option ((List Dvc)) :=
  seqO (volumegroupmake_Spans_l1 a FUEL ([] : List Dvc) 0) fun a9 =>
  some a9

theorem L_volumegroupmake_Spans {W : World} {ba : Nat} {a : ArrS} {r : (List Dvc)} (h : volumegroupmake_Spans a = some r) :
    CSpec Try.prog W 11 [ptr ba 0] [Arr ba a] (fun x : (Sl3 × List IfH) => x.1.v) (fun _ => True) (fun x F => Arr ba a :: sl tyDev x.1.v x.2 :: Rs (DevP ba) r x.2 :: F) := by
  refine CSpec.of_body Try.func11 rfl Try.ntmps11 rfl (fun F => ?_)
  show CJ _ _ _ _ _ _ (_ :: F)
  unfold volumegroupmake_Spans at h
  refine CJ_seq ?_
  refine CJ_region ?_
  refine RJ_op rfl (OJ_P (P_assign rfl) rfl ?_)
  refine RJ_nil ?_
  refine QJ_then ?_
  refine CJ_seq ?_
  refine CJ_region ?_
  refine RJ_op rfl (OJ_P (P_assign rfl) rfl ?_)
  refine RJ_nil ?_
  refine QJ_then ?_
  refine CJ_seq ?_
  refine CJ_seq ?_
  refine CJ_region ?_
  refine RJ_op rfl (OJ_P (P_assign rfl) rfl ?_)
  refine RJ_nil ?_
  refine QJ_then ?_
  refine CJ_ent (fun h hh => sl_nil (t := tyDev) h (rs_nil (RP := DevP ba) h hh)) ?_
  obtain ⟨y5, hl3, hK4⟩ := seq_e h
  refine CJ_cutT (X := (List Dvc) × Sl3 × (List IfH)) [2, 3, 4, 5, 6, 7, 8, 9, 10, 11, 12, 13, 14, 15, 16, 17, 18, 19, 20, 21, 22, 23, 24, 25, 26, 27, 28, 29, 30, 31] (fun ⟨a9, hd7, hs8⟩ => ([(3, hd7.v)] : Slots)) (fun ⟨a9, hd7, hs8⟩ R => sl tyDev hd7.v hs8 :: Rs (DevP ba) a9 hs8 :: R) (fun ⟨a9, hd7, hs8⟩ => y5 = .inl a9) (Dels.cons del0 (Dels.cons del0 Dels.nil)) ?_ ?_
  ·
    refine CJ_block ?_
    refine CJ_loopR (X := Nat × (List Dvc) × Nat × Sl3 × (List IfH)) [2, 3, 4, 5, 6, 7, 8, 9, 10, 11, 12, 13, 14, 15, 16, 17, 18, 19, 20, 21, 22, 23, 24, 25, 26, 27, 28, 29, 30, 31] (fun ⟨n, x10, x13, hd11, hs12⟩ => ([(3, hd11.v), (4, .int .i64 (((x13 : Nat) : Int)))] : Slots)) (fun ⟨n, x10, x13, hd11, hs12⟩ R => sl tyDev hd11.v hs12 :: Rs (DevP ba) x10 hs12 :: R) (fun ⟨n, x10, x13, hd11, hs12⟩ => volumegroupmake_Spans_l1 a n x10 x13 = some y5) (fun ⟨n, x10, x13, hd11, hs12⟩ => n) ⟨FUEL, ([] : List Dvc), 0, ⟨none, 0, 0⟩, ([] : List IfH)⟩ ?_ ?_ Ent.refl ?_
    · exact hl3
    · exact ⟨rfl, rfl, True.intro⟩
    ·
      rintro ⟨n, x10, x13, hd11, hs12⟩ h
      cases n with
      | zero => exact none_e h
      | succ n => ?_
      replace h : volumegroupmake_Spans_l1_b a (volumegroupmake_Spans_l1 a n) x10 x13 = some y5 := h
      unfold volumegroupmake_Spans_l1_b at h
      show CJ _ _ _ _ _ (([(3, hd11.v), (4, .int .i64 (((x13 : Nat) : Int)))] : Slots) ++ forget _ _) (sl tyDev hd11.v hs12 :: Rs (DevP ba) x10 hs12 :: _)
      refine CJ_pure (len_of (Reads.sl _ _ _) del0) (fun hlen14 => ?_)
      refine CJ_pure (fun h hh => Rs_len (stars_perm (del1 (A := Rs (DevP ba) x10 hs12)).out h hh)) (fun hdl15 => ?_)
      refine CJ_seq ?_
      refine CJ_seq ?_
      refine CJ_region ?_
      refine RJ_op rfl (OJ_P (P_move rfl) rfl ?_)
      refine RJ_op rfl (OJ_P (P_move rfl) rfl ?_)
      refine RJ_op rfl (O_call (c_CountD) rfl Try.call27 (Dels.cons del2 Dels.nil) rfl (fun _ _ => ?_))
      refine RJ_op rfl (OJ_P (P_lss (a := ((x13 : Nat) : Int)) (b := ((a.drv.length : Nat) : Int)) rfl rfl) rfl ?_)
      refine RJ_nil ?_
      refine QJ_then ?_
      refine CJ_condP rfl bT_dec (fun hg1 => ?_) (fun hg1 => ?_)
      ·
        replace h := ite_t hg1 h
        refine CJ_skip ?_
        refine QJ_then ?_
        refine CJ_seq ?_
        refine CJ_block ?_
        refine CJ_seq ?_
        refine CJ_region ?_
        refine RJ_op rfl (OJ_P (P_move rfl) rfl ?_)
        refine RJ_op rfl (OJ_P (P_move rfl) rfl ?_)
        refine RJ_op rfl (OJ_P (P_move rfl) rfl ?_)
        refine RJ_op rfl (OJ_P (P_move rfl) rfl ?_)
        refine RJ_op rfl (O_call (c_SizeD) rfl Try.call29 (Dels.cons del0 Dels.nil) rfl (fun _ _ => ?_))
        obtain ⟨r16, hr17, h⟩ := bind_e h
        refine RJ_op rfl (O_call (L_block_Span hr17) rfl Try.call28 (Dels.cons del0 Dels.nil) rfl (fun X18 _ => ?_))
        refine RJ_op rfl (OJ_P (P_move rfl) rfl ?_)
        refine RJ_op rfl (OJ_P (P_extract rfl rfl) rfl ?_)
        refine RJ_op rfl (OJ_P (P_extract rfl rfl) rfl ?_)
        refine RJ_op rfl (OJ_P (P_assign rfl) rfl ?_)
        refine RJ_op rfl (OJ_P (P_assign rfl) rfl ?_)
        refine RJ_nil ?_
        refine QJ_then ?_
        refine CJ_seq ?_
        refine CJ_seq ?_
        refine CJ_region ?_
        refine RJ_op rfl (OJ_P (P_move rfl) rfl ?_)
        refine RJ_op rfl (OJ_P (P_neq (a := r16.2) (b := (0 : Int)) rfl rfl) rfl ?_)
        refine RJ_op rfl (OJ_P (P_move rfl) rfl ?_)
        refine RJ_mbF rfl rfl rfl (fun hG20 => have hP21 : ¬ (r16.2 ≠ (0 : Int)) := nP (bT_dec) hG20; VJ_P (P_move rfl)) ?_
        refine RJ_splitP 24 rfl bT_dec (fun hg2B hg2 => ?_) (fun hg2B hg2 => ?_)
        ·
          replace h := ite_t hg2 h
          refine RJ_gn (GY_no rfl rfl rfl hg2B) rfl rfl ?_
          refine RJ_op rfl (OJ_P (P_pickT rfl hg2B rfl) rfl ?_)
          refine RJ_nil ?_
          refine QJ_then ?_
          refine CJ_condT rfl rfl ?_
          refine CJ_seq ?_
          refine CJ_region ?_
          refine RJ_op rfl (OJ_P (P_assign rfl) rfl ?_)
          refine RJ_nil ?_
          refine QJ_then ?_
          refine CJ_ret ?_
          refine QJ_then_ret ?_
          refine QJ_block_ret ?_
          refine QJ_then_ret ?_
          refine QJ_round_ret ?_
          refine QJ_block_ret ?_
          refine QJ_then_ret ?_
          refine QJ_ent (fun h hh => sl_nil (t := tyDev) h (rs_nil (RP := DevP ba) h hh)) ?_
          have hE := Option.some.inj h
          replace hE := seq_inr hK4 hE.symm
          subst hE
          refine QJ_end (res1 Try.results11 rfl) ?_
          refine CSpec.close ((⟨none, 0, 0⟩, ([] : List IfH))) ?_ ?_ (Ent.take del2 (Ent.take del0 (Ent.take del0 (Ent.drop (Ent.drop (Ent.drop Ent.refl))))))
          · rfl
          · trivial
        ·
          replace h := ite_f hg2 h
          rcases opt_e h with ⟨ht26, h⟩ | ⟨o27, ht26, h⟩
          ·
            rw [ht26]
            refine RJ_ent (Ent.take del0 (Ent.take del1 (Ent.take del1 (Ent.drop Ent.refl)))) ?_
            refine RJ_gy (GY_yes rfl rfl rfl hg2B) (OJ_P (P_eqlIN (mbx (not_f hg2B) rfl) Try.underlying38) rfl ?_)
            refine RJ_op rfl (OJ_P (P_pickF rfl hg2B rfl) rfl ?_)
            refine RJ_nil ?_
            refine QJ_then ?_
            refine CJ_condT rfl rfl ?_
            refine CJ_seq ?_
            refine CJ_region ?_
            refine RJ_op rfl (OJ_P (P_assign rfl) rfl ?_)
            refine RJ_nil ?_
            refine QJ_then ?_
            refine CJ_ret ?_
            refine QJ_then_ret ?_
            refine QJ_block_ret ?_
            refine QJ_then_ret ?_
            refine QJ_round_ret ?_
            refine QJ_block_ret ?_
            refine QJ_then_ret ?_
            refine QJ_ent (fun h hh => sl_nil (t := tyDev) h (rs_nil (RP := DevP ba) h hh)) ?_
            have hE := Option.some.inj h
            replace hE := seq_inr hK4 hE.symm
            subst hE
            refine QJ_end (res1 Try.results11 rfl) ?_
            refine CSpec.close ((⟨none, 0, 0⟩, ([] : List IfH))) ?_ ?_ (Ent.take del2 (Ent.take del0 (Ent.take del0 (Ent.drop (Ent.drop Ent.refl)))))
            · rfl
            · trivial
          ·
            rw [ht26]
            refine RJ_ent (Ent.takeC (A' := DevP ba o27 X18) del1 rfl Ent.refl) ?_
            refine RJ_gy (GY_yes rfl rfl rfl hg2B) (OJ_P (P_eqlIfN (mbx (not_f hg2B) rfl) rfl Try.underlying38) rfl ?_)
            refine RJ_op rfl (OJ_P (P_pickF rfl hg2B rfl) rfl ?_)
            refine RJ_nil ?_
            refine QJ_then ?_
            refine CJ_condF rfl rfl ?_
            refine CJ_skip ?_
            refine QJ_then ?_
            refine CJ_region ?_
            refine RJ_op rfl (OJ_P (P_move rfl) rfl ?_)
            refine RJ_op rfl (OJ_P (P_move rfl) rfl ?_)
            refine RJ_op rfl (O_buildSlice rfl (bs_32_1_0 _ _) rfl (fun b30 => ?_))
            obtain ⟨hg3, h⟩ := grd_Le h
            refine RJ_op rfl (O_append (t := tyDev) (bytes := 16) rfl rfl del3 foc0 (Reads.lit (t := tyDev) (ys := [X18]) rfl rfl (by decide) (by decide) rfl) Try.underlying32 ok_tyDev (apl (m := 1) (b := 16) (by have hz : _ ≤ 1000000000 := hg3; have := hdl15; omega) (by decide)).1 (apl (m := 1) (b := 16) (by have hz : _ ≤ 1000000000 := hg3; have := hdl15; omega) (by decide)).2 rfl (fun p32 c33 => ?_))
            refine RJ_ent (Ent.trans (Ent.take del4 (Ent.take del2 Ent.refl)) (Rs_push (x := o27) (g := X18) (fun _ _ => Dup_DevP))) ?_
            refine RJ_pure (fun h hh => Rs_len (stars_perm (del0 (A := Rs (DevP ba) (x10 ++ [o27]) (hs12 ++ [X18]))).out h hh)) (fun hdl34 => ?_)
            refine RJ_op rfl (OJ_P (P_assign rfl) rfl ?_)
            refine RJ_nil ?_
            refine QJ_block_normal ?_
            refine QJ_then ?_
            refine CJ_region ?_
            refine RJ_op rfl (OJ_P (P_move rfl) rfl ?_)
            obtain ⟨hg4, h⟩ := grd_Ne h
            refine RJ_op rfl (OJ_P (PJ_eq (P_add (a := ((x13 : Nat) : Int)) (b := (1 : Int)) rfl rfl (nat_in hg4)) rfl) rfl ?_)
            refine RJ_op rfl (OJ_P (P_assign rfl) rfl ?_)
            refine RJ_nil ?_
            refine QJ_nextR ⟨n, (x10 ++ [o27]), (x13 + 1), ⟨p32, (hs12 ++ [X18]).length, c33⟩, (hs12 ++ [X18])⟩ (Nat.lt_succ_self _) ?_ (by repeat (first | exact Kp.base | exact Kp.self | refine Kp.cons rfl ?_ | refine Kp.forget rfl ?_)) ?_ (Ent.take del2 (Ent.take del0 (Ent.take del2 (Ent.drop (Ent.drop Ent.refl)))))
            · exact h
            · exact ⟨rfl, rfl, True.intro⟩
      ·
        replace h := ite_f hg1 h
        refine CJ_exit ?_
        refine QJ_then_exit ?_
        refine QJ_round_exit ?_
        refine QJ_block_here ?_
        refine QJ_cutR ⟨x10, hd11, hs12⟩ ?_ (by repeat (first | exact Kp.base | exact Kp.self | refine Kp.cons rfl ?_ | refine Kp.forget rfl ?_)) ?_ (Ent.take del1 (Ent.take del1 Ent.refl))
        · exact (Option.some.inj h).symm
        · exact ⟨rfl, True.intro⟩
  ·
    rintro ⟨a9, hd7, hs8⟩ hy35
    replace h := seq_inl hK4 hy35
    show CJ _ _ _ _ _ (([(3, hd7.v)] : Slots) ++ forget _ _) (sl tyDev hd7.v hs8 :: Rs (DevP ba) a9 hs8 :: _)
    refine CJ_pure (len_of (Reads.sl _ _ _) del0) (fun hlen36 => ?_)
    refine CJ_pure (fun h hh => Rs_len (stars_perm (del1 (A := Rs (DevP ba) a9 hs8)).out h hh)) (fun hdl37 => ?_)
    refine CJ_seq ?_
    refine CJ_region ?_
    refine RJ_op rfl (OJ_P (P_move rfl) rfl ?_)
    refine RJ_op rfl (OJ_P (P_assign rfl) rfl ?_)
    refine RJ_nil ?_
    refine QJ_then ?_
    refine CJ_ret ?_
    have hE := Option.some.inj h
    subst hE
    refine QJ_end (res1 Try.results11 rfl) ?_
    refine CSpec.close (hd7, hs8) ?_ ?_ (Ent.take del2 Ent.refl)
    · rfl
    · trivial

def volumegroupmake_Keep_l1_b (w : UInt64) (rec : (List Bool) → Nat → Option ((List Bool))) (x8 : List Bool) (x10 : Nat) : Option ((List Bool)) :=
  if (((x10 : Nat) : Int) < (192 : Int)) then
    grd (inLen (x8.length + 1)) <|
    rec ((x8 ++ [(decide (((shr_u64 w (x10 % 64)) &&& (1 : UInt64)) = (1 : UInt64)))])) (x10 + 1)
  else
    some x8

def volumegroupmake_Keep_l1 (w : UInt64) : Nat → (List Bool) → Nat → Option ((List Bool))
  | 0, _, _ => none
  | n + 1, x8, x10 => volumegroupmake_Keep_l1_b w (volumegroupmake_Keep_l1 w n) x8 x10

def volumegroupmake_Keep (w : UInt64) : Option ((List Bool)) :=
  Option.bind (volumegroupmake_Keep_l1 w FUEL ([]) 0) fun a7 =>
  some a7

theorem L_volumegroupmake_Keep {W : World} {w : UInt64} {r : (List Bool)} (h : volumegroupmake_Keep w = some r) :
    CSpec Try.prog W 24 [.int .u64 (w.toNat : Int)] [] (fun x : Sl3 => x.v) (fun _ => True) (fun x F => sl tyB x.v r :: F) := by
  refine CSpec.of_body Try.func24 rfl Try.ntmps24 rfl (fun F => ?_)
  show CJ _ _ _ _ _ _ (F)
  unfold volumegroupmake_Keep at h
  refine CJ_seq ?_
  refine CJ_region ?_
  refine RJ_op rfl (OJ_P (P_assign rfl) rfl ?_)
  refine RJ_nil ?_
  refine QJ_then ?_
  refine CJ_seq ?_
  refine CJ_region ?_
  refine RJ_op rfl (OJ_P (P_assign rfl) rfl ?_)
  refine RJ_nil ?_
  refine QJ_then ?_
  refine CJ_seq ?_
  refine CJ_seq ?_
  refine CJ_region ?_
  refine RJ_op rfl (OJ_P (P_assign rfl) rfl ?_)
  refine RJ_nil ?_
  refine QJ_then ?_
  refine CJ_ent (fun h hh => sl_nil (t := tyB) h hh) ?_
  obtain ⟨y4, hl2, hK3⟩ := bind_c h
  refine CJ_cutT (X := (List Bool) × Sl3) [3, 4, 5, 6, 7, 8, 9, 10, 11, 12, 13, 14, 15, 16, 17] (fun ⟨a7, hd6⟩ => ([(3, hd6.v)] : Slots)) (fun ⟨a7, hd6⟩ R => sl tyB hd6.v a7 :: R) (fun ⟨a7, hd6⟩ => y4 = a7) (Dels.cons del0 Dels.nil) ?_ ?_
  ·
    refine CJ_block ?_
    refine CJ_loopR (X := Nat × (List Bool) × Nat × Sl3) [3, 4, 5, 6, 7, 8, 9, 10, 11, 12, 13, 14, 15, 16, 17] (fun ⟨n, x8, x10, hd9⟩ => ([(3, hd9.v), (4, .int .i64 (((x10 : Nat) : Int)))] : Slots)) (fun ⟨n, x8, x10, hd9⟩ R => sl tyB hd9.v x8 :: R) (fun ⟨n, x8, x10, hd9⟩ => volumegroupmake_Keep_l1 w n x8 x10 = some y4) (fun ⟨n, x8, x10, hd9⟩ => n) ⟨FUEL, [], 0, ⟨none, 0, 0⟩⟩ ?_ ?_ Ent.refl ?_
    · exact hl2
    · exact ⟨rfl, rfl, True.intro⟩
    ·
      rintro ⟨n, x8, x10, hd9⟩ h
      cases n with
      | zero => exact none_e h
      | succ n => ?_
      replace h : volumegroupmake_Keep_l1_b w (volumegroupmake_Keep_l1 w n) x8 x10 = some y4 := h
      unfold volumegroupmake_Keep_l1_b at h
      show CJ _ _ _ _ _ (([(3, hd9.v), (4, .int .i64 (((x10 : Nat) : Int)))] : Slots) ++ forget _ _) (sl tyB hd9.v x8 :: _)
      refine CJ_pure (len_of (Reads.sl _ _ _) del0) (fun hlen11 => ?_)
      refine CJ_seq ?_
      refine CJ_seq ?_
      refine CJ_region ?_
      refine RJ_op rfl (OJ_P (P_move rfl) rfl ?_)
      refine RJ_op rfl (OJ_P (P_lss (a := ((x10 : Nat) : Int)) (b := (192 : Int)) rfl rfl) rfl ?_)
      refine RJ_nil ?_
      refine QJ_then ?_
      refine CJ_condP rfl bT_dec (fun hg1 => ?_) (fun hg1 => ?_)
      ·
        replace h := ite_t hg1 h
        refine CJ_skip ?_
        refine QJ_then ?_
        refine CJ_seq ?_
        refine CJ_block ?_
        refine CJ_region ?_
        refine RJ_op rfl (OJ_P (P_move rfl) rfl ?_)
        refine RJ_op rfl (OJ_P (P_move rfl) rfl ?_)
        refine RJ_op rfl (OJ_P (P_move rfl) rfl ?_)
        refine RJ_op rfl (OJ_P (PJ_eq (P_rem (a := ((x10 : Nat) : Int)) (b := (64 : Int)) rfl rfl (by omega)) rfl) rfl ?_)
        refine RJ_op rfl (OJ_P (P_shr_u64 (a := w) (m := (x10 % 64)) rfl rfl rfl) rfl ?_)
        refine RJ_op rfl (OJ_P (P_and_u64 (a := (shr_u64 w (x10 % 64))) (b := (1 : UInt64)) rfl rfl) rfl ?_)
        refine RJ_op rfl (OJ_P (P_eq_u64 (a := ((shr_u64 w (x10 % 64)) &&& (1 : UInt64))) (b := (1 : UInt64)) rfl rfl) rfl ?_)
        refine RJ_op rfl (O_buildSlice rfl (bs_51_1_0 _) rfl (fun b12 => ?_))
        obtain ⟨hg2, h⟩ := grd_Le h
        refine RJ_op rfl (O_append (t := tyB) (bytes := 1) rfl rfl del1 foc0 (Reads.lit (t := tyB) (ys := [(decide (((shr_u64 w (x10 % 64)) &&& (1 : UInt64)) = (1 : UInt64)))]) rfl rfl (by decide) (by decide) rfl) Try.underlying51 ok_tyB (apl (m := 1) (b := 1) hg2 (by decide)).1 (apl (m := 1) (b := 1) hg2 (by decide)).2 rfl (fun p14 c15 => ?_))
        refine RJ_op rfl (OJ_P (P_assign rfl) rfl ?_)
        refine RJ_nil ?_
        refine QJ_block_normal ?_
        refine QJ_then ?_
        refine CJ_region ?_
        refine RJ_op rfl (OJ_P (P_move rfl) rfl ?_)
        refine RJ_op rfl (OJ_P (PJ_eq (P_add (a := ((x10 : Nat) : Int)) (b := (1 : Int)) rfl rfl (by omega)) rfl) rfl ?_)
        refine RJ_op rfl (OJ_P (P_assign rfl) rfl ?_)
        refine RJ_nil ?_
        refine QJ_nextR ⟨n, (x8 ++ [(decide (((shr_u64 w (x10 % 64)) &&& (1 : UInt64)) = (1 : UInt64)))]), (x10 + 1), ⟨p14, (x8 ++ [(decide (((shr_u64 w (x10 % 64)) &&& (1 : UInt64)) = (1 : UInt64)))]).length, c15⟩⟩ (Nat.lt_succ_self _) ?_ (by repeat (first | exact Kp.base | exact Kp.self | refine Kp.cons rfl ?_ | refine Kp.forget rfl ?_)) ?_ (Ent.take del0 (Ent.drop Ent.refl))
        · exact h
        · exact ⟨rfl, rfl, True.intro⟩
      ·
        replace h := ite_f hg1 h
        refine CJ_exit ?_
        refine QJ_then_exit ?_
        refine QJ_round_exit ?_
        refine QJ_block_here ?_
        refine QJ_cutR ⟨x8, hd9⟩ ?_ (by repeat (first | exact Kp.base | exact Kp.self | refine Kp.cons rfl ?_ | refine Kp.forget rfl ?_)) ?_ Ent.refl
        · exact (Option.some.inj h).symm
        · exact ⟨rfl, True.intro⟩
  ·
    rintro ⟨a7, hd6⟩ hy16
    replace h := bindK_at hK3 hy16
    show CJ _ _ _ _ _ (([(3, hd6.v)] : Slots) ++ forget _ _) (sl tyB hd6.v a7 :: _)
    refine CJ_pure (len_of (Reads.sl _ _ _) del0) (fun hlen17 => ?_)
    refine CJ_seq ?_
    refine CJ_region ?_
    refine RJ_op rfl (OJ_P (P_move rfl) rfl ?_)
    refine RJ_op rfl (OJ_P (P_assign rfl) rfl ?_)
    refine RJ_nil ?_
    refine QJ_then ?_
    refine CJ_ret ?_
    have hE := Option.some.inj h
    subst hE
    refine QJ_end (res1 Try.results24 rfl) ?_
    refine CSpec.close hd6 ?_ ?_ Ent.refl
    · rfl
    · trivial

end Go.Proofs
