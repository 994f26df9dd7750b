/- YthadblmhhekedaaLAw4: lifted functions of the program; printed by lift.py. -/
import Derived.Test.YthadblmhhekedaaLTAll
set_option linter.unusedSimpArgs false
set_option linter.unusedVariables false
set_option maxRecDepth 20000
set_option maxHeartbeats 4000000
namespace Go.Proofs
open Go.VG

def volumegrouplaw04_awake : Option (Bool) :=
  grd (inLen ([(2 : Int)]).length) <|
  if ((newC ([(2 : Int)])) ≠ (0 : Int)) then
    some false
  else
    Option.elim (newO ([(2 : Int)])) (
      some false) fun o9 =>
    grd (inLen o9.writes) <|
    if ((wrR o9 (0 : Int) (0 : Int)) ≠ (0 : Int)) then
      some false
    else
      grd (inLen ((wrS o9 (0 : Int) (0 : Int) (5 : UInt64))).writes) <|
      if ((flC ((wrS o9 (0 : Int) (0 : Int) (5 : UInt64))) (0 : Int)) ≠ (0 : Int)) then
        some false
      else
        grd (inLen ((flS ((wrS o9 (0 : Int) (0 : Int) (5 : UInt64))) (0 : Int))).writes) <|
        lt ((wrR ((flS ((wrS o9 (0 : Int) (0 : Int) (5 : UInt64))) (0 : Int))) (0 : Int) (0 : Int))) fun w10 =>
        if (w10 ≠ (0 : Int)) then
          some false
        else
          grd (inLen ((wrS ((flS ((wrS o9 (0 : Int) (0 : Int) (5 : UInt64))) (0 : Int))) (0 : Int) (0 : Int) (6 : UInt64))).writes) <|
          lt ((rdV ((rsS ((wrS ((flS ((wrS o9 (0 : Int) (0 : Int) (5 : UInt64))) (0 : Int))) (0 : Int) (0 : Int) (6 : UInt64))) ([false]))) (0 : Int) (0 : Int))) fun w12 =>
          lt ((rdC ((rsS ((wrS ((flS ((wrS o9 (0 : Int) (0 : Int) (5 : UInt64))) (0 : Int))) (0 : Int) (0 : Int) (6 : UInt64))) ([false]))) (0 : Int) (0 : Int))) fun w13 =>
          some (((decide (w13 = (0 : Int))) && (decide (w12 = (5 : UInt64)))))

theorem L_volumegrouplaw04_awake {W : World} {r : Bool} (h : volumegrouplaw04_awake = some r) :
    CSpec Try.prog W 9 [] [] (fun x : Unit => .bool r) (fun _ => True) (fun x F => F) := by
  refine CSpec.of_body Try.func9 rfl Try.ntmps9 rfl (fun F => ?_)
  show CJ _ _ _ _ _ _ (F)
  unfold volumegrouplaw04_awake at h
  refine CJ_seq ?_
  refine CJ_region ?_
  refine RJ_op rfl (OJ_P (P_assign rfl) rfl ?_)
  refine RJ_nil ?_
  refine QJ_then ?_
  refine CJ_seq ?_
  refine CJ_region ?_
  refine RJ_op rfl (O_buildSlice rfl (bs_29_1_0 _) rfl (fun b1 => ?_))
  refine RJ_ent (Ent.trans (Ent.take del0 Ent.refl) (sl_of_lit (t := tyI) (m := 1) [(2 : Int)] rfl rfl rfl (by decide))) ?_
  obtain ⟨hg1, h⟩ := grd_Le h
  refine RJ_op rfl (O_call (c_NewO (Reads.sl _ _ _) hg1) rfl Try.call10 (Dels.cons del0 Dels.nil) rfl (fun X2 _ => ?_))
  refine RJ_op rfl (OJ_P (P_move rfl) rfl ?_)
  refine RJ_op rfl (OJ_P (P_extract rfl rfl) rfl ?_)
  refine RJ_op rfl (OJ_P (P_extract rfl rfl) rfl ?_)
  refine RJ_op rfl (OJ_P (P_assign rfl) rfl ?_)
  refine RJ_op rfl (OJ_P (P_assign rfl) rfl ?_)
  refine RJ_nil ?_
  refine QJ_then ?_
  refine CJ_seq ?_
  refine CJ_seq ?_
  refine CJ_region ?_
  refine RJ_op rfl (OJ_P (P_move rfl) rfl ?_)
  refine RJ_op rfl (OJ_P (P_neq (a := (newC ([(2 : Int)]))) (b := (0 : Int)) rfl rfl) rfl ?_)
  refine RJ_op rfl (OJ_P (P_move rfl) rfl ?_)
  refine RJ_mbF rfl rfl rfl (fun hG4 => have hP5 : ¬ ((newC ([(2 : Int)])) ≠ (0 : Int)) := nP (bT_dec) hG4; VJ_P (P_move rfl)) ?_
  refine RJ_splitP 12 rfl bT_dec (fun hg2B hg2 => ?_) (fun hg2B hg2 => ?_)
  ·
    replace h := ite_t hg2 h
    refine RJ_gn (GY_no rfl rfl rfl hg2B) rfl rfl ?_
    refine RJ_op rfl (OJ_P (P_pickT rfl hg2B rfl) rfl ?_)
    refine RJ_op rfl (OJ_P (P_move rfl) rfl ?_)
    refine RJ_gn (GY_no rfl rfl rfl rfl) rfl rfl ?_
    refine RJ_gn (GY_no rfl rfl rfl rfl) rfl rfl ?_
    refine RJ_gn (GY_no rfl rfl rfl rfl) rfl rfl ?_
    refine RJ_op rfl (OJ_P (P_pickT rfl rfl rfl) rfl ?_)
    refine RJ_op rfl (OJ_P (P_move rfl) rfl ?_)
    refine RJ_gn (GY_no rfl rfl rfl rfl) rfl rfl ?_
    refine RJ_gn (GY_no rfl rfl rfl rfl) rfl rfl ?_
    refine RJ_gn (GY_no rfl rfl rfl rfl) rfl rfl ?_
    refine RJ_op rfl (OJ_P (P_pickT rfl rfl rfl) rfl ?_)
    refine RJ_op rfl (OJ_P (P_move rfl) rfl ?_)
    refine RJ_gn (GY_no rfl rfl rfl rfl) rfl rfl ?_
    refine RJ_gn (GY_no rfl rfl rfl rfl) rfl rfl ?_
    refine RJ_gn (GY_no rfl rfl rfl rfl) rfl rfl ?_
    refine RJ_op rfl (OJ_P (P_pickT rfl rfl rfl) rfl ?_)
    refine RJ_nil ?_
    refine QJ_then ?_
    refine CJ_condT rfl rfl ?_
    refine CJ_seq ?_
    refine CJ_region ?_
    refine RJ_op rfl (OJ_P (P_assign rfl) rfl ?_)
    refine RJ_nil ?_
    refine QJ_then ?_
    refine CJ_ret ?_
    refine QJ_then_ret ?_
    have hE := Option.some.inj h
    subst hE
    refine QJ_end (res1 Try.results9 rfl) ?_
    refine CSpec.close () ?_ ?_ (Ent.drop (Ent.drop Ent.refl))
    · rfl
    · trivial
  ·
    replace h := ite_f hg2 h
    rcases opt_e h with ⟨ht8, h⟩ | ⟨o9, ht8, h⟩
    ·
      rw [ht8]
      refine RJ_ent (Ent.take del1 (Ent.drop Ent.refl)) ?_
      refine RJ_gy (GY_yes rfl rfl rfl hg2B) (OJ_P (P_eqlNN (mbx (not_f hg2B) rfl) rfl Try.underlying25) rfl ?_)
      refine RJ_op rfl (OJ_P (P_pickF rfl hg2B rfl) rfl ?_)
      refine RJ_op rfl (OJ_P (P_move rfl) rfl ?_)
      refine RJ_gn (GY_no rfl rfl rfl rfl) rfl rfl ?_
      refine RJ_gn (GY_no rfl rfl rfl rfl) rfl rfl ?_
      refine RJ_gn (GY_no rfl rfl rfl rfl) rfl rfl ?_
      refine RJ_op rfl (OJ_P (P_pickT rfl rfl rfl) rfl ?_)
      refine RJ_op rfl (OJ_P (P_move rfl) rfl ?_)
      refine RJ_gn (GY_no rfl rfl rfl rfl) rfl rfl ?_
      refine RJ_gn (GY_no rfl rfl rfl rfl) rfl rfl ?_
      refine RJ_gn (GY_no rfl rfl rfl rfl) rfl rfl ?_
      refine RJ_op rfl (OJ_P (P_pickT rfl rfl rfl) rfl ?_)
      refine RJ_op rfl (OJ_P (P_move rfl) rfl ?_)
      refine RJ_gn (GY_no rfl rfl rfl rfl) rfl rfl ?_
      refine RJ_gn (GY_no rfl rfl rfl rfl) rfl rfl ?_
      refine RJ_gn (GY_no rfl rfl rfl rfl) rfl rfl ?_
      refine RJ_op rfl (OJ_P (P_pickT rfl rfl rfl) rfl ?_)
      refine RJ_nil ?_
      refine QJ_then ?_
      refine CJ_condT rfl rfl ?_
      refine CJ_seq ?_
      refine CJ_region ?_
      refine RJ_op rfl (OJ_P (P_assign rfl) rfl ?_)
      refine RJ_nil ?_
      refine QJ_then ?_
      refine CJ_ret ?_
      refine QJ_then_ret ?_
      have hE := Option.some.inj h
      subst hE
      refine QJ_end (res1 Try.results9 rfl) ?_
      refine CSpec.close () ?_ ?_ (Ent.drop Ent.refl)
      · rfl
      · trivial
    ·
      rw [ht8]
      refine RJ_ent (Ent.takeC (A' := Arr X2 o9) del0 rfl Ent.refl) ?_
      refine RJ_gy (GY_yes rfl rfl rfl hg2B) (OJ_P (P_eqlPN (mbx (not_f hg2B) rfl) rfl Try.underlying25) rfl ?_)
      refine RJ_op rfl (OJ_P (P_pickF rfl hg2B rfl) rfl ?_)
      refine RJ_op rfl (OJ_P (P_move rfl) rfl ?_)
      refine RJ_gy (GY_yes rfl rfl rfl rfl) (OJ_P (P_move rfl) rfl ?_)
      obtain ⟨hg3, h⟩ := grd_Le h
      refine RJ_gy (GY_yes rfl rfl rfl rfl) (O_call (c_Write hg3 (v := (5 : UInt64))) rfl Try.call13 (Dels.cons del0 Dels.nil) rfl (fun _ _ => ?_))
      refine RJ_gy (GY_yes rfl rfl rfl rfl) (OJ_P (P_neq (a := (wrR o9 (0 : Int) (0 : Int))) (b := (0 : Int)) rfl rfl) rfl ?_)
      refine RJ_op rfl (OJ_P (P_pickF rfl rfl rfl) rfl ?_)
      refine RJ_op rfl (OJ_P (P_move rfl) rfl ?_)
      refine RJ_splitP 21 rfl bT_dec (fun hg4B hg4 => ?_) (fun hg4B hg4 => ?_)
      ·
        replace h := ite_t hg4 h
        refine RJ_gn (GY_no rfl rfl rfl hg4B) rfl rfl ?_
        refine RJ_gn (GY_no rfl rfl rfl hg4B) rfl rfl ?_
        refine RJ_gn (GY_no rfl rfl rfl hg4B) rfl rfl ?_
        refine RJ_op rfl (OJ_P (P_pickT rfl hg4B rfl) rfl ?_)
        refine RJ_op rfl (OJ_P (P_move rfl) rfl ?_)
        refine RJ_gn (GY_no rfl rfl rfl rfl) rfl rfl ?_
        refine RJ_gn (GY_no rfl rfl rfl rfl) rfl rfl ?_
        refine RJ_gn (GY_no rfl rfl rfl rfl) rfl rfl ?_
        refine RJ_op rfl (OJ_P (P_pickT rfl rfl rfl) rfl ?_)
        refine RJ_nil ?_
        refine QJ_then ?_
        refine CJ_condT rfl rfl ?_
        refine CJ_seq ?_
        refine CJ_region ?_
        refine RJ_op rfl (OJ_P (P_assign rfl) rfl ?_)
        refine RJ_nil ?_
        refine QJ_then ?_
        refine CJ_ret ?_
        refine QJ_then_ret ?_
        have hE := Option.some.inj h
        subst hE
        refine QJ_end (res1 Try.results9 rfl) ?_
        refine CSpec.close () ?_ ?_ (Ent.drop (Ent.drop Ent.refl))
        · rfl
        · trivial
      ·
        replace h := ite_f hg4 h
        refine RJ_gy (GY_yes rfl rfl rfl hg4B) (OJ_P (P_move rfl) rfl ?_)
        obtain ⟨hg5, h⟩ := grd_Le h
        refine RJ_gy (GY_yes rfl rfl rfl hg4B) (O_call (c_FlushD hg5) rfl Try.call14 (Dels.cons del0 Dels.nil) rfl (fun _ _ => ?_))
        refine RJ_gy (GY_yes rfl rfl rfl hg4B) (OJ_P (P_neq (a := (flC ((wrS o9 (0 : Int) (0 : Int) (5 : UInt64))) (0 : Int))) (b := (0 : Int)) rfl rfl) rfl ?_)
        refine RJ_op rfl (OJ_P (P_pickF rfl hg4B rfl) rfl ?_)
        refine RJ_op rfl (OJ_P (P_move rfl) rfl ?_)
        refine RJ_splitP 26 rfl bT_dec (fun hg6B hg6 => ?_) (fun hg6B hg6 => ?_)
        ·
          replace h := ite_t hg6 h
          refine RJ_gn (GY_no rfl rfl rfl hg6B) rfl rfl ?_
          refine RJ_gn (GY_no rfl rfl rfl hg6B) rfl rfl ?_
          refine RJ_gn (GY_no rfl rfl rfl hg6B) rfl rfl ?_
          refine RJ_op rfl (OJ_P (P_pickT rfl hg6B rfl) rfl ?_)
          refine RJ_nil ?_
          refine QJ_then ?_
          refine CJ_condT rfl rfl ?_
          refine CJ_seq ?_
          refine CJ_region ?_
          refine RJ_op rfl (OJ_P (P_assign rfl) rfl ?_)
          refine RJ_nil ?_
          refine QJ_then ?_
          refine CJ_ret ?_
          refine QJ_then_ret ?_
          have hE := Option.some.inj h
          subst hE
          refine QJ_end (res1 Try.results9 rfl) ?_
          refine CSpec.close () ?_ ?_ (Ent.drop (Ent.drop Ent.refl))
          · rfl
          · trivial
        ·
          replace h := ite_f hg6 h
          refine RJ_gy (GY_yes rfl rfl rfl hg6B) (OJ_P (P_move rfl) rfl ?_)
          obtain ⟨hg7, h⟩ := grd_Le h
          refine RJ_gy (GY_yes rfl rfl rfl hg6B) (O_call (c_Write hg7 (v := (6 : UInt64))) rfl Try.call13 (Dels.cons del0 Dels.nil) rfl (fun _ _ => ?_))
          obtain ⟨w10, hw10, h⟩ := lt_e h
          rw [← hw10]
          refine RJ_gy (GY_yes rfl rfl rfl hg6B) (OJ_P (P_neq (a := w10) (b := (0 : Int)) rfl rfl) rfl ?_)
          refine RJ_op rfl (OJ_P (P_pickF rfl hg6B rfl) rfl ?_)
          refine RJ_nil ?_
          refine QJ_then ?_
          refine CJ_condP rfl bT_dec (fun hg8 => ?_) (fun hg8 => ?_)
          ·
            replace h := ite_t hg8 h
            refine CJ_seq ?_
            refine CJ_region ?_
            refine RJ_op rfl (OJ_P (P_assign rfl) rfl ?_)
            refine RJ_nil ?_
            refine QJ_then ?_
            refine CJ_ret ?_
            refine QJ_then_ret ?_
            have hE := Option.some.inj h
            subst hE
            refine QJ_end (res1 Try.results9 rfl) ?_
            refine CSpec.close () ?_ ?_ (Ent.drop (Ent.drop Ent.refl))
            · rfl
            · trivial
          ·
            replace h := ite_f hg8 h
            refine CJ_skip ?_
            refine QJ_then ?_
            refine CJ_seq ?_
            refine CJ_region ?_
            refine RJ_op rfl (OJ_P (P_move rfl) rfl ?_)
            refine RJ_op rfl (O_buildSlice rfl (bs_41_1_0 _) rfl (fun b11 => ?_))
            refine RJ_ent (Ent.trans (Ent.take del0 Ent.refl) (sl_of_lit (t := tyB) (m := 1) [false] rfl rfl rfl (by decide))) ?_
            obtain ⟨hg9, h⟩ := grd_Le h
            refine RJ_op rfl (O_call (c_Restart (Reads.sl _ _ _) hg9) rfl Try.call19 (Dels.cons del1 (Dels.cons del0 Dels.nil)) rfl (fun _ _ => ?_))
            refine RJ_nil ?_
            refine QJ_then ?_
            refine CJ_seq ?_
            refine CJ_region ?_
            refine RJ_op rfl (OJ_P (P_move rfl) rfl ?_)
            refine RJ_op rfl (O_call (c_Read) rfl Try.call21 (Dels.cons del0 Dels.nil) rfl (fun _ _ => ?_))
            refine RJ_op rfl (OJ_P (P_move rfl) rfl ?_)
            refine RJ_op rfl (OJ_P (P_extract rfl rfl) rfl ?_)
            obtain ⟨w12, hw12, h⟩ := lt_e h
            rw [← hw12]
            refine RJ_op rfl (OJ_P (P_extract rfl rfl) rfl ?_)
            obtain ⟨w13, hw13, h⟩ := lt_e h
            rw [← hw13]
            refine RJ_op rfl (OJ_P (P_assign rfl) rfl ?_)
            refine RJ_op rfl (OJ_P (P_assign rfl) rfl ?_)
            refine RJ_nil ?_
            refine QJ_then ?_
            refine CJ_seq ?_
            refine CJ_region ?_
            refine RJ_op rfl (OJ_P (P_move rfl) rfl ?_)
            refine RJ_op rfl (OJ_P (P_eql (a := w13) (b := (0 : Int)) rfl rfl) rfl ?_)
            refine RJ_op rfl (OJ_P (P_move rfl) rfl ?_)
            refine RJ_mbT rfl rfl rfl (fun hG14 => have hP15 : (w13 = (0 : Int)) := (bT_dec).1 hG14; VJ_P (P_move rfl)) ?_
            refine RJ_mbT rfl rfl rfl (fun hG16 => have hP17 : (w13 = (0 : Int)) := (bT_dec).1 hG16; VJ_P (P_eq_u64 (a := w12) (b := (5 : UInt64)) (mbx hG16 rfl) rfl)) ?_
            refine RJ_op rfl (OJ_P (P_pickAnd rfl (fun hh => mbx hh rfl) rfl) rfl ?_)
            refine RJ_op rfl (OJ_P (P_assign rfl) rfl ?_)
            refine RJ_nil ?_
            refine QJ_then ?_
            refine CJ_ret ?_
            have hE := Option.some.inj h
            subst hE
            refine QJ_end (res1 Try.results9 rfl) ?_
            refine CSpec.close () ?_ ?_ (Ent.drop (Ent.drop (Ent.drop Ent.refl)))
            · rfl
            · trivial

end Go.Proofs
