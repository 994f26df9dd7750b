/- YthgeeoahmjmnoaaLBlockNested: lifted functions of the program; printed by lift.py. -/
import Derived.Test.YthgeeoahmjmnoaaLBlk
set_option linter.unusedSimpArgs false
set_option linter.unusedVariables false
set_option maxRecDepth 20000
set_option maxHeartbeats 4000000
namespace Go.Proofs
open Go.VG

theorem bs_27_1_0 (v0 : (Option Addr)) (v1 : Nat) (v2 : Nat) : BuildsSlice Try.prog 27 1 [(0, .slice v0 v1 v2)] 25 [.slice v0 v1 v2] := fun w => by kernel_rfl
def volumegrouplaw05_BlockNested (a : UInt8) (b : UInt8) (c : UInt8) (d : UInt8) (at_4 : UInt8) (v : UInt64) : Option (Bool) :=
  Option.bind (volumegroupmake_Words (20 : Int) (3 : UInt64)) fun r1 =>
  Option.bind (volumegroupmake_Loaded (([r1] : List (List UInt64)))) fun r7 =>
  Option.elim r7 (
    some false) fun o12 =>
  Option.bind (volumegroupmake_Spans o12) fun r13 =>
  if (((r13.length : Nat) : Int) ≠ (1 : Int)) then
    some false
  else
    grd (inI64 (((20 : Int) - ((((a % (10 : UInt8))).toNat : Nat) : Int)))) <|
    grd (decide (¬ ((20 : Int) - ((((a % (10 : UInt8))).toNat : Nat) : Int)) = 0)) <|
    grd (inI64 (((1 : Int) + ((((b.toNat : Nat) : Int)).tmod (((20 : Int) - ((((a % (10 : UInt8))).toNat : Nat) : Int))))))) <|
    grd (decide (¬ ((1 : Int) + ((((b.toNat : Nat) : Int)).tmod (((20 : Int) - ((((a % (10 : UInt8))).toNat : Nat) : Int))))) = 0)) <|
    grd (inI64 ((((1 : Int) + ((((b.toNat : Nat) : Int)).tmod (((20 : Int) - ((((a % (10 : UInt8))).toNat : Nat) : Int))))) - ((((c.toNat : Nat) : Int)).tmod (((1 : Int) + ((((b.toNat : Nat) : Int)).tmod (((20 : Int) - ((((a % (10 : UInt8))).toNat : Nat) : Int)))))))))) <|
    grd (decide (¬ (((1 : Int) + ((((b.toNat : Nat) : Int)).tmod (((20 : Int) - ((((a % (10 : UInt8))).toNat : Nat) : Int))))) - ((((c.toNat : Nat) : Int)).tmod (((1 : Int) + ((((b.toNat : Nat) : Int)).tmod (((20 : Int) - ((((a % (10 : UInt8))).toNat : Nat) : Int)))))))) = 0)) <|
    grd (inI64 (((1 : Int) + ((((d.toNat : Nat) : Int)).tmod ((((1 : Int) + ((((b.toNat : Nat) : Int)).tmod (((20 : Int) - ((((a % (10 : UInt8))).toNat : Nat) : Int))))) - ((((c.toNat : Nat) : Int)).tmod (((1 : Int) + ((((b.toNat : Nat) : Int)).tmod (((20 : Int) - ((((a % (10 : UInt8))).toNat : Nat) : Int))))))))))))) <|
    Option.bind (block_Window (r13.getD 0 dv0) (((((a % (10 : UInt8))).toNat : Nat) : Int)) (((1 : Int) + ((((b.toNat : Nat) : Int)).tmod (((20 : Int) - ((((a % (10 : UInt8))).toNat : Nat) : Int)))))) o12) fun r20 =>
    if (r20.2 ≠ (0 : Int)) then
      some false
    else
      Option.elim r20.1 (
        some false) fun o29 =>
      Option.bind (block_Window o29 (((((c.toNat : Nat) : Int)).tmod (((1 : Int) + ((((b.toNat : Nat) : Int)).tmod (((20 : Int) - ((((a % (10 : UInt8))).toNat : Nat) : Int)))))))) (((1 : Int) + ((((d.toNat : Nat) : Int)).tmod ((((1 : Int) + ((((b.toNat : Nat) : Int)).tmod (((20 : Int) - ((((a % (10 : UInt8))).toNat : Nat) : Int))))) - ((((c.toNat : Nat) : Int)).tmod (((1 : Int) + ((((b.toNat : Nat) : Int)).tmod (((20 : Int) - ((((a % (10 : UInt8))).toNat : Nat) : Int)))))))))))) o12) fun r30 =>
      grd (inI64 ((((((a % (10 : UInt8))).toNat : Nat) : Int) + ((((c.toNat : Nat) : Int)).tmod (((1 : Int) + ((((b.toNat : Nat) : Int)).tmod (((20 : Int) - ((((a % (10 : UInt8))).toNat : Nat) : Int)))))))))) <|
      Option.bind (block_Window (r13.getD 0 dv0) ((((((a % (10 : UInt8))).toNat : Nat) : Int) + ((((c.toNat : Nat) : Int)).tmod (((1 : Int) + ((((b.toNat : Nat) : Int)).tmod (((20 : Int) - ((((a % (10 : UInt8))).toNat : Nat) : Int))))))))) (((1 : Int) + ((((d.toNat : Nat) : Int)).tmod ((((1 : Int) + ((((b.toNat : Nat) : Int)).tmod (((20 : Int) - ((((a % (10 : UInt8))).toNat : Nat) : Int))))) - ((((c.toNat : Nat) : Int)).tmod (((1 : Int) + ((((b.toNat : Nat) : Int)).tmod (((20 : Int) - ((((a % (10 : UInt8))).toNat : Nat) : Int)))))))))))) o12) fun r35 =>
      if ((r30.2 ≠ (0 : Int)) ∨ (r35.2 ≠ (0 : Int))) then
        some false
      else
        Option.elim r30.1 (
          some false) fun o48 =>
        Option.elim r35.1 (
          some false) fun o50 =>
        Option.bind (Dvc.size o48 o12) fun r52 =>
        Option.bind (Dvc.size o50 o12) fun r55 =>
        if (r52 ≠ r55) then
          some false
        else
          grd (decide (¬ ((1 : Int) + ((((d.toNat : Nat) : Int)).tmod ((((1 : Int) + ((((b.toNat : Nat) : Int)).tmod (((20 : Int) - ((((a % (10 : UInt8))).toNat : Nat) : Int))))) - ((((c.toNat : Nat) : Int)).tmod (((1 : Int) + ((((b.toNat : Nat) : Int)).tmod (((20 : Int) - ((((a % (10 : UInt8))).toNat : Nat) : Int))))))))))) = 0)) <|
          Option.bind (Dvc.wr o48 o12 (((((at_4.toNat : Nat) : Int)).tmod (((1 : Int) + ((((d.toNat : Nat) : Int)).tmod ((((1 : Int) + ((((b.toNat : Nat) : Int)).tmod (((20 : Int) - ((((a % (10 : UInt8))).toNat : Nat) : Int))))) - ((((c.toNat : Nat) : Int)).tmod (((1 : Int) + ((((b.toNat : Nat) : Int)).tmod (((20 : Int) - ((((a % (10 : UInt8))).toNat : Nat) : Int)))))))))))))) v) fun r58 =>
          if (r58.1 ≠ (0 : Int)) then
            some false
          else
            Option.bind (Dvc.rd o50 r58.2 (((((at_4.toNat : Nat) : Int)).tmod (((1 : Int) + ((((d.toNat : Nat) : Int)).tmod ((((1 : Int) + ((((b.toNat : Nat) : Int)).tmod (((20 : Int) - ((((a % (10 : UInt8))).toNat : Nat) : Int))))) - ((((c.toNat : Nat) : Int)).tmod (((1 : Int) + ((((b.toNat : Nat) : Int)).tmod (((20 : Int) - ((((a % (10 : UInt8))).toNat : Nat) : Int))))))))))))))) fun r61 =>
            Option.bind (volumegroupmake_Words (20 : Int) (3 : UInt64)) fun r63 =>
            grd (inI64 ((((((a % (10 : UInt8))).toNat : Nat) : Int) + ((((c.toNat : Nat) : Int)).tmod (((1 : Int) + ((((b.toNat : Nat) : Int)).tmod (((20 : Int) - ((((a % (10 : UInt8))).toNat : Nat) : Int)))))))))) <|
            grd (inI64 (((((((a % (10 : UInt8))).toNat : Nat) : Int) + ((((c.toNat : Nat) : Int)).tmod (((1 : Int) + ((((b.toNat : Nat) : Int)).tmod (((20 : Int) - ((((a % (10 : UInt8))).toNat : Nat) : Int)))))))) + ((((at_4.toNat : Nat) : Int)).tmod (((1 : Int) + ((((d.toNat : Nat) : Int)).tmod ((((1 : Int) + ((((b.toNat : Nat) : Int)).tmod (((20 : Int) - ((((a % (10 : UInt8))).toNat : Nat) : Int))))) - ((((c.toNat : Nat) : Int)).tmod (((1 : Int) + ((((b.toNat : Nat) : Int)).tmod (((20 : Int) - ((((a % (10 : UInt8))).toNat : Nat) : Int)))))))))))))))) <|
            grd (decide (0 ≤ ((((((a % (10 : UInt8))).toNat : Nat) : Int) + ((((c.toNat : Nat) : Int)).tmod (((1 : Int) + ((((b.toNat : Nat) : Int)).tmod (((20 : Int) - ((((a % (10 : UInt8))).toNat : Nat) : Int)))))))) + ((((at_4.toNat : Nat) : Int)).tmod (((1 : Int) + ((((d.toNat : Nat) : Int)).tmod ((((1 : Int) + ((((b.toNat : Nat) : Int)).tmod (((20 : Int) - ((((a % (10 : UInt8))).toNat : Nat) : Int))))) - ((((c.toNat : Nat) : Int)).tmod (((1 : Int) + ((((b.toNat : Nat) : Int)).tmod (((20 : Int) - ((((a % (10 : UInt8))).toNat : Nat) : Int)))))))))))))) ∧ ((((((a % (10 : UInt8))).toNat : Nat) : Int) + ((((c.toNat : Nat) : Int)).tmod (((1 : Int) + ((((b.toNat : Nat) : Int)).tmod (((20 : Int) - ((((a % (10 : UInt8))).toNat : Nat) : Int)))))))) + ((((at_4.toNat : Nat) : Int)).tmod (((1 : Int) + ((((d.toNat : Nat) : Int)).tmod ((((1 : Int) + ((((b.toNat : Nat) : Int)).tmod (((20 : Int) - ((((a % (10 : UInt8))).toNat : Nat) : Int))))) - ((((c.toNat : Nat) : Int)).tmod (((1 : Int) + ((((b.toNat : Nat) : Int)).tmod (((20 : Int) - ((((a % (10 : UInt8))).toNat : Nat) : Int)))))))))))))) < (r63.length : Int))) <|
            if (((r61.2 = (0 : Int)) ∧ (r61.1 = v)) ∧ ((imC r58.2 (0 : Int)) = (0 : Int))) then
              Option.bind (volumegroupref05_Same ((imL r58.2 (0 : Int))) ((r63.set ((((((((a % (10 : UInt8))).toNat : Nat) : Int) + ((((c.toNat : Nat) : Int)).tmod (((1 : Int) + ((((b.toNat : Nat) : Int)).tmod (((20 : Int) - ((((a % (10 : UInt8))).toNat : Nat) : Int)))))))) + ((((at_4.toNat : Nat) : Int)).tmod (((1 : Int) + ((((d.toNat : Nat) : Int)).tmod ((((1 : Int) + ((((b.toNat : Nat) : Int)).tmod (((20 : Int) - ((((a % (10 : UInt8))).toNat : Nat) : Int))))) - ((((c.toNat : Nat) : Int)).tmod (((1 : Int) + ((((b.toNat : Nat) : Int)).tmod (((20 : Int) - ((((a % (10 : UInt8))).toNat : Nat) : Int))))))))))))))).toNat) v))) fun r80 =>
              if r80 = true then
                Option.bind (volumegrouplaw05_awake) fun r82 =>
                some r82
              else
                some false
            else
              some false

theorem L_volumegrouplaw05_BlockNested {W : World} {a : UInt8} {b : UInt8} {c : UInt8} {d : UInt8} {at_4 : UInt8} {v : UInt64} {r : Bool} (h : volumegrouplaw05_BlockNested a b c d at_4 v = some r) :
    CSpec Try.prog W 3 [.int .u8 (a.toNat : Int), .int .u8 (b.toNat : Int), .int .u8 (c.toNat : Int), .int .u8 (d.toNat : Int), .int .u8 (at_4.toNat : Int), .int .u64 (v.toNat : Int)] [] (fun x : Unit => .bool r) (fun _ => True) (fun x F => F) := by
  refine CSpec.of_body Try.func3 rfl Try.ntmps3 rfl (fun F => ?_)
  show CJ _ _ _ _ _ _ (F)
  unfold volumegrouplaw05_BlockNested at h
  refine CJ_seq ?_
  refine CJ_region ?_
  refine RJ_op rfl (OJ_P (P_assign rfl) rfl ?_)
  refine RJ_nil ?_
  refine QJ_then ?_
  refine CJ_seq ?_
  refine CJ_region ?_
  obtain ⟨r1, hr2, h⟩ := bind_e h
  refine RJ_op rfl (O_call (L_volumegroupmake_Words hr2) rfl Try.call16 Dels.nil rfl (fun X3 _ => ?_))
  refine RJ_op rfl (O_buildSlice rfl (bs_27_1_0 _ _ _) rfl (fun b5 => ?_))
  refine RJ_ent (Ent.trans (Ent.take del0 Ent.refl) (sl_of_lit (t := tyRow) (m := 1) [(X3 : Sl3)] rfl rfl rfl (by decide))) ?_
  refine RJ_ent (Ent.starI (l := [sl tyU X3.v r1]) (Ent.take del1 Ent.refl)) ?_
  obtain ⟨r7, hr8, h⟩ := bind_e h
  refine RJ_op rfl (O_call (L_volumegroupmake_Loaded (Reads.sl _ _ _) (RowsR.cons (Reads.sl _ _ _) RowsR.nil) hr8) rfl Try.call15 (Dels.cons del1 (Dels.cons del0 Dels.nil)) rfl (fun X9 _ => ?_))
  refine RJ_ent (Ent.trans (Ent.take del1 Ent.refl) (Ent.starE (l := [sl tyU X3.v r1]) Ent.refl)) ?_
  refine RJ_op rfl (OJ_P (P_assign rfl) rfl ?_)
  refine RJ_nil ?_
  refine QJ_then ?_
  refine CJ_seq ?_
  refine CJ_seq ?_
  refine CJ_region ?_
  refine RJ_op rfl (OJ_P (P_move rfl) rfl ?_)
  rcases opt_e h with ⟨ht11, h⟩ | ⟨o12, ht11, h⟩
  ·
    rw [ht11]
    refine RJ_ent (Ent.take del0 (Ent.take del0 (Ent.drop Ent.refl))) ?_
    refine RJ_op rfl (OJ_P (P_eqlNN rfl rfl Try.underlying23) rfl ?_)
    refine RJ_nil ?_
    refine QJ_then ?_
    refine CJ_condT rfl rfl ?_
    refine CJ_seq ?_
    refine CJ_region ?_
    refine RJ_op rfl (OJ_P (P_assign rfl) rfl ?_)
    refine RJ_nil ?_
    refine QJ_then ?_
    refine CJ_ret ?_
    refine QJ_then_ret ?_
    have hE := Option.some.inj h
    subst hE
    refine QJ_end (res1 Try.results3 rfl) ?_
    refine CSpec.close () ?_ ?_ (Ent.drop (Ent.drop Ent.refl))
    · rfl
    · trivial
  ·
    rw [ht11]
    refine RJ_ent (Ent.takeC (A' := Arr X9 o12) del2 rfl Ent.refl) ?_
    refine RJ_op rfl (OJ_P (P_eqlPN rfl rfl Try.underlying23) rfl ?_)
    refine RJ_nil ?_
    refine QJ_then ?_
    refine CJ_condF rfl rfl ?_
    refine CJ_skip ?_
    refine QJ_then ?_
    refine CJ_seq ?_
    refine CJ_region ?_
    refine RJ_op rfl (OJ_P (P_move rfl) rfl ?_)
    obtain ⟨r13, hr14, h⟩ := bind_e h
    refine RJ_op rfl (O_call (L_volumegroupmake_Spans hr14) rfl Try.call17 (Dels.cons del0 Dels.nil) rfl (fun X15 _ => ?_))
    refine RJ_pure (fun h hh => Rs_len (stars_perm (del2 (A := Rs (DevP X9) r13 X15.2)).out h hh)) (fun hdl18 => ?_)
    refine RJ_op rfl (OJ_P (P_assign rfl) rfl ?_)
    refine RJ_nil ?_
    refine QJ_then ?_
    refine CJ_seq ?_
    refine CJ_seq ?_
    refine CJ_region ?_
    refine RJ_op rfl (OJ_P (P_move rfl) rfl ?_)
    refine RJ_op rfl (OJ_V (VJ_eq (V_len rfl foc1 (Reads.sl _ _ _) Try.runUnderlying28) (congrArg (fun z : Nat => Value.int .i64 (z : Int)) (hdl18).symm)) rfl ?_)
    refine RJ_op rfl (OJ_P (P_neq (a := ((r13.length : Nat) : Int)) (b := (1 : Int)) rfl rfl) rfl ?_)
    refine RJ_nil ?_
    refine QJ_then ?_
    refine CJ_condP rfl bT_dec (fun hg1 => ?_) (fun hg1 => ?_)
    ·
      replace h := ite_t hg1 h
      refine CJ_seq ?_
      refine CJ_region ?_
      refine RJ_op rfl (OJ_P (P_assign rfl) rfl ?_)
      refine RJ_nil ?_
      refine QJ_then ?_
      refine CJ_ret ?_
      refine QJ_then_ret ?_
      have hE := Option.some.inj h
      subst hE
      refine QJ_end (res1 Try.results3 rfl) ?_
      refine CSpec.close () ?_ ?_ (Ent.drop (Ent.drop (Ent.drop (Ent.drop (Ent.drop Ent.refl)))))
      · rfl
      · trivial
    ·
      replace h := ite_f hg1 h
      refine CJ_skip ?_
      refine QJ_then ?_
      refine CJ_seq ?_
      refine CJ_region ?_
      refine RJ_op rfl (OJ_P (P_move rfl) rfl ?_)
      refine RJ_op rfl (OJ_P (P_rem_u8 (a := a) (b := (10 : UInt8)) rfl rfl (by decide)) rfl ?_)
      refine RJ_op rfl (OJ_P (P_convSame rfl Try.runUnderlying5 Try.runUnderlying3 (wrap64_u _ (by have := ((a % (10 : UInt8))).toNat_lt; omega))) rfl ?_)
      refine RJ_op rfl (OJ_P (P_assign rfl) rfl ?_)
      refine RJ_nil ?_
      refine QJ_then ?_
      refine CJ_seq ?_
      refine CJ_region ?_
      refine RJ_op rfl (OJ_P (P_move rfl) rfl ?_)
      refine RJ_op rfl (OJ_P (P_convSame rfl Try.runUnderlying5 Try.runUnderlying3 (wrap64_u _ (by have := b.toNat_lt; omega))) rfl ?_)
      refine RJ_op rfl (OJ_P (P_move rfl) rfl ?_)
      obtain ⟨hg2, h⟩ := grd_Ie h
      refine RJ_op rfl (OJ_P (P_sub (a := (20 : Int)) (b := ((((a % (10 : UInt8))).toNat : Nat) : Int)) rfl rfl hg2) rfl ?_)
      obtain ⟨hg3, h⟩ := grd_de h
      refine RJ_op rfl (OJ_P (P_remT (a := ((b.toNat : Nat) : Int)) (b := ((20 : Int) - ((((a % (10 : UInt8))).toNat : Nat) : Int))) rfl rfl hg3) rfl ?_)
      obtain ⟨hg4, h⟩ := grd_Ie h
      refine RJ_op rfl (OJ_P (P_add (a := (1 : Int)) (b := ((((b.toNat : Nat) : Int)).tmod (((20 : Int) - ((((a % (10 : UInt8))).toNat : Nat) : Int))))) rfl rfl hg4) rfl ?_)
      refine RJ_op rfl (OJ_P (P_assign rfl) rfl ?_)
      refine RJ_nil ?_
      refine QJ_then ?_
      refine CJ_seq ?_
      refine CJ_region ?_
      refine RJ_op rfl (OJ_P (P_move rfl) rfl ?_)
      refine RJ_op rfl (OJ_P (P_convSame rfl Try.runUnderlying5 Try.runUnderlying3 (wrap64_u _ (by have := c.toNat_lt; omega))) rfl ?_)
      refine RJ_op rfl (OJ_P (P_move rfl) rfl ?_)
      obtain ⟨hg5, h⟩ := grd_de h
      refine RJ_op rfl (OJ_P (P_remT (a := ((c.toNat : Nat) : Int)) (b := ((1 : Int) + ((((b.toNat : Nat) : Int)).tmod (((20 : Int) - ((((a % (10 : UInt8))).toNat : Nat) : Int)))))) rfl rfl hg5) rfl ?_)
      refine RJ_op rfl (OJ_P (P_assign rfl) rfl ?_)
      refine RJ_nil ?_
      refine QJ_then ?_
      refine CJ_seq ?_
      refine CJ_region ?_
      refine RJ_op rfl (OJ_P (P_move rfl) rfl ?_)
      refine RJ_op rfl (OJ_P (P_convSame rfl Try.runUnderlying5 Try.runUnderlying3 (wrap64_u _ (by have := d.toNat_lt; omega))) rfl ?_)
      refine RJ_op rfl (OJ_P (P_move rfl) rfl ?_)
      refine RJ_op rfl (OJ_P (P_move rfl) rfl ?_)
      obtain ⟨hg6, h⟩ := grd_Ie h
      refine RJ_op rfl (OJ_P (P_sub (a := ((1 : Int) + ((((b.toNat : Nat) : Int)).tmod (((20 : Int) - ((((a % (10 : UInt8))).toNat : Nat) : Int)))))) (b := ((((c.toNat : Nat) : Int)).tmod (((1 : Int) + ((((b.toNat : Nat) : Int)).tmod (((20 : Int) - ((((a % (10 : UInt8))).toNat : Nat) : Int)))))))) rfl rfl hg6) rfl ?_)
      obtain ⟨hg7, h⟩ := grd_de h
      refine RJ_op rfl (OJ_P (P_remT (a := ((d.toNat : Nat) : Int)) (b := (((1 : Int) + ((((b.toNat : Nat) : Int)).tmod (((20 : Int) - ((((a % (10 : UInt8))).toNat : Nat) : Int))))) - ((((c.toNat : Nat) : Int)).tmod (((1 : Int) + ((((b.toNat : Nat) : Int)).tmod (((20 : Int) - ((((a % (10 : UInt8))).toNat : Nat) : Int))))))))) rfl rfl hg7) rfl ?_)
      obtain ⟨hg8, h⟩ := grd_Ie h
      refine RJ_op rfl (OJ_P (P_add (a := (1 : Int)) (b := ((((d.toNat : Nat) : Int)).tmod ((((1 : Int) + ((((b.toNat : Nat) : Int)).tmod (((20 : Int) - ((((a % (10 : UInt8))).toNat : Nat) : Int))))) - ((((c.toNat : Nat) : Int)).tmod (((1 : Int) + ((((b.toNat : Nat) : Int)).tmod (((20 : Int) - ((((a % (10 : UInt8))).toNat : Nat) : Int))))))))))) rfl rfl hg8) rfl ?_)
      refine RJ_op rfl (OJ_P (P_assign rfl) rfl ?_)
      refine RJ_nil ?_
      refine QJ_then ?_
      refine CJ_seq ?_
      refine CJ_region ?_
      refine RJ_op rfl (OJ_P (P_move rfl) rfl ?_)
      refine RJ_op rfl (OJ_V (V_index (i := 0) rfl rfl rfl ((hdl18).symm ▸ (by omega)) foc1 (Reads.sl _ _ _) Try.runUnderlying28 Try.sizeOf31) rfl ?_)
      refine RJ_ent (Ent.trans (Ent.take del2 Ent.refl) (Rs_at (fun _ _ => Dup_DevP) (dx := dv0) (dh := tyDev.dflt) (i := 0) (by omega))) ?_
      refine RJ_op rfl (OJ_V (V_loadE rfl rfl ((hdl18).symm ▸ (by omega)) foc3 (Reads.sl _ _ _) rfl rfl Try.isAgg31) rfl ?_)
      refine RJ_op rfl (OJ_P (P_move rfl) rfl ?_)
      refine RJ_op rfl (OJ_P (P_move rfl) rfl ?_)
      obtain ⟨r20, hr21, h⟩ := bind_e h
      refine RJ_op rfl (O_call (L_block_Window hr21) rfl Try.call18 (Dels.cons del0 (Dels.cons del1 Dels.nil)) rfl (fun X22 _ => ?_))
      refine RJ_op rfl (OJ_P (P_move rfl) rfl ?_)
      refine RJ_op rfl (OJ_P (P_extract rfl rfl) rfl ?_)
      refine RJ_op rfl (OJ_P (P_extract rfl rfl) rfl ?_)
      refine RJ_op rfl (OJ_P (P_assign rfl) rfl ?_)
      refine RJ_op rfl (OJ_P (P_assign rfl) rfl ?_)
      refine RJ_nil ?_
      refine QJ_then ?_
      refine CJ_seq ?_
      refine CJ_seq ?_
      refine CJ_region ?_
      refine RJ_op rfl (OJ_P (P_move rfl) rfl ?_)
      refine RJ_op rfl (OJ_P (P_neq (a := r20.2) (b := (0 : Int)) rfl rfl) rfl ?_)
      refine RJ_op rfl (OJ_P (P_move rfl) rfl ?_)
      refine RJ_mbF rfl rfl rfl (fun hG24 => have hP25 : ¬ (r20.2 ≠ (0 : Int)) := nP (bT_dec) hG24; VJ_P (P_move rfl)) ?_
      refine RJ_splitP 72 rfl bT_dec (fun hg9B hg9 => ?_) (fun hg9B hg9 => ?_)
      ·
        replace h := ite_t hg9 h
        refine RJ_gn (GY_no rfl rfl rfl hg9B) rfl rfl ?_
        refine RJ_op rfl (OJ_P (P_pickT rfl hg9B rfl) rfl ?_)
        refine RJ_nil ?_
        refine QJ_then ?_
        refine CJ_condT rfl rfl ?_
        refine CJ_seq ?_
        refine CJ_region ?_
        refine RJ_op rfl (OJ_P (P_assign rfl) rfl ?_)
        refine RJ_nil ?_
        refine QJ_then ?_
        refine CJ_ret ?_
        refine QJ_then_ret ?_
        have hE := Option.some.inj h
        subst hE
        refine QJ_end (res1 Try.results3 rfl) ?_
        refine CSpec.close () ?_ ?_ (Ent.drop (Ent.drop (Ent.drop (Ent.drop (Ent.drop (Ent.drop (Ent.drop Ent.refl)))))))
        · rfl
        · trivial
      ·
        replace h := ite_f hg9 h
        rcases opt_e h with ⟨ht28, h⟩ | ⟨o29, ht28, h⟩
        ·
          rw [ht28]
          refine RJ_ent (Ent.take del0 (Ent.take del0 (Ent.take del1 (Ent.take del1 (Ent.take del1 (Ent.take del1 (Ent.drop Ent.refl))))))) ?_
          refine RJ_gy (GY_yes rfl rfl rfl hg9B) (OJ_P (P_eqlIN (mbx (not_f hg9B) rfl) Try.underlying31) rfl ?_)
          refine RJ_op rfl (OJ_P (P_pickF rfl hg9B rfl) rfl ?_)
          refine RJ_nil ?_
          refine QJ_then ?_
          refine CJ_condT rfl rfl ?_
          refine CJ_seq ?_
          refine CJ_region ?_
          refine RJ_op rfl (OJ_P (P_assign rfl) rfl ?_)
          refine RJ_nil ?_
          refine QJ_then ?_
          refine CJ_ret ?_
          refine QJ_then_ret ?_
          have hE := Option.some.inj h
          subst hE
          refine QJ_end (res1 Try.results3 rfl) ?_
          refine CSpec.close () ?_ ?_ (Ent.drop (Ent.drop (Ent.drop (Ent.drop (Ent.drop (Ent.drop Ent.refl))))))
          · rfl
          · trivial
        ·
          rw [ht28]
          refine RJ_ent (Ent.takeC (A' := DevP X9 o29 X22) del2 rfl Ent.refl) ?_
          refine RJ_gy (GY_yes rfl rfl rfl hg9B) (OJ_P (P_eqlIfN (mbx (not_f hg9B) rfl) rfl Try.underlying31) rfl ?_)
          refine RJ_op rfl (OJ_P (P_pickF rfl hg9B rfl) rfl ?_)
          refine RJ_nil ?_
          refine QJ_then ?_
          refine CJ_condF rfl rfl ?_
          refine CJ_skip ?_
          refine QJ_then ?_
          refine CJ_seq ?_
          refine CJ_region ?_
          refine RJ_op rfl (OJ_P (P_move rfl) rfl ?_)
          refine RJ_op rfl (OJ_P (P_move rfl) rfl ?_)
          refine RJ_op rfl (OJ_P (P_move rfl) rfl ?_)
          obtain ⟨r30, hr31, h⟩ := bind_e h
          refine RJ_op rfl (O_call (L_block_Window hr31) rfl Try.call18 (Dels.cons del0 (Dels.cons del1 Dels.nil)) rfl (fun X32 _ => ?_))
          refine RJ_op rfl (OJ_P (P_move rfl) rfl ?_)
          refine RJ_op rfl (OJ_P (P_extract rfl rfl) rfl ?_)
          refine RJ_op rfl (OJ_P (P_extract rfl rfl) rfl ?_)
          refine RJ_op rfl (OJ_P (P_assign rfl) rfl ?_)
          refine RJ_op rfl (OJ_P (P_assign rfl) rfl ?_)
          refine RJ_nil ?_
          refine QJ_then ?_
          refine CJ_seq ?_
          refine CJ_region ?_
          refine RJ_op rfl (OJ_P (P_move rfl) rfl ?_)
          refine RJ_op rfl (OJ_V (V_index (i := 0) rfl rfl rfl ((hdl18).symm ▸ (by omega)) foc5 (Reads.sl _ _ _) Try.runUnderlying28 Try.sizeOf31) rfl ?_)
          refine RJ_ent (Ent.trans (Ent.take del4 Ent.refl) (Rs_at (fun _ _ => Dup_DevP) (dx := dv0) (dh := tyDev.dflt) (i := 0) (by omega))) ?_
          refine RJ_op rfl (OJ_V (V_loadE rfl rfl ((hdl18).symm ▸ (by omega)) foc6 (Reads.sl _ _ _) rfl rfl Try.isAgg31) rfl ?_)
          refine RJ_op rfl (OJ_P (P_move rfl) rfl ?_)
          refine RJ_op rfl (OJ_P (P_move rfl) rfl ?_)
          obtain ⟨hg10, h⟩ := grd_Ie h
          refine RJ_op rfl (OJ_P (P_add (a := ((((a % (10 : UInt8))).toNat : Nat) : Int)) (b := ((((c.toNat : Nat) : Int)).tmod (((1 : Int) + ((((b.toNat : Nat) : Int)).tmod (((20 : Int) - ((((a % (10 : UInt8))).toNat : Nat) : Int)))))))) rfl rfl hg10) rfl ?_)
          refine RJ_op rfl (OJ_P (P_move rfl) rfl ?_)
          obtain ⟨r35, hr36, h⟩ := bind_e h
          refine RJ_op rfl (O_call (L_block_Window hr36) rfl Try.call18 (Dels.cons del0 (Dels.cons del2 Dels.nil)) rfl (fun X37 _ => ?_))
          refine RJ_op rfl (OJ_P (P_move rfl) rfl ?_)
          refine RJ_op rfl (OJ_P (P_extract rfl rfl) rfl ?_)
          refine RJ_op rfl (OJ_P (P_extract rfl rfl) rfl ?_)
          refine RJ_op rfl (OJ_P (P_assign rfl) rfl ?_)
          refine RJ_op rfl (OJ_P (P_assign rfl) rfl ?_)
          refine RJ_nil ?_
          refine QJ_then ?_
          refine CJ_seq ?_
          refine CJ_seq ?_
          refine CJ_region ?_
          refine RJ_op rfl (OJ_P (P_move rfl) rfl ?_)
          refine RJ_op rfl (OJ_P (P_neq (a := r30.2) (b := (0 : Int)) rfl rfl) rfl ?_)
          refine RJ_op rfl (OJ_P (P_move rfl) rfl ?_)
          refine RJ_mbF rfl rfl rfl (fun hG39 => have hP40 : ¬ (r30.2 ≠ (0 : Int)) := nP (bT_dec) hG39; VJ_P (P_move rfl)) ?_
          refine RJ_mbF rfl rfl rfl (fun hG41 => have hP42 : ¬ (r30.2 ≠ (0 : Int)) := nP (bT_dec) hG41; VJ_P (P_neq (a := r35.2) (b := (0 : Int)) (mbx hG41 rfl) rfl)) ?_
          refine RJ_op rfl (OJ_P (P_pickOr rfl rfl (fun hh => mbx (not_f hh) rfl)) rfl ?_)
          refine RJ_op rfl (OJ_P (P_move rfl) rfl ?_)
          refine RJ_mbF rfl rfl rfl (fun hG43 => have hP44 : ¬ ((r30.2 ≠ (0 : Int)) ∨ (r35.2 ≠ (0 : Int))) := nP ((bT_or bT_dec bT_dec)) hG43; VJ_P (P_move rfl)) ?_
          refine RJ_splitP 100 rfl (bT_or bT_dec bT_dec) (fun hg11B hg11 => ?_) (fun hg11B hg11 => ?_)
          ·
            replace h := ite_t hg11 h
            refine RJ_gn (GY_no rfl rfl rfl hg11B) rfl rfl ?_
            refine RJ_op rfl (OJ_P (P_pickT rfl hg11B rfl) rfl ?_)
            refine RJ_op rfl (OJ_P (P_move rfl) rfl ?_)
            refine RJ_gn (GY_no rfl rfl rfl rfl) rfl rfl ?_
            refine RJ_gn (GY_no rfl rfl rfl rfl) rfl rfl ?_
            refine RJ_op rfl (OJ_P (P_pickT rfl rfl rfl) rfl ?_)
            refine RJ_op rfl (OJ_P (P_move rfl) rfl ?_)
            refine RJ_gn (GY_no rfl rfl rfl rfl) rfl rfl ?_
            refine RJ_gn (GY_no rfl rfl rfl rfl) rfl rfl ?_
            refine RJ_gn (GY_no rfl rfl rfl rfl) rfl rfl ?_
            refine RJ_gn (GY_no rfl rfl rfl rfl) rfl rfl ?_
            refine RJ_gn (GY_no rfl rfl rfl rfl) rfl rfl ?_
            refine RJ_op rfl (OJ_P (P_pickT rfl rfl rfl) rfl ?_)
            refine RJ_nil ?_
            refine QJ_then ?_
            refine CJ_condT rfl rfl ?_
            refine CJ_seq ?_
            refine CJ_region ?_
            refine RJ_op rfl (OJ_P (P_assign rfl) rfl ?_)
            refine RJ_nil ?_
            refine QJ_then ?_
            refine CJ_ret ?_
            refine QJ_then_ret ?_
            have hE := Option.some.inj h
            subst hE
            refine QJ_end (res1 Try.results3 rfl) ?_
            refine CSpec.close () ?_ ?_ (Ent.drop (Ent.drop (Ent.drop (Ent.drop (Ent.drop (Ent.drop (Ent.drop (Ent.drop (Ent.drop (Ent.drop Ent.refl))))))))))
            · rfl
            · trivial
          ·
            replace h := ite_f hg11 h
            rcases opt_e h with ⟨ht47, h⟩ | ⟨o48, ht47, h⟩
            ·
              rw [ht47]
              refine RJ_ent (Ent.take del0 (Ent.take del0 (Ent.take del0 (Ent.take del0 (Ent.take del0 (Ent.take del1 (Ent.take del1 (Ent.take del1 (Ent.take del1 (Ent.drop Ent.refl)))))))))) ?_
              refine RJ_gy (GY_yes rfl rfl rfl hg11B) (OJ_P (P_eqlIN (mbx (not_f hg11B) rfl) Try.underlying31) rfl ?_)
              refine RJ_op rfl (OJ_P (P_pickF rfl hg11B rfl) rfl ?_)
              refine RJ_op rfl (OJ_P (P_move rfl) rfl ?_)
              refine RJ_gn (GY_no rfl rfl rfl rfl) rfl rfl ?_
              refine RJ_gn (GY_no rfl rfl rfl rfl) rfl rfl ?_
              refine RJ_op rfl (OJ_P (P_pickT rfl rfl rfl) rfl ?_)
              refine RJ_op rfl (OJ_P (P_move rfl) rfl ?_)
              refine RJ_gn (GY_no rfl rfl rfl rfl) rfl rfl ?_
              refine RJ_gn (GY_no rfl rfl rfl rfl) rfl rfl ?_
              refine RJ_gn (GY_no rfl rfl rfl rfl) rfl rfl ?_
              refine RJ_gn (GY_no rfl rfl rfl rfl) rfl rfl ?_
              refine RJ_gn (GY_no rfl rfl rfl rfl) rfl rfl ?_
              refine RJ_op rfl (OJ_P (P_pickT rfl rfl rfl) rfl ?_)
              refine RJ_nil ?_
              refine QJ_then ?_
              refine CJ_condT rfl rfl ?_
              refine CJ_seq ?_
              refine CJ_region ?_
              refine RJ_op rfl (OJ_P (P_assign rfl) rfl ?_)
              refine RJ_nil ?_
              refine QJ_then ?_
              refine CJ_ret ?_
              refine QJ_then_ret ?_
              have hE := Option.some.inj h
              subst hE
              refine QJ_end (res1 Try.results3 rfl) ?_
              refine CSpec.close () ?_ ?_ (Ent.drop (Ent.drop (Ent.drop (Ent.drop (Ent.drop (Ent.drop (Ent.drop (Ent.drop (Ent.drop Ent.refl)))))))))
              · rfl
              · trivial
            ·
              rw [ht47]
              refine RJ_ent (Ent.takeC (A' := DevP X9 o48 X32) del5 rfl Ent.refl) ?_
              refine RJ_gy (GY_yes rfl rfl rfl hg11B) (OJ_P (P_eqlIfN (mbx (not_f hg11B) rfl) rfl Try.underlying31) rfl ?_)
              refine RJ_op rfl (OJ_P (P_pickF rfl hg11B rfl) rfl ?_)
              refine RJ_op rfl (OJ_P (P_move rfl) rfl ?_)
              refine RJ_gy (GY_yes rfl rfl rfl rfl) (OJ_P (P_move rfl) rfl ?_)
              rcases opt_e h with ⟨ht49, h⟩ | ⟨o50, ht49, h⟩
              ·
                rw [ht49]
                refine RJ_ent (Ent.take del0 (Ent.take del0 (Ent.take del0 (Ent.take del1 (Ent.take del1 (Ent.take del1 (Ent.take del1 (Ent.take del1 (Ent.take del1 (Ent.drop Ent.refl)))))))))) ?_
                refine RJ_gy (GY_yes rfl rfl rfl rfl) (OJ_P (P_eqlIN rfl Try.underlying31) rfl ?_)
                refine RJ_op rfl (OJ_P (P_pickF rfl rfl rfl) rfl ?_)
                refine RJ_op rfl (OJ_P (P_move rfl) rfl ?_)
                refine RJ_gn (GY_no rfl rfl rfl rfl) rfl rfl ?_
                refine RJ_gn (GY_no rfl rfl rfl rfl) rfl rfl ?_
                refine RJ_gn (GY_no rfl rfl rfl rfl) rfl rfl ?_
                refine RJ_gn (GY_no rfl rfl rfl rfl) rfl rfl ?_
                refine RJ_gn (GY_no rfl rfl rfl rfl) rfl rfl ?_
                refine RJ_op rfl (OJ_P (P_pickT rfl rfl rfl) rfl ?_)
                refine RJ_nil ?_
                refine QJ_then ?_
                refine CJ_condT rfl rfl ?_
                refine CJ_seq ?_
                refine CJ_region ?_
                refine RJ_op rfl (OJ_P (P_assign rfl) rfl ?_)
                refine RJ_nil ?_
                refine QJ_then ?_
                refine CJ_ret ?_
                refine QJ_then_ret ?_
                have hE := Option.some.inj h
                subst hE
                refine QJ_end (res1 Try.results3 rfl) ?_
                refine CSpec.close () ?_ ?_ (Ent.drop (Ent.drop (Ent.drop (Ent.drop (Ent.drop (Ent.drop (Ent.drop (Ent.drop (Ent.drop Ent.refl)))))))))
                · rfl
                · trivial
              ·
                rw [ht49]
                refine RJ_ent (Ent.takeC (A' := DevP X9 o50 X37) del3 rfl Ent.refl) ?_
                refine RJ_gy (GY_yes rfl rfl rfl rfl) (OJ_P (P_eqlIfN rfl rfl Try.underlying31) rfl ?_)
                refine RJ_op rfl (OJ_P (P_pickF rfl rfl rfl) rfl ?_)
                refine RJ_op rfl (OJ_P (P_move rfl) rfl ?_)
                refine RJ_gy (GY_yes rfl rfl rfl rfl) (OJ_P (P_move rfl) rfl ?_)
                refine RJ_pure (fun h hh => DevP_dep h (stars_perm (del1 (A := DevP X9 o48 X32)).out h hh)) (fun hdp51 => ?_)
                obtain ⟨r52, hr53, h⟩ := bind_e h
                refine RJ_gy (GY_yes rfl rfl rfl rfl) (O_callI rfl (dev_Size hr53 hdp51) rfl (Dels.cons del1 (Dels.cons del2 Dels.nil)) rfl (fun _ _ => ?_))
                refine RJ_gy (GY_yes rfl rfl rfl rfl) (OJ_P (P_move rfl) rfl ?_)
                refine RJ_pure (fun h hh => DevP_dep h (stars_perm (del2 (A := DevP X9 o50 X37)).out h hh)) (fun hdp54 => ?_)
                obtain ⟨r55, hr56, h⟩ := bind_e h
                refine RJ_gy (GY_yes rfl rfl rfl rfl) (O_callI rfl (dev_Size hr56 hdp54) rfl (Dels.cons del2 (Dels.cons del1 Dels.nil)) rfl (fun _ _ => ?_))
                refine RJ_gy (GY_yes rfl rfl rfl rfl) (OJ_P (P_neq (a := r52) (b := r55) rfl rfl) rfl ?_)
                refine RJ_op rfl (OJ_P (P_pickF rfl rfl rfl) rfl ?_)
                refine RJ_nil ?_
                refine QJ_then ?_
                refine CJ_condP rfl bT_dec (fun hg12 => ?_) (fun hg12 => ?_)
                ·
                  replace h := ite_t hg12 h
                  refine CJ_seq ?_
                  refine CJ_region ?_
                  refine RJ_op rfl (OJ_P (P_assign rfl) rfl ?_)
                  refine RJ_nil ?_
                  refine QJ_then ?_
                  refine CJ_ret ?_
                  refine QJ_then_ret ?_
                  have hE := Option.some.inj h
                  subst hE
                  refine QJ_end (res1 Try.results3 rfl) ?_
                  refine CSpec.close () ?_ ?_ (Ent.drop (Ent.drop (Ent.drop (Ent.drop (Ent.drop (Ent.drop (Ent.drop (Ent.drop (Ent.drop (Ent.drop Ent.refl))))))))))
                  · rfl
                  · trivial
                ·
                  replace h := ite_f hg12 h
                  refine CJ_skip ?_
                  refine QJ_then ?_
                  refine CJ_seq ?_
                  refine CJ_region ?_
                  refine RJ_op rfl (OJ_P (P_move rfl) rfl ?_)
                  refine RJ_op rfl (OJ_P (P_convSame rfl Try.runUnderlying5 Try.runUnderlying3 (wrap64_u _ (by have := at_4.toNat_lt; omega))) rfl ?_)
                  refine RJ_op rfl (OJ_P (P_move rfl) rfl ?_)
                  obtain ⟨hg13, h⟩ := grd_de h
                  refine RJ_op rfl (OJ_P (P_remT (a := ((at_4.toNat : Nat) : Int)) (b := ((1 : Int) + ((((d.toNat : Nat) : Int)).tmod ((((1 : Int) + ((((b.toNat : Nat) : Int)).tmod (((20 : Int) - ((((a % (10 : UInt8))).toNat : Nat) : Int))))) - ((((c.toNat : Nat) : Int)).tmod (((1 : Int) + ((((b.toNat : Nat) : Int)).tmod (((20 : Int) - ((((a % (10 : UInt8))).toNat : Nat) : Int)))))))))))) rfl rfl hg13) rfl ?_)
                  refine RJ_op rfl (OJ_P (P_assign rfl) rfl ?_)
                  refine RJ_nil ?_
                  refine QJ_then ?_
                  refine CJ_seq ?_
                  refine CJ_seq ?_
                  refine CJ_region ?_
                  refine RJ_op rfl (OJ_P (P_move rfl) rfl ?_)
                  refine RJ_op rfl (OJ_P (P_move rfl) rfl ?_)
                  refine RJ_op rfl (OJ_P (P_move rfl) rfl ?_)
                  refine RJ_pure (fun h hh => DevP_dep h (stars_perm (del2 (A := DevP X9 o48 X32)).out h hh)) (fun hdp57 => ?_)
                  obtain ⟨r58, hr59, h⟩ := bind_e h
                  refine RJ_op rfl (O_callI rfl (dev_Write hr59 hdp57) rfl (Dels.cons del2 (Dels.cons del1 Dels.nil)) rfl (fun _ _ => ?_))
                  refine RJ_op rfl (OJ_P (P_neq (a := r58.1) (b := (0 : Int)) rfl rfl) rfl ?_)
                  refine RJ_nil ?_
                  refine QJ_then ?_
                  refine CJ_condP rfl bT_dec (fun hg14 => ?_) (fun hg14 => ?_)
                  ·
                    replace h := ite_t hg14 h
                    refine CJ_seq ?_
                    refine CJ_region ?_
                    refine RJ_op rfl (OJ_P (P_assign rfl) rfl ?_)
                    refine RJ_nil ?_
                    refine QJ_then ?_
                    refine CJ_ret ?_
                    refine QJ_then_ret ?_
                    have hE := Option.some.inj h
                    subst hE
                    refine QJ_end (res1 Try.results3 rfl) ?_
                    refine CSpec.close () ?_ ?_ (Ent.drop (Ent.drop (Ent.drop (Ent.drop (Ent.drop (Ent.drop (Ent.drop (Ent.drop (Ent.drop (Ent.drop Ent.refl))))))))))
                    · rfl
                    · trivial
                  ·
                    replace h := ite_f hg14 h
                    refine CJ_skip ?_
                    refine QJ_then ?_
                    refine CJ_seq ?_
                    refine CJ_region ?_
                    refine RJ_op rfl (OJ_P (P_move rfl) rfl ?_)
                    refine RJ_op rfl (OJ_P (P_move rfl) rfl ?_)
                    refine RJ_pure (fun h hh => DevP_dep h (stars_perm (del2 (A := DevP X9 o50 X37)).out h hh)) (fun hdp60 => ?_)
                    obtain ⟨r61, hr62, h⟩ := bind_e h
                    refine RJ_op rfl (O_callI rfl (dev_Read hr62 hdp60) rfl (Dels.cons del2 (Dels.cons del1 Dels.nil)) rfl (fun _ _ => ?_))
                    refine RJ_op rfl (OJ_P (P_move rfl) rfl ?_)
                    refine RJ_op rfl (OJ_P (P_extract rfl rfl) rfl ?_)
                    refine RJ_op rfl (OJ_P (P_extract rfl rfl) rfl ?_)
                    refine RJ_op rfl (OJ_P (P_assign rfl) rfl ?_)
                    refine RJ_op rfl (OJ_P (P_assign rfl) rfl ?_)
                    refine RJ_nil ?_
                    refine QJ_then ?_
                    refine CJ_seq ?_
                    refine CJ_region ?_
                    obtain ⟨r63, hr64, h⟩ := bind_e h
                    refine RJ_op rfl (O_call (L_volumegroupmake_Words hr64) rfl Try.call16 Dels.nil rfl (fun X65 _ => ?_))
                    refine RJ_op rfl (OJ_P (P_assign rfl) rfl ?_)
                    refine RJ_nil ?_
                    refine QJ_then ?_
                    refine CJ_seq ?_
                    refine CJ_region ?_
                    refine RJ_op rfl (OJ_P (P_move rfl) rfl ?_)
                    refine RJ_op rfl (OJ_P (P_move rfl) rfl ?_)
                    refine RJ_op rfl (OJ_P (P_move rfl) rfl ?_)
                    obtain ⟨hg15, h⟩ := grd_Ie h
                    refine RJ_op rfl (OJ_P (P_add (a := ((((a % (10 : UInt8))).toNat : Nat) : Int)) (b := ((((c.toNat : Nat) : Int)).tmod (((1 : Int) + ((((b.toNat : Nat) : Int)).tmod (((20 : Int) - ((((a % (10 : UInt8))).toNat : Nat) : Int)))))))) rfl rfl hg15) rfl ?_)
                    refine RJ_op rfl (OJ_P (P_move rfl) rfl ?_)
                    obtain ⟨hg16, h⟩ := grd_Ie h
                    refine RJ_op rfl (OJ_P (P_add (a := (((((a % (10 : UInt8))).toNat : Nat) : Int) + ((((c.toNat : Nat) : Int)).tmod (((1 : Int) + ((((b.toNat : Nat) : Int)).tmod (((20 : Int) - ((((a % (10 : UInt8))).toNat : Nat) : Int))))))))) (b := ((((at_4.toNat : Nat) : Int)).tmod (((1 : Int) + ((((d.toNat : Nat) : Int)).tmod ((((1 : Int) + ((((b.toNat : Nat) : Int)).tmod (((20 : Int) - ((((a % (10 : UInt8))).toNat : Nat) : Int))))) - ((((c.toNat : Nat) : Int)).tmod (((1 : Int) + ((((b.toNat : Nat) : Int)).tmod (((20 : Int) - ((((a % (10 : UInt8))).toNat : Nat) : Int)))))))))))))) rfl rfl hg16) rfl ?_)
                    refine RJ_op rfl (OJ_P (P_move rfl) rfl ?_)
                    obtain ⟨hg17, h⟩ := grd_de h
                    refine RJ_op rfl (OJ_V (V_index (i := (((((((a % (10 : UInt8))).toNat : Nat) : Int) + ((((c.toNat : Nat) : Int)).tmod (((1 : Int) + ((((b.toNat : Nat) : Int)).tmod (((20 : Int) - ((((a % (10 : UInt8))).toNat : Nat) : Int)))))))) + ((((at_4.toNat : Nat) : Int)).tmod (((1 : Int) + ((((d.toNat : Nat) : Int)).tmod ((((1 : Int) + ((((b.toNat : Nat) : Int)).tmod (((20 : Int) - ((((a % (10 : UInt8))).toNat : Nat) : Int))))) - ((((c.toNat : Nat) : Int)).tmod (((1 : Int) + ((((b.toNat : Nat) : Int)).tmod (((20 : Int) - ((((a % (10 : UInt8))).toNat : Nat) : Int))))))))))))))).toNat) rfl rfl (Int.toNat_of_nonneg (hg17.1)).symm (by omega) foc0 (Reads.sl _ _ _) Try.runUnderlying25 Try.sizeOf22) rfl ?_)
                    refine RJ_op rfl (O_storeE (x' := v) rfl rfl rfl (by omega) foc0 rfl rfl rfl Try.sizeOf22 ?_)
                    refine RJ_nil ?_
                    refine QJ_then ?_
                    refine CJ_seq ?_
                    refine CJ_region ?_
                    refine RJ_op rfl (OJ_P (P_move rfl) rfl ?_)
                    refine RJ_op rfl (O_call (c_ImageD) rfl Try.call19 (Dels.cons del2 Dels.nil) rfl (fun X67 _ => ?_))
                    refine RJ_pure (len_of (Reads.sl _ _ _) del0) (fun hlen69 => ?_)
                    refine RJ_op rfl (OJ_P (P_move rfl) rfl ?_)
                    refine RJ_op rfl (OJ_P (P_extract rfl rfl) rfl ?_)
                    refine RJ_op rfl (OJ_P (P_extract rfl rfl) rfl ?_)
                    refine RJ_op rfl (OJ_P (P_assign rfl) rfl ?_)
                    refine RJ_op rfl (OJ_P (P_assign rfl) rfl ?_)
                    refine RJ_nil ?_
                    refine QJ_then ?_
                    refine CJ_seq ?_
                    refine CJ_region ?_
                    refine RJ_op rfl (OJ_P (P_move rfl) rfl ?_)
                    refine RJ_op rfl (OJ_P (P_eql (a := r61.2) (b := (0 : Int)) rfl rfl) rfl ?_)
                    refine RJ_op rfl (OJ_P (P_move rfl) rfl ?_)
                    refine RJ_mbT rfl rfl rfl (fun hG70 => have hP71 : (r61.2 = (0 : Int)) := (bT_dec).1 hG70; VJ_P (P_move rfl)) ?_
                    refine RJ_mbT rfl rfl rfl (fun hG72 => have hP73 : (r61.2 = (0 : Int)) := (bT_dec).1 hG72; VJ_P (P_move rfl)) ?_
                    refine RJ_mbT rfl rfl rfl (fun hG74 => have hP75 : (r61.2 = (0 : Int)) := (bT_dec).1 hG74; VJ_P (P_eq_u64 (a := r61.1) (b := v) (mbx hG74 rfl) (mbx hG74 rfl))) ?_
                    refine RJ_op rfl (OJ_P (P_pickAnd rfl (fun hh => mbx hh rfl) rfl) rfl ?_)
                    refine RJ_op rfl (OJ_P (P_move rfl) rfl ?_)
                    refine RJ_mbT rfl rfl rfl (fun hG76 => have hP77 : ((r61.2 = (0 : Int)) ∧ (r61.1 = v)) := ((bT_and bT_dec bT_dec)).1 hG76; VJ_P (P_move rfl)) ?_
                    refine RJ_mbT rfl rfl rfl (fun hG78 => have hP79 : ((r61.2 = (0 : Int)) ∧ (r61.1 = v)) := ((bT_and bT_dec bT_dec)).1 hG78; VJ_P (P_eql (a := (imC r58.2 (0 : Int))) (b := (0 : Int)) (mbx hG78 rfl) rfl)) ?_
                    refine RJ_op rfl (OJ_P (P_pickAnd rfl (fun hh => mbx hh rfl) rfl) rfl ?_)
                    refine RJ_op rfl (OJ_P (P_move rfl) rfl ?_)
                    refine RJ_splitP 155 rfl (bT_and (bT_and bT_dec bT_dec) bT_dec) (fun hg18B hg18 => ?_) (fun hg18B hg18 => ?_)
                    ·
                      replace h := ite_t hg18 h
                      refine RJ_gy (GY_yes rfl rfl rfl hg18B) (OJ_P (P_move rfl) rfl ?_)
                      refine RJ_gy (GY_yes rfl rfl rfl hg18B) (OJ_P (P_move rfl) rfl ?_)
                      obtain ⟨r80, hr81, h⟩ := bind_e h
                      refine RJ_gy (GY_yes rfl rfl rfl hg18B) (O_call (L_volumegroupref05_Same (Reads.sl _ _ _) (Reads.sl _ _ _) hr81) rfl Try.call20 (Dels.cons del0 (Dels.cons del1 Dels.nil)) rfl (fun _ _ => ?_))
                      refine RJ_op rfl (OJ_P (P_pickT rfl hg18B rfl) rfl ?_)
                      refine RJ_op rfl (OJ_P (P_move rfl) rfl ?_)
                      refine RJ_splitP 160 rfl Iff.rfl (fun hg19B hg19 => ?_) (fun hg19B hg19 => ?_)
                      ·
                        replace h := ite_t hg19 h
                        obtain ⟨r82, hr83, h⟩ := bind_e h
                        refine RJ_gy (GY_yes rfl rfl rfl hg19B) (O_call (L_volumegrouplaw05_awake hr83) rfl Try.call21 Dels.nil rfl (fun _ _ => ?_))
                        refine RJ_op rfl (OJ_P (P_pickT rfl hg19B rfl) rfl ?_)
                        refine RJ_op rfl (OJ_P (P_assign rfl) rfl ?_)
                        refine RJ_nil ?_
                        refine QJ_then ?_
                        refine CJ_ret ?_
                        have hE := Option.some.inj h
                        subst hE
                        refine QJ_end (res1 Try.results3 rfl) ?_
                        refine CSpec.close () ?_ ?_ (Ent.drop (Ent.drop (Ent.drop (Ent.drop (Ent.drop (Ent.drop (Ent.drop (Ent.drop (Ent.drop (Ent.drop (Ent.drop (Ent.drop Ent.refl))))))))))))
                        · rfl
                        · trivial
                      ·
                        replace h := ite_f hg19 h
                        refine RJ_gn (GY_no rfl rfl rfl hg19B) rfl rfl ?_
                        refine RJ_op rfl (OJ_P (P_pickF rfl hg19B rfl) rfl ?_)
                        refine RJ_op rfl (OJ_P (P_assign rfl) rfl ?_)
                        refine RJ_nil ?_
                        refine QJ_then ?_
                        refine CJ_ret ?_
                        have hE := Option.some.inj h
                        subst hE
                        refine QJ_end (res1 Try.results3 rfl) ?_
                        refine CSpec.close () ?_ ?_ (Ent.drop (Ent.drop (Ent.drop (Ent.drop (Ent.drop (Ent.drop (Ent.drop (Ent.drop (Ent.drop (Ent.drop (Ent.drop (Ent.drop Ent.refl))))))))))))
                        · rfl
                        · trivial
                    ·
                      replace h := ite_f hg18 h
                      refine RJ_gn (GY_no rfl rfl rfl hg18B) rfl rfl ?_
                      refine RJ_gn (GY_no rfl rfl rfl hg18B) rfl rfl ?_
                      refine RJ_gn (GY_no rfl rfl rfl hg18B) rfl rfl ?_
                      refine RJ_op rfl (OJ_P (P_pickF rfl hg18B rfl) rfl ?_)
                      refine RJ_op rfl (OJ_P (P_move rfl) rfl ?_)
                      refine RJ_gn (GY_no rfl rfl rfl rfl) rfl rfl ?_
                      refine RJ_op rfl (OJ_P (P_pickF rfl rfl rfl) rfl ?_)
                      refine RJ_op rfl (OJ_P (P_assign rfl) rfl ?_)
                      refine RJ_nil ?_
                      refine QJ_then ?_
                      refine CJ_ret ?_
                      have hE := Option.some.inj h
                      subst hE
                      refine QJ_end (res1 Try.results3 rfl) ?_
                      refine CSpec.close () ?_ ?_ (Ent.drop (Ent.drop (Ent.drop (Ent.drop (Ent.drop (Ent.drop (Ent.drop (Ent.drop (Ent.drop (Ent.drop (Ent.drop (Ent.drop Ent.refl))))))))))))
                      · rfl
                      · trivial

end Go.Proofs
