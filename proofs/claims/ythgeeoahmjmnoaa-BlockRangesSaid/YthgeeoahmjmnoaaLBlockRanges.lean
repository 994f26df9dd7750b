/- YthgeeoahmjmnoaaLBlockRanges: lifted functions of the program; printed by lift.py. -/
import Derived.Test.YthgeeoahmjmnoaaLCopy
set_option linter.unusedSimpArgs false
set_option linter.unusedVariables false
set_option maxRecDepth 20000
set_option maxHeartbeats 4000000
namespace Go.Proofs
open Go.VG

@[ext] structure Arr51 where
  e0 : Int
  e1 : Int
  e2 : Int
  deriving DecidableEq
abbrev tyArr51 : Ty Arr51 := { T := 51, sz := 3, enc := fun x => [.int .i64 x.e0, .int .i64 x.e1, .int .i64 x.e2], dflt := ⟨0, 0, 0⟩, len := fun _ => rfl, one := fun _ => rfl, pos := by decide }
theorem ok_tyArr51 : ElemOk Try.prog tyArr51 24 := ⟨Try.t51, .agg #[.int .i64 0, .int .i64 0, .int .i64 0], by kernel_rfl, rfl, rfl, rfl, rfl⟩

theorem bld_51_0_1_2 (v0 : Int) (v1 : Int) (v2 : Int) : ∀ w, (Instr.build 51 (#[(0, .int .i64 v0), (1, .int .i64 v1), (2, .int .i64 v2)] : Array (Nat × Value))).run Try.prog w = .ok (.agg #[.int .i64 v0, .int .i64 v1, .int .i64 v2]) w := fun w => by kernel_rfl
theorem bs_52_2_0_1 (v0 : Int) (v1 : Int) (v2 : Int) (v3 : Int) (v4 : Int) (v5 : Int) : BuildsSlice Try.prog 52 2 [(0, .agg #[.int .i64 v0, .int .i64 v1, .int .i64 v2]), (1, .agg #[.int .i64 v3, .int .i64 v4, .int .i64 v5])] 51 [.int .i64 v0, .int .i64 v1, .int .i64 v2, .int .i64 v3, .int .i64 v4, .int .i64 v5] := fun w => by kernel_rfl
def volumegrouplaw05_BlockRanges_l1_b (d : Int) (start : Int) (length : Int) (at_3 : Int) (rec : ArrS → Nat → Int → Option ((Int × ArrS) ⊕ Bool)) (x24 : ArrS) (x25 : Nat) (x26 : Int) : Option ((Int × ArrS) ⊕ Bool) :=
  lt (([(⟨d, start, length⟩ : Arr51), (⟨(andI d (1 : Int)), (andI start (7 : Int)), (andI length (7 : Int))⟩ : Arr51)]).length) fun w27 =>
  if (((x25 : Nat) : Int) < ((w27 : Nat) : Int)) then
    lt (((([(⟨d, start, length⟩ : Arr51), (⟨(andI d (1 : Int)), (andI start (7 : Int)), (andI length (7 : Int))⟩ : Arr51)]).getD x25 (⟨0, 0, 0⟩ : Arr51))).e0) fun w28 =>
    lt (((([(⟨d, start, length⟩ : Arr51), (⟨(andI d (1 : Int)), (andI start (7 : Int)), (andI length (7 : Int))⟩ : Arr51)]).getD x25 (⟨0, 0, 0⟩ : Arr51))).e1) fun w29 =>
    lt (((([(⟨d, start, length⟩ : Arr51), (⟨(andI d (1 : Int)), (andI start (7 : Int)), (andI length (7 : Int))⟩ : Arr51)]).getD x25 (⟨0, 0, 0⟩ : Arr51))).e2) fun w30 =>
    Option.bind (block_Span x24 w28 w29 w30) fun r31 =>
    if (((((0 : Int) ≤ w28) ∧ (w28 < (2 : Int))) ∧ ((0 : Int) ≤ w29)) ∧ ((1 : Int) ≤ w30)) then
      if (w29 < (sizeI x24 w28)) then
        grd (inI64 (((sizeI x24 w28) - w29))) <|
        if (¬ ((r31.2 = (0 : Int)) ↔ (w30 ≤ ((sizeI x24 w28) - w29)))) then
          some (.inr false)
        else
          Option.elim r31.1 (
            if ((¬ (false = true ↔ (w30 ≤ ((sizeI x24 w28) - w29)))) ∨ ((¬ (w30 ≤ ((sizeI x24 w28) - w29))) ∧ (r31.2 ≠ (1 : Int)))) then
              some (.inr false)
            else
              if (¬ (w30 ≤ ((sizeI x24 w28) - w29))) then
                grd (inN64 (x25 + 1)) <|
                rec x24 (x25 + 1) w30
              else
                none) fun o52 =>
          if ((¬ (true = true ↔ (w30 ≤ ((sizeI x24 w28) - w29)))) ∨ ((¬ (w30 ≤ ((sizeI x24 w28) - w29))) ∧ (r31.2 ≠ (1 : Int)))) then
            some (.inr false)
          else
            if (¬ (w30 ≤ ((sizeI x24 w28) - w29))) then
              grd (inN64 (x25 + 1)) <|
              rec x24 (x25 + 1) w30
            else
              Option.bind (Dvc.rd o52 x24 ((andI at_3 (7 : Int)))) fun r82 =>
              grd (inI64 ((w29 + (andI at_3 (7 : Int))))) <|
              Option.bind (Dvc.size o52 x24) fun r85 =>
              if ((r85 ≠ w30) ∨ (((andI at_3 (7 : Int)) < w30) ∧ (((r82.2 ≠ (0 : Int)) ∨ ((rdC x24 w28 ((w29 + (andI at_3 (7 : Int))))) ≠ (0 : Int))) ∨ (r82.1 ≠ (rdV x24 w28 ((w29 + (andI at_3 (7 : Int))))))))) then
                some (.inr false)
              else
                if (w30 ≤ (andI at_3 (7 : Int))) then
                  if (r82.2 ≠ (1 : Int)) then
                    some (.inr false)
                  else
                    Option.bind (Dvc.wr o52 x24 ((andI at_3 (7 : Int))) (1 : UInt64)) fun r136 =>
                    if (r136.1 ≠ (1 : Int)) then
                      some (.inr false)
                    else
                      Option.bind (block_Window o52 at_3 w30 r136.2) fun r138 =>
                      if ((0 : Int) ≤ at_3) then
                        Option.bind (Dvc.size o52 r136.2) fun r143 =>
                        if (at_3 ≤ r143) then
                          Option.bind (Dvc.size o52 r136.2) fun r146 =>
                          grd (inI64 (r146 - at_3)) <|
                          if (¬ ((r138.2 = (0 : Int)) ↔ (w30 ≤ (r146 - at_3)))) then
                            some (.inr false)
                          else
                            Option.elim r138.1 (
                              if (¬ (false = true ↔ (w30 ≤ (r146 - at_3)))) then
                                some (.inr false)
                              else
                                grd (inN64 (x25 + 1)) <|
                                rec r136.2 (x25 + 1) w30) fun o153 =>
                            if (¬ (true = true ↔ (w30 ≤ (r146 - at_3)))) then
                              some (.inr false)
                            else
                              grd (inN64 (x25 + 1)) <|
                              rec r136.2 (x25 + 1) w30
                        else
                          if (¬ ((r138.2 = (0 : Int)) ↔ false = true)) then
                            some (.inr false)
                          else
                            Option.elim r138.1 (
                              if (¬ (false = true ↔ false = true)) then
                                some (.inr false)
                              else
                                grd (inN64 (x25 + 1)) <|
                                rec r136.2 (x25 + 1) w30) fun o159 =>
                            if (¬ (true = true ↔ false = true)) then
                              some (.inr false)
                            else
                              grd (inN64 (x25 + 1)) <|
                              rec r136.2 (x25 + 1) w30
                      else
                        if (¬ ((r138.2 = (0 : Int)) ↔ false = true)) then
                          some (.inr false)
                        else
                          Option.elim r138.1 (
                            if (¬ (false = true ↔ false = true)) then
                              some (.inr false)
                            else
                              grd (inN64 (x25 + 1)) <|
                              rec r136.2 (x25 + 1) w30) fun o165 =>
                          if (¬ (true = true ↔ false = true)) then
                            some (.inr false)
                          else
                            grd (inN64 (x25 + 1)) <|
                            rec r136.2 (x25 + 1) w30
                else
                  Option.bind (block_Window o52 at_3 w30 x24) fun r166 =>
                  if ((0 : Int) ≤ at_3) then
                    Option.bind (Dvc.size o52 x24) fun r171 =>
                    if (at_3 ≤ r171) then
                      Option.bind (Dvc.size o52 x24) fun r174 =>
                      grd (inI64 (r174 - at_3)) <|
                      if (¬ ((r166.2 = (0 : Int)) ↔ (w30 ≤ (r174 - at_3)))) then
                        some (.inr false)
                      else
                        Option.elim r166.1 (
                          if (¬ (false = true ↔ (w30 ≤ (r174 - at_3)))) then
                            some (.inr false)
                          else
                            grd (inN64 (x25 + 1)) <|
                            rec x24 (x25 + 1) w30) fun o181 =>
                        if (¬ (true = true ↔ (w30 ≤ (r174 - at_3)))) then
                          some (.inr false)
                        else
                          grd (inN64 (x25 + 1)) <|
                          rec x24 (x25 + 1) w30
                    else
                      if (¬ ((r166.2 = (0 : Int)) ↔ false = true)) then
                        some (.inr false)
                      else
                        Option.elim r166.1 (
                          if (¬ (false = true ↔ false = true)) then
                            some (.inr false)
                          else
                            grd (inN64 (x25 + 1)) <|
                            rec x24 (x25 + 1) w30) fun o187 =>
                        if (¬ (true = true ↔ false = true)) then
                          some (.inr false)
                        else
                          grd (inN64 (x25 + 1)) <|
                          rec x24 (x25 + 1) w30
                  else
                    if (¬ ((r166.2 = (0 : Int)) ↔ false = true)) then
                      some (.inr false)
                    else
                      Option.elim r166.1 (
                        if (¬ (false = true ↔ false = true)) then
                          some (.inr false)
                        else
                          grd (inN64 (x25 + 1)) <|
                          rec x24 (x25 + 1) w30) fun o193 =>
                      if (¬ (true = true ↔ false = true)) then
                        some (.inr false)
                      else
                        grd (inN64 (x25 + 1)) <|
                        rec x24 (x25 + 1) w30
      else
        if (¬ ((r31.2 = (0 : Int)) ↔ false = true)) then
          some (.inr false)
        else
          Option.elim r31.1 (
            if ((¬ (false = true ↔ false = true)) ∨ (r31.2 ≠ (1 : Int))) then
              some (.inr false)
            else
              grd (inN64 (x25 + 1)) <|
              rec x24 (x25 + 1) w30) fun o199 =>
          if ((¬ (true = true ↔ false = true)) ∨ (r31.2 ≠ (1 : Int))) then
            some (.inr false)
          else
            grd (inN64 (x25 + 1)) <|
            rec x24 (x25 + 1) w30
    else
      if (¬ ((r31.2 = (0 : Int)) ↔ false = true)) then
        some (.inr false)
      else
        Option.elim r31.1 (
          if ((¬ (false = true ↔ false = true)) ∨ (r31.2 ≠ (1 : Int))) then
            some (.inr false)
          else
            grd (inN64 (x25 + 1)) <|
            rec x24 (x25 + 1) w30) fun o233 =>
        if ((¬ (true = true ↔ false = true)) ∨ (r31.2 ≠ (1 : Int))) then
          some (.inr false)
        else
          grd (inN64 (x25 + 1)) <|
          rec x24 (x25 + 1) w30
  else
    some (.inl (x26, x24))

def volumegrouplaw05_BlockRanges_l1 (d : Int) (start : Int) (length : Int) (at_3 : Int) : Nat → ArrS → Nat → Int → Option ((Int × ArrS) ⊕ Bool)
  | 0, _, _, _ => none
  | n + 1, x24, x25, x26 => volumegrouplaw05_BlockRanges_l1_b d start length at_3 (volumegrouplaw05_BlockRanges_l1 d start length at_3 n) x24 x25 x26

def volumegrouplaw05_BlockRanges (d : Int) (start : Int) (length : Int) (at_3 : Int) : Option (Bool) :=
  Option.bind (volumegroupmake_Words (6 : Int) (1 : UInt64)) fun r1 =>
  Option.bind (volumegroupmake_Words (4 : Int) (9 : UInt64)) fun r5 =>
  Option.bind (volumegroupmake_Loaded (([r1, r5] : List (List UInt64)))) fun r11 =>
  Option.elim r11 (
    some false) fun o16 =>
  seqO (volumegrouplaw05_BlockRanges_l1 d start length at_3 FUEL o16 0 length) fun a23 =>
  Option.bind (block_Zero ((andI a23.1 (7 : Int))) a23.2) fun r263 =>
  Option.bind (block_Fail ((andI a23.1 (7 : Int))) a23.2) fun r267 =>
  Option.bind (Dvc.size r263 a23.2) fun r272 =>
  if (r272 ≠ (andI a23.1 (7 : Int))) then
    some false
  else
    Option.bind (Dvc.size r267 a23.2) fun r275 =>
    if (r275 ≠ (andI a23.1 (7 : Int))) then
      some false
    else
      Option.bind (Dvc.fl r263 a23.2) fun r278 =>
      if (r278.1 ≠ (0 : Int)) then
        some false
      else
        Option.bind (Dvc.fl r267 r278.2) fun r281 =>
        if (r281.1 ≠ (0 : Int)) then
          some false
        else
          Option.bind (block_Zero (-3 : Int) r281.2) fun r283 =>
          Option.bind (block_Zero (-3 : Int) r281.2) fun r287 =>
          Option.bind (Dvc.size r287 r281.2) fun r292 =>
          if (r292 ≠ (0 : Int)) then
            some false
          else
            Option.bind (block_Fail (-1 : Int) r281.2) fun r294 =>
            Option.bind (block_Fail (-1 : Int) r281.2) fun r298 =>
            Option.bind (Dvc.size r298 r281.2) fun r303 =>
            if (r303 ≠ (0 : Int)) then
              some false
            else
              Option.bind (Dvc.rd r263 r281.2 at_3) fun r306 =>
              Option.bind (Dvc.rd r267 r281.2 at_3) fun r309 =>
              if ((at_3 < (0 : Int)) ∨ ((andI a23.1 (7 : Int)) ≤ at_3)) then
                if ((r306.2 = (1 : Int)) ∧ (r309.2 = (1 : Int))) then
                  Option.bind (Dvc.wr r263 r281.2 at_3 (1 : UInt64)) fun r324 =>
                  if (r324.1 = (1 : Int)) then
                    Option.bind (Dvc.wr r267 r324.2 at_3 (1 : UInt64)) fun r327 =>
                    if (r327.1 = (1 : Int)) then
                      Option.bind (volumegrouplaw05_awake) fun r329 =>
                      some r329
                    else
                      some false
                  else
                    some false
                else
                  some false
              else
                if (((r306.2 = (0 : Int)) ∧ (r306.1 = (0 : UInt64))) ∧ (r309.2 = (7 : Int))) then
                  Option.bind (Dvc.wr r263 r281.2 at_3 (1 : UInt64)) fun r340 =>
                  if (r340.1 = (22 : Int)) then
                    Option.bind (Dvc.wr r267 r340.2 at_3 (1 : UInt64)) fun r343 =>
                    if (r343.1 = (7 : Int)) then
                      Option.bind (volumegrouplaw05_awake) fun r345 =>
                      some r345
                    else
                      some false
                  else
                    some false
                else
                  some false

theorem L_volumegrouplaw05_BlockRanges {W : World} {d : Int} {start : Int} {length : Int} {at_3 : Int} {r : Bool} (h : volumegrouplaw05_BlockRanges d start length at_3 = some r) :
    CSpec Try.prog W 6 [.int .i64 d, .int .i64 start, .int .i64 length, .int .i64 at_3] [] (fun x : Unit => .bool r) (fun _ => True) (fun x F => F) := by
  refine CSpec.of_body Try.func6 rfl Try.ntmps6 rfl (fun F => ?_)
  show CJ _ _ _ _ _ _ (F)
  unfold volumegrouplaw05_BlockRanges at h
  refine CJ_seq ?_
  refine CJ_region ?_
  refine RJ_op rfl (OJ_P (P_assign rfl) rfl ?_)
  refine RJ_nil ?_
  refine QJ_then ?_
  refine CJ_seq ?_
  refine CJ_region ?_
  obtain ⟨r1, hr2, h⟩ := bind_e h
  refine RJ_op rfl (O_call (L_volumegroupmake_Words hr2) rfl Try.call16 Dels.nil rfl (fun X3 _ => ?_))
  obtain ⟨r5, hr6, h⟩ := bind_e h
  refine RJ_op rfl (O_call (L_volumegroupmake_Words hr6) rfl Try.call16 Dels.nil rfl (fun X7 _ => ?_))
  refine RJ_op rfl (O_buildSlice rfl (bs_27_2_0_1 _ _ _ _ _ _) rfl (fun b9 => ?_))
  refine RJ_ent (Ent.trans (Ent.take del0 Ent.refl) (sl_of_lit (t := tyRow) (m := 2) [(X3 : Sl3), (X7 : Sl3)] rfl rfl rfl (by decide))) ?_
  refine RJ_ent (Ent.starI (l := [sl tyU X3.v r1, sl tyU X7.v r5]) (Ent.take del2 (Ent.take del1 Ent.refl))) ?_
  obtain ⟨r11, hr12, h⟩ := bind_e h
  refine RJ_op rfl (O_call (L_volumegroupmake_Loaded (Reads.sl _ _ _) (RowsR.cons (Reads.sl _ _ _) (RowsR.cons (Reads.sl _ _ _) RowsR.nil)) hr12) rfl Try.call15 (Dels.cons del1 (Dels.cons del0 Dels.nil)) rfl (fun X13 _ => ?_))
  refine RJ_ent (Ent.trans (Ent.take del1 Ent.refl) (Ent.starE (l := [sl tyU X3.v r1, sl tyU X7.v r5]) Ent.refl)) ?_
  refine RJ_op rfl (OJ_P (P_assign rfl) rfl ?_)
  refine RJ_nil ?_
  refine QJ_then ?_
  refine CJ_seq ?_
  refine CJ_seq ?_
  refine CJ_region ?_
  refine RJ_op rfl (OJ_P (P_move rfl) rfl ?_)
  rcases opt_e h with ⟨ht15, h⟩ | ⟨o16, ht15, h⟩
  ·
    rw [ht15]
    refine RJ_ent (Ent.take del0 (Ent.take del0 (Ent.take del0 (Ent.drop Ent.refl)))) ?_
    refine RJ_op rfl (OJ_P (P_eqlNN rfl rfl Try.underlying23) rfl ?_)
    refine RJ_nil ?_
    refine QJ_then ?_
    refine CJ_condT rfl rfl ?_
    refine CJ_seq ?_
    refine CJ_region ?_
    refine RJ_op rfl (OJ_P (P_assign rfl) rfl ?_)
    refine RJ_nil ?_
    refine QJ_then ?_
    refine CJ_ret ?_
    refine QJ_then_ret ?_
    have hE := Option.some.inj h
    subst hE
    refine QJ_end (res1 Try.results6 rfl) ?_
    refine CSpec.close () ?_ ?_ (Ent.drop (Ent.drop (Ent.drop Ent.refl)))
    · rfl
    · trivial
  ·
    rw [ht15]
    refine RJ_ent (Ent.takeC (A' := Arr X13 o16) del3 rfl Ent.refl) ?_
    refine RJ_op rfl (OJ_P (P_eqlPN rfl rfl Try.underlying23) rfl ?_)
    refine RJ_nil ?_
    refine QJ_then ?_
    refine CJ_condF rfl rfl ?_
    refine CJ_skip ?_
    refine QJ_then ?_
    refine CJ_seq ?_
    refine CJ_region ?_
    refine RJ_op rfl (OJ_P (P_move rfl) rfl ?_)
    refine RJ_op rfl (OJ_P (P_move rfl) rfl ?_)
    refine RJ_op rfl (OJ_P (P_move rfl) rfl ?_)
    refine RJ_op rfl (OJ_P (P_build rfl (bld_51_0_1_2 _ _ _)) rfl ?_)
    refine RJ_op rfl (OJ_P (P_move rfl) rfl ?_)
    refine RJ_op rfl (OJ_P (P_and (a := d) (m := (1 : Int)) rfl rfl (by decide)) rfl ?_)
    refine RJ_op rfl (OJ_P (P_move rfl) rfl ?_)
    refine RJ_op rfl (OJ_P (P_and (a := start) (m := (7 : Int)) rfl rfl (by decide)) rfl ?_)
    refine RJ_op rfl (OJ_P (P_move rfl) rfl ?_)
    refine RJ_op rfl (OJ_P (P_and (a := length) (m := (7 : Int)) rfl rfl (by decide)) rfl ?_)
    refine RJ_op rfl (OJ_P (P_build rfl (bld_51_0_1_2 _ _ _)) rfl ?_)
    refine RJ_op rfl (O_buildSlice rfl (bs_52_2_0_1 _ _ _ _ _ _) rfl (fun b17 => ?_))
    refine RJ_ent (Ent.trans (Ent.take del0 Ent.refl) (sl_of_lit (t := tyArr51) (m := 2) [(⟨d, start, length⟩ : Arr51), (⟨(andI d (1 : Int)), (andI start (7 : Int)), (andI length (7 : Int))⟩ : Arr51)] rfl rfl rfl (by decide))) ?_
    refine RJ_op rfl (OJ_P (P_assign rfl) rfl ?_)
    refine RJ_nil ?_
    refine QJ_then ?_
    refine CJ_seq ?_
    refine CJ_seq ?_
    refine CJ_region ?_
    refine RJ_op rfl (OJ_P (P_assign rfl) rfl ?_)
    refine RJ_nil ?_
    refine QJ_then ?_
    obtain ⟨y20, hl18, hK19⟩ := seq_e h
    refine CJ_cutT (X := Int × ArrS) [0, 1, 2, 8, 11, 12, 13, 14, 15, 16, 17, 18, 19, 20, 21, 46, 47, 48, 49, 50, 51, 52, 53, 54, 55, 56, 57, 58, 59, 60, 61, 62, 63, 64, 65, 66, 67, 68, 69, 70, 71, 72, 73, 74, 75, 76, 77, 78, 79, 80, 81, 82, 83, 84, 85, 86, 87, 88, 89, 90, 91, 92, 93, 94, 95, 96, 97, 98, 99, 100, 101, 102, 103, 104, 105, 106, 107, 108, 109, 110, 111, 112, 113, 114, 115, 116, 117, 118, 119, 120, 121, 122, 123, 124, 125, 126, 127, 128, 129, 130, 131, 132, 133, 134, 135, 136, 137, 138, 139, 140, 141, 142, 143, 144, 145, 146, 147, 148, 149, 150, 151, 152, 153, 154, 155, 156, 157, 158, 159, 160, 161, 162, 163, 164, 165, 166, 167, 168, 169, 170, 171, 172, 173, 174, 175, 176, 177, 178, 179, 180, 181, 182, 183, 184, 185, 186, 187, 188, 189, 190, 191, 192, 193, 194, 195, 196, 197, 198, 199, 200, 201, 202, 203, 204, 205, 206, 207, 208, 209, 210, 211] (fun a23 => ([(2, .int .i64 a23.1)] : Slots)) (fun a23 R => Arr X13 a23.2 :: R) (fun a23 => y20 = .inl a23) (Dels.cons del1 Dels.nil) ?_ ?_
    ·
      refine CJ_block ?_
      refine CJ_loopR (X := Nat × ArrS × Nat × Int) [0, 1, 2, 8, 11, 12, 13, 14, 15, 16, 17, 18, 19, 20, 21, 46, 47, 48, 49, 50, 51, 52, 53, 54, 55, 56, 57, 58, 59, 60, 61, 62, 63, 64, 65, 66, 67, 68, 69, 70, 71, 72, 73, 74, 75, 76, 77, 78, 79, 80, 81, 82, 83, 84, 85, 86, 87, 88, 89, 90, 91, 92, 93, 94, 95, 96, 97, 98, 99, 100, 101, 102, 103, 104, 105, 106, 107, 108, 109, 110, 111, 112, 113, 114, 115, 116, 117, 118, 119, 120, 121, 122, 123, 124, 125, 126, 127, 128, 129, 130, 131, 132, 133, 134, 135, 136, 137, 138, 139, 140, 141, 142, 143, 144, 145, 146, 147, 148, 149, 150, 151, 152, 153, 154, 155, 156, 157, 158, 159, 160, 161, 162, 163, 164, 165, 166, 167, 168, 169, 170, 171, 172, 173, 174, 175, 176, 177, 178, 179, 180, 181, 182, 183, 184, 185, 186, 187, 188, 189, 190, 191, 192, 193, 194, 195, 196, 197, 198, 199, 200, 201, 202, 203, 204, 205, 206, 207, 208, 209, 210, 211] (fun ⟨n, x24, x25, x26⟩ => ([(2, .int .i64 x26), (11, .int .i64 (((x25 : Nat) : Int)))] : Slots)) (fun ⟨n, x24, x25, x26⟩ R => Arr X13 x24 :: R) (fun ⟨n, x24, x25, x26⟩ => volumegrouplaw05_BlockRanges_l1 d start length at_3 n x24 x25 x26 = some y20) (fun ⟨n, x24, x25, x26⟩ => n) ⟨FUEL, o16, 0, length⟩ ?_ ?_ (Ent.take del1 (Ent.take del0 (Ent.take del0 (Ent.take del0 (Ent.take del0 Ent.refl))))) ?_
      · exact hl18
      · exact ⟨rfl, rfl, True.intro⟩
      ·
        rintro ⟨n, x24, x25, x26⟩ h
        cases n with
        | zero => exact none_e h
        | succ n => ?_
        replace h : volumegrouplaw05_BlockRanges_l1_b d start length at_3 (volumegrouplaw05_BlockRanges_l1 d start length at_3 n) x24 x25 x26 = some y20 := h
        unfold volumegrouplaw05_BlockRanges_l1_b at h
        show CJ _ _ _ _ _ (([(2, .int .i64 x26), (11, .int .i64 (((x25 : Nat) : Int)))] : Slots) ++ forget _ _) (Arr X13 x24 :: _)
        refine CJ_seq ?_
        refine CJ_seq ?_
        refine CJ_region ?_
        refine RJ_op rfl (OJ_P (P_move rfl) rfl ?_)
        refine RJ_op rfl (OJ_P (P_move rfl) rfl ?_)
        refine RJ_op rfl (OJ_V (V_len rfl foc1 (Reads.sl _ _ _) Try.runUnderlying52) rfl ?_)
        obtain ⟨w27, hw27, h⟩ := lt_e h
        rw [← hw27]
        refine RJ_op rfl (OJ_P (P_lss (a := ((x25 : Nat) : Int)) (b := ((w27 : Nat) : Int)) rfl rfl) rfl ?_)
        refine RJ_nil ?_
        refine QJ_then ?_
        refine CJ_condP rfl bT_dec (fun hg4 => ?_) (fun hg4 => ?_)
        ·
          replace h := ite_t hg4 h
          refine CJ_skip ?_
          refine QJ_then ?_
          refine CJ_seq ?_
          refine CJ_block ?_
          refine CJ_seq ?_
          refine AJ_startH 0 (by kernel_rfl) rfl ?_
          refine AJ_takeP 0 1 rfl (by kernel_rfl) rfl (GY_none rfl) (P_move rfl) rfl (fun _ _ _ _ h => h) ?_
          refine AJ_takeP 1 3 rfl (by kernel_rfl) rfl (GY_none rfl) (P_move rfl) rfl (fun _ _ _ _ h => h) ?_
          refine AJ_takeV 2 7 rfl (by kernel_rfl) rfl (by kernel_rfl) (by kernel_rfl) (GY_none rfl) (Ent.take del0 (Ent.take del0 (Ent.take del0 (Ent.take del0 (Ent.take del0 Ent.refl))))) (V_index (i := x25) rfl rfl rfl (by omega) foc1 (Reads.sl _ _ _) Try.runUnderlying52 Try.sizeOf51) rfl (fun _ _ _ _ h => h) ?_
          refine AJ_takeP 3 15 rfl (by kernel_rfl) rfl (GY_none rfl) (P_indexArrE (j := 0) rfl rfl rfl Try.runUnderlying51 Try.sizeOf3) rfl (fun _ _ _ _ h => h) ?_
          refine AJ_takeV 4 31 rfl (by kernel_rfl) rfl (by kernel_rfl) (by kernel_rfl) (GY_none rfl) (Ent.take del0 (Ent.take del0 (Ent.take del0 (Ent.take del0 (Ent.take del0 Ent.refl))))) (V_loadE rfl rfl (by omega) foc1 (Reads.sl _ _ _) rfl rfl Try.isAgg3) rfl (fun _ _ _ _ h => h) ?_
          obtain ⟨w28, hw28, h⟩ := lt_e h
          rw [← hw28]
          refine AJ_takeP 5 63 rfl (by kernel_rfl) rfl (GY_none rfl) (P_move rfl) rfl (fun _ _ _ _ h => h) ?_
          refine AJ_takeP 6 127 rfl (by kernel_rfl) rfl (GY_none rfl) (P_move rfl) rfl (fun _ _ _ _ h => h) ?_
          refine AJ_takeV 7 255 rfl (by kernel_rfl) rfl (by kernel_rfl) (by kernel_rfl) (GY_none rfl) (Ent.take del0 (Ent.take del0 (Ent.take del0 (Ent.take del0 (Ent.take del0 Ent.refl))))) (V_index (i := x25) rfl rfl rfl (by omega) foc1 (Reads.sl _ _ _) Try.runUnderlying52 Try.sizeOf51) rfl (fun _ _ _ _ h => h) ?_
          refine AJ_takeP 8 511 rfl (by kernel_rfl) rfl (GY_none rfl) (P_indexArrE (j := 1) rfl rfl rfl Try.runUnderlying51 Try.sizeOf3) rfl (fun _ _ _ _ h => h) ?_
          refine AJ_takeV 9 1023 rfl (by kernel_rfl) rfl (by kernel_rfl) (by kernel_rfl) (GY_none rfl) (Ent.take del0 (Ent.take del0 (Ent.take del0 (Ent.take del0 (Ent.take del0 Ent.refl))))) (V_loadE rfl rfl (by omega) foc1 (Reads.sl _ _ _) rfl rfl Try.isAgg3) rfl (fun _ _ _ _ h => h) ?_
          obtain ⟨w29, hw29, h⟩ := lt_e h
          rw [← hw29]
          refine AJ_takeP 10 2047 rfl (by kernel_rfl) rfl (GY_none rfl) (P_move rfl) rfl (fun _ _ _ _ h => h) ?_
          refine AJ_takeP 11 4095 rfl (by kernel_rfl) rfl (GY_none rfl) (P_move rfl) rfl (fun _ _ _ _ h => h) ?_
          refine AJ_takeV 12 8191 rfl (by kernel_rfl) rfl (by kernel_rfl) (by kernel_rfl) (GY_none rfl) (Ent.take del0 (Ent.take del0 (Ent.take del0 (Ent.take del0 (Ent.take del0 Ent.refl))))) (V_index (i := x25) rfl rfl rfl (by omega) foc1 (Reads.sl _ _ _) Try.runUnderlying52 Try.sizeOf51) rfl (fun _ _ _ _ h => h) ?_
          refine AJ_takeP 13 16383 rfl (by kernel_rfl) rfl (GY_none rfl) (P_indexArrE (j := 2) rfl rfl rfl Try.runUnderlying51 Try.sizeOf3) rfl (fun _ _ _ _ h => h) ?_
          refine AJ_takeV 14 32767 rfl (by kernel_rfl) rfl (by kernel_rfl) (by kernel_rfl) (GY_none rfl) (Ent.take del0 (Ent.take del0 (Ent.take del0 (Ent.take del0 (Ent.take del0 Ent.refl))))) (V_loadE rfl rfl (by omega) foc1 (Reads.sl _ _ _) rfl rfl Try.isAgg3) rfl (fun _ _ _ _ h => h) ?_
          obtain ⟨w30, hw30, h⟩ := lt_e h
          rw [← hw30]
          refine AJ_takeP 15 65535 rfl (by kernel_rfl) rfl (GY_none rfl) (P_assign rfl) rfl (fun _ _ _ _ h => h) ?_
          refine AJ_takeP 16 131071 rfl (by kernel_rfl) rfl (GY_none rfl) (P_assign rfl) rfl (fun _ _ _ _ h => h) ?_
          refine AJ_takeP 17 262143 rfl (by kernel_rfl) rfl (GY_none rfl) (P_assign rfl) rfl (fun _ _ _ _ h => h) ?_
          refine AJ_done (by kernel_rfl) ?_
          refine QJ_then ?_
          refine CJ_seq ?_
          refine CJ_region ?_
          refine RJ_op rfl (OJ_P (P_move rfl) rfl ?_)
          refine RJ_op rfl (OJ_P (P_move rfl) rfl ?_)
          refine RJ_op rfl (OJ_P (P_move rfl) rfl ?_)
          refine RJ_op rfl (OJ_P (P_move rfl) rfl ?_)
          obtain ⟨r31, hr32, h⟩ := bind_e h
          refine RJ_op rfl (O_call (L_block_Span hr32) rfl Try.call25 (Dels.cons del0 Dels.nil) rfl (fun X33 _ => ?_))
          refine RJ_op rfl (OJ_P (P_move rfl) rfl ?_)
          refine RJ_op rfl (OJ_P (P_extract rfl rfl) rfl ?_)
          refine RJ_op rfl (OJ_P (P_extract rfl rfl) rfl ?_)
          refine RJ_op rfl (OJ_P (P_assign rfl) rfl ?_)
          refine RJ_op rfl (OJ_P (P_assign rfl) rfl ?_)
          refine RJ_nil ?_
          refine QJ_then ?_
          refine CJ_seq ?_
          refine CJ_region ?_
          refine RJ_op rfl (OJ_P (P_move rfl) rfl ?_)
          refine RJ_op rfl (OJ_P (P_geq (a := w28) (b := (0 : Int)) rfl rfl) rfl ?_)
          refine RJ_op rfl (OJ_P (P_move rfl) rfl ?_)
          refine RJ_mbT rfl rfl rfl (fun hG35 => have hP36 : ((0 : Int) ≤ w28) := (bT_dec).1 hG35; VJ_P (P_move rfl)) ?_
          refine RJ_mbT rfl rfl rfl (fun hG37 => have hP38 : ((0 : Int) ≤ w28) := (bT_dec).1 hG37; VJ_P (P_lss (a := w28) (b := (2 : Int)) (mbx hG37 rfl) rfl)) ?_
          refine RJ_op rfl (OJ_P (P_pickAnd rfl (fun hh => mbx hh rfl) rfl) rfl ?_)
          refine RJ_op rfl (OJ_P (P_move rfl) rfl ?_)
          refine RJ_mbT rfl rfl rfl (fun hG39 => have hP40 : (((0 : Int) ≤ w28) ∧ (w28 < (2 : Int))) := ((bT_and bT_dec bT_dec)).1 hG39; VJ_P (P_move rfl)) ?_
          refine RJ_mbT rfl rfl rfl (fun hG41 => have hP42 : (((0 : Int) ≤ w28) ∧ (w28 < (2 : Int))) := ((bT_and bT_dec bT_dec)).1 hG41; VJ_P (P_geq (a := w29) (b := (0 : Int)) (mbx hG41 rfl) rfl)) ?_
          refine RJ_op rfl (OJ_P (P_pickAnd rfl (fun hh => mbx hh rfl) rfl) rfl ?_)
          refine RJ_op rfl (OJ_P (P_move rfl) rfl ?_)
          refine RJ_mbT rfl rfl rfl (fun hG43 => have hP44 : ((((0 : Int) ≤ w28) ∧ (w28 < (2 : Int))) ∧ ((0 : Int) ≤ w29)) := ((bT_and (bT_and bT_dec bT_dec) bT_dec)).1 hG43; VJ_P (P_move rfl)) ?_
          refine RJ_mbT rfl rfl rfl (fun hG45 => have hP46 : ((((0 : Int) ≤ w28) ∧ (w28 < (2 : Int))) ∧ ((0 : Int) ≤ w29)) := ((bT_and (bT_and bT_dec bT_dec) bT_dec)).1 hG45; VJ_P (P_geq (a := w30) (b := (1 : Int)) (mbx hG45 rfl) rfl)) ?_
          refine RJ_op rfl (OJ_P (P_pickAnd rfl (fun hh => mbx hh rfl) rfl) rfl ?_)
          refine RJ_op rfl (OJ_P (P_move rfl) rfl ?_)
          refine RJ_splitP 89 rfl (bT_and (bT_and (bT_and bT_dec bT_dec) bT_dec) bT_dec) (fun hg5B hg5 => ?_) (fun hg5B hg5 => ?_)
          ·
            replace h := ite_t hg5 h
            refine RJ_gy (GY_yes rfl rfl rfl hg5B) (OJ_P (P_move rfl) rfl ?_)
            refine RJ_gy (GY_yes rfl rfl rfl hg5B) (OJ_P (P_move rfl) rfl ?_)
            refine RJ_gy (GY_yes rfl rfl rfl hg5B) (OJ_P (P_move rfl) rfl ?_)
            refine RJ_gy (GY_yes rfl rfl rfl hg5B) (O_call (c_SizeD) rfl Try.call26 (Dels.cons del0 Dels.nil) rfl (fun _ _ => ?_))
            refine RJ_gy (GY_yes rfl rfl rfl hg5B) (OJ_P (P_lss (a := w29) (b := (sizeI x24 w28)) rfl rfl) rfl ?_)
            refine RJ_op rfl (OJ_P (P_pickT rfl hg5B rfl) rfl ?_)
            refine RJ_op rfl (OJ_P (P_move rfl) rfl ?_)
            refine RJ_splitP 96 rfl bT_dec (fun hg6B hg6 => ?_) (fun hg6B hg6 => ?_)
            ·
              replace h := ite_t hg6 h
              refine RJ_gy (GY_yes rfl rfl rfl hg6B) (OJ_P (P_move rfl) rfl ?_)
              refine RJ_gy (GY_yes rfl rfl rfl hg6B) (OJ_P (P_move rfl) rfl ?_)
              refine RJ_gy (GY_yes rfl rfl rfl hg6B) (OJ_P (P_move rfl) rfl ?_)
              refine RJ_gy (GY_yes rfl rfl rfl hg6B) (O_call (c_SizeD) rfl Try.call26 (Dels.cons del0 Dels.nil) rfl (fun _ _ => ?_))
              refine RJ_gy (GY_yes rfl rfl rfl hg6B) (OJ_P (P_move rfl) rfl ?_)
              obtain ⟨hg7, h⟩ := grd_Ie h
              refine RJ_gy (GY_yes rfl rfl rfl hg6B) (OJ_P (P_sub (a := (sizeI x24 w28)) (b := w29) rfl rfl hg7) rfl ?_)
              refine RJ_gy (GY_yes rfl rfl rfl hg6B) (OJ_P (P_leq (a := w30) (b := ((sizeI x24 w28) - w29)) rfl rfl) rfl ?_)
              refine RJ_op rfl (OJ_P (P_pickT rfl hg6B rfl) rfl ?_)
              refine RJ_op rfl (OJ_P (P_assign rfl) rfl ?_)
              refine RJ_nil ?_
              refine QJ_then ?_
              refine CJ_seq ?_
              refine CJ_seq ?_
              refine CJ_region ?_
              refine RJ_op rfl (OJ_P (P_move rfl) rfl ?_)
              refine RJ_op rfl (OJ_P (P_eql (a := r31.2) (b := (0 : Int)) rfl rfl) rfl ?_)
              refine RJ_op rfl (OJ_P (P_move rfl) rfl ?_)
              refine RJ_op rfl (OJ_P (P_neqB rfl rfl Try.underlying4) rfl ?_)
              refine RJ_op rfl (OJ_P (P_move rfl) rfl ?_)
              refine RJ_mbF rfl rfl rfl (fun hG47 => have hP48 : ¬ (¬ ((r31.2 = (0 : Int)) ↔ (w30 ≤ ((sizeI x24 w28) - w29)))) := nP ((bT_not (bT_beq bT_dec bT_dec))) hG47; VJ_P (P_move rfl)) ?_
              refine RJ_splitP 109 rfl (bT_not (bT_beq bT_dec bT_dec)) (fun hg8B hg8 => ?_) (fun hg8B hg8 => ?_)
              ·
                replace h := ite_t hg8 h
                refine RJ_gn (GY_no rfl rfl rfl hg8B) rfl rfl ?_
                refine RJ_gn (GY_no rfl rfl rfl hg8B) rfl rfl ?_
                refine RJ_gn (GY_no rfl rfl rfl hg8B) rfl rfl ?_
                refine RJ_op rfl (OJ_P (P_pickT rfl hg8B rfl) rfl ?_)
                refine RJ_op rfl (OJ_P (P_move rfl) rfl ?_)
                refine RJ_gn (GY_no rfl rfl rfl rfl) rfl rfl ?_
                refine RJ_gn (GY_no rfl rfl rfl rfl) rfl rfl ?_
                refine RJ_gn (GY_no rfl rfl rfl rfl) rfl rfl ?_
                refine RJ_gn (GY_undef rfl rfl rfl) rfl rfl ?_
                refine RJ_gn (GY_undef rfl rfl rfl) rfl rfl ?_
                refine RJ_gn (GY_no rfl rfl rfl rfl) rfl rfl ?_
                refine RJ_op rfl (OJ_P (P_pickT rfl rfl rfl) rfl ?_)
                refine RJ_nil ?_
                refine QJ_then ?_
                refine CJ_condT rfl rfl ?_
                refine CJ_seq ?_
                refine CJ_region ?_
                refine RJ_op rfl (OJ_P (P_assign rfl) rfl ?_)
                refine RJ_nil ?_
                refine QJ_then ?_
                refine CJ_ret ?_
                refine QJ_then_ret ?_
                refine QJ_block_ret ?_
                refine QJ_then_ret ?_
                refine QJ_round_ret ?_
                refine QJ_block_ret ?_
                refine QJ_then_ret ?_
                have hE := Option.some.inj h
                replace hE := seq_inr hK19 hE.symm
                subst hE
                refine QJ_end (res1 Try.results6 rfl) ?_
                refine CSpec.close () ?_ ?_ (Ent.drop (Ent.drop (Ent.drop (Ent.drop (Ent.drop (Ent.drop Ent.refl))))))
                · rfl
                · trivial
              ·
                replace h := ite_f hg8 h
                rcases opt_e h with ⟨ht51, h⟩ | ⟨o52, ht51, h⟩
                ·
                  rw [ht51]
                  refine RJ_ent (Ent.take del0 (Ent.take del1 (Ent.take del1 (Ent.take del1 (Ent.take del1 (Ent.drop Ent.refl)))))) ?_
                  refine RJ_gy (GY_yes rfl rfl rfl hg8B) (OJ_P (P_neqIN (mbx (not_f hg8B) rfl) Try.underlying31) rfl ?_)
                  refine RJ_gy (GY_yes rfl rfl rfl hg8B) (OJ_P (P_move rfl) rfl ?_)
                  refine RJ_gy (GY_yes rfl rfl rfl hg8B) (OJ_P (P_neqB rfl rfl Try.underlying4) rfl ?_)
                  refine RJ_op rfl (OJ_P (P_pickF rfl hg8B rfl) rfl ?_)
                  refine RJ_op rfl (OJ_P (P_move rfl) rfl ?_)
                  refine RJ_mbF rfl rfl rfl (fun hG53 => have hP54 : ¬ (¬ (false = true ↔ (w30 ≤ ((sizeI x24 w28) - w29)))) := nP ((bT_not (bT_beq Iff.rfl bT_dec))) hG53; VJ_P (P_move rfl)) ?_
                  refine RJ_mbF rfl rfl rfl (fun hG55 => have hP56 : ¬ (¬ (false = true ↔ (w30 ≤ ((sizeI x24 w28) - w29)))) := nP ((bT_not (bT_beq Iff.rfl bT_dec))) hG55; VJ_P (P_not (mbx hG55 rfl))) ?_
                  refine RJ_mbF rfl rfl rfl (fun hG57 => have hP58 : ¬ (¬ (false = true ↔ (w30 ≤ ((sizeI x24 w28) - w29)))) := nP ((bT_not (bT_beq Iff.rfl bT_dec))) hG57; VJ_P (P_move (mbx hG57 rfl))) ?_
                  refine RJ_mbGT rfl rfl rfl (fun hG59 => have hP60 : ¬ (¬ (false = true ↔ (w30 ≤ ((sizeI x24 w28) - w29)))) := nP ((bT_not (bT_beq Iff.rfl bT_dec))) (and_l hG59); have hP61 : (¬ (w30 ≤ ((sizeI x24 w28) - w29))) := ((bT_not bT_dec)).1 (and_r hG59); VJ_P (P_move rfl)) ?_
                  refine RJ_mbGT rfl rfl rfl (fun hG62 => have hP63 : ¬ (¬ (false = true ↔ (w30 ≤ ((sizeI x24 w28) - w29)))) := nP ((bT_not (bT_beq Iff.rfl bT_dec))) (and_l hG62); have hP64 : (¬ (w30 ≤ ((sizeI x24 w28) - w29))) := ((bT_not bT_dec)).1 (and_r hG62); VJ_P (P_neq (a := r31.2) (b := (1 : Int)) (mbx hG62 rfl) rfl)) ?_
                  refine RJ_mbF rfl rfl rfl (fun hG65 => have hP66 : ¬ (¬ (false = true ↔ (w30 ≤ ((sizeI x24 w28) - w29)))) := nP ((bT_not (bT_beq Iff.rfl bT_dec))) hG65; VJ_P (P_pickAnd (mbx hG65 rfl) (fun hh => mbx (and_i hG65 hh) rfl) rfl)) ?_
                  refine RJ_op rfl (OJ_P (P_pickOr rfl rfl (fun hh => mbx (not_f hh) rfl)) rfl ?_)
                  refine RJ_nil ?_
                  refine QJ_then ?_
                  refine CJ_condP rfl (bT_or (bT_not (bT_beq Iff.rfl bT_dec)) (bT_and (bT_not bT_dec) bT_dec)) (fun hg9 => ?_) (fun hg9 => ?_)
                  ·
                    replace h := ite_t hg9 h
                    refine CJ_seq ?_
                    refine CJ_region ?_
                    refine RJ_op rfl (OJ_P (P_assign rfl) rfl ?_)
                    refine RJ_nil ?_
                    refine QJ_then ?_
                    refine CJ_ret ?_
                    refine QJ_then_ret ?_
                    refine QJ_block_ret ?_
                    refine QJ_then_ret ?_
                    refine QJ_round_ret ?_
                    refine QJ_block_ret ?_
                    refine QJ_then_ret ?_
                    have hE := Option.some.inj h
                    replace hE := seq_inr hK19 hE.symm
                    subst hE
                    refine QJ_end (res1 Try.results6 rfl) ?_
                    refine CSpec.close () ?_ ?_ (Ent.drop (Ent.drop (Ent.drop (Ent.drop (Ent.drop Ent.refl)))))
                    · rfl
                    · trivial
                  ·
                    replace h := ite_f hg9 h
                    refine CJ_skip ?_
                    refine QJ_then ?_
                    refine CJ_seq ?_
                    refine CJ_seq ?_
                    refine CJ_region ?_
                    refine RJ_op rfl (OJ_P (P_move rfl) rfl ?_)
                    refine RJ_op rfl (OJ_P (P_not rfl) rfl ?_)
                    refine RJ_nil ?_
                    refine QJ_then ?_
                    refine CJ_condP rfl (bT_not bT_dec) (fun hg10 => ?_) (fun hg10 => ?_)
                    ·
                      replace h := ite_t hg10 h
                      refine CJ_exit ?_
                      refine QJ_then_exit ?_
                      refine QJ_block_here ?_
                      refine QJ_then ?_
                      refine CJ_region ?_
                      refine RJ_op rfl (OJ_P (P_move rfl) rfl ?_)
                      obtain ⟨hg11, h⟩ := grd_Ne h
                      refine RJ_op rfl (OJ_P (PJ_eq (P_add (a := ((x25 : Nat) : Int)) (b := (1 : Int)) rfl rfl (nat_in hg11)) rfl) rfl ?_)
                      refine RJ_op rfl (OJ_P (P_assign rfl) rfl ?_)
                      refine RJ_nil ?_
                      refine QJ_nextR ⟨n, x24, (x25 + 1), w30⟩ (Nat.lt_succ_self _) ?_ (by repeat (first | exact Kp.base | exact Kp.self | refine Kp.cons rfl ?_ | refine Kp.forget rfl ?_)) ?_ (Ent.take del0 (Ent.take del0 (Ent.take del0 (Ent.take del0 (Ent.take del0 Ent.refl)))))
                      · exact h
                      · exact ⟨rfl, rfl, True.intro⟩
                    ·
                      replace h := ite_f hg10 h
                      refine CJ_skip ?_
                      refine QJ_then ?_
                      refine CJ_seq ?_
                      refine CJ_region ?_
                      refine RJ_op rfl (OJ_P (P_move rfl) rfl ?_)
                      refine RJ_op rfl (OJ_P (P_and (a := at_3) (m := (7 : Int)) rfl rfl (by decide)) rfl ?_)
                      refine RJ_op rfl (OJ_P (P_assign rfl) rfl ?_)
                      refine RJ_nil ?_
                      refine QJ_then ?_
                      refine CJ_seq ?_
                      refine CJ_region ?_
                      refine RJ_op rfl (OJ_P (P_move rfl) rfl ?_)
                      refine RJ_op rfl (OJ_P (P_move rfl) rfl ?_)
                      exact none_e h
                ·
                  rw [ht51]
                  refine RJ_ent (Ent.takeC (A' := DevP X13 o52 X33) del1 rfl Ent.refl) ?_
                  refine RJ_gy (GY_yes rfl rfl rfl hg8B) (OJ_P (P_neqIfN (mbx (not_f hg8B) rfl) rfl Try.underlying31) rfl ?_)
                  refine RJ_gy (GY_yes rfl rfl rfl hg8B) (OJ_P (P_move rfl) rfl ?_)
                  refine RJ_gy (GY_yes rfl rfl rfl hg8B) (OJ_P (P_neqB rfl rfl Try.underlying4) rfl ?_)
                  refine RJ_op rfl (OJ_P (P_pickF rfl hg8B rfl) rfl ?_)
                  refine RJ_op rfl (OJ_P (P_move rfl) rfl ?_)
                  refine RJ_mbF rfl rfl rfl (fun hG67 => have hP68 : ¬ (¬ (true = true ↔ (w30 ≤ ((sizeI x24 w28) - w29)))) := nP ((bT_not (bT_beq Iff.rfl bT_dec))) hG67; VJ_P (P_move rfl)) ?_
                  refine RJ_mbF rfl rfl rfl (fun hG69 => have hP70 : ¬ (¬ (true = true ↔ (w30 ≤ ((sizeI x24 w28) - w29)))) := nP ((bT_not (bT_beq Iff.rfl bT_dec))) hG69; VJ_P (P_not (mbx hG69 rfl))) ?_
                  refine RJ_mbF rfl rfl rfl (fun hG71 => have hP72 : ¬ (¬ (true = true ↔ (w30 ≤ ((sizeI x24 w28) - w29)))) := nP ((bT_not (bT_beq Iff.rfl bT_dec))) hG71; VJ_P (P_move (mbx hG71 rfl))) ?_
                  refine RJ_mbGT rfl rfl rfl (fun hG73 => have hP74 : ¬ (¬ (true = true ↔ (w30 ≤ ((sizeI x24 w28) - w29)))) := nP ((bT_not (bT_beq Iff.rfl bT_dec))) (and_l hG73); have hP75 : (¬ (w30 ≤ ((sizeI x24 w28) - w29))) := ((bT_not bT_dec)).1 (and_r hG73); VJ_P (P_move rfl)) ?_
                  refine RJ_mbGT rfl rfl rfl (fun hG76 => have hP77 : ¬ (¬ (true = true ↔ (w30 ≤ ((sizeI x24 w28) - w29)))) := nP ((bT_not (bT_beq Iff.rfl bT_dec))) (and_l hG76); have hP78 : (¬ (w30 ≤ ((sizeI x24 w28) - w29))) := ((bT_not bT_dec)).1 (and_r hG76); VJ_P (P_neq (a := r31.2) (b := (1 : Int)) (mbx hG76 rfl) rfl)) ?_
                  refine RJ_mbF rfl rfl rfl (fun hG79 => have hP80 : ¬ (¬ (true = true ↔ (w30 ≤ ((sizeI x24 w28) - w29)))) := nP ((bT_not (bT_beq Iff.rfl bT_dec))) hG79; VJ_P (P_pickAnd (mbx hG79 rfl) (fun hh => mbx (and_i hG79 hh) rfl) rfl)) ?_
                  refine RJ_op rfl (OJ_P (P_pickOr rfl rfl (fun hh => mbx (not_f hh) rfl)) rfl ?_)
                  refine RJ_nil ?_
                  refine QJ_then ?_
                  refine CJ_condP rfl (bT_or (bT_not (bT_beq Iff.rfl bT_dec)) (bT_and (bT_not bT_dec) bT_dec)) (fun hg13 => ?_) (fun hg13 => ?_)
                  ·
                    replace h := ite_t hg13 h
                    refine CJ_seq ?_
                    refine CJ_region ?_
                    refine RJ_op rfl (OJ_P (P_assign rfl) rfl ?_)
                    refine RJ_nil ?_
                    refine QJ_then ?_
                    refine CJ_ret ?_
                    refine QJ_then_ret ?_
                    refine QJ_block_ret ?_
                    refine QJ_then_ret ?_
                    refine QJ_round_ret ?_
                    refine QJ_block_ret ?_
                    refine QJ_then_ret ?_
                    have hE := Option.some.inj h
                    replace hE := seq_inr hK19 hE.symm
                    subst hE
                    refine QJ_end (res1 Try.results6 rfl) ?_
                    refine CSpec.close () ?_ ?_ (Ent.drop (Ent.drop (Ent.drop (Ent.drop (Ent.drop (Ent.drop Ent.refl))))))
                    · rfl
                    · trivial
                  ·
                    replace h := ite_f hg13 h
                    refine CJ_skip ?_
                    refine QJ_then ?_
                    refine CJ_seq ?_
                    refine CJ_seq ?_
                    refine CJ_region ?_
                    refine RJ_op rfl (OJ_P (P_move rfl) rfl ?_)
                    refine RJ_op rfl (OJ_P (P_not rfl) rfl ?_)
                    refine RJ_nil ?_
                    refine QJ_then ?_
                    refine CJ_condP rfl (bT_not bT_dec) (fun hg14 => ?_) (fun hg14 => ?_)
                    ·
                      replace h := ite_t hg14 h
                      refine CJ_exit ?_
                      refine QJ_then_exit ?_
                      refine QJ_block_here ?_
                      refine QJ_then ?_
                      refine CJ_region ?_
                      refine RJ_op rfl (OJ_P (P_move rfl) rfl ?_)
                      obtain ⟨hg15, h⟩ := grd_Ne h
                      refine RJ_op rfl (OJ_P (PJ_eq (P_add (a := ((x25 : Nat) : Int)) (b := (1 : Int)) rfl rfl (nat_in hg15)) rfl) rfl ?_)
                      refine RJ_op rfl (OJ_P (P_assign rfl) rfl ?_)
                      refine RJ_nil ?_
                      refine QJ_nextR ⟨n, x24, (x25 + 1), w30⟩ (Nat.lt_succ_self _) ?_ (by repeat (first | exact Kp.base | exact Kp.self | refine Kp.cons rfl ?_ | refine Kp.forget rfl ?_)) ?_ (Ent.take del1 (Ent.take del1 (Ent.take del1 (Ent.take del1 (Ent.take del1 (Ent.drop Ent.refl))))))
                      · exact h
                      · exact ⟨rfl, rfl, True.intro⟩
                    ·
                      replace h := ite_f hg14 h
                      refine CJ_skip ?_
                      refine QJ_then ?_
                      refine CJ_seq ?_
                      refine CJ_region ?_
                      refine RJ_op rfl (OJ_P (P_move rfl) rfl ?_)
                      refine RJ_op rfl (OJ_P (P_and (a := at_3) (m := (7 : Int)) rfl rfl (by decide)) rfl ?_)
                      refine RJ_op rfl (OJ_P (P_assign rfl) rfl ?_)
                      refine RJ_nil ?_
                      refine QJ_then ?_
                      refine CJ_seq ?_
                      refine CJ_region ?_
                      refine RJ_op rfl (OJ_P (P_move rfl) rfl ?_)
                      refine RJ_op rfl (OJ_P (P_move rfl) rfl ?_)
                      refine RJ_pure (fun h hh => DevP_dep h (stars_perm (del0 (A := DevP X13 o52 X33)).out h hh)) (fun hdp81 => ?_)
                      obtain ⟨r82, hr83, h⟩ := bind_e h
                      refine RJ_op rfl (O_callI rfl (dev_Read hr83 hdp81) rfl (Dels.cons del0 (Dels.cons del0 Dels.nil)) rfl (fun _ _ => ?_))
                      refine RJ_op rfl (OJ_P (P_move rfl) rfl ?_)
                      refine RJ_op rfl (OJ_P (P_extract rfl rfl) rfl ?_)
                      refine RJ_op rfl (OJ_P (P_extract rfl rfl) rfl ?_)
                      refine RJ_op rfl (OJ_P (P_assign rfl) rfl ?_)
                      refine RJ_op rfl (OJ_P (P_assign rfl) rfl ?_)
                      refine RJ_nil ?_
                      refine QJ_then ?_
                      refine CJ_seq ?_
                      refine CJ_region ?_
                      refine RJ_op rfl (OJ_P (P_move rfl) rfl ?_)
                      refine RJ_op rfl (OJ_P (P_move rfl) rfl ?_)
                      refine RJ_op rfl (OJ_P (P_move rfl) rfl ?_)
                      refine RJ_op rfl (OJ_P (P_move rfl) rfl ?_)
                      obtain ⟨hg17, h⟩ := grd_Ie h
                      refine RJ_op rfl (OJ_P (P_add (a := w29) (b := (andI at_3 (7 : Int))) rfl rfl hg17) rfl ?_)
                      refine RJ_op rfl (O_call (c_Read) rfl Try.call27 (Dels.cons del1 Dels.nil) rfl (fun _ _ => ?_))
                      refine RJ_op rfl (OJ_P (P_move rfl) rfl ?_)
                      refine RJ_op rfl (OJ_P (P_extract rfl rfl) rfl ?_)
                      refine RJ_op rfl (OJ_P (P_extract rfl rfl) rfl ?_)
                      refine RJ_op rfl (OJ_P (P_assign rfl) rfl ?_)
                      refine RJ_op rfl (OJ_P (P_assign rfl) rfl ?_)
                      refine RJ_nil ?_
                      refine QJ_then ?_
                      refine CJ_seq ?_
                      refine CJ_seq ?_
                      refine CJ_region ?_
                      refine RJ_op rfl (OJ_P (P_move rfl) rfl ?_)
                      refine RJ_pure (fun h hh => DevP_dep h (stars_perm (del1 (A := DevP X13 o52 X33)).out h hh)) (fun hdp84 => ?_)
                      obtain ⟨r85, hr86, h⟩ := bind_e h
                      refine RJ_op rfl (O_callI rfl (dev_Size hr86 hdp84) rfl (Dels.cons del1 (Dels.cons del0 Dels.nil)) rfl (fun _ _ => ?_))
                      refine RJ_op rfl (OJ_P (P_move rfl) rfl ?_)
                      refine RJ_op rfl (OJ_P (P_neq (a := r85) (b := w30) rfl rfl) rfl ?_)
                      refine RJ_op rfl (OJ_P (P_move rfl) rfl ?_)
                      refine RJ_mbF rfl rfl rfl (fun hG87 => have hP88 : ¬ (r85 ≠ w30) := nP (bT_dec) hG87; VJ_P (P_move rfl)) ?_
                      refine RJ_mbF rfl rfl rfl (fun hG89 => have hP90 : ¬ (r85 ≠ w30) := nP (bT_dec) hG89; VJ_P (P_move rfl)) ?_
                      refine RJ_mbF rfl rfl rfl (fun hG91 => have hP92 : ¬ (r85 ≠ w30) := nP (bT_dec) hG91; VJ_P (P_lss (a := (andI at_3 (7 : Int))) (b := w30) (mbx hG91 rfl) (mbx hG91 rfl))) ?_
                      refine RJ_mbF rfl rfl rfl (fun hG93 => have hP94 : ¬ (r85 ≠ w30) := nP (bT_dec) hG93; VJ_P (P_move (mbx hG93 rfl))) ?_
                      refine RJ_mbGT rfl rfl rfl (fun hG95 => have hP96 : ¬ (r85 ≠ w30) := nP (bT_dec) (and_l hG95); have hP97 : ((andI at_3 (7 : Int)) < w30) := (bT_dec).1 (and_r hG95); VJ_P (P_move rfl)) ?_
                      refine RJ_mbGT rfl rfl rfl (fun hG98 => have hP99 : ¬ (r85 ≠ w30) := nP (bT_dec) (and_l hG98); have hP100 : ((andI at_3 (7 : Int)) < w30) := (bT_dec).1 (and_r hG98); VJ_P (P_neq (a := r82.2) (b := (0 : Int)) (mbx hG98 rfl) rfl)) ?_
                      refine RJ_mbGT rfl rfl rfl (fun hG101 => have hP102 : ¬ (r85 ≠ w30) := nP (bT_dec) (and_l hG101); have hP103 : ((andI at_3 (7 : Int)) < w30) := (bT_dec).1 (and_r hG101); VJ_P (P_move (mbx hG101 rfl))) ?_
                      refine RJ_mbGF rfl rfl rfl (fun hG104 => have hP105 : ¬ (r85 ≠ w30) := nP (bT_dec) (and_l (and_l hG104)); have hP106 : ((andI at_3 (7 : Int)) < w30) := (bT_dec).1 (and_r (and_l hG104)); have hP107 : ¬ (r82.2 ≠ (0 : Int)) := nP (bT_dec) (and_r hG104); VJ_P (P_move rfl)) ?_
                      refine RJ_mbGF rfl rfl rfl (fun hG108 => have hP109 : ¬ (r85 ≠ w30) := nP (bT_dec) (and_l (and_l hG108)); have hP110 : ((andI at_3 (7 : Int)) < w30) := (bT_dec).1 (and_r (and_l hG108)); have hP111 : ¬ (r82.2 ≠ (0 : Int)) := nP (bT_dec) (and_r hG108); VJ_P (P_neq (a := (rdC x24 w28 ((w29 + (andI at_3 (7 : Int)))))) (b := (0 : Int)) (mbx hG108 rfl) rfl)) ?_
                      refine RJ_mbGT rfl rfl rfl (fun hG112 => have hP113 : ¬ (r85 ≠ w30) := nP (bT_dec) (and_l hG112); have hP114 : ((andI at_3 (7 : Int)) < w30) := (bT_dec).1 (and_r hG112); VJ_P (P_pickOr (mbx hG112 rfl) rfl (fun hh => mbx (and_i hG112 (not_f hh)) rfl))) ?_
                      refine RJ_mbGT rfl rfl rfl (fun hG115 => have hP116 : ¬ (r85 ≠ w30) := nP (bT_dec) (and_l hG115); have hP117 : ((andI at_3 (7 : Int)) < w30) := (bT_dec).1 (and_r hG115); VJ_P (P_move (mbx hG115 rfl))) ?_
                      refine RJ_mbGF rfl rfl rfl (fun hG118 => have hP119 : ¬ (r85 ≠ w30) := nP (bT_dec) (and_l (and_l hG118)); have hP120 : ((andI at_3 (7 : Int)) < w30) := (bT_dec).1 (and_r (and_l hG118)); have hP121 : ¬ ((r82.2 ≠ (0 : Int)) ∨ ((rdC x24 w28 ((w29 + (andI at_3 (7 : Int))))) ≠ (0 : Int))) := nP ((bT_or bT_dec bT_dec)) (and_r hG118); VJ_P (P_move rfl)) ?_
                      refine RJ_mbGF rfl rfl rfl (fun hG122 => have hP123 : ¬ (r85 ≠ w30) := nP (bT_dec) (and_l (and_l hG122)); have hP124 : ((andI at_3 (7 : Int)) < w30) := (bT_dec).1 (and_r (and_l hG122)); have hP125 : ¬ ((r82.2 ≠ (0 : Int)) ∨ ((rdC x24 w28 ((w29 + (andI at_3 (7 : Int))))) ≠ (0 : Int))) := nP ((bT_or bT_dec bT_dec)) (and_r hG122); VJ_P (P_move rfl)) ?_
                      refine RJ_mbGF rfl rfl rfl (fun hG126 => have hP127 : ¬ (r85 ≠ w30) := nP (bT_dec) (and_l (and_l hG126)); have hP128 : ((andI at_3 (7 : Int)) < w30) := (bT_dec).1 (and_r (and_l hG126)); have hP129 : ¬ ((r82.2 ≠ (0 : Int)) ∨ ((rdC x24 w28 ((w29 + (andI at_3 (7 : Int))))) ≠ (0 : Int))) := nP ((bT_or bT_dec bT_dec)) (and_r hG126); VJ_P (P_ne_u64 (a := r82.1) (b := (rdV x24 w28 ((w29 + (andI at_3 (7 : Int)))))) (mbx hG126 rfl) (mbx hG126 rfl))) ?_
                      refine RJ_mbGT rfl rfl rfl (fun hG130 => have hP131 : ¬ (r85 ≠ w30) := nP (bT_dec) (and_l hG130); have hP132 : ((andI at_3 (7 : Int)) < w30) := (bT_dec).1 (and_r hG130); VJ_P (P_pickOr (mbx hG130 rfl) rfl (fun hh => mbx (and_i hG130 (not_f hh)) rfl))) ?_
                      refine RJ_mbF rfl rfl rfl (fun hG133 => have hP134 : ¬ (r85 ≠ w30) := nP (bT_dec) hG133; VJ_P (P_pickAnd (mbx hG133 rfl) (fun hh => mbx (and_i hG133 hh) rfl) rfl)) ?_
                      refine RJ_op rfl (OJ_P (P_pickOr rfl rfl (fun hh => mbx (not_f hh) rfl)) rfl ?_)
                      refine RJ_op rfl (OJ_P (P_move rfl) rfl ?_)
                      refine RJ_splitP 164 rfl (bT_or bT_dec (bT_and bT_dec (bT_or (bT_or bT_dec bT_dec) bT_dec))) (fun hg18B hg18 => ?_) (fun hg18B hg18 => ?_)
                      ·
                        replace h := ite_t hg18 h
                        refine RJ_gn (GY_no rfl rfl rfl hg18B) rfl rfl ?_
                        refine RJ_gn (GY_no rfl rfl rfl hg18B) rfl rfl ?_
                        refine RJ_gn (GY_no rfl rfl rfl hg18B) rfl rfl ?_
                        refine RJ_gn (GY_no rfl rfl rfl hg18B) rfl rfl ?_
                        refine RJ_gn (GY_undef rfl rfl rfl) rfl rfl ?_
                        refine RJ_gn (GY_undef rfl rfl rfl) rfl rfl ?_
                        refine RJ_gn (GY_undef rfl rfl rfl) rfl rfl ?_
                        refine RJ_gn (GY_undef rfl rfl rfl) rfl rfl ?_
                        refine RJ_gn (GY_undef rfl rfl rfl) rfl rfl ?_
                        refine RJ_gn (GY_undef rfl rfl rfl) rfl rfl ?_
                        refine RJ_gn (GY_undef rfl rfl rfl) rfl rfl ?_
                        refine RJ_gn (GY_undef rfl rfl rfl) rfl rfl ?_
                        refine RJ_gn (GY_no rfl rfl rfl hg18B) rfl rfl ?_
                        refine RJ_op rfl (OJ_P (P_pickT rfl hg18B rfl) rfl ?_)
                        refine RJ_nil ?_
                        refine QJ_then ?_
                        refine CJ_condT rfl rfl ?_
                        refine CJ_seq ?_
                        refine CJ_region ?_
                        refine RJ_op rfl (OJ_P (P_assign rfl) rfl ?_)
                        refine RJ_nil ?_
                        refine QJ_then ?_
                        refine CJ_ret ?_
                        refine QJ_then_ret ?_
                        refine QJ_block_ret ?_
                        refine QJ_then_ret ?_
                        refine QJ_round_ret ?_
                        refine QJ_block_ret ?_
                        refine QJ_then_ret ?_
                        have hE := Option.some.inj h
                        replace hE := seq_inr hK19 hE.symm
                        subst hE
                        refine QJ_end (res1 Try.results6 rfl) ?_
                        refine CSpec.close () ?_ ?_ (Ent.drop (Ent.drop (Ent.drop (Ent.drop (Ent.drop (Ent.drop Ent.refl))))))
                        · rfl
                        · trivial
                      ·
                        replace h := ite_f hg18 h
                        refine RJ_gy (GY_yes rfl rfl rfl hg18B) (OJ_P (P_move rfl) rfl ?_)
                        refine RJ_gy (GY_yes rfl rfl rfl hg18B) (OJ_P (P_move rfl) rfl ?_)
                        refine RJ_gy (GY_yes rfl rfl rfl hg18B) (OJ_P (P_geq (a := (andI at_3 (7 : Int))) (b := w30) rfl rfl) rfl ?_)
                        refine RJ_gy (GY_yes rfl rfl rfl hg18B) (OJ_P (P_move rfl) rfl ?_)
                        refine RJ_splitP 168 rfl bT_dec (fun hg19B hg19 => ?_) (fun hg19B hg19 => ?_)
                        ·
                          replace h := ite_t hg19 h
                          refine RJ_gy (GY_yes rfl rfl rfl hg19B) (OJ_P (P_move rfl) rfl ?_)
                          refine RJ_gy (GY_yes rfl rfl rfl hg19B) (OJ_P (P_neq (a := r82.2) (b := (1 : Int)) rfl rfl) rfl ?_)
                          refine RJ_gy (GY_yes rfl rfl rfl hg19B) (OJ_P (P_move rfl) rfl ?_)
                          refine RJ_splitP 171 rfl bT_dec (fun hg20B hg20 => ?_) (fun hg20B hg20 => ?_)
                          ·
                            replace h := ite_t hg20 h
                            refine RJ_gn (GY_no rfl rfl rfl hg20B) rfl rfl ?_
                            refine RJ_gn (GY_no rfl rfl rfl hg20B) rfl rfl ?_
                            refine RJ_gn (GY_no rfl rfl rfl hg20B) rfl rfl ?_
                            refine RJ_gn (GY_no rfl rfl rfl hg20B) rfl rfl ?_
                            refine RJ_gy (GY_yes rfl rfl rfl hg19B) (OJ_P (P_pickT rfl hg20B rfl) rfl ?_)
                            refine RJ_gy (GY_yes rfl rfl rfl hg18B) (OJ_P (P_pickT rfl hg19B rfl) rfl ?_)
                            refine RJ_op rfl (OJ_P (P_pickF rfl hg18B rfl) rfl ?_)
                            refine RJ_nil ?_
                            refine QJ_then ?_
                            refine CJ_condT rfl rfl ?_
                            refine CJ_seq ?_
                            refine CJ_region ?_
                            refine RJ_op rfl (OJ_P (P_assign rfl) rfl ?_)
                            refine RJ_nil ?_
                            refine QJ_then ?_
                            refine CJ_ret ?_
                            refine QJ_then_ret ?_
                            refine QJ_block_ret ?_
                            refine QJ_then_ret ?_
                            refine QJ_round_ret ?_
                            refine QJ_block_ret ?_
                            refine QJ_then_ret ?_
                            have hE := Option.some.inj h
                            replace hE := seq_inr hK19 hE.symm
                            subst hE
                            refine QJ_end (res1 Try.results6 rfl) ?_
                            refine CSpec.close () ?_ ?_ (Ent.drop (Ent.drop (Ent.drop (Ent.drop (Ent.drop (Ent.drop Ent.refl))))))
                            · rfl
                            · trivial
                          ·
                            replace h := ite_f hg20 h
                            refine RJ_gy (GY_yes rfl rfl rfl hg20B) (OJ_P (P_move rfl) rfl ?_)
                            refine RJ_gy (GY_yes rfl rfl rfl hg20B) (OJ_P (P_move rfl) rfl ?_)
                            refine RJ_pure (fun h hh => DevP_dep h (stars_perm (del0 (A := DevP X13 o52 X33)).out h hh)) (fun hdp135 => ?_)
                            obtain ⟨r136, hr137, h⟩ := bind_e h
                            refine RJ_gy (GY_yes rfl rfl rfl hg20B) (O_callI rfl (dev_Write hr137 hdp135) rfl (Dels.cons del0 (Dels.cons del0 Dels.nil)) rfl (fun _ _ => ?_))
                            refine RJ_gy (GY_yes rfl rfl rfl hg20B) (OJ_P (P_neq (a := r136.1) (b := (1 : Int)) rfl rfl) rfl ?_)
                            refine RJ_gy (GY_yes rfl rfl rfl hg19B) (OJ_P (P_pickF rfl hg20B rfl) rfl ?_)
                            refine RJ_gy (GY_yes rfl rfl rfl hg18B) (OJ_P (P_pickT rfl hg19B rfl) rfl ?_)
                            refine RJ_op rfl (OJ_P (P_pickF rfl hg18B rfl) rfl ?_)
                            refine RJ_nil ?_
                            refine QJ_then ?_
                            refine CJ_condP rfl bT_dec (fun hg21 => ?_) (fun hg21 => ?_)
                            ·
                              replace h := ite_t hg21 h
                              refine CJ_seq ?_
                              refine CJ_region ?_
                              refine RJ_op rfl (OJ_P (P_assign rfl) rfl ?_)
                              refine RJ_nil ?_
                              refine QJ_then ?_
                              refine CJ_ret ?_
                              refine QJ_then_ret ?_
                              refine QJ_block_ret ?_
                              refine QJ_then_ret ?_
                              refine QJ_round_ret ?_
                              refine QJ_block_ret ?_
                              refine QJ_then_ret ?_
                              have hE := Option.some.inj h
                              replace hE := seq_inr hK19 hE.symm
                              subst hE
                              refine QJ_end (res1 Try.results6 rfl) ?_
                              refine CSpec.close () ?_ ?_ (Ent.drop (Ent.drop (Ent.drop (Ent.drop (Ent.drop (Ent.drop Ent.refl))))))
                              · rfl
                              · trivial
                            ·
                              replace h := ite_f hg21 h
                              refine CJ_skip ?_
                              refine QJ_then ?_
                              refine CJ_seq ?_
                              refine CJ_region ?_
                              refine RJ_op rfl (OJ_P (P_move rfl) rfl ?_)
                              refine RJ_op rfl (OJ_P (P_move rfl) rfl ?_)
                              refine RJ_op rfl (OJ_P (P_move rfl) rfl ?_)
                              obtain ⟨r138, hr139, h⟩ := bind_e h
                              refine RJ_op rfl (O_call (L_block_Window hr139) rfl Try.call18 (Dels.cons del0 (Dels.cons del0 Dels.nil)) rfl (fun X140 _ => ?_))
                              refine RJ_op rfl (OJ_P (P_move rfl) rfl ?_)
                              refine RJ_op rfl (OJ_P (P_extract rfl rfl) rfl ?_)
                              refine RJ_op rfl (OJ_P (P_extract rfl rfl) rfl ?_)
                              refine RJ_op rfl (OJ_P (P_assign rfl) rfl ?_)
                              refine RJ_op rfl (OJ_P (P_assign rfl) rfl ?_)
                              refine RJ_nil ?_
                              refine QJ_then ?_
                              refine CJ_seq ?_
                              refine CJ_region ?_
                              refine RJ_op rfl (OJ_P (P_move rfl) rfl ?_)
                              refine RJ_op rfl (OJ_P (P_geq (a := at_3) (b := (0 : Int)) rfl rfl) rfl ?_)
                              refine RJ_op rfl (OJ_P (P_move rfl) rfl ?_)
                              refine RJ_splitP 188 rfl bT_dec (fun hg22B hg22 => ?_) (fun hg22B hg22 => ?_)
                              ·
                                replace h := ite_t hg22 h
                                refine RJ_gy (GY_yes rfl rfl rfl hg22B) (OJ_P (P_move rfl) rfl ?_)
                                refine RJ_gy (GY_yes rfl rfl rfl hg22B) (OJ_P (P_move rfl) rfl ?_)
                                refine RJ_pure (fun h hh => DevP_dep h (stars_perm (del0 (A := DevP X13 o52 X33)).out h hh)) (fun hdp142 => ?_)
                                obtain ⟨r143, hr144, h⟩ := bind_e h
                                refine RJ_gy (GY_yes rfl rfl rfl hg22B) (O_callI rfl (dev_Size hr144 hdp142) rfl (Dels.cons del0 (Dels.cons del0 Dels.nil)) rfl (fun _ _ => ?_))
                                refine RJ_gy (GY_yes rfl rfl rfl hg22B) (OJ_P (P_leq (a := at_3) (b := r143) rfl rfl) rfl ?_)
                                refine RJ_op rfl (OJ_P (P_pickT rfl hg22B rfl) rfl ?_)
                                refine RJ_op rfl (OJ_P (P_move rfl) rfl ?_)
                                refine RJ_splitP 194 rfl bT_dec (fun hg23B hg23 => ?_) (fun hg23B hg23 => ?_)
                                ·
                                  replace h := ite_t hg23 h
                                  refine RJ_gy (GY_yes rfl rfl rfl hg23B) (OJ_P (P_move rfl) rfl ?_)
                                  refine RJ_gy (GY_yes rfl rfl rfl hg23B) (OJ_P (P_move rfl) rfl ?_)
                                  refine RJ_pure (fun h hh => DevP_dep h (stars_perm (del0 (A := DevP X13 o52 X33)).out h hh)) (fun hdp145 => ?_)
                                  obtain ⟨r146, hr147, h⟩ := bind_e h
                                  refine RJ_gy (GY_yes rfl rfl rfl hg23B) (O_callI rfl (dev_Size hr147 hdp145) rfl (Dels.cons del0 (Dels.cons del0 Dels.nil)) rfl (fun _ _ => ?_))
                                  refine RJ_gy (GY_yes rfl rfl rfl hg23B) (OJ_P (P_move rfl) rfl ?_)
                                  obtain ⟨hg24, h⟩ := grd_Ie h
                                  refine RJ_gy (GY_yes rfl rfl rfl hg23B) (OJ_P (P_sub (a := r146) (b := at_3) rfl rfl hg24) rfl ?_)
                                  refine RJ_gy (GY_yes rfl rfl rfl hg23B) (OJ_P (P_leq (a := w30) (b := (r146 - at_3)) rfl rfl) rfl ?_)
                                  refine RJ_op rfl (OJ_P (P_pickT rfl hg23B rfl) rfl ?_)
                                  refine RJ_op rfl (OJ_P (P_assign rfl) rfl ?_)
                                  refine RJ_nil ?_
                                  refine QJ_then ?_
                                  refine CJ_seq ?_
                                  refine CJ_region ?_
                                  refine RJ_op rfl (OJ_P (P_move rfl) rfl ?_)
                                  refine RJ_op rfl (OJ_P (P_eql (a := r138.2) (b := (0 : Int)) rfl rfl) rfl ?_)
                                  refine RJ_op rfl (OJ_P (P_move rfl) rfl ?_)
                                  refine RJ_op rfl (OJ_P (P_neqB rfl rfl Try.underlying4) rfl ?_)
                                  refine RJ_op rfl (OJ_P (P_move rfl) rfl ?_)
                                  refine RJ_mbF rfl rfl rfl (fun hG148 => have hP149 : ¬ (¬ ((r138.2 = (0 : Int)) ↔ (w30 ≤ (r146 - at_3)))) := nP ((bT_not (bT_beq bT_dec bT_dec))) hG148; VJ_P (P_move rfl)) ?_
                                  refine RJ_splitP 206 rfl (bT_not (bT_beq bT_dec bT_dec)) (fun hg25B hg25 => ?_) (fun hg25B hg25 => ?_)
                                  ·
                                    replace h := ite_t hg25 h
                                    refine RJ_gn (GY_no rfl rfl rfl hg25B) rfl rfl ?_
                                    refine RJ_gn (GY_no rfl rfl rfl hg25B) rfl rfl ?_
                                    refine RJ_gn (GY_no rfl rfl rfl hg25B) rfl rfl ?_
                                    refine RJ_op rfl (OJ_P (P_pickT rfl hg25B rfl) rfl ?_)
                                    refine RJ_nil ?_
                                    refine QJ_then ?_
                                    refine CJ_condT rfl rfl ?_
                                    refine CJ_seq ?_
                                    refine CJ_region ?_
                                    refine RJ_op rfl (OJ_P (P_assign rfl) rfl ?_)
                                    refine RJ_nil ?_
                                    refine QJ_then ?_
                                    refine CJ_ret ?_
                                    refine QJ_block_ret ?_
                                    refine QJ_then_ret ?_
                                    refine QJ_round_ret ?_
                                    refine QJ_block_ret ?_
                                    refine QJ_then_ret ?_
                                    have hE := Option.some.inj h
                                    replace hE := seq_inr hK19 hE.symm
                                    subst hE
                                    refine QJ_end (res1 Try.results6 rfl) ?_
                                    refine CSpec.close () ?_ ?_ (Ent.drop (Ent.drop (Ent.drop (Ent.drop (Ent.drop (Ent.drop (Ent.drop Ent.refl)))))))
                                    · rfl
                                    · trivial
                                  ·
                                    replace h := ite_f hg25 h
                                    rcases opt_e h with ⟨ht152, h⟩ | ⟨o153, ht152, h⟩
                                    ·
                                      rw [ht152]
                                      refine RJ_ent (Ent.take del0 (Ent.take del0 (Ent.take del1 (Ent.take del1 (Ent.take del1 (Ent.take del1 (Ent.drop Ent.refl))))))) ?_
                                      refine RJ_gy (GY_yes rfl rfl rfl hg25B) (OJ_P (P_neqIN (mbx (not_f hg25B) rfl) Try.underlying31) rfl ?_)
                                      refine RJ_gy (GY_yes rfl rfl rfl hg25B) (OJ_P (P_move rfl) rfl ?_)
                                      refine RJ_gy (GY_yes rfl rfl rfl hg25B) (OJ_P (P_neqB rfl rfl Try.underlying4) rfl ?_)
                                      refine RJ_op rfl (OJ_P (P_pickF rfl hg25B rfl) rfl ?_)
                                      refine RJ_nil ?_
                                      refine QJ_then ?_
                                      refine CJ_condP rfl (bT_not (bT_beq Iff.rfl bT_dec)) (fun hg26 => ?_) (fun hg26 => ?_)
                                      ·
                                        replace h := ite_t hg26 h
                                        refine CJ_seq ?_
                                        refine CJ_region ?_
                                        refine RJ_op rfl (OJ_P (P_assign rfl) rfl ?_)
                                        refine RJ_nil ?_
                                        refine QJ_then ?_
                                        refine CJ_ret ?_
                                        refine QJ_block_ret ?_
                                        refine QJ_then_ret ?_
                                        refine QJ_round_ret ?_
                                        refine QJ_block_ret ?_
                                        refine QJ_then_ret ?_
                                        have hE := Option.some.inj h
                                        replace hE := seq_inr hK19 hE.symm
                                        subst hE
                                        refine QJ_end (res1 Try.results6 rfl) ?_
                                        refine CSpec.close () ?_ ?_ (Ent.drop (Ent.drop (Ent.drop (Ent.drop (Ent.drop (Ent.drop Ent.refl))))))
                                        · rfl
                                        · trivial
                                      ·
                                        replace h := ite_f hg26 h
                                        refine CJ_skip ?_
                                        refine QJ_block_normal ?_
                                        refine QJ_then ?_
                                        refine CJ_region ?_
                                        refine RJ_op rfl (OJ_P (P_move rfl) rfl ?_)
                                        obtain ⟨hg27, h⟩ := grd_Ne h
                                        refine RJ_op rfl (OJ_P (PJ_eq (P_add (a := ((x25 : Nat) : Int)) (b := (1 : Int)) rfl rfl (nat_in hg27)) rfl) rfl ?_)
                                        refine RJ_op rfl (OJ_P (P_assign rfl) rfl ?_)
                                        refine RJ_nil ?_
                                        refine QJ_nextR ⟨n, r136.2, (x25 + 1), w30⟩ (Nat.lt_succ_self _) ?_ (by repeat (first | exact Kp.base | exact Kp.self | refine Kp.cons rfl ?_ | refine Kp.forget rfl ?_)) ?_ (Ent.take del1 (Ent.take del1 (Ent.take del1 (Ent.take del1 (Ent.take del1 (Ent.drop Ent.refl))))))
                                        · exact h
                                        · exact ⟨rfl, rfl, True.intro⟩
                                    ·
                                      rw [ht152]
                                      refine RJ_ent (Ent.takeC (A' := DevP X13 o153 X140) del2 rfl Ent.refl) ?_
                                      refine RJ_gy (GY_yes rfl rfl rfl hg25B) (OJ_P (P_neqIfN (mbx (not_f hg25B) rfl) rfl Try.underlying31) rfl ?_)
                                      refine RJ_gy (GY_yes rfl rfl rfl hg25B) (OJ_P (P_move rfl) rfl ?_)
                                      refine RJ_gy (GY_yes rfl rfl rfl hg25B) (OJ_P (P_neqB rfl rfl Try.underlying4) rfl ?_)
                                      refine RJ_op rfl (OJ_P (P_pickF rfl hg25B rfl) rfl ?_)
                                      refine RJ_nil ?_
                                      refine QJ_then ?_
                                      refine CJ_condP rfl (bT_not (bT_beq Iff.rfl bT_dec)) (fun hg28 => ?_) (fun hg28 => ?_)
                                      ·
                                        replace h := ite_t hg28 h
                                        refine CJ_seq ?_
                                        refine CJ_region ?_
                                        refine RJ_op rfl (OJ_P (P_assign rfl) rfl ?_)
                                        refine RJ_nil ?_
                                        refine QJ_then ?_
                                        refine CJ_ret ?_
                                        refine QJ_block_ret ?_
                                        refine QJ_then_ret ?_
                                        refine QJ_round_ret ?_
                                        refine QJ_block_ret ?_
                                        refine QJ_then_ret ?_
                                        have hE := Option.some.inj h
                                        replace hE := seq_inr hK19 hE.symm
                                        subst hE
                                        refine QJ_end (res1 Try.results6 rfl) ?_
                                        refine CSpec.close () ?_ ?_ (Ent.drop (Ent.drop (Ent.drop (Ent.drop (Ent.drop (Ent.drop (Ent.drop Ent.refl)))))))
                                        · rfl
                                        · trivial
                                      ·
                                        replace h := ite_f hg28 h
                                        refine CJ_skip ?_
                                        refine QJ_block_normal ?_
                                        refine QJ_then ?_
                                        refine CJ_region ?_
                                        refine RJ_op rfl (OJ_P (P_move rfl) rfl ?_)
                                        obtain ⟨hg29, h⟩ := grd_Ne h
                                        refine RJ_op rfl (OJ_P (PJ_eq (P_add (a := ((x25 : Nat) : Int)) (b := (1 : Int)) rfl rfl (nat_in hg29)) rfl) rfl ?_)
                                        refine RJ_op rfl (OJ_P (P_assign rfl) rfl ?_)
                                        refine RJ_nil ?_
                                        refine QJ_nextR ⟨n, r136.2, (x25 + 1), w30⟩ (Nat.lt_succ_self _) ?_ (by repeat (first | exact Kp.base | exact Kp.self | refine Kp.cons rfl ?_ | refine Kp.forget rfl ?_)) ?_ (Ent.take del2 (Ent.take del2 (Ent.take del2 (Ent.take del2 (Ent.take del2 (Ent.drop (Ent.drop Ent.refl)))))))
                                        · exact h
                                        · exact ⟨rfl, rfl, True.intro⟩
                                ·
                                  replace h := ite_f hg23 h
                                  refine RJ_gn (GY_no rfl rfl rfl hg23B) rfl rfl ?_
                                  refine RJ_gn (GY_no rfl rfl rfl hg23B) rfl rfl ?_
                                  refine RJ_gn (GY_no rfl rfl rfl hg23B) rfl rfl ?_
                                  refine RJ_gn (GY_no rfl rfl rfl hg23B) rfl rfl ?_
                                  refine RJ_gn (GY_no rfl rfl rfl hg23B) rfl rfl ?_
                                  refine RJ_gn (GY_no rfl rfl rfl hg23B) rfl rfl ?_
                                  refine RJ_op rfl (OJ_P (P_pickF rfl hg23B rfl) rfl ?_)
                                  refine RJ_op rfl (OJ_P (P_assign rfl) rfl ?_)
                                  refine RJ_nil ?_
                                  refine QJ_then ?_
                                  refine CJ_seq ?_
                                  refine CJ_region ?_
                                  refine RJ_op rfl (OJ_P (P_move rfl) rfl ?_)
                                  refine RJ_op rfl (OJ_P (P_eql (a := r138.2) (b := (0 : Int)) rfl rfl) rfl ?_)
                                  refine RJ_op rfl (OJ_P (P_move rfl) rfl ?_)
                                  refine RJ_op rfl (OJ_P (P_neqB rfl rfl Try.underlying4) rfl ?_)
                                  refine RJ_op rfl (OJ_P (P_move rfl) rfl ?_)
                                  refine RJ_mbF rfl rfl rfl (fun hG154 => have hP155 : ¬ (¬ ((r138.2 = (0 : Int)) ↔ false = true)) := nP ((bT_not (bT_beq bT_dec Iff.rfl))) hG154; VJ_P (P_move rfl)) ?_
                                  refine RJ_splitP 206 rfl (bT_not (bT_beq bT_dec Iff.rfl)) (fun hg30B hg30 => ?_) (fun hg30B hg30 => ?_)
                                  ·
                                    replace h := ite_t hg30 h
                                    refine RJ_gn (GY_no rfl rfl rfl hg30B) rfl rfl ?_
                                    refine RJ_gn (GY_no rfl rfl rfl hg30B) rfl rfl ?_
                                    refine RJ_gn (GY_no rfl rfl rfl hg30B) rfl rfl ?_
                                    refine RJ_op rfl (OJ_P (P_pickT rfl hg30B rfl) rfl ?_)
                                    refine RJ_nil ?_
                                    refine QJ_then ?_
                                    refine CJ_condT rfl rfl ?_
                                    refine CJ_seq ?_
                                    refine CJ_region ?_
                                    refine RJ_op rfl (OJ_P (P_assign rfl) rfl ?_)
                                    refine RJ_nil ?_
                                    refine QJ_then ?_
                                    refine CJ_ret ?_
                                    refine QJ_block_ret ?_
                                    refine QJ_then_ret ?_
                                    refine QJ_round_ret ?_
                                    refine QJ_block_ret ?_
                                    refine QJ_then_ret ?_
                                    have hE := Option.some.inj h
                                    replace hE := seq_inr hK19 hE.symm
                                    subst hE
                                    refine QJ_end (res1 Try.results6 rfl) ?_
                                    refine CSpec.close () ?_ ?_ (Ent.drop (Ent.drop (Ent.drop (Ent.drop (Ent.drop (Ent.drop (Ent.drop Ent.refl)))))))
                                    · rfl
                                    · trivial
                                  ·
                                    replace h := ite_f hg30 h
                                    rcases opt_e h with ⟨ht158, h⟩ | ⟨o159, ht158, h⟩
                                    ·
                                      rw [ht158]
                                      refine RJ_ent (Ent.take del0 (Ent.take del0 (Ent.take del1 (Ent.take del1 (Ent.take del1 (Ent.take del1 (Ent.drop Ent.refl))))))) ?_
                                      refine RJ_gy (GY_yes rfl rfl rfl hg30B) (OJ_P (P_neqIN (mbx (not_f hg30B) rfl) Try.underlying31) rfl ?_)
                                      refine RJ_gy (GY_yes rfl rfl rfl hg30B) (OJ_P (P_move rfl) rfl ?_)
                                      refine RJ_gy (GY_yes rfl rfl rfl hg30B) (OJ_P (P_neqB rfl rfl Try.underlying4) rfl ?_)
                                      refine RJ_op rfl (OJ_P (P_pickF rfl hg30B rfl) rfl ?_)
                                      refine RJ_nil ?_
                                      refine QJ_then ?_
                                      refine CJ_condP rfl (bT_not (bT_beq Iff.rfl Iff.rfl)) (fun hg31 => ?_) (fun hg31 => ?_)
                                      ·
                                        replace h := ite_t hg31 h
                                        refine CJ_seq ?_
                                        refine CJ_region ?_
                                        refine RJ_op rfl (OJ_P (P_assign rfl) rfl ?_)
                                        refine RJ_nil ?_
                                        refine QJ_then ?_
                                        refine CJ_ret ?_
                                        refine QJ_block_ret ?_
                                        refine QJ_then_ret ?_
                                        refine QJ_round_ret ?_
                                        refine QJ_block_ret ?_
                                        refine QJ_then_ret ?_
                                        have hE := Option.some.inj h
                                        replace hE := seq_inr hK19 hE.symm
                                        subst hE
                                        refine QJ_end (res1 Try.results6 rfl) ?_
                                        refine CSpec.close () ?_ ?_ (Ent.drop (Ent.drop (Ent.drop (Ent.drop (Ent.drop (Ent.drop Ent.refl))))))
                                        · rfl
                                        · trivial
                                      ·
                                        replace h := ite_f hg31 h
                                        refine CJ_skip ?_
                                        refine QJ_block_normal ?_
                                        refine QJ_then ?_
                                        refine CJ_region ?_
                                        refine RJ_op rfl (OJ_P (P_move rfl) rfl ?_)
                                        obtain ⟨hg32, h⟩ := grd_Ne h
                                        refine RJ_op rfl (OJ_P (PJ_eq (P_add (a := ((x25 : Nat) : Int)) (b := (1 : Int)) rfl rfl (nat_in hg32)) rfl) rfl ?_)
                                        refine RJ_op rfl (OJ_P (P_assign rfl) rfl ?_)
                                        refine RJ_nil ?_
                                        refine QJ_nextR ⟨n, r136.2, (x25 + 1), w30⟩ (Nat.lt_succ_self _) ?_ (by repeat (first | exact Kp.base | exact Kp.self | refine Kp.cons rfl ?_ | refine Kp.forget rfl ?_)) ?_ (Ent.take del1 (Ent.take del1 (Ent.take del1 (Ent.take del1 (Ent.take del1 (Ent.drop Ent.refl))))))
                                        · exact h
                                        · exact ⟨rfl, rfl, True.intro⟩
                                    ·
                                      rw [ht158]
                                      refine RJ_ent (Ent.takeC (A' := DevP X13 o159 X140) del2 rfl Ent.refl) ?_
                                      refine RJ_gy (GY_yes rfl rfl rfl hg30B) (OJ_P (P_neqIfN (mbx (not_f hg30B) rfl) rfl Try.underlying31) rfl ?_)
                                      refine RJ_gy (GY_yes rfl rfl rfl hg30B) (OJ_P (P_move rfl) rfl ?_)
                                      refine RJ_gy (GY_yes rfl rfl rfl hg30B) (OJ_P (P_neqB rfl rfl Try.underlying4) rfl ?_)
                                      refine RJ_op rfl (OJ_P (P_pickF rfl hg30B rfl) rfl ?_)
                                      refine RJ_nil ?_
                                      refine QJ_then ?_
                                      refine CJ_condP rfl (bT_not (bT_beq Iff.rfl Iff.rfl)) (fun hg33 => ?_) (fun hg33 => ?_)
                                      ·
                                        replace h := ite_t hg33 h
                                        refine CJ_seq ?_
                                        refine CJ_region ?_
                                        refine RJ_op rfl (OJ_P (P_assign rfl) rfl ?_)
                                        refine RJ_nil ?_
                                        refine QJ_then ?_
                                        refine CJ_ret ?_
                                        refine QJ_block_ret ?_
                                        refine QJ_then_ret ?_
                                        refine QJ_round_ret ?_
                                        refine QJ_block_ret ?_
                                        refine QJ_then_ret ?_
                                        have hE := Option.some.inj h
                                        replace hE := seq_inr hK19 hE.symm
                                        subst hE
                                        refine QJ_end (res1 Try.results6 rfl) ?_
                                        refine CSpec.close () ?_ ?_ (Ent.drop (Ent.drop (Ent.drop (Ent.drop (Ent.drop (Ent.drop (Ent.drop Ent.refl)))))))
                                        · rfl
                                        · trivial
                                      ·
                                        replace h := ite_f hg33 h
                                        refine CJ_skip ?_
                                        refine QJ_block_normal ?_
                                        refine QJ_then ?_
                                        refine CJ_region ?_
                                        refine RJ_op rfl (OJ_P (P_move rfl) rfl ?_)
                                        obtain ⟨hg34, h⟩ := grd_Ne h
                                        refine RJ_op rfl (OJ_P (PJ_eq (P_add (a := ((x25 : Nat) : Int)) (b := (1 : Int)) rfl rfl (nat_in hg34)) rfl) rfl ?_)
                                        refine RJ_op rfl (OJ_P (P_assign rfl) rfl ?_)
                                        refine RJ_nil ?_
                                        refine QJ_nextR ⟨n, r136.2, (x25 + 1), w30⟩ (Nat.lt_succ_self _) ?_ (by repeat (first | exact Kp.base | exact Kp.self | refine Kp.cons rfl ?_ | refine Kp.forget rfl ?_)) ?_ (Ent.take del2 (Ent.take del2 (Ent.take del2 (Ent.take del2 (Ent.take del2 (Ent.drop (Ent.drop Ent.refl)))))))
                                        · exact h
                                        · exact ⟨rfl, rfl, True.intro⟩
                              ·
                                replace h := ite_f hg22 h
                                refine RJ_gn (GY_no rfl rfl rfl hg22B) rfl rfl ?_
                                refine RJ_gn (GY_no rfl rfl rfl hg22B) rfl rfl ?_
                                refine RJ_gn (GY_no rfl rfl rfl hg22B) rfl rfl ?_
                                refine RJ_gn (GY_no rfl rfl rfl hg22B) rfl rfl ?_
                                refine RJ_op rfl (OJ_P (P_pickF rfl hg22B rfl) rfl ?_)
                                refine RJ_op rfl (OJ_P (P_move rfl) rfl ?_)
                                refine RJ_gn (GY_no rfl rfl rfl rfl) rfl rfl ?_
                                refine RJ_gn (GY_no rfl rfl rfl rfl) rfl rfl ?_
                                refine RJ_gn (GY_no rfl rfl rfl rfl) rfl rfl ?_
                                refine RJ_gn (GY_no rfl rfl rfl rfl) rfl rfl ?_
                                refine RJ_gn (GY_no rfl rfl rfl rfl) rfl rfl ?_
                                refine RJ_gn (GY_no rfl rfl rfl rfl) rfl rfl ?_
                                refine RJ_op rfl (OJ_P (P_pickF rfl rfl rfl) rfl ?_)
                                refine RJ_op rfl (OJ_P (P_assign rfl) rfl ?_)
                                refine RJ_nil ?_
                                refine QJ_then ?_
                                refine CJ_seq ?_
                                refine CJ_region ?_
                                refine RJ_op rfl (OJ_P (P_move rfl) rfl ?_)
                                refine RJ_op rfl (OJ_P (P_eql (a := r138.2) (b := (0 : Int)) rfl rfl) rfl ?_)
                                refine RJ_op rfl (OJ_P (P_move rfl) rfl ?_)
                                refine RJ_op rfl (OJ_P (P_neqB rfl rfl Try.underlying4) rfl ?_)
                                refine RJ_op rfl (OJ_P (P_move rfl) rfl ?_)
                                refine RJ_mbF rfl rfl rfl (fun hG160 => have hP161 : ¬ (¬ ((r138.2 = (0 : Int)) ↔ false = true)) := nP ((bT_not (bT_beq bT_dec Iff.rfl))) hG160; VJ_P (P_move rfl)) ?_
                                refine RJ_splitP 206 rfl (bT_not (bT_beq bT_dec Iff.rfl)) (fun hg35B hg35 => ?_) (fun hg35B hg35 => ?_)
                                ·
                                  replace h := ite_t hg35 h
                                  refine RJ_gn (GY_no rfl rfl rfl hg35B) rfl rfl ?_
                                  refine RJ_gn (GY_no rfl rfl rfl hg35B) rfl rfl ?_
                                  refine RJ_gn (GY_no rfl rfl rfl hg35B) rfl rfl ?_
                                  refine RJ_op rfl (OJ_P (P_pickT rfl hg35B rfl) rfl ?_)
                                  refine RJ_nil ?_
                                  refine QJ_then ?_
                                  refine CJ_condT rfl rfl ?_
                                  refine CJ_seq ?_
                                  refine CJ_region ?_
                                  refine RJ_op rfl (OJ_P (P_assign rfl) rfl ?_)
                                  refine RJ_nil ?_
                                  refine QJ_then ?_
                                  refine CJ_ret ?_
                                  refine QJ_block_ret ?_
                                  refine QJ_then_ret ?_
                                  refine QJ_round_ret ?_
                                  refine QJ_block_ret ?_
                                  refine QJ_then_ret ?_
                                  have hE := Option.some.inj h
                                  replace hE := seq_inr hK19 hE.symm
                                  subst hE
                                  refine QJ_end (res1 Try.results6 rfl) ?_
                                  refine CSpec.close () ?_ ?_ (Ent.drop (Ent.drop (Ent.drop (Ent.drop (Ent.drop (Ent.drop (Ent.drop Ent.refl)))))))
                                  · rfl
                                  · trivial
                                ·
                                  replace h := ite_f hg35 h
                                  rcases opt_e h with ⟨ht164, h⟩ | ⟨o165, ht164, h⟩
                                  ·
                                    rw [ht164]
                                    refine RJ_ent (Ent.take del0 (Ent.take del0 (Ent.take del1 (Ent.take del1 (Ent.take del1 (Ent.take del1 (Ent.drop Ent.refl))))))) ?_
                                    refine RJ_gy (GY_yes rfl rfl rfl hg35B) (OJ_P (P_neqIN (mbx (not_f hg35B) rfl) Try.underlying31) rfl ?_)
                                    refine RJ_gy (GY_yes rfl rfl rfl hg35B) (OJ_P (P_move rfl) rfl ?_)
                                    refine RJ_gy (GY_yes rfl rfl rfl hg35B) (OJ_P (P_neqB rfl rfl Try.underlying4) rfl ?_)
                                    refine RJ_op rfl (OJ_P (P_pickF rfl hg35B rfl) rfl ?_)
                                    refine RJ_nil ?_
                                    refine QJ_then ?_
                                    refine CJ_condP rfl (bT_not (bT_beq Iff.rfl Iff.rfl)) (fun hg36 => ?_) (fun hg36 => ?_)
                                    ·
                                      replace h := ite_t hg36 h
                                      refine CJ_seq ?_
                                      refine CJ_region ?_
                                      refine RJ_op rfl (OJ_P (P_assign rfl) rfl ?_)
                                      refine RJ_nil ?_
                                      refine QJ_then ?_
                                      refine CJ_ret ?_
                                      refine QJ_block_ret ?_
                                      refine QJ_then_ret ?_
                                      refine QJ_round_ret ?_
                                      refine QJ_block_ret ?_
                                      refine QJ_then_ret ?_
                                      have hE := Option.some.inj h
                                      replace hE := seq_inr hK19 hE.symm
                                      subst hE
                                      refine QJ_end (res1 Try.results6 rfl) ?_
                                      refine CSpec.close () ?_ ?_ (Ent.drop (Ent.drop (Ent.drop (Ent.drop (Ent.drop (Ent.drop Ent.refl))))))
                                      · rfl
                                      · trivial
                                    ·
                                      replace h := ite_f hg36 h
                                      refine CJ_skip ?_
                                      refine QJ_block_normal ?_
                                      refine QJ_then ?_
                                      refine CJ_region ?_
                                      refine RJ_op rfl (OJ_P (P_move rfl) rfl ?_)
                                      obtain ⟨hg37, h⟩ := grd_Ne h
                                      refine RJ_op rfl (OJ_P (PJ_eq (P_add (a := ((x25 : Nat) : Int)) (b := (1 : Int)) rfl rfl (nat_in hg37)) rfl) rfl ?_)
                                      refine RJ_op rfl (OJ_P (P_assign rfl) rfl ?_)
                                      refine RJ_nil ?_
                                      refine QJ_nextR ⟨n, r136.2, (x25 + 1), w30⟩ (Nat.lt_succ_self _) ?_ (by repeat (first | exact Kp.base | exact Kp.self | refine Kp.cons rfl ?_ | refine Kp.forget rfl ?_)) ?_ (Ent.take del1 (Ent.take del1 (Ent.take del1 (Ent.take del1 (Ent.take del1 (Ent.drop Ent.refl))))))
                                      · exact h
                                      · exact ⟨rfl, rfl, True.intro⟩
                                  ·
                                    rw [ht164]
                                    refine RJ_ent (Ent.takeC (A' := DevP X13 o165 X140) del2 rfl Ent.refl) ?_
                                    refine RJ_gy (GY_yes rfl rfl rfl hg35B) (OJ_P (P_neqIfN (mbx (not_f hg35B) rfl) rfl Try.underlying31) rfl ?_)
                                    refine RJ_gy (GY_yes rfl rfl rfl hg35B) (OJ_P (P_move rfl) rfl ?_)
                                    refine RJ_gy (GY_yes rfl rfl rfl hg35B) (OJ_P (P_neqB rfl rfl Try.underlying4) rfl ?_)
                                    refine RJ_op rfl (OJ_P (P_pickF rfl hg35B rfl) rfl ?_)
                                    refine RJ_nil ?_
                                    refine QJ_then ?_
                                    refine CJ_condP rfl (bT_not (bT_beq Iff.rfl Iff.rfl)) (fun hg38 => ?_) (fun hg38 => ?_)
                                    ·
                                      replace h := ite_t hg38 h
                                      refine CJ_seq ?_
                                      refine CJ_region ?_
                                      refine RJ_op rfl (OJ_P (P_assign rfl) rfl ?_)
                                      refine RJ_nil ?_
                                      refine QJ_then ?_
                                      refine CJ_ret ?_
                                      refine QJ_block_ret ?_
                                      refine QJ_then_ret ?_
                                      refine QJ_round_ret ?_
                                      refine QJ_block_ret ?_
                                      refine QJ_then_ret ?_
                                      have hE := Option.some.inj h
                                      replace hE := seq_inr hK19 hE.symm
                                      subst hE
                                      refine QJ_end (res1 Try.results6 rfl) ?_
                                      refine CSpec.close () ?_ ?_ (Ent.drop (Ent.drop (Ent.drop (Ent.drop (Ent.drop (Ent.drop (Ent.drop Ent.refl)))))))
                                      · rfl
                                      · trivial
                                    ·
                                      replace h := ite_f hg38 h
                                      refine CJ_skip ?_
                                      refine QJ_block_normal ?_
                                      refine QJ_then ?_
                                      refine CJ_region ?_
                                      refine RJ_op rfl (OJ_P (P_move rfl) rfl ?_)
                                      obtain ⟨hg39, h⟩ := grd_Ne h
                                      refine RJ_op rfl (OJ_P (PJ_eq (P_add (a := ((x25 : Nat) : Int)) (b := (1 : Int)) rfl rfl (nat_in hg39)) rfl) rfl ?_)
                                      refine RJ_op rfl (OJ_P (P_assign rfl) rfl ?_)
                                      refine RJ_nil ?_
                                      refine QJ_nextR ⟨n, r136.2, (x25 + 1), w30⟩ (Nat.lt_succ_self _) ?_ (by repeat (first | exact Kp.base | exact Kp.self | refine Kp.cons rfl ?_ | refine Kp.forget rfl ?_)) ?_ (Ent.take del2 (Ent.take del2 (Ent.take del2 (Ent.take del2 (Ent.take del2 (Ent.drop (Ent.drop Ent.refl)))))))
                                      · exact h
                                      · exact ⟨rfl, rfl, True.intro⟩
                        ·
                          replace h := ite_f hg19 h
                          refine RJ_gn (GY_no rfl rfl rfl hg19B) rfl rfl ?_
                          refine RJ_gn (GY_no rfl rfl rfl hg19B) rfl rfl ?_
                          refine RJ_gn (GY_no rfl rfl rfl hg19B) rfl rfl ?_
                          refine RJ_gn (GY_undef rfl rfl rfl) rfl rfl ?_
                          refine RJ_gn (GY_undef rfl rfl rfl) rfl rfl ?_
                          refine RJ_gn (GY_undef rfl rfl rfl) rfl rfl ?_
                          refine RJ_gn (GY_undef rfl rfl rfl) rfl rfl ?_
                          refine RJ_gn (GY_no rfl rfl rfl hg19B) rfl rfl ?_
                          refine RJ_gy (GY_yes rfl rfl rfl hg18B) (OJ_P (P_pickF rfl hg19B rfl) rfl ?_)
                          refine RJ_op rfl (OJ_P (P_pickF rfl hg18B rfl) rfl ?_)
                          refine RJ_nil ?_
                          refine QJ_then ?_
                          refine CJ_condF rfl rfl ?_
                          refine CJ_skip ?_
                          refine QJ_then ?_
                          refine CJ_seq ?_
                          refine CJ_region ?_
                          refine RJ_op rfl (OJ_P (P_move rfl) rfl ?_)
                          refine RJ_op rfl (OJ_P (P_move rfl) rfl ?_)
                          refine RJ_op rfl (OJ_P (P_move rfl) rfl ?_)
                          obtain ⟨r166, hr167, h⟩ := bind_e h
                          refine RJ_op rfl (O_call (L_block_Window hr167) rfl Try.call18 (Dels.cons del0 (Dels.cons del0 Dels.nil)) rfl (fun X168 _ => ?_))
                          refine RJ_op rfl (OJ_P (P_move rfl) rfl ?_)
                          refine RJ_op rfl (OJ_P (P_extract rfl rfl) rfl ?_)
                          refine RJ_op rfl (OJ_P (P_extract rfl rfl) rfl ?_)
                          refine RJ_op rfl (OJ_P (P_assign rfl) rfl ?_)
                          refine RJ_op rfl (OJ_P (P_assign rfl) rfl ?_)
                          refine RJ_nil ?_
                          refine QJ_then ?_
                          refine CJ_seq ?_
                          refine CJ_region ?_
                          refine RJ_op rfl (OJ_P (P_move rfl) rfl ?_)
                          refine RJ_op rfl (OJ_P (P_geq (a := at_3) (b := (0 : Int)) rfl rfl) rfl ?_)
                          refine RJ_op rfl (OJ_P (P_move rfl) rfl ?_)
                          refine RJ_splitP 188 rfl bT_dec (fun hg40B hg40 => ?_) (fun hg40B hg40 => ?_)
                          ·
                            replace h := ite_t hg40 h
                            refine RJ_gy (GY_yes rfl rfl rfl hg40B) (OJ_P (P_move rfl) rfl ?_)
                            refine RJ_gy (GY_yes rfl rfl rfl hg40B) (OJ_P (P_move rfl) rfl ?_)
                            refine RJ_pure (fun h hh => DevP_dep h (stars_perm (del0 (A := DevP X13 o52 X33)).out h hh)) (fun hdp170 => ?_)
                            obtain ⟨r171, hr172, h⟩ := bind_e h
                            refine RJ_gy (GY_yes rfl rfl rfl hg40B) (O_callI rfl (dev_Size hr172 hdp170) rfl (Dels.cons del0 (Dels.cons del0 Dels.nil)) rfl (fun _ _ => ?_))
                            refine RJ_gy (GY_yes rfl rfl rfl hg40B) (OJ_P (P_leq (a := at_3) (b := r171) rfl rfl) rfl ?_)
                            refine RJ_op rfl (OJ_P (P_pickT rfl hg40B rfl) rfl ?_)
                            refine RJ_op rfl (OJ_P (P_move rfl) rfl ?_)
                            refine RJ_splitP 194 rfl bT_dec (fun hg41B hg41 => ?_) (fun hg41B hg41 => ?_)
                            ·
                              replace h := ite_t hg41 h
                              refine RJ_gy (GY_yes rfl rfl rfl hg41B) (OJ_P (P_move rfl) rfl ?_)
                              refine RJ_gy (GY_yes rfl rfl rfl hg41B) (OJ_P (P_move rfl) rfl ?_)
                              refine RJ_pure (fun h hh => DevP_dep h (stars_perm (del0 (A := DevP X13 o52 X33)).out h hh)) (fun hdp173 => ?_)
                              obtain ⟨r174, hr175, h⟩ := bind_e h
                              refine RJ_gy (GY_yes rfl rfl rfl hg41B) (O_callI rfl (dev_Size hr175 hdp173) rfl (Dels.cons del0 (Dels.cons del0 Dels.nil)) rfl (fun _ _ => ?_))
                              refine RJ_gy (GY_yes rfl rfl rfl hg41B) (OJ_P (P_move rfl) rfl ?_)
                              obtain ⟨hg42, h⟩ := grd_Ie h
                              refine RJ_gy (GY_yes rfl rfl rfl hg41B) (OJ_P (P_sub (a := r174) (b := at_3) rfl rfl hg42) rfl ?_)
                              refine RJ_gy (GY_yes rfl rfl rfl hg41B) (OJ_P (P_leq (a := w30) (b := (r174 - at_3)) rfl rfl) rfl ?_)
                              refine RJ_op rfl (OJ_P (P_pickT rfl hg41B rfl) rfl ?_)
                              refine RJ_op rfl (OJ_P (P_assign rfl) rfl ?_)
                              refine RJ_nil ?_
                              refine QJ_then ?_
                              refine CJ_seq ?_
                              refine CJ_region ?_
                              refine RJ_op rfl (OJ_P (P_move rfl) rfl ?_)
                              refine RJ_op rfl (OJ_P (P_eql (a := r166.2) (b := (0 : Int)) rfl rfl) rfl ?_)
                              refine RJ_op rfl (OJ_P (P_move rfl) rfl ?_)
                              refine RJ_op rfl (OJ_P (P_neqB rfl rfl Try.underlying4) rfl ?_)
                              refine RJ_op rfl (OJ_P (P_move rfl) rfl ?_)
                              refine RJ_mbF rfl rfl rfl (fun hG176 => have hP177 : ¬ (¬ ((r166.2 = (0 : Int)) ↔ (w30 ≤ (r174 - at_3)))) := nP ((bT_not (bT_beq bT_dec bT_dec))) hG176; VJ_P (P_move rfl)) ?_
                              refine RJ_splitP 206 rfl (bT_not (bT_beq bT_dec bT_dec)) (fun hg43B hg43 => ?_) (fun hg43B hg43 => ?_)
                              ·
                                replace h := ite_t hg43 h
                                refine RJ_gn (GY_no rfl rfl rfl hg43B) rfl rfl ?_
                                refine RJ_gn (GY_no rfl rfl rfl hg43B) rfl rfl ?_
                                refine RJ_gn (GY_no rfl rfl rfl hg43B) rfl rfl ?_
                                refine RJ_op rfl (OJ_P (P_pickT rfl hg43B rfl) rfl ?_)
                                refine RJ_nil ?_
                                refine QJ_then ?_
                                refine CJ_condT rfl rfl ?_
                                refine CJ_seq ?_
                                refine CJ_region ?_
                                refine RJ_op rfl (OJ_P (P_assign rfl) rfl ?_)
                                refine RJ_nil ?_
                                refine QJ_then ?_
                                refine CJ_ret ?_
                                refine QJ_block_ret ?_
                                refine QJ_then_ret ?_
                                refine QJ_round_ret ?_
                                refine QJ_block_ret ?_
                                refine QJ_then_ret ?_
                                have hE := Option.some.inj h
                                replace hE := seq_inr hK19 hE.symm
                                subst hE
                                refine QJ_end (res1 Try.results6 rfl) ?_
                                refine CSpec.close () ?_ ?_ (Ent.drop (Ent.drop (Ent.drop (Ent.drop (Ent.drop (Ent.drop (Ent.drop Ent.refl)))))))
                                · rfl
                                · trivial
                              ·
                                replace h := ite_f hg43 h
                                rcases opt_e h with ⟨ht180, h⟩ | ⟨o181, ht180, h⟩
                                ·
                                  rw [ht180]
                                  refine RJ_ent (Ent.take del0 (Ent.take del0 (Ent.take del1 (Ent.take del1 (Ent.take del1 (Ent.take del1 (Ent.drop Ent.refl))))))) ?_
                                  refine RJ_gy (GY_yes rfl rfl rfl hg43B) (OJ_P (P_neqIN (mbx (not_f hg43B) rfl) Try.underlying31) rfl ?_)
                                  refine RJ_gy (GY_yes rfl rfl rfl hg43B) (OJ_P (P_move rfl) rfl ?_)
                                  refine RJ_gy (GY_yes rfl rfl rfl hg43B) (OJ_P (P_neqB rfl rfl Try.underlying4) rfl ?_)
                                  refine RJ_op rfl (OJ_P (P_pickF rfl hg43B rfl) rfl ?_)
                                  refine RJ_nil ?_
                                  refine QJ_then ?_
                                  refine CJ_condP rfl (bT_not (bT_beq Iff.rfl bT_dec)) (fun hg44 => ?_) (fun hg44 => ?_)
                                  ·
                                    replace h := ite_t hg44 h
                                    refine CJ_seq ?_
                                    refine CJ_region ?_
                                    refine RJ_op rfl (OJ_P (P_assign rfl) rfl ?_)
                                    refine RJ_nil ?_
                                    refine QJ_then ?_
                                    refine CJ_ret ?_
                                    refine QJ_block_ret ?_
                                    refine QJ_then_ret ?_
                                    refine QJ_round_ret ?_
                                    refine QJ_block_ret ?_
                                    refine QJ_then_ret ?_
                                    have hE := Option.some.inj h
                                    replace hE := seq_inr hK19 hE.symm
                                    subst hE
                                    refine QJ_end (res1 Try.results6 rfl) ?_
                                    refine CSpec.close () ?_ ?_ (Ent.drop (Ent.drop (Ent.drop (Ent.drop (Ent.drop (Ent.drop Ent.refl))))))
                                    · rfl
                                    · trivial
                                  ·
                                    replace h := ite_f hg44 h
                                    refine CJ_skip ?_
                                    refine QJ_block_normal ?_
                                    refine QJ_then ?_
                                    refine CJ_region ?_
                                    refine RJ_op rfl (OJ_P (P_move rfl) rfl ?_)
                                    obtain ⟨hg45, h⟩ := grd_Ne h
                                    refine RJ_op rfl (OJ_P (PJ_eq (P_add (a := ((x25 : Nat) : Int)) (b := (1 : Int)) rfl rfl (nat_in hg45)) rfl) rfl ?_)
                                    refine RJ_op rfl (OJ_P (P_assign rfl) rfl ?_)
                                    refine RJ_nil ?_
                                    refine QJ_nextR ⟨n, x24, (x25 + 1), w30⟩ (Nat.lt_succ_self _) ?_ (by repeat (first | exact Kp.base | exact Kp.self | refine Kp.cons rfl ?_ | refine Kp.forget rfl ?_)) ?_ (Ent.take del1 (Ent.take del1 (Ent.take del1 (Ent.take del1 (Ent.take del1 (Ent.drop Ent.refl))))))
                                    · exact h
                                    · exact ⟨rfl, rfl, True.intro⟩
                                ·
                                  rw [ht180]
                                  refine RJ_ent (Ent.takeC (A' := DevP X13 o181 X168) del2 rfl Ent.refl) ?_
                                  refine RJ_gy (GY_yes rfl rfl rfl hg43B) (OJ_P (P_neqIfN (mbx (not_f hg43B) rfl) rfl Try.underlying31) rfl ?_)
                                  refine RJ_gy (GY_yes rfl rfl rfl hg43B) (OJ_P (P_move rfl) rfl ?_)
                                  refine RJ_gy (GY_yes rfl rfl rfl hg43B) (OJ_P (P_neqB rfl rfl Try.underlying4) rfl ?_)
                                  refine RJ_op rfl (OJ_P (P_pickF rfl hg43B rfl) rfl ?_)
                                  refine RJ_nil ?_
                                  refine QJ_then ?_
                                  refine CJ_condP rfl (bT_not (bT_beq Iff.rfl bT_dec)) (fun hg46 => ?_) (fun hg46 => ?_)
                                  ·
                                    replace h := ite_t hg46 h
                                    refine CJ_seq ?_
                                    refine CJ_region ?_
                                    refine RJ_op rfl (OJ_P (P_assign rfl) rfl ?_)
                                    refine RJ_nil ?_
                                    refine QJ_then ?_
                                    refine CJ_ret ?_
                                    refine QJ_block_ret ?_
                                    refine QJ_then_ret ?_
                                    refine QJ_round_ret ?_
                                    refine QJ_block_ret ?_
                                    refine QJ_then_ret ?_
                                    have hE := Option.some.inj h
                                    replace hE := seq_inr hK19 hE.symm
                                    subst hE
                                    refine QJ_end (res1 Try.results6 rfl) ?_
                                    refine CSpec.close () ?_ ?_ (Ent.drop (Ent.drop (Ent.drop (Ent.drop (Ent.drop (Ent.drop (Ent.drop Ent.refl)))))))
                                    · rfl
                                    · trivial
                                  ·
                                    replace h := ite_f hg46 h
                                    refine CJ_skip ?_
                                    refine QJ_block_normal ?_
                                    refine QJ_then ?_
                                    refine CJ_region ?_
                                    refine RJ_op rfl (OJ_P (P_move rfl) rfl ?_)
                                    obtain ⟨hg47, h⟩ := grd_Ne h
                                    refine RJ_op rfl (OJ_P (PJ_eq (P_add (a := ((x25 : Nat) : Int)) (b := (1 : Int)) rfl rfl (nat_in hg47)) rfl) rfl ?_)
                                    refine RJ_op rfl (OJ_P (P_assign rfl) rfl ?_)
                                    refine RJ_nil ?_
                                    refine QJ_nextR ⟨n, x24, (x25 + 1), w30⟩ (Nat.lt_succ_self _) ?_ (by repeat (first | exact Kp.base | exact Kp.self | refine Kp.cons rfl ?_ | refine Kp.forget rfl ?_)) ?_ (Ent.take del2 (Ent.take del2 (Ent.take del2 (Ent.take del2 (Ent.take del2 (Ent.drop (Ent.drop Ent.refl)))))))
                                    · exact h
                                    · exact ⟨rfl, rfl, True.intro⟩
                            ·
                              replace h := ite_f hg41 h
                              refine RJ_gn (GY_no rfl rfl rfl hg41B) rfl rfl ?_
                              refine RJ_gn (GY_no rfl rfl rfl hg41B) rfl rfl ?_
                              refine RJ_gn (GY_no rfl rfl rfl hg41B) rfl rfl ?_
                              refine RJ_gn (GY_no rfl rfl rfl hg41B) rfl rfl ?_
                              refine RJ_gn (GY_no rfl rfl rfl hg41B) rfl rfl ?_
                              refine RJ_gn (GY_no rfl rfl rfl hg41B) rfl rfl ?_
                              refine RJ_op rfl (OJ_P (P_pickF rfl hg41B rfl) rfl ?_)
                              refine RJ_op rfl (OJ_P (P_assign rfl) rfl ?_)
                              refine RJ_nil ?_
                              refine QJ_then ?_
                              refine CJ_seq ?_
                              refine CJ_region ?_
                              refine RJ_op rfl (OJ_P (P_move rfl) rfl ?_)
                              refine RJ_op rfl (OJ_P (P_eql (a := r166.2) (b := (0 : Int)) rfl rfl) rfl ?_)
                              refine RJ_op rfl (OJ_P (P_move rfl) rfl ?_)
                              refine RJ_op rfl (OJ_P (P_neqB rfl rfl Try.underlying4) rfl ?_)
                              refine RJ_op rfl (OJ_P (P_move rfl) rfl ?_)
                              refine RJ_mbF rfl rfl rfl (fun hG182 => have hP183 : ¬ (¬ ((r166.2 = (0 : Int)) ↔ false = true)) := nP ((bT_not (bT_beq bT_dec Iff.rfl))) hG182; VJ_P (P_move rfl)) ?_
                              refine RJ_splitP 206 rfl (bT_not (bT_beq bT_dec Iff.rfl)) (fun hg48B hg48 => ?_) (fun hg48B hg48 => ?_)
                              ·
                                replace h := ite_t hg48 h
                                refine RJ_gn (GY_no rfl rfl rfl hg48B) rfl rfl ?_
                                refine RJ_gn (GY_no rfl rfl rfl hg48B) rfl rfl ?_
                                refine RJ_gn (GY_no rfl rfl rfl hg48B) rfl rfl ?_
                                refine RJ_op rfl (OJ_P (P_pickT rfl hg48B rfl) rfl ?_)
                                refine RJ_nil ?_
                                refine QJ_then ?_
                                refine CJ_condT rfl rfl ?_
                                refine CJ_seq ?_
                                refine CJ_region ?_
                                refine RJ_op rfl (OJ_P (P_assign rfl) rfl ?_)
                                refine RJ_nil ?_
                                refine QJ_then ?_
                                refine CJ_ret ?_
                                refine QJ_block_ret ?_
                                refine QJ_then_ret ?_
                                refine QJ_round_ret ?_
                                refine QJ_block_ret ?_
                                refine QJ_then_ret ?_
                                have hE := Option.some.inj h
                                replace hE := seq_inr hK19 hE.symm
                                subst hE
                                refine QJ_end (res1 Try.results6 rfl) ?_
                                refine CSpec.close () ?_ ?_ (Ent.drop (Ent.drop (Ent.drop (Ent.drop (Ent.drop (Ent.drop (Ent.drop Ent.refl)))))))
                                · rfl
                                · trivial
                              ·
                                replace h := ite_f hg48 h
                                rcases opt_e h with ⟨ht186, h⟩ | ⟨o187, ht186, h⟩
                                ·
                                  rw [ht186]
                                  refine RJ_ent (Ent.take del0 (Ent.take del0 (Ent.take del1 (Ent.take del1 (Ent.take del1 (Ent.take del1 (Ent.drop Ent.refl))))))) ?_
                                  refine RJ_gy (GY_yes rfl rfl rfl hg48B) (OJ_P (P_neqIN (mbx (not_f hg48B) rfl) Try.underlying31) rfl ?_)
                                  refine RJ_gy (GY_yes rfl rfl rfl hg48B) (OJ_P (P_move rfl) rfl ?_)
                                  refine RJ_gy (GY_yes rfl rfl rfl hg48B) (OJ_P (P_neqB rfl rfl Try.underlying4) rfl ?_)
                                  refine RJ_op rfl (OJ_P (P_pickF rfl hg48B rfl) rfl ?_)
                                  refine RJ_nil ?_
                                  refine QJ_then ?_
                                  refine CJ_condP rfl (bT_not (bT_beq Iff.rfl Iff.rfl)) (fun hg49 => ?_) (fun hg49 => ?_)
                                  ·
                                    replace h := ite_t hg49 h
                                    refine CJ_seq ?_
                                    refine CJ_region ?_
                                    refine RJ_op rfl (OJ_P (P_assign rfl) rfl ?_)
                                    refine RJ_nil ?_
                                    refine QJ_then ?_
                                    refine CJ_ret ?_
                                    refine QJ_block_ret ?_
                                    refine QJ_then_ret ?_
                                    refine QJ_round_ret ?_
                                    refine QJ_block_ret ?_
                                    refine QJ_then_ret ?_
                                    have hE := Option.some.inj h
                                    replace hE := seq_inr hK19 hE.symm
                                    subst hE
                                    refine QJ_end (res1 Try.results6 rfl) ?_
                                    refine CSpec.close () ?_ ?_ (Ent.drop (Ent.drop (Ent.drop (Ent.drop (Ent.drop (Ent.drop Ent.refl))))))
                                    · rfl
                                    · trivial
                                  ·
                                    replace h := ite_f hg49 h
                                    refine CJ_skip ?_
                                    refine QJ_block_normal ?_
                                    refine QJ_then ?_
                                    refine CJ_region ?_
                                    refine RJ_op rfl (OJ_P (P_move rfl) rfl ?_)
                                    obtain ⟨hg50, h⟩ := grd_Ne h
                                    refine RJ_op rfl (OJ_P (PJ_eq (P_add (a := ((x25 : Nat) : Int)) (b := (1 : Int)) rfl rfl (nat_in hg50)) rfl) rfl ?_)
                                    refine RJ_op rfl (OJ_P (P_assign rfl) rfl ?_)
                                    refine RJ_nil ?_
                                    refine QJ_nextR ⟨n, x24, (x25 + 1), w30⟩ (Nat.lt_succ_self _) ?_ (by repeat (first | exact Kp.base | exact Kp.self | refine Kp.cons rfl ?_ | refine Kp.forget rfl ?_)) ?_ (Ent.take del1 (Ent.take del1 (Ent.take del1 (Ent.take del1 (Ent.take del1 (Ent.drop Ent.refl))))))
                                    · exact h
                                    · exact ⟨rfl, rfl, True.intro⟩
                                ·
                                  rw [ht186]
                                  refine RJ_ent (Ent.takeC (A' := DevP X13 o187 X168) del2 rfl Ent.refl) ?_
                                  refine RJ_gy (GY_yes rfl rfl rfl hg48B) (OJ_P (P_neqIfN (mbx (not_f hg48B) rfl) rfl Try.underlying31) rfl ?_)
                                  refine RJ_gy (GY_yes rfl rfl rfl hg48B) (OJ_P (P_move rfl) rfl ?_)
                                  refine RJ_gy (GY_yes rfl rfl rfl hg48B) (OJ_P (P_neqB rfl rfl Try.underlying4) rfl ?_)
                                  refine RJ_op rfl (OJ_P (P_pickF rfl hg48B rfl) rfl ?_)
                                  refine RJ_nil ?_
                                  refine QJ_then ?_
                                  refine CJ_condP rfl (bT_not (bT_beq Iff.rfl Iff.rfl)) (fun hg51 => ?_) (fun hg51 => ?_)
                                  ·
                                    replace h := ite_t hg51 h
                                    refine CJ_seq ?_
                                    refine CJ_region ?_
                                    refine RJ_op rfl (OJ_P (P_assign rfl) rfl ?_)
                                    refine RJ_nil ?_
                                    refine QJ_then ?_
                                    refine CJ_ret ?_
                                    refine QJ_block_ret ?_
                                    refine QJ_then_ret ?_
                                    refine QJ_round_ret ?_
                                    refine QJ_block_ret ?_
                                    refine QJ_then_ret ?_
                                    have hE := Option.some.inj h
                                    replace hE := seq_inr hK19 hE.symm
                                    subst hE
                                    refine QJ_end (res1 Try.results6 rfl) ?_
                                    refine CSpec.close () ?_ ?_ (Ent.drop (Ent.drop (Ent.drop (Ent.drop (Ent.drop (Ent.drop (Ent.drop Ent.refl)))))))
                                    · rfl
                                    · trivial
                                  ·
                                    replace h := ite_f hg51 h
                                    refine CJ_skip ?_
                                    refine QJ_block_normal ?_
                                    refine QJ_then ?_
                                    refine CJ_region ?_
                                    refine RJ_op rfl (OJ_P (P_move rfl) rfl ?_)
                                    obtain ⟨hg52, h⟩ := grd_Ne h
                                    refine RJ_op rfl (OJ_P (PJ_eq (P_add (a := ((x25 : Nat) : Int)) (b := (1 : Int)) rfl rfl (nat_in hg52)) rfl) rfl ?_)
                                    refine RJ_op rfl (OJ_P (P_assign rfl) rfl ?_)
                                    refine RJ_nil ?_
                                    refine QJ_nextR ⟨n, x24, (x25 + 1), w30⟩ (Nat.lt_succ_self _) ?_ (by repeat (first | exact Kp.base | exact Kp.self | refine Kp.cons rfl ?_ | refine Kp.forget rfl ?_)) ?_ (Ent.take del2 (Ent.take del2 (Ent.take del2 (Ent.take del2 (Ent.take del2 (Ent.drop (Ent.drop Ent.refl)))))))
                                    · exact h
                                    · exact ⟨rfl, rfl, True.intro⟩
                          ·
                            replace h := ite_f hg40 h
                            refine RJ_gn (GY_no rfl rfl rfl hg40B) rfl rfl ?_
                            refine RJ_gn (GY_no rfl rfl rfl hg40B) rfl rfl ?_
                            refine RJ_gn (GY_no rfl rfl rfl hg40B) rfl rfl ?_
                            refine RJ_gn (GY_no rfl rfl rfl hg40B) rfl rfl ?_
                            refine RJ_op rfl (OJ_P (P_pickF rfl hg40B rfl) rfl ?_)
                            refine RJ_op rfl (OJ_P (P_move rfl) rfl ?_)
                            refine RJ_gn (GY_no rfl rfl rfl rfl) rfl rfl ?_
                            refine RJ_gn (GY_no rfl rfl rfl rfl) rfl rfl ?_
                            refine RJ_gn (GY_no rfl rfl rfl rfl) rfl rfl ?_
                            refine RJ_gn (GY_no rfl rfl rfl rfl) rfl rfl ?_
                            refine RJ_gn (GY_no rfl rfl rfl rfl) rfl rfl ?_
                            refine RJ_gn (GY_no rfl rfl rfl rfl) rfl rfl ?_
                            refine RJ_op rfl (OJ_P (P_pickF rfl rfl rfl) rfl ?_)
                            refine RJ_op rfl (OJ_P (P_assign rfl) rfl ?_)
                            refine RJ_nil ?_
                            refine QJ_then ?_
                            refine CJ_seq ?_
                            refine CJ_region ?_
                            refine RJ_op rfl (OJ_P (P_move rfl) rfl ?_)
                            refine RJ_op rfl (OJ_P (P_eql (a := r166.2) (b := (0 : Int)) rfl rfl) rfl ?_)
                            refine RJ_op rfl (OJ_P (P_move rfl) rfl ?_)
                            refine RJ_op rfl (OJ_P (P_neqB rfl rfl Try.underlying4) rfl ?_)
                            refine RJ_op rfl (OJ_P (P_move rfl) rfl ?_)
                            refine RJ_mbF rfl rfl rfl (fun hG188 => have hP189 : ¬ (¬ ((r166.2 = (0 : Int)) ↔ false = true)) := nP ((bT_not (bT_beq bT_dec Iff.rfl))) hG188; VJ_P (P_move rfl)) ?_
                            refine RJ_splitP 206 rfl (bT_not (bT_beq bT_dec Iff.rfl)) (fun hg53B hg53 => ?_) (fun hg53B hg53 => ?_)
                            ·
                              replace h := ite_t hg53 h
                              refine RJ_gn (GY_no rfl rfl rfl hg53B) rfl rfl ?_
                              refine RJ_gn (GY_no rfl rfl rfl hg53B) rfl rfl ?_
                              refine RJ_gn (GY_no rfl rfl rfl hg53B) rfl rfl ?_
                              refine RJ_op rfl (OJ_P (P_pickT rfl hg53B rfl) rfl ?_)
                              refine RJ_nil ?_
                              refine QJ_then ?_
                              refine CJ_condT rfl rfl ?_
                              refine CJ_seq ?_
                              refine CJ_region ?_
                              refine RJ_op rfl (OJ_P (P_assign rfl) rfl ?_)
                              refine RJ_nil ?_
                              refine QJ_then ?_
                              refine CJ_ret ?_
                              refine QJ_block_ret ?_
                              refine QJ_then_ret ?_
                              refine QJ_round_ret ?_
                              refine QJ_block_ret ?_
                              refine QJ_then_ret ?_
                              have hE := Option.some.inj h
                              replace hE := seq_inr hK19 hE.symm
                              subst hE
                              refine QJ_end (res1 Try.results6 rfl) ?_
                              refine CSpec.close () ?_ ?_ (Ent.drop (Ent.drop (Ent.drop (Ent.drop (Ent.drop (Ent.drop (Ent.drop Ent.refl)))))))
                              · rfl
                              · trivial
                            ·
                              replace h := ite_f hg53 h
                              rcases opt_e h with ⟨ht192, h⟩ | ⟨o193, ht192, h⟩
                              ·
                                rw [ht192]
                                refine RJ_ent (Ent.take del0 (Ent.take del0 (Ent.take del1 (Ent.take del1 (Ent.take del1 (Ent.take del1 (Ent.drop Ent.refl))))))) ?_
                                refine RJ_gy (GY_yes rfl rfl rfl hg53B) (OJ_P (P_neqIN (mbx (not_f hg53B) rfl) Try.underlying31) rfl ?_)
                                refine RJ_gy (GY_yes rfl rfl rfl hg53B) (OJ_P (P_move rfl) rfl ?_)
                                refine RJ_gy (GY_yes rfl rfl rfl hg53B) (OJ_P (P_neqB rfl rfl Try.underlying4) rfl ?_)
                                refine RJ_op rfl (OJ_P (P_pickF rfl hg53B rfl) rfl ?_)
                                refine RJ_nil ?_
                                refine QJ_then ?_
                                refine CJ_condP rfl (bT_not (bT_beq Iff.rfl Iff.rfl)) (fun hg54 => ?_) (fun hg54 => ?_)
                                ·
                                  replace h := ite_t hg54 h
                                  refine CJ_seq ?_
                                  refine CJ_region ?_
                                  refine RJ_op rfl (OJ_P (P_assign rfl) rfl ?_)
                                  refine RJ_nil ?_
                                  refine QJ_then ?_
                                  refine CJ_ret ?_
                                  refine QJ_block_ret ?_
                                  refine QJ_then_ret ?_
                                  refine QJ_round_ret ?_
                                  refine QJ_block_ret ?_
                                  refine QJ_then_ret ?_
                                  have hE := Option.some.inj h
                                  replace hE := seq_inr hK19 hE.symm
                                  subst hE
                                  refine QJ_end (res1 Try.results6 rfl) ?_
                                  refine CSpec.close () ?_ ?_ (Ent.drop (Ent.drop (Ent.drop (Ent.drop (Ent.drop (Ent.drop Ent.refl))))))
                                  · rfl
                                  · trivial
                                ·
                                  replace h := ite_f hg54 h
                                  refine CJ_skip ?_
                                  refine QJ_block_normal ?_
                                  refine QJ_then ?_
                                  refine CJ_region ?_
                                  refine RJ_op rfl (OJ_P (P_move rfl) rfl ?_)
                                  obtain ⟨hg55, h⟩ := grd_Ne h
                                  refine RJ_op rfl (OJ_P (PJ_eq (P_add (a := ((x25 : Nat) : Int)) (b := (1 : Int)) rfl rfl (nat_in hg55)) rfl) rfl ?_)
                                  refine RJ_op rfl (OJ_P (P_assign rfl) rfl ?_)
                                  refine RJ_nil ?_
                                  refine QJ_nextR ⟨n, x24, (x25 + 1), w30⟩ (Nat.lt_succ_self _) ?_ (by repeat (first | exact Kp.base | exact Kp.self | refine Kp.cons rfl ?_ | refine Kp.forget rfl ?_)) ?_ (Ent.take del1 (Ent.take del1 (Ent.take del1 (Ent.take del1 (Ent.take del1 (Ent.drop Ent.refl))))))
                                  · exact h
                                  · exact ⟨rfl, rfl, True.intro⟩
                              ·
                                rw [ht192]
                                refine RJ_ent (Ent.takeC (A' := DevP X13 o193 X168) del2 rfl Ent.refl) ?_
                                refine RJ_gy (GY_yes rfl rfl rfl hg53B) (OJ_P (P_neqIfN (mbx (not_f hg53B) rfl) rfl Try.underlying31) rfl ?_)
                                refine RJ_gy (GY_yes rfl rfl rfl hg53B) (OJ_P (P_move rfl) rfl ?_)
                                refine RJ_gy (GY_yes rfl rfl rfl hg53B) (OJ_P (P_neqB rfl rfl Try.underlying4) rfl ?_)
                                refine RJ_op rfl (OJ_P (P_pickF rfl hg53B rfl) rfl ?_)
                                refine RJ_nil ?_
                                refine QJ_then ?_
                                refine CJ_condP rfl (bT_not (bT_beq Iff.rfl Iff.rfl)) (fun hg56 => ?_) (fun hg56 => ?_)
                                ·
                                  replace h := ite_t hg56 h
                                  refine CJ_seq ?_
                                  refine CJ_region ?_
                                  refine RJ_op rfl (OJ_P (P_assign rfl) rfl ?_)
                                  refine RJ_nil ?_
                                  refine QJ_then ?_
                                  refine CJ_ret ?_
                                  refine QJ_block_ret ?_
                                  refine QJ_then_ret ?_
                                  refine QJ_round_ret ?_
                                  refine QJ_block_ret ?_
                                  refine QJ_then_ret ?_
                                  have hE := Option.some.inj h
                                  replace hE := seq_inr hK19 hE.symm
                                  subst hE
                                  refine QJ_end (res1 Try.results6 rfl) ?_
                                  refine CSpec.close () ?_ ?_ (Ent.drop (Ent.drop (Ent.drop (Ent.drop (Ent.drop (Ent.drop (Ent.drop Ent.refl)))))))
                                  · rfl
                                  · trivial
                                ·
                                  replace h := ite_f hg56 h
                                  refine CJ_skip ?_
                                  refine QJ_block_normal ?_
                                  refine QJ_then ?_
                                  refine CJ_region ?_
                                  refine RJ_op rfl (OJ_P (P_move rfl) rfl ?_)
                                  obtain ⟨hg57, h⟩ := grd_Ne h
                                  refine RJ_op rfl (OJ_P (PJ_eq (P_add (a := ((x25 : Nat) : Int)) (b := (1 : Int)) rfl rfl (nat_in hg57)) rfl) rfl ?_)
                                  refine RJ_op rfl (OJ_P (P_assign rfl) rfl ?_)
                                  refine RJ_nil ?_
                                  refine QJ_nextR ⟨n, x24, (x25 + 1), w30⟩ (Nat.lt_succ_self _) ?_ (by repeat (first | exact Kp.base | exact Kp.self | refine Kp.cons rfl ?_ | refine Kp.forget rfl ?_)) ?_ (Ent.take del2 (Ent.take del2 (Ent.take del2 (Ent.take del2 (Ent.take del2 (Ent.drop (Ent.drop Ent.refl)))))))
                                  · exact h
                                  · exact ⟨rfl, rfl, True.intro⟩
            ·
              replace h := ite_f hg6 h
              refine RJ_gn (GY_no rfl rfl rfl hg6B) rfl rfl ?_
              refine RJ_gn (GY_no rfl rfl rfl hg6B) rfl rfl ?_
              refine RJ_gn (GY_no rfl rfl rfl hg6B) rfl rfl ?_
              refine RJ_gn (GY_no rfl rfl rfl hg6B) rfl rfl ?_
              refine RJ_gn (GY_no rfl rfl rfl hg6B) rfl rfl ?_
              refine RJ_gn (GY_no rfl rfl rfl hg6B) rfl rfl ?_
              refine RJ_gn (GY_no rfl rfl rfl hg6B) rfl rfl ?_
              refine RJ_op rfl (OJ_P (P_pickF rfl hg6B rfl) rfl ?_)
              refine RJ_op rfl (OJ_P (P_assign rfl) rfl ?_)
              refine RJ_nil ?_
              refine QJ_then ?_
              refine CJ_seq ?_
              refine CJ_seq ?_
              refine CJ_region ?_
              refine RJ_op rfl (OJ_P (P_move rfl) rfl ?_)
              refine RJ_op rfl (OJ_P (P_eql (a := r31.2) (b := (0 : Int)) rfl rfl) rfl ?_)
              refine RJ_op rfl (OJ_P (P_move rfl) rfl ?_)
              refine RJ_op rfl (OJ_P (P_neqB rfl rfl Try.underlying4) rfl ?_)
              refine RJ_op rfl (OJ_P (P_move rfl) rfl ?_)
              refine RJ_mbF rfl rfl rfl (fun hG194 => have hP195 : ¬ (¬ ((r31.2 = (0 : Int)) ↔ false = true)) := nP ((bT_not (bT_beq bT_dec Iff.rfl))) hG194; VJ_P (P_move rfl)) ?_
              refine RJ_splitP 109 rfl (bT_not (bT_beq bT_dec Iff.rfl)) (fun hg58B hg58 => ?_) (fun hg58B hg58 => ?_)
              ·
                replace h := ite_t hg58 h
                refine RJ_gn (GY_no rfl rfl rfl hg58B) rfl rfl ?_
                refine RJ_gn (GY_no rfl rfl rfl hg58B) rfl rfl ?_
                refine RJ_gn (GY_no rfl rfl rfl hg58B) rfl rfl ?_
                refine RJ_op rfl (OJ_P (P_pickT rfl hg58B rfl) rfl ?_)
                refine RJ_op rfl (OJ_P (P_move rfl) rfl ?_)
                refine RJ_gn (GY_no rfl rfl rfl rfl) rfl rfl ?_
                refine RJ_gn (GY_no rfl rfl rfl rfl) rfl rfl ?_
                refine RJ_gn (GY_no rfl rfl rfl rfl) rfl rfl ?_
                refine RJ_gn (GY_undef rfl rfl rfl) rfl rfl ?_
                refine RJ_gn (GY_undef rfl rfl rfl) rfl rfl ?_
                refine RJ_gn (GY_no rfl rfl rfl rfl) rfl rfl ?_
                refine RJ_op rfl (OJ_P (P_pickT rfl rfl rfl) rfl ?_)
                refine RJ_nil ?_
                refine QJ_then ?_
                refine CJ_condT rfl rfl ?_
                refine CJ_seq ?_
                refine CJ_region ?_
                refine RJ_op rfl (OJ_P (P_assign rfl) rfl ?_)
                refine RJ_nil ?_
                refine QJ_then ?_
                refine CJ_ret ?_
                refine QJ_then_ret ?_
                refine QJ_block_ret ?_
                refine QJ_then_ret ?_
                refine QJ_round_ret ?_
                refine QJ_block_ret ?_
                refine QJ_then_ret ?_
                have hE := Option.some.inj h
                replace hE := seq_inr hK19 hE.symm
                subst hE
                refine QJ_end (res1 Try.results6 rfl) ?_
                refine CSpec.close () ?_ ?_ (Ent.drop (Ent.drop (Ent.drop (Ent.drop (Ent.drop (Ent.drop Ent.refl))))))
                · rfl
                · trivial
              ·
                replace h := ite_f hg58 h
                rcases opt_e h with ⟨ht198, h⟩ | ⟨o199, ht198, h⟩
                ·
                  rw [ht198]
                  refine RJ_ent (Ent.take del0 (Ent.take del1 (Ent.take del1 (Ent.take del1 (Ent.take del1 (Ent.drop Ent.refl)))))) ?_
                  refine RJ_gy (GY_yes rfl rfl rfl hg58B) (OJ_P (P_neqIN (mbx (not_f hg58B) rfl) Try.underlying31) rfl ?_)
                  refine RJ_gy (GY_yes rfl rfl rfl hg58B) (OJ_P (P_move rfl) rfl ?_)
                  refine RJ_gy (GY_yes rfl rfl rfl hg58B) (OJ_P (P_neqB rfl rfl Try.underlying4) rfl ?_)
                  refine RJ_op rfl (OJ_P (P_pickF rfl hg58B rfl) rfl ?_)
                  refine RJ_op rfl (OJ_P (P_move rfl) rfl ?_)
                  refine RJ_mbF rfl rfl rfl (fun hG200 => have hP201 : ¬ (¬ (false = true ↔ false = true)) := nP ((bT_not (bT_beq Iff.rfl Iff.rfl))) hG200; VJ_P (P_move rfl)) ?_
                  refine RJ_mbF rfl rfl rfl (fun hG202 => have hP203 : ¬ (¬ (false = true ↔ false = true)) := nP ((bT_not (bT_beq Iff.rfl Iff.rfl))) hG202; VJ_P (P_not (mbx hG202 rfl))) ?_
                  refine RJ_mbF rfl rfl rfl (fun hG204 => have hP205 : ¬ (¬ (false = true ↔ false = true)) := nP ((bT_not (bT_beq Iff.rfl Iff.rfl))) hG204; VJ_P (P_move (mbx hG204 rfl))) ?_
                  refine RJ_mbGT rfl rfl rfl (fun hG206 => have hP207 : ¬ (¬ (false = true ↔ false = true)) := nP ((bT_not (bT_beq Iff.rfl Iff.rfl))) (and_l hG206); have hP208 : true = true := (Iff.rfl).1 (and_r hG206); VJ_P (P_move rfl)) ?_
                  refine RJ_mbGT rfl rfl rfl (fun hG209 => have hP210 : ¬ (¬ (false = true ↔ false = true)) := nP ((bT_not (bT_beq Iff.rfl Iff.rfl))) (and_l hG209); have hP211 : true = true := (Iff.rfl).1 (and_r hG209); VJ_P (P_neq (a := r31.2) (b := (1 : Int)) (mbx hG209 rfl) rfl)) ?_
                  refine RJ_mbF rfl rfl rfl (fun hG212 => have hP213 : ¬ (¬ (false = true ↔ false = true)) := nP ((bT_not (bT_beq Iff.rfl Iff.rfl))) hG212; VJ_P (P_pickT (mbx hG212 rfl) rfl (mbx (and_i hG212 rfl) rfl))) ?_
                  refine RJ_op rfl (OJ_P (P_pickOr rfl rfl (fun hh => mbx (not_f hh) rfl)) rfl ?_)
                  refine RJ_nil ?_
                  refine QJ_then ?_
                  refine CJ_condP rfl (bT_or (bT_not (bT_beq Iff.rfl Iff.rfl)) bT_dec) (fun hg59 => ?_) (fun hg59 => ?_)
                  ·
                    replace h := ite_t hg59 h
                    refine CJ_seq ?_
                    refine CJ_region ?_
                    refine RJ_op rfl (OJ_P (P_assign rfl) rfl ?_)
                    refine RJ_nil ?_
                    refine QJ_then ?_
                    refine CJ_ret ?_
                    refine QJ_then_ret ?_
                    refine QJ_block_ret ?_
                    refine QJ_then_ret ?_
                    refine QJ_round_ret ?_
                    refine QJ_block_ret ?_
                    refine QJ_then_ret ?_
                    have hE := Option.some.inj h
                    replace hE := seq_inr hK19 hE.symm
                    subst hE
                    refine QJ_end (res1 Try.results6 rfl) ?_
                    refine CSpec.close () ?_ ?_ (Ent.drop (Ent.drop (Ent.drop (Ent.drop (Ent.drop Ent.refl)))))
                    · rfl
                    · trivial
                  ·
                    replace h := ite_f hg59 h
                    refine CJ_skip ?_
                    refine QJ_then ?_
                    refine CJ_seq ?_
                    refine CJ_seq ?_
                    refine CJ_region ?_
                    refine RJ_op rfl (OJ_P (P_move rfl) rfl ?_)
                    refine RJ_op rfl (OJ_P (P_not rfl) rfl ?_)
                    refine RJ_nil ?_
                    refine QJ_then ?_
                    refine CJ_condT rfl rfl ?_
                    refine CJ_exit ?_
                    refine QJ_then_exit ?_
                    refine QJ_block_here ?_
                    refine QJ_then ?_
                    refine CJ_region ?_
                    refine RJ_op rfl (OJ_P (P_move rfl) rfl ?_)
                    obtain ⟨hg60, h⟩ := grd_Ne h
                    refine RJ_op rfl (OJ_P (PJ_eq (P_add (a := ((x25 : Nat) : Int)) (b := (1 : Int)) rfl rfl (nat_in hg60)) rfl) rfl ?_)
                    refine RJ_op rfl (OJ_P (P_assign rfl) rfl ?_)
                    refine RJ_nil ?_
                    refine QJ_nextR ⟨n, x24, (x25 + 1), w30⟩ (Nat.lt_succ_self _) ?_ (by repeat (first | exact Kp.base | exact Kp.self | refine Kp.cons rfl ?_ | refine Kp.forget rfl ?_)) ?_ (Ent.take del0 (Ent.take del0 (Ent.take del0 (Ent.take del0 (Ent.take del0 Ent.refl)))))
                    · exact h
                    · exact ⟨rfl, rfl, True.intro⟩
                ·
                  rw [ht198]
                  refine RJ_ent (Ent.takeC (A' := DevP X13 o199 X33) del1 rfl Ent.refl) ?_
                  refine RJ_gy (GY_yes rfl rfl rfl hg58B) (OJ_P (P_neqIfN (mbx (not_f hg58B) rfl) rfl Try.underlying31) rfl ?_)
                  refine RJ_gy (GY_yes rfl rfl rfl hg58B) (OJ_P (P_move rfl) rfl ?_)
                  refine RJ_gy (GY_yes rfl rfl rfl hg58B) (OJ_P (P_neqB rfl rfl Try.underlying4) rfl ?_)
                  refine RJ_op rfl (OJ_P (P_pickF rfl hg58B rfl) rfl ?_)
                  refine RJ_op rfl (OJ_P (P_move rfl) rfl ?_)
                  refine RJ_mbF rfl rfl rfl (fun hG214 => have hP215 : ¬ (¬ (true = true ↔ false = true)) := nP ((bT_not (bT_beq Iff.rfl Iff.rfl))) hG214; VJ_P (P_move rfl)) ?_
                  refine RJ_mbF rfl rfl rfl (fun hG216 => have hP217 : ¬ (¬ (true = true ↔ false = true)) := nP ((bT_not (bT_beq Iff.rfl Iff.rfl))) hG216; VJ_P (P_not (mbx hG216 rfl))) ?_
                  refine RJ_mbF rfl rfl rfl (fun hG218 => have hP219 : ¬ (¬ (true = true ↔ false = true)) := nP ((bT_not (bT_beq Iff.rfl Iff.rfl))) hG218; VJ_P (P_move (mbx hG218 rfl))) ?_
                  refine RJ_mbGT rfl rfl rfl (fun hG220 => have hP221 : ¬ (¬ (true = true ↔ false = true)) := nP ((bT_not (bT_beq Iff.rfl Iff.rfl))) (and_l hG220); have hP222 : true = true := (Iff.rfl).1 (and_r hG220); VJ_P (P_move rfl)) ?_
                  refine RJ_mbGT rfl rfl rfl (fun hG223 => have hP224 : ¬ (¬ (true = true ↔ false = true)) := nP ((bT_not (bT_beq Iff.rfl Iff.rfl))) (and_l hG223); have hP225 : true = true := (Iff.rfl).1 (and_r hG223); VJ_P (P_neq (a := r31.2) (b := (1 : Int)) (mbx hG223 rfl) rfl)) ?_
                  refine RJ_mbF rfl rfl rfl (fun hG226 => have hP227 : ¬ (¬ (true = true ↔ false = true)) := nP ((bT_not (bT_beq Iff.rfl Iff.rfl))) hG226; VJ_P (P_pickT (mbx hG226 rfl) rfl (mbx (and_i hG226 rfl) rfl))) ?_
                  refine RJ_op rfl (OJ_P (P_pickOr rfl rfl (fun hh => mbx (not_f hh) rfl)) rfl ?_)
                  refine RJ_nil ?_
                  refine QJ_then ?_
                  refine CJ_condP rfl (bT_or (bT_not (bT_beq Iff.rfl Iff.rfl)) bT_dec) (fun hg61 => ?_) (fun hg61 => ?_)
                  ·
                    replace h := ite_t hg61 h
                    refine CJ_seq ?_
                    refine CJ_region ?_
                    refine RJ_op rfl (OJ_P (P_assign rfl) rfl ?_)
                    refine RJ_nil ?_
                    refine QJ_then ?_
                    refine CJ_ret ?_
                    refine QJ_then_ret ?_
                    refine QJ_block_ret ?_
                    refine QJ_then_ret ?_
                    refine QJ_round_ret ?_
                    refine QJ_block_ret ?_
                    refine QJ_then_ret ?_
                    have hE := Option.some.inj h
                    replace hE := seq_inr hK19 hE.symm
                    subst hE
                    refine QJ_end (res1 Try.results6 rfl) ?_
                    refine CSpec.close () ?_ ?_ (Ent.drop (Ent.drop (Ent.drop (Ent.drop (Ent.drop (Ent.drop Ent.refl))))))
                    · rfl
                    · trivial
                  ·
                    replace h := ite_f hg61 h
                    refine CJ_skip ?_
                    refine QJ_then ?_
                    refine CJ_seq ?_
                    refine CJ_seq ?_
                    refine CJ_region ?_
                    refine RJ_op rfl (OJ_P (P_move rfl) rfl ?_)
                    refine RJ_op rfl (OJ_P (P_not rfl) rfl ?_)
                    refine RJ_nil ?_
                    refine QJ_then ?_
                    refine CJ_condT rfl rfl ?_
                    refine CJ_exit ?_
                    refine QJ_then_exit ?_
                    refine QJ_block_here ?_
                    refine QJ_then ?_
                    refine CJ_region ?_
                    refine RJ_op rfl (OJ_P (P_move rfl) rfl ?_)
                    obtain ⟨hg62, h⟩ := grd_Ne h
                    refine RJ_op rfl (OJ_P (PJ_eq (P_add (a := ((x25 : Nat) : Int)) (b := (1 : Int)) rfl rfl (nat_in hg62)) rfl) rfl ?_)
                    refine RJ_op rfl (OJ_P (P_assign rfl) rfl ?_)
                    refine RJ_nil ?_
                    refine QJ_nextR ⟨n, x24, (x25 + 1), w30⟩ (Nat.lt_succ_self _) ?_ (by repeat (first | exact Kp.base | exact Kp.self | refine Kp.cons rfl ?_ | refine Kp.forget rfl ?_)) ?_ (Ent.take del1 (Ent.take del1 (Ent.take del1 (Ent.take del1 (Ent.take del1 (Ent.drop Ent.refl))))))
                    · exact h
                    · exact ⟨rfl, rfl, True.intro⟩
          ·
            replace h := ite_f hg5 h
            refine RJ_gn (GY_no rfl rfl rfl hg5B) rfl rfl ?_
            refine RJ_gn (GY_no rfl rfl rfl hg5B) rfl rfl ?_
            refine RJ_gn (GY_no rfl rfl rfl hg5B) rfl rfl ?_
            refine RJ_gn (GY_no rfl rfl rfl hg5B) rfl rfl ?_
            refine RJ_gn (GY_no rfl rfl rfl hg5B) rfl rfl ?_
            refine RJ_op rfl (OJ_P (P_pickF rfl hg5B rfl) rfl ?_)
            refine RJ_op rfl (OJ_P (P_move rfl) rfl ?_)
            refine RJ_gn (GY_no rfl rfl rfl rfl) rfl rfl ?_
            refine RJ_gn (GY_no rfl rfl rfl rfl) rfl rfl ?_
            refine RJ_gn (GY_no rfl rfl rfl rfl) rfl rfl ?_
            refine RJ_gn (GY_no rfl rfl rfl rfl) rfl rfl ?_
            refine RJ_gn (GY_no rfl rfl rfl rfl) rfl rfl ?_
            refine RJ_gn (GY_no rfl rfl rfl rfl) rfl rfl ?_
            refine RJ_gn (GY_no rfl rfl rfl rfl) rfl rfl ?_
            refine RJ_op rfl (OJ_P (P_pickF rfl rfl rfl) rfl ?_)
            refine RJ_op rfl (OJ_P (P_assign rfl) rfl ?_)
            refine RJ_nil ?_
            refine QJ_then ?_
            refine CJ_seq ?_
            refine CJ_seq ?_
            refine CJ_region ?_
            refine RJ_op rfl (OJ_P (P_move rfl) rfl ?_)
            refine RJ_op rfl (OJ_P (P_eql (a := r31.2) (b := (0 : Int)) rfl rfl) rfl ?_)
            refine RJ_op rfl (OJ_P (P_move rfl) rfl ?_)
            refine RJ_op rfl (OJ_P (P_neqB rfl rfl Try.underlying4) rfl ?_)
            refine RJ_op rfl (OJ_P (P_move rfl) rfl ?_)
            refine RJ_mbF rfl rfl rfl (fun hG228 => have hP229 : ¬ (¬ ((r31.2 = (0 : Int)) ↔ false = true)) := nP ((bT_not (bT_beq bT_dec Iff.rfl))) hG228; VJ_P (P_move rfl)) ?_
            refine RJ_splitP 109 rfl (bT_not (bT_beq bT_dec Iff.rfl)) (fun hg63B hg63 => ?_) (fun hg63B hg63 => ?_)
            ·
              replace h := ite_t hg63 h
              refine RJ_gn (GY_no rfl rfl rfl hg63B) rfl rfl ?_
              refine RJ_gn (GY_no rfl rfl rfl hg63B) rfl rfl ?_
              refine RJ_gn (GY_no rfl rfl rfl hg63B) rfl rfl ?_
              refine RJ_op rfl (OJ_P (P_pickT rfl hg63B rfl) rfl ?_)
              refine RJ_op rfl (OJ_P (P_move rfl) rfl ?_)
              refine RJ_gn (GY_no rfl rfl rfl rfl) rfl rfl ?_
              refine RJ_gn (GY_no rfl rfl rfl rfl) rfl rfl ?_
              refine RJ_gn (GY_no rfl rfl rfl rfl) rfl rfl ?_
              refine RJ_gn (GY_undef rfl rfl rfl) rfl rfl ?_
              refine RJ_gn (GY_undef rfl rfl rfl) rfl rfl ?_
              refine RJ_gn (GY_no rfl rfl rfl rfl) rfl rfl ?_
              refine RJ_op rfl (OJ_P (P_pickT rfl rfl rfl) rfl ?_)
              refine RJ_nil ?_
              refine QJ_then ?_
              refine CJ_condT rfl rfl ?_
              refine CJ_seq ?_
              refine CJ_region ?_
              refine RJ_op rfl (OJ_P (P_assign rfl) rfl ?_)
              refine RJ_nil ?_
              refine QJ_then ?_
              refine CJ_ret ?_
              refine QJ_then_ret ?_
              refine QJ_block_ret ?_
              refine QJ_then_ret ?_
              refine QJ_round_ret ?_
              refine QJ_block_ret ?_
              refine QJ_then_ret ?_
              have hE := Option.some.inj h
              replace hE := seq_inr hK19 hE.symm
              subst hE
              refine QJ_end (res1 Try.results6 rfl) ?_
              refine CSpec.close () ?_ ?_ (Ent.drop (Ent.drop (Ent.drop (Ent.drop (Ent.drop (Ent.drop Ent.refl))))))
              · rfl
              · trivial
            ·
              replace h := ite_f hg63 h
              rcases opt_e h with ⟨ht232, h⟩ | ⟨o233, ht232, h⟩
              ·
                rw [ht232]
                refine RJ_ent (Ent.take del0 (Ent.take del1 (Ent.take del1 (Ent.take del1 (Ent.take del1 (Ent.drop Ent.refl)))))) ?_
                refine RJ_gy (GY_yes rfl rfl rfl hg63B) (OJ_P (P_neqIN (mbx (not_f hg63B) rfl) Try.underlying31) rfl ?_)
                refine RJ_gy (GY_yes rfl rfl rfl hg63B) (OJ_P (P_move rfl) rfl ?_)
                refine RJ_gy (GY_yes rfl rfl rfl hg63B) (OJ_P (P_neqB rfl rfl Try.underlying4) rfl ?_)
                refine RJ_op rfl (OJ_P (P_pickF rfl hg63B rfl) rfl ?_)
                refine RJ_op rfl (OJ_P (P_move rfl) rfl ?_)
                refine RJ_mbF rfl rfl rfl (fun hG234 => have hP235 : ¬ (¬ (false = true ↔ false = true)) := nP ((bT_not (bT_beq Iff.rfl Iff.rfl))) hG234; VJ_P (P_move rfl)) ?_
                refine RJ_mbF rfl rfl rfl (fun hG236 => have hP237 : ¬ (¬ (false = true ↔ false = true)) := nP ((bT_not (bT_beq Iff.rfl Iff.rfl))) hG236; VJ_P (P_not (mbx hG236 rfl))) ?_
                refine RJ_mbF rfl rfl rfl (fun hG238 => have hP239 : ¬ (¬ (false = true ↔ false = true)) := nP ((bT_not (bT_beq Iff.rfl Iff.rfl))) hG238; VJ_P (P_move (mbx hG238 rfl))) ?_
                refine RJ_mbGT rfl rfl rfl (fun hG240 => have hP241 : ¬ (¬ (false = true ↔ false = true)) := nP ((bT_not (bT_beq Iff.rfl Iff.rfl))) (and_l hG240); have hP242 : true = true := (Iff.rfl).1 (and_r hG240); VJ_P (P_move rfl)) ?_
                refine RJ_mbGT rfl rfl rfl (fun hG243 => have hP244 : ¬ (¬ (false = true ↔ false = true)) := nP ((bT_not (bT_beq Iff.rfl Iff.rfl))) (and_l hG243); have hP245 : true = true := (Iff.rfl).1 (and_r hG243); VJ_P (P_neq (a := r31.2) (b := (1 : Int)) (mbx hG243 rfl) rfl)) ?_
                refine RJ_mbF rfl rfl rfl (fun hG246 => have hP247 : ¬ (¬ (false = true ↔ false = true)) := nP ((bT_not (bT_beq Iff.rfl Iff.rfl))) hG246; VJ_P (P_pickT (mbx hG246 rfl) rfl (mbx (and_i hG246 rfl) rfl))) ?_
                refine RJ_op rfl (OJ_P (P_pickOr rfl rfl (fun hh => mbx (not_f hh) rfl)) rfl ?_)
                refine RJ_nil ?_
                refine QJ_then ?_
                refine CJ_condP rfl (bT_or (bT_not (bT_beq Iff.rfl Iff.rfl)) bT_dec) (fun hg64 => ?_) (fun hg64 => ?_)
                ·
                  replace h := ite_t hg64 h
                  refine CJ_seq ?_
                  refine CJ_region ?_
                  refine RJ_op rfl (OJ_P (P_assign rfl) rfl ?_)
                  refine RJ_nil ?_
                  refine QJ_then ?_
                  refine CJ_ret ?_
                  refine QJ_then_ret ?_
                  refine QJ_block_ret ?_
                  refine QJ_then_ret ?_
                  refine QJ_round_ret ?_
                  refine QJ_block_ret ?_
                  refine QJ_then_ret ?_
                  have hE := Option.some.inj h
                  replace hE := seq_inr hK19 hE.symm
                  subst hE
                  refine QJ_end (res1 Try.results6 rfl) ?_
                  refine CSpec.close () ?_ ?_ (Ent.drop (Ent.drop (Ent.drop (Ent.drop (Ent.drop Ent.refl)))))
                  · rfl
                  · trivial
                ·
                  replace h := ite_f hg64 h
                  refine CJ_skip ?_
                  refine QJ_then ?_
                  refine CJ_seq ?_
                  refine CJ_seq ?_
                  refine CJ_region ?_
                  refine RJ_op rfl (OJ_P (P_move rfl) rfl ?_)
                  refine RJ_op rfl (OJ_P (P_not rfl) rfl ?_)
                  refine RJ_nil ?_
                  refine QJ_then ?_
                  refine CJ_condT rfl rfl ?_
                  refine CJ_exit ?_
                  refine QJ_then_exit ?_
                  refine QJ_block_here ?_
                  refine QJ_then ?_
                  refine CJ_region ?_
                  refine RJ_op rfl (OJ_P (P_move rfl) rfl ?_)
                  obtain ⟨hg65, h⟩ := grd_Ne h
                  refine RJ_op rfl (OJ_P (PJ_eq (P_add (a := ((x25 : Nat) : Int)) (b := (1 : Int)) rfl rfl (nat_in hg65)) rfl) rfl ?_)
                  refine RJ_op rfl (OJ_P (P_assign rfl) rfl ?_)
                  refine RJ_nil ?_
                  refine QJ_nextR ⟨n, x24, (x25 + 1), w30⟩ (Nat.lt_succ_self _) ?_ (by repeat (first | exact Kp.base | exact Kp.self | refine Kp.cons rfl ?_ | refine Kp.forget rfl ?_)) ?_ (Ent.take del0 (Ent.take del0 (Ent.take del0 (Ent.take del0 (Ent.take del0 Ent.refl)))))
                  · exact h
                  · exact ⟨rfl, rfl, True.intro⟩
              ·
                rw [ht232]
                refine RJ_ent (Ent.takeC (A' := DevP X13 o233 X33) del1 rfl Ent.refl) ?_
                refine RJ_gy (GY_yes rfl rfl rfl hg63B) (OJ_P (P_neqIfN (mbx (not_f hg63B) rfl) rfl Try.underlying31) rfl ?_)
                refine RJ_gy (GY_yes rfl rfl rfl hg63B) (OJ_P (P_move rfl) rfl ?_)
                refine RJ_gy (GY_yes rfl rfl rfl hg63B) (OJ_P (P_neqB rfl rfl Try.underlying4) rfl ?_)
                refine RJ_op rfl (OJ_P (P_pickF rfl hg63B rfl) rfl ?_)
                refine RJ_op rfl (OJ_P (P_move rfl) rfl ?_)
                refine RJ_mbF rfl rfl rfl (fun hG248 => have hP249 : ¬ (¬ (true = true ↔ false = true)) := nP ((bT_not (bT_beq Iff.rfl Iff.rfl))) hG248; VJ_P (P_move rfl)) ?_
                refine RJ_mbF rfl rfl rfl (fun hG250 => have hP251 : ¬ (¬ (true = true ↔ false = true)) := nP ((bT_not (bT_beq Iff.rfl Iff.rfl))) hG250; VJ_P (P_not (mbx hG250 rfl))) ?_
                refine RJ_mbF rfl rfl rfl (fun hG252 => have hP253 : ¬ (¬ (true = true ↔ false = true)) := nP ((bT_not (bT_beq Iff.rfl Iff.rfl))) hG252; VJ_P (P_move (mbx hG252 rfl))) ?_
                refine RJ_mbGT rfl rfl rfl (fun hG254 => have hP255 : ¬ (¬ (true = true ↔ false = true)) := nP ((bT_not (bT_beq Iff.rfl Iff.rfl))) (and_l hG254); have hP256 : true = true := (Iff.rfl).1 (and_r hG254); VJ_P (P_move rfl)) ?_
                refine RJ_mbGT rfl rfl rfl (fun hG257 => have hP258 : ¬ (¬ (true = true ↔ false = true)) := nP ((bT_not (bT_beq Iff.rfl Iff.rfl))) (and_l hG257); have hP259 : true = true := (Iff.rfl).1 (and_r hG257); VJ_P (P_neq (a := r31.2) (b := (1 : Int)) (mbx hG257 rfl) rfl)) ?_
                refine RJ_mbF rfl rfl rfl (fun hG260 => have hP261 : ¬ (¬ (true = true ↔ false = true)) := nP ((bT_not (bT_beq Iff.rfl Iff.rfl))) hG260; VJ_P (P_pickT (mbx hG260 rfl) rfl (mbx (and_i hG260 rfl) rfl))) ?_
                refine RJ_op rfl (OJ_P (P_pickOr rfl rfl (fun hh => mbx (not_f hh) rfl)) rfl ?_)
                refine RJ_nil ?_
                refine QJ_then ?_
                refine CJ_condP rfl (bT_or (bT_not (bT_beq Iff.rfl Iff.rfl)) bT_dec) (fun hg66 => ?_) (fun hg66 => ?_)
                ·
                  replace h := ite_t hg66 h
                  refine CJ_seq ?_
                  refine CJ_region ?_
                  refine RJ_op rfl (OJ_P (P_assign rfl) rfl ?_)
                  refine RJ_nil ?_
                  refine QJ_then ?_
                  refine CJ_ret ?_
                  refine QJ_then_ret ?_
                  refine QJ_block_ret ?_
                  refine QJ_then_ret ?_
                  refine QJ_round_ret ?_
                  refine QJ_block_ret ?_
                  refine QJ_then_ret ?_
                  have hE := Option.some.inj h
                  replace hE := seq_inr hK19 hE.symm
                  subst hE
                  refine QJ_end (res1 Try.results6 rfl) ?_
                  refine CSpec.close () ?_ ?_ (Ent.drop (Ent.drop (Ent.drop (Ent.drop (Ent.drop (Ent.drop Ent.refl))))))
                  · rfl
                  · trivial
                ·
                  replace h := ite_f hg66 h
                  refine CJ_skip ?_
                  refine QJ_then ?_
                  refine CJ_seq ?_
                  refine CJ_seq ?_
                  refine CJ_region ?_
                  refine RJ_op rfl (OJ_P (P_move rfl) rfl ?_)
                  refine RJ_op rfl (OJ_P (P_not rfl) rfl ?_)
                  refine RJ_nil ?_
                  refine QJ_then ?_
                  refine CJ_condT rfl rfl ?_
                  refine CJ_exit ?_
                  refine QJ_then_exit ?_
                  refine QJ_block_here ?_
                  refine QJ_then ?_
                  refine CJ_region ?_
                  refine RJ_op rfl (OJ_P (P_move rfl) rfl ?_)
                  obtain ⟨hg67, h⟩ := grd_Ne h
                  refine RJ_op rfl (OJ_P (PJ_eq (P_add (a := ((x25 : Nat) : Int)) (b := (1 : Int)) rfl rfl (nat_in hg67)) rfl) rfl ?_)
                  refine RJ_op rfl (OJ_P (P_assign rfl) rfl ?_)
                  refine RJ_nil ?_
                  refine QJ_nextR ⟨n, x24, (x25 + 1), w30⟩ (Nat.lt_succ_self _) ?_ (by repeat (first | exact Kp.base | exact Kp.self | refine Kp.cons rfl ?_ | refine Kp.forget rfl ?_)) ?_ (Ent.take del1 (Ent.take del1 (Ent.take del1 (Ent.take del1 (Ent.take del1 (Ent.drop Ent.refl))))))
                  · exact h
                  · exact ⟨rfl, rfl, True.intro⟩
        ·
          replace h := ite_f hg4 h
          refine CJ_exit ?_
          refine QJ_then_exit ?_
          refine QJ_round_exit ?_
          refine QJ_block_here ?_
          refine QJ_cutR (x26, x24) ?_ (by repeat (first | exact Kp.base | exact Kp.self | refine Kp.cons rfl ?_ | refine Kp.forget rfl ?_)) ?_ (Ent.take del0 (Ent.take del0 (Ent.take del0 (Ent.take del0 (Ent.take del0 Ent.refl)))))
          · exact (Option.some.inj h).symm
          · exact ⟨rfl, True.intro⟩
    ·
      rintro a23 hy262
      replace h := seq_inl hK19 hy262
      show CJ _ _ _ _ _ (([(2, .int .i64 a23.1)] : Slots) ++ forget _ _) (Arr X13 a23.2 :: _)
      refine CJ_seq ?_
      refine CJ_region ?_
      refine RJ_op rfl (OJ_P (P_move rfl) rfl ?_)
      refine RJ_op rfl (OJ_P (P_and (a := a23.1) (m := (7 : Int)) rfl rfl (by decide)) rfl ?_)
      obtain ⟨r263, hr264, h⟩ := bind_e h
      refine RJ_op rfl (O_call (L_block_Zero hr264) rfl Try.call28 (Dels.cons del0 Dels.nil) rfl (fun X265 _ => ?_))
      refine RJ_op rfl (OJ_P (P_move rfl) rfl ?_)
      refine RJ_op rfl (OJ_P (P_and (a := a23.1) (m := (7 : Int)) rfl rfl (by decide)) rfl ?_)
      obtain ⟨r267, hr268, h⟩ := bind_e h
      refine RJ_op rfl (O_call (L_block_Fail hr268) rfl Try.call29 (Dels.cons del0 Dels.nil) rfl (fun X269 _ => ?_))
      refine RJ_op rfl (OJ_P (P_assign rfl) rfl ?_)
      refine RJ_op rfl (OJ_P (P_assign rfl) rfl ?_)
      refine RJ_nil ?_
      refine QJ_then ?_
      refine CJ_seq ?_
      refine CJ_seq ?_
      refine CJ_region ?_
      refine RJ_op rfl (OJ_P (P_move rfl) rfl ?_)
      refine RJ_op rfl (OJ_P (P_eqlIfN rfl rfl Try.underlying31) rfl ?_)
      refine RJ_op rfl (OJ_P (P_move rfl) rfl ?_)
      refine RJ_gy (GY_yes rfl rfl rfl rfl) (OJ_P (P_move rfl) rfl ?_)
      refine RJ_gy (GY_yes rfl rfl rfl rfl) (OJ_P (P_eqlIfN rfl rfl Try.underlying31) rfl ?_)
      refine RJ_op rfl (OJ_P (P_pickF rfl rfl rfl) rfl ?_)
      refine RJ_op rfl (OJ_P (P_move rfl) rfl ?_)
      refine RJ_gy (GY_yes rfl rfl rfl rfl) (OJ_P (P_move rfl) rfl ?_)
      refine RJ_pure (fun h hh => DevP_dep h (stars_perm (del2 (A := DevP X13 r263 X265)).out h hh)) (fun hdp271 => ?_)
      obtain ⟨r272, hr273, h⟩ := bind_e h
      refine RJ_gy (GY_yes rfl rfl rfl rfl) (O_callI rfl (dev_Size hr273 hdp271) rfl (Dels.cons del2 (Dels.cons del0 Dels.nil)) rfl (fun _ _ => ?_))
      refine RJ_gy (GY_yes rfl rfl rfl rfl) (OJ_P (P_move rfl) rfl ?_)
      refine RJ_gy (GY_yes rfl rfl rfl rfl) (OJ_P (P_and (a := a23.1) (m := (7 : Int)) rfl rfl (by decide)) rfl ?_)
      refine RJ_gy (GY_yes rfl rfl rfl rfl) (OJ_P (P_neq (a := r272) (b := (andI a23.1 (7 : Int))) rfl rfl) rfl ?_)
      refine RJ_op rfl (OJ_P (P_pickF rfl rfl rfl) rfl ?_)
      refine RJ_op rfl (OJ_P (P_move rfl) rfl ?_)
      refine RJ_splitP 231 rfl bT_dec (fun hg71B hg71 => ?_) (fun hg71B hg71 => ?_)
      ·
        replace h := ite_t hg71 h
        refine RJ_gn (GY_no rfl rfl rfl hg71B) rfl rfl ?_
        refine RJ_gn (GY_no rfl rfl rfl hg71B) rfl rfl ?_
        refine RJ_gn (GY_no rfl rfl rfl hg71B) rfl rfl ?_
        refine RJ_gn (GY_no rfl rfl rfl hg71B) rfl rfl ?_
        refine RJ_gn (GY_no rfl rfl rfl hg71B) rfl rfl ?_
        refine RJ_op rfl (OJ_P (P_pickT rfl hg71B rfl) rfl ?_)
        refine RJ_op rfl (OJ_P (P_move rfl) rfl ?_)
        refine RJ_gn (GY_no rfl rfl rfl rfl) rfl rfl ?_
        refine RJ_gn (GY_no rfl rfl rfl rfl) rfl rfl ?_
        refine RJ_gn (GY_no rfl rfl rfl rfl) rfl rfl ?_
        refine RJ_op rfl (OJ_P (P_pickT rfl rfl rfl) rfl ?_)
        refine RJ_op rfl (OJ_P (P_move rfl) rfl ?_)
        refine RJ_gn (GY_no rfl rfl rfl rfl) rfl rfl ?_
        refine RJ_gn (GY_no rfl rfl rfl rfl) rfl rfl ?_
        refine RJ_gn (GY_no rfl rfl rfl rfl) rfl rfl ?_
        refine RJ_op rfl (OJ_P (P_pickT rfl rfl rfl) rfl ?_)
        refine RJ_op rfl (OJ_P (P_move rfl) rfl ?_)
        refine RJ_gn (GY_no rfl rfl rfl rfl) rfl rfl ?_
        refine RJ_gn (GY_no rfl rfl rfl rfl) rfl rfl ?_
        refine RJ_op rfl (OJ_P (P_pickT rfl rfl rfl) rfl ?_)
        refine RJ_op rfl (OJ_P (P_move rfl) rfl ?_)
        refine RJ_gn (GY_no rfl rfl rfl rfl) rfl rfl ?_
        refine RJ_gn (GY_no rfl rfl rfl rfl) rfl rfl ?_
        refine RJ_gn (GY_no rfl rfl rfl rfl) rfl rfl ?_
        refine RJ_op rfl (OJ_P (P_pickT rfl rfl rfl) rfl ?_)
        refine RJ_op rfl (OJ_P (P_move rfl) rfl ?_)
        refine RJ_gn (GY_no rfl rfl rfl rfl) rfl rfl ?_
        refine RJ_gn (GY_no rfl rfl rfl rfl) rfl rfl ?_
        refine RJ_op rfl (OJ_P (P_pickT rfl rfl rfl) rfl ?_)
        refine RJ_op rfl (OJ_P (P_move rfl) rfl ?_)
        refine RJ_gn (GY_no rfl rfl rfl rfl) rfl rfl ?_
        refine RJ_gn (GY_no rfl rfl rfl rfl) rfl rfl ?_
        refine RJ_gn (GY_no rfl rfl rfl rfl) rfl rfl ?_
        refine RJ_op rfl (OJ_P (P_pickT rfl rfl rfl) rfl ?_)
        refine RJ_nil ?_
        refine QJ_then ?_
        refine CJ_condT rfl rfl ?_
        refine CJ_seq ?_
        refine CJ_region ?_
        refine RJ_op rfl (OJ_P (P_assign rfl) rfl ?_)
        refine RJ_nil ?_
        refine QJ_then ?_
        refine CJ_ret ?_
        refine QJ_then_ret ?_
        have hE := Option.some.inj h
        subst hE
        refine QJ_end (res1 Try.results6 rfl) ?_
        refine CSpec.close () ?_ ?_ (Ent.drop (Ent.drop (Ent.drop (Ent.drop (Ent.drop (Ent.drop (Ent.drop Ent.refl)))))))
        · rfl
        · trivial
      ·
        replace h := ite_f hg71 h
        refine RJ_gy (GY_yes rfl rfl rfl hg71B) (OJ_P (P_move rfl) rfl ?_)
        refine RJ_pure (fun h hh => DevP_dep h (stars_perm (del2 (A := DevP X13 r267 X269)).out h hh)) (fun hdp274 => ?_)
        obtain ⟨r275, hr276, h⟩ := bind_e h
        refine RJ_gy (GY_yes rfl rfl rfl hg71B) (O_callI rfl (dev_Size hr276 hdp274) rfl (Dels.cons del2 (Dels.cons del1 Dels.nil)) rfl (fun _ _ => ?_))
        refine RJ_gy (GY_yes rfl rfl rfl hg71B) (OJ_P (P_move rfl) rfl ?_)
        refine RJ_gy (GY_yes rfl rfl rfl hg71B) (OJ_P (P_and (a := a23.1) (m := (7 : Int)) rfl rfl (by decide)) rfl ?_)
        refine RJ_gy (GY_yes rfl rfl rfl hg71B) (OJ_P (P_neq (a := r275) (b := (andI a23.1 (7 : Int))) rfl rfl) rfl ?_)
        refine RJ_op rfl (OJ_P (P_pickF rfl hg71B rfl) rfl ?_)
        refine RJ_op rfl (OJ_P (P_move rfl) rfl ?_)
        refine RJ_splitP 238 rfl bT_dec (fun hg73B hg73 => ?_) (fun hg73B hg73 => ?_)
        ·
          replace h := ite_t hg73 h
          refine RJ_gn (GY_no rfl rfl rfl hg73B) rfl rfl ?_
          refine RJ_gn (GY_no rfl rfl rfl hg73B) rfl rfl ?_
          refine RJ_gn (GY_no rfl rfl rfl hg73B) rfl rfl ?_
          refine RJ_op rfl (OJ_P (P_pickT rfl hg73B rfl) rfl ?_)
          refine RJ_op rfl (OJ_P (P_move rfl) rfl ?_)
          refine RJ_gn (GY_no rfl rfl rfl rfl) rfl rfl ?_
          refine RJ_gn (GY_no rfl rfl rfl rfl) rfl rfl ?_
          refine RJ_gn (GY_no rfl rfl rfl rfl) rfl rfl ?_
          refine RJ_op rfl (OJ_P (P_pickT rfl rfl rfl) rfl ?_)
          refine RJ_op rfl (OJ_P (P_move rfl) rfl ?_)
          refine RJ_gn (GY_no rfl rfl rfl rfl) rfl rfl ?_
          refine RJ_gn (GY_no rfl rfl rfl rfl) rfl rfl ?_
          refine RJ_op rfl (OJ_P (P_pickT rfl rfl rfl) rfl ?_)
          refine RJ_op rfl (OJ_P (P_move rfl) rfl ?_)
          refine RJ_gn (GY_no rfl rfl rfl rfl) rfl rfl ?_
          refine RJ_gn (GY_no rfl rfl rfl rfl) rfl rfl ?_
          refine RJ_gn (GY_no rfl rfl rfl rfl) rfl rfl ?_
          refine RJ_op rfl (OJ_P (P_pickT rfl rfl rfl) rfl ?_)
          refine RJ_op rfl (OJ_P (P_move rfl) rfl ?_)
          refine RJ_gn (GY_no rfl rfl rfl rfl) rfl rfl ?_
          refine RJ_gn (GY_no rfl rfl rfl rfl) rfl rfl ?_
          refine RJ_op rfl (OJ_P (P_pickT rfl rfl rfl) rfl ?_)
          refine RJ_op rfl (OJ_P (P_move rfl) rfl ?_)
          refine RJ_gn (GY_no rfl rfl rfl rfl) rfl rfl ?_
          refine RJ_gn (GY_no rfl rfl rfl rfl) rfl rfl ?_
          refine RJ_gn (GY_no rfl rfl rfl rfl) rfl rfl ?_
          refine RJ_op rfl (OJ_P (P_pickT rfl rfl rfl) rfl ?_)
          refine RJ_nil ?_
          refine QJ_then ?_
          refine CJ_condT rfl rfl ?_
          refine CJ_seq ?_
          refine CJ_region ?_
          refine RJ_op rfl (OJ_P (P_assign rfl) rfl ?_)
          refine RJ_nil ?_
          refine QJ_then ?_
          refine CJ_ret ?_
          refine QJ_then_ret ?_
          have hE := Option.some.inj h
          subst hE
          refine QJ_end (res1 Try.results6 rfl) ?_
          refine CSpec.close () ?_ ?_ (Ent.drop (Ent.drop (Ent.drop (Ent.drop (Ent.drop (Ent.drop (Ent.drop Ent.refl)))))))
          · rfl
          · trivial
        ·
          replace h := ite_f hg73 h
          refine RJ_gy (GY_yes rfl rfl rfl hg73B) (OJ_P (P_move rfl) rfl ?_)
          refine RJ_pure (fun h hh => DevP_dep h (stars_perm (del2 (A := DevP X13 r263 X265)).out h hh)) (fun hdp277 => ?_)
          obtain ⟨r278, hr279, h⟩ := bind_e h
          refine RJ_gy (GY_yes rfl rfl rfl hg73B) (O_callI rfl (dev_Flush hr279 hdp277) rfl (Dels.cons del2 (Dels.cons del1 Dels.nil)) rfl (fun _ _ => ?_))
          refine RJ_gy (GY_yes rfl rfl rfl hg73B) (OJ_P (P_neq (a := r278.1) (b := (0 : Int)) rfl rfl) rfl ?_)
          refine RJ_op rfl (OJ_P (P_pickF rfl hg73B rfl) rfl ?_)
          refine RJ_op rfl (OJ_P (P_move rfl) rfl ?_)
          refine RJ_splitP 243 rfl bT_dec (fun hg74B hg74 => ?_) (fun hg74B hg74 => ?_)
          ·
            replace h := ite_t hg74 h
            refine RJ_gn (GY_no rfl rfl rfl hg74B) rfl rfl ?_
            refine RJ_gn (GY_no rfl rfl rfl hg74B) rfl rfl ?_
            refine RJ_gn (GY_no rfl rfl rfl hg74B) rfl rfl ?_
            refine RJ_op rfl (OJ_P (P_pickT rfl hg74B rfl) rfl ?_)
            refine RJ_op rfl (OJ_P (P_move rfl) rfl ?_)
            refine RJ_gn (GY_no rfl rfl rfl rfl) rfl rfl ?_
            refine RJ_gn (GY_no rfl rfl rfl rfl) rfl rfl ?_
            refine RJ_op rfl (OJ_P (P_pickT rfl rfl rfl) rfl ?_)
            refine RJ_op rfl (OJ_P (P_move rfl) rfl ?_)
            refine RJ_gn (GY_no rfl rfl rfl rfl) rfl rfl ?_
            refine RJ_gn (GY_no rfl rfl rfl rfl) rfl rfl ?_
            refine RJ_gn (GY_no rfl rfl rfl rfl) rfl rfl ?_
            refine RJ_op rfl (OJ_P (P_pickT rfl rfl rfl) rfl ?_)
            refine RJ_op rfl (OJ_P (P_move rfl) rfl ?_)
            refine RJ_gn (GY_no rfl rfl rfl rfl) rfl rfl ?_
            refine RJ_gn (GY_no rfl rfl rfl rfl) rfl rfl ?_
            refine RJ_op rfl (OJ_P (P_pickT rfl rfl rfl) rfl ?_)
            refine RJ_op rfl (OJ_P (P_move rfl) rfl ?_)
            refine RJ_gn (GY_no rfl rfl rfl rfl) rfl rfl ?_
            refine RJ_gn (GY_no rfl rfl rfl rfl) rfl rfl ?_
            refine RJ_gn (GY_no rfl rfl rfl rfl) rfl rfl ?_
            refine RJ_op rfl (OJ_P (P_pickT rfl rfl rfl) rfl ?_)
            refine RJ_nil ?_
            refine QJ_then ?_
            refine CJ_condT rfl rfl ?_
            refine CJ_seq ?_
            refine CJ_region ?_
            refine RJ_op rfl (OJ_P (P_assign rfl) rfl ?_)
            refine RJ_nil ?_
            refine QJ_then ?_
            refine CJ_ret ?_
            refine QJ_then_ret ?_
            have hE := Option.some.inj h
            subst hE
            refine QJ_end (res1 Try.results6 rfl) ?_
            refine CSpec.close () ?_ ?_ (Ent.drop (Ent.drop (Ent.drop (Ent.drop (Ent.drop (Ent.drop (Ent.drop Ent.refl)))))))
            · rfl
            · trivial
          ·
            replace h := ite_f hg74 h
            refine RJ_gy (GY_yes rfl rfl rfl hg74B) (OJ_P (P_move rfl) rfl ?_)
            refine RJ_pure (fun h hh => DevP_dep h (stars_perm (del2 (A := DevP X13 r267 X269)).out h hh)) (fun hdp280 => ?_)
            obtain ⟨r281, hr282, h⟩ := bind_e h
            refine RJ_gy (GY_yes rfl rfl rfl hg74B) (O_callI rfl (dev_Flush hr282 hdp280) rfl (Dels.cons del2 (Dels.cons del1 Dels.nil)) rfl (fun _ _ => ?_))
            refine RJ_gy (GY_yes rfl rfl rfl hg74B) (OJ_P (P_neq (a := r281.1) (b := (0 : Int)) rfl rfl) rfl ?_)
            refine RJ_op rfl (OJ_P (P_pickF rfl hg74B rfl) rfl ?_)
            refine RJ_op rfl (OJ_P (P_move rfl) rfl ?_)
            refine RJ_splitP 248 rfl bT_dec (fun hg75B hg75 => ?_) (fun hg75B hg75 => ?_)
            ·
              replace h := ite_t hg75 h
              refine RJ_gn (GY_no rfl rfl rfl hg75B) rfl rfl ?_
              refine RJ_gn (GY_no rfl rfl rfl hg75B) rfl rfl ?_
              refine RJ_op rfl (OJ_P (P_pickT rfl hg75B rfl) rfl ?_)
              refine RJ_op rfl (OJ_P (P_move rfl) rfl ?_)
              refine RJ_gn (GY_no rfl rfl rfl rfl) rfl rfl ?_
              refine RJ_gn (GY_no rfl rfl rfl rfl) rfl rfl ?_
              refine RJ_gn (GY_no rfl rfl rfl rfl) rfl rfl ?_
              refine RJ_op rfl (OJ_P (P_pickT rfl rfl rfl) rfl ?_)
              refine RJ_op rfl (OJ_P (P_move rfl) rfl ?_)
              refine RJ_gn (GY_no rfl rfl rfl rfl) rfl rfl ?_
              refine RJ_gn (GY_no rfl rfl rfl rfl) rfl rfl ?_
              refine RJ_op rfl (OJ_P (P_pickT rfl rfl rfl) rfl ?_)
              refine RJ_op rfl (OJ_P (P_move rfl) rfl ?_)
              refine RJ_gn (GY_no rfl rfl rfl rfl) rfl rfl ?_
              refine RJ_gn (GY_no rfl rfl rfl rfl) rfl rfl ?_
              refine RJ_gn (GY_no rfl rfl rfl rfl) rfl rfl ?_
              refine RJ_op rfl (OJ_P (P_pickT rfl rfl rfl) rfl ?_)
              refine RJ_nil ?_
              refine QJ_then ?_
              refine CJ_condT rfl rfl ?_
              refine CJ_seq ?_
              refine CJ_region ?_
              refine RJ_op rfl (OJ_P (P_assign rfl) rfl ?_)
              refine RJ_nil ?_
              refine QJ_then ?_
              refine CJ_ret ?_
              refine QJ_then_ret ?_
              have hE := Option.some.inj h
              subst hE
              refine QJ_end (res1 Try.results6 rfl) ?_
              refine CSpec.close () ?_ ?_ (Ent.drop (Ent.drop (Ent.drop (Ent.drop (Ent.drop (Ent.drop (Ent.drop Ent.refl)))))))
              · rfl
              · trivial
            ·
              replace h := ite_f hg75 h
              obtain ⟨r283, hr284, h⟩ := bind_e h
              refine RJ_gy (GY_yes rfl rfl rfl hg75B) (O_call (L_block_Zero hr284) rfl Try.call28 (Dels.cons del1 Dels.nil) rfl (fun X285 _ => ?_))
              refine RJ_gy (GY_yes rfl rfl rfl hg75B) (OJ_P (P_eqlIfN rfl rfl Try.underlying31) rfl ?_)
              refine RJ_op rfl (OJ_P (P_pickF rfl hg75B rfl) rfl ?_)
              refine RJ_op rfl (OJ_P (P_move rfl) rfl ?_)
              obtain ⟨r287, hr288, h⟩ := bind_e h
              refine RJ_gy (GY_yes rfl rfl rfl rfl) (O_call (L_block_Zero hr288) rfl Try.call28 (Dels.cons del0 Dels.nil) rfl (fun X289 _ => ?_))
              refine RJ_pure (fun h hh => DevP_dep h (stars_perm (del1 (A := DevP X13 r287 X289)).out h hh)) (fun hdp291 => ?_)
              obtain ⟨r292, hr293, h⟩ := bind_e h
              refine RJ_gy (GY_yes rfl rfl rfl rfl) (O_callI rfl (dev_Size hr293 hdp291) rfl (Dels.cons del1 (Dels.cons del0 Dels.nil)) rfl (fun _ _ => ?_))
              refine RJ_gy (GY_yes rfl rfl rfl rfl) (OJ_P (P_neq (a := r292) (b := (0 : Int)) rfl rfl) rfl ?_)
              refine RJ_op rfl (OJ_P (P_pickF rfl rfl rfl) rfl ?_)
              refine RJ_op rfl (OJ_P (P_move rfl) rfl ?_)
              refine RJ_splitP 257 rfl bT_dec (fun hg76B hg76 => ?_) (fun hg76B hg76 => ?_)
              ·
                replace h := ite_t hg76 h
                refine RJ_gn (GY_no rfl rfl rfl hg76B) rfl rfl ?_
                refine RJ_gn (GY_no rfl rfl rfl hg76B) rfl rfl ?_
                refine RJ_op rfl (OJ_P (P_pickT rfl hg76B rfl) rfl ?_)
                refine RJ_op rfl (OJ_P (P_move rfl) rfl ?_)
                refine RJ_gn (GY_no rfl rfl rfl rfl) rfl rfl ?_
                refine RJ_gn (GY_no rfl rfl rfl rfl) rfl rfl ?_
                refine RJ_gn (GY_no rfl rfl rfl rfl) rfl rfl ?_
                refine RJ_op rfl (OJ_P (P_pickT rfl rfl rfl) rfl ?_)
                refine RJ_nil ?_
                refine QJ_then ?_
                refine CJ_condT rfl rfl ?_
                refine CJ_seq ?_
                refine CJ_region ?_
                refine RJ_op rfl (OJ_P (P_assign rfl) rfl ?_)
                refine RJ_nil ?_
                refine QJ_then ?_
                refine CJ_ret ?_
                refine QJ_then_ret ?_
                have hE := Option.some.inj h
                subst hE
                refine QJ_end (res1 Try.results6 rfl) ?_
                refine CSpec.close () ?_ ?_ (Ent.drop (Ent.drop (Ent.drop (Ent.drop (Ent.drop (Ent.drop (Ent.drop (Ent.drop (Ent.drop Ent.refl)))))))))
                · rfl
                · trivial
              ·
                replace h := ite_f hg76 h
                obtain ⟨r294, hr295, h⟩ := bind_e h
                refine RJ_gy (GY_yes rfl rfl rfl hg76B) (O_call (L_block_Fail hr295) rfl Try.call29 (Dels.cons del1 Dels.nil) rfl (fun X296 _ => ?_))
                refine RJ_gy (GY_yes rfl rfl rfl hg76B) (OJ_P (P_eqlIfN rfl rfl Try.underlying31) rfl ?_)
                refine RJ_op rfl (OJ_P (P_pickF rfl hg76B rfl) rfl ?_)
                refine RJ_op rfl (OJ_P (P_move rfl) rfl ?_)
                obtain ⟨r298, hr299, h⟩ := bind_e h
                refine RJ_gy (GY_yes rfl rfl rfl rfl) (O_call (L_block_Fail hr299) rfl Try.call29 (Dels.cons del0 Dels.nil) rfl (fun X300 _ => ?_))
                refine RJ_pure (fun h hh => DevP_dep h (stars_perm (del1 (A := DevP X13 r298 X300)).out h hh)) (fun hdp302 => ?_)
                obtain ⟨r303, hr304, h⟩ := bind_e h
                refine RJ_gy (GY_yes rfl rfl rfl rfl) (O_callI rfl (dev_Size hr304 hdp302) rfl (Dels.cons del1 (Dels.cons del0 Dels.nil)) rfl (fun _ _ => ?_))
                refine RJ_gy (GY_yes rfl rfl rfl rfl) (OJ_P (P_neq (a := r303) (b := (0 : Int)) rfl rfl) rfl ?_)
                refine RJ_op rfl (OJ_P (P_pickF rfl rfl rfl) rfl ?_)
                refine RJ_nil ?_
                refine QJ_then ?_
                refine CJ_condP rfl bT_dec (fun hg77 => ?_) (fun hg77 => ?_)
                ·
                  replace h := ite_t hg77 h
                  refine CJ_seq ?_
                  refine CJ_region ?_
                  refine RJ_op rfl (OJ_P (P_assign rfl) rfl ?_)
                  refine RJ_nil ?_
                  refine QJ_then ?_
                  refine CJ_ret ?_
                  refine QJ_then_ret ?_
                  have hE := Option.some.inj h
                  subst hE
                  refine QJ_end (res1 Try.results6 rfl) ?_
                  refine CSpec.close () ?_ ?_ (Ent.drop (Ent.drop (Ent.drop (Ent.drop (Ent.drop (Ent.drop (Ent.drop (Ent.drop (Ent.drop (Ent.drop (Ent.drop Ent.refl)))))))))))
                  · rfl
                  · trivial
                ·
                  replace h := ite_f hg77 h
                  refine CJ_skip ?_
                  refine QJ_then ?_
                  refine CJ_seq ?_
                  refine CJ_region ?_
                  refine RJ_op rfl (OJ_P (P_move rfl) rfl ?_)
                  refine RJ_op rfl (OJ_P (P_move rfl) rfl ?_)
                  refine RJ_pure (fun h hh => DevP_dep h (stars_perm (del6 (A := DevP X13 r263 X265)).out h hh)) (fun hdp305 => ?_)
                  obtain ⟨r306, hr307, h⟩ := bind_e h
                  refine RJ_op rfl (O_callI rfl (dev_Read hr307 hdp305) rfl (Dels.cons del6 (Dels.cons del1 Dels.nil)) rfl (fun _ _ => ?_))
                  refine RJ_op rfl (OJ_P (P_move rfl) rfl ?_)
                  refine RJ_op rfl (OJ_P (P_extract rfl rfl) rfl ?_)
                  refine RJ_op rfl (OJ_P (P_extract rfl rfl) rfl ?_)
                  refine RJ_op rfl (OJ_P (P_assign rfl) rfl ?_)
                  refine RJ_op rfl (OJ_P (P_assign rfl) rfl ?_)
                  refine RJ_nil ?_
                  refine QJ_then ?_
                  refine CJ_seq ?_
                  refine CJ_region ?_
                  refine RJ_op rfl (OJ_P (P_move rfl) rfl ?_)
                  refine RJ_op rfl (OJ_P (P_move rfl) rfl ?_)
                  refine RJ_pure (fun h hh => DevP_dep h (stars_perm (del6 (A := DevP X13 r267 X269)).out h hh)) (fun hdp308 => ?_)
                  obtain ⟨r309, hr310, h⟩ := bind_e h
                  refine RJ_op rfl (O_callI rfl (dev_Read hr310 hdp308) rfl (Dels.cons del6 (Dels.cons del1 Dels.nil)) rfl (fun _ _ => ?_))
                  refine RJ_op rfl (OJ_P (P_move rfl) rfl ?_)
                  refine RJ_op rfl (OJ_P (P_extract rfl rfl) rfl ?_)
                  refine RJ_op rfl (OJ_P (P_extract rfl rfl) rfl ?_)
                  refine RJ_op rfl (OJ_P (P_assign rfl) rfl ?_)
                  refine RJ_op rfl (OJ_P (P_assign rfl) rfl ?_)
                  refine RJ_nil ?_
                  refine QJ_then ?_
                  refine CJ_seq ?_
                  refine CJ_seq ?_
                  refine CJ_region ?_
                  refine RJ_op rfl (OJ_P (P_move rfl) rfl ?_)
                  refine RJ_op rfl (OJ_P (P_lss (a := at_3) (b := (0 : Int)) rfl rfl) rfl ?_)
                  refine RJ_op rfl (OJ_P (P_move rfl) rfl ?_)
                  refine RJ_mbF rfl rfl rfl (fun hG311 => have hP312 : ¬ (at_3 < (0 : Int)) := nP (bT_dec) hG311; VJ_P (P_move rfl)) ?_
                  refine RJ_mbF rfl rfl rfl (fun hG313 => have hP314 : ¬ (at_3 < (0 : Int)) := nP (bT_dec) hG313; VJ_P (P_move rfl)) ?_
                  refine RJ_mbF rfl rfl rfl (fun hG315 => have hP316 : ¬ (at_3 < (0 : Int)) := nP (bT_dec) hG315; VJ_P (P_and (a := a23.1) (m := (7 : Int)) (mbx hG315 rfl) rfl (by decide))) ?_
                  refine RJ_mbF rfl rfl rfl (fun hG317 => have hP318 : ¬ (at_3 < (0 : Int)) := nP (bT_dec) hG317; VJ_P (P_geq (a := at_3) (b := (andI a23.1 (7 : Int))) (mbx hG317 rfl) (mbx hG317 rfl))) ?_
                  refine RJ_op rfl (OJ_P (P_pickOr rfl rfl (fun hh => mbx (not_f hh) rfl)) rfl ?_)
                  refine RJ_nil ?_
                  refine QJ_then ?_
                  refine CJ_condP rfl (bT_or bT_dec bT_dec) (fun hg79 => ?_) (fun hg79 => ?_)
                  ·
                    replace h := ite_t hg79 h
                    refine CJ_seq ?_
                    refine CJ_region ?_
                    refine RJ_op rfl (OJ_P (P_move rfl) rfl ?_)
                    refine RJ_op rfl (OJ_P (P_eql (a := r306.2) (b := (1 : Int)) rfl rfl) rfl ?_)
                    refine RJ_op rfl (OJ_P (P_move rfl) rfl ?_)
                    refine RJ_mbT rfl rfl rfl (fun hG319 => have hP320 : (r306.2 = (1 : Int)) := (bT_dec).1 hG319; VJ_P (P_move rfl)) ?_
                    refine RJ_mbT rfl rfl rfl (fun hG321 => have hP322 : (r306.2 = (1 : Int)) := (bT_dec).1 hG321; VJ_P (P_eql (a := r309.2) (b := (1 : Int)) (mbx hG321 rfl) rfl)) ?_
                    refine RJ_op rfl (OJ_P (P_pickAnd rfl (fun hh => mbx hh rfl) rfl) rfl ?_)
                    refine RJ_op rfl (OJ_P (P_move rfl) rfl ?_)
                    refine RJ_splitP 292 rfl (bT_and bT_dec bT_dec) (fun hg80B hg80 => ?_) (fun hg80B hg80 => ?_)
                    ·
                      replace h := ite_t hg80 h
                      refine RJ_gy (GY_yes rfl rfl rfl hg80B) (OJ_P (P_move rfl) rfl ?_)
                      refine RJ_gy (GY_yes rfl rfl rfl hg80B) (OJ_P (P_move rfl) rfl ?_)
                      refine RJ_pure (fun h hh => DevP_dep h (stars_perm (del2 (A := DevP X13 r263 X265)).out h hh)) (fun hdp323 => ?_)
                      obtain ⟨r324, hr325, h⟩ := bind_e h
                      refine RJ_gy (GY_yes rfl rfl rfl hg80B) (O_callI rfl (dev_Write hr325 hdp323) rfl (Dels.cons del2 (Dels.cons del1 Dels.nil)) rfl (fun _ _ => ?_))
                      refine RJ_gy (GY_yes rfl rfl rfl hg80B) (OJ_P (P_eql (a := r324.1) (b := (1 : Int)) rfl rfl) rfl ?_)
                      refine RJ_op rfl (OJ_P (P_pickT rfl hg80B rfl) rfl ?_)
                      refine RJ_op rfl (OJ_P (P_move rfl) rfl ?_)
                      refine RJ_splitP 298 rfl bT_dec (fun hg81B hg81 => ?_) (fun hg81B hg81 => ?_)
                      ·
                        replace h := ite_t hg81 h
                        refine RJ_gy (GY_yes rfl rfl rfl hg81B) (OJ_P (P_move rfl) rfl ?_)
                        refine RJ_gy (GY_yes rfl rfl rfl hg81B) (OJ_P (P_move rfl) rfl ?_)
                        refine RJ_pure (fun h hh => DevP_dep h (stars_perm (del2 (A := DevP X13 r267 X269)).out h hh)) (fun hdp326 => ?_)
                        obtain ⟨r327, hr328, h⟩ := bind_e h
                        refine RJ_gy (GY_yes rfl rfl rfl hg81B) (O_callI rfl (dev_Write hr328 hdp326) rfl (Dels.cons del2 (Dels.cons del1 Dels.nil)) rfl (fun _ _ => ?_))
                        refine RJ_gy (GY_yes rfl rfl rfl hg81B) (OJ_P (P_eql (a := r327.1) (b := (1 : Int)) rfl rfl) rfl ?_)
                        refine RJ_op rfl (OJ_P (P_pickT rfl hg81B rfl) rfl ?_)
                        refine RJ_op rfl (OJ_P (P_move rfl) rfl ?_)
                        refine RJ_splitP 304 rfl bT_dec (fun hg82B hg82 => ?_) (fun hg82B hg82 => ?_)
                        ·
                          replace h := ite_t hg82 h
                          obtain ⟨r329, hr330, h⟩ := bind_e h
                          refine RJ_gy (GY_yes rfl rfl rfl hg82B) (O_call (L_volumegrouplaw05_awake hr330) rfl Try.call21 Dels.nil rfl (fun _ _ => ?_))
                          refine RJ_op rfl (OJ_P (P_pickT rfl hg82B rfl) rfl ?_)
                          refine RJ_op rfl (OJ_P (P_assign rfl) rfl ?_)
                          refine RJ_nil ?_
                          refine QJ_then ?_
                          refine CJ_ret ?_
                          refine QJ_then_ret ?_
                          have hE := Option.some.inj h
                          subst hE
                          refine QJ_end (res1 Try.results6 rfl) ?_
                          refine CSpec.close () ?_ ?_ (Ent.drop (Ent.drop (Ent.drop (Ent.drop (Ent.drop (Ent.drop (Ent.drop (Ent.drop (Ent.drop (Ent.drop (Ent.drop Ent.refl)))))))))))
                          · rfl
                          · trivial
                        ·
                          replace h := ite_f hg82 h
                          refine RJ_gn (GY_no rfl rfl rfl hg82B) rfl rfl ?_
                          refine RJ_op rfl (OJ_P (P_pickF rfl hg82B rfl) rfl ?_)
                          refine RJ_op rfl (OJ_P (P_assign rfl) rfl ?_)
                          refine RJ_nil ?_
                          refine QJ_then ?_
                          refine CJ_ret ?_
                          refine QJ_then_ret ?_
                          have hE := Option.some.inj h
                          subst hE
                          refine QJ_end (res1 Try.results6 rfl) ?_
                          refine CSpec.close () ?_ ?_ (Ent.drop (Ent.drop (Ent.drop (Ent.drop (Ent.drop (Ent.drop (Ent.drop (Ent.drop (Ent.drop (Ent.drop (Ent.drop Ent.refl)))))))))))
                          · rfl
                          · trivial
                      ·
                        replace h := ite_f hg81 h
                        refine RJ_gn (GY_no rfl rfl rfl hg81B) rfl rfl ?_
                        refine RJ_gn (GY_no rfl rfl rfl hg81B) rfl rfl ?_
                        refine RJ_gn (GY_no rfl rfl rfl hg81B) rfl rfl ?_
                        refine RJ_gn (GY_no rfl rfl rfl hg81B) rfl rfl ?_
                        refine RJ_op rfl (OJ_P (P_pickF rfl hg81B rfl) rfl ?_)
                        refine RJ_op rfl (OJ_P (P_move rfl) rfl ?_)
                        refine RJ_gn (GY_no rfl rfl rfl rfl) rfl rfl ?_
                        refine RJ_op rfl (OJ_P (P_pickF rfl rfl rfl) rfl ?_)
                        refine RJ_op rfl (OJ_P (P_assign rfl) rfl ?_)
                        refine RJ_nil ?_
                        refine QJ_then ?_
                        refine CJ_ret ?_
                        refine QJ_then_ret ?_
                        have hE := Option.some.inj h
                        subst hE
                        refine QJ_end (res1 Try.results6 rfl) ?_
                        refine CSpec.close () ?_ ?_ (Ent.drop (Ent.drop (Ent.drop (Ent.drop (Ent.drop (Ent.drop (Ent.drop (Ent.drop (Ent.drop (Ent.drop (Ent.drop Ent.refl)))))))))))
                        · rfl
                        · trivial
                    ·
                      replace h := ite_f hg80 h
                      refine RJ_gn (GY_no rfl rfl rfl hg80B) rfl rfl ?_
                      refine RJ_gn (GY_no rfl rfl rfl hg80B) rfl rfl ?_
                      refine RJ_gn (GY_no rfl rfl rfl hg80B) rfl rfl ?_
                      refine RJ_gn (GY_no rfl rfl rfl hg80B) rfl rfl ?_
                      refine RJ_op rfl (OJ_P (P_pickF rfl hg80B rfl) rfl ?_)
                      refine RJ_op rfl (OJ_P (P_move rfl) rfl ?_)
                      refine RJ_gn (GY_no rfl rfl rfl rfl) rfl rfl ?_
                      refine RJ_gn (GY_no rfl rfl rfl rfl) rfl rfl ?_
                      refine RJ_gn (GY_no rfl rfl rfl rfl) rfl rfl ?_
                      refine RJ_gn (GY_no rfl rfl rfl rfl) rfl rfl ?_
                      refine RJ_op rfl (OJ_P (P_pickF rfl rfl rfl) rfl ?_)
                      refine RJ_op rfl (OJ_P (P_move rfl) rfl ?_)
                      refine RJ_gn (GY_no rfl rfl rfl rfl) rfl rfl ?_
                      refine RJ_op rfl (OJ_P (P_pickF rfl rfl rfl) rfl ?_)
                      refine RJ_op rfl (OJ_P (P_assign rfl) rfl ?_)
                      refine RJ_nil ?_
                      refine QJ_then ?_
                      refine CJ_ret ?_
                      refine QJ_then_ret ?_
                      have hE := Option.some.inj h
                      subst hE
                      refine QJ_end (res1 Try.results6 rfl) ?_
                      refine CSpec.close () ?_ ?_ (Ent.drop (Ent.drop (Ent.drop (Ent.drop (Ent.drop (Ent.drop (Ent.drop (Ent.drop (Ent.drop (Ent.drop (Ent.drop Ent.refl)))))))))))
                      · rfl
                      · trivial
                  ·
                    replace h := ite_f hg79 h
                    refine CJ_skip ?_
                    refine QJ_then ?_
                    refine CJ_seq ?_
                    refine CJ_region ?_
                    refine RJ_op rfl (OJ_P (P_move rfl) rfl ?_)
                    refine RJ_op rfl (OJ_P (P_eql (a := r306.2) (b := (0 : Int)) rfl rfl) rfl ?_)
                    refine RJ_op rfl (OJ_P (P_move rfl) rfl ?_)
                    refine RJ_mbT rfl rfl rfl (fun hG331 => have hP332 : (r306.2 = (0 : Int)) := (bT_dec).1 hG331; VJ_P (P_move rfl)) ?_
                    refine RJ_mbT rfl rfl rfl (fun hG333 => have hP334 : (r306.2 = (0 : Int)) := (bT_dec).1 hG333; VJ_P (P_eq_u64 (a := r306.1) (b := (0 : UInt64)) (mbx hG333 rfl) rfl)) ?_
                    refine RJ_op rfl (OJ_P (P_pickAnd rfl (fun hh => mbx hh rfl) rfl) rfl ?_)
                    refine RJ_op rfl (OJ_P (P_move rfl) rfl ?_)
                    refine RJ_mbT rfl rfl rfl (fun hG335 => have hP336 : ((r306.2 = (0 : Int)) ∧ (r306.1 = (0 : UInt64))) := ((bT_and bT_dec bT_dec)).1 hG335; VJ_P (P_move rfl)) ?_
                    refine RJ_mbT rfl rfl rfl (fun hG337 => have hP338 : ((r306.2 = (0 : Int)) ∧ (r306.1 = (0 : UInt64))) := ((bT_and bT_dec bT_dec)).1 hG337; VJ_P (P_eql (a := r309.2) (b := (7 : Int)) (mbx hG337 rfl) rfl)) ?_
                    refine RJ_op rfl (OJ_P (P_pickAnd rfl (fun hh => mbx hh rfl) rfl) rfl ?_)
                    refine RJ_op rfl (OJ_P (P_move rfl) rfl ?_)
                    refine RJ_splitP 317 rfl (bT_and (bT_and bT_dec bT_dec) bT_dec) (fun hg83B hg83 => ?_) (fun hg83B hg83 => ?_)
                    ·
                      replace h := ite_t hg83 h
                      refine RJ_gy (GY_yes rfl rfl rfl hg83B) (OJ_P (P_move rfl) rfl ?_)
                      refine RJ_gy (GY_yes rfl rfl rfl hg83B) (OJ_P (P_move rfl) rfl ?_)
                      refine RJ_pure (fun h hh => DevP_dep h (stars_perm (del2 (A := DevP X13 r263 X265)).out h hh)) (fun hdp339 => ?_)
                      obtain ⟨r340, hr341, h⟩ := bind_e h
                      refine RJ_gy (GY_yes rfl rfl rfl hg83B) (O_callI rfl (dev_Write hr341 hdp339) rfl (Dels.cons del2 (Dels.cons del1 Dels.nil)) rfl (fun _ _ => ?_))
                      refine RJ_gy (GY_yes rfl rfl rfl hg83B) (OJ_P (P_eql (a := r340.1) (b := (22 : Int)) rfl rfl) rfl ?_)
                      refine RJ_op rfl (OJ_P (P_pickT rfl hg83B rfl) rfl ?_)
                      refine RJ_op rfl (OJ_P (P_move rfl) rfl ?_)
                      refine RJ_splitP 323 rfl bT_dec (fun hg84B hg84 => ?_) (fun hg84B hg84 => ?_)
                      ·
                        replace h := ite_t hg84 h
                        refine RJ_gy (GY_yes rfl rfl rfl hg84B) (OJ_P (P_move rfl) rfl ?_)
                        refine RJ_gy (GY_yes rfl rfl rfl hg84B) (OJ_P (P_move rfl) rfl ?_)
                        refine RJ_pure (fun h hh => DevP_dep h (stars_perm (del2 (A := DevP X13 r267 X269)).out h hh)) (fun hdp342 => ?_)
                        obtain ⟨r343, hr344, h⟩ := bind_e h
                        refine RJ_gy (GY_yes rfl rfl rfl hg84B) (O_callI rfl (dev_Write hr344 hdp342) rfl (Dels.cons del2 (Dels.cons del1 Dels.nil)) rfl (fun _ _ => ?_))
                        refine RJ_gy (GY_yes rfl rfl rfl hg84B) (OJ_P (P_eql (a := r343.1) (b := (7 : Int)) rfl rfl) rfl ?_)
                        refine RJ_op rfl (OJ_P (P_pickT rfl hg84B rfl) rfl ?_)
                        refine RJ_op rfl (OJ_P (P_move rfl) rfl ?_)
                        refine RJ_splitP 329 rfl bT_dec (fun hg85B hg85 => ?_) (fun hg85B hg85 => ?_)
                        ·
                          replace h := ite_t hg85 h
                          obtain ⟨r345, hr346, h⟩ := bind_e h
                          refine RJ_gy (GY_yes rfl rfl rfl hg85B) (O_call (L_volumegrouplaw05_awake hr346) rfl Try.call21 Dels.nil rfl (fun _ _ => ?_))
                          refine RJ_op rfl (OJ_P (P_pickT rfl hg85B rfl) rfl ?_)
                          refine RJ_op rfl (OJ_P (P_assign rfl) rfl ?_)
                          refine RJ_nil ?_
                          refine QJ_then ?_
                          refine CJ_ret ?_
                          have hE := Option.some.inj h
                          subst hE
                          refine QJ_end (res1 Try.results6 rfl) ?_
                          refine CSpec.close () ?_ ?_ (Ent.drop (Ent.drop (Ent.drop (Ent.drop (Ent.drop (Ent.drop (Ent.drop (Ent.drop (Ent.drop (Ent.drop (Ent.drop Ent.refl)))))))))))
                          · rfl
                          · trivial
                        ·
                          replace h := ite_f hg85 h
                          refine RJ_gn (GY_no rfl rfl rfl hg85B) rfl rfl ?_
                          refine RJ_op rfl (OJ_P (P_pickF rfl hg85B rfl) rfl ?_)
                          refine RJ_op rfl (OJ_P (P_assign rfl) rfl ?_)
                          refine RJ_nil ?_
                          refine QJ_then ?_
                          refine CJ_ret ?_
                          have hE := Option.some.inj h
                          subst hE
                          refine QJ_end (res1 Try.results6 rfl) ?_
                          refine CSpec.close () ?_ ?_ (Ent.drop (Ent.drop (Ent.drop (Ent.drop (Ent.drop (Ent.drop (Ent.drop (Ent.drop (Ent.drop (Ent.drop (Ent.drop Ent.refl)))))))))))
                          · rfl
                          · trivial
                      ·
                        replace h := ite_f hg84 h
                        refine RJ_gn (GY_no rfl rfl rfl hg84B) rfl rfl ?_
                        refine RJ_gn (GY_no rfl rfl rfl hg84B) rfl rfl ?_
                        refine RJ_gn (GY_no rfl rfl rfl hg84B) rfl rfl ?_
                        refine RJ_gn (GY_no rfl rfl rfl hg84B) rfl rfl ?_
                        refine RJ_op rfl (OJ_P (P_pickF rfl hg84B rfl) rfl ?_)
                        refine RJ_op rfl (OJ_P (P_move rfl) rfl ?_)
                        refine RJ_gn (GY_no rfl rfl rfl rfl) rfl rfl ?_
                        refine RJ_op rfl (OJ_P (P_pickF rfl rfl rfl) rfl ?_)
                        refine RJ_op rfl (OJ_P (P_assign rfl) rfl ?_)
                        refine RJ_nil ?_
                        refine QJ_then ?_
                        refine CJ_ret ?_
                        have hE := Option.some.inj h
                        subst hE
                        refine QJ_end (res1 Try.results6 rfl) ?_
                        refine CSpec.close () ?_ ?_ (Ent.drop (Ent.drop (Ent.drop (Ent.drop (Ent.drop (Ent.drop (Ent.drop (Ent.drop (Ent.drop (Ent.drop (Ent.drop Ent.refl)))))))))))
                        · rfl
                        · trivial
                    ·
                      replace h := ite_f hg83 h
                      refine RJ_gn (GY_no rfl rfl rfl hg83B) rfl rfl ?_
                      refine RJ_gn (GY_no rfl rfl rfl hg83B) rfl rfl ?_
                      refine RJ_gn (GY_no rfl rfl rfl hg83B) rfl rfl ?_
                      refine RJ_gn (GY_no rfl rfl rfl hg83B) rfl rfl ?_
                      refine RJ_op rfl (OJ_P (P_pickF rfl hg83B rfl) rfl ?_)
                      refine RJ_op rfl (OJ_P (P_move rfl) rfl ?_)
                      refine RJ_gn (GY_no rfl rfl rfl rfl) rfl rfl ?_
                      refine RJ_gn (GY_no rfl rfl rfl rfl) rfl rfl ?_
                      refine RJ_gn (GY_no rfl rfl rfl rfl) rfl rfl ?_
                      refine RJ_gn (GY_no rfl rfl rfl rfl) rfl rfl ?_
                      refine RJ_op rfl (OJ_P (P_pickF rfl rfl rfl) rfl ?_)
                      refine RJ_op rfl (OJ_P (P_move rfl) rfl ?_)
                      refine RJ_gn (GY_no rfl rfl rfl rfl) rfl rfl ?_
                      refine RJ_op rfl (OJ_P (P_pickF rfl rfl rfl) rfl ?_)
                      refine RJ_op rfl (OJ_P (P_assign rfl) rfl ?_)
                      refine RJ_nil ?_
                      refine QJ_then ?_
                      refine CJ_ret ?_
                      have hE := Option.some.inj h
                      subst hE
                      refine QJ_end (res1 Try.results6 rfl) ?_
                      refine CSpec.close () ?_ ?_ (Ent.drop (Ent.drop (Ent.drop (Ent.drop (Ent.drop (Ent.drop (Ent.drop (Ent.drop (Ent.drop (Ent.drop (Ent.drop Ent.refl)))))))))))
                      · rfl
                      · trivial

end Go.Proofs
