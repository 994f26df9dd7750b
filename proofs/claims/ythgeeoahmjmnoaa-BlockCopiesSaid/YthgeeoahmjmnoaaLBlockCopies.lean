/- YthgeeoahmjmnoaaLBlockCopies: lifted functions of the program; printed by lift.py. -/
import Derived.Test.YthgeeoahmjmnoaaLCopy
set_option linter.unusedSimpArgs false
set_option linter.unusedVariables false
set_option maxRecDepth 20000
set_option maxHeartbeats 4000000
namespace Go.Proofs
open Go.VG

@[ext] structure Arr72 where
  e0 : Int
  e1 : Int
  deriving DecidableEq
abbrev tyArr72 : Ty Arr72 := { T := 72, sz := 2, enc := fun x => [.int .i64 x.e0, .int .i64 x.e1], dflt := ⟨0, 0⟩, len := fun _ => rfl, one := fun _ => rfl, pos := by decide }
theorem ok_tyArr72 : ElemOk Try.prog tyArr72 16 := ⟨Try.t72, .agg #[.int .i64 0, .int .i64 0], by kernel_rfl, rfl, rfl, rfl, rfl⟩

theorem bld_72_0_1 (v0 : Int) (v1 : Int) : ∀ w, (Instr.build 72 (#[(0, .int .i64 v0), (1, .int .i64 v1)] : Array (Nat × Value))).run Try.prog w = .ok (.agg #[.int .i64 v0, .int .i64 v1]) w := fun w => by kernel_rfl
theorem bs_73_2_0_1 (v0 : Int) (v1 : Int) (v2 : Int) (v3 : Int) : BuildsSlice Try.prog 73 2 [(0, .agg #[.int .i64 v0, .int .i64 v1]), (1, .agg #[.int .i64 v2, .int .i64 v3])] 72 [.int .i64 v0, .int .i64 v1, .int .i64 v2, .int .i64 v3] := fun w => by kernel_rfl
def volumegrouplaw05_BlockCopies_l4_b (w11 : Int) (w12 : Int) (rec : ArrS → Int → Option (ArrS)) (x171 : ArrS) (x172 : Int) : Option (ArrS) :=
  if (x172 < (w11 + w12)) then
    grd (inLen x171.writes) <|
    grd (inI64 ((x172 + (1 : Int)))) <|
    rec ((wrS x171 (1 : Int) x172 (1 : UInt64))) ((x172 + (1 : Int)))
  else
    some x171

def volumegrouplaw05_BlockCopies_l4 (w11 : Int) (w12 : Int) : Nat → ArrS → Int → Option (ArrS)
  | 0, _, _ => none
  | n + 1, x171, x172 => volumegrouplaw05_BlockCopies_l4_b w11 w12 (volumegrouplaw05_BlockCopies_l4 w11 w12 n) x171 x172

def volumegrouplaw05_BlockCopies_l5_b (bad : UInt8) (r176 : Int × ArrS) (w11 : Int) (w12 : Int) (r29 : (List Dvc)) (a107 : (List UInt64)) (rec : Int → Option ((Unit) ⊕ ((Unit) ⊕ Bool))) (x182 : Int) : Option ((Unit) ⊕ ((Unit) ⊕ Bool)) :=
  if (x182 < (w11 + w12)) then
    Option.bind (Dvc.rd (r29.getD 1 dv0) r176.2 x182) fun r185 =>
    grd (decide ((¬ (r185.2 ≠ (0 : Int))) → (x182 < (w11 + (((bad.toNat : Nat) : Int) % w12))) → 0 ≤ x182 ∧ x182 < (a107.length : Int))) <|
    if (((r185.2 ≠ (0 : Int)) ∨ ((x182 < (w11 + (((bad.toNat : Nat) : Int) % w12))) ∧ (r185.1 ≠ (a107.getD ((x182).toNat) 0)))) ∨ (((w11 + (((bad.toNat : Nat) : Int) % w12)) ≤ x182) ∧ (r185.1 ≠ (1 : UInt64)))) then
      some (.inr (.inr false))
    else
      grd (inI64 ((x182 + (1 : Int)))) <|
      rec ((x182 + (1 : Int)))
  else
    some (.inl ())

def volumegrouplaw05_BlockCopies_l5 (bad : UInt8) (r176 : Int × ArrS) (w11 : Int) (w12 : Int) (r29 : (List Dvc)) (a107 : (List UInt64)) : Nat → Int → Option ((Unit) ⊕ ((Unit) ⊕ Bool))
  | 0, _ => none
  | n + 1, x182 => volumegrouplaw05_BlockCopies_l5_b bad r176 w11 w12 r29 a107 (volumegrouplaw05_BlockCopies_l5 bad r176 w11 w12 r29 a107 n) x182

def volumegrouplaw05_BlockCopies_l8_b (w11 : Int) (w12 : Int) (rec : ArrS → Int → Option (ArrS)) (x317 : ArrS) (x318 : Int) : Option (ArrS) :=
  if (x318 < (w11 + w12)) then
    grd (inLen x317.writes) <|
    grd (inI64 ((x318 + (1 : Int)))) <|
    rec ((wrS x317 (1 : Int) x318 (1 : UInt64))) ((x318 + (1 : Int)))
  else
    some x317

def volumegrouplaw05_BlockCopies_l8 (w11 : Int) (w12 : Int) : Nat → ArrS → Int → Option (ArrS)
  | 0, _, _ => none
  | n + 1, x317, x318 => volumegrouplaw05_BlockCopies_l8_b w11 w12 (volumegrouplaw05_BlockCopies_l8 w11 w12 n) x317 x318

def volumegrouplaw05_BlockCopies_l9_b (bad : UInt8) (w11 : Int) (w12 : Int) (r29 : (List Dvc)) (a253 : (List UInt64)) (r322 : Int × ArrS) (rec : Int → Option ((Unit) ⊕ ((Unit) ⊕ Bool))) (x328 : Int) : Option ((Unit) ⊕ ((Unit) ⊕ Bool)) :=
  if (x328 < (w11 + w12)) then
    Option.bind (Dvc.rd (r29.getD 1 dv0) r322.2 x328) fun r331 =>
    grd (decide ((¬ (r331.2 ≠ (0 : Int))) → (x328 < (w11 + (((bad.toNat : Nat) : Int) % w12))) → 0 ≤ x328 ∧ x328 < (a253.length : Int))) <|
    if (((r331.2 ≠ (0 : Int)) ∨ ((x328 < (w11 + (((bad.toNat : Nat) : Int) % w12))) ∧ (r331.1 ≠ (a253.getD ((x328).toNat) 0)))) ∨ (((w11 + (((bad.toNat : Nat) : Int) % w12)) ≤ x328) ∧ (r331.1 ≠ (1 : UInt64)))) then
      some (.inr (.inr false))
    else
      grd (inI64 ((x328 + (1 : Int)))) <|
      rec ((x328 + (1 : Int)))
  else
    some (.inl ())

def volumegrouplaw05_BlockCopies_l9 (bad : UInt8) (w11 : Int) (w12 : Int) (r29 : (List Dvc)) (a253 : (List UInt64)) (r322 : Int × ArrS) : Nat → Int → Option ((Unit) ⊕ ((Unit) ⊕ Bool))
  | 0, _ => none
  | n + 1, x328 => volumegrouplaw05_BlockCopies_l9_b bad w11 w12 r29 a253 r322 (volumegrouplaw05_BlockCopies_l9 bad w11 w12 r29 a253 r322 n) x328

def volumegrouplaw05_BlockCopies_l1_b (at_0 : Int) (n_1 : Int) (l : List UInt64) (bad : UInt8) (rec : Nat → Option ((Unit) ⊕ Bool)) (x9 : Nat) : Option ((Unit) ⊕ Bool) :=
  lt (([(⟨at_0, n_1⟩ : Arr72), (⟨(andI at_0 (7 : Int)), (andI n_1 (7 : Int))⟩ : Arr72)]).length) fun w10 =>
  if (((x9 : Nat) : Int) < ((w10 : Nat) : Int)) then
    lt (((([(⟨at_0, n_1⟩ : Arr72), (⟨(andI at_0 (7 : Int)), (andI n_1 (7 : Int))⟩ : Arr72)]).getD x9 (⟨0, 0⟩ : Arr72))).e0) fun w11 =>
    lt (((([(⟨at_0, n_1⟩ : Arr72), (⟨(andI at_0 (7 : Int)), (andI n_1 (7 : Int))⟩ : Arr72)]).getD x9 (⟨0, 0⟩ : Arr72))).e1) fun w12 =>
    Option.bind (volumegroupmake_Words (6 : Int) (7 : UInt64)) fun r13 =>
    Option.bind (volumegroupmake_Words (6 : Int) (500 : UInt64)) fun r17 =>
    Option.bind (volumegroupmake_Loaded (([r13, r17] : List (List UInt64)))) fun r23 =>
    Option.elim r23 (
      some (.inr false)) fun o28 =>
    Option.bind (volumegroupmake_Spans o28) fun r29 =>
    if (((r29.length : Nat) : Int) ≠ (2 : Int)) then
      some (.inr false)
    else
      Option.bind (block_ReadAll (r29.getD 0 dv0) w11 w12 o28) fun r66 =>
      if ((¬ ((r66.2 = (0 : Int)) ↔ (((((0 : Int) ≤ w11) ∧ (w11 ≤ (6 : Int))) ∧ ((0 : Int) ≤ w12)) ∧ (w12 ≤ ((6 : Int) - w11))))) ∨ ((¬ (((((0 : Int) ≤ w11) ∧ (w11 ≤ (6 : Int))) ∧ ((0 : Int) ≤ w12)) ∧ (w12 ≤ ((6 : Int) - w11)))) ∧ (r66.2 ≠ (1 : Int)))) then
        some (.inr false)
      else
        if (((((0 : Int) ≤ w11) ∧ (w11 ≤ (6 : Int))) ∧ ((0 : Int) ≤ w12)) ∧ (w12 ≤ ((6 : Int) - w11))) then
          grd (decide (0 ≤ w11 ∧ 0 ≤ (w11 + w12) ∧ (w11).toNat ≤ ((w11 + w12)).toNat ∧ ((w11 + w12)).toNat ≤ r13.length)) <|
          Option.bind (volumegroupref05_Same r66.1 (((r13.take (((w11 + w12)).toNat)).drop ((w11).toNat)))) fun r84 =>
          if (¬ r84 = true) then
            some (.inr false)
          else
            Option.bind (block_WriteAll (r29.getD 0 dv0) w11 l o28) fun r87 =>
            if ((¬ ((r87.1 = (0 : Int)) ↔ ((((0 : Int) ≤ w11) ∧ (w11 ≤ (6 : Int))) ∧ (((l.length : Nat) : Int) ≤ ((6 : Int) - w11))))) ∨ ((¬ ((((0 : Int) ≤ w11) ∧ (w11 ≤ (6 : Int))) ∧ (((l.length : Nat) : Int) ≤ ((6 : Int) - w11)))) ∧ (r87.1 ≠ (1 : Int)))) then
              some (.inr false)
            else
              Option.bind ((
                if ((((0 : Int) ≤ w11) ∧ (w11 ≤ (6 : Int))) ∧ (((l.length : Nat) : Int) ≤ ((6 : Int) - w11))) then
                  grd (decide (0 ≤ w11 ∧ (w11).toNat ≤ r13.length ∧ r13.length ≤ r13.length)) <|
                  some ((copiedAt r13 ((w11).toNat) r13.length l))
                else
                  some r13 : Option ((List UInt64)))) fun a107 =>
              Option.bind (block_Copy (r29.getD 0 dv0) (r29.getD 1 dv0) w11 w12 r87.2) fun r111 =>
              if ((¬ ((r111.1 = (0 : Int)) ↔ (((((0 : Int) ≤ w11) ∧ (w11 ≤ (6 : Int))) ∧ ((0 : Int) ≤ w12)) ∧ (w12 ≤ ((6 : Int) - w11))))) ∨ ((¬ (((((0 : Int) ≤ w11) ∧ (w11 ≤ (6 : Int))) ∧ ((0 : Int) ≤ w12)) ∧ (w12 ≤ ((6 : Int) - w11)))) ∧ (r111.1 ≠ (1 : Int)))) then
                some (.inr false)
              else
                Option.bind ((
                  if (((((0 : Int) ≤ w11) ∧ (w11 ≤ (6 : Int))) ∧ ((0 : Int) ≤ w12)) ∧ (w12 ≤ ((6 : Int) - w11))) then
                    grd (decide (0 ≤ w11 ∧ 0 ≤ (w11 + w12) ∧ (w11).toNat ≤ ((w11 + w12)).toNat ∧ ((w11 + w12)).toNat ≤ r17.length)) <|
                    grd (decide (0 ≤ w11 ∧ 0 ≤ (w11 + w12) ∧ (w11).toNat ≤ ((w11 + w12)).toNat ∧ ((w11 + w12)).toNat ≤ a107.length)) <|
                    lt ((min (((a107.take (((w11 + w12)).toNat)).drop ((w11).toNat))).length ((((w11 + w12)).toNat) - ((w11).toNat)))) fun w132 =>
                    some ((copiedAt r17 ((w11).toNat) (((w11 + w12)).toNat) (((a107.take (((w11 + w12)).toNat)).drop ((w11).toNat)))))
                  else
                    some r17 : Option ((List UInt64)))) fun a131 =>
                Option.bind (block_Equal (r29.getD 0 dv0) (r29.getD 1 dv0) w11 w12 r111.2) fun r136 =>
                if ((((¬ ((r136.2 = (0 : Int)) ↔ (((((0 : Int) ≤ w11) ∧ (w11 ≤ (6 : Int))) ∧ ((0 : Int) ≤ w12)) ∧ (w12 ≤ ((6 : Int) - w11))))) ∨ (¬ (r136.1 = true ↔ (((((0 : Int) ≤ w11) ∧ (w11 ≤ (6 : Int))) ∧ ((0 : Int) ≤ w12)) ∧ (w12 ≤ ((6 : Int) - w11)))))) ∨ ((imC r111.2 (0 : Int)) ≠ (0 : Int))) ∨ ((imC r111.2 (1 : Int)) ≠ (0 : Int))) then
                  some (.inr false)
                else
                  Option.bind (volumegroupref05_Same ((imL r111.2 (0 : Int))) a107) fun r158 =>
                  if (¬ r158 = true) then
                    some (.inr false)
                  else
                    Option.bind (volumegroupref05_Same ((imL r111.2 (1 : Int))) a131) fun r160 =>
                    if (¬ r160 = true) then
                      some (.inr false)
                    else
                      if ((¬ (((((0 : Int) ≤ w11) ∧ (w11 ≤ (6 : Int))) ∧ ((0 : Int) ≤ w12)) ∧ (w12 ≤ ((6 : Int) - w11)))) ∨ (w12 = (0 : Int))) then
                        grd (inN64 (x9 + 1)) <|
                        rec (x9 + 1)
                      else
                        grd (inI64 ((w11 + (((bad.toNat : Nat) : Int) % w12)))) <|
                        Option.bind (volumegrouplaw05_BlockCopies_l4 w11 w12 FUEL ((sbS r111.2 (0 : Int) ((w11 + (((bad.toNat : Nat) : Int) % w12))) true)) w11) fun a170 =>
                        Option.bind (block_Copy (r29.getD 0 dv0) (r29.getD 1 dv0) w11 w12 a170) fun r176 =>
                        if (r176.1 ≠ (7 : Int)) then
                          some (.inr false)
                        else
                          seqO (volumegrouplaw05_BlockCopies_l5 bad r176 w11 w12 r29 a107 FUEL w11) fun a181 =>
                          grd (inN64 (x9 + 1)) <|
                          rec (x9 + 1)
        else
          Option.bind (block_WriteAll (r29.getD 0 dv0) w11 l o28) fun r233 =>
          if ((¬ ((r233.1 = (0 : Int)) ↔ ((((0 : Int) ≤ w11) ∧ (w11 ≤ (6 : Int))) ∧ (((l.length : Nat) : Int) ≤ ((6 : Int) - w11))))) ∨ ((¬ ((((0 : Int) ≤ w11) ∧ (w11 ≤ (6 : Int))) ∧ (((l.length : Nat) : Int) ≤ ((6 : Int) - w11)))) ∧ (r233.1 ≠ (1 : Int)))) then
            some (.inr false)
          else
            Option.bind ((
              if ((((0 : Int) ≤ w11) ∧ (w11 ≤ (6 : Int))) ∧ (((l.length : Nat) : Int) ≤ ((6 : Int) - w11))) then
                grd (decide (0 ≤ w11 ∧ (w11).toNat ≤ r13.length ∧ r13.length ≤ r13.length)) <|
                some ((copiedAt r13 ((w11).toNat) r13.length l))
              else
                some r13 : Option ((List UInt64)))) fun a253 =>
            Option.bind (block_Copy (r29.getD 0 dv0) (r29.getD 1 dv0) w11 w12 r233.2) fun r257 =>
            if ((¬ ((r257.1 = (0 : Int)) ↔ (((((0 : Int) ≤ w11) ∧ (w11 ≤ (6 : Int))) ∧ ((0 : Int) ≤ w12)) ∧ (w12 ≤ ((6 : Int) - w11))))) ∨ ((¬ (((((0 : Int) ≤ w11) ∧ (w11 ≤ (6 : Int))) ∧ ((0 : Int) ≤ w12)) ∧ (w12 ≤ ((6 : Int) - w11)))) ∧ (r257.1 ≠ (1 : Int)))) then
              some (.inr false)
            else
              Option.bind ((
                if (((((0 : Int) ≤ w11) ∧ (w11 ≤ (6 : Int))) ∧ ((0 : Int) ≤ w12)) ∧ (w12 ≤ ((6 : Int) - w11))) then
                  grd (decide (0 ≤ w11 ∧ 0 ≤ (w11 + w12) ∧ (w11).toNat ≤ ((w11 + w12)).toNat ∧ ((w11 + w12)).toNat ≤ r17.length)) <|
                  grd (decide (0 ≤ w11 ∧ 0 ≤ (w11 + w12) ∧ (w11).toNat ≤ ((w11 + w12)).toNat ∧ ((w11 + w12)).toNat ≤ a253.length)) <|
                  lt ((min (((a253.take (((w11 + w12)).toNat)).drop ((w11).toNat))).length ((((w11 + w12)).toNat) - ((w11).toNat)))) fun w278 =>
                  some ((copiedAt r17 ((w11).toNat) (((w11 + w12)).toNat) (((a253.take (((w11 + w12)).toNat)).drop ((w11).toNat)))))
                else
                  some r17 : Option ((List UInt64)))) fun a277 =>
              Option.bind (block_Equal (r29.getD 0 dv0) (r29.getD 1 dv0) w11 w12 r257.2) fun r282 =>
              if ((((¬ ((r282.2 = (0 : Int)) ↔ (((((0 : Int) ≤ w11) ∧ (w11 ≤ (6 : Int))) ∧ ((0 : Int) ≤ w12)) ∧ (w12 ≤ ((6 : Int) - w11))))) ∨ (¬ (r282.1 = true ↔ (((((0 : Int) ≤ w11) ∧ (w11 ≤ (6 : Int))) ∧ ((0 : Int) ≤ w12)) ∧ (w12 ≤ ((6 : Int) - w11)))))) ∨ ((imC r257.2 (0 : Int)) ≠ (0 : Int))) ∨ ((imC r257.2 (1 : Int)) ≠ (0 : Int))) then
                some (.inr false)
              else
                Option.bind (volumegroupref05_Same ((imL r257.2 (0 : Int))) a253) fun r304 =>
                if (¬ r304 = true) then
                  some (.inr false)
                else
                  Option.bind (volumegroupref05_Same ((imL r257.2 (1 : Int))) a277) fun r306 =>
                  if (¬ r306 = true) then
                    some (.inr false)
                  else
                    if ((¬ (((((0 : Int) ≤ w11) ∧ (w11 ≤ (6 : Int))) ∧ ((0 : Int) ≤ w12)) ∧ (w12 ≤ ((6 : Int) - w11)))) ∨ (w12 = (0 : Int))) then
                      grd (inN64 (x9 + 1)) <|
                      rec (x9 + 1)
                    else
                      grd (inI64 ((w11 + (((bad.toNat : Nat) : Int) % w12)))) <|
                      Option.bind (volumegrouplaw05_BlockCopies_l8 w11 w12 FUEL ((sbS r257.2 (0 : Int) ((w11 + (((bad.toNat : Nat) : Int) % w12))) true)) w11) fun a316 =>
                      Option.bind (block_Copy (r29.getD 0 dv0) (r29.getD 1 dv0) w11 w12 a316) fun r322 =>
                      if (r322.1 ≠ (7 : Int)) then
                        some (.inr false)
                      else
                        seqO (volumegrouplaw05_BlockCopies_l9 bad w11 w12 r29 a253 r322 FUEL w11) fun a327 =>
                        grd (inN64 (x9 + 1)) <|
                        rec (x9 + 1)
  else
    some (.inl ())

def volumegrouplaw05_BlockCopies_l1 (at_0 : Int) (n_1 : Int) (l : List UInt64) (bad : UInt8) : Nat → Nat → Option ((Unit) ⊕ Bool)
  | 0, _ => none
  | n + 1, x9 => volumegrouplaw05_BlockCopies_l1_b at_0 n_1 l bad (volumegrouplaw05_BlockCopies_l1 at_0 n_1 l bad n) x9

def volumegrouplaw05_BlockCopies (at_0 : Int) (n_1 : Int) (l : List UInt64) (bad : UInt8) : Option (Bool) :=
  if ((12 : Int) < ((l.length : Nat) : Int)) then
    Option.bind (volumegrouplaw05_awake) fun r2 =>
    some r2
  else
    seqO (volumegrouplaw05_BlockCopies_l1 at_0 n_1 l bad FUEL 0) fun a8 =>
    Option.bind (volumegrouplaw05_awake) fun r379 =>
    some r379

theorem L_volumegrouplaw05_BlockCopies {W : World} {Al : HP} {vl : Value} {at_0 : Int} {n_1 : Int} {l : List UInt64} {bad : UInt8} {r : Bool} (rl : Reads Al tyU vl l) (h : volumegrouplaw05_BlockCopies at_0 n_1 l bad = some r) :
    CSpec Try.prog W 9 [.int .i64 at_0, .int .i64 n_1, vl, .int .u8 (bad.toNat : Int)] [Al] (fun x : Unit => .bool r) (fun _ => True) (fun x F => Al :: F) := by
  refine CSpec.of_body Try.func9 rfl Try.ntmps9 rfl (fun F => ?_)
  show CJ _ _ _ _ _ _ (_ :: F)
  unfold volumegrouplaw05_BlockCopies at h
  refine CJ_pure (len_of rl del0) (fun hlen1 => ?_)
  refine CJ_seq ?_
  refine CJ_region ?_
  refine RJ_op rfl (OJ_P (P_assign rfl) rfl ?_)
  refine RJ_nil ?_
  refine QJ_then ?_
  refine CJ_seq ?_
  refine CJ_seq ?_
  refine CJ_region ?_
  refine RJ_op rfl (OJ_P (P_move rfl) rfl ?_)
  refine RJ_op rfl (OJ_V (V_len rfl foc0 rl Try.runUnderlying25) rfl ?_)
  refine RJ_op rfl (OJ_P (P_gtr (a := ((l.length : Nat) : Int)) (b := (12 : Int)) rfl rfl) rfl ?_)
  refine RJ_nil ?_
  refine QJ_then ?_
  refine CJ_condP rfl bT_dec (fun hg1 => ?_) (fun hg1 => ?_)
  ·
    replace h := ite_t hg1 h
    refine CJ_seq ?_
    refine CJ_region ?_
    obtain ⟨r2, hr3, h⟩ := bind_e h
    refine RJ_op rfl (O_call (L_volumegrouplaw05_awake hr3) rfl Try.call21 Dels.nil rfl (fun _ _ => ?_))
    refine RJ_op rfl (OJ_P (P_assign rfl) rfl ?_)
    refine RJ_nil ?_
    refine QJ_then ?_
    refine CJ_ret ?_
    refine QJ_then_ret ?_
    have hE := Option.some.inj h
    subst hE
    refine QJ_end (res1 Try.results9 rfl) ?_
    refine CSpec.close () ?_ ?_ (Ent.take del0 Ent.refl)
    · rfl
    · trivial
  ·
    replace h := ite_f hg1 h
    refine CJ_skip ?_
    refine QJ_then ?_
    refine CJ_seq ?_
    refine CJ_region ?_
    refine RJ_op rfl (OJ_P (P_move rfl) rfl ?_)
    refine RJ_op rfl (OJ_P (P_move rfl) rfl ?_)
    refine RJ_op rfl (OJ_P (P_build rfl (bld_72_0_1 _ _)) rfl ?_)
    refine RJ_op rfl (OJ_P (P_move rfl) rfl ?_)
    refine RJ_op rfl (OJ_P (P_and (a := at_0) (m := (7 : Int)) rfl rfl (by decide)) rfl ?_)
    refine RJ_op rfl (OJ_P (P_move rfl) rfl ?_)
    refine RJ_op rfl (OJ_P (P_and (a := n_1) (m := (7 : Int)) rfl rfl (by decide)) rfl ?_)
    refine RJ_op rfl (OJ_P (P_build rfl (bld_72_0_1 _ _)) rfl ?_)
    refine RJ_op rfl (O_buildSlice rfl (bs_73_2_0_1 _ _ _ _) rfl (fun b4 => ?_))
    refine RJ_ent (Ent.trans (Ent.take del0 Ent.refl) (sl_of_lit (t := tyArr72) (m := 2) [(⟨at_0, n_1⟩ : Arr72), (⟨(andI at_0 (7 : Int)), (andI n_1 (7 : Int))⟩ : Arr72)] rfl rfl rfl (by decide))) ?_
    refine RJ_op rfl (OJ_P (P_assign rfl) rfl ?_)
    refine RJ_nil ?_
    refine QJ_then ?_
    refine CJ_seq ?_
    refine CJ_seq ?_
    refine CJ_region ?_
    refine RJ_op rfl (OJ_P (P_assign rfl) rfl ?_)
    refine RJ_nil ?_
    refine QJ_then ?_
    obtain ⟨y7, hl5, hK6⟩ := seq_e h
    refine CJ_cutT (X := Unit) [0, 1, 8, 10, 11, 12, 13, 14, 15, 16, 17, 18, 19, 20, 21, 22, 23, 24, 25, 26, 27, 28, 29, 30, 31, 45, 46, 47, 48, 49, 50, 51, 52, 53, 54, 55, 56, 57, 58, 59, 60, 61, 62, 63, 64, 65, 66, 67, 68, 69, 70, 71, 72, 73, 74, 75, 76, 77, 78, 79, 80, 81, 82, 83, 84, 85, 86, 87, 88, 89, 90, 91, 92, 93, 94, 95, 96, 97, 98, 99, 100, 101, 102, 103, 104, 105, 106, 107, 108, 109, 110, 111, 112, 113, 114, 115, 116, 117, 118, 119, 120, 121, 122, 123, 124, 125, 126, 127, 128, 129, 130, 131, 132, 133, 134, 135, 136, 137, 138, 139, 140, 141, 142, 143, 144, 145, 146, 147, 148, 149, 150, 151, 152, 153, 154, 155, 156, 157, 158, 159, 160, 161, 162, 163, 164, 165, 166, 167, 168, 169, 170, 171, 172, 173, 174, 175, 176, 177, 178, 179, 180, 181, 182, 183, 184, 185, 186, 187, 188, 189, 190, 191, 192, 193, 194, 195, 196, 197, 198, 199, 200, 201, 202, 203, 204, 205, 206, 207, 208, 209, 210, 211, 212, 213, 214, 215, 216, 217, 218, 219, 220, 221, 222, 223, 224, 225, 226, 227, 228, 229, 230, 231, 232, 233, 234, 235, 236, 237, 238, 239, 240, 241, 242, 243, 244, 245, 246, 247, 248, 249, 250, 251, 252, 253, 254, 255, 256, 257, 258, 259, 260, 261, 262, 263, 264, 265, 266, 267, 268, 269, 270, 271, 272, 273, 274, 275, 276, 277, 278, 279, 280, 281, 282, 283, 284, 285, 286, 287, 288, 289, 290, 291, 292, 293, 294, 295, 296, 297, 298, 299, 300, 301, 302, 303, 304, 305, 306, 307, 308, 309, 310, 311, 312, 313, 314, 315, 316, 317, 318, 319, 320, 321, 322, 323] (fun _ => ([] : Slots)) (fun _ R => R) (fun _ => y7 = .inl ()) Dels.nil ?_ ?_
    ·
      refine CJ_block ?_
      refine CJ_loopR (X := Nat × Nat) [0, 1, 8, 10, 11, 12, 13, 14, 15, 16, 17, 18, 19, 20, 21, 22, 23, 24, 25, 26, 27, 28, 29, 30, 31, 45, 46, 47, 48, 49, 50, 51, 52, 53, 54, 55, 56, 57, 58, 59, 60, 61, 62, 63, 64, 65, 66, 67, 68, 69, 70, 71, 72, 73, 74, 75, 76, 77, 78, 79, 80, 81, 82, 83, 84, 85, 86, 87, 88, 89, 90, 91, 92, 93, 94, 95, 96, 97, 98, 99, 100, 101, 102, 103, 104, 105, 106, 107, 108, 109, 110, 111, 112, 113, 114, 115, 116, 117, 118, 119, 120, 121, 122, 123, 124, 125, 126, 127, 128, 129, 130, 131, 132, 133, 134, 135, 136, 137, 138, 139, 140, 141, 142, 143, 144, 145, 146, 147, 148, 149, 150, 151, 152, 153, 154, 155, 156, 157, 158, 159, 160, 161, 162, 163, 164, 165, 166, 167, 168, 169, 170, 171, 172, 173, 174, 175, 176, 177, 178, 179, 180, 181, 182, 183, 184, 185, 186, 187, 188, 189, 190, 191, 192, 193, 194, 195, 196, 197, 198, 199, 200, 201, 202, 203, 204, 205, 206, 207, 208, 209, 210, 211, 212, 213, 214, 215, 216, 217, 218, 219, 220, 221, 222, 223, 224, 225, 226, 227, 228, 229, 230, 231, 232, 233, 234, 235, 236, 237, 238, 239, 240, 241, 242, 243, 244, 245, 246, 247, 248, 249, 250, 251, 252, 253, 254, 255, 256, 257, 258, 259, 260, 261, 262, 263, 264, 265, 266, 267, 268, 269, 270, 271, 272, 273, 274, 275, 276, 277, 278, 279, 280, 281, 282, 283, 284, 285, 286, 287, 288, 289, 290, 291, 292, 293, 294, 295, 296, 297, 298, 299, 300, 301, 302, 303, 304, 305, 306, 307, 308, 309, 310, 311, 312, 313, 314, 315, 316, 317, 318, 319, 320, 321, 322, 323] (fun ⟨n, x9⟩ => ([(10, .int .i64 (((x9 : Nat) : Int)))] : Slots)) (fun ⟨n, x9⟩ R => R) (fun ⟨n, x9⟩ => volumegrouplaw05_BlockCopies_l1 at_0 n_1 l bad n x9 = some y7) (fun ⟨n, x9⟩ => n) ⟨FUEL, 0⟩ ?_ ?_ (Ent.take del0 (Ent.take del0 Ent.refl)) ?_
      · exact hl5
      · exact ⟨rfl, True.intro⟩
      ·
        rintro ⟨n, x9⟩ h
        cases n with
        | zero => exact none_e h
        | succ n => ?_
        replace h : volumegrouplaw05_BlockCopies_l1_b at_0 n_1 l bad (volumegrouplaw05_BlockCopies_l1 at_0 n_1 l bad n) x9 = some y7 := h
        unfold volumegrouplaw05_BlockCopies_l1_b at h
        show CJ _ _ _ _ _ (([(10, .int .i64 (((x9 : Nat) : Int)))] : Slots) ++ forget _ _) (_)
        refine CJ_seq ?_
        refine CJ_seq ?_
        refine CJ_region ?_
        refine RJ_op rfl (OJ_P (P_move rfl) rfl ?_)
        refine RJ_op rfl (OJ_P (P_move rfl) rfl ?_)
        refine RJ_op rfl (OJ_V (V_len rfl foc0 (Reads.sl _ _ _) Try.runUnderlying73) rfl ?_)
        obtain ⟨w10, hw10, h⟩ := lt_e h
        rw [← hw10]
        refine RJ_op rfl (OJ_P (P_lss (a := ((x9 : Nat) : Int)) (b := ((w10 : Nat) : Int)) rfl rfl) rfl ?_)
        refine RJ_nil ?_
        refine QJ_then ?_
        refine CJ_condP rfl bT_dec (fun hg4 => ?_) (fun hg4 => ?_)
        ·
          replace h := ite_t hg4 h
          refine CJ_skip ?_
          refine QJ_then ?_
          refine CJ_seq ?_
          refine CJ_block ?_
          refine CJ_seq ?_
          refine AJ_startH 0 (by kernel_rfl) rfl ?_
          refine AJ_takeP 0 1 rfl (by kernel_rfl) rfl (GY_none rfl) (P_move rfl) rfl (fun _ _ _ _ h => h) ?_
          refine AJ_takeP 1 3 rfl (by kernel_rfl) rfl (GY_none rfl) (P_move rfl) rfl (fun _ _ _ _ h => h) ?_
          refine AJ_takeV 2 7 rfl (by kernel_rfl) rfl (by kernel_rfl) (by kernel_rfl) (GY_none rfl) (Ent.take del0 (Ent.take del0 Ent.refl)) (V_index (i := x9) rfl rfl rfl (by omega) foc0 (Reads.sl _ _ _) Try.runUnderlying73 Try.sizeOf72) rfl (fun _ _ _ _ h => h) ?_
          refine AJ_takeP 3 15 rfl (by kernel_rfl) rfl (GY_none rfl) (P_indexArrE (j := 0) rfl rfl rfl Try.runUnderlying72 Try.sizeOf3) rfl (fun _ _ _ _ h => h) ?_
          refine AJ_takeV 4 31 rfl (by kernel_rfl) rfl (by kernel_rfl) (by kernel_rfl) (GY_none rfl) (Ent.take del0 (Ent.take del0 Ent.refl)) (V_loadE rfl rfl (by omega) foc0 (Reads.sl _ _ _) rfl rfl Try.isAgg3) rfl (fun _ _ _ _ h => h) ?_
          obtain ⟨w11, hw11, h⟩ := lt_e h
          rw [← hw11]
          refine AJ_takeP 5 63 rfl (by kernel_rfl) rfl (GY_none rfl) (P_move rfl) rfl (fun _ _ _ _ h => h) ?_
          refine AJ_takeP 6 127 rfl (by kernel_rfl) rfl (GY_none rfl) (P_move rfl) rfl (fun _ _ _ _ h => h) ?_
          refine AJ_takeV 7 255 rfl (by kernel_rfl) rfl (by kernel_rfl) (by kernel_rfl) (GY_none rfl) (Ent.take del0 (Ent.take del0 Ent.refl)) (V_index (i := x9) rfl rfl rfl (by omega) foc0 (Reads.sl _ _ _) Try.runUnderlying73 Try.sizeOf72) rfl (fun _ _ _ _ h => h) ?_
          refine AJ_takeP 8 511 rfl (by kernel_rfl) rfl (GY_none rfl) (P_indexArrE (j := 1) rfl rfl rfl Try.runUnderlying72 Try.sizeOf3) rfl (fun _ _ _ _ h => h) ?_
          refine AJ_takeV 9 1023 rfl (by kernel_rfl) rfl (by kernel_rfl) (by kernel_rfl) (GY_none rfl) (Ent.take del0 (Ent.take del0 Ent.refl)) (V_loadE rfl rfl (by omega) foc0 (Reads.sl _ _ _) rfl rfl Try.isAgg3) rfl (fun _ _ _ _ h => h) ?_
          obtain ⟨w12, hw12, h⟩ := lt_e h
          rw [← hw12]
          refine AJ_takeP 10 2047 rfl (by kernel_rfl) rfl (GY_none rfl) (P_assign rfl) rfl (fun _ _ _ _ h => h) ?_
          refine AJ_takeP 11 4095 rfl (by kernel_rfl) rfl (GY_none rfl) (P_assign rfl) rfl (fun _ _ _ _ h => h) ?_
          refine AJ_done (by kernel_rfl) ?_
          refine QJ_then ?_
          refine CJ_seq ?_
          refine CJ_region ?_
          obtain ⟨r13, hr14, h⟩ := bind_e h
          refine RJ_op rfl (O_call (L_volumegroupmake_Words hr14) rfl Try.call16 Dels.nil rfl (fun X15 _ => ?_))
          obtain ⟨r17, hr18, h⟩ := bind_e h
          refine RJ_op rfl (O_call (L_volumegroupmake_Words hr18) rfl Try.call16 Dels.nil rfl (fun X19 _ => ?_))
          refine RJ_op rfl (OJ_P (P_assign rfl) rfl ?_)
          refine RJ_op rfl (OJ_P (P_assign rfl) rfl ?_)
          refine RJ_nil ?_
          refine QJ_then ?_
          refine CJ_seq ?_
          refine CJ_region ?_
          refine RJ_op rfl (OJ_P (P_move rfl) rfl ?_)
          refine RJ_op rfl (OJ_P (P_move rfl) rfl ?_)
          refine RJ_op rfl (O_buildSlice rfl (bs_27_2_0_1 _ _ _ _ _ _) rfl (fun b21 => ?_))
          refine RJ_ent (Ent.trans (Ent.take del0 Ent.refl) (sl_of_lit (t := tyRow) (m := 2) [(X15 : Sl3), (X19 : Sl3)] rfl rfl rfl (by decide))) ?_
          refine RJ_ent (Ent.starI (l := [sl tyU X15.v r13, sl tyU X19.v r17]) (Ent.take del2 (Ent.take del1 Ent.refl))) ?_
          obtain ⟨r23, hr24, h⟩ := bind_e h
          refine RJ_op rfl (O_call (L_volumegroupmake_Loaded (Reads.sl _ _ _) (RowsR.cons (Reads.sl _ _ _) (RowsR.cons (Reads.sl _ _ _) RowsR.nil)) hr24) rfl Try.call15 (Dels.cons del1 (Dels.cons del0 Dels.nil)) rfl (fun X25 _ => ?_))
          refine RJ_ent (Ent.trans (Ent.take del1 Ent.refl) (Ent.starE (l := [sl tyU X15.v r13, sl tyU X19.v r17]) Ent.refl)) ?_
          refine RJ_op rfl (OJ_P (P_assign rfl) rfl ?_)
          refine RJ_nil ?_
          refine QJ_then ?_
          refine CJ_seq ?_
          refine CJ_seq ?_
          refine CJ_region ?_
          refine RJ_op rfl (OJ_P (P_move rfl) rfl ?_)
          rcases opt_e h with ⟨ht27, h⟩ | ⟨o28, ht27, h⟩
          ·
            rw [ht27]
            refine RJ_ent (Ent.take del0 (Ent.take del0 (Ent.take del0 (Ent.take del1 (Ent.take del1 (Ent.drop Ent.refl)))))) ?_
            refine RJ_op rfl (OJ_P (P_eqlNN rfl rfl Try.underlying23) rfl ?_)
            refine RJ_nil ?_
            refine QJ_then ?_
            refine CJ_condT rfl rfl ?_
            refine CJ_seq ?_
            refine CJ_region ?_
            refine RJ_op rfl (OJ_P (P_assign rfl) rfl ?_)
            refine RJ_nil ?_
            refine QJ_then ?_
            refine CJ_ret ?_
            refine QJ_then_ret ?_
            refine QJ_block_ret ?_
            refine QJ_then_ret ?_
            refine QJ_round_ret ?_
            refine QJ_block_ret ?_
            refine QJ_then_ret ?_
            have hE := Option.some.inj h
            replace hE := seq_inr hK6 hE.symm
            subst hE
            refine QJ_end (res1 Try.results9 rfl) ?_
            refine CSpec.close () ?_ ?_ (Ent.take del4 (Ent.drop (Ent.drop (Ent.drop (Ent.drop Ent.refl)))))
            · rfl
            · trivial
          ·
            rw [ht27]
            refine RJ_ent (Ent.takeC (A' := Arr X25 o28) del3 rfl Ent.refl) ?_
            refine RJ_op rfl (OJ_P (P_eqlPN rfl rfl Try.underlying23) rfl ?_)
            refine RJ_nil ?_
            refine QJ_then ?_
            refine CJ_condF rfl rfl ?_
            refine CJ_skip ?_
            refine QJ_then ?_
            refine CJ_seq ?_
            refine CJ_region ?_
            refine RJ_op rfl (OJ_P (P_move rfl) rfl ?_)
            obtain ⟨r29, hr30, h⟩ := bind_e h
            refine RJ_op rfl (O_call (L_volumegroupmake_Spans hr30) rfl Try.call17 (Dels.cons del0 Dels.nil) rfl (fun X31 _ => ?_))
            refine RJ_pure (fun h hh => Rs_len (stars_perm (del2 (A := Rs (DevP X25) r29 X31.2)).out h hh)) (fun hdl34 => ?_)
            refine RJ_op rfl (OJ_P (P_assign rfl) rfl ?_)
            refine RJ_nil ?_
            refine QJ_ent (Ent.take del0 (Ent.take del0 (Ent.take del0 (Ent.take del0 (Ent.take del0 (Ent.take del1 (Ent.take del1 (Ent.drop Ent.refl)))))))) ?_
            refine QJ_then ?_
            refine CJ_seq ?_
            refine CJ_seq ?_
            refine CJ_region ?_
            refine RJ_op rfl (OJ_P (P_move rfl) rfl ?_)
            refine RJ_op rfl (OJ_V (VJ_eq (V_len rfl foc1 (Reads.sl _ _ _) Try.runUnderlying28) (congrArg (fun z : Nat => Value.int .i64 (z : Int)) (hdl34).symm)) rfl ?_)
            refine RJ_op rfl (OJ_P (P_neq (a := ((r29.length : Nat) : Int)) (b := (2 : Int)) rfl rfl) rfl ?_)
            refine RJ_nil ?_
            refine QJ_then ?_
            refine CJ_condP rfl bT_dec (fun hg5 => ?_) (fun hg5 => ?_)
            ·
              replace h := ite_t hg5 h
              refine CJ_seq ?_
              refine CJ_region ?_
              refine RJ_op rfl (OJ_P (P_assign rfl) rfl ?_)
              refine RJ_nil ?_
              refine QJ_ent (Ent.take del0 (Ent.take del4 (Ent.take del4 (Ent.drop (Ent.drop (Ent.drop (Ent.drop Ent.refl))))))) ?_
              refine QJ_then ?_
              refine CJ_ret ?_
              refine QJ_then_ret ?_
              refine QJ_block_ret ?_
              refine QJ_then_ret ?_
              refine QJ_round_ret ?_
              refine QJ_block_ret ?_
              refine QJ_then_ret ?_
              have hE := Option.some.inj h
              replace hE := seq_inr hK6 hE.symm
              subst hE
              refine QJ_end (res1 Try.results9 rfl) ?_
              refine CSpec.close () ?_ ?_ (Ent.take del2 (Ent.drop (Ent.drop Ent.refl)))
              · rfl
              · trivial
            ·
              replace h := ite_f hg5 h
              refine CJ_skip ?_
              refine QJ_then ?_
              refine CJ_seq ?_
              refine CJ_region ?_
              refine RJ_op rfl (OJ_P (P_move rfl) rfl ?_)
              refine RJ_op rfl (OJ_P (P_geq (a := w11) (b := (0 : Int)) rfl rfl) rfl ?_)
              refine RJ_op rfl (OJ_P (P_move rfl) rfl ?_)
              refine RJ_mbT rfl rfl rfl (fun hG35 => have hP36 : ((0 : Int) ≤ w11) := (bT_dec).1 hG35; VJ_P (P_move rfl)) ?_
              refine RJ_mbT rfl rfl rfl (fun hG37 => have hP38 : ((0 : Int) ≤ w11) := (bT_dec).1 hG37; VJ_P (P_leq (a := w11) (b := (6 : Int)) (mbx hG37 rfl) rfl)) ?_
              refine RJ_op rfl (OJ_P (P_pickAnd rfl (fun hh => mbx hh rfl) rfl) rfl ?_)
              refine RJ_op rfl (OJ_P (P_move rfl) rfl ?_)
              refine RJ_mbT rfl rfl rfl (fun hG39 => have hP40 : (((0 : Int) ≤ w11) ∧ (w11 ≤ (6 : Int))) := ((bT_and bT_dec bT_dec)).1 hG39; VJ_P (P_move rfl)) ?_
              refine RJ_mbT rfl rfl rfl (fun hG41 => have hP42 : (((0 : Int) ≤ w11) ∧ (w11 ≤ (6 : Int))) := ((bT_and bT_dec bT_dec)).1 hG41; VJ_P (P_geq (a := w12) (b := (0 : Int)) (mbx hG41 rfl) rfl)) ?_
              refine RJ_op rfl (OJ_P (P_pickAnd rfl (fun hh => mbx hh rfl) rfl) rfl ?_)
              refine RJ_op rfl (OJ_P (P_move rfl) rfl ?_)
              refine RJ_mbT rfl rfl rfl (fun hG43 => have hP44 : ((((0 : Int) ≤ w11) ∧ (w11 ≤ (6 : Int))) ∧ ((0 : Int) ≤ w12)) := ((bT_and (bT_and bT_dec bT_dec) bT_dec)).1 hG43; VJ_P (P_move rfl)) ?_
              refine RJ_mbT rfl rfl rfl (fun hG45 => have hP46 : ((((0 : Int) ≤ w11) ∧ (w11 ≤ (6 : Int))) ∧ ((0 : Int) ≤ w12)) := ((bT_and (bT_and bT_dec bT_dec) bT_dec)).1 hG45; VJ_P (P_move rfl)) ?_
              refine RJ_mbT rfl rfl rfl (fun hG47 => have hP48 : ((((0 : Int) ≤ w11) ∧ (w11 ≤ (6 : Int))) ∧ ((0 : Int) ≤ w12)) := ((bT_and (bT_and bT_dec bT_dec) bT_dec)).1 hG47; VJ_P (P_sub (a := (6 : Int)) (b := w11) rfl (mbx hG47 rfl) (by omega))) ?_
              refine RJ_mbT rfl rfl rfl (fun hG49 => have hP50 : ((((0 : Int) ≤ w11) ∧ (w11 ≤ (6 : Int))) ∧ ((0 : Int) ≤ w12)) := ((bT_and (bT_and bT_dec bT_dec) bT_dec)).1 hG49; VJ_P (P_leq (a := w12) (b := ((6 : Int) - w11)) (mbx hG49 rfl) (mbx hG49 rfl))) ?_
              refine RJ_op rfl (OJ_P (P_pickAnd rfl (fun hh => mbx hh rfl) rfl) rfl ?_)
              refine RJ_op rfl (OJ_P (P_assign rfl) rfl ?_)
              refine RJ_nil ?_
              refine QJ_then ?_
              refine CJ_seq ?_
              refine CJ_region ?_
              refine RJ_op rfl (OJ_P (P_move rfl) rfl ?_)
              refine RJ_op rfl (OJ_P (P_geq (a := w11) (b := (0 : Int)) rfl rfl) rfl ?_)
              refine RJ_op rfl (OJ_P (P_move rfl) rfl ?_)
              refine RJ_mbT rfl rfl rfl (fun hG51 => have hP52 : ((0 : Int) ≤ w11) := (bT_dec).1 hG51; VJ_P (P_move rfl)) ?_
              refine RJ_mbT rfl rfl rfl (fun hG53 => have hP54 : ((0 : Int) ≤ w11) := (bT_dec).1 hG53; VJ_P (P_leq (a := w11) (b := (6 : Int)) (mbx hG53 rfl) rfl)) ?_
              refine RJ_op rfl (OJ_P (P_pickAnd rfl (fun hh => mbx hh rfl) rfl) rfl ?_)
              refine RJ_op rfl (OJ_P (P_move rfl) rfl ?_)
              refine RJ_mbT rfl rfl rfl (fun hG55 => have hP56 : (((0 : Int) ≤ w11) ∧ (w11 ≤ (6 : Int))) := ((bT_and bT_dec bT_dec)).1 hG55; VJ_P (P_move rfl)) ?_
              refine RJ_mbT rfl rfl rfl (fun hG57 => have hP58 : (((0 : Int) ≤ w11) ∧ (w11 ≤ (6 : Int))) := ((bT_and bT_dec bT_dec)).1 hG57; V_len (mbx hG57 rfl) foc6 rl Try.runUnderlying25) ?_
              refine RJ_mbT rfl rfl rfl (fun hG59 => have hP60 : (((0 : Int) ≤ w11) ∧ (w11 ≤ (6 : Int))) := ((bT_and bT_dec bT_dec)).1 hG59; VJ_P (P_move rfl)) ?_
              refine RJ_mbT rfl rfl rfl (fun hG61 => have hP62 : (((0 : Int) ≤ w11) ∧ (w11 ≤ (6 : Int))) := ((bT_and bT_dec bT_dec)).1 hG61; VJ_P (P_sub (a := (6 : Int)) (b := w11) rfl (mbx hG61 rfl) (by omega))) ?_
              refine RJ_mbT rfl rfl rfl (fun hG63 => have hP64 : (((0 : Int) ≤ w11) ∧ (w11 ≤ (6 : Int))) := ((bT_and bT_dec bT_dec)).1 hG63; VJ_P (P_leq (a := ((l.length : Nat) : Int)) (b := ((6 : Int) - w11)) (mbx hG63 rfl) (mbx hG63 rfl))) ?_
              refine RJ_op rfl (OJ_P (P_pickAnd rfl (fun hh => mbx hh rfl) rfl) rfl ?_)
              refine RJ_op rfl (OJ_P (P_assign rfl) rfl ?_)
              refine RJ_nil ?_
              refine QJ_then ?_
              refine CJ_seq ?_
              refine CJ_region ?_
              refine RJ_op rfl (OJ_P (P_move rfl) rfl ?_)
              refine RJ_op rfl (OJ_V (V_index (i := 0) rfl rfl rfl ((hdl34).symm ▸ (by omega)) foc1 (Reads.sl _ _ _) Try.runUnderlying28 Try.sizeOf31) rfl ?_)
              refine RJ_ent (Ent.trans (Ent.take del2 Ent.refl) (Rs_at (fun _ _ => Dup_DevP) (dx := dv0) (dh := tyDev.dflt) (i := 0) (by omega))) ?_
              refine RJ_op rfl (OJ_V (V_loadE rfl rfl ((hdl34).symm ▸ (by omega)) foc3 (Reads.sl _ _ _) rfl rfl Try.isAgg31) rfl ?_)
              refine RJ_op rfl (OJ_P (P_move rfl) rfl ?_)
              refine RJ_op rfl (OJ_P (P_move rfl) rfl ?_)
              obtain ⟨r66, hr67, h⟩ := bind_e h
              refine RJ_op rfl (O_call (L_block_ReadAll hr67) rfl Try.call36 (Dels.cons del0 (Dels.cons del1 Dels.nil)) rfl (fun X68 _ => ?_))
              refine RJ_op rfl (OJ_P (P_move rfl) rfl ?_)
              refine RJ_op rfl (OJ_P (P_extract rfl rfl) rfl ?_)
              refine RJ_op rfl (OJ_P (P_extract rfl rfl) rfl ?_)
              refine RJ_op rfl (OJ_P (P_assign rfl) rfl ?_)
              refine RJ_op rfl (OJ_P (P_assign rfl) rfl ?_)
              refine RJ_nil ?_
              refine QJ_ent (Ent.take del1 (Ent.take del1 (Ent.take del1 (Ent.take del1 (Ent.take del1 (Ent.take del1 (Ent.take del1 (Ent.take del1 (Ent.drop Ent.refl))))))))) ?_
              refine QJ_then ?_
              refine CJ_seq ?_
              refine CJ_seq ?_
              refine CJ_region ?_
              refine RJ_op rfl (OJ_P (P_move rfl) rfl ?_)
              refine RJ_op rfl (OJ_P (P_eql (a := r66.2) (b := (0 : Int)) rfl rfl) rfl ?_)
              refine RJ_op rfl (OJ_P (P_move rfl) rfl ?_)
              refine RJ_op rfl (OJ_P (P_neqB rfl rfl Try.underlying4) rfl ?_)
              refine RJ_op rfl (OJ_P (P_move rfl) rfl ?_)
              refine RJ_mbF rfl rfl rfl (fun hG70 => have hP71 : ¬ (¬ ((r66.2 = (0 : Int)) ↔ (((((0 : Int) ≤ w11) ∧ (w11 ≤ (6 : Int))) ∧ ((0 : Int) ≤ w12)) ∧ (w12 ≤ ((6 : Int) - w11))))) := nP ((bT_not (bT_beq bT_dec (bT_and (bT_and (bT_and bT_dec bT_dec) bT_dec) bT_dec)))) hG70; VJ_P (P_move rfl)) ?_
              refine RJ_mbF rfl rfl rfl (fun hG72 => have hP73 : ¬ (¬ ((r66.2 = (0 : Int)) ↔ (((((0 : Int) ≤ w11) ∧ (w11 ≤ (6 : Int))) ∧ ((0 : Int) ≤ w12)) ∧ (w12 ≤ ((6 : Int) - w11))))) := nP ((bT_not (bT_beq bT_dec (bT_and (bT_and (bT_and bT_dec bT_dec) bT_dec) bT_dec)))) hG72; VJ_P (P_not (mbx hG72 rfl))) ?_
              refine RJ_mbF rfl rfl rfl (fun hG74 => have hP75 : ¬ (¬ ((r66.2 = (0 : Int)) ↔ (((((0 : Int) ≤ w11) ∧ (w11 ≤ (6 : Int))) ∧ ((0 : Int) ≤ w12)) ∧ (w12 ≤ ((6 : Int) - w11))))) := nP ((bT_not (bT_beq bT_dec (bT_and (bT_and (bT_and bT_dec bT_dec) bT_dec) bT_dec)))) hG74; VJ_P (P_move (mbx hG74 rfl))) ?_
              refine RJ_mbGT rfl rfl rfl (fun hG76 => have hP77 : ¬ (¬ ((r66.2 = (0 : Int)) ↔ (((((0 : Int) ≤ w11) ∧ (w11 ≤ (6 : Int))) ∧ ((0 : Int) ≤ w12)) ∧ (w12 ≤ ((6 : Int) - w11))))) := nP ((bT_not (bT_beq bT_dec (bT_and (bT_and (bT_and bT_dec bT_dec) bT_dec) bT_dec)))) (and_l hG76); have hP78 : (¬ (((((0 : Int) ≤ w11) ∧ (w11 ≤ (6 : Int))) ∧ ((0 : Int) ≤ w12)) ∧ (w12 ≤ ((6 : Int) - w11)))) := ((bT_not (bT_and (bT_and (bT_and bT_dec bT_dec) bT_dec) bT_dec))).1 (and_r hG76); VJ_P (P_move rfl)) ?_
              refine RJ_mbGT rfl rfl rfl (fun hG79 => have hP80 : ¬ (¬ ((r66.2 = (0 : Int)) ↔ (((((0 : Int) ≤ w11) ∧ (w11 ≤ (6 : Int))) ∧ ((0 : Int) ≤ w12)) ∧ (w12 ≤ ((6 : Int) - w11))))) := nP ((bT_not (bT_beq bT_dec (bT_and (bT_and (bT_and bT_dec bT_dec) bT_dec) bT_dec)))) (and_l hG79); have hP81 : (¬ (((((0 : Int) ≤ w11) ∧ (w11 ≤ (6 : Int))) ∧ ((0 : Int) ≤ w12)) ∧ (w12 ≤ ((6 : Int) - w11)))) := ((bT_not (bT_and (bT_and (bT_and bT_dec bT_dec) bT_dec) bT_dec))).1 (and_r hG79); VJ_P (P_neq (a := r66.2) (b := (1 : Int)) (mbx hG79 rfl) rfl)) ?_
              refine RJ_mbF rfl rfl rfl (fun hG82 => have hP83 : ¬ (¬ ((r66.2 = (0 : Int)) ↔ (((((0 : Int) ≤ w11) ∧ (w11 ≤ (6 : Int))) ∧ ((0 : Int) ≤ w12)) ∧ (w12 ≤ ((6 : Int) - w11))))) := nP ((bT_not (bT_beq bT_dec (bT_and (bT_and (bT_and bT_dec bT_dec) bT_dec) bT_dec)))) hG82; VJ_P (P_pickAnd (mbx hG82 rfl) (fun hh => mbx (and_i hG82 hh) rfl) rfl)) ?_
              refine RJ_op rfl (OJ_P (P_pickOr rfl rfl (fun hh => mbx (not_f hh) rfl)) rfl ?_)
              refine RJ_op rfl (OJ_P (P_move rfl) rfl ?_)
              refine RJ_splitP 124 rfl (bT_or (bT_not (bT_beq bT_dec (bT_and (bT_and (bT_and bT_dec bT_dec) bT_dec) bT_dec))) (bT_and (bT_not (bT_and (bT_and (bT_and bT_dec bT_dec) bT_dec) bT_dec)) bT_dec)) (fun hg6B hg6 => ?_) (fun hg6B hg6 => ?_)
              ·
                replace h := ite_t hg6 h
                refine RJ_gn (GY_no rfl rfl rfl hg6B) rfl rfl ?_
                refine RJ_gn (GY_no rfl rfl rfl hg6B) rfl rfl ?_
                refine RJ_gn (GY_undef rfl rfl rfl) rfl rfl ?_
                refine RJ_gn (GY_undef rfl rfl rfl) rfl rfl ?_
                refine RJ_gn (GY_undef rfl rfl rfl) rfl rfl ?_
                refine RJ_gn (GY_undef rfl rfl rfl) rfl rfl ?_
                refine RJ_gn (GY_undef rfl rfl rfl) rfl rfl ?_
                refine RJ_gn (GY_undef rfl rfl rfl) rfl rfl ?_
                refine RJ_gn (GY_undef rfl rfl rfl) rfl rfl ?_
                refine RJ_gn (GY_undef rfl rfl rfl) rfl rfl ?_
                refine RJ_gn (GY_undef rfl rfl rfl) rfl rfl ?_
                refine RJ_gn (GY_no rfl rfl rfl hg6B) rfl rfl ?_
                refine RJ_op rfl (OJ_P (P_pickT rfl hg6B rfl) rfl ?_)
                refine RJ_nil ?_
                refine QJ_ent (Ent.take del0 (Ent.take del1 (Ent.take del1 (Ent.take del1 (Ent.take del1 (Ent.take del1 (Ent.take del1 (Ent.drop Ent.refl)))))))) ?_
                refine QJ_then ?_
                refine CJ_condT rfl rfl ?_
                refine CJ_seq ?_
                refine CJ_region ?_
                refine RJ_op rfl (OJ_P (P_assign rfl) rfl ?_)
                refine RJ_nil ?_
                refine QJ_ent (Ent.take del0 (Ent.take del4 (Ent.take del4 (Ent.drop (Ent.drop (Ent.drop (Ent.drop Ent.refl))))))) ?_
                refine QJ_then ?_
                refine CJ_ret ?_
                refine QJ_then_ret ?_
                refine QJ_block_ret ?_
                refine QJ_then_ret ?_
                refine QJ_round_ret ?_
                refine QJ_block_ret ?_
                refine QJ_then_ret ?_
                have hE := Option.some.inj h
                replace hE := seq_inr hK6 hE.symm
                subst hE
                refine QJ_end (res1 Try.results9 rfl) ?_
                refine CSpec.close () ?_ ?_ (Ent.take del2 (Ent.drop (Ent.drop Ent.refl)))
                · rfl
                · trivial
              ·
                replace h := ite_f hg6 h
                refine RJ_gy (GY_yes rfl rfl rfl hg6B) (OJ_P (P_move rfl) rfl ?_)
                refine RJ_gy (GY_yes rfl rfl rfl hg6B) (OJ_P (P_move rfl) rfl ?_)
                refine RJ_splitP 126 rfl (bT_and (bT_and (bT_and bT_dec bT_dec) bT_dec) bT_dec) (fun hg7B hg7 => ?_) (fun hg7B hg7 => ?_)
                ·
                  replace h := ite_t hg7 h
                  refine RJ_gy (GY_yes rfl rfl rfl hg7B) (OJ_P (P_move rfl) rfl ?_)
                  refine RJ_gy (GY_yes rfl rfl rfl hg7B) (OJ_P (P_move rfl) rfl ?_)
                  refine RJ_gy (GY_yes rfl rfl rfl hg7B) (OJ_P (P_move rfl) rfl ?_)
                  refine RJ_gy (GY_yes rfl rfl rfl hg7B) (OJ_P (P_move rfl) rfl ?_)
                  refine RJ_gy (GY_yes rfl rfl rfl hg7B) (OJ_P (P_move rfl) rfl ?_)
                  refine RJ_gy (GY_yes rfl rfl rfl hg7B) (OJ_P (P_add (a := w11) (b := w12) rfl rfl (by omega)) rfl ?_)
                  obtain ⟨hg8, h⟩ := grd_de h
                  refine RJ_gy (GY_yes rfl rfl rfl hg7B) (OJ_V (V_slice (l := (w11).toNat) (h := ((w11 + w12)).toNat) rfl foc4 (Reads.sl _ _ _) ⟨_, by rw [Int.toNat_of_nonneg (by omega)]; exact rfl⟩ ⟨_, by rw [Int.toNat_of_nonneg (by omega)]; exact rfl⟩ (by omega) (by omega) Try.underlying25 Try.sizeOf22) rfl ?_)
                  obtain ⟨r84, hr85, h⟩ := bind_e h
                  refine RJ_gy (GY_yes rfl rfl rfl hg7B) (O_call (L_volumegroupref05_Same (Reads.sl _ _ _) (Reads.sliceV (Reads.sl _ _ _) (by omega) (by omega)) hr85) rfl Try.call20 (Dels.cons del1 (Dels.cons del3 Dels.nil)) rfl (fun _ _ => ?_))
                  refine RJ_gy (GY_yes rfl rfl rfl hg7B) (OJ_P (P_not rfl) rfl ?_)
                  refine RJ_gy (GY_yes rfl rfl rfl hg6B) (OJ_P (P_pickT rfl hg7B rfl) rfl ?_)
                  refine RJ_op rfl (OJ_P (P_pickF rfl hg6B rfl) rfl ?_)
                  refine RJ_nil ?_
                  refine QJ_ent (Ent.take del1 (Ent.take del1 (Ent.take del1 (Ent.take del1 (Ent.take del1 (Ent.take del1 (Ent.take del1 (Ent.drop Ent.refl)))))))) ?_
                  refine QJ_then ?_
                  refine CJ_condP rfl (bT_not Iff.rfl) (fun hg9 => ?_) (fun hg9 => ?_)
                  ·
                    replace h := ite_t hg9 h
                    refine CJ_seq ?_
                    refine CJ_region ?_
                    refine RJ_op rfl (OJ_P (P_assign rfl) rfl ?_)
                    refine RJ_nil ?_
                    refine QJ_ent (Ent.take del1 (Ent.take del4 (Ent.take del4 (Ent.drop (Ent.drop (Ent.drop (Ent.drop Ent.refl))))))) ?_
                    refine QJ_then ?_
                    refine CJ_ret ?_
                    refine QJ_then_ret ?_
                    refine QJ_block_ret ?_
                    refine QJ_then_ret ?_
                    refine QJ_round_ret ?_
                    refine QJ_block_ret ?_
                    refine QJ_then_ret ?_
                    have hE := Option.some.inj h
                    replace hE := seq_inr hK6 hE.symm
                    subst hE
                    refine QJ_end (res1 Try.results9 rfl) ?_
                    refine CSpec.close () ?_ ?_ (Ent.take del2 (Ent.drop (Ent.drop Ent.refl)))
                    · rfl
                    · trivial
                  ·
                    replace h := ite_f hg9 h
                    refine CJ_skip ?_
                    refine QJ_then ?_
                    refine CJ_seq ?_
                    refine CJ_region ?_
                    refine RJ_op rfl (OJ_P (P_move rfl) rfl ?_)
                    refine RJ_op rfl (OJ_V (V_index (i := 0) rfl rfl rfl ((hdl34).symm ▸ (by omega)) foc3 (Reads.sl _ _ _) Try.runUnderlying28 Try.sizeOf31) rfl ?_)
                    refine RJ_ent (Ent.trans (Ent.take del2 Ent.refl) (Rs_at (fun _ _ => Dup_DevP) (dx := dv0) (dh := tyDev.dflt) (i := 0) (by omega))) ?_
                    refine RJ_op rfl (OJ_V (V_loadE rfl rfl ((hdl34).symm ▸ (by omega)) foc4 (Reads.sl _ _ _) rfl rfl Try.isAgg31) rfl ?_)
                    refine RJ_op rfl (OJ_P (P_move rfl) rfl ?_)
                    refine RJ_op rfl (OJ_P (P_move rfl) rfl ?_)
                    obtain ⟨r87, hr88, h⟩ := bind_e h
                    refine RJ_op rfl (O_call (L_block_WriteAll rl hr88) rfl Try.call37 (Dels.cons del0 (Dels.cons del6 (Dels.cons del2 Dels.nil))) rfl (fun _ _ => ?_))
                    refine RJ_op rfl (OJ_P (P_assign rfl) rfl ?_)
                    refine RJ_nil ?_
                    refine QJ_ent (Ent.take del1 (Ent.take del1 (Ent.take del1 (Ent.take del1 (Ent.take del1 (Ent.take del1 (Ent.take del1 (Ent.drop Ent.refl)))))))) ?_
                    refine QJ_then ?_
                    refine CJ_seq ?_
                    refine CJ_seq ?_
                    refine CJ_region ?_
                    refine RJ_op rfl (OJ_P (P_move rfl) rfl ?_)
                    refine RJ_op rfl (OJ_P (P_eql (a := r87.1) (b := (0 : Int)) rfl rfl) rfl ?_)
                    refine RJ_op rfl (OJ_P (P_move rfl) rfl ?_)
                    refine RJ_op rfl (OJ_P (P_neqB rfl rfl Try.underlying4) rfl ?_)
                    refine RJ_op rfl (OJ_P (P_move rfl) rfl ?_)
                    refine RJ_mbF rfl rfl rfl (fun hG89 => have hP90 : ¬ (¬ ((r87.1 = (0 : Int)) ↔ ((((0 : Int) ≤ w11) ∧ (w11 ≤ (6 : Int))) ∧ (((l.length : Nat) : Int) ≤ ((6 : Int) - w11))))) := nP ((bT_not (bT_beq bT_dec (bT_and (bT_and bT_dec bT_dec) bT_dec)))) hG89; VJ_P (P_move rfl)) ?_
                    refine RJ_mbF rfl rfl rfl (fun hG91 => have hP92 : ¬ (¬ ((r87.1 = (0 : Int)) ↔ ((((0 : Int) ≤ w11) ∧ (w11 ≤ (6 : Int))) ∧ (((l.length : Nat) : Int) ≤ ((6 : Int) - w11))))) := nP ((bT_not (bT_beq bT_dec (bT_and (bT_and bT_dec bT_dec) bT_dec)))) hG91; VJ_P (P_not (mbx hG91 rfl))) ?_
                    refine RJ_mbF rfl rfl rfl (fun hG93 => have hP94 : ¬ (¬ ((r87.1 = (0 : Int)) ↔ ((((0 : Int) ≤ w11) ∧ (w11 ≤ (6 : Int))) ∧ (((l.length : Nat) : Int) ≤ ((6 : Int) - w11))))) := nP ((bT_not (bT_beq bT_dec (bT_and (bT_and bT_dec bT_dec) bT_dec)))) hG93; VJ_P (P_move (mbx hG93 rfl))) ?_
                    refine RJ_mbGT rfl rfl rfl (fun hG95 => have hP96 : ¬ (¬ ((r87.1 = (0 : Int)) ↔ ((((0 : Int) ≤ w11) ∧ (w11 ≤ (6 : Int))) ∧ (((l.length : Nat) : Int) ≤ ((6 : Int) - w11))))) := nP ((bT_not (bT_beq bT_dec (bT_and (bT_and bT_dec bT_dec) bT_dec)))) (and_l hG95); have hP97 : (¬ ((((0 : Int) ≤ w11) ∧ (w11 ≤ (6 : Int))) ∧ (((l.length : Nat) : Int) ≤ ((6 : Int) - w11)))) := ((bT_not (bT_and (bT_and bT_dec bT_dec) bT_dec))).1 (and_r hG95); VJ_P (P_move rfl)) ?_
                    refine RJ_mbGT rfl rfl rfl (fun hG98 => have hP99 : ¬ (¬ ((r87.1 = (0 : Int)) ↔ ((((0 : Int) ≤ w11) ∧ (w11 ≤ (6 : Int))) ∧ (((l.length : Nat) : Int) ≤ ((6 : Int) - w11))))) := nP ((bT_not (bT_beq bT_dec (bT_and (bT_and bT_dec bT_dec) bT_dec)))) (and_l hG98); have hP100 : (¬ ((((0 : Int) ≤ w11) ∧ (w11 ≤ (6 : Int))) ∧ (((l.length : Nat) : Int) ≤ ((6 : Int) - w11)))) := ((bT_not (bT_and (bT_and bT_dec bT_dec) bT_dec))).1 (and_r hG98); VJ_P (P_neq (a := r87.1) (b := (1 : Int)) (mbx hG98 rfl) rfl)) ?_
                    refine RJ_mbF rfl rfl rfl (fun hG101 => have hP102 : ¬ (¬ ((r87.1 = (0 : Int)) ↔ ((((0 : Int) ≤ w11) ∧ (w11 ≤ (6 : Int))) ∧ (((l.length : Nat) : Int) ≤ ((6 : Int) - w11))))) := nP ((bT_not (bT_beq bT_dec (bT_and (bT_and bT_dec bT_dec) bT_dec)))) hG101; VJ_P (P_pickAnd (mbx hG101 rfl) (fun hh => mbx (and_i hG101 hh) rfl) rfl)) ?_
                    refine RJ_op rfl (OJ_P (P_pickOr rfl rfl (fun hh => mbx (not_f hh) rfl)) rfl ?_)
                    refine RJ_nil ?_
                    refine QJ_then ?_
                    refine CJ_condP rfl (bT_or (bT_not (bT_beq bT_dec (bT_and (bT_and bT_dec bT_dec) bT_dec))) (bT_and (bT_not (bT_and (bT_and bT_dec bT_dec) bT_dec)) bT_dec)) (fun hg10 => ?_) (fun hg10 => ?_)
                    ·
                      replace h := ite_t hg10 h
                      refine CJ_seq ?_
                      refine CJ_region ?_
                      refine RJ_op rfl (OJ_P (P_assign rfl) rfl ?_)
                      refine RJ_nil ?_
                      refine QJ_ent (Ent.take del0 (Ent.take del0 (Ent.take del4 (Ent.drop (Ent.drop (Ent.drop (Ent.drop Ent.refl))))))) ?_
                      refine QJ_then ?_
                      refine CJ_ret ?_
                      refine QJ_then_ret ?_
                      refine QJ_block_ret ?_
                      refine QJ_then_ret ?_
                      refine QJ_round_ret ?_
                      refine QJ_block_ret ?_
                      refine QJ_then_ret ?_
                      have hE := Option.some.inj h
                      replace hE := seq_inr hK6 hE.symm
                      subst hE
                      refine QJ_end (res1 Try.results9 rfl) ?_
                      refine CSpec.close () ?_ ?_ (Ent.take del0 (Ent.drop (Ent.drop Ent.refl)))
                      · rfl
                      · trivial
                    ·
                      replace h := ite_f hg10 h
                      refine CJ_skip ?_
                      refine QJ_then ?_
                      refine CJ_seq ?_
                      refine CJ_seq ?_
                      refine CJ_region ?_
                      refine RJ_op rfl (OJ_P (P_move rfl) rfl ?_)
                      refine RJ_nil ?_
                      refine QJ_then ?_
                      obtain ⟨y105, hl103, hK104⟩ := bind_c h
                      refine CJ_cutT (X := (List UInt64)) [157, 158, 159, 160, 161] (fun a107 => ([] : Slots)) (fun a107 R => sl tyU X15.v a107 :: R) (fun a107 => y105 = a107) (Dels.cons del3 Dels.nil) ?_ ?_
                      ·
                        have h := hl103
                        refine CJ_condP rfl (bT_and (bT_and bT_dec bT_dec) bT_dec) (fun hg11 => ?_) (fun hg11 => ?_)
                        ·
                          replace h := ite_t hg11 h
                          refine CJ_region ?_
                          refine RJ_op rfl (OJ_P (P_move rfl) rfl ?_)
                          refine RJ_op rfl (OJ_P (P_move rfl) rfl ?_)
                          obtain ⟨hg12, h⟩ := grd_de h
                          refine RJ_op rfl (OJ_V (V_slice (l := (w11).toNat) (h := r13.length) rfl foc3 (Reads.sl _ _ _) ⟨_, by rw [Int.toNat_of_nonneg (by omega)]; exact rfl⟩ rfl (by omega) (by omega) Try.underlying25 Try.sizeOf22) rfl ?_)
                          refine RJ_op rfl (OJ_P (P_move rfl) rfl ?_)
                          refine RJ_op rfl (O_copyS (t := tyU) (bytes := 8) (l := (w11).toNat) (h := r13.length) (by omega) (by omega) rfl rfl del3 foc0 rl Try.underlying25 ok_tyU rfl ?_)
                          refine RJ_nil ?_
                          refine QJ_cutR (copiedAt r13 ((w11).toNat) r13.length l) ?_ (by repeat (first | exact Kp.base | exact Kp.self | refine Kp.cons rfl ?_ | refine Kp.forget rfl ?_)) ?_ (Ent.take del0 (Ent.take del0 (Ent.take del0 (Ent.take del0 (Ent.take del0 (Ent.take del0 (Ent.take del0 Ent.refl)))))))
                          · exact (Option.some.inj h).symm
                          · exact True.intro
                        ·
                          replace h := ite_f hg11 h
                          refine CJ_skip ?_
                          refine QJ_cutR r13 ?_ (by repeat (first | exact Kp.base | exact Kp.self | refine Kp.cons rfl ?_ | refine Kp.forget rfl ?_)) ?_ (Ent.take del3 (Ent.take del0 (Ent.take del0 (Ent.take del0 (Ent.take del0 (Ent.take del0 (Ent.take del0 Ent.refl)))))))
                          · exact (Option.some.inj h).symm
                          · exact True.intro
                      ·
                        rintro a107 hy108
                        replace h := bindK_at hK104 hy108
                        show CJ _ _ _ _ _ (([] : Slots) ++ forget _ _) (sl tyU X15.v a107 :: _)
                        refine CJ_seq ?_
                        refine AJ_startH 256 (by kernel_rfl) rfl ?_
                        refine AJ_takeP 0 1 rfl (by kernel_rfl) rfl (GY_none rfl) (P_move rfl) rfl (fun _ _ _ _ h => h) ?_
                        refine AJ_takeV 1 3 rfl (by kernel_rfl) rfl (by kernel_rfl) (by kernel_rfl) (GY_none rfl) (Ent.take del0 (Ent.take del0 (Ent.take del0 (Ent.take del0 (Ent.take del0 (Ent.take del0 (Ent.take del0 Ent.refl))))))) (V_index (i := 0) rfl rfl rfl ((hdl34).symm ▸ (by omega)) foc4 (Reads.sl _ _ _) Try.runUnderlying28 Try.sizeOf31) rfl (fun _ _ _ _ h => h) ?_
                        refine AJ_ent (Ent.trans (Ent.take del3 Ent.refl) (Rs_at (fun _ _ => Dup_DevP) (dx := dv0) (dh := tyDev.dflt) (i := 0) (by omega))) ?_
                        refine AJ_takeV 2 7 rfl (by kernel_rfl) rfl (by kernel_rfl) (by kernel_rfl) (GY_none rfl) (Ent.take del2 (Ent.take del2 (Ent.take del2 (Ent.take del1 (Ent.take del1 (Ent.take del1 (Ent.take del1 (Ent.drop Ent.refl)))))))) (V_loadE rfl rfl ((hdl34).symm ▸ (by omega)) foc4 (Reads.sl _ _ _) rfl rfl Try.isAgg31) rfl (fun _ _ _ _ h => h) ?_
                        refine AJ_takeP 3 15 rfl (by kernel_rfl) rfl (GY_none rfl) (P_move rfl) rfl (fun _ _ _ _ h => h) ?_
                        refine AJ_takeV 4 31 rfl (by kernel_rfl) rfl (by kernel_rfl) (by kernel_rfl) (GY_none rfl) (Ent.take del2 (Ent.take del2 (Ent.take del2 (Ent.take del1 (Ent.take del1 (Ent.take del1 (Ent.take del1 (Ent.drop Ent.refl)))))))) (V_index (i := 1) rfl rfl rfl ((hdl34).symm ▸ (by omega)) foc4 (Reads.sl _ _ _) Try.runUnderlying28 Try.sizeOf31) rfl (fun _ _ _ _ h => h) ?_
                        refine AJ_ent (Ent.trans (Ent.take del1 Ent.refl) (Rs_at (fun _ _ => Dup_DevP) (dx := dv0) (dh := tyDev.dflt) (i := 1) (by omega))) ?_
                        refine AJ_takeV 5 63 rfl (by kernel_rfl) rfl (by kernel_rfl) (by kernel_rfl) (GY_none rfl) (Ent.take del3 (Ent.take del3 (Ent.take del3 (Ent.take del1 (Ent.take del2 (Ent.take del2 (Ent.take del2 (Ent.drop (Ent.drop Ent.refl))))))))) (V_loadE rfl rfl ((hdl34).symm ▸ (by omega)) foc4 (Reads.sl _ _ _) rfl rfl Try.isAgg31) rfl (fun _ _ _ _ h => h) ?_
                        refine AJ_takeP 6 127 rfl (by kernel_rfl) rfl (GY_none rfl) (P_move rfl) rfl (fun _ _ _ _ h => h) ?_
                        refine AJ_takeP 7 255 rfl (by kernel_rfl) rfl (GY_none rfl) (P_move rfl) rfl (fun _ _ _ _ h => h) ?_
                        obtain ⟨r111, hr112, h⟩ := bind_e h
                        refine AJ_op 8 511 rfl (by kernel_rfl) rfl (GY_none rfl) (O_call (L_block_Copy hr112) rfl Try.call23 (Dels.cons del2 (Dels.cons del0 (Dels.cons del3 Dels.nil))) rfl (fun _ _ => ?_))
                        refine ⟨fun h => absurd h (by decide), ?_⟩
                        refine AJ_takeP 9 1023 rfl (by kernel_rfl) rfl (GY_none rfl) (P_assign rfl) rfl (fun _ _ _ _ h => h) ?_
                        refine AJ_done (by kernel_rfl) ?_
                        refine QJ_ent (Ent.take del2 (Ent.take del2 (Ent.take del2 (Ent.take del2 (Ent.take del2 (Ent.take del2 (Ent.take del2 (Ent.drop (Ent.drop Ent.refl))))))))) ?_
                        refine QJ_then ?_
                        refine CJ_seq ?_
                        refine CJ_seq ?_
                        refine CJ_region ?_
                        refine RJ_op rfl (OJ_P (P_move rfl) rfl ?_)
                        refine RJ_op rfl (OJ_P (P_eql (a := r111.1) (b := (0 : Int)) rfl rfl) rfl ?_)
                        refine RJ_op rfl (OJ_P (P_move rfl) rfl ?_)
                        refine RJ_op rfl (OJ_P (P_neqB rfl rfl Try.underlying4) rfl ?_)
                        refine RJ_op rfl (OJ_P (P_move rfl) rfl ?_)
                        refine RJ_mbF rfl rfl rfl (fun hG113 => have hP114 : ¬ (¬ ((r111.1 = (0 : Int)) ↔ (((((0 : Int) ≤ w11) ∧ (w11 ≤ (6 : Int))) ∧ ((0 : Int) ≤ w12)) ∧ (w12 ≤ ((6 : Int) - w11))))) := nP ((bT_not (bT_beq bT_dec (bT_and (bT_and (bT_and bT_dec bT_dec) bT_dec) bT_dec)))) hG113; VJ_P (P_move rfl)) ?_
                        refine RJ_mbF rfl rfl rfl (fun hG115 => have hP116 : ¬ (¬ ((r111.1 = (0 : Int)) ↔ (((((0 : Int) ≤ w11) ∧ (w11 ≤ (6 : Int))) ∧ ((0 : Int) ≤ w12)) ∧ (w12 ≤ ((6 : Int) - w11))))) := nP ((bT_not (bT_beq bT_dec (bT_and (bT_and (bT_and bT_dec bT_dec) bT_dec) bT_dec)))) hG115; VJ_P (P_not (mbx hG115 rfl))) ?_
                        refine RJ_mbF rfl rfl rfl (fun hG117 => have hP118 : ¬ (¬ ((r111.1 = (0 : Int)) ↔ (((((0 : Int) ≤ w11) ∧ (w11 ≤ (6 : Int))) ∧ ((0 : Int) ≤ w12)) ∧ (w12 ≤ ((6 : Int) - w11))))) := nP ((bT_not (bT_beq bT_dec (bT_and (bT_and (bT_and bT_dec bT_dec) bT_dec) bT_dec)))) hG117; VJ_P (P_move (mbx hG117 rfl))) ?_
                        refine RJ_mbGT rfl rfl rfl (fun hG119 => have hP120 : ¬ (¬ ((r111.1 = (0 : Int)) ↔ (((((0 : Int) ≤ w11) ∧ (w11 ≤ (6 : Int))) ∧ ((0 : Int) ≤ w12)) ∧ (w12 ≤ ((6 : Int) - w11))))) := nP ((bT_not (bT_beq bT_dec (bT_and (bT_and (bT_and bT_dec bT_dec) bT_dec) bT_dec)))) (and_l hG119); have hP121 : (¬ (((((0 : Int) ≤ w11) ∧ (w11 ≤ (6 : Int))) ∧ ((0 : Int) ≤ w12)) ∧ (w12 ≤ ((6 : Int) - w11)))) := ((bT_not (bT_and (bT_and (bT_and bT_dec bT_dec) bT_dec) bT_dec))).1 (and_r hG119); VJ_P (P_move rfl)) ?_
                        refine RJ_mbGT rfl rfl rfl (fun hG122 => have hP123 : ¬ (¬ ((r111.1 = (0 : Int)) ↔ (((((0 : Int) ≤ w11) ∧ (w11 ≤ (6 : Int))) ∧ ((0 : Int) ≤ w12)) ∧ (w12 ≤ ((6 : Int) - w11))))) := nP ((bT_not (bT_beq bT_dec (bT_and (bT_and (bT_and bT_dec bT_dec) bT_dec) bT_dec)))) (and_l hG122); have hP124 : (¬ (((((0 : Int) ≤ w11) ∧ (w11 ≤ (6 : Int))) ∧ ((0 : Int) ≤ w12)) ∧ (w12 ≤ ((6 : Int) - w11)))) := ((bT_not (bT_and (bT_and (bT_and bT_dec bT_dec) bT_dec) bT_dec))).1 (and_r hG122); VJ_P (P_neq (a := r111.1) (b := (1 : Int)) (mbx hG122 rfl) rfl)) ?_
                        refine RJ_mbF rfl rfl rfl (fun hG125 => have hP126 : ¬ (¬ ((r111.1 = (0 : Int)) ↔ (((((0 : Int) ≤ w11) ∧ (w11 ≤ (6 : Int))) ∧ ((0 : Int) ≤ w12)) ∧ (w12 ≤ ((6 : Int) - w11))))) := nP ((bT_not (bT_beq bT_dec (bT_and (bT_and (bT_and bT_dec bT_dec) bT_dec) bT_dec)))) hG125; VJ_P (P_pickAnd (mbx hG125 rfl) (fun hh => mbx (and_i hG125 hh) rfl) rfl)) ?_
                        refine RJ_op rfl (OJ_P (P_pickOr rfl rfl (fun hh => mbx (not_f hh) rfl)) rfl ?_)
                        refine RJ_nil ?_
                        refine QJ_then ?_
                        refine CJ_condP rfl (bT_or (bT_not (bT_beq bT_dec (bT_and (bT_and (bT_and bT_dec bT_dec) bT_dec) bT_dec))) (bT_and (bT_not (bT_and (bT_and (bT_and bT_dec bT_dec) bT_dec) bT_dec)) bT_dec)) (fun hg13 => ?_) (fun hg13 => ?_)
                        ·
                          replace h := ite_t hg13 h
                          refine CJ_seq ?_
                          refine CJ_region ?_
                          refine RJ_op rfl (OJ_P (P_assign rfl) rfl ?_)
                          refine RJ_nil ?_
                          refine QJ_ent (Ent.take del0 (Ent.take del2 (Ent.take del4 (Ent.drop (Ent.drop (Ent.drop (Ent.drop Ent.refl))))))) ?_
                          refine QJ_then ?_
                          refine CJ_ret ?_
                          refine QJ_then_ret ?_
                          refine QJ_block_ret ?_
                          refine QJ_then_ret ?_
                          refine QJ_round_ret ?_
                          refine QJ_block_ret ?_
                          refine QJ_then_ret ?_
                          have hE := Option.some.inj h
                          replace hE := seq_inr hK6 hE.symm
                          subst hE
                          refine QJ_end (res1 Try.results9 rfl) ?_
                          refine CSpec.close () ?_ ?_ (Ent.take del1 (Ent.drop (Ent.drop Ent.refl)))
                          · rfl
                          · trivial
                        ·
                          replace h := ite_f hg13 h
                          refine CJ_skip ?_
                          refine QJ_then ?_
                          refine CJ_seq ?_
                          refine CJ_seq ?_
                          refine CJ_region ?_
                          refine RJ_op rfl (OJ_P (P_move rfl) rfl ?_)
                          refine RJ_nil ?_
                          refine QJ_then ?_
                          obtain ⟨y129, hl127, hK128⟩ := bind_c h
                          refine CJ_cutT (X := (List UInt64)) [184, 185, 186, 187, 188, 189, 190, 191, 192, 193, 194, 195, 196] (fun a131 => ([] : Slots)) (fun a131 R => sl tyU X19.v a131 :: R) (fun a131 => y129 = a131) (Dels.cons del5 Dels.nil) ?_ ?_
                          ·
                            have h := hl127
                            refine CJ_condP rfl (bT_and (bT_and (bT_and bT_dec bT_dec) bT_dec) bT_dec) (fun hg14 => ?_) (fun hg14 => ?_)
                            ·
                              replace h := ite_t hg14 h
                              refine AJ_startH 4096 (by kernel_rfl) rfl ?_
                              refine AJ_takeP 0 1 rfl (by kernel_rfl) rfl (GY_none rfl) (P_move rfl) rfl (fun _ _ _ _ h => h) ?_
                              refine AJ_takeP 1 3 rfl (by kernel_rfl) rfl (GY_none rfl) (P_move rfl) rfl (fun _ _ _ _ h => h) ?_
                              refine AJ_takeP 2 7 rfl (by kernel_rfl) rfl (GY_none rfl) (P_move rfl) rfl (fun _ _ _ _ h => h) ?_
                              refine AJ_takeP 3 15 rfl (by kernel_rfl) rfl (GY_none rfl) (P_move rfl) rfl (fun _ _ _ _ h => h) ?_
                              refine AJ_takeP 4 31 rfl (by kernel_rfl) rfl (GY_none rfl) (P_add (a := w11) (b := w12) rfl rfl (by omega)) rfl (fun _ _ _ _ h => h) ?_
                              obtain ⟨hg15, h⟩ := grd_de h
                              refine AJ_takeV 5 63 rfl (by kernel_rfl) rfl (by kernel_rfl) (by kernel_rfl) (GY_none rfl) (Ent.take del0 (Ent.take del0 (Ent.take del0 (Ent.take del0 (Ent.take del0 (Ent.take del0 (Ent.take del0 Ent.refl))))))) (V_slice (l := (w11).toNat) (h := ((w11 + w12)).toNat) rfl foc5 (Reads.sl _ _ _) ⟨_, by rw [Int.toNat_of_nonneg (by omega)]; exact rfl⟩ ⟨_, by rw [Int.toNat_of_nonneg (by omega)]; exact rfl⟩ (by omega) (by omega) Try.underlying25 Try.sizeOf22) rfl (fun _ _ _ _ h => h) ?_
                              refine AJ_takeP 6 127 rfl (by kernel_rfl) rfl (GY_none rfl) (P_move rfl) rfl (fun _ _ _ _ h => h) ?_
                              refine AJ_takeP 7 255 rfl (by kernel_rfl) rfl (GY_none rfl) (P_move rfl) rfl (fun _ _ _ _ h => h) ?_
                              refine AJ_takeP 8 511 rfl (by kernel_rfl) rfl (GY_none rfl) (P_move rfl) rfl (fun _ _ _ _ h => h) ?_
                              refine AJ_takeP 9 1023 rfl (by kernel_rfl) rfl (GY_none rfl) (P_move rfl) rfl (fun _ _ _ _ h => h) ?_
                              refine AJ_takeP 10 2047 rfl (by kernel_rfl) rfl (GY_none rfl) (P_add (a := w11) (b := w12) rfl rfl (by omega)) rfl (fun _ _ _ _ h => h) ?_
                              obtain ⟨hg16, h⟩ := grd_de h
                              refine AJ_takeV 11 4095 rfl (by kernel_rfl) rfl (by kernel_rfl) (by kernel_rfl) (GY_none rfl) (Ent.take del0 (Ent.take del0 (Ent.take del0 (Ent.take del0 (Ent.take del0 (Ent.take del0 (Ent.take del0 Ent.refl))))))) (V_slice (l := (w11).toNat) (h := ((w11 + w12)).toNat) rfl foc2 (Reads.sl _ _ _) ⟨_, by rw [Int.toNat_of_nonneg (by omega)]; exact rfl⟩ ⟨_, by rw [Int.toNat_of_nonneg (by omega)]; exact rfl⟩ (by omega) (by omega) Try.underlying25 Try.sizeOf22) rfl (fun _ _ _ _ h => h) ?_
                              refine AJ_op 12 8191 rfl (by kernel_rfl) rfl (GY_none rfl) (O_copyS (t := tyU) (bytes := 8) (l := (w11).toNat) (h := ((w11 + w12)).toNat) (by omega) (by omega) rfl rfl del5 foc2 (Reads.sliceV (Reads.sl _ _ _) (by omega) (by omega)) Try.underlying25 ok_tyU rfl ?_)
                              refine ⟨fun h => absurd h (by decide), ?_⟩
                              obtain ⟨w132, hw132, h⟩ := lt_e h
                              rw [← hw132]
                              refine AJ_done (by kernel_rfl) ?_
                              refine QJ_cutR (copiedAt r17 ((w11).toNat) (((w11 + w12)).toNat) (((a107.take (((w11 + w12)).toNat)).drop ((w11).toNat)))) ?_ (by repeat (first | exact Kp.base | exact Kp.self | refine Kp.cons rfl ?_ | refine Kp.forget rfl ?_)) ?_ (Ent.take del0 (Ent.take del0 (Ent.take del0 (Ent.take del0 (Ent.take del0 (Ent.take del0 (Ent.take del0 Ent.refl)))))))
                              · exact (Option.some.inj h).symm
                              · exact True.intro
                            ·
                              replace h := ite_f hg14 h
                              refine CJ_skip ?_
                              refine QJ_cutR r17 ?_ (by repeat (first | exact Kp.base | exact Kp.self | refine Kp.cons rfl ?_ | refine Kp.forget rfl ?_)) ?_ (Ent.take del5 (Ent.take del0 (Ent.take del0 (Ent.take del0 (Ent.take del0 (Ent.take del0 (Ent.take del0 Ent.refl)))))))
                              · exact (Option.some.inj h).symm
                              · exact True.intro
                          ·
                            rintro a131 hy133
                            replace h := bindK_at hK128 hy133
                            show CJ _ _ _ _ _ (([] : Slots) ++ forget _ _) (sl tyU X19.v a131 :: _)
                            refine CJ_seq ?_
                            refine AJ_startH 256 (by kernel_rfl) rfl ?_
                            refine AJ_takeP 0 1 rfl (by kernel_rfl) rfl (GY_none rfl) (P_move rfl) rfl (fun _ _ _ _ h => h) ?_
                            refine AJ_takeV 1 3 rfl (by kernel_rfl) rfl (by kernel_rfl) (by kernel_rfl) (GY_none rfl) (Ent.take del0 (Ent.take del0 (Ent.take del0 (Ent.take del0 (Ent.take del0 (Ent.take del0 (Ent.take del0 Ent.refl))))))) (V_index (i := 0) rfl rfl rfl ((hdl34).symm ▸ (by omega)) foc5 (Reads.sl _ _ _) Try.runUnderlying28 Try.sizeOf31) rfl (fun _ _ _ _ h => h) ?_
                            refine AJ_ent (Ent.trans (Ent.take del2 Ent.refl) (Rs_at (fun _ _ => Dup_DevP) (dx := dv0) (dh := tyDev.dflt) (i := 0) (by omega))) ?_
                            refine AJ_takeV 2 7 rfl (by kernel_rfl) rfl (by kernel_rfl) (by kernel_rfl) (GY_none rfl) (Ent.take del2 (Ent.take del2 (Ent.take del1 (Ent.take del1 (Ent.take del1 (Ent.take del1 (Ent.take del1 (Ent.drop Ent.refl)))))))) (V_loadE rfl rfl ((hdl34).symm ▸ (by omega)) foc5 (Reads.sl _ _ _) rfl rfl Try.isAgg31) rfl (fun _ _ _ _ h => h) ?_
                            refine AJ_takeP 3 15 rfl (by kernel_rfl) rfl (GY_none rfl) (P_move rfl) rfl (fun _ _ _ _ h => h) ?_
                            refine AJ_takeV 4 31 rfl (by kernel_rfl) rfl (by kernel_rfl) (by kernel_rfl) (GY_none rfl) (Ent.take del2 (Ent.take del2 (Ent.take del1 (Ent.take del1 (Ent.take del1 (Ent.take del1 (Ent.take del1 (Ent.drop Ent.refl)))))))) (V_index (i := 1) rfl rfl rfl ((hdl34).symm ▸ (by omega)) foc5 (Reads.sl _ _ _) Try.runUnderlying28 Try.sizeOf31) rfl (fun _ _ _ _ h => h) ?_
                            refine AJ_ent (Ent.trans (Ent.take del1 Ent.refl) (Rs_at (fun _ _ => Dup_DevP) (dx := dv0) (dh := tyDev.dflt) (i := 1) (by omega))) ?_
                            refine AJ_takeV 5 63 rfl (by kernel_rfl) rfl (by kernel_rfl) (by kernel_rfl) (GY_none rfl) (Ent.take del3 (Ent.take del3 (Ent.take del1 (Ent.take del2 (Ent.take del2 (Ent.take del2 (Ent.take del2 (Ent.drop (Ent.drop Ent.refl))))))))) (V_loadE rfl rfl ((hdl34).symm ▸ (by omega)) foc5 (Reads.sl _ _ _) rfl rfl Try.isAgg31) rfl (fun _ _ _ _ h => h) ?_
                            refine AJ_takeP 6 127 rfl (by kernel_rfl) rfl (GY_none rfl) (P_move rfl) rfl (fun _ _ _ _ h => h) ?_
                            refine AJ_takeP 7 255 rfl (by kernel_rfl) rfl (GY_none rfl) (P_move rfl) rfl (fun _ _ _ _ h => h) ?_
                            obtain ⟨r136, hr137, h⟩ := bind_e h
                            refine AJ_op 8 511 rfl (by kernel_rfl) rfl (GY_none rfl) (O_call (L_block_Equal hr137) rfl Try.call24 (Dels.cons del2 (Dels.cons del0 (Dels.cons del2 Dels.nil))) rfl (fun _ _ => ?_))
                            refine ⟨fun h => absurd h (by decide), ?_⟩
                            refine AJ_takeP 9 1023 rfl (by kernel_rfl) rfl (GY_none rfl) (P_move rfl) rfl (fun _ _ _ _ h => h) ?_
                            refine AJ_takeP 10 2047 rfl (by kernel_rfl) rfl (GY_none rfl) (P_extract rfl rfl) rfl (fun _ _ _ _ h => h) ?_
                            refine AJ_takeP 11 4095 rfl (by kernel_rfl) rfl (GY_none rfl) (P_extract rfl rfl) rfl (fun _ _ _ _ h => h) ?_
                            refine AJ_takeP 12 8191 rfl (by kernel_rfl) rfl (GY_none rfl) (P_assign rfl) rfl (fun _ _ _ _ h => h) ?_
                            refine AJ_takeP 13 16383 rfl (by kernel_rfl) rfl (GY_none rfl) (P_assign rfl) rfl (fun _ _ _ _ h => h) ?_
                            refine AJ_done (by kernel_rfl) ?_
                            refine QJ_ent (Ent.take del2 (Ent.take del2 (Ent.take del2 (Ent.take del2 (Ent.take del2 (Ent.take del2 (Ent.take del2 (Ent.drop (Ent.drop Ent.refl))))))))) ?_
                            refine QJ_then ?_
                            refine CJ_seq ?_
                            refine CJ_region ?_
                            refine RJ_op rfl (OJ_P (P_move rfl) rfl ?_)
                            refine RJ_op rfl (O_call (c_ImageD) rfl Try.call19 (Dels.cons del0 Dels.nil) rfl (fun X138 _ => ?_))
                            refine RJ_pure (len_of (Reads.sl _ _ _) del0) (fun hlen140 => ?_)
                            refine RJ_op rfl (OJ_P (P_move rfl) rfl ?_)
                            refine RJ_op rfl (OJ_P (P_extract rfl rfl) rfl ?_)
                            refine RJ_op rfl (OJ_P (P_extract rfl rfl) rfl ?_)
                            refine RJ_op rfl (OJ_P (P_assign rfl) rfl ?_)
                            refine RJ_op rfl (OJ_P (P_assign rfl) rfl ?_)
                            refine RJ_nil ?_
                            refine QJ_then ?_
                            refine CJ_seq ?_
                            refine CJ_region ?_
                            refine RJ_op rfl (OJ_P (P_move rfl) rfl ?_)
                            refine RJ_op rfl (O_call (c_ImageD) rfl Try.call19 (Dels.cons del1 Dels.nil) rfl (fun X141 _ => ?_))
                            refine RJ_pure (len_of (Reads.sl _ _ _) del0) (fun hlen143 => ?_)
                            refine RJ_op rfl (OJ_P (P_move rfl) rfl ?_)
                            refine RJ_op rfl (OJ_P (P_extract rfl rfl) rfl ?_)
                            refine RJ_op rfl (OJ_P (P_extract rfl rfl) rfl ?_)
                            refine RJ_op rfl (OJ_P (P_assign rfl) rfl ?_)
                            refine RJ_op rfl (OJ_P (P_assign rfl) rfl ?_)
                            refine RJ_nil ?_
                            refine QJ_then ?_
                            refine CJ_seq ?_
                            refine CJ_seq ?_
                            refine CJ_region ?_
                            refine RJ_op rfl (OJ_P (P_move rfl) rfl ?_)
                            refine RJ_op rfl (OJ_P (P_eql (a := r136.2) (b := (0 : Int)) rfl rfl) rfl ?_)
                            refine RJ_op rfl (OJ_P (P_move rfl) rfl ?_)
                            refine RJ_op rfl (OJ_P (P_neqB rfl rfl Try.underlying4) rfl ?_)
                            refine RJ_op rfl (OJ_P (P_move rfl) rfl ?_)
                            refine RJ_mbF rfl rfl rfl (fun hG144 => have hP145 : ¬ (¬ ((r136.2 = (0 : Int)) ↔ (((((0 : Int) ≤ w11) ∧ (w11 ≤ (6 : Int))) ∧ ((0 : Int) ≤ w12)) ∧ (w12 ≤ ((6 : Int) - w11))))) := nP ((bT_not (bT_beq bT_dec (bT_and (bT_and (bT_and bT_dec bT_dec) bT_dec) bT_dec)))) hG144; VJ_P (P_move rfl)) ?_
                            refine RJ_mbF rfl rfl rfl (fun hG146 => have hP147 : ¬ (¬ ((r136.2 = (0 : Int)) ↔ (((((0 : Int) ≤ w11) ∧ (w11 ≤ (6 : Int))) ∧ ((0 : Int) ≤ w12)) ∧ (w12 ≤ ((6 : Int) - w11))))) := nP ((bT_not (bT_beq bT_dec (bT_and (bT_and (bT_and bT_dec bT_dec) bT_dec) bT_dec)))) hG146; VJ_P (P_move rfl)) ?_
                            refine RJ_mbF rfl rfl rfl (fun hG148 => have hP149 : ¬ (¬ ((r136.2 = (0 : Int)) ↔ (((((0 : Int) ≤ w11) ∧ (w11 ≤ (6 : Int))) ∧ ((0 : Int) ≤ w12)) ∧ (w12 ≤ ((6 : Int) - w11))))) := nP ((bT_not (bT_beq bT_dec (bT_and (bT_and (bT_and bT_dec bT_dec) bT_dec) bT_dec)))) hG148; VJ_P (P_neqB (mbx hG148 rfl) (mbx hG148 rfl) Try.underlying4)) ?_
                            refine RJ_op rfl (OJ_P (P_pickOr rfl rfl (fun hh => mbx (not_f hh) rfl)) rfl ?_)
                            refine RJ_op rfl (OJ_P (P_move rfl) rfl ?_)
                            refine RJ_mbF rfl rfl rfl (fun hG150 => have hP151 : ¬ ((¬ ((r136.2 = (0 : Int)) ↔ (((((0 : Int) ≤ w11) ∧ (w11 ≤ (6 : Int))) ∧ ((0 : Int) ≤ w12)) ∧ (w12 ≤ ((6 : Int) - w11))))) ∨ (¬ (r136.1 = true ↔ (((((0 : Int) ≤ w11) ∧ (w11 ≤ (6 : Int))) ∧ ((0 : Int) ≤ w12)) ∧ (w12 ≤ ((6 : Int) - w11)))))) := nP ((bT_or (bT_not (bT_beq bT_dec (bT_and (bT_and (bT_and bT_dec bT_dec) bT_dec) bT_dec))) (bT_not (bT_beq Iff.rfl (bT_and (bT_and (bT_and bT_dec bT_dec) bT_dec) bT_dec))))) hG150; VJ_P (P_move rfl)) ?_
                            refine RJ_mbF rfl rfl rfl (fun hG152 => have hP153 : ¬ ((¬ ((r136.2 = (0 : Int)) ↔ (((((0 : Int) ≤ w11) ∧ (w11 ≤ (6 : Int))) ∧ ((0 : Int) ≤ w12)) ∧ (w12 ≤ ((6 : Int) - w11))))) ∨ (¬ (r136.1 = true ↔ (((((0 : Int) ≤ w11) ∧ (w11 ≤ (6 : Int))) ∧ ((0 : Int) ≤ w12)) ∧ (w12 ≤ ((6 : Int) - w11)))))) := nP ((bT_or (bT_not (bT_beq bT_dec (bT_and (bT_and (bT_and bT_dec bT_dec) bT_dec) bT_dec))) (bT_not (bT_beq Iff.rfl (bT_and (bT_and (bT_and bT_dec bT_dec) bT_dec) bT_dec))))) hG152; VJ_P (P_neq (a := (imC r111.2 (0 : Int))) (b := (0 : Int)) (mbx hG152 rfl) rfl)) ?_
                            refine RJ_op rfl (OJ_P (P_pickOr rfl rfl (fun hh => mbx (not_f hh) rfl)) rfl ?_)
                            refine RJ_op rfl (OJ_P (P_move rfl) rfl ?_)
                            refine RJ_mbF rfl rfl rfl (fun hG154 => have hP155 : ¬ (((¬ ((r136.2 = (0 : Int)) ↔ (((((0 : Int) ≤ w11) ∧ (w11 ≤ (6 : Int))) ∧ ((0 : Int) ≤ w12)) ∧ (w12 ≤ ((6 : Int) - w11))))) ∨ (¬ (r136.1 = true ↔ (((((0 : Int) ≤ w11) ∧ (w11 ≤ (6 : Int))) ∧ ((0 : Int) ≤ w12)) ∧ (w12 ≤ ((6 : Int) - w11)))))) ∨ ((imC r111.2 (0 : Int)) ≠ (0 : Int))) := nP ((bT_or (bT_or (bT_not (bT_beq bT_dec (bT_and (bT_and (bT_and bT_dec bT_dec) bT_dec) bT_dec))) (bT_not (bT_beq Iff.rfl (bT_and (bT_and (bT_and bT_dec bT_dec) bT_dec) bT_dec)))) bT_dec)) hG154; VJ_P (P_move rfl)) ?_
                            refine RJ_mbF rfl rfl rfl (fun hG156 => have hP157 : ¬ (((¬ ((r136.2 = (0 : Int)) ↔ (((((0 : Int) ≤ w11) ∧ (w11 ≤ (6 : Int))) ∧ ((0 : Int) ≤ w12)) ∧ (w12 ≤ ((6 : Int) - w11))))) ∨ (¬ (r136.1 = true ↔ (((((0 : Int) ≤ w11) ∧ (w11 ≤ (6 : Int))) ∧ ((0 : Int) ≤ w12)) ∧ (w12 ≤ ((6 : Int) - w11)))))) ∨ ((imC r111.2 (0 : Int)) ≠ (0 : Int))) := nP ((bT_or (bT_or (bT_not (bT_beq bT_dec (bT_and (bT_and (bT_and bT_dec bT_dec) bT_dec) bT_dec))) (bT_not (bT_beq Iff.rfl (bT_and (bT_and (bT_and bT_dec bT_dec) bT_dec) bT_dec)))) bT_dec)) hG156; VJ_P (P_neq (a := (imC r111.2 (1 : Int))) (b := (0 : Int)) (mbx hG156 rfl) rfl)) ?_
                            refine RJ_op rfl (OJ_P (P_pickOr rfl rfl (fun hh => mbx (not_f hh) rfl)) rfl ?_)
                            refine RJ_op rfl (OJ_P (P_move rfl) rfl ?_)
                            refine RJ_splitP 236 rfl (bT_or (bT_or (bT_or (bT_not (bT_beq bT_dec (bT_and (bT_and (bT_and bT_dec bT_dec) bT_dec) bT_dec))) (bT_not (bT_beq Iff.rfl (bT_and (bT_and (bT_and bT_dec bT_dec) bT_dec) bT_dec)))) bT_dec) bT_dec) (fun hg17B hg17 => ?_) (fun hg17B hg17 => ?_)
                            ·
                              replace h := ite_t hg17 h
                              refine RJ_gn (GY_no rfl rfl rfl hg17B) rfl rfl ?_
                              refine RJ_gn (GY_no rfl rfl rfl hg17B) rfl rfl ?_
                              refine RJ_gn (GY_no rfl rfl rfl hg17B) rfl rfl ?_
                              refine RJ_gn (GY_no rfl rfl rfl hg17B) rfl rfl ?_
                              refine RJ_op rfl (OJ_P (P_pickT rfl hg17B rfl) rfl ?_)
                              refine RJ_op rfl (OJ_P (P_move rfl) rfl ?_)
                              refine RJ_gn (GY_no rfl rfl rfl rfl) rfl rfl ?_
                              refine RJ_gn (GY_no rfl rfl rfl rfl) rfl rfl ?_
                              refine RJ_gn (GY_no rfl rfl rfl rfl) rfl rfl ?_
                              refine RJ_gn (GY_no rfl rfl rfl rfl) rfl rfl ?_
                              refine RJ_op rfl (OJ_P (P_pickT rfl rfl rfl) rfl ?_)
                              refine RJ_nil ?_
                              refine QJ_ent (Ent.take del1 (Ent.take del2 (Ent.take del3 (Ent.take del3 (Ent.take del3 (Ent.take del3 (Ent.drop (Ent.drop (Ent.drop Ent.refl))))))))) ?_
                              refine QJ_then ?_
                              refine CJ_condT rfl rfl ?_
                              refine CJ_seq ?_
                              refine CJ_region ?_
                              refine RJ_op rfl (OJ_P (P_assign rfl) rfl ?_)
                              refine RJ_nil ?_
                              refine QJ_then ?_
                              refine CJ_ret ?_
                              refine QJ_then_ret ?_
                              refine QJ_block_ret ?_
                              refine QJ_then_ret ?_
                              refine QJ_round_ret ?_
                              refine QJ_block_ret ?_
                              refine QJ_then_ret ?_
                              have hE := Option.some.inj h
                              replace hE := seq_inr hK6 hE.symm
                              subst hE
                              refine QJ_end (res1 Try.results9 rfl) ?_
                              refine CSpec.close () ?_ ?_ (Ent.take del3 (Ent.drop (Ent.drop (Ent.drop (Ent.drop (Ent.drop Ent.refl))))))
                              · rfl
                              · trivial
                            ·
                              replace h := ite_f hg17 h
                              refine RJ_gy (GY_yes rfl rfl rfl hg17B) (OJ_P (P_move rfl) rfl ?_)
                              refine RJ_gy (GY_yes rfl rfl rfl hg17B) (OJ_P (P_move rfl) rfl ?_)
                              obtain ⟨r158, hr159, h⟩ := bind_e h
                              refine RJ_gy (GY_yes rfl rfl rfl hg17B) (O_call (L_volumegroupref05_Same (Reads.sl _ _ _) (Reads.sl _ _ _) hr159) rfl Try.call20 (Dels.cons del2 (Dels.cons del4 Dels.nil)) rfl (fun _ _ => ?_))
                              refine RJ_gy (GY_yes rfl rfl rfl hg17B) (OJ_P (P_not rfl) rfl ?_)
                              refine RJ_op rfl (OJ_P (P_pickF rfl hg17B rfl) rfl ?_)
                              refine RJ_op rfl (OJ_P (P_move rfl) rfl ?_)
                              refine RJ_splitP 242 rfl (bT_not Iff.rfl) (fun hg18B hg18 => ?_) (fun hg18B hg18 => ?_)
                              ·
                                replace h := ite_t hg18 h
                                refine RJ_gn (GY_no rfl rfl rfl hg18B) rfl rfl ?_
                                refine RJ_gn (GY_no rfl rfl rfl hg18B) rfl rfl ?_
                                refine RJ_gn (GY_no rfl rfl rfl hg18B) rfl rfl ?_
                                refine RJ_gn (GY_no rfl rfl rfl hg18B) rfl rfl ?_
                                refine RJ_op rfl (OJ_P (P_pickT rfl hg18B rfl) rfl ?_)
                                refine RJ_nil ?_
                                refine QJ_ent (Ent.take del1 (Ent.take del2 (Ent.take del2 (Ent.take del3 (Ent.take del3 (Ent.take del3 (Ent.drop (Ent.drop (Ent.drop Ent.refl))))))))) ?_
                                refine QJ_then ?_
                                refine CJ_condT rfl rfl ?_
                                refine CJ_seq ?_
                                refine CJ_region ?_
                                refine RJ_op rfl (OJ_P (P_assign rfl) rfl ?_)
                                refine RJ_nil ?_
                                refine QJ_then ?_
                                refine CJ_ret ?_
                                refine QJ_then_ret ?_
                                refine QJ_block_ret ?_
                                refine QJ_then_ret ?_
                                refine QJ_round_ret ?_
                                refine QJ_block_ret ?_
                                refine QJ_then_ret ?_
                                have hE := Option.some.inj h
                                replace hE := seq_inr hK6 hE.symm
                                subst hE
                                refine QJ_end (res1 Try.results9 rfl) ?_
                                refine CSpec.close () ?_ ?_ (Ent.take del3 (Ent.drop (Ent.drop (Ent.drop (Ent.drop (Ent.drop Ent.refl))))))
                                · rfl
                                · trivial
                              ·
                                replace h := ite_f hg18 h
                                refine RJ_gy (GY_yes rfl rfl rfl hg18B) (OJ_P (P_move rfl) rfl ?_)
                                refine RJ_gy (GY_yes rfl rfl rfl hg18B) (OJ_P (P_move rfl) rfl ?_)
                                obtain ⟨r160, hr161, h⟩ := bind_e h
                                refine RJ_gy (GY_yes rfl rfl rfl hg18B) (O_call (L_volumegroupref05_Same (Reads.sl _ _ _) (Reads.sl _ _ _) hr161) rfl Try.call20 (Dels.cons del2 (Dels.cons del4 Dels.nil)) rfl (fun _ _ => ?_))
                                refine RJ_gy (GY_yes rfl rfl rfl hg18B) (OJ_P (P_not rfl) rfl ?_)
                                refine RJ_op rfl (OJ_P (P_pickF rfl hg18B rfl) rfl ?_)
                                refine RJ_nil ?_
                                refine QJ_ent (Ent.take del3 (Ent.take del3 (Ent.take del3 (Ent.take del3 (Ent.take del3 (Ent.take del3 (Ent.drop (Ent.drop (Ent.drop Ent.refl))))))))) ?_
                                refine QJ_then ?_
                                refine CJ_condP rfl (bT_not Iff.rfl) (fun hg19 => ?_) (fun hg19 => ?_)
                                ·
                                  replace h := ite_t hg19 h
                                  refine CJ_seq ?_
                                  refine CJ_region ?_
                                  refine RJ_op rfl (OJ_P (P_assign rfl) rfl ?_)
                                  refine RJ_nil ?_
                                  refine QJ_then ?_
                                  refine CJ_ret ?_
                                  refine QJ_then_ret ?_
                                  refine QJ_block_ret ?_
                                  refine QJ_then_ret ?_
                                  refine QJ_round_ret ?_
                                  refine QJ_block_ret ?_
                                  refine QJ_then_ret ?_
                                  have hE := Option.some.inj h
                                  replace hE := seq_inr hK6 hE.symm
                                  subst hE
                                  refine QJ_end (res1 Try.results9 rfl) ?_
                                  refine CSpec.close () ?_ ?_ (Ent.take del3 (Ent.drop (Ent.drop (Ent.drop (Ent.drop (Ent.drop Ent.refl))))))
                                  · rfl
                                  · trivial
                                ·
                                  replace h := ite_f hg19 h
                                  refine CJ_skip ?_
                                  refine QJ_then ?_
                                  refine CJ_seq ?_
                                  refine CJ_seq ?_
                                  refine CJ_region ?_
                                  refine RJ_op rfl (OJ_P (P_move rfl) rfl ?_)
                                  refine RJ_op rfl (OJ_P (P_not rfl) rfl ?_)
                                  refine RJ_op rfl (OJ_P (P_move rfl) rfl ?_)
                                  refine RJ_mbF rfl rfl rfl (fun hG162 => have hP163 : ¬ (¬ (((((0 : Int) ≤ w11) ∧ (w11 ≤ (6 : Int))) ∧ ((0 : Int) ≤ w12)) ∧ (w12 ≤ ((6 : Int) - w11)))) := nP ((bT_not (bT_and (bT_and (bT_and bT_dec bT_dec) bT_dec) bT_dec))) hG162; VJ_P (P_move rfl)) ?_
                                  refine RJ_mbF rfl rfl rfl (fun hG164 => have hP165 : ¬ (¬ (((((0 : Int) ≤ w11) ∧ (w11 ≤ (6 : Int))) ∧ ((0 : Int) ≤ w12)) ∧ (w12 ≤ ((6 : Int) - w11)))) := nP ((bT_not (bT_and (bT_and (bT_and bT_dec bT_dec) bT_dec) bT_dec))) hG164; VJ_P (P_eql (a := w12) (b := (0 : Int)) (mbx hG164 rfl) rfl)) ?_
                                  refine RJ_op rfl (OJ_P (P_pickOr rfl rfl (fun hh => mbx (not_f hh) rfl)) rfl ?_)
                                  refine RJ_nil ?_
                                  refine QJ_then ?_
                                  refine CJ_condP rfl (bT_or (bT_not (bT_and (bT_and (bT_and bT_dec bT_dec) bT_dec) bT_dec)) bT_dec) (fun hg20 => ?_) (fun hg20 => ?_)
                                  ·
                                    replace h := ite_t hg20 h
                                    refine CJ_exit ?_
                                    refine QJ_then_exit ?_
                                    refine QJ_block_here ?_
                                    refine QJ_then ?_
                                    refine CJ_region ?_
                                    refine RJ_op rfl (OJ_P (P_move rfl) rfl ?_)
                                    obtain ⟨hg21, h⟩ := grd_Ne h
                                    refine RJ_op rfl (OJ_P (PJ_eq (P_add (a := ((x9 : Nat) : Int)) (b := (1 : Int)) rfl rfl (nat_in hg21)) rfl) rfl ?_)
                                    refine RJ_op rfl (OJ_P (P_assign rfl) rfl ?_)
                                    refine RJ_nil ?_
                                    refine QJ_nextR ⟨n, (x9 + 1)⟩ (Nat.lt_succ_self _) ?_ (by repeat (first | exact Kp.base | exact Kp.self | refine Kp.cons rfl ?_ | refine Kp.forget rfl ?_)) ?_ (Ent.take del5 (Ent.take del3 (Ent.drop (Ent.drop (Ent.drop (Ent.drop Ent.refl))))))
                                    · exact h
                                    · exact ⟨rfl, True.intro⟩
                                  ·
                                    replace h := ite_f hg20 h
                                    refine CJ_skip ?_
                                    refine QJ_then ?_
                                    refine CJ_seq ?_
                                    refine CJ_region ?_
                                    refine RJ_op rfl (OJ_P (P_move rfl) rfl ?_)
                                    refine RJ_op rfl (OJ_P (P_move rfl) rfl ?_)
                                    refine RJ_op rfl (OJ_P (P_convSame rfl Try.runUnderlying5 Try.runUnderlying3 (wrap64_u _ (by have := bad.toNat_lt; omega))) rfl ?_)
                                    refine RJ_op rfl (OJ_P (P_move rfl) rfl ?_)
                                    refine RJ_op rfl (OJ_P (P_rem (a := ((bad.toNat : Nat) : Int)) (b := w12) rfl rfl (by omega)) rfl ?_)
                                    obtain ⟨hg22, h⟩ := grd_Ie h
                                    refine RJ_op rfl (OJ_P (P_add (a := w11) (b := (((bad.toNat : Nat) : Int) % w12)) rfl rfl hg22) rfl ?_)
                                    refine RJ_op rfl (OJ_P (P_assign rfl) rfl ?_)
                                    refine RJ_nil ?_
                                    refine QJ_then ?_
                                    refine CJ_seq ?_
                                    refine CJ_region ?_
                                    refine RJ_op rfl (OJ_P (P_move rfl) rfl ?_)
                                    refine RJ_op rfl (OJ_P (P_move rfl) rfl ?_)
                                    refine RJ_op rfl (O_call (c_SetBad) rfl Try.call38 (Dels.cons del1 Dels.nil) rfl (fun _ _ => ?_))
                                    refine RJ_nil ?_
                                    refine QJ_then ?_
                                    refine CJ_seq ?_
                                    refine CJ_seq ?_
                                    refine CJ_region ?_
                                    refine RJ_op rfl (OJ_P (P_move rfl) rfl ?_)
                                    refine RJ_op rfl (OJ_P (P_assign rfl) rfl ?_)
                                    refine RJ_nil ?_
                                    refine QJ_then ?_
                                    obtain ⟨y168, hl166, hK167⟩ := bind_c h
                                    refine CJ_cutT (X := ArrS) [28, 264, 265, 266, 267, 268, 269, 270, 271, 272, 273] (fun a170 => ([] : Slots)) (fun a170 R => Arr X25 a170 :: R) (fun a170 => y168 = a170) (Dels.cons del0 Dels.nil) ?_ ?_
                                    ·
                                      refine CJ_block ?_
                                      refine CJ_loopR (X := Nat × ArrS × Int) [28, 264, 265, 266, 267, 268, 269, 270, 271, 272, 273] (fun ⟨n, x171, x172⟩ => ([(28, .int .i64 x172)] : Slots)) (fun ⟨n, x171, x172⟩ R => Arr X25 x171 :: R) (fun ⟨n, x171, x172⟩ => volumegrouplaw05_BlockCopies_l4 w11 w12 n x171 x172 = some y168) (fun ⟨n, x171, x172⟩ => n) ⟨FUEL, (sbS r111.2 (0 : Int) ((w11 + (((bad.toNat : Nat) : Int) % w12))) true), w11⟩ ?_ ?_ (Ent.take del0 (Ent.take del0 (Ent.take del0 (Ent.take del0 (Ent.take del0 (Ent.take del0 Ent.refl)))))) ?_
                                      · exact hl166
                                      · exact ⟨rfl, True.intro⟩
                                      ·
                                        rintro ⟨n, x171, x172⟩ h
                                        cases n with
                                        | zero => exact none_e h
                                        | succ n => ?_
                                        replace h : volumegrouplaw05_BlockCopies_l4_b w11 w12 (volumegrouplaw05_BlockCopies_l4 w11 w12 n) x171 x172 = some y168 := h
                                        unfold volumegrouplaw05_BlockCopies_l4_b at h
                                        show CJ _ _ _ _ _ (([(28, .int .i64 x172)] : Slots) ++ forget _ _) (Arr X25 x171 :: _)
                                        refine CJ_seq ?_
                                        refine CJ_seq ?_
                                        refine CJ_region ?_
                                        refine RJ_op rfl (OJ_P (P_move rfl) rfl ?_)
                                        refine RJ_op rfl (OJ_P (P_move rfl) rfl ?_)
                                        refine RJ_op rfl (OJ_P (P_move rfl) rfl ?_)
                                        refine RJ_op rfl (OJ_P (P_add (a := w11) (b := w12) rfl rfl (by omega)) rfl ?_)
                                        refine RJ_op rfl (OJ_P (P_lss (a := x172) (b := (w11 + w12)) rfl rfl) rfl ?_)
                                        refine RJ_nil ?_
                                        refine QJ_then ?_
                                        refine CJ_condP rfl bT_dec (fun hg23 => ?_) (fun hg23 => ?_)
                                        ·
                                          replace h := ite_t hg23 h
                                          refine CJ_skip ?_
                                          refine QJ_then ?_
                                          refine CJ_seq ?_
                                          refine CJ_block ?_
                                          refine CJ_region ?_
                                          refine RJ_op rfl (OJ_P (P_move rfl) rfl ?_)
                                          refine RJ_op rfl (OJ_P (P_move rfl) rfl ?_)
                                          obtain ⟨hg24, h⟩ := grd_Le h
                                          refine RJ_op rfl (O_call (c_Write hg24 (v := (1 : UInt64))) rfl Try.call39 (Dels.cons del0 Dels.nil) rfl (fun _ _ => ?_))
                                          refine RJ_nil ?_
                                          refine QJ_block_normal ?_
                                          refine QJ_then ?_
                                          refine CJ_region ?_
                                          refine RJ_op rfl (OJ_P (P_move rfl) rfl ?_)
                                          obtain ⟨hg25, h⟩ := grd_Ie h
                                          refine RJ_op rfl (OJ_P (P_add (a := x172) (b := (1 : Int)) rfl rfl hg25) rfl ?_)
                                          refine RJ_op rfl (OJ_P (P_assign rfl) rfl ?_)
                                          refine RJ_nil ?_
                                          refine QJ_nextR ⟨n, (wrS x171 (1 : Int) x172 (1 : UInt64)), (x172 + (1 : Int))⟩ (Nat.lt_succ_self _) ?_ (by repeat (first | exact Kp.base | exact Kp.self | refine Kp.cons rfl ?_ | refine Kp.forget rfl ?_)) ?_ (Ent.take del0 (Ent.take del0 (Ent.take del0 (Ent.take del0 (Ent.take del0 (Ent.take del0 Ent.refl))))))
                                          · exact h
                                          · exact ⟨rfl, True.intro⟩
                                        ·
                                          replace h := ite_f hg23 h
                                          refine CJ_exit ?_
                                          refine QJ_then_exit ?_
                                          refine QJ_round_exit ?_
                                          refine QJ_block_here ?_
                                          refine QJ_cutR x171 ?_ (by repeat (first | exact Kp.base | exact Kp.self | refine Kp.cons rfl ?_ | refine Kp.forget rfl ?_)) ?_ (Ent.take del0 (Ent.take del0 (Ent.take del0 (Ent.take del0 (Ent.take del0 (Ent.take del0 Ent.refl))))))
                                          · exact (Option.some.inj h).symm
                                          · exact True.intro
                                    ·
                                      rintro a170 hy173
                                      replace h := bindK_at hK167 hy173
                                      show CJ _ _ _ _ _ (([] : Slots) ++ forget _ _) (Arr X25 a170 :: _)
                                      refine CJ_seq ?_
                                      refine CJ_seq ?_
                                      refine AJ_startH 256 (by kernel_rfl) rfl ?_
                                      refine AJ_takeP 0 1 rfl (by kernel_rfl) rfl (GY_none rfl) (P_move rfl) rfl (fun _ _ _ _ h => h) ?_
                                      refine AJ_takeV 1 3 rfl (by kernel_rfl) rfl (by kernel_rfl) (by kernel_rfl) (GY_none rfl) (Ent.take del0 (Ent.take del0 (Ent.take del0 (Ent.take del0 (Ent.take del0 (Ent.take del0 Ent.refl)))))) (V_index (i := 0) rfl rfl rfl ((hdl34).symm ▸ (by omega)) foc4 (Reads.sl _ _ _) Try.runUnderlying28 Try.sizeOf31) rfl (fun _ _ _ _ h => h) ?_
                                      refine AJ_ent (Ent.trans (Ent.take del2 Ent.refl) (Rs_at (fun _ _ => Dup_DevP) (dx := dv0) (dh := tyDev.dflt) (i := 0) (by omega))) ?_
                                      refine AJ_takeV 2 7 rfl (by kernel_rfl) rfl (by kernel_rfl) (by kernel_rfl) (GY_none rfl) (Ent.take del2 (Ent.take del2 (Ent.take del1 (Ent.take del1 (Ent.take del1 (Ent.take del1 (Ent.drop Ent.refl))))))) (V_loadE rfl rfl ((hdl34).symm ▸ (by omega)) foc4 (Reads.sl _ _ _) rfl rfl Try.isAgg31) rfl (fun _ _ _ _ h => h) ?_
                                      refine AJ_takeP 3 15 rfl (by kernel_rfl) rfl (GY_none rfl) (P_move rfl) rfl (fun _ _ _ _ h => h) ?_
                                      refine AJ_takeV 4 31 rfl (by kernel_rfl) rfl (by kernel_rfl) (by kernel_rfl) (GY_none rfl) (Ent.take del2 (Ent.take del2 (Ent.take del1 (Ent.take del1 (Ent.take del1 (Ent.take del1 (Ent.drop Ent.refl))))))) (V_index (i := 1) rfl rfl rfl ((hdl34).symm ▸ (by omega)) foc4 (Reads.sl _ _ _) Try.runUnderlying28 Try.sizeOf31) rfl (fun _ _ _ _ h => h) ?_
                                      refine AJ_ent (Ent.trans (Ent.take del1 Ent.refl) (Rs_at (fun _ _ => Dup_DevP) (dx := dv0) (dh := tyDev.dflt) (i := 1) (by omega))) ?_
                                      refine AJ_takeV 5 63 rfl (by kernel_rfl) rfl (by kernel_rfl) (by kernel_rfl) (GY_none rfl) (Ent.take del3 (Ent.take del3 (Ent.take del1 (Ent.take del2 (Ent.take del2 (Ent.take del2 (Ent.drop (Ent.drop Ent.refl)))))))) (V_loadE rfl rfl ((hdl34).symm ▸ (by omega)) foc4 (Reads.sl _ _ _) rfl rfl Try.isAgg31) rfl (fun _ _ _ _ h => h) ?_
                                      refine AJ_takeP 6 127 rfl (by kernel_rfl) rfl (GY_none rfl) (P_move rfl) rfl (fun _ _ _ _ h => h) ?_
                                      refine AJ_takeP 7 255 rfl (by kernel_rfl) rfl (GY_none rfl) (P_move rfl) rfl (fun _ _ _ _ h => h) ?_
                                      obtain ⟨r176, hr177, h⟩ := bind_e h
                                      refine AJ_op 8 511 rfl (by kernel_rfl) rfl (GY_none rfl) (O_call (L_block_Copy hr177) rfl Try.call23 (Dels.cons del2 (Dels.cons del0 (Dels.cons del1 Dels.nil))) rfl (fun _ _ => ?_))
                                      refine ⟨fun h => absurd h (by decide), ?_⟩
                                      refine AJ_takeP 9 1023 rfl (by kernel_rfl) rfl (GY_none rfl) (P_neq (a := r176.1) (b := (7 : Int)) rfl rfl) rfl (fun _ _ _ _ h => h) ?_
                                      refine AJ_done (by kernel_rfl) ?_
                                      refine QJ_ent (Ent.take del2 (Ent.take del2 (Ent.take del2 (Ent.take del2 (Ent.take del2 (Ent.take del2 (Ent.drop (Ent.drop Ent.refl)))))))) ?_
                                      refine QJ_then ?_
                                      refine CJ_condP rfl bT_dec (fun hg26 => ?_) (fun hg26 => ?_)
                                      ·
                                        replace h := ite_t hg26 h
                                        refine CJ_seq ?_
                                        refine CJ_region ?_
                                        refine RJ_op rfl (OJ_P (P_assign rfl) rfl ?_)
                                        refine RJ_nil ?_
                                        refine QJ_then ?_
                                        refine CJ_ret ?_
                                        refine QJ_then_ret ?_
                                        refine QJ_block_ret ?_
                                        refine QJ_then_ret ?_
                                        refine QJ_round_ret ?_
                                        refine QJ_block_ret ?_
                                        refine QJ_then_ret ?_
                                        have hE := Option.some.inj h
                                        replace hE := seq_inr hK6 hE.symm
                                        subst hE
                                        refine QJ_end (res1 Try.results9 rfl) ?_
                                        refine CSpec.close () ?_ ?_ (Ent.take del3 (Ent.drop (Ent.drop (Ent.drop (Ent.drop (Ent.drop Ent.refl))))))
                                        · rfl
                                        · trivial
                                      ·
                                        replace h := ite_f hg26 h
                                        refine CJ_skip ?_
                                        refine QJ_then ?_
                                        refine CJ_seq ?_
                                        refine CJ_region ?_
                                        refine RJ_op rfl (OJ_P (P_move rfl) rfl ?_)
                                        refine RJ_op rfl (OJ_P (P_assign rfl) rfl ?_)
                                        refine RJ_nil ?_
                                        refine QJ_then ?_
                                        obtain ⟨y180, hl178, hK179⟩ := seq_e h
                                        refine CJ_cutQ (X := Unit) [8, 29, 30, 31, 285, 286, 287, 288, 289, 290, 291, 292, 293, 294, 295, 296, 297, 298, 299, 300, 301, 302, 303, 304, 305, 306, 307, 308, 309, 310, 311, 312, 313, 314, 315, 316, 317, 318, 319, 320, 321, 322, 323] (fun _ => ([] : Slots)) (fun _ R => R) (fun _ => y180 = .inl ()) Dels.nil ?_ ?_
                                        ·
                                          refine CJ_block ?_
                                          refine CJ_loopR (X := Nat × Int) [8, 29, 30, 31, 285, 286, 287, 288, 289, 290, 291, 292, 293, 294, 295, 296, 297, 298, 299, 300, 301, 302, 303, 304, 305, 306, 307, 308, 309, 310, 311, 312, 313, 314, 315, 316, 317, 318, 319, 320, 321, 322, 323] (fun ⟨n, x182⟩ => ([(29, .int .i64 x182)] : Slots)) (fun ⟨n, x182⟩ R => R) (fun ⟨n, x182⟩ => volumegrouplaw05_BlockCopies_l5 bad r176 w11 w12 r29 a107 n x182 = some y180) (fun ⟨n, x182⟩ => n) ⟨FUEL, w11⟩ ?_ ?_ (Ent.take del0 (Ent.take del0 (Ent.take del0 (Ent.take del0 (Ent.take del0 (Ent.take del0 Ent.refl)))))) ?_
                                          · exact hl178
                                          · exact ⟨rfl, True.intro⟩
                                          ·
                                            rintro ⟨n, x182⟩ h
                                            cases n with
                                            | zero => exact none_e h
                                            | succ n => ?_
                                            replace h : volumegrouplaw05_BlockCopies_l5_b bad r176 w11 w12 r29 a107 (volumegrouplaw05_BlockCopies_l5 bad r176 w11 w12 r29 a107 n) x182 = some y180 := h
                                            unfold volumegrouplaw05_BlockCopies_l5_b at h
                                            show CJ _ _ _ _ _ (([(29, .int .i64 x182)] : Slots) ++ forget _ _) (_)
                                            refine CJ_seq ?_
                                            refine CJ_seq ?_
                                            refine CJ_region ?_
                                            refine RJ_op rfl (OJ_P (P_move rfl) rfl ?_)
                                            refine RJ_op rfl (OJ_P (P_move rfl) rfl ?_)
                                            refine RJ_op rfl (OJ_P (P_move rfl) rfl ?_)
                                            refine RJ_op rfl (OJ_P (P_add (a := w11) (b := w12) rfl rfl (by omega)) rfl ?_)
                                            refine RJ_op rfl (OJ_P (P_lss (a := x182) (b := (w11 + w12)) rfl rfl) rfl ?_)
                                            refine RJ_nil ?_
                                            refine QJ_then ?_
                                            refine CJ_condP rfl bT_dec (fun hg27 => ?_) (fun hg27 => ?_)
                                            ·
                                              replace h := ite_t hg27 h
                                              refine CJ_skip ?_
                                              refine QJ_then ?_
                                              refine CJ_seq ?_
                                              refine CJ_block ?_
                                              refine CJ_seq ?_
                                              refine CJ_region ?_
                                              refine RJ_op rfl (OJ_P (P_move rfl) rfl ?_)
                                              refine RJ_op rfl (OJ_V (V_index (i := 1) rfl rfl rfl ((hdl34).symm ▸ (by omega)) foc4 (Reads.sl _ _ _) Try.runUnderlying28 Try.sizeOf31) rfl ?_)
                                              refine RJ_ent (Ent.trans (Ent.take del1 Ent.refl) (Rs_at (fun _ _ => Dup_DevP) (dx := dv0) (dh := tyDev.dflt) (i := 1) (by omega))) ?_
                                              refine RJ_op rfl (OJ_V (V_loadE rfl rfl ((hdl34).symm ▸ (by omega)) foc5 (Reads.sl _ _ _) rfl rfl Try.isAgg31) rfl ?_)
                                              refine RJ_op rfl (OJ_P (P_move rfl) rfl ?_)
                                              refine RJ_pure (fun h hh => DevP_dep h (stars_perm (del0 (A := DevP X25 (r29.getD 1 dv0) (X31.2.getD 1 tyDev.dflt))).out h hh)) (fun hdp184 => ?_)
                                              obtain ⟨r185, hr186, h⟩ := bind_e h
                                              refine RJ_op rfl (O_callI rfl (dev_Read hr186 hdp184) rfl (Dels.cons del0 (Dels.cons del1 Dels.nil)) rfl (fun _ _ => ?_))
                                              refine RJ_op rfl (OJ_P (P_move rfl) rfl ?_)
                                              refine RJ_op rfl (OJ_P (P_extract rfl rfl) rfl ?_)
                                              refine RJ_op rfl (OJ_P (P_extract rfl rfl) rfl ?_)
                                              refine RJ_op rfl (OJ_P (P_assign rfl) rfl ?_)
                                              refine RJ_op rfl (OJ_P (P_assign rfl) rfl ?_)
                                              refine RJ_nil ?_
                                              refine QJ_ent (Ent.take del1 (Ent.take del1 (Ent.take del1 (Ent.take del1 (Ent.take del1 (Ent.take del1 (Ent.drop Ent.refl))))))) ?_
                                              refine QJ_then ?_
                                              refine CJ_seq ?_
                                              refine CJ_region ?_
                                              refine RJ_op rfl (OJ_P (P_move rfl) rfl ?_)
                                              refine RJ_op rfl (OJ_P (P_neq (a := r185.2) (b := (0 : Int)) rfl rfl) rfl ?_)
                                              refine RJ_op rfl (OJ_P (P_move rfl) rfl ?_)
                                              refine RJ_mbF rfl rfl rfl (fun hG187 => have hP188 : ¬ (r185.2 ≠ (0 : Int)) := nP (bT_dec) hG187; VJ_P (P_move rfl)) ?_
                                              refine RJ_mbF rfl rfl rfl (fun hG189 => have hP190 : ¬ (r185.2 ≠ (0 : Int)) := nP (bT_dec) hG189; VJ_P (P_move rfl)) ?_
                                              refine RJ_mbF rfl rfl rfl (fun hG191 => have hP192 : ¬ (r185.2 ≠ (0 : Int)) := nP (bT_dec) hG191; VJ_P (P_lss (a := x182) (b := (w11 + (((bad.toNat : Nat) : Int) % w12))) (mbx hG191 rfl) (mbx hG191 rfl))) ?_
                                              refine RJ_mbF rfl rfl rfl (fun hG193 => have hP194 : ¬ (r185.2 ≠ (0 : Int)) := nP (bT_dec) hG193; VJ_P (P_move (mbx hG193 rfl))) ?_
                                              refine RJ_mbGT rfl rfl rfl (fun hG195 => have hP196 : ¬ (r185.2 ≠ (0 : Int)) := nP (bT_dec) (and_l hG195); have hP197 : (x182 < (w11 + (((bad.toNat : Nat) : Int) % w12))) := (bT_dec).1 (and_r hG195); VJ_P (P_move rfl)) ?_
                                              refine RJ_mbGT rfl rfl rfl (fun hG198 => have hP199 : ¬ (r185.2 ≠ (0 : Int)) := nP (bT_dec) (and_l hG198); have hP200 : (x182 < (w11 + (((bad.toNat : Nat) : Int) % w12))) := (bT_dec).1 (and_r hG198); VJ_P (P_move rfl)) ?_
                                              refine RJ_mbGT rfl rfl rfl (fun hG201 => have hP202 : ¬ (r185.2 ≠ (0 : Int)) := nP (bT_dec) (and_l hG201); have hP203 : (x182 < (w11 + (((bad.toNat : Nat) : Int) % w12))) := (bT_dec).1 (and_r hG201); VJ_P (P_move rfl)) ?_
                                              obtain ⟨hg28, h⟩ := grd_de h
                                              refine RJ_mbGT rfl rfl rfl (fun hG204 => have hP205 : ¬ (r185.2 ≠ (0 : Int)) := nP (bT_dec) (and_l hG204); have hP206 : (x182 < (w11 + (((bad.toNat : Nat) : Int) % w12))) := (bT_dec).1 (and_r hG204); V_index (i := (x182).toNat) (mbx hG204 rfl) (mbx hG204 rfl) (Int.toNat_of_nonneg ((hg28 hP205 hP206).1)).symm (by omega) foc2 (Reads.sl _ _ _) Try.runUnderlying25 Try.sizeOf22) ?_
                                              refine RJ_mbGT rfl rfl rfl (fun hG207 => have hP208 : ¬ (r185.2 ≠ (0 : Int)) := nP (bT_dec) (and_l hG207); have hP209 : (x182 < (w11 + (((bad.toNat : Nat) : Int) % w12))) := (bT_dec).1 (and_r hG207); V_loadE (mbx hG207 rfl) rfl (by omega) foc2 (Reads.sl _ _ _) rfl rfl Try.isAgg22) ?_
                                              refine RJ_mbGT rfl rfl rfl (fun hG210 => have hP211 : ¬ (r185.2 ≠ (0 : Int)) := nP (bT_dec) (and_l hG210); have hP212 : (x182 < (w11 + (((bad.toNat : Nat) : Int) % w12))) := (bT_dec).1 (and_r hG210); VJ_P (P_ne_u64 (a := r185.1) (b := (a107.getD ((x182).toNat) 0)) (mbx hG210 rfl) (mbx hG210 rfl))) ?_
                                              refine RJ_mbF rfl rfl rfl (fun hG213 => have hP214 : ¬ (r185.2 ≠ (0 : Int)) := nP (bT_dec) hG213; VJ_P (P_pickAnd (mbx hG213 rfl) (fun hh => mbx (and_i hG213 hh) rfl) rfl)) ?_
                                              refine RJ_op rfl (OJ_P (P_pickOr rfl rfl (fun hh => mbx (not_f hh) rfl)) rfl ?_)
                                              refine RJ_op rfl (OJ_P (P_move rfl) rfl ?_)
                                              refine RJ_mbF rfl rfl rfl (fun hG215 => have hP216 : ¬ ((r185.2 ≠ (0 : Int)) ∨ ((x182 < (w11 + (((bad.toNat : Nat) : Int) % w12))) ∧ (r185.1 ≠ (a107.getD ((x182).toNat) 0)))) := nP ((bT_or bT_dec (bT_and bT_dec bT_dec))) hG215; VJ_P (P_move rfl)) ?_
                                              refine RJ_mbF rfl rfl rfl (fun hG217 => have hP218 : ¬ ((r185.2 ≠ (0 : Int)) ∨ ((x182 < (w11 + (((bad.toNat : Nat) : Int) % w12))) ∧ (r185.1 ≠ (a107.getD ((x182).toNat) 0)))) := nP ((bT_or bT_dec (bT_and bT_dec bT_dec))) hG217; VJ_P (P_move rfl)) ?_
                                              refine RJ_mbF rfl rfl rfl (fun hG219 => have hP220 : ¬ ((r185.2 ≠ (0 : Int)) ∨ ((x182 < (w11 + (((bad.toNat : Nat) : Int) % w12))) ∧ (r185.1 ≠ (a107.getD ((x182).toNat) 0)))) := nP ((bT_or bT_dec (bT_and bT_dec bT_dec))) hG219; VJ_P (P_geq (a := x182) (b := (w11 + (((bad.toNat : Nat) : Int) % w12))) (mbx hG219 rfl) (mbx hG219 rfl))) ?_
                                              refine RJ_mbF rfl rfl rfl (fun hG221 => have hP222 : ¬ ((r185.2 ≠ (0 : Int)) ∨ ((x182 < (w11 + (((bad.toNat : Nat) : Int) % w12))) ∧ (r185.1 ≠ (a107.getD ((x182).toNat) 0)))) := nP ((bT_or bT_dec (bT_and bT_dec bT_dec))) hG221; VJ_P (P_move (mbx hG221 rfl))) ?_
                                              refine RJ_mbGT rfl rfl rfl (fun hG223 => have hP224 : ¬ ((r185.2 ≠ (0 : Int)) ∨ ((x182 < (w11 + (((bad.toNat : Nat) : Int) % w12))) ∧ (r185.1 ≠ (a107.getD ((x182).toNat) 0)))) := nP ((bT_or bT_dec (bT_and bT_dec bT_dec))) (and_l hG223); have hP225 : ((w11 + (((bad.toNat : Nat) : Int) % w12)) ≤ x182) := (bT_dec).1 (and_r hG223); VJ_P (P_move rfl)) ?_
                                              refine RJ_mbGT rfl rfl rfl (fun hG226 => have hP227 : ¬ ((r185.2 ≠ (0 : Int)) ∨ ((x182 < (w11 + (((bad.toNat : Nat) : Int) % w12))) ∧ (r185.1 ≠ (a107.getD ((x182).toNat) 0)))) := nP ((bT_or bT_dec (bT_and bT_dec bT_dec))) (and_l hG226); have hP228 : ((w11 + (((bad.toNat : Nat) : Int) % w12)) ≤ x182) := (bT_dec).1 (and_r hG226); VJ_P (P_ne_u64 (a := r185.1) (b := (1 : UInt64)) (mbx hG226 rfl) rfl)) ?_
                                              refine RJ_mbF rfl rfl rfl (fun hG229 => have hP230 : ¬ ((r185.2 ≠ (0 : Int)) ∨ ((x182 < (w11 + (((bad.toNat : Nat) : Int) % w12))) ∧ (r185.1 ≠ (a107.getD ((x182).toNat) 0)))) := nP ((bT_or bT_dec (bT_and bT_dec bT_dec))) hG229; VJ_P (P_pickAnd (mbx hG229 rfl) (fun hh => mbx (and_i hG229 hh) rfl) rfl)) ?_
                                              refine RJ_op rfl (OJ_P (P_pickOr rfl rfl (fun hh => mbx (not_f hh) rfl)) rfl ?_)
                                              refine RJ_nil ?_
                                              refine QJ_then ?_
                                              refine CJ_condP rfl (bT_or (bT_or bT_dec (bT_and bT_dec bT_dec)) (bT_and bT_dec bT_dec)) (fun hg29 => ?_) (fun hg29 => ?_)
                                              ·
                                                replace h := ite_t hg29 h
                                                refine CJ_seq ?_
                                                refine CJ_region ?_
                                                refine RJ_op rfl (OJ_P (P_assign rfl) rfl ?_)
                                                refine RJ_nil ?_
                                                refine QJ_then ?_
                                                refine CJ_ret ?_
                                                refine QJ_block_ret ?_
                                                refine QJ_then_ret ?_
                                                refine QJ_round_ret ?_
                                                refine QJ_block_ret ?_
                                                refine QJ_then_ret ?_
                                                refine QJ_block_ret ?_
                                                refine QJ_then_ret ?_
                                                refine QJ_round_ret ?_
                                                refine QJ_block_ret ?_
                                                refine QJ_then_ret ?_
                                                have hE := Option.some.inj h
                                                replace hE := seq_inr hK179 hE.symm
                                                replace hE := seq_inr hK6 hE.symm
                                                subst hE
                                                refine QJ_end (res1 Try.results9 rfl) ?_
                                                refine CSpec.close () ?_ ?_ (Ent.take del3 (Ent.drop (Ent.drop (Ent.drop (Ent.drop (Ent.drop Ent.refl))))))
                                                · rfl
                                                · trivial
                                              ·
                                                replace h := ite_f hg29 h
                                                refine CJ_skip ?_
                                                refine QJ_block_normal ?_
                                                refine QJ_then ?_
                                                refine CJ_region ?_
                                                refine RJ_op rfl (OJ_P (P_move rfl) rfl ?_)
                                                obtain ⟨hg30, h⟩ := grd_Ie h
                                                refine RJ_op rfl (OJ_P (P_add (a := x182) (b := (1 : Int)) rfl rfl hg30) rfl ?_)
                                                refine RJ_op rfl (OJ_P (P_assign rfl) rfl ?_)
                                                refine RJ_nil ?_
                                                refine QJ_nextR ⟨n, (x182 + (1 : Int))⟩ (Nat.lt_succ_self _) ?_ (by repeat (first | exact Kp.base | exact Kp.self | refine Kp.cons rfl ?_ | refine Kp.forget rfl ?_)) ?_ (Ent.take del0 (Ent.take del0 (Ent.take del0 (Ent.take del0 (Ent.take del0 (Ent.take del0 Ent.refl))))))
                                                · exact h
                                                · exact ⟨rfl, True.intro⟩
                                            ·
                                              replace h := ite_f hg27 h
                                              refine CJ_exit ?_
                                              refine QJ_then_exit ?_
                                              refine QJ_round_exit ?_
                                              refine QJ_block_here ?_
                                              refine QJ_cutR () ?_ (by repeat (first | exact Kp.base | exact Kp.self | refine Kp.cons rfl ?_ | refine Kp.forget rfl ?_)) ?_ (Ent.take del0 (Ent.take del0 (Ent.take del0 (Ent.take del0 (Ent.take del0 (Ent.take del0 Ent.refl))))))
                                              · exact (Option.some.inj h).symm
                                              · exact True.intro
                                        ·
                                          rintro _ hy231
                                          replace h := seq_inl hK179 hy231
                                          show QJ _ _ _ _ (([] : Slots) ++ forget _ _) (_)
                                          refine QJ_block_normal ?_
                                          refine QJ_then ?_
                                          refine CJ_region ?_
                                          refine RJ_op rfl (OJ_P (P_move rfl) rfl ?_)
                                          obtain ⟨hg31, h⟩ := grd_Ne h
                                          refine RJ_op rfl (OJ_P (PJ_eq (P_add (a := ((x9 : Nat) : Int)) (b := (1 : Int)) rfl rfl (nat_in hg31)) rfl) rfl ?_)
                                          refine RJ_op rfl (OJ_P (P_assign rfl) rfl ?_)
                                          refine RJ_nil ?_
                                          refine QJ_nextR ⟨n, (x9 + 1)⟩ (Nat.lt_succ_self _) ?_ (by repeat (first | exact Kp.base | exact Kp.self | refine Kp.cons rfl ?_ | refine Kp.forget rfl ?_)) ?_ (Ent.take del5 (Ent.take del3 (Ent.drop (Ent.drop (Ent.drop (Ent.drop Ent.refl))))))
                                          · exact h
                                          · exact ⟨rfl, True.intro⟩
                ·
                  replace h := ite_f hg7 h
                  refine RJ_gn (GY_no rfl rfl rfl hg7B) rfl rfl ?_
                  refine RJ_gn (GY_no rfl rfl rfl hg7B) rfl rfl ?_
                  refine RJ_gn (GY_no rfl rfl rfl hg7B) rfl rfl ?_
                  refine RJ_gn (GY_no rfl rfl rfl hg7B) rfl rfl ?_
                  refine RJ_gn (GY_no rfl rfl rfl hg7B) rfl rfl ?_
                  refine RJ_gn (GY_no rfl rfl rfl hg7B) rfl rfl ?_
                  refine RJ_gn (GY_no rfl rfl rfl hg7B) rfl rfl ?_
                  refine RJ_gn (GY_no rfl rfl rfl hg7B) rfl rfl ?_
                  refine RJ_gn (GY_no rfl rfl rfl hg7B) rfl rfl ?_
                  refine RJ_gy (GY_yes rfl rfl rfl hg6B) (OJ_P (P_pickF rfl hg7B rfl) rfl ?_)
                  refine RJ_op rfl (OJ_P (P_pickF rfl hg6B rfl) rfl ?_)
                  refine RJ_nil ?_
                  refine QJ_ent (Ent.take del0 (Ent.take del1 (Ent.take del1 (Ent.take del1 (Ent.take del1 (Ent.take del1 (Ent.take del1 (Ent.drop Ent.refl)))))))) ?_
                  refine QJ_then ?_
                  refine CJ_condF rfl rfl ?_
                  refine CJ_skip ?_
                  refine QJ_then ?_
                  refine CJ_seq ?_
                  refine CJ_region ?_
                  refine RJ_op rfl (OJ_P (P_move rfl) rfl ?_)
                  refine RJ_op rfl (OJ_V (V_index (i := 0) rfl rfl rfl ((hdl34).symm ▸ (by omega)) foc2 (Reads.sl _ _ _) Try.runUnderlying28 Try.sizeOf31) rfl ?_)
                  refine RJ_ent (Ent.trans (Ent.take del1 Ent.refl) (Rs_at (fun _ _ => Dup_DevP) (dx := dv0) (dh := tyDev.dflt) (i := 0) (by omega))) ?_
                  refine RJ_op rfl (OJ_V (V_loadE rfl rfl ((hdl34).symm ▸ (by omega)) foc3 (Reads.sl _ _ _) rfl rfl Try.isAgg31) rfl ?_)
                  refine RJ_op rfl (OJ_P (P_move rfl) rfl ?_)
                  refine RJ_op rfl (OJ_P (P_move rfl) rfl ?_)
                  obtain ⟨r233, hr234, h⟩ := bind_e h
                  refine RJ_op rfl (O_call (L_block_WriteAll rl hr234) rfl Try.call37 (Dels.cons del0 (Dels.cons del6 (Dels.cons del1 Dels.nil))) rfl (fun _ _ => ?_))
                  refine RJ_op rfl (OJ_P (P_assign rfl) rfl ?_)
                  refine RJ_nil ?_
                  refine QJ_ent (Ent.take del1 (Ent.take del1 (Ent.take del1 (Ent.take del1 (Ent.take del1 (Ent.take del1 (Ent.take del1 (Ent.drop Ent.refl)))))))) ?_
                  refine QJ_then ?_
                  refine CJ_seq ?_
                  refine CJ_seq ?_
                  refine CJ_region ?_
                  refine RJ_op rfl (OJ_P (P_move rfl) rfl ?_)
                  refine RJ_op rfl (OJ_P (P_eql (a := r233.1) (b := (0 : Int)) rfl rfl) rfl ?_)
                  refine RJ_op rfl (OJ_P (P_move rfl) rfl ?_)
                  refine RJ_op rfl (OJ_P (P_neqB rfl rfl Try.underlying4) rfl ?_)
                  refine RJ_op rfl (OJ_P (P_move rfl) rfl ?_)
                  refine RJ_mbF rfl rfl rfl (fun hG235 => have hP236 : ¬ (¬ ((r233.1 = (0 : Int)) ↔ ((((0 : Int) ≤ w11) ∧ (w11 ≤ (6 : Int))) ∧ (((l.length : Nat) : Int) ≤ ((6 : Int) - w11))))) := nP ((bT_not (bT_beq bT_dec (bT_and (bT_and bT_dec bT_dec) bT_dec)))) hG235; VJ_P (P_move rfl)) ?_
                  refine RJ_mbF rfl rfl rfl (fun hG237 => have hP238 : ¬ (¬ ((r233.1 = (0 : Int)) ↔ ((((0 : Int) ≤ w11) ∧ (w11 ≤ (6 : Int))) ∧ (((l.length : Nat) : Int) ≤ ((6 : Int) - w11))))) := nP ((bT_not (bT_beq bT_dec (bT_and (bT_and bT_dec bT_dec) bT_dec)))) hG237; VJ_P (P_not (mbx hG237 rfl))) ?_
                  refine RJ_mbF rfl rfl rfl (fun hG239 => have hP240 : ¬ (¬ ((r233.1 = (0 : Int)) ↔ ((((0 : Int) ≤ w11) ∧ (w11 ≤ (6 : Int))) ∧ (((l.length : Nat) : Int) ≤ ((6 : Int) - w11))))) := nP ((bT_not (bT_beq bT_dec (bT_and (bT_and bT_dec bT_dec) bT_dec)))) hG239; VJ_P (P_move (mbx hG239 rfl))) ?_
                  refine RJ_mbGT rfl rfl rfl (fun hG241 => have hP242 : ¬ (¬ ((r233.1 = (0 : Int)) ↔ ((((0 : Int) ≤ w11) ∧ (w11 ≤ (6 : Int))) ∧ (((l.length : Nat) : Int) ≤ ((6 : Int) - w11))))) := nP ((bT_not (bT_beq bT_dec (bT_and (bT_and bT_dec bT_dec) bT_dec)))) (and_l hG241); have hP243 : (¬ ((((0 : Int) ≤ w11) ∧ (w11 ≤ (6 : Int))) ∧ (((l.length : Nat) : Int) ≤ ((6 : Int) - w11)))) := ((bT_not (bT_and (bT_and bT_dec bT_dec) bT_dec))).1 (and_r hG241); VJ_P (P_move rfl)) ?_
                  refine RJ_mbGT rfl rfl rfl (fun hG244 => have hP245 : ¬ (¬ ((r233.1 = (0 : Int)) ↔ ((((0 : Int) ≤ w11) ∧ (w11 ≤ (6 : Int))) ∧ (((l.length : Nat) : Int) ≤ ((6 : Int) - w11))))) := nP ((bT_not (bT_beq bT_dec (bT_and (bT_and bT_dec bT_dec) bT_dec)))) (and_l hG244); have hP246 : (¬ ((((0 : Int) ≤ w11) ∧ (w11 ≤ (6 : Int))) ∧ (((l.length : Nat) : Int) ≤ ((6 : Int) - w11)))) := ((bT_not (bT_and (bT_and bT_dec bT_dec) bT_dec))).1 (and_r hG244); VJ_P (P_neq (a := r233.1) (b := (1 : Int)) (mbx hG244 rfl) rfl)) ?_
                  refine RJ_mbF rfl rfl rfl (fun hG247 => have hP248 : ¬ (¬ ((r233.1 = (0 : Int)) ↔ ((((0 : Int) ≤ w11) ∧ (w11 ≤ (6 : Int))) ∧ (((l.length : Nat) : Int) ≤ ((6 : Int) - w11))))) := nP ((bT_not (bT_beq bT_dec (bT_and (bT_and bT_dec bT_dec) bT_dec)))) hG247; VJ_P (P_pickAnd (mbx hG247 rfl) (fun hh => mbx (and_i hG247 hh) rfl) rfl)) ?_
                  refine RJ_op rfl (OJ_P (P_pickOr rfl rfl (fun hh => mbx (not_f hh) rfl)) rfl ?_)
                  refine RJ_nil ?_
                  refine QJ_then ?_
                  refine CJ_condP rfl (bT_or (bT_not (bT_beq bT_dec (bT_and (bT_and bT_dec bT_dec) bT_dec))) (bT_and (bT_not (bT_and (bT_and bT_dec bT_dec) bT_dec)) bT_dec)) (fun hg32 => ?_) (fun hg32 => ?_)
                  ·
                    replace h := ite_t hg32 h
                    refine CJ_seq ?_
                    refine CJ_region ?_
                    refine RJ_op rfl (OJ_P (P_assign rfl) rfl ?_)
                    refine RJ_nil ?_
                    refine QJ_ent (Ent.take del0 (Ent.take del0 (Ent.take del4 (Ent.drop (Ent.drop (Ent.drop (Ent.drop Ent.refl))))))) ?_
                    refine QJ_then ?_
                    refine CJ_ret ?_
                    refine QJ_then_ret ?_
                    refine QJ_block_ret ?_
                    refine QJ_then_ret ?_
                    refine QJ_round_ret ?_
                    refine QJ_block_ret ?_
                    refine QJ_then_ret ?_
                    have hE := Option.some.inj h
                    replace hE := seq_inr hK6 hE.symm
                    subst hE
                    refine QJ_end (res1 Try.results9 rfl) ?_
                    refine CSpec.close () ?_ ?_ (Ent.take del0 (Ent.drop (Ent.drop Ent.refl)))
                    · rfl
                    · trivial
                  ·
                    replace h := ite_f hg32 h
                    refine CJ_skip ?_
                    refine QJ_then ?_
                    refine CJ_seq ?_
                    refine CJ_seq ?_
                    refine CJ_region ?_
                    refine RJ_op rfl (OJ_P (P_move rfl) rfl ?_)
                    refine RJ_nil ?_
                    refine QJ_then ?_
                    obtain ⟨y251, hl249, hK250⟩ := bind_c h
                    refine CJ_cutT (X := (List UInt64)) [157, 158, 159, 160, 161] (fun a253 => ([] : Slots)) (fun a253 R => sl tyU X15.v a253 :: R) (fun a253 => y251 = a253) (Dels.cons del4 Dels.nil) ?_ ?_
                    ·
                      have h := hl249
                      refine CJ_condP rfl (bT_and (bT_and bT_dec bT_dec) bT_dec) (fun hg33 => ?_) (fun hg33 => ?_)
                      ·
                        replace h := ite_t hg33 h
                        refine CJ_region ?_
                        refine RJ_op rfl (OJ_P (P_move rfl) rfl ?_)
                        refine RJ_op rfl (OJ_P (P_move rfl) rfl ?_)
                        obtain ⟨hg34, h⟩ := grd_de h
                        refine RJ_op rfl (OJ_V (V_slice (l := (w11).toNat) (h := r13.length) rfl foc4 (Reads.sl _ _ _) ⟨_, by rw [Int.toNat_of_nonneg (by omega)]; exact rfl⟩ rfl (by omega) (by omega) Try.underlying25 Try.sizeOf22) rfl ?_)
                        refine RJ_op rfl (OJ_P (P_move rfl) rfl ?_)
                        refine RJ_op rfl (O_copyS (t := tyU) (bytes := 8) (l := (w11).toNat) (h := r13.length) (by omega) (by omega) rfl rfl del4 foc0 rl Try.underlying25 ok_tyU rfl ?_)
                        refine RJ_nil ?_
                        refine QJ_cutR (copiedAt r13 ((w11).toNat) r13.length l) ?_ (by repeat (first | exact Kp.base | exact Kp.self | refine Kp.cons rfl ?_ | refine Kp.forget rfl ?_)) ?_ (Ent.take del0 (Ent.take del0 (Ent.take del0 (Ent.take del0 (Ent.take del0 (Ent.take del0 (Ent.take del0 Ent.refl)))))))
                        · exact (Option.some.inj h).symm
                        · exact True.intro
                      ·
                        replace h := ite_f hg33 h
                        refine CJ_skip ?_
                        refine QJ_cutR r13 ?_ (by repeat (first | exact Kp.base | exact Kp.self | refine Kp.cons rfl ?_ | refine Kp.forget rfl ?_)) ?_ (Ent.take del4 (Ent.take del0 (Ent.take del0 (Ent.take del0 (Ent.take del0 (Ent.take del0 (Ent.take del0 Ent.refl)))))))
                        · exact (Option.some.inj h).symm
                        · exact True.intro
                    ·
                      rintro a253 hy254
                      replace h := bindK_at hK250 hy254
                      show CJ _ _ _ _ _ (([] : Slots) ++ forget _ _) (sl tyU X15.v a253 :: _)
                      refine CJ_seq ?_
                      refine AJ_startH 256 (by kernel_rfl) rfl ?_
                      refine AJ_takeP 0 1 rfl (by kernel_rfl) rfl (GY_none rfl) (P_move rfl) rfl (fun _ _ _ _ h => h) ?_
                      refine AJ_takeV 1 3 rfl (by kernel_rfl) rfl (by kernel_rfl) (by kernel_rfl) (GY_none rfl) (Ent.take del0 (Ent.take del0 (Ent.take del0 (Ent.take del0 (Ent.take del0 (Ent.take del0 (Ent.take del0 Ent.refl))))))) (V_index (i := 0) rfl rfl rfl ((hdl34).symm ▸ (by omega)) foc4 (Reads.sl _ _ _) Try.runUnderlying28 Try.sizeOf31) rfl (fun _ _ _ _ h => h) ?_
                      refine AJ_ent (Ent.trans (Ent.take del3 Ent.refl) (Rs_at (fun _ _ => Dup_DevP) (dx := dv0) (dh := tyDev.dflt) (i := 0) (by omega))) ?_
                      refine AJ_takeV 2 7 rfl (by kernel_rfl) rfl (by kernel_rfl) (by kernel_rfl) (GY_none rfl) (Ent.take del2 (Ent.take del2 (Ent.take del2 (Ent.take del1 (Ent.take del1 (Ent.take del1 (Ent.take del1 (Ent.drop Ent.refl)))))))) (V_loadE rfl rfl ((hdl34).symm ▸ (by omega)) foc4 (Reads.sl _ _ _) rfl rfl Try.isAgg31) rfl (fun _ _ _ _ h => h) ?_
                      refine AJ_takeP 3 15 rfl (by kernel_rfl) rfl (GY_none rfl) (P_move rfl) rfl (fun _ _ _ _ h => h) ?_
                      refine AJ_takeV 4 31 rfl (by kernel_rfl) rfl (by kernel_rfl) (by kernel_rfl) (GY_none rfl) (Ent.take del2 (Ent.take del2 (Ent.take del2 (Ent.take del1 (Ent.take del1 (Ent.take del1 (Ent.take del1 (Ent.drop Ent.refl)))))))) (V_index (i := 1) rfl rfl rfl ((hdl34).symm ▸ (by omega)) foc4 (Reads.sl _ _ _) Try.runUnderlying28 Try.sizeOf31) rfl (fun _ _ _ _ h => h) ?_
                      refine AJ_ent (Ent.trans (Ent.take del1 Ent.refl) (Rs_at (fun _ _ => Dup_DevP) (dx := dv0) (dh := tyDev.dflt) (i := 1) (by omega))) ?_
                      refine AJ_takeV 5 63 rfl (by kernel_rfl) rfl (by kernel_rfl) (by kernel_rfl) (GY_none rfl) (Ent.take del3 (Ent.take del3 (Ent.take del3 (Ent.take del1 (Ent.take del2 (Ent.take del2 (Ent.take del2 (Ent.drop (Ent.drop Ent.refl))))))))) (V_loadE rfl rfl ((hdl34).symm ▸ (by omega)) foc4 (Reads.sl _ _ _) rfl rfl Try.isAgg31) rfl (fun _ _ _ _ h => h) ?_
                      refine AJ_takeP 6 127 rfl (by kernel_rfl) rfl (GY_none rfl) (P_move rfl) rfl (fun _ _ _ _ h => h) ?_
                      refine AJ_takeP 7 255 rfl (by kernel_rfl) rfl (GY_none rfl) (P_move rfl) rfl (fun _ _ _ _ h => h) ?_
                      obtain ⟨r257, hr258, h⟩ := bind_e h
                      refine AJ_op 8 511 rfl (by kernel_rfl) rfl (GY_none rfl) (O_call (L_block_Copy hr258) rfl Try.call23 (Dels.cons del2 (Dels.cons del0 (Dels.cons del3 Dels.nil))) rfl (fun _ _ => ?_))
                      refine ⟨fun h => absurd h (by decide), ?_⟩
                      refine AJ_takeP 9 1023 rfl (by kernel_rfl) rfl (GY_none rfl) (P_assign rfl) rfl (fun _ _ _ _ h => h) ?_
                      refine AJ_done (by kernel_rfl) ?_
                      refine QJ_ent (Ent.take del2 (Ent.take del2 (Ent.take del2 (Ent.take del2 (Ent.take del2 (Ent.take del2 (Ent.take del2 (Ent.drop (Ent.drop Ent.refl))))))))) ?_
                      refine QJ_then ?_
                      refine CJ_seq ?_
                      refine CJ_seq ?_
                      refine CJ_region ?_
                      refine RJ_op rfl (OJ_P (P_move rfl) rfl ?_)
                      refine RJ_op rfl (OJ_P (P_eql (a := r257.1) (b := (0 : Int)) rfl rfl) rfl ?_)
                      refine RJ_op rfl (OJ_P (P_move rfl) rfl ?_)
                      refine RJ_op rfl (OJ_P (P_neqB rfl rfl Try.underlying4) rfl ?_)
                      refine RJ_op rfl (OJ_P (P_move rfl) rfl ?_)
                      refine RJ_mbF rfl rfl rfl (fun hG259 => have hP260 : ¬ (¬ ((r257.1 = (0 : Int)) ↔ (((((0 : Int) ≤ w11) ∧ (w11 ≤ (6 : Int))) ∧ ((0 : Int) ≤ w12)) ∧ (w12 ≤ ((6 : Int) - w11))))) := nP ((bT_not (bT_beq bT_dec (bT_and (bT_and (bT_and bT_dec bT_dec) bT_dec) bT_dec)))) hG259; VJ_P (P_move rfl)) ?_
                      refine RJ_mbF rfl rfl rfl (fun hG261 => have hP262 : ¬ (¬ ((r257.1 = (0 : Int)) ↔ (((((0 : Int) ≤ w11) ∧ (w11 ≤ (6 : Int))) ∧ ((0 : Int) ≤ w12)) ∧ (w12 ≤ ((6 : Int) - w11))))) := nP ((bT_not (bT_beq bT_dec (bT_and (bT_and (bT_and bT_dec bT_dec) bT_dec) bT_dec)))) hG261; VJ_P (P_not (mbx hG261 rfl))) ?_
                      refine RJ_mbF rfl rfl rfl (fun hG263 => have hP264 : ¬ (¬ ((r257.1 = (0 : Int)) ↔ (((((0 : Int) ≤ w11) ∧ (w11 ≤ (6 : Int))) ∧ ((0 : Int) ≤ w12)) ∧ (w12 ≤ ((6 : Int) - w11))))) := nP ((bT_not (bT_beq bT_dec (bT_and (bT_and (bT_and bT_dec bT_dec) bT_dec) bT_dec)))) hG263; VJ_P (P_move (mbx hG263 rfl))) ?_
                      refine RJ_mbGT rfl rfl rfl (fun hG265 => have hP266 : ¬ (¬ ((r257.1 = (0 : Int)) ↔ (((((0 : Int) ≤ w11) ∧ (w11 ≤ (6 : Int))) ∧ ((0 : Int) ≤ w12)) ∧ (w12 ≤ ((6 : Int) - w11))))) := nP ((bT_not (bT_beq bT_dec (bT_and (bT_and (bT_and bT_dec bT_dec) bT_dec) bT_dec)))) (and_l hG265); have hP267 : (¬ (((((0 : Int) ≤ w11) ∧ (w11 ≤ (6 : Int))) ∧ ((0 : Int) ≤ w12)) ∧ (w12 ≤ ((6 : Int) - w11)))) := ((bT_not (bT_and (bT_and (bT_and bT_dec bT_dec) bT_dec) bT_dec))).1 (and_r hG265); VJ_P (P_move rfl)) ?_
                      refine RJ_mbGT rfl rfl rfl (fun hG268 => have hP269 : ¬ (¬ ((r257.1 = (0 : Int)) ↔ (((((0 : Int) ≤ w11) ∧ (w11 ≤ (6 : Int))) ∧ ((0 : Int) ≤ w12)) ∧ (w12 ≤ ((6 : Int) - w11))))) := nP ((bT_not (bT_beq bT_dec (bT_and (bT_and (bT_and bT_dec bT_dec) bT_dec) bT_dec)))) (and_l hG268); have hP270 : (¬ (((((0 : Int) ≤ w11) ∧ (w11 ≤ (6 : Int))) ∧ ((0 : Int) ≤ w12)) ∧ (w12 ≤ ((6 : Int) - w11)))) := ((bT_not (bT_and (bT_and (bT_and bT_dec bT_dec) bT_dec) bT_dec))).1 (and_r hG268); VJ_P (P_neq (a := r257.1) (b := (1 : Int)) (mbx hG268 rfl) rfl)) ?_
                      refine RJ_mbF rfl rfl rfl (fun hG271 => have hP272 : ¬ (¬ ((r257.1 = (0 : Int)) ↔ (((((0 : Int) ≤ w11) ∧ (w11 ≤ (6 : Int))) ∧ ((0 : Int) ≤ w12)) ∧ (w12 ≤ ((6 : Int) - w11))))) := nP ((bT_not (bT_beq bT_dec (bT_and (bT_and (bT_and bT_dec bT_dec) bT_dec) bT_dec)))) hG271; VJ_P (P_pickAnd (mbx hG271 rfl) (fun hh => mbx (and_i hG271 hh) rfl) rfl)) ?_
                      refine RJ_op rfl (OJ_P (P_pickOr rfl rfl (fun hh => mbx (not_f hh) rfl)) rfl ?_)
                      refine RJ_nil ?_
                      refine QJ_then ?_
                      refine CJ_condP rfl (bT_or (bT_not (bT_beq bT_dec (bT_and (bT_and (bT_and bT_dec bT_dec) bT_dec) bT_dec))) (bT_and (bT_not (bT_and (bT_and (bT_and bT_dec bT_dec) bT_dec) bT_dec)) bT_dec)) (fun hg35 => ?_) (fun hg35 => ?_)
                      ·
                        replace h := ite_t hg35 h
                        refine CJ_seq ?_
                        refine CJ_region ?_
                        refine RJ_op rfl (OJ_P (P_assign rfl) rfl ?_)
                        refine RJ_nil ?_
                        refine QJ_ent (Ent.take del0 (Ent.take del2 (Ent.take del4 (Ent.drop (Ent.drop (Ent.drop (Ent.drop Ent.refl))))))) ?_
                        refine QJ_then ?_
                        refine CJ_ret ?_
                        refine QJ_then_ret ?_
                        refine QJ_block_ret ?_
                        refine QJ_then_ret ?_
                        refine QJ_round_ret ?_
                        refine QJ_block_ret ?_
                        refine QJ_then_ret ?_
                        have hE := Option.some.inj h
                        replace hE := seq_inr hK6 hE.symm
                        subst hE
                        refine QJ_end (res1 Try.results9 rfl) ?_
                        refine CSpec.close () ?_ ?_ (Ent.take del1 (Ent.drop (Ent.drop Ent.refl)))
                        · rfl
                        · trivial
                      ·
                        replace h := ite_f hg35 h
                        refine CJ_skip ?_
                        refine QJ_then ?_
                        refine CJ_seq ?_
                        refine CJ_seq ?_
                        refine CJ_region ?_
                        refine RJ_op rfl (OJ_P (P_move rfl) rfl ?_)
                        refine RJ_nil ?_
                        refine QJ_then ?_
                        obtain ⟨y275, hl273, hK274⟩ := bind_c h
                        refine CJ_cutT (X := (List UInt64)) [184, 185, 186, 187, 188, 189, 190, 191, 192, 193, 194, 195, 196] (fun a277 => ([] : Slots)) (fun a277 R => sl tyU X19.v a277 :: R) (fun a277 => y275 = a277) (Dels.cons del5 Dels.nil) ?_ ?_
                        ·
                          have h := hl273
                          refine CJ_condP rfl (bT_and (bT_and (bT_and bT_dec bT_dec) bT_dec) bT_dec) (fun hg36 => ?_) (fun hg36 => ?_)
                          ·
                            replace h := ite_t hg36 h
                            refine AJ_startH 4096 (by kernel_rfl) rfl ?_
                            refine AJ_takeP 0 1 rfl (by kernel_rfl) rfl (GY_none rfl) (P_move rfl) rfl (fun _ _ _ _ h => h) ?_
                            refine AJ_takeP 1 3 rfl (by kernel_rfl) rfl (GY_none rfl) (P_move rfl) rfl (fun _ _ _ _ h => h) ?_
                            refine AJ_takeP 2 7 rfl (by kernel_rfl) rfl (GY_none rfl) (P_move rfl) rfl (fun _ _ _ _ h => h) ?_
                            refine AJ_takeP 3 15 rfl (by kernel_rfl) rfl (GY_none rfl) (P_move rfl) rfl (fun _ _ _ _ h => h) ?_
                            refine AJ_takeP 4 31 rfl (by kernel_rfl) rfl (GY_none rfl) (P_add (a := w11) (b := w12) rfl rfl (by omega)) rfl (fun _ _ _ _ h => h) ?_
                            obtain ⟨hg37, h⟩ := grd_de h
                            refine AJ_takeV 5 63 rfl (by kernel_rfl) rfl (by kernel_rfl) (by kernel_rfl) (GY_none rfl) (Ent.take del0 (Ent.take del0 (Ent.take del0 (Ent.take del0 (Ent.take del0 (Ent.take del0 (Ent.take del0 Ent.refl))))))) (V_slice (l := (w11).toNat) (h := ((w11 + w12)).toNat) rfl foc5 (Reads.sl _ _ _) ⟨_, by rw [Int.toNat_of_nonneg (by omega)]; exact rfl⟩ ⟨_, by rw [Int.toNat_of_nonneg (by omega)]; exact rfl⟩ (by omega) (by omega) Try.underlying25 Try.sizeOf22) rfl (fun _ _ _ _ h => h) ?_
                            refine AJ_takeP 6 127 rfl (by kernel_rfl) rfl (GY_none rfl) (P_move rfl) rfl (fun _ _ _ _ h => h) ?_
                            refine AJ_takeP 7 255 rfl (by kernel_rfl) rfl (GY_none rfl) (P_move rfl) rfl (fun _ _ _ _ h => h) ?_
                            refine AJ_takeP 8 511 rfl (by kernel_rfl) rfl (GY_none rfl) (P_move rfl) rfl (fun _ _ _ _ h => h) ?_
                            refine AJ_takeP 9 1023 rfl (by kernel_rfl) rfl (GY_none rfl) (P_move rfl) rfl (fun _ _ _ _ h => h) ?_
                            refine AJ_takeP 10 2047 rfl (by kernel_rfl) rfl (GY_none rfl) (P_add (a := w11) (b := w12) rfl rfl (by omega)) rfl (fun _ _ _ _ h => h) ?_
                            obtain ⟨hg38, h⟩ := grd_de h
                            refine AJ_takeV 11 4095 rfl (by kernel_rfl) rfl (by kernel_rfl) (by kernel_rfl) (GY_none rfl) (Ent.take del0 (Ent.take del0 (Ent.take del0 (Ent.take del0 (Ent.take del0 (Ent.take del0 (Ent.take del0 Ent.refl))))))) (V_slice (l := (w11).toNat) (h := ((w11 + w12)).toNat) rfl foc2 (Reads.sl _ _ _) ⟨_, by rw [Int.toNat_of_nonneg (by omega)]; exact rfl⟩ ⟨_, by rw [Int.toNat_of_nonneg (by omega)]; exact rfl⟩ (by omega) (by omega) Try.underlying25 Try.sizeOf22) rfl (fun _ _ _ _ h => h) ?_
                            refine AJ_op 12 8191 rfl (by kernel_rfl) rfl (GY_none rfl) (O_copyS (t := tyU) (bytes := 8) (l := (w11).toNat) (h := ((w11 + w12)).toNat) (by omega) (by omega) rfl rfl del5 foc2 (Reads.sliceV (Reads.sl _ _ _) (by omega) (by omega)) Try.underlying25 ok_tyU rfl ?_)
                            refine ⟨fun h => absurd h (by decide), ?_⟩
                            obtain ⟨w278, hw278, h⟩ := lt_e h
                            rw [← hw278]
                            refine AJ_done (by kernel_rfl) ?_
                            refine QJ_cutR (copiedAt r17 ((w11).toNat) (((w11 + w12)).toNat) (((a253.take (((w11 + w12)).toNat)).drop ((w11).toNat)))) ?_ (by repeat (first | exact Kp.base | exact Kp.self | refine Kp.cons rfl ?_ | refine Kp.forget rfl ?_)) ?_ (Ent.take del0 (Ent.take del0 (Ent.take del0 (Ent.take del0 (Ent.take del0 (Ent.take del0 (Ent.take del0 Ent.refl)))))))
                            · exact (Option.some.inj h).symm
                            · exact True.intro
                          ·
                            replace h := ite_f hg36 h
                            refine CJ_skip ?_
                            refine QJ_cutR r17 ?_ (by repeat (first | exact Kp.base | exact Kp.self | refine Kp.cons rfl ?_ | refine Kp.forget rfl ?_)) ?_ (Ent.take del5 (Ent.take del0 (Ent.take del0 (Ent.take del0 (Ent.take del0 (Ent.take del0 (Ent.take del0 Ent.refl)))))))
                            · exact (Option.some.inj h).symm
                            · exact True.intro
                        ·
                          rintro a277 hy279
                          replace h := bindK_at hK274 hy279
                          show CJ _ _ _ _ _ (([] : Slots) ++ forget _ _) (sl tyU X19.v a277 :: _)
                          refine CJ_seq ?_
                          refine AJ_startH 256 (by kernel_rfl) rfl ?_
                          refine AJ_takeP 0 1 rfl (by kernel_rfl) rfl (GY_none rfl) (P_move rfl) rfl (fun _ _ _ _ h => h) ?_
                          refine AJ_takeV 1 3 rfl (by kernel_rfl) rfl (by kernel_rfl) (by kernel_rfl) (GY_none rfl) (Ent.take del0 (Ent.take del0 (Ent.take del0 (Ent.take del0 (Ent.take del0 (Ent.take del0 (Ent.take del0 Ent.refl))))))) (V_index (i := 0) rfl rfl rfl ((hdl34).symm ▸ (by omega)) foc5 (Reads.sl _ _ _) Try.runUnderlying28 Try.sizeOf31) rfl (fun _ _ _ _ h => h) ?_
                          refine AJ_ent (Ent.trans (Ent.take del2 Ent.refl) (Rs_at (fun _ _ => Dup_DevP) (dx := dv0) (dh := tyDev.dflt) (i := 0) (by omega))) ?_
                          refine AJ_takeV 2 7 rfl (by kernel_rfl) rfl (by kernel_rfl) (by kernel_rfl) (GY_none rfl) (Ent.take del2 (Ent.take del2 (Ent.take del1 (Ent.take del1 (Ent.take del1 (Ent.take del1 (Ent.take del1 (Ent.drop Ent.refl)))))))) (V_loadE rfl rfl ((hdl34).symm ▸ (by omega)) foc5 (Reads.sl _ _ _) rfl rfl Try.isAgg31) rfl (fun _ _ _ _ h => h) ?_
                          refine AJ_takeP 3 15 rfl (by kernel_rfl) rfl (GY_none rfl) (P_move rfl) rfl (fun _ _ _ _ h => h) ?_
                          refine AJ_takeV 4 31 rfl (by kernel_rfl) rfl (by kernel_rfl) (by kernel_rfl) (GY_none rfl) (Ent.take del2 (Ent.take del2 (Ent.take del1 (Ent.take del1 (Ent.take del1 (Ent.take del1 (Ent.take del1 (Ent.drop Ent.refl)))))))) (V_index (i := 1) rfl rfl rfl ((hdl34).symm ▸ (by omega)) foc5 (Reads.sl _ _ _) Try.runUnderlying28 Try.sizeOf31) rfl (fun _ _ _ _ h => h) ?_
                          refine AJ_ent (Ent.trans (Ent.take del1 Ent.refl) (Rs_at (fun _ _ => Dup_DevP) (dx := dv0) (dh := tyDev.dflt) (i := 1) (by omega))) ?_
                          refine AJ_takeV 5 63 rfl (by kernel_rfl) rfl (by kernel_rfl) (by kernel_rfl) (GY_none rfl) (Ent.take del3 (Ent.take del3 (Ent.take del1 (Ent.take del2 (Ent.take del2 (Ent.take del2 (Ent.take del2 (Ent.drop (Ent.drop Ent.refl))))))))) (V_loadE rfl rfl ((hdl34).symm ▸ (by omega)) foc5 (Reads.sl _ _ _) rfl rfl Try.isAgg31) rfl (fun _ _ _ _ h => h) ?_
                          refine AJ_takeP 6 127 rfl (by kernel_rfl) rfl (GY_none rfl) (P_move rfl) rfl (fun _ _ _ _ h => h) ?_
                          refine AJ_takeP 7 255 rfl (by kernel_rfl) rfl (GY_none rfl) (P_move rfl) rfl (fun _ _ _ _ h => h) ?_
                          obtain ⟨r282, hr283, h⟩ := bind_e h
                          refine AJ_op 8 511 rfl (by kernel_rfl) rfl (GY_none rfl) (O_call (L_block_Equal hr283) rfl Try.call24 (Dels.cons del2 (Dels.cons del0 (Dels.cons del2 Dels.nil))) rfl (fun _ _ => ?_))
                          refine ⟨fun h => absurd h (by decide), ?_⟩
                          refine AJ_takeP 9 1023 rfl (by kernel_rfl) rfl (GY_none rfl) (P_move rfl) rfl (fun _ _ _ _ h => h) ?_
                          refine AJ_takeP 10 2047 rfl (by kernel_rfl) rfl (GY_none rfl) (P_extract rfl rfl) rfl (fun _ _ _ _ h => h) ?_
                          refine AJ_takeP 11 4095 rfl (by kernel_rfl) rfl (GY_none rfl) (P_extract rfl rfl) rfl (fun _ _ _ _ h => h) ?_
                          refine AJ_takeP 12 8191 rfl (by kernel_rfl) rfl (GY_none rfl) (P_assign rfl) rfl (fun _ _ _ _ h => h) ?_
                          refine AJ_takeP 13 16383 rfl (by kernel_rfl) rfl (GY_none rfl) (P_assign rfl) rfl (fun _ _ _ _ h => h) ?_
                          refine AJ_done (by kernel_rfl) ?_
                          refine QJ_ent (Ent.take del2 (Ent.take del2 (Ent.take del2 (Ent.take del2 (Ent.take del2 (Ent.take del2 (Ent.take del2 (Ent.drop (Ent.drop Ent.refl))))))))) ?_
                          refine QJ_then ?_
                          refine CJ_seq ?_
                          refine CJ_region ?_
                          refine RJ_op rfl (OJ_P (P_move rfl) rfl ?_)
                          refine RJ_op rfl (O_call (c_ImageD) rfl Try.call19 (Dels.cons del0 Dels.nil) rfl (fun X284 _ => ?_))
                          refine RJ_pure (len_of (Reads.sl _ _ _) del0) (fun hlen286 => ?_)
                          refine RJ_op rfl (OJ_P (P_move rfl) rfl ?_)
                          refine RJ_op rfl (OJ_P (P_extract rfl rfl) rfl ?_)
                          refine RJ_op rfl (OJ_P (P_extract rfl rfl) rfl ?_)
                          refine RJ_op rfl (OJ_P (P_assign rfl) rfl ?_)
                          refine RJ_op rfl (OJ_P (P_assign rfl) rfl ?_)
                          refine RJ_nil ?_
                          refine QJ_then ?_
                          refine CJ_seq ?_
                          refine CJ_region ?_
                          refine RJ_op rfl (OJ_P (P_move rfl) rfl ?_)
                          refine RJ_op rfl (O_call (c_ImageD) rfl Try.call19 (Dels.cons del1 Dels.nil) rfl (fun X287 _ => ?_))
                          refine RJ_pure (len_of (Reads.sl _ _ _) del0) (fun hlen289 => ?_)
                          refine RJ_op rfl (OJ_P (P_move rfl) rfl ?_)
                          refine RJ_op rfl (OJ_P (P_extract rfl rfl) rfl ?_)
                          refine RJ_op rfl (OJ_P (P_extract rfl rfl) rfl ?_)
                          refine RJ_op rfl (OJ_P (P_assign rfl) rfl ?_)
                          refine RJ_op rfl (OJ_P (P_assign rfl) rfl ?_)
                          refine RJ_nil ?_
                          refine QJ_then ?_
                          refine CJ_seq ?_
                          refine CJ_seq ?_
                          refine CJ_region ?_
                          refine RJ_op rfl (OJ_P (P_move rfl) rfl ?_)
                          refine RJ_op rfl (OJ_P (P_eql (a := r282.2) (b := (0 : Int)) rfl rfl) rfl ?_)
                          refine RJ_op rfl (OJ_P (P_move rfl) rfl ?_)
                          refine RJ_op rfl (OJ_P (P_neqB rfl rfl Try.underlying4) rfl ?_)
                          refine RJ_op rfl (OJ_P (P_move rfl) rfl ?_)
                          refine RJ_mbF rfl rfl rfl (fun hG290 => have hP291 : ¬ (¬ ((r282.2 = (0 : Int)) ↔ (((((0 : Int) ≤ w11) ∧ (w11 ≤ (6 : Int))) ∧ ((0 : Int) ≤ w12)) ∧ (w12 ≤ ((6 : Int) - w11))))) := nP ((bT_not (bT_beq bT_dec (bT_and (bT_and (bT_and bT_dec bT_dec) bT_dec) bT_dec)))) hG290; VJ_P (P_move rfl)) ?_
                          refine RJ_mbF rfl rfl rfl (fun hG292 => have hP293 : ¬ (¬ ((r282.2 = (0 : Int)) ↔ (((((0 : Int) ≤ w11) ∧ (w11 ≤ (6 : Int))) ∧ ((0 : Int) ≤ w12)) ∧ (w12 ≤ ((6 : Int) - w11))))) := nP ((bT_not (bT_beq bT_dec (bT_and (bT_and (bT_and bT_dec bT_dec) bT_dec) bT_dec)))) hG292; VJ_P (P_move rfl)) ?_
                          refine RJ_mbF rfl rfl rfl (fun hG294 => have hP295 : ¬ (¬ ((r282.2 = (0 : Int)) ↔ (((((0 : Int) ≤ w11) ∧ (w11 ≤ (6 : Int))) ∧ ((0 : Int) ≤ w12)) ∧ (w12 ≤ ((6 : Int) - w11))))) := nP ((bT_not (bT_beq bT_dec (bT_and (bT_and (bT_and bT_dec bT_dec) bT_dec) bT_dec)))) hG294; VJ_P (P_neqB (mbx hG294 rfl) (mbx hG294 rfl) Try.underlying4)) ?_
                          refine RJ_op rfl (OJ_P (P_pickOr rfl rfl (fun hh => mbx (not_f hh) rfl)) rfl ?_)
                          refine RJ_op rfl (OJ_P (P_move rfl) rfl ?_)
                          refine RJ_mbF rfl rfl rfl (fun hG296 => have hP297 : ¬ ((¬ ((r282.2 = (0 : Int)) ↔ (((((0 : Int) ≤ w11) ∧ (w11 ≤ (6 : Int))) ∧ ((0 : Int) ≤ w12)) ∧ (w12 ≤ ((6 : Int) - w11))))) ∨ (¬ (r282.1 = true ↔ (((((0 : Int) ≤ w11) ∧ (w11 ≤ (6 : Int))) ∧ ((0 : Int) ≤ w12)) ∧ (w12 ≤ ((6 : Int) - w11)))))) := nP ((bT_or (bT_not (bT_beq bT_dec (bT_and (bT_and (bT_and bT_dec bT_dec) bT_dec) bT_dec))) (bT_not (bT_beq Iff.rfl (bT_and (bT_and (bT_and bT_dec bT_dec) bT_dec) bT_dec))))) hG296; VJ_P (P_move rfl)) ?_
                          refine RJ_mbF rfl rfl rfl (fun hG298 => have hP299 : ¬ ((¬ ((r282.2 = (0 : Int)) ↔ (((((0 : Int) ≤ w11) ∧ (w11 ≤ (6 : Int))) ∧ ((0 : Int) ≤ w12)) ∧ (w12 ≤ ((6 : Int) - w11))))) ∨ (¬ (r282.1 = true ↔ (((((0 : Int) ≤ w11) ∧ (w11 ≤ (6 : Int))) ∧ ((0 : Int) ≤ w12)) ∧ (w12 ≤ ((6 : Int) - w11)))))) := nP ((bT_or (bT_not (bT_beq bT_dec (bT_and (bT_and (bT_and bT_dec bT_dec) bT_dec) bT_dec))) (bT_not (bT_beq Iff.rfl (bT_and (bT_and (bT_and bT_dec bT_dec) bT_dec) bT_dec))))) hG298; VJ_P (P_neq (a := (imC r257.2 (0 : Int))) (b := (0 : Int)) (mbx hG298 rfl) rfl)) ?_
                          refine RJ_op rfl (OJ_P (P_pickOr rfl rfl (fun hh => mbx (not_f hh) rfl)) rfl ?_)
                          refine RJ_op rfl (OJ_P (P_move rfl) rfl ?_)
                          refine RJ_mbF rfl rfl rfl (fun hG300 => have hP301 : ¬ (((¬ ((r282.2 = (0 : Int)) ↔ (((((0 : Int) ≤ w11) ∧ (w11 ≤ (6 : Int))) ∧ ((0 : Int) ≤ w12)) ∧ (w12 ≤ ((6 : Int) - w11))))) ∨ (¬ (r282.1 = true ↔ (((((0 : Int) ≤ w11) ∧ (w11 ≤ (6 : Int))) ∧ ((0 : Int) ≤ w12)) ∧ (w12 ≤ ((6 : Int) - w11)))))) ∨ ((imC r257.2 (0 : Int)) ≠ (0 : Int))) := nP ((bT_or (bT_or (bT_not (bT_beq bT_dec (bT_and (bT_and (bT_and bT_dec bT_dec) bT_dec) bT_dec))) (bT_not (bT_beq Iff.rfl (bT_and (bT_and (bT_and bT_dec bT_dec) bT_dec) bT_dec)))) bT_dec)) hG300; VJ_P (P_move rfl)) ?_
                          refine RJ_mbF rfl rfl rfl (fun hG302 => have hP303 : ¬ (((¬ ((r282.2 = (0 : Int)) ↔ (((((0 : Int) ≤ w11) ∧ (w11 ≤ (6 : Int))) ∧ ((0 : Int) ≤ w12)) ∧ (w12 ≤ ((6 : Int) - w11))))) ∨ (¬ (r282.1 = true ↔ (((((0 : Int) ≤ w11) ∧ (w11 ≤ (6 : Int))) ∧ ((0 : Int) ≤ w12)) ∧ (w12 ≤ ((6 : Int) - w11)))))) ∨ ((imC r257.2 (0 : Int)) ≠ (0 : Int))) := nP ((bT_or (bT_or (bT_not (bT_beq bT_dec (bT_and (bT_and (bT_and bT_dec bT_dec) bT_dec) bT_dec))) (bT_not (bT_beq Iff.rfl (bT_and (bT_and (bT_and bT_dec bT_dec) bT_dec) bT_dec)))) bT_dec)) hG302; VJ_P (P_neq (a := (imC r257.2 (1 : Int))) (b := (0 : Int)) (mbx hG302 rfl) rfl)) ?_
                          refine RJ_op rfl (OJ_P (P_pickOr rfl rfl (fun hh => mbx (not_f hh) rfl)) rfl ?_)
                          refine RJ_op rfl (OJ_P (P_move rfl) rfl ?_)
                          refine RJ_splitP 236 rfl (bT_or (bT_or (bT_or (bT_not (bT_beq bT_dec (bT_and (bT_and (bT_and bT_dec bT_dec) bT_dec) bT_dec))) (bT_not (bT_beq Iff.rfl (bT_and (bT_and (bT_and bT_dec bT_dec) bT_dec) bT_dec)))) bT_dec) bT_dec) (fun hg39B hg39 => ?_) (fun hg39B hg39 => ?_)
                          ·
                            replace h := ite_t hg39 h
                            refine RJ_gn (GY_no rfl rfl rfl hg39B) rfl rfl ?_
                            refine RJ_gn (GY_no rfl rfl rfl hg39B) rfl rfl ?_
                            refine RJ_gn (GY_no rfl rfl rfl hg39B) rfl rfl ?_
                            refine RJ_gn (GY_no rfl rfl rfl hg39B) rfl rfl ?_
                            refine RJ_op rfl (OJ_P (P_pickT rfl hg39B rfl) rfl ?_)
                            refine RJ_op rfl (OJ_P (P_move rfl) rfl ?_)
                            refine RJ_gn (GY_no rfl rfl rfl rfl) rfl rfl ?_
                            refine RJ_gn (GY_no rfl rfl rfl rfl) rfl rfl ?_
                            refine RJ_gn (GY_no rfl rfl rfl rfl) rfl rfl ?_
                            refine RJ_gn (GY_no rfl rfl rfl rfl) rfl rfl ?_
                            refine RJ_op rfl (OJ_P (P_pickT rfl rfl rfl) rfl ?_)
                            refine RJ_nil ?_
                            refine QJ_ent (Ent.take del1 (Ent.take del2 (Ent.take del3 (Ent.take del3 (Ent.take del3 (Ent.take del3 (Ent.drop (Ent.drop (Ent.drop Ent.refl))))))))) ?_
                            refine QJ_then ?_
                            refine CJ_condT rfl rfl ?_
                            refine CJ_seq ?_
                            refine CJ_region ?_
                            refine RJ_op rfl (OJ_P (P_assign rfl) rfl ?_)
                            refine RJ_nil ?_
                            refine QJ_then ?_
                            refine CJ_ret ?_
                            refine QJ_then_ret ?_
                            refine QJ_block_ret ?_
                            refine QJ_then_ret ?_
                            refine QJ_round_ret ?_
                            refine QJ_block_ret ?_
                            refine QJ_then_ret ?_
                            have hE := Option.some.inj h
                            replace hE := seq_inr hK6 hE.symm
                            subst hE
                            refine QJ_end (res1 Try.results9 rfl) ?_
                            refine CSpec.close () ?_ ?_ (Ent.take del3 (Ent.drop (Ent.drop (Ent.drop (Ent.drop (Ent.drop Ent.refl))))))
                            · rfl
                            · trivial
                          ·
                            replace h := ite_f hg39 h
                            refine RJ_gy (GY_yes rfl rfl rfl hg39B) (OJ_P (P_move rfl) rfl ?_)
                            refine RJ_gy (GY_yes rfl rfl rfl hg39B) (OJ_P (P_move rfl) rfl ?_)
                            obtain ⟨r304, hr305, h⟩ := bind_e h
                            refine RJ_gy (GY_yes rfl rfl rfl hg39B) (O_call (L_volumegroupref05_Same (Reads.sl _ _ _) (Reads.sl _ _ _) hr305) rfl Try.call20 (Dels.cons del2 (Dels.cons del4 Dels.nil)) rfl (fun _ _ => ?_))
                            refine RJ_gy (GY_yes rfl rfl rfl hg39B) (OJ_P (P_not rfl) rfl ?_)
                            refine RJ_op rfl (OJ_P (P_pickF rfl hg39B rfl) rfl ?_)
                            refine RJ_op rfl (OJ_P (P_move rfl) rfl ?_)
                            refine RJ_splitP 242 rfl (bT_not Iff.rfl) (fun hg40B hg40 => ?_) (fun hg40B hg40 => ?_)
                            ·
                              replace h := ite_t hg40 h
                              refine RJ_gn (GY_no rfl rfl rfl hg40B) rfl rfl ?_
                              refine RJ_gn (GY_no rfl rfl rfl hg40B) rfl rfl ?_
                              refine RJ_gn (GY_no rfl rfl rfl hg40B) rfl rfl ?_
                              refine RJ_gn (GY_no rfl rfl rfl hg40B) rfl rfl ?_
                              refine RJ_op rfl (OJ_P (P_pickT rfl hg40B rfl) rfl ?_)
                              refine RJ_nil ?_
                              refine QJ_ent (Ent.take del1 (Ent.take del2 (Ent.take del2 (Ent.take del3 (Ent.take del3 (Ent.take del3 (Ent.drop (Ent.drop (Ent.drop Ent.refl))))))))) ?_
                              refine QJ_then ?_
                              refine CJ_condT rfl rfl ?_
                              refine CJ_seq ?_
                              refine CJ_region ?_
                              refine RJ_op rfl (OJ_P (P_assign rfl) rfl ?_)
                              refine RJ_nil ?_
                              refine QJ_then ?_
                              refine CJ_ret ?_
                              refine QJ_then_ret ?_
                              refine QJ_block_ret ?_
                              refine QJ_then_ret ?_
                              refine QJ_round_ret ?_
                              refine QJ_block_ret ?_
                              refine QJ_then_ret ?_
                              have hE := Option.some.inj h
                              replace hE := seq_inr hK6 hE.symm
                              subst hE
                              refine QJ_end (res1 Try.results9 rfl) ?_
                              refine CSpec.close () ?_ ?_ (Ent.take del3 (Ent.drop (Ent.drop (Ent.drop (Ent.drop (Ent.drop Ent.refl))))))
                              · rfl
                              · trivial
                            ·
                              replace h := ite_f hg40 h
                              refine RJ_gy (GY_yes rfl rfl rfl hg40B) (OJ_P (P_move rfl) rfl ?_)
                              refine RJ_gy (GY_yes rfl rfl rfl hg40B) (OJ_P (P_move rfl) rfl ?_)
                              obtain ⟨r306, hr307, h⟩ := bind_e h
                              refine RJ_gy (GY_yes rfl rfl rfl hg40B) (O_call (L_volumegroupref05_Same (Reads.sl _ _ _) (Reads.sl _ _ _) hr307) rfl Try.call20 (Dels.cons del2 (Dels.cons del4 Dels.nil)) rfl (fun _ _ => ?_))
                              refine RJ_gy (GY_yes rfl rfl rfl hg40B) (OJ_P (P_not rfl) rfl ?_)
                              refine RJ_op rfl (OJ_P (P_pickF rfl hg40B rfl) rfl ?_)
                              refine RJ_nil ?_
                              refine QJ_ent (Ent.take del3 (Ent.take del3 (Ent.take del3 (Ent.take del3 (Ent.take del3 (Ent.take del3 (Ent.drop (Ent.drop (Ent.drop Ent.refl))))))))) ?_
                              refine QJ_then ?_
                              refine CJ_condP rfl (bT_not Iff.rfl) (fun hg41 => ?_) (fun hg41 => ?_)
                              ·
                                replace h := ite_t hg41 h
                                refine CJ_seq ?_
                                refine CJ_region ?_
                                refine RJ_op rfl (OJ_P (P_assign rfl) rfl ?_)
                                refine RJ_nil ?_
                                refine QJ_then ?_
                                refine CJ_ret ?_
                                refine QJ_then_ret ?_
                                refine QJ_block_ret ?_
                                refine QJ_then_ret ?_
                                refine QJ_round_ret ?_
                                refine QJ_block_ret ?_
                                refine QJ_then_ret ?_
                                have hE := Option.some.inj h
                                replace hE := seq_inr hK6 hE.symm
                                subst hE
                                refine QJ_end (res1 Try.results9 rfl) ?_
                                refine CSpec.close () ?_ ?_ (Ent.take del3 (Ent.drop (Ent.drop (Ent.drop (Ent.drop (Ent.drop Ent.refl))))))
                                · rfl
                                · trivial
                              ·
                                replace h := ite_f hg41 h
                                refine CJ_skip ?_
                                refine QJ_then ?_
                                refine CJ_seq ?_
                                refine CJ_seq ?_
                                refine CJ_region ?_
                                refine RJ_op rfl (OJ_P (P_move rfl) rfl ?_)
                                refine RJ_op rfl (OJ_P (P_not rfl) rfl ?_)
                                refine RJ_op rfl (OJ_P (P_move rfl) rfl ?_)
                                refine RJ_mbF rfl rfl rfl (fun hG308 => have hP309 : ¬ (¬ (((((0 : Int) ≤ w11) ∧ (w11 ≤ (6 : Int))) ∧ ((0 : Int) ≤ w12)) ∧ (w12 ≤ ((6 : Int) - w11)))) := nP ((bT_not (bT_and (bT_and (bT_and bT_dec bT_dec) bT_dec) bT_dec))) hG308; VJ_P (P_move rfl)) ?_
                                refine RJ_mbF rfl rfl rfl (fun hG310 => have hP311 : ¬ (¬ (((((0 : Int) ≤ w11) ∧ (w11 ≤ (6 : Int))) ∧ ((0 : Int) ≤ w12)) ∧ (w12 ≤ ((6 : Int) - w11)))) := nP ((bT_not (bT_and (bT_and (bT_and bT_dec bT_dec) bT_dec) bT_dec))) hG310; VJ_P (P_eql (a := w12) (b := (0 : Int)) (mbx hG310 rfl) rfl)) ?_
                                refine RJ_op rfl (OJ_P (P_pickOr rfl rfl (fun hh => mbx (not_f hh) rfl)) rfl ?_)
                                refine RJ_nil ?_
                                refine QJ_then ?_
                                refine CJ_condP rfl (bT_or (bT_not (bT_and (bT_and (bT_and bT_dec bT_dec) bT_dec) bT_dec)) bT_dec) (fun hg42 => ?_) (fun hg42 => ?_)
                                ·
                                  replace h := ite_t hg42 h
                                  refine CJ_exit ?_
                                  refine QJ_then_exit ?_
                                  refine QJ_block_here ?_
                                  refine QJ_then ?_
                                  refine CJ_region ?_
                                  refine RJ_op rfl (OJ_P (P_move rfl) rfl ?_)
                                  obtain ⟨hg43, h⟩ := grd_Ne h
                                  refine RJ_op rfl (OJ_P (PJ_eq (P_add (a := ((x9 : Nat) : Int)) (b := (1 : Int)) rfl rfl (nat_in hg43)) rfl) rfl ?_)
                                  refine RJ_op rfl (OJ_P (P_assign rfl) rfl ?_)
                                  refine RJ_nil ?_
                                  refine QJ_nextR ⟨n, (x9 + 1)⟩ (Nat.lt_succ_self _) ?_ (by repeat (first | exact Kp.base | exact Kp.self | refine Kp.cons rfl ?_ | refine Kp.forget rfl ?_)) ?_ (Ent.take del5 (Ent.take del3 (Ent.drop (Ent.drop (Ent.drop (Ent.drop Ent.refl))))))
                                  · exact h
                                  · exact ⟨rfl, True.intro⟩
                                ·
                                  replace h := ite_f hg42 h
                                  refine CJ_skip ?_
                                  refine QJ_then ?_
                                  refine CJ_seq ?_
                                  refine CJ_region ?_
                                  refine RJ_op rfl (OJ_P (P_move rfl) rfl ?_)
                                  refine RJ_op rfl (OJ_P (P_move rfl) rfl ?_)
                                  refine RJ_op rfl (OJ_P (P_convSame rfl Try.runUnderlying5 Try.runUnderlying3 (wrap64_u _ (by have := bad.toNat_lt; omega))) rfl ?_)
                                  refine RJ_op rfl (OJ_P (P_move rfl) rfl ?_)
                                  refine RJ_op rfl (OJ_P (P_rem (a := ((bad.toNat : Nat) : Int)) (b := w12) rfl rfl (by omega)) rfl ?_)
                                  obtain ⟨hg44, h⟩ := grd_Ie h
                                  refine RJ_op rfl (OJ_P (P_add (a := w11) (b := (((bad.toNat : Nat) : Int) % w12)) rfl rfl hg44) rfl ?_)
                                  refine RJ_op rfl (OJ_P (P_assign rfl) rfl ?_)
                                  refine RJ_nil ?_
                                  refine QJ_then ?_
                                  refine CJ_seq ?_
                                  refine CJ_region ?_
                                  refine RJ_op rfl (OJ_P (P_move rfl) rfl ?_)
                                  refine RJ_op rfl (OJ_P (P_move rfl) rfl ?_)
                                  refine RJ_op rfl (O_call (c_SetBad) rfl Try.call38 (Dels.cons del1 Dels.nil) rfl (fun _ _ => ?_))
                                  refine RJ_nil ?_
                                  refine QJ_then ?_
                                  refine CJ_seq ?_
                                  refine CJ_seq ?_
                                  refine CJ_region ?_
                                  refine RJ_op rfl (OJ_P (P_move rfl) rfl ?_)
                                  refine RJ_op rfl (OJ_P (P_assign rfl) rfl ?_)
                                  refine RJ_nil ?_
                                  refine QJ_then ?_
                                  obtain ⟨y314, hl312, hK313⟩ := bind_c h
                                  refine CJ_cutT (X := ArrS) [28, 264, 265, 266, 267, 268, 269, 270, 271, 272, 273] (fun a316 => ([] : Slots)) (fun a316 R => Arr X25 a316 :: R) (fun a316 => y314 = a316) (Dels.cons del0 Dels.nil) ?_ ?_
                                  ·
                                    refine CJ_block ?_
                                    refine CJ_loopR (X := Nat × ArrS × Int) [28, 264, 265, 266, 267, 268, 269, 270, 271, 272, 273] (fun ⟨n, x317, x318⟩ => ([(28, .int .i64 x318)] : Slots)) (fun ⟨n, x317, x318⟩ R => Arr X25 x317 :: R) (fun ⟨n, x317, x318⟩ => volumegrouplaw05_BlockCopies_l8 w11 w12 n x317 x318 = some y314) (fun ⟨n, x317, x318⟩ => n) ⟨FUEL, (sbS r257.2 (0 : Int) ((w11 + (((bad.toNat : Nat) : Int) % w12))) true), w11⟩ ?_ ?_ (Ent.take del0 (Ent.take del0 (Ent.take del0 (Ent.take del0 (Ent.take del0 (Ent.take del0 Ent.refl)))))) ?_
                                    · exact hl312
                                    · exact ⟨rfl, True.intro⟩
                                    ·
                                      rintro ⟨n, x317, x318⟩ h
                                      cases n with
                                      | zero => exact none_e h
                                      | succ n => ?_
                                      replace h : volumegrouplaw05_BlockCopies_l8_b w11 w12 (volumegrouplaw05_BlockCopies_l8 w11 w12 n) x317 x318 = some y314 := h
                                      unfold volumegrouplaw05_BlockCopies_l8_b at h
                                      show CJ _ _ _ _ _ (([(28, .int .i64 x318)] : Slots) ++ forget _ _) (Arr X25 x317 :: _)
                                      refine CJ_seq ?_
                                      refine CJ_seq ?_
                                      refine CJ_region ?_
                                      refine RJ_op rfl (OJ_P (P_move rfl) rfl ?_)
                                      refine RJ_op rfl (OJ_P (P_move rfl) rfl ?_)
                                      refine RJ_op rfl (OJ_P (P_move rfl) rfl ?_)
                                      refine RJ_op rfl (OJ_P (P_add (a := w11) (b := w12) rfl rfl (by omega)) rfl ?_)
                                      refine RJ_op rfl (OJ_P (P_lss (a := x318) (b := (w11 + w12)) rfl rfl) rfl ?_)
                                      refine RJ_nil ?_
                                      refine QJ_then ?_
                                      refine CJ_condP rfl bT_dec (fun hg45 => ?_) (fun hg45 => ?_)
                                      ·
                                        replace h := ite_t hg45 h
                                        refine CJ_skip ?_
                                        refine QJ_then ?_
                                        refine CJ_seq ?_
                                        refine CJ_block ?_
                                        refine CJ_region ?_
                                        refine RJ_op rfl (OJ_P (P_move rfl) rfl ?_)
                                        refine RJ_op rfl (OJ_P (P_move rfl) rfl ?_)
                                        obtain ⟨hg46, h⟩ := grd_Le h
                                        refine RJ_op rfl (O_call (c_Write hg46 (v := (1 : UInt64))) rfl Try.call39 (Dels.cons del0 Dels.nil) rfl (fun _ _ => ?_))
                                        refine RJ_nil ?_
                                        refine QJ_block_normal ?_
                                        refine QJ_then ?_
                                        refine CJ_region ?_
                                        refine RJ_op rfl (OJ_P (P_move rfl) rfl ?_)
                                        obtain ⟨hg47, h⟩ := grd_Ie h
                                        refine RJ_op rfl (OJ_P (P_add (a := x318) (b := (1 : Int)) rfl rfl hg47) rfl ?_)
                                        refine RJ_op rfl (OJ_P (P_assign rfl) rfl ?_)
                                        refine RJ_nil ?_
                                        refine QJ_nextR ⟨n, (wrS x317 (1 : Int) x318 (1 : UInt64)), (x318 + (1 : Int))⟩ (Nat.lt_succ_self _) ?_ (by repeat (first | exact Kp.base | exact Kp.self | refine Kp.cons rfl ?_ | refine Kp.forget rfl ?_)) ?_ (Ent.take del0 (Ent.take del0 (Ent.take del0 (Ent.take del0 (Ent.take del0 (Ent.take del0 Ent.refl))))))
                                        · exact h
                                        · exact ⟨rfl, True.intro⟩
                                      ·
                                        replace h := ite_f hg45 h
                                        refine CJ_exit ?_
                                        refine QJ_then_exit ?_
                                        refine QJ_round_exit ?_
                                        refine QJ_block_here ?_
                                        refine QJ_cutR x317 ?_ (by repeat (first | exact Kp.base | exact Kp.self | refine Kp.cons rfl ?_ | refine Kp.forget rfl ?_)) ?_ (Ent.take del0 (Ent.take del0 (Ent.take del0 (Ent.take del0 (Ent.take del0 (Ent.take del0 Ent.refl))))))
                                        · exact (Option.some.inj h).symm
                                        · exact True.intro
                                  ·
                                    rintro a316 hy319
                                    replace h := bindK_at hK313 hy319
                                    show CJ _ _ _ _ _ (([] : Slots) ++ forget _ _) (Arr X25 a316 :: _)
                                    refine CJ_seq ?_
                                    refine CJ_seq ?_
                                    refine AJ_startH 256 (by kernel_rfl) rfl ?_
                                    refine AJ_takeP 0 1 rfl (by kernel_rfl) rfl (GY_none rfl) (P_move rfl) rfl (fun _ _ _ _ h => h) ?_
                                    refine AJ_takeV 1 3 rfl (by kernel_rfl) rfl (by kernel_rfl) (by kernel_rfl) (GY_none rfl) (Ent.take del0 (Ent.take del0 (Ent.take del0 (Ent.take del0 (Ent.take del0 (Ent.take del0 Ent.refl)))))) (V_index (i := 0) rfl rfl rfl ((hdl34).symm ▸ (by omega)) foc4 (Reads.sl _ _ _) Try.runUnderlying28 Try.sizeOf31) rfl (fun _ _ _ _ h => h) ?_
                                    refine AJ_ent (Ent.trans (Ent.take del2 Ent.refl) (Rs_at (fun _ _ => Dup_DevP) (dx := dv0) (dh := tyDev.dflt) (i := 0) (by omega))) ?_
                                    refine AJ_takeV 2 7 rfl (by kernel_rfl) rfl (by kernel_rfl) (by kernel_rfl) (GY_none rfl) (Ent.take del2 (Ent.take del2 (Ent.take del1 (Ent.take del1 (Ent.take del1 (Ent.take del1 (Ent.drop Ent.refl))))))) (V_loadE rfl rfl ((hdl34).symm ▸ (by omega)) foc4 (Reads.sl _ _ _) rfl rfl Try.isAgg31) rfl (fun _ _ _ _ h => h) ?_
                                    refine AJ_takeP 3 15 rfl (by kernel_rfl) rfl (GY_none rfl) (P_move rfl) rfl (fun _ _ _ _ h => h) ?_
                                    refine AJ_takeV 4 31 rfl (by kernel_rfl) rfl (by kernel_rfl) (by kernel_rfl) (GY_none rfl) (Ent.take del2 (Ent.take del2 (Ent.take del1 (Ent.take del1 (Ent.take del1 (Ent.take del1 (Ent.drop Ent.refl))))))) (V_index (i := 1) rfl rfl rfl ((hdl34).symm ▸ (by omega)) foc4 (Reads.sl _ _ _) Try.runUnderlying28 Try.sizeOf31) rfl (fun _ _ _ _ h => h) ?_
                                    refine AJ_ent (Ent.trans (Ent.take del1 Ent.refl) (Rs_at (fun _ _ => Dup_DevP) (dx := dv0) (dh := tyDev.dflt) (i := 1) (by omega))) ?_
                                    refine AJ_takeV 5 63 rfl (by kernel_rfl) rfl (by kernel_rfl) (by kernel_rfl) (GY_none rfl) (Ent.take del3 (Ent.take del3 (Ent.take del1 (Ent.take del2 (Ent.take del2 (Ent.take del2 (Ent.drop (Ent.drop Ent.refl)))))))) (V_loadE rfl rfl ((hdl34).symm ▸ (by omega)) foc4 (Reads.sl _ _ _) rfl rfl Try.isAgg31) rfl (fun _ _ _ _ h => h) ?_
                                    refine AJ_takeP 6 127 rfl (by kernel_rfl) rfl (GY_none rfl) (P_move rfl) rfl (fun _ _ _ _ h => h) ?_
                                    refine AJ_takeP 7 255 rfl (by kernel_rfl) rfl (GY_none rfl) (P_move rfl) rfl (fun _ _ _ _ h => h) ?_
                                    obtain ⟨r322, hr323, h⟩ := bind_e h
                                    refine AJ_op 8 511 rfl (by kernel_rfl) rfl (GY_none rfl) (O_call (L_block_Copy hr323) rfl Try.call23 (Dels.cons del2 (Dels.cons del0 (Dels.cons del1 Dels.nil))) rfl (fun _ _ => ?_))
                                    refine ⟨fun h => absurd h (by decide), ?_⟩
                                    refine AJ_takeP 9 1023 rfl (by kernel_rfl) rfl (GY_none rfl) (P_neq (a := r322.1) (b := (7 : Int)) rfl rfl) rfl (fun _ _ _ _ h => h) ?_
                                    refine AJ_done (by kernel_rfl) ?_
                                    refine QJ_ent (Ent.take del2 (Ent.take del2 (Ent.take del2 (Ent.take del2 (Ent.take del2 (Ent.take del2 (Ent.drop (Ent.drop Ent.refl)))))))) ?_
                                    refine QJ_then ?_
                                    refine CJ_condP rfl bT_dec (fun hg48 => ?_) (fun hg48 => ?_)
                                    ·
                                      replace h := ite_t hg48 h
                                      refine CJ_seq ?_
                                      refine CJ_region ?_
                                      refine RJ_op rfl (OJ_P (P_assign rfl) rfl ?_)
                                      refine RJ_nil ?_
                                      refine QJ_then ?_
                                      refine CJ_ret ?_
                                      refine QJ_then_ret ?_
                                      refine QJ_block_ret ?_
                                      refine QJ_then_ret ?_
                                      refine QJ_round_ret ?_
                                      refine QJ_block_ret ?_
                                      refine QJ_then_ret ?_
                                      have hE := Option.some.inj h
                                      replace hE := seq_inr hK6 hE.symm
                                      subst hE
                                      refine QJ_end (res1 Try.results9 rfl) ?_
                                      refine CSpec.close () ?_ ?_ (Ent.take del3 (Ent.drop (Ent.drop (Ent.drop (Ent.drop (Ent.drop Ent.refl))))))
                                      · rfl
                                      · trivial
                                    ·
                                      replace h := ite_f hg48 h
                                      refine CJ_skip ?_
                                      refine QJ_then ?_
                                      refine CJ_seq ?_
                                      refine CJ_region ?_
                                      refine RJ_op rfl (OJ_P (P_move rfl) rfl ?_)
                                      refine RJ_op rfl (OJ_P (P_assign rfl) rfl ?_)
                                      refine RJ_nil ?_
                                      refine QJ_then ?_
                                      obtain ⟨y326, hl324, hK325⟩ := seq_e h
                                      refine CJ_cutQ (X := Unit) [8, 29, 30, 31, 285, 286, 287, 288, 289, 290, 291, 292, 293, 294, 295, 296, 297, 298, 299, 300, 301, 302, 303, 304, 305, 306, 307, 308, 309, 310, 311, 312, 313, 314, 315, 316, 317, 318, 319, 320, 321, 322, 323] (fun _ => ([] : Slots)) (fun _ R => R) (fun _ => y326 = .inl ()) Dels.nil ?_ ?_
                                      ·
                                        refine CJ_block ?_
                                        refine CJ_loopR (X := Nat × Int) [8, 29, 30, 31, 285, 286, 287, 288, 289, 290, 291, 292, 293, 294, 295, 296, 297, 298, 299, 300, 301, 302, 303, 304, 305, 306, 307, 308, 309, 310, 311, 312, 313, 314, 315, 316, 317, 318, 319, 320, 321, 322, 323] (fun ⟨n, x328⟩ => ([(29, .int .i64 x328)] : Slots)) (fun ⟨n, x328⟩ R => R) (fun ⟨n, x328⟩ => volumegrouplaw05_BlockCopies_l9 bad w11 w12 r29 a253 r322 n x328 = some y326) (fun ⟨n, x328⟩ => n) ⟨FUEL, w11⟩ ?_ ?_ (Ent.take del0 (Ent.take del0 (Ent.take del0 (Ent.take del0 (Ent.take del0 (Ent.take del0 Ent.refl)))))) ?_
                                        · exact hl324
                                        · exact ⟨rfl, True.intro⟩
                                        ·
                                          rintro ⟨n, x328⟩ h
                                          cases n with
                                          | zero => exact none_e h
                                          | succ n => ?_
                                          replace h : volumegrouplaw05_BlockCopies_l9_b bad w11 w12 r29 a253 r322 (volumegrouplaw05_BlockCopies_l9 bad w11 w12 r29 a253 r322 n) x328 = some y326 := h
                                          unfold volumegrouplaw05_BlockCopies_l9_b at h
                                          show CJ _ _ _ _ _ (([(29, .int .i64 x328)] : Slots) ++ forget _ _) (_)
                                          refine CJ_seq ?_
                                          refine CJ_seq ?_
                                          refine CJ_region ?_
                                          refine RJ_op rfl (OJ_P (P_move rfl) rfl ?_)
                                          refine RJ_op rfl (OJ_P (P_move rfl) rfl ?_)
                                          refine RJ_op rfl (OJ_P (P_move rfl) rfl ?_)
                                          refine RJ_op rfl (OJ_P (P_add (a := w11) (b := w12) rfl rfl (by omega)) rfl ?_)
                                          refine RJ_op rfl (OJ_P (P_lss (a := x328) (b := (w11 + w12)) rfl rfl) rfl ?_)
                                          refine RJ_nil ?_
                                          refine QJ_then ?_
                                          refine CJ_condP rfl bT_dec (fun hg49 => ?_) (fun hg49 => ?_)
                                          ·
                                            replace h := ite_t hg49 h
                                            refine CJ_skip ?_
                                            refine QJ_then ?_
                                            refine CJ_seq ?_
                                            refine CJ_block ?_
                                            refine CJ_seq ?_
                                            refine CJ_region ?_
                                            refine RJ_op rfl (OJ_P (P_move rfl) rfl ?_)
                                            refine RJ_op rfl (OJ_V (V_index (i := 1) rfl rfl rfl ((hdl34).symm ▸ (by omega)) foc4 (Reads.sl _ _ _) Try.runUnderlying28 Try.sizeOf31) rfl ?_)
                                            refine RJ_ent (Ent.trans (Ent.take del1 Ent.refl) (Rs_at (fun _ _ => Dup_DevP) (dx := dv0) (dh := tyDev.dflt) (i := 1) (by omega))) ?_
                                            refine RJ_op rfl (OJ_V (V_loadE rfl rfl ((hdl34).symm ▸ (by omega)) foc5 (Reads.sl _ _ _) rfl rfl Try.isAgg31) rfl ?_)
                                            refine RJ_op rfl (OJ_P (P_move rfl) rfl ?_)
                                            refine RJ_pure (fun h hh => DevP_dep h (stars_perm (del0 (A := DevP X25 (r29.getD 1 dv0) (X31.2.getD 1 tyDev.dflt))).out h hh)) (fun hdp330 => ?_)
                                            obtain ⟨r331, hr332, h⟩ := bind_e h
                                            refine RJ_op rfl (O_callI rfl (dev_Read hr332 hdp330) rfl (Dels.cons del0 (Dels.cons del1 Dels.nil)) rfl (fun _ _ => ?_))
                                            refine RJ_op rfl (OJ_P (P_move rfl) rfl ?_)
                                            refine RJ_op rfl (OJ_P (P_extract rfl rfl) rfl ?_)
                                            refine RJ_op rfl (OJ_P (P_extract rfl rfl) rfl ?_)
                                            refine RJ_op rfl (OJ_P (P_assign rfl) rfl ?_)
                                            refine RJ_op rfl (OJ_P (P_assign rfl) rfl ?_)
                                            refine RJ_nil ?_
                                            refine QJ_ent (Ent.take del1 (Ent.take del1 (Ent.take del1 (Ent.take del1 (Ent.take del1 (Ent.take del1 (Ent.drop Ent.refl))))))) ?_
                                            refine QJ_then ?_
                                            refine CJ_seq ?_
                                            refine CJ_region ?_
                                            refine RJ_op rfl (OJ_P (P_move rfl) rfl ?_)
                                            refine RJ_op rfl (OJ_P (P_neq (a := r331.2) (b := (0 : Int)) rfl rfl) rfl ?_)
                                            refine RJ_op rfl (OJ_P (P_move rfl) rfl ?_)
                                            refine RJ_mbF rfl rfl rfl (fun hG333 => have hP334 : ¬ (r331.2 ≠ (0 : Int)) := nP (bT_dec) hG333; VJ_P (P_move rfl)) ?_
                                            refine RJ_mbF rfl rfl rfl (fun hG335 => have hP336 : ¬ (r331.2 ≠ (0 : Int)) := nP (bT_dec) hG335; VJ_P (P_move rfl)) ?_
                                            refine RJ_mbF rfl rfl rfl (fun hG337 => have hP338 : ¬ (r331.2 ≠ (0 : Int)) := nP (bT_dec) hG337; VJ_P (P_lss (a := x328) (b := (w11 + (((bad.toNat : Nat) : Int) % w12))) (mbx hG337 rfl) (mbx hG337 rfl))) ?_
                                            refine RJ_mbF rfl rfl rfl (fun hG339 => have hP340 : ¬ (r331.2 ≠ (0 : Int)) := nP (bT_dec) hG339; VJ_P (P_move (mbx hG339 rfl))) ?_
                                            refine RJ_mbGT rfl rfl rfl (fun hG341 => have hP342 : ¬ (r331.2 ≠ (0 : Int)) := nP (bT_dec) (and_l hG341); have hP343 : (x328 < (w11 + (((bad.toNat : Nat) : Int) % w12))) := (bT_dec).1 (and_r hG341); VJ_P (P_move rfl)) ?_
                                            refine RJ_mbGT rfl rfl rfl (fun hG344 => have hP345 : ¬ (r331.2 ≠ (0 : Int)) := nP (bT_dec) (and_l hG344); have hP346 : (x328 < (w11 + (((bad.toNat : Nat) : Int) % w12))) := (bT_dec).1 (and_r hG344); VJ_P (P_move rfl)) ?_
                                            refine RJ_mbGT rfl rfl rfl (fun hG347 => have hP348 : ¬ (r331.2 ≠ (0 : Int)) := nP (bT_dec) (and_l hG347); have hP349 : (x328 < (w11 + (((bad.toNat : Nat) : Int) % w12))) := (bT_dec).1 (and_r hG347); VJ_P (P_move rfl)) ?_
                                            obtain ⟨hg50, h⟩ := grd_de h
                                            refine RJ_mbGT rfl rfl rfl (fun hG350 => have hP351 : ¬ (r331.2 ≠ (0 : Int)) := nP (bT_dec) (and_l hG350); have hP352 : (x328 < (w11 + (((bad.toNat : Nat) : Int) % w12))) := (bT_dec).1 (and_r hG350); V_index (i := (x328).toNat) (mbx hG350 rfl) (mbx hG350 rfl) (Int.toNat_of_nonneg ((hg50 hP351 hP352).1)).symm (by omega) foc2 (Reads.sl _ _ _) Try.runUnderlying25 Try.sizeOf22) ?_
                                            refine RJ_mbGT rfl rfl rfl (fun hG353 => have hP354 : ¬ (r331.2 ≠ (0 : Int)) := nP (bT_dec) (and_l hG353); have hP355 : (x328 < (w11 + (((bad.toNat : Nat) : Int) % w12))) := (bT_dec).1 (and_r hG353); V_loadE (mbx hG353 rfl) rfl (by omega) foc2 (Reads.sl _ _ _) rfl rfl Try.isAgg22) ?_
                                            refine RJ_mbGT rfl rfl rfl (fun hG356 => have hP357 : ¬ (r331.2 ≠ (0 : Int)) := nP (bT_dec) (and_l hG356); have hP358 : (x328 < (w11 + (((bad.toNat : Nat) : Int) % w12))) := (bT_dec).1 (and_r hG356); VJ_P (P_ne_u64 (a := r331.1) (b := (a253.getD ((x328).toNat) 0)) (mbx hG356 rfl) (mbx hG356 rfl))) ?_
                                            refine RJ_mbF rfl rfl rfl (fun hG359 => have hP360 : ¬ (r331.2 ≠ (0 : Int)) := nP (bT_dec) hG359; VJ_P (P_pickAnd (mbx hG359 rfl) (fun hh => mbx (and_i hG359 hh) rfl) rfl)) ?_
                                            refine RJ_op rfl (OJ_P (P_pickOr rfl rfl (fun hh => mbx (not_f hh) rfl)) rfl ?_)
                                            refine RJ_op rfl (OJ_P (P_move rfl) rfl ?_)
                                            refine RJ_mbF rfl rfl rfl (fun hG361 => have hP362 : ¬ ((r331.2 ≠ (0 : Int)) ∨ ((x328 < (w11 + (((bad.toNat : Nat) : Int) % w12))) ∧ (r331.1 ≠ (a253.getD ((x328).toNat) 0)))) := nP ((bT_or bT_dec (bT_and bT_dec bT_dec))) hG361; VJ_P (P_move rfl)) ?_
                                            refine RJ_mbF rfl rfl rfl (fun hG363 => have hP364 : ¬ ((r331.2 ≠ (0 : Int)) ∨ ((x328 < (w11 + (((bad.toNat : Nat) : Int) % w12))) ∧ (r331.1 ≠ (a253.getD ((x328).toNat) 0)))) := nP ((bT_or bT_dec (bT_and bT_dec bT_dec))) hG363; VJ_P (P_move rfl)) ?_
                                            refine RJ_mbF rfl rfl rfl (fun hG365 => have hP366 : ¬ ((r331.2 ≠ (0 : Int)) ∨ ((x328 < (w11 + (((bad.toNat : Nat) : Int) % w12))) ∧ (r331.1 ≠ (a253.getD ((x328).toNat) 0)))) := nP ((bT_or bT_dec (bT_and bT_dec bT_dec))) hG365; VJ_P (P_geq (a := x328) (b := (w11 + (((bad.toNat : Nat) : Int) % w12))) (mbx hG365 rfl) (mbx hG365 rfl))) ?_
                                            refine RJ_mbF rfl rfl rfl (fun hG367 => have hP368 : ¬ ((r331.2 ≠ (0 : Int)) ∨ ((x328 < (w11 + (((bad.toNat : Nat) : Int) % w12))) ∧ (r331.1 ≠ (a253.getD ((x328).toNat) 0)))) := nP ((bT_or bT_dec (bT_and bT_dec bT_dec))) hG367; VJ_P (P_move (mbx hG367 rfl))) ?_
                                            refine RJ_mbGT rfl rfl rfl (fun hG369 => have hP370 : ¬ ((r331.2 ≠ (0 : Int)) ∨ ((x328 < (w11 + (((bad.toNat : Nat) : Int) % w12))) ∧ (r331.1 ≠ (a253.getD ((x328).toNat) 0)))) := nP ((bT_or bT_dec (bT_and bT_dec bT_dec))) (and_l hG369); have hP371 : ((w11 + (((bad.toNat : Nat) : Int) % w12)) ≤ x328) := (bT_dec).1 (and_r hG369); VJ_P (P_move rfl)) ?_
                                            refine RJ_mbGT rfl rfl rfl (fun hG372 => have hP373 : ¬ ((r331.2 ≠ (0 : Int)) ∨ ((x328 < (w11 + (((bad.toNat : Nat) : Int) % w12))) ∧ (r331.1 ≠ (a253.getD ((x328).toNat) 0)))) := nP ((bT_or bT_dec (bT_and bT_dec bT_dec))) (and_l hG372); have hP374 : ((w11 + (((bad.toNat : Nat) : Int) % w12)) ≤ x328) := (bT_dec).1 (and_r hG372); VJ_P (P_ne_u64 (a := r331.1) (b := (1 : UInt64)) (mbx hG372 rfl) rfl)) ?_
                                            refine RJ_mbF rfl rfl rfl (fun hG375 => have hP376 : ¬ ((r331.2 ≠ (0 : Int)) ∨ ((x328 < (w11 + (((bad.toNat : Nat) : Int) % w12))) ∧ (r331.1 ≠ (a253.getD ((x328).toNat) 0)))) := nP ((bT_or bT_dec (bT_and bT_dec bT_dec))) hG375; VJ_P (P_pickAnd (mbx hG375 rfl) (fun hh => mbx (and_i hG375 hh) rfl) rfl)) ?_
                                            refine RJ_op rfl (OJ_P (P_pickOr rfl rfl (fun hh => mbx (not_f hh) rfl)) rfl ?_)
                                            refine RJ_nil ?_
                                            refine QJ_then ?_
                                            refine CJ_condP rfl (bT_or (bT_or bT_dec (bT_and bT_dec bT_dec)) (bT_and bT_dec bT_dec)) (fun hg51 => ?_) (fun hg51 => ?_)
                                            ·
                                              replace h := ite_t hg51 h
                                              refine CJ_seq ?_
                                              refine CJ_region ?_
                                              refine RJ_op rfl (OJ_P (P_assign rfl) rfl ?_)
                                              refine RJ_nil ?_
                                              refine QJ_then ?_
                                              refine CJ_ret ?_
                                              refine QJ_block_ret ?_
                                              refine QJ_then_ret ?_
                                              refine QJ_round_ret ?_
                                              refine QJ_block_ret ?_
                                              refine QJ_then_ret ?_
                                              refine QJ_block_ret ?_
                                              refine QJ_then_ret ?_
                                              refine QJ_round_ret ?_
                                              refine QJ_block_ret ?_
                                              refine QJ_then_ret ?_
                                              have hE := Option.some.inj h
                                              replace hE := seq_inr hK325 hE.symm
                                              replace hE := seq_inr hK6 hE.symm
                                              subst hE
                                              refine QJ_end (res1 Try.results9 rfl) ?_
                                              refine CSpec.close () ?_ ?_ (Ent.take del3 (Ent.drop (Ent.drop (Ent.drop (Ent.drop (Ent.drop Ent.refl))))))
                                              · rfl
                                              · trivial
                                            ·
                                              replace h := ite_f hg51 h
                                              refine CJ_skip ?_
                                              refine QJ_block_normal ?_
                                              refine QJ_then ?_
                                              refine CJ_region ?_
                                              refine RJ_op rfl (OJ_P (P_move rfl) rfl ?_)
                                              obtain ⟨hg52, h⟩ := grd_Ie h
                                              refine RJ_op rfl (OJ_P (P_add (a := x328) (b := (1 : Int)) rfl rfl hg52) rfl ?_)
                                              refine RJ_op rfl (OJ_P (P_assign rfl) rfl ?_)
                                              refine RJ_nil ?_
                                              refine QJ_nextR ⟨n, (x328 + (1 : Int))⟩ (Nat.lt_succ_self _) ?_ (by repeat (first | exact Kp.base | exact Kp.self | refine Kp.cons rfl ?_ | refine Kp.forget rfl ?_)) ?_ (Ent.take del0 (Ent.take del0 (Ent.take del0 (Ent.take del0 (Ent.take del0 (Ent.take del0 Ent.refl))))))
                                              · exact h
                                              · exact ⟨rfl, True.intro⟩
                                          ·
                                            replace h := ite_f hg49 h
                                            refine CJ_exit ?_
                                            refine QJ_then_exit ?_
                                            refine QJ_round_exit ?_
                                            refine QJ_block_here ?_
                                            refine QJ_cutR () ?_ (by repeat (first | exact Kp.base | exact Kp.self | refine Kp.cons rfl ?_ | refine Kp.forget rfl ?_)) ?_ (Ent.take del0 (Ent.take del0 (Ent.take del0 (Ent.take del0 (Ent.take del0 (Ent.take del0 Ent.refl))))))
                                            · exact (Option.some.inj h).symm
                                            · exact True.intro
                                      ·
                                        rintro _ hy377
                                        replace h := seq_inl hK325 hy377
                                        show QJ _ _ _ _ (([] : Slots) ++ forget _ _) (_)
                                        refine QJ_block_normal ?_
                                        refine QJ_then ?_
                                        refine CJ_region ?_
                                        refine RJ_op rfl (OJ_P (P_move rfl) rfl ?_)
                                        obtain ⟨hg53, h⟩ := grd_Ne h
                                        refine RJ_op rfl (OJ_P (PJ_eq (P_add (a := ((x9 : Nat) : Int)) (b := (1 : Int)) rfl rfl (nat_in hg53)) rfl) rfl ?_)
                                        refine RJ_op rfl (OJ_P (P_assign rfl) rfl ?_)
                                        refine RJ_nil ?_
                                        refine QJ_nextR ⟨n, (x9 + 1)⟩ (Nat.lt_succ_self _) ?_ (by repeat (first | exact Kp.base | exact Kp.self | refine Kp.cons rfl ?_ | refine Kp.forget rfl ?_)) ?_ (Ent.take del5 (Ent.take del3 (Ent.drop (Ent.drop (Ent.drop (Ent.drop Ent.refl))))))
                                        · exact h
                                        · exact ⟨rfl, True.intro⟩
        ·
          replace h := ite_f hg4 h
          refine CJ_exit ?_
          refine QJ_then_exit ?_
          refine QJ_round_exit ?_
          refine QJ_block_here ?_
          refine QJ_cutR () ?_ (by repeat (first | exact Kp.base | exact Kp.self | refine Kp.cons rfl ?_ | refine Kp.forget rfl ?_)) ?_ (Ent.take del0 (Ent.take del0 Ent.refl))
          · exact (Option.some.inj h).symm
          · exact True.intro
    ·
      rintro _ hy378
      replace h := seq_inl hK6 hy378
      show CJ _ _ _ _ _ (([] : Slots) ++ forget _ _) (_)
      refine CJ_seq ?_
      refine CJ_region ?_
      obtain ⟨r379, hr380, h⟩ := bind_e h
      refine RJ_op rfl (O_call (L_volumegrouplaw05_awake hr380) rfl Try.call21 Dels.nil rfl (fun _ _ => ?_))
      refine RJ_op rfl (OJ_P (P_assign rfl) rfl ?_)
      refine RJ_nil ?_
      refine QJ_then ?_
      refine CJ_ret ?_
      have hE := Option.some.inj h
      subst hE
      refine QJ_end (res1 Try.results9 rfl) ?_
      refine CSpec.close () ?_ ?_ (Ent.take del1 (Ent.drop Ent.refl))
      · rfl
      · trivial

end Go.Proofs
