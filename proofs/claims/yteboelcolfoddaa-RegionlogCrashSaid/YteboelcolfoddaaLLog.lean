/- YteboelcolfoddaaLLog: lifted functions of the program; printed by lift.py. -/
import Derived.Test.YteboelcolfoddaaLLogC
set_option linter.unusedSimpArgs false
set_option linter.unusedVariables false
set_option maxRecDepth 20000
set_option maxHeartbeats 4000000
namespace Go.Proofs
open Go.VG

theorem bld_66_0_1_2_3 (v0 : TypeId) (v1 : Value) (v2 : Int) (v3 : (Option Addr)) (v4 : Nat) (v5 : Nat) (v6 : (Option Nat)) : ∀ w, (Instr.build 66 (#[(0, .iface v0 v1), (1, .int .i64 v2), (2, .slice v3 v4 v5), (3, .map v6)] : Array (Nat × Value))).run Try.prog w = .ok (.agg #[.iface v0 v1, .int .i64 v2, .slice v3 v4 v5, .map v6]) w := fun w => by kernel_rfl
theorem bld_76 : ∀ w, (Instr.build 76 (#[] : Array (Nat × Value))).run Try.prog w = .ok (.agg #[]) w := fun w => by kernel_rfl
def regionlog_Words (regions : Int) : Option (Int) :=
  if ((regions < (1 : Int)) ∨ ((1048576 : Int) < regions)) then
    some (0 : Int)
  else
    some (((1 : Int) + ((regions + (63 : Int)) / (64 : Int))))

theorem L_regionlog_Words {W : World} {regions : Int} {r : Int} (h : regionlog_Words regions = some r) :
    CSpec Try.prog W 10 [.int .i64 regions] [] (fun x : Unit => .int .i64 r) (fun _ => True) (fun x F => F) := by
  refine CSpec.of_body Try.func10 rfl Try.ntmps10 rfl (fun F => ?_)
  show CJ _ _ _ _ _ _ (F)
  unfold regionlog_Words at h
  refine CJ_seq ?_
  refine CJ_region ?_
  refine RJ_op rfl (OJ_P (P_assign rfl) rfl ?_)
  refine RJ_nil ?_
  refine QJ_then ?_
  refine CJ_seq ?_
  refine CJ_seq ?_
  refine CJ_region ?_
  refine RJ_op rfl (OJ_P (P_move rfl) rfl ?_)
  refine RJ_op rfl (OJ_P (P_lss (a := regions) (b := (1 : Int)) rfl rfl) rfl ?_)
  refine RJ_op rfl (OJ_P (P_move rfl) rfl ?_)
  refine RJ_mbF rfl rfl rfl (fun hG1 => have hP2 : ¬ (regions < (1 : Int)) := nP (bT_dec) hG1; VJ_P (P_move rfl)) ?_
  refine RJ_mbF rfl rfl rfl (fun hG3 => have hP4 : ¬ (regions < (1 : Int)) := nP (bT_dec) hG3; VJ_P (P_gtr (a := regions) (b := (1048576 : Int)) (mbx hG3 rfl) rfl)) ?_
  refine RJ_op rfl (OJ_P (P_pickOr rfl rfl (fun hh => mbx (not_f hh) rfl)) rfl ?_)
  refine RJ_nil ?_
  refine QJ_then ?_
  refine CJ_condP rfl (bT_or bT_dec bT_dec) (fun hg1 => ?_) (fun hg1 => ?_)
  ·
    replace h := ite_t hg1 h
    refine CJ_seq ?_
    refine CJ_region ?_
    refine RJ_op rfl (OJ_P (P_assign rfl) rfl ?_)
    refine RJ_nil ?_
    refine QJ_then ?_
    refine CJ_ret ?_
    refine QJ_then_ret ?_
    have hE := Option.some.inj h
    subst hE
    refine QJ_end (res1 Try.results10 rfl) ?_
    refine CSpec.close () ?_ ?_ Ent.refl
    · rfl
    · trivial
  ·
    replace h := ite_f hg1 h
    refine CJ_skip ?_
    refine QJ_then ?_
    refine CJ_seq ?_
    refine CJ_region ?_
    refine RJ_op rfl (OJ_P (P_move rfl) rfl ?_)
    refine RJ_op rfl (OJ_P (P_add (a := regions) (b := (63 : Int)) rfl rfl (by omega)) rfl ?_)
    refine RJ_op rfl (OJ_P (P_quo (a := (regions + (63 : Int))) (b := (64 : Int)) rfl rfl (by omega)) rfl ?_)
    refine RJ_op rfl (OJ_P (P_add (a := (1 : Int)) (b := ((regions + (63 : Int)) / (64 : Int))) rfl rfl (by omega)) rfl ?_)
    refine RJ_op rfl (OJ_P (P_assign rfl) rfl ?_)
    refine RJ_nil ?_
    refine QJ_then ?_
    refine CJ_ret ?_
    have hE := Option.some.inj h
    subst hE
    refine QJ_end (res1 Try.results10 rfl) ?_
    refine CSpec.close () ?_ ?_ Ent.refl
    · rfl
    · trivial

def regionlog_check (x_0 : Dvc) (regions : Int) (s : ArrS) : Option (Int) :=
  Option.bind (regionlog_Words regions) fun r1 =>
  if (r1 = (0 : Int)) then
    some (1 : Int)
  else
    Option.bind (Dvc.size x_0 s) fun r4 =>
    if (r4 < r1) then
      some (3 : Int)
    else
      some (0 : Int)

theorem L_regionlog_check {W : World} {vx_0 : IfH} {bs : Nat} {x_0 : Dvc} {regions : Int} {s : ArrS} {r : Int} (h : regionlog_check x_0 regions s = some r) :
    CSpec Try.prog W 30 [IfH.v vx_0, .int .i64 regions] [DevP bs x_0 vx_0, Arr bs s] (fun x : Unit => .int .i64 r) (fun _ => True) (fun x F => DevP bs x_0 vx_0 :: Arr bs s :: F) := by
  refine CSpec.of_body Try.func30 rfl Try.ntmps30 rfl (fun F => ?_)
  show CJ _ _ _ _ _ _ (_ :: _ :: F)
  unfold regionlog_check at h
  refine CJ_seq ?_
  refine CJ_region ?_
  refine RJ_op rfl (OJ_P (P_assign rfl) rfl ?_)
  refine RJ_nil ?_
  refine QJ_then ?_
  refine CJ_seq ?_
  refine CJ_seq ?_
  refine CJ_region ?_
  refine RJ_op rfl (OJ_P (P_move rfl) rfl ?_)
  obtain ⟨r1, hr2, h⟩ := bind_e h
  refine RJ_op rfl (O_call (L_regionlog_Words hr2) rfl Try.call10 Dels.nil rfl (fun _ _ => ?_))
  refine RJ_op rfl (OJ_P (P_assign rfl) rfl ?_)
  refine RJ_nil ?_
  refine QJ_then ?_
  refine CJ_block ?_
  refine CJ_seq ?_
  refine CJ_region ?_
  refine RJ_op rfl (OJ_P (P_move rfl) rfl ?_)
  refine RJ_op rfl (OJ_P (P_eql (a := r1) (b := (0 : Int)) rfl rfl) rfl ?_)
  refine RJ_op rfl (OJ_P (P_assign rfl) rfl ?_)
  refine RJ_nil ?_
  refine QJ_then ?_
  refine CJ_condP rfl bT_dec (fun hg1 => ?_) (fun hg1 => ?_)
  ·
    replace h := ite_t hg1 h
    refine CJ_seq ?_
    refine CJ_region ?_
    refine RJ_op rfl (OJ_P (P_assign rfl) rfl ?_)
    refine RJ_nil ?_
    refine QJ_then ?_
    refine CJ_ret ?_
    refine QJ_block_ret ?_
    refine QJ_then_ret ?_
    have hE := Option.some.inj h
    subst hE
    refine QJ_end (res1 Try.results30 rfl) ?_
    refine CSpec.close () ?_ ?_ Ent.refl
    · rfl
    · trivial
  ·
    replace h := ite_f hg1 h
    refine CJ_seq ?_
    refine CJ_region ?_
    refine RJ_op rfl (OJ_P (P_move rfl) rfl ?_)
    refine RJ_pure (fun h hh => DevP_dep h (stars_perm (del0 (A := DevP bs x_0 vx_0)).out h hh)) (fun hdp3 => ?_)
    obtain ⟨r4, hr5, h⟩ := bind_e h
    refine RJ_op rfl (O_callI rfl (dev_Size hr5 hdp3) rfl (Dels.cons del0 (Dels.cons del0 Dels.nil)) rfl (fun _ _ => ?_))
    refine RJ_op rfl (OJ_P (P_move rfl) rfl ?_)
    refine RJ_op rfl (OJ_P (P_lss (a := r4) (b := r1) rfl rfl) rfl ?_)
    refine RJ_op rfl (OJ_P (P_assign rfl) rfl ?_)
    refine RJ_nil ?_
    refine QJ_then ?_
    refine CJ_condP rfl bT_dec (fun hg2 => ?_) (fun hg2 => ?_)
    ·
      replace h := ite_t hg2 h
      refine CJ_seq ?_
      refine CJ_region ?_
      refine RJ_op rfl (OJ_P (P_assign rfl) rfl ?_)
      refine RJ_nil ?_
      refine QJ_then ?_
      refine CJ_ret ?_
      refine QJ_block_ret ?_
      refine QJ_then_ret ?_
      have hE := Option.some.inj h
      subst hE
      refine QJ_end (res1 Try.results30 rfl) ?_
      refine CSpec.close () ?_ ?_ Ent.refl
      · rfl
      · trivial
    ·
      replace h := ite_f hg2 h
      refine CJ_skip ?_
      refine QJ_block_normal ?_
      refine QJ_then ?_
      refine CJ_seq ?_
      refine CJ_region ?_
      refine RJ_op rfl (OJ_P (P_assign rfl) rfl ?_)
      refine RJ_nil ?_
      refine QJ_then ?_
      refine CJ_ret ?_
      have hE := Option.some.inj h
      subst hE
      refine QJ_end (res1 Try.results30 rfl) ?_
      refine CSpec.close () ?_ ?_ Ent.refl
      · rfl
      · trivial

def regionlog_Format (x_0 : Dvc) (regions : Int) (s : ArrS) : Option (Int × ArrS) :=
  Option.bind (regionlog_check x_0 regions s) fun r1 =>
  if (r1 ≠ (0 : Int)) then
    some (r1, s)
  else
    Option.bind (regionlog_Words regions) fun r3 =>
    grd (inI64 ((r3 - (1 : Int)))) <|
    grd (decide (0 ≤ (r3 - (1 : Int)) ∧ (r3 - (1 : Int)) ≤ 1000000000)) <|
    Option.bind (block_WriteAll x_0 (1 : Int) ((List.replicate (((r3 - (1 : Int))).toNat) 0)) s) fun r6 =>
    if (r6.1 ≠ (0 : Int)) then
      some (r6.1, r6.2)
    else
      Option.bind (Dvc.fl x_0 r6.2) fun r9 =>
      if (r9.1 ≠ (0 : Int)) then
        some (r9.1, r9.2)
      else
        Option.bind (Dvc.wr x_0 r9.2 (0 : Int) (((5498691735368237056 : UInt64) + (to_u64 regions)))) fun r12 =>
        if (r12.1 ≠ (0 : Int)) then
          some (r12.1, r12.2)
        else
          Option.bind (Dvc.fl x_0 r12.2) fun r15 =>
          some (r15.1, r15.2)

theorem L_regionlog_Format {W : World} {vx_0 : IfH} {bs : Nat} {x_0 : Dvc} {regions : Int} {s : ArrS} {r : Int × ArrS} (h : regionlog_Format x_0 regions s = some r) :
    CSpec Try.prog W 17 [IfH.v vx_0, .int .i64 regions] [DevP bs x_0 vx_0, Arr bs s] (fun x : Unit => .int .i64 r.1) (fun _ => True) (fun x F => DevP bs x_0 vx_0 :: Arr bs r.2 :: F) := by
  refine CSpec.of_body Try.func17 rfl Try.ntmps17 rfl (fun F => ?_)
  show CJ _ _ _ _ _ _ (_ :: _ :: F)
  unfold regionlog_Format at h
  refine CJ_seq ?_
  refine CJ_region ?_
  refine RJ_op rfl (OJ_P (P_assign rfl) rfl ?_)
  refine RJ_nil ?_
  refine QJ_then ?_
  refine CJ_seq ?_
  refine CJ_seq ?_
  refine CJ_region ?_
  refine RJ_op rfl (OJ_P (P_move rfl) rfl ?_)
  refine RJ_op rfl (OJ_P (P_move rfl) rfl ?_)
  obtain ⟨r1, hr2, h⟩ := bind_e h
  refine RJ_op rfl (O_call (L_regionlog_check hr2) rfl Try.call30 (Dels.cons del0 (Dels.cons del0 Dels.nil)) rfl (fun _ _ => ?_))
  refine RJ_op rfl (OJ_P (P_assign rfl) rfl ?_)
  refine RJ_nil ?_
  refine QJ_then ?_
  refine CJ_seq ?_
  refine CJ_region ?_
  refine RJ_op rfl (OJ_P (P_move rfl) rfl ?_)
  refine RJ_op rfl (OJ_P (P_neq (a := r1) (b := (0 : Int)) rfl rfl) rfl ?_)
  refine RJ_nil ?_
  refine QJ_then ?_
  refine CJ_condP rfl bT_dec (fun hg1 => ?_) (fun hg1 => ?_)
  ·
    replace h := ite_t hg1 h
    refine CJ_seq ?_
    refine CJ_region ?_
    refine RJ_op rfl (OJ_P (P_move rfl) rfl ?_)
    refine RJ_op rfl (OJ_P (P_assign rfl) rfl ?_)
    refine RJ_nil ?_
    refine QJ_then ?_
    refine CJ_ret ?_
    refine QJ_then_ret ?_
    have hE := Option.some.inj h
    subst hE
    refine QJ_end (res1 Try.results17 rfl) ?_
    refine CSpec.close () ?_ ?_ Ent.refl
    · rfl
    · trivial
  ·
    replace h := ite_f hg1 h
    refine CJ_skip ?_
    refine QJ_then ?_
    refine CJ_seq ?_
    refine CJ_seq ?_
    refine CJ_region ?_
    refine RJ_op rfl (OJ_P (P_move rfl) rfl ?_)
    refine RJ_op rfl (OJ_P (P_move rfl) rfl ?_)
    obtain ⟨r3, hr4, h⟩ := bind_e h
    refine RJ_op rfl (O_call (L_regionlog_Words hr4) rfl Try.call10 Dels.nil rfl (fun _ _ => ?_))
    obtain ⟨hg2, h⟩ := grd_Ie h
    refine RJ_op rfl (OJ_P (P_sub (a := r3) (b := (1 : Int)) rfl rfl hg2) rfl ?_)
    obtain ⟨hg3, h⟩ := grd_de h
    refine RJ_op rfl (O_make (t := tyU) (m := ((r3 - (1 : Int))).toNat) (x0 := 0) (z := _) (bytes := _) rfl rfl (Int.toNat_of_nonneg (hg3.1)).symm (Int.toNat_of_nonneg (hg3.1)).symm Try.underlying22 ⟨Try.t27, by kernel_rfl, rfl, rfl, rfl⟩ rfl (by omega) (by decide) rfl (fun b5 => ?_))
    obtain ⟨r6, hr7, h⟩ := bind_e h
    refine RJ_op rfl (O_call (L_block_WriteAll (Reads.sl _ _ _) hr7) rfl Try.call33 (Dels.cons del1 (Dels.cons del0 (Dels.cons del0 Dels.nil))) rfl (fun _ _ => ?_))
    refine RJ_op rfl (OJ_P (P_assign rfl) rfl ?_)
    refine RJ_nil ?_
    refine QJ_then ?_
    refine CJ_seq ?_
    refine CJ_region ?_
    refine RJ_op rfl (OJ_P (P_move rfl) rfl ?_)
    refine RJ_op rfl (OJ_P (P_neq (a := r6.1) (b := (0 : Int)) rfl rfl) rfl ?_)
    refine RJ_nil ?_
    refine QJ_then ?_
    refine CJ_condP rfl bT_dec (fun hg4 => ?_) (fun hg4 => ?_)
    ·
      replace h := ite_t hg4 h
      refine CJ_seq ?_
      refine CJ_region ?_
      refine RJ_op rfl (OJ_P (P_move rfl) rfl ?_)
      refine RJ_op rfl (OJ_P (P_assign rfl) rfl ?_)
      refine RJ_nil ?_
      refine QJ_then ?_
      refine CJ_ret ?_
      refine QJ_then_ret ?_
      have hE := Option.some.inj h
      subst hE
      refine QJ_end (res1 Try.results17 rfl) ?_
      refine CSpec.close () ?_ ?_ (Ent.take del0 (Ent.take del1 (Ent.drop Ent.refl)))
      · rfl
      · trivial
    ·
      replace h := ite_f hg4 h
      refine CJ_skip ?_
      refine QJ_then ?_
      refine CJ_seq ?_
      refine CJ_seq ?_
      refine CJ_region ?_
      refine RJ_op rfl (OJ_P (P_move rfl) rfl ?_)
      refine RJ_pure (fun h hh => DevP_dep h (stars_perm (del0 (A := DevP bs x_0 vx_0)).out h hh)) (fun hdp8 => ?_)
      obtain ⟨r9, hr10, h⟩ := bind_e h
      refine RJ_op rfl (O_callI rfl (dev_Flush hr10 hdp8) rfl (Dels.cons del0 (Dels.cons del1 Dels.nil)) rfl (fun _ _ => ?_))
      refine RJ_op rfl (OJ_P (P_assign rfl) rfl ?_)
      refine RJ_nil ?_
      refine QJ_then ?_
      refine CJ_seq ?_
      refine CJ_region ?_
      refine RJ_op rfl (OJ_P (P_move rfl) rfl ?_)
      refine RJ_op rfl (OJ_P (P_neq (a := r9.1) (b := (0 : Int)) rfl rfl) rfl ?_)
      refine RJ_nil ?_
      refine QJ_then ?_
      refine CJ_condP rfl bT_dec (fun hg5 => ?_) (fun hg5 => ?_)
      ·
        replace h := ite_t hg5 h
        refine CJ_seq ?_
        refine CJ_region ?_
        refine RJ_op rfl (OJ_P (P_move rfl) rfl ?_)
        refine RJ_op rfl (OJ_P (P_assign rfl) rfl ?_)
        refine RJ_nil ?_
        refine QJ_then ?_
        refine CJ_ret ?_
        refine QJ_then_ret ?_
        have hE := Option.some.inj h
        subst hE
        refine QJ_end (res1 Try.results17 rfl) ?_
        refine CSpec.close () ?_ ?_ (Ent.take del0 (Ent.take del0 (Ent.drop Ent.refl)))
        · rfl
        · trivial
      ·
        replace h := ite_f hg5 h
        refine CJ_skip ?_
        refine QJ_then ?_
        refine CJ_seq ?_
        refine CJ_seq ?_
        refine CJ_region ?_
        refine RJ_op rfl (OJ_P (P_move rfl) rfl ?_)
        refine RJ_op rfl (OJ_P (P_move rfl) rfl ?_)
        refine RJ_op rfl (OJ_P (P_conv_u64 (a := regions) rfl Try.runUnderlying3 Try.runUnderlying27) rfl ?_)
        refine RJ_op rfl (OJ_P (P_add_u64 (a := (5498691735368237056 : UInt64)) (b := (to_u64 regions)) rfl rfl) rfl ?_)
        refine RJ_pure (fun h hh => DevP_dep h (stars_perm (del0 (A := DevP bs x_0 vx_0)).out h hh)) (fun hdp11 => ?_)
        obtain ⟨r12, hr13, h⟩ := bind_e h
        refine RJ_op rfl (O_callI rfl (dev_Write hr13 hdp11) rfl (Dels.cons del0 (Dels.cons del0 Dels.nil)) rfl (fun _ _ => ?_))
        refine RJ_op rfl (OJ_P (P_assign rfl) rfl ?_)
        refine RJ_nil ?_
        refine QJ_then ?_
        refine CJ_seq ?_
        refine CJ_region ?_
        refine RJ_op rfl (OJ_P (P_move rfl) rfl ?_)
        refine RJ_op rfl (OJ_P (P_neq (a := r12.1) (b := (0 : Int)) rfl rfl) rfl ?_)
        refine RJ_nil ?_
        refine QJ_then ?_
        refine CJ_condP rfl bT_dec (fun hg6 => ?_) (fun hg6 => ?_)
        ·
          replace h := ite_t hg6 h
          refine CJ_seq ?_
          refine CJ_region ?_
          refine RJ_op rfl (OJ_P (P_move rfl) rfl ?_)
          refine RJ_op rfl (OJ_P (P_assign rfl) rfl ?_)
          refine RJ_nil ?_
          refine QJ_then ?_
          refine CJ_ret ?_
          refine QJ_then_ret ?_
          have hE := Option.some.inj h
          subst hE
          refine QJ_end (res1 Try.results17 rfl) ?_
          refine CSpec.close () ?_ ?_ (Ent.take del0 (Ent.take del0 (Ent.drop Ent.refl)))
          · rfl
          · trivial
        ·
          replace h := ite_f hg6 h
          refine CJ_skip ?_
          refine QJ_then ?_
          refine CJ_seq ?_
          refine CJ_region ?_
          refine RJ_op rfl (OJ_P (P_move rfl) rfl ?_)
          refine RJ_pure (fun h hh => DevP_dep h (stars_perm (del0 (A := DevP bs x_0 vx_0)).out h hh)) (fun hdp14 => ?_)
          obtain ⟨r15, hr16, h⟩ := bind_e h
          refine RJ_op rfl (O_callI rfl (dev_Flush hr16 hdp14) rfl (Dels.cons del0 (Dels.cons del0 Dels.nil)) rfl (fun _ _ => ?_))
          refine RJ_op rfl (OJ_P (P_assign rfl) rfl ?_)
          refine RJ_nil ?_
          refine QJ_then ?_
          refine CJ_ret ?_
          have hE := Option.some.inj h
          subst hE
          refine QJ_end (res1 Try.results17 rfl) ?_
          refine CSpec.close () ?_ ?_ (Ent.take del0 (Ent.take del0 (Ent.drop Ent.refl)))
          · rfl
          · trivial

def regionlog_Open (x_0 : Dvc) (regions : Int) (s : ArrS) : Option ((Option LogS) × Int) :=
  Option.bind (regionlog_check x_0 regions s) fun r1 =>
  if (r1 ≠ (0 : Int)) then
    some (none, r1)
  else
    Option.bind (regionlog_Words regions) fun r3 =>
    Option.bind (block_ReadAll x_0 (0 : Int) r3 s) fun r5 =>
    if (r5.2 ≠ (0 : Int)) then
      some (none, r5.2)
    else
      grd (decide (0 < r5.1.length)) <|
      if ((r5.1.getD 0 0) ≠ ((5498691735368237056 : UInt64) + (to_u64 regions))) then
        some ((none, (2 : Int)))
      else
        grd (decide (1 ≤ r5.1.length ∧ r5.1.length ≤ r5.1.length)) <|
        some (((some ((⟨x_0, regions, ((r5.1.take r5.1.length).drop 1), []⟩ : LogS))), (0 : Int)))

theorem L_regionlog_Open {W : World} {vx_0 : IfH} {bs : Nat} {x_0 : Dvc} {regions : Int} {s : ArrS} {r : (Option LogS) × Int} (h : regionlog_Open x_0 regions s = some r) :
    CSpec Try.prog W 12 [IfH.v vx_0, .int .i64 regions] [DevP bs x_0 vx_0, Arr bs s] (fun x : Nat => .tuple #[oval r.1 x, .int .i64 r.2]) (fun _ => True) (fun x F => DevP bs x_0 vx_0 :: Arr bs s :: optP (LogP bs x) r.1 :: F) := by
  refine CSpec.of_body Try.func12 rfl Try.ntmps12 rfl (fun F => ?_)
  show CJ _ _ _ _ _ _ (_ :: _ :: F)
  unfold regionlog_Open at h
  refine CJ_seq ?_
  refine CJ_region ?_
  refine RJ_op rfl (OJ_P (P_assign rfl) rfl ?_)
  refine RJ_op rfl (OJ_P (P_assign rfl) rfl ?_)
  refine RJ_nil ?_
  refine QJ_then ?_
  refine CJ_seq ?_
  refine CJ_seq ?_
  refine CJ_region ?_
  refine RJ_op rfl (OJ_P (P_move rfl) rfl ?_)
  refine RJ_op rfl (OJ_P (P_move rfl) rfl ?_)
  obtain ⟨r1, hr2, h⟩ := bind_e h
  refine RJ_op rfl (O_call (L_regionlog_check hr2) rfl Try.call30 (Dels.cons del0 (Dels.cons del0 Dels.nil)) rfl (fun _ _ => ?_))
  refine RJ_op rfl (OJ_P (P_assign rfl) rfl ?_)
  refine RJ_nil ?_
  refine QJ_then ?_
  refine CJ_seq ?_
  refine CJ_region ?_
  refine RJ_op rfl (OJ_P (P_move rfl) rfl ?_)
  refine RJ_op rfl (OJ_P (P_neq (a := r1) (b := (0 : Int)) rfl rfl) rfl ?_)
  refine RJ_nil ?_
  refine QJ_then ?_
  refine CJ_condP rfl bT_dec (fun hg1 => ?_) (fun hg1 => ?_)
  ·
    replace h := ite_t hg1 h
    refine CJ_seq ?_
    refine CJ_region ?_
    refine RJ_op rfl (OJ_P (P_move rfl) rfl ?_)
    refine RJ_op rfl (OJ_P (P_assign rfl) rfl ?_)
    refine RJ_op rfl (OJ_P (P_assign rfl) rfl ?_)
    refine RJ_nil ?_
    refine QJ_then ?_
    refine CJ_ret ?_
    refine QJ_then_ret ?_
    have hE := Option.some.inj h
    subst hE
    refine QJ_end (res2 Try.results12 rfl rfl) ?_
    refine CSpec.close 0 ?_ ?_ (Ent.take del0 (Ent.take del0 (Ent.trans (fun h hh => optP_none h hh) <| Ent.take del0 Ent.refl)))
    · rfl
    · trivial
  ·
    replace h := ite_f hg1 h
    refine CJ_skip ?_
    refine QJ_then ?_
    refine CJ_seq ?_
    refine CJ_region ?_
    refine RJ_op rfl (OJ_P (P_move rfl) rfl ?_)
    refine RJ_op rfl (OJ_P (P_move rfl) rfl ?_)
    obtain ⟨r3, hr4, h⟩ := bind_e h
    refine RJ_op rfl (O_call (L_regionlog_Words hr4) rfl Try.call10 Dels.nil rfl (fun _ _ => ?_))
    obtain ⟨r5, hr6, h⟩ := bind_e h
    refine RJ_op rfl (O_call (L_block_ReadAll hr6) rfl Try.call31 (Dels.cons del0 (Dels.cons del0 Dels.nil)) rfl (fun X7 _ => ?_))
    refine RJ_op rfl (OJ_P (P_move rfl) rfl ?_)
    refine RJ_op rfl (OJ_P (P_extract rfl rfl) rfl ?_)
    refine RJ_op rfl (OJ_P (P_extract rfl rfl) rfl ?_)
    refine RJ_op rfl (OJ_P (P_assign rfl) rfl ?_)
    refine RJ_op rfl (OJ_P (P_assign rfl) rfl ?_)
    refine RJ_nil ?_
    refine QJ_then ?_
    refine CJ_seq ?_
    refine CJ_seq ?_
    refine CJ_region ?_
    refine RJ_op rfl (OJ_P (P_move rfl) rfl ?_)
    refine RJ_op rfl (OJ_P (P_neq (a := r5.2) (b := (0 : Int)) rfl rfl) rfl ?_)
    refine RJ_nil ?_
    refine QJ_then ?_
    refine CJ_condP rfl bT_dec (fun hg2 => ?_) (fun hg2 => ?_)
    ·
      replace h := ite_t hg2 h
      refine CJ_seq ?_
      refine CJ_region ?_
      refine RJ_op rfl (OJ_P (P_move rfl) rfl ?_)
      refine RJ_op rfl (OJ_P (P_assign rfl) rfl ?_)
      refine RJ_op rfl (OJ_P (P_assign rfl) rfl ?_)
      refine RJ_nil ?_
      refine QJ_then ?_
      refine CJ_ret ?_
      refine QJ_then_ret ?_
      have hE := Option.some.inj h
      subst hE
      refine QJ_end (res2 Try.results12 rfl rfl) ?_
      refine CSpec.close 0 ?_ ?_ (Ent.take del0 (Ent.take del0 (Ent.trans (fun h hh => optP_none h hh) <| Ent.take del0 (Ent.drop Ent.refl))))
      · rfl
      · trivial
    ·
      replace h := ite_f hg2 h
      refine CJ_skip ?_
      refine QJ_then ?_
      refine CJ_seq ?_
      refine CJ_seq ?_
      refine CJ_region ?_
      refine RJ_op rfl (OJ_P (P_move rfl) rfl ?_)
      obtain ⟨hg3, h⟩ := grd_de h
      refine RJ_op rfl (OJ_V (V_index (i := 0) rfl rfl rfl hg3 foc2 (Reads.sl _ _ _) Try.runUnderlying22 Try.sizeOf27) rfl ?_)
      refine RJ_op rfl (OJ_V (V_loadE rfl rfl hg3 foc2 (Reads.sl _ _ _) rfl rfl Try.isAgg27) rfl ?_)
      refine RJ_op rfl (OJ_P (P_move rfl) rfl ?_)
      refine RJ_op rfl (OJ_P (P_conv_u64 (a := regions) rfl Try.runUnderlying3 Try.runUnderlying27) rfl ?_)
      refine RJ_op rfl (OJ_P (P_add_u64 (a := (5498691735368237056 : UInt64)) (b := (to_u64 regions)) rfl rfl) rfl ?_)
      refine RJ_op rfl (OJ_P (P_ne_u64 (a := (r5.1.getD 0 0)) (b := ((5498691735368237056 : UInt64) + (to_u64 regions))) rfl rfl) rfl ?_)
      refine RJ_nil ?_
      refine QJ_then ?_
      refine CJ_condP rfl bT_dec (fun hg4 => ?_) (fun hg4 => ?_)
      ·
        replace h := ite_t hg4 h
        refine CJ_seq ?_
        refine CJ_region ?_
        refine RJ_op rfl (OJ_P (P_assign rfl) rfl ?_)
        refine RJ_op rfl (OJ_P (P_assign rfl) rfl ?_)
        refine RJ_nil ?_
        refine QJ_then ?_
        refine CJ_ret ?_
        refine QJ_then_ret ?_
        have hE := Option.some.inj h
        subst hE
        refine QJ_end (res2 Try.results12 rfl rfl) ?_
        refine CSpec.close 0 ?_ ?_ (Ent.take del0 (Ent.take del0 (Ent.trans (fun h hh => optP_none h hh) <| Ent.take del0 (Ent.drop Ent.refl))))
        · rfl
        · trivial
      ·
        replace h := ite_f hg4 h
        refine CJ_skip ?_
        refine QJ_then ?_
        refine CJ_seq ?_
        refine CJ_region ?_
        refine RJ_op rfl (OJ_P (P_move rfl) rfl ?_)
        refine RJ_op rfl (OJ_P (P_move rfl) rfl ?_)
        refine RJ_op rfl (OJ_P (P_move rfl) rfl ?_)
        obtain ⟨hg5, h⟩ := grd_de h
        refine RJ_op rfl (OJ_V (V_slice (l := 1) (h := r5.1.length) rfl foc2 (Reads.sl _ _ _) ⟨_, rfl⟩ rfl (by omega) (by omega) Try.underlying22 Try.sizeOf27) rfl ?_)
        refine RJ_op rfl (O_makeMap mp64 rfl (fun mp9 => ?_))
        refine RJ_op rfl (OJ_P (P_build rfl (bld_66_0_1_2_3 _ _ _ _ _ _ _)) rfl ?_)
        refine RJ_op rfl (O_box rfl rfl rfl (fun b10 => ?_))
        refine RJ_op rfl (OJ_P (P_assign rfl) rfl ?_)
        refine RJ_op rfl (OJ_P (P_assign rfl) rfl ?_)
        refine RJ_nil ?_
        refine QJ_then ?_
        refine CJ_ret ?_
        refine QJ_ent (Ent.trans (Ent.take del2 Ent.refl) (fun h hh => stars_dup Dup_DevP hh)) ?_
        refine QJ_pure (reads_sl3 (Reads.sliceV (l := 1) (h := r5.1.length) (Reads.sl _ _ _) (by omega) (by omega)) del5) (fun hsv13 => ?_)
        obtain ⟨sv12, hsv13⟩ := hsv13
        refine QJ_ent (Ent.trans (Ent.take del5 Ent.refl) (RdP_mk (t := tyU) (v := Sl3.v sv12) (xs := ((r5.1.take r5.1.length).drop 1)) (hsv13 ▸ (Reads.sliceV (l := 1) (h := r5.1.length) (Reads.sl _ _ _) (by omega) (by omega))))) ?_
        refine QJ_ent (Ent.trans (Ent.takeC del3 (congrArg (fun z => blk b10 66 [IfH.v vx_0, .int .i64 regions, z, .map (some mp9)]) hsv13) (Ent.take del1 (Ent.take del0 (Ent.take del1 Ent.refl)))) (LogP_mk (v0 := x_0) (v1 := regions) (v2 := ((r5.1.take r5.1.length).drop 1)) (v3 := []) (h0 := vx_0) (h1 := sv12) (h2 := mp9))) ?_
        have hE := Option.some.inj h
        subst hE
        refine QJ_end (res2 Try.results12 rfl rfl) ?_
        refine CSpec.close b10 ?_ ?_ (Ent.take del1 (Ent.take del1 Ent.refl))
        · rfl
        · trivial

def regionlog_Log_set (l : LogS) (region : Int) (is : Bool) (keep : Bool) (s : ArrS) : Option (Int × LogS × ArrS) :=
  Option.bind (pack_SetBit l.bits region is) fun r4 =>
  if (r4.2 ≠ (0 : Int)) then
    some (r4.2, l, s)
  else
    grd (inI64 (((1 : Int) + (IntKind.i64.wrap (region.tdiv (64 : Int)))))) <|
    grd (decide (0 ≤ (IntKind.i64.wrap (region.tdiv (64 : Int))) ∧ (IntKind.i64.wrap (region.tdiv (64 : Int))) < (r4.1.length : Int))) <|
    Option.bind (Dvc.wr l.x s (((1 : Int) + (IntKind.i64.wrap (region.tdiv (64 : Int))))) ((r4.1.getD (((IntKind.i64.wrap (region.tdiv (64 : Int)))).toNat) 0))) fun r12 =>
    if ((r12.1 = (0 : Int)) ∨ keep = true) then
      some (r12.1, { l with bits := r4.1 }, r12.2)
    else
      some (r12.1, l, r12.2)

theorem L_regionlog_Log_set {W : World} {bl : Nat} {bs : Nat} {l : LogS} {region : Int} {is : Bool} {keep : Bool} {s : ArrS} {r : Int × LogS × ArrS} (h : regionlog_Log_set l region is keep s = some r) :
    CSpec Try.prog W 34 [ptr bl 0, .int .i64 region, .bool is, .bool keep] [LogP bs bl l, Arr bs s] (fun x : Unit => .int .i64 r.1) (fun _ => True) (fun x F => LogP bs bl r.2.1 :: Arr bs r.2.2 :: F) := by
  refine CSpec.of_body Try.func34 rfl Try.ntmps34 rfl (fun F => ?_)
  show CJ _ _ _ _ _ _ (_ :: _ :: F)
  unfold regionlog_Log_set at h
  refine CJ_seq ?_
  refine CJ_region ?_
  refine RJ_op rfl (OJ_P (P_assign rfl) rfl ?_)
  refine RJ_nil ?_
  refine QJ_then ?_
  refine CJ_seq ?_
  refine CJ_entX (Ent.transX (Ent.take del0 Ent.refl) (LogP_open (l := l))) (fun oc1 => ?_)
  refine CJ_pure (len_of (Reads.rdp _ _ _) del2) (fun hlen3 => ?_)
  refine CJ_region ?_
  refine RJ_op rfl (OJ_P (P_move rfl) rfl ?_)
  refine RJ_op rfl (OJ_P (P_nilCheck rfl) rfl ?_)
  refine RJ_op rfl (OJ_P (P_fieldAddr rfl ⟨_, _, _, Try.runUnderlying66, rfl, rfl, Try.sizeOf22, rfl⟩) rfl ?_)
  refine RJ_op rfl (OJ_V (V_load rfl foc0 rfl Try.isAgg22) rfl ?_)
  refine RJ_op rfl (OJ_P (P_move rfl) rfl ?_)
  refine RJ_op rfl (OJ_P (P_move rfl) rfl ?_)
  obtain ⟨r4, hr5, h⟩ := bind_e h
  refine RJ_op rfl (O_call (L_pack_SetBit (Reads.rdp _ _ _) hr5) rfl Try.call38 (Dels.cons del2 Dels.nil) rfl (fun X6 _ => ?_))
  refine RJ_op rfl (OJ_P (P_move rfl) rfl ?_)
  refine RJ_op rfl (OJ_P (P_extract rfl rfl) rfl ?_)
  refine RJ_op rfl (OJ_P (P_extract rfl rfl) rfl ?_)
  refine RJ_op rfl (OJ_P (P_assign rfl) rfl ?_)
  refine RJ_op rfl (OJ_P (P_assign rfl) rfl ?_)
  refine RJ_nil ?_
  refine QJ_ent (Ent.trans (Ent.take del2 (Ent.take del2 (Ent.take del0 (Ent.take del1 Ent.refl)))) (LogP_mk (v0 := l.x) (v1 := l.regions) (v2 := l.bits) (v3 := l.durable) (h0 := oc1.1) (h1 := oc1.2.1) (h2 := oc1.2.2))) ?_
  refine QJ_then ?_
  refine CJ_seq ?_
  refine CJ_seq ?_
  refine CJ_region ?_
  refine RJ_op rfl (OJ_P (P_move rfl) rfl ?_)
  refine RJ_op rfl (OJ_P (P_neq (a := r4.2) (b := (0 : Int)) rfl rfl) rfl ?_)
  refine RJ_nil ?_
  refine QJ_then ?_
  refine CJ_condP rfl bT_dec (fun hg1 => ?_) (fun hg1 => ?_)
  ·
    replace h := ite_t hg1 h
    refine CJ_seq ?_
    refine CJ_region ?_
    refine RJ_op rfl (OJ_P (P_move rfl) rfl ?_)
    refine RJ_op rfl (OJ_P (P_assign rfl) rfl ?_)
    refine RJ_nil ?_
    refine QJ_then ?_
    refine CJ_ret ?_
    refine QJ_then_ret ?_
    have hE := Option.some.inj h
    subst hE
    refine QJ_end (res1 Try.results34 rfl) ?_
    refine CSpec.close () ?_ ?_ (Ent.take del0 (Ent.take del1 (Ent.drop Ent.refl)))
    · rfl
    · trivial
  ·
    replace h := ite_f hg1 h
    refine CJ_skip ?_
    refine QJ_then ?_
    refine CJ_seq ?_
    refine CJ_entX (Ent.transX (Ent.take del0 Ent.refl) (LogP_open (l := l))) (fun oc8 => ?_)
    refine CJ_pure (len_of (Reads.rdp _ _ _) del2) (fun hlen10 => ?_)
    refine AJ_startH 16384 (by kernel_rfl) rfl ?_
    refine AJ_takeP 0 1 rfl (by kernel_rfl) rfl (GY_none rfl) (P_move rfl) rfl (fun _ _ _ _ h => h) ?_
    refine AJ_takeP 1 3 rfl (by kernel_rfl) rfl (GY_none rfl) (P_nilCheck rfl) rfl (fun _ _ _ _ h => h) ?_
    refine AJ_takeP 2 7 rfl (by kernel_rfl) rfl (GY_none rfl) (P_fieldAddr rfl ⟨_, _, _, Try.runUnderlying66, rfl, rfl, Try.sizeOf38, rfl⟩) rfl (fun _ _ _ _ h => h) ?_
    refine AJ_takeV 3 15 rfl (by kernel_rfl) rfl (by kernel_rfl) (by kernel_rfl) (GY_none rfl) Ent.refl (V_load rfl foc0 rfl Try.isAgg38) rfl (fun _ _ _ _ h => h) ?_
    refine AJ_takeP 4 31 rfl (by kernel_rfl) rfl (GY_none rfl) (P_move rfl) rfl (fun _ _ _ _ h => h) ?_
    refine AJ_takeP 5 63 rfl (by kernel_rfl) rfl (GY_none rfl) (P_quoT (a := region) (b := (64 : Int)) rfl rfl (by decide)) rfl (fun _ _ _ _ h => h) ?_
    obtain ⟨hg2, h⟩ := grd_Ie h
    refine AJ_takeP 6 127 rfl (by kernel_rfl) rfl (GY_none rfl) (P_add (a := (1 : Int)) (b := (IntKind.i64.wrap (region.tdiv (64 : Int)))) rfl rfl hg2) rfl (fun _ _ _ _ h => h) ?_
    refine AJ_takeP 7 255 rfl (by kernel_rfl) rfl (GY_none rfl) (P_move rfl) rfl (fun _ _ _ _ h => h) ?_
    refine AJ_takeP 8 511 rfl (by kernel_rfl) rfl (GY_none rfl) (P_move rfl) rfl (fun _ _ _ _ h => h) ?_
    refine AJ_takeP 9 1023 rfl (by kernel_rfl) rfl (GY_none rfl) (P_quoT (a := region) (b := (64 : Int)) rfl rfl (by decide)) rfl (fun _ _ _ _ h => h) ?_
    obtain ⟨hg3, h⟩ := grd_de h
    refine AJ_takeV 10 2047 rfl (by kernel_rfl) rfl (by kernel_rfl) (by kernel_rfl) (GY_none rfl) Ent.refl (V_index (i := ((IntKind.i64.wrap (region.tdiv (64 : Int)))).toNat) rfl rfl (Int.toNat_of_nonneg (hg3.1)).symm (by omega) foc4 (Reads.sl _ _ _) Try.runUnderlying22 Try.sizeOf27) rfl (fun _ _ _ _ h => h) ?_
    refine AJ_takeV 11 4095 rfl (by kernel_rfl) rfl (by kernel_rfl) (by kernel_rfl) (GY_none rfl) Ent.refl (V_loadE rfl rfl (by omega) foc4 (Reads.sl _ _ _) rfl rfl Try.isAgg27) rfl (fun _ _ _ _ h => h) ?_
    refine AJ_takeP 12 8191 rfl (by kernel_rfl) rfl (GY_none rfl) (P_nilCheckI rfl) rfl (fun _ _ _ _ h => h) ?_
    refine AJ_takeP 13 16383 rfl (by kernel_rfl) rfl (GY_none rfl) (P_move rfl) rfl (fun _ _ _ _ h => h) ?_
    refine AJ_pure (fun h hh => DevP_dep h (stars_perm (del1 (A := DevP bs l.x oc8.1)).out h hh)) (fun hdp11 => ?_)
    obtain ⟨r12, hr13, h⟩ := bind_e h
    refine AJ_op 14 32767 rfl (by kernel_rfl) rfl (GY_none rfl) (O_callI rfl (dev_Write hr13 hdp11) rfl (Dels.cons del1 (Dels.cons del4 Dels.nil)) rfl (fun _ _ => ?_))
    refine ⟨fun h => absurd h (by decide), ?_⟩
    refine AJ_takeP 15 65535 rfl (by kernel_rfl) rfl (GY_none rfl) (P_assign rfl) rfl (fun _ _ _ _ h => h) ?_
    refine AJ_done (by kernel_rfl) ?_
    refine QJ_ent (Ent.trans (Ent.take del0 Ent.refl) (fun h hh => stars_dup Dup_DevP hh)) ?_
    refine QJ_ent (Ent.trans (Ent.take del3 (Ent.take del0 (Ent.take del2 (Ent.take del2 Ent.refl)))) (LogP_mk (v0 := l.x) (v1 := l.regions) (v2 := l.bits) (v3 := l.durable) (h0 := oc8.1) (h1 := oc8.2.1) (h2 := oc8.2.2))) ?_
    refine QJ_then ?_
    refine CJ_seq ?_
    refine CJ_seq ?_
    refine CJ_region ?_
    refine RJ_op rfl (OJ_P (P_move rfl) rfl ?_)
    refine RJ_op rfl (OJ_P (P_eql (a := r12.1) (b := (0 : Int)) rfl rfl) rfl ?_)
    refine RJ_op rfl (OJ_P (P_move rfl) rfl ?_)
    refine RJ_mbF rfl rfl rfl (fun hG15 => have hP16 : ¬ (r12.1 = (0 : Int)) := nP (bT_dec) hG15; VJ_P (P_move rfl)) ?_
    refine RJ_op rfl (OJ_P (P_pickOr rfl rfl (fun hh => mbx (not_f hh) rfl)) rfl ?_)
    refine RJ_nil ?_
    refine QJ_then ?_
    refine CJ_condP rfl (bT_or bT_dec Iff.rfl) (fun hg4 => ?_) (fun hg4 => ?_)
    ·
      replace h := ite_t hg4 h
      refine CJ_entX (Ent.transX (Ent.take del0 Ent.refl) (LogP_open (l := l))) (fun oc17 => ?_)
      refine CJ_pure (len_of (Reads.rdp _ _ _) del2) (fun hlen19 => ?_)
      refine CJ_region ?_
      refine RJ_op rfl (OJ_P (P_move rfl) rfl ?_)
      refine RJ_op rfl (OJ_P (P_move rfl) rfl ?_)
      refine RJ_op rfl (OJ_P (P_nilCheck rfl) rfl ?_)
      refine RJ_op rfl (OJ_P (P_fieldAddr rfl ⟨_, _, _, Try.runUnderlying66, rfl, rfl, Try.sizeOf22, rfl⟩) rfl ?_)
      refine RJ_op rfl (O_store rfl rfl foc0 rfl rfl Try.sizeOf22 ?_)
      refine RJ_nil ?_
      refine QJ_pure (reads_sl3 (Reads.sl _ _ _) del6) (fun hsv21 => ?_)
      obtain ⟨sv20, hsv21⟩ := hsv21
      refine QJ_ent (Ent.trans (Ent.take del6 Ent.refl) (RdP_mk (t := tyU) (v := Sl3.v sv20) (xs := r4.1) (hsv21 ▸ (Reads.sl _ _ _)))) ?_
      refine QJ_ent (Ent.trans (Ent.takeC del1 (congrArg (fun z => blk bl 66 [IfH.v oc17.1, .int .i64 l.regions, z, .map (some oc17.2.2)]) hsv21) (Ent.take del1 (Ent.take del0 (Ent.take del1 Ent.refl)))) (LogP_mk (v0 := l.x) (v1 := l.regions) (v2 := r4.1) (v3 := l.durable) (h0 := oc17.1) (h1 := sv20) (h2 := oc17.2.2))) ?_
      refine QJ_then ?_
      refine CJ_seq ?_
      refine CJ_region ?_
      refine RJ_op rfl (OJ_P (P_move rfl) rfl ?_)
      refine RJ_op rfl (OJ_P (P_assign rfl) rfl ?_)
      refine RJ_nil ?_
      refine QJ_then ?_
      refine CJ_ret ?_
      have hE := Option.some.inj h
      subst hE
      refine QJ_end (res1 Try.results34 rfl) ?_
      refine CSpec.close () ?_ ?_ (Ent.take del0 (Ent.take del2 (Ent.drop (Ent.drop Ent.refl))))
      · rfl
      · trivial
    ·
      replace h := ite_f hg4 h
      refine CJ_skip ?_
      refine QJ_then ?_
      refine CJ_seq ?_
      refine CJ_region ?_
      refine RJ_op rfl (OJ_P (P_move rfl) rfl ?_)
      refine RJ_op rfl (OJ_P (P_assign rfl) rfl ?_)
      refine RJ_nil ?_
      refine QJ_then ?_
      refine CJ_ret ?_
      have hE := Option.some.inj h
      subst hE
      refine QJ_end (res1 Try.results34 rfl) ?_
      refine CSpec.close () ?_ ?_ (Ent.take del0 (Ent.take del1 (Ent.drop (Ent.drop Ent.refl))))
      · rfl
      · trivial

def regionlog_Log_Mark (l : LogS) (region : Int) (s : ArrS) : Option (Int × LogS × ArrS) :=
  if ((region < (0 : Int)) ∨ (l.regions ≤ region)) then
    some (((1 : Int), l, s))
  else
    if ((lookM l.durable region)).isSome = true then
      some (((0 : Int), l, s))
    else
      Option.bind (regionlog_Log_set l region true true s) fun r20 =>
      if (r20.1 ≠ (0 : Int)) then
        some (r20.1, r20.2.1, r20.2.2)
      else
        Option.bind (Dvc.fl r20.2.1.x r20.2.2) fun r26 =>
        if (r26.1 ≠ (0 : Int)) then
          some (r26.1, r20.2.1, r26.2)
        else
          some (((0 : Int), { r20.2.1 with durable := (setM r20.2.1.durable region ()) }, r26.2))

theorem L_regionlog_Log_Mark {W : World} {bl : Nat} {bs : Nat} {l : LogS} {region : Int} {s : ArrS} {r : Int × LogS × ArrS} (h : regionlog_Log_Mark l region s = some r) :
    CSpec Try.prog W 19 [ptr bl 0, .int .i64 region] [LogP bs bl l, Arr bs s] (fun x : Unit => .int .i64 r.1) (fun _ => True) (fun x F => LogP bs bl r.2.1 :: Arr bs r.2.2 :: F) := by
  refine CSpec.of_body Try.func19 rfl Try.ntmps19 rfl (fun F => ?_)
  show CJ _ _ _ _ _ _ (_ :: _ :: F)
  unfold regionlog_Log_Mark at h
  refine CJ_seq ?_
  refine CJ_region ?_
  refine RJ_op rfl (OJ_P (P_assign rfl) rfl ?_)
  refine RJ_nil ?_
  refine QJ_then ?_
  refine CJ_seq ?_
  refine CJ_seq ?_
  refine CJ_entX (Ent.transX (Ent.take del0 Ent.refl) (LogP_open (l := l))) (fun oc1 => ?_)
  refine CJ_pure (len_of (Reads.rdp _ _ _) del2) (fun hlen3 => ?_)
  refine CJ_region ?_
  refine RJ_op rfl (OJ_P (P_move rfl) rfl ?_)
  refine RJ_op rfl (OJ_P (P_lss (a := region) (b := (0 : Int)) rfl rfl) rfl ?_)
  refine RJ_op rfl (OJ_P (P_move rfl) rfl ?_)
  refine RJ_mbF rfl rfl rfl (fun hG4 => have hP5 : ¬ (region < (0 : Int)) := nP (bT_dec) hG4; VJ_P (P_move rfl)) ?_
  refine RJ_mbF rfl rfl rfl (fun hG6 => have hP7 : ¬ (region < (0 : Int)) := nP (bT_dec) hG6; VJ_P (P_move rfl)) ?_
  refine RJ_mbF rfl rfl rfl (fun hG8 => have hP9 : ¬ (region < (0 : Int)) := nP (bT_dec) hG8; VJ_P (P_nilCheck (mbx hG8 rfl))) ?_
  refine RJ_mbF rfl rfl rfl (fun hG10 => have hP11 : ¬ (region < (0 : Int)) := nP (bT_dec) hG10; VJ_P (P_fieldAddr (mbx hG10 rfl) ⟨_, _, _, Try.runUnderlying66, rfl, rfl, Try.sizeOf3, rfl⟩)) ?_
  refine RJ_mbF rfl rfl rfl (fun hG12 => have hP13 : ¬ (region < (0 : Int)) := nP (bT_dec) hG12; V_load (mbx hG12 rfl) foc0 rfl Try.isAgg3) ?_
  refine RJ_mbF rfl rfl rfl (fun hG14 => have hP15 : ¬ (region < (0 : Int)) := nP (bT_dec) hG14; VJ_P (P_geq (a := region) (b := l.regions) (mbx hG14 rfl) (mbx hG14 rfl))) ?_
  refine RJ_op rfl (OJ_P (P_pickOr rfl rfl (fun hh => mbx (not_f hh) rfl)) rfl ?_)
  refine RJ_nil ?_
  refine QJ_ent (Ent.trans Ent.refl (LogP_mk (v0 := l.x) (v1 := l.regions) (v2 := l.bits) (v3 := l.durable) (h0 := oc1.1) (h1 := oc1.2.1) (h2 := oc1.2.2))) ?_
  refine QJ_then ?_
  refine CJ_condP rfl (bT_or bT_dec bT_dec) (fun hg1 => ?_) (fun hg1 => ?_)
  ·
    replace h := ite_t hg1 h
    refine CJ_seq ?_
    refine CJ_region ?_
    refine RJ_op rfl (OJ_P (P_assign rfl) rfl ?_)
    refine RJ_nil ?_
    refine QJ_then ?_
    refine CJ_ret ?_
    refine QJ_then_ret ?_
    have hE := Option.some.inj h
    subst hE
    refine QJ_end (res1 Try.results19 rfl) ?_
    refine CSpec.close () ?_ ?_ Ent.refl
    · rfl
    · trivial
  ·
    replace h := ite_f hg1 h
    refine CJ_skip ?_
    refine QJ_then ?_
    refine CJ_seq ?_
    refine CJ_seq ?_
    refine CJ_entX (Ent.transX (Ent.take del0 Ent.refl) (LogP_open (l := l))) (fun oc16 => ?_)
    refine CJ_pure (len_of (Reads.rdp _ _ _) del2) (fun hlen18 => ?_)
    refine CJ_region ?_
    refine RJ_op rfl (OJ_P (P_move rfl) rfl ?_)
    refine RJ_op rfl (OJ_P (P_nilCheck rfl) rfl ?_)
    refine RJ_op rfl (OJ_P (P_fieldAddr rfl ⟨_, _, _, Try.runUnderlying66, rfl, rfl, Try.sizeOf64, rfl⟩) rfl ?_)
    refine RJ_op rfl (OJ_V (V_load rfl foc0 rfl Try.isAgg64) rfl ?_)
    refine RJ_op rfl (OJ_P (P_move rfl) rfl ?_)
    refine RJ_op rfl (OJ_V (V_lookup2 (M := mp64) (k := region) (z := .agg #[]) (out := fun o => .agg #[]) rfl rfl foc3 ok_mp64 Try.zeroValue76 (fun _ => rfl) rfl) rfl ?_)
    refine RJ_op rfl (OJ_P (P_move rfl) rfl ?_)
    refine RJ_op rfl (OJ_P (P_extract rfl rfl) rfl ?_)
    refine RJ_op rfl (OJ_P (P_extract rfl rfl) rfl ?_)
    refine RJ_op rfl (O_alloc Try.zeroValue76 rfl rfl (fun b19 => ?_))
    refine RJ_op rfl (O_storeN rfl rfl foc0 Try.sizeOf76 rfl rfl rfl ?_)
    refine RJ_op rfl (OJ_P (P_assign rfl) rfl ?_)
    refine RJ_nil ?_
    refine QJ_ent (Ent.trans (Ent.take del1 (Ent.take del1 (Ent.take del1 (Ent.take del1 Ent.refl)))) (LogP_mk (v0 := l.x) (v1 := l.regions) (v2 := l.bits) (v3 := l.durable) (h0 := oc16.1) (h1 := oc16.2.1) (h2 := oc16.2.2))) ?_
    refine QJ_then ?_
    refine CJ_seq ?_
    refine CJ_region ?_
    refine RJ_op rfl (OJ_P (P_move rfl) rfl ?_)
    refine RJ_nil ?_
    refine QJ_then ?_
    refine CJ_condP rfl Iff.rfl (fun hg2 => ?_) (fun hg2 => ?_)
    ·
      replace h := ite_t hg2 h
      refine CJ_seq ?_
      refine CJ_region ?_
      refine RJ_op rfl (OJ_P (P_assign rfl) rfl ?_)
      refine RJ_nil ?_
      refine QJ_then ?_
      refine CJ_ret ?_
      refine QJ_then_ret ?_
      have hE := Option.some.inj h
      subst hE
      refine QJ_end (res1 Try.results19 rfl) ?_
      refine CSpec.close () ?_ ?_ (Ent.take del0 (Ent.take del1 (Ent.drop Ent.refl)))
      · rfl
      · trivial
    ·
      replace h := ite_f hg2 h
      refine CJ_skip ?_
      refine QJ_then ?_
      refine CJ_seq ?_
      refine CJ_seq ?_
      refine CJ_region ?_
      refine RJ_op rfl (OJ_P (P_move rfl) rfl ?_)
      refine RJ_op rfl (OJ_P (P_move rfl) rfl ?_)
      obtain ⟨r20, hr21, h⟩ := bind_e h
      refine RJ_op rfl (O_call (L_regionlog_Log_set hr21) rfl Try.call34 (Dels.cons del0 (Dels.cons del1 Dels.nil)) rfl (fun _ _ => ?_))
      refine RJ_op rfl (OJ_P (P_assign rfl) rfl ?_)
      refine RJ_nil ?_
      refine QJ_then ?_
      refine CJ_seq ?_
      refine CJ_region ?_
      refine RJ_op rfl (OJ_P (P_move rfl) rfl ?_)
      refine RJ_op rfl (OJ_P (P_neq (a := r20.1) (b := (0 : Int)) rfl rfl) rfl ?_)
      refine RJ_nil ?_
      refine QJ_then ?_
      refine CJ_condP rfl bT_dec (fun hg3 => ?_) (fun hg3 => ?_)
      ·
        replace h := ite_t hg3 h
        refine CJ_seq ?_
        refine CJ_region ?_
        refine RJ_op rfl (OJ_P (P_move rfl) rfl ?_)
        refine RJ_op rfl (OJ_P (P_assign rfl) rfl ?_)
        refine RJ_nil ?_
        refine QJ_then ?_
        refine CJ_ret ?_
        refine QJ_then_ret ?_
        have hE := Option.some.inj h
        subst hE
        refine QJ_end (res1 Try.results19 rfl) ?_
        refine CSpec.close () ?_ ?_ (Ent.take del0 (Ent.take del0 (Ent.drop Ent.refl)))
        · rfl
        · trivial
      ·
        replace h := ite_f hg3 h
        refine CJ_skip ?_
        refine QJ_then ?_
        refine CJ_seq ?_
        refine CJ_seq ?_
        refine CJ_entX (Ent.transX (Ent.take del0 Ent.refl) (LogP_open (l := r20.2.1))) (fun oc22 => ?_)
        refine CJ_pure (len_of (Reads.rdp _ _ _) del2) (fun hlen24 => ?_)
        refine CJ_region ?_
        refine RJ_op rfl (OJ_P (P_move rfl) rfl ?_)
        refine RJ_op rfl (OJ_P (P_nilCheck rfl) rfl ?_)
        refine RJ_op rfl (OJ_P (P_fieldAddr rfl ⟨_, _, _, Try.runUnderlying66, rfl, rfl, Try.sizeOf38, rfl⟩) rfl ?_)
        refine RJ_op rfl (OJ_V (V_load rfl foc0 rfl Try.isAgg38) rfl ?_)
        refine RJ_pure (fun h hh => DevP_dep h (stars_perm (del1 (A := DevP bs r20.2.1.x oc22.1)).out h hh)) (fun hdp25 => ?_)
        obtain ⟨r26, hr27, h⟩ := bind_e h
        refine RJ_op rfl (O_callI rfl (dev_Flush hr27 hdp25) rfl (Dels.cons del1 (Dels.cons del3 Dels.nil)) rfl (fun _ _ => ?_))
        refine RJ_op rfl (OJ_P (P_assign rfl) rfl ?_)
        refine RJ_nil ?_
        refine QJ_ent (Ent.trans (Ent.take del0 Ent.refl) (fun h hh => stars_dup Dup_DevP hh)) ?_
        refine QJ_ent (Ent.trans (Ent.take del3 (Ent.take del0 (Ent.take del2 (Ent.take del2 Ent.refl)))) (LogP_mk (v0 := r20.2.1.x) (v1 := r20.2.1.regions) (v2 := r20.2.1.bits) (v3 := r20.2.1.durable) (h0 := oc22.1) (h1 := oc22.2.1) (h2 := oc22.2.2))) ?_
        refine QJ_then ?_
        refine CJ_seq ?_
        refine CJ_region ?_
        refine RJ_op rfl (OJ_P (P_move rfl) rfl ?_)
        refine RJ_op rfl (OJ_P (P_neq (a := r26.1) (b := (0 : Int)) rfl rfl) rfl ?_)
        refine RJ_nil ?_
        refine QJ_then ?_
        refine CJ_condP rfl bT_dec (fun hg4 => ?_) (fun hg4 => ?_)
        ·
          replace h := ite_t hg4 h
          refine CJ_seq ?_
          refine CJ_region ?_
          refine RJ_op rfl (OJ_P (P_move rfl) rfl ?_)
          refine RJ_op rfl (OJ_P (P_assign rfl) rfl ?_)
          refine RJ_nil ?_
          refine QJ_then ?_
          refine CJ_ret ?_
          refine QJ_then_ret ?_
          have hE := Option.some.inj h
          subst hE
          refine QJ_end (res1 Try.results19 rfl) ?_
          refine CSpec.close () ?_ ?_ (Ent.take del0 (Ent.take del1 (Ent.drop (Ent.drop Ent.refl))))
          · rfl
          · trivial
        ·
          replace h := ite_f hg4 h
          refine CJ_skip ?_
          refine QJ_then ?_
          refine CJ_seq ?_
          refine CJ_entX (Ent.transX (Ent.take del0 Ent.refl) (LogP_open (l := r20.2.1))) (fun oc29 => ?_)
          refine CJ_pure (len_of (Reads.rdp _ _ _) del2) (fun hlen31 => ?_)
          refine CJ_region ?_
          refine RJ_op rfl (OJ_P (P_move rfl) rfl ?_)
          refine RJ_op rfl (OJ_P (P_nilCheck rfl) rfl ?_)
          refine RJ_op rfl (OJ_P (P_fieldAddr rfl ⟨_, _, _, Try.runUnderlying66, rfl, rfl, Try.sizeOf64, rfl⟩) rfl ?_)
          refine RJ_op rfl (OJ_V (V_load rfl foc0 rfl Try.isAgg64) rfl ?_)
          refine RJ_op rfl (OJ_P (P_move rfl) rfl ?_)
          refine RJ_op rfl (OJ_P (P_build rfl (bld_76)) rfl ?_)
          refine RJ_op rfl (O_mapUpdate (M := mp64) (k := region) (v := ()) rfl rfl rfl foc3 ok_mp64 ?_)
          refine RJ_nil ?_
          refine QJ_ent (Ent.trans Ent.refl (LogP_mk (v0 := r20.2.1.x) (v1 := r20.2.1.regions) (v2 := r20.2.1.bits) (v3 := (setM r20.2.1.durable region ())) (h0 := oc29.1) (h1 := oc29.2.1) (h2 := oc29.2.2))) ?_
          refine QJ_then ?_
          refine CJ_seq ?_
          refine CJ_region ?_
          refine RJ_op rfl (OJ_P (P_assign rfl) rfl ?_)
          refine RJ_nil ?_
          refine QJ_then ?_
          refine CJ_ret ?_
          have hE := Option.some.inj h
          subst hE
          refine QJ_end (res1 Try.results19 rfl) ?_
          refine CSpec.close () ?_ ?_ (Ent.take del0 (Ent.take del1 (Ent.drop (Ent.drop Ent.refl))))
          · rfl
          · trivial

def regionlog_Log_Clear (l : LogS) (region : Int) (s : ArrS) : Option (Int × LogS × ArrS) :=
  if ((region < (0 : Int)) ∨ (l.regions ≤ region)) then
    some (((1 : Int), l, s))
  else
    Option.bind (regionlog_Log_set ({ l with durable := (delM l.durable region) }) region false false s) fun r19 =>
    some (r19.1, r19.2.1, r19.2.2)

theorem L_regionlog_Log_Clear {W : World} {bl : Nat} {bs : Nat} {l : LogS} {region : Int} {s : ArrS} {r : Int × LogS × ArrS} (h : regionlog_Log_Clear l region s = some r) :
    CSpec Try.prog W 20 [ptr bl 0, .int .i64 region] [LogP bs bl l, Arr bs s] (fun x : Unit => .int .i64 r.1) (fun _ => True) (fun x F => LogP bs bl r.2.1 :: Arr bs r.2.2 :: F) := by
  refine CSpec.of_body Try.func20 rfl Try.ntmps20 rfl (fun F => ?_)
  show CJ _ _ _ _ _ _ (_ :: _ :: F)
  unfold regionlog_Log_Clear at h
  refine CJ_seq ?_
  refine CJ_region ?_
  refine RJ_op rfl (OJ_P (P_assign rfl) rfl ?_)
  refine RJ_nil ?_
  refine QJ_then ?_
  refine CJ_seq ?_
  refine CJ_seq ?_
  refine CJ_entX (Ent.transX (Ent.take del0 Ent.refl) (LogP_open (l := l))) (fun oc1 => ?_)
  refine CJ_pure (len_of (Reads.rdp _ _ _) del2) (fun hlen3 => ?_)
  refine CJ_region ?_
  refine RJ_op rfl (OJ_P (P_move rfl) rfl ?_)
  refine RJ_op rfl (OJ_P (P_lss (a := region) (b := (0 : Int)) rfl rfl) rfl ?_)
  refine RJ_op rfl (OJ_P (P_move rfl) rfl ?_)
  refine RJ_mbF rfl rfl rfl (fun hG4 => have hP5 : ¬ (region < (0 : Int)) := nP (bT_dec) hG4; VJ_P (P_move rfl)) ?_
  refine RJ_mbF rfl rfl rfl (fun hG6 => have hP7 : ¬ (region < (0 : Int)) := nP (bT_dec) hG6; VJ_P (P_move rfl)) ?_
  refine RJ_mbF rfl rfl rfl (fun hG8 => have hP9 : ¬ (region < (0 : Int)) := nP (bT_dec) hG8; VJ_P (P_nilCheck (mbx hG8 rfl))) ?_
  refine RJ_mbF rfl rfl rfl (fun hG10 => have hP11 : ¬ (region < (0 : Int)) := nP (bT_dec) hG10; VJ_P (P_fieldAddr (mbx hG10 rfl) ⟨_, _, _, Try.runUnderlying66, rfl, rfl, Try.sizeOf3, rfl⟩)) ?_
  refine RJ_mbF rfl rfl rfl (fun hG12 => have hP13 : ¬ (region < (0 : Int)) := nP (bT_dec) hG12; V_load (mbx hG12 rfl) foc0 rfl Try.isAgg3) ?_
  refine RJ_mbF rfl rfl rfl (fun hG14 => have hP15 : ¬ (region < (0 : Int)) := nP (bT_dec) hG14; VJ_P (P_geq (a := region) (b := l.regions) (mbx hG14 rfl) (mbx hG14 rfl))) ?_
  refine RJ_op rfl (OJ_P (P_pickOr rfl rfl (fun hh => mbx (not_f hh) rfl)) rfl ?_)
  refine RJ_nil ?_
  refine QJ_ent (Ent.trans Ent.refl (LogP_mk (v0 := l.x) (v1 := l.regions) (v2 := l.bits) (v3 := l.durable) (h0 := oc1.1) (h1 := oc1.2.1) (h2 := oc1.2.2))) ?_
  refine QJ_then ?_
  refine CJ_condP rfl (bT_or bT_dec bT_dec) (fun hg1 => ?_) (fun hg1 => ?_)
  ·
    replace h := ite_t hg1 h
    refine CJ_seq ?_
    refine CJ_region ?_
    refine RJ_op rfl (OJ_P (P_assign rfl) rfl ?_)
    refine RJ_nil ?_
    refine QJ_then ?_
    refine CJ_ret ?_
    refine QJ_then_ret ?_
    have hE := Option.some.inj h
    subst hE
    refine QJ_end (res1 Try.results20 rfl) ?_
    refine CSpec.close () ?_ ?_ Ent.refl
    · rfl
    · trivial
  ·
    replace h := ite_f hg1 h
    refine CJ_skip ?_
    refine QJ_then ?_
    refine CJ_seq ?_
    refine CJ_entX (Ent.transX (Ent.take del0 Ent.refl) (LogP_open (l := l))) (fun oc16 => ?_)
    refine CJ_pure (len_of (Reads.rdp _ _ _) del2) (fun hlen18 => ?_)
    refine CJ_region ?_
    refine RJ_op rfl (OJ_P (P_move rfl) rfl ?_)
    refine RJ_op rfl (OJ_P (P_nilCheck rfl) rfl ?_)
    refine RJ_op rfl (OJ_P (P_fieldAddr rfl ⟨_, _, _, Try.runUnderlying66, rfl, rfl, Try.sizeOf64, rfl⟩) rfl ?_)
    refine RJ_op rfl (OJ_V (V_load rfl foc0 rfl Try.isAgg64) rfl ?_)
    refine RJ_op rfl (OJ_P (P_move rfl) rfl ?_)
    refine RJ_op rfl (O_delete (M := mp64) (k := region) rfl rfl foc3 ok_mp64 ?_)
    refine RJ_nil ?_
    refine QJ_ent (Ent.trans Ent.refl (LogP_mk (v0 := l.x) (v1 := l.regions) (v2 := l.bits) (v3 := (delM l.durable region)) (h0 := oc16.1) (h1 := oc16.2.1) (h2 := oc16.2.2))) ?_
    refine QJ_then ?_
    refine CJ_seq ?_
    refine CJ_region ?_
    refine RJ_op rfl (OJ_P (P_move rfl) rfl ?_)
    refine RJ_op rfl (OJ_P (P_move rfl) rfl ?_)
    obtain ⟨r19, hr20, h⟩ := bind_e h
    refine RJ_op rfl (O_call (L_regionlog_Log_set hr20) rfl Try.call34 (Dels.cons del0 (Dels.cons del0 Dels.nil)) rfl (fun _ _ => ?_))
    refine RJ_op rfl (OJ_P (P_assign rfl) rfl ?_)
    refine RJ_nil ?_
    refine QJ_then ?_
    refine CJ_ret ?_
    have hE := Option.some.inj h
    subst hE
    refine QJ_end (res1 Try.results20 rfl) ?_
    refine CSpec.close () ?_ ?_ Ent.refl
    · rfl
    · trivial

def regionlog_Log_IsDirty (l : LogS) (region : Int) (s : ArrS) : Option (Bool) :=
  if ((region < (0 : Int)) ∨ (l.regions ≤ region)) then
    some false
  else
    Option.bind (pack_Bit l.bits region) fun r19 =>
    some r19.1

theorem L_regionlog_Log_IsDirty {W : World} {bl : Nat} {bs : Nat} {l : LogS} {region : Int} {s : ArrS} {r : Bool} (h : regionlog_Log_IsDirty l region s = some r) :
    CSpec Try.prog W 16 [ptr bl 0, .int .i64 region] [LogP bs bl l, Arr bs s] (fun x : Unit => .bool r) (fun _ => True) (fun x F => LogP bs bl l :: Arr bs s :: F) := by
  refine CSpec.of_body Try.func16 rfl Try.ntmps16 rfl (fun F => ?_)
  show CJ _ _ _ _ _ _ (_ :: _ :: F)
  unfold regionlog_Log_IsDirty at h
  refine CJ_seq ?_
  refine CJ_region ?_
  refine RJ_op rfl (OJ_P (P_assign rfl) rfl ?_)
  refine RJ_nil ?_
  refine QJ_then ?_
  refine CJ_seq ?_
  refine CJ_seq ?_
  refine CJ_entX (Ent.transX (Ent.take del0 Ent.refl) (LogP_open (l := l))) (fun oc1 => ?_)
  refine CJ_pure (len_of (Reads.rdp _ _ _) del2) (fun hlen3 => ?_)
  refine CJ_region ?_
  refine RJ_op rfl (OJ_P (P_move rfl) rfl ?_)
  refine RJ_op rfl (OJ_P (P_lss (a := region) (b := (0 : Int)) rfl rfl) rfl ?_)
  refine RJ_op rfl (OJ_P (P_move rfl) rfl ?_)
  refine RJ_mbF rfl rfl rfl (fun hG4 => have hP5 : ¬ (region < (0 : Int)) := nP (bT_dec) hG4; VJ_P (P_move rfl)) ?_
  refine RJ_mbF rfl rfl rfl (fun hG6 => have hP7 : ¬ (region < (0 : Int)) := nP (bT_dec) hG6; VJ_P (P_move rfl)) ?_
  refine RJ_mbF rfl rfl rfl (fun hG8 => have hP9 : ¬ (region < (0 : Int)) := nP (bT_dec) hG8; VJ_P (P_nilCheck (mbx hG8 rfl))) ?_
  refine RJ_mbF rfl rfl rfl (fun hG10 => have hP11 : ¬ (region < (0 : Int)) := nP (bT_dec) hG10; VJ_P (P_fieldAddr (mbx hG10 rfl) ⟨_, _, _, Try.runUnderlying66, rfl, rfl, Try.sizeOf3, rfl⟩)) ?_
  refine RJ_mbF rfl rfl rfl (fun hG12 => have hP13 : ¬ (region < (0 : Int)) := nP (bT_dec) hG12; V_load (mbx hG12 rfl) foc0 rfl Try.isAgg3) ?_
  refine RJ_mbF rfl rfl rfl (fun hG14 => have hP15 : ¬ (region < (0 : Int)) := nP (bT_dec) hG14; VJ_P (P_geq (a := region) (b := l.regions) (mbx hG14 rfl) (mbx hG14 rfl))) ?_
  refine RJ_op rfl (OJ_P (P_pickOr rfl rfl (fun hh => mbx (not_f hh) rfl)) rfl ?_)
  refine RJ_nil ?_
  refine QJ_ent (Ent.trans Ent.refl (LogP_mk (v0 := l.x) (v1 := l.regions) (v2 := l.bits) (v3 := l.durable) (h0 := oc1.1) (h1 := oc1.2.1) (h2 := oc1.2.2))) ?_
  refine QJ_then ?_
  refine CJ_condP rfl (bT_or bT_dec bT_dec) (fun hg1 => ?_) (fun hg1 => ?_)
  ·
    replace h := ite_t hg1 h
    refine CJ_seq ?_
    refine CJ_region ?_
    refine RJ_op rfl (OJ_P (P_assign rfl) rfl ?_)
    refine RJ_nil ?_
    refine QJ_then ?_
    refine CJ_ret ?_
    refine QJ_then_ret ?_
    have hE := Option.some.inj h
    subst hE
    refine QJ_end (res1 Try.results16 rfl) ?_
    refine CSpec.close () ?_ ?_ Ent.refl
    · rfl
    · trivial
  ·
    replace h := ite_f hg1 h
    refine CJ_skip ?_
    refine QJ_then ?_
    refine CJ_seq ?_
    refine CJ_entX (Ent.transX (Ent.take del0 Ent.refl) (LogP_open (l := l))) (fun oc16 => ?_)
    refine CJ_pure (len_of (Reads.rdp _ _ _) del2) (fun hlen18 => ?_)
    refine CJ_region ?_
    refine RJ_op rfl (OJ_P (P_move rfl) rfl ?_)
    refine RJ_op rfl (OJ_P (P_nilCheck rfl) rfl ?_)
    refine RJ_op rfl (OJ_P (P_fieldAddr rfl ⟨_, _, _, Try.runUnderlying66, rfl, rfl, Try.sizeOf22, rfl⟩) rfl ?_)
    refine RJ_op rfl (OJ_V (V_load rfl foc0 rfl Try.isAgg22) rfl ?_)
    refine RJ_op rfl (OJ_P (P_move rfl) rfl ?_)
    obtain ⟨r19, hr20, h⟩ := bind_e h
    refine RJ_op rfl (O_call (L_pack_Bit (Reads.rdp _ _ _) hr20) rfl Try.call32 (Dels.cons del2 Dels.nil) rfl (fun _ _ => ?_))
    refine RJ_op rfl (OJ_P (P_move rfl) rfl ?_)
    refine RJ_op rfl (OJ_P (P_extract rfl rfl) rfl ?_)
    refine RJ_op rfl (OJ_P (P_extract rfl rfl) rfl ?_)
    refine RJ_op rfl (OJ_P (P_assign rfl) rfl ?_)
    refine RJ_op rfl (OJ_P (P_assign rfl) rfl ?_)
    refine RJ_nil ?_
    refine QJ_ent (Ent.trans (Ent.take del1 (Ent.take del1 Ent.refl)) (LogP_mk (v0 := l.x) (v1 := l.regions) (v2 := l.bits) (v3 := l.durable) (h0 := oc16.1) (h1 := oc16.2.1) (h2 := oc16.2.2))) ?_
    refine QJ_then ?_
    refine CJ_seq ?_
    refine CJ_region ?_
    refine RJ_op rfl (OJ_P (P_move rfl) rfl ?_)
    refine RJ_op rfl (OJ_P (P_assign rfl) rfl ?_)
    refine RJ_nil ?_
    refine QJ_then ?_
    refine CJ_ret ?_
    have hE := Option.some.inj h
    subst hE
    refine QJ_end (res1 Try.results16 rfl) ?_
    refine CSpec.close () ?_ ?_ Ent.refl
    · rfl
    · trivial

def regionlog_Log_Dirty_l1_b (l : LogS) (s : ArrS) (rec : (List Int) → Nat → Option ((List Int))) (x11 : List Int) (x13 : Nat) : Option ((List Int)) :=
  if (((x13 : Nat) : Int) < l.regions) then
    Option.bind (regionlog_Log_IsDirty l (((x13 : Nat) : Int)) s) fun r15 =>
    if r15 = true then
      grd (inLen (x11.length + 1)) <|
      grd (inN64 (x13 + 1)) <|
      rec ((x11 ++ [((x13 : Nat) : Int)])) (x13 + 1)
    else
      grd (inN64 (x13 + 1)) <|
      rec x11 (x13 + 1)
  else
    some x11

def regionlog_Log_Dirty_l1 (l : LogS) (s : ArrS) : Nat → (List Int) → Nat → Option ((List Int))
  | 0, _, _ => none
  | n + 1, x11, x13 => regionlog_Log_Dirty_l1_b l s (regionlog_Log_Dirty_l1 l s n) x11 x13

def regionlog_Log_Dirty (l : LogS) (s : ArrS) : Option ((List Int)) :=
  Option.bind (regionlog_Log_Dirty_l1 l s FUEL ([]) 0) fun a10 =>
  some a10

theorem L_regionlog_Log_Dirty {W : World} {bl : Nat} {bs : Nat} {l : LogS} {s : ArrS} {r : (List Int)} (h : regionlog_Log_Dirty l s = some r) :
    CSpec Try.prog W 14 [ptr bl 0] [LogP bs bl l, Arr bs s] (fun x : Sl3 => x.v) (fun _ => True) (fun x F => LogP bs bl l :: Arr bs s :: sl tyI x.v r :: F) := by
  refine CSpec.of_body Try.func14 rfl Try.ntmps14 rfl (fun F => ?_)
  show CJ _ _ _ _ _ _ (_ :: _ :: F)
  unfold regionlog_Log_Dirty at h
  refine CJ_seq ?_
  refine CJ_region ?_
  refine RJ_op rfl (OJ_P (P_assign rfl) rfl ?_)
  refine RJ_nil ?_
  refine QJ_then ?_
  refine CJ_seq ?_
  refine CJ_region ?_
  refine RJ_op rfl (OJ_P (P_assign rfl) rfl ?_)
  refine RJ_nil ?_
  refine QJ_then ?_
  refine CJ_seq ?_
  refine CJ_seq ?_
  refine CJ_entX (Ent.transX (Ent.take del0 Ent.refl) (LogP_open (l := l))) (fun oc1 => ?_)
  refine CJ_pure (len_of (Reads.rdp _ _ _) del2) (fun hlen3 => ?_)
  refine CJ_region ?_
  refine RJ_op rfl (OJ_P (P_move rfl) rfl ?_)
  refine RJ_op rfl (OJ_P (P_nilCheck rfl) rfl ?_)
  refine RJ_op rfl (OJ_P (P_fieldAddr rfl ⟨_, _, _, Try.runUnderlying66, rfl, rfl, Try.sizeOf3, rfl⟩) rfl ?_)
  refine RJ_op rfl (OJ_V (V_load rfl foc0 rfl Try.isAgg3) rfl ?_)
  refine RJ_op rfl (OJ_P (P_move rfl) rfl ?_)
  refine RJ_nil ?_
  refine QJ_ent (Ent.trans Ent.refl (LogP_mk (v0 := l.x) (v1 := l.regions) (v2 := l.bits) (v3 := l.durable) (h0 := oc1.1) (h1 := oc1.2.1) (h2 := oc1.2.2))) ?_
  refine QJ_then ?_
  refine CJ_ent (fun h hh => sl_nil (t := tyI) h hh) ?_
  obtain ⟨y7, hl5, hK6⟩ := bind_c h
  refine CJ_cutT (X := (List Int) × Sl3) [3, 4, 9, 10, 11, 12, 13, 14, 15, 16, 17, 18, 19] (fun ⟨a10, hd9⟩ => ([(3, hd9.v)] : Slots)) (fun ⟨a10, hd9⟩ R => sl tyI hd9.v a10 :: R) (fun ⟨a10, hd9⟩ => y7 = a10) (Dels.cons del0 Dels.nil) ?_ ?_
  ·
    refine CJ_block ?_
    refine CJ_loopR (X := Nat × (List Int) × Nat × Sl3) [3, 4, 9, 10, 11, 12, 13, 14, 15, 16, 17, 18, 19] (fun ⟨n, x11, x13, hd12⟩ => ([(3, hd12.v), (9, .int .i64 (((x13 : Nat) : Int)))] : Slots)) (fun ⟨n, x11, x13, hd12⟩ R => sl tyI hd12.v x11 :: R) (fun ⟨n, x11, x13, hd12⟩ => regionlog_Log_Dirty_l1 l s n x11 x13 = some y7) (fun ⟨n, x11, x13, hd12⟩ => n) ⟨FUEL, [], 0, ⟨none, 0, 0⟩⟩ ?_ ?_ Ent.refl ?_
    · exact hl5
    · exact ⟨rfl, rfl, True.intro⟩
    ·
      rintro ⟨n, x11, x13, hd12⟩ h
      cases n with
      | zero => exact none_e h
      | succ n => ?_
      replace h : regionlog_Log_Dirty_l1_b l s (regionlog_Log_Dirty_l1 l s n) x11 x13 = some y7 := h
      unfold regionlog_Log_Dirty_l1_b at h
      show CJ _ _ _ _ _ (([(3, hd12.v), (9, .int .i64 (((x13 : Nat) : Int)))] : Slots) ++ forget _ _) (sl tyI hd12.v x11 :: _)
      refine CJ_pure (len_of (Reads.sl _ _ _) del0) (fun hlen14 => ?_)
      refine CJ_seq ?_
      refine CJ_region ?_
      refine RJ_op rfl (OJ_P (P_lss (a := ((x13 : Nat) : Int)) (b := l.regions) rfl rfl) rfl ?_)
      refine RJ_nil ?_
      refine QJ_then ?_
      refine CJ_seq ?_
      refine CJ_condP rfl bT_dec (fun hg1 => ?_) (fun hg1 => ?_)
      ·
        replace h := ite_t hg1 h
        refine CJ_skip ?_
        refine QJ_then ?_
        refine CJ_seq ?_
        refine CJ_block ?_
        refine CJ_seq ?_
        refine CJ_region ?_
        refine RJ_op rfl (OJ_P (P_move rfl) rfl ?_)
        refine RJ_op rfl (OJ_P (P_assign rfl) rfl ?_)
        refine RJ_nil ?_
        refine QJ_then ?_
        refine CJ_seq ?_
        refine CJ_region ?_
        refine RJ_op rfl (OJ_P (P_move rfl) rfl ?_)
        refine RJ_op rfl (OJ_P (P_move rfl) rfl ?_)
        obtain ⟨r15, hr16, h⟩ := bind_e h
        refine RJ_op rfl (O_call (L_regionlog_Log_IsDirty hr16) rfl Try.call16 (Dels.cons del1 (Dels.cons del1 Dels.nil)) rfl (fun _ _ => ?_))
        refine RJ_nil ?_
        refine QJ_then ?_
        refine CJ_condP rfl Iff.rfl (fun hg2 => ?_) (fun hg2 => ?_)
        ·
          replace h := ite_t hg2 h
          refine CJ_region ?_
          refine RJ_op rfl (OJ_P (P_move rfl) rfl ?_)
          refine RJ_op rfl (OJ_P (P_move rfl) rfl ?_)
          refine RJ_op rfl (O_buildSlice rfl (bs_24_1_0 _) rfl (fun b17 => ?_))
          obtain ⟨hg3, h⟩ := grd_Le h
          refine RJ_op rfl (O_append (t := tyI) (bytes := 8) rfl rfl del3 foc0 (Reads.lit (t := tyI) (ys := [((x13 : Nat) : Int)]) rfl rfl (by decide) (by decide) rfl) Try.underlying24 ok_tyI (apl (m := 1) (b := 8) hg3 (by decide)).1 (apl (m := 1) (b := 8) hg3 (by decide)).2 rfl (fun p19 c20 => ?_))
          refine RJ_op rfl (OJ_P (P_assign rfl) rfl ?_)
          refine RJ_nil ?_
          refine QJ_block_normal ?_
          refine QJ_then ?_
          refine CJ_region ?_
          obtain ⟨hg4, h⟩ := grd_Ne h
          refine RJ_op rfl (OJ_P (PJ_eq (P_add (a := ((x13 : Nat) : Int)) (b := (1 : Int)) rfl rfl (nat_in hg4)) rfl) rfl ?_)
          refine RJ_op rfl (OJ_P (P_move rfl) rfl ?_)
          refine RJ_nil ?_
          refine QJ_nextR ⟨n, (x11 ++ [((x13 : Nat) : Int)]), (x13 + 1), ⟨p19, (x11 ++ [((x13 : Nat) : Int)]).length, c20⟩⟩ (Nat.lt_succ_self _) ?_ (by repeat (first | exact Kp.base | exact Kp.self | refine Kp.cons rfl ?_ | refine Kp.forget rfl ?_)) ?_ (Ent.take del0 (Ent.take del1 (Ent.take del1 (Ent.drop Ent.refl))))
          · exact h
          · exact ⟨rfl, rfl, True.intro⟩
        ·
          replace h := ite_f hg2 h
          refine CJ_skip ?_
          refine QJ_block_normal ?_
          refine QJ_then ?_
          refine CJ_region ?_
          obtain ⟨hg5, h⟩ := grd_Ne h
          refine RJ_op rfl (OJ_P (PJ_eq (P_add (a := ((x13 : Nat) : Int)) (b := (1 : Int)) rfl rfl (nat_in hg5)) rfl) rfl ?_)
          refine RJ_op rfl (OJ_P (P_move rfl) rfl ?_)
          refine RJ_nil ?_
          refine QJ_nextR ⟨n, x11, (x13 + 1), hd12⟩ (Nat.lt_succ_self _) ?_ (by repeat (first | exact Kp.base | exact Kp.self | refine Kp.cons rfl ?_ | refine Kp.forget rfl ?_)) ?_ (Ent.take del2 Ent.refl)
          · exact h
          · exact ⟨rfl, rfl, True.intro⟩
      ·
        replace h := ite_f hg1 h
        refine CJ_exit ?_
        refine QJ_then_exit ?_
        refine QJ_round_exit ?_
        refine QJ_block_here ?_
        refine QJ_cutR ⟨x11, hd12⟩ ?_ (by repeat (first | exact Kp.base | exact Kp.self | refine Kp.cons rfl ?_ | refine Kp.forget rfl ?_)) ?_ Ent.refl
        · exact (Option.some.inj h).symm
        · exact ⟨rfl, True.intro⟩
  ·
    rintro ⟨a10, hd9⟩ hy21
    replace h := bindK_at hK6 hy21
    show CJ _ _ _ _ _ (([(3, hd9.v)] : Slots) ++ forget _ _) (sl tyI hd9.v a10 :: _)
    refine CJ_pure (len_of (Reads.sl _ _ _) del0) (fun hlen22 => ?_)
    refine CJ_seq ?_
    refine CJ_region ?_
    refine RJ_op rfl (OJ_P (P_move rfl) rfl ?_)
    refine RJ_op rfl (OJ_P (P_assign rfl) rfl ?_)
    refine RJ_nil ?_
    refine QJ_then ?_
    refine CJ_ret ?_
    have hE := Option.some.inj h
    subst hE
    refine QJ_end (res1 Try.results14 rfl) ?_
    refine CSpec.close hd9 ?_ ?_ (Ent.take del1 (Ent.take del1 Ent.refl))
    · rfl
    · trivial

def regionlog_Log_Sync (l : LogS) (s : ArrS) : Option (Int × ArrS) :=
  Option.bind (Dvc.fl l.x s) fun r5 =>
  some (r5.1, r5.2)

theorem L_regionlog_Log_Sync {W : World} {bl : Nat} {bs : Nat} {l : LogS} {s : ArrS} {r : Int × ArrS} (h : regionlog_Log_Sync l s = some r) :
    CSpec Try.prog W 21 [ptr bl 0] [LogP bs bl l, Arr bs s] (fun x : Unit => .int .i64 r.1) (fun _ => True) (fun x F => LogP bs bl l :: Arr bs r.2 :: F) := by
  refine CSpec.of_body Try.func21 rfl Try.ntmps21 rfl (fun F => ?_)
  show CJ _ _ _ _ _ _ (_ :: _ :: F)
  unfold regionlog_Log_Sync at h
  refine CJ_seq ?_
  refine CJ_region ?_
  refine RJ_op rfl (OJ_P (P_assign rfl) rfl ?_)
  refine RJ_nil ?_
  refine QJ_then ?_
  refine CJ_seq ?_
  refine CJ_entX (Ent.transX (Ent.take del0 Ent.refl) (LogP_open (l := l))) (fun oc1 => ?_)
  refine CJ_pure (len_of (Reads.rdp _ _ _) del2) (fun hlen3 => ?_)
  refine CJ_region ?_
  refine RJ_op rfl (OJ_P (P_move rfl) rfl ?_)
  refine RJ_op rfl (OJ_P (P_nilCheck rfl) rfl ?_)
  refine RJ_op rfl (OJ_P (P_fieldAddr rfl ⟨_, _, _, Try.runUnderlying66, rfl, rfl, Try.sizeOf38, rfl⟩) rfl ?_)
  refine RJ_op rfl (OJ_V (V_load rfl foc0 rfl Try.isAgg38) rfl ?_)
  refine RJ_pure (fun h hh => DevP_dep h (stars_perm (del1 (A := DevP bs l.x oc1.1)).out h hh)) (fun hdp4 => ?_)
  obtain ⟨r5, hr6, h⟩ := bind_e h
  refine RJ_op rfl (O_callI rfl (dev_Flush hr6 hdp4) rfl (Dels.cons del1 (Dels.cons del3 Dels.nil)) rfl (fun _ _ => ?_))
  refine RJ_op rfl (OJ_P (P_assign rfl) rfl ?_)
  refine RJ_nil ?_
  refine QJ_ent (Ent.trans (Ent.take del0 Ent.refl) (fun h hh => stars_dup Dup_DevP hh)) ?_
  refine QJ_ent (Ent.trans (Ent.take del3 (Ent.take del0 (Ent.take del2 (Ent.take del2 Ent.refl)))) (LogP_mk (v0 := l.x) (v1 := l.regions) (v2 := l.bits) (v3 := l.durable) (h0 := oc1.1) (h1 := oc1.2.1) (h2 := oc1.2.2))) ?_
  refine QJ_then ?_
  refine CJ_ret ?_
  have hE := Option.some.inj h
  subst hE
  refine QJ_end (res1 Try.results21 rfl) ?_
  refine CSpec.close () ?_ ?_ (Ent.take del0 (Ent.take del1 (Ent.drop Ent.refl)))
  · rfl
  · trivial

end Go.Proofs
