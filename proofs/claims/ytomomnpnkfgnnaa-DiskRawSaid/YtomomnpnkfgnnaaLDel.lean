/- YtomomnpnkfgnnaaLDel: lifted functions of the program; printed by lift.py. -/
import Derived.Test.YtomomnpnkfgnnaaVgM
import Derived.Test.YtomomnpnkfgnnaaCDisk1
set_option linter.unusedSimpArgs false
set_option linter.unusedVariables false
set_option maxRecDepth 20000
set_option maxHeartbeats 4000000
namespace Go.Proofs
open Go.VG
abbrev tyU32 : Ty UInt32 := { T := 105, sz := 1, enc := fun x => [.int .u32 (x.toNat : Int)], dflt := 0, len := fun _ => rfl, one := fun _ => rfl, pos := by decide }
theorem ok_tyU32 : ElemOk Try.prog tyU32 4 := ⟨Try.t105, .int .u32 0, by kernel_rfl, rfl, rfl, rfl, rfl⟩
abbrev tyU8 : Ty UInt8 := { T := 5, sz := 1, enc := fun x => [.int .u8 (x.toNat : Int)], dflt := 0, len := fun _ => rfl, one := fun _ => rfl, pos := by decide }
theorem ok_tyU8 : ElemOk Try.prog tyU8 1 := ⟨Try.t5, .int .u8 0, by kernel_rfl, rfl, rfl, rfl, rfl⟩
abbrev tyS : Ty ByteArray := { T := 9, sz := 1, enc := fun x => [.string x], dflt := ByteArray.empty, len := fun _ => rfl, one := fun _ => rfl, pos := by decide }
theorem ok_tyS : ElemOk Try.prog tyS 16 := ⟨Try.t9, .string ByteArray.empty, by kernel_rfl, rfl, rfl, rfl, rfl⟩

def disk_Array_Load_1 (r_0 : Rec) (p1 : Int) : Option (Bool) :=
  some ((decide (((r_0.d : Nat) : Int) = p1)))

theorem L_disk_Array_Load_1 {W : World} {bp1 : Nat} {r_0 : Rec} {p1 : Int} {r : Bool} (h : disk_Array_Load_1 r_0 p1 = some r) :
    CSpec Try.prog W 50 [.agg #[.int .i64 (((r_0.d : Nat) : Int)), .int .i64 (((r_0.a : Nat) : Int)), .int .u64 (r_0.v.toNat : Int)], ptr bp1 0] [blk bp1 3 [.int .i64 p1]] (fun x : Unit => .bool r) (fun _ => True) (fun x F => blk bp1 3 [.int .i64 p1] :: F) := by
  refine CSpec.of_body Try.func50 rfl Try.ntmps50 rfl (fun F => ?_)
  show CJ _ _ _ _ _ _ (_ :: F)
  unfold disk_Array_Load_1 at h
  refine CJ_seq ?_
  refine CJ_region ?_
  refine RJ_op rfl (O_box rfl rfl rfl (fun b1 => ?_))
  refine RJ_op rfl (OJ_P (P_assign rfl) rfl ?_)
  refine RJ_nil ?_
  refine QJ_then ?_
  refine CJ_seq ?_
  refine CJ_region ?_
  refine RJ_op rfl (OJ_P (P_fieldAddr rfl ⟨_, _, _, Try.runUnderlying64, rfl, rfl, Try.sizeOf60, rfl⟩) rfl ?_)
  refine RJ_op rfl (OJ_P (P_fieldAddr rfl ⟨_, _, _, Try.runUnderlying60, rfl, rfl, Try.sizeOf3, rfl⟩) rfl ?_)
  refine RJ_op rfl (OJ_V (V_load rfl foc0 rfl Try.isAgg3) rfl ?_)
  refine RJ_op rfl (OJ_V (V_load rfl foc1 rfl Try.isAgg3) rfl ?_)
  refine RJ_op rfl (OJ_P (P_eql (a := ((r_0.d : Nat) : Int)) (b := p1) rfl rfl) rfl ?_)
  refine RJ_op rfl (OJ_P (P_assign rfl) rfl ?_)
  refine RJ_nil ?_
  refine QJ_then ?_
  refine CJ_ret ?_
  have hE := Option.some.inj h
  subst hE
  refine QJ_end (res1 Try.results50 rfl) ?_
  refine CSpec.close () ?_ ?_ (Ent.take del1 (Ent.drop Ent.refl))
  · rfl
  · trivial

def slices_IndexFunc_record__disk_Array_Load_1_l1_b (p0 : List Rec) (p1_c0 : Int) (rec : Nat → Option ((Unit) ⊕ Int)) (x6 : Nat) : Option ((Unit) ⊕ Int) :=
  if (((x6 : Nat) : Int) < ((p0.length : Nat) : Int)) then
    Option.bind (disk_Array_Load_1 (p0.getD x6 r0) p1_c0) fun r7 =>
    if r7 = true then
      some (.inr (((x6 : Nat) : Int)))
    else
      rec (x6 + 1)
  else
    some (.inl ())

def slices_IndexFunc_record__disk_Array_Load_1_l1 (p0 : List Rec) (p1_c0 : Int) : Nat → Nat → Option ((Unit) ⊕ Int)
  | 0, _ => none
  | n + 1, x6 => slices_IndexFunc_record__disk_Array_Load_1_l1_b p0 p1_c0 (slices_IndexFunc_record__disk_Array_Load_1_l1 p0 p1_c0 n) x6

def slices_IndexFunc_record__disk_Array_Load_1 (p0 : List Rec) (p1_c0 : Int) : Option (Int) :=
  seqO (slices_IndexFunc_record__disk_Array_Load_1_l1 p0 p1_c0 FUEL 0) fun a5 =>
  some (-1 : Int)

theorem L_slices_IndexFunc_record__disk_Array_Load_1 {W : World} {Ap0 : HP} {vp0 : Value} {bp1_c0 : Nat} {p0 : List Rec} {p1_c0 : Int} {r : Int} (rp0 : Reads Ap0 tyRec vp0 p0) (h : slices_IndexFunc_record__disk_Array_Load_1 p0 p1_c0 = some r) :
    CSpec Try.prog W 53 [vp0, .func (.func 50) #[] #[ptr bp1_c0 0]] [Ap0, blk bp1_c0 3 [.int .i64 p1_c0]] (fun x : Unit => .int .i64 r) (fun _ => True) (fun x F => Ap0 :: blk bp1_c0 3 [.int .i64 p1_c0] :: F) := by
  refine CSpec.of_body Try.func53 rfl Try.ntmps53 rfl (fun F => ?_)
  show CJ _ _ _ _ _ _ (_ :: _ :: F)
  unfold slices_IndexFunc_record__disk_Array_Load_1 at h
  refine CJ_pure (len_of rp0 del0) (fun hlen1 => ?_)
  refine CJ_seq ?_
  refine CJ_region ?_
  refine RJ_op rfl (OJ_P (P_assign rfl) rfl ?_)
  refine RJ_nil ?_
  refine QJ_then ?_
  refine CJ_seq ?_
  refine CJ_seq ?_
  refine CJ_region ?_
  refine RJ_op rfl (OJ_P (P_move rfl) rfl ?_)
  refine RJ_op rfl (OJ_V (V_len rfl foc0 rp0 Try.runUnderlying53) rfl ?_)
  refine RJ_op rfl (OJ_P (P_move rfl) rfl ?_)
  refine RJ_nil ?_
  refine QJ_then ?_
  obtain ⟨y4, hl2, hK3⟩ := seq_e h
  refine CJ_cutT (X := Unit) [4, 5, 8, 9, 10, 11, 12, 13, 14, 15, 16, 17, 18] (fun _ => ([] : Slots)) (fun _ R => R) (fun _ => y4 = .inl ()) Dels.nil ?_ ?_
  ·
    refine CJ_block ?_
    refine CJ_loopR (X := Nat × Nat) [4, 5, 8, 9, 10, 11, 12, 13, 14, 15, 16, 17, 18] (fun ⟨n, x6⟩ => ([(8, .int .i64 (((x6 : Nat) : Int)))] : Slots)) (fun ⟨n, x6⟩ R => R) (fun ⟨n, x6⟩ => slices_IndexFunc_record__disk_Array_Load_1_l1 p0 p1_c0 n x6 = some y4) (fun ⟨n, x6⟩ => n) ⟨FUEL, 0⟩ ?_ ?_ Ent.refl ?_
    · exact hl2
    · exact ⟨rfl, True.intro⟩
    ·
      rintro ⟨n, x6⟩ h
      cases n with
      | zero => exact none_e h
      | succ n => ?_
      replace h : slices_IndexFunc_record__disk_Array_Load_1_l1_b p0 p1_c0 (slices_IndexFunc_record__disk_Array_Load_1_l1 p0 p1_c0 n) x6 = some y4 := h
      unfold slices_IndexFunc_record__disk_Array_Load_1_l1_b at h
      show CJ _ _ _ _ _ (([(8, .int .i64 (((x6 : Nat) : Int)))] : Slots) ++ forget _ _) (_)
      refine CJ_seq ?_
      refine CJ_region ?_
      refine RJ_op rfl (OJ_P (P_lss (a := ((x6 : Nat) : Int)) (b := ((p0.length : Nat) : Int)) rfl rfl) rfl ?_)
      refine RJ_nil ?_
      refine QJ_then ?_
      refine CJ_seq ?_
      refine CJ_condP rfl bT_dec (fun hg1 => ?_) (fun hg1 => ?_)
      ·
        replace h := ite_t hg1 h
        refine CJ_skip ?_
        refine QJ_then ?_
        refine CJ_seq ?_
        refine CJ_block ?_
        refine CJ_seq ?_
        refine CJ_region ?_
        refine RJ_op rfl (OJ_P (P_move rfl) rfl ?_)
        refine RJ_op rfl (OJ_P (P_assign rfl) rfl ?_)
        refine RJ_nil ?_
        refine QJ_then ?_
        refine CJ_seq ?_
        refine CJ_region ?_
        refine RJ_op rfl (OJ_P (P_move rfl) rfl ?_)
        refine RJ_op rfl (OJ_P (P_move rfl) rfl ?_)
        refine RJ_op rfl (OJ_P (P_move rfl) rfl ?_)
        refine RJ_op rfl (OJ_V (V_index (i := x6) rfl rfl rfl (by omega) foc0 rp0 Try.runUnderlying53 Try.sizeOf64) rfl ?_)
        refine RJ_op rfl (OJ_V (V_loadEN rfl rfl (by omega) foc0 rp0 rfl rfl Try.isAgg64 Try.sizeOf64) rfl ?_)
        obtain ⟨r7, hr8, h⟩ := bind_e h
        refine RJ_op rfl (O_callV rfl rfl (L_disk_Array_Load_1 hr8) Try.call50 (Dels.cons del1 Dels.nil) rfl (fun _ _ => ?_))
        refine RJ_nil ?_
        refine QJ_then ?_
        refine CJ_condP rfl Iff.rfl (fun hg2 => ?_) (fun hg2 => ?_)
        ·
          replace h := ite_t hg2 h
          refine CJ_seq ?_
          refine CJ_region ?_
          refine RJ_op rfl (OJ_P (P_move rfl) rfl ?_)
          refine RJ_op rfl (OJ_P (P_assign rfl) rfl ?_)
          refine RJ_nil ?_
          refine QJ_then ?_
          refine CJ_ret ?_
          refine QJ_block_ret ?_
          refine QJ_then_ret ?_
          refine QJ_round_ret ?_
          refine QJ_block_ret ?_
          refine QJ_then_ret ?_
          have hE := Option.some.inj h
          replace hE := seq_inr hK3 hE.symm
          subst hE
          refine QJ_end (res1 Try.results53 rfl) ?_
          refine CSpec.close () ?_ ?_ (Ent.take del1 Ent.refl)
          · rfl
          · trivial
        ·
          replace h := ite_f hg2 h
          refine CJ_skip ?_
          refine QJ_block_normal ?_
          refine QJ_then ?_
          refine CJ_region ?_
          refine RJ_op rfl (OJ_P (PJ_eq (P_add (a := ((x6 : Nat) : Int)) (b := (1 : Int)) rfl rfl (by omega)) rfl) rfl ?_)
          refine RJ_op rfl (OJ_P (P_move rfl) rfl ?_)
          refine RJ_nil ?_
          refine QJ_nextR ⟨n, (x6 + 1)⟩ (Nat.lt_succ_self _) ?_ (by repeat (first | exact Kp.base | exact Kp.self | refine Kp.cons rfl ?_ | refine Kp.forget rfl ?_)) ?_ (Ent.take del1 Ent.refl)
          · exact h
          · exact ⟨rfl, True.intro⟩
      ·
        replace h := ite_f hg1 h
        refine CJ_exit ?_
        refine QJ_then_exit ?_
        refine QJ_round_exit ?_
        refine QJ_block_here ?_
        refine QJ_cutR () ?_ (by repeat (first | exact Kp.base | exact Kp.self | refine Kp.cons rfl ?_ | refine Kp.forget rfl ?_)) ?_ Ent.refl
        · exact (Option.some.inj h).symm
        · exact True.intro
  ·
    rintro _ hy9
    replace h := seq_inl hK3 hy9
    show CJ _ _ _ _ _ (([] : Slots) ++ forget _ _) (_)
    refine CJ_seq ?_
    refine CJ_region ?_
    refine RJ_op rfl (OJ_P (P_assign rfl) rfl ?_)
    refine RJ_nil ?_
    refine QJ_then ?_
    refine CJ_ret ?_
    have hE := Option.some.inj h
    subst hE
    refine QJ_end (res1 Try.results53 rfl) ?_
    refine CSpec.close () ?_ ?_ Ent.refl
    · rfl
    · trivial

def disk_deleteRecs_l1_b (p1_c0 : Int) (rec : (List Rec) → Int → Int → Option (Int × (List Rec))) (x10 : List Rec) (x11 : Int) (x12 : Int) : Option (Int × (List Rec)) :=
  if (x12 < ((x10.length : Nat) : Int)) then
    grd (decide (0 ≤ x12 ∧ x12 < (x10.length : Int))) <|
    Option.bind (disk_Array_Load_1 ((x10.getD ((x12).toNat) r0)) p1_c0) fun r15 =>
    if (¬ r15 = true) then
      grd (decide (0 ≤ x11 ∧ x11 < (x10.length : Int))) <|
      grd (inI64 ((x11 + (1 : Int)))) <|
      grd (inI64 ((x12 + (1 : Int)))) <|
      rec ((x10.set ((x11).toNat) ((x10.getD ((x12).toNat) r0)))) ((x11 + (1 : Int))) ((x12 + (1 : Int)))
    else
      grd (inI64 ((x12 + (1 : Int)))) <|
      rec x10 x11 ((x12 + (1 : Int)))
  else
    some (x11, x10)

def disk_deleteRecs_l1 (p1_c0 : Int) : Nat → (List Rec) → Int → Int → Option (Int × (List Rec))
  | 0, _, _, _ => none
  | n + 1, x10, x11, x12 => disk_deleteRecs_l1_b p1_c0 (disk_deleteRecs_l1 p1_c0 n) x10 x11 x12

def disk_deleteRecs (p0 : List Rec) (p1_c0 : Int) : Option ((List Rec)) :=
  Option.bind (slices_IndexFunc_record__disk_Array_Load_1 p0 p1_c0) fun r2 =>
  if (r2 = (-1 : Int)) then
    some p0
  else
    grd (inI64 ((r2 + (1 : Int)))) <|
    Option.bind (disk_deleteRecs_l1 p1_c0 FUEL p0 r2 ((r2 + (1 : Int)))) fun a9 =>
    grd (decide (0 ≤ a9.1 ∧ (a9.1).toNat ≤ a9.2.length ∧ a9.2.length ≤ a9.2.length)) <|
    grd (decide (0 ≤ a9.1 ∧ 0 ≤ (a9.1).toNat ∧ (a9.1).toNat ≤ ((a9.2.take ((a9.1).toNat) ++ List.replicate (a9.2.length - ((a9.1).toNat)) tyRec.dflt)).length)) <|
    some ((((a9.2.take ((a9.1).toNat) ++ List.replicate (a9.2.length - ((a9.1).toNat)) tyRec.dflt)).take ((a9.1).toNat)))

theorem L_disk_deleteRecs {W : World} {hdp0 : Sl3} {bp1_c0 : Nat} {p0 : List Rec} {p1_c0 : Int} {r : (List Rec)} (h : disk_deleteRecs p0 p1_c0 = some r) :
    CSpec Try.prog W 49 [hdp0.v, .func (.func 50) #[] #[ptr bp1_c0 0]] [sl tyRec hdp0.v p0, blk bp1_c0 3 [.int .i64 p1_c0]] (fun x : Sl3 => x.v) (fun _ => True) (fun x F => blk bp1_c0 3 [.int .i64 p1_c0] :: sl tyRec x.v r :: F) := by
  refine CSpec.of_body Try.func49 rfl Try.ntmps49 rfl (fun F => ?_)
  show CJ _ _ _ _ _ _ (_ :: _ :: F)
  unfold disk_deleteRecs at h
  refine CJ_pure (len_of (Reads.sl _ _ _) del0) (fun hlen1 => ?_)
  refine CJ_seq ?_
  refine CJ_region ?_
  refine RJ_op rfl (OJ_P (P_assign rfl) rfl ?_)
  refine RJ_nil ?_
  refine QJ_then ?_
  refine CJ_seq ?_
  refine CJ_region ?_
  refine RJ_op rfl (OJ_P (P_move rfl) rfl ?_)
  refine RJ_op rfl (OJ_P (P_move rfl) rfl ?_)
  obtain ⟨r2, hr3, h⟩ := bind_e h
  refine RJ_op rfl (O_call (L_slices_IndexFunc_record__disk_Array_Load_1 (Reads.sl _ _ _) hr3) rfl Try.call53 (Dels.cons del0 (Dels.cons del0 Dels.nil)) rfl (fun _ _ => ?_))
  refine RJ_op rfl (OJ_P (P_assign rfl) rfl ?_)
  refine RJ_nil ?_
  refine QJ_then ?_
  refine CJ_seq ?_
  refine CJ_seq ?_
  refine CJ_region ?_
  refine RJ_op rfl (OJ_P (P_move rfl) rfl ?_)
  refine RJ_op rfl (OJ_P (P_eql (a := r2) (b := (-1 : Int)) rfl rfl) rfl ?_)
  refine RJ_nil ?_
  refine QJ_then ?_
  refine CJ_condP rfl bT_dec (fun hg1 => ?_) (fun hg1 => ?_)
  ·
    replace h := ite_t hg1 h
    refine CJ_seq ?_
    refine CJ_region ?_
    refine RJ_op rfl (OJ_P (P_move rfl) rfl ?_)
    refine RJ_op rfl (OJ_P (P_assign rfl) rfl ?_)
    refine RJ_nil ?_
    refine QJ_then ?_
    refine CJ_ret ?_
    refine QJ_then_ret ?_
    have hE := Option.some.inj h
    subst hE
    refine QJ_end (res1 Try.results49 rfl) ?_
    refine CSpec.close hdp0 ?_ ?_ (Ent.take del1 Ent.refl)
    · rfl
    · trivial
  ·
    replace h := ite_f hg1 h
    refine CJ_skip ?_
    refine QJ_then ?_
    refine CJ_seq ?_
    refine CJ_seq ?_
    refine CJ_region ?_
    refine RJ_op rfl (OJ_P (P_move rfl) rfl ?_)
    obtain ⟨hg2, h⟩ := grd_Ie h
    refine RJ_op rfl (OJ_P (P_add (a := r2) (b := (1 : Int)) rfl rfl hg2) rfl ?_)
    refine RJ_op rfl (OJ_P (P_assign rfl) rfl ?_)
    refine RJ_nil ?_
    refine QJ_then ?_
    obtain ⟨y6, hl4, hK5⟩ := bind_c h
    refine CJ_cutT (X := Int × (List Rec)) [5, 6, 7, 16, 17, 18, 19, 20, 21, 22, 23, 24, 25, 26, 27, 28, 29, 30, 31, 32, 33, 34, 35] (fun a9 => ([(5, .int .i64 a9.1)] : Slots)) (fun a9 R => sl tyRec hdp0.v a9.2 :: R) (fun a9 => y6 = a9) (Dels.cons del0 Dels.nil) ?_ ?_
    ·
      refine CJ_block ?_
      refine CJ_loopR (X := Nat × (List Rec) × Int × Int) [5, 6, 7, 16, 17, 18, 19, 20, 21, 22, 23, 24, 25, 26, 27, 28, 29, 30, 31, 32, 33, 34, 35] (fun ⟨n, x10, x11, x12⟩ => ([(5, .int .i64 x11), (6, .int .i64 x12)] : Slots)) (fun ⟨n, x10, x11, x12⟩ R => sl tyRec hdp0.v x10 :: R) (fun ⟨n, x10, x11, x12⟩ => disk_deleteRecs_l1 p1_c0 n x10 x11 x12 = some y6) (fun ⟨n, x10, x11, x12⟩ => n) ⟨FUEL, p0, r2, (r2 + (1 : Int))⟩ ?_ ?_ Ent.refl ?_
      · exact hl4
      · exact ⟨rfl, rfl, True.intro⟩
      ·
        rintro ⟨n, x10, x11, x12⟩ h
        cases n with
        | zero => exact none_e h
        | succ n => ?_
        replace h : disk_deleteRecs_l1_b p1_c0 (disk_deleteRecs_l1 p1_c0 n) x10 x11 x12 = some y6 := h
        unfold disk_deleteRecs_l1_b at h
        show CJ _ _ _ _ _ (([(5, .int .i64 x11), (6, .int .i64 x12)] : Slots) ++ forget _ _) (sl tyRec hdp0.v x10 :: _)
        refine CJ_pure (len_of (Reads.sl _ _ _) del0) (fun hlen13 => ?_)
        refine CJ_seq ?_
        refine CJ_seq ?_
        refine CJ_region ?_
        refine RJ_op rfl (OJ_P (P_move rfl) rfl ?_)
        refine RJ_op rfl (OJ_P (P_move rfl) rfl ?_)
        refine RJ_op rfl (OJ_V (V_len rfl foc0 (Reads.sl _ _ _) Try.runUnderlying53) rfl ?_)
        refine RJ_op rfl (OJ_P (P_lss (a := x12) (b := ((x10.length : Nat) : Int)) rfl rfl) rfl ?_)
        refine RJ_nil ?_
        refine QJ_then ?_
        refine CJ_condP rfl bT_dec (fun hg3 => ?_) (fun hg3 => ?_)
        ·
          replace h := ite_t hg3 h
          refine CJ_skip ?_
          refine QJ_then ?_
          refine CJ_seq ?_
          refine CJ_block ?_
          refine CJ_seq ?_
          refine CJ_region ?_
          refine RJ_op rfl (OJ_P (P_move rfl) rfl ?_)
          refine RJ_op rfl (OJ_P (P_move rfl) rfl ?_)
          obtain ⟨hg4, h⟩ := grd_de h
          refine RJ_op rfl (OJ_V (V_index (i := (x12).toNat) rfl rfl (Int.toNat_of_nonneg (hg4.1)).symm (by omega) foc0 (Reads.sl _ _ _) Try.runUnderlying53 Try.sizeOf64) rfl ?_)
          refine RJ_op rfl (OJ_V (V_loadEN rfl rfl (by omega) foc0 (Reads.sl _ _ _) rfl rfl Try.isAgg64 Try.sizeOf64) rfl ?_)
          refine RJ_op rfl (O_alloc Try.zeroValue64 rfl rfl (fun b14 => ?_))
          refine RJ_op rfl (O_storeN rfl rfl foc0 Try.sizeOf64 rfl rfl rfl ?_)
          refine RJ_nil ?_
          refine QJ_then ?_
          refine CJ_seq ?_
          refine CJ_region ?_
          refine RJ_op rfl (OJ_P (P_move rfl) rfl ?_)
          refine RJ_op rfl (OJ_V (V_loadN rfl foc0 Try.isAgg64 Try.sizeOf64 rfl rfl) rfl ?_)
          obtain ⟨r15, hr16, h⟩ := bind_e h
          refine RJ_op rfl (O_callV rfl rfl (L_disk_Array_Load_1 hr16) Try.call50 (Dels.cons del2 Dels.nil) rfl (fun _ _ => ?_))
          refine RJ_op rfl (OJ_P (P_not rfl) rfl ?_)
          refine RJ_nil ?_
          refine QJ_then ?_
          refine CJ_condP rfl (bT_not Iff.rfl) (fun hg5 => ?_) (fun hg5 => ?_)
          ·
            replace h := ite_t hg5 h
            refine CJ_seq ?_
            refine CJ_region ?_
            refine RJ_op rfl (OJ_P (P_move rfl) rfl ?_)
            refine RJ_op rfl (OJ_P (P_move rfl) rfl ?_)
            refine RJ_op rfl (OJ_V (V_loadN rfl foc1 Try.isAgg64 Try.sizeOf64 rfl rfl) rfl ?_)
            obtain ⟨hg6, h⟩ := grd_de h
            refine RJ_op rfl (OJ_V (V_index (i := (x11).toNat) rfl rfl (Int.toNat_of_nonneg (hg6.1)).symm (by omega) foc2 (Reads.sl _ _ _) Try.runUnderlying53 Try.sizeOf64) rfl ?_)
            refine RJ_op rfl (O_storeEN (x' := (x10.getD ((x12).toNat) r0)) rfl rfl rfl (by omega) foc2 rfl Try.sizeOf64 ?_)
            refine RJ_nil ?_
            refine QJ_then ?_
            refine CJ_region ?_
            refine RJ_op rfl (OJ_P (P_move rfl) rfl ?_)
            obtain ⟨hg7, h⟩ := grd_Ie h
            refine RJ_op rfl (OJ_P (P_add (a := x11) (b := (1 : Int)) rfl rfl hg7) rfl ?_)
            refine RJ_op rfl (OJ_P (P_assign rfl) rfl ?_)
            refine RJ_nil ?_
            refine QJ_block_normal ?_
            refine QJ_then ?_
            refine CJ_region ?_
            refine RJ_op rfl (OJ_P (P_move rfl) rfl ?_)
            obtain ⟨hg8, h⟩ := grd_Ie h
            refine RJ_op rfl (OJ_P (P_add (a := x12) (b := (1 : Int)) rfl rfl hg8) rfl ?_)
            refine RJ_op rfl (OJ_P (P_assign rfl) rfl ?_)
            refine RJ_nil ?_
            refine QJ_nextR ⟨n, (x10.set ((x11).toNat) ((x10.getD ((x12).toNat) r0))), (x11 + (1 : Int)), (x12 + (1 : Int))⟩ (Nat.lt_succ_self _) ?_ (by repeat (first | exact Kp.base | exact Kp.self | refine Kp.cons rfl ?_ | refine Kp.forget rfl ?_)) ?_ (Ent.take del2 (Ent.take del0 (Ent.drop Ent.refl)))
            · exact h
            · exact ⟨rfl, rfl, True.intro⟩
          ·
            replace h := ite_f hg5 h
            refine CJ_skip ?_
            refine QJ_block_normal ?_
            refine QJ_then ?_
            refine CJ_region ?_
            refine RJ_op rfl (OJ_P (P_move rfl) rfl ?_)
            obtain ⟨hg9, h⟩ := grd_Ie h
            refine RJ_op rfl (OJ_P (P_add (a := x12) (b := (1 : Int)) rfl rfl hg9) rfl ?_)
            refine RJ_op rfl (OJ_P (P_assign rfl) rfl ?_)
            refine RJ_nil ?_
            refine QJ_nextR ⟨n, x10, x11, (x12 + (1 : Int))⟩ (Nat.lt_succ_self _) ?_ (by repeat (first | exact Kp.base | exact Kp.self | refine Kp.cons rfl ?_ | refine Kp.forget rfl ?_)) ?_ (Ent.take del2 (Ent.take del0 (Ent.drop Ent.refl)))
            · exact h
            · exact ⟨rfl, rfl, True.intro⟩
        ·
          replace h := ite_f hg3 h
          refine CJ_exit ?_
          refine QJ_then_exit ?_
          refine QJ_round_exit ?_
          refine QJ_block_here ?_
          refine QJ_cutR (x11, x10) ?_ (by repeat (first | exact Kp.base | exact Kp.self | refine Kp.cons rfl ?_ | refine Kp.forget rfl ?_)) ?_ Ent.refl
          · exact (Option.some.inj h).symm
          · exact ⟨rfl, True.intro⟩
    ·
      rintro a9 hy17
      replace h := bindK_at hK5 hy17
      show CJ _ _ _ _ _ (([(5, .int .i64 a9.1)] : Slots) ++ forget _ _) (sl tyRec hdp0.v a9.2 :: _)
      refine CJ_pure (len_of (Reads.sl _ _ _) del0) (fun hlen18 => ?_)
      refine CJ_seq ?_
      refine CJ_region ?_
      refine RJ_op rfl (OJ_P (P_move rfl) rfl ?_)
      refine RJ_op rfl (OJ_P (P_move rfl) rfl ?_)
      obtain ⟨hg10, h⟩ := grd_de h
      refine RJ_op rfl (OJ_V (V_slice (l := (a9.1).toNat) (h := a9.2.length) rfl foc0 (Reads.sl _ _ _) ⟨_, by rw [Int.toNat_of_nonneg (by omega)]; exact rfl⟩ rfl (by omega) (by omega) Try.underlying53 Try.sizeOf64) rfl ?_)
      refine RJ_op rfl (O_clear (l := (a9.1).toNat) rfl (by omega) foc0 Try.underlying53 Try.zeroValue64 rfl ?_)
      refine RJ_nil ?_
      refine QJ_then ?_
      refine CJ_seq ?_
      refine CJ_region ?_
      refine RJ_op rfl (OJ_P (P_move rfl) rfl ?_)
      refine RJ_op rfl (OJ_P (P_move rfl) rfl ?_)
      obtain ⟨hg11, h⟩ := grd_de h
      refine RJ_op rfl (OJ_V (V_slice (l := 0) (h := (a9.1).toNat) rfl foc0 (Reads.sl _ _ _) rfl ⟨_, by rw [Int.toNat_of_nonneg (by omega)]; exact rfl⟩ (by omega) (by omega) Try.underlying53 Try.sizeOf64) rfl ?_)
      refine RJ_op rfl (OJ_P (P_assign rfl) rfl ?_)
      refine RJ_nil ?_
      refine QJ_then ?_
      refine CJ_ret ?_
      refine QJ_entX (Ent.transX (Ent.take del0 Ent.refl) (sl_prefix (h := (a9.1).toNat) (by omega))) (fun hd19 => ?_)
      refine QJ_pur (fun e20 => ?_)
      rw [e20]
      have hE := Option.some.inj h
      subst hE
      refine QJ_end (res1 Try.results49 rfl) ?_
      refine CSpec.close ⟨hd19.1, (((a9.2.take ((a9.1).toNat) ++ List.replicate (a9.2.length - ((a9.1).toNat)) tyRec.dflt)).take ((a9.1).toNat)).length, hd19.2⟩ ?_ ?_ (Ent.take del1 Ent.refl)
      · rfl
      · trivial

theorem getD_lt {α : Type} {l : List α} {i : Nat} {d : α} (h : i < l.length) : l.getD i d = l[i] := by simp [List.getD, h]
theorem idxRec_eq (p : List Rec) (c : Int) (hl : p.length ≤ 1000000000) : ∀ n k, p.length < n + k → k ≤ p.length → (∀ j, j < k → ¬ ((p.getD j r0).d : Int) = c) →
    (slices_IndexFunc_record__disk_Array_Load_1_l1 p c n k = some (.inl ()) ∧ ∀ j, j < p.length → ¬ ((p.getD j r0).d : Int) = c) ∨
    ∃ i, i < p.length ∧ slices_IndexFunc_record__disk_Array_Load_1_l1 p c n k = some (.inr (i : Int)) ∧ ((p.getD i r0).d : Int) = c ∧ ∀ j, j < i → ¬ ((p.getD j r0).d : Int) = c := by
  intro n
  induction n with
  | zero => intro k h1 h2; omega
  | succ n ih =>
    intro k h1 h2 h3
    simp only [slices_IndexFunc_record__disk_Array_Load_1_l1, slices_IndexFunc_record__disk_Array_Load_1_l1_b, disk_Array_Load_1, Option.bind_some, grd]
    by_cases hk : k < p.length
    · have e1 : ((k : Int) < (p.length : Int)) := by omega
      rw [if_pos e1]
      by_cases hd : ((p.getD k r0).d : Int) = c
      · refine .inr ⟨k, hk, ?_, hd, h3⟩
        simp only [hd, decide_true, if_true]
      · simp only [hd, decide_false, Bool.false_eq_true, if_false]
        refine ih (k + 1) (by omega) hk fun j hj => ?_
        rcases Nat.lt_or_ge j k with h | h
        · exact h3 j h
        · obtain rfl : j = k := by omega
          exact hd
    · have e1 : ¬ ((k : Int) < (p.length : Int)) := by omega
      rw [if_neg e1]
      exact .inl ⟨rfl, fun j hj => h3 j (by omega)⟩
def keepR (c : Int) (r : Rec) : Bool := !decide ((r.d : Int) = c)
theorem delLoop_eq (p : List Rec) (c : Int) (hl : p.length ≤ 1000000000) : ∀ n (xs : List Rec) (i j : Nat), p.length < n + j → j ≤ p.length → i < j → xs.length = p.length → xs.take i = (p.take j).filter (keepR c) → xs.drop j = p.drop j →
    ∃ ys : List Rec, ∃ i' : Nat, disk_deleteRecs_l1 c n xs (i : Int) (j : Int) = some ((i' : Int), ys) ∧ ys.length = p.length ∧ i' ≤ p.length ∧ ys.take i' = p.filter (keepR c) := by
  intro n
  induction n with
  | zero => intro xs i j h1 h2; omega
  | succ n ih =>
    intro xs i j h1 h2 h3 h4 h5 h6
    simp only [disk_deleteRecs_l1, disk_deleteRecs_l1_b, disk_Array_Load_1, Option.bind_some, grd, Int.toNat_natCast]
    have hi64 : ∀ k : Nat, k ≤ p.length → inI64 ((k : Int) + 1) = true := fun k hk => by exact inI64_iff.2 ⟨by omega, by omega⟩
    by_cases hj : j < p.length
    · rw [if_pos (by omega)]
      have hx : xs.getD j r0 = p.getD j r0 := by
        have := congrArg (fun l => l.getD 0 r0) h6
        simpa [List.getD] using this
      have ht : p.take (j + 1) = p.take j ++ [p.getD j r0] := by rw [List.take_succ_eq_append_getElem hj, getD_lt hj]
      have hd : xs.drop (j + 1) = p.drop (j + 1) := by
        have := congrArg (List.drop 1) h6
        simpa [List.drop_drop] using this
      by_cases hc : ((p.getD j r0).d : Int) = c
      · simp only [hx, hc, decide_true, not_true_eq_false, if_false, hi64 j (by omega), if_true, cond_true]
        rw [show decide (0 ≤ (j : Int) ∧ (j : Int) < (xs.length : Int)) = true from decide_eq_true (by omega)]
        refine ih xs i (j + 1) (by omega) hj (by omega) h4 ?_ hd
        have hk : ¬ keepR c (p.getD j r0) = true := by unfold keepR; simp only [hc, decide_true]; decide
        rw [ht, List.filter_append, h5, List.filter_cons_of_neg hk, List.filter_nil, List.append_nil]
      · simp only [hx, hc, decide_false, Bool.false_eq_true, not_false_eq_true, if_true, hi64 j (by omega), hi64 i (by omega), cond_true]
        rw [show decide (0 ≤ (j : Int) ∧ (j : Int) < (xs.length : Int)) = true from decide_eq_true (by omega), show decide (0 ≤ (i : Int) ∧ (i : Int) < (xs.length : Int)) = true from decide_eq_true (by omega)]
        refine ih (xs.set i (p.getD j r0)) (i + 1) (j + 1) (by omega) hj (by omega) (by simpa using h4) ?_ ?_
        · rw [ht, List.filter_append, ← h5]
          have hk : keepR c (p.getD j r0) = true := by unfold keepR; simp only [hc, decide_false]; decide
          rw [List.take_succ_eq_append_getElem (by simp; omega), List.take_set_of_le (Nat.le_refl _), List.getElem_set_self, List.filter_cons_of_pos hk, List.filter_nil]
        · rw [List.drop_set_of_lt (by omega)]; exact hd
    · rw [if_neg (by omega)]
      obtain rfl : j = p.length := by omega
      exact ⟨xs, i, rfl, h4, by omega, by rw [h5, List.take_length]⟩
theorem deleteRecs_eq {p : List Rec} {c : Int} (hl : p.length ≤ 1000000000) : disk_deleteRecs p c = some (p.filter fun r => !decide ((r.d : Int) = c)) := by
  unfold disk_deleteRecs slices_IndexFunc_record__disk_Array_Load_1
  have hF := fuel_big
  generalize FUEL = N at hF ⊢
  rcases idxRec_eq p c hl N 0 (by omega) (Nat.zero_le _) (fun j hj => by omega) with ⟨h1, h2⟩ | ⟨i, h1, h2, h3, h4⟩
  · rw [h1]
    simp only [seqO, Option.bind_some, Sum.elim_inl]
    rw [if_pos trivial]
    refine congrArg some (List.filter_eq_self.2 fun r hr => ?_).symm
    obtain ⟨j, hj, rfl⟩ := List.getElem_of_mem hr
    have := h2 j hj
    rw [getD_lt hj] at this
    simpa using this
  · rw [h2]
    simp only [seqO, Option.bind_some, Sum.elim_inr]
    rw [if_neg (by omega)]
    have hf : p.take i = (p.take (i + 1)).filter (keepR c) := by
      rw [List.take_succ_eq_append_getElem h1, List.filter_append]
      have e1 : (p.take i).filter (keepR c) = p.take i := List.filter_eq_self.2 fun r hr => by
        obtain ⟨j, hj, rfl⟩ := List.getElem_of_mem hr
        have hj' : j < i := by simp at hj; omega
        have := h4 j hj'
        rw [getD_lt (by omega)] at this
        simpa [keepR] using this
      rw [e1]
      rw [getD_lt h1] at h3
      simp [keepR, h3]
    obtain ⟨ys, i', h5, h6, h7, h8⟩ := delLoop_eq p c hl N p i (i + 1) (by omega) (by omega) (by omega) rfl hf rfl
    have e2 : ((i : Int) + 1) = ((i + 1 : Nat) : Int) := by omega
    rw [grd_pos (show inI64 ((i : Int) + 1) = true by exact inI64_iff.2 ⟨by omega, by omega⟩), e2, h5]
    simp only [Option.bind_some, Int.toNat_natCast]
    rw [grd_d (by omega), grd_d (by simp; omega)]
    refine congrArg some ?_
    rw [List.take_append_of_le_length (by simp; omega), List.take_take, Nat.min_self, h8]
    rfl

theorem c_DeleteRec {W : World} {v : Sl3} {b : Nat} {p : List Rec} {d : Int} (hl : p.length ≤ 1000000000) (TI : Nat := 3) :
    CSpec Try.prog W 49 [v.v, .func (.func 50) #[] #[ptr b 0]] [sl tyRec v.v p, blk b 3 [.int .i64 d]] (fun x : Sl3 => x.v) (fun _ => True) (fun x F => blk b 3 [.int .i64 d] :: sl tyRec x.v (p.filter fun r => !decide ((r.d : Int) = d)) :: F) :=
  L_disk_deleteRecs (deleteRecs_eq hl)
end Go.Proofs
