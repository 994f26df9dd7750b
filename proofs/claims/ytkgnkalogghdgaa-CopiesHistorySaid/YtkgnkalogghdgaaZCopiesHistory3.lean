/- CopiesHistory, part 3 of the proof: LDel, CLoad, LDev, LSpan, LMake, PMake, PBytes, PText, PDesc, PCrc, LIt, LItF, LItS, LCrc, PCrcL, PRing0, PRing1, PSame02, PSpans. -/
import Derived.WalkKit
import Derived.Orders
import Derived.RangeFuncLeaves
import Derived.RangeFuncCalls
import Derived.TacticsIn
import Derived.Handy
import Derived.OrdersHeld
import Derived.OrdersIn
import Derived.Below
import Derived.OpenShut
import Derived.Deep.Slices
import Derived.Scope
import Derived.KernelRfl
import Derived.RangeFuncRecord
import Derived.ChangeKeysEq
import Derived.Laws.BytesArg
import Derived.ProofKit
import Derived.ShutString
import Derived.ChangeOld
import Derived.Test.YtkgnkalogghdgaaChecked
import Derived.Test.YtkgnkalogghdgaaRows
import Derived.Test.YtkgnkalogghdgaaZCopiesHistory2
set_option linter.unusedSimpArgs false
set_option linter.unusedVariables false
set_option maxRecDepth 20000
set_option maxHeartbeats 4000000
namespace Go.Proofs
open Go.VG
abbrev tyU32 : Ty UInt32 := { T := 152, sz := 1, enc := fun x => [.int .u32 (x.toNat : Int)], dflt := 0, len := fun _ => rfl, one := fun _ => rfl, pos := by decide }
abbrev tyU8 : Ty UInt8 := { T := 5, sz := 1, enc := fun x => [.int .u8 (x.toNat : Int)], dflt := 0, len := fun _ => rfl, one := fun _ => rfl, pos := by decide }
abbrev tyS : Ty ByteArray := { T := 9, sz := 1, enc := fun x => [.string x], dflt := ByteArray.empty, len := fun _ => rfl, one := fun _ => rfl, pos := by decide }
theorem ok_tyS : ElemOk Try.prog tyS 16 := ⟨Try.t9, .string ByteArray.empty, by kernel_rfl, rfl, rfl, rfl, rfl⟩
def disk_Array_Load_1 (r_0 : Rec) (p1 : Int) : Option (Bool) :=
  some ((decide (((r_0.d : Nat) : Int) = p1)))
theorem L_disk_Array_Load_1 {W : World} {bp1 : Nat} {r_0 : Rec} {p1 : Int} {r : Bool} (h : disk_Array_Load_1 r_0 p1 = some r) :
    CSpec Try.prog W 79 [.agg #[.int .i64 (((r_0.d : Nat) : Int)), .int .i64 (((r_0.a : Nat) : Int)), .int .u64 (r_0.v.toNat : Int)], ptr bp1 0] [blk bp1 3 [.int .i64 p1]] (fun x : Unit => .bool r) (fun _ => True) (fun x F => blk bp1 3 [.int .i64 p1] :: F) := by
 refine CSpec.of_body Try.func79 rfl Try.ntmps79 rfl fun F => ?_
 show CJ _ _ _ _ _ _ (_ :: F)
 unfold disk_Array_Load_1 at h
 refine sR <| oO <| O_box rfl rfl rfl fun b1 => oA rfl rfl <| nT <| sR <| oP (P_fieldAddr rfl ⟨_, _, _, Try.runUnderlying126, rfl, rfl, Try.sizeOf124, rfl⟩) rfl <| oP (P_fieldAddr rfl ⟨_, _, _, Try.runUnderlying124, rfl, rfl, Try.sizeOf3, rfl⟩) rfl <| oV (V_load rfl foc0 rfl Try.isAgg3) rfl <| oV (V_load rfl foc1 rfl Try.isAgg3) rfl <| oP (P_eql (a := ((r_0.d : Nat) : Int)) (b := p1) rfl rfl) rfl <| oA rfl rfl <| nT <| CJ_ret ?_
 cases h
 exact fE (res1 Try.results79 rfl) () (t1_ (eD eR))
def slices_IndexFunc_record__disk_Array_Load_1_l1_b (p0 : List Rec) (p1_c0 : Int) (rec : Nat → Option ((Unit) ⊕ Int)) (x6 : Nat) : Option ((Unit) ⊕ Int) :=
  if (((x6 : Nat) : Int) < ((p0.length : Nat) : Int)) then
    Option.bind (disk_Array_Load_1 (p0.getD x6 r0) p1_c0) fun r7 =>
    if r7 = true then
      some (.inr (((x6 : Nat) : Int)))
    else
      rec (x6 + 1)
  else
    some (.inl ())
def slices_IndexFunc_record__disk_Array_Load_1_l1 (p0 : List Rec) (p1_c0 : Int) : Nat → Nat → Option ((Unit) ⊕ Int)
  | 0, _ => none
  | n + 1, x6 => slices_IndexFunc_record__disk_Array_Load_1_l1_b p0 p1_c0 (slices_IndexFunc_record__disk_Array_Load_1_l1 p0 p1_c0 n) x6
def slices_IndexFunc_record__disk_Array_Load_1 (p0 : List Rec) (p1_c0 : Int) : Option (Int) :=
  seqO (slices_IndexFunc_record__disk_Array_Load_1_l1 p0 p1_c0 FUEL 0) fun a5 =>
  some (-1 : Int)
theorem L_slices_IndexFunc_record__disk_Array_Load_1 {W : World} {Ap0 : HP} {vp0 : Value} {bp1_c0 : Nat} {p0 : List Rec} {p1_c0 : Int} {r : Int} (rp0 : Reads Ap0 tyRec vp0 p0) (h : slices_IndexFunc_record__disk_Array_Load_1 p0 p1_c0 = some r) :
    CSpec Try.prog W 94 [vp0, .func (.func 79) #[] #[ptr bp1_c0 0]] [Ap0, blk bp1_c0 3 [.int .i64 p1_c0]] (fun x : Unit => .int .i64 r) (fun _ => True) (fun x F => Ap0 :: blk bp1_c0 3 [.int .i64 p1_c0] :: F) := by
 refine CSpec.of_body Try.func94 rfl Try.ntmps94 rfl fun F => ?_
 show CJ _ _ _ _ _ _ (_ :: _ :: F)
 unfold slices_IndexFunc_record__disk_Array_Load_1 at h
 refine CJ_pure (len_of rp0 del0) fun hlen1 => sR <| oA rfl rfl <| nT <| CJ_seq <| sR <| oM rfl rfl <| oV (V_len rfl foc0 rp0 Try.runUnderlying120) rfl <| oM rfl rfl <| nT ?_
 obtain ⟨y4, hl2, hK3⟩ := seq_e h
 refine CJ_cutT (X := Unit) [4, 5, 8, 9, 10, 11, 12, 13, 14, 15, 16, 17, 18] (fun _ => ([] : Slots)) (fun _ R => R) (fun _ => y4 = .inl ()) Dels.nil ?_ ?_
 ·
  refine CJ_block <| CJ_loopR (X := Nat × Nat) [4, 5, 8, 9, 10, 11, 12, 13, 14, 15, 16, 17, 18] (fun ⟨n, x6⟩ => ([(8, .int .i64 (((x6 : Nat) : Int)))] : Slots)) (fun ⟨n, x6⟩ R => R) (fun ⟨n, x6⟩ => slices_IndexFunc_record__disk_Array_Load_1_l1 p0 p1_c0 n x6 = some y4) (fun ⟨n, x6⟩ => n) ⟨FUEL, 0⟩ ?_ ?_ eR ?_
  · exact hl2
  · exact ⟨rfl, True.intro⟩
  ·
   rintro ⟨n, x6⟩ h
   cases n with
   | zero => exact none_e h
   | succ n => ?_
   replace h : slices_IndexFunc_record__disk_Array_Load_1_l1_b p0 p1_c0 (slices_IndexFunc_record__disk_Array_Load_1_l1 p0 p1_c0 n) x6 = some y4 := h
   unfold slices_IndexFunc_record__disk_Array_Load_1_l1_b at h
   show CJ _ _ _ _ _ (([(8, .int .i64 (((x6 : Nat) : Int)))] : Slots) ++ forget _ _) (_)
   refine sR <| oP (P_lss (a := ((x6 : Nat) : Int)) (b := ((p0.length : Nat) : Int)) rfl rfl) rfl <| nT <| CJ_seq <| CJ_condP rfl bT_dec (fun hg1 => ?_) (fun hg1 => ?_)
   ·
    replace h := ite_t hg1 h
    refine kT <| CJ_seq <| CJ_block <| sR <| oM rfl rfl <| oA rfl rfl <| nT <| sR <| oM rfl rfl <| oM rfl rfl <| oM rfl rfl <| oV (V_index (i := x6) rfl rfl rfl (by omega) foc0 rp0 Try.runUnderlying120 Try.sizeOf126) rfl <| oV (V_loadEN rfl rfl (by omega) foc0 rp0 rfl rfl Try.isAgg126 Try.sizeOf126) rfl ?_
    obtain ⟨r7, hr8, h⟩ := bind_e h
    refine oO <| O_callV rfl rfl (L_disk_Array_Load_1 hr8) Try.call79 (Dels.cons del1 Dels.nil) rfl fun _ _ => nT <| CJ_condP rfl Iff.rfl (fun hg2 => ?_) (fun hg2 => ?_)
    ·
     replace h := ite_t hg2 h
     refine sR <| oM rfl rfl <| oA rfl rfl <| nT <| CJ_ret <| QJ_block_ret <| QJ_then_ret <| QJ_round_ret <| QJ_block_ret <| QJ_then_ret ?_
     have hE := Option.some.inj h
     replace hE := seq_inr hK3 hE.symm
     subst hE
     exact fE (res1 Try.results94 rfl) () (t1_ eR)
    ·
     replace h := ite_f hg2 h
     exact CJ_skip <| QJ_block_normal <| QJ_then <| CJ_region <| oP (PJ_eq (P_add (a := ((x6 : Nat) : Int)) (b := (1 : Int)) rfl rfl (by omega)) rfl) rfl <| oM rfl rfl <| RJ_nil <| nR ⟨n, (x6 + 1)⟩ h ⟨rfl, True.intro⟩ (t1_ eR)
   ·
    replace h := ite_f hg1 h
    exact CJ_exit <| QJ_then_exit <| QJ_round_exit <| QJ_block_here <| cR () (Option.some.inj h).symm True.intro eR
 ·
  rintro _ hy9
  replace h := seq_inl hK3 hy9
  show CJ _ _ _ _ _ (([] : Slots) ++ forget _ _) (_)
  refine sR <| oA rfl rfl <| nT <| CJ_ret ?_
  cases h
  exact fE (res1 Try.results94 rfl) () eR
def disk_deleteRecs_l1_b (p1_c0 : Int) (rec : (List Rec) → Int → Int → Option (Int × (List Rec))) (x10 : List Rec) (x11 : Int) (x12 : Int) : Option (Int × (List Rec)) :=
  if (x12 < ((x10.length : Nat) : Int)) then
    grd (decide (0 ≤ x12 ∧ x12 < (x10.length : Int))) <|
    Option.bind (disk_Array_Load_1 ((x10.getD ((x12).toNat) r0)) p1_c0) fun r15 =>
    if (¬ r15 = true) then
      grd (decide (0 ≤ x11 ∧ x11 < (x10.length : Int))) <|
      grd (inI64 ((x11 + (1 : Int)))) <|
      grd (inI64 ((x12 + (1 : Int)))) <|
      rec ((x10.set ((x11).toNat) ((x10.getD ((x12).toNat) r0)))) ((x11 + (1 : Int))) ((x12 + (1 : Int)))
    else
      grd (inI64 ((x12 + (1 : Int)))) <|
      rec x10 x11 ((x12 + (1 : Int)))
  else
    some (x11, x10)
def disk_deleteRecs_l1 (p1_c0 : Int) : Nat → (List Rec) → Int → Int → Option (Int × (List Rec))
  | 0, _, _, _ => none
  | n + 1, x10, x11, x12 => disk_deleteRecs_l1_b p1_c0 (disk_deleteRecs_l1 p1_c0 n) x10 x11 x12
def disk_deleteRecs (p0 : List Rec) (p1_c0 : Int) : Option ((List Rec)) :=
  Option.bind (slices_IndexFunc_record__disk_Array_Load_1 p0 p1_c0) fun r2 =>
  if (r2 = (-1 : Int)) then
    some p0
  else
    grd (inI64 ((r2 + (1 : Int)))) <|
    Option.bind (disk_deleteRecs_l1 p1_c0 FUEL p0 r2 ((r2 + (1 : Int)))) fun a9 =>
    grd (decide (0 ≤ a9.1 ∧ (a9.1).toNat ≤ a9.2.length ∧ a9.2.length ≤ a9.2.length)) <|
    grd (decide (0 ≤ a9.1 ∧ 0 ≤ (a9.1).toNat ∧ (a9.1).toNat ≤ ((a9.2.take ((a9.1).toNat) ++ List.replicate (a9.2.length - ((a9.1).toNat)) tyRec.dflt)).length)) <|
    some ((((a9.2.take ((a9.1).toNat) ++ List.replicate (a9.2.length - ((a9.1).toNat)) tyRec.dflt)).take ((a9.1).toNat)))
theorem L_disk_deleteRecs {W : World} {hdp0 : Sl3} {bp1_c0 : Nat} {p0 : List Rec} {p1_c0 : Int} {r : (List Rec)} (h : disk_deleteRecs p0 p1_c0 = some r) :
    CSpec Try.prog W 78 [hdp0.v, .func (.func 79) #[] #[ptr bp1_c0 0]] [sl tyRec hdp0.v p0, blk bp1_c0 3 [.int .i64 p1_c0]] (fun x : Sl3 => x.v) (fun _ => True) (fun x F => blk bp1_c0 3 [.int .i64 p1_c0] :: sl tyRec x.v r :: F) := by
 refine CSpec.of_body Try.func78 rfl Try.ntmps78 rfl fun F => ?_
 show CJ _ _ _ _ _ _ (_ :: _ :: F)
 unfold disk_deleteRecs at h
 refine lC del0 fun hlen1 => sR <| oA rfl rfl <| nT <| sR <| oM rfl rfl <| oM rfl rfl ?_
 obtain ⟨r2, hr3, h⟩ := bind_e h
 refine oO <| O_call (L_slices_IndexFunc_record__disk_Array_Load_1 (Reads.sl _ _ _) hr3) rfl Try.call94 (Dels.cons del0 (Dels.cons del0 Dels.nil)) rfl fun _ _ => oA rfl rfl <| nT <| CJ_seq <| sR <| oM rfl rfl <| oP (P_eql (a := r2) (b := (-1 : Int)) rfl rfl) rfl <| nT <| CJ_condP rfl bT_dec (fun hg1 => ?_) (fun hg1 => ?_)
 ·
  replace h := ite_t hg1 h
  refine sR <| oM rfl rfl <| oA rfl rfl <| nT <| CJ_ret <| QJ_then_ret ?_
  cases h
  exact fE (res1 Try.results78 rfl) hdp0 (t1_ eR)
 ·
  replace h := ite_f hg1 h
  refine kT <| CJ_seq <| sR <| oM rfl rfl ?_
  obtain ⟨hg2, h⟩ := grd_Ie h
  refine oP (P_add (a := r2) (b := (1 : Int)) rfl rfl hg2) rfl <| oA rfl rfl <| nT ?_
  obtain ⟨y6, hl4, hK5⟩ := bind_c h
  refine CJ_cutT (X := Int × (List Rec)) [5, 6, 7, 16, 17, 18, 19, 20, 21, 22, 23, 24, 25, 26, 27, 28, 29, 30, 31, 32, 33, 34, 35] (fun a9 => ([(5, .int .i64 a9.1)] : Slots)) (fun a9 R => sl tyRec hdp0.v a9.2 :: R) (fun a9 => y6 = a9) (Dels.cons del0 Dels.nil) ?_ ?_
  ·
   refine CJ_block <| CJ_loopR (X := Nat × (List Rec) × Int × Int) [5, 6, 7, 16, 17, 18, 19, 20, 21, 22, 23, 24, 25, 26, 27, 28, 29, 30, 31, 32, 33, 34, 35] (fun ⟨n, x10, x11, x12⟩ => ([(5, .int .i64 x11), (6, .int .i64 x12)] : Slots)) (fun ⟨n, x10, x11, x12⟩ R => sl tyRec hdp0.v x10 :: R) (fun ⟨n, x10, x11, x12⟩ => disk_deleteRecs_l1 p1_c0 n x10 x11 x12 = some y6) (fun ⟨n, x10, x11, x12⟩ => n) ⟨FUEL, p0, r2, (r2 + (1 : Int))⟩ ?_ ?_ eR ?_
   · exact hl4
   · exact ⟨rfl, rfl, True.intro⟩
   ·
    rintro ⟨n, x10, x11, x12⟩ h
    cases n with
    | zero => exact none_e h
    | succ n => ?_
    replace h : disk_deleteRecs_l1_b p1_c0 (disk_deleteRecs_l1 p1_c0 n) x10 x11 x12 = some y6 := h
    unfold disk_deleteRecs_l1_b at h
    show CJ _ _ _ _ _ (([(5, .int .i64 x11), (6, .int .i64 x12)] : Slots) ++ forget _ _) (sl tyRec hdp0.v x10 :: _)
    refine lC del0 fun hlen13 => CJ_seq <| sR <| oM rfl rfl <| oM rfl rfl <| oV (V_len rfl foc0 (Reads.sl _ _ _) Try.runUnderlying120) rfl <| oP (P_lss (a := x12) (b := ((x10.length : Nat) : Int)) rfl rfl) rfl <| nT <| CJ_condP rfl bT_dec (fun hg3 => ?_) (fun hg3 => ?_)
    ·
     replace h := ite_t hg3 h
     refine kT <| CJ_seq <| CJ_block <| sR <| oM rfl rfl <| oM rfl rfl ?_
     obtain ⟨hg4, h⟩ := grd_de h
     refine oV (V_index (i := (x12).toNat) rfl rfl (Int.toNat_of_nonneg (hg4.1)).symm (by omega) foc0 (Reads.sl _ _ _) Try.runUnderlying120 Try.sizeOf126) rfl <| oV (V_loadEN rfl rfl (by omega) foc0 (Reads.sl _ _ _) rfl rfl Try.isAgg126 Try.sizeOf126) rfl <| oO <| O_alloc Try.zeroValue126 rfl rfl fun b14 => oO <| O_storeN rfl rfl foc0 Try.sizeOf126 rfl rfl rfl <| nT <| sR <| oM rfl rfl <| oV (V_loadN rfl foc0 Try.isAgg126 Try.sizeOf126 rfl rfl) rfl ?_
     obtain ⟨r15, hr16, h⟩ := bind_e h
     refine oO <| O_callV rfl rfl (L_disk_Array_Load_1 hr16) Try.call79 (Dels.cons del2 Dels.nil) rfl fun _ _ => oP (P_not rfl) rfl <| nT <| CJ_condP rfl (bT_not Iff.rfl) (fun hg5 => ?_) (fun hg5 => ?_)
     ·
      replace h := ite_t hg5 h
      refine sR <| oM rfl rfl <| oM rfl rfl <| oV (V_loadN rfl foc1 Try.isAgg126 Try.sizeOf126 rfl rfl) rfl ?_
      obtain ⟨hg6, h⟩ := grd_de h
      refine oV (V_index (i := (x11).toNat) rfl rfl (Int.toNat_of_nonneg (hg6.1)).symm (by omega) foc2 (Reads.sl _ _ _) Try.runUnderlying120 Try.sizeOf126) rfl <| oO <| O_storeEN (x' := (x10.getD ((x12).toNat) r0)) rfl rfl rfl (by omega) foc2 rfl Try.sizeOf126 <| nT <| CJ_region <| oM rfl rfl ?_
      obtain ⟨hg7, h⟩ := grd_Ie h
      refine oP (P_add (a := x11) (b := (1 : Int)) rfl rfl hg7) rfl <| oA rfl rfl <| RJ_nil <| QJ_block_normal <| QJ_then <| CJ_region <| oM rfl rfl ?_
      obtain ⟨hg8, h⟩ := grd_Ie h
      exact oP (P_add (a := x12) (b := (1 : Int)) rfl rfl hg8) rfl <| oA rfl rfl <| RJ_nil <| nR ⟨n, (x10.set ((x11).toNat) ((x10.getD ((x12).toNat) r0))), (x11 + (1 : Int)), (x12 + (1 : Int))⟩ h ⟨rfl, rfl, True.intro⟩ (t2_ (t0_ (eD eR)))
     ·
      replace h := ite_f hg5 h
      refine CJ_skip <| QJ_block_normal <| QJ_then <| CJ_region <| oM rfl rfl ?_
      obtain ⟨hg9, h⟩ := grd_Ie h
      exact oP (P_add (a := x12) (b := (1 : Int)) rfl rfl hg9) rfl <| oA rfl rfl <| RJ_nil <| nR ⟨n, x10, x11, (x12 + (1 : Int))⟩ h ⟨rfl, rfl, True.intro⟩ (t2_ (t0_ (eD eR)))
    ·
     replace h := ite_f hg3 h
     exact CJ_exit <| QJ_then_exit <| QJ_round_exit <| QJ_block_here <| cR (x11, x10) (Option.some.inj h).symm ⟨rfl, True.intro⟩ eR
  ·
   rintro a9 hy17
   replace h := bindK_at hK5 hy17
   show CJ _ _ _ _ _ (([(5, .int .i64 a9.1)] : Slots) ++ forget _ _) (sl tyRec hdp0.v a9.2 :: _)
   refine lC del0 fun hlen18 => sR <| oM rfl rfl <| oM rfl rfl ?_
   obtain ⟨hg10, h⟩ := grd_de h
   refine oV (V_slice (l := (a9.1).toNat) (h := a9.2.length) rfl foc0 (Reads.sl _ _ _) ⟨_, by rw [Int.toNat_of_nonneg (by omega)]; exact rfl⟩ rfl (by omega) (by omega) Try.underlying120 Try.sizeOf126) rfl <| oO <| O_clear (l := (a9.1).toNat) rfl (by omega) foc0 Try.underlying120 Try.zeroValue126 rfl <| nT <| sR <| oM rfl rfl <| oM rfl rfl ?_
   obtain ⟨hg11, h⟩ := grd_de h
   refine oV (V_slice (l := 0) (h := (a9.1).toNat) rfl foc0 (Reads.sl _ _ _) rfl ⟨_, by rw [Int.toNat_of_nonneg (by omega)]; exact rfl⟩ (by omega) (by omega) Try.underlying120 Try.sizeOf126) rfl <| oA rfl rfl <| nT <| CJ_ret <| QJ_entX (Ent.transX (t0_ eR) (sl_prefix (h := (a9.1).toNat) (by omega))) fun hd19 => QJ_pur fun e20 => ?_
   rw [e20]
   cases h
   exact fE (res1 Try.results78 rfl) ⟨hd19.1, (((a9.2.take ((a9.1).toNat) ++ List.replicate (a9.2.length - ((a9.1).toNat)) tyRec.dflt)).take ((a9.1).toNat)).length, hd19.2⟩ (t1_ eR)
theorem getD_lt {α : Type} {l : List α} {i : Nat} {d : α} (h : i < l.length) : l.getD i d = l[i] := by simp [List.getD, h]
theorem idxRec_eq (p : List Rec) (c : Int) (hl : p.length ≤ 1000000000) : ∀ n k, p.length < n + k → k ≤ p.length → (∀ j, j < k → ¬ ((p.getD j r0).d : Int) = c) →
    (slices_IndexFunc_record__disk_Array_Load_1_l1 p c n k = some (.inl ()) ∧ ∀ j, j < p.length → ¬ ((p.getD j r0).d : Int) = c) ∨
    ∃ i, i < p.length ∧ slices_IndexFunc_record__disk_Array_Load_1_l1 p c n k = some (.inr (i : Int)) ∧ ((p.getD i r0).d : Int) = c ∧ ∀ j, j < i → ¬ ((p.getD j r0).d : Int) = c := by
  intro n
  induction n with
  | zero => intro k h1 h2; omega
  | succ n ih =>
    intro k h1 h2 h3
    simp only [slices_IndexFunc_record__disk_Array_Load_1_l1, slices_IndexFunc_record__disk_Array_Load_1_l1_b, disk_Array_Load_1, Option.bind_some, grd]
    by_cases hk : k < p.length
    · have e1 : ((k : Int) < (p.length : Int)) := by omega
      rw [if_pos e1]
      by_cases hd : ((p.getD k r0).d : Int) = c
      · refine .inr ⟨k, hk, ?_, hd, h3⟩
        simp only [hd, decide_true, if_true]
      · simp only [hd, decide_false, Bool.false_eq_true, if_false]
        refine ih (k + 1) (by omega) hk fun j hj => ?_
        rcases Nat.lt_or_ge j k with h | h
        · exact h3 j h
        · obtain rfl : j = k := by omega
          exact hd
    · have e1 : ¬ ((k : Int) < (p.length : Int)) := by omega
      rw [if_neg e1]
      exact .inl ⟨rfl, fun j hj => h3 j (by omega)⟩
def keepR (c : Int) (r : Rec) : Bool := !decide ((r.d : Int) = c)
theorem delLoop_eq (p : List Rec) (c : Int) (hl : p.length ≤ 1000000000) : ∀ n (xs : List Rec) (i j : Nat), p.length < n + j → j ≤ p.length → i < j → xs.length = p.length → xs.take i = (p.take j).filter (keepR c) → xs.drop j = p.drop j →
    ∃ ys : List Rec, ∃ i' : Nat, disk_deleteRecs_l1 c n xs (i : Int) (j : Int) = some ((i' : Int), ys) ∧ ys.length = p.length ∧ i' ≤ p.length ∧ ys.take i' = p.filter (keepR c) := by
  intro n
  induction n with
  | zero => intro xs i j h1 h2; omega
  | succ n ih =>
    intro xs i j h1 h2 h3 h4 h5 h6
    simp only [disk_deleteRecs_l1, disk_deleteRecs_l1_b, disk_Array_Load_1, Option.bind_some, grd, Int.toNat_natCast]
    have hi64 : ∀ k : Nat, k ≤ p.length → inI64 ((k : Int) + 1) = true := fun k hk => by exact inI64_iff.2 ⟨by omega, by omega⟩
    by_cases hj : j < p.length
    · rw [if_pos (by omega)]
      have hx : xs.getD j r0 = p.getD j r0 := by
        have := congrArg (fun l => l.getD 0 r0) h6
        simpa [List.getD] using this
      have ht : p.take (j + 1) = p.take j ++ [p.getD j r0] := by rw [List.take_succ_eq_append_getElem hj, getD_lt hj]
      have hd : xs.drop (j + 1) = p.drop (j + 1) := by
        have := congrArg (List.drop 1) h6
        simpa [List.drop_drop] using this
      by_cases hc : ((p.getD j r0).d : Int) = c
      · simp only [hx, hc, decide_true, not_true_eq_false, if_false, hi64 j (by omega), if_true, cond_true]
        rw [show decide (0 ≤ (j : Int) ∧ (j : Int) < (xs.length : Int)) = true from decide_eq_true (by omega)]
        refine ih xs i (j + 1) (by omega) hj (by omega) h4 ?_ hd
        have hk : ¬ keepR c (p.getD j r0) = true := by unfold keepR; simp only [hc, decide_true]; decide
        rw [ht, List.filter_append, h5, List.filter_cons_of_neg hk, List.filter_nil, List.append_nil]
      · simp only [hx, hc, decide_false, Bool.false_eq_true, not_false_eq_true, if_true, hi64 j (by omega), hi64 i (by omega), cond_true]
        rw [show decide (0 ≤ (j : Int) ∧ (j : Int) < (xs.length : Int)) = true from decide_eq_true (by omega), show decide (0 ≤ (i : Int) ∧ (i : Int) < (xs.length : Int)) = true from decide_eq_true (by omega)]
        refine ih (xs.set i (p.getD j r0)) (i + 1) (j + 1) (by omega) hj (by omega) (by simpa using h4) ?_ ?_
        · rw [ht, List.filter_append, ← h5]
          have hk : keepR c (p.getD j r0) = true := by unfold keepR; simp only [hc, decide_false]; decide
          rw [List.take_succ_eq_append_getElem (by simp; omega), List.take_set_of_le (Nat.le_refl _), List.getElem_set_self, List.filter_cons_of_pos hk, List.filter_nil]
        · rw [List.drop_set_of_lt (by omega)]; exact hd
    · rw [if_neg (by omega)]
      obtain rfl : j = p.length := by omega
      exact ⟨xs, i, rfl, h4, by omega, by rw [h5, List.take_length]⟩
theorem deleteRecs_eq {p : List Rec} {c : Int} (hl : p.length ≤ 1000000000) : disk_deleteRecs p c = some (p.filter fun r => !decide ((r.d : Int) = c)) := by
  unfold disk_deleteRecs slices_IndexFunc_record__disk_Array_Load_1
  have hF := fuel_big
  generalize FUEL = N at hF ⊢
  rcases idxRec_eq p c hl N 0 (by omega) (Nat.zero_le _) (fun j hj => by omega) with ⟨h1, h2⟩ | ⟨i, h1, h2, h3, h4⟩
  · rw [h1]
    simp only [seqO, Option.bind_some, Sum.elim_inl]
    rw [if_pos trivial]
    refine congrArg some (List.filter_eq_self.2 fun r hr => ?_).symm
    obtain ⟨j, hj, rfl⟩ := List.getElem_of_mem hr
    have := h2 j hj
    rw [getD_lt hj] at this
    simpa using this
  · rw [h2]
    simp only [seqO, Option.bind_some, Sum.elim_inr]
    rw [if_neg (by omega)]
    have hf : p.take i = (p.take (i + 1)).filter (keepR c) := by
      rw [List.take_succ_eq_append_getElem h1, List.filter_append]
      have e1 : (p.take i).filter (keepR c) = p.take i := List.filter_eq_self.2 fun r hr => by
        obtain ⟨j, hj, rfl⟩ := List.getElem_of_mem hr
        have hj' : j < i := by simp at hj; omega
        have := h4 j hj'
        rw [getD_lt (by omega)] at this
        simpa [keepR] using this
      rw [e1]
      rw [getD_lt h1] at h3
      simp [keepR, h3]
    obtain ⟨ys, i', h5, h6, h7, h8⟩ := delLoop_eq p c hl N p i (i + 1) (by omega) (by omega) (by omega) rfl hf rfl
    have e2 : ((i : Int) + 1) = ((i + 1 : Nat) : Int) := by omega
    rw [grd_pos (show inI64 ((i : Int) + 1) = true by exact inI64_iff.2 ⟨by omega, by omega⟩), e2, h5]
    simp only [Option.bind_some, Int.toNat_natCast]
    rw [grd_d (by omega), grd_d (by simp; omega)]
    refine congrArg some ?_
    rw [List.take_append_of_le_length (by simp; omega), List.take_take, Nat.min_self, h8]
    rfl
theorem c_DeleteRec {W : World} {v : Sl3} {b : Nat} {p : List Rec} {d : Int} (hl : p.length ≤ 1000000000) (TI : Nat := 3) :
    CSpec Try.prog W 78 [v.v, .func (.func 79) #[] #[ptr b 0]] [sl tyRec v.v p, blk b 3 [.int .i64 d]] (fun x : Sl3 => x.v) (fun _ => True) (fun x F => blk b 3 [.int .i64 d] :: sl tyRec x.v (p.filter fun r => !decide ((r.d : Int) = d)) :: F) :=
  L_disk_deleteRecs (deleteRecs_eq hl)
end Go.Proofs
set_option linter.unusedSimpArgs false
set_option maxRecDepth 20000
namespace Go.Proofs
open Go.VG
theorem CLoad_bld_124_0_1 (v0 : Int) (v1 : Int) : ∀ w, (Instr.build 124 (#[(0, .int .i64 v0), (1, .int .i64 v1)] : Array (Nat × Value))).run Try.prog w = .ok (.agg #[.int .i64 v0, .int .i64 v1]) w := fun w => by kernel_rfl
def ldC (s : ArrS) (d : Int) (im : List UInt64) : Int := if inR s d then (if im.length = (s.drv.getD d.toNat d0).now.length then 0 else 3) else 1
def delUpTo (m : List ((Int × Int) × Unit)) (d : Int) (k : Nat) : List ((Int × Int) × Unit) := (List.range k).foldl (fun m (j : Nat) => delM m (d, (j : Int))) m
theorem delUpTo_step (m : List ((Int × Int) × Unit)) (d : Int) (k : Nat) : delM (delUpTo m d k) (d, (k : Int)) = delUpTo m d (k + 1) := by
  simp [delUpTo, List.range_succ, List.foldl_append]
def ldS (s : ArrS) (d : Int) (im : List UInt64) : ArrS :=
  if ldC s d im = 0 then { s with drv := s.drv.set d.toNat ⟨im, im, (s.drv.getD d.toNat d0).miss⟩, bad := delUpTo s.bad d im.length, log := s.log.filter fun r => !decide ((r.d : Int) = d) } else s
theorem copied_all {xs ys : List UInt64} (h : ys.length = xs.length) : copied xs ys = ys := by
  unfold copied; rw [h, Nat.min_self, ← h, List.take_length, List.drop_of_length_le (by omega), List.append_nil]
theorem wf_load {s : ArrS} {i : Nat} {im : List UInt64} {m : List ((Int × Int) × Unit)} (hw : ArrWF s) (hi : i < s.drv.length) (hl : im.length = (s.drv.getD i d0).now.length) :
    ArrWF { s with drv := s.drv.set i ⟨im, im, (s.drv.getD i d0).miss⟩, bad := m, log := s.log.filter fun r => !decide ((r.d : Int) = (i : Int)) } := by
  have hsz : ∀ x, ArrS.size { s with drv := s.drv.set i ⟨im, im, (s.drv.getD i d0).miss⟩, bad := m, log := s.log.filter fun r => !decide ((r.d : Int) = (i : Int)) } x = s.size x := fun x => by
    show ((s.drv.set i _).getD x d0).now.length = (s.drv.getD x d0).now.length
    simp only [List.getD, List.getElem?_set]
    by_cases hx : i = x
    · subst hx; simp [hi, List.getD] at hl ⊢; exact hl
    · simp [hx]
  have hsub : ∀ r ∈ s.log.filter (fun r => !decide ((r.d : Int) = (i : Int))), r.d < s.drv.length ∧ r.a < s.size r.d := fun r hr => by
    obtain ⟨j, hj, rfl⟩ := List.getElem_of_mem (List.mem_filter.1 hr).1
    have := hw.log j hj
    simpa [List.getD, hj] using this
  refine { cnt := by simpa using hw.cnt, same := fun j hj => ?_, log := fun j hj => ?_, len := Nat.le_trans (List.length_filter_le _ _) hw.len, fuse := hw.fuse }
  · have hj' : j < s.drv.length := by simpa using hj
    have := hw.same j hj'
    show ((s.drv.set i _).getD j d0).now.length = ((s.drv.set i _).getD j d0).dur.length ∧ ((s.drv.set i _).getD j d0).now.length ≤ 65536
    simp only [List.getD, List.getElem?_set] at this hl ⊢
    by_cases hx : i = j
    · subst hx; simp [hi] at this hl ⊢; omega
    · simpa [hx] using this
  · rw [hsz]
    have := hsub _ (List.getElem_mem hj)
    have e : ∀ (l : List Rec) (h : j < l.length), l.getD j r0 = l[j] := fun l h => by simp [List.getD, h]
    rw [e _ hj]
    exact ⟨by simpa using this.1, this.2⟩
theorem c_LoadD {W : World} {b : Nat} {s : ArrS} {d : Int} {A : HP} {v : Value} {im : List UInt64} (hA : Reads A tyU v im) (hW : s.writes ≤ 1000000000) :
    CSpec Try.prog W 53 [ptr b 0, .int .i64 d, v] [Arr b s, A] (fun _ : Unit => .int .i64 (ldC s d im)) (fun _ => True) (fun _ F => Arr b (ldS s d im) :: A :: F) := by
 refine CSpec.of_body Try.func53 rfl Try.ntmps53 rfl fun F => ?_
 show CJ _ _ _ _ _ _ (_ :: _ :: F)
 refine CJ_entX (Ent.transX (t0_ eR) Arr_open) fun ⟨dv, lv, mr, l⟩ => CJ_pur fun hX => ?_
 obtain ⟨hl, hm, hw⟩ : l.map Prod.snd = (s).drv ∧ (∀ p ∈ l, p.1.miss = p.2.miss) ∧ ArrWF (s) := hX
 show CJ _ _ _ _ _ _ (blk b 122 [Sl3.v dv, .map (some mr), Sl3.v lv, _, _, _] :: sl tyDrv (Sl3.v dv) (DL.hs l) :: DOwn l :: sl tyRec (Sl3.v lv) _ :: mpc mBad mr _ :: _)
 have hn := hs_len hl
 have hwF := hw.fuse
 have hwL := hw.len
 have hwC := hw.cnt
 refine sR <| oO <| O_box rfl rfl rfl fun b1 => oA rfl rfl <| nT <| CJ_seq <| CJ_seq <| AJ_startH 0 (by kernel_rfl) rfl <| aV 0 1 rfl rfl (GY_none rfl) (t0_ (t0_ (t0_ (t0_ (t0_ (t0_ (t0_ eR))))))) (V_load rfl foc0 rfl Try.isAgg3) rfl <| aN 1 3 rfl rfl (P_lss rfl rfl) rfl <| aN 2 7 rfl rfl (P_move rfl) rfl ?_
 first | (refine AJ_splitD 11 rfl (fun hg1B hg1 => ?_) (fun hg1B hg1 => ?_)) | (refine AJ_splitN 11 rfl (fun hg1B hg1 => ?_) (fun hg1B hg1 => ?_)) | (refine AJ_split 11 rfl (fun hg1B => ?_) (fun hg1B => ?_))
 ·
  refine aS 3 15 rfl rfl (GY_no rfl rfl rfl hg1B) rfl <| aS 4 31 rfl rfl (GY_no rfl rfl rfl hg1B) rfl <| aS 5 63 rfl rfl (GY_no rfl rfl rfl hg1B) rfl <| aS 6 127 rfl rfl (GY_no rfl rfl rfl hg1B) rfl <| aS 7 255 rfl rfl (GY_no rfl rfl rfl hg1B) rfl <| aS 8 511 rfl rfl (GY_no rfl rfl rfl hg1B) rfl <| aS 9 1023 rfl rfl (GY_no rfl rfl rfl hg1B) rfl <| aN 10 2047 rfl rfl (P_pickT rfl hg1B rfl) rfl <| aD <| CJ_condT rfl rfl <| sR <| oA rfl rfl <| nT <| CJ_ret <| QJ_then_ret <| QJ_end (res1 Try.results53 rfl) ?_
  have hR : ¬ inR s d := fun h => by unfold inR at h; omega
  have hC : ldC s d im = 1 := if_neg hR
  rw [show ldS s d im = s from if_neg (by rw [hC]; decide)]
  refine CSpec.close () ?_ ?_ (Ent.trans (Ent.trans (t1_ (t1_ (t1_ (t1_ (t1_ eR))))) (Arr_close hl hm hw)) (t0_ (t1_ (eD eR))))
  · exact iv hC.symm
  · trivial
 ·
  refine aV 3 15 rfl rfl (GY_yes rfl rfl rfl hg1B) (t0_ (t0_ (t0_ (t0_ (t0_ (t0_ (t0_ eR))))))) (V_load rfl foc0 rfl Try.isAgg3) rfl <| aP 4 31 rfl rfl (GY_yes rfl rfl rfl hg1B) (P_move rfl) rfl <| aP 5 63 rfl rfl (GY_yes rfl rfl rfl hg1B) (P_nilCheck rfl) rfl <| aP 6 127 rfl rfl (GY_yes rfl rfl rfl hg1B) (P_fieldAddr rfl ⟨_, _, _, Try.runUnderlying122, rfl, rfl, Try.sizeOf118, rfl⟩) rfl <| aV 7 255 rfl rfl (GY_yes rfl rfl rfl hg1B) (t0_ (t0_ (t0_ (t0_ (t0_ (t0_ (t0_ eR))))))) (V_load rfl foc1 rfl Try.isAgg118) rfl <| aV 8 511 rfl rfl (GY_yes rfl rfl rfl hg1B) (t0_ (t0_ (t0_ (t0_ (t0_ (t0_ (t0_ eR))))))) (V_len rfl foc2 (Reads.sl _ _ _) Try.runUnderlying118) rfl <| aP 9 1023 rfl rfl (GY_yes rfl rfl rfl hg1B) (P_geq rfl rfl) rfl <| aN 10 2047 rfl rfl (P_pickF rfl hg1B rfl) rfl <| aD ?_
  first | (refine CJ_condD rfl (fun hg2 => ?_) (fun hg2 => ?_)) | (refine CJ_condN rfl (fun hg2 => ?_) (fun hg2 => ?_)) | (refine CJ_cond rfl (fun hg2 => ?_) (fun hg2 => ?_))
  ·
   refine sR <| oA rfl rfl <| nT <| CJ_ret <| QJ_then_ret <| QJ_end (res1 Try.results53 rfl) ?_
   have hR : ¬ inR s d := fun h => by unfold inR at h; omega
   have hC : ldC s d im = 1 := if_neg hR
   rw [show ldS s d im = s from if_neg (by rw [hC]; decide)]
   refine CSpec.close () ?_ ?_ (Ent.trans (Ent.trans (t1_ (t1_ (t1_ (t1_ (t1_ eR))))) (Arr_close hl hm hw)) (t0_ (t1_ (eD eR))))
   · exact iv hC.symm
   · trivial
  ·
   have hR : inR s d := ⟨by omega, by omega⟩
   obtain ⟨i, rfl⟩ := Int.eq_ofNat_of_zero_le hR.1
   have hsm := hw.same i (by omega)
   refine kT <| CJ_seq <| CJ_ent (Ent.trans (t3_ eR) (DOwn_open i hl (by omega))) <| AJ_startH 256 (by kernel_rfl) rfl <| aN 0 1 rfl rfl (P_move rfl) rfl <| aN 1 3 rfl rfl (P_nilCheck rfl) rfl <| aN 2 7 rfl rfl (P_fieldAddr rfl ⟨_, _, _, Try.runUnderlying122, rfl, rfl, Try.sizeOf118, rfl⟩) rfl <| aV 3 15 rfl rfl (GY_none rfl) (t0_ (t0_ (t0_ (t0_ (t0_ (t0_ (t0_ (t0_ (t0_ eR))))))))) (V_load rfl foc4 rfl Try.isAgg118) rfl <| aV 4 31 rfl rfl (GY_none rfl) (t0_ (t0_ (t0_ (t0_ (t0_ (t0_ (t0_ (t0_ (t0_ eR))))))))) (V_load rfl foc3 rfl Try.isAgg3) rfl ?_
   first | (refine AJ_takeV 5 63 rfl (by kernel_rfl) rfl (by kernel_rfl) (by kernel_rfl) (GY_none rfl) (t0_ (t0_ (t0_ (t0_ (t0_ (t0_ (t0_ (t0_ (t0_ eR))))))))) (V_index rfl rfl rfl (by omega) foc5 (Reads.sl _ _ _) Try.runUnderlying118 Try.sizeOf128) rfl (fun _ _ _ _ h => h) ?_) | (refine AJ_takeV 5 63 rfl (by kernel_rfl) rfl (by kernel_rfl) (by kernel_rfl) (GY_none rfl) (t0_ (t0_ (t0_ (t0_ (t0_ (t0_ (t0_ (t0_ (t0_ eR))))))))) (V_index rfl rfl (Int.toNat_of_nonneg (by omega)).symm (by omega) foc5 (Reads.sl _ _ _) Try.runUnderlying118 Try.sizeOf128) rfl (fun _ _ _ _ h => h) ?_)
   refine aV 6 127 rfl rfl (GY_none rfl) (t0_ (t0_ (t0_ (t0_ (t0_ (t0_ (t0_ (t0_ (t0_ eR))))))))) (V_loadEN rfl rfl (by omega) foc5 (Reads.sl _ _ _) rfl rfl Try.isAgg128 Try.sizeOf128) rfl <| AJ_op 7 255 rfl (by kernel_rfl) rfl (GY_none rfl) <| O_alloc Try.zeroValue128 rfl rfl fun b2 => ⟨fun _ => (t1_ (t1_ (t1_ (t1_ (t1_ (t1_ (t1_ (t1_ (t1_ (eD eR)))))))))), ?_⟩
   refine AJ_op 8 511 rfl (by kernel_rfl) rfl (GY_none rfl) <| O_storeN rfl rfl foc0 Try.sizeOf128 rfl rfl rfl <| ⟨fun h => absurd h (by decide), ?_⟩
   refine aD <| CJ_seq <| sR <| oM rfl rfl <| oV (V_len rfl foc9 hA Try.runUnderlying29) rfl <| oP (P_fieldAddr rfl ⟨_, _, _, Try.runUnderlying128, rfl, rfl, Try.sizeOf29, rfl⟩) rfl <| oV (V_load rfl foc0 rfl Try.isAgg29) rfl <| oV (V_len rfl foc1 (Reads.sl _ _ _) Try.runUnderlying29) rfl <| oP (P_neq rfl rfl) rfl <| nT ?_
   first | (refine CJ_condD rfl (fun hg3 => ?_) (fun hg3 => ?_)) | (refine CJ_condN rfl (fun hg3 => ?_) (fun hg3 => ?_)) | (refine CJ_cond rfl (fun hg3 => ?_) (fun hg3 => ?_))
   ·
    refine sR <| oA rfl rfl <| nT <| CJ_ret <| QJ_then_ret <| QJ_end (res1 Try.results53 rfl) ?_
    have hC : ldC s i im = 3 := by rw [ldC, if_pos hR, if_neg (by show ¬ im.length = (s.drv.getD i d0).now.length; omega)]
    rw [show ldS s i im = s from if_neg (by rw [hC]; decide)]
    refine CSpec.close () ?_ ?_ (Ent.trans (Ent.trans (t1_ (t1_ (t1_ eR))) (DOwn_back hl (by omega))) (Ent.trans (Ent.trans (t3_ (t3_ (t0_ (t2_ (t2_ eR))))) (Arr_close hl hm hw)) (t0_ (t2_ (eD (eD eR))))))
    · exact iv hC.symm
    · trivial
   ·
    refine kT <| sR <| oP (P_fieldAddr rfl ⟨_, _, _, Try.runUnderlying128, rfl, rfl, Try.sizeOf29, rfl⟩) rfl <| oV (V_load rfl foc0 rfl Try.isAgg29) rfl <| oM rfl rfl <| oO <| O_copy (t := tyU) (bytes := 8) rfl rfl del1 foc8 hA Try.underlying29 ok_tyU rfl <| nT <| sR <| oP (P_fieldAddr rfl ⟨_, _, _, Try.runUnderlying128, rfl, rfl, Try.sizeOf29, rfl⟩) rfl <| oV (V_load rfl foc1 rfl Try.isAgg29) rfl <| oM rfl rfl <| oO <| O_copy (t := tyU) (bytes := 8) rfl rfl del2 foc8 hA Try.underlying29 ok_tyU rfl <| nT <| sR <| oM rfl rfl <| oM rfl rfl <| oP (P_nilCheck rfl) rfl <| oP (P_fieldAddr rfl ⟨_, _, _, Try.runUnderlying122, rfl, rfl, Try.sizeOf120, rfl⟩) rfl <| oV (V_load rfl foc5 rfl Try.isAgg120) rfl <| oP (P_makeFunc rfl rfl) rfl <| oO <| O_call (c_DeleteRec (by omega)) rfl Try.call78 (Dels.cons del7 (Dels.cons del4 Dels.nil)) rfl fun dx3 hc5 => oP (P_nilCheck rfl) rfl <| oP (P_fieldAddr rfl ⟨_, _, _, Try.runUnderlying122, rfl, rfl, Try.sizeOf120, rfl⟩) rfl <| oO <| O_store rfl rfl foc6 rfl rfl Try.sizeOf120 <| nT <| CJ_seq <| sR <| oM rfl rfl <| oV (V_len rfl foc9 hA Try.runUnderlying29) rfl <| oM rfl rfl <| nT <| CJ_block ?_
    refine CJ_loopR (X := Nat) [8, 52, 53, 54, 55, 56, 57, 58, 59, 60, 61, 62] (fun k  => ([(52, .int .i64 (k : Nat))] : Slots)) (fun k R => mpc mBad mr (delUpTo s.bad i k) :: R) (fun k  => k ≤ im.length) (fun k  => im.length - k) (0) ?_ ?_ (t8_ (t0_ (t0_ (t0_ (t0_ (t0_ (t0_ (t0_ (t0_ (t0_ eR)))))))))) ?_
    · exact Nat.zero_le _
    · exact ⟨rfl, True.intro⟩
    ·
     intro k hk
     show CJ _ _ _ _ _ (([(52, .int .i64 (k : Nat))] : Slots) ++ forget _ _) (mpc mBad mr (delUpTo s.bad i k) :: _)
     refine sR <| oP (P_lss rfl rfl) rfl <| nT <| CJ_seq ?_
     first | (refine CJ_condD rfl (fun hg4 => ?_) (fun hg4 => ?_)) | (refine CJ_condN rfl (fun hg4 => ?_) (fun hg4 => ?_)) | (refine CJ_cond rfl (fun hg4 => ?_) (fun hg4 => ?_))
     ·
      refine kT <| CJ_seq <| CJ_block <| sR <| oM rfl rfl <| oA rfl rfl <| nT <| AJ_startH 128 (by kernel_rfl) rfl <| aN 0 1 rfl rfl (P_move rfl) rfl <| aN 1 3 rfl rfl (P_nilCheck rfl) rfl <| aN 2 7 rfl rfl (P_fieldAddr rfl ⟨_, _, _, Try.runUnderlying122, rfl, rfl, Try.sizeOf119, rfl⟩) rfl <| aV 3 15 rfl rfl (GY_none rfl) (t0_ (t0_ (t0_ (t0_ (t0_ (t0_ (t0_ (t0_ (t0_ (t0_ eR)))))))))) (V_load rfl foc7 rfl Try.isAgg119) rfl <| aV 4 31 rfl rfl (GY_none rfl) (t0_ (t0_ (t0_ (t0_ (t0_ (t0_ (t0_ (t0_ (t0_ (t0_ eR)))))))))) (V_load rfl foc1 rfl Try.isAgg3) rfl <| aN 5 63 rfl rfl (P_move rfl) rfl <| aN 6 127 rfl rfl (P_build rfl (CLoad_bld_124_0_1 _ _)) rfl <| AJ_op 7 255 rfl (by kernel_rfl) rfl (GY_none rfl) <| O_delete (M := mBad) (k := ((i : Int), (k : Int))) rfl rfl foc0 ok_mBad <| ⟨fun h => absurd h (by decide), ?_⟩
      refine AJ_done (by kernel_rfl) <| QJ_block_normal <| QJ_then <| CJ_region <| oP (P_add rfl rfl (by omega)) rfl <| oM rfl rfl <| RJ_nil <| QJ_nextR (k + 1) (by first | omega | (simp only []; omega)) ?_ (by repeat (first | exact Kp.base | exact Kp.self | refine Kp.cons rfl ?_ | refine Kp.forget rfl ?_)) ?_ (Ent.takeC del0 (congrArg (mpc mBad mr) (delUpTo_step _ _ _)) (t0_ (t0_ (t0_ (t0_ (t0_ (t0_ (t0_ (t0_ (t0_ eR))))))))))
      · omega
      · exact ⟨rfl, True.intro⟩
     ·
      refine CJ_exit <| QJ_then_exit <| QJ_round_exit <| QJ_block_here <| QJ_then <| sR <| oA rfl rfl <| nT <| CJ_ret <| QJ_end (res1 Try.results53 rfl) ?_
      obtain rfl : k = im.length := by omega
      have hC : ldC s i im = 0 := by rw [ldC, if_pos hR, if_pos (show im.length = (s.drv.getD ((i : Int)).toNat d0).now.length by rw [Int.toNat_natCast]; omega)]
      rw [show ldS s i im = _ from if_pos hC]
      refine CSpec.close () ?_ ?_ (Ent.trans (Ent.trans (t7_ (t7_ (Ent.takeC del4 (by rw [copied_all (by omega)]) (Ent.takeC del3 (by rw [copied_all (by omega)]) (t4_ (t2_ (t0_ eR))))))) (Arr_close1 (s' := { s with drv := s.drv.set i ⟨im, im, (s.drv.getD i d0).miss⟩, bad := delUpTo s.bad i im.length, log := s.log.filter fun r => !decide ((r.d : Int) = (i : Int)) }) (lv := dx3) i ⟨im, im, (s.drv.getD i d0).miss⟩ hl hm (by omega) rfl rfl (wf_load hw (by omega) (by omega)))) (t0_ (t2_ (eD (eD eR)))))
      · exact iv hC.symm
      · trivial
end Go.Proofs
set_option linter.unusedSimpArgs false
set_option linter.unusedVariables false
set_option maxRecDepth 20000
set_option maxHeartbeats 4000000
namespace Go.Proofs
open Go.VG
abbrev tyDev : Ty IfH := { T := 26, sz := 1, enc := fun x => [.iface x.t x.u], dflt := ⟨0, .bool false⟩, len := fun _ => rfl, one := fun _ => rfl, pos := by decide }
theorem ok_tyDev : ElemOk Try.prog tyDev 16 := ⟨Try.t26, .nilIface, by kernel_rfl, rfl, rfl, rfl, rfl⟩
structure Dvc where
  dep : Nat
  size : ArrS → Option Int
  rd : ArrS → Int → Option (UInt64 × Int)
  wr : ArrS → Int → UInt64 → Option (Int × ArrS)
  fl : ArrS → Option (Int × ArrS)
abbrev dv0 : Dvc := ⟨0, fun _ => none, fun _ _ => none, fun _ _ _ => none, fun _ => none⟩
structure DevOk (a : Nat) (x : Dvc) (h : IfH) (R : HP) : Prop where
  dup : Dup R
  dep : x.dep ≤ 60
  nil : ∀ n, 1 ≤ n → ∀ w, (nilAhead n h.t h.u "Write").run Try.prog w = .ok (some false) w
  size : ∀ {W s r}, x.size s = some r → IOk Try.prog W x.dep h "Size" [] [R, Arr a s] (fun _ : Unit => .int .i64 r) (fun _ => True) (fun _ F => R :: Arr a s :: F)
  rd : ∀ {W s k r}, x.rd s k = some r → IOk Try.prog W x.dep h "Read" [.int .i64 k] [R, Arr a s] (fun _ : Unit => .tuple #[.int .u64 (r.1.toNat : Int), .int .i64 r.2]) (fun _ => True) (fun _ F => R :: Arr a s :: F)
  wr : ∀ {W s k v r}, x.wr s k v = some r → IOk Try.prog W x.dep h "Write" [.int .i64 k, .int .u64 (v.toNat : Int)] [R, Arr a s] (fun _ : Unit => .int .i64 r.1) (fun _ => True) (fun _ F => R :: Arr a r.2 :: F)
  fl : ∀ {W s r}, x.fl s = some r → IOk Try.prog W x.dep h "Flush" [] [R, Arr a s] (fun _ : Unit => .int .i64 r.1) (fun _ => True) (fun _ F => R :: Arr a r.2 :: F)
def DevP (a : Nat) (x : Dvc) (h : IfH) : HP := ex fun R : HP => starX [emp (DevOk a x h R), R]
theorem DevP_mk {a : Nat} {x : Dvc} {h : IfH} {l : List HP} {R : List HP} (hk : DevOk a x h (starX l)) : Ent (l ++ R) (DevP a x h :: R) :=
  fun g hg => stars_ex.2 ⟨starX l, stars_starX.2 (stars_emp.2 ⟨hk, stars_starX.2 hg⟩)⟩
theorem Dup_DevP {a : Nat} {x : Dvc} {h : IfH} : Dup (DevP a x h) := by
  intro g ⟨R, h1, h2, hd, he, ⟨hk, hn⟩, h3, h4, hd2, he2, hR, h5⟩ k
  exact (Dup.starX (Hs := [emp (DevOk a x h R), R]) (by intro A hA; simp only [List.mem_cons, List.not_mem_nil, or_false] at hA; rcases hA with rfl | rfl; exact Dup.emp; exact hk.dup)) g ⟨h1, h2, hd, he, ⟨hk, hn⟩, h3, h4, hd2, he2, hR, h5⟩ k
theorem DevP_dep {a : Nat} {x : Dvc} {h : IfH} {R : List HP} (g : PH) (hg : stars (DevP a x h :: R) g) : x.dep ≤ 60 := by
  obtain ⟨R', hg⟩ := stars_ex.1 hg
  exact (stars_emp.1 (stars_starX.1 hg)).1.dep
theorem DevP_E {P : Program} {a : Nat} {x : Dvc} {h : IfH} {W : World} {k : Nat} {g : IfH} {name : String} {args : List Value} {pre : List HP} {X : Type} {res : X → Value} {pf : X → Prop} {post : X → List HP → List HP}
    (hm : ∀ R, DevOk a x h R → IOk P W k g name args (R :: pre) res pf (fun y F => R :: post y F)) : IOk P W k g name args (DevP a x h :: pre) res pf (fun y F => DevP a x h :: post y F) := by
  refine IOk.exI fun R => IOk.starI (IOk.empI fun hk => ?_)
  refine (hm R hk).post0 fun y F => ?_
  exact fun g hg => stars_ex.2 ⟨R, stars_starX.2 (stars_emp.2 ⟨hk, hg⟩)⟩
theorem dev_Size {W : World} {a : Nat} {x : Dvc} {h : IfH} {s : ArrS} {r : Int} (e : x.size s = some r) (hd : x.dep ≤ 60) : ICall Try.prog W h.v "Size" [] [DevP a x h, Arr a s] (fun _ : Unit => .int .i64 r) (fun _ => True) (fun _ F => DevP a x h :: Arr a s :: F) := (DevP_E fun _ hk => hk.size e).call (by omega)
theorem dev_Read {W : World} {a : Nat} {x : Dvc} {h : IfH} {s : ArrS} {k : Int} {r : UInt64 × Int} (e : x.rd s k = some r) (hd : x.dep ≤ 60) : ICall Try.prog W h.v "Read" [.int .i64 k] [DevP a x h, Arr a s] (fun _ : Unit => .tuple #[.int .u64 (r.1.toNat : Int), .int .i64 r.2]) (fun _ => True) (fun _ F => DevP a x h :: Arr a s :: F) := (DevP_E fun _ hk => hk.rd e).call (by omega)
theorem dev_Write {W : World} {a : Nat} {x : Dvc} {h : IfH} {s : ArrS} {k : Int} {v : UInt64} {r : Int × ArrS} (e : x.wr s k v = some r) (hd : x.dep ≤ 60) : ICall Try.prog W h.v "Write" [.int .i64 k, .int .u64 (v.toNat : Int)] [DevP a x h, Arr a s] (fun _ : Unit => .int .i64 r.1) (fun _ => True) (fun _ F => DevP a x h :: Arr a r.2 :: F) := (DevP_E fun _ hk => hk.wr e).call (by omega)
theorem dev_Flush {W : World} {a : Nat} {x : Dvc} {h : IfH} {s : ArrS} {r : Int × ArrS} (e : x.fl s = some r) (hd : x.dep ≤ 60) : ICall Try.prog W h.v "Flush" [] [DevP a x h, Arr a s] (fun _ : Unit => .int .i64 r.1) (fun _ => True) (fun _ F => DevP a x h :: Arr a r.2 :: F) := (DevP_E fun _ hk => hk.fl e).call (by omega)
abbrev tyRow : Ty Sl3 := { T := 29, sz := 1, enc := fun x => [x.v], dflt := ⟨none, 0, 0⟩, len := fun _ => rfl, one := fun _ => rfl, pos := by decide }
theorem ok_tyRow : ElemOk Try.prog tyRow 24 := ⟨Try.t29, .slice none 0 0, by kernel_rfl, rfl, rfl, rfl, rfl⟩
def Sl3.sub (sz : Nat) (x : Sl3) (l h : Nat) : Sl3 := ⟨if x.c = l then x.p else x.p.map (·.add (l * sz)), h - l, x.c - l⟩
def RowP (x : List UInt64) (h : Sl3) : HP := fun g => ∃ A : HP, Dup A ∧ Reads A tyU h.v x ∧ A g
theorem Dup_RowP (x : List UInt64) (h : Sl3) : Dup (RowP x h) := fun g ⟨_, hd, _, hA⟩ => hd g hA
theorem RowP_of {A : HP} {x : List UInt64} {h : Sl3} (hd : Dup A) (hr : Reads A tyU h.v x) : ∀ g, A g → RowP x h g := fun _ hA => ⟨A, hd, hr, hA⟩
theorem Reads.rowP {x : List UInt64} {h : Sl3} : Reads (RowP x h) tyU h.v x := fun g ⟨_, _, hr, hA⟩ => hr g hA
def RowsR (B : HP) (l : List (List UInt64)) (hs : List Sl3) : Prop := hs.length = l.length ∧ ∀ i, i < l.length → Reads B tyU (Sl3.v (hs.getD i tyRow.dflt)) (l.getD i [])
theorem RowsR.nil {B : HP} : RowsR B [] [] := ⟨rfl, fun i h => absurd h (by simp)⟩
theorem RowsR.cons {A : HP} {As : List HP} {x : List UInt64} {g : Sl3} {l : List (List UInt64)} {hs : List Sl3} (h : Reads A tyU (Sl3.v g) x) (hr : RowsR (starX As) l hs) : RowsR (starX (A :: As)) (x :: l) (g :: hs) :=
  ⟨by simp [hr.1], fun i hi => by
    cases i with
    | zero => exact Reads.hd h
    | succ i => exact Reads.tl (hr.2 i (by simpa using hi))⟩
theorem RowsR.rs {l : List (List UInt64)} {hs : List Sl3} (hl : hs.length = l.length) : RowsR (Rs RowP l hs) l hs :=
  ⟨hl, fun _ hi => Reads.of_ent (Rs_at0 hi) Reads.rowP⟩
theorem reads_sl3 {α : Type} {t : Ty α} {A : HP} {v : Value} {xs : List α} {H R : List HP} (hr : Reads A t v xs) (hd : Del H A R) : ∀ h, stars H h → ∃ x : Sl3, v = Sl3.v x := by
  intro h hh
  obtain ⟨h1, h2, _, _, hA, _⟩ := stars_perm hd.out h hh
  rcases hr h1 hA with ⟨e, _⟩ | ⟨a, c, e, _⟩
  · exact ⟨⟨none, 0, 0⟩, e⟩
  · exact ⟨⟨some a, _, c⟩, e⟩
def newB (zs : List Int) : Bool := Nat.ble zs.length 8 && zs.all (fun z => decide (1 ≤ z) && decide (z ≤ 65536))
theorem newB_iff {zs : List Int} : newB zs = true ↔ NewOk zs := by
  unfold newB NewOk
  rw [Bool.and_eq_true, Nat.ble_eq, List.all_eq_true]
  refine and_congr Iff.rfl ⟨fun h k hk => ?_, fun h z hz => ?_⟩
  · have h1 := h zs[k] (List.getElem_mem hk)
    have : zs.getD k 0 = zs[k] := by simp [List.getD, hk]
    rw [this]; simpa using h1
  · obtain ⟨k, hk, rfl⟩ := List.getElem_of_mem hz
    have h1 := h k hk
    have : zs.getD k 0 = zs[k] := by simp [List.getD, hk]
    rw [this] at h1; simpa using h1
def newO (zs : List Int) : Option ArrS := if newB zs then some (newS zs) else none
def newC (zs : List Int) : Int := if newB zs then 0 else if Nat.blt 8 zs.length then 4 else 1
theorem c_NewO {W : World} {A : HP} {v : Value} {zs : List Int} (hA : Reads A tyI v zs) (hl : zs.length ≤ 1000000000) :
    CSpec Try.prog W 69 [v] [A] (fun b : Nat => .tuple #[oval (newO zs) b, .int .i64 (newC zs)]) (fun _ => True) (fun b F => optP (Arr b) (newO zs) :: A :: F) := by
  intro F w hs
  by_cases h : newB zs = true
  · have h2 := newB_iff.1 h
    unfold newO newC; rw [if_pos h, if_pos h]
    exact c_New hA h2 F w hs
  · have h2 : ¬ NewOk zs := fun e => h (newB_iff.2 e)
    unfold newO newC; rw [if_neg h, if_neg h]
    refine (c_NewBad hA h2 (by omega) F w hs).mono fun e w' ⟨x, hx, hp, hs'⟩ => ⟨0, ?_, trivial, hs'.imp (fun g hg => optP_none g hg)⟩
    rw [hx]
    by_cases h3 : 8 < zs.length
    · rw [if_pos h3, if_pos (by simpa [Nat.blt_eq] using h3)]; rfl
    · rw [if_neg h3, if_neg (by simpa [Nat.blt_eq] using h3)]; rfl
end Go.Proofs
set_option linter.unusedSimpArgs false
set_option linter.unusedVariables false
set_option maxRecDepth 20000
set_option maxHeartbeats 4000000
namespace Go.Proofs
open Go.VG
def dvc_span_Size (x_0_a : ArrS) (x_0_d : Int) (x_0_start : Int) (x_0_length : Int) : Option (Int) :=
  some x_0_length
theorem L_dvc_span_Size {W : World} {bx_0 : Nat} {bx_0_a : Nat} {x_0_a : ArrS} {x_0_d : Int} {x_0_start : Int} {x_0_length : Int} {r : Int} (h : dvc_span_Size x_0_a x_0_d x_0_start x_0_length = some r) :
    CSpec Try.prog W 137 [ptr bx_0 0] [blkR bx_0 161 [ptr bx_0_a 0, .int .i64 x_0_d, .int .i64 x_0_start, .int .i64 x_0_length], Arr bx_0_a x_0_a] (fun x : Unit => .int .i64 r) (fun _ => True) (fun x F => blkR bx_0 161 [ptr bx_0_a 0, .int .i64 x_0_d, .int .i64 x_0_start, .int .i64 x_0_length] :: Arr bx_0_a x_0_a :: F) := by
 refine CSpec.of_body Try.func137 rfl Try.ntmps137 rfl fun F => ?_
 show CJ _ _ _ _ _ _ (_ :: _ :: F)
 unfold dvc_span_Size at h
 refine sR <| oA rfl rfl <| nT <| sR <| oM rfl rfl <| oP (P_nilCheck rfl) rfl <| oP (P_fieldAddr rfl ⟨_, _, _, Try.runUnderlying161, rfl, rfl, Try.sizeOf3, rfl⟩) rfl <| oV (V_loadR rfl foc0 rfl Try.isAgg3) rfl <| oA rfl rfl <| nT <| CJ_ret ?_
 cases h
 exact fE (res1 Try.results137 rfl) () eR
def block_inside (size : Int) (at_1 : Int) (n_2 : Int) : Option (Bool) :=
  some (((((decide ((0 : Int) ≤ at_1)) && (decide (at_1 ≤ size))) && (decide ((0 : Int) ≤ n_2))) && (decide (n_2 ≤ (IntKind.i64.wrap (size - at_1))))))
theorem L_block_inside {W : World} {size : Int} {at_1 : Int} {n_2 : Int} {r : Bool} (h : block_inside size at_1 n_2 = some r) :
    CSpec Try.prog W 88 [.int .i64 size, .int .i64 at_1, .int .i64 n_2] [] (fun x : Unit => .bool r) (fun _ => True) (fun x F => F) := by
 refine CSpec.of_body Try.func88 rfl Try.ntmps88 rfl fun F => ?_
 show CJ _ _ _ _ _ _ (F)
 unfold block_inside at h
 refine sR <| oA rfl rfl <| nT <| sR <| oM rfl rfl <| oP (P_geq (a := at_1) (b := (0 : Int)) rfl rfl) rfl <| oM rfl rfl <| RJ_mbT rfl rfl rfl (fun hG1 => have hP2 : ((0 : Int) ≤ at_1) := (bT_dec).1 hG1; VJ_P (P_move rfl)) <| RJ_mbT rfl rfl rfl (fun hG3 => have hP4 : ((0 : Int) ≤ at_1) := (bT_dec).1 hG3; VJ_P (P_move rfl)) <| RJ_mbT rfl rfl rfl (fun hG5 => have hP6 : ((0 : Int) ≤ at_1) := (bT_dec).1 hG5; VJ_P (P_leq (a := at_1) (b := size) (mbx hG5 rfl) (mbx hG5 rfl))) <| oP (P_pickAnd rfl (fun hh => mbx hh rfl) rfl) rfl <| oM rfl rfl <| RJ_mbT rfl rfl rfl (fun hG7 => have hP8 : (((0 : Int) ≤ at_1) ∧ (at_1 ≤ size)) := ((bT_and bT_dec bT_dec)).1 hG7; VJ_P (P_move rfl)) <| RJ_mbT rfl rfl rfl (fun hG9 => have hP10 : (((0 : Int) ≤ at_1) ∧ (at_1 ≤ size)) := ((bT_and bT_dec bT_dec)).1 hG9; VJ_P (P_geq (a := n_2) (b := (0 : Int)) (mbx hG9 rfl) rfl)) <| oP (P_pickAnd rfl (fun hh => mbx hh rfl) rfl) rfl <| oM rfl rfl <| RJ_mbT rfl rfl rfl (fun hG11 => have hP12 : ((((0 : Int) ≤ at_1) ∧ (at_1 ≤ size)) ∧ ((0 : Int) ≤ n_2)) := ((bT_and (bT_and bT_dec bT_dec) bT_dec)).1 hG11; VJ_P (P_move rfl)) <| RJ_mbT rfl rfl rfl (fun hG13 => have hP14 : ((((0 : Int) ≤ at_1) ∧ (at_1 ≤ size)) ∧ ((0 : Int) ≤ n_2)) := ((bT_and (bT_and bT_dec bT_dec) bT_dec)).1 hG13; VJ_P (P_move rfl)) <| RJ_mbT rfl rfl rfl (fun hG15 => have hP16 : ((((0 : Int) ≤ at_1) ∧ (at_1 ≤ size)) ∧ ((0 : Int) ≤ n_2)) := ((bT_and (bT_and bT_dec bT_dec) bT_dec)).1 hG15; VJ_P (P_move rfl)) ?_
 refine RJ_mbT rfl rfl rfl (fun hG17 => have hP18 : ((((0 : Int) ≤ at_1) ∧ (at_1 ≤ size)) ∧ ((0 : Int) ≤ n_2)) := ((bT_and (bT_and bT_dec bT_dec) bT_dec)).1 hG17; VJ_P (P_subW (a := size) (b := at_1) (mbx hG17 rfl) (mbx hG17 rfl))) <| RJ_mbT rfl rfl rfl (fun hG19 => have hP20 : ((((0 : Int) ≤ at_1) ∧ (at_1 ≤ size)) ∧ ((0 : Int) ≤ n_2)) := ((bT_and (bT_and bT_dec bT_dec) bT_dec)).1 hG19; VJ_P (P_leq (a := n_2) (b := (IntKind.i64.wrap (size - at_1))) (mbx hG19 rfl) (mbx hG19 rfl))) <| oP (P_pickAnd rfl (fun hh => mbx hh rfl) rfl) rfl <| oA rfl rfl <| nT <| CJ_ret ?_
 cases h
 exact fE (res1 Try.results88 rfl) () eR
def dvc_span_Read (x_0_a : ArrS) (x_0_d : Int) (x_0_start : Int) (x_0_length : Int) (at_1 : Int) : Option (UInt64 × Int) :=
  Option.bind (block_inside x_0_length at_1 (1 : Int)) fun r1 =>
  if (¬ r1 = true) then
    some (((0 : UInt64), (1 : Int)))
  else
    grd (inI64 (x_0_start + at_1)) <|
    some (((rdV x_0_a x_0_d (x_0_start + at_1)), (rdC x_0_a x_0_d (x_0_start + at_1))))
theorem L_dvc_span_Read {W : World} {bx_0 : Nat} {bx_0_a : Nat} {x_0_a : ArrS} {x_0_d : Int} {x_0_start : Int} {x_0_length : Int} {at_1 : Int} {r : UInt64 × Int} (h : dvc_span_Read x_0_a x_0_d x_0_start x_0_length at_1 = some r) :
    CSpec Try.prog W 136 [ptr bx_0 0, .int .i64 at_1] [blkR bx_0 161 [ptr bx_0_a 0, .int .i64 x_0_d, .int .i64 x_0_start, .int .i64 x_0_length], Arr bx_0_a x_0_a] (fun x : Unit => .tuple #[.int .u64 (r.1.toNat : Int), .int .i64 r.2]) (fun _ => True) (fun x F => blkR bx_0 161 [ptr bx_0_a 0, .int .i64 x_0_d, .int .i64 x_0_start, .int .i64 x_0_length] :: Arr bx_0_a x_0_a :: F) := by
 refine CSpec.of_body Try.func136 rfl Try.ntmps136 rfl fun F => ?_
 show CJ _ _ _ _ _ _ (_ :: _ :: F)
 unfold dvc_span_Read at h
 refine sR <| oA rfl rfl <| oA rfl rfl <| nT <| CJ_seq <| sR <| oM rfl rfl <| oP (P_nilCheck rfl) rfl <| oP (P_fieldAddr rfl ⟨_, _, _, Try.runUnderlying161, rfl, rfl, Try.sizeOf3, rfl⟩) rfl <| oV (V_loadR rfl foc0 rfl Try.isAgg3) rfl <| oM rfl rfl ?_
 obtain ⟨r1, hr2, h⟩ := bind_e h
 refine oO <| O_call (L_block_inside hr2) rfl Try.call88 Dels.nil rfl fun _ _ => oP (P_not rfl) rfl <| nT <| CJ_condP rfl (bT_not Iff.rfl) (fun hg1 => ?_) (fun hg1 => ?_)
 ·
  replace h := ite_t hg1 h
  refine sR <| oA rfl rfl <| oA rfl rfl <| nT <| CJ_ret <| QJ_then_ret ?_
  cases h
  exact fE (res2 Try.results136 rfl rfl) () eR
 ·
  replace h := ite_f hg1 h
  refine kT <| CJ_seq <| AJ_startH 16384 (by kernel_rfl) rfl <| aN 0 1 rfl rfl (P_move rfl) rfl <| aN 1 3 rfl rfl (P_nilCheck rfl) rfl <| aN 2 7 rfl rfl (P_fieldAddr rfl ⟨_, _, _, Try.runUnderlying161, rfl, rfl, Try.sizeOf24, rfl⟩) rfl <| aV 3 15 rfl rfl (GY_none rfl) eR (V_loadR rfl foc0 rfl Try.isAgg24) rfl <| aN 4 31 rfl rfl (P_move rfl) rfl <| aN 5 63 rfl rfl (P_nilCheck rfl) rfl <| aN 6 127 rfl rfl (P_fieldAddr rfl ⟨_, _, _, Try.runUnderlying161, rfl, rfl, Try.sizeOf3, rfl⟩) rfl <| aV 7 255 rfl rfl (GY_none rfl) eR (V_loadR rfl foc0 rfl Try.isAgg3) rfl <| aN 8 511 rfl rfl (P_move rfl) rfl <| aN 9 1023 rfl rfl (P_nilCheck rfl) rfl <| aN 10 2047 rfl rfl (P_fieldAddr rfl ⟨_, _, _, Try.runUnderlying161, rfl, rfl, Try.sizeOf3, rfl⟩) rfl <| aV 11 4095 rfl rfl (GY_none rfl) eR (V_loadR rfl foc0 rfl Try.isAgg3) rfl <| aN 12 8191 rfl rfl (P_move rfl) rfl ?_
  obtain ⟨hg2, h⟩ := grd_Ie h
  refine aN 13 16383 rfl rfl (P_add (a := x_0_start) (b := at_1) rfl rfl hg2) rfl <| AJ_op 14 32767 rfl (by kernel_rfl) rfl (GY_none rfl) <| O_call (c_Read) rfl Try.call126 (Dels.cons del1 Dels.nil) rfl fun _ _ => ⟨fun h => absurd h (by decide), ?_⟩
  refine aN 15 65535 rfl rfl (P_extract rfl rfl) rfl <| aN 16 131071 rfl rfl (P_extract rfl rfl) rfl <| aN 17 262143 rfl rfl (P_assign rfl) rfl <| aN 18 524287 rfl rfl (P_assign rfl) rfl <| aD <| CJ_ret ?_
  cases h
  exact fE (res2 Try.results136 rfl rfl) () (t1_ eR)
def dvc_span_Write (x_0_a : ArrS) (x_0_d : Int) (x_0_start : Int) (x_0_length : Int) (at_1 : Int) (v : UInt64) : Option (Int × ArrS) :=
  Option.bind (block_inside x_0_length at_1 (1 : Int)) fun r1 =>
  if (¬ r1 = true) then
    some (((1 : Int), x_0_a))
  else
    grd (inI64 (x_0_start + at_1)) <|
    grd (inLen x_0_a.writes) <|
    some (((wrR x_0_a x_0_d (x_0_start + at_1)), (wrS x_0_a x_0_d (x_0_start + at_1) v)))
theorem L_dvc_span_Write {W : World} {bx_0 : Nat} {bx_0_a : Nat} {x_0_a : ArrS} {x_0_d : Int} {x_0_start : Int} {x_0_length : Int} {at_1 : Int} {v : UInt64} {r : Int × ArrS} (h : dvc_span_Write x_0_a x_0_d x_0_start x_0_length at_1 v = some r) :
    CSpec Try.prog W 138 [ptr bx_0 0, .int .i64 at_1, .int .u64 (v.toNat : Int)] [blkR bx_0 161 [ptr bx_0_a 0, .int .i64 x_0_d, .int .i64 x_0_start, .int .i64 x_0_length], Arr bx_0_a x_0_a] (fun x : Unit => .int .i64 r.1) (fun _ => True) (fun x F => blkR bx_0 161 [ptr bx_0_a 0, .int .i64 x_0_d, .int .i64 x_0_start, .int .i64 x_0_length] :: Arr bx_0_a r.2 :: F) := by
 refine CSpec.of_body Try.func138 rfl Try.ntmps138 rfl fun F => ?_
 show CJ _ _ _ _ _ _ (_ :: _ :: F)
 unfold dvc_span_Write at h
 refine sR <| oA rfl rfl <| nT <| CJ_seq <| sR <| oM rfl rfl <| oP (P_nilCheck rfl) rfl <| oP (P_fieldAddr rfl ⟨_, _, _, Try.runUnderlying161, rfl, rfl, Try.sizeOf3, rfl⟩) rfl <| oV (V_loadR rfl foc0 rfl Try.isAgg3) rfl <| oM rfl rfl ?_
 obtain ⟨r1, hr2, h⟩ := bind_e h
 refine oO <| O_call (L_block_inside hr2) rfl Try.call88 Dels.nil rfl fun _ _ => oP (P_not rfl) rfl <| nT <| CJ_condP rfl (bT_not Iff.rfl) (fun hg1 => ?_) (fun hg1 => ?_)
 ·
  replace h := ite_t hg1 h
  refine sR <| oA rfl rfl <| nT <| CJ_ret <| QJ_then_ret ?_
  cases h
  exact fE (res1 Try.results138 rfl) () eR
 ·
  replace h := ite_f hg1 h
  refine kT <| CJ_seq <| AJ_startH 32768 (by kernel_rfl) rfl <| aN 0 1 rfl rfl (P_move rfl) rfl <| aN 1 3 rfl rfl (P_nilCheck rfl) rfl <| aN 2 7 rfl rfl (P_fieldAddr rfl ⟨_, _, _, Try.runUnderlying161, rfl, rfl, Try.sizeOf24, rfl⟩) rfl <| aV 3 15 rfl rfl (GY_none rfl) eR (V_loadR rfl foc0 rfl Try.isAgg24) rfl <| aN 4 31 rfl rfl (P_move rfl) rfl <| aN 5 63 rfl rfl (P_nilCheck rfl) rfl <| aN 6 127 rfl rfl (P_fieldAddr rfl ⟨_, _, _, Try.runUnderlying161, rfl, rfl, Try.sizeOf3, rfl⟩) rfl <| aV 7 255 rfl rfl (GY_none rfl) eR (V_loadR rfl foc0 rfl Try.isAgg3) rfl <| aN 8 511 rfl rfl (P_move rfl) rfl <| aN 9 1023 rfl rfl (P_nilCheck rfl) rfl <| aN 10 2047 rfl rfl (P_fieldAddr rfl ⟨_, _, _, Try.runUnderlying161, rfl, rfl, Try.sizeOf3, rfl⟩) rfl <| aV 11 4095 rfl rfl (GY_none rfl) eR (V_loadR rfl foc0 rfl Try.isAgg3) rfl <| aN 12 8191 rfl rfl (P_move rfl) rfl ?_
  obtain ⟨hg2, h⟩ := grd_Ie h
  refine aN 13 16383 rfl rfl (P_add (a := x_0_start) (b := at_1) rfl rfl hg2) rfl <| aN 14 32767 rfl rfl (P_move rfl) rfl ?_
  obtain ⟨hg3, h⟩ := grd_Le h
  refine AJ_op 15 65535 rfl (by kernel_rfl) rfl (GY_none rfl) <| O_call (c_Write hg3 (v := v)) rfl Try.call127 (Dels.cons del1 Dels.nil) rfl fun _ _ => ⟨fun h => absurd h (by decide), ?_⟩
  refine aN 16 131071 rfl rfl (P_assign rfl) rfl <| aD <| CJ_ret ?_
  cases h
  exact fE (res1 Try.results138 rfl) () (t1_ eR)
def dvc_span_Flush (x_0_a : ArrS) (x_0_d : Int) (x_0_start : Int) (x_0_length : Int) : Option (Int × ArrS) :=
  grd (inLen x_0_a.writes) <|
  some (((flC x_0_a x_0_d), (flS x_0_a x_0_d)))
theorem L_dvc_span_Flush {W : World} {bx_0 : Nat} {bx_0_a : Nat} {x_0_a : ArrS} {x_0_d : Int} {x_0_start : Int} {x_0_length : Int} {r : Int × ArrS} (h : dvc_span_Flush x_0_a x_0_d x_0_start x_0_length = some r) :
    CSpec Try.prog W 135 [ptr bx_0 0] [blkR bx_0 161 [ptr bx_0_a 0, .int .i64 x_0_d, .int .i64 x_0_start, .int .i64 x_0_length], Arr bx_0_a x_0_a] (fun x : Unit => .int .i64 r.1) (fun _ => True) (fun x F => blkR bx_0 161 [ptr bx_0_a 0, .int .i64 x_0_d, .int .i64 x_0_start, .int .i64 x_0_length] :: Arr bx_0_a r.2 :: F) := by
 refine CSpec.of_body Try.func135 rfl Try.ntmps135 rfl fun F => ?_
 show CJ _ _ _ _ _ _ (_ :: _ :: F)
 unfold dvc_span_Flush at h
 refine sR <| oA rfl rfl <| nT <| CJ_seq <| AJ_startH 256 (by kernel_rfl) rfl <| aN 0 1 rfl rfl (P_move rfl) rfl <| aN 1 3 rfl rfl (P_nilCheck rfl) rfl <| aN 2 7 rfl rfl (P_fieldAddr rfl ⟨_, _, _, Try.runUnderlying161, rfl, rfl, Try.sizeOf24, rfl⟩) rfl <| aV 3 15 rfl rfl (GY_none rfl) eR (V_loadR rfl foc0 rfl Try.isAgg24) rfl <| aN 4 31 rfl rfl (P_move rfl) rfl <| aN 5 63 rfl rfl (P_nilCheck rfl) rfl <| aN 6 127 rfl rfl (P_fieldAddr rfl ⟨_, _, _, Try.runUnderlying161, rfl, rfl, Try.sizeOf3, rfl⟩) rfl <| aV 7 255 rfl rfl (GY_none rfl) eR (V_loadR rfl foc0 rfl Try.isAgg3) rfl ?_
 obtain ⟨hg1, h⟩ := grd_Le h
 refine AJ_op 8 511 rfl (by kernel_rfl) rfl (GY_none rfl) <| O_call (c_FlushD hg1) rfl Try.call125 (Dels.cons del1 Dels.nil) rfl fun _ _ => ⟨fun h => absurd h (by decide), ?_⟩
 refine aN 9 1023 rfl rfl (P_assign rfl) rfl <| aD <| CJ_ret ?_
 cases h
 exact fE (res1 Try.results135 rfl) () (t1_ eR)
def Dvc.span (x_d : Int) (x_start : Int) (x_length : Int) : Dvc := { dep := 1, size := fun s => dvc_span_Size s x_d x_start x_length, rd := fun s k => dvc_span_Read s x_d x_start x_length k, wr := fun s k v => dvc_span_Write s x_d x_start x_length k v, fl := fun s => dvc_span_Flush s x_d x_start x_length }
theorem ok_Dvc_span {a : Nat} {bx : Nat} {x_d : Int} {x_start : Int} {x_length : Int} : DevOk a (Dvc.span x_d x_start x_length) ⟨159, ptr bx 0⟩ (starX [blkR bx 161 [ptr a 0, .int .i64 x_d, .int .i64 x_start, .int .i64 x_length]]) where
  dup := Dup.starX (by intro A hA; simp only [List.mem_cons, List.not_mem_nil, or_false] at hA; subst hA; exact Dup.blkR)
  dep := by simp [Dvc.span]
  nil := fun n hn w => by
    obtain ⟨m, rfl⟩ : ∃ m, n = m + 1 := ⟨n - 1, by omega⟩
    kernel_rfl
  size := fun {W s r} e => IOk.conseq (G := []) (IOk.of (fun n w => by kernel_rfl) Try.call137 (L_dvc_span_Size e)) (fun F => Ent.starE (Ent.take del0 (Ent.take del0 Ent.refl))) (fun _ F => Ent.starI (Ent.take del0 (Ent.take del0 Ent.refl)))
  rd := fun {W s k r} e => IOk.conseq (G := []) (IOk.of (fun n w => by kernel_rfl) Try.call136 (L_dvc_span_Read e)) (fun F => Ent.starE (Ent.take del0 (Ent.take del0 Ent.refl))) (fun _ F => Ent.starI (Ent.take del0 (Ent.take del0 Ent.refl)))
  wr := fun {W s k v r} e => IOk.conseq (G := []) (IOk.of (fun n w => by kernel_rfl) Try.call138 (L_dvc_span_Write e)) (fun F => Ent.starE (Ent.take del0 (Ent.take del0 Ent.refl))) (fun _ F => Ent.starI (Ent.take del0 (Ent.take del0 Ent.refl)))
  fl := fun {W s r} e => IOk.conseq (G := []) (IOk.of (fun n w => by kernel_rfl) Try.call135 (L_dvc_span_Flush e)) (fun F => Ent.starE (Ent.take del0 (Ent.take del0 Ent.refl))) (fun _ F => Ent.starI (Ent.take del0 (Ent.take del0 Ent.refl)))
end Go.Proofs
set_option linter.unusedSimpArgs false
set_option linter.unusedVariables false
set_option maxRecDepth 20000
set_option maxHeartbeats 4000000
namespace Go.Proofs
open Go.VG
theorem bs_38_1_0 (v0 : Int) : BuildsSlice Try.prog 38 1 [(0, .int .i64 v0)] 3 [.int .i64 v0] := fun w => by kernel_rfl
theorem bld_161_0_1_2_3 (v0 : (Option Addr)) (v1 : Int) (v2 : Int) (v3 : Int) : ∀ w, (Instr.build 161 (#[(0, .pointer v0), (1, .int .i64 v1), (2, .int .i64 v2), (3, .int .i64 v3)] : Array (Nat × Value))).run Try.prog w = .ok (.agg #[.pointer v0, .int .i64 v1, .int .i64 v2, .int .i64 v3]) w := fun w => by kernel_rfl
theorem bs_67_1_0 (v0 : TypeId) (v1 : Value) : BuildsSlice Try.prog 67 1 [(0, .iface v0 v1)] 26 [.iface v0 v1] := fun w => by kernel_rfl
theorem bs_47_1_0 (v0 : Bool) : BuildsSlice Try.prog 47 1 [(0, .bool v0)] 4 [.bool v0] := fun w => by kernel_rfl
def volumegroupmake_Loaded_l1_b (l : List (List UInt64)) (rec : (List Int) → Nat → Option ((List Int))) (x9 : List Int) (x11 : Nat) : Option ((List Int)) :=
  if (((x11 : Nat) : Int) < ((l.length : Nat) : Int)) then
    grd (inLen (x9.length + 1)) <|
    grd (inN64 (x11 + 1)) <|
    rec ((x9 ++ [(((l.getD x11 []).length : Nat) : Int)])) (x11 + 1)
  else
    some x9
def volumegroupmake_Loaded_l1 (l : List (List UInt64)) : Nat → (List Int) → Nat → Option ((List Int))
  | 0, _, _ => none
  | n + 1, x9, x11 => volumegroupmake_Loaded_l1_b l (volumegroupmake_Loaded_l1 l n) x9 x11
def volumegroupmake_Loaded_l2_b (l : List (List UInt64)) (rec : ArrS → Nat → Option ((ArrS) ⊕ (Option ArrS))) (x32 : ArrS) (x33 : Nat) : Option ((ArrS) ⊕ (Option ArrS)) :=
  if (((x33 : Nat) : Int) < ((l.length : Nat) : Int)) then
    grd (inLen x32.writes) <|
    if ((ldC x32 (((x33 : Nat) : Int)) (l.getD x33 [])) ≠ (0 : Int)) then
      some (.inr none)
    else
      grd (inN64 (x33 + 1)) <|
      rec ((ldS x32 (((x33 : Nat) : Int)) (l.getD x33 []))) (x33 + 1)
  else
    some (.inl x32)
def volumegroupmake_Loaded_l2 (l : List (List UInt64)) : Nat → ArrS → Nat → Option ((ArrS) ⊕ (Option ArrS))
  | 0, _, _ => none
  | n + 1, x32, x33 => volumegroupmake_Loaded_l2_b l (volumegroupmake_Loaded_l2 l n) x32 x33
def volumegroupmake_Loaded (l : List (List UInt64)) : Option ((Option ArrS)) :=
  Option.bind (volumegroupmake_Loaded_l1 l FUEL ([]) 0) fun a8 =>
  grd (inLen a8.length) <|
  if ((newC a8) ≠ (0 : Int)) then
    some none
  else
    Option.elim (newO a8) (
      some none) fun o26 =>
    seqO (volumegroupmake_Loaded_l2 l FUEL o26 0) fun a31 =>
    some (some a31)
theorem L_volumegroupmake_Loaded {W : World} {Al : HP} {vl : Value} {hsl : List Sl3} {Bl : HP} {l : List (List UInt64)} {r : (Option ArrS)} (rl : Reads Al tyRow vl hsl) (ql : RowsR Bl l hsl) (h : volumegroupmake_Loaded l = some r) :
    CSpec Try.prog W 36 [vl] [Al, Bl] (fun x : Nat => oval r x) (fun _ => True) (fun x F => Al :: Bl :: optP (Arr x) r :: F) := by
 refine CSpec.of_body Try.func36 rfl Try.ntmps36 rfl fun F => ?_
 show CJ _ _ _ _ _ _ (_ :: _ :: F)
 unfold volumegroupmake_Loaded at h
 refine CJ_pure (len_of rl del0) fun hlen1 => sR <| oA rfl rfl <| nT <| sR <| oA rfl rfl <| nT <| CJ_seq <| sR <| oA rfl rfl <| nT <| CJ_ent (fun h hh => sl_nil (t := tyI) h hh) ?_
 obtain ⟨y5, hl3, hK4⟩ := bind_c h
 refine CJ_cutT (X := (List Int) × Sl3) [3, 4, 8, 9, 10, 11, 12, 13, 14, 15, 16, 17, 18, 19, 20, 21] (fun ⟨a8, hd7⟩ => ([(3, hd7.v)] : Slots)) (fun ⟨a8, hd7⟩ R => sl tyI hd7.v a8 :: R) (fun ⟨a8, hd7⟩ => y5 = a8) (Dels.cons del0 Dels.nil) ?_ ?_
 ·
  refine CJ_block <| CJ_loopR (X := Nat × (List Int) × Nat × Sl3) [3, 4, 8, 9, 10, 11, 12, 13, 14, 15, 16, 17, 18, 19, 20, 21] (fun ⟨n, x9, x11, hd10⟩ => ([(3, hd10.v), (4, .int .i64 (((x11 : Nat) : Int)))] : Slots)) (fun ⟨n, x9, x11, hd10⟩ R => sl tyI hd10.v x9 :: R) (fun ⟨n, x9, x11, hd10⟩ => volumegroupmake_Loaded_l1 l n x9 x11 = some y5) (fun ⟨n, x9, x11, hd10⟩ => n) ⟨FUEL, [], 0, ⟨none, 0, 0⟩⟩ ?_ ?_ eR ?_
  · exact hl3
  · exact ⟨rfl, rfl, True.intro⟩
  ·
   rintro ⟨n, x9, x11, hd10⟩ h
   cases n with
   | zero => exact none_e h
   | succ n => ?_
   replace h : volumegroupmake_Loaded_l1_b l (volumegroupmake_Loaded_l1 l n) x9 x11 = some y5 := h
   unfold volumegroupmake_Loaded_l1_b at h
   show CJ _ _ _ _ _ (([(3, hd10.v), (4, .int .i64 (((x11 : Nat) : Int)))] : Slots) ++ forget _ _) (sl tyI hd10.v x9 :: _)
   refine lC del0 fun hlen12 => CJ_seq <| sR <| oM rfl rfl <| oM rfl rfl <| oV (VJ_eq (V_len rfl foc1 rl Try.runUnderlying62) (congrArg (fun z : Nat => Value.int .i64 (z : Int)) (ql.1).symm)) rfl <| oP (P_lss (a := ((x11 : Nat) : Int)) (b := ((l.length : Nat) : Int)) rfl rfl) rfl <| nT <| CJ_condP rfl bT_dec (fun hg1 => ?_) (fun hg1 => ?_)
   ·
    replace h := ite_t hg1 h
    refine kT <| CJ_seq <| CJ_block <| CJ_region <| oM rfl rfl <| oM rfl rfl <| oM rfl rfl <| oV (V_index (i := x11) rfl rfl rfl (by have hz : x11 < l.length := (by omega); have hy := ql.1; omega) foc1 rl Try.runUnderlying62 Try.sizeOf29) rfl <| oV (V_loadE rfl rfl (by have hz : x11 < l.length := (by omega); have hy := ql.1; omega) foc1 rl rfl rfl Try.isAgg29) rfl <| oV (V_len rfl foc2 (ql.2 _ (by omega)) Try.runUnderlying29) rfl <| oO <| O_buildSlice rfl (bs_38_1_0 _) rfl fun b13 => ?_
    obtain ⟨hg2, h⟩ := grd_Le h
    refine oO <| O_append (t := tyI) (bytes := 8) rfl rfl del1 foc0 (Reads.lit (t := tyI) (ys := [(((l.getD x11 []).length : Nat) : Int)]) rfl rfl (by decide) (by decide) rfl) Try.underlying38 ok_tyI (apl (m := 1) (b := 8) hg2 (by decide)).1 (apl (m := 1) (b := 8) hg2 (by decide)).2 rfl fun p15 c16 => oA rfl rfl <| RJ_nil <| QJ_block_normal <| QJ_then <| CJ_region <| oM rfl rfl ?_
    obtain ⟨hg3, h⟩ := grd_Ne h
    exact oP (PJ_eq (P_add (a := ((x11 : Nat) : Int)) (b := (1 : Int)) rfl rfl (nat_in hg3)) rfl) rfl <| oA rfl rfl <| RJ_nil <| nR ⟨n, (x9 ++ [(((l.getD x11 []).length : Nat) : Int)]), (x11 + 1), ⟨p15, (x9 ++ [(((l.getD x11 []).length : Nat) : Int)]).length, c16⟩⟩ h ⟨rfl, rfl, True.intro⟩ (t0_ (t1_ (t1_ (eD eR))))
   ·
    replace h := ite_f hg1 h
    exact CJ_exit <| QJ_then_exit <| QJ_round_exit <| QJ_block_here <| cR ⟨x9, hd10⟩ (Option.some.inj h).symm ⟨rfl, True.intro⟩ eR
 ·
  rintro ⟨a8, hd7⟩ hy17
  replace h := bindK_at hK4 hy17
  show CJ _ _ _ _ _ (([(3, hd7.v)] : Slots) ++ forget _ _) (sl tyI hd7.v a8 :: _)
  refine lC del0 fun hlen18 => sR <| oM rfl rfl ?_
  obtain ⟨hg4, h⟩ := grd_Le h
  refine oO <| O_call (c_NewO (Reads.sl _ _ _) hg4) rfl Try.call69 (Dels.cons del0 Dels.nil) rfl fun X19 _ => oM rfl rfl <| oP (P_extract rfl rfl) rfl <| oP (P_extract rfl rfl) rfl <| oA rfl rfl <| oA rfl rfl <| nT <| CJ_seq <| sR <| oM rfl rfl <| oP (P_neq (a := (newC a8)) (b := (0 : Int)) rfl rfl) rfl <| oM rfl rfl <| RJ_mbF rfl rfl rfl (fun hG21 => have hP22 : ¬ ((newC a8) ≠ (0 : Int)) := nP (bT_dec) hG21; VJ_P (P_move rfl)) <| RJ_splitP 29 rfl bT_dec (fun hg5B hg5 => ?_) (fun hg5B hg5 => ?_)
  ·
   replace h := ite_t hg5 h
   refine RJ_gn (GY_no rfl rfl rfl hg5B) rfl rfl <| oP (P_pickT rfl hg5B rfl) rfl <| nT <| CJ_condT rfl rfl <| sR <| oA rfl rfl <| nT <| CJ_ret <| QJ_then_ret ?_
   cases h
   exact fE (res1 Try.results36 rfl) 0 (t2_ (t2_ (Ent.trans (fun h hh => optP_none h hh) <| t0_ (eD (eD eR)))))
  ·
   replace h := ite_f hg5 h
   rcases opt_e h with ⟨ht25, h⟩ | ⟨o26, ht25, h⟩
   ·
    rw [ht25]
    refine RJ_ent (t1_ (t1_ (t1_ (eD eR)))) <| gP (GY_yes rfl rfl rfl hg5B) (P_eqlNN (mbx (not_f hg5B) rfl) rfl Try.underlying24) rfl <| oP (P_pickF rfl hg5B rfl) rfl <| nT <| CJ_condT rfl rfl <| sR <| oA rfl rfl <| nT <| CJ_ret <| QJ_then_ret ?_
    cases h
    exact fE (res1 Try.results36 rfl) 0 (t1_ (t1_ (Ent.trans (fun h hh => optP_none h hh) <| t0_ (eD eR))))
   ·
    rw [ht25]
    refine RJ_ent (Ent.takeC (A' := Arr X19 o26) del0 rfl eR) <| gP (GY_yes rfl rfl rfl hg5B) (P_eqlPN (mbx (not_f hg5B) rfl) rfl Try.underlying24) rfl <| oP (P_pickF rfl hg5B rfl) rfl <| nT <| CJ_condF rfl rfl <| kT <| CJ_seq <| sR <| oA rfl rfl <| nT ?_
    obtain ⟨y29, hl27, hK28⟩ := seq_e h
    refine CJ_cutT (X := ArrS) [2, 7, 33, 34, 35, 36, 37, 38, 39, 40, 41, 42, 43, 44, 45, 46] (fun a31 => ([] : Slots)) (fun a31 R => Arr X19 a31 :: R) (fun a31 => y29 = .inl a31) (Dels.cons del0 Dels.nil) ?_ ?_
    ·
     refine CJ_block <| CJ_loopR (X := Nat × ArrS × Nat) [2, 7, 33, 34, 35, 36, 37, 38, 39, 40, 41, 42, 43, 44, 45, 46] (fun ⟨n, x32, x33⟩ => ([(7, .int .i64 (((x33 : Nat) : Int)))] : Slots)) (fun ⟨n, x32, x33⟩ R => Arr X19 x32 :: R) (fun ⟨n, x32, x33⟩ => volumegroupmake_Loaded_l2 l n x32 x33 = some y29) (fun ⟨n, x32, x33⟩ => n) ⟨FUEL, o26, 0⟩ ?_ ?_ eR ?_
     · exact hl27
     · exact ⟨rfl, True.intro⟩
     ·
      rintro ⟨n, x32, x33⟩ h
      cases n with
      | zero => exact none_e h
      | succ n => ?_
      replace h : volumegroupmake_Loaded_l2_b l (volumegroupmake_Loaded_l2 l n) x32 x33 = some y29 := h
      unfold volumegroupmake_Loaded_l2_b at h
      show CJ _ _ _ _ _ (([(7, .int .i64 (((x33 : Nat) : Int)))] : Slots) ++ forget _ _) (Arr X19 x32 :: _)
      refine CJ_seq <| sR <| oM rfl rfl <| oM rfl rfl <| oV (VJ_eq (V_len rfl foc2 rl Try.runUnderlying62) (congrArg (fun z : Nat => Value.int .i64 (z : Int)) (ql.1).symm)) rfl <| oP (P_lss (a := ((x33 : Nat) : Int)) (b := ((l.length : Nat) : Int)) rfl rfl) rfl <| nT <| CJ_condP rfl bT_dec (fun hg6 => ?_) (fun hg6 => ?_)
      ·
       replace h := ite_t hg6 h
       refine kT <| CJ_seq <| CJ_block <| sR <| oM rfl rfl <| oM rfl rfl <| oM rfl rfl <| oM rfl rfl <| oV (V_index (i := x33) rfl rfl rfl (by have hz : x33 < l.length := (by omega); have hy := ql.1; omega) foc2 rl Try.runUnderlying62 Try.sizeOf29) rfl <| oV (V_loadE rfl rfl (by have hz : x33 < l.length := (by omega); have hy := ql.1; omega) foc2 rl rfl rfl Try.isAgg29) rfl ?_
       obtain ⟨hg7, h⟩ := grd_Le h
       refine oO <| O_call (c_LoadD (ql.2 _ (by omega)) hg7) rfl Try.call53 (Dels.cons del0 (Dels.cons del2 Dels.nil)) rfl fun _ _ => oP (P_neq (a := (ldC x32 (((x33 : Nat) : Int)) (l.getD x33 []))) (b := (0 : Int)) rfl rfl) rfl <| nT <| CJ_condP rfl bT_dec (fun hg8 => ?_) (fun hg8 => ?_)
       ·
        replace h := ite_t hg8 h
        refine sR <| oA rfl rfl <| nT <| CJ_ret <| QJ_block_ret <| QJ_then_ret <| QJ_round_ret <| QJ_block_ret <| QJ_then_ret ?_
        have hE := Option.some.inj h
        replace hE := seq_inr hK28 hE.symm
        subst hE
        exact fE (res1 Try.results36 rfl) 0 (t3_ (t1_ (Ent.trans (fun h hh => optP_none h hh) <| t0_ (eD (eD eR)))))
       ·
        replace h := ite_f hg8 h
        refine CJ_skip <| QJ_block_normal <| QJ_then <| CJ_region <| oM rfl rfl ?_
        obtain ⟨hg9, h⟩ := grd_Ne h
        exact oP (PJ_eq (P_add (a := ((x33 : Nat) : Int)) (b := (1 : Int)) rfl rfl (nat_in hg9)) rfl) rfl <| oA rfl rfl <| RJ_nil <| nR ⟨n, (ldS x32 (((x33 : Nat) : Int)) (l.getD x33 [])), (x33 + 1)⟩ h ⟨rfl, True.intro⟩ (t0_ (t1_ (t1_ eR)))
      ·
       replace h := ite_f hg6 h
       exact CJ_exit <| QJ_then_exit <| QJ_round_exit <| QJ_block_here <| cR x32 (Option.some.inj h).symm True.intro eR
    ·
     rintro a31 hy34
     replace h := seq_inl hK28 hy34
     show CJ _ _ _ _ _ (([] : Slots) ++ forget _ _) (Arr X19 a31 :: _)
     refine sR <| oM rfl rfl <| oA rfl rfl <| nT <| CJ_ret ?_
     cases h
     exact fE (res1 Try.results36 rfl) X19 (t2_ (t2_ (t0_ (eD eR))))
def block_Span (a : ArrS) (d : Int) (start : Int) (length : Int) : Option ((Option Dvc) × Int) :=
  if (length < (1 : Int)) then
    some ((none, (1 : Int)))
  else
    Option.bind (block_inside (sizeI a d) start length) fun r1 =>
    if (¬ r1 = true) then
      some ((none, (1 : Int)))
    else
      some (((some (Dvc.span d start length)), (0 : Int)))
theorem L_block_Span {W : World} {ba : Nat} {a : ArrS} {d : Int} {start : Int} {length : Int} {r : (Option Dvc) × Int} (h : block_Span a d start length = some r) :
    CSpec Try.prog W 71 [ptr ba 0, .int .i64 d, .int .i64 start, .int .i64 length] [Arr ba a] (fun x : IfH => .tuple #[oif r.1 x, .int .i64 r.2]) (fun _ => True) (fun x F => Arr ba a :: optP (DevP ba · x) r.1 :: F) := by
 refine CSpec.of_body Try.func71 rfl Try.ntmps71 rfl fun F => ?_
 show CJ _ _ _ _ _ _ (_ :: F)
 unfold block_Span at h
 refine sR <| oA rfl rfl <| oA rfl rfl <| nT <| CJ_seq <| sR <| oM rfl rfl <| oP (P_lss (a := length) (b := (1 : Int)) rfl rfl) rfl <| oM rfl rfl <| RJ_splitP 12 rfl bT_dec (fun hg1B hg1 => ?_) (fun hg1B hg1 => ?_)
 ·
  replace h := ite_t hg1 h
  refine RJ_gn (GY_no rfl rfl rfl hg1B) rfl rfl <| RJ_gn (GY_no rfl rfl rfl hg1B) rfl rfl <| RJ_gn (GY_no rfl rfl rfl hg1B) rfl rfl <| RJ_gn (GY_no rfl rfl rfl hg1B) rfl rfl <| RJ_gn (GY_no rfl rfl rfl hg1B) rfl rfl <| RJ_gn (GY_no rfl rfl rfl hg1B) rfl rfl <| RJ_gn (GY_no rfl rfl rfl hg1B) rfl rfl <| oP (P_pickT rfl hg1B rfl) rfl <| nT <| CJ_condT rfl rfl <| sR <| oA rfl rfl <| oA rfl rfl <| nT <| CJ_ret <| QJ_then_ret ?_
  cases h
  exact fE (res2 Try.results71 rfl rfl) ⟨0, .bool false⟩ (t0_ (Ent.trans (fun h hh => optP_none h hh) <| t0_ eR))
 ·
  replace h := ite_f hg1 h
  refine gP (GY_yes rfl rfl rfl hg1B) (P_move rfl) rfl <| gP (GY_yes rfl rfl rfl hg1B) (P_move rfl) rfl <| RJ_gy (GY_yes rfl rfl rfl hg1B) <| O_call (c_SizeD) rfl Try.call72 (Dels.cons del0 Dels.nil) rfl fun _ _ => gP (GY_yes rfl rfl rfl hg1B) (P_move rfl) rfl <| gP (GY_yes rfl rfl rfl hg1B) (P_move rfl) rfl ?_
  obtain ⟨r1, hr2, h⟩ := bind_e h
  refine RJ_gy (GY_yes rfl rfl rfl hg1B) <| O_call (L_block_inside hr2) rfl Try.call88 Dels.nil rfl fun _ _ => gP (GY_yes rfl rfl rfl hg1B) (P_not rfl) rfl <| oP (P_pickF rfl hg1B rfl) rfl <| nT <| CJ_condP rfl (bT_not Iff.rfl) (fun hg2 => ?_) (fun hg2 => ?_)
  ·
   replace h := ite_t hg2 h
   refine sR <| oA rfl rfl <| oA rfl rfl <| nT <| CJ_ret <| QJ_then_ret ?_
   cases h
   exact fE (res2 Try.results71 rfl rfl) ⟨0, .bool false⟩ (t0_ (Ent.trans (fun h hh => optP_none h hh) <| t0_ eR))
  ·
   replace h := ite_f hg2 h
   refine kT <| sR <| oM rfl rfl <| oM rfl rfl <| oM rfl rfl <| oM rfl rfl <| oP (P_build rfl (bld_161_0_1_2_3 _ _ _ _)) rfl <| oO <| O_box rfl rfl rfl fun b3 => RJ_share del0 <| oP (P_makeIface rfl Try.runUnderlying159 (by intro ms h; cases h)) rfl <| RJ_ent (Ent.trans (t0_ eR) (DevP_mk (a := ba) (x := (Dvc.span d start length)) (h := (⟨159, ptr b3 0⟩ : IfH)) (ok_Dvc_span))) <| oA rfl rfl <| oA rfl rfl <| nT <| CJ_ret ?_
   cases h
   exact fE (res2 Try.results71 rfl rfl) ((⟨159, ptr b3 0⟩ : IfH)) (t1_ eR)
def volumegroupmake_Spans_l1_b (a : ArrS) (rec : (List Dvc) → Nat → Option (((List Dvc)) ⊕ (List Dvc))) (x10 : List Dvc) (x13 : Nat) : Option (((List Dvc)) ⊕ (List Dvc)) :=
  if (((x13 : Nat) : Int) < ((a.drv.length : Nat) : Int)) then
    Option.bind (block_Span a (((x13 : Nat) : Int)) (0 : Int) ((sizeI a (((x13 : Nat) : Int))))) fun r16 =>
    if (r16.2 ≠ (0 : Int)) then
      some (.inr ([] : List Dvc))
    else
      Option.elim r16.1 (
        some (.inr ([] : List Dvc))) fun o27 =>
      grd (inLen (x10.length + 1)) <|
      grd (inN64 (x13 + 1)) <|
      rec (x10 ++ [o27]) (x13 + 1)
  else
    some (.inl x10)
def volumegroupmake_Spans_l1 (a : ArrS) : Nat → (List Dvc) → Nat → Option (((List Dvc)) ⊕ (List Dvc))
  | 0, _, _ => none
  | n + 1, x10, x13 => volumegroupmake_Spans_l1_b a (volumegroupmake_Spans_l1 a n) x10 x13
def volumegroupmake_Spans (a : ArrS) : Option ((List Dvc)) :=
  seqO (volumegroupmake_Spans_l1 a FUEL ([] : List Dvc) 0) fun a9 =>
  some a9
theorem L_volumegroupmake_Spans {W : World} {ba : Nat} {a : ArrS} {r : (List Dvc)} (h : volumegroupmake_Spans a = some r) :
    CSpec Try.prog W 37 [ptr ba 0] [Arr ba a] (fun x : (Sl3 × List IfH) => x.1.v) (fun _ => True) (fun x F => Arr ba a :: sl tyDev x.1.v x.2 :: Rs (DevP ba) r x.2 :: F) := by
 refine CSpec.of_body Try.func37 rfl Try.ntmps37 rfl fun F => ?_
 show CJ _ _ _ _ _ _ (_ :: F)
 unfold volumegroupmake_Spans at h
 refine sR <| oA rfl rfl <| nT <| sR <| oA rfl rfl <| nT <| CJ_seq <| sR <| oA rfl rfl <| nT <| CJ_ent (fun h hh => sl_nil (t := tyDev) h (rs_nil (RP := DevP ba) h hh)) ?_
 obtain ⟨y5, hl3, hK4⟩ := seq_e h
 refine CJ_cutT (X := (List Dvc) × Sl3 × (List IfH)) [2, 3, 4, 5, 6, 7, 8, 9, 10, 11, 12, 13, 14, 15, 16, 17, 18, 19, 20, 21, 22, 23, 24, 25, 26, 27, 28, 29, 30, 31] (fun ⟨a9, hd7, hs8⟩ => ([(3, hd7.v)] : Slots)) (fun ⟨a9, hd7, hs8⟩ R => sl tyDev hd7.v hs8 :: Rs (DevP ba) a9 hs8 :: R) (fun ⟨a9, hd7, hs8⟩ => y5 = .inl a9) (Dels.cons del0 (Dels.cons del0 Dels.nil)) ?_ ?_
 ·
  refine CJ_block <| CJ_loopR (X := Nat × (List Dvc) × Nat × Sl3 × (List IfH)) [2, 3, 4, 5, 6, 7, 8, 9, 10, 11, 12, 13, 14, 15, 16, 17, 18, 19, 20, 21, 22, 23, 24, 25, 26, 27, 28, 29, 30, 31] (fun ⟨n, x10, x13, hd11, hs12⟩ => ([(3, hd11.v), (4, .int .i64 (((x13 : Nat) : Int)))] : Slots)) (fun ⟨n, x10, x13, hd11, hs12⟩ R => sl tyDev hd11.v hs12 :: Rs (DevP ba) x10 hs12 :: R) (fun ⟨n, x10, x13, hd11, hs12⟩ => volumegroupmake_Spans_l1 a n x10 x13 = some y5) (fun ⟨n, x10, x13, hd11, hs12⟩ => n) ⟨FUEL, ([] : List Dvc), 0, ⟨none, 0, 0⟩, ([] : List IfH)⟩ ?_ ?_ eR ?_
  · exact hl3
  · exact ⟨rfl, rfl, True.intro⟩
  ·
   rintro ⟨n, x10, x13, hd11, hs12⟩ h
   cases n with
   | zero => exact none_e h
   | succ n => ?_
   replace h : volumegroupmake_Spans_l1_b a (volumegroupmake_Spans_l1 a n) x10 x13 = some y5 := h
   unfold volumegroupmake_Spans_l1_b at h
   show CJ _ _ _ _ _ (([(3, hd11.v), (4, .int .i64 (((x13 : Nat) : Int)))] : Slots) ++ forget _ _) (sl tyDev hd11.v hs12 :: Rs (DevP ba) x10 hs12 :: _)
   refine lC del0 fun hlen14 => CJ_pure (fun h hh => Rs_len (stars_perm (del1 (A := Rs (DevP ba) x10 hs12)).out h hh)) fun hdl15 => CJ_seq <| sR <| oM rfl rfl <| oM rfl rfl <| oO <| O_call (c_CountD) rfl Try.call70 (Dels.cons del2 Dels.nil) rfl fun _ _ => oP (P_lss (a := ((x13 : Nat) : Int)) (b := ((a.drv.length : Nat) : Int)) rfl rfl) rfl <| nT <| CJ_condP rfl bT_dec (fun hg1 => ?_) (fun hg1 => ?_)
   ·
    replace h := ite_t hg1 h
    refine kT <| CJ_seq <| CJ_block <| sR <| oM rfl rfl <| oM rfl rfl <| oM rfl rfl <| oM rfl rfl <| oO <| O_call (c_SizeD) rfl Try.call72 (Dels.cons del0 Dels.nil) rfl fun _ _ => ?_
    obtain ⟨r16, hr17, h⟩ := bind_e h
    refine oO <| O_call (L_block_Span hr17) rfl Try.call71 (Dels.cons del0 Dels.nil) rfl fun X18 _ => oM rfl rfl <| oP (P_extract rfl rfl) rfl <| oP (P_extract rfl rfl) rfl <| oA rfl rfl <| oA rfl rfl <| nT <| CJ_seq <| sR <| oM rfl rfl <| oP (P_neq (a := r16.2) (b := (0 : Int)) rfl rfl) rfl <| oM rfl rfl <| RJ_mbF rfl rfl rfl (fun hG20 => have hP21 : ¬ (r16.2 ≠ (0 : Int)) := nP (bT_dec) hG20; VJ_P (P_move rfl)) <| RJ_splitP 24 rfl bT_dec (fun hg2B hg2 => ?_) (fun hg2B hg2 => ?_)
    ·
     replace h := ite_t hg2 h
     refine RJ_gn (GY_no rfl rfl rfl hg2B) rfl rfl <| oP (P_pickT rfl hg2B rfl) rfl <| nT <| CJ_condT rfl rfl <| sR <| oA rfl rfl <| nT <| CJ_ret <| QJ_then_ret <| QJ_block_ret <| QJ_then_ret <| QJ_round_ret <| QJ_block_ret <| QJ_then_ret <| QJ_ent (fun h hh => sl_nil (t := tyDev) h (rs_nil (RP := DevP ba) h hh)) ?_
     have hE := Option.some.inj h
     replace hE := seq_inr hK4 hE.symm
     subst hE
     exact fE (res1 Try.results37 rfl) ((⟨none, 0, 0⟩, ([] : List IfH))) (t2_ (t0_ (t0_ (eD (eD (eD eR))))))
    ·
     replace h := ite_f hg2 h
     rcases opt_e h with ⟨ht26, h⟩ | ⟨o27, ht26, h⟩
     ·
      rw [ht26]
      refine RJ_ent (t0_ (t1_ (t1_ (eD eR)))) <| gP (GY_yes rfl rfl rfl hg2B) (P_eqlIN (mbx (not_f hg2B) rfl) Try.underlying26) rfl <| oP (P_pickF rfl hg2B rfl) rfl <| nT <| CJ_condT rfl rfl <| sR <| oA rfl rfl <| nT <| CJ_ret <| QJ_then_ret <| QJ_block_ret <| QJ_then_ret <| QJ_round_ret <| QJ_block_ret <| QJ_then_ret <| QJ_ent (fun h hh => sl_nil (t := tyDev) h (rs_nil (RP := DevP ba) h hh)) ?_
      have hE := Option.some.inj h
      replace hE := seq_inr hK4 hE.symm
      subst hE
      exact fE (res1 Try.results37 rfl) ((⟨none, 0, 0⟩, ([] : List IfH))) (t2_ (t0_ (t0_ (eD (eD eR)))))
     ·
      rw [ht26]
      refine RJ_ent (Ent.takeC (A' := DevP ba o27 X18) del1 rfl eR) <| gP (GY_yes rfl rfl rfl hg2B) (P_eqlIfN (mbx (not_f hg2B) rfl) rfl Try.underlying26) rfl <| oP (P_pickF rfl hg2B rfl) rfl <| nT <| CJ_condF rfl rfl <| kT <| CJ_region <| oM rfl rfl <| oM rfl rfl <| oO <| O_buildSlice rfl (bs_67_1_0 _ _) rfl fun b30 => ?_
      obtain ⟨hg3, h⟩ := grd_Le h
      refine oO <| O_append (t := tyDev) (bytes := 16) rfl rfl del3 foc0 (Reads.lit (t := tyDev) (ys := [X18]) rfl rfl (by decide) (by decide) rfl) Try.underlying67 ok_tyDev (apl (m := 1) (b := 16) (by have hz : _ ≤ 1000000000 := hg3; have := hdl15; omega) (by decide)).1 (apl (m := 1) (b := 16) (by have hz : _ ≤ 1000000000 := hg3; have := hdl15; omega) (by decide)).2 rfl fun p32 c33 => RJ_ent (Ent.trans (t4_ (t2_ eR)) (Rs_push (x := o27) (g := X18) (fun _ _ => Dup_DevP))) <| RJ_pure (fun h hh => Rs_len (stars_perm (del0 (A := Rs (DevP ba) (x10 ++ [o27]) (hs12 ++ [X18]))).out h hh)) fun hdl34 => oA rfl rfl <| RJ_nil <| QJ_block_normal <| QJ_then <| CJ_region <| oM rfl rfl ?_
      obtain ⟨hg4, h⟩ := grd_Ne h
      exact oP (PJ_eq (P_add (a := ((x13 : Nat) : Int)) (b := (1 : Int)) rfl rfl (nat_in hg4)) rfl) rfl <| oA rfl rfl <| RJ_nil <| nR ⟨n, (x10 ++ [o27]), (x13 + 1), ⟨p32, (hs12 ++ [X18]).length, c33⟩, (hs12 ++ [X18])⟩ h ⟨rfl, rfl, True.intro⟩ (t2_ (t0_ (t2_ (eD (eD eR)))))
   ·
    replace h := ite_f hg1 h
    exact CJ_exit <| QJ_then_exit <| QJ_round_exit <| QJ_block_here <| cR ⟨x10, hd11, hs12⟩ (Option.some.inj h).symm ⟨rfl, True.intro⟩ (t1_ (t1_ eR))
 ·
  rintro ⟨a9, hd7, hs8⟩ hy35
  replace h := seq_inl hK4 hy35
  show CJ _ _ _ _ _ (([(3, hd7.v)] : Slots) ++ forget _ _) (sl tyDev hd7.v hs8 :: Rs (DevP ba) a9 hs8 :: _)
  refine lC del0 fun hlen36 => CJ_pure (fun h hh => Rs_len (stars_perm (del1 (A := Rs (DevP ba) a9 hs8)).out h hh)) fun hdl37 => sR <| oM rfl rfl <| oA rfl rfl <| nT <| CJ_ret ?_
  cases h
  exact fE (res1 Try.results37 rfl) (hd7, hs8) (t2_ eR)
def volumegroupmake_Keep_l1_b (w : UInt64) (rec : (List Bool) → Nat → Option ((List Bool))) (x8 : List Bool) (x10 : Nat) : Option ((List Bool)) :=
  if (((x10 : Nat) : Int) < (192 : Int)) then
    grd (inLen (x8.length + 1)) <|
    rec ((x8 ++ [(decide (((shr_u64 w (x10 % 64)) &&& (1 : UInt64)) = (1 : UInt64)))])) (x10 + 1)
  else
    some x8
def volumegroupmake_Keep_l1 (w : UInt64) : Nat → (List Bool) → Nat → Option ((List Bool))
  | 0, _, _ => none
  | n + 1, x8, x10 => volumegroupmake_Keep_l1_b w (volumegroupmake_Keep_l1 w n) x8 x10
def volumegroupmake_Keep (w : UInt64) : Option ((List Bool)) :=
  Option.bind (volumegroupmake_Keep_l1 w FUEL ([]) 0) fun a7 =>
  some a7
theorem L_volumegroupmake_Keep {W : World} {w : UInt64} {r : (List Bool)} (h : volumegroupmake_Keep w = some r) :
    CSpec Try.prog W 24 [.int .u64 (w.toNat : Int)] [] (fun x : Sl3 => x.v) (fun _ => True) (fun x F => sl tyB x.v r :: F) := by
 refine CSpec.of_body Try.func24 rfl Try.ntmps24 rfl fun F => ?_
 show CJ _ _ _ _ _ _ (F)
 unfold volumegroupmake_Keep at h
 refine sR <| oA rfl rfl <| nT <| sR <| oA rfl rfl <| nT <| CJ_seq <| sR <| oA rfl rfl <| nT <| CJ_ent (fun h hh => sl_nil (t := tyB) h hh) ?_
 obtain ⟨y4, hl2, hK3⟩ := bind_c h
 refine CJ_cutT (X := (List Bool) × Sl3) [3, 4, 5, 6, 7, 8, 9, 10, 11, 12, 13, 14, 15, 16, 17] (fun ⟨a7, hd6⟩ => ([(3, hd6.v)] : Slots)) (fun ⟨a7, hd6⟩ R => sl tyB hd6.v a7 :: R) (fun ⟨a7, hd6⟩ => y4 = a7) (Dels.cons del0 Dels.nil) ?_ ?_
 ·
  refine CJ_block <| CJ_loopR (X := Nat × (List Bool) × Nat × Sl3) [3, 4, 5, 6, 7, 8, 9, 10, 11, 12, 13, 14, 15, 16, 17] (fun ⟨n, x8, x10, hd9⟩ => ([(3, hd9.v), (4, .int .i64 (((x10 : Nat) : Int)))] : Slots)) (fun ⟨n, x8, x10, hd9⟩ R => sl tyB hd9.v x8 :: R) (fun ⟨n, x8, x10, hd9⟩ => volumegroupmake_Keep_l1 w n x8 x10 = some y4) (fun ⟨n, x8, x10, hd9⟩ => n) ⟨FUEL, [], 0, ⟨none, 0, 0⟩⟩ ?_ ?_ eR ?_
  · exact hl2
  · exact ⟨rfl, rfl, True.intro⟩
  ·
   rintro ⟨n, x8, x10, hd9⟩ h
   cases n with
   | zero => exact none_e h
   | succ n => ?_
   replace h : volumegroupmake_Keep_l1_b w (volumegroupmake_Keep_l1 w n) x8 x10 = some y4 := h
   unfold volumegroupmake_Keep_l1_b at h
   show CJ _ _ _ _ _ (([(3, hd9.v), (4, .int .i64 (((x10 : Nat) : Int)))] : Slots) ++ forget _ _) (sl tyB hd9.v x8 :: _)
   refine lC del0 fun hlen11 => CJ_seq <| sR <| oM rfl rfl <| oP (P_lss (a := ((x10 : Nat) : Int)) (b := (192 : Int)) rfl rfl) rfl <| nT <| CJ_condP rfl bT_dec (fun hg1 => ?_) (fun hg1 => ?_)
   ·
    replace h := ite_t hg1 h
    refine kT <| CJ_seq <| CJ_block <| CJ_region <| oM rfl rfl <| oM rfl rfl <| oM rfl rfl <| oP (PJ_eq (P_rem (a := ((x10 : Nat) : Int)) (b := (64 : Int)) rfl rfl (by omega)) rfl) rfl <| oP (P_shr_u64 (a := w) (m := (x10 % 64)) rfl rfl rfl) rfl <| oP (P_and_u64 (a := (shr_u64 w (x10 % 64))) (b := (1 : UInt64)) rfl rfl) rfl <| oP (P_eq_u64 (a := ((shr_u64 w (x10 % 64)) &&& (1 : UInt64))) (b := (1 : UInt64)) rfl rfl) rfl <| oO <| O_buildSlice rfl (bs_47_1_0 _) rfl fun b12 => ?_
    obtain ⟨hg2, h⟩ := grd_Le h
    exact oO <| O_append (t := tyB) (bytes := 1) rfl rfl del1 foc0 (Reads.lit (t := tyB) (ys := [(decide (((shr_u64 w (x10 % 64)) &&& (1 : UInt64)) = (1 : UInt64)))]) rfl rfl (by decide) (by decide) rfl) Try.underlying47 ok_tyB (apl (m := 1) (b := 1) hg2 (by decide)).1 (apl (m := 1) (b := 1) hg2 (by decide)).2 rfl fun p14 c15 => oA rfl rfl <| RJ_nil <| QJ_block_normal <| QJ_then <| CJ_region <| oM rfl rfl <| oP (PJ_eq (P_add (a := ((x10 : Nat) : Int)) (b := (1 : Int)) rfl rfl (by omega)) rfl) rfl <| oA rfl rfl <| RJ_nil <| nR ⟨n, (x8 ++ [(decide (((shr_u64 w (x10 % 64)) &&& (1 : UInt64)) = (1 : UInt64)))]), (x10 + 1), ⟨p14, (x8 ++ [(decide (((shr_u64 w (x10 % 64)) &&& (1 : UInt64)) = (1 : UInt64)))]).length, c15⟩⟩ h ⟨rfl, rfl, True.intro⟩ (t0_ (eD eR))
   ·
    replace h := ite_f hg1 h
    exact CJ_exit <| QJ_then_exit <| QJ_round_exit <| QJ_block_here <| cR ⟨x8, hd9⟩ (Option.some.inj h).symm ⟨rfl, True.intro⟩ eR
 ·
  rintro ⟨a7, hd6⟩ hy16
  replace h := bindK_at hK3 hy16
  show CJ _ _ _ _ _ (([(3, hd6.v)] : Slots) ++ forget _ _) (sl tyB hd6.v a7 :: _)
  refine lC del0 fun hlen17 => sR <| oM rfl rfl <| oA rfl rfl <| nT <| CJ_ret ?_
  cases h
  exact fE (res1 Try.results24 rfl) hd6 eR
end Go.Proofs
namespace Go.Proofs
open Go.VG
def mkS (ims : List (List UInt64)) : ArrS := ⟨ims.map (fun im => ⟨im, im, false⟩), [], [], 0, false, 0⟩
theorem inLen_of {n : Nat} (h : n ≤ 1000000000) : inLen n = true := inLen_iff.2 h
theorem inN64_of {n : Nat} (h : n ≤ 9000000000000000000) : inN64 n = true := inN64_iff.2 (by omega)
theorem grd_t {α : Type} {b : Bool} {o : Option α} (h : b = true) : grd b o = o := by rw [h]; rfl
def lensI (l : List (List UInt64)) : List Int := l.map fun im => (im.length : Int)
theorem getD_take_snoc {α : Type} {l : List α} {i : Nat} {d : α} (h : i < l.length) : l.take (i + 1) = l.take i ++ [l.getD i d] := by
  rw [List.take_succ_eq_append_getElem h]; simp [List.getD, h]
theorem loaded_l1 {l : List (List UInt64)} (h8 : l.length ≤ 1000) : ∀ (N i : Nat) (acc : List Int), l.length - i < N → i ≤ l.length → acc = lensI (l.take i) →
    volumegroupmake_Loaded_l1 l N acc i = some (lensI l)
  | 0, _, _, h, _, _ => absurd h (by omega)
  | N + 1, i, acc, h, hi, ha => by
    show volumegroupmake_Loaded_l1_b _ _ _ _ = _
    unfold volumegroupmake_Loaded_l1_b
    subst ha
    by_cases hlt : i < l.length
    · rw [if_pos (by omega), grd_t (inLen_of (by simp [lensI]; omega)), grd_t (inN64_of (by omega))]
      refine loaded_l1 h8 N (i + 1) _ (by omega) (by omega) ?_
      rw [getD_take_snoc (d := []) hlt]; simp [lensI]
    · rw [if_neg (by omega)]
      have : i = l.length := by omega
      rw [this, List.take_length]
def ldDrv (l : List (List UInt64)) (i : Nat) : List Drive := (l.take i).map (fun im => ⟨im, im, false⟩) ++ (lensI (l.drop i)).map mkD
theorem loaded_l2 {l : List (List UInt64)} (h8 : l.length ≤ 8) (hz : ∀ im ∈ l, 1 ≤ im.length ∧ im.length ≤ 65536) : ∀ (N i : Nat) (x : ArrS), l.length - i < N → i ≤ l.length → x = ⟨ldDrv l i, [], [], 0, false, 0⟩ →
    volumegroupmake_Loaded_l2 l N x i = some (.inl (mkS l))
  | 0, _, _, h, _, _ => absurd h (by omega)
  | N + 1, i, x, h, hi, hx => by
    show volumegroupmake_Loaded_l2_b _ _ _ _ = _
    unfold volumegroupmake_Loaded_l2_b
    subst hx
    by_cases hlt : i < l.length
    · have hlen : (ldDrv l i).length = l.length := by simp [ldDrv, lensI]; omega
      have hin : inR ⟨ldDrv l i, [], [], 0, false, 0⟩ (i : Int) := by unfold inR; simp only [hlen]; omega
      have hg : (ldDrv l i).getD i d0 = mkD ((l.getD i []).length : Int) := by
        unfold ldDrv
        have e1 : ((l.take i).map (fun im => (⟨im, im, false⟩ : Drive))).length = i := by simp; omega
        simp only [List.getD]
        rw [List.getElem?_append_right (by omega), e1, Nat.sub_self, List.drop_eq_getElem_cons hlt]; simp [lensI, hlt]
      have hc : ldC ⟨ldDrv l i, [], [], 0, false, 0⟩ (i : Int) (l.getD i []) = 0 := by
        unfold ldC; rw [if_pos hin]; simp only [Int.toNat_natCast, hg]
        rw [if_pos (by simp [mkD])]
      rw [if_pos (by omega), grd_t (inLen_of (by simp)), if_neg (by rw [hc]; simp), grd_t (inN64_of (by omega))]
      refine loaded_l2 h8 hz N (i + 1) _ (by omega) (by omega) ?_
      have hC : ldS ⟨ldDrv l i, [], [], 0, false, 0⟩ (i : Int) (l.getD i []) = ⟨ldDrv l (i + 1), [], [], 0, false, 0⟩ := by
        unfold ldS; rw [if_pos hc]
        have hd : ∀ n, delUpTo [] (i : Int) n = [] := fun n => by
          induction n with
          | zero => rfl
          | succ n ih => rw [← delUpTo_step, ih]; rfl
        simp only [Int.toNat_natCast, hg, hd, List.filter_nil]
        congr 1
        unfold ldDrv
        rw [getD_take_snoc (d := []) hlt, List.drop_eq_getElem_cons hlt]
        have e1 : ((l.take i).map (fun im => (⟨im, im, false⟩ : Drive))).length = i := by simp; omega
        rw [List.set_append_right _ _ (by omega), e1, Nat.sub_self]
        simp only [lensI, List.map_cons, List.set_cons_zero, List.map_append, List.map_nil, List.append_assoc, List.cons_append, List.nil_append]
        rfl
      exact hC
    · rw [if_neg (by omega)]
      have : i = l.length := by omega
      rw [this]; simp [ldDrv, mkS, lensI]
theorem loaded_eq {l : List (List UInt64)} (h8 : l.length ≤ 8) (hz : ∀ im ∈ l, 1 ≤ im.length ∧ im.length ≤ 65536) : volumegroupmake_Loaded l = some (some (mkS l)) := by
  unfold volumegroupmake_Loaded
  have hF := fuel_big
  generalize FUEL = N at hF ⊢
  rw [loaded_l1 (by omega) N 0 [] (by omega) (by omega) (by simp [lensI])]
  have hN : newB (lensI l) = true := by
    unfold newB
    rw [Bool.and_eq_true, Nat.ble_eq, List.all_eq_true]
    refine ⟨by simpa [lensI] using h8, fun z hz' => ?_⟩
    obtain ⟨im, him, rfl⟩ := List.mem_map.1 hz'
    have := hz im him
    simp; omega
  simp only [Option.bind_some]
  rw [grd_t (inLen_of (by simp [lensI]; omega))]
  have hnc : newC (lensI l) = 0 := by unfold newC; rw [if_pos hN]
  have hno : newO (lensI l) = some (newS (lensI l)) := by unfold newO; rw [if_pos hN]
  rw [if_neg (by rw [hnc]; simp), hno]
  simp only [Option.elim]
  rw [loaded_l2 h8 hz N 0 _ (by omega) (by omega) (by simp [newS, ldDrv])]
  rfl
end Go.Proofs
namespace Go.Proofs
open Go.VG
def tb (w : UInt64) (i : Nat) : Bool := w.toNat.testBit i
theorem tb_ge {w : UInt64} {i : Nat} (h : 64 ≤ i) : tb w i = false := by
  refine Nat.testBit_lt_two_pow (Nat.lt_of_lt_of_le w.toNat_lt ?_)
  exact Nat.pow_le_pow_right (by omega) h
theorem tb8_ge {b : UInt8} {i : Nat} (h : 8 ≤ i) : b.toNat.testBit i = false := by
  refine Nat.testBit_lt_two_pow (Nat.lt_of_lt_of_le b.toNat_lt ?_)
  exact Nat.pow_le_pow_right (by omega) h
theorem tb_ext {a b : UInt64} (h : ∀ i, i < 64 → tb a i = tb b i) : a = b := by
  refine UInt64.toNat_inj.1 (Nat.eq_of_testBit_eq fun i => ?_)
  rcases Nat.lt_or_ge i 64 with h1 | h1
  · exact h i h1
  · exact (tb_ge h1).trans (tb_ge h1).symm
theorem tb8_ext {a b : UInt8} (h : ∀ i, i < 8 → a.toNat.testBit i = b.toNat.testBit i) : a = b := by
  refine UInt8.toNat_inj.1 (Nat.eq_of_testBit_eq fun i => ?_)
  rcases Nat.lt_or_ge i 8 with h1 | h1
  · exact h i h1
  · exact (tb8_ge h1).trans (tb8_ge h1).symm
theorem tb_or (a b : UInt64) (i : Nat) : tb (a ||| b) i = (tb a i || tb b i) := by unfold tb; rw [UInt64.toNat_or, Nat.testBit_or]
theorem tb_and (a b : UInt64) (i : Nat) : tb (a &&& b) i = (tb a i && tb b i) := by unfold tb; rw [UInt64.toNat_and, Nat.testBit_and]
theorem tb_shl (a : UInt64) {m i : Nat} (hm : m ≤ 64) : tb (shl_u64 a m) i = (decide (i < 64) && (decide (m ≤ i) && tb a (i - m))) := by
  unfold tb
  rw [shl_u64_toNat, Nat.min_eq_left hm, show (18446744073709551616 : Nat) = 2 ^ 64 from rfl, Nat.testBit_mod_two_pow, ← Nat.shiftLeft_eq, Nat.testBit_shiftLeft]
theorem tb_shr (a : UInt64) {m : Nat} (i : Nat) (hm : m ≤ 64) : tb (shr_u64 a m) i = tb a (m + i) := by
  unfold tb
  rw [shr_u64_toNat, Nat.min_eq_left hm, ← Nat.shiftRight_eq_div_pow, Nat.testBit_shiftRight]
theorem tb_u8 (b : UInt8) (i : Nat) : tb (to_u64 (b.toNat : Int)) i = b.toNat.testBit i := by
  have h := to_u64_toNat (b.toNat : Int); have := b.toNat_lt
  unfold tb
  rw [show (to_u64 (b.toNat : Int)).toNat = b.toNat by omega]
theorem tb_zero (i : Nat) : tb 0 i = false := Nat.zero_testBit i
def byteOf (w : UInt64) (j : Nat) : UInt8 := to_u8 ((shr_u64 w (8 * j)).toNat : Int)
theorem tb_byteOf (w : UInt64) {j : Nat} (i : Nat) (hj : j < 8) : (byteOf w j).toNat.testBit i = (decide (i < 8) && tb w (8 * j + i)) := by
  have h := to_u8_toNat ((shr_u64 w (8 * j)).toNat : Int)
  unfold byteOf
  rw [show (to_u8 ((shr_u64 w (8 * j)).toNat : Int)).toNat = (shr_u64 w (8 * j)).toNat % 2 ^ 8 by omega, Nat.testBit_mod_two_pow]
  rw [show (shr_u64 w (8 * j)).toNat.testBit i = tb (shr_u64 w (8 * j)) i from rfl, tb_shr w i (by omega)]
def wordK (f : Nat → UInt8) : Nat → UInt64
  | 0 => 0
  | k + 1 => wordK f k ||| shl_u64 (to_u64 ((f k).toNat : Int)) (8 * k)
abbrev wordB (f : Nat → UInt8) : UInt64 := wordK f 8
theorem tb_wordK (f : Nat → UInt8) : ∀ (k i : Nat), k ≤ 8 → tb (wordK f k) i = (decide (i < 8 * k) && (f (i / 8)).toNat.testBit (i % 8))
  | 0, i, _ => by simp [wordK, tb_zero]
  | k + 1, i, h => by
    unfold wordK
    rw [tb_or, tb_wordK f k i (by omega), tb_shl _ (by omega), tb_u8]
    rcases Nat.lt_or_ge i (8 * k) with h1 | h1
    · simp [h1, show i < 8 * (k + 1) by omega, show ¬ 8 * k ≤ i by omega]
    · rcases Nat.lt_or_ge i (8 * (k + 1)) with h2 | h2
      · rw [show i / 8 = k by omega, show i % 8 = i - 8 * k by omega]
        simp [show ¬ i < 8 * k by omega, h2, h1, show i < 64 by omega]
      · rw [tb8_ge (i := i - 8 * k) (by omega)]
        simp [show ¬ i < 8 * k by omega, show ¬ i < 8 * (k + 1) by omega]
theorem tb_wordB (f : Nat → UInt8) {i : Nat} (h : i < 64) : tb (wordB f) i = (f (i / 8)).toNat.testBit (i % 8) := by
  rw [tb_wordK f 8 i (by omega)]; simp [show i < 8 * 8 by omega]
theorem byteOf_wordB (f : Nat → UInt8) {j : Nat} (hj : j < 8) : byteOf (wordB f) j = f j := by
  refine tb8_ext fun i hi => ?_
  rw [tb_byteOf _ _ hj, tb_wordB f (by omega), show (8 * j + i) / 8 = j by omega, show (8 * j + i) % 8 = i by omega]
  simp [hi]
theorem wordB_inj {f g : Nat → UInt8} : wordB f = wordB g ↔ ∀ j, j < 8 → f j = g j := by
  constructor
  · intro h j hj
    rw [← byteOf_wordB f hj, h, byteOf_wordB g hj]
  · intro h
    refine tb_ext fun i hi => ?_
    rw [tb_wordB _ hi, tb_wordB _ hi, h _ (by omega)]
theorem wordB_put {f : Nat → UInt8} {j : Nat} {b : UInt8} (hj : j < 8) (h0 : f j = 0) : wordB f ||| shl_u64 (to_u64 (b.toNat : Int)) (8 * j) = wordB (fun k => if k = j then b else f k) := by
  refine tb_ext fun i hi => ?_
  rw [tb_or, tb_wordB _ hi, tb_wordB _ hi, tb_shl _ (by omega), tb_u8]
  by_cases h1 : i / 8 = j
  · rw [if_pos h1, h1, h0, show i - 8 * j = i % 8 by omega]
    simp [hi, show 8 * j ≤ i by omega]
  · rw [if_neg h1]
    by_cases h2 : 8 * j ≤ i
    · rw [tb8_ge (i := i - 8 * j) (by omega)]; simp
    · simp [h2]
def bytesN (n : Nat) : Nat := (n + 7) / 8
def textL (b : Nat → UInt8) (n : Nat) : List UInt64 := to_u64 (n : Int) :: (List.range (bytesN n)).map fun k => wordB fun j => if 8 * k + j < n then b (8 * k + j) else 0
theorem textL_len (b : Nat → UInt8) (n : Nat) : (textL b n).length = 1 + bytesN n := by simp [textL]; omega
theorem textL_get {b : Nat → UInt8} {n k : Nat} (h : k < bytesN n) : (textL b n).getD (1 + k) 0 = wordB fun j => if 8 * k + j < n then b (8 * k + j) else 0 := by
  rw [Nat.add_comm]
  simp [textL, List.getD_eq_getElem?_getD, h]
theorem getD_get {l : List UInt64} {i : Nat} (h : i < l.length) : l.getD i 0 = l[i] := by simp [List.getD_eq_getElem?_getD, h]
theorem textL_byte {b : Nat → UInt8} {n i : Nat} (h : i < n) : byteOf ((textL b n).getD (1 + i / 8) 0) (i % 8) = b i := by
  rw [textL_get (by unfold bytesN; omega), byteOf_wordB _ (by omega), show 8 * (i / 8) + i % 8 = i by omega, if_pos h]
end Go.Proofs
namespace Go.Proofs
open Go.VG
abbrev emptyS : ByteArray := ⟨#[]⟩
theorem strSize_of (l : List UInt8) : (strOf l).size = l.length := by simp [strOf, ByteArray.size]
theorem strOf_at (s : ByteArray) : strOf ((List.range s.size).map (strAt s)) = s := by
  cases s with
  | mk d =>
    simp only [strOf, ByteArray.mk.injEq]
    refine Array.ext (by simp [ByteArray.size]) fun i h1 h2 => ?_
    simp [strAt, Array.getD_eq_getD_getElem?, h2]
def encT (s : ByteArray) : List UInt64 := textL (strAt s) s.size
theorem encT_len (s : ByteArray) : (encT s).length = 1 + bytesN s.size := textL_len _ _
def bytesT (l : List UInt64) : List UInt8 := (List.range (l.getD 0 0).toNat).map fun i => byteOf (l.getD (1 + i / 8) 0) (i % 8)
noncomputable def decT (l : List UInt64) : ByteArray × Int :=
  open Classical in
  if l.length = 0 ∨ 8192 < (l.getD 0 0).toNat ∨ l.length ≠ 1 + bytesN (l.getD 0 0).toNat then (emptyS, 2)
  else if encT (strOf (bytesT l)) = l then (strOf (bytesT l), 0) else (emptyS, 2)
theorem to_u64_len {n : Nat} (h : n ≤ 1000000000) : (to_u64 (n : Int)).toNat = n := by
  have := to_u64_toNat (n : Int); omega
theorem encT_0 (s : ByteArray) : (encT s).getD 0 0 = to_u64 (s.size : Int) := rfl
theorem bytesT_enc {s : ByteArray} (h : s.size ≤ 8192) : strOf (bytesT (encT s)) = s := by
  refine Eq.trans (congrArg strOf ?_) (strOf_at s)
  unfold bytesT
  rw [encT_0, to_u64_len (by omega)]
  exact List.map_congr_left fun i hi => textL_byte (List.mem_range.1 hi)
theorem decT_enc {s : ByteArray} (h : s.size ≤ 8192) : decT (encT s) = (s, 0) := by
  unfold decT
  rw [encT_0, to_u64_len (by omega), encT_len, if_neg (by omega), bytesT_enc h, if_pos rfl]
theorem bytesT_len (l : List UInt64) : (bytesT l).length = (l.getD 0 0).toNat := by simp [bytesT]
end Go.Proofs
namespace Go.Proofs
open Go.VG
theorem tb_small {a : UInt64} {k i : Nat} (h : a.toNat < 2 ^ k) (hi : k ≤ i) : tb a i = false :=
  Nat.testBit_lt_two_pow (Nat.lt_of_lt_of_le h (Nat.pow_le_pow_right (by omega) hi))
def lowU (w : UInt64) (k : Nat) : UInt64 := UInt64.ofNat (w.toNat % 2 ^ k)
theorem lowU_toNat (w : UInt64) (k : Nat) : (lowU w k).toNat = w.toNat % 2 ^ k := by
  unfold lowU
  rw [UInt64.toNat_ofNat', Nat.mod_eq_of_lt]
  exact Nat.lt_of_le_of_lt (Nat.mod_le _ _) w.toNat_lt
theorem tb_lowU (w : UInt64) (k i : Nat) : tb (lowU w k) i = (decide (i < k) && tb w i) := by
  unfold tb; rw [lowU_toNat, Nat.testBit_mod_two_pow]
theorem and_mask {w m : UInt64} {k : Nat} (hm : m.toNat = 2 ^ k - 1) : w &&& m = lowU w k := by
  refine tb_ext fun i _ => ?_
  rw [tb_and, tb_lowU]
  show (tb w i && m.toNat.testBit i) = _
  rw [hm, Nat.testBit_two_pow_sub_one, Bool.and_comm]
theorem shr_max {k : Nat} (hk : k ≤ 64) : (shr_u64 18446744073709551615 (64 - k)).toNat = 2 ^ k - 1 := by
  rw [shr_u64_toNat, Nat.min_eq_left (by omega), show (18446744073709551615 : UInt64).toNat = 2 ^ 64 - 1 from rfl]
  have h := Nat.two_pow_pos k; have h2 := Nat.two_pow_pos (64 - k)
  have e : 2 ^ 64 = 2 ^ k * 2 ^ (64 - k) := by rw [← Nat.pow_add]; congr 1; omega
  refine Nat.div_eq_of_lt_le ?_ ?_
  · rw [e, Nat.sub_mul]; omega
  · rw [e, show 2 ^ k - 1 + 1 = 2 ^ k by omega]
    have := Nat.mul_pos h h2
    omega
def descW (a b c d : UInt64) : UInt64 := a ||| shl_u64 b 20 ||| shl_u64 c 36 ||| shl_u64 d 48
def fieldU (w : UInt64) (p k : Nat) : UInt64 := lowU (shr_u64 w p) k
theorem tb_fieldU (w : UInt64) {p k : Nat} (i : Nat) (hp : p ≤ 64) : tb (fieldU w p k) i = (decide (i < k) && tb w (p + i)) := by
  unfold fieldU; rw [tb_lowU, tb_shr w i hp]
theorem fieldU_lt (w : UInt64) (p k : Nat) : (fieldU w p k).toNat < 2 ^ k := by
  unfold fieldU; rw [lowU_toNat]; exact Nat.mod_lt _ (Nat.two_pow_pos k)
section
variable {a b c d : UInt64}
theorem desc_tb (ha : a.toNat < 2 ^ 20) (hb : b.toNat < 2 ^ 16) (hc : c.toNat < 2 ^ 12) {i : Nat} (hi : i < 64) : tb (descW a b c d) i = if i < 20 then tb a i else if i < 36 then tb b (i - 20) else if i < 48 then tb c (i - 36) else tb d (i - 48) := by
  unfold descW
  rw [tb_or, tb_or, tb_or, tb_shl b (by omega), tb_shl c (by omega), tb_shl d (by omega)]
  by_cases h1 : i < 20
  · simp [h1, show ¬ 20 ≤ i by omega, show ¬ 36 ≤ i by omega, show ¬ 48 ≤ i by omega]
  · rw [tb_small ha (by omega)]
    by_cases h2 : i < 36
    · simp [h1, h2, hi, show 20 ≤ i by omega, show ¬ 36 ≤ i by omega, show ¬ 48 ≤ i by omega]
    · rw [tb_small hb (i := i - 20) (by omega)]
      by_cases h3 : i < 48
      · simp [h1, h2, h3, hi, show 36 ≤ i by omega, show ¬ 48 ≤ i by omega]
      · rw [tb_small hc (i := i - 36) (by omega)]
        simp [h1, h2, h3, hi, show 48 ≤ i by omega]
theorem desc_0 (ha : a.toNat < 2 ^ 20) (hb : b.toNat < 2 ^ 16) (hc : c.toNat < 2 ^ 12) : fieldU (descW a b c d) 0 20 = a := by
  refine tb_ext fun i hi => ?_
  rw [tb_fieldU _ _ (by omega)]
  by_cases h : i < 20
  · rw [desc_tb (d := d) ha hb hc (by omega)]; simp [h]
  · rw [tb_small ha (by omega)]; simp [h]
theorem desc_1 (ha : a.toNat < 2 ^ 20) (hb : b.toNat < 2 ^ 16) (hc : c.toNat < 2 ^ 12) : fieldU (descW a b c d) 20 16 = b := by
  refine tb_ext fun i hi => ?_
  rw [tb_fieldU _ _ (by omega)]
  by_cases h : i < 16
  · rw [desc_tb (d := d) ha hb hc (by omega), if_neg (by omega), if_pos (by omega), Nat.add_sub_cancel_left]; simp [h]
  · rw [tb_small hb (by omega)]; simp [h]
theorem desc_2 (ha : a.toNat < 2 ^ 20) (hb : b.toNat < 2 ^ 16) (hc : c.toNat < 2 ^ 12) : fieldU (descW a b c d) 36 12 = c := by
  refine tb_ext fun i hi => ?_
  rw [tb_fieldU _ _ (by omega)]
  by_cases h : i < 12
  · rw [desc_tb (d := d) ha hb hc (by omega), if_neg (by omega), if_neg (by omega), if_pos (by omega), Nat.add_sub_cancel_left]; simp [h]
  · rw [tb_small hc (by omega)]; simp [h]
theorem desc_3 (ha : a.toNat < 2 ^ 20) (hb : b.toNat < 2 ^ 16) (hc : c.toNat < 2 ^ 12) (hd : d.toNat < 2 ^ 16) : fieldU (descW a b c d) 48 16 = d := by
  refine tb_ext fun i hi => ?_
  rw [tb_fieldU _ _ (by omega)]
  by_cases h : i < 16
  · rw [desc_tb (d := d) ha hb hc (by omega), if_neg (by omega), if_neg (by omega), if_neg (by omega), Nat.add_sub_cancel_left]; simp [h]
  · rw [tb_small hd (by omega)]; simp [h]
end
end Go.Proofs
namespace Go.Proofs
def iterN {α : Type} (f : α → α) : Nat → α → α
  | 0, x => x
  | n + 1, x => iterN f n (f x)
theorem iterN_add {α : Type} {f : α → α} : ∀ (n m : Nat) (x : α), iterN f (n + m) x = iterN f m (iterN f n x)
  | 0, m, x => by rw [Nat.zero_add]; rfl
  | n + 1, m, x => by
    have e : n + 1 + m = (n + m) + 1 := by omega
    rw [e]
    exact iterN_add n m (f x)
def stB (x : BitVec 32) : BitVec 32 := (x >>> 1) ^^^ (if x.getLsbD 0 then 0x82F63B78#32 else 0#32)
def stW (x : BitVec 64) : BitVec 64 := (x >>> 1) ^^^ (if x.getLsbD 0 then 0x82F63B78#64 else 0#64)
theorem stB_xor {x y : BitVec 32} : stB (x ^^^ y) = stB x ^^^ stB y := by
  unfold stB
  rw [BitVec.ushiftRight_xor_distrib, BitVec.getLsbD_xor]
  generalize x >>> 1 = p; generalize y >>> 1 = q
  cases x.getLsbD 0 <;> cases y.getLsbD 0
  · simp
  · simp; ac_rfl
  · simp; ac_rfl
  · simp only [Bool.xor_self, if_true]
    have e : ∀ z : BitVec 32, p ^^^ z ^^^ (q ^^^ z) = p ^^^ q ^^^ (z ^^^ z) := fun z => by ac_rfl
    rw [e, BitVec.xor_self]; simp
theorem stW_xor {x y : BitVec 64} : stW (x ^^^ y) = stW x ^^^ stW y := by
  unfold stW
  rw [BitVec.ushiftRight_xor_distrib, BitVec.getLsbD_xor]
  generalize x >>> 1 = p; generalize y >>> 1 = q
  cases x.getLsbD 0 <;> cases y.getLsbD 0
  · simp
  · simp; ac_rfl
  · simp; ac_rfl
  · simp only [Bool.xor_self, if_true]
    have e : ∀ z : BitVec 64, p ^^^ z ^^^ (q ^^^ z) = p ^^^ q ^^^ (z ^^^ z) := fun z => by ac_rfl
    rw [e, BitVec.xor_self]; simp
theorem iterB_xor : ∀ (n : Nat) {x y : BitVec 32}, iterN stB n (x ^^^ y) = iterN stB n x ^^^ iterN stB n y
  | 0, _, _ => rfl
  | n + 1, x, y => by
    show iterN stB n (stB (x ^^^ y)) = _
    rw [stB_xor, iterB_xor n]; rfl
theorem iterW_xor : ∀ (n : Nat) {x y : BitVec 64}, iterN stW n (x ^^^ y) = iterN stW n x ^^^ iterN stW n y
  | 0, _, _ => rfl
  | n + 1, x, y => by
    show iterN stW n (stW (x ^^^ y)) = _
    rw [stW_xor, iterW_xor n]; rfl
theorem stW_ext {x : BitVec 32} : stW (x.setWidth 64) = (stB x).setWidth 64 := by
  unfold stW stB
  refine BitVec.eq_of_getLsbD_eq fun i hi => ?_
  have e : (x.setWidth 64).getLsbD 0 = x.getLsbD 0 := by simp
  rw [e]
  cases x.getLsbD 0
  · simp [hi]
  · simp only [if_true, BitVec.getLsbD_xor, BitVec.getLsbD_ushiftRight, BitVec.getLsbD_setWidth, hi, decide_true, Bool.true_and]
    have e2 : (0x82F63B78#64).getLsbD i = (0x82F63B78#32).getLsbD i := by
      have : (0x82F63B78#64) = (0x82F63B78#32).setWidth 64 := by decide
      rw [this, BitVec.getLsbD_setWidth, decide_eq_true hi, Bool.true_and]
    rw [e2]
    by_cases h : 1 + i < 64
    · simp [h]
    · have h1 : x.getLsbD (1 + i) = false := BitVec.getLsbD_of_ge _ _ (by omega)
      simp [h, h1]
theorem iterW_ext : ∀ (n : Nat) {x : BitVec 32}, iterN stW n (x.setWidth 64) = (iterN stB n x).setWidth 64
  | 0, _ => rfl
  | n + 1, x => by
    show iterN stW n (stW (x.setWidth 64)) = _
    rw [stW_ext, iterW_ext n]; rfl
theorem iterW_shift : ∀ (n : Nat) {x : BitVec 64}, (∀ i, i < n → x.getLsbD i = false) → iterN stW n x = x >>> n
  | 0, x, _ => by simp [iterN]
  | n + 1, x, h => by
    have h0 := h 0 (by omega)
    have e : stW x = x >>> 1 := by unfold stW; rw [h0]; simp
    show iterN stW n (stW x) = _
    rw [e, iterW_shift n (fun i hi => by rw [BitVec.getLsbD_ushiftRight]; exact h _ (by omega)), ← BitVec.shiftRight_add, Nat.add_comm]
def byB (x : BitVec 32) (b : BitVec 8) : BitVec 32 := iterN stB 8 (x ^^^ b.setWidth 32)
def woB (x : BitVec 32) (w : BitVec 64) : BitVec 32 := (iterN stW 64 (x.setWidth 64 ^^^ w)).setWidth 32
theorem byte_step {x : BitVec 32} {w : BitVec 64} : iterN stW 8 (x.setWidth 64 ^^^ w) = (byB x (w.setWidth 8)).setWidth 64 ^^^ (w >>> 8) := by
  have e : x.setWidth 64 ^^^ w = (x ^^^ (w.setWidth 8).setWidth 32).setWidth 64 ^^^ ((w >>> 8) <<< 8) := by
    refine BitVec.eq_of_getLsbD_eq fun i hi => ?_
    simp only [BitVec.getLsbD_xor, BitVec.getLsbD_setWidth, hi, decide_true, Bool.true_and, BitVec.getLsbD_shiftLeft, BitVec.getLsbD_ushiftRight]
    by_cases h8 : i < 8
    · have h32 : i < 32 := by omega
      simp [h8, h32]
    · have e1 : 8 + (i - 8) = i := by omega
      simp [h8, e1]
  rw [e, iterW_xor, iterW_ext, iterW_shift 8 (x := (w >>> 8) <<< 8) (fun i hi => by simp [hi])]
  unfold byB
  congr 1
  refine BitVec.eq_of_getLsbD_eq fun i hi => ?_
  simp only [BitVec.getLsbD_ushiftRight, BitVec.getLsbD_shiftLeft]
  have e2 : 8 + i - 8 = i := by omega
  rw [e2]
  by_cases h : 8 + i < 64
  · simp [h]
  · have : w.getLsbD (8 + i) = false := BitVec.getLsbD_of_ge _ _ (by omega)
    simp [h, this]
def bytesB (x : BitVec 32) (w : BitVec 64) : Nat → BitVec 32
  | 0 => x
  | n + 1 => byB (bytesB x w n) ((w >>> (8 * n)).setWidth 8)
theorem bytes_step {x : BitVec 32} {w : BitVec 64} : ∀ n : Nat, iterN stW (8 * n) (x.setWidth 64 ^^^ w) = (bytesB x w n).setWidth 64 ^^^ (w >>> (8 * n))
  | 0 => by simp [iterN, bytesB]
  | n + 1 => by
    have e : 8 * (n + 1) = 8 * n + 8 := by omega
    rw [e, iterN_add, bytes_step n, byte_step, ← BitVec.shiftRight_add]; rfl
theorem wo_bytes {x : BitVec 32} {w : BitVec 64} : woB x w = bytesB x w 8 := by
  unfold woB
  have e : iterN stW 64 (x.setWidth 64 ^^^ w) = _ := bytes_step 8
  rw [e]
  refine BitVec.eq_of_getLsbD_eq fun i hi => ?_
  simp only [BitVec.getLsbD_setWidth, BitVec.getLsbD_xor, BitVec.getLsbD_ushiftRight, hi, decide_true, Bool.true_and]
  have h1 : w.getLsbD (8 * 8 + i) = false := BitVec.getLsbD_of_ge _ _ (by omega)
  have h2 : i < 64 := by omega
  rw [h1]; simp [h2]
end Go.Proofs
set_option linter.unusedSimpArgs false
set_option linter.unusedVariables false
set_option maxRecDepth 20000
set_option maxHeartbeats 4000000
namespace Go.Proofs
open Go.VG
def bytesK (w : UInt64) : Nat → List UInt8
  | 0 => []
  | k + 1 => to_u8 ((shr_u64 w (8 * (8 - (k + 1)))).toNat : Int) :: bytesK w k
def spreadL : List UInt64 → List UInt8
  | [] => []
  | w :: r => bytesK w 8 ++ spreadL r
def encB (x : UInt8) : List Value := [.int .u8 (x.toNat : Int)]
theorem ispec_spread {W : World} {b : Nat} {v : Value} {A0 : HP} {ws : List UInt64} (hr : Reads A0 tyU v ws) : ISpec Try.prog W 106 [ptr b 0] [blk b 29 [v], A0] encB (spreadL ws) := by
  refine ISpec.of_body Try.func106 rfl Try.ntmps106 rfl (fun l J Jx hY => ?_)
  show CJ _ _ _ _ _ _ (_ :: blk _ _ _ :: A0 :: [])
  refine CJ_pure (len_of hr del2) (fun hlen => ?_)
  refine CJ_seq ?_
  refine CJ_region ?_
  refine RJ_op rfl (OJ_V (V_load rfl foc1 rfl Try.isAgg29) rfl ?_)
  refine RJ_op rfl (OJ_V (V_len rfl foc2 hr Try.runUnderlying29) rfl ?_)
  refine RJ_op rfl (OJ_P (P_move rfl) rfl ?_)
  refine RJ_nil ?_
  refine QJ_then ?_
  refine CJ_block ?_
  refine CJ_loopR (X := Nat) [4, 5, 8, 9, 10, 11, 12, 13, 14, 15, 16, 17, 18, 19, 20, 21, 22, 23, 24] (fun i => ([(8, .int .i64 (i : Int))] : Slots)) (fun i R => J (spreadL (ws.drop i)) :: R) (fun i => i ≤ ws.length) (fun i => ws.length - i) 0 (Nat.zero_le _) ⟨rfl, True.intro⟩ (by simp only [List.drop_zero]; exact Ent.refl) ?_
  intro i hi
  show CJ _ _ _ _ _ (([(8, .int .i64 (i : Int))] : Slots) ++ forget _ _) (J (spreadL (ws.drop i)) :: blk b 29 [v] :: A0 :: [])
  refine CJ_seq ?_
  refine CJ_region ?_
  refine RJ_op rfl (OJ_P (P_lss (a := (i : Int)) (b := (ws.length : Int)) rfl rfl) rfl ?_)
  refine RJ_nil ?_
  refine QJ_then ?_
  refine CJ_seq ?_
  refine CJ_condP rfl bT_dec (fun hlt => ?_) (fun hge => ?_)
  rotate_left
  · refine CJ_exit ?_
    refine QJ_then_exit ?_
    refine QJ_round_exit ?_
    refine QJ_block_here ?_
    have he : i = ws.length := by omega
    subst he
    rw [List.drop_length]
    exact QJ_endN (res0 Try.results106) (fun w hs => ⟨⟨_, rfl⟩, .inl hs⟩)
  refine CJ_skip ?_
  refine QJ_then ?_
  have hlt' : i < ws.length := by omega
  have hdrop : ws.drop i = ws.getD i 0 :: ws.drop (i + 1) := by
    rw [List.drop_eq_getElem_cons hlt']; simp [List.getD_eq_getElem?_getD, hlt']
  refine CJ_seq ?_
  refine CJ_block ?_
  refine CJ_seq ?_
  refine CJ_region ?_
  refine RJ_op rfl (OJ_V (V_index (i := i) rfl rfl rfl hlt' foc2 hr Try.runUnderlying29 Try.sizeOf39) rfl ?_)
  refine RJ_op rfl (OJ_V (V_loadE rfl rfl hlt' foc2 hr rfl rfl Try.isAgg39) rfl ?_)
  refine RJ_op rfl (OJ_P (P_assign rfl) rfl ?_)
  refine RJ_nil ?_
  refine QJ_then ?_
  refine CJ_seq ?_
  refine CJ_region ?_
  refine RJ_op rfl (OJ_P (P_move rfl) rfl ?_)
  refine RJ_nil ?_
  refine QJ_then ?_
  refine CJ_block ?_
  refine CJ_loopR (X := Nat) [5, 12, 13, 14, 15, 16, 17, 18, 19, 20, 21, 22, 23] (fun j => ([(12, .int .i64 (j : Int))] : Slots)) (fun j R => J (bytesK (ws.getD i 0) (8 - j) ++ spreadL (ws.drop (i + 1))) :: R) (fun j => j ≤ 8) (fun j => 8 - j) 0 (Nat.zero_le _) ⟨rfl, True.intro⟩ (by rw [hdrop]; exact Ent.refl) ?_
  intro j hj
  show CJ _ _ _ _ _ (([(12, .int .i64 (j : Int))] : Slots) ++ forget _ _) (J (bytesK (ws.getD i 0) (8 - j) ++ spreadL (ws.drop (i + 1))) :: blk b 29 [v] :: A0 :: [])
  refine CJ_seq ?_
  refine CJ_region ?_
  refine RJ_op rfl (OJ_P (P_lss (a := (j : Int)) (b := (8 : Int)) rfl rfl) rfl ?_)
  refine RJ_nil ?_
  refine QJ_then ?_
  refine CJ_seq ?_
  refine CJ_condP rfl bT_dec (fun hj8 => ?_) (fun hge => ?_)
  rotate_left
  · refine CJ_exit ?_
    refine QJ_then_exit ?_
    refine QJ_round_exit ?_
    refine QJ_block_here ?_
    have he : j = 8 := by omega
    subst he
    refine QJ_block_normal ?_
    refine QJ_then ?_
    refine CJ_region ?_
    refine RJ_op rfl (OJ_P (PJ_eq (P_add (a := (i : Int)) (b := (1 : Int)) rfl rfl (by omega)) rfl) rfl ?_)
    refine RJ_op rfl (OJ_P (P_move rfl) rfl ?_)
    refine RJ_nil ?_
    exact QJ_nextR (i + 1) (by omega) hlt' (by repeat (first | exact Kp.base | exact Kp.self | refine Kp.cons rfl ?_ | refine Kp.forget rfl ?_)) ⟨rfl, True.intro⟩ Ent.refl
  refine CJ_skip ?_
  refine QJ_then ?_
  have hj' : j < 8 := by omega
  have hb : bytesK (ws.getD i 0) (8 - j) = to_u8 ((shr_u64 (ws.getD i 0) (8 * j)).toNat : Int) :: bytesK (ws.getD i 0) (8 - (j + 1)) := by
    obtain ⟨k, hk⟩ : ∃ k, 8 - j = k + 1 := ⟨7 - j, by omega⟩
    have h2 : 8 - (k + 1) = j := by omega
    have h3 : 8 - (j + 1) = k := by omega
    rw [hk, h3]; simp only [bytesK, h2]
  refine CJ_seq ?_
  refine CJ_block ?_
  refine CJ_seq ?_
  refine CJ_region ?_
  refine RJ_op rfl (OJ_P (P_move rfl) rfl ?_)
  refine RJ_op rfl (OJ_P (P_assign rfl) rfl ?_)
  refine RJ_nil ?_
  refine QJ_then ?_
  refine CJ_seq ?_
  refine CJ_region ?_
  refine RJ_op rfl (OJ_P (P_move rfl) rfl ?_)
  refine RJ_op rfl (OJ_P (P_move rfl) rfl ?_)
  refine RJ_op rfl (OJ_P (P_move rfl) rfl ?_)
  refine RJ_op rfl (OJ_P (P_mul (a := (8 : Int)) (b := (j : Int)) rfl rfl (by omega)) rfl ?_)
  refine RJ_op rfl (OJ_P (P_shr_u64 (a := ws.getD i 0) (m := 8 * j) rfl rfl (by omega)) rfl ?_)
  refine RJ_op rfl (OJ_P (P_conv_u8 (a := ((shr_u64 (ws.getD i 0) (8 * j)).toNat : Int)) rfl Try.runUnderlying39 Try.runUnderlying5) rfl ?_)
  rw [hb]
  refine RJ_yield (l := l) rfl rfl (hY (bytesK (ws.getD i 0) (8 - (j + 1)) ++ spreadL (ws.drop (i + 1))) _ ?_) rfl ?_ ?_
  · refine ⟨spreadL (ws.take i) ++ (bytesK (ws.getD i 0) 8).take j, ?_⟩
    have h1 : ws = ws.take i ++ (ws.getD i 0 :: ws.drop (i + 1)) := by rw [← hdrop]; simp
    have h2 : ∀ a c : List UInt64, spreadL (a ++ c) = spreadL a ++ spreadL c := fun a c => by induction a with
      | nil => rfl
      | cons x r ih => simp [spreadL, ih]
    have h3 : ∀ k, k ≤ 8 → bytesK (ws.getD i 0) 8 = (bytesK (ws.getD i 0) 8).take k ++ bytesK (ws.getD i 0) (8 - k) := fun k hk => by
      have : k = 0 ∨ k = 1 ∨ k = 2 ∨ k = 3 ∨ k = 4 ∨ k = 5 ∨ k = 6 ∨ k = 7 ∨ k = 8 := by omega
      rcases this with rfl | rfl | rfl | rfl | rfl | rfl | rfl | rfl | rfl <;> rfl
    have h4 := h3 j hj
    rw [hb] at h4
    rw [List.append_assoc, ← List.cons_append, ← List.append_assoc _ _ (spreadL (ws.drop (i + 1))), ← h4]
    conv => lhs; rw [h1]
    rw [h2]; rfl
  · refine RJ_op rfl (OJ_P (P_not rfl) rfl ?_)
    refine RJ_nil ?_
    refine QJ_then ?_
    refine CJ_condF rfl rfl ?_
    refine CJ_skip ?_
    refine QJ_block_normal ?_
    refine QJ_then ?_
    refine CJ_region ?_
    refine RJ_op rfl (OJ_P (PJ_eq (P_add (a := (j : Int)) (b := (1 : Int)) rfl rfl (by omega)) rfl) rfl ?_)
    refine RJ_op rfl (OJ_P (P_move rfl) rfl ?_)
    refine RJ_nil ?_
    exact QJ_nextR (j + 1) (by omega) hj' (by repeat (first | exact Kp.base | exact Kp.self | refine Kp.cons rfl ?_ | refine Kp.forget rfl ?_)) ⟨rfl, True.intro⟩ Ent.refl
  · refine RJ_op rfl (OJ_P (P_not rfl) rfl ?_)
    refine RJ_nil ?_
    refine QJ_then ?_
    refine CJ_condT rfl rfl ?_
    refine CJ_ret ?_
    refine QJ_block_ret ?_
    refine QJ_then_ret ?_
    refine QJ_round_ret ?_
    refine QJ_block_ret ?_
    refine QJ_block_ret ?_
    refine QJ_then_ret ?_
    refine QJ_round_ret ?_
    refine QJ_block_ret ?_
    exact QJ_end (res0 Try.results106) (fun w hs => ⟨⟨_, rfl⟩, .inr hs⟩)
end Go.Proofs
set_option linter.unusedSimpArgs false
set_option linter.unusedVariables false
set_option maxRecDepth 20000
set_option maxHeartbeats 4000000
namespace Go.Proofs
open Go.VG
def fieldsL : List Int → Int → List (Int × UInt64)
  | [], _ => []
  | w :: r, z => (z, shr_u64 18446744073709551615 (64 - w).toNat) :: fieldsL r (z + w)
def sumI : List Int → Int
  | [] => 0
  | w :: r => w + sumI r
def encIU (x : Int × UInt64) : List Value := [.int .i64 x.1, .int .u64 (x.2.toNat : Int)]
theorem fieldsL_append : ∀ (a b : List Int) (z : Int), fieldsL (a ++ b) z = fieldsL a z ++ fieldsL b (z + sumI a)
  | [], b, z => by simp [fieldsL, sumI]
  | w :: r, b, z => by simp [fieldsL, sumI, fieldsL_append r b (z + w), Int.add_assoc]
theorem sumI_append : ∀ (a b : List Int), sumI (a ++ b) = sumI a + sumI b
  | [], b => by simp [sumI]
  | w :: r, b => by simp [sumI, sumI_append r b, Int.add_assoc]
theorem sumI_le : ∀ (a : List Int), (∀ w ∈ a, 0 ≤ w ∧ w ≤ 64) → 0 ≤ sumI a ∧ sumI a ≤ 64 * a.length
  | [], _ => by simp [sumI]
  | w :: r, h => by
    have h1 := h w List.mem_cons_self
    have h2 := sumI_le r fun x hx => h x (List.mem_cons_of_mem _ hx)
    simp only [sumI, List.length_cons]
    omega
theorem ispec_fields {W : World} {b : Nat} {v : Value} {A0 : HP} {ws : List Int} (hr : Reads A0 tyI v ws) (hok2 : (∀ w ∈ ws, 0 ≤ w ∧ w ≤ 64) ∧ ws.length ≤ 1000000) : ISpec Try.prog W 101 [ptr b 0] [blk b 38 [v], A0] encIU (fieldsL ws 0) := by
  refine ISpec.of_body Try.func101 rfl Try.ntmps101 rfl (fun l J Jx hY => ?_)
  obtain ⟨hok, hl6⟩ := hok2
  show CJ _ _ _ _ _ _ (_ :: blk _ _ _ :: A0 :: [])
  refine CJ_pure (len_of hr del2) (fun hlen => ?_)
  refine CJ_seq ?_
  refine CJ_region ?_
  refine RJ_op rfl (OJ_P (P_assign rfl) rfl ?_)
  refine RJ_nil ?_
  refine QJ_then ?_
  refine CJ_seq ?_
  refine CJ_region ?_
  refine RJ_op rfl (OJ_V (V_load rfl foc1 rfl Try.isAgg38) rfl ?_)
  refine RJ_op rfl (OJ_V (V_len rfl foc2 hr Try.runUnderlying38) rfl ?_)
  refine RJ_op rfl (OJ_P (P_move rfl) rfl ?_)
  refine RJ_nil ?_
  refine QJ_then ?_
  refine CJ_block ?_
  refine CJ_loopR (X := Nat) [3, 5, 8, 9, 10, 11, 12, 13, 14, 15, 16, 17, 18, 19, 20, 21, 22] (fun i => ([(8, .int .i64 (i : Int)), (3, .int .i64 (sumI (ws.take i)))] : Slots)) (fun i R => J (fieldsL (ws.drop i) (sumI (ws.take i))) :: R) (fun i => i ≤ ws.length) (fun i => ws.length - i) 0 (Nat.zero_le _) ⟨rfl, rfl, True.intro⟩ (by simp only [List.drop_zero]; exact Ent.refl) ?_
  intro i hi
  show CJ _ _ _ _ _ (([(8, .int .i64 (i : Int)), (3, .int .i64 (sumI (ws.take i)))] : Slots) ++ forget _ _) (J (fieldsL (ws.drop i) (sumI (ws.take i))) :: blk b 38 [v] :: A0 :: [])
  refine CJ_seq ?_
  refine CJ_region ?_
  refine RJ_op rfl (OJ_P (P_lss (a := (i : Int)) (b := (ws.length : Int)) rfl rfl) rfl ?_)
  refine RJ_nil ?_
  refine QJ_then ?_
  refine CJ_seq ?_
  refine CJ_condP rfl bT_dec (fun hlt => ?_) (fun hge => ?_)
  rotate_left
  · refine CJ_exit ?_
    refine QJ_then_exit ?_
    refine QJ_round_exit ?_
    refine QJ_block_here ?_
    have he : i = ws.length := by omega
    subst he
    rw [List.drop_length]
    exact QJ_endN (res0 Try.results101) (fun w hs => ⟨⟨_, rfl⟩, .inl hs⟩)
  refine CJ_skip ?_
  refine QJ_then ?_
  have hlt' : i < ws.length := by omega
  have hdrop : ws.drop i = ws.getD i 0 :: ws.drop (i + 1) := by
    rw [List.drop_eq_getElem_cons hlt']; simp [List.getD_eq_getElem?_getD, hlt']
  have htake : ws.take (i + 1) = ws.take i ++ [ws.getD i 0] := by
    rw [List.take_succ_eq_append_getElem hlt']; simp [List.getD_eq_getElem?_getD, hlt']
  have hsum : sumI (ws.take (i + 1)) = sumI (ws.take i) + ws.getD i 0 := by rw [htake, sumI_append]; simp [sumI]
  have hmem : ws.getD i 0 ∈ ws := by
    have : ws.getD i 0 = ws[i] := by simp [List.getD_eq_getElem?_getD, hlt']
    rw [this]; exact List.getElem_mem hlt'
  have hw := hok _ hmem
  have hle := sumI_le (ws.take i) fun w hw => hok w (List.mem_of_mem_take hw)
  rw [List.length_take] at hle
  have hle2 : min i ws.length ≤ 1000000000 := by omega
  refine CJ_seq ?_
  refine CJ_block ?_
  refine CJ_seq ?_
  refine CJ_region ?_
  refine RJ_op rfl (OJ_V (V_index (i := i) rfl rfl rfl hlt' foc2 hr Try.runUnderlying38 Try.sizeOf3) rfl ?_)
  refine RJ_op rfl (OJ_V (V_loadE rfl rfl hlt' foc2 hr rfl rfl Try.isAgg3) rfl ?_)
  refine RJ_op rfl (OJ_P (P_assign rfl) rfl ?_)
  refine RJ_nil ?_
  refine QJ_then ?_
  refine CJ_seq ?_
  refine CJ_seq ?_
  refine CJ_region ?_
  refine RJ_op rfl (OJ_P (P_move rfl) rfl ?_)
  refine RJ_op rfl (OJ_P (P_move rfl) rfl ?_)
  refine RJ_op rfl (OJ_P (P_move rfl) rfl ?_)
  refine RJ_op rfl (OJ_P (P_sub (a := (64 : Int)) (b := ws.getD i 0) rfl rfl (by omega)) rfl ?_)
  refine RJ_op rfl (OJ_P (P_shr_u64 (a := 18446744073709551615) (m := (64 - ws.getD i 0).toNat) rfl rfl (by omega)) rfl ?_)
  rw [hdrop]
  refine RJ_yield (l := l) rfl rfl (hY (fieldsL (ws.drop (i + 1)) (sumI (ws.take i) + ws.getD i 0)) (sumI (ws.take i), shr_u64 18446744073709551615 (64 - ws.getD i 0).toNat) ?_) rfl ?_ ?_
  · refine ⟨fieldsL (ws.take i) 0, ?_⟩
    conv => lhs; rw [show ws = ws.take i ++ (ws.getD i 0 :: ws.drop (i + 1)) by rw [← hdrop]; simp]
    rw [fieldsL_append, Int.zero_add]; rfl
  · refine RJ_op rfl (OJ_P (P_not rfl) rfl ?_)
    refine RJ_nil ?_
    refine QJ_then ?_
    refine CJ_condF rfl rfl ?_
    refine CJ_skip ?_
    refine QJ_then ?_
    refine CJ_region ?_
    refine RJ_op rfl (OJ_P (P_move rfl) rfl ?_)
    refine RJ_op rfl (OJ_P (P_move rfl) rfl ?_)
    refine RJ_op rfl (OJ_P (P_add (a := sumI (ws.take i)) (b := ws.getD i 0) rfl rfl (by omega)) rfl ?_)
    refine RJ_op rfl (OJ_P (P_assign rfl) rfl ?_)
    refine RJ_nil ?_
    refine QJ_block_normal ?_
    refine QJ_then ?_
    refine CJ_region ?_
    refine RJ_op rfl (OJ_P (PJ_eq (P_add (a := (i : Int)) (b := (1 : Int)) rfl rfl (by omega)) rfl) rfl ?_)
    refine RJ_op rfl (OJ_P (P_move rfl) rfl ?_)
    refine RJ_nil ?_
    exact QJ_nextR (i + 1) (by omega) hlt' (by repeat (first | exact Kp.base | exact Kp.self | refine Kp.cons rfl ?_ | refine Kp.forget rfl ?_)) ⟨rfl, by rw [hsum]; rfl, True.intro⟩ (by rw [hsum]; exact Ent.refl)
  · refine RJ_op rfl (OJ_P (P_not rfl) rfl ?_)
    refine RJ_nil ?_
    refine QJ_then ?_
    refine CJ_condT rfl rfl ?_
    refine CJ_ret ?_
    refine QJ_then_ret ?_
    refine QJ_block_ret ?_
    refine QJ_then_ret ?_
    refine QJ_round_ret ?_
    refine QJ_block_ret ?_
    exact QJ_end (res0 Try.results101) (fun w hs => ⟨⟨_, rfl⟩, .inr hs⟩)
end Go.Proofs
set_option linter.unusedSimpArgs false
set_option linter.unusedVariables false
set_option maxRecDepth 20000
set_option maxHeartbeats 4000000
namespace Go.Proofs
open Go.VG
def sectorsL (n st pl : Int) : List (Int × Int) := (List.range n.toNat).map fun i : Nat => ((i : Int), 2 + (st + (i : Int)) % pl)
def encII (x : Int × Int) : List Value := [.int .i64 x.1, .int .i64 x.2]
theorem sectorsL_len {n st pl : Int} : (sectorsL n st pl).length = n.toNat := by simp [sectorsL]
theorem ispec_sectors {W : World} {bn bs ba : Nat} {vd : Value} {n st pl : Int} (hok : 0 ≤ st ∧ 0 < pl ∧ st + n ≤ 4611686018427387904 ∧ pl ≤ 4611686018427387904) :
    ISpec Try.prog W 86 [ptr bn 0, ptr bs 0, ptr ba 0] [blk bn 3 [.int .i64 n], blk bs 3 [.int .i64 st], blk ba 96 [vd, .int .i64 pl]] encII (sectorsL n st pl) := by
  refine ISpec.of_body Try.func86 rfl Try.ntmps86 rfl (fun l J Jx hY => ?_)
  show CJ _ _ _ _ _ _ (_ :: blk _ _ _ :: blk _ _ _ :: blk _ _ _ :: [])
  refine CJ_seq ?_
  refine CJ_region ?_
  refine RJ_op rfl (OJ_V (V_load rfl foc1 rfl Try.isAgg3) rfl ?_)
  refine RJ_op rfl (OJ_P (P_move rfl) rfl ?_)
  refine RJ_nil ?_
  refine QJ_then ?_
  refine CJ_block ?_
  refine CJ_loopR (X := Nat) [5, 7, 8, 9, 10, 11, 12, 13, 14, 15, 16, 17, 18, 19, 20, 21] (fun i => ([(7, .int .i64 (i : Int))] : Slots)) (fun i R => J ((sectorsL n st pl).drop i) :: R) (fun i => i ≤ n.toNat) (fun i => n.toNat - i) 0 (Nat.zero_le _) ⟨rfl, True.intro⟩ (by simp only [List.drop_zero]; exact Ent.refl) ?_
  intro i hi
  show CJ _ _ _ _ _ (([(7, .int .i64 (i : Int))] : Slots) ++ forget _ _) (J ((sectorsL n st pl).drop i) :: blk bn 3 [.int .i64 n] :: blk bs 3 [.int .i64 st] :: blk ba 96 [vd, .int .i64 pl] :: [])
  refine CJ_seq ?_
  refine CJ_region ?_
  refine RJ_op rfl (OJ_P (P_lss (a := (i : Int)) (b := n) rfl rfl) rfl ?_)
  refine RJ_nil ?_
  refine QJ_then ?_
  refine CJ_seq ?_
  refine CJ_condP rfl bT_dec (fun hlt => ?_) (fun hge => ?_)
  rotate_left
  · refine CJ_exit ?_
    refine QJ_then_exit ?_
    refine QJ_round_exit ?_
    refine QJ_block_here ?_
    have he : i = (sectorsL n st pl).length := by rw [sectorsL_len]; omega
    rw [he, List.drop_length]
    exact QJ_endN (res0 Try.results86) (fun w hs => ⟨⟨_, rfl⟩, .inl hs⟩)
  refine CJ_skip ?_
  refine QJ_then ?_
  have hlt' : i < (sectorsL n st pl).length := by rw [sectorsL_len]; omega
  have hdrop : (sectorsL n st pl).drop i = ((i : Int), 2 + (st + (i : Int)) % pl) :: (sectorsL n st pl).drop (i + 1) := by
    rw [List.drop_eq_getElem_cons hlt']; simp [sectorsL]
  have hm0 : 0 ≤ (st + (i : Int)) % pl := Int.emod_nonneg _ (by omega)
  have hm1 : (st + (i : Int)) % pl < pl := Int.emod_lt_of_pos _ hok.2.1
  refine CJ_seq ?_
  refine CJ_block ?_
  refine CJ_seq ?_
  refine CJ_region ?_
  refine RJ_op rfl (OJ_P (P_move rfl) rfl ?_)
  refine RJ_op rfl (OJ_P (P_assign rfl) rfl ?_)
  refine RJ_nil ?_
  refine QJ_then ?_
  refine CJ_seq ?_
  refine CJ_region ?_
  refine RJ_op rfl (OJ_P (P_move rfl) rfl ?_)
  refine RJ_op rfl (OJ_P (P_move rfl) rfl ?_)
  refine RJ_op rfl (OJ_V (V_load rfl foc2 rfl Try.isAgg3) rfl ?_)
  refine RJ_op rfl (OJ_P (P_move rfl) rfl ?_)
  refine RJ_op rfl (OJ_P (P_add (a := st) (b := (i : Int)) rfl rfl (by omega)) rfl ?_)
  refine RJ_op rfl (OJ_P (P_fieldAddr rfl ⟨_, _, _, Try.runUnderlying96, rfl, rfl, Try.sizeOf3, rfl⟩) rfl ?_)
  refine RJ_op rfl (OJ_V (V_load rfl foc3 rfl Try.isAgg3) rfl ?_)
  refine RJ_op rfl (OJ_P (P_rem (a := st + (i : Int)) (b := pl) rfl rfl (by omega)) rfl ?_)
  refine RJ_op rfl (OJ_P (P_add (a := (2 : Int)) (b := (st + (i : Int)) % pl) rfl rfl (by omega)) rfl ?_)
  rw [hdrop]
  refine RJ_yield (l := l) rfl rfl (hY ((sectorsL n st pl).drop (i + 1)) ((i : Int), 2 + (st + (i : Int)) % pl) ?_) rfl ?_ ?_
  · exact ⟨(sectorsL n st pl).take i, by rw [← hdrop]; simp⟩
  · refine RJ_op rfl (OJ_P (P_not rfl) rfl ?_)
    refine RJ_nil ?_
    refine QJ_then ?_
    refine CJ_condF rfl rfl ?_
    refine CJ_skip ?_
    refine QJ_block_normal ?_
    refine QJ_then ?_
    refine CJ_region ?_
    refine RJ_op rfl (OJ_P (PJ_eq (P_add (a := (i : Int)) (b := (1 : Int)) rfl rfl (by omega)) rfl) rfl ?_)
    refine RJ_op rfl (OJ_P (P_move rfl) rfl ?_)
    refine RJ_nil ?_
    exact QJ_nextR (i + 1) (by omega) (by rw [sectorsL_len] at hlt'; exact hlt') (by repeat (first | exact Kp.base | exact Kp.self | refine Kp.cons rfl ?_ | refine Kp.forget rfl ?_)) ⟨rfl, True.intro⟩ Ent.refl
  · refine RJ_op rfl (OJ_P (P_not rfl) rfl ?_)
    refine RJ_nil ?_
    refine QJ_then ?_
    refine CJ_condT rfl rfl ?_
    refine CJ_ret ?_
    refine QJ_block_ret ?_
    refine QJ_then_ret ?_
    refine QJ_round_ret ?_
    refine QJ_block_ret ?_
    exact QJ_end (res0 Try.results86) (fun w hs => ⟨⟨_, rfl⟩, .inr hs⟩)
end Go.Proofs
set_option linter.unusedSimpArgs false
set_option linter.unusedVariables false
set_option maxRecDepth 20000
set_option maxHeartbeats 4000000
namespace Go.Proofs
open Go.VG
abbrev tyA169 : Ty UInt32 := { tyU32 with T := 169 }
def checksum_newTable_l2_b (rec : UInt32 → Nat → Option (UInt32)) (x16 : UInt32) (x17 : Nat) : Option (UInt32) :=
  if (((x17 : Nat) : Int) < (8 : Int)) then
    if ((x16 &&& (1 : UInt32)) = (1 : UInt32)) then
      rec (((shr_u32 x16 1) ^^^ (2197175160 : UInt32))) (x17 + 1)
    else
      rec (shr_u32 x16 1) (x17 + 1)
  else
    some x16
def checksum_newTable_l2 : Nat → UInt32 → Nat → Option (UInt32)
  | 0, _, _ => none
  | n + 1, x16, x17 => checksum_newTable_l2_b (checksum_newTable_l2 n) x16 x17
def checksum_newTable_l1_b (rec : (List UInt32) → Nat → Option ((List UInt32))) (x8 : List UInt32) (x9 : Nat) : Option ((List UInt32)) :=
  if (((x9 : Nat) : Int) < (256 : Int)) then
    Option.bind (checksum_newTable_l2 FUEL ((to_u32 (((x9 : Nat) : Int)))) 0) fun a15 =>
    rec (x8.set x9 a15) (x9 + 1)
  else
    some x8
def checksum_newTable_l1 : Nat → (List UInt32) → Nat → Option ((List UInt32))
  | 0, _, _ => none
  | n + 1, x8, x9 => checksum_newTable_l1_b (checksum_newTable_l1 n) x8 x9
def checksum_newTable : Option ((List UInt32)) :=
  Option.bind (checksum_newTable_l1 FUEL (List.replicate 256 0) 0) fun a7 =>
  some a7
theorem L_checksum_newTable {W : World} {r : (List UInt32)} (h : checksum_newTable = some r) :
    CSpec Try.prog W 102 [] [] (fun x : Unit => .agg (flat tyA169 r).toArray) (fun _ => True) (fun x F => F) := by
 refine CSpec.of_body Try.func102 rfl Try.ntmps102 rfl fun F => ?_
 show CJ _ _ _ _ _ _ (F)
 unfold checksum_newTable at h
 refine sR <| oO <| O_alloc Try.zeroValue169 rfl rfl fun b1 => RJ_ent (sl_of_lit (t := tyA169) (m := 256) (List.replicate 256 0) rfl rfl (by kernel_rfl) (by decide)) <| nT <| sR <| oO <| O_alloc Try.zeroValue169 rfl rfl fun b2 => RJ_ent (sl_of_lit (t := tyA169) (m := 256) (List.replicate 256 0) rfl rfl (by kernel_rfl) (by decide)) <| nT <| CJ_seq <| sR <| oM rfl rfl <| nT ?_
 obtain ⟨y5, hl3, hK4⟩ := bind_c h
 refine CJ_cutT (X := (List UInt32)) [2, 3, 4, 5, 6, 7, 8, 9, 10, 11, 12, 13, 14, 15, 16, 17, 18, 19, 20, 21, 22, 23] (fun a7 => ([] : Slots)) (fun a7 R => sl tyA169 (.slice (some ⟨b2, 0, none⟩) 256 256) a7 :: R) (fun a7 => y5 = a7) (Dels.cons del0 Dels.nil) ?_ ?_
 ·
  refine CJ_block <| CJ_loopR (X := Nat × (List UInt32) × Nat) [2, 3, 4, 5, 6, 7, 8, 9, 10, 11, 12, 13, 14, 15, 16, 17, 18, 19, 20, 21, 22, 23] (fun ⟨n, x8, x9⟩ => ([(4, .int .i64 (((x9 : Nat) : Int)))] : Slots)) (fun ⟨n, x8, x9⟩ R => sl tyA169 (.slice (some ⟨b2, 0, none⟩) 256 256) x8 :: R) (fun ⟨n, x8, x9⟩ => checksum_newTable_l1 n x8 x9 = some y5) (fun ⟨n, x8, x9⟩ => n) ⟨FUEL, (List.replicate 256 0), 0⟩ ?_ ?_ eR ?_
  · exact hl3
  · exact ⟨rfl, True.intro⟩
  ·
   rintro ⟨n, x8, x9⟩ h
   cases n with
   | zero => exact none_e h
   | succ n => ?_
   replace h : checksum_newTable_l1_b (checksum_newTable_l1 n) x8 x9 = some y5 := h
   unfold checksum_newTable_l1_b at h
   show CJ _ _ _ _ _ (([(4, .int .i64 (((x9 : Nat) : Int)))] : Slots) ++ forget _ _) (sl tyA169 (.slice (some ⟨b2, 0, none⟩) 256 256) x8 :: _)
   refine lC del0 fun hlen10 => sR <| oP (P_lss (a := ((x9 : Nat) : Int)) (b := (256 : Int)) rfl rfl) rfl <| nT <| CJ_seq <| CJ_condP rfl bT_dec (fun hg1 => ?_) (fun hg1 => ?_)
   ·
    replace h := ite_t hg1 h
    refine kT <| CJ_seq <| CJ_block <| sR <| oM rfl rfl <| oA rfl rfl <| nT <| sR <| oM rfl rfl <| oP (P_conv_u32 (a := ((x9 : Nat) : Int)) rfl Try.runUnderlying3 Try.runUnderlying152) rfl <| oA rfl rfl <| nT <| CJ_seq <| sR <| oM rfl rfl <| nT ?_
    obtain ⟨y13, hl11, hK12⟩ := bind_c h
    refine CJ_cutT (X := UInt32) [3, 9, 10, 11, 12, 13, 14, 15, 16, 17, 18, 19] (fun a15 => ([(3, .int .u32 (a15.toNat : Int))] : Slots)) (fun a15 R => R) (fun a15 => y13 = a15) Dels.nil ?_ ?_
    ·
     refine CJ_block <| CJ_loopR (X := Nat × UInt32 × Nat) [3, 9, 10, 11, 12, 13, 14, 15, 16, 17, 18, 19] (fun ⟨n, x16, x17⟩ => ([(3, .int .u32 (x16.toNat : Int)), (9, .int .i64 (((x17 : Nat) : Int)))] : Slots)) (fun ⟨n, x16, x17⟩ R => R) (fun ⟨n, x16, x17⟩ => checksum_newTable_l2 n x16 x17 = some y13) (fun ⟨n, x16, x17⟩ => n) ⟨FUEL, (to_u32 (((x9 : Nat) : Int))), 0⟩ ?_ ?_ eR ?_
     · exact hl11
     · exact ⟨rfl, rfl, True.intro⟩
     ·
      rintro ⟨n, x16, x17⟩ h
      cases n with
      | zero => exact none_e h
      | succ n => ?_
      replace h : checksum_newTable_l2_b (checksum_newTable_l2 n) x16 x17 = some y13 := h
      unfold checksum_newTable_l2_b at h
      show CJ _ _ _ _ _ (([(3, .int .u32 (x16.toNat : Int)), (9, .int .i64 (((x17 : Nat) : Int)))] : Slots) ++ forget _ _) (_)
      refine sR <| oP (P_lss (a := ((x17 : Nat) : Int)) (b := (8 : Int)) rfl rfl) rfl <| nT <| CJ_seq <| CJ_condP rfl bT_dec (fun hg2 => ?_) (fun hg2 => ?_)
      ·
       replace h := ite_t hg2 h
       refine kT <| CJ_seq <| CJ_block <| sR <| oM rfl rfl <| oP (P_and_u32 (a := x16) (b := (1 : UInt32)) rfl rfl) rfl <| oP (P_eq_u32 (a := (x16 &&& (1 : UInt32))) (b := (1 : UInt32)) rfl rfl) rfl <| nT <| CJ_condP rfl bT_dec (fun hg3 => ?_) (fun hg3 => ?_)
       ·
        replace h := ite_t hg3 h
        exact CJ_region <| oM rfl rfl <| oP (P_shr_u32 (a := x16) (m := 1) rfl rfl rfl) rfl <| oP (P_xor_u32 (a := (shr_u32 x16 1)) (b := (2197175160 : UInt32)) rfl rfl) rfl <| oA rfl rfl <| RJ_nil <| QJ_block_normal <| QJ_then <| CJ_region <| oP (PJ_eq (P_add (a := ((x17 : Nat) : Int)) (b := (1 : Int)) rfl rfl (by omega)) rfl) rfl <| oM rfl rfl <| RJ_nil <| nR ⟨n, ((shr_u32 x16 1) ^^^ (2197175160 : UInt32)), (x17 + 1)⟩ h ⟨rfl, rfl, True.intro⟩ eR
       ·
        replace h := ite_f hg3 h
        exact CJ_region <| oM rfl rfl <| oP (P_shr_u32 (a := x16) (m := 1) rfl rfl rfl) rfl <| oA rfl rfl <| RJ_nil <| QJ_block_normal <| QJ_then <| CJ_region <| oP (PJ_eq (P_add (a := ((x17 : Nat) : Int)) (b := (1 : Int)) rfl rfl (by omega)) rfl) rfl <| oM rfl rfl <| RJ_nil <| nR ⟨n, (shr_u32 x16 1), (x17 + 1)⟩ h ⟨rfl, rfl, True.intro⟩ eR
      ·
       replace h := ite_f hg2 h
       exact CJ_exit <| QJ_then_exit <| QJ_round_exit <| QJ_block_here <| cR x16 (Option.some.inj h).symm ⟨rfl, True.intro⟩ eR
    ·
     rintro a15 hy18
     replace h := bindK_at hK12 hy18
     show CJ _ _ _ _ _ (([(3, .int .u32 (a15.toNat : Int))] : Slots) ++ forget _ _) (_)
     exact CJ_region <| oM rfl rfl <| oM rfl rfl <| RJ_pure (slLen del0) fun hal19 => oP (P_indexArrD (i := x9) rfl rfl rfl (by omega) Try.runUnderlying169 Try.sizeOf152) rfl <| oO <| O_storeE (x' := a15) rfl rfl rfl (lt_len hal19 (show x9 < 256 from (by omega))) foc0 rfl rfl rfl Try.sizeOf152 <| RJ_nil <| QJ_block_normal <| QJ_then <| CJ_region <| oP (PJ_eq (P_add (a := ((x9 : Nat) : Int)) (b := (1 : Int)) rfl rfl (by omega)) rfl) rfl <| oM rfl rfl <| RJ_nil <| nR ⟨n, (x8.set x9 a15), (x9 + 1)⟩ h ⟨rfl, True.intro⟩ eR
   ·
    replace h := ite_f hg1 h
    exact CJ_exit <| QJ_then_exit <| QJ_round_exit <| QJ_block_here <| cR x8 (Option.some.inj h).symm True.intro eR
 ·
  rintro a7 hy20
  replace h := bindK_at hK4 hy20
  show CJ _ _ _ _ _ (([] : Slots) ++ forget _ _) (sl tyA169 (.slice (some ⟨b2, 0, none⟩) 256 256) a7 :: _)
  refine lC del0 fun hlen21 => sR <| RJ_pure (slLen del0) fun hal22 => oV (V_loadArr (t := tyA169) rfl rfl foc0 hal22 Try.isAgg169 Try.sizeOf169) rfl <| RJ_pure (slLen del1) fun hal23 => oO <| O_storeArr (t := tyA169) rfl rfl rfl foc1 hal23 hal22 Try.sizeOf169 <| nT <| CJ_ret ?_
  have hE := Option.some.inj h
  subst hE
  refine QJ_pure (slLen del1) fun hal24 => QJ_end (resA1 Try.results102 (RV_arr (t := tyA169) rfl rfl foc1 hal24 Try.isAgg169 Try.sizeOf169)) <| CSpec.close () ?_ ?_ (eD (eD eR))
  · rfl
  · trivial
def checksum_spread (l : List UInt64) : Option (Unit) :=
  some ()
theorem L_checksum_spread {W : World} {Al : HP} {vl : Value} {l : List UInt64} {r : Unit} (rl : Reads Al tyU vl l) (h : checksum_spread l = some r) :
    CSpec Try.prog W 104 [vl] [Al] (fun x : Nat => .func (.func 106) #[] #[ptr x 0]) (fun _ => True) (fun x F => Al :: blk x 29 [vl] :: F) := by
 refine CSpec.of_body Try.func104 rfl Try.ntmps104 rfl fun F => ?_
 show CJ _ _ _ _ _ _ (_ :: F)
 unfold checksum_spread at h
 refine CJ_pure (len_of rl del0) fun hlen1 => sR <| RJ_pure (reads_sl3 rl del0) fun hsv3 => ?_
 obtain ⟨sv2, hsv3⟩ := hsv3
 subst hsv3
 refine oO <| O_box rfl rfl rfl fun b4 => oA rfl rfl <| nT <| sR <| oP (P_makeFunc rfl rfl) rfl <| oA rfl rfl <| nT <| CJ_ret ?_
 cases h
 exact fE (res1 Try.results104 rfl) b4 (t1_ eR)
def checksum_table_run__checksum_spread_1_l1_b (t : List UInt32) (rec : UInt32 → Option (UInt32)) (e5 : UInt8) (a9 : UInt32) : Option (UInt32) :=
  rec (((t.getD ((((to_u8 (a9.toNat : Int)) ^^^ e5)).toNat) 0) ^^^ (shr_u32 a9 8)))
def checksum_table_run__checksum_spread_1_l1 (t : List UInt32) : List UInt8 → UInt32 → Option (UInt32)
  | [], a9 => some a9
  | e5 :: bs12, a9 => checksum_table_run__checksum_spread_1_l1_b t (checksum_table_run__checksum_spread_1_l1 t bs12) e5 a9
def checksum_table_run__checksum_spread_1 (t : List UInt32) (r_1 : UInt32) (bytes_c0 : List UInt64) : Option (UInt32) :=
  Option.bind (checksum_table_run__checksum_spread_1_l1 t (spreadL bytes_c0) r_1) fun a9 =>
  some a9
theorem L_checksum_table_run__checksum_spread_1 {W : World} {bt : Nat} {bbytes_c0 : Nat} {Abytes_c0 : HP} {vbytes_c0 : Value} {t : List UInt32} {r_1 : UInt32} {bytes_c0 : List UInt64} {r : UInt32} (rbytes_c0 : Reads Abytes_c0 tyU vbytes_c0 bytes_c0) (h : checksum_table_run__checksum_spread_1 t r_1 bytes_c0 = some r) :
    CSpec Try.prog W 103 [ptr bt 0, .int .u32 (r_1.toNat : Int), .func (.func 106) #[] #[ptr bbytes_c0 0]] [sl tyA169 (.slice (some ⟨bt, 0, none⟩) 256 256) t, blk bbytes_c0 29 [vbytes_c0], Abytes_c0] (fun x : Unit => .int .u32 (r.toNat : Int)) (fun _ => True) (fun x F => sl tyA169 (.slice (some ⟨bt, 0, none⟩) 256 256) t :: blk bbytes_c0 29 [vbytes_c0] :: Abytes_c0 :: F) := by
  refine CSpec.of_bodyM Try.func103 rfl Try.ntmps103 rfl (fun F => ?_)
  show CJ _ _ _ _ _ _ (_ :: _ :: _ :: F)
  unfold checksum_table_run__checksum_spread_1 at h
  refine CJ_pure (len_of (Reads.sl _ _ _) del0) (fun hlen1 => ?_)
  refine CJ_pure (len_of rbytes_c0 del2) (fun hlen2 => ?_)
  refine CJ_seq ?_
  refine CJ_region ?_
  refine RJ_op rfl (O_box rfl rfl rfl (fun b3 => ?_))
  refine RJ_op rfl (O_box rfl rfl rfl (fun b4 => ?_))
  refine RJ_op rfl (OJ_P (P_assign rfl) rfl ?_)
  refine RJ_nil ?_
  refine QJ_then ?_
  refine CJ_seq ?_
  refine CJ_seq ?_
  refine CJ_region ?_
  refine RJ_op rfl (OJ_P (P_move rfl) rfl ?_)
  refine RJ_nil ?_
  refine QJ_then ?_
  refine CJ_block ?_
  obtain ⟨y8, hl6, hK7⟩ := bind_c h
  refine CJ_range (ps := [9]) (C := UInt32) (Z := Unit) (ispec_spread rbytes_c0) rfl Try.call106 rfl (fun _ => rfl) (fun a9 R => blk b4 152 [.int .u32 (a9.toNat : Int)] :: R) (fun bs12 a9 => checksum_table_run__checksum_spread_1_l1 t bs12 a9 = some y8) (fun _ R => R) (fun _ => False) r_1 hl6 (Dels.cons del3 (Dels.cons del3 Dels.nil)) Ent.refl ?_ ?_ ?_
  ·
    rintro l13 Zz bs12 e5 a9 hpre14 h
    replace h : checksum_table_run__checksum_spread_1_l1_b t (checksum_table_run__checksum_spread_1_l1 t bs12) e5 a9 = some y8 := h
    unfold checksum_table_run__checksum_spread_1_l1_b at h
    show CJ _ _ _ _ _ (([(9, .int .u8 (e5.toNat : Int))] : Slots) ++ _) (Zz :: blk b4 152 [.int .u32 (a9.toNat : Int)] :: _)
    refine CJ_region ?_
    refine RJ_op rfl (OJ_P (P_assign rfl) rfl ?_)
    refine RJ_nil ?_
    refine QJ_begin (fun Zz15 => ?_)
    refine CJ_block ?_
    refine AJ_startH 2048 (by kernel_rfl) rfl ?_
    refine AJ_takeV 0 1 rfl (by kernel_rfl) rfl (by kernel_rfl) (by kernel_rfl) (GY_none rfl) Ent.refl (V_load rfl foc2 rfl Try.isAgg176) rfl (fun _ _ _ _ h => h) ?_
    refine AJ_takeV 1 3 rfl (by kernel_rfl) rfl (by kernel_rfl) (by kernel_rfl) (GY_none rfl) Ent.refl (V_load rfl foc1 rfl Try.isAgg152) rfl (fun _ _ _ _ h => h) ?_
    refine AJ_takeP 2 7 rfl (by kernel_rfl) rfl (GY_none rfl) (P_conv_u8 (a := (a9.toNat : Int)) rfl Try.runUnderlying152 Try.runUnderlying5) rfl (fun _ _ _ _ h => h) ?_
    refine AJ_takeP 3 15 rfl (by kernel_rfl) rfl (GY_none rfl) (P_move rfl) rfl (fun _ _ _ _ h => h) ?_
    refine AJ_takeP 4 31 rfl (by kernel_rfl) rfl (GY_none rfl) (P_xor_u8 (a := (to_u8 (a9.toNat : Int))) (b := e5) rfl rfl) rfl (fun _ _ _ _ h => h) ?_
    refine AJ_takeP 5 63 rfl (by kernel_rfl) rfl (GY_none rfl) (P_nilCheck rfl) rfl (fun _ _ _ _ h => h) ?_
    refine AJ_pure (slLen del3) (fun hal16 => ?_)
    refine AJ_takeP 6 127 rfl (by kernel_rfl) rfl (GY_none rfl) (P_indexArrD (i := (((to_u8 (a9.toNat : Int)) ^^^ e5)).toNat) rfl rfl rfl (Nat.lt_of_lt_of_le (UInt8.toNat_lt (((to_u8 (a9.toNat : Int)) ^^^ e5))) (by decide)) Try.runUnderlying169 Try.sizeOf152) rfl (fun _ _ _ _ h => h) ?_
    refine AJ_takeV 7 255 rfl (by kernel_rfl) rfl (by kernel_rfl) (by kernel_rfl) (GY_none rfl) Ent.refl (V_loadE rfl rfl (lt_len hal16 (show (((to_u8 (a9.toNat : Int)) ^^^ e5)).toNat < 256 from (Nat.lt_of_lt_of_le (UInt8.toNat_lt (((to_u8 (a9.toNat : Int)) ^^^ e5))) (by decide)))) foc3 (Reads.sl _ _ _) rfl rfl Try.isAgg152) rfl (fun _ _ _ _ h => h) ?_
    refine AJ_takeV 8 511 rfl (by kernel_rfl) rfl (by kernel_rfl) (by kernel_rfl) (GY_none rfl) Ent.refl (V_load rfl foc1 rfl Try.isAgg152) rfl (fun _ _ _ _ h => h) ?_
    refine AJ_takeP 9 1023 rfl (by kernel_rfl) rfl (GY_none rfl) (P_shr_u32 (a := a9) (m := 8) rfl rfl rfl) rfl (fun _ _ _ _ h => h) ?_
    refine AJ_takeP 10 2047 rfl (by kernel_rfl) rfl (GY_none rfl) (P_xor_u32 (a := (t.getD ((((to_u8 (a9.toNat : Int)) ^^^ e5)).toNat) 0)) (b := (shr_u32 a9 8)) rfl rfl) rfl (fun _ _ _ _ h => h) ?_
    refine AJ_op 11 4095 rfl (by kernel_rfl) rfl (GY_none rfl) (O_store rfl rfl foc1 rfl rfl Try.sizeOf152 ?_)
    refine ⟨fun h => absurd h (by decide), ?_⟩
    refine AJ_done (by kernel_rfl) ?_
    refine QJ_block_normal ?_
    refine QJ_rng ((t.getD ((((to_u8 (a9.toNat : Int)) ^^^ e5)).toNat) 0) ^^^ (shr_u32 a9 8)) ?_ Ent.refl
    exact h
  ·
    rintro D17 a9 hy18
    replace h := bindK_sm hK7 (show some a9 = some y8 from hy18)
    show QJ _ _ _ _ _ (dblk D17 :: blk bbytes_c0 29 [vbytes_c0] :: Abytes_c0 :: blk b4 152 [.int .u32 (a9.toNat : Int)] :: _)
    refine QJ_block_normal ?_
    refine QJ_then ?_
    refine CJ_seq ?_
    refine CJ_region ?_
    refine RJ_op rfl (OJ_V (V_load rfl foc3 rfl Try.isAgg152) rfl ?_)
    refine RJ_op rfl (OJ_P (P_assign rfl) rfl ?_)
    refine RJ_nil ?_
    refine QJ_then ?_
    refine CJ_ret ?_
    have hE := Option.some.inj h
    subst hE
    refine QJ_endM1 (.inl rfl) del0 (res1 Try.results103 rfl) rfl ?_
    refine CSpec.close () ?_ ?_ (Ent.take del4 (Ent.take del0 (Ent.take del0 (Ent.drop (Ent.drop Ent.refl)))))
    · rfl
    · trivial
  ·
    exact fun _ _ h9 => h9.elim
def checksum_Extend (sum : UInt32) (l : List UInt64) : Option (UInt32) :=
  Option.bind (checksum_newTable) fun r2 =>
  grd (decide (r2.length = 256)) <|
  Option.bind (checksum_spread l) fun r6 =>
  Option.bind (checksum_table_run__checksum_spread_1 r2 (~~~sum) l) fun r10 =>
  some (~~~r10)
theorem L_checksum_Extend {W : World} {Al : HP} {vl : Value} {sum : UInt32} {l : List UInt64} {r : UInt32} (rl : Reads Al tyU vl l) (h : checksum_Extend sum l = some r) :
    CSpec Try.prog W 98 [.int .u32 (sum.toNat : Int), vl] [Al] (fun x : Unit => .int .u32 (r.toNat : Int)) (fun _ => True) (fun x F => Al :: F) := by
 refine CSpec.of_body Try.func98 rfl Try.ntmps98 rfl fun F => ?_
 show CJ _ _ _ _ _ _ (_ :: F)
 unfold checksum_Extend at h
 refine CJ_pure (len_of rl del0) fun hlen1 => sR <| oA rfl rfl <| nT <| sR ?_
 obtain ⟨r2, hr3, h⟩ := bind_e h
 refine oO <| O_call (L_checksum_newTable hr3) rfl Try.call102 Dels.nil rfl fun _ _ => oO <| O_alloc Try.zeroValue169 rfl rfl fun b4 => RJ_ent (sl_of_lit (t := tyA169) (m := 256) (List.replicate 256 0) rfl rfl (by kernel_rfl) (by decide)) <| RJ_pure (slLen del0) fun hal5 => ?_
 obtain ⟨hg1, h⟩ := grd_de h
 refine oO <| O_storeArr (t := tyA169) rfl rfl rfl foc0 hal5 hg1 Try.sizeOf169 <| nT <| sR <| oM rfl rfl <| oP (P_com_u32 (a := sum) rfl) rfl <| oM rfl rfl ?_
 obtain ⟨r6, hr7, h⟩ := bind_e h
 refine oO <| O_call (L_checksum_spread rl hr7) rfl Try.call104 (Dels.cons del1 Dels.nil) rfl fun X8 _ => ?_
 obtain ⟨r10, hr11, h⟩ := bind_e h
 refine oO <| O_call (L_checksum_table_run__checksum_spread_1 rl hr11) rfl Try.call103 (Dels.cons del2 (Dels.cons del1 (Dels.cons del0 Dels.nil))) rfl fun _ _ => oP (P_com_u32 (a := r10) rfl) rfl <| oA rfl rfl <| nT <| CJ_ret ?_
 cases h
 exact fE (res1 Try.results98 rfl) () (t2_ (eD (eD eR)))
def checksum_Words (l : List UInt64) : Option (UInt32) :=
  Option.bind (checksum_Extend (0 : UInt32) l) fun r2 =>
  some r2
theorem L_checksum_Words {W : World} {Al : HP} {vl : Value} {l : List UInt64} {r : UInt32} (rl : Reads Al tyU vl l) (h : checksum_Words l = some r) :
    CSpec Try.prog W 85 [vl] [Al] (fun x : Unit => .int .u32 (r.toNat : Int)) (fun _ => True) (fun x F => Al :: F) := by
 refine CSpec.of_body Try.func85 rfl Try.ntmps85 rfl fun F => ?_
 show CJ _ _ _ _ _ _ (_ :: F)
 unfold checksum_Words at h
 refine CJ_pure (len_of rl del0) fun hlen1 => sR <| oA rfl rfl <| nT <| sR <| oM rfl rfl ?_
 obtain ⟨r2, hr3, h⟩ := bind_e h
 refine oO <| O_call (L_checksum_Extend rl hr3) rfl Try.call98 (Dels.cons del0 Dels.nil) rfl fun _ _ => oA rfl rfl <| nT <| CJ_ret ?_
 cases h
 exact fE (res1 Try.results85 rfl) () eR
def checksum_Short (sum : UInt32) : Option (UInt16) :=
  some (((to_u16 (((shr_u32 sum 16).toNat : Int))) ^^^ (to_u16 (sum.toNat : Int))))
theorem L_checksum_Short {W : World} {sum : UInt32} {r : UInt16} (h : checksum_Short sum = some r) :
    CSpec Try.prog W 84 [.int .u32 (sum.toNat : Int)] [] (fun x : Unit => .int .u16 (r.toNat : Int)) (fun _ => True) (fun x F => F) := by
 refine CSpec.of_body Try.func84 rfl Try.ntmps84 rfl fun F => ?_
 show CJ _ _ _ _ _ _ (F)
 unfold checksum_Short at h
 refine sR <| oA rfl rfl <| nT <| sR <| oM rfl rfl <| oP (P_shr_u32 (a := sum) (m := 16) rfl rfl rfl) rfl <| oP (P_conv_u16 (a := ((shr_u32 sum 16).toNat : Int)) rfl Try.runUnderlying152 Try.runUnderlying71) rfl <| oM rfl rfl <| oP (P_conv_u16 (a := (sum.toNat : Int)) rfl Try.runUnderlying152 Try.runUnderlying71) rfl <| oP (P_xor_u16 (a := (to_u16 (((shr_u32 sum 16).toNat : Int)))) (b := (to_u16 (sum.toNat : Int))) rfl rfl) rfl <| oA rfl rfl <| nT <| CJ_ret ?_
 cases h
 exact fE (res1 Try.results84 rfl) () eR
end Go.Proofs
namespace Go.Proofs
open Go.VG
theorem bv_shr32 (x : UInt32) {m : Nat} (h : m ≤ 32) : (shr_u32 x m).toBitVec = x.toBitVec >>> m := by
  apply BitVec.eq_of_toNat_eq
  rw [BitVec.toNat_ushiftRight, Nat.shiftRight_eq_div_pow]
  show (shr_u32 x m).toNat = _
  rw [shr_u32_toNat, Nat.min_eq_left h]; rfl
theorem bv_shr64 (x : UInt64) {m : Nat} (h : m ≤ 64) : (shr_u64 x m).toBitVec = x.toBitVec >>> m := by
  apply BitVec.eq_of_toNat_eq
  rw [BitVec.toNat_ushiftRight, Nat.shiftRight_eq_div_pow]
  show (shr_u64 x m).toNat = _
  rw [shr_u64_toNat, Nat.min_eq_left h]; rfl
theorem bv_to_u8_64 (x : UInt64) : (to_u8 (x.toNat : Int)).toBitVec = x.toBitVec.setWidth 8 := by
  apply BitVec.eq_of_toNat_eq
  rw [BitVec.toNat_setWidth]
  have := to_u8_toNat (x.toNat : Int)
  show (to_u8 (x.toNat : Int)).toNat = x.toNat % 2 ^ 8
  omega
theorem bv_to_u8_32 (x : UInt32) : (to_u8 (x.toNat : Int)).toBitVec = x.toBitVec.setWidth 8 := by
  apply BitVec.eq_of_toNat_eq
  rw [BitVec.toNat_setWidth]
  have := to_u8_toNat (x.toNat : Int)
  show (to_u8 (x.toNat : Int)).toNat = x.toNat % 2 ^ 8
  omega
theorem bv_to_u32_8 (x : UInt8) : (to_u32 (x.toNat : Int)).toBitVec = x.toBitVec.setWidth 32 := by
  apply BitVec.eq_of_toNat_eq
  rw [BitVec.toNat_setWidth]
  have := to_u32_toNat (x.toNat : Int)
  have h8 := x.toNat_lt
  show (to_u32 (x.toNat : Int)).toNat = x.toNat % 2 ^ 32
  omega
theorem low_bit (x : UInt32) : (x &&& (1 : UInt32)) = 1 ↔ x.toBitVec.getLsbD 0 = true := by
  rw [← UInt32.toBitVec_inj, UInt32.toBitVec_and]
  show x.toBitVec &&& 1#32 = 1#32 ↔ _
  constructor
  · intro h
    have := congrArg (fun z : BitVec 32 => z.getLsbD 0) h
    simpa using this
  · intro h
    refine BitVec.eq_of_getLsbD_eq fun i hi => ?_
    rw [BitVec.getLsbD_and]
    cases i with
    | zero => rw [h]; rfl
    | succ i =>
      have : (1#32).getLsbD (i + 1) = false := by rw [BitVec.getLsbD_ofNat]; simp [Nat.testBit_succ]
      rw [this]; simp
def stU (x : UInt32) : UInt32 := ⟨stB x.toBitVec⟩
theorem stU_t {x : UInt32} (h : (x &&& (1 : UInt32)) = 1) : (shr_u32 x 1) ^^^ (2197175160 : UInt32) = stU x := by
  rw [← UInt32.toBitVec_inj, UInt32.toBitVec_xor, bv_shr32 x (by omega)]
  simp only [stU, stB, if_pos ((low_bit x).1 h)]; rfl
theorem stU_f {x : UInt32} (h : ¬ (x &&& (1 : UInt32)) = 1) : shr_u32 x 1 = stU x := by
  rw [← UInt32.toBitVec_inj, bv_shr32 x (by omega)]
  simp only [stU, stB, if_neg (fun h' => h ((low_bit x).2 h'))]; simp
theorem iter_stU : ∀ (n : Nat) (x : UInt32), (iterN stU n x).toBitVec = iterN stB n x.toBitVec
  | 0, _ => rfl
  | n + 1, x => by show (iterN stU n (stU x)).toBitVec = _; rw [iter_stU n]; rfl
def byU (x : UInt32) (b : UInt8) : UInt32 := ⟨byB x.toBitVec b.toBitVec⟩
def woU (x : UInt32) (w : UInt64) : UInt32 := ⟨woB x.toBitVec w.toBitVec⟩
def crcE (sum : UInt32) (l : List UInt64) : UInt32 := ~~~(l.foldl woU (~~~sum))
def crcU (l : List UInt64) : UInt32 := crcE 0 l
theorem table_l2_eq : ∀ (k n : Nat) (x : UInt32) (j : Nat), j + k = 8 → k < n → checksum_newTable_l2 n x j = some (iterN stU k x)
  | 0, n + 1, x, j, hj, _ => by
    obtain rfl : j = 8 := by omega
    rfl
  | k + 1, n + 1, x, j, hj, hn => by
    have hlt : ((j : Nat) : Int) < (8 : Int) := by omega
    simp only [checksum_newTable_l2, checksum_newTable_l2_b, if_pos hlt]
    by_cases h : (x &&& (1 : UInt32)) = 1
    · rw [if_pos h, stU_t h]; exact table_l2_eq k n (stU x) (j + 1) (by omega) (by omega)
    · rw [if_neg h, stU_f h]; exact table_l2_eq k n (stU x) (j + 1) (by omega) (by omega)
def entU (b : Nat) : UInt32 := iterN stU 8 (to_u32 (b : Int))
set_option maxRecDepth 4000 in
theorem table_l1_eq {M : Nat} (hM : M = 256) : ∀ (k n : Nat) (t : List UInt32) (j : Nat), j + k = M → k < n → t.length = M → (∀ b, b < j → t.getD b 0 = entU b) →
    ∃ T, checksum_newTable_l1 n t j = some T ∧ T.length = M ∧ ∀ b, b < M → T.getD b 0 = entU b
  | 0, n + 1, t, j, hj, _, hl, ht => by
    have hlt : ¬ ((j : Nat) : Int) < (256 : Int) := by omega
    exact ⟨t, by show checksum_newTable_l1_b _ t j = _; unfold checksum_newTable_l1_b; rw [if_neg hlt], hl, fun b hb => ht b (by omega)⟩
  | k + 1, n + 1, t, j, hj, hn, hl, ht => by
    have hlt : ((j : Nat) : Int) < (256 : Int) := by omega
    have e0 : checksum_newTable_l1 (n + 1) t j = checksum_newTable_l1 n (t.set j (entU j)) (j + 1) := by
      show checksum_newTable_l1_b _ t j = _
      unfold checksum_newTable_l1_b
      rw [if_pos hlt]
      have hF := fuel_big; generalize FUEL = N at hF ⊢
      rw [table_l2_eq 8 N _ 0 rfl (by omega), Option.bind_some]; rfl
    rw [e0]
    refine table_l1_eq hM k n _ (j + 1) (by omega) (by omega) (by simpa using hl) fun b hb => ?_
    by_cases hbj : b = j
    · subst hbj
      simp [List.getD_eq_getElem?_getD, hl, show b < M by omega, entU]
    · have := ht b (by omega)
      simp only [List.getD_eq_getElem?_getD, List.getElem?_set_ne (fun e => hbj e.symm)] at this ⊢
      exact this
set_option maxRecDepth 4000 in
theorem table_eq : ∃ T, checksum_newTable = some T ∧ T.length = 256 ∧ ∀ b, b < 256 → T.getD b 0 = entU b := by
  unfold checksum_newTable
  have hF := fuel_big; generalize FUEL = N at hF ⊢
  obtain ⟨T, h1, h2, h3⟩ := table_l1_eq rfl 256 N (List.replicate 256 0) 0 rfl (by omega) (by simp) (fun b hb => absurd hb (by omega))
  exact ⟨T, by rw [h1]; rfl, h2, h3⟩
theorem run_step {T : List UInt32} (ht : ∀ b, b < 256 → T.getD b 0 = entU b) (r : UInt32) (e : UInt8) :
    (T.getD (((to_u8 (r.toNat : Int)) ^^^ e).toNat) 0) ^^^ (shr_u32 r 8) = byU r e := by
  rw [ht _ (UInt8.toNat_lt _)]
  rw [← UInt32.toBitVec_inj, UInt32.toBitVec_xor, entU, iter_stU, bv_shr32 r (by omega)]
  show _ = byB _ _
  have e1 : (to_u32 ((((to_u8 (r.toNat : Int)) ^^^ e).toNat : Nat) : Int)).toBitVec = (r.toBitVec.setWidth 8 ^^^ e.toBitVec).setWidth 32 := by
    rw [bv_to_u32_8, UInt8.toBitVec_xor, bv_to_u8_32]
  rw [e1]
  generalize r.toBitVec = x
  generalize e.toBitVec = b
  unfold byB
  have e2 : x ^^^ b.setWidth 32 = (x.setWidth 8 ^^^ b).setWidth 32 ^^^ ((x >>> 8) <<< 8) := by
    refine BitVec.eq_of_getLsbD_eq fun i hi => ?_
    simp only [BitVec.getLsbD_xor, BitVec.getLsbD_setWidth, hi, decide_true, Bool.true_and, BitVec.getLsbD_shiftLeft, BitVec.getLsbD_ushiftRight]
    by_cases h8 : i < 8
    · simp [h8]
    · have e1 : 8 + (i - 8) = i := by omega
      have hb : b.getLsbD i = false := BitVec.getLsbD_of_ge _ _ (by omega)
      simp [h8, e1, hb]
  have e3 : ∀ (n : Nat) {y : BitVec 32}, (∀ i, i < n → y.getLsbD i = false) → iterN stB n y = y >>> n := by
    intro n
    induction n with
    | zero => intro y _; simp [iterN]
    | succ n ih =>
      intro y h
      have h0 := h 0 (by omega)
      have e : stB y = y >>> 1 := by unfold stB; rw [h0]; simp
      show iterN stB n (stB y) = _
      rw [e, ih (fun i hi => by rw [BitVec.getLsbD_ushiftRight]; exact h _ (by omega)), ← BitVec.shiftRight_add, Nat.add_comm]
  rw [e2, iterB_xor, e3 8 (y := (x >>> 8) <<< 8) (fun i hi => by simp [hi])]
  congr 1
  refine BitVec.eq_of_getLsbD_eq fun i hi => ?_
  simp only [BitVec.getLsbD_ushiftRight, BitVec.getLsbD_shiftLeft]
  have e2 : 8 + i - 8 = i := by omega
  rw [e2]
  by_cases h : 8 + i < 32
  · simp [h]
  · have : x.getLsbD (8 + i) = false := BitVec.getLsbD_of_ge _ _ (by omega)
    simp [h, this]
theorem run_l1_eq {T : List UInt32} (ht : ∀ b, b < 256 → T.getD b 0 = entU b) : ∀ (l : List UInt8) (r : UInt32), checksum_table_run__checksum_spread_1_l1 T l r = some (l.foldl byU r)
  | [], _ => rfl
  | e :: l, r => by
    simp only [checksum_table_run__checksum_spread_1_l1, checksum_table_run__checksum_spread_1_l1_b, run_step ht]
    exact run_l1_eq ht l _
theorem bytesK_fold (w : UInt64) : ∀ (k : Nat) (x : UInt32), k ≤ 8 → (bytesK w k).foldl byU ⟨bytesB x.toBitVec w.toBitVec (8 - k)⟩ = woU x w
  | 0, x, _ => by
    rw [← UInt32.toBitVec_inj]
    exact wo_bytes.symm
  | k + 1, x, hk => by
    have e : byU ⟨bytesB x.toBitVec w.toBitVec (8 - (k + 1))⟩ (to_u8 ((shr_u64 w (8 * (8 - (k + 1)))).toNat : Int)) = ⟨bytesB x.toBitVec w.toBitVec (8 - k)⟩ := by
      rw [← UInt32.toBitVec_inj]
      show byB _ _ = _
      rw [bv_to_u8_64, bv_shr64 w (by omega), show 8 - k = (8 - (k + 1)) + 1 by omega]; rfl
    rw [bytesK, List.foldl_cons, e]
    exact bytesK_fold w k x (by omega)
theorem spread_fold : ∀ (l : List UInt64) (x : UInt32), (spreadL l).foldl byU x = l.foldl woU x
  | [], _ => rfl
  | w :: l, x => by
    have h := bytesK_fold w 8 x (by omega)
    rw [show (⟨bytesB x.toBitVec w.toBitVec (8 - 8)⟩ : UInt32) = x from rfl] at h
    rw [spreadL, List.foldl_append, h, List.foldl_cons]
    exact spread_fold l _
theorem Extend_eq {sum : UInt32} {l : List UInt64} : checksum_Extend sum l = some (crcE sum l) := by
  obtain ⟨T, h1, h2, h3⟩ := table_eq
  unfold checksum_Extend
  rw [h1, Option.bind_some, grd_pos (decide_eq_true h2)]
  simp only [checksum_spread, Option.bind_some, checksum_table_run__checksum_spread_1, run_l1_eq h3, spread_fold]; rfl
theorem Words_eq {l : List UInt64} : checksum_Words l = some (crcU l) := by
  unfold checksum_Words
  rw [Extend_eq]; rfl
end Go.Proofs
namespace Go.Proofs
open Go.VG
def plc (r st i : Nat) : Nat := 2 + (st + i) % r
def ringW (A : Nat → UInt64) (r st n : Nat) : List UInt64 := (List.range n).map fun i => A (plc r st i)
def shortU (x : UInt32) : UInt16 := to_u16 ((shr_u32 x 16).toNat : Int) ^^^ to_u16 (x.toNat : Int)
def sumW (q st n : UInt64) (ws : List UInt64) : UInt64 := to_u64 ((shortU (crcU (q :: st :: n :: ws))).toNat : Int)
theorem sumW_lt {q st n : UInt64} {ws : List UInt64} : (sumW q st n ws).toNat < 2 ^ 16 := by
  have h := (shortU (crcU (q :: st :: n :: ws))).toNat_lt
  have h2 := to_u64_toNat ((shortU (crcU (q :: st :: n :: ws))).toNat : Int)
  unfold sumW
  omega
abbrev dQ (w : UInt64) : UInt64 := fieldU w 0 20
abbrev dS (w : UInt64) : UInt64 := fieldU w 20 16
abbrev dN (w : UInt64) : UInt64 := fieldU w 36 12
abbrev dC (w : UInt64) : UInt64 := fieldU w 48 16
noncomputable def wholeR (A : Nat → UInt64) (r : Nat) (w : UInt64) : ByteArray × Bool :=
  open Classical in
  if dQ w = 0 ∨ dN w = 0 ∨ r ≤ (dS w).toNat ∨ r < (dN w).toNat then (emptyS, false)
  else ((decT (ringW A r (dS w).toNat (dN w).toNat)).1, decide ((decT (ringW A r (dS w).toNat (dN w).toNat)).2 = 0) && decide (sumW (dQ w) (dS w) (dN w) (ringW A r (dS w).toNat (dN w).toNat) = dC w))
def descT (q st : Nat) (s : ByteArray) : UInt64 :=
  descW (to_u64 (q : Int)) (to_u64 (st : Int)) (to_u64 ((encT s).length : Int)) (sumW (to_u64 (q : Int)) (to_u64 (st : Int)) (to_u64 ((encT s).length : Int)) (encT s))
section
variable {A B : Nat → UInt64} {r q st : Nat} {s : ByteArray} {w : UInt64}
theorem plc_lt (hr : 0 < r) {i : Nat} : plc r st i < 2 + r := by
  have := Nat.mod_lt (st + i) hr
  unfold plc; omega
theorem plc_ge {i : Nat} : 2 ≤ plc r st i := by unfold plc; omega
theorem plc_inj {i j : Nat} (hi : i < r) (hj : j < r) (h : plc r st i = plc r st j) : i = j := by
  unfold plc at h
  have h1 : (st + i) % r = (st + j) % r := by omega
  have h2 := Nat.div_add_mod (st + i) r; have h3 := Nat.div_add_mod (st + j) r
  rw [h1] at h2
  have hr : 0 < r := by omega
  rcases Nat.lt_trichotomy ((st + i) / r) ((st + j) / r) with h4 | h4 | h4
  · have := Nat.mul_le_mul_left r (show (st + i) / r + 1 ≤ (st + j) / r from h4)
    rw [Nat.mul_add, Nat.mul_one] at this; omega
  · rw [h4] at h2; omega
  · have := Nat.mul_le_mul_left r (show (st + j) / r + 1 ≤ (st + i) / r from h4)
    rw [Nat.mul_add, Nat.mul_one] at this; omega
theorem ringW_len {n : Nat} : (ringW A r st n).length = n := by simp [ringW]
theorem ringW_eq {n : Nat} {l : List UInt64} (hl : l.length = n) (h : ∀ i, i < n → A (plc r st i) = l.getD i 0) : ringW A r st n = l := by
  refine List.ext_getElem (by rw [ringW_len, hl]) fun i h1 h2 => ?_
  rw [← getD_get h2, ← h i (by omega)]
  simp [ringW]
theorem to_u64_lt {n k : Nat} (h : n < 2 ^ k) (hk : k ≤ 60) : (to_u64 (n : Int)).toNat < 2 ^ k := by
  have h1 := to_u64_toNat (n : Int)
  have h2 : 2 ^ k ≤ 2 ^ 60 := Nat.pow_le_pow_right (by omega) hk
  omega
theorem to_u64_nz {n : Nat} (h : n < 2 ^ 60) (h0 : n ≠ 0) : to_u64 (n : Int) ≠ 0 := by
  intro h1
  have h2 := to_u64_toNat (n : Int)
  rw [h1] at h2
  have : (0 : UInt64).toNat = 0 := rfl
  omega
theorem to_u64_nat60 {n : Nat} (h : n < 2 ^ 60) : (to_u64 (n : Int)).toNat = n := by
  have h1 := to_u64_toNat (n : Int)
  omega
structure DescOk (r q st : Nat) (s : ByteArray) : Prop where
  seq : 1 ≤ q ∧ q < 2 ^ 20
  room : r ≤ 65535
  start : st < r
  sz : s.size ≤ 8192
  fit : (encT s).length ≤ r
theorem encT_lt (h : s.size ≤ 8192) : (encT s).length < 2 ^ 12 := by rw [encT_len]; unfold bytesN; omega
theorem descT_Q (h : DescOk r q st s) : dQ (descT q st s) = to_u64 (q : Int) := by
  have h1 := h.seq; have h2 := h.room; have h3 := h.start; have h4 := encT_lt h.sz
  exact desc_0 (to_u64_lt (by omega) (by omega)) (to_u64_lt (by omega) (by omega)) (to_u64_lt h4 (by omega))
theorem descT_S (h : DescOk r q st s) : dS (descT q st s) = to_u64 (st : Int) := by
  have h1 := h.seq; have h2 := h.room; have h3 := h.start; have h4 := encT_lt h.sz
  exact desc_1 (to_u64_lt (by omega) (by omega)) (to_u64_lt (by omega) (by omega)) (to_u64_lt h4 (by omega))
theorem descT_N (h : DescOk r q st s) : dN (descT q st s) = to_u64 ((encT s).length : Int) := by
  have h1 := h.seq; have h2 := h.room; have h3 := h.start; have h4 := encT_lt h.sz
  exact desc_2 (to_u64_lt (by omega) (by omega)) (to_u64_lt (by omega) (by omega)) (to_u64_lt h4 (by omega))
theorem descT_C (h : DescOk r q st s) : dC (descT q st s) = sumW (to_u64 (q : Int)) (to_u64 (st : Int)) (to_u64 ((encT s).length : Int)) (encT s) := by
  have h1 := h.seq; have h2 := h.room; have h3 := h.start; have h4 := encT_lt h.sz
  exact desc_3 (to_u64_lt (by omega) (by omega)) (to_u64_lt (by omega) (by omega)) (to_u64_lt h4 (by omega)) sumW_lt
theorem descT_ne (h : DescOk r q st s) : descT q st s ≠ 0 := by
  intro h0
  have h1 := descT_Q h
  rw [h0] at h1
  have h2 := h.seq
  exact to_u64_nz (by omega) (by omega) (h1.symm.trans (by decide))
theorem whole_desc (h : DescOk r q st s) (hA : ∀ i, i < (encT s).length → A (plc r st i) = (encT s).getD i 0) : wholeR A r (descT q st s) = (s, true) := by
  have h1 := h.seq; have h2 := h.room; have h3 := h.start; have h4 := encT_lt h.sz; have h5 := h.fit
  unfold wholeR
  rw [descT_Q h, descT_S h, descT_N h, descT_C h, to_u64_nat60 (show st < 2 ^ 60 by omega), to_u64_nat60 (show (encT s).length < 2 ^ 60 by omega)]
  have hne : (encT s).length ≠ 0 := by rw [encT_len]; omega
  rw [if_neg]
  · rw [ringW_eq rfl hA, decT_enc h.sz]; simp
  · rintro (h | h | h | h)
    · exact to_u64_nz (by omega) (by omega) h
    · exact to_u64_nz (by omega) hne h
    · omega
    · omega
end
end Go.Proofs
namespace Go.Proofs
open Go.VG
def upd (A : Nat → UInt64) (k : Nat) (v : UInt64) : Nat → UInt64 := fun b => if b = k then v else A b
def putN (A : Nat → UInt64) (r st : Nat) (l : List UInt64) : Nat → (Nat → UInt64)
  | 0 => A
  | i + 1 => upd (putN A r st l i) (plc r st i) (l.getD i 0)
section
variable {A B : Nat → UInt64} {r st : Nat} {l : List UInt64}
theorem putN_out {b : Nat} : ∀ {k : Nat}, (∀ i, i < k → b ≠ plc r st i) → putN A r st l k b = A b
  | 0, _ => rfl
  | k + 1, h => by
    show upd _ _ _ b = _
    unfold upd
    rw [if_neg (h k (Nat.lt_succ_self _))]
    exact putN_out fun i hi => h i (by omega)
theorem putN_in {i : Nat} : ∀ {k : Nat}, i < k → k ≤ r → putN A r st l k (plc r st i) = l.getD i 0
  | 0, h, _ => absurd h (by omega)
  | k + 1, h, hk => by
    show upd _ _ _ _ = _
    unfold upd
    by_cases he : i = k
    · rw [he, if_pos rfl]
    · rw [if_neg (fun x => he (plc_inj (by omega) (by omega) x))]
      exact putN_in (by omega) (by omega)
end
structure Txt where
  q : Nat
  st : Nat
  s : ByteArray
def Hold (A : Nat → UInt64) (r d : Nat) : Option Txt → Prop
  | none => A d = 0
  | some t => DescOk r t.q t.st t.s ∧ A d = descT t.q t.st t.s ∧ ∀ i, i < (encT t.s).length → A (plc r t.st i) = (encT t.s).getD i 0
def oSt : Option Txt → Nat
  | none => 0
  | some t => t.st
def oLen : Option Txt → Nat
  | none => 0
  | some t => (encT t.s).length
section
variable {A B : Nat → UInt64} {r d : Nat} {c : Option Txt}
theorem Hold.ne (h : Hold A r d c) : A d = 0 ↔ c = none := by
  cases c with
  | none => exact ⟨fun _ => rfl, fun _ => h⟩
  | some t => exact ⟨fun h0 => absurd (h.2.1.symm.trans h0) (descT_ne h.1), fun h0 => by cases h0⟩
theorem Hold.whole {t : Txt} (h : Hold A r d (some t)) : wholeR A r (A d) = (t.s, true) := by
  rw [h.2.1]; exact whole_desc h.1 h.2.2
theorem Hold.congr (h : Hold A r d c) (hd : A d = B d) (hp : ∀ i, i < oLen c → A (plc r (oSt c) i) = B (plc r (oSt c) i)) : Hold B r d c := by
  cases c with
  | none => exact hd.symm.trans h
  | some t => exact ⟨h.1, hd.symm.trans h.2.1, fun i hi => (hp i hi).symm.trans (h.2.2 i hi)⟩
theorem Hold.len (h : Hold A r d c) : oLen c ≤ r := by
  cases c with
  | none => exact Nat.zero_le _
  | some t => exact h.1.fit
theorem Hold.dS {t : Txt} (h : Hold A r d (some t)) : (dS (A d)).toNat = t.st ∧ (dN (A d)).toNat = (encT t.s).length ∧ (dQ (A d)).toNat = t.q := by
  have h1 := h.1.seq; have h2 := h.1.room; have h3 := h.1.start; have h4 := encT_lt h.1.sz
  rw [h.2.1, descT_S h.1, descT_N h.1, descT_Q h.1, to_u64_nat60 (show t.st < 2 ^ 60 by omega), to_u64_nat60 (show (encT t.s).length < 2 ^ 60 by omega), to_u64_nat60 (show t.q < 2 ^ 60 by omega)]
  exact ⟨rfl, rfl, rfl⟩
def nextSt (r : Nat) (c : Option Txt) : Nat := (oSt c + oLen c) % r
theorem next_ne {i j : Nat} (hi : i < oLen c) {n : Nat} (hj : j < n) (hn : n + oLen c ≤ r) : plc r (nextSt r c) j ≠ plc r (oSt c) i :=
  fun h => by
    have e : plc r (nextSt r c) j = plc r (oSt c) (oLen c + j) := by unfold plc nextSt; rw [Nat.mod_add_mod, Nat.add_assoc]
    rw [e] at h
    have := plc_inj (by omega) (by omega) h
    omega
theorem Hold.free {n : Nat} (h : Hold A r 0 c) (hn : n + oLen c ≤ r) (hB : ∀ b, (∀ j, j < n → b ≠ plc r (nextSt r c) j) → b ≠ 1 → B b = A b) : Hold B r 0 c := by
  refine h.congr (hB 0 (fun j _ e => ?_) (by omega)).symm fun i hi => (hB _ (fun j hj e => ?_) (fun e => ?_)).symm
  · have := plc_ge (r := r) (st := nextSt r c) (i := j); omega
  · exact next_ne hi hj hn e.symm
  · have := plc_ge (r := r) (st := oSt c) (i := i); omega
theorem Hold.prep {q : Nat} {s : ByteArray} (h : Hold A r 0 c) (hr : 0 < r ∧ r ≤ 65535) (hq : 1 ≤ q ∧ q < 2 ^ 20) (hs : s.size ≤ 8192) (hn : (encT s).length + oLen c ≤ r) :
    Hold (upd (putN A r (nextSt r c) (encT s) (encT s).length) 1 (descT q (nextSt r c) s)) r 0 c ∧
      Hold (upd (putN A r (nextSt r c) (encT s) (encT s).length) 1 (descT q (nextSt r c) s)) r 1 (some ⟨q, nextSt r c, s⟩) := by
  constructor
  · refine h.free hn fun b hb h1 => ?_
    unfold upd; rw [if_neg h1]; exact putN_out hb
  · have hl : (encT s).length ≤ r := by omega
    refine ⟨⟨hq, hr.2, Nat.mod_lt _ hr.1, hs, hl⟩, by unfold upd; rw [if_pos rfl], fun i hi => ?_⟩
    unfold upd
    show (if plc r (nextSt r c) i = 1 then _ else _) = _
    rw [if_neg (by have := plc_ge (r := r) (st := nextSt r c) (i := i); omega)]
    exact putN_in hi hl
theorem Hold.switch {t : Txt} (h : Hold A r 1 (some t)) : Hold (upd A 0 (A 1)) r 0 (some t) := by
  refine ⟨h.1, by unfold upd; rw [if_pos rfl]; exact h.2.1, fun i hi => ?_⟩
  unfold upd
  rw [if_neg (by have := plc_ge (r := r) (st := t.st) (i := i); omega)]
  exact h.2.2 i hi
theorem Hold.clear : Hold (upd A 0 0) r 0 none := by show upd A 0 0 0 = 0; unfold upd; rw [if_pos rfl]
end
end Go.Proofs
namespace Go.Proofs
open Go.VG
end Go.Proofs
namespace Go.Proofs
open Go.VG
theorem insideB {n k m : Int} (hn : 0 ≤ n ∧ n ≤ 4611686018427387904) : block_inside n k m = some (decide (0 ≤ k ∧ k ≤ n ∧ 0 ≤ m ∧ m ≤ n - k)) := by
  unfold block_inside
  refine congrArg some ?_
  rw [Bool.eq_iff_iff]
  by_cases h : 0 ≤ k ∧ k ≤ n
  · rw [wrap64_in (by omega) (by omega)]; simp; omega
  · simp; omega
theorem inside1 {n k : Int} (hn : 0 ≤ n ∧ n ≤ 4611686018427387904) : block_inside n k 1 = some (decide (0 ≤ k ∧ k < n)) := by
  rw [insideB hn]; exact congrArg some (decide_eq_decide.2 (by omega))
theorem inI64_of {n : Int} (h : -4611686018427387904 ≤ n ∧ n ≤ 4611686018427387904) : inI64 n = true := inI64_iff.2 (by omega)
def spansA (s : ArrS) : List Dvc := (List.range s.drv.length).map fun i => Dvc.span ((i : Nat) : Int) 0 ((s.size i : Nat) : Int)
@[simp] theorem spansA_length {s : ArrS} : (spansA s).length = s.drv.length := by simp [spansA]
theorem sizeI_of {s : ArrS} {i : Nat} (h : i < s.drv.length) : sizeI s (i : Int) = ((s.size i : Nat) : Int) := by
  rw [sizeI, if_pos (show inR s (i : Int) from ⟨by omega, by omega⟩)]; simp
theorem span_mk {s : ArrS} {d st n : Int} (h1 : 1 ≤ n) (h2 : 0 ≤ st) (h3 : st + n ≤ sizeI s d) (h4 : sizeI s d ≤ 1000000000) : block_Span s d st n = some (some (Dvc.span d st n), 0) := by
  unfold block_Span
  rw [if_neg (by omega), insideB (by omega)]
  simp only [Option.bind_some]
  rw [if_neg (by simp; omega)]
theorem span_rd {s : ArrS} {d st n k : Int} (hn : 0 ≤ n ∧ n ≤ 1000000000) (hs : 0 ≤ st ∧ st ≤ 1000000000) : (Dvc.span d st n).rd s k = some (if 0 ≤ k ∧ k < n then (rdV s d (st + k), rdC s d (st + k)) else (0, 1)) := by
  show dvc_span_Read _ _ _ _ _ = _
  unfold dvc_span_Read
  rw [inside1 (by omega)]; simp only [Option.bind_some]
  by_cases h : 0 ≤ k ∧ k < n
  · rw [if_neg (by simp [h]), grd_t (inI64_of (by omega)), if_pos h]
  · rw [if_pos (by simpa using h), if_neg h]
theorem span_wr {s : ArrS} {d st n k : Int} {v : UInt64} (hn : 0 ≤ n ∧ n ≤ 1000000000) (hs : 0 ≤ st ∧ st ≤ 1000000000) (hw : s.writes ≤ 1000000000) : (Dvc.span d st n).wr s k v = some (if 0 ≤ k ∧ k < n then (wrR s d (st + k), wrS s d (st + k) v) else (1, s)) := by
  show dvc_span_Write _ _ _ _ _ _ = _
  unfold dvc_span_Write
  rw [inside1 (by omega)]; simp only [Option.bind_some]
  by_cases h : 0 ≤ k ∧ k < n
  · rw [if_neg (by simp [h]), grd_t (inI64_of (by omega)), grd_t (inLen_of hw), if_pos h]
  · rw [if_pos (by simpa using h), if_neg h]
theorem span_fl {s : ArrS} {d st n : Int} (hw : s.writes ≤ 1000000000) : (Dvc.span d st n).fl s = some (flC s d, flS s d) := by
  show dvc_span_Flush s d st n = _
  unfold dvc_span_Flush
  rw [grd_t (inLen_of hw)]
theorem inside_t {n k m : Int} (hn : n ≤ 1000000000) (h : 0 ≤ k ∧ 0 ≤ m ∧ k + m ≤ n) : block_inside n k m = some true := by
  rw [insideB (by omega)]; exact congrArg some (decide_eq_true (by omega))
end Go.Proofs
