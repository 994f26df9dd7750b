/- MapperCycles, part 4 of the proof: CMap3, CMap4, CMap5, PMapY, CMap6, PMapV, CMap7, CMap8, CMap9, PMapU, CMap10, CMap11, PMapD2, CMap12, PMapB. -/
import Derived.WalkKit
import Derived.Orders
import Derived.RangeFuncLeaves
import Derived.RangeFuncCalls
import Derived.TacticsIn
import Derived.Handy
import Derived.OrdersHeld
import Derived.OrdersIn
import Derived.Below
import Derived.OpenShut
import Derived.Deep.Slices
import Derived.Scope
import Derived.RangeFuncRecord
import Derived.ChangeKeysEq
import Derived.Laws.BytesArg
import Derived.KernelRfl
import Derived.Maps.RangeRun
import Derived.LaidEql
import Derived.ProofKit
import Derived.ShutString
import Derived.ChangeOld
import Derived.Test.YtbmipeiphoghcaaChecked
import Derived.Test.YtbmipeiphoghcaaRows
import Derived.Test.YtbmipeiphoghcaaZMapperCycles3
set_option linter.unusedSimpArgs false
set_option maxRecDepth 20000
namespace Go.Proofs
open Go.VG
section
variable {P : Program} {n : Env} {s : Slots} {dst : Option Tmp} {ty : TypeId} {pos : String} {after : Array Edge} {g : Option (Nat × Bool)} {x y : Operand} {t t' : TypeId}
theorem V_eqDD {X : HP} {W : World} {H : List HP} {C : HP → List HP} {c : MH} {m : Md} {i k : Nat} {T : TypeId} {z : Nat} (hx : ev s x = some (ptr (c.bs i) 0)) (hy : ev s y = some (ptr (c.bs k) 0)) (hf' : Foc H (MapRG X c m) C) (hi : m.isD i) (hk : m.isD k) (hu : P.underlying t = some (.pointer T)) (hz : ∀ w, (sizeOf T).run P w = .ok (z + 1) w) :
    VJ P n W ⟨dst, .binOp .eql t x y t', ty, pos, after, g⟩ s H (.bool (decide (i = k))) :=
  (fun q w hf hs => by
    have hW := MapR_wf hf' _ hs.heap.choose_spec
    obtain ⟨F, hE⟩ := foc_ent hf'
    have hbl : ∀ j, m.isD j → ∃ cs T, w.heap[c.bs j]? = some (.cells cs T (0, 0)) := fun j hj => ⟨_, _, (hs.imp (Ent.trans hE (MapR_dev hj))).blk⟩
    have hsame : (sameAddr ⟨c.bs i, 0, none⟩ ⟨c.bs k, 0, none⟩).run P w = .ok (decide (i = k)) w := by
      by_cases e : i = k
      · subst e; rw [run_sameAddr_same w]; simp
      · obtain ⟨ca, ta, h1⟩ := hbl i hi
        obtain ⟨cb, tb, h2⟩ := hbl k hk
        rw [run_sameAddr_other w (ca := ca) (cb := cb) (ta := ta) (tb := tb) (fun h => e (hW.inj i k hi hk (congrArg Addr.block h))) h1 h2]; simp [e]
    have h : ∀ d, (Op.equalIn (d + 1) t (.pointer (some ⟨c.bs i, 0, none⟩)) (.pointer (some ⟨c.bs k, 0, none⟩))).run P w = .ok (decide (i = k)) w := fun d => by
      simp [Op.equalIn, run_underlying hu, hz, hsame]
    have h' := h 9999
    simp only [execOp, hf.eval hx, hf.eval hy, eqGuard, binOp, Op.equal, Op.maxDepth, ptr]
    simp [h'])
end
section
variable {c : MH} {m : Md} {k : Nat}
theorem find_bound {x : api_Target} {l : List api_Target} (h : chk l = 0) (hx : x ∈ l) : 0 ≤ x.Offset ∧ x.Offset ≤ 16777216 ∧ 1 ≤ x.Length ∧ x.Length ≤ 16777216 := by
  obtain ⟨i, hi, e⟩ := List.getElem_of_mem hx
  obtain ⟨_, h1, h2, h3, h4⟩ := chk_at l 0 (chk_len h).2 i hi
  have e2 : l.getD i tgt0 = x := by simp [List.getD, hi, e]
  rw [e2] at h1 h2 h3 h4; omega
theorem getD_mem {α : Type} {l : List α} {i : Nat} (d : α) (h : i < l.length) : l.getD i d ∈ l := by simp [List.getD, h]
theorem sizeN_bound (hW : MapWF c m) (n : ByteArray) : 0 ≤ m.sizeN n ∧ m.sizeN n ≤ 1073741824 := by
  unfold Md.sizeN
  cases m.find n with
  | none => simp
  | some k =>
    show 0 ≤ m.size k ∧ m.size k ≤ 1073741824
    unfold Md.size
    split
    · rename_i h; have := (hW.ok.bas k h).2.2.2.2.2.2; omega
    · unfold tsize; split
      · rename_i h; exact tsum_bd h
      · omega
@[irreducible] def fitT (m : Md) (x : api_Target) : Bool := decide (x.On ≠ noN ∧ m.sizeN x.On < x.Offset + x.Length)
theorem fits_any {l : List api_Target} : (!l.any fun x => fitT m x) = m.fits l := by
  unfold Md.fits
  rw [List.not_any_eq_all_not]
  congr 1; funext x
  unfold fitT
  rw [Bool.eq_iff_iff]
  simp only [Bool.not_eq_true', decide_eq_false_iff_not, decide_eq_true_eq]
  constructor
  · intro h
    by_cases h1 : x.On = noN
    · exact .inl h1
    · exact .inr (Int.not_lt.1 fun h2 => h ⟨h1, h2⟩)
  · rintro (h | h) ⟨h1, h2⟩
    · exact h1 h
    · omega
end
theorem c_fits1 {W : World} {b q : Nat} {c : MH} {m : Md} {x : api_Target} (h : (x.On ≠ noN → (m.find x.On).isSome = true) ∧ 0 ≤ x.Offset ∧ x.Offset ≤ 16777216 ∧ 1 ≤ x.Length ∧ x.Length ≤ 16777216) :
    CSpec Try.prog W 57 [.agg #[.int .i64 x.Start, .int .i64 x.Length, .string x.On, .int .i64 x.Offset, .bool x.Fail], ptr q 0] [blk q 25 [ptr b 0], blk b 79 (mCells c m), MapR c m] (fun _ : Unit => .bool (fitT m x)) (fun _ => True) (fun _ F => blk q 25 [ptr b 0] :: blk b 79 (mCells c m) :: MapR c m :: F) := by
 obtain ⟨hn, hb⟩ := h
 refine CSpec.of_body Try.func57 rfl Try.ntmps57 rfl fun F => ?_
 show CJ _ _ _ _ _ _ (_ :: _ :: _ :: F)
 refine CJ_pure (MapR_wf foc2) fun hW => ?_
 have hO := hW.ok
 have hlen := hW.big.len
 have hns := Md.names_len (m := m)
 have hsz := sizeN_bound hW x.On
 refine sR <| oO <| O_box rfl rfl rfl fun b1 => oA rfl rfl <| nT <| CJ_seq <| AJ_startH 0 (by kernel_rfl) rfl <| aN 0 1 rfl rfl (P_fieldAddr rfl ⟨_, _, _, Try.runUnderlying33, rfl, rfl, Try.sizeOf9, rfl⟩) rfl <| aV 1 3 rfl rfl (GY_none rfl) (t0_ (t0_ (t0_ (t0_ eR)))) (V_load rfl foc0 rfl Try.isAgg9) rfl <| aN 2 7 rfl rfl (P_neqStr rfl rfl Try.underlying9) rfl <| aN 3 15 rfl rfl (P_move rfl) rfl ?_
 first | (refine AJ_splitD 7 rfl (fun hg1B hg1 => ?_) (fun hg1B hg1 => ?_)) | (refine AJ_splitN 7 rfl (fun hg1B hg1 => ?_) (fun hg1B hg1 => ?_)) | (refine AJ_split 7 rfl (fun hg1B => ?_) (fun hg1B => ?_))
 ·
  refine aP 4 31 rfl rfl (GY_yes rfl rfl rfl hg1B) (P_fieldAddr rfl ⟨_, _, _, Try.runUnderlying33, rfl, rfl, Try.sizeOf3, rfl⟩) rfl <| aV 5 63 rfl rfl (GY_yes rfl rfl rfl hg1B) (t0_ (t0_ (t0_ (t0_ eR)))) (V_load rfl foc0 rfl Try.isAgg3) rfl <| aP 6 127 rfl rfl (GY_yes rfl rfl rfl hg1B) (P_fieldAddr rfl ⟨_, _, _, Try.runUnderlying33, rfl, rfl, Try.sizeOf3, rfl⟩) rfl <| aV 7 255 rfl rfl (GY_yes rfl rfl rfl hg1B) (t0_ (t0_ (t0_ (t0_ eR)))) (V_load rfl foc0 rfl Try.isAgg3) rfl <| aP 8 511 rfl rfl (GY_yes rfl rfl rfl hg1B) (P_add rfl rfl (by omega)) rfl <| aV 9 1023 rfl rfl (GY_yes rfl rfl rfl hg1B) (t0_ (t0_ (t0_ (t0_ eR)))) (V_load rfl foc1 rfl Try.isAgg25) rfl <| aP 10 2047 rfl rfl (GY_yes rfl rfl rfl hg1B) (P_fieldAddr rfl ⟨_, _, _, Try.runUnderlying33, rfl, rfl, Try.sizeOf9, rfl⟩) rfl <| aV 11 4095 rfl rfl (GY_yes rfl rfl rfl hg1B) (t0_ (t0_ (t0_ (t0_ eR)))) (V_load rfl foc0 rfl Try.isAgg9) rfl <| AJ_op 12 8191 rfl (by kernel_rfl) rfl (GY_yes rfl rfl rfl hg1B) <| O_call (c_size (hn (by first | assumption | simpa using ‹_›))) rfl Try.call58 (Dels.cons del2 (Dels.cons del2 Dels.nil)) rfl fun _ hc2 => ⟨fun _ => (t2_ (t2_ (t0_ (t0_ eR)))), ?_⟩
  refine aP 13 16383 rfl rfl (GY_yes rfl rfl rfl hg1B) (P_gtr rfl rfl) rfl <| aN 14 32767 rfl rfl (P_pickT rfl hg1B rfl) rfl <| aN 15 65535 rfl rfl (P_assign rfl) rfl <| aD <| CJ_ret <| QJ_end (res1 Try.results57 rfl) <| CSpec.close () ?_ ?_ (t3_ (t0_ (t0_ (eD eR))))
  · exact bv (by unfold fitT; rw [Bool.eq_iff_iff]; simp_all)
  · trivial
 ·
  refine aS 4 31 rfl rfl (GY_no rfl rfl rfl hg1B) rfl <| aS 5 63 rfl rfl (GY_no rfl rfl rfl hg1B) rfl <| aS 6 127 rfl rfl (GY_no rfl rfl rfl hg1B) rfl <| aS 7 255 rfl rfl (GY_no rfl rfl rfl hg1B) rfl <| aS 8 511 rfl rfl (GY_no rfl rfl rfl hg1B) rfl <| aS 9 1023 rfl rfl (GY_no rfl rfl rfl hg1B) rfl <| aS 10 2047 rfl rfl (GY_no rfl rfl rfl hg1B) rfl <| aS 11 4095 rfl rfl (GY_no rfl rfl rfl hg1B) rfl <| aS 12 8191 rfl rfl (GY_no rfl rfl rfl hg1B) rfl <| aS 13 16383 rfl rfl (GY_no rfl rfl rfl hg1B) rfl <| aN 14 32767 rfl rfl (P_pickF rfl hg1B rfl) rfl <| aN 15 65535 rfl rfl (P_assign rfl) rfl <| aD <| CJ_ret <| QJ_end (res1 Try.results57 rfl) <| CSpec.close () ?_ ?_ (t1_ (t1_ (t1_ (eD eR))))
  · exact bv (by unfold fitT; rw [Bool.eq_iff_iff]; simp_all)
  · trivial
theorem c_idxFit {W : World} {b q : Nat} {c : MH} {m : Md} {v : Value} {xs : List api_Target} {RA : HP} (hR : Reads RA tyapi_Target v xs) (hl : xs.length ≤ 100000000) (hp : ∀ x ∈ xs, (x.On ≠ noN → (m.find x.On).isSome = true) ∧ 0 ≤ x.Offset ∧ x.Offset ≤ 16777216 ∧ 1 ≤ x.Length ∧ x.Length ≤ 16777216) :
    CSpec Try.prog W 73 [v, .func (.func 57) #[] #[ptr q 0]] [RA, blk q 25 [ptr b 0], blk b 79 (mCells c m), MapR c m] (fun r : Int => .int .i64 r) (fun r => (0 ≤ r ↔ (xs.any fun x => fitT m x) = true)) (fun _ F => RA :: blk q 25 [ptr b 0] :: blk b 79 (mCells c m) :: MapR c m :: F) := by
 refine CSpec.of_body Try.func73 rfl Try.ntmps73 rfl fun F => ?_
 show CJ _ _ _ _ _ _ (_ :: _ :: _ :: _ :: F)
 refine sR <| oA rfl rfl <| nT <| CJ_seq <| sR <| oM rfl rfl <| oV (V_len rfl foc0 hR Try.runUnderlying34) rfl <| oM rfl rfl <| nT <| CJ_block <| CJ_loopR (X := Nat) [4, 5, 8, 9, 10, 11, 12, 13, 14, 15, 16, 17, 18] (fun i  => ([(8, .int .i64 (i : Nat))] : Slots)) (fun i R => R) (fun i  => i ≤ xs.length ∧ ((xs.take i).any fun x => fitT m x) = false) (fun i  => xs.length - i) (0) ?_ ?_ (t0_ (t0_ (t0_ (t0_ eR)))) ?_
 · exact ⟨Nat.zero_le _, by simp⟩
 · exact ⟨rfl, True.intro⟩
 ·
  intro i hpf
  obtain ⟨hi, hno⟩ := hpf
  show CJ _ _ _ _ _ (([(8, .int .i64 (i : Nat))] : Slots) ++ forget _ _) (_)
  have hmem : i < xs.length → xs.getD i tyapi_Target.dflt ∈ xs := fun h => getD_mem _ h
  refine sR <| oP (P_lss rfl rfl) rfl <| nT <| CJ_seq ?_
  first | (refine CJ_condD rfl (fun hg1 => ?_) (fun hg1 => ?_)) | (refine CJ_condN rfl (fun hg1 => ?_) (fun hg1 => ?_)) | (refine CJ_cond rfl (fun hg1 => ?_) (fun hg1 => ?_))
  ·
   refine kT <| CJ_seq <| CJ_block <| sR <| oM rfl rfl <| oA rfl rfl <| nT <| sR <| oM rfl rfl <| oM rfl rfl <| oM rfl rfl ?_
   first | (refine RJ_op rfl (OJ_V (V_index rfl rfl rfl (by omega) foc0 hR Try.runUnderlying34 Try.sizeOf33) rfl ?_)) | (refine RJ_op rfl (OJ_V (V_index rfl rfl (Int.toNat_of_nonneg (by omega)).symm (by omega) foc0 hR Try.runUnderlying34 Try.sizeOf33) rfl ?_))
   refine oV (V_loadEN rfl rfl (by omega) foc0 hR rfl rfl Try.isAgg33 Try.sizeOf33) rfl <| oO <| O_callV rfl rfl (c_fits1 (hp (xs.getD i tyapi_Target.dflt) (hmem (by omega)))) Try.call57 (Dels.cons del1 (Dels.cons del1 (Dels.cons del1 Dels.nil))) rfl fun _ hc1 => nT ?_
   first | (refine CJ_condD rfl (fun hg2 => ?_) (fun hg2 => ?_)) | (refine CJ_condN rfl (fun hg2 => ?_) (fun hg2 => ?_)) | (refine CJ_cond rfl (fun hg2 => ?_) (fun hg2 => ?_))
   ·
    refine sR <| oM rfl rfl <| oA rfl rfl <| nT <| CJ_ret <| QJ_block_ret <| QJ_then_ret <| QJ_round_ret <| QJ_block_ret <| QJ_then_ret <| QJ_end (res1 Try.results73 rfl) <| CSpec.close (i : Int) ?_ ?_ (t3_ (t0_ (t0_ (t0_ eR))))
    · rfl
    · exact ⟨fun _ => List.any_eq_true.2 ⟨_, hmem (by omega), by assumption⟩, fun _ => by omega⟩
   ·
    refine CJ_skip <| QJ_block_normal <| QJ_then <| CJ_region <| oP (P_add rfl rfl (by omega)) rfl <| oM rfl rfl <| RJ_nil <| QJ_nextR (i + 1) (by first | omega | (simp only []; omega)) ?_ (by repeat (first | exact Kp.base | exact Kp.self | refine Kp.cons rfl ?_ | refine Kp.forget rfl ?_)) ?_ (t3_ (t0_ (t0_ (t0_ eR))))
    ·
     refine ⟨by omega, ?_⟩
     rw [takeD tyapi_Target.dflt (by omega), List.any_append, hno, List.any_cons, List.any_nil, Bool.or_false, Bool.false_or]
     show fitT m (xs.getD i tyapi_Target.dflt) = false
     assumption
    · exact ⟨rfl, True.intro⟩
  ·
   refine CJ_exit <| QJ_then_exit <| QJ_round_exit <| QJ_block_here <| QJ_then <| sR <| oA rfl rfl <| nT <| CJ_ret <| QJ_end (res1 Try.results73 rfl) <| CSpec.close (-1) ?_ ?_ (t0_ (t0_ (t0_ (t0_ eR))))
   · rfl
   ·
    obtain rfl : i = xs.length := by omega
    rw [List.take_length] at hno
    rw [hno]; simp
theorem c_conFit {W : World} {b q : Nat} {c : MH} {m : Md} {v : Value} {xs : List api_Target} {RA : HP} (hR : Reads RA tyapi_Target v xs) (hl : xs.length ≤ 100000000) (hp : ∀ x ∈ xs, (x.On ≠ noN → (m.find x.On).isSome = true) ∧ 0 ≤ x.Offset ∧ x.Offset ≤ 16777216 ∧ 1 ≤ x.Length ∧ x.Length ≤ 16777216) :
    CSpec Try.prog W 56 [v, .func (.func 57) #[] #[ptr q 0]] [RA, blk q 25 [ptr b 0], blk b 79 (mCells c m), MapR c m] (fun _ : Unit =>   .bool (xs.any fun x => fitT m x)) (fun _ => True) (fun _ F => RA :: blk q 25 [ptr b 0] :: blk b 79 (mCells c m) :: MapR c m :: F) := by
 refine CSpec.of_body Try.func56 rfl Try.ntmps56 rfl fun F => ?_
 show CJ _ _ _ _ _ _ (_ :: _ :: _ :: _ :: F)
 refine sR <| oA rfl rfl <| nT <| sR <| oM rfl rfl <| oM rfl rfl <| oO <| O_call (c_idxFit hR hl hp) rfl Try.call73 (Dels.cons del0 (Dels.cons del0 (Dels.cons del0 (Dels.cons del0 Dels.nil)))) rfl fun r hr => oP (P_geq rfl rfl) rfl <| oA rfl rfl <| nT <| CJ_ret <| QJ_end (res1 Try.results56 rfl) <| CSpec.close () ?_ ?_ (t0_ (t0_ (t0_ (t0_ eR))))
 · exact bv (by rw [Bool.eq_iff_iff, decide_eq_true_iff]; exact hr)
 · trivial
theorem c_fits {W : World} {b : Nat} {c : MH} {m : Md} {v : Value} {xs : List api_Target} {RA : HP} (hR : Reads RA tyapi_Target v xs) (hl : xs.length ≤ 100000000) (hp : ∀ x ∈ xs, (x.On ≠ noN → (m.find x.On).isSome = true) ∧ 0 ≤ x.Offset ∧ x.Offset ≤ 16777216 ∧ 1 ≤ x.Length ∧ x.Length ≤ 16777216) :
    CSpec Try.prog W 32 [ptr b 0, v] [RA, blk b 79 (mCells c m), MapR c m] (fun _ : Unit => .bool (m.fits xs)) (fun _ => True) (fun _ F => RA :: blk b 79 (mCells c m) :: MapR c m :: F) := by
 refine CSpec.of_body Try.func32 rfl Try.ntmps32 rfl fun F => ?_
 show CJ _ _ _ _ _ _ (_ :: _ :: _ :: F)
 refine sR <| oO <| O_box rfl rfl rfl fun b1 => oA rfl rfl <| nT <| sR <| oM rfl rfl <| oP (P_makeFunc rfl rfl) rfl <| oO <| O_call (c_conFit hR hl hp) rfl Try.call56 (Dels.cons del1 (Dels.cons del0 (Dels.cons del0 (Dels.cons del0 Dels.nil)))) rfl fun _ hc2 => oP (P_not rfl) rfl <| oA rfl rfl <| nT <| CJ_ret <| QJ_end (res1 Try.results32 rfl) <| CSpec.close () ?_ ?_ (t0_ (t1_ (t1_ (eD eR))))
 · exact bv fits_any
 · trivial
theorem c_idxFitR {W : World} {b q : Nat} {c : MH} {m : Md} {v : Value} {xs : List api_Target} (hR : Reads (MapR c m) tyapi_Target v xs) (hl : xs.length ≤ 100000000) (hp : ∀ x ∈ xs, (x.On ≠ noN → (m.find x.On).isSome = true) ∧ 0 ≤ x.Offset ∧ x.Offset ≤ 16777216 ∧ 1 ≤ x.Length ∧ x.Length ≤ 16777216) :
    CSpec Try.prog W 73 [v, .func (.func 57) #[] #[ptr q 0]] [blk q 25 [ptr b 0], blk b 79 (mCells c m), MapR c m] (fun r : Int => .int .i64 r) (fun r => (0 ≤ r ↔ (xs.any fun x => fitT m x) = true)) (fun _ F => blk q 25 [ptr b 0] :: blk b 79 (mCells c m) :: MapR c m :: F) := by
 refine CSpec.of_body Try.func73 rfl Try.ntmps73 rfl fun F => ?_
 show CJ _ _ _ _ _ _ (_ :: _ :: _ :: F)
 refine sR <| oA rfl rfl <| nT <| CJ_seq <| sR <| oM rfl rfl <| oV (V_len rfl foc2 hR Try.runUnderlying34) rfl <| oM rfl rfl <| nT <| CJ_block <| CJ_loopR (X := Nat) [4, 5, 8, 9, 10, 11, 12, 13, 14, 15, 16, 17, 18] (fun i  => ([(8, .int .i64 (i : Nat))] : Slots)) (fun i R => R) (fun i  => i ≤ xs.length ∧ ((xs.take i).any fun x => fitT m x) = false) (fun i  => xs.length - i) (0) ?_ ?_ (t0_ (t0_ (t0_ eR))) ?_
 · exact ⟨Nat.zero_le _, by simp⟩
 · exact ⟨rfl, True.intro⟩
 ·
  intro i hpf
  obtain ⟨hi, hno⟩ := hpf
  show CJ _ _ _ _ _ (([(8, .int .i64 (i : Nat))] : Slots) ++ forget _ _) (_)
  have hmem : i < xs.length → xs.getD i tyapi_Target.dflt ∈ xs := fun h => getD_mem _ h
  refine sR <| oP (P_lss rfl rfl) rfl <| nT <| CJ_seq ?_
  first | (refine CJ_condD rfl (fun hg1 => ?_) (fun hg1 => ?_)) | (refine CJ_condN rfl (fun hg1 => ?_) (fun hg1 => ?_)) | (refine CJ_cond rfl (fun hg1 => ?_) (fun hg1 => ?_))
  ·
   refine kT <| CJ_seq <| CJ_block <| sR <| oM rfl rfl <| oA rfl rfl <| nT <| sR <| oM rfl rfl <| oM rfl rfl <| oM rfl rfl ?_
   first | (refine RJ_op rfl (OJ_V (V_index rfl rfl rfl (by omega) foc2 hR Try.runUnderlying34 Try.sizeOf33) rfl ?_)) | (refine RJ_op rfl (OJ_V (V_index rfl rfl (Int.toNat_of_nonneg (by omega)).symm (by omega) foc2 hR Try.runUnderlying34 Try.sizeOf33) rfl ?_))
   refine oV (V_loadEN rfl rfl (by omega) foc2 hR rfl rfl Try.isAgg33 Try.sizeOf33) rfl <| oO <| O_callV rfl rfl (c_fits1 (hp (xs.getD i tyapi_Target.dflt) (hmem (by omega)))) Try.call57 (Dels.cons del0 (Dels.cons del0 (Dels.cons del0 Dels.nil))) rfl fun _ hc1 => nT ?_
   first | (refine CJ_condD rfl (fun hg2 => ?_) (fun hg2 => ?_)) | (refine CJ_condN rfl (fun hg2 => ?_) (fun hg2 => ?_)) | (refine CJ_cond rfl (fun hg2 => ?_) (fun hg2 => ?_))
   ·
    refine sR <| oM rfl rfl <| oA rfl rfl <| nT <| CJ_ret <| QJ_block_ret <| QJ_then_ret <| QJ_round_ret <| QJ_block_ret <| QJ_then_ret <| QJ_end (res1 Try.results73 rfl) <| CSpec.close (i : Int) ?_ ?_ (t0_ (t0_ (t0_ eR)))
    · rfl
    · exact ⟨fun _ => List.any_eq_true.2 ⟨_, hmem (by omega), by assumption⟩, fun _ => by omega⟩
   ·
    refine CJ_skip <| QJ_block_normal <| QJ_then <| CJ_region <| oP (P_add rfl rfl (by omega)) rfl <| oM rfl rfl <| RJ_nil <| QJ_nextR (i + 1) (by first | omega | (simp only []; omega)) ?_ (by repeat (first | exact Kp.base | exact Kp.self | refine Kp.cons rfl ?_ | refine Kp.forget rfl ?_)) ?_ (t0_ (t0_ (t0_ eR)))
    ·
     refine ⟨by omega, ?_⟩
     rw [takeD tyapi_Target.dflt (by omega), List.any_append, hno, List.any_cons, List.any_nil, Bool.or_false, Bool.false_or]
     show fitT m (xs.getD i tyapi_Target.dflt) = false
     assumption
    · exact ⟨rfl, True.intro⟩
  ·
   refine CJ_exit <| QJ_then_exit <| QJ_round_exit <| QJ_block_here <| QJ_then <| sR <| oA rfl rfl <| nT <| CJ_ret <| QJ_end (res1 Try.results73 rfl) <| CSpec.close (-1) ?_ ?_ (t0_ (t0_ (t0_ eR)))
   · rfl
   ·
    obtain rfl : i = xs.length := by omega
    rw [List.take_length] at hno
    rw [hno]; simp
theorem c_conFitR {W : World} {b q : Nat} {c : MH} {m : Md} {v : Value} {xs : List api_Target} (hR : Reads (MapR c m) tyapi_Target v xs) (hl : xs.length ≤ 100000000) (hp : ∀ x ∈ xs, (x.On ≠ noN → (m.find x.On).isSome = true) ∧ 0 ≤ x.Offset ∧ x.Offset ≤ 16777216 ∧ 1 ≤ x.Length ∧ x.Length ≤ 16777216) :
    CSpec Try.prog W 56 [v, .func (.func 57) #[] #[ptr q 0]] [blk q 25 [ptr b 0], blk b 79 (mCells c m), MapR c m] (fun _ : Unit =>   .bool (xs.any fun x => fitT m x)) (fun _ => True) (fun _ F => blk q 25 [ptr b 0] :: blk b 79 (mCells c m) :: MapR c m :: F) := by
 refine CSpec.of_body Try.func56 rfl Try.ntmps56 rfl fun F => ?_
 show CJ _ _ _ _ _ _ (_ :: _ :: _ :: F)
 refine sR <| oA rfl rfl <| nT <| sR <| oM rfl rfl <| oM rfl rfl <| oO <| O_call (c_idxFitR hR hl hp) rfl Try.call73 (Dels.cons del0 (Dels.cons del0 (Dels.cons del0 Dels.nil))) rfl fun r hr => oP (P_geq rfl rfl) rfl <| oA rfl rfl <| nT <| CJ_ret <| QJ_end (res1 Try.results56 rfl) <| CSpec.close () ?_ ?_ (t0_ (t0_ (t0_ eR)))
 · exact bv (by rw [Bool.eq_iff_iff, decide_eq_true_iff]; exact hr)
 · trivial
theorem c_fitsR {W : World} {b : Nat} {c : MH} {m : Md} {v : Value} {xs : List api_Target} (hR : Reads (MapR c m) tyapi_Target v xs) (hl : xs.length ≤ 100000000) (hp : ∀ x ∈ xs, (x.On ≠ noN → (m.find x.On).isSome = true) ∧ 0 ≤ x.Offset ∧ x.Offset ≤ 16777216 ∧ 1 ≤ x.Length ∧ x.Length ≤ 16777216) :
    CSpec Try.prog W 32 [ptr b 0, v] [blk b 79 (mCells c m), MapR c m] (fun _ : Unit => .bool (m.fits xs)) (fun _ => True) (fun _ F => blk b 79 (mCells c m) :: MapR c m :: F) := by
 refine CSpec.of_body Try.func32 rfl Try.ntmps32 rfl fun F => ?_
 show CJ _ _ _ _ _ _ (_ :: _ :: F)
 refine sR <| oO <| O_box rfl rfl rfl fun b1 => oA rfl rfl <| nT <| sR <| oM rfl rfl <| oP (P_makeFunc rfl rfl) rfl <| oO <| O_call (c_conFitR hR hl hp) rfl Try.call56 (Dels.cons del0 (Dels.cons del0 (Dels.cons del0 Dels.nil))) rfl fun _ hc2 => oP (P_not rfl) rfl <| oA rfl rfl <| nT <| CJ_ret <| QJ_end (res1 Try.results32 rfl) <| CSpec.close () ?_ ?_ (t1_ (t1_ (eD eR)))
 · exact bv fits_any
 · trivial
end Go.Proofs
set_option linter.unusedSimpArgs false
set_option maxRecDepth 20000
namespace Go.Proofs
open Go.VG
@[irreducible] def enT (m : Md) (k : Nat) (z : Int) (x : api_Target) : Bool := decide (x.On = (m.at k).name ∧ z < x.Offset + x.Length)
@[irreducible] def buC (c : MH) (k : Nat) (x : WtC) : Bool := decide (x.p = c.bs k)
@[irreducible] def ldT (m : Md) (x : ByteArray) : Bool := !memS m.names x
namespace Md
theorem usersN_len (m : Md) (n : ByteArray) : (m.usersN n).length ≤ m.names.length := by
  unfold usersN
  exact Nat.le_trans (List.length_filter_le _ _) (List.length_filterMap_le _ _)
theorem usersN_is {m : Md} {n : ByteArray} {j : Nat} (h : j ∈ m.usersN n) : m.isD j ∧ usesD (m.at j) n = true := by
  unfold usersN at h
  obtain ⟨h1, h2⟩ := List.mem_filter.1 h
  obtain ⟨x, _, h3⟩ := List.mem_filterMap.1 h1
  exact ⟨(dev_is h3).1, h2⟩
theorem at_find {m : Md} (hO : MdOk m) {j : Nat} (hj : j < m.dv.length) (hg : (m.at j).gone = false) : m.find (m.at j).name = some j := by
  cases hf : m.find (m.at j).name with
  | none =>
    have h := List.findIdx?_eq_none_iff.1 hf (m.at j) (by simp [Md.at, List.getD, hj])
    simp [isN, hg] at h
  | some i =>
    obtain ⟨h1, h2, h3⟩ := find_lt hf
    rw [hO.uniq i j h1 hj h2 hg h3]
theorem dev_at {m : Md} (hO : MdOk m) {j : Nat} (hj : m.isD j) : m.dev (m.at j).name = some j := by
  unfold dev; rw [at_find hO hj.1 hj.2.1]; simp [hj.2.2]
theorem usersN_mem {m : Md} (hO : MdOk m) {n : ByteArray} {j : Nat} (hj : m.isD j) (h : usesD (m.at j) n = true) : j ∈ m.usersN n := by
  unfold usersN
  refine List.mem_filter.2 ⟨List.mem_filterMap.2 ⟨(m.at j).name, names_mem.2 (by rw [at_find hO hj.1 hj.2.1]; rfl), dev_at hO hj⟩, h⟩
theorem nam_mem {l : List api_Target} {n : ByteArray} (hn : n ≠ noN) : nam l n = true ↔ ∃ t ∈ l, t.On = n := by
  unfold nam
  rw [List.any_eq_true]
  constructor
  · rintro ⟨t, h1, h2⟩; exact ⟨t, h1, (by simpa using h2 : t.On = n ∧ n ≠ noN).1⟩
  · rintro ⟨t, h1, h2⟩; exact ⟨t, h1, by simp [h2, hn]⟩
theorem needs_false {m : Md} {k j : Nat} {z : Int} {t : api_Target} (hj : m.isD j) (ht : t ∈ tbl (m.at j)) (h : enT m k z t = true) : m.needs k z = false := by
  unfold enT at h
  have h := of_decide_eq_true h
  unfold needs
  rw [Bool.eq_false_iff]; intro h2
  have h3 := List.all_eq_true.1 h2 (m.at j) (by simp [Md.at, List.getD, hj.1])
  rw [hj.2.1, Bool.false_or] at h3
  have h4 := of_decide_eq_true (List.all_eq_true.1 h3 t ht)
  rcases h4 with h4 | h4
  · exact h4 h.1
  · omega
theorem needs_true {m : Md} (hO : MdOk m) {k : Nat} {z : Int} (hk : m.isD k) (h : ∀ j ∈ m.usersN (m.at k).name, ∀ t ∈ tbl (m.at j), enT m k z t = false) : m.needs k z = true := by
  unfold needs
  rw [List.all_eq_true]
  intro d hd
  obtain ⟨j, hj, rfl⟩ := List.getElem_of_mem hd
  have e : m.dv[j] = m.at j := by simp [Md.at, List.getD, hj]
  rw [e]
  cases hg : (m.at j).gone with
  | true => rfl
  | false =>
    rw [Bool.false_or, List.all_eq_true]
    intro t ht
    refine decide_eq_true ?_
    by_cases h1 : t.On = (m.at k).name
    · right
      have hne := hO.nm k hk.1 hk.2.1
      have hB : (m.at j).isB = false := by
        cases hb : (m.at j).isB with
        | false => rfl
        | true =>
          obtain ⟨g1, g2, _⟩ := hO.bas j hb
          rw [g1, g2] at ht; cases ht
      have hu : usesD (m.at j) (m.at k).name = true := by
        unfold usesD; rw [hg]
        rcases List.mem_append.1 ht with h2 | h2
        · rw [(nam_mem hne).2 ⟨t, h2, h1⟩]; rfl
        · rw [(nam_mem hne).2 ⟨t, h2, h1⟩]; simp
      have h3 := h j (usersN_mem hO ⟨hj, hg, hB⟩ hu) t ht
      unfold enT at h3
      have h4 := of_decide_eq_false h3
      exact Int.not_lt.1 fun h5 => h4 ⟨h1, h5⟩
    · exact .inl h1
end Md
theorem tbl_rd {X : HP} {c : MH} {m : Md} {j : Nat} (hj : m.isD j) : ∀ i, i < 2 → Reads (MapRG X c m) tyapi_Target (([(c.hd j).lv, (c.hd j).nw] : List Sl3).getD i s3z).v (([(m.at j).live, (m.at j).new] : List (List api_Target)).getD i [])
  | 0, _ => rdLive hj
  | 1, _ => rdNew hj
theorem tbl_in {m : Md} {j : Nat} : ∀ i, i < 2 → ∀ t ∈ (([(m.at j).live, (m.at j).new] : List (List api_Target)).getD i []), t ∈ Md.tbl (m.at j)
  | 0, _, _, h => List.mem_append.2 (.inl h)
  | 1, _, _, h => List.mem_append.2 (.inr h)
theorem tbl_all {m : Md} {j : Nat} {p : api_Target → Bool} (h : ∀ i, i < 2 → ((([(m.at j).live, (m.at j).new] : List (List api_Target)).getD i []).any p) = false) : ∀ t ∈ Md.tbl (m.at j), p t = false := fun t ht => by
  rcases List.mem_append.1 ht with h1 | h1
  · have := h 0 (by decide); rw [Bool.eq_false_iff] at this ⊢; exact fun h2 => this (List.any_eq_true.2 ⟨t, h1, h2⟩)
  · have := h 1 (by decide); rw [Bool.eq_false_iff] at this ⊢; exact fun h2 => this (List.any_eq_true.2 ⟨t, h1, h2⟩)
theorem tbl_chk {m : Md} (hO : MdOk m) {j : Nat} : ∀ i, i < 2 → chk (([(m.at j).live, (m.at j).new] : List (List api_Target)).getD i []) = 0
  | 0, _ => (hO.chk j).1
  | 1, _ => (hO.chk j).2
theorem bs_map {c : MH} {l : List Nat} {i : Nat} (hi : i < l.length) : ptr (c.bs (l.getD i 0)) 0 = ptr ((l.map c.bs).getD i 0) 0 := by
  simp [List.getD, hi]
theorem c_enough1 {W : World} {q q2 : Nat} {c : MH} {m : Md} {k : Nat} {z : Int} {x : api_Target} (hk : m.isD k) (hb : 0 ≤ x.Offset ∧ x.Offset ≤ 16777216 ∧ 1 ≤ x.Length ∧ x.Length ≤ 16777216) :
    CSpec Try.prog W 61 [.agg #[.int .i64 x.Start, .int .i64 x.Length, .string x.On, .int .i64 x.Offset, .bool x.Fail], ptr q 0, ptr q2 0] [blk q 72 [ptr (c.bs k) 0], blk q2 3 [.int .i64 z], MapR c m] (fun _ : Unit => .bool (enT m k z x)) (fun _ => True) (fun _ F => blk q 72 [ptr (c.bs k) 0] :: blk q2 3 [.int .i64 z] :: MapR c m :: F) := by
 refine CSpec.of_body Try.func61 rfl Try.ntmps61 rfl fun F => ?_
 show CJ _ _ _ _ _ _ (_ :: _ :: _ :: F)
 refine sR <| oO <| O_box rfl rfl rfl fun b1 => oA rfl rfl <| nT <| CJ_seq <| AJ_startH 0 (by kernel_rfl) rfl <| aN 0 1 rfl rfl (P_fieldAddr rfl ⟨_, _, _, Try.runUnderlying33, rfl, rfl, Try.sizeOf9, rfl⟩) rfl <| aV 1 3 rfl rfl (GY_none rfl) (t0_ (t0_ (t0_ (t0_ eR)))) (V_load rfl foc0 rfl Try.isAgg9) rfl <| aV 2 7 rfl rfl (GY_none rfl) (t0_ (t0_ (t0_ (t0_ eR)))) (V_load rfl foc1 rfl Try.isAgg72) rfl <| aN 3 15 rfl rfl (P_nilCheck rfl) rfl <| aN 4 31 rfl rfl (P_fieldAddr rfl ⟨_, _, _, Try.runUnderlying75, rfl, rfl, Try.sizeOf9, rfl⟩) rfl <| aV 5 63 rfl rfl (GY_none rfl) (t0_ (t0_ (t0_ (t0_ eR)))) (VJ_ent (Ent.trans (t3_ eR) (MapR_dev hk)) (V_load rfl foc0 rfl Try.isAgg9)) rfl <| aN 6 127 rfl rfl (P_eqlStr rfl rfl Try.underlying9) rfl <| aN 7 255 rfl rfl (P_move rfl) rfl ?_
 first | (refine AJ_splitD 12 rfl (fun hg1B hg1 => ?_) (fun hg1B hg1 => ?_)) | (refine AJ_splitN 12 rfl (fun hg1B hg1 => ?_) (fun hg1B hg1 => ?_)) | (refine AJ_split 12 rfl (fun hg1B => ?_) (fun hg1B => ?_))
 ·
  refine aP 8 511 rfl rfl (GY_yes rfl rfl rfl hg1B) (P_fieldAddr rfl ⟨_, _, _, Try.runUnderlying33, rfl, rfl, Try.sizeOf3, rfl⟩) rfl <| aV 9 1023 rfl rfl (GY_yes rfl rfl rfl hg1B) (t0_ (t0_ (t0_ (t0_ eR)))) (V_load rfl foc0 rfl Try.isAgg3) rfl <| aP 10 2047 rfl rfl (GY_yes rfl rfl rfl hg1B) (P_fieldAddr rfl ⟨_, _, _, Try.runUnderlying33, rfl, rfl, Try.sizeOf3, rfl⟩) rfl <| aV 11 4095 rfl rfl (GY_yes rfl rfl rfl hg1B) (t0_ (t0_ (t0_ (t0_ eR)))) (V_load rfl foc0 rfl Try.isAgg3) rfl <| aP 12 8191 rfl rfl (GY_yes rfl rfl rfl hg1B) (P_add rfl rfl (by omega)) rfl <| aV 13 16383 rfl rfl (GY_yes rfl rfl rfl hg1B) (t0_ (t0_ (t0_ (t0_ eR)))) (V_load rfl foc2 rfl Try.isAgg3) rfl <| aP 14 32767 rfl rfl (GY_yes rfl rfl rfl hg1B) (P_gtr rfl rfl) rfl <| aN 15 65535 rfl rfl (P_pickT rfl hg1B rfl) rfl <| aN 16 131071 rfl rfl (P_assign rfl) rfl <| aD <| CJ_ret <| QJ_end (res1 Try.results61 rfl) <| CSpec.close () ?_ ?_ (t1_ (t1_ (t1_ (eD eR))))
  · exact bv (by unfold enT; rw [Bool.eq_iff_iff]; simp_all)
  · trivial
 ·
  refine aS 8 511 rfl rfl (GY_no rfl rfl rfl hg1B) rfl <| aS 9 1023 rfl rfl (GY_no rfl rfl rfl hg1B) rfl <| aS 10 2047 rfl rfl (GY_no rfl rfl rfl hg1B) rfl <| aS 11 4095 rfl rfl (GY_no rfl rfl rfl hg1B) rfl <| aS 12 8191 rfl rfl (GY_no rfl rfl rfl hg1B) rfl <| aS 13 16383 rfl rfl (GY_no rfl rfl rfl hg1B) rfl <| aS 14 32767 rfl rfl (GY_no rfl rfl rfl hg1B) rfl <| aN 15 65535 rfl rfl (P_pickF rfl hg1B rfl) rfl <| aN 16 131071 rfl rfl (P_assign rfl) rfl <| aD <| CJ_ret <| QJ_end (res1 Try.results61 rfl) <| CSpec.close () ?_ ?_ (t1_ (t1_ (t1_ (eD eR))))
  · exact bv (by unfold enT; rw [Bool.eq_iff_iff]; simp_all)
  · trivial
theorem c_idxEn {W : World} {q q2 : Nat} {c : MH} {m : Md} {k : Nat} {z : Int} {v : Value} {xs : List api_Target} (hR : Reads (MapR c m) tyapi_Target v xs) (hl : xs.length ≤ 100000000) (hk : m.isD k) (hp : ∀ x ∈ xs, 0 ≤ x.Offset ∧ x.Offset ≤ 16777216 ∧ 1 ≤ x.Length ∧ x.Length ≤ 16777216) :
    CSpec Try.prog W 73 [v, .func (.func 61) #[] #[ptr q 0, ptr q2 0]] [blk q 72 [ptr (c.bs k) 0], blk q2 3 [.int .i64 z], MapR c m] (fun r : Int => .int .i64 r) (fun r => (0 ≤ r ↔ (xs.any fun x => enT m k z x) = true)) (fun _ F => blk q 72 [ptr (c.bs k) 0] :: blk q2 3 [.int .i64 z] :: MapR c m :: F) := by
 refine CSpec.of_body Try.func73 rfl Try.ntmps73 rfl fun F => ?_
 show CJ _ _ _ _ _ _ (_ :: _ :: _ :: F)
 refine sR <| oA rfl rfl <| nT <| CJ_seq <| sR <| oM rfl rfl <| oV (V_len rfl foc2 hR Try.runUnderlying34) rfl <| oM rfl rfl <| nT <| CJ_block <| CJ_loopR (X := Nat) [4, 5, 8, 9, 10, 11, 12, 13, 14, 15, 16, 17, 18] (fun i  => ([(8, .int .i64 (i : Nat))] : Slots)) (fun i R => R) (fun i  => i ≤ xs.length ∧ ((xs.take i).any fun x => enT m k z x) = false) (fun i  => xs.length - i) (0) ?_ ?_ (t0_ (t0_ (t0_ eR))) ?_
 · exact ⟨Nat.zero_le _, by simp⟩
 · exact ⟨rfl, True.intro⟩
 ·
  intro i hpf
  obtain ⟨hi, hno⟩ := hpf
  show CJ _ _ _ _ _ (([(8, .int .i64 (i : Nat))] : Slots) ++ forget _ _) (_)
  have hmem : i < xs.length → xs.getD i tyapi_Target.dflt ∈ xs := fun h => getD_mem _ h
  refine sR <| oP (P_lss rfl rfl) rfl <| nT <| CJ_seq ?_
  first | (refine CJ_condD rfl (fun hg1 => ?_) (fun hg1 => ?_)) | (refine CJ_condN rfl (fun hg1 => ?_) (fun hg1 => ?_)) | (refine CJ_cond rfl (fun hg1 => ?_) (fun hg1 => ?_))
  ·
   refine kT <| CJ_seq <| CJ_block <| sR <| oM rfl rfl <| oA rfl rfl <| nT <| sR <| oM rfl rfl <| oM rfl rfl <| oM rfl rfl ?_
   first | (refine RJ_op rfl (OJ_V (V_index rfl rfl rfl (by omega) foc2 hR Try.runUnderlying34 Try.sizeOf33) rfl ?_)) | (refine RJ_op rfl (OJ_V (V_index rfl rfl (Int.toNat_of_nonneg (by omega)).symm (by omega) foc2 hR Try.runUnderlying34 Try.sizeOf33) rfl ?_))
   refine oV (V_loadEN rfl rfl (by omega) foc2 hR rfl rfl Try.isAgg33 Try.sizeOf33) rfl <| oO <| O_callV rfl rfl (c_enough1 hk (hp (xs.getD i tyapi_Target.dflt) (hmem (by omega)))) Try.call61 (Dels.cons del0 (Dels.cons del0 (Dels.cons del0 Dels.nil))) rfl fun _ hc1 => nT ?_
   first | (refine CJ_condD rfl (fun hg2 => ?_) (fun hg2 => ?_)) | (refine CJ_condN rfl (fun hg2 => ?_) (fun hg2 => ?_)) | (refine CJ_cond rfl (fun hg2 => ?_) (fun hg2 => ?_))
   ·
    refine sR <| oM rfl rfl <| oA rfl rfl <| nT <| CJ_ret <| QJ_block_ret <| QJ_then_ret <| QJ_round_ret <| QJ_block_ret <| QJ_then_ret <| QJ_end (res1 Try.results73 rfl) <| CSpec.close (i : Int) ?_ ?_ (t0_ (t0_ (t0_ eR)))
    · rfl
    · exact ⟨fun _ => List.any_eq_true.2 ⟨_, hmem (by omega), by assumption⟩, fun _ => by omega⟩
   ·
    refine CJ_skip <| QJ_block_normal <| QJ_then <| CJ_region <| oP (P_add rfl rfl (by omega)) rfl <| oM rfl rfl <| RJ_nil <| QJ_nextR (i + 1) (by first | omega | (simp only []; omega)) ?_ (by repeat (first | exact Kp.base | exact Kp.self | refine Kp.cons rfl ?_ | refine Kp.forget rfl ?_)) ?_ (t0_ (t0_ (t0_ eR)))
    ·
     refine ⟨by omega, ?_⟩
     rw [takeD tyapi_Target.dflt (by omega), List.any_append, hno, List.any_cons, List.any_nil, Bool.or_false, Bool.false_or]
     show enT m k z (xs.getD i tyapi_Target.dflt) = false
     assumption
    · exact ⟨rfl, True.intro⟩
  ·
   refine CJ_exit <| QJ_then_exit <| QJ_round_exit <| QJ_block_here <| QJ_then <| sR <| oA rfl rfl <| nT <| CJ_ret <| QJ_end (res1 Try.results73 rfl) <| CSpec.close (-1) ?_ ?_ (t0_ (t0_ (t0_ eR)))
   · rfl
   ·
    obtain rfl : i = xs.length := by omega
    rw [List.take_length] at hno
    rw [hno]; simp
theorem c_conEn {W : World} {q q2 : Nat} {c : MH} {m : Md} {k : Nat} {z : Int} {v : Value} {xs : List api_Target} (hR : Reads (MapR c m) tyapi_Target v xs) (hl : xs.length ≤ 100000000) (hk : m.isD k) (hp : ∀ x ∈ xs, 0 ≤ x.Offset ∧ x.Offset ≤ 16777216 ∧ 1 ≤ x.Length ∧ x.Length ≤ 16777216) :
    CSpec Try.prog W 56 [v, .func (.func 61) #[] #[ptr q 0, ptr q2 0]] [blk q 72 [ptr (c.bs k) 0], blk q2 3 [.int .i64 z], MapR c m] (fun _ : Unit =>   .bool (xs.any fun x => enT m k z x)) (fun _ => True) (fun _ F => blk q 72 [ptr (c.bs k) 0] :: blk q2 3 [.int .i64 z] :: MapR c m :: F) := by
 refine CSpec.of_body Try.func56 rfl Try.ntmps56 rfl fun F => ?_
 show CJ _ _ _ _ _ _ (_ :: _ :: _ :: F)
 refine sR <| oA rfl rfl <| nT <| sR <| oM rfl rfl <| oM rfl rfl <| oO <| O_call (c_idxEn hR hl hk hp) rfl Try.call73 (Dels.cons del0 (Dels.cons del0 (Dels.cons del0 Dels.nil))) rfl fun r hr => oP (P_geq rfl rfl) rfl <| oA rfl rfl <| nT <| CJ_ret <| QJ_end (res1 Try.results56 rfl) <| CSpec.close () ?_ ?_ (t0_ (t0_ (t0_ eR)))
 · exact bv (by rw [Bool.eq_iff_iff, decide_eq_true_iff]; exact hr)
 · trivial
theorem c_enough {W : World} {b : Nat} {c : MH} {m : Md} {k : Nat} {z : Int} (hk : m.isD k) :
    CSpec Try.prog W 36 [ptr b 0, ptr (c.bs k) 0, .int .i64 z] [blk b 79 (mCells c m), MapR c m] (fun _ : Unit => .bool (m.needs k z)) (fun _ => True) (fun _ F => blk b 79 (mCells c m) :: MapR c m :: F) := by
 refine CSpec.of_body Try.func36 rfl Try.ntmps36 rfl fun F => ?_
 show CJ _ _ _ _ _ _ (_ :: _ :: F)
 refine CJ_pure (MapR_wf foc1) fun hW => ?_
 have hO := hW.ok
 have hlen := hW.big.len
 have hns := Md.names_len (m := m)
 refine sR <| oO <| O_box rfl rfl rfl fun b1 => oO <| O_box rfl rfl rfl fun b2 => oA rfl rfl <| nT <| CJ_seq <| sR <| oM rfl rfl <| oV (V_load rfl foc1 rfl Try.isAgg72) rfl <| oP (P_nilCheck rfl) rfl <| oP (P_fieldAddr rfl ⟨_, _, _, Try.runUnderlying75, rfl, rfl, Try.sizeOf9, rfl⟩) rfl <| oV (VJ_ent (Ent.trans (t3_ eR) (MapR_dev hk)) (V_load rfl foc0 rfl Try.isAgg9)) rfl <| oO <| O_call (c_users) rfl Try.call44 (Dels.cons del2 (Dels.cons del2 Dels.nil)) rfl fun _ hc4 => oV (V_len rfl foc0 (Reads.sl _ _ _) Try.runUnderlying103) rfl <| oM rfl rfl <| nT <| CJ_block <| CJ_loopR (X := Nat) [6, 8, 10, 18, 19, 20, 21, 22, 23, 24, 25, 26, 27, 28, 29, 30, 31, 32, 33] (fun i  => ([(18, .int .i64 (i : Nat))] : Slots)) (fun i R => R) (fun i  => i ≤ (m.usersN (m.at k).name).length ∧ ∀ j ∈ (m.usersN (m.at k).name).take i, ∀ t ∈ Md.tbl (m.at j), enT m k z t = false) (fun i  => (m.usersN (m.at k).name).length - i) (0) ?_ ?_ (t0_ (t0_ (t0_ (t0_ (t0_ eR))))) ?_
 · exact ⟨Nat.zero_le _, fun j hj => by simp at hj⟩
 · exact ⟨rfl, True.intro⟩
 ·
  intro i hpf
  obtain ⟨hi, hall⟩ := hpf
  show CJ _ _ _ _ _ (([(18, .int .i64 (i : Nat))] : Slots) ++ forget _ _) (_)
  have hul := Md.usersN_len m (m.at k).name
  have hum : ((m.usersN (m.at k).name).map c.bs).length = (m.usersN (m.at k).name).length := by simp
  have hj0 : i < (m.usersN (m.at k).name).length → m.isD ((m.usersN (m.at k).name).getD i 0) := fun h => (Md.usersN_is (getD_mem 0 h)).1
  refine sR <| oP (P_lss rfl rfl) rfl <| nT <| CJ_seq ?_
  first | (refine CJ_condD rfl (fun hg1 => ?_) (fun hg1 => ?_)) | (refine CJ_condN rfl (fun hg1 => ?_) (fun hg1 => ?_)) | (refine CJ_cond rfl (fun hg1 => ?_) (fun hg1 => ?_))
  ·
   refine kT <| CJ_seq <| CJ_block <| CJ_seq ?_
   have hj := hj0 (by omega)
   refine CJ_region ?_
   first | (refine RJ_op rfl (OJ_V (V_index rfl rfl rfl (by omega) foc0 (Reads.sl _ _ _) Try.runUnderlying103 Try.sizeOf72) rfl ?_)) | (refine RJ_op rfl (OJ_V (V_index rfl rfl (Int.toNat_of_nonneg (by omega)).symm (by omega) foc0 (Reads.sl _ _ _) Try.runUnderlying103 Try.sizeOf72) rfl ?_))
   refine oV (VJ_eq (V_loadE rfl rfl (by omega) foc0 (Reads.sl _ _ _) rfl rfl Try.isAgg72) (bs_map (by omega))) rfl <| oA rfl rfl <| nT <| sR <| oM rfl rfl <| oO <| O_call (c_tables hj) rfl Try.call42 (Dels.cons del2 Dels.nil) rfl fun _ hc6 => oV (V_len rfl foc0 (Reads.sl _ _ _) Try.runUnderlying100) rfl <| oM rfl rfl <| nT <| CJ_block <| CJ_loopR (X := Nat) [6, 10, 25, 26, 27, 28, 29, 30, 31, 32] (fun i2  => ([(25, .int .i64 (i2 : Nat))] : Slots)) (fun i2 R => R) (fun i2  => i2 ≤ 2 ∧ ∀ i9, i9 < i2 → ((([(m.at ((m.usersN (m.at k).name).getD i 0)).live, (m.at ((m.usersN (m.at k).name).getD i 0)).new] : List (List api_Target)).getD i9 []).any fun x => enT m k z x) = false) (fun i2  => 2 - i2) (0) ?_ ?_ (t0_ (t0_ (t0_ (t0_ (t0_ (t0_ eR)))))) ?_
   · exact ⟨by omega, fun i9 h => by omega⟩
   · exact ⟨rfl, True.intro⟩
   ·
    intro i2 hpf
    obtain ⟨hi2, hno⟩ := hpf
    show CJ _ _ _ _ _ (([(25, .int .i64 (i2 : Nat))] : Slots) ++ forget _ _) (_)
    have h2l : ([(c.hd ((m.usersN (m.at k).name).getD i 0)).lv, (c.hd ((m.usersN (m.at k).name).getD i 0)).nw] : List Sl3).length = 2 := rfl
    refine sR <| oP (P_lss rfl rfl) rfl <| nT <| CJ_seq ?_
    first | (refine CJ_condD rfl (fun hg2 => ?_) (fun hg2 => ?_)) | (refine CJ_condN rfl (fun hg2 => ?_) (fun hg2 => ?_)) | (refine CJ_cond rfl (fun hg2 => ?_) (fun hg2 => ?_))
    ·
     refine kT <| CJ_seq <| CJ_block <| sR ?_
     first | (refine RJ_op rfl (OJ_V (V_index rfl rfl rfl (by omega) foc0 (Reads.sl _ _ _) Try.runUnderlying100 Try.sizeOf34) rfl ?_)) | (refine RJ_op rfl (OJ_V (V_index rfl rfl (Int.toNat_of_nonneg (by omega)).symm (by omega) foc0 (Reads.sl _ _ _) Try.runUnderlying100 Try.sizeOf34) rfl ?_))
     refine oV (V_loadE rfl rfl (by omega) foc0 (Reads.sl _ _ _) rfl rfl Try.isAgg34) rfl <| oA rfl rfl <| nT <| sR <| oM rfl rfl <| oP (P_makeFunc rfl rfl) rfl <| oO <| O_call (c_conEn (xs := (([(m.at ((m.usersN (m.at k).name).getD i 0)).live, (m.at ((m.usersN (m.at k).name).getD i 0)).new] : List (List api_Target)).getD i2 [])) (tbl_rd hj i2 (by omega)) (Nat.le_trans (chk_len (tbl_chk hO i2 (by omega))).1 (by decide)) hk (fun x hx => find_bound (tbl_chk hO i2 (by omega)) hx)) rfl Try.call56 (Dels.cons del5 (Dels.cons del4 (Dels.cons del1 Dels.nil))) rfl fun _ hc7 => nT ?_
     first | (refine CJ_condD rfl (fun hg3 => ?_) (fun hg3 => ?_)) | (refine CJ_condN rfl (fun hg3 => ?_) (fun hg3 => ?_)) | (refine CJ_cond rfl (fun hg3 => ?_) (fun hg3 => ?_))
     ·
      refine sR <| oA rfl rfl <| nT <| CJ_ret <| QJ_block_ret <| QJ_then_ret <| QJ_round_ret <| QJ_block_ret <| QJ_block_ret <| QJ_then_ret <| QJ_round_ret <| QJ_block_ret <| QJ_then_ret <| QJ_end (res1 Try.results36 rfl) <| CSpec.close () ?_ ?_ (t5_ (t2_ (eD (eD (eD (eD eR))))))
      ·
       obtain ⟨t, ht1, ht2⟩ := List.any_eq_true.1 (show ((([(m.at ((m.usersN (m.at k).name).getD i 0)).live, (m.at ((m.usersN (m.at k).name).getD i 0)).new] : List (List api_Target)).getD i2 []).any fun x => enT m k z x) = true by assumption)
       exact bv (Md.needs_false hj (tbl_in i2 (by omega) t ht1) ht2).symm
      · trivial
     ·
      refine CJ_skip <| QJ_block_normal <| QJ_then <| CJ_region <| oP (P_add rfl rfl (by omega)) rfl <| oM rfl rfl <| RJ_nil <| QJ_nextR (i2 + 1) (by first | omega | (simp only []; omega)) ?_ (by repeat (first | exact Kp.base | exact Kp.self | refine Kp.cons rfl ?_ | refine Kp.forget rfl ?_)) ?_ (t3_ (t2_ (t2_ (t2_ (t1_ (t0_ eR))))))
      ·
       refine ⟨by omega, fun i9 h9 => ?_⟩
       rcases Nat.lt_or_ge i9 i2 with h | h
       · exact hno i9 h
       · obtain rfl : i9 = i2 := by omega
         assumption
      · exact ⟨rfl, True.intro⟩
    ·
     refine CJ_exit <| QJ_then_exit <| QJ_round_exit <| QJ_block_here <| QJ_block_normal <| QJ_then <| CJ_region <| oP (P_add rfl rfl (by omega)) rfl <| oM rfl rfl <| RJ_nil <| QJ_nextR (i + 1) (by first | omega | (simp only []; omega)) ?_ (by repeat (first | exact Kp.base | exact Kp.self | refine Kp.cons rfl ?_ | refine Kp.forget rfl ?_)) ?_ (t2_ (t2_ (t1_ (t1_ (t1_ (eD eR))))))
     ·
      refine ⟨by omega, fun j hj2 => ?_⟩
      rw [takeD 0 (by omega)] at hj2
      rcases List.mem_append.1 hj2 with h | h
      · exact hall j h
      · rw [List.mem_singleton] at h; subst h
        obtain rfl : i2 = 2 := by omega
        exact tbl_all hno
     · exact ⟨rfl, True.intro⟩
  ·
   refine CJ_exit <| QJ_then_exit <| QJ_round_exit <| QJ_block_here <| QJ_then <| sR <| oA rfl rfl <| nT <| CJ_ret <| QJ_end (res1 Try.results36 rfl) <| CSpec.close () ?_ ?_ (t1_ (t1_ (eD (eD (eD eR)))))
   ·
    obtain rfl : i = (m.usersN (m.at k).name).length := by omega
    rw [List.take_length] at hall
    exact bv (Md.needs_true hO hk hall).symm
   · trivial
end Go.Proofs
set_option linter.unusedSimpArgs false
set_option maxRecDepth 20000
namespace Go.Proofs
open Go.VG
theorem is_lt {is : List Nat} {i n : Nat} (hn : is.Nodup) (hl : ∀ j ∈ is, j < n) (h : i ∉ is) (hi : i < n) : is.length < n := by
  have h2 : (i :: is).Nodup := List.nodup_cons.2 ⟨h, hn⟩
  have h3 : (i :: is).Perm ((List.range n).filter (fun j => decide (j ∈ i :: is))) := (List.perm_ext_iff_of_nodup h2 (List.nodup_range.filter _)).2 fun j => by
    rw [List.mem_filter, List.mem_range]
    constructor
    · intro hj
      refine ⟨?_, by simpa using hj⟩
      rcases List.mem_cons.1 hj with h4 | h4
      · omega
      · exact hl j h4
    · rintro ⟨_, h4⟩; simpa using h4
  have h4 := h3.length_eq
  have h5 := List.length_filter_le (fun j => decide (j ∈ i :: is)) (List.range n)
  rw [List.length_range] at h5; rw [List.length_cons] at h4; omega
theorem look_in {κ ν : Type} [DecidableEq κ] : ∀ {l : List (κ × ν)} {i : Nat} {p : κ × ν}, (l.map (·.1)).Nodup → l[i]? = some p → lookM l p.1 = some p.2
  | [], _, _, _, h => by simp at h
  | (a, v) :: l, 0, p, _, h => by simp at h; subst h; simp [lookM]
  | (a, v) :: l, i + 1, p, hn, h => by
    rw [List.map_cons, List.nodup_cons] at hn
    have h1 : l[i]? = some p := by simpa using h
    have h2 : ¬ p.1 = a := fun e => hn.1 (e ▸ List.mem_map.2 ⟨p, List.mem_of_getElem? h1, rfl⟩)
    simp only [lookM, if_neg h2]
    exact look_in hn.2 h1
theorem look_out {κ ν : Type} [DecidableEq κ] : ∀ {l : List (κ × ν)} {k : κ} {v : ν}, lookM l k = some v → ∃ i : Nat, l[i]? = some (k, v)
  | [], _, _, h => by simp [lookM] at h
  | (a, u) :: l, k, v, h => by
    simp only [lookM] at h
    split at h
    · rename_i e; subst e; exact ⟨0, by simp at h; simp [h]⟩
    · obtain ⟨i, hi⟩ := look_out h; exact ⟨i + 1, by simpa using hi⟩
section
variable {c : MH} {m : Md} {k r : Nat} {is : List Nat}
theorem mpiR_nodup {H : List HP} {C : HP → List HP} (hf : Foc H (MapRG (mpi mDev c.dm r c.dl is) c m) C) : ∀ h, stars H h → (c.dl.map (·.1)).Nodup := fun h hh => by
  obtain ⟨F, hE⟩ := foc_ent hf
  obtain ⟨x, h1⟩ := stars_ex.1 (MapRG_out _ (hE _ hh))
  exact (stars_pur.1 (stars_star.1 h1)).1.2.1
theorem dl_dev (hW : MapWF c m) (hn : (c.dl.map (·.1)).Nodup) {i : Nat} {p : ByteArray × Nat} (hp : c.dl[i]? = some p) : ∃ j, m.isD j ∧ c.bs j = p.2 ∧ m.dev p.1 = some j := by
  have h1 := look_in hn hp
  rw [hW.dl] at h1
  obtain ⟨j, h2, h3⟩ := Option.map_eq_some_iff.1 h1
  exact ⟨j, (Md.dev_is h2).1, h3, h2⟩
theorem dev_dl (hW : MapWF c m) {j : Nat} (hj : m.isD j) : ∃ i : Nat, c.dl[i]? = some ((m.at j).name, c.bs j) := by
  have h1 := hW.dl (m.at j).name
  rw [Md.dev_at hW.ok hj] at h1
  exact look_out h1
def okB (c : MH) (m : Md) (k j : Nat) : Prop := (j = k → (m.at j).wait.length = 0) ∧ (((m.at j).wait.map (wC c.bs)).any fun x => buC c k x) = false
theorem buC_eq (hW : MapWF c m) (hk : m.isD k) {j : Nat} (hj : j < m.dv.length) : ((m.at j).wait.map (wC c.bs)).any (fun x => buC c k x) = (m.at j).wait.any fun w => decide (w.gv = k) := by
  rw [Bool.eq_iff_iff, List.any_eq_true, List.any_eq_true]
  constructor
  · rintro ⟨x, h1, h2⟩
    obtain ⟨w, h3, rfl⟩ := List.mem_map.1 h1
    obtain ⟨g1, g2, g3, g4, _⟩ := hW.ok.org j hj w h3
    unfold buC at h2
    exact ⟨w, h3, decide_eq_true (hW.inj w.gv k ⟨g2, g3, g4⟩ hk (of_decide_eq_true h2))⟩
  · rintro ⟨w, h1, h2⟩
    refine ⟨wC c.bs w, List.mem_map.2 ⟨w, h1, rfl⟩, ?_⟩
    unfold buC wC
    exact decide_eq_true (by rw [of_decide_eq_true h2])
theorem busy_true (hW : MapWF c m) (hk : m.isD k) {j : Nat} (hj : m.isD j) (h : ¬ okB c m k j) : m.busy k = true := by
  unfold Md.busy
  rw [Bool.or_eq_true]
  by_cases h1 : j = k ∧ (m.at j).wait.length ≠ 0
  · obtain ⟨rfl, h2⟩ := h1
    exact .inl (decide_eq_true fun e => h2 (by rw [e]; rfl))
  · right
    rw [List.any_eq_true]
    refine ⟨m.at j, by simp [Md.at, List.getD, hj.1], ?_⟩
    rw [← buC_eq hW hk hj.1]
    refine Classical.byContradiction fun h3 => h ⟨fun e => Classical.byContradiction fun h4 => h1 ⟨e, h4⟩, by simpa using h3⟩
theorem busy_false (hW : MapWF c m) (hk : m.isD k) (h : ∀ j, m.isD j → okB c m k j) : m.busy k = false := by
  unfold Md.busy
  rw [Bool.or_eq_false_iff]
  refine ⟨decide_eq_false fun h1 => h1 (List.eq_nil_of_length_eq_zero ((h k hk).1 rfl)), ?_⟩
  rw [Bool.eq_false_iff]
  intro h1
  obtain ⟨d, h2, h3⟩ := List.any_eq_true.1 h1
  obtain ⟨j, hj, rfl⟩ := List.getElem_of_mem h2
  have e : m.dv[j] = m.at j := by simp [Md.at, List.getD, hj]
  rw [e] at h3
  obtain ⟨w, h4, h5⟩ := List.any_eq_true.1 h3
  obtain ⟨g1, _⟩ := hW.ok.org j hj w h4
  have hB : (m.at j).isB = false := by
    cases hb : (m.at j).isB with
    | false => rfl
    | true => have := (hW.ok.bas j hb).2.2.1; rw [this] at h4; cases h4
  have h6 := (h j ⟨hj, g1, hB⟩).2
  rw [buC_eq hW hk hj, h3] at h6
  cases h6
end
theorem c_busy1 {W : World} {q : Nat} {X : HP} {c : MH} {m : Md} {k : Nat} {x : WtC} (hk : m.isD k) (hx : ∃ gv, m.isD gv ∧ x.p = c.bs gv) :
    CSpec Try.prog W 67 [.agg #[.int .i64 x.tk, ptr x.p 0, .int .i64 x.t.Kind, .int .i64 x.t.At, .int .u64 (x.t.Value.toNat : Int)], ptr q 0] [blk q 72 [ptr (c.bs k) 0], MapRG X c m] (fun _ : Unit => .bool (buC c k x)) (fun _ => True) (fun _ F => blk q 72 [ptr (c.bs k) 0] :: MapRG X c m :: F) := by
 obtain ⟨gv, hg, hxp⟩ := hx
 obtain ⟨tk, p, t⟩ := x
 obtain rfl : p = c.bs gv := hxp
 refine CSpec.of_body Try.func67 rfl Try.ntmps67 rfl fun F => ?_
 show CJ _ _ _ _ _ _ (_ :: _ :: F)
 refine CJ_pure (MapR_wf foc1) fun hW => sR <| oO <| O_box rfl rfl rfl fun b1 => oA rfl rfl <| nT <| sR <| oP (P_fieldAddr rfl ⟨_, _, _, Try.runUnderlying94, rfl, rfl, Try.sizeOf72, rfl⟩) rfl <| oV (V_load rfl foc0 rfl Try.isAgg72) rfl <| oV (V_load rfl foc1 rfl Try.isAgg72) rfl <| oV (V_eqDD rfl rfl foc2 hg hk Try.underlying72 Try.sizeOf75) rfl <| oA rfl rfl <| nT <| CJ_ret <| QJ_end (res1 Try.results67 rfl) <| CSpec.close () ?_ ?_ (t1_ (t1_ (eD eR)))
 · exact bv (by unfold buC; exact decide_eq_decide.2 ⟨fun e => by rw [e], fun e => hW.inj gv k hg hk e⟩)
 · trivial
theorem c_idxBu {W : World} {q : Nat} {X : HP} {c : MH} {m : Md} {k : Nat} {v : Value} {xs : List WtC} (hR : Reads (MapRG X c m) tyErr v xs) (hl : xs.length ≤ 100000000) (hk : m.isD k) (hp : ∀ x ∈ xs, ∃ gv, m.isD gv ∧ x.p = c.bs gv) :
    CSpec Try.prog W 77 [v, .func (.func 67) #[] #[ptr q 0]] [blk q 72 [ptr (c.bs k) 0], MapRG X c m] (fun r : Int => .int .i64 r) (fun r => (0 ≤ r ↔ (xs.any fun x => buC c k x) = true)) (fun _ F => blk q 72 [ptr (c.bs k) 0] :: MapRG X c m :: F) := by
 refine CSpec.of_body Try.func77 rfl Try.ntmps77 rfl fun F => ?_
 show CJ _ _ _ _ _ _ (_ :: _ :: F)
 refine sR <| oA rfl rfl <| nT <| CJ_seq <| sR <| oM rfl rfl <| oV (V_len rfl foc1 hR Try.runUnderlying73) rfl <| oM rfl rfl <| nT <| CJ_block <| CJ_loopR (X := Nat) [4, 5, 8, 9, 10, 11, 12, 13, 14, 15, 16, 17, 18] (fun i  => ([(8, .int .i64 (i : Nat))] : Slots)) (fun i R => R) (fun i  => i ≤ xs.length ∧ ((xs.take i).any fun x => buC c k x) = false) (fun i  => xs.length - i) (0) ?_ ?_ (t0_ (t0_ eR)) ?_
 · exact ⟨Nat.zero_le _, by simp⟩
 · exact ⟨rfl, True.intro⟩
 ·
  intro i hpf
  obtain ⟨hi, hno⟩ := hpf
  show CJ _ _ _ _ _ (([(8, .int .i64 (i : Nat))] : Slots) ++ forget _ _) (_)
  have hmem : i < xs.length → xs.getD i tyErr.dflt ∈ xs := fun h => getD_mem _ h
  refine sR <| oP (P_lss rfl rfl) rfl <| nT <| CJ_seq ?_
  first | (refine CJ_condD rfl (fun hg1 => ?_) (fun hg1 => ?_)) | (refine CJ_condN rfl (fun hg1 => ?_) (fun hg1 => ?_)) | (refine CJ_cond rfl (fun hg1 => ?_) (fun hg1 => ?_))
  ·
   refine kT <| CJ_seq <| CJ_block <| sR <| oM rfl rfl <| oA rfl rfl <| nT <| sR <| oM rfl rfl <| oM rfl rfl <| oM rfl rfl ?_
   first | (refine RJ_op rfl (OJ_V (V_index rfl rfl rfl (by omega) foc1 hR Try.runUnderlying73 Try.sizeOf94) rfl ?_)) | (refine RJ_op rfl (OJ_V (V_index rfl rfl (Int.toNat_of_nonneg (by omega)).symm (by omega) foc1 hR Try.runUnderlying73 Try.sizeOf94) rfl ?_))
   refine oV (V_loadEN rfl rfl (by omega) foc1 hR rfl rfl Try.isAgg94 Try.sizeOf94) rfl <| oO <| O_callV rfl rfl (c_busy1 hk (hp (xs.getD i tyErr.dflt) (hmem (by omega)))) Try.call67 (Dels.cons del0 (Dels.cons del0 Dels.nil)) rfl fun _ hc1 => nT ?_
   first | (refine CJ_condD rfl (fun hg2 => ?_) (fun hg2 => ?_)) | (refine CJ_condN rfl (fun hg2 => ?_) (fun hg2 => ?_)) | (refine CJ_cond rfl (fun hg2 => ?_) (fun hg2 => ?_))
   ·
    refine sR <| oM rfl rfl <| oA rfl rfl <| nT <| CJ_ret <| QJ_block_ret <| QJ_then_ret <| QJ_round_ret <| QJ_block_ret <| QJ_then_ret <| QJ_end (res1 Try.results77 rfl) <| CSpec.close (i : Int) ?_ ?_ (t0_ (t0_ eR))
    · rfl
    · exact ⟨fun _ => List.any_eq_true.2 ⟨_, hmem (by omega), by assumption⟩, fun _ => by omega⟩
   ·
    refine CJ_skip <| QJ_block_normal <| QJ_then <| CJ_region <| oP (P_add rfl rfl (by omega)) rfl <| oM rfl rfl <| RJ_nil <| QJ_nextR (i + 1) (by first | omega | (simp only []; omega)) ?_ (by repeat (first | exact Kp.base | exact Kp.self | refine Kp.cons rfl ?_ | refine Kp.forget rfl ?_)) ?_ (t0_ (t0_ eR))
    ·
     refine ⟨by omega, ?_⟩
     rw [takeD tyErr.dflt (by omega), List.any_append, hno, List.any_cons, List.any_nil, Bool.or_false, Bool.false_or]
     show buC c k (xs.getD i tyErr.dflt) = false
     assumption
    · exact ⟨rfl, True.intro⟩
  ·
   refine CJ_exit <| QJ_then_exit <| QJ_round_exit <| QJ_block_here <| QJ_then <| sR <| oA rfl rfl <| nT <| CJ_ret <| QJ_end (res1 Try.results77 rfl) <| CSpec.close (-1) ?_ ?_ (t0_ (t0_ eR))
   · rfl
   ·
    obtain rfl : i = xs.length := by omega
    rw [List.take_length] at hno
    rw [hno]; simp
theorem c_conBu {W : World} {q : Nat} {X : HP} {c : MH} {m : Md} {k : Nat} {v : Value} {xs : List WtC} (hR : Reads (MapRG X c m) tyErr v xs) (hl : xs.length ≤ 100000000) (hk : m.isD k) (hp : ∀ x ∈ xs, ∃ gv, m.isD gv ∧ x.p = c.bs gv) :
    CSpec Try.prog W 66 [v, .func (.func 67) #[] #[ptr q 0]] [blk q 72 [ptr (c.bs k) 0], MapRG X c m] (fun _ : Unit =>   .bool (xs.any fun x => buC c k x)) (fun _ => True) (fun _ F => blk q 72 [ptr (c.bs k) 0] :: MapRG X c m :: F) := by
 refine CSpec.of_body Try.func66 rfl Try.ntmps66 rfl fun F => ?_
 show CJ _ _ _ _ _ _ (_ :: _ :: F)
 refine sR <| oA rfl rfl <| nT <| sR <| oM rfl rfl <| oM rfl rfl <| oO <| O_call (c_idxBu hR hl hk hp) rfl Try.call77 (Dels.cons del0 (Dels.cons del0 Dels.nil)) rfl fun r hr => oP (P_geq rfl rfl) rfl <| oA rfl rfl <| nT <| CJ_ret <| QJ_end (res1 Try.results66 rfl) <| CSpec.close () ?_ ?_ (t0_ (t0_ eR))
 · exact bv (by rw [Bool.eq_iff_iff, decide_eq_true_iff]; exact hr)
 · trivial
theorem c_busy {W : World} {b : Nat} {c : MH} {m : Md} {k : Nat} (hk : m.isD k) :
    CSpec Try.prog W 45 [ptr b 0, ptr (c.bs k) 0] [blk b 79 (mCells c m), MapR c m] (fun _ : Unit => .bool (m.busy k)) (fun _ => True) (fun _ F => blk b 79 (mCells c m) :: MapR c m :: F) := by
 refine CSpec.of_body Try.func45 rfl Try.ntmps45 rfl fun F => ?_
 show CJ _ _ _ _ _ _ (_ :: _ :: F)
 refine CJ_pure (MapR_wf foc1) fun hW => ?_
 have hO := hW.ok
 refine sR <| oO <| O_box rfl rfl rfl fun b1 => oA rfl rfl <| nT <| CJ_seq <| sR <| oM rfl rfl <| oP (P_nilCheck rfl) rfl <| oP (P_fieldAddr rfl ⟨_, _, _, Try.runUnderlying79, rfl, rfl, Try.sizeOf77, rfl⟩) rfl <| oV (V_load rfl foc1 rfl Try.isAgg77) rfl <| RJ_ent (Ent.trans (t2_ eR) MapRG_out) <| oO <| O_rangeM rfl foc0 ok_mDev rfl fun ri2 => RJ_ent (Ent.trans (t0_ (t0_ eR)) (MapRG_in (X := mpi mDev c.dm ri2 c.dl []))) <| nT <| CJ_block <| CJ_loopR (X := List Nat) [4, 6, 12, 13, 14, 15, 16, 17, 18, 19, 20, 21, 22, 23, 24, 25, 26, 27, 28, 29, 30, 31, 32, 33, 34] (fun is  => ([] : Slots)) (fun is R => MapRG (mpi mDev c.dm ri2 c.dl is) c m :: R) (fun is  => is.Nodup ∧ (∀ i ∈ is, i < c.dl.length) ∧ ∀ i ∈ is, ∀ j, m.isD j → (c.dl.getD i (ByteArray.empty, 0)).2 = c.bs j → okB c m k j) (fun is  => c.dl.length - is.length) ([]) ?_ ?_ (t0_ (t0_ (t0_ eR))) ?_
 · exact ⟨List.nodup_nil, (fun i h => by cases h), fun i h => by cases h⟩
 · exact True.intro
 ·
  intro is hpf
  obtain ⟨hin, hil, hok⟩ := hpf
  show CJ _ _ _ _ _ (([] : Slots) ++ forget _ _) (MapRG (mpi mDev c.dm ri2 c.dl is) c m :: _)
  refine sR <| RJ_ent (Ent.trans (t0_ eR) MapRG_out) <| oO (O_nextM rfl foc0 rfl (fun hall => ?_) (fun i p hip hni => ?_))
  ·
   refine RJ_ent (Ent.trans (t0_ (t0_ eR)) (MapRG_in (X := mpi mDev c.dm ri2 c.dl is))) <| oP (P_extract rfl rfl) rfl <| nT <| CJ_seq <| CJ_condF rfl rfl <| CJ_exit <| QJ_then_exit <| QJ_round_exit <| QJ_block_here <| QJ_then <| sR <| oA rfl rfl <| nT <| CJ_ret <| QJ_end (res1 Try.results45 rfl) <| CSpec.close () ?_ ?_ (Ent.trans (Ent.trans (t0_ eR) (Ent.trans MapRG_out (Ent.trans mpi_done MapRG_in))) (t2_ (t0_ (eD eR))))
   ·
    refine bv (busy_false hW hk fun j hj => ?_).symm
    obtain ⟨i, hi⟩ := dev_dl hW hj
    exact hok i (hall i (List.getElem?_eq_some_iff.1 hi).1) j hj (by simp [List.getD, hi])
   · trivial
  ·
   refine RJ_ent (Ent.trans (t0_ (t0_ eR)) (MapRG_in (X := mpi mDev c.dm ri2 c.dl (is ++ [i])))) <| oP (P_extract rfl rfl) rfl <| nT <| CJ_seq <| CJ_condT rfl rfl <| kT <| CJ_block <| CJ_seq <| CJ_pure (mpiR_nodup foc0) fun hnd => ?_
   obtain ⟨j, hj, hjb, hjn⟩ := dl_dev hW hnd hip
   have hwl := hW.big.wl j
   refine CJ_region <| oV (VJ_eq (VJ_ent (Ent.trans (t0_ eR) MapRG_out) (V_entryM rfl foc0 hip)) (show Value.tuple #[.string p.1, ptr (c.bs j) 0] = Value.tuple #[.string p.1, ptr p.2 0] by rw [hjb])) rfl <| oP (P_extract rfl rfl) rfl <| oA rfl rfl <| nT <| sR <| oM rfl rfl <| oV (V_load rfl foc1 rfl Try.isAgg72) rfl <| oV (V_eqDD rfl rfl foc0 hj hk Try.underlying72 Try.sizeOf75) rfl <| oM rfl rfl ?_
   first | (refine RJ_splitD 19 rfl (fun hg1B hg1 => ?_) (fun hg1B hg1 => ?_)) | (refine RJ_splitN 19 rfl (fun hg1B hg1 => ?_) (fun hg1B hg1 => ?_)) | (refine RJ_split 19 rfl (fun hg1B => ?_) (fun hg1B => ?_))
   ·
    refine gP (GY_yes rfl rfl rfl hg1B) (P_move rfl) rfl <| gP (GY_yes rfl rfl rfl hg1B) (P_nilCheck rfl) rfl <| gP (GY_yes rfl rfl rfl hg1B) (P_fieldAddr rfl ⟨_, _, _, Try.runUnderlying75, rfl, rfl, Try.sizeOf73, rfl⟩) rfl <| gV (GY_yes rfl rfl rfl hg1B) (VJ_ent (Ent.trans (t0_ eR) (MapR_dev hj)) (V_load rfl foc0 rfl Try.isAgg73)) rfl <| gV (GY_yes rfl rfl rfl hg1B) (V_len rfl foc0 (rdWait hj) Try.runUnderlying73) rfl <| gP (GY_yes rfl rfl rfl hg1B) (P_gtr rfl rfl) rfl <| oP (P_pickT rfl hg1B rfl) rfl <| oM rfl rfl ?_
    first | (refine RJ_splitD 27 rfl (fun hg2B hg2 => ?_) (fun hg2B hg2 => ?_)) | (refine RJ_splitN 27 rfl (fun hg2B hg2 => ?_) (fun hg2B hg2 => ?_)) | (refine RJ_split 27 rfl (fun hg2B => ?_) (fun hg2B => ?_))
    ·
     refine RJ_gn (GY_no rfl rfl rfl hg2B) rfl rfl <| RJ_gn (GY_no rfl rfl rfl hg2B) rfl rfl <| RJ_gn (GY_no rfl rfl rfl hg2B) rfl rfl <| RJ_gn (GY_no rfl rfl rfl hg2B) rfl rfl <| RJ_gn (GY_no rfl rfl rfl hg2B) rfl rfl <| RJ_gn (GY_no rfl rfl rfl hg2B) rfl rfl <| oP (P_pickT rfl hg2B rfl) rfl <| nT <| CJ_condT rfl rfl <| sR <| oA rfl rfl <| nT <| CJ_ret <| QJ_block_ret <| QJ_round_ret <| QJ_block_ret <| QJ_then_ret <| QJ_end (res1 Try.results45 rfl) <| CSpec.close () ?_ ?_ (Ent.trans (Ent.trans (t0_ eR) (Ent.trans MapRG_out (Ent.trans mpi_done MapRG_in))) (t2_ (t0_ (eD eR))))
     ·
      refine bv (busy_true hW hk hj fun ho => ?_).symm
      obtain ⟨ho1, ho2⟩ := ho
      rw [Bool.eq_false_iff] at ho2
      first | exact ho2 (by assumption) | (have h9 := ho1 (by assumption); simp_all)
     · trivial
    ·
     refine gP (GY_yes rfl rfl rfl hg2B) (P_move rfl) rfl <| gP (GY_yes rfl rfl rfl hg2B) (P_nilCheck rfl) rfl <| gP (GY_yes rfl rfl rfl hg2B) (P_fieldAddr rfl ⟨_, _, _, Try.runUnderlying75, rfl, rfl, Try.sizeOf73, rfl⟩) rfl <| gV (GY_yes rfl rfl rfl hg2B) (VJ_ent (Ent.trans (t0_ eR) (MapR_dev hj)) (V_load rfl foc0 rfl Try.isAgg73)) rfl <| gP (GY_yes rfl rfl rfl hg2B) (P_makeFunc rfl rfl) rfl <| RJ_gy (GY_yes rfl rfl rfl hg2B) <| O_call (c_conBu (rdWait hj) (by rw [List.length_map]; exact Nat.le_trans (hW.big.wl j) (by decide)) hk (fun x hx => by obtain ⟨w, hw1, rfl⟩ := List.mem_map.1 hx; obtain ⟨_, g2, g3, g4, _⟩ := hO.org j hj.1 w hw1; exact ⟨w.gv, ⟨g2, g3, g4⟩, rfl⟩)) rfl Try.call66 (Dels.cons del1 (Dels.cons del0 Dels.nil)) rfl fun _ hc3 => oP (P_pickF rfl hg2B rfl) rfl <| nT ?_
     first | (refine CJ_condD rfl (fun hg3 => ?_) (fun hg3 => ?_)) | (refine CJ_condN rfl (fun hg3 => ?_) (fun hg3 => ?_)) | (refine CJ_cond rfl (fun hg3 => ?_) (fun hg3 => ?_))
     ·
      refine sR <| oA rfl rfl <| nT <| CJ_ret <| QJ_block_ret <| QJ_round_ret <| QJ_block_ret <| QJ_then_ret <| QJ_end (res1 Try.results45 rfl) <| CSpec.close () ?_ ?_ (Ent.trans (Ent.trans (t1_ eR) (Ent.trans MapRG_out (Ent.trans mpi_done MapRG_in))) (t2_ (t0_ (eD eR))))
      ·
       refine bv (busy_true hW hk hj fun ho => ?_).symm
       obtain ⟨ho1, ho2⟩ := ho
       rw [Bool.eq_false_iff] at ho2
       first | exact ho2 (by assumption) | (have h9 := ho1 (by assumption); simp_all)
      · trivial
     ·
      refine CJ_skip <| QJ_block_normal <| QJ_nextR (is ++ [i]) (by have := is_lt hin hil hni (List.getElem?_eq_some_iff.1 hip).1; simp only [List.length_append, List.length_cons, List.length_nil]; omega) ?_ (by repeat (first | exact Kp.base | exact Kp.self | refine Kp.cons rfl ?_ | refine Kp.forget rfl ?_)) ?_ (t1_ (t0_ (t0_ eR)))
      ·
       refine ⟨List.nodup_append.2 ⟨hin, (by simp), fun a ha b hb he => hni (by rw [List.mem_singleton] at hb; rw [← hb, ← he]; exact ha)⟩, fun j2 hj2 => ?_, fun i2 hi2 j2 hj2 he2 => ?_⟩
       · rcases List.mem_append.1 hj2 with h | h
         · exact hil j2 h
         · rw [List.mem_singleton] at h; subst h; exact (List.getElem?_eq_some_iff.1 hip).1
       · rcases List.mem_append.1 hi2 with h | h
         · exact hok i2 h j2 hj2 he2
         · rw [List.mem_singleton] at h; subst h
           have e : c.dl.getD i2 (ByteArray.empty, 0) = p := by simp [List.getD, hip]
           rw [e, ← hjb] at he2
           obtain rfl : j = j2 := hW.inj j j2 hj hj2 he2
           exact ⟨fun e => by simp_all, by assumption⟩
      · exact True.intro
   ·
    refine RJ_gn (GY_no rfl rfl rfl hg1B) rfl rfl <| RJ_gn (GY_no rfl rfl rfl hg1B) rfl rfl <| RJ_gn (GY_no rfl rfl rfl hg1B) rfl rfl <| RJ_gn (GY_no rfl rfl rfl hg1B) rfl rfl <| RJ_gn (GY_no rfl rfl rfl hg1B) rfl rfl <| RJ_gn (GY_no rfl rfl rfl hg1B) rfl rfl <| oP (P_pickF rfl hg1B rfl) rfl <| oM rfl rfl <| gP (GY_yes rfl rfl rfl rfl) (P_move rfl) rfl <| gP (GY_yes rfl rfl rfl rfl) (P_nilCheck rfl) rfl <| gP (GY_yes rfl rfl rfl rfl) (P_fieldAddr rfl ⟨_, _, _, Try.runUnderlying75, rfl, rfl, Try.sizeOf73, rfl⟩) rfl <| gV (GY_yes rfl rfl rfl rfl) (VJ_ent (Ent.trans (t0_ eR) (MapR_dev hj)) (V_load rfl foc0 rfl Try.isAgg73)) rfl <| gP (GY_yes rfl rfl rfl rfl) (P_makeFunc rfl rfl) rfl <| RJ_gy (GY_yes rfl rfl rfl rfl) <| O_call (c_conBu (rdWait hj) (by rw [List.length_map]; exact Nat.le_trans (hW.big.wl j) (by decide)) hk (fun x hx => by obtain ⟨w, hw1, rfl⟩ := List.mem_map.1 hx; obtain ⟨_, g2, g3, g4, _⟩ := hO.org j hj.1 w hw1; exact ⟨w.gv, ⟨g2, g3, g4⟩, rfl⟩)) rfl Try.call66 (Dels.cons del1 (Dels.cons del0 Dels.nil)) rfl fun _ hc4 => oP (P_pickF rfl rfl rfl) rfl <| nT ?_
    first | (refine CJ_condD rfl (fun hg4 => ?_) (fun hg4 => ?_)) | (refine CJ_condN rfl (fun hg4 => ?_) (fun hg4 => ?_)) | (refine CJ_cond rfl (fun hg4 => ?_) (fun hg4 => ?_))
    ·
     refine sR <| oA rfl rfl <| nT <| CJ_ret <| QJ_block_ret <| QJ_round_ret <| QJ_block_ret <| QJ_then_ret <| QJ_end (res1 Try.results45 rfl) <| CSpec.close () ?_ ?_ (Ent.trans (Ent.trans (t1_ eR) (Ent.trans MapRG_out (Ent.trans mpi_done MapRG_in))) (t2_ (t0_ (eD eR))))
     ·
      refine bv (busy_true hW hk hj fun ho => ?_).symm
      obtain ⟨ho1, ho2⟩ := ho
      rw [Bool.eq_false_iff] at ho2
      first | exact ho2 (by assumption) | (have h9 := ho1 (by assumption); simp_all)
     · trivial
    ·
     refine CJ_skip <| QJ_block_normal <| QJ_nextR (is ++ [i]) (by have := is_lt hin hil hni (List.getElem?_eq_some_iff.1 hip).1; simp only [List.length_append, List.length_cons, List.length_nil]; omega) ?_ (by repeat (first | exact Kp.base | exact Kp.self | refine Kp.cons rfl ?_ | refine Kp.forget rfl ?_)) ?_ (t1_ (t0_ (t0_ eR)))
     ·
      refine ⟨List.nodup_append.2 ⟨hin, (by simp), fun a ha b hb he => hni (by rw [List.mem_singleton] at hb; rw [← hb, ← he]; exact ha)⟩, fun j2 hj2 => ?_, fun i2 hi2 j2 hj2 he2 => ?_⟩
      · rcases List.mem_append.1 hj2 with h | h
        · exact hil j2 h
        · rw [List.mem_singleton] at h; subst h; exact (List.getElem?_eq_some_iff.1 hip).1
      · rcases List.mem_append.1 hi2 with h | h
        · exact hok i2 h j2 hj2 he2
        · rw [List.mem_singleton] at h; subst h
          have e : c.dl.getD i2 (ByteArray.empty, 0) = p := by simp [List.getD, hip]
          rw [e, ← hjb] at he2
          obtain rfl : j = j2 := hW.inj j j2 hj hj2 he2
          exact ⟨fun e => by simp_all, by assumption⟩
     · exact True.intro
end Go.Proofs
namespace Go.Proofs
namespace Md
def Rank (m : Md) (rk : Nat → Nat) : Prop := ∀ i, i < m.dv.length → (m.at i).gone = false → ∀ t ∈ tbl (m.at i), ∀ j, m.find t.On = some j → rk j < rk i
theorem countP_lt {p q : Nat → Bool} : ∀ {l : List Nat} {a : Nat}, a ∈ l → p a = false → q a = true → (∀ x, p x = true → q x = true) → l.countP p < l.countP q
  | b :: l, a, h, hp, hq, hpq => by
    rw [List.countP_cons, List.countP_cons]
    rcases List.mem_cons.1 h with rfl | h
    · rw [hp, hq]
      have : l.countP p ≤ l.countP q := List.countP_mono_left fun x _ => hpq x
      simp; omega
    · have := countP_lt h hp hq hpq
      have h2 : (if p b = true then 1 else 0) ≤ (if q b = true then 1 else 0) := by
        by_cases h3 : p b = true
        · rw [if_pos h3, if_pos (hpq b h3)]; exact Nat.le_refl _
        · rw [if_neg h3]; exact Nat.zero_le _
      omega
theorem rank_bd {m : Md} (h : ∃ rk, m.Rank rk) : ∃ rk, m.Rank rk ∧ ∀ i, rk i ≤ m.dv.length := by
  obtain ⟨rk, h⟩ := h
  refine ⟨fun i => (List.range m.dv.length).countP fun x => decide (rk x < rk i), fun i hi hg t ht j hj => ?_, fun i => ?_⟩
  · have h1 := h i hi hg t ht j hj
    have hjl : j < m.dv.length := (List.findIdx?_eq_some_iff_getElem.1 hj).1
    exact countP_lt (List.mem_range.2 hjl) (by simp) (by simpa using h1) fun x hx => by simp at hx ⊢; omega
  · have := List.countP_le_length (p := fun x => decide (rk x < rk i)) (l := List.range m.dv.length)
    rw [List.length_range] at this; exact this
def wayN (m : Md) (f : Nat) (n : ByteArray) (t : api_Task) : Option Nat := (m.find n).bind fun j => m.way f j t
section
variable {m : Md} {n : ByteArray} {t : api_Task} {k r : Nat} {a : Int}
theorem way_base (h : (m.at k).isB = true) : m.way r k t = none := by cases r with
  | zero => rfl
  | succ r => unfold way; rw [if_pos h]
theorem wayN_none (h : m.dev n = none) : m.wayN r n t = none := by
  unfold wayN
  unfold dev at h
  cases hf : m.find n with
  | none => rfl
  | some j =>
    rw [hf] at h
    cases hb : (m.at j).isB with
    | true => exact way_base hb
    | false => simp [hb] at h
theorem wayN_dev (h : m.find n = some k) : m.wayN r n t = m.way r k t := by unfold wayN; rw [h]; rfl
theorem way_susp (hb : (m.at k).isB = false) (hs : (m.at k).susp = true) : m.way (r + 1) k t = some k := by
  unfold way; rw [if_neg (by simp [hb]), if_pos hs]
theorem way_flush (hb : (m.at k).isB = false) (hs : (m.at k).susp = false) (hk : t.Kind = 3) : m.way (r + 1) k t = (tuses (m.at k).live).findSome? fun n => m.wayN r n t := by
  rw [way, if_neg (by simp [hb]), if_neg (by simp [hs]), if_pos hk]; rfl
theorem way_out (hb : (m.at k).isB = false) (hs : (m.at k).susp = false) (hk : t.Kind ≠ 3) (hf : tfind (m.at k).live t.At = none) : m.way (r + 1) k t = none := by
  rw [way, if_neg (by simp [hb]), if_neg (by simp [hs]), if_neg hk, hf]
theorem way_in {i : Nat} {o : Int} (hb : (m.at k).isB = false) (hs : (m.at k).susp = false) (hk : t.Kind ≠ 3) (hf : tfind (m.at k).live t.At = some (i, o)) :
    m.way (r + 1) k t = if ((m.at k).live.getD i tgt0).On = noN then none else m.wayN r ((m.at k).live.getD i tgt0).On { t with At := ((m.at k).live.getD i tgt0).Offset + o } := by
  rw [way, if_neg (by simp [hb]), if_neg (by simp [hs]), if_neg hk, hf]; rfl
theorem way_at (hk : t.Kind = 3) : ∀ r k, m.way r k { t with At := a } = m.way r k t
  | 0, _ => rfl
  | r + 1, k => by
    have ih := way_at hk r
    have hk' : ({ t with At := a } : api_Task).Kind = 3 := hk
    cases hb : (m.at k).isB with
    | true => rw [way_base hb, way_base hb]
    | false =>
      cases hs : (m.at k).susp with
      | true => rw [way_susp hb hs, way_susp hb hs]
      | false =>
        rw [way_flush hb hs hk, way_flush hb hs hk']
        congr 1; funext n
        unfold wayN
        cases m.find n with
        | none => rfl
        | some j => exact ih j
theorem wayN_at (hk : t.Kind = 3) : m.wayN r n { t with At := a } = m.wayN r n t := by
  unfold wayN
  cases m.find n with
  | none => rfl
  | some j => exact way_at hk r j
theorem way_is (hO : MdOk m) : ∀ (r k : Nat) (t : api_Task) (j : Nat), k < m.dv.length → (m.at k).gone = false → m.way r k t = some j → j < m.dv.length ∧ (m.at j).gone = false ∧ (m.at j).isB = false ∧ (m.at j).susp = true
  | 0, _, _, _, _, _, h => by cases h
  | r + 1, k, t, j, hk, hg, h => by
    have hN : ∀ n t, m.wayN r n t = some j → j < m.dv.length ∧ (m.at j).gone = false ∧ (m.at j).isB = false ∧ (m.at j).susp = true := fun n t h2 => by
      unfold wayN at h2
      cases hf : m.find n with
      | none => rw [hf] at h2; cases h2
      | some i =>
        rw [hf] at h2
        obtain ⟨h3, h4, _⟩ := List.findIdx?_eq_some_iff_getElem.1 hf
        have e : m.at i = m.dv[i] := by simp [Md.at, List.getD, h3]
        simp only [isN, Bool.and_eq_true, Bool.not_eq_true', decide_eq_true_eq] at h4
        exact way_is hO r i t j h3 (by rw [e]; exact h4.1) h2
    cases hb : (m.at k).isB with
    | true => rw [way_base hb] at h; cases h
    | false =>
      cases hs : (m.at k).susp with
      | true => rw [way_susp hb hs] at h; cases h; exact ⟨hk, hg, hb, hs⟩
      | false =>
        by_cases h3 : t.Kind = 3
        · rw [way_flush hb hs h3] at h
          obtain ⟨n, _, h4⟩ := List.exists_of_findSome?_eq_some h
          exact hN n t h4
        · cases hf : tfind (m.at k).live t.At with
          | none => rw [way_out hb hs h3 hf] at h; cases h
          | some p =>
            rw [way_in (i := p.1) (o := p.2) hb hs h3 hf] at h
            split at h
            · cases h
            · exact hN _ _ h
end
theorem tfind_ok {l : List api_Target} {a : Int} (h : (tfindR (tfind l a)).2.2 = true) (hc : chk l = 0) : ∃ (i : Nat) (o : Int), tfind l a = some (i, o) ∧ i < l.length ∧ 0 ≤ o ∧ o ≤ 1073741824 := by
  cases hf : tfind l a with
  | none => rw [hf] at h; cases h
  | some p =>
    by_cases ha : 0 ≤ a
    · rcases tfind_spec hc ha with ⟨_, g2⟩ | ⟨r, g1, g2, g3, g4, g5⟩
      · rw [g2] at hf; cases hf
      · rw [g5] at hf; cases hf
        have := chk_at l 0 (chk_len hc).2 r g1
        have h2 := tsum_take (chk_len hc).2 r (by omega)
        have h3 := tsum_bd hc
        refine ⟨r, _, rfl, g1, ?_, by omega⟩
        rcases Nat.eq_zero_or_pos r with rfl | hr
        · have : (l.getD 0 tgt0).Start = 0 := by rw [this.1]; simp [tsum]
          omega
        · have h4 := g2 (r - 1) (by omega)
          unfold tend at h4
          rw [show r - 1 + 1 = r by omega] at h4
          have := this.1; omega
    · have : tfind l a = none := by unfold tfind; rw [if_pos (.inr (by omega))]
      rw [this] at hf; cases hf
theorem tfind_no {l : List api_Target} {a : Int} (h : (tfindR (tfind l a)).2.2 = false) : tfind l a = none := by
  cases hf : tfind l a with
  | none => rfl
  | some p => rw [hf] at h; cases h
end Md
end Go.Proofs
set_option linter.unusedSimpArgs false
set_option maxRecDepth 20000
namespace Go.Proofs
open Go.VG
section
variable {P : Program} {n : Env} {s : Slots} {dst : Option Tmp} {ty : TypeId} {pos : String} {after : Array Edge} {g : Option (Nat × Bool)} {x y : Operand} {t t' : TypeId} {c : MH} {oo : Option Nat}
theorem P_neqO {T : TypeId} (hx : ev s x = some (pdv c oo)) (hy : ev s y = some (.pointer none)) (hu : P.underlying t = some (.pointer T)) : PJ P n ⟨dst, .binOp .neq t x y t', ty, pos, after, g⟩ s (.bool oo.isSome) := by
  cases oo with
  | none => exact P_neqNN hx hy hu
  | some k => exact P_neqPN hx hy hu
end
theorem fs_some {l : List ByteArray} {f : ByteArray → Option Nat} {i : Nat} (hi : i < l.length) (h : ∀ j, j < i → f (l.getD j ByteArray.empty) = none) (hs : (f (l.getD i ByteArray.empty)).isSome = true) : l.findSome? f = f (l.getD i ByteArray.empty) := by
  have e : l = l.take i ++ l.getD i ByteArray.empty :: l.drop (i + 1) := by rw [← dropD ByteArray.empty hi]; exact (List.take_append_drop i l).symm
  have h1 : (l.take i).findSome? f = none := by
    rw [List.findSome?_eq_none_iff]
    intro x hx
    obtain ⟨j, hj, rfl⟩ := List.getElem_of_mem hx
    rw [List.length_take] at hj
    have := h j (by omega)
    rw [List.getElem_take]
    simpa [List.getD, show j < l.length by omega] using this
  rw [e, List.findSome?_append, h1, ← e]
  obtain ⟨v, hv⟩ := Option.isSome_iff_exists.1 hs
  simp only [List.findSome?_cons, hv, Option.none_or]
theorem fs_none {l : List ByteArray} {f : ByteArray → Option Nat} (h : ∀ j, j < l.length → f (l.getD j ByteArray.empty) = none) : l.findSome? f = none := by
  rw [List.findSome?_eq_none_iff]
  intro x hx
  obtain ⟨j, hj, rfl⟩ := List.getElem_of_mem hx
  simpa [List.getD, hj] using h j hj
theorem rank_use {m : Md} {rk : Nat → Nat} {k r : Nat} {n : ByteArray} (h : m.Rank rk) (hk : m.isD k) (hkr : rk k < r + 1) (hn : ∃ t ∈ Md.tbl (m.at k), t.On = n) : ∀ j, m.find n = some j → rk j < r := fun j hj => by
  obtain ⟨t, h1, h2⟩ := hn
  have := h k hk.1 hk.2.1 t h1 j (h2 ▸ hj)
  omega
theorem uses_tbl {m : Md} {k i : Nat} (hi : i < (tuses (m.at k).live).length) : ∃ t ∈ Md.tbl (m.at k), t.On = (tuses (m.at k).live).getD i ByteArray.empty := by
  have h1 : memS (tuses (m.at k).live) ((tuses (m.at k).live).getD i ByteArray.empty) = true := mem_memS.2 (getD_mem _ hi)
  rw [tuses_mem] at h1
  unfold nam at h1
  obtain ⟨t, h2, h3⟩ := List.any_eq_true.1 h1
  exact ⟨t, List.mem_append.2 (.inl h2), (of_decide_eq_true h3).1⟩
theorem tfind_okN {l : List api_Target} {a : Int} (h : (!(tfindR (tfind l a)).2.2) = false) (hc : chk l = 0) : ∃ (i : Nat) (o : Int), tfind l a = some (i, o) ∧ i < l.length ∧ 0 ≤ o ∧ o ≤ 1073741824 := Md.tfind_ok (by simpa using h) hc
theorem c_way_step {W : World} {b q1 q2 q3 : Nat} {c : MH} {m : Md} {t : api_Task} {rk : Nat → Nat} {r : Nat} {nm : ByteArray} {a : Int} (hrk : m.Rank rk) (ih : ∀ r2, r2 + 1 = r → ∀ (nm : ByteArray) (a : Int), (∀ j, m.find nm = some j → rk j < r2) → CSpec Try.prog W 59 [.string nm, .int .i64 a, ptr q1 0, ptr q2 0, ptr q3 0] [blk q1 25 [ptr b 0], blk q2 44 [.int .i64 t.Kind, .int .i64 t.At, .int .u64 (t.Value.toNat : Int)], blk q3 122 [.func (.func 59) #[] #[ptr q1 0, ptr q2 0, ptr q3 0]], blk b 79 (mCells c m), MapR c m] (fun _ : Unit => pdv c (m.wayN r2 nm { t with At := a })) (fun _ => True) (fun _ F => blk q1 25 [ptr b 0] :: blk q2 44 [.int .i64 t.Kind, .int .i64 t.At, .int .u64 (t.Value.toNat : Int)] :: blk q3 122 [.func (.func 59) #[] #[ptr q1 0, ptr q2 0, ptr q3 0]] :: blk b 79 (mCells c m) :: MapR c m :: F)) (hn : ∀ j, m.find nm = some j → rk j < r) :
    CSpec Try.prog W 59 [.string nm, .int .i64 a, ptr q1 0, ptr q2 0, ptr q3 0] [blk q1 25 [ptr b 0], blk q2 44 [.int .i64 t.Kind, .int .i64 t.At, .int .u64 (t.Value.toNat : Int)], blk q3 122 [.func (.func 59) #[] #[ptr q1 0, ptr q2 0, ptr q3 0]], blk b 79 (mCells c m), MapR c m] (fun _ : Unit => pdv c (m.wayN r nm { t with At := a })) (fun _ => True) (fun _ F => blk q1 25 [ptr b 0] :: blk q2 44 [.int .i64 t.Kind, .int .i64 t.At, .int .u64 (t.Value.toNat : Int)] :: blk q3 122 [.func (.func 59) #[] #[ptr q1 0, ptr q2 0, ptr q3 0]] :: blk b 79 (mCells c m) :: MapR c m :: F) := by
 refine CSpec.of_body Try.func59 rfl Try.ntmps59 rfl fun F => ?_
 show CJ _ _ _ _ _ _ (_ :: _ :: _ :: _ :: _ :: F)
 refine CJ_pure (MapR_wf foc4) fun hW => ?_
 have hO := hW.ok
 refine sR <| oA rfl rfl <| nT <| sR <| oV (V_load rfl foc0 rfl Try.isAgg25) rfl <| oP (P_nilCheck rfl) rfl <| oP (P_fieldAddr rfl ⟨_, _, _, Try.runUnderlying79, rfl, rfl, Try.sizeOf77, rfl⟩) rfl <| oV (V_load rfl foc3 rfl Try.isAgg77) rfl <| oM rfl rfl <| oO (O_lookD rfl rfl foc4 rfl (fun hd2 => ?_) (fun k1 hd2 => ?_))
 ·
  refine oA rfl rfl <| nT <| CJ_seq <| sR <| oM rfl rfl <| oP (P_eqlNN rfl rfl Try.underlying72) rfl <| oM rfl rfl <| RJ_gn (GY_no rfl rfl rfl rfl) rfl rfl <| RJ_gn (GY_no rfl rfl rfl rfl) rfl rfl <| RJ_gn (GY_no rfl rfl rfl rfl) rfl rfl <| RJ_gn (GY_no rfl rfl rfl rfl) rfl rfl <| oP (P_pickT rfl rfl rfl) rfl <| nT <| CJ_condT rfl rfl <| sR <| oM rfl rfl <| oA rfl rfl <| nT <| CJ_ret <| QJ_then_ret <| QJ_end (res1 Try.results59 rfl) <| CSpec.close () ?_ ?_ (t0_ (t0_ (t0_ (t0_ (t0_ eR)))))
  · exact congrArg (pdv c) (Md.wayN_none hd2).symm
  · trivial
 ·
  refine oA rfl rfl <| nT <| CJ_seq <| sR <| oM rfl rfl <| oP (P_eqlPN rfl rfl Try.underlying72) rfl <| oM rfl rfl <| gP (GY_yes rfl rfl rfl rfl) (P_move rfl) rfl <| gP (GY_yes rfl rfl rfl rfl) (P_nilCheck rfl) rfl <| gP (GY_yes rfl rfl rfl rfl) (P_fieldAddr rfl ⟨_, _, _, Try.runUnderlying75, rfl, rfl, Try.sizeOf4, rfl⟩) rfl <| gV (GY_yes rfl rfl rfl rfl) (VJ_ent (Ent.trans (t4_ eR) (MapR_dev (Md.dev_is hd2).1)) (V_load rfl foc0 rfl Try.isAgg4)) rfl <| oP (P_pickF rfl rfl rfl) rfl <| nT ?_
  first | (refine CJ_condD rfl (fun hg1 => ?_) (fun hg1 => ?_)) | (refine CJ_condN rfl (fun hg1 => ?_) (fun hg1 => ?_)) | (refine CJ_cond rfl (fun hg1 => ?_) (fun hg1 => ?_))
  ·
   refine sR <| oM rfl rfl <| oA rfl rfl <| nT <| CJ_ret <| QJ_then_ret <| QJ_end (res1 Try.results59 rfl) ?_
   obtain ⟨r2, rfl⟩ : ∃ r2, r = r2 + 1 := ⟨r - 1, by have := hn _ (Md.dev_is hd2).2; omega⟩
   refine CSpec.close () ?_ ?_ (t0_ (t0_ (t0_ (t0_ (t0_ eR)))))
   · exact congrArg (pdv c) ((Md.wayN_dev (Md.dev_is hd2).2).trans (Md.way_susp (Md.dev_is hd2).1.2.2 (by assumption))).symm
   · trivial
  ·
   refine kT <| CJ_seq <| CJ_seq ?_
   have hdk := Md.dev_is hd2
   have hkr := hn _ hdk.2
   obtain ⟨r2, rfl⟩ : ∃ r2, r = r2 + 1 := ⟨r - 1, by omega⟩
   have hch := chk_len (hO.chk k1).1
   have hul := tuses_len (m.at k1).live
   have hsf : (m.at k1).susp = false := by simp_all
   refine CJ_region <| oP (P_fieldAddr rfl ⟨_, _, _, Try.runUnderlying44, rfl, rfl, Try.sizeOf3, rfl⟩) rfl <| oV (V_load rfl foc1 rfl Try.isAgg3) rfl <| oP (P_eql rfl rfl) rfl <| nT ?_
   first | (refine CJ_condD rfl (fun hg2 => ?_) (fun hg2 => ?_)) | (refine CJ_condN rfl (fun hg2 => ?_) (fun hg2 => ?_)) | (refine CJ_cond rfl (fun hg2 => ?_) (fun hg2 => ?_))
   ·
    refine CJ_seq <| CJ_seq ?_
    have hk3 : t.Kind = 3 := by assumption
    refine CJ_region <| oM rfl rfl <| oP (P_nilCheck rfl) rfl <| oP (P_fieldAddr rfl ⟨_, _, _, Try.runUnderlying75, rfl, rfl, Try.sizeOf34, rfl⟩) rfl <| oV (VJ_ent (Ent.trans (t4_ eR) (MapR_dev (Md.dev_is hd2).1)) (V_load rfl foc0 rfl Try.isAgg34)) rfl <| oO <| O_call (L_table_Uses (rdLive (Md.dev_is hd2).1) (uses_eq (by first | assumption | omega))) rfl Try.call27 (Dels.cons del4 Dels.nil) rfl fun _ hc4 => oV (V_len rfl foc1 (Reads.sl _ _ _) Try.runUnderlying45) rfl <| oM rfl rfl <| nT <| CJ_block <| CJ_loopR (X := Nat) [7, 10, 11, 39, 40, 41, 42, 43, 44, 45, 46, 47, 48, 49] (fun i  => ([(39, .int .i64 (i : Nat))] : Slots)) (fun i R => R) (fun i  => i ≤ (tuses (m.at k1).live).length ∧ ∀ j, j < i → m.wayN r2 ((tuses (m.at k1).live).getD j ByteArray.empty) { t with At := a } = none) (fun i  => (tuses (m.at k1).live).length - i) (0) ?_ ?_ (t0_ (t0_ (t0_ (t0_ (t0_ (t0_ eR)))))) ?_
    · exact ⟨Nat.zero_le _, fun j h => by omega⟩
    · exact ⟨rfl, True.intro⟩
    ·
     intro i hpf
     obtain ⟨hi, hno⟩ := hpf
     show CJ _ _ _ _ _ (([(39, .int .i64 (i : Nat))] : Slots) ++ forget _ _) (_)
     refine sR <| oP (P_lss rfl rfl) rfl <| nT <| CJ_seq ?_
     first | (refine CJ_condD rfl (fun hg3 => ?_) (fun hg3 => ?_)) | (refine CJ_condN rfl (fun hg3 => ?_) (fun hg3 => ?_)) | (refine CJ_cond rfl (fun hg3 => ?_) (fun hg3 => ?_))
     ·
      refine kT <| CJ_seq <| CJ_block <| sR ?_
      first | (refine RJ_op rfl (OJ_V (V_index rfl rfl rfl (by omega) foc1 (Reads.sl _ _ _) Try.runUnderlying45 Try.sizeOf9) rfl ?_)) | (refine RJ_op rfl (OJ_V (V_index rfl rfl (Int.toNat_of_nonneg (by omega)).symm (by omega) foc1 (Reads.sl _ _ _) Try.runUnderlying45 Try.sizeOf9) rfl ?_))
      refine oV (V_loadE rfl rfl (by omega) foc1 (Reads.sl _ _ _) rfl rfl Try.isAgg9) rfl <| oA rfl rfl <| nT <| sR <| oV (V_load rfl foc4 rfl Try.isAgg122) rfl <| oM rfl rfl <| oO <| O_callV rfl rfl ((ih r2 rfl ((tuses (m.at k1).live).getD i ByteArray.empty) 0 (rank_use hrk hdk.1 hkr (uses_tbl (by omega))))) Try.call59 (Dels.cons del2 (Dels.cons del2 (Dels.cons del2 (Dels.cons del2 (Dels.cons del0 Dels.nil))))) rfl fun _ hc5 => oA rfl rfl <| nT <| sR <| oM rfl rfl <| oP (P_neqO rfl rfl Try.underlying72) rfl <| nT ?_
      first | (refine CJ_condD rfl (fun hg4 => ?_) (fun hg4 => ?_)) | (refine CJ_condN rfl (fun hg4 => ?_) (fun hg4 => ?_)) | (refine CJ_cond rfl (fun hg4 => ?_) (fun hg4 => ?_))
      ·
       refine CJ_seq ?_
       have hyi : i < (tuses (m.at k1).live).length := by omega
       have hsome : (m.wayN r2 ((tuses (m.at k1).live).getD i ByteArray.empty) { t with At := a }).isSome = true := by
         rw [Md.wayN_at hk3, ← Md.wayN_at (a := 0) hk3]; assumption
       refine CJ_region <| oM rfl rfl <| oA rfl rfl <| nT <| CJ_ret <| QJ_block_ret <| QJ_then_ret <| QJ_round_ret <| QJ_block_ret <| QJ_then_ret <| QJ_then_ret <| QJ_end (res1 Try.results59 rfl) <| CSpec.close () ?_ ?_ (t0_ (t0_ (t0_ (t0_ (t0_ (eD eR))))))
       ·
        refine congrArg (pdv c) ?_
        rw [Md.wayN_dev hdk.2, Md.way_flush (t := { t with At := a }) hdk.1.2.2 hsf hk3, fs_some hyi hno hsome]
        exact (Md.wayN_at hk3).trans (Md.wayN_at hk3).symm
       · trivial
      ·
       refine CJ_skip <| QJ_block_normal <| QJ_then <| CJ_region <| oP (P_add rfl rfl (by omega)) rfl <| oM rfl rfl <| RJ_nil <| QJ_nextR (i + 1) (by first | omega | (simp only []; omega)) ?_ (by repeat (first | exact Kp.base | exact Kp.self | refine Kp.cons rfl ?_ | refine Kp.forget rfl ?_)) ?_ (t4_ (t4_ (t0_ (t0_ (t0_ (t0_ eR))))))
       ·
        refine ⟨by omega, fun j hj => ?_⟩
        rcases Nat.lt_or_ge j i with h | h
        · exact hno j h
        · obtain rfl : j = i := by omega
          have h9 : (m.wayN r2 ((tuses (m.at k1).live).getD j ByteArray.empty) { t with At := 0 }).isSome = false := by simp_all
          rw [Md.wayN_at hk3] at h9 ⊢
          simpa using h9
       · exact ⟨rfl, True.intro⟩
     ·
      refine CJ_exit <| QJ_then_exit <| QJ_round_exit <| QJ_block_here <| QJ_then <| sR <| oA rfl rfl <| nT <| CJ_ret <| QJ_then_ret <| QJ_end (res1 Try.results59 rfl) <| CSpec.close () ?_ ?_ (t2_ (t2_ (t2_ (t2_ (t0_ (eD eR))))))
      ·
       refine congrArg (pdv c) (?_ : none = _)
       obtain rfl : i = (tuses (m.at k1).live).length := by omega
       rw [Md.wayN_dev hdk.2, Md.way_flush (t := { t with At := a }) hdk.1.2.2 hsf hk3, fs_none hno]
      · trivial
   ·
    refine kT <| CJ_seq ?_
    have hk3 : t.Kind ≠ 3 := by assumption
    refine CJ_region <| oM rfl rfl <| oP (P_nilCheck rfl) rfl <| oP (P_fieldAddr rfl ⟨_, _, _, Try.runUnderlying75, rfl, rfl, Try.sizeOf34, rfl⟩) rfl <| oV (VJ_ent (Ent.trans (t4_ eR) (MapR_dev (Md.dev_is hd2).1)) (V_load rfl foc0 rfl Try.isAgg34)) rfl <| oM rfl rfl <| oO <| O_call (L_table_Find (rdLive (Md.dev_is hd2).1) find_eq) rfl Try.call60 (Dels.cons del4 Dels.nil) rfl fun _ hc6 => oM rfl rfl <| oP (P_extract rfl rfl) rfl <| oP (P_extract rfl rfl) rfl <| oP (P_extract rfl rfl) rfl <| oA rfl rfl <| oA rfl rfl <| oA rfl rfl <| nT <| CJ_seq <| sR <| oM rfl rfl <| oP (P_not rfl) rfl <| oM rfl rfl ?_
    first | (refine RJ_splitD 62 rfl (fun hg5B hg5 => ?_) (fun hg5B hg5 => ?_)) | (refine RJ_splitN 62 rfl (fun hg5B hg5 => ?_) (fun hg5B hg5 => ?_)) | (refine RJ_split 62 rfl (fun hg5B => ?_) (fun hg5B => ?_))
    ·
     refine RJ_gn (GY_no rfl rfl rfl hg5B) rfl rfl <| RJ_gn (GY_no rfl rfl rfl hg5B) rfl rfl <| RJ_gn (GY_no rfl rfl rfl hg5B) rfl rfl <| RJ_gn (GY_no rfl rfl rfl hg5B) rfl rfl <| RJ_gn (GY_no rfl rfl rfl hg5B) rfl rfl <| RJ_gn (GY_no rfl rfl rfl hg5B) rfl rfl <| RJ_gn (GY_no rfl rfl rfl hg5B) rfl rfl <| RJ_gn (GY_no rfl rfl rfl hg5B) rfl rfl <| RJ_gn (GY_no rfl rfl rfl hg5B) rfl rfl <| oP (P_pickT rfl hg5B rfl) rfl <| nT <| CJ_condT rfl rfl <| sR <| oA rfl rfl <| nT <| CJ_ret <| QJ_then_ret <| QJ_end (res1 Try.results59 rfl) <| CSpec.close () ?_ ?_ (t1_ (t1_ (t1_ (t1_ (t0_ eR)))))
     ·
      refine congrArg (pdv c) (?_ : none = _)
      rw [Md.wayN_dev hdk.2]
      exact (Md.way_out (t := { t with At := a }) hdk.1.2.2 hsf hk3 (Md.tfind_no (by simpa using hg5B))).symm
     · trivial
    ·
     obtain ⟨i, o, hf, hi, ho1, ho2⟩ := tfind_okN (hg5B) (hO.chk _).1
     have hfb := find_bound (hO.chk _).1 (getD_mem tgt0 hi)
     refine gP (GY_yes rfl rfl rfl hg5B) (P_move rfl) rfl <| gP (GY_yes rfl rfl rfl hg5B) (P_nilCheck rfl) rfl <| gP (GY_yes rfl rfl rfl hg5B) (P_fieldAddr rfl ⟨_, _, _, Try.runUnderlying75, rfl, rfl, Try.sizeOf34, rfl⟩) rfl <| gV (GY_yes rfl rfl rfl hg5B) (VJ_ent (Ent.trans (t0_ eR) (MapR_dev (Md.dev_is hd2).1)) (V_load rfl foc0 rfl Try.isAgg34)) rfl <| gP (GY_yes rfl rfl rfl hg5B) (P_move rfl) rfl <| gV (GY_yes rfl rfl rfl hg5B) (V_index rfl rfl (by rw [hf]; rfl) (by exact hi) foc0 (rdLive (Md.dev_is hd2).1) Try.runUnderlying34 Try.sizeOf33) rfl <| gP (GY_yes rfl rfl rfl hg5B) (P_fieldE rfl ⟨_, _, _, Try.runUnderlying33, rfl, rfl, Try.sizeOf9, rfl⟩) rfl <| gV (GY_yes rfl rfl rfl hg5B) (V_loadE rfl rfl (by omega) foc0 (rdLive (Md.dev_is hd2).1) rfl rfl Try.isAgg9) rfl <| gP (GY_yes rfl rfl rfl hg5B) (P_eqlStr rfl rfl Try.underlying9) rfl <| oP (P_pickF rfl hg5B rfl) rfl <| nT ?_
     first | (refine CJ_condD rfl (fun hg6 => ?_) (fun hg6 => ?_)) | (refine CJ_condN rfl (fun hg6 => ?_) (fun hg6 => ?_)) | (refine CJ_cond rfl (fun hg6 => ?_) (fun hg6 => ?_))
     ·
      refine sR <| oA rfl rfl <| nT <| CJ_ret <| QJ_then_ret <| QJ_end (res1 Try.results59 rfl) <| CSpec.close () ?_ ?_ (t1_ (t1_ (t1_ (t1_ (t0_ eR)))))
      ·
       refine congrArg (pdv c) (?_ : none = _)
       rw [Md.wayN_dev hdk.2, Md.way_in (t := { t with At := a }) hdk.1.2.2 hsf hk3 hf, if_pos (by assumption)]
      · trivial
     ·
      refine kT <| CJ_seq <| AJ_startH 524288 (by kernel_rfl) rfl <| aV 0 1 rfl rfl (GY_none rfl) (t0_ (t0_ (t0_ (t0_ (t0_ eR))))) (V_load rfl foc3 rfl Try.isAgg122) rfl <| aN 1 3 rfl rfl (P_move rfl) rfl <| aN 2 7 rfl rfl (P_nilCheck rfl) rfl <| aN 3 15 rfl rfl (P_fieldAddr rfl ⟨_, _, _, Try.runUnderlying75, rfl, rfl, Try.sizeOf34, rfl⟩) rfl <| aV 4 31 rfl rfl (GY_none rfl) (t0_ (t0_ (t0_ (t0_ (t0_ eR))))) (VJ_ent (Ent.trans (t0_ eR) (MapR_dev (Md.dev_is hd2).1)) (V_load rfl foc0 rfl Try.isAgg34)) rfl <| aN 5 63 rfl rfl (P_move rfl) rfl <| aV 6 127 rfl rfl (GY_none rfl) (t0_ (t0_ (t0_ (t0_ (t0_ eR))))) (V_index rfl rfl (by rw [hf]; rfl) (by exact hi) foc0 (rdLive (Md.dev_is hd2).1) Try.runUnderlying34 Try.sizeOf33) rfl <| aN 7 255 rfl rfl (P_fieldE rfl ⟨_, _, _, Try.runUnderlying33, rfl, rfl, Try.sizeOf9, rfl⟩) rfl <| aV 8 511 rfl rfl (GY_none rfl) (t0_ (t0_ (t0_ (t0_ (t0_ eR))))) (V_loadE rfl rfl (by omega) foc0 (rdLive (Md.dev_is hd2).1) rfl rfl Try.isAgg9) rfl <| aN 9 1023 rfl rfl (P_move rfl) rfl <| aN 10 2047 rfl rfl (P_nilCheck rfl) rfl <| aN 11 4095 rfl rfl (P_fieldAddr rfl ⟨_, _, _, Try.runUnderlying75, rfl, rfl, Try.sizeOf34, rfl⟩) rfl ?_
      refine aV 12 8191 rfl rfl (GY_none rfl) (t0_ (t0_ (t0_ (t0_ (t0_ eR))))) (VJ_ent (Ent.trans (t0_ eR) (MapR_dev (Md.dev_is hd2).1)) (V_load rfl foc0 rfl Try.isAgg34)) rfl <| aN 13 16383 rfl rfl (P_move rfl) rfl <| aV 14 32767 rfl rfl (GY_none rfl) (t0_ (t0_ (t0_ (t0_ (t0_ eR))))) (V_index rfl rfl (by rw [hf]; rfl) (by exact hi) foc0 (rdLive (Md.dev_is hd2).1) Try.runUnderlying34 Try.sizeOf33) rfl <| aN 15 65535 rfl rfl (P_fieldE rfl ⟨_, _, _, Try.runUnderlying33, rfl, rfl, Try.sizeOf3, rfl⟩) rfl <| aV 16 131071 rfl rfl (GY_none rfl) (t0_ (t0_ (t0_ (t0_ (t0_ eR))))) (V_loadE rfl rfl (by omega) foc0 (rdLive (Md.dev_is hd2).1) rfl rfl Try.isAgg3) rfl <| aN 17 262143 rfl rfl (P_move rfl) rfl <| aN 18 524287 rfl rfl (P_add rfl rfl (by rw [hf]; show -9223372036854775808 ≤ ((m.at _).live.getD i tgt0).Offset + o ∧ ((m.at _).live.getD i tgt0).Offset + o ≤ 9223372036854775807; omega)) rfl <| AJ_op 19 1048575 rfl (by kernel_rfl) rfl (GY_none rfl) <| O_callV rfl rfl ((ih r2 rfl _ _ (rank_use hrk hdk.1 hkr ⟨_, List.mem_append.2 (.inl (getD_mem tgt0 hi)), rfl⟩))) Try.call59 (Dels.cons del1 (Dels.cons del1 (Dels.cons del1 (Dels.cons del1 (Dels.cons del0 Dels.nil))))) rfl fun _ hc7 => ⟨fun h => absurd h (by decide), ?_⟩
      refine aN 20 2097151 rfl rfl (P_assign rfl) rfl <| aD <| CJ_ret <| QJ_end (res1 Try.results59 rfl) <| CSpec.close () ?_ ?_ (t0_ (t0_ (t0_ (t0_ (t0_ eR)))))
      ·
       refine congrArg (pdv c) ?_
       rw [Md.wayN_dev hdk.2, Md.way_in (t := { t with At := a }) hdk.1.2.2 hsf hk3 hf, if_neg (by assumption)]
       rw [hf]; rfl
      · trivial
end Go.Proofs
namespace Go.Proofs
namespace Md
def carryN (m : Md) (f : Nat) (n : ByteArray) (t : api_Task) : (UInt64 × Int) × Md := match m.find n with
  | none => ((0, 1), m)
  | some j => m.carry f j t
section
variable {m : Md} {n : ByteArray} {t : api_Task} {k r : Nat}
theorem carryN_dev (h : m.find n = some k) : m.carryN r n t = m.carry r k t := by unfold carryN; rw [h]
theorem carry_baseR (hb : (m.at k).isB = true) (h3 : t.Kind ≠ 3) (h2 : t.Kind ≠ 2) : m.carry (r + 1) k t = ((if 0 ≤ t.At ∧ t.At < ((m.at k).base.length : Int) then (m.at k).base.getD t.At.toNat 0 else 0, if 0 ≤ t.At ∧ t.At < ((m.at k).base.length : Int) then 0 else 1), m) := by
  unfold carry
  rw [if_neg h3]
  have hs : m.size k = ((m.at k).base.length : Int) := by unfold Md.size; rw [if_pos hb]
  rw [hs]
  by_cases h : 0 ≤ t.At ∧ t.At < ((m.at k).base.length : Int)
  · rw [if_neg (by omega), if_pos hb, if_neg h2, if_pos h, if_pos h]
  · rw [if_pos (by omega), if_neg h, if_neg h]
theorem carry_baseW (hb : (m.at k).isB = true) (h2 : t.Kind = 2) : m.carry (r + 1) k t = if 0 ≤ t.At ∧ t.At < ((m.at k).base.length : Int) then ((0, 0), { m.set k { m.at k with base := (m.at k).base.set t.At.toNat t.Value } with wr := m.wr + 1 }) else ((0, 1), m) := by
  unfold carry
  rw [if_neg (by omega)]
  have hs : m.size k = ((m.at k).base.length : Int) := by unfold Md.size; rw [if_pos hb]
  rw [hs]
  by_cases h : 0 ≤ t.At ∧ t.At < ((m.at k).base.length : Int)
  · rw [if_neg (by omega), if_pos hb, if_pos h2, if_pos h]
  · rw [if_pos (by omega), if_neg h]
theorem carry_dev (hc : chk (m.at k).live = 0) (hb : (m.at k).isB = false) (h3 : t.Kind ≠ 3) : m.carry (r + 1) k t = match tfind (m.at k).live t.At with
    | none => ((0, 1), m)
    | some (i, o) =>
      if ((m.at k).live.getD i tgt0).Fail then ((0, 7), m)
      else if ((m.at k).live.getD i tgt0).On = noN then ((0, if t.Kind = 2 then 22 else 0), m)
      else m.carryN r ((m.at k).live.getD i tgt0).On { t with At := ((m.at k).live.getD i tgt0).Offset + o } := by
  have hs : m.size k = tsum (m.at k).live := by unfold Md.size tsize; rw [if_neg (by simp [hb]), if_pos hc]
  rw [carry, if_neg h3, hs]
  by_cases ha : 0 ≤ t.At
  · rcases tfind_spec hc ha with ⟨g1, g2⟩ | ⟨q, g1, g2, g3, g4, g5⟩
    · rw [if_pos (.inr g1), g2]
    · rw [if_neg (by omega), if_neg (by simp [hb]), g5]; rfl
  · have : tfind (m.at k).live t.At = none := by unfold tfind; rw [if_pos (.inr (by omega))]
    rw [if_pos (.inl (by omega)), this]
structure Kept (m m' : Md) : Prop where
  like : Like m m'
  wait : ∀ i, (m'.at i).wait = (m.at i).wait
  tks : m'.tks = m.tks
  told : m'.told = m.told
  cl : m'.cl = m.cl
  wr1 : m.wr ≤ m'.wr
  wr : m'.wr ≤ m.wr + 1
theorem Kept.refl : Kept m m := ⟨.refl, fun _ => rfl, rfl, rfl, rfl, Nat.le_refl _, Nat.le_succ _⟩
theorem carry_kept : ∀ (r k : Nat) (t : api_Task), Kept m (m.carry r k t).2
  | 0, _, _ => .refl
  | r + 1, k, t => by
    unfold carry
    split
    · exact .refl
    · split
      · exact .refl
      · split
        · split
          · refine ⟨⟨by show (m.dv.set k _).length = _; simp, fun i => ?_⟩, fun i => ?_, rfl, rfl, rfl, Nat.le_succ _, Nat.le_refl _⟩
            · exact (Like.set (m := m) (k := k) (d' := { m.at k with base := (m.at k).base.set t.At.toNat t.Value }) ⟨rfl, rfl, rfl, rfl, rfl, rfl, rfl, rfl⟩).at_ i
            · show ((m.set k { m.at k with base := (m.at k).base.set t.At.toNat t.Value }).at i).wait = _
              by_cases hk : k < m.dv.length
              · rw [at_set hk]; split
                · rename_i e; rw [e]
                · rfl
              · have : (m.set k { m.at k with base := (m.at k).base.set t.At.toNat t.Value }).at i = m.at i := by
                  show (m.dv.set k _).getD i Dv.z = _
                  rw [List.set_eq_of_length_le (by omega)]; rfl
                rw [this]
          · exact .refl
        · split
          · exact .refl
          · dsimp only
            split
            · exact .refl
            · split
              · exact .refl
              · split
                · exact .refl
                · exact carry_kept r _ _
end
end Md
end Go.Proofs
set_option linter.unusedSimpArgs false
set_option maxRecDepth 20000
namespace Go.Proofs
open Go.VG
theorem OJ_insert {P : Program} {n : Env} {W : World} {s : Slots} {H : List HP} {K : Slots → List HP → Prop} {T : TypeId} {x y u : Operand} {ty : TypeId} {pos : String} {after : Array Edge} {g : Option (Nat × Bool)} (h : OJ P n W ⟨none, .mapUpdate T x y u, ty, pos, after, g⟩ s H K) : OJ P n W ⟨none, .insert T x y u, ty, pos, after, g⟩ s H K := by
  intro a w hf hs next Q hn
  obtain ⟨h1, _⟩ := h a w hf hs next Q hn
  refine ⟨?_, fun c e => by cases e⟩
  unfold Oper.wp at h1 ⊢
  exact h1
theorem c_way {W : World} {b q1 q2 q3 : Nat} {c : MH} {m : Md} {t : api_Task} {rk : Nat → Nat} (hrk : m.Rank rk) : ∀ (r : Nat) (nm : ByteArray) (a : Int), (∀ j, m.find nm = some j → rk j < r) → CSpec Try.prog W 59 [.string nm, .int .i64 a, ptr q1 0, ptr q2 0, ptr q3 0] [blk q1 25 [ptr b 0], blk q2 44 [.int .i64 t.Kind, .int .i64 t.At, .int .u64 (t.Value.toNat : Int)], blk q3 122 [.func (.func 59) #[] #[ptr q1 0, ptr q2 0, ptr q3 0]], blk b 79 (mCells c m), MapR c m] (fun _ : Unit => pdv c (m.wayN r nm { t with At := a })) (fun _ => True) (fun _ F => blk q1 25 [ptr b 0] :: blk q2 44 [.int .i64 t.Kind, .int .i64 t.At, .int .u64 (t.Value.toNat : Int)] :: blk q3 122 [.func (.func 59) #[] #[ptr q1 0, ptr q2 0, ptr q3 0]] :: blk b 79 (mCells c m) :: MapR c m :: F)
  | 0, _, _, hn => c_way_step hrk (fun r2 h => by omega) hn
  | r + 1, _, _, hn => c_way_step hrk (fun r2 h => by obtain rfl : r2 = r := (by omega); exact c_way hrk r2) hn
theorem wayk_of {c : MH} {m : Md} {k : Nat} {t : api_Task} (hO : MdOk m) (hk : m.isD k) : pdv c (m.wayN (m.dv.length + 1) (m.at k).name { t with At := t.At }) = pdv c (m.wayk k t) := by
  rw [Md.wayN_dev (Md.at_find hO hk.1 hk.2.1)]; rfl
theorem wrB_cells {c : MH} {m m' : Md} {k : Nat} {a : Int} {v : UInt64} (h : m'.tks = m.tks) : mCells (c.wrB m k a v) m' = mCells c m := by
  unfold MH.wrB mCells; rw [h]; split <;> rfl
theorem wrB_bs {c : MH} {m : Md} {k : Nat} {a : Int} {v : UInt64} (hW : MapWF c m) (hk : m.isBs k) : (c.wrB m k a v).bs = c.bs := by
  unfold MH.wrB
  split
  · exact bs_set (hW.at hk.1).1 rfl rfl
  · rfl
theorem flB_bs {c : MH} {m : Md} {k : Nat} (hW : MapWF c m) (hk : m.isBs k) : (c.flB m k).bs = c.bs := bs_set (hW.at hk.1).1 rfl rfl
theorem wrB_carry {m : Md} {k r : Nat} {n : ByteArray} {t : api_Task} (h : m.find n = some k) (hb : (m.at k).isB = true) (h2 : t.Kind = 2) : m.wrB k t.At t.Value = (m.carryN (r + 1) n t).2 ∧ (m.carryN (r + 1) n t).1 = ((0, if 0 ≤ t.At ∧ t.At < ((m.at k).base.length : Int) then 0 else 1) : UInt64 × Int) := by
  rw [Md.carryN_dev h, Md.carry_baseW hb h2]; unfold Md.wrB
  split <;> exact ⟨rfl, rfl⟩
theorem bas_find {m : Md} {n : ByteArray} (h1 : m.bas n = none) (h2 : m.dev n = none) (h : (m.find n).isSome = true) : False := by
  rw [bas_none h1, h2] at h; cases h
theorem carry_v0 {m : Md} : ∀ (r k : Nat) (t : api_Task), (m.carry r k t).1.2 ≠ 0 → (m.carry r k t).1.1 = 0
  | 0, _, _ => fun h => absurd rfl h
  | r + 1, k, t => by
    unfold Md.carry
    split
    · exact fun _ => rfl
    · split
      · exact fun _ => rfl
      · split
        · split
          · exact fun _ => rfl
          · exact fun h => absurd rfl h
        · split
          · exact fun _ => rfl
          · dsimp only
            split
            · exact fun _ => rfl
            · split
              · exact fun _ => rfl
              · split
                · exact fun _ => rfl
                · exact carry_v0 r _ _
theorem c_stop {W : World} {b : Nat} {c : MH} {m : Md} {k : Nat} {t : api_Task} (hk : m.isD k) :
    CSpec Try.prog W 34 [ptr b 0, ptr (c.bs k) 0, .agg #[.int .i64 t.Kind, .int .i64 t.At, .int .u64 (t.Value.toNat : Int)]] [blk b 79 (mCells c m), MapR c m] (fun _ : Unit => pdv c (m.wayk k t)) (fun _ => True) (fun _ F => blk b 79 (mCells c m) :: MapR c m :: F) := by
 refine CSpec.of_body Try.func34 rfl Try.ntmps34 rfl fun F => ?_
 show CJ _ _ _ _ _ _ (_ :: _ :: F)
 refine CJ_pure (MapR_wf foc1) fun hW => ?_
 have hO := hW.ok
 have hbwr := hW.big.wr
 obtain ⟨rk, hrk, hrb⟩ := Md.rank_bd hO.acy
 refine sR <| oO <| O_box rfl rfl rfl fun b1 => oO <| O_box rfl rfl rfl fun b2 => oA rfl rfl <| nT <| sR <| oO <| O_alloc Try.zeroValue122 rfl rfl fun b3 => nT <| sR <| oP (P_makeFunc rfl rfl) rfl <| oO <| O_store rfl rfl foc0 rfl rfl Try.sizeOf122 <| nT <| CJ_seq <| AJ_startH 128 (by kernel_rfl) rfl <| aV 0 1 rfl rfl (GY_none rfl) (t0_ (t0_ (t0_ (t0_ (t0_ eR))))) (V_load rfl foc0 rfl Try.isAgg122) rfl <| aN 1 3 rfl rfl (P_move rfl) rfl <| aN 2 7 rfl rfl (P_nilCheck rfl) rfl <| aN 3 15 rfl rfl (P_fieldAddr rfl ⟨_, _, _, Try.runUnderlying75, rfl, rfl, Try.sizeOf9, rfl⟩) rfl <| aV 4 31 rfl rfl (GY_none rfl) (t0_ (t0_ (t0_ (t0_ (t0_ eR))))) (VJ_ent (Ent.trans (t4_ eR) (MapR_dev hk)) (V_load rfl foc0 rfl Try.isAgg9)) rfl <| aN 5 63 rfl rfl (P_fieldAddr rfl ⟨_, _, _, Try.runUnderlying44, rfl, rfl, Try.sizeOf3, rfl⟩) rfl <| aV 6 127 rfl rfl (GY_none rfl) (t0_ (t0_ (t0_ (t0_ (t0_ eR))))) (V_load rfl foc1 rfl Try.isAgg3) rfl <| AJ_op 7 255 rfl (by kernel_rfl) rfl (GY_none rfl) <| O_callV rfl rfl ((c_way (t := t) hrk (m.dv.length + 1) _ _ (fun j _ => Nat.lt_succ_of_le (hrb j)))) Try.call59 (Dels.cons del2 (Dels.cons del1 (Dels.cons del0 (Dels.cons del0 (Dels.cons del0 Dels.nil))))) rfl fun _ hc4 => ⟨fun h => absurd h (by decide), ?_⟩
 refine aN 8 511 rfl rfl (P_assign rfl) rfl <| aD <| CJ_ret <| QJ_end (res1 Try.results34 rfl) <| CSpec.close () ?_ ?_ (t3_ (t3_ (eD (eD (eD eR)))))
 · exact wayk_of hO hk
 · trivial
theorem c_access_step {W : World} {b : Nat} {c : MH} {m : Md} {rk : Nat → Nat} {r : Nat} {nm : ByteArray} {t : api_Task} (hrk : m.Rank rk) (hwr : m.wr < 100000000) (ih : ∀ r2, r2 + 1 = r → ∀ {nm : ByteArray} {t : api_Task}, (-9223372036854775808 ≤ t.At ∧ t.At ≤ 9223372036854775807) → t.Kind ≠ 3 → (m.find nm).isSome = true → (∀ j, m.find nm = some j → rk j < r2) → CSpec Try.prog W 63 [ptr b 0, .string nm, .agg #[.int .i64 t.Kind, .int .i64 t.At, .int .u64 (t.Value.toNat : Int)]] [blk b 79 (mCells c m), MapR c m] (fun _ : MH => .tuple #[.int .u64 ((m.carryN r2 nm t).1.1.toNat : Int), .int .i64 (m.carryN r2 nm t).1.2]) (fun c2 => mCells c2 (m.carryN r2 nm t).2 = mCells c m ∧ c2.bs = c.bs) (fun c2 F => blk b 79 (mCells c m) :: MapR c2 (m.carryN r2 nm t).2 :: F)) (hb : -9223372036854775808 ≤ t.At ∧ t.At ≤ 9223372036854775807) (h3 : t.Kind ≠ 3) (hs : (m.find nm).isSome = true) (hn : ∀ j, m.find nm = some j → rk j < r) :
    CSpec Try.prog W 63 [ptr b 0, .string nm, .agg #[.int .i64 t.Kind, .int .i64 t.At, .int .u64 (t.Value.toNat : Int)]] [blk b 79 (mCells c m), MapR c m] (fun _ : MH => .tuple #[.int .u64 ((m.carryN r nm t).1.1.toNat : Int), .int .i64 (m.carryN r nm t).1.2]) (fun c2 => mCells c2 (m.carryN r nm t).2 = mCells c m ∧ c2.bs = c.bs) (fun c2 F => blk b 79 (mCells c m) :: MapR c2 (m.carryN r nm t).2 :: F) := by
 refine CSpec.of_body Try.func63 rfl Try.ntmps63 rfl fun F => ?_
 show CJ _ _ _ _ _ _ (_ :: _ :: F)
 refine CJ_pure (MapR_wf foc1) fun hW => ?_
 have hO := hW.ok
 have hbwr := hW.big.wr
 refine sR <| oO <| O_box rfl rfl rfl fun b1 => oA rfl rfl <| oA rfl rfl <| nT <| CJ_seq <| sR <| oM rfl rfl <| oP (P_nilCheck rfl) rfl <| oP (P_fieldAddr rfl ⟨_, _, _, Try.runUnderlying79, rfl, rfl, Try.sizeOf76, rfl⟩) rfl <| oV (V_load rfl foc1 rfl Try.isAgg76) rfl <| oM rfl rfl <| oO (O_lookB rfl rfl foc2 rfl (fun hd3 => ?_) (fun k2 hd3 => ?_))
 ·
  refine oM rfl rfl <| oP (P_extract rfl rfl) rfl <| oP (P_extract rfl rfl) rfl <| oA rfl rfl <| oA rfl rfl <| nT <| sR <| oM rfl rfl <| nT <| CJ_condF rfl rfl <| kT <| sR <| oM rfl rfl <| oP (P_nilCheck rfl) rfl <| oP (P_fieldAddr rfl ⟨_, _, _, Try.runUnderlying79, rfl, rfl, Try.sizeOf77, rfl⟩) rfl <| oV (V_load rfl foc1 rfl Try.isAgg77) rfl <| oM rfl rfl <| oO (O_lookD rfl rfl foc2 rfl (fun hd5 => ?_) (fun k4 hd5 => ?_))
  ·
   exact (bas_find hd3 hd5 hs).elim
  ·
   refine oA rfl rfl <| nT <| CJ_seq ?_
   have hdk := Md.dev_is hd5
   have hkr := hn _ hdk.2
   obtain ⟨r2, rfl⟩ : ∃ r2, r = r2 + 1 := ⟨r - 1, by omega⟩
   have hch := hO.chk k4
   refine AJ_startH 64 (by kernel_rfl) rfl <| aN 0 1 rfl rfl (P_move rfl) rfl <| aN 1 3 rfl rfl (P_nilCheck rfl) rfl <| aN 2 7 rfl rfl (P_fieldAddr rfl ⟨_, _, _, Try.runUnderlying75, rfl, rfl, Try.sizeOf34, rfl⟩) rfl <| aV 3 15 rfl rfl (GY_none rfl) (t0_ (t0_ (t0_ eR))) (VJ_ent (Ent.trans (t2_ eR) (MapR_dev (Md.dev_is hd5).1)) (V_load rfl foc0 rfl Try.isAgg34)) rfl <| aN 4 31 rfl rfl (P_fieldAddr rfl ⟨_, _, _, Try.runUnderlying44, rfl, rfl, Try.sizeOf3, rfl⟩) rfl <| aV 5 63 rfl rfl (GY_none rfl) (t0_ (t0_ (t0_ eR))) (V_load rfl foc0 rfl Try.isAgg3) rfl <| AJ_op 6 127 rfl (by kernel_rfl) rfl (GY_none rfl) <| O_call (L_table_Find (rdLive (Md.dev_is hd5).1) find_eq) rfl Try.call60 (Dels.cons del2 Dels.nil) rfl fun _ hc6 => ⟨fun h => absurd h (by decide), ?_⟩
   refine aN 7 255 rfl rfl (P_move rfl) rfl <| aN 8 511 rfl rfl (P_extract rfl rfl) rfl <| aN 9 1023 rfl rfl (P_extract rfl rfl) rfl <| aN 10 2047 rfl rfl (P_extract rfl rfl) rfl <| aN 11 4095 rfl rfl (P_assign rfl) rfl <| aN 12 8191 rfl rfl (P_assign rfl) rfl <| aN 13 16383 rfl rfl (P_assign rfl) rfl <| aD <| CJ_seq <| CJ_block <| sR <| oM rfl rfl <| oP (P_not rfl) rfl <| oA rfl rfl <| nT ?_
   first | (refine CJ_condD rfl (fun hg1 => ?_) (fun hg1 => ?_)) | (refine CJ_condN rfl (fun hg1 => ?_) (fun hg1 => ?_)) | (refine CJ_cond rfl (fun hg1 => ?_) (fun hg1 => ?_))
   ·
    refine sR <| oA rfl rfl <| oA rfl rfl <| nT <| CJ_ret <| QJ_block_ret <| QJ_then_ret <| QJ_end (res2 Try.results63 rfl rfl) ?_
    have e9 : m.carryN (r2 + 1) nm t = ((0, 1), m) := by
      rw [Md.carryN_dev hdk.2, Md.carry_dev hch.1 hdk.1.2.2 h3, Md.tfind_no (by simp_all)]
    refine CSpec.close c ?_ ?_ (t2_ (Ent.takeC del0 (by rw [e9]) (eD eR)))
    · rw [e9]; rfl
    · rw [e9]; exact ⟨rfl, rfl⟩
   ·
    obtain ⟨i, o, hf, hi, ho1, ho2⟩ := tfind_okN hg1 hch.1
    have hfb := find_bound hch.1 (getD_mem tgt0 hi)
    refine sR <| oM rfl rfl <| oP (P_nilCheck rfl) rfl <| oP (P_fieldAddr rfl ⟨_, _, _, Try.runUnderlying75, rfl, rfl, Try.sizeOf34, rfl⟩) rfl <| oV (VJ_ent (Ent.trans (t0_ eR) (MapR_dev (Md.dev_is hd5).1)) (V_load rfl foc0 rfl Try.isAgg34)) rfl <| oM rfl rfl <| oV (V_index rfl rfl (by rw [hf]; rfl) (by exact hi) foc0 (rdLive (Md.dev_is hd5).1) Try.runUnderlying34 Try.sizeOf33) rfl <| oP (P_fieldE rfl ⟨_, _, _, Try.runUnderlying33, rfl, rfl, Try.sizeOf4, rfl⟩) rfl <| oV (V_loadE rfl rfl (by omega) foc0 (rdLive (Md.dev_is hd5).1) rfl rfl Try.isAgg4) rfl <| oA rfl rfl <| nT ?_
    first | (refine CJ_condD rfl (fun hg2 => ?_) (fun hg2 => ?_)) | (refine CJ_condN rfl (fun hg2 => ?_) (fun hg2 => ?_)) | (refine CJ_cond rfl (fun hg2 => ?_) (fun hg2 => ?_))
    ·
     refine sR <| oA rfl rfl <| oA rfl rfl <| nT <| CJ_ret <| QJ_block_ret <| QJ_then_ret <| QJ_end (res2 Try.results63 rfl rfl) ?_
     have e9 : m.carryN (r2 + 1) nm t = ((0, 7), m) := by
       rw [Md.carryN_dev hdk.2, Md.carry_dev hch.1 hdk.1.2.2 h3, hf]
       show (if _ then _ else _) = _
       rw [if_pos (by assumption)]
     refine CSpec.close c ?_ ?_ (t2_ (Ent.takeC del0 (by rw [e9]) (eD eR)))
     · rw [e9]; rfl
     · rw [e9]; exact ⟨rfl, rfl⟩
    ·
     refine sR <| oM rfl rfl <| oP (P_nilCheck rfl) rfl <| oP (P_fieldAddr rfl ⟨_, _, _, Try.runUnderlying75, rfl, rfl, Try.sizeOf34, rfl⟩) rfl <| oV (VJ_ent (Ent.trans (t0_ eR) (MapR_dev (Md.dev_is hd5).1)) (V_load rfl foc0 rfl Try.isAgg34)) rfl <| oM rfl rfl <| oV (V_index rfl rfl (by rw [hf]; rfl) (by exact hi) foc0 (rdLive (Md.dev_is hd5).1) Try.runUnderlying34 Try.sizeOf33) rfl <| oP (P_fieldE rfl ⟨_, _, _, Try.runUnderlying33, rfl, rfl, Try.sizeOf9, rfl⟩) rfl <| oV (V_loadE rfl rfl (by omega) foc0 (rdLive (Md.dev_is hd5).1) rfl rfl Try.isAgg9) rfl <| oP (P_eqlStr rfl rfl Try.underlying9) rfl <| oM rfl rfl ?_
     first | (refine RJ_splitD 78 rfl (fun hg3B hg3 => ?_) (fun hg3B hg3 => ?_)) | (refine RJ_splitN 78 rfl (fun hg3B hg3 => ?_) (fun hg3B hg3 => ?_)) | (refine RJ_split 78 rfl (fun hg3B => ?_) (fun hg3B => ?_))
     ·
      refine gP (GY_yes rfl rfl rfl hg3B) (P_fieldAddr rfl ⟨_, _, _, Try.runUnderlying44, rfl, rfl, Try.sizeOf3, rfl⟩) rfl <| gV (GY_yes rfl rfl rfl hg3B) (V_load rfl foc1 rfl Try.isAgg3) rfl <| gP (GY_yes rfl rfl rfl hg3B) (P_eql rfl rfl) rfl <| oP (P_pickT rfl hg3B rfl) rfl <| oA rfl rfl <| nT ?_
      first | (refine CJ_condD rfl (fun hg4 => ?_) (fun hg4 => ?_)) | (refine CJ_condN rfl (fun hg4 => ?_) (fun hg4 => ?_)) | (refine CJ_cond rfl (fun hg4 => ?_) (fun hg4 => ?_))
      ·
       refine sR <| oA rfl rfl <| oA rfl rfl <| nT <| CJ_ret <| QJ_block_ret <| QJ_then_ret <| QJ_end (res2 Try.results63 rfl rfl) ?_
       have e9 : m.carryN (r2 + 1) nm t = ((0, 22), m) := by
         rw [Md.carryN_dev hdk.2, Md.carry_dev hch.1 hdk.1.2.2 h3, hf]
         show (if _ then _ else if _ then _ else _) = _
         rw [if_neg (by simp_all), if_pos (by simp_all), if_pos (by simp_all)]
       refine CSpec.close c ?_ ?_ (t2_ (Ent.takeC del0 (by rw [e9]) (eD eR)))
       · rw [e9]; rfl
       · rw [e9]; exact ⟨rfl, rfl⟩
      ·
       refine sR <| oM rfl rfl <| oP (P_nilCheck rfl) rfl <| oP (P_fieldAddr rfl ⟨_, _, _, Try.runUnderlying75, rfl, rfl, Try.sizeOf34, rfl⟩) rfl <| oV (VJ_ent (Ent.trans (t0_ eR) (MapR_dev (Md.dev_is hd5).1)) (V_load rfl foc0 rfl Try.isAgg34)) rfl <| oM rfl rfl <| oV (V_index rfl rfl (by rw [hf]; rfl) (by exact hi) foc0 (rdLive (Md.dev_is hd5).1) Try.runUnderlying34 Try.sizeOf33) rfl <| oP (P_fieldE rfl ⟨_, _, _, Try.runUnderlying33, rfl, rfl, Try.sizeOf9, rfl⟩) rfl <| oV (V_loadE rfl rfl (by omega) foc0 (rdLive (Md.dev_is hd5).1) rfl rfl Try.isAgg9) rfl <| oP (P_eqlStr rfl rfl Try.underlying9) rfl <| oA rfl rfl <| nT ?_
       first | (refine CJ_condD rfl (fun hg5 => ?_) (fun hg5 => ?_)) | (refine CJ_condN rfl (fun hg5 => ?_) (fun hg5 => ?_)) | (refine CJ_cond rfl (fun hg5 => ?_) (fun hg5 => ?_))
       ·
        refine sR <| oA rfl rfl <| oA rfl rfl <| nT <| CJ_ret <| QJ_block_ret <| QJ_then_ret <| QJ_end (res2 Try.results63 rfl rfl) ?_
        have e9 : m.carryN (r2 + 1) nm t = ((0, 0), m) := by
          rw [Md.carryN_dev hdk.2, Md.carry_dev hch.1 hdk.1.2.2 h3, hf]
          show (if _ then _ else if _ then _ else _) = _
          rw [if_neg (by simp_all), if_pos (by simp_all), if_neg (by simp_all)]
        refine CSpec.close c ?_ ?_ (t2_ (Ent.takeC del0 (by rw [e9]) (eD eR)))
        · rw [e9]; rfl
        · rw [e9]; exact ⟨rfl, rfl⟩
       ·
        refine CJ_skip <| QJ_block_normal <| QJ_then <| CJ_seq ?_
        have hne : ((m.at k4).live.getD i tgt0).On ≠ noN := by simp_all
        have ha9 : -9223372036854775808 ≤ ((m.at k4).live.getD i tgt0).Offset + (tfindR (tfind (m.at k4).live t.At)).2.1 ∧ ((m.at k4).live.getD i tgt0).Offset + (tfindR (tfind (m.at k4).live t.At)).2.1 ≤ 9223372036854775807 := by rw [hf]; show -9223372036854775808 ≤ ((m.at k4).live.getD i tgt0).Offset + o ∧ ((m.at k4).live.getD i tgt0).Offset + o ≤ 9223372036854775807; omega
        refine CJ_region <| oM rfl rfl <| oP (P_nilCheck rfl) rfl <| oP (P_fieldAddr rfl ⟨_, _, _, Try.runUnderlying75, rfl, rfl, Try.sizeOf34, rfl⟩) rfl <| oV (VJ_ent (Ent.trans (t0_ eR) (MapR_dev (Md.dev_is hd5).1)) (V_load rfl foc0 rfl Try.isAgg34)) rfl <| oM rfl rfl <| oV (V_index rfl rfl (by rw [hf]; rfl) (by exact hi) foc0 (rdLive (Md.dev_is hd5).1) Try.runUnderlying34 Try.sizeOf33) rfl <| oP (P_fieldE rfl ⟨_, _, _, Try.runUnderlying33, rfl, rfl, Try.sizeOf3, rfl⟩) rfl <| oV (V_loadE rfl rfl (by omega) foc0 (rdLive (Md.dev_is hd5).1) rfl rfl Try.isAgg3) rfl <| oM rfl rfl <| oP (P_add rfl rfl (by exact ha9)) rfl <| oP (P_fieldAddr rfl ⟨_, _, _, Try.runUnderlying44, rfl, rfl, Try.sizeOf3, rfl⟩) rfl <| oO <| O_store rfl rfl foc1 rfl rfl Try.sizeOf3 <| nT <| CJ_seq <| AJ_startH 1024 (by kernel_rfl) rfl <| aN 0 1 rfl rfl (P_move rfl) rfl <| aN 1 3 rfl rfl (P_move rfl) rfl <| aN 2 7 rfl rfl (P_nilCheck rfl) rfl <| aN 3 15 rfl rfl (P_fieldAddr rfl ⟨_, _, _, Try.runUnderlying75, rfl, rfl, Try.sizeOf34, rfl⟩) rfl <| aV 4 31 rfl rfl (GY_none rfl) (t0_ (t0_ (t0_ eR))) (VJ_ent (Ent.trans (t0_ eR) (MapR_dev (Md.dev_is hd5).1)) (V_load rfl foc0 rfl Try.isAgg34)) rfl <| aN 5 63 rfl rfl (P_move rfl) rfl <| aV 6 127 rfl rfl (GY_none rfl) (t0_ (t0_ (t0_ eR))) (V_index rfl rfl (by rw [hf]; rfl) (by exact hi) foc0 (rdLive (Md.dev_is hd5).1) Try.runUnderlying34 Try.sizeOf33) rfl ?_
        refine aN 7 255 rfl rfl (P_fieldE rfl ⟨_, _, _, Try.runUnderlying33, rfl, rfl, Try.sizeOf9, rfl⟩) rfl <| aV 8 511 rfl rfl (GY_none rfl) (t0_ (t0_ (t0_ eR))) (V_loadE rfl rfl (by omega) foc0 (rdLive (Md.dev_is hd5).1) rfl rfl Try.isAgg9) rfl <| aV 9 1023 rfl rfl (GY_none rfl) (t0_ (t0_ (t0_ eR))) (V_loadN rfl foc1 Try.isAgg44 Try.sizeOf44 rfl rfl) rfl <| AJ_op 10 2047 rfl (by kernel_rfl) rfl (GY_none rfl) <| O_call ((ih r2 rfl (nm := ((m.at k4).live.getD i tgt0).On) (t := { t with At := ((m.at k4).live.getD i tgt0).Offset + (tfindR (tfind (m.at k4).live t.At)).2.1 }) ha9 h3 (hO.nam _ hdk.1.1 hdk.1.2.1 _ (List.mem_append.2 (.inl (getD_mem tgt0 hi))) hne) (rank_use hrk hdk.1 hkr ⟨_, List.mem_append.2 (.inl (getD_mem tgt0 hi)), rfl⟩))) rfl Try.call63 (Dels.cons del2 (Dels.cons del0 Dels.nil)) rfl fun c9 h9 => ⟨fun h => absurd h (by decide), ?_⟩
        refine aN 11 4095 rfl rfl (P_extract rfl rfl) rfl <| aN 12 8191 rfl rfl (P_extract rfl rfl) rfl <| aN 13 16383 rfl rfl (P_assign rfl) rfl <| aN 14 32767 rfl rfl (P_assign rfl) rfl <| aD <| CJ_ret <| QJ_end (res2 Try.results63 rfl rfl) ?_
        have e9 : m.carryN (r2 + 1) nm t = m.carryN r2 ((m.at k4).live.getD i tgt0).On { t with At := ((m.at k4).live.getD i tgt0).Offset + (tfindR (tfind (m.at k4).live t.At)).2.1 } := by
          rw [Md.carryN_dev hdk.2, Md.carry_dev hch.1 hdk.1.2.2 h3, hf]
          show (if _ then _ else if _ then _ else _) = _
          rw [if_neg (by simp_all), if_neg hne]; rfl
        refine CSpec.close c9 ?_ ?_ (t0_ (Ent.takeC del0 (by rw [e9]) (eD eR)))
        · rw [e9]; rfl
        · rw [e9]; exact h9
     ·
      refine RJ_gn (GY_no rfl rfl rfl hg3B) rfl rfl <| RJ_gn (GY_no rfl rfl rfl hg3B) rfl rfl <| RJ_gn (GY_no rfl rfl rfl hg3B) rfl rfl <| oP (P_pickF rfl hg3B rfl) rfl <| oA rfl rfl <| nT <| CJ_condF rfl rfl <| sR <| oM rfl rfl <| oP (P_nilCheck rfl) rfl <| oP (P_fieldAddr rfl ⟨_, _, _, Try.runUnderlying75, rfl, rfl, Try.sizeOf34, rfl⟩) rfl <| oV (VJ_ent (Ent.trans (t0_ eR) (MapR_dev (Md.dev_is hd5).1)) (V_load rfl foc0 rfl Try.isAgg34)) rfl <| oM rfl rfl <| oV (V_index rfl rfl (by rw [hf]; rfl) (by exact hi) foc0 (rdLive (Md.dev_is hd5).1) Try.runUnderlying34 Try.sizeOf33) rfl <| oP (P_fieldE rfl ⟨_, _, _, Try.runUnderlying33, rfl, rfl, Try.sizeOf9, rfl⟩) rfl <| oV (V_loadE rfl rfl (by omega) foc0 (rdLive (Md.dev_is hd5).1) rfl rfl Try.isAgg9) rfl <| oP (P_eqlStr rfl rfl Try.underlying9) rfl <| oA rfl rfl <| nT ?_
      first | (refine CJ_condD rfl (fun hg6 => ?_) (fun hg6 => ?_)) | (refine CJ_condN rfl (fun hg6 => ?_) (fun hg6 => ?_)) | (refine CJ_cond rfl (fun hg6 => ?_) (fun hg6 => ?_))
      ·
       refine sR <| oA rfl rfl <| oA rfl rfl <| nT <| CJ_ret <| QJ_block_ret <| QJ_then_ret <| QJ_end (res2 Try.results63 rfl rfl) ?_
       have e9 : m.carryN (r2 + 1) nm t = ((0, 0), m) := by
         rw [Md.carryN_dev hdk.2, Md.carry_dev hch.1 hdk.1.2.2 h3, hf]
         show (if _ then _ else if _ then _ else _) = _
         rw [if_neg (by simp_all), if_pos (by simp_all), if_neg (by simp_all)]
       refine CSpec.close c ?_ ?_ (t2_ (Ent.takeC del0 (by rw [e9]) (eD eR)))
       · rw [e9]; rfl
       · rw [e9]; exact ⟨rfl, rfl⟩
      ·
       refine CJ_skip <| QJ_block_normal <| QJ_then <| CJ_seq ?_
       have hne : ((m.at k4).live.getD i tgt0).On ≠ noN := by simp_all
       have ha9 : -9223372036854775808 ≤ ((m.at k4).live.getD i tgt0).Offset + (tfindR (tfind (m.at k4).live t.At)).2.1 ∧ ((m.at k4).live.getD i tgt0).Offset + (tfindR (tfind (m.at k4).live t.At)).2.1 ≤ 9223372036854775807 := by rw [hf]; show -9223372036854775808 ≤ ((m.at k4).live.getD i tgt0).Offset + o ∧ ((m.at k4).live.getD i tgt0).Offset + o ≤ 9223372036854775807; omega
       refine CJ_region <| oM rfl rfl <| oP (P_nilCheck rfl) rfl <| oP (P_fieldAddr rfl ⟨_, _, _, Try.runUnderlying75, rfl, rfl, Try.sizeOf34, rfl⟩) rfl <| oV (VJ_ent (Ent.trans (t0_ eR) (MapR_dev (Md.dev_is hd5).1)) (V_load rfl foc0 rfl Try.isAgg34)) rfl <| oM rfl rfl <| oV (V_index rfl rfl (by rw [hf]; rfl) (by exact hi) foc0 (rdLive (Md.dev_is hd5).1) Try.runUnderlying34 Try.sizeOf33) rfl <| oP (P_fieldE rfl ⟨_, _, _, Try.runUnderlying33, rfl, rfl, Try.sizeOf3, rfl⟩) rfl <| oV (V_loadE rfl rfl (by omega) foc0 (rdLive (Md.dev_is hd5).1) rfl rfl Try.isAgg3) rfl <| oM rfl rfl <| oP (P_add rfl rfl (by exact ha9)) rfl <| oP (P_fieldAddr rfl ⟨_, _, _, Try.runUnderlying44, rfl, rfl, Try.sizeOf3, rfl⟩) rfl <| oO <| O_store rfl rfl foc1 rfl rfl Try.sizeOf3 <| nT <| CJ_seq <| AJ_startH 1024 (by kernel_rfl) rfl <| aN 0 1 rfl rfl (P_move rfl) rfl <| aN 1 3 rfl rfl (P_move rfl) rfl <| aN 2 7 rfl rfl (P_nilCheck rfl) rfl <| aN 3 15 rfl rfl (P_fieldAddr rfl ⟨_, _, _, Try.runUnderlying75, rfl, rfl, Try.sizeOf34, rfl⟩) rfl <| aV 4 31 rfl rfl (GY_none rfl) (t0_ (t0_ (t0_ eR))) (VJ_ent (Ent.trans (t0_ eR) (MapR_dev (Md.dev_is hd5).1)) (V_load rfl foc0 rfl Try.isAgg34)) rfl <| aN 5 63 rfl rfl (P_move rfl) rfl <| aV 6 127 rfl rfl (GY_none rfl) (t0_ (t0_ (t0_ eR))) (V_index rfl rfl (by rw [hf]; rfl) (by exact hi) foc0 (rdLive (Md.dev_is hd5).1) Try.runUnderlying34 Try.sizeOf33) rfl ?_
       refine aN 7 255 rfl rfl (P_fieldE rfl ⟨_, _, _, Try.runUnderlying33, rfl, rfl, Try.sizeOf9, rfl⟩) rfl <| aV 8 511 rfl rfl (GY_none rfl) (t0_ (t0_ (t0_ eR))) (V_loadE rfl rfl (by omega) foc0 (rdLive (Md.dev_is hd5).1) rfl rfl Try.isAgg9) rfl <| aV 9 1023 rfl rfl (GY_none rfl) (t0_ (t0_ (t0_ eR))) (V_loadN rfl foc1 Try.isAgg44 Try.sizeOf44 rfl rfl) rfl <| AJ_op 10 2047 rfl (by kernel_rfl) rfl (GY_none rfl) <| O_call ((ih r2 rfl (nm := ((m.at k4).live.getD i tgt0).On) (t := { t with At := ((m.at k4).live.getD i tgt0).Offset + (tfindR (tfind (m.at k4).live t.At)).2.1 }) ha9 h3 (hO.nam _ hdk.1.1 hdk.1.2.1 _ (List.mem_append.2 (.inl (getD_mem tgt0 hi))) hne) (rank_use hrk hdk.1 hkr ⟨_, List.mem_append.2 (.inl (getD_mem tgt0 hi)), rfl⟩))) rfl Try.call63 (Dels.cons del2 (Dels.cons del0 Dels.nil)) rfl fun c9 h9 => ⟨fun h => absurd h (by decide), ?_⟩
       refine aN 11 4095 rfl rfl (P_extract rfl rfl) rfl <| aN 12 8191 rfl rfl (P_extract rfl rfl) rfl <| aN 13 16383 rfl rfl (P_assign rfl) rfl <| aN 14 32767 rfl rfl (P_assign rfl) rfl <| aD <| CJ_ret <| QJ_end (res2 Try.results63 rfl rfl) ?_
       have e9 : m.carryN (r2 + 1) nm t = m.carryN r2 ((m.at k4).live.getD i tgt0).On { t with At := ((m.at k4).live.getD i tgt0).Offset + (tfindR (tfind (m.at k4).live t.At)).2.1 } := by
         rw [Md.carryN_dev hdk.2, Md.carry_dev hch.1 hdk.1.2.2 h3, hf]
         show (if _ then _ else if _ then _ else _) = _
         rw [if_neg (by simp_all), if_neg hne]; rfl
       refine CSpec.close c9 ?_ ?_ (t0_ (Ent.takeC del0 (by rw [e9]) (eD eR)))
       · rw [e9]; rfl
       · rw [e9]; exact h9
 ·
  refine oM rfl rfl <| oP (P_extract rfl rfl) rfl <| oP (P_extract rfl rfl) rfl <| oA rfl rfl <| oA rfl rfl <| nT <| sR <| oM rfl rfl <| nT <| CJ_condT rfl rfl <| CJ_seq <| CJ_seq ?_
  have hdk := Md.bas_is hd3
  have hkr := hn _ hdk.2
  obtain ⟨r2, rfl⟩ : ∃ r2, r = r2 + 1 := ⟨r - 1, by omega⟩
  refine CJ_region <| oP (P_fieldAddr rfl ⟨_, _, _, Try.runUnderlying44, rfl, rfl, Try.sizeOf3, rfl⟩) rfl <| oV (V_load rfl foc0 rfl Try.isAgg3) rfl <| oP (P_eql rfl rfl) rfl <| nT ?_
  first | (refine CJ_condD rfl (fun hg7 => ?_) (fun hg7 => ?_)) | (refine CJ_condN rfl (fun hg7 => ?_) (fun hg7 => ?_)) | (refine CJ_cond rfl (fun hg7 => ?_) (fun hg7 => ?_))
  ·
   refine sR <| oM rfl rfl <| oP (P_fieldAddr rfl ⟨_, _, _, Try.runUnderlying44, rfl, rfl, Try.sizeOf3, rfl⟩) rfl <| oV (V_load rfl foc0 rfl Try.isAgg3) rfl <| oP (P_fieldAddr rfl ⟨_, _, _, Try.runUnderlying44, rfl, rfl, Try.sizeOf35, rfl⟩) rfl <| oV (V_load rfl foc0 rfl Try.isAgg35) rfl <| oO <| O_callI rfl (c_baseWrite hW (Md.bas_is hd3).1 hb (by omega)) rfl (Dels.cons del2 Dels.nil) rfl fun _ hc9 => oA rfl rfl <| oA rfl rfl <| nT <| CJ_ret <| QJ_then_ret <| QJ_then_ret <| QJ_end (res2 Try.results63 rfl rfl) <| CSpec.close (c.wrB m k2 t.At t.Value) ?_ ?_ (t2_ (Ent.takeC del0 (congrArg (MapR _) (wrB_carry hdk.2 hdk.1.2.2 (by assumption)).1) (eD eR)))
   · rw [(wrB_carry hdk.2 hdk.1.2.2 (by assumption)).2]; rfl
   · exact ⟨wrB_cells (by rw [← (wrB_carry hdk.2 hdk.1.2.2 (by assumption)).1]; unfold Md.wrB; split <;> rfl), wrB_bs hW hdk.1⟩
  ·
   refine kT <| sR <| oM rfl rfl <| oP (P_fieldAddr rfl ⟨_, _, _, Try.runUnderlying44, rfl, rfl, Try.sizeOf3, rfl⟩) rfl <| oV (V_load rfl foc0 rfl Try.isAgg3) rfl <| oO <| O_callI rfl (c_baseRead hW (Md.bas_is hd3).1 hb) rfl (Dels.cons del2 Dels.nil) rfl fun _ hc10 => oP (P_extract rfl rfl) rfl <| oP (P_extract rfl rfl) rfl <| oA rfl rfl <| oA rfl rfl <| nT <| CJ_ret <| QJ_then_ret <| QJ_end (res2 Try.results63 rfl rfl) ?_
   have e9 := (Md.carryN_dev (r := r2 + 1) (t := t) hdk.2).trans (Md.carry_baseR (r := r2) hdk.1.2.2 h3 (by assumption))
   refine CSpec.close c ?_ ?_ (t2_ (Ent.takeC del0 (by rw [e9]) (eD eR)))
   · rw [e9]; rfl
   · rw [e9]; exact ⟨rfl, rfl⟩
end Go.Proofs
set_option linter.unusedSimpArgs false
set_option maxRecDepth 20000
namespace Go.Proofs
open Go.VG
theorem c_access_all {W : World} {b : Nat} {m : Md} {rk : Nat → Nat} {c : MH} (hrk : m.Rank rk) (hwr : m.wr < 100000000) : ∀ (r : Nat) {nm : ByteArray} {t : api_Task} (_hb : -9223372036854775808 ≤ t.At ∧ t.At ≤ 9223372036854775807) (_h3 : t.Kind ≠ 3) (_hs : (m.find nm).isSome = true) (_hn : ∀ j, m.find nm = some j → rk j < r), CSpec Try.prog W 63 [ptr b 0, .string nm, .agg #[.int .i64 t.Kind, .int .i64 t.At, .int .u64 (t.Value.toNat : Int)]] [blk b 79 (mCells c m), MapR c m] (fun _ : MH => .tuple #[.int .u64 ((m.carryN r nm t).1.1.toNat : Int), .int .i64 (m.carryN r nm t).1.2]) (fun c2 => mCells c2 (m.carryN r nm t).2 = mCells c m ∧ c2.bs = c.bs) (fun c2 F => blk b 79 (mCells c m) :: MapR c2 (m.carryN r nm t).2 :: F)
  | 0, _, _, hb, h3, hs, hn => c_access_step hrk hwr (fun r2 h => by omega) hb h3 hs hn
  | r + 1, _, _, hb, h3, hs, hn => c_access_step hrk hwr (fun r2 h => by obtain rfl : r2 = r := (by omega); exact fun h1 h2 h4 h5 => c_access_all hrk hwr r2 h1 h2 h4 h5) hb h3 hs hn
abbrev mKin (b : Nat) : MTy Int Nat := { KT := 3, VT := 90, ek := fun k => .int .i64 k, ev := fun f => .func (.func f) #[ptr b 0] #[] }
theorem ok_mKin {b : Nat} : MOk Try.prog (mKin b) 98 where
  ty := Try.underlying98
  eq := fun a b w => eq_int Try.underlying3 a b w
  chk := fun e a w => chk_int Try.underlying3 e a w 9999
  same := fun a => by simp [Instr.sameBits]
  kd := ⟨_, Try.underlying3, .inr fun a b => by simp only [Instr.sameNow, if_true]; rfl⟩
abbrev kinL : List (Int × Nat) := [(1, 63), (2, 63), (3, 64)]
theorem kin_look {k : Int} : lookM kinL k = if k = 1 then some 63 else if k = 2 then some 63 else if k = 3 then some 64 else none := by
  simp only [kinL, lookM]
theorem uses_find {m : Md} {k i : Nat} (hO : MdOk m) (hk : m.isD k) (hi : i < (tuses (m.at k).live).length) : (m.find ((tuses (m.at k).live).getD i ByteArray.empty)).isSome = true := by
  have h1 : memS (tuses (m.at k).live) ((tuses (m.at k).live).getD i ByteArray.empty) = true := mem_memS.2 (getD_mem _ hi)
  rw [tuses_mem] at h1
  unfold nam at h1
  obtain ⟨t, h2, h3⟩ := List.any_eq_true.1 h1
  have h4 := of_decide_eq_true h3
  have := hO.nam k hk.1 hk.2.1 t (List.mem_append.2 (.inl h2)) (h4.1 ▸ h4.2)
  rwa [h4.1] at this
theorem c_flush_step {W : World} {b : Nat} {m : Md} {rk : Nat → Nat} {r : Nat} {nm : ByteArray} {t : api_Task} {c : MH} (hrk : m.Rank rk) (ih : ∀ r2, r2 + 1 = r → ∀ {nm : ByteArray} {c : MH}, (m.find nm).isSome = true → (∀ j, m.find nm = some j → rk j < r2) → CSpec Try.prog W 64 [ptr b 0, .string nm, .agg #[.int .i64 t.Kind, .int .i64 t.At, .int .u64 (t.Value.toNat : Int)]] [blk b 79 (mCells c m), MapR c m] (fun _ : MH => .tuple #[.int .u64 0, .int .i64 0]) (fun c2 => mCells c2 m = mCells c m ∧ c2.bs = MH.bs c) (fun c2 F => blk b 79 (mCells c m) :: MapR c2 m :: F)) (hs : (m.find nm).isSome = true) (hn : ∀ j, m.find nm = some j → rk j < r) :
    CSpec Try.prog W 64 [ptr b 0, .string nm, .agg #[.int .i64 t.Kind, .int .i64 t.At, .int .u64 (t.Value.toNat : Int)]] [blk b 79 (mCells c m), MapR c m] (fun _ : MH => .tuple #[.int .u64 0, .int .i64 0]) (fun c2 => mCells c2 m = mCells c m ∧ c2.bs = c.bs) (fun c2 F => blk b 79 (mCells c m) :: MapR c2 m :: F) := by
 refine CSpec.of_body Try.func64 rfl Try.ntmps64 rfl fun F => ?_
 show CJ _ _ _ _ _ _ (_ :: _ :: F)
 refine CJ_pure (MapR_wf foc1) fun hW => ?_
 have hO := hW.ok
 have hbwr := hW.big.wr
 refine sR <| oO <| O_box rfl rfl rfl fun b1 => oA rfl rfl <| oA rfl rfl <| nT <| CJ_seq <| sR <| oM rfl rfl <| oP (P_nilCheck rfl) rfl <| oP (P_fieldAddr rfl ⟨_, _, _, Try.runUnderlying79, rfl, rfl, Try.sizeOf76, rfl⟩) rfl <| oV (V_load rfl foc1 rfl Try.isAgg76) rfl <| oM rfl rfl <| oO (O_lookB rfl rfl foc2 rfl (fun hd3 => ?_) (fun k2 hd3 => ?_))
 ·
  refine oM rfl rfl <| oP (P_extract rfl rfl) rfl <| oP (P_extract rfl rfl) rfl <| oA rfl rfl <| oA rfl rfl <| nT <| sR <| oM rfl rfl <| nT <| CJ_condF rfl rfl <| kT <| sR <| oA rfl rfl <| nT <| CJ_seq <| sR <| oM rfl rfl <| oP (P_nilCheck rfl) rfl <| oP (P_fieldAddr rfl ⟨_, _, _, Try.runUnderlying79, rfl, rfl, Try.sizeOf77, rfl⟩) rfl <| oV (V_load rfl foc1 rfl Try.isAgg77) rfl <| oM rfl rfl <| oO (O_lookD rfl rfl foc2 rfl (fun hd5 => ?_) (fun k4 hd5 => ?_))
  ·
   exact (bas_find hd3 hd5 hs).elim
  ·
   have hdk := Md.dev_is hd5
   have hkr := hn _ hdk.2
   obtain ⟨r2, rfl⟩ : ∃ r2, r = r2 + 1 := ⟨r - 1, by omega⟩
   have hch := chk_len (hO.chk k4).1
   have hul := tuses_len (m.at k4).live
   refine oP (P_nilCheck rfl) rfl <| oP (P_fieldAddr rfl ⟨_, _, _, Try.runUnderlying75, rfl, rfl, Try.sizeOf34, rfl⟩) rfl <| oV (VJ_ent (Ent.trans (t2_ eR) (MapR_dev (Md.dev_is hd5).1)) (V_load rfl foc0 rfl Try.isAgg34)) rfl <| oO <| O_call (L_table_Uses (rdLive (Md.dev_is hd5).1) (uses_eq (by first | assumption | omega))) rfl Try.call27 (Dels.cons del2 Dels.nil) rfl fun _ hc7 => oV (V_len rfl foc1 (Reads.sl _ _ _) Try.runUnderlying45) rfl <| oM rfl rfl <| nT <| CJ_block <| CJ_loopR (X := Nat × MH) [10, 12, 13, 14, 38, 39, 40, 41, 42, 43, 44, 45, 46, 47, 48, 49, 50, 51, 52] (fun ⟨i, c2⟩  => ([(38, .int .i64 (i : Nat)), (10, .int .i64 0)] : Slots)) (fun ⟨i, c2⟩ R => MapR c2 m :: R) (fun ⟨i, c2⟩  => i ≤ (tuses (m.at k4).live).length ∧ mCells c2 m = mCells c m ∧ c2.bs = c.bs) (fun ⟨i, c2⟩  => (tuses (m.at k4).live).length - i) ⟨0, c⟩ ?_ ?_ (t0_ (t0_ (t0_ (t0_ eR)))) ?_
   · exact ⟨Nat.zero_le _, rfl, rfl⟩
   · exact ⟨rfl, rfl, True.intro⟩
   ·
    rintro ⟨i, c2⟩ ⟨hi, hc2, hc2b⟩
    show CJ _ _ _ _ _ (([(38, .int .i64 (i : Nat)), (10, .int .i64 0)] : Slots) ++ forget _ _) (MapR c2 m :: _)
    refine sR <| oP (P_lss rfl rfl) rfl <| nT <| CJ_seq ?_
    first | (refine CJ_condD rfl (fun hg1 => ?_) (fun hg1 => ?_)) | (refine CJ_condN rfl (fun hg1 => ?_) (fun hg1 => ?_)) | (refine CJ_cond rfl (fun hg1 => ?_) (fun hg1 => ?_))
    ·
     refine kT <| CJ_seq <| CJ_block <| sR ?_
     first | (refine RJ_op rfl (OJ_V (V_index rfl rfl rfl (by omega) foc1 (Reads.sl _ _ _) Try.runUnderlying45 Try.sizeOf9) rfl ?_)) | (refine RJ_op rfl (OJ_V (V_index rfl rfl (Int.toNat_of_nonneg (by omega)).symm (by omega) foc1 (Reads.sl _ _ _) Try.runUnderlying45 Try.sizeOf9) rfl ?_))
     refine oV (V_loadE rfl rfl (by omega) foc1 (Reads.sl _ _ _) rfl rfl Try.isAgg9) rfl <| oA rfl rfl <| nT <| sR <| oM rfl rfl <| oM rfl rfl <| oV (V_loadN rfl foc2 Try.isAgg44 Try.sizeOf44 rfl rfl) rfl <| RJ_ent (t0_ (t0_ (t0_ (Ent.takeC del0 (congrArg (blk b 79) hc2.symm) eR)))) <| oO <| O_call ((ih r2 rfl (nm := (tuses (m.at k4).live).getD i ByteArray.empty) (c := c2) (uses_find hO hdk.1 (by omega)) (rank_use hrk hdk.1 hkr (uses_tbl (by omega))))) rfl Try.call64 (Dels.cons del3 (Dels.cons del0 Dels.nil)) rfl fun c9 h9 => oM rfl rfl <| oP (P_extract rfl rfl) rfl <| oP (P_extract rfl rfl) rfl <| oA rfl rfl <| oA rfl rfl <| nT <| CJ_seq <| CJ_ent (Ent.takeC del0 (congrArg (blk b 79) hc2) (t0_ (t0_ (t0_ eR)))) <| CJ_region <| oM rfl rfl <| oP (P_eql rfl rfl) rfl <| nT ?_
     first | (refine CJ_condT rfl (decide_eq_true (by rfl)) ?_) | (refine CJ_condT rfl (by rfl) ?_)
     refine CJ_region <| oM rfl rfl <| oA rfl rfl <| RJ_nil <| QJ_block_normal <| QJ_then <| CJ_region <| oP (P_add rfl rfl (by omega)) rfl <| oM rfl rfl <| RJ_nil <| QJ_nextR ⟨i + 1, c9⟩ (by first | omega | (simp only []; omega)) ?_ (by repeat (first | exact Kp.base | exact Kp.self | refine Kp.cons rfl ?_ | refine Kp.forget rfl ?_)) ?_ (t1_ (t1_ (t1_ (t0_ eR))))
     · exact ⟨by omega, h9.1.trans hc2, h9.2.trans hc2b⟩
     · exact ⟨rfl, rfl, True.intro⟩
    ·
     refine CJ_exit <| QJ_then_exit <| QJ_round_exit <| QJ_block_here <| QJ_then <| sR <| oM rfl rfl <| oA rfl rfl <| oA rfl rfl <| nT <| CJ_ret <| QJ_end (res2 Try.results64 rfl rfl) <| CSpec.close c2 ?_ ?_ (t3_ (t0_ (eD (eD eR))))
     · rfl
     · exact ⟨hc2, hc2b⟩
 ·
  refine oM rfl rfl <| oP (P_extract rfl rfl) rfl <| oP (P_extract rfl rfl) rfl <| oA rfl rfl <| oA rfl rfl <| nT <| sR <| oM rfl rfl <| nT <| CJ_condT rfl rfl <| CJ_seq ?_
  have hdk := Md.bas_is hd3
  have hkr := hn _ hdk.2
  obtain ⟨r2, rfl⟩ : ∃ r2, r = r2 + 1 := ⟨r - 1, by omega⟩
  refine CJ_region <| oM rfl rfl <| oO <| O_callI rfl (c_baseFlush hW (Md.bas_is hd3).1) rfl (Dels.cons del2 Dels.nil) rfl fun _ hc9 => oA rfl rfl <| oA rfl rfl <| nT <| CJ_ret <| QJ_then_ret <| QJ_end (res2 Try.results64 rfl rfl) <| CSpec.close (c.flB m k2) ?_ ?_ (t2_ (t0_ (eD eR)))
  · rfl
  · exact ⟨rfl, flB_bs hW hdk.1⟩
end Go.Proofs
set_option linter.unusedSimpArgs false
set_option maxRecDepth 20000
namespace Go.Proofs
open Go.VG
theorem c_flush_all {W : World} {b : Nat} {m : Md} {rk : Nat → Nat} {t : api_Task} (hrk : m.Rank rk) : ∀ (r : Nat) {nm : ByteArray} {c : MH}, (m.find nm).isSome = true → (∀ j, m.find nm = some j → rk j < r) → CSpec Try.prog W 64 [ptr b 0, .string nm, .agg #[.int .i64 t.Kind, .int .i64 t.At, .int .u64 (t.Value.toNat : Int)]] [blk b 79 (mCells c m), MapR c m] (fun _ : MH => .tuple #[.int .u64 0, .int .i64 0]) (fun c2 => mCells c2 m = mCells c m ∧ c2.bs = c.bs) (fun c2 F => blk b 79 (mCells c m) :: MapR c2 m :: F)
  | 0, _, _, hs, hn => c_flush_step hrk (fun r2 h => by omega) hs hn
  | r + 1, _, _, hs, hn => c_flush_step hrk (fun r2 h => by obtain rfl : r2 = r := (by omega); exact fun h1 h2 => c_flush_all hrk r2 h1 h2) hs hn
theorem carryN_v0 {m : Md} {r : Nat} {n : ByteArray} {t : api_Task} (h : (m.carryN r n t).1.2 ≠ 0) : (m.carryN r n t).1.1 = 0 := by
  unfold Md.carryN at h ⊢
  cases hf : m.find n with
  | none => rfl
  | some j => rw [hf] at h; exact carry_v0 r j t h
theorem carryN_flush {m : Md} {r : Nat} {n : ByteArray} {t : api_Task} (h : t.Kind = 3) (hs : (m.find n).isSome = true) : m.carryN (r + 1) n t = ((0, 0), m) := by
  unfold Md.carryN
  cases hf : m.find n with
  | none => rw [hf] at hs; cases hs
  | some j => show m.carry (r + 1) j t = _; rw [Md.carry, if_pos h]
theorem c_kinds {W : World} {b : Nat} :
    CSpec Try.prog W 40 [ptr b 0] [] (fun x : Nat => .map (some x)) (fun _ => True) (fun x F => mpc (mKin b) x kinL :: F) := by
 refine CSpec.of_body Try.func40 rfl Try.ntmps40 rfl fun F => ?_
 show CJ _ _ _ _ _ _ (F)
 refine sR <| oA rfl rfl <| nT <| sR <| oO <| O_makeMap (mKin b) rfl fun b1 => oM rfl rfl <| oP (P_makeFunc rfl rfl) rfl <| oO <| OJ_insert <| O_mapUpdate (M := (mKin b)) (k := 1) (v := 63) rfl rfl rfl foc0 ok_mKin <| oM rfl rfl <| oP (P_makeFunc rfl rfl) rfl <| oO <| OJ_insert <| O_mapUpdate (M := (mKin b)) (k := 2) (v := 63) rfl rfl rfl foc0 ok_mKin <| oM rfl rfl <| oP (P_makeFunc rfl rfl) rfl <| oO <| OJ_insert <| O_mapUpdate (M := (mKin b)) (k := 3) (v := 64) rfl rfl rfl foc0 ok_mKin <| oM rfl rfl <| oA rfl rfl <| nT <| CJ_ret <| QJ_end (res1 Try.results40 rfl) <| CSpec.close b1 ?_ ?_ (t0_ eR)
 · rfl
 · trivial
theorem c_carryA {W : World} {b : Nat} {c : MH} {m : Md} {nm : ByteArray} {t : api_Task} (hw : m.wr < 100000000) (hb : -9223372036854775808 ≤ t.At ∧ t.At ≤ 9223372036854775807) (hs : (m.find nm).isSome = true) (hk : t.Kind = 1 ∨ t.Kind = 2) :
    CSpec Try.prog W 35 [ptr b 0, .string nm, .agg #[.int .i64 t.Kind, .int .i64 t.At, .int .u64 (t.Value.toNat : Int)]] [blk b 79 (mCells c m), MapR c m] (fun _ : MH => .tuple #[.int .u64 ((m.carryN (m.dv.length + 1) nm t).1.1.toNat : Int), .int .i64 (m.carryN (m.dv.length + 1) nm t).1.2]) (fun c2 => mCells c2 (m.carryN (m.dv.length + 1) nm t).2 = mCells c m ∧ c2.bs = c.bs) (fun c2 F => blk b 79 (mCells c m) :: MapR c2 (m.carryN (m.dv.length + 1) nm t).2 :: F) := by
 refine CSpec.of_body Try.func35 rfl Try.ntmps35 rfl fun F => ?_
 show CJ _ _ _ _ _ _ (_ :: _ :: F)
 refine CJ_pure (MapR_wf foc1) fun hW => ?_
 have hO := hW.ok
 have hbwr := hW.big.wr
 have hns := Md.names_len (m := m)
 have hln := hW.big.len
 obtain ⟨rk, hrk, hrb⟩ := Md.rank_bd hO.acy
 refine sR <| oO <| O_box rfl rfl rfl fun b1 => oA rfl rfl <| oA rfl rfl <| nT <| CJ_seq <| AJ_startH 128 (by kernel_rfl) rfl <| aN 0 1 rfl rfl (P_move rfl) rfl <| aN 2 5 rfl rfl (P_fieldAddr rfl ⟨_, _, _, Try.runUnderlying44, rfl, rfl, Try.sizeOf3, rfl⟩) rfl <| aV 3 13 rfl rfl (GY_none rfl) (t0_ (t0_ (t0_ eR))) (V_load rfl foc0 rfl Try.isAgg3) rfl <| aN 5 45 rfl rfl (P_move rfl) rfl <| aV 6 109 rfl rfl (GY_none rfl) (t0_ (t0_ (t0_ eR))) (V_loadN rfl foc0 Try.isAgg44 Try.sizeOf44 rfl rfl) rfl <| AJ_op 1 111 rfl (by kernel_rfl) rfl (GY_none rfl) <| O_call (c_kinds) rfl Try.call40 Dels.nil rfl fun _ hc3 => ⟨fun _ => (t1_ (t1_ (t1_ (eD eR)))), ?_⟩
 refine AJ_op 4 127 rfl (by kernel_rfl) rfl (GY_none rfl) <| OJ_V (VJ_eq (V_lookup (M := mKin b) (k := t.Kind) (out := (fun o => match o with | some f => .func (.func f) #[ptr b 0] #[] | none => .nilFunc)) rfl rfl foc0 ok_mKin Try.zeroValue90 (fun _ => rfl) rfl) (show Value.func (.func 63) #[ptr b 0] #[] = (fun o => match o with | some f => .func (.func f) #[ptr b 0] #[] | none => .nilFunc) (lookM kinL t.Kind) by rw [kin_look]; rcases hk with h | h <;> rw [h] <;> rfl)) rfl <| ⟨fun _ => (t1_ (t1_ (t1_ (eD eR)))), ?_⟩
 refine AJ_op 7 255 rfl (by kernel_rfl) rfl (GY_none rfl) <| O_callV rfl rfl ((c_access_all hrk hw (m.dv.length + 1) (nm := nm) (t := t) hb (by rcases hk with h | h <;> omega) hs (fun j _ => Nat.lt_succ_of_le (hrb j)))) Try.call63 (Dels.cons del2 (Dels.cons del2 Dels.nil)) rfl fun c9 h9 => ⟨fun h => absurd h (by decide), ?_⟩
 refine aN 8 511 rfl rfl (P_extract rfl rfl) rfl <| aN 9 1023 rfl rfl (P_extract rfl rfl) rfl <| aN 10 2047 rfl rfl (P_assign rfl) rfl <| aN 11 4095 rfl rfl (P_assign rfl) rfl <| aD <| CJ_ret <| QJ_end (res2 Try.results35 rfl rfl) <| CSpec.close c9 ?_ ?_ (t0_ (t0_ (eD (eD eR))))
 · rfl
 · exact h9
theorem c_carryF {W : World} {b : Nat} {c : MH} {m : Md} {nm : ByteArray} {t : api_Task} (hs : (m.find nm).isSome = true) (hk : t.Kind = 3) :
    CSpec Try.prog W 35 [ptr b 0, .string nm, .agg #[.int .i64 t.Kind, .int .i64 t.At, .int .u64 (t.Value.toNat : Int)]] [blk b 79 (mCells c m), MapR c m] (fun _ : MH => .tuple #[.int .u64 0, .int .i64 0]) (fun c2 => mCells c2 m = mCells c m ∧ c2.bs = c.bs) (fun c2 F => blk b 79 (mCells c m) :: MapR c2 m :: F) := by
 refine CSpec.of_body Try.func35 rfl Try.ntmps35 rfl fun F => ?_
 show CJ _ _ _ _ _ _ (_ :: _ :: F)
 refine CJ_pure (MapR_wf foc1) fun hW => ?_
 have hO := hW.ok
 have hbwr := hW.big.wr
 have hns := Md.names_len (m := m)
 have hln := hW.big.len
 obtain ⟨rk, hrk, hrb⟩ := Md.rank_bd hO.acy
 refine sR <| oO <| O_box rfl rfl rfl fun b1 => oA rfl rfl <| oA rfl rfl <| nT <| CJ_seq <| AJ_startH 128 (by kernel_rfl) rfl <| aN 0 1 rfl rfl (P_move rfl) rfl <| aN 2 5 rfl rfl (P_fieldAddr rfl ⟨_, _, _, Try.runUnderlying44, rfl, rfl, Try.sizeOf3, rfl⟩) rfl <| aV 3 13 rfl rfl (GY_none rfl) (t0_ (t0_ (t0_ eR))) (V_load rfl foc0 rfl Try.isAgg3) rfl <| aN 5 45 rfl rfl (P_move rfl) rfl <| aV 6 109 rfl rfl (GY_none rfl) (t0_ (t0_ (t0_ eR))) (V_loadN rfl foc0 Try.isAgg44 Try.sizeOf44 rfl rfl) rfl <| AJ_op 1 111 rfl (by kernel_rfl) rfl (GY_none rfl) <| O_call (c_kinds) rfl Try.call40 Dels.nil rfl fun _ hc3 => ⟨fun _ => (t1_ (t1_ (t1_ (eD eR)))), ?_⟩
 refine AJ_op 4 127 rfl (by kernel_rfl) rfl (GY_none rfl) <| OJ_V (VJ_eq (V_lookup (M := mKin b) (k := t.Kind) (out := (fun o => match o with | some f => .func (.func f) #[ptr b 0] #[] | none => .nilFunc)) rfl rfl foc0 ok_mKin Try.zeroValue90 (fun _ => rfl) rfl) (show Value.func (.func 64) #[ptr b 0] #[] = (fun o => match o with | some f => .func (.func f) #[ptr b 0] #[] | none => .nilFunc) (lookM kinL t.Kind) by rw [kin_look, hk]; rfl)) rfl <| ⟨fun _ => (t1_ (t1_ (t1_ (eD eR)))), ?_⟩
 refine AJ_op 7 255 rfl (by kernel_rfl) rfl (GY_none rfl) <| O_callV rfl rfl ((c_flush_all hrk (m.dv.length + 1) (nm := nm) (t := t) hs (fun j _ => Nat.lt_succ_of_le (hrb j)))) Try.call64 (Dels.cons del2 (Dels.cons del2 Dels.nil)) rfl fun c9 h9 => ⟨fun h => absurd h (by decide), ?_⟩
 refine aN 8 511 rfl rfl (P_extract rfl rfl) rfl <| aN 9 1023 rfl rfl (P_extract rfl rfl) rfl <| aN 10 2047 rfl rfl (P_assign rfl) rfl <| aN 11 4095 rfl rfl (P_assign rfl) rfl <| aD <| CJ_ret <| QJ_end (res2 Try.results35 rfl rfl) <| CSpec.close c9 ?_ ?_ (t0_ (t0_ (eD (eD eR))))
 · rfl
 · exact h9
end Go.Proofs
namespace Go.Proofs
namespace Md
def isDx (m : Md) (k : Nat) : Prop := k < m.dv.length ∧ (m.at k).gone = false ∧ (m.at k).isB = false
theorem at_of {m m' : Md} {k i : Nat} {d' : Dv} (hk : k < m.dv.length) (hd : m'.dv = m.dv.set k d') : m'.at i = if i = k then d' else m.at i := by
  have e : m'.at i = (m.set k d').at i := by unfold Md.at; rw [hd]; rfl
  rw [e]; exact at_set hk
theorem keys_of {m m' : Md} {k : Nat} {d' : Dv} (hd : m'.dv = m.dv.set k d') (hkey : key d' = key (m.at k)) : m'.dv.map key = m.dv.map key := by rw [hd]; exact set_key hkey
theorem rank_sub {m m' : Md} {k : Nat} {d' : Dv} {rk : Nat → Nat} (hk : k < m.dv.length) (hd : m'.dv = m.dv.set k d') (hkey : key d' = key (m.at k)) (hsub : ∀ t ∈ tbl d', t ∈ tbl (m.at k)) (h : m.Rank rk) : m'.Rank rk := by
  intro i hi hg t ht j hj
  rw [find_key (keys_of hd hkey)] at hj
  rw [at_of hk hd] at hg ht
  have hl : m'.dv.length = m.dv.length := by rw [hd]; simp
  by_cases e : i = k
  · subst e; rw [if_pos rfl] at hg ht
    exact h i hk ((Prod.mk.inj hkey).1 ▸ hg) t (hsub t ht) j hj
  · rw [if_neg e] at hg ht
    exact h i (by omega) hg t ht j hj
end Md
open Md in
theorem MdOk.set {m m' : Md} {k : Nat} {d' : Dv} (hO : MdOk m) (hk : m.isDx k) (hd : m'.dv = m.dv.set k d') (hkey : key d' = key (m.at k)) (hB : d'.isB = false) (hc : Go.Proofs.chk d'.live = 0 ∧ Go.Proofs.chk d'.new = 0)
    (hnam : ∀ t ∈ tbl d', t.On ≠ noN → (m.find t.On).isSome) (hacy : ∃ rk, m'.Rank rk) (hhl : d'.hl = false → d'.live = []) (hhn : d'.hn = false → d'.new = [])
    (hw : ∀ w ∈ d'.wait, w.gv < m.dv.length ∧ (m.at w.gv).gone = false ∧ (m.at w.gv).isB = false ∧ 1 ≤ w.t.Kind ∧ w.t.Kind ≤ 3 ∧ inT w.t) : MdOk m' := by
  obtain ⟨hk1, hk2, hk3⟩ := hk
  have hat := fun i => at_of (i := i) hk1 hd
  have hg' : d'.gone = (m.at k).gone := (Prod.mk.inj hkey).1
  have hn' : d'.name = (m.at k).name := (Prod.mk.inj hkey).2
  have hgo : ∀ i, (m'.at i).gone = (m.at i).gone := fun i => by
    rw [hat]
    split
    · rename_i e
      rw [e]; exact hg'
    · rfl
  have hna : ∀ i, (m'.at i).name = (m.at i).name := fun i => by
    rw [hat]
    split
    · rename_i e
      rw [e]; exact hn'
    · rfl
  have hiB : ∀ i, (m'.at i).isB = (m.at i).isB := fun i => by
    rw [hat]
    split
    · rename_i e
      rw [e, hB, hk3]
    · rfl
  have hl : m'.dv.length = m.dv.length := by rw [hd]; simp
  have hf : ∀ n, m'.find n = m.find n := fun n => find_key (keys_of hd hkey)
  refine ⟨fun i j => ?_, fun i => ?_, fun i => ?_, fun i hi hg t ht hne => ?_, hacy, fun i hi => ?_, fun i => ?_, fun i => ?_, fun i hi w hw' => ?_⟩
  · rw [hl, hgo, hgo, hna, hna]; exact hO.uniq i j
  · rw [hl, hgo, hna]; exact hO.nm i
  · rw [hat]; split
    · exact hc
    · exact hO.chk i
  · rw [hf]
    rw [hl] at hi; rw [hgo] at hg
    rw [hat] at ht
    split at ht
    · exact hnam t ht hne
    · exact hO.nam i hi hg t ht hne
  · rw [hiB] at hi
    have e : i ≠ k := fun e => by rw [e, hk3] at hi; cases hi
    rw [hat, if_neg e]; exact hO.bas i hi
  · rw [hat]; split
    · exact hhl
    · exact hO.hl i
  · rw [hat]; split
    · exact hhn
    · exact hO.hn i
  · rw [hl] at hi; rw [hgo, hl, hgo, hiB]
    rw [hat] at hw'
    split at hw'
    · rename_i e; subst e; exact ⟨hk2, hw w hw'⟩
    · exact hO.org i hi w hw'
theorem MdBig.set {m m' : Md} {k : Nat} {d' : Dv} (h : MdBig m) (hk : k < m.dv.length) (hd : m'.dv = m.dv.set k d') (hw : d'.wait.length ≤ 100000) (ht : m'.tks ≤ 100000) (hto : m'.told.length ≤ 100000000) (hwr : m'.wr ≤ 100000000) : MdBig m' :=
  ⟨by rw [hd, List.length_set]; exact h.len, fun i => by
    rw [Md.at_of hk hd]
    split
    · exact hw
    · exact h.wl i, ht, hto, hwr⟩
theorem MdBd.set {m m' : Md} {k : Nat} {d' : Dv} (h : MdBd m) (hk : k < m.dv.length) (hd : m'.dv = m.dv.set k d') (hw : d'.wait.length + m.tks ≤ (m.at k).wait.length + m'.tks) (ht : m'.tks ≤ m'.cl) (hto : m'.told.length ≤ 4000 * m'.cl) (hwr : m'.wr ≤ 4000 * m'.cl) (hcl : m.cl ≤ m'.cl) (hc : m'.cl ≤ 4000) : MdBd m' :=
  ⟨by
    have h1 := wsum_set m.dv k d' hk
    have h2 := h.wl
    unfold Md.wsum at h2 ⊢
    rw [hd]
    have e : (m.dv.getD k Dv.z).wait.length = (m.at k).wait.length := rfl
    omega, ht, hto, hwr, by rw [hd, List.length_set]; exact Nat.le_trans h.len (by omega), hc⟩
namespace Md
def tick (m : Md) : Md := { m with cl := m.cl + 1 }
theorem tick_ok {m : Md} (h : MdOk m) : MdOk m.tick := ⟨h.uniq, h.nm, h.chk, h.nam, h.acy, h.bas, h.hl, h.hn, h.org⟩
theorem tick_big {m : Md} (h : MdBig m) : MdBig m.tick := ⟨h.len, h.wl, h.tks, h.told, h.wr⟩
theorem tick_bd {m : Md} (h : MdBd m) (hc : m.cl < 4000) : MdBd m.tick := by
  have h1 := h.tks; have h2 := h.told; have h3 := h.wr; have h4 := h.len
  exact ⟨h.wl, Nat.le_succ_of_le h1, Nat.le_trans h2 (by show _ ≤ 4000 * (m.cl + 1); omega), Nat.le_trans h3 (by show _ ≤ 4000 * (m.cl + 1); omega), by show _ ≤ m.cl + 1 + 2; have : m.tick.dv.length = m.dv.length := rfl; omega, hc⟩
section
variable {m : Md} {k : Nat}
theorem ok_susp (hO : MdOk m) (hk : m.isDx k) {b : Bool} : MdOk (m.set k { m.at k with susp := b }) := by
  obtain ⟨rk, hr⟩ := hO.acy
  exact hO.set hk rfl rfl hk.2.2 (hO.chk k) (fun t ht hne => hO.nam k hk.1 hk.2.1 t ht hne) ⟨rk, rank_sub hk.1 (d' := { m.at k with susp := b }) rfl rfl (fun t ht => ht) hr⟩ (hO.hl k) (hO.hn k) (fun w hw => (hO.org k hk.1 w hw).2)
theorem ok_addW (hO : MdOk m) (hk : m.isDx k) {w : Wt} {n : Nat} (hw : w.gv < m.dv.length ∧ (m.at w.gv).gone = false ∧ (m.at w.gv).isB = false ∧ 1 ≤ w.t.Kind ∧ w.t.Kind ≤ 3 ∧ inT w.t) : MdOk { m.set k { m.at k with wait := (m.at k).wait ++ [w] } with tks := n } := by
  obtain ⟨rk, hr⟩ := hO.acy
  refine hO.set (d' := { m.at k with wait := (m.at k).wait ++ [w] }) hk rfl rfl hk.2.2 (hO.chk k) (fun t ht hne => hO.nam k hk.1 hk.2.1 t ht hne) ⟨rk, rank_sub hk.1 (d' := { m.at k with wait := (m.at k).wait ++ [w] }) rfl rfl (fun t ht => ht) hr⟩ (hO.hl k) (hO.hn k) (fun x hx => ?_)
  rcases List.mem_append.1 hx with h | h
  · exact (hO.org k hk.1 x h).2
  · rw [List.mem_singleton] at h; subst h; exact hw
end
end Md
end Go.Proofs
set_option linter.unusedSimpArgs false
set_option maxRecDepth 20000
namespace Go.Proofs
open Go.VG
theorem CMap10_bs_45_0_ : BuildsSlice Try.prog 45 0 [] 9 [] := fun w => by kernel_rfl
theorem CMap10_bs_34_0_ : BuildsSlice Try.prog 34 0 [] 33 [] := fun w => by kernel_rfl
theorem MapWF.tick {c : MH} {m : Md} (h : MapWF c m) : MapWF c m.tick := ⟨h.dv, Md.tick_ok h.ok, Md.tick_big h.big, h.dl, h.bl, h.inj, h.good, h.dsk, h.dsj, h.wr⟩
theorem MapR_tick {c : MH} {m : Md} {R : List HP} : Ent (MapR c m :: R) (MapR c m.tick :: R) := fun h hh => by
  obtain ⟨h1, h2⟩ := stars_pur.1 (stars_star.1 hh)
  exact stars_star.2 (stars_pur.2 ⟨h1.tick, h2⟩)
section
variable {X : HP} {c : MH} {m m' : Md} {k : Nat} {h' : DH} {d' : Dv} {R : List HP}
def MH.put (c : MH) (k : Nat) (h' : DH) (d' : Dv) : MH := { c with l := c.l.set k (h', d') }
theorem put_wf (hW : MapWF c m) (hk : m.isD k) (hkey : Md.key d' = Md.key (m.at k)) (hB : d'.isB = false) (hb : h'.b = c.bs k) (hdn : h'.dn = (c.hd k).dn) (hd : m'.dv = m.dv.set k d') (ok : MdOk m') (big : MdBig m') (hwr : m'.wr = m.wr) : MapWF (c.put k h' d') m' :=
  hW.upd hk.1 hd hkey (hB.trans hk.2.2.symm) hb hdn ok big hW.good rfl (fun i hi => by
    obtain ⟨_, q2, q3⟩ := hW.dsk i hi
    have e : i ≠ k := fun e => by have h1 := hi.2.2; rw [e, hk.2.2] at h1; cases h1
    rw [Md.at_of hk.1 hd, if_neg e]; exact ⟨q2, q3⟩) (by rw [hwr]; exact hW.wr)
theorem MapR_putD (hW : MapWF c m) (hk : m.isD k) (hkey : Md.key d' = Md.key (m.at k)) (hB : d'.isB = false) (hb : h'.b = c.bs k) (hdn : h'.dn = (c.hd k).dn) (hd : m'.dv = m.dv.set k d') (ok : MdOk m') (big : MdBig m') (hwr : m'.wr = m.wr) (ht : m'.told = m.told) :
    Ent (blk (c.bs k) 75 (dCells h' d') :: sl tyapi_Target h'.lv.v d'.live :: sl tyapi_Target h'.nw.v d'.new :: sl tyErr h'.wt.v (d'.wait.map (wC c.bs)) :: MRest X c m k :: R) (MapRG X (c.put k h' d') m' :: R) := by
  obtain ⟨g1, g2⟩ := hW.at hk.1
  have h := MapR_put (X := X) (R := R) (c := c) (m := m) (k := k) (c' := c.put k h' d') (m' := m') (h' := h') (d' := d') g1 ((Prod.mk.inj hkey).1.trans hk.2.1) hB rfl (Md.names_key (Md.keys_of hd hkey)) ht (bs_set g1 hb rfl) (put_wf hW hk hkey hB hb hdn hd ok big hwr)
  rwa [hb] at h
theorem put_bs (hW : MapWF c m) (hk : m.isD k) (hb : h'.b = c.bs k) : (c.put k h' d').bs = c.bs := bs_set (hW.at hk.1).1 hb rfl
theorem MapR_told : Ent (MapR c m :: R) (sl tyapi_Answer c.tv.v m.told :: MapR { c with tv := s3z } { m with told := [] } :: R) := fun h hh => by
  obtain ⟨hw, h1⟩ := stars_pur.1 (stars_star.1 hh)
  have hw2 : MapWF { c with tv := s3z } { m with told := [] } := ⟨hw.dv, ⟨hw.ok.uniq, hw.ok.nm, hw.ok.chk, hw.ok.nam, hw.ok.acy, hw.ok.bas, hw.ok.hl, hw.ok.hn, hw.ok.org⟩, ⟨hw.big.len, hw.big.wl, hw.big.tks, Nat.zero_le _, hw.big.wr⟩, hw.dl, hw.bl, hw.inj, hw.good, hw.dsk, hw.dsj, hw.wr⟩
  have h2 := stars_perm (List.perm_middle (l₁ := [mpc mBas c.bm c.bl, mpc mDev c.dm c.dl, sl tyS c.ov.v m.names]) (a := sl tyapi_Answer c.tv.v m.told) (l₂ := [Go.VG.Own (DevC c.a c.bs) c.l, Arr c.a c.s] ++ R)) _ h1
  obtain ⟨a1, a2, d1, e1, p1, q1⟩ := h2
  refine ⟨a1, a2, d1, e1, p1, stars_star.2 (stars_pur.2 ⟨hw2, ?_⟩)⟩
  have q2 : stars (sl tyapi_Answer (Sl3.v s3z) [] :: ([mpc mBas c.bm c.bl, mpc mDev c.dm c.dl, sl tyS c.ov.v m.names] ++ ([Go.VG.Own (DevC c.a c.bs) c.l, Arr c.a c.s] ++ R))) a2 := sl_nil (t := tyapi_Answer) _ q1
  exact stars_perm (List.perm_middle (l₁ := [mpc mBas c.bm c.bl, mpc mDev c.dm c.dl, sl tyS c.ov.v m.names]) (a := sl tyapi_Answer (Sl3.v s3z) [])).symm _ q2
theorem MapR_tell {tv : Sl3} {l : List api_Answer} (hl : l.length ≤ 100000000) : Ent (sl tyapi_Answer tv.v l :: MapR c m :: R) (MapR { c with tv := tv } { m with told := l } :: R) := fun h hh => by
  obtain ⟨a1, a2, d1, e1, p1, q1⟩ := hh
  obtain ⟨hw, h1⟩ := stars_pur.1 (stars_star.1 q1)
  have hw2 : MapWF { c with tv := tv } { m with told := l } := ⟨hw.dv, ⟨hw.ok.uniq, hw.ok.nm, hw.ok.chk, hw.ok.nam, hw.ok.acy, hw.ok.bas, hw.ok.hl, hw.ok.hn, hw.ok.org⟩, ⟨hw.big.len, hw.big.wl, hw.big.tks, hl, hw.big.wr⟩, hw.dl, hw.bl, hw.inj, hw.good, hw.dsk, hw.dsj, hw.wr⟩
  have h2 := stars_perm (List.perm_middle (l₁ := [mpc mBas c.bm c.bl, mpc mDev c.dm c.dl, sl tyS c.ov.v m.names]) (a := sl tyapi_Answer c.tv.v m.told) (l₂ := [Go.VG.Own (DevC c.a c.bs) c.l, Arr c.a c.s] ++ R)) _ h1
  have h3 : stars (sl tyapi_Answer tv.v l :: ([mpc mBas c.bm c.bl, mpc mDev c.dm c.dl, sl tyS c.ov.v m.names] ++ ([Go.VG.Own (DevC c.a c.bs) c.l, Arr c.a c.s] ++ R))) h := ⟨a1, a2, d1, e1, p1, stars_tail h2⟩
  exact stars_star.2 (stars_pur.2 ⟨hw2, stars_perm (List.perm_middle (l₁ := [mpc mBas c.bm c.bl, mpc mDev c.dm c.dl, sl tyS c.ov.v m.names]) (a := sl tyapi_Answer tv.v l)).symm _ h3⟩)
end
theorem c_CloneS {W : World} {A : HP} {v : Sl3} {xs : List ByteArray} (hA : Reads A tyS v.v xs) (hl : xs.length ≤ 100000000) :
    CSpec Try.prog W 55 [v.v] [A] (fun x : Sl3 => x.v) (fun _ => True) (fun x F => sl tyS x.v xs :: A :: F) := by
 refine CSpec.of_body Try.func55 rfl Try.ntmps55 rfl fun F => ?_
 show CJ _ _ _ _ _ _ (_ :: F)
 refine sR <| oA rfl rfl <| nT <| CJ_seq <| sR <| oM rfl rfl <| oP (P_eqlSN rfl rfl Try.underlying45) rfl <| nT ?_
 first | (refine CJ_condD rfl (fun hg1 => ?_) (fun hg1 => ?_)) | (refine CJ_condN rfl (fun hg1 => ?_) (fun hg1 => ?_)) | (refine CJ_cond rfl (fun hg1 => ?_) (fun hg1 => ?_))
 ·
  refine sR <| oA rfl rfl <| nT <| CJ_ret <| QJ_then_ret <| QJ_end (res1 Try.results55 rfl) ?_
  obtain ⟨vp, vn, vc⟩ := v
  obtain rfl : vp = none := by simpa using hg1
  refine fun w hs => ?_
  obtain rfl := reads_none hA _ hs.heap.choose_spec
  revert w hs
  show ∀ w, St W w _ → _
  refine CSpec.close ⟨none, 0, 0⟩ ?_ ?_ (Ent.trans (fun h hh => sl_nil (t := tyS) h hh) eR)
  · rfl
  · trivial
 ·
  refine kT <| sR <| oO <| O_buildSlice rfl (CMap10_bs_45_0_) rfl fun b1 => RJ_ent (Ent.trans (t0_ eR) (sl_of_lit (t := tyS) (m := 0) [] rfl rfl rfl (by decide))) <| oM rfl rfl <| oO <| O_append (t := tyS) (bytes := 16) rfl rfl del0 foc0 hA Try.underlying45 ok_tyS (by simp only [List.length_append, List.length_cons, List.length_nil, maxLen] at *; omega) (by simp only [List.length_append, List.length_cons, List.length_nil, maxLen] at *; omega) rfl fun p2 c3 => oA rfl rfl <| nT <| CJ_ret <| QJ_end (res1 Try.results55 rfl) <| CSpec.close ⟨p2, _, c3⟩ ?_ ?_ (t0_ (t0_ eR))
  · rfl
  · trivial
theorem c_CloneT {W : World} {A : HP} {v : Sl3} {xs : List api_Target} (hA : Reads A tyapi_Target v.v xs) (hl : xs.length ≤ 100000000) :
    CSpec Try.prog W 33 [v.v] [A] (fun x : Sl3 => x.v) (fun _ => True) (fun x F => sl tyapi_Target x.v xs :: A :: F) := by
 refine CSpec.of_body Try.func33 rfl Try.ntmps33 rfl fun F => ?_
 show CJ _ _ _ _ _ _ (_ :: F)
 refine sR <| oA rfl rfl <| nT <| CJ_seq <| sR <| oM rfl rfl <| oP (P_eqlSN rfl rfl Try.underlying34) rfl <| nT ?_
 first | (refine CJ_condD rfl (fun hg1 => ?_) (fun hg1 => ?_)) | (refine CJ_condN rfl (fun hg1 => ?_) (fun hg1 => ?_)) | (refine CJ_cond rfl (fun hg1 => ?_) (fun hg1 => ?_))
 ·
  refine sR <| oA rfl rfl <| nT <| CJ_ret <| QJ_then_ret <| QJ_end (res1 Try.results33 rfl) ?_
  obtain ⟨vp, vn, vc⟩ := v
  obtain rfl : vp = none := by simpa using hg1
  refine fun w hs => ?_
  obtain rfl := reads_none hA _ hs.heap.choose_spec
  revert w hs
  show ∀ w, St W w _ → _
  refine CSpec.close ⟨none, 0, 0⟩ ?_ ?_ (Ent.trans (fun h hh => sl_nil (t := tyapi_Target) h hh) eR)
  · rfl
  · trivial
 ·
  refine kT <| sR <| oO <| O_buildSlice rfl (CMap10_bs_34_0_) rfl fun b1 => RJ_ent (Ent.trans (t0_ eR) (sl_of_lit (t := tyapi_Target) (m := 0) [] rfl rfl rfl (by decide))) <| oM rfl rfl <| oO <| O_append (t := tyapi_Target) (bytes := 48) rfl rfl del0 foc0 hA Try.underlying34 ok_tyapi_Target (by simp only [List.length_append, List.length_cons, List.length_nil, maxLen] at *; omega) (by simp only [List.length_append, List.length_cons, List.length_nil, maxLen] at *; omega) rfl fun p2 c3 => oA rfl rfl <| nT <| CJ_ret <| QJ_end (res1 Try.results33 rfl) <| CSpec.close ⟨p2, _, c3⟩ ?_ ?_ (t0_ (t0_ eR))
  · rfl
  · trivial
theorem c_Answers {W : World} {b : Nat} {c : MH} {m : Md} :
    CSpec Try.prog W 15 [ptr b 0] [blk b 79 (mCells c m), MapR c m] (fun _ : Unit => c.tv.v) (fun _ => True) (fun _ F => sl tyapi_Answer c.tv.v m.told :: blk b 79 (mCells { c with tv := s3z } { m with told := [] }) :: MapR { c with tv := s3z } { m with told := [] } :: F) := by
 refine CSpec.of_body Try.func15 rfl Try.ntmps15 rfl fun F => ?_
 show CJ _ _ _ _ _ _ (_ :: _ :: F)
 refine CJ_ent (Ent.trans (t1_ eR) MapR_told) <| sR <| oA rfl rfl <| nT <| sR <| oM rfl rfl <| oP (P_nilCheck rfl) rfl <| oP (P_fieldAddr rfl ⟨_, _, _, Try.runUnderlying79, rfl, rfl, Try.sizeOf46, rfl⟩) rfl <| oV (V_load rfl foc2 rfl Try.isAgg46) rfl <| oA rfl rfl <| nT <| sR <| oM rfl rfl <| oP (P_nilCheck rfl) rfl <| oP (P_fieldAddr rfl ⟨_, _, _, Try.runUnderlying79, rfl, rfl, Try.sizeOf46, rfl⟩) rfl <| oO <| O_store rfl rfl foc2 rfl rfl Try.sizeOf46 <| nT <| sR <| oM rfl rfl <| oA rfl rfl <| nT <| CJ_ret <| QJ_end (res1 Try.results15 rfl) <| CSpec.close () ?_ ?_ (t0_ (t1_ (t0_ eR)))
 · rfl
 · trivial
end Go.Proofs
set_option linter.unusedSimpArgs false
set_option maxRecDepth 20000
namespace Go.Proofs
open Go.VG
theorem CMap11_bld_40_0_2_3 (v0 : Bool) (v1 : Int) (v2 : Int) : ∀ w, (Instr.build 40 (#[(0, .bool v0), (2, .int .u64 v1), (3, .int .i64 v2)] : Array (Nat × Value))).run Try.prog w = .ok (.agg #[.bool v0, .int .i64 0, .int .u64 v1, .int .i64 v2]) w := fun w => by kernel_rfl
theorem CMap11_bld_44_0 (v0 : Int) : ∀ w, (Instr.build 44 (#[(0, .int .i64 v0)] : Array (Nat × Value))).run Try.prog w = .ok (.agg #[.int .i64 v0, .int .i64 0, .int .u64 0]) w := fun w => by kernel_rfl
theorem c_carry {W : World} {b : Nat} {c : MH} {m : Md} {nm : ByteArray} {t : api_Task} (hw : m.wr < 100000000) (hb : -9223372036854775808 ≤ t.At ∧ t.At ≤ 9223372036854775807) (hs : (m.find nm).isSome = true) (hk : 1 ≤ t.Kind ∧ t.Kind ≤ 3) :
    CSpec Try.prog W 35 [ptr b 0, .string nm, .agg #[.int .i64 t.Kind, .int .i64 t.At, .int .u64 (t.Value.toNat : Int)]] [blk b 79 (mCells c m), MapR c m] (fun _ : MH => .tuple #[.int .u64 ((m.carryN (m.dv.length + 1) nm t).1.1.toNat : Int), .int .i64 (m.carryN (m.dv.length + 1) nm t).1.2]) (fun c2 => mCells c2 (m.carryN (m.dv.length + 1) nm t).2 = mCells c m ∧ c2.bs = c.bs) (fun c2 F => blk b 79 (mCells c m) :: MapR c2 (m.carryN (m.dv.length + 1) nm t).2 :: F) := by
  by_cases h3 : t.Kind = 3
  · rw [carryN_flush h3 hs]; exact c_carryF hs h3
  · exact c_carryA hw hb hs (by omega)
theorem carryN_k {m : Md} {k : Nat} {t : api_Task} (hO : MdOk m) (hk : k < m.dv.length) (hg : (m.at k).gone = false) : m.carryN (m.dv.length + 1) (m.at k).name t = m.carryk k t := Md.carryN_dev (Md.at_find hO hk hg)
def ansN (m : Md) (nm : ByteArray) (t : api_Task) : api_Answer := ⟨true, 0, (m.carryN (m.dv.length + 1) nm t).1.1, (m.carryN (m.dv.length + 1) nm t).1.2⟩
theorem c_answer {W : World} {b : Nat} {c : MH} {m : Md} {nm : ByteArray} {t : api_Task} (hw : m.wr < 100000000) (hb : -9223372036854775808 ≤ t.At ∧ t.At ≤ 9223372036854775807) (hs : (m.find nm).isSome = true) (hk : 1 ≤ t.Kind ∧ t.Kind ≤ 3) :
    CSpec Try.prog W 38 [ptr b 0, .string nm, .agg #[.int .i64 t.Kind, .int .i64 t.At, .int .u64 (t.Value.toNat : Int)]] [blk b 79 (mCells c m), MapR c m] (fun _ : MH => .agg #[.bool (ansN m nm t).Done, .int .i64 (ansN m nm t).Ticket, .int .u64 ((ansN m nm t).Value.toNat : Int), .int .i64 (ansN m nm t).Error]) (fun c2 => mCells c2 (m.carryN (m.dv.length + 1) nm t).2 = mCells c m ∧ c2.bs = c.bs) (fun c2 F => blk b 79 (mCells c m) :: MapR c2 (m.carryN (m.dv.length + 1) nm t).2 :: F) := by
 refine CSpec.of_body Try.func38 rfl Try.ntmps38 rfl fun F => ?_
 show CJ _ _ _ _ _ _ (_ :: _ :: F)
 refine sR <| oO <| O_box rfl rfl rfl fun b1 => oO <| O_alloc Try.zeroValue40 rfl rfl fun b2 => nT <| sR <| oM rfl rfl <| oM rfl rfl <| oV (V_loadN rfl foc1 Try.isAgg44 Try.sizeOf44 rfl rfl) rfl <| oO <| O_call ((c_carry (t := t) hw hb hs hk)) rfl Try.call35 (Dels.cons del2 (Dels.cons del2 Dels.nil)) rfl fun c9 h9 => oM rfl rfl <| oP (P_extract rfl rfl) rfl <| oP (P_extract rfl rfl) rfl <| oA rfl rfl <| oA rfl rfl <| nT <| CJ_seq <| sR <| oM rfl rfl <| oP (P_neq rfl rfl) rfl <| nT ?_
 first | (refine CJ_condD rfl (fun hg1 => ?_) (fun hg1 => ?_)) | (refine CJ_condN rfl (fun hg1 => ?_) (fun hg1 => ?_)) | (refine CJ_cond rfl (fun hg1 => ?_) (fun hg1 => ?_))
 ·
  refine CJ_region <| oA rfl rfl <| nT <| sR <| oM rfl rfl <| oM rfl rfl <| oP (P_build rfl (CMap11_bld_40_0_2_3 _ _ _)) rfl <| oO <| O_storeN rfl rfl foc2 Try.sizeOf40 rfl rfl rfl <| nT <| CJ_ret <| QJ_end (resA1 Try.results38 (RV_cellN rfl foc2 Try.isAgg40 Try.sizeOf40 rfl rfl)) <| CSpec.close c9 ?_ ?_ (t0_ (t0_ (eD (eD eR))))
  · first | rfl | (show Value.agg #[.bool true, .int .i64 0, .int .u64 0, _] = Value.agg #[.bool true, .int .i64 0, .int .u64 _, _]; rw [show (ansN m nm t).Value = 0 from carryN_v0 (by assumption)]; rfl)
  · exact h9
 ·
  refine kT <| sR <| oM rfl rfl <| oM rfl rfl <| oP (P_build rfl (CMap11_bld_40_0_2_3 _ _ _)) rfl <| oO <| O_storeN rfl rfl foc2 Try.sizeOf40 rfl rfl rfl <| nT <| CJ_ret <| QJ_end (resA1 Try.results38 (RV_cellN rfl foc2 Try.isAgg40 Try.sizeOf40 rfl rfl)) <| CSpec.close c9 ?_ ?_ (t0_ (t0_ (eD (eD eR))))
  · first | rfl | (show Value.agg #[.bool true, .int .i64 0, .int .u64 0, _] = Value.agg #[.bool true, .int .i64 0, .int .u64 _, _]; rw [show (ansN m nm t).Value = 0 from carryN_v0 (by assumption)]; rfl)
  · exact h9
theorem c_Suspend {W : World} {b : Nat} {c : MH} {m : Md} {n : ByteArray} :
    CSpec Try.prog W 10 [ptr b 0, .string n] [blk b 79 (mCells c m), MapR c m] (fun _ : MH => .int .i64 (m.suE n)) (fun _ => True) (fun c2 F => blk b 79 (mCells c2 (m.suS n)) :: MapR c2 (m.suS n) :: F) := by
 refine CSpec.of_body Try.func10 rfl Try.ntmps10 rfl fun F => ?_
 show CJ _ _ _ _ _ _ (_ :: _ :: F)
 refine CJ_pure (MapR_wf foc1) fun hW => ?_
 have hO := hW.ok
 have hns := Md.names_len (m := m)
 have hln := hW.big.len
 refine sR <| oA rfl rfl <| nT <| sR <| oM rfl rfl <| oP (P_nilCheck rfl) rfl <| oP (P_fieldAddr rfl ⟨_, _, _, Try.runUnderlying79, rfl, rfl, Try.sizeOf77, rfl⟩) rfl <| oV (V_load rfl foc0 rfl Try.isAgg77) rfl <| oM rfl rfl <| oO (O_lookD rfl rfl foc1 rfl (fun hd2 => ?_) (fun k1 hd2 => ?_))
 ·
  refine oA rfl rfl <| nT <| CJ_seq <| CJ_block <| sR <| oM rfl rfl <| oP (P_eqlNN rfl rfl Try.underlying72) rfl <| oA rfl rfl <| nT <| CJ_condT rfl rfl <| sR <| oA rfl rfl <| nT <| CJ_ret <| QJ_block_ret <| QJ_then_ret <| QJ_end (res1 Try.results10 rfl) ?_
  have e1 : m.suE n = 12 ∧ m.suS n = m := by
    have e2 : m.suE n = 12 := by unfold Md.suE; rw [hd2]
    exact ⟨e2, by unfold Md.suS; rw [hd2]⟩
  refine CSpec.close c ?_ ?_ (Ent.takeC del0 (by rw [e1.2]) (Ent.takeC del0 (by rw [e1.2]) eR))
  · rw [e1.1]
  · trivial
 ·
  refine oA rfl rfl <| nT <| CJ_seq <| CJ_block <| sR <| oM rfl rfl <| oP (P_eqlPN rfl rfl Try.underlying72) rfl <| oA rfl rfl <| nT <| CJ_condF rfl rfl <| sR <| oM rfl rfl <| oP (P_nilCheck rfl) rfl <| oP (P_fieldAddr rfl ⟨_, _, _, Try.runUnderlying75, rfl, rfl, Try.sizeOf4, rfl⟩) rfl <| oV (VJ_ent (Ent.trans (t1_ eR) (MapR_dev (Md.dev_is hd2).1)) (V_load rfl foc0 rfl Try.isAgg4)) rfl <| oA rfl rfl <| nT ?_
  first | (refine CJ_condD rfl (fun hg1 => ?_) (fun hg1 => ?_)) | (refine CJ_condN rfl (fun hg1 => ?_) (fun hg1 => ?_)) | (refine CJ_cond rfl (fun hg1 => ?_) (fun hg1 => ?_))
  ·
   refine sR <| oA rfl rfl <| nT <| CJ_ret <| QJ_block_ret <| QJ_then_ret <| QJ_end (res1 Try.results10 rfl) ?_
   have e1 : m.suE n = 20 ∧ m.suS n = m := by
     have e2 : m.suE n = 20 := by unfold Md.suE; rw [hd2]; show (if _ then _ else _) = _; exact if_pos (.inl (by assumption))
     exact ⟨e2, by unfold Md.suS; rw [hd2]; show (if m.suE n = 0 then _ else _) = _; rw [if_neg (by rw [e2]; decide)]⟩
   refine CSpec.close c ?_ ?_ (Ent.takeC del0 (by rw [e1.2]) (Ent.takeC del0 (by rw [e1.2]) eR))
   · rw [e1.1]
   · trivial
  ·
   refine CJ_skip <| QJ_block_normal <| QJ_then <| CJ_seq <| CJ_seq ?_
   have hdk := Md.dev_is hd2
   have hsf : (m.at k1).susp = false := by assumption
   refine CJ_region <| oM rfl rfl <| oP (P_nilCheck rfl) rfl <| oP (P_fieldAddr rfl ⟨_, _, _, Try.runUnderlying75, rfl, rfl, Try.sizeOf4, rfl⟩) rfl <| oV (VJ_ent (Ent.trans (t1_ eR) (MapR_dev (Md.dev_is hd2).1)) (V_load rfl foc0 rfl Try.isAgg4)) rfl <| nT ?_
   first | (refine CJ_condD rfl (fun hg2 => ?_) (fun hg2 => ?_)) | (refine CJ_condN rfl (fun hg2 => ?_) (fun hg2 => ?_)) | (refine CJ_cond rfl (fun hg2 => ?_) (fun hg2 => ?_))
   ·
    refine sR <| oP (P_build rfl (CMap11_bld_44_0 _)) rfl <| oO <| O_alloc Try.zeroValue44 rfl rfl fun b3 => oO <| O_storeN rfl rfl foc0 Try.sizeOf44 rfl rfl rfl <| nT <| CJ_seq <| sR <| oM rfl rfl <| oM rfl rfl <| oV (V_loadN rfl foc0 Try.isAgg44 Try.sizeOf44 rfl rfl) rfl <| oO <| O_call (c_stop (t := ⟨3, 0, 0⟩) (Md.dev_is hd2).1) rfl Try.call34 (Dels.cons del1 (Dels.cons del1 Dels.nil)) rfl fun _ hc4 => oP (P_neqO rfl rfl Try.underlying72) rfl <| nT ?_
    first | (refine CJ_condD rfl (fun hg3 => ?_) (fun hg3 => ?_)) | (refine CJ_condN rfl (fun hg3 => ?_) (fun hg3 => ?_)) | (refine CJ_cond rfl (fun hg3 => ?_) (fun hg3 => ?_))
    ·
     refine sR <| oA rfl rfl <| nT <| CJ_ret <| QJ_then_ret <| QJ_then_ret <| QJ_end (res1 Try.results10 rfl) ?_
     have e1 : m.suE n = 20 ∧ m.suS n = m := by
       have e2 : m.suE n = 20 := by unfold Md.suE; rw [hd2]; show (if _ then _ else _) = _; exact if_pos (.inr (by assumption))
       exact ⟨e2, by unfold Md.suS; rw [hd2]; show (if m.suE n = 0 then _ else _) = _; rw [if_neg (by rw [e2]; decide)]⟩
     refine CSpec.close c ?_ ?_ (Ent.takeC del0 (by rw [e1.2]) (Ent.takeC del0 (by rw [e1.2]) (eD eR)))
     · rw [e1.1]
     · trivial
    ·
     refine kT <| CJ_seq ?_
     have hst9 : (m.wayk k1 ⟨3, 0, 0⟩).isSome = false := by assumption
     refine CJ_region <| oM rfl rfl <| oM rfl rfl <| oV (V_loadN rfl foc2 Try.isAgg44 Try.sizeOf44 rfl rfl) rfl <| oO <| O_call ((c_carryF (t := ⟨3, 0, 0⟩) (by rw [hdk.2]; rfl) rfl)) rfl Try.call35 (Dels.cons del0 (Dels.cons del0 Dels.nil)) rfl fun c9 h9 => oM rfl rfl <| oP (P_extract rfl rfl) rfl <| oP (P_extract rfl rfl) rfl <| oA rfl rfl <| oA rfl rfl <| nT <| sR <| oM rfl rfl <| oP (P_neq rfl rfl) rfl <| nT ?_
     first | (refine CJ_condF rfl (decide_eq_false (by exact fun h => h rfl)) ?_) | (refine CJ_condF rfl (by exact fun h => h rfl) ?_)
     refine kT <| CJ_seq ?_
     have hw9 : m.wayk k1 ⟨3, 0, 0⟩ = none := by simpa using hst9
     refine CJ_pure (MapR_wf foc1) fun hW9 => CJ_ent (Ent.takeC del0 (congrArg (blk b 79) h9.1.symm) (t0_ (t0_ eR))) ?_
     rw [← h9.2]
     refine CJ_ent (Ent.trans (t1_ eR) (MapR_dev hdk.1)) <| CJ_region <| oM rfl rfl <| oP (P_nilCheck rfl) rfl <| oP (P_fieldAddr rfl ⟨_, _, _, Try.runUnderlying75, rfl, rfl, Try.sizeOf4, rfl⟩) rfl <| oO <| O_store rfl rfl foc0 rfl rfl Try.sizeOf4 <| nT <| sR <| oA rfl rfl <| nT <| CJ_ret <| QJ_end (res1 Try.results10 rfl) ?_
     have e0 : m.wayk k1 ⟨3, 0, 0⟩ = none := by rw [hw9]
     have e2 : m.suE n = 0 := by unfold Md.suE; rw [hd2]; show (if _ then _ else _) = _; exact if_neg (by rw [hsf, e0]; simp)
     have e1 : m.suS n = m.set k1 { m.at k1 with susp := true } := by unfold Md.suS; rw [hd2]; show (if m.suE n = 0 then _ else _) = _; rw [if_pos e2]
     rw [e1]
     refine CSpec.close (c9.put k1 (c9.hd k1) { m.at k1 with susp := true }) ?_ ?_ (Ent.trans (Ent.trans (t0_ (t0_ (t0_ (t0_ (t0_ eR))))) (MapR_putD (h' := (c9.hd k1)) (d' := { m.at k1 with susp := true }) (m' := (m.set k1 { m.at k1 with susp := true })) hW9 hdk.1 rfl hdk.1.2.2 rfl rfl rfl (Md.ok_susp hO hdk.1) (hW.big.set hdk.1.1 rfl (hW.big.wl _) hW.big.tks hW.big.told hW.big.wr) rfl rfl)) (t1_ (t0_ (eD eR))))
     · rw [e2]
     · trivial
   ·
    refine kT <| CJ_seq ?_
    have hW9 := hW
    have hhl : (m.at k1).hl = false := by assumption
    refine CJ_ent (Ent.trans (t1_ eR) (MapR_dev hdk.1)) <| CJ_region <| oM rfl rfl <| oP (P_nilCheck rfl) rfl <| oP (P_fieldAddr rfl ⟨_, _, _, Try.runUnderlying75, rfl, rfl, Try.sizeOf4, rfl⟩) rfl <| oO <| O_store rfl rfl foc0 rfl rfl Try.sizeOf4 <| nT <| sR <| oA rfl rfl <| nT <| CJ_ret <| QJ_end (res1 Try.results10 rfl) ?_
    have e0 : m.wayk k1 ⟨3, 0, 0⟩ = none := by unfold Md.wayk; rw [Md.way_flush hdk.1.2.2 hsf rfl, hO.hl _ hhl]; rfl
    have e2 : m.suE n = 0 := by unfold Md.suE; rw [hd2]; show (if _ then _ else _) = _; exact if_neg (by rw [hsf, e0]; simp)
    have e1 : m.suS n = m.set k1 { m.at k1 with susp := true } := by unfold Md.suS; rw [hd2]; show (if m.suE n = 0 then _ else _) = _; rw [if_pos e2]
    rw [e1]
    refine CSpec.close (c.put k1 (c.hd k1) { m.at k1 with susp := true }) ?_ ?_ (Ent.trans (Ent.trans (t0_ (t0_ (t0_ (t0_ (t0_ eR))))) (MapR_putD (h' := (c.hd k1)) (d' := { m.at k1 with susp := true }) (m' := (m.set k1 { m.at k1 with susp := true })) hW9 hdk.1 rfl hdk.1.2.2 rfl rfl rfl (Md.ok_susp hO hdk.1) (hW.big.set hdk.1.1 rfl (hW.big.wl _) hW.big.tks hW.big.told hW.big.wr) rfl rfl)) (t1_ (t0_ eR)))
    · rw [e2]
    · trivial
end Go.Proofs
namespace Go.Proofs
namespace Md
section
variable {m : Md} {n : ByteArray} {t : api_Task} {k w : Nat}
theorem do_none (h : m.find n = none) : m.doE n t = 12 ∧ m.doA n t = ans0 ∧ m.doS n t = m := by
  have e : m.doE n t = 12 := by unfold doE; rw [h]
  exact ⟨e, by unfold doA; rw [if_pos (by rw [e]; decide)], by unfold doS; rw [if_pos (by rw [e]; decide)]⟩
theorem do_kind (h : m.find n = some k) (hk : t.Kind < 1 ∨ 3 < t.Kind) : m.doE n t = 17 ∧ m.doA n t = ans0 ∧ m.doS n t = m := by
  have e : m.doE n t = 17 := by unfold doE; rw [h]; show (if _ then _ else _) = _; rw [if_pos hk]
  exact ⟨e, by unfold doA; rw [if_pos (by rw [e]; decide)], by unfold doS; rw [if_pos (by rw [e]; decide)]⟩
theorem do_state (h : m.find n = some k) (hk : ¬ (t.Kind < 1 ∨ 3 < t.Kind)) (hs : (m.at k).isB = false ∧ (m.at k).hl = false ∧ (m.at k).susp = false) : m.doE n t = 20 ∧ m.doA n t = ans0 ∧ m.doS n t = m := by
  have e : m.doE n t = 20 := by unfold doE; rw [h]; show (if _ then _ else if _ then _ else _) = _; rw [if_neg hk, if_pos hs]
  exact ⟨e, by unfold doA; rw [if_pos (by rw [e]; decide)], by unfold doS; rw [if_pos (by rw [e]; decide)]⟩
theorem do_wait (h : m.find n = some k) (hk : ¬ (t.Kind < 1 ∨ 3 < t.Kind)) (hs : ¬ ((m.at k).isB = false ∧ (m.at k).hl = false ∧ (m.at k).susp = false)) (hw : m.wayk k t = some w) :
    m.doE n t = 0 ∧ m.doA n t = ⟨false, ((m.tks + 1 : Nat) : Int), 0, 0⟩ ∧ m.doS n t = { m with tks := m.tks + 1 }.addW w ⟨m.tks + 1, k, t⟩ := by
  have e : m.doE n t = 0 := by unfold doE; rw [h]; show (if _ then _ else if _ then _ else _) = _; rw [if_neg hk, if_neg hs]
  refine ⟨e, ?_, ?_⟩
  · unfold doA; rw [if_neg (by rw [e]; decide), h]; show (match m.wayk k t with | some _ => _ | none => _) = _; rw [hw]
  · unfold doS; rw [if_neg (by rw [e]; decide), h]; show (match m.wayk k t with | some w => _ | none => _) = _; rw [hw]
theorem do_go (h : m.find n = some k) (hk : ¬ (t.Kind < 1 ∨ 3 < t.Kind)) (hs : ¬ ((m.at k).isB = false ∧ (m.at k).hl = false ∧ (m.at k).susp = false)) (hw : m.wayk k t = none) :
    m.doE n t = 0 ∧ m.doA n t = ⟨true, 0, (m.carryk k t).1.1, (m.carryk k t).1.2⟩ ∧ m.doS n t = (m.carryk k t).2 := by
  have e : m.doE n t = 0 := by unfold doE; rw [h]; show (if _ then _ else if _ then _ else _) = _; rw [if_neg hk, if_neg hs]
  refine ⟨e, ?_, ?_⟩
  · unfold doA; rw [if_neg (by rw [e]; decide), h]; show (match m.wayk k t with | some _ => _ | none => _) = _; rw [hw]
  · unfold doS; rw [if_neg (by rw [e]; decide), h]; show (match m.wayk k t with | some w => _ | none => _) = _; rw [hw]
end
end Md
end Go.Proofs
set_option linter.unusedSimpArgs false
set_option maxRecDepth 20000
namespace Go.Proofs
open Go.VG
theorem CMap12_bld_40_ : ∀ w, (Instr.build 40 (#[] : Array (Nat × Value))).run Try.prog w = .ok (.agg #[.bool false, .int .i64 0, .int .u64 0, .int .i64 0]) w := fun w => by kernel_rfl
theorem CMap12_bld_94_0_1_2 (v0 : Int) (v1 : (Option Addr)) (v2 : Int) (v3 : Int) (v4 : Int) : ∀ w, (Instr.build 94 (#[(0, .int .i64 v0), (1, .pointer v1), (2, .agg #[.int .i64 v2, .int .i64 v3, .int .u64 v4])] : Array (Nat × Value))).run Try.prog w = .ok (.agg #[.int .i64 v0, .pointer v1, .int .i64 v2, .int .i64 v3, .int .u64 v4]) w := fun w => by kernel_rfl
theorem CMap12_bs_73_1_0 (v0 : Int) (v1 : (Option Addr)) (v2 : Int) (v3 : Int) (v4 : Int) : BuildsSlice Try.prog 73 1 [(0, .agg #[.int .i64 v0, .pointer v1, .int .i64 v2, .int .i64 v3, .int .u64 v4])] 94 [.int .i64 v0, .pointer v1, .int .i64 v2, .int .i64 v3, .int .u64 v4] := fun w => by kernel_rfl
theorem CMap12_bld_40_1 (v0 : Int) : ∀ w, (Instr.build 40 (#[(1, .int .i64 v0)] : Array (Nat × Value))).run Try.prog w = .ok (.agg #[.bool false, .int .i64 v0, .int .u64 0, .int .i64 0]) w := fun w => by kernel_rfl
theorem base_of {m : Md} {n : ByteArray} (h1 : m.dev n = none) (h2 : (m.find n).isSome = true) : ∃ k, m.find n = some k ∧ (m.at k).isB = true := by
  obtain ⟨k, hk⟩ := Option.isSome_iff_exists.1 h2
  refine ⟨k, hk, ?_⟩
  unfold Md.dev at h1
  rw [hk] at h1
  cases hb : (m.at k).isB with
  | true => rfl
  | false => simp [hb] at h1
theorem wayk_base {m : Md} {k : Nat} {t : api_Task} (h : (m.at k).isB = true) : m.wayk k t = none := Md.way_base h
theorem kin_some {k : Int} : (lookM kinL k).isSome = decide (¬ (k < 1 ∨ 3 < k)) := by
  rw [kin_look, Bool.eq_iff_iff, decide_eq_true_iff]
  by_cases h1 : k = 1
  · rw [if_pos h1]; simp; omega
  · by_cases h2 : k = 2
    · rw [if_neg h1, if_pos h2]; simp; omega
    · by_cases h3 : k = 3
      · rw [if_neg h1, if_neg h2, if_pos h3]; simp; omega
      · rw [if_neg h1, if_neg h2, if_neg h3]; simp; omega
theorem carry_nk {m : Md} {n : ByteArray} {k : Nat} {t : api_Task} (h : m.find n = some k) : m.carryN (m.dv.length + 1) n t = m.carryk k t := Md.carryN_dev h
theorem c_Do {W : World} {b : Nat} {c : MH} {m : Md} {n : ByteArray} {t : api_Task} (hwr : m.wr < 100000000) (htk : m.tks + 1 ≤ 100000) (hwl : ∀ i, (m.at i).wait.length < 100000) (hb : -9223372036854775808 ≤ t.At ∧ t.At ≤ 9223372036854775807) :
    CSpec Try.prog W 14 [ptr b 0, .string n, .agg #[.int .i64 t.Kind, .int .i64 t.At, .int .u64 (t.Value.toNat : Int)]] [blk b 79 (mCells c m), MapR c m] (fun _ : MH => .tuple #[.agg #[.bool (m.doA n t).Done, .int .i64 (m.doA n t).Ticket, .int .u64 ((m.doA n t).Value.toNat : Int), .int .i64 (m.doA n t).Error], .int .i64 (m.doE n t)]) (fun _ => True) (fun c2 F => blk b 79 (mCells c2 (m.doS n t)) :: MapR c2 (m.doS n t) :: F) := by
 refine CSpec.of_body Try.func14 rfl Try.ntmps14 rfl fun F => ?_
 show CJ _ _ _ _ _ _ (_ :: _ :: F)
 refine CJ_pure (MapR_wf foc1) fun hW => ?_
 have hO := hW.ok
 have hns := Md.names_len (m := m)
 have hln := hW.big.len
 refine sR <| oO <| O_box rfl rfl rfl fun b1 => oO <| O_alloc Try.zeroValue40 rfl rfl fun b2 => oA rfl rfl <| nT <| sR <| oM rfl rfl <| oP (P_nilCheck rfl) rfl <| oP (P_fieldAddr rfl ⟨_, _, _, Try.runUnderlying79, rfl, rfl, Try.sizeOf77, rfl⟩) rfl <| oV (V_load rfl foc2 rfl Try.isAgg77) rfl <| oM rfl rfl <| oO (O_lookD rfl rfl foc3 rfl (fun hd4 => ?_) (fun k3 hd4 => ?_))
 ·
  refine oA rfl rfl <| nT <| CJ_seq <| AJ_startH 0 (by kernel_rfl) rfl <| aN 0 1 rfl rfl (P_move rfl) rfl <| aN 2 5 rfl rfl (P_fieldAddr rfl ⟨_, _, _, Try.runUnderlying44, rfl, rfl, Try.sizeOf3, rfl⟩) rfl <| aV 3 13 rfl rfl (GY_none rfl) (t0_ (t0_ (t0_ (t0_ eR)))) (V_load rfl foc1 rfl Try.isAgg3) rfl <| AJ_op 1 15 rfl (by kernel_rfl) rfl (GY_none rfl) <| O_call (c_kinds) rfl Try.call40 Dels.nil rfl fun _ hc6 => ⟨fun _ => (t1_ (t1_ (t1_ (t1_ (eD eR))))), ?_⟩
  refine AJ_op 4 31 rfl (by kernel_rfl) rfl (GY_none rfl) <| OJ_V (VJ_eq (V_lookup2 (M := mKin b) (k := t.Kind) (out := (fun o => match o with | some f => .func (.func f) #[ptr b 0] #[] | none => .nilFunc)) rfl rfl foc0 ok_mKin Try.zeroValue90 (fun _ => rfl) rfl) (show Value.tuple #[(fun o => match o with | some f => .func (.func f) #[ptr b 0] #[] | none => .nilFunc) (lookM kinL t.Kind), .bool (decide (¬ (t.Kind < 1 ∨ 3 < t.Kind)))] = Value.tuple #[(fun o => match o with | some f => .func (.func f) #[ptr b 0] #[] | none => .nilFunc) (lookM kinL t.Kind), .bool (lookM kinL t.Kind).isSome] by rw [kin_some])) rfl <| ⟨fun _ => (t1_ (t1_ (t1_ (t1_ (eD eR))))), ?_⟩
  refine aN 5 63 rfl rfl (P_move rfl) rfl <| aN 6 127 rfl rfl (P_extract rfl rfl) rfl <| aN 7 255 rfl rfl (P_extract rfl rfl) rfl <| aN 8 511 rfl rfl (P_assign rfl) rfl <| aN 9 1023 rfl rfl (P_assign rfl) rfl <| aD <| CJ_seq <| CJ_block <| sR <| oM rfl rfl <| oP (P_nilCheck rfl) rfl <| oP (P_fieldAddr rfl ⟨_, _, _, Try.runUnderlying79, rfl, rfl, Try.sizeOf45, rfl⟩) rfl <| oV (V_load rfl foc3 rfl Try.isAgg45) rfl <| oM rfl rfl <| oO <| O_call (L_slices_Contains_string rdOrd (contains_eq (by first | assumption | omega))) rfl Try.call30 (Dels.cons del4 Dels.nil) rfl fun _ hc7 => oP (P_not rfl) rfl <| oA rfl rfl <| nT ?_
  first | (refine CJ_condD rfl (fun hg1 => ?_) (fun hg1 => ?_)) | (refine CJ_condN rfl (fun hg1 => ?_) (fun hg1 => ?_)) | (refine CJ_cond rfl (fun hg1 => ?_) (fun hg1 => ?_))
  ·
   refine sR <| oP (P_build rfl (CMap12_bld_40_)) rfl <| oO <| O_storeN rfl rfl foc2 Try.sizeOf40 rfl rfl rfl <| oA rfl rfl <| nT <| CJ_ret <| QJ_block_ret <| QJ_then_ret <| QJ_end (resA2 Try.results14 (RV_cellN rfl foc2 Try.isAgg40 Try.sizeOf40 rfl rfl) (RV_tmp rfl)) ?_
   have hfn : m.find n = none := by
     cases hf : m.find n with
     | none => rfl
     | some i => exfalso; simp_all [Md.memS_find]
   have e1 := Md.do_none (t := t) hfn
   rw [e1.2.2]
   refine CSpec.close c ?_ ?_ (t4_ (t0_ (eD (eD (eD eR)))))
   · rw [e1.1, e1.2.1]; rfl
   · trivial
  ·
   refine CJ_seq ?_
   have hfs : (m.find n).isSome = true := by
     have hz : (!memS m.names n) = false := by assumption
     simpa [Md.memS_find] using hz
   obtain ⟨kf, hfk, hfB⟩ := base_of hd4 hfs
   refine CJ_region <| oM rfl rfl <| oP (P_not rfl) rfl <| oA rfl rfl <| nT ?_
   first | (refine CJ_condD rfl (fun hg2 => ?_) (fun hg2 => ?_)) | (refine CJ_condN rfl (fun hg2 => ?_) (fun hg2 => ?_)) | (refine CJ_cond rfl (fun hg2 => ?_) (fun hg2 => ?_))
   ·
    have hkd : t.Kind < 1 ∨ 3 < t.Kind := Decidable.byContradiction fun hq => by simp [hq] at hg2
    refine sR <| oP (P_build rfl (CMap12_bld_40_)) rfl <| oO <| O_storeN rfl rfl foc2 Try.sizeOf40 rfl rfl rfl <| oA rfl rfl <| nT <| CJ_ret <| QJ_block_ret <| QJ_then_ret <| QJ_end (resA2 Try.results14 (RV_cellN rfl foc2 Try.isAgg40 Try.sizeOf40 rfl rfl) (RV_tmp rfl)) ?_
    have e1 := Md.do_kind (t := t) hfk hkd
    rw [e1.2.2]
    refine CSpec.close c ?_ ?_ (t4_ (t0_ (eD (eD (eD eR)))))
    · rw [e1.1, e1.2.1]; rfl
    · trivial
   ·
    have hkd : ¬ (t.Kind < 1 ∨ 3 < t.Kind) := fun hq => by simp [hq] at hg2
    refine sR <| oM rfl rfl <| oP (P_neqNN rfl rfl Try.underlying72) rfl <| oM rfl rfl <| RJ_gn (GY_no rfl rfl rfl rfl) rfl rfl <| RJ_gn (GY_no rfl rfl rfl rfl) rfl rfl <| RJ_gn (GY_no rfl rfl rfl rfl) rfl rfl <| RJ_gn (GY_no rfl rfl rfl rfl) rfl rfl <| RJ_gn (GY_no rfl rfl rfl rfl) rfl rfl <| oP (P_pickF rfl rfl rfl) rfl <| oM rfl rfl <| RJ_gn (GY_no rfl rfl rfl rfl) rfl rfl <| RJ_gn (GY_no rfl rfl rfl rfl) rfl rfl <| RJ_gn (GY_no rfl rfl rfl rfl) rfl rfl <| RJ_gn (GY_no rfl rfl rfl rfl) rfl rfl <| RJ_gn (GY_no rfl rfl rfl rfl) rfl rfl <| oP (P_pickF rfl rfl rfl) rfl <| oA rfl rfl <| nT <| CJ_condF rfl rfl <| CJ_skip <| QJ_block_normal <| QJ_then <| CJ_seq <| CJ_seq ?_
    have hst : ¬ ((m.at kf).isB = false ∧ (m.at kf).hl = false ∧ (m.at kf).susp = false) := by rw [hfB]; simp
    have hw : m.wayk kf t = none := wayk_base hfB
    refine CJ_region <| oM rfl rfl <| oP (P_neqNN rfl rfl Try.underlying72) rfl <| nT <| CJ_condF rfl rfl <| kT <| sR <| oM rfl rfl <| oM rfl rfl <| oV (V_loadN rfl foc3 Try.isAgg44 Try.sizeOf44 rfl rfl) rfl <| oO <| O_call ((c_answer (t := t) hwr hb hfs (by omega))) rfl Try.call38 (Dels.cons del4 (Dels.cons del0 Dels.nil)) rfl fun c9 h9 => oO <| O_storeN rfl rfl foc3 Try.sizeOf40 rfl rfl rfl <| oA rfl rfl <| nT <| CJ_ret <| QJ_end (resA2 Try.results14 (RV_cellN rfl foc3 Try.isAgg40 Try.sizeOf40 rfl rfl) (RV_tmp rfl)) ?_
    have e1 := Md.do_go (t := t) hfk hkd hst hw
    rw [e1.2.2]
    have e2 := carry_nk (t := t) hfk
    have e3 : ansN m n t = ⟨true, 0, (m.carryk kf t).1.1, (m.carryk kf t).1.2⟩ := by unfold ansN; rw [e2]
    refine CSpec.close c9 ?_ ?_ (Ent.takeC del0 (by rw [← e2]; exact congrArg (blk b 79) h9.1.symm) (Ent.takeC del0 (by rw [e2]) (eD (eD (eD eR)))))
    · rw [e1.1, e1.2.1, ← e3]; rfl
    · trivial
 ·
  refine oA rfl rfl <| nT <| CJ_seq <| AJ_startH 0 (by kernel_rfl) rfl <| aN 0 1 rfl rfl (P_move rfl) rfl <| aN 2 5 rfl rfl (P_fieldAddr rfl ⟨_, _, _, Try.runUnderlying44, rfl, rfl, Try.sizeOf3, rfl⟩) rfl <| aV 3 13 rfl rfl (GY_none rfl) (t0_ (t0_ (t0_ (t0_ eR)))) (V_load rfl foc1 rfl Try.isAgg3) rfl <| AJ_op 1 15 rfl (by kernel_rfl) rfl (GY_none rfl) <| O_call (c_kinds) rfl Try.call40 Dels.nil rfl fun _ hc10 => ⟨fun _ => (t1_ (t1_ (t1_ (t1_ (eD eR))))), ?_⟩
  refine AJ_op 4 31 rfl (by kernel_rfl) rfl (GY_none rfl) <| OJ_V (VJ_eq (V_lookup2 (M := mKin b) (k := t.Kind) (out := (fun o => match o with | some f => .func (.func f) #[ptr b 0] #[] | none => .nilFunc)) rfl rfl foc0 ok_mKin Try.zeroValue90 (fun _ => rfl) rfl) (show Value.tuple #[(fun o => match o with | some f => .func (.func f) #[ptr b 0] #[] | none => .nilFunc) (lookM kinL t.Kind), .bool (decide (¬ (t.Kind < 1 ∨ 3 < t.Kind)))] = Value.tuple #[(fun o => match o with | some f => .func (.func f) #[ptr b 0] #[] | none => .nilFunc) (lookM kinL t.Kind), .bool (lookM kinL t.Kind).isSome] by rw [kin_some])) rfl <| ⟨fun _ => (t1_ (t1_ (t1_ (t1_ (eD eR))))), ?_⟩
  refine aN 5 63 rfl rfl (P_move rfl) rfl <| aN 6 127 rfl rfl (P_extract rfl rfl) rfl <| aN 7 255 rfl rfl (P_extract rfl rfl) rfl <| aN 8 511 rfl rfl (P_assign rfl) rfl <| aN 9 1023 rfl rfl (P_assign rfl) rfl <| aD <| CJ_seq <| CJ_block <| sR <| oM rfl rfl <| oP (P_nilCheck rfl) rfl <| oP (P_fieldAddr rfl ⟨_, _, _, Try.runUnderlying79, rfl, rfl, Try.sizeOf45, rfl⟩) rfl <| oV (V_load rfl foc3 rfl Try.isAgg45) rfl <| oM rfl rfl <| oO <| O_call (L_slices_Contains_string rdOrd (contains_eq (by first | assumption | omega))) rfl Try.call30 (Dels.cons del4 Dels.nil) rfl fun _ hc11 => oP (P_not rfl) rfl <| oA rfl rfl <| nT ?_
  first | (refine CJ_condD rfl (fun hg3 => ?_) (fun hg3 => ?_)) | (refine CJ_condN rfl (fun hg3 => ?_) (fun hg3 => ?_)) | (refine CJ_cond rfl (fun hg3 => ?_) (fun hg3 => ?_))
  ·
   refine sR <| oP (P_build rfl (CMap12_bld_40_)) rfl <| oO <| O_storeN rfl rfl foc2 Try.sizeOf40 rfl rfl rfl <| oA rfl rfl <| nT <| CJ_ret <| QJ_block_ret <| QJ_then_ret <| QJ_end (resA2 Try.results14 (RV_cellN rfl foc2 Try.isAgg40 Try.sizeOf40 rfl rfl) (RV_tmp rfl)) ?_
   have hfn : m.find n = none := by
     cases hf : m.find n with
     | none => rfl
     | some i => exfalso; simp_all [Md.memS_find]
   have e1 := Md.do_none (t := t) hfn
   rw [e1.2.2]
   refine CSpec.close c ?_ ?_ (t4_ (t0_ (eD (eD (eD eR)))))
   · rw [e1.1, e1.2.1]; rfl
   · trivial
  ·
   refine CJ_seq ?_
   have hfs : (m.find n).isSome = true := by
     have hz : (!memS m.names n) = false := by assumption
     simpa [Md.memS_find] using hz
   have hdk := Md.dev_is hd4
   have hfk := hdk.2
   refine CJ_region <| oM rfl rfl <| oP (P_not rfl) rfl <| oA rfl rfl <| nT ?_
   first | (refine CJ_condD rfl (fun hg4 => ?_) (fun hg4 => ?_)) | (refine CJ_condN rfl (fun hg4 => ?_) (fun hg4 => ?_)) | (refine CJ_cond rfl (fun hg4 => ?_) (fun hg4 => ?_))
   ·
    have hkd : t.Kind < 1 ∨ 3 < t.Kind := Decidable.byContradiction fun hq => by simp [hq] at hg4
    refine sR <| oP (P_build rfl (CMap12_bld_40_)) rfl <| oO <| O_storeN rfl rfl foc2 Try.sizeOf40 rfl rfl rfl <| oA rfl rfl <| nT <| CJ_ret <| QJ_block_ret <| QJ_then_ret <| QJ_end (resA2 Try.results14 (RV_cellN rfl foc2 Try.isAgg40 Try.sizeOf40 rfl rfl) (RV_tmp rfl)) ?_
    have e1 := Md.do_kind (t := t) hfk hkd
    rw [e1.2.2]
    refine CSpec.close c ?_ ?_ (t4_ (t0_ (eD (eD (eD eR)))))
    · rw [e1.1, e1.2.1]; rfl
    · trivial
   ·
    have hkd : ¬ (t.Kind < 1 ∨ 3 < t.Kind) := fun hq => by simp [hq] at hg4
    refine sR <| oM rfl rfl <| oP (P_neqPN rfl rfl Try.underlying72) rfl <| oM rfl rfl <| gP (GY_yes rfl rfl rfl rfl) (P_move rfl) rfl <| gP (GY_yes rfl rfl rfl rfl) (P_nilCheck rfl) rfl <| gP (GY_yes rfl rfl rfl rfl) (P_fieldAddr rfl ⟨_, _, _, Try.runUnderlying75, rfl, rfl, Try.sizeOf4, rfl⟩) rfl <| gV (GY_yes rfl rfl rfl rfl) (VJ_ent (Ent.trans (t0_ eR) (MapR_dev (Md.dev_is hd4).1)) (V_load rfl foc0 rfl Try.isAgg4)) rfl <| gP (GY_yes rfl rfl rfl rfl) (P_not rfl) rfl <| oP (P_pickT rfl rfl rfl) rfl <| oM rfl rfl ?_
    first | (refine RJ_splitD 49 rfl (fun hg5B hg5 => ?_) (fun hg5B hg5 => ?_)) | (refine RJ_splitN 49 rfl (fun hg5B hg5 => ?_) (fun hg5B hg5 => ?_)) | (refine RJ_split 49 rfl (fun hg5B => ?_) (fun hg5B => ?_))
    ·
     refine gP (GY_yes rfl rfl rfl hg5B) (P_move rfl) rfl <| gP (GY_yes rfl rfl rfl hg5B) (P_nilCheck rfl) rfl <| gP (GY_yes rfl rfl rfl hg5B) (P_fieldAddr rfl ⟨_, _, _, Try.runUnderlying75, rfl, rfl, Try.sizeOf4, rfl⟩) rfl <| gV (GY_yes rfl rfl rfl hg5B) (VJ_ent (Ent.trans (t0_ eR) (MapR_dev (Md.dev_is hd4).1)) (V_load rfl foc0 rfl Try.isAgg4)) rfl <| gP (GY_yes rfl rfl rfl hg5B) (P_not rfl) rfl <| oP (P_pickT rfl hg5B rfl) rfl <| oA rfl rfl <| nT ?_
     first | (refine CJ_condD rfl (fun hg6 => ?_) (fun hg6 => ?_)) | (refine CJ_condN rfl (fun hg6 => ?_) (fun hg6 => ?_)) | (refine CJ_cond rfl (fun hg6 => ?_) (fun hg6 => ?_))
     ·
      refine sR <| oP (P_build rfl (CMap12_bld_40_)) rfl <| oO <| O_storeN rfl rfl foc2 Try.sizeOf40 rfl rfl rfl <| oA rfl rfl <| nT <| CJ_ret <| QJ_block_ret <| QJ_then_ret <| QJ_end (resA2 Try.results14 (RV_cellN rfl foc2 Try.isAgg40 Try.sizeOf40 rfl rfl) (RV_tmp rfl)) ?_
      have e1 := Md.do_state (t := t) hfk hkd ⟨(Md.dev_is hd4).1.2.2, by simp_all, by simp_all⟩
      rw [e1.2.2]
      refine CSpec.close c ?_ ?_ (t4_ (t0_ (eD (eD (eD eR)))))
      · rw [e1.1, e1.2.1]; rfl
      · trivial
     ·
      refine CJ_skip <| QJ_block_normal <| QJ_then <| CJ_seq <| CJ_seq ?_
      have hst : ¬ ((m.at k3).isB = false ∧ (m.at k3).hl = false ∧ (m.at k3).susp = false) := by simp_all
      refine CJ_region <| oM rfl rfl <| oP (P_neqPN rfl rfl Try.underlying72) rfl <| nT <| CJ_condT rfl rfl <| sR <| oM rfl rfl <| oM rfl rfl <| oV (V_loadN rfl foc3 Try.isAgg44 Try.sizeOf44 rfl rfl) rfl <| oO <| O_call (c_stop (t := t) (Md.dev_is hd4).1) rfl Try.call34 (Dels.cons del4 (Dels.cons del0 Dels.nil)) rfl fun _ hc12 => oA rfl rfl <| nT <| sR <| oM rfl rfl <| oP (P_neqO rfl rfl Try.underlying72) rfl <| nT ?_
      first | (refine CJ_condD rfl (fun hg7 => ?_) (fun hg7 => ?_)) | (refine CJ_condN rfl (fun hg7 => ?_) (fun hg7 => ?_)) | (refine CJ_cond rfl (fun hg7 => ?_) (fun hg7 => ?_))
      ·
       refine CJ_seq ?_
       obtain ⟨w, hw0⟩ := Option.isSome_iff_exists.1 (show (m.wayk k3 t).isSome = true by assumption)
       have hw := hw0
       have hwD : m.isD w := by have := Md.way_is hO _ _ _ _ hdk.1.1 hdk.1.2.1 hw0; exact ⟨this.1, this.2.1, this.2.2.1⟩
       rw [hw0]
       refine CJ_region <| oM rfl rfl <| oP (P_nilCheck rfl) rfl <| oP (P_fieldAddr rfl ⟨_, _, _, Try.runUnderlying79, rfl, rfl, Try.sizeOf3, rfl⟩) rfl <| oV (V_load rfl foc0 rfl Try.isAgg3) rfl <| oP (P_add rfl rfl (by omega)) rfl <| oP (P_nilCheck rfl) rfl <| oP (P_fieldAddr rfl ⟨_, _, _, Try.runUnderlying79, rfl, rfl, Try.sizeOf3, rfl⟩) rfl <| oO <| O_store rfl rfl foc0 rfl rfl Try.sizeOf3 <| nT <| CJ_seq <| CJ_ent (Ent.trans (t1_ eR) (MapR_dev hwD)) <| AJ_startH 73728 (by kernel_rfl) rfl <| aN 0 1 rfl rfl (P_move rfl) rfl <| aN 1 3 rfl rfl (P_move rfl) rfl <| aN 2 7 rfl rfl (P_nilCheck rfl) rfl <| aN 3 15 rfl rfl (P_fieldAddr rfl ⟨_, _, _, Try.runUnderlying75, rfl, rfl, Try.sizeOf73, rfl⟩) rfl <| aV 4 31 rfl rfl (GY_none rfl) (t0_ (t0_ (t0_ (t0_ (t0_ (t0_ (t0_ (t0_ (t0_ eR))))))))) (V_load rfl foc0 rfl Try.isAgg73) rfl <| aN 5 63 rfl rfl (P_move rfl) rfl <| aN 6 127 rfl rfl (P_nilCheck rfl) rfl <| aN 7 255 rfl rfl (P_fieldAddr rfl ⟨_, _, _, Try.runUnderlying79, rfl, rfl, Try.sizeOf3, rfl⟩) rfl <| aV 8 511 rfl rfl (GY_none rfl) (t0_ (t0_ (t0_ (t0_ (t0_ (t0_ (t0_ (t0_ (t0_ eR))))))))) (V_load rfl foc5 rfl Try.isAgg3) rfl <| aN 9 1023 rfl rfl (P_move rfl) rfl ?_
       refine aV 10 2047 rfl rfl (GY_none rfl) (t0_ (t0_ (t0_ (t0_ (t0_ (t0_ (t0_ (t0_ (t0_ eR))))))))) (V_loadN rfl foc8 Try.isAgg44 Try.sizeOf44 rfl rfl) rfl <| aN 11 4095 rfl rfl (P_build rfl (CMap12_bld_94_0_1_2 _ _ _ _ _)) rfl <| AJ_op 12 8191 rfl (by kernel_rfl) rfl (GY_none rfl) <| O_buildSlice rfl (CMap12_bs_73_1_0 _ _ _ _ _) rfl fun b13 => ⟨fun _ => (t1_ (t1_ (t1_ (t1_ (t1_ (t1_ (t1_ (t1_ (t1_ (eD eR)))))))))), ?_⟩
       refine AJ_op 13 16383 rfl (by kernel_rfl) rfl (GY_none rfl) <| O_append (t := tyErr) (bytes := 40) rfl rfl del4 foc0 (Reads.lit (t := tyErr) (ys := [⟨((m.tks + 1 : Nat) : Int), c.bs k3, t⟩]) rfl rfl (by decide) (by decide) rfl) Try.underlying73 ok_tyErr (by have h8 := hW.big.wl w; simp only [List.length_append, List.length_map, List.length_cons, List.length_nil, maxLen] at *; omega) (by have h8 := hW.big.wl w; simp only [List.length_append, List.length_map, List.length_cons, List.length_nil, maxLen] at *; omega) rfl fun p14 c15 => ⟨fun h => absurd h (by decide), ?_⟩
       refine aN 14 32767 rfl rfl (P_nilCheck rfl) rfl <| aN 15 65535 rfl rfl (P_fieldAddr rfl ⟨_, _, _, Try.runUnderlying75, rfl, rfl, Try.sizeOf73, rfl⟩) rfl <| AJ_op 16 131071 rfl (by kernel_rfl) rfl (GY_none rfl) <| O_store rfl rfl foc2 rfl rfl Try.sizeOf73 <| ⟨fun h => absurd h (by decide), ?_⟩
       refine aD <| sR <| oM rfl rfl <| oP (P_nilCheck rfl) rfl <| oP (P_fieldAddr rfl ⟨_, _, _, Try.runUnderlying79, rfl, rfl, Try.sizeOf3, rfl⟩) rfl <| oV (V_load rfl foc6 rfl Try.isAgg3) rfl <| oP (P_build rfl (CMap12_bld_40_1 _)) rfl <| oO <| O_storeN rfl rfl foc8 Try.sizeOf40 rfl rfl rfl <| oA rfl rfl <| nT <| CJ_ret <| QJ_then_ret <| QJ_end (resA2 Try.results14 (RV_cellN rfl foc8 Try.isAgg40 Try.sizeOf40 rfl rfl) (RV_tmp rfl)) ?_
       have e1 := Md.do_wait (t := t) hfk hkd hst hw
       rw [e1.2.2]
       refine CSpec.close (c.put w { c.hd w with wt := ⟨p14, _, c15⟩ } { m.at w with wait := (m.at w).wait ++ [⟨m.tks + 1, k3, t⟩] }) ?_ ?_ (Ent.trans (Ent.trans (t2_ (t2_ (t2_ (Ent.takeC del0 (by rw [List.map_append]; rfl) (t1_ eR))))) (MapR_putD (h' := { c.hd w with wt := ⟨p14, _, c15⟩ }) (d' := { m.at w with wait := (m.at w).wait ++ [⟨m.tks + 1, k3, t⟩] }) (m' := { m with tks := m.tks + 1 }.addW w ⟨m.tks + 1, k3, t⟩) hW hwD rfl hwD.2.2 rfl rfl rfl (Md.ok_addW hO hwD ⟨hdk.1.1, hdk.1.2.1, hdk.1.2.2, by show 1 ≤ t.Kind; omega, by show t.Kind ≤ 3; omega, (show inT t from hb)⟩) (hW.big.set hwD.1 rfl (by show ((m.at w).wait ++ _).length ≤ _; rw [List.length_append]; have := hwl w; simp; omega) htk hW.big.told hW.big.wr) rfl rfl)) (t2_ (t0_ (eD (eD (eD (eD eR)))))))
       · rw [e1.1, e1.2.1]; rfl
       · trivial
      ·
       refine kT <| CJ_seq ?_
       have hw : m.wayk k3 t = none := by simpa using (show (m.wayk k3 t).isSome = false by assumption)
       refine CJ_region <| oM rfl rfl <| oM rfl rfl <| oV (V_loadN rfl foc4 Try.isAgg44 Try.sizeOf44 rfl rfl) rfl <| oO <| O_call ((c_answer (t := t) hwr hb hfs (by omega))) rfl Try.call38 (Dels.cons del0 (Dels.cons del0 Dels.nil)) rfl fun c9 h9 => oO <| O_storeN rfl rfl foc3 Try.sizeOf40 rfl rfl rfl <| oA rfl rfl <| nT <| CJ_ret <| QJ_end (resA2 Try.results14 (RV_cellN rfl foc3 Try.isAgg40 Try.sizeOf40 rfl rfl) (RV_tmp rfl)) ?_
       have e1 := Md.do_go (t := t) hfk hkd hst hw
       rw [e1.2.2]
       have e2 := carry_nk (t := t) hfk
       have e3 : ansN m n t = ⟨true, 0, (m.carryk k3 t).1.1, (m.carryk k3 t).1.2⟩ := by unfold ansN; rw [e2]
       refine CSpec.close c9 ?_ ?_ (Ent.takeC del0 (by rw [← e2]; exact congrArg (blk b 79) h9.1.symm) (Ent.takeC del0 (by rw [e2]) (eD (eD (eD eR)))))
       · rw [e1.1, e1.2.1, ← e3]; rfl
       · trivial
    ·
     refine RJ_gn (GY_no rfl rfl rfl hg5B) rfl rfl <| RJ_gn (GY_no rfl rfl rfl hg5B) rfl rfl <| RJ_gn (GY_no rfl rfl rfl hg5B) rfl rfl <| RJ_gn (GY_no rfl rfl rfl hg5B) rfl rfl <| RJ_gn (GY_no rfl rfl rfl hg5B) rfl rfl <| oP (P_pickF rfl hg5B rfl) rfl <| oA rfl rfl <| nT <| CJ_condF rfl rfl <| CJ_skip <| QJ_block_normal <| QJ_then <| CJ_seq <| CJ_seq ?_
     have hst : ¬ ((m.at k3).isB = false ∧ (m.at k3).hl = false ∧ (m.at k3).susp = false) := by simp_all
     refine CJ_region <| oM rfl rfl <| oP (P_neqPN rfl rfl Try.underlying72) rfl <| nT <| CJ_condT rfl rfl <| sR <| oM rfl rfl <| oM rfl rfl <| oV (V_loadN rfl foc3 Try.isAgg44 Try.sizeOf44 rfl rfl) rfl <| oO <| O_call (c_stop (t := t) (Md.dev_is hd4).1) rfl Try.call34 (Dels.cons del4 (Dels.cons del0 Dels.nil)) rfl fun _ hc17 => oA rfl rfl <| nT <| sR <| oM rfl rfl <| oP (P_neqO rfl rfl Try.underlying72) rfl <| nT ?_
     first | (refine CJ_condD rfl (fun hg8 => ?_) (fun hg8 => ?_)) | (refine CJ_condN rfl (fun hg8 => ?_) (fun hg8 => ?_)) | (refine CJ_cond rfl (fun hg8 => ?_) (fun hg8 => ?_))
     ·
      refine CJ_seq ?_
      obtain ⟨w, hw0⟩ := Option.isSome_iff_exists.1 (show (m.wayk k3 t).isSome = true by assumption)
      have hw := hw0
      have hwD : m.isD w := by have := Md.way_is hO _ _ _ _ hdk.1.1 hdk.1.2.1 hw0; exact ⟨this.1, this.2.1, this.2.2.1⟩
      rw [hw0]
      refine CJ_region <| oM rfl rfl <| oP (P_nilCheck rfl) rfl <| oP (P_fieldAddr rfl ⟨_, _, _, Try.runUnderlying79, rfl, rfl, Try.sizeOf3, rfl⟩) rfl <| oV (V_load rfl foc0 rfl Try.isAgg3) rfl <| oP (P_add rfl rfl (by omega)) rfl <| oP (P_nilCheck rfl) rfl <| oP (P_fieldAddr rfl ⟨_, _, _, Try.runUnderlying79, rfl, rfl, Try.sizeOf3, rfl⟩) rfl <| oO <| O_store rfl rfl foc0 rfl rfl Try.sizeOf3 <| nT <| CJ_seq <| CJ_ent (Ent.trans (t1_ eR) (MapR_dev hwD)) <| AJ_startH 73728 (by kernel_rfl) rfl <| aN 0 1 rfl rfl (P_move rfl) rfl <| aN 1 3 rfl rfl (P_move rfl) rfl <| aN 2 7 rfl rfl (P_nilCheck rfl) rfl <| aN 3 15 rfl rfl (P_fieldAddr rfl ⟨_, _, _, Try.runUnderlying75, rfl, rfl, Try.sizeOf73, rfl⟩) rfl <| aV 4 31 rfl rfl (GY_none rfl) (t0_ (t0_ (t0_ (t0_ (t0_ (t0_ (t0_ (t0_ (t0_ eR))))))))) (V_load rfl foc0 rfl Try.isAgg73) rfl <| aN 5 63 rfl rfl (P_move rfl) rfl <| aN 6 127 rfl rfl (P_nilCheck rfl) rfl <| aN 7 255 rfl rfl (P_fieldAddr rfl ⟨_, _, _, Try.runUnderlying79, rfl, rfl, Try.sizeOf3, rfl⟩) rfl <| aV 8 511 rfl rfl (GY_none rfl) (t0_ (t0_ (t0_ (t0_ (t0_ (t0_ (t0_ (t0_ (t0_ eR))))))))) (V_load rfl foc5 rfl Try.isAgg3) rfl <| aN 9 1023 rfl rfl (P_move rfl) rfl ?_
      refine aV 10 2047 rfl rfl (GY_none rfl) (t0_ (t0_ (t0_ (t0_ (t0_ (t0_ (t0_ (t0_ (t0_ eR))))))))) (V_loadN rfl foc8 Try.isAgg44 Try.sizeOf44 rfl rfl) rfl <| aN 11 4095 rfl rfl (P_build rfl (CMap12_bld_94_0_1_2 _ _ _ _ _)) rfl <| AJ_op 12 8191 rfl (by kernel_rfl) rfl (GY_none rfl) <| O_buildSlice rfl (CMap12_bs_73_1_0 _ _ _ _ _) rfl fun b18 => ⟨fun _ => (t1_ (t1_ (t1_ (t1_ (t1_ (t1_ (t1_ (t1_ (t1_ (eD eR)))))))))), ?_⟩
      refine AJ_op 13 16383 rfl (by kernel_rfl) rfl (GY_none rfl) <| O_append (t := tyErr) (bytes := 40) rfl rfl del4 foc0 (Reads.lit (t := tyErr) (ys := [⟨((m.tks + 1 : Nat) : Int), c.bs k3, t⟩]) rfl rfl (by decide) (by decide) rfl) Try.underlying73 ok_tyErr (by have h8 := hW.big.wl w; simp only [List.length_append, List.length_map, List.length_cons, List.length_nil, maxLen] at *; omega) (by have h8 := hW.big.wl w; simp only [List.length_append, List.length_map, List.length_cons, List.length_nil, maxLen] at *; omega) rfl fun p19 c20 => ⟨fun h => absurd h (by decide), ?_⟩
      refine aN 14 32767 rfl rfl (P_nilCheck rfl) rfl <| aN 15 65535 rfl rfl (P_fieldAddr rfl ⟨_, _, _, Try.runUnderlying75, rfl, rfl, Try.sizeOf73, rfl⟩) rfl <| AJ_op 16 131071 rfl (by kernel_rfl) rfl (GY_none rfl) <| O_store rfl rfl foc2 rfl rfl Try.sizeOf73 <| ⟨fun h => absurd h (by decide), ?_⟩
      refine aD <| sR <| oM rfl rfl <| oP (P_nilCheck rfl) rfl <| oP (P_fieldAddr rfl ⟨_, _, _, Try.runUnderlying79, rfl, rfl, Try.sizeOf3, rfl⟩) rfl <| oV (V_load rfl foc6 rfl Try.isAgg3) rfl <| oP (P_build rfl (CMap12_bld_40_1 _)) rfl <| oO <| O_storeN rfl rfl foc8 Try.sizeOf40 rfl rfl rfl <| oA rfl rfl <| nT <| CJ_ret <| QJ_then_ret <| QJ_end (resA2 Try.results14 (RV_cellN rfl foc8 Try.isAgg40 Try.sizeOf40 rfl rfl) (RV_tmp rfl)) ?_
      have e1 := Md.do_wait (t := t) hfk hkd hst hw
      rw [e1.2.2]
      refine CSpec.close (c.put w { c.hd w with wt := ⟨p19, _, c20⟩ } { m.at w with wait := (m.at w).wait ++ [⟨m.tks + 1, k3, t⟩] }) ?_ ?_ (Ent.trans (Ent.trans (t2_ (t2_ (t2_ (Ent.takeC del0 (by rw [List.map_append]; rfl) (t1_ eR))))) (MapR_putD (h' := { c.hd w with wt := ⟨p19, _, c20⟩ }) (d' := { m.at w with wait := (m.at w).wait ++ [⟨m.tks + 1, k3, t⟩] }) (m' := { m with tks := m.tks + 1 }.addW w ⟨m.tks + 1, k3, t⟩) hW hwD rfl hwD.2.2 rfl rfl rfl (Md.ok_addW hO hwD ⟨hdk.1.1, hdk.1.2.1, hdk.1.2.2, by show 1 ≤ t.Kind; omega, by show t.Kind ≤ 3; omega, (show inT t from hb)⟩) (hW.big.set hwD.1 rfl (by show ((m.at w).wait ++ _).length ≤ _; rw [List.length_append]; have := hwl w; simp; omega) htk hW.big.told hW.big.wr) rfl rfl)) (t2_ (t0_ (eD (eD (eD (eD eR)))))))
      · rw [e1.1, e1.2.1]; rfl
      · trivial
     ·
      refine kT <| CJ_seq ?_
      have hw : m.wayk k3 t = none := by simpa using (show (m.wayk k3 t).isSome = false by assumption)
      refine CJ_region <| oM rfl rfl <| oM rfl rfl <| oV (V_loadN rfl foc4 Try.isAgg44 Try.sizeOf44 rfl rfl) rfl <| oO <| O_call ((c_answer (t := t) hwr hb hfs (by omega))) rfl Try.call38 (Dels.cons del0 (Dels.cons del0 Dels.nil)) rfl fun c9 h9 => oO <| O_storeN rfl rfl foc3 Try.sizeOf40 rfl rfl rfl <| oA rfl rfl <| nT <| CJ_ret <| QJ_end (resA2 Try.results14 (RV_cellN rfl foc3 Try.isAgg40 Try.sizeOf40 rfl rfl) (RV_tmp rfl)) ?_
      have e1 := Md.do_go (t := t) hfk hkd hst hw
      rw [e1.2.2]
      have e2 := carry_nk (t := t) hfk
      have e3 : ansN m n t = ⟨true, 0, (m.carryk k3 t).1.1, (m.carryk k3 t).1.2⟩ := by unfold ansN; rw [e2]
      refine CSpec.close c9 ?_ ?_ (Ent.takeC del0 (by rw [← e2]; exact congrArg (blk b 79) h9.1.symm) (Ent.takeC del0 (by rw [e2]) (eD (eD (eD eR)))))
      · rw [e1.1, e1.2.1, ← e3]; rfl
      · trivial
end Go.Proofs
namespace Go.Proofs
namespace Md
section
variable {m : Md} {k : Nat} {n : ByteArray}
theorem reach_step {f : Nat} {i : Nat} (hf : m.find n = some i) : m.reach k (f + 1) n = (decide (i = k) || (tbl (m.at i)).any fun t => decide (t.On ≠ noN) && m.reach k f t.On) := by
  rw [reach, hf]; rfl
theorem reach_none {f : Nat} (hf : m.find n = none) : m.reach k f n = false := by
  cases f with
  | zero => rfl
  | succ f => rw [reach, hf]
def Rch (m : Md) (k : Nat) (n : ByteArray) : Prop := ∃ f, m.reach k f n = true
theorem reach_fuel {rk : Nat → Nat} (hr : m.Rank rk) : ∀ (f g : Nat) (n : ByteArray), (∀ i, m.find n = some i → rk i < g) → m.reach k f n = true → m.reach k g n = true
  | 0, _, _, _, h => by cases h
  | f + 1, g, n, hn, h => by
    cases hf : m.find n with
    | none => rw [reach_none hf] at h; cases h
    | some i =>
      have h1 := hn i hf
      obtain ⟨g2, rfl⟩ : ∃ g2, g = g2 + 1 := ⟨g - 1, by omega⟩
      rw [reach_step hf, Bool.or_eq_true] at h ⊢
      rcases h with h | h
      · exact .inl h
      · right
        obtain ⟨t, h2, h3⟩ := List.any_eq_true.1 h
        rw [Bool.and_eq_true] at h3
        refine List.any_eq_true.2 ⟨t, h2, ?_⟩
        rw [Bool.and_eq_true]
        obtain ⟨h4, h5⟩ := List.findIdx?_eq_some_iff_getElem.1 hf
        have e : m.at i = m.dv[i] := by simp [Md.at, List.getD, h4]
        have hg : (m.at i).gone = false := by rw [e]; have := h5.1; simp [isN] at this; exact this.1
        exact ⟨h3.1, reach_fuel hr f g2 t.On (fun j hj => by have := hr i h4 hg t h2 j hj; omega) h3.2⟩
theorem rch_eq (hO : MdOk m) : m.Rch k n ↔ m.reach k (m.dv.length + 1) n = true := by
  obtain ⟨rk, hr, hb⟩ := rank_bd hO.acy
  exact ⟨fun ⟨f, h⟩ => reach_fuel hr f _ n (fun i _ => Nat.lt_succ_of_le (hb i)) h, fun h => ⟨_, h⟩⟩
theorem rch_self (hf : m.find n = some k) : m.Rch k n := ⟨1, by rw [reach_step hf]; simp⟩
theorem rch_up {i : Nat} {t : api_Target} (hf : m.find n = some i) (ht : t ∈ tbl (m.at i)) (hne : t.On ≠ noN) (h : m.Rch k t.On) : m.Rch k n := by
  obtain ⟨f, h⟩ := h
  refine ⟨f + 1, ?_⟩
  rw [reach_step hf, Bool.or_eq_true]
  exact .inr (List.any_eq_true.2 ⟨t, ht, by rw [Bool.and_eq_true]; exact ⟨by simpa using hne, h⟩⟩)
theorem closed_no (hO : MdOk m) (hk : m.isDx k) {P : ByteArray → Prop} (hP : ∀ y, P y → y ≠ (m.at k).name ∧ ∀ i, m.dev y = some i → ∀ t ∈ tbl (m.at i), t.On ≠ noN → P t.On ∨ m.dev t.On = none) : ∀ f n, (P n ∨ m.dev n = none) → m.reach k f n = false
  | 0, _, _ => rfl
  | f + 1, n, h => by
    cases hf : m.find n with
    | none => exact reach_none hf
    | some i =>
      rw [reach_step hf, Bool.or_eq_false_iff]
      have hn : (m.at i).name = n := by
        obtain ⟨h1, h2, _⟩ := List.findIdx?_eq_some_iff_getElem.1 hf
        have e : m.at i = m.dv[i] := by simp [Md.at, List.getD, h1]
        simp [isN] at h2
        rw [e]; exact h2.2
      cases hb : (m.at i).isB with
      | true =>
        obtain ⟨g1, g2, _⟩ := hO.bas i hb
        refine ⟨decide_eq_false (fun e => by rw [e, hk.2.2] at hb; cases hb), ?_⟩
        unfold tbl; rw [g1, g2]; rfl
      | false =>
        have hd : m.dev n = some i := by unfold dev; rw [hf]; simp [hb]
        rcases h with h | h
        · obtain ⟨h1, h2⟩ := hP n h
          refine ⟨decide_eq_false (fun e => h1 (by rw [← hn, e])), ?_⟩
          rw [Bool.eq_false_iff]
          intro h3
          obtain ⟨t, h4, h5⟩ := List.any_eq_true.1 h3
          rw [Bool.and_eq_true] at h5
          have := closed_no hO hk hP f t.On (h2 i hd t h4 (by simpa using h5.1))
          rw [this] at h5; cases h5.2
        · rw [hd] at h; cases h
end
end Md
def qT (d : Dv) (i : Nat) : List ByteArray := if i = 0 then [] else if i = 1 then tuses d.live else tuses d.live ++ tuses d.new
theorem qT_step {d : Dv} {i : Nat} (hi : i < 2) : qT d i ++ tuses (([d.live, d.new] : List (List api_Target)).getD i []) = qT d (i + 1) := by
  rcases (by omega : i = 0 ∨ i = 1) with rfl | rfl
  · simp [qT]
  · simp [qT]
theorem nam_tuses {l : List api_Target} {n : ByteArray} : n ∈ tuses l ↔ ∃ t ∈ l, t.On = n ∧ n ≠ noN := by
  rw [← mem_memS]
  unfold tuses
  have key : ∀ (l : List api_Target) (o : List ByteArray), memS (usesGo l o) n = true ↔ memS o n = true ∨ ∃ t ∈ l, t.On = n ∧ n ≠ noN := by
    intro l
    induction l with
    | nil => intro o; simp [usesGo]
    | cons t l ih =>
      intro o
      simp only [usesGo]
      rw [ih]
      have e : memS (if t.On = noN ∨ memS o t.On = true then o else o ++ [t.On]) n = true ↔ memS o n = true ∨ (t.On = n ∧ n ≠ noN) := by
        split
        · rename_i h
          constructor
          · exact .inl
          · rintro (h1 | ⟨rfl, h1⟩)
            · exact h1
            · exact h.resolve_left h1
        · rename_i h
          have e2 : memS (o ++ [t.On]) n = true ↔ memS o n = true ∨ t.On = n := by simp [memS]
          rw [e2]
          constructor
          · rintro (h1 | h1)
            · exact .inl h1
            · exact .inr ⟨h1, fun h2 => h (.inl (h1.trans h2))⟩
          · rintro (h1 | h1)
            · exact .inl h1
            · exact .inr h1.1
      rw [e]
      constructor
      · rintro ((h | h) | ⟨t2, h1, h2⟩)
        · exact .inl h
        · exact .inr ⟨t, List.mem_cons_self, h⟩
        · exact .inr ⟨t2, List.mem_cons_of_mem _ h1, h2⟩
      · rintro (h | ⟨t2, h1, h2⟩)
        · exact .inl (.inl h)
        · rcases List.mem_cons.1 h1 with rfl | h1
          · exact .inl (.inr h2)
          · exact .inr ⟨t2, h1, h2⟩
  rw [key]; simp [memS]
theorem qT_mem {d : Dv} {t : api_Target} (ht : t ∈ Md.tbl d) (hne : t.On ≠ noN) : t.On ∈ qT d 2 := by
  show _ ∈ tuses d.live ++ tuses d.new
  rcases List.mem_append.1 ht with h | h
  · exact List.mem_append.2 (.inl (nam_tuses.2 ⟨t, h, rfl, hne⟩))
  · exact List.mem_append.2 (.inr (nam_tuses.2 ⟨t, h, rfl, hne⟩))
theorem qT_tbl {d : Dv} {n : ByteArray} (h : n ∈ qT d 2) : ∃ t ∈ Md.tbl d, t.On = n ∧ n ≠ noN := by
  rcases List.mem_append.1 (show n ∈ tuses d.live ++ tuses d.new from h) with h | h
  · obtain ⟨t, h1, h2⟩ := nam_tuses.1 h; exact ⟨t, List.mem_append.2 (.inl h1), h2⟩
  · obtain ⟨t, h1, h2⟩ := nam_tuses.1 h; exact ⟨t, List.mem_append.2 (.inr h1), h2⟩
end Go.Proofs
