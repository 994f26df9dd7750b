/- MapperRenames, part 5 of the proof: CMap14, PMapA, CMap15, PMapR, CMap16, PMapZ, CMap17, CMap18, CMap19, PMapP, CMap20, CRf0, CRf1, CBeg0, CBeg1. -/
import Derived.WalkKit
import Derived.Orders
import Derived.RangeFuncLeaves
import Derived.RangeFuncCalls
import Derived.TacticsIn
import Derived.Handy
import Derived.OrdersHeld
import Derived.OrdersIn
import Derived.Below
import Derived.OpenShut
import Derived.Deep.Slices
import Derived.Scope
import Derived.RangeFuncRecord
import Derived.ChangeKeysEq
import Derived.Laws.BytesArg
import Derived.KernelRfl
import Derived.Maps.RangeRun
import Derived.LaidEql
import Derived.ProofKit
import Derived.ShutString
import Derived.ChangeOld
import Derived.Test.YtbmipeiphoghcaaChecked
import Derived.Test.YtbmipeiphoghcaaRows
import Derived.Test.YtbmipeiphoghcaaZMapperRenames4
set_option linter.unusedSimpArgs false
set_option maxRecDepth 20000
namespace Go.Proofs
open Go.VG
theorem ldT_ok {m : Md} {l : List api_Target} (h : ((tuses l).any fun x => ldT m x) = false) {t : api_Target} (ht : t ∈ l) (hne : t.On ≠ noN) : (m.find t.On).isSome = true := by
  have h2 := List.any_eq_false.1 h t.On (nam_tuses.2 ⟨t, ht, rfl, hne⟩)
  unfold ldT at h2
  rw [Md.memS_find] at h2
  cases hs : (m.find t.On).isSome with
  | true => rfl
  | false => rw [hs] at h2; exact absurd rfl h2
theorem ldT_any {m : Md} {l : List api_Target} : ((tuses l).any fun x => ldT m x) = l.any fun t => decide (t.On ≠ noN) && (m.find t.On).isNone := by
  rw [Md.any_tuses]
  congr 1; funext t
  unfold ldT
  rw [Md.memS_find]
  cases m.find t.On <;> rfl
theorem reach_any {m : Md} {k : Nat} {l : List api_Target} : ((tuses l).any fun x => m.reach k (m.dv.length + 1) x) = l.any fun t => decide (t.On ≠ noN) && m.reach k (m.dv.length + 1) t.On := Md.any_tuses
theorem reach_no {m : Md} {k : Nat} {l : List api_Target} (h : ((tuses l).any fun x => m.reach k (m.dv.length + 1) x) = false) {t : api_Target} (ht : t ∈ l) (hne : t.On ≠ noN) : m.reach k (m.dv.length + 1) t.On = false := by
  have h2 := List.any_eq_false.1 h t.On (nam_tuses.2 ⟨t, ht, rfl, hne⟩)
  simpa using h2
section
variable {m : Md} {k : Nat} {n : ByteArray} {l : List api_Target}
theorem ldE_none (h : m.dev n = none) : m.ldE n l = 12 ∧ m.ldS n l = m := by unfold Md.ldE Md.ldS; rw [h]; exact ⟨rfl, rfl⟩
theorem ldS_no (h : m.ldE n l ≠ 0) : m.ldS n l = m := by
  unfold Md.ldS
  cases m.dev n with
  | none => rfl
  | some k => show (if _ then _ else _) = _; rw [if_neg h]
theorem ldE_chk (h : m.dev n = some k) (h1 : chk l ≠ 0) : m.ldE n l = chk l := by unfold Md.ldE; rw [h]; show (if _ then _ else _) = _; rw [if_pos h1]
theorem ldE_find (h : m.dev n = some k) (h1 : chk l = 0) (h2 : ((tuses l).any fun x => ldT m x) = true) : m.ldE n l = 12 := by
  rw [ldT_any] at h2
  unfold Md.ldE; rw [h]; show (if _ then _ else _) = _; rw [if_neg (by simp [h1]), if_pos h2]
theorem ldE_reach (h : m.dev n = some k) (h1 : chk l = 0) (h2 : ((tuses l).any fun x => ldT m x) = false) (h3 : ((tuses l).any fun x => m.reach k (m.dv.length + 1) x) = true) : m.ldE n l = 21 := by
  rw [ldT_any] at h2
  rw [reach_any] at h3
  unfold Md.ldE; rw [h]; show (if _ then _ else _) = _; rw [if_neg (by simp [h1]), if_neg (by rw [h2]; decide), if_pos h3]
theorem ldE_fits (h : m.dev n = some k) (h1 : chk l = 0) (h2 : ((tuses l).any fun x => ldT m x) = false) (h3 : ((tuses l).any fun x => m.reach k (m.dv.length + 1) x) = false) : m.ldE n l = if m.fits l then 0 else 1 := by
  rw [ldT_any] at h2
  rw [reach_any] at h3
  unfold Md.ldE; rw [h]; show (if _ then _ else _) = _; rw [if_neg (by simp [h1]), if_neg (by rw [h2]; decide), if_neg (by rw [h3]; decide)]
theorem ldS_ok (h : m.dev n = some k) (h1 : m.ldE n l = 0) : m.ldS n l = m.set k { m.at k with new := l, hn := true } := by
  unfold Md.ldS; rw [h]; show (if _ then _ else _) = _; rw [if_pos h1]
end
theorem c_Load1 {W : World} {b q : Nat} {c : MH} {m : Md} {x : ByteArray} :
    CSpec Try.prog W 29 [.string x, ptr q 0] [blk q 25 [ptr b 0], blk b 79 (mCells c m), MapR c m] (fun _ : Unit => .bool (ldT m x)) (fun _ => True) (fun _ F => blk q 25 [ptr b 0] :: blk b 79 (mCells c m) :: MapR c m :: F) := by
 refine CSpec.of_body Try.func29 rfl Try.ntmps29 rfl fun F => ?_
 show CJ _ _ _ _ _ _ (_ :: _ :: _ :: F)
 refine CJ_pure (MapR_wf foc2) fun hW => ?_
 have hO := hW.ok
 have hns := Md.names_len (m := m)
 have hln := hW.big.len
 refine sR <| oA rfl rfl <| nT <| sR <| oV (V_load rfl foc0 rfl Try.isAgg25) rfl <| oP (P_nilCheck rfl) rfl <| oP (P_fieldAddr rfl ⟨_, _, _, Try.runUnderlying79, rfl, rfl, Try.sizeOf45, rfl⟩) rfl <| oV (V_load rfl foc1 rfl Try.isAgg45) rfl <| oM rfl rfl <| oO <| O_call (L_slices_Contains_string rdOrd (contains_eq (by first | assumption | omega))) rfl Try.call30 (Dels.cons del2 Dels.nil) rfl fun _ hc1 => oP (P_not rfl) rfl <| oA rfl rfl <| nT <| CJ_ret <| QJ_end (res1 Try.results29 rfl) <| CSpec.close () ?_ ?_ (t1_ (t1_ (t0_ eR)))
 · exact bv (by unfold ldT; rfl)
 · trivial
theorem c_idxLd {W : World} {b q : Nat} {c : MH} {m : Md} {v : Value} {xs : List ByteArray} {RA : HP} (hR : Reads RA tyS v xs) (hl : xs.length ≤ 100000000) :
    CSpec Try.prog W 54 [v, .func (.func 29) #[] #[ptr q 0]] [RA, blk q 25 [ptr b 0], blk b 79 (mCells c m), MapR c m] (fun r : Int => .int .i64 r) (fun r => (0 ≤ r ↔ (xs.any fun x => ldT m x) = true)) (fun _ F => RA :: blk q 25 [ptr b 0] :: blk b 79 (mCells c m) :: MapR c m :: F) := by
 refine CSpec.of_body Try.func54 rfl Try.ntmps54 rfl fun F => ?_
 show CJ _ _ _ _ _ _ (_ :: _ :: _ :: _ :: F)
 refine sR <| oA rfl rfl <| nT <| CJ_seq <| sR <| oM rfl rfl <| oV (V_len rfl foc0 hR Try.runUnderlying45) rfl <| oM rfl rfl <| nT <| CJ_block <| CJ_loopR (X := Nat) [4, 5, 8, 9, 10, 11, 12, 13, 14, 15, 16, 17, 18] (fun i  => ([(8, .int .i64 (i : Nat))] : Slots)) (fun i R => R) (fun i  => i ≤ xs.length ∧ ((xs.take i).any fun x => ldT m x) = false) (fun i  => xs.length - i) (0) ?_ ?_ (t0_ (t0_ (t0_ (t0_ eR)))) ?_
 · exact ⟨Nat.zero_le _, by simp⟩
 · exact ⟨rfl, True.intro⟩
 ·
  intro i hpf
  obtain ⟨hi, hno⟩ := hpf
  show CJ _ _ _ _ _ (([(8, .int .i64 (i : Nat))] : Slots) ++ forget _ _) (_)
  have hmem : i < xs.length → xs.getD i tyS.dflt ∈ xs := fun h => getD_mem _ h
  refine sR <| oP (P_lss rfl rfl) rfl <| nT <| CJ_seq ?_
  first | (refine CJ_condD rfl (fun hg1 => ?_) (fun hg1 => ?_)) | (refine CJ_condN rfl (fun hg1 => ?_) (fun hg1 => ?_)) | (refine CJ_cond rfl (fun hg1 => ?_) (fun hg1 => ?_))
  ·
   refine kT <| CJ_seq <| CJ_block <| sR <| oM rfl rfl <| oA rfl rfl <| nT <| sR <| oM rfl rfl <| oM rfl rfl <| oM rfl rfl ?_
   first | (refine RJ_op rfl (OJ_V (V_index rfl rfl rfl (by omega) foc0 hR Try.runUnderlying45 Try.sizeOf9) rfl ?_)) | (refine RJ_op rfl (OJ_V (V_index rfl rfl (Int.toNat_of_nonneg (by omega)).symm (by omega) foc0 hR Try.runUnderlying45 Try.sizeOf9) rfl ?_))
   refine oV (V_loadE rfl rfl (by omega) foc0 hR rfl rfl Try.isAgg9) rfl <| oO <| O_callV rfl rfl (c_Load1) Try.call29 (Dels.cons del1 (Dels.cons del1 (Dels.cons del1 Dels.nil))) rfl fun _ hc1 => nT ?_
   first | (refine CJ_condD rfl (fun hg2 => ?_) (fun hg2 => ?_)) | (refine CJ_condN rfl (fun hg2 => ?_) (fun hg2 => ?_)) | (refine CJ_cond rfl (fun hg2 => ?_) (fun hg2 => ?_))
   ·
    refine sR <| oM rfl rfl <| oA rfl rfl <| nT <| CJ_ret <| QJ_block_ret <| QJ_then_ret <| QJ_round_ret <| QJ_block_ret <| QJ_then_ret <| QJ_end (res1 Try.results54 rfl) <| CSpec.close (i : Int) ?_ ?_ (t3_ (t0_ (t0_ (t0_ eR))))
    · rfl
    · exact ⟨fun _ => List.any_eq_true.2 ⟨_, hmem (by omega), by assumption⟩, fun _ => by omega⟩
   ·
    refine CJ_skip <| QJ_block_normal <| QJ_then <| CJ_region <| oP (P_add rfl rfl (by omega)) rfl <| oM rfl rfl <| RJ_nil <| QJ_nextR (i + 1) (by first | omega | (simp only []; omega)) ?_ (by repeat (first | exact Kp.base | exact Kp.self | refine Kp.cons rfl ?_ | refine Kp.forget rfl ?_)) ?_ (t3_ (t0_ (t0_ (t0_ eR))))
    ·
     refine ⟨by omega, ?_⟩
     rw [takeD tyS.dflt (by omega), List.any_append, hno, List.any_cons, List.any_nil, Bool.or_false, Bool.false_or]
     show ldT m (xs.getD i tyS.dflt) = false
     assumption
    · exact ⟨rfl, True.intro⟩
  ·
   refine CJ_exit <| QJ_then_exit <| QJ_round_exit <| QJ_block_here <| QJ_then <| sR <| oA rfl rfl <| nT <| CJ_ret <| QJ_end (res1 Try.results54 rfl) <| CSpec.close (-1) ?_ ?_ (t0_ (t0_ (t0_ (t0_ eR))))
   · rfl
   ·
    obtain rfl : i = xs.length := by omega
    rw [List.take_length] at hno
    rw [hno]; simp
theorem c_conLd {W : World} {b q : Nat} {c : MH} {m : Md} {v : Value} {xs : List ByteArray} {RA : HP} (hR : Reads RA tyS v xs) (hl : xs.length ≤ 100000000) :
    CSpec Try.prog W 28 [v, .func (.func 29) #[] #[ptr q 0]] [RA, blk q 25 [ptr b 0], blk b 79 (mCells c m), MapR c m] (fun _ : Unit =>   .bool (xs.any fun x => ldT m x)) (fun _ => True) (fun _ F => RA :: blk q 25 [ptr b 0] :: blk b 79 (mCells c m) :: MapR c m :: F) := by
 refine CSpec.of_body Try.func28 rfl Try.ntmps28 rfl fun F => ?_
 show CJ _ _ _ _ _ _ (_ :: _ :: _ :: _ :: F)
 refine sR <| oA rfl rfl <| nT <| sR <| oM rfl rfl <| oM rfl rfl <| oO <| O_call (c_idxLd hR hl) rfl Try.call54 (Dels.cons del0 (Dels.cons del0 (Dels.cons del0 (Dels.cons del0 Dels.nil)))) rfl fun r hr => oP (P_geq rfl rfl) rfl <| oA rfl rfl <| nT <| CJ_ret <| QJ_end (res1 Try.results28 rfl) <| CSpec.close () ?_ ?_ (t0_ (t0_ (t0_ (t0_ eR))))
 · exact bv (by rw [Bool.eq_iff_iff, decide_eq_true_iff]; exact hr)
 · trivial
theorem c_Load {W : World} {b : Nat} {c : MH} {m : Md} {n : ByteArray} {A : HP} {v : Sl3} {l : List api_Target} (hA : Reads A tyapi_Target v.v l) (hl : l.length ≤ 100000000) :
    CSpec Try.prog W 9 [ptr b 0, .string n, v.v] [blk b 79 (mCells c m), MapR c m, A] (fun _ : MH => .int .i64 (m.ldE n l)) (fun _ => True) (fun c2 F => blk b 79 (mCells c2 (m.ldS n l)) :: MapR c2 (m.ldS n l) :: A :: F) := by
 refine CSpec.of_body Try.func9 rfl Try.ntmps9 rfl fun F => ?_
 show CJ _ _ _ _ _ _ (_ :: _ :: _ :: F)
 refine CJ_pure (MapR_wf foc1) fun hW => ?_
 have hO := hW.ok
 have hns := Md.names_len (m := m)
 have hln := hW.big.len
 refine sR <| oO <| O_box rfl rfl rfl fun b1 => oA rfl rfl <| nT <| sR <| oV (V_load rfl foc0 rfl Try.isAgg25) rfl <| oP (P_nilCheck rfl) rfl <| oP (P_fieldAddr rfl ⟨_, _, _, Try.runUnderlying79, rfl, rfl, Try.sizeOf77, rfl⟩) rfl <| oV (V_load rfl foc1 rfl Try.isAgg77) rfl <| oM rfl rfl <| oO (O_lookD rfl rfl foc2 rfl (fun hd3 => ?_) (fun k2 hd3 => ?_))
 ·
  refine oA rfl rfl <| nT <| CJ_seq <| sR <| oM rfl rfl <| oP (P_eqlNN rfl rfl Try.underlying72) rfl <| nT <| CJ_condT rfl rfl <| sR <| oA rfl rfl <| nT <| CJ_ret <| QJ_then_ret <| QJ_end (res1 Try.results9 rfl) ?_
  have e1 : m.ldE n l = 12 ∧ m.ldS n l = m := ldE_none hd3
  have e2 := e1.2
  rw [e2]
  refine CSpec.close c ?_ ?_ (t1_ (t1_ (t1_ (eD eR))))
  · rw [e1.1]
  · trivial
 ·
  refine oA rfl rfl <| nT <| CJ_seq <| sR <| oM rfl rfl <| oP (P_eqlPN rfl rfl Try.underlying72) rfl <| nT <| CJ_condF rfl rfl <| kT <| CJ_seq <| CJ_seq ?_
  have hdk := Md.dev_is hd3
  refine CJ_region <| oM rfl rfl <| oO <| O_call (L_table_Check hA check_eq) rfl Try.call26 (Dels.cons del3 Dels.nil) rfl fun _ hc4 => oA rfl rfl <| nT <| sR <| oM rfl rfl <| oP (P_neq rfl rfl) rfl <| nT ?_
  first | (refine CJ_condD rfl (fun hg1 => ?_) (fun hg1 => ?_)) | (refine CJ_condN rfl (fun hg1 => ?_) (fun hg1 => ?_)) | (refine CJ_cond rfl (fun hg1 => ?_) (fun hg1 => ?_))
  ·
   refine sR <| oM rfl rfl <| oA rfl rfl <| nT <| CJ_ret <| QJ_then_ret <| QJ_end (res1 Try.results9 rfl) ?_
   have e1 : m.ldE n l = chk l ∧ m.ldS n l = m := by
     have e3 : m.ldE n l = chk l := ldE_chk hd3 (by assumption)
     exact ⟨e3, ldS_no (by rw [e3]; assumption)⟩
   have e2 := e1.2
   rw [e2]
   refine CSpec.close c ?_ ?_ (t2_ (t2_ (t0_ (eD eR))))
   · rw [e1.1]
   · trivial
  ·
   refine kT <| CJ_seq ?_
   have hck : chk l = 0 := by simpa using (show ¬ chk l ≠ 0 by assumption)
   have hcl := (chk_len hck).1
   have htu := tuses_len l
   refine CJ_region <| oM rfl rfl <| oO <| O_call (L_table_Uses hA (uses_eq (by first | assumption | omega))) rfl Try.call27 (Dels.cons del0 Dels.nil) rfl fun _ hc6 => oA rfl rfl <| nT <| CJ_seq <| CJ_block <| sR <| oM rfl rfl <| oP (P_makeFunc rfl rfl) rfl <| oO <| O_call (c_conLd (Reads.sl _ _ _) (by omega)) rfl Try.call28 (Dels.cons del1 (Dels.cons del1 (Dels.cons del1 (Dels.cons del1 Dels.nil)))) rfl fun _ hc7 => oA rfl rfl <| nT ?_
   first | (refine CJ_condD rfl (fun hg2 => ?_) (fun hg2 => ?_)) | (refine CJ_condN rfl (fun hg2 => ?_) (fun hg2 => ?_)) | (refine CJ_cond rfl (fun hg2 => ?_) (fun hg2 => ?_))
   ·
    refine sR <| oA rfl rfl <| nT <| CJ_ret <| QJ_block_ret <| QJ_then_ret <| QJ_end (res1 Try.results9 rfl) ?_
    have e1 : m.ldE n l = 12 ∧ m.ldS n l = m := by
      have e3 : m.ldE n l = 12 := ldE_find hd3 hck (by assumption)
      exact ⟨e3, ldS_no (by rw [e3]; decide)⟩
    have e2 := e1.2
    rw [e2]
    refine CSpec.close c ?_ ?_ (t2_ (t2_ (t2_ (eD (eD eR)))))
    · rw [e1.1]
    · trivial
   ·
    refine CJ_seq ?_
    have hnT : ((tuses l).any fun x => ldT m x) = false := by assumption
    refine CJ_region <| oV (V_load rfl foc1 rfl Try.isAgg25) rfl <| oM rfl rfl <| oM rfl rfl <| oO <| O_call (c_below (v := ⟨_, _, _⟩) (ls := tuses l) hdk.1 (by omega)) rfl Try.call31 (Dels.cons del0 (Dels.cons del1 (Dels.cons del1 Dels.nil))) rfl fun _ hc8 => oA rfl rfl <| nT ?_
    first | (refine CJ_condD rfl (fun hg3 => ?_) (fun hg3 => ?_)) | (refine CJ_condN rfl (fun hg3 => ?_) (fun hg3 => ?_)) | (refine CJ_cond rfl (fun hg3 => ?_) (fun hg3 => ?_))
    ·
     refine sR <| oA rfl rfl <| nT <| CJ_ret <| QJ_block_ret <| QJ_then_ret <| QJ_end (res1 Try.results9 rfl) ?_
     have e1 : m.ldE n l = 21 ∧ m.ldS n l = m := by
       have e3 : m.ldE n l = 21 := ldE_reach hd3 hck hnT (by assumption)
       exact ⟨e3, ldS_no (by rw [e3]; decide)⟩
     have e2 := e1.2
     rw [e2]
     refine CSpec.close c ?_ ?_ (t0_ (t0_ (t1_ (eD eR))))
     · rw [e1.1]
     · trivial
    ·
     refine CJ_seq ?_
     have hnR : ((tuses l).any fun u => m.reach k2 (m.dv.length + 1) u) = false := by assumption
     refine CJ_region <| oV (V_load rfl foc2 rfl Try.isAgg25) rfl <| oM rfl rfl <| oO <| O_call (c_fits hA (by omega) (fun x hx => ⟨fun hne => ldT_ok hnT hx hne, find_bound hck hx⟩)) rfl Try.call32 (Dels.cons del3 (Dels.cons del0 (Dels.cons del0 Dels.nil))) rfl fun _ hc9 => oP (P_not rfl) rfl <| oA rfl rfl <| nT ?_
     first | (refine CJ_condD rfl (fun hg4 => ?_) (fun hg4 => ?_)) | (refine CJ_condN rfl (fun hg4 => ?_) (fun hg4 => ?_)) | (refine CJ_cond rfl (fun hg4 => ?_) (fun hg4 => ?_))
     ·
      refine sR <| oA rfl rfl <| nT <| CJ_ret <| QJ_block_ret <| QJ_then_ret <| QJ_end (res1 Try.results9 rfl) ?_
      have e1 : m.ldE n l = 1 ∧ m.ldS n l = m := by
        have e3 : m.ldE n l = 1 := by rw [ldE_fits hd3 hck hnT hnR, show m.fits l = false by simp_all]; rfl
        exact ⟨e3, ldS_no (by rw [e3]; decide)⟩
      have e2 := e1.2
      rw [e2]
      refine CSpec.close c ?_ ?_ (t1_ (t1_ (t0_ (eD eR))))
      · rw [e1.1]
      · trivial
     ·
      refine CJ_skip <| QJ_block_normal <| QJ_then <| CJ_seq <| CJ_ent (Ent.trans (t2_ eR) (MapR_dev hdk.1)) <| CJ_region <| oM rfl rfl <| oM rfl rfl <| oM rfl rfl <| oO <| O_call (c_CloneT hA (by first | assumption | omega)) rfl Try.call33 (Dels.cons del5 Dels.nil) rfl fun cx10 hc12 => oP (P_nilCheck rfl) rfl <| oP (P_fieldAddr rfl ⟨_, _, _, Try.runUnderlying75, rfl, rfl, Try.sizeOf34, rfl⟩) rfl <| oO <| O_store rfl rfl foc2 rfl rfl Try.sizeOf34 <| oP (P_nilCheck rfl) rfl <| oP (P_fieldAddr rfl ⟨_, _, _, Try.runUnderlying75, rfl, rfl, Try.sizeOf4, rfl⟩) rfl <| oO <| O_store rfl rfl foc2 rfl rfl Try.sizeOf4 <| nT <| sR <| oA rfl rfl <| nT <| CJ_ret <| QJ_end (res1 Try.results9 rfl) ?_
      have e0 : m.ldE n l = 0 := by rw [ldE_fits hd3 hck hnT hnR, show m.fits l = true by simp_all]; rfl
      have e1 := ldS_ok hd3 e0
      rw [e1]
      refine CSpec.close (c.put k2 { c.hd k2 with nw := cx10 } { m.at k2 with new := l, hn := true }) ?_ ?_ (Ent.trans (Ent.trans (t2_ (t2_ (t0_ (t2_ (t2_ eR))))) (MapR_putD (h' := { c.hd k2 with nw := cx10 }) (d' := { m.at k2 with new := l, hn := true }) (m' := (m.set k2 { m.at k2 with new := l, hn := true })) hW hdk.1 rfl hdk.1.2.2 rfl rfl rfl (Md.ok_load hO hdk.1 hck (fun t ht hne => ldT_ok hnT ht hne) (fun t ht hne => reach_no hnR ht hne)) (hW.big.set hdk.1.1 rfl (hW.big.wl _) hW.big.tks hW.big.told hW.big.wr) rfl rfl)) (t3_ (t0_ (t0_ (eD (eD eR))))))
      · rw [e0]
      · trivial
end Go.Proofs
namespace Go.Proofs
namespace Md
def push (m : Md) (d : Dv) : Md := { m with dv := m.dv ++ [d] }
section
variable {m : Md} {d : Dv} {n : ByteArray} {i : Nat}
theorem at_push : (m.push d).at i = if i = m.dv.length then d else m.at i := by
  show (m.dv ++ [d]).getD i Dv.z = _
  by_cases h : i < m.dv.length
  · rw [if_neg (by omega)]; simp [List.getD, List.getElem?_append_left h, Md.at]
  · by_cases e : i = m.dv.length
    · subst e; rw [if_pos rfl]; simp [List.getD]
    · rw [if_neg e, at_out h]; simp [List.getD, List.getElem?_eq_none (show (m.dv ++ [d]).length ≤ i by simp; omega)]
theorem push_len : (m.push d).dv.length = m.dv.length + 1 := by show (m.dv ++ [d]).length = _; simp
theorem find_push (hg : d.gone = false) (hf : m.find d.name = none) : (m.push d).find n = if n = d.name then some m.dv.length else m.find n := by
  unfold find
  show (m.dv ++ [d]).findIdx? _ = _
  rw [List.findIdx?_append]
  by_cases e : n = d.name
  · subst e
    rw [if_pos rfl]
    unfold find at hf
    rw [hf]
    have : isN d d.name = true := by simp [isN, hg]
    simp [List.findIdx?_cons, this]
  · rw [if_neg e]
    have : isN d n = false := by simp [isN, Ne.symm e]
    simp [List.findIdx?_cons, this]
theorem find_lt0 (h : m.find n = some i) : i < m.dv.length := (List.findIdx?_eq_some_iff_getElem.1 h).1
theorem names_push (hg : d.gone = false) : (m.push d).names = m.names ++ [d.name] := by
  unfold names push
  rw [List.filter_append, List.map_append]
  simp [hg]
theorem dev_push (hg : d.gone = false) (hf : m.find d.name = none) : (m.push d).dev n = if n = d.name then (if d.isB then none else some m.dv.length) else m.dev n := by
  unfold dev
  rw [find_push hg hf]
  by_cases e : n = d.name
  · rw [if_pos e, if_pos e, Option.bind_some, at_push, if_pos rfl]
  · rw [if_neg e, if_neg e]
    cases h : m.find n with
    | none => rfl
    | some i => rw [Option.bind_some, Option.bind_some, at_push, if_neg (c := i = m.dv.length) (by have := find_lt0 h; omega)]
end
end Md
open Md in
theorem MdOk.push {m : Md} {d : Dv} (hO : MdOk m) (hg : d.gone = false) (hn : d.name ≠ noN) (hf : m.find d.name = none) (hl : d.live = []) (hw0 : d.new = []) (hwt : d.wait = []) (hhl : d.hl = false) (hhn : d.hn = false) (hs : d.susp = false) (hb : d.base.length ≤ 65536) : MdOk (m.push d) := by
  have hcase : ∀ i, i < (m.push d).dv.length → i = m.dv.length ∨ i < m.dv.length := fun i hi => by rw [push_len] at hi; omega
  have hno : ∀ i, i < m.dv.length → (m.at i).gone = false → (m.at i).name ≠ d.name := fun i hi hgi e => by
    have := find_at hO hi hgi
    rw [e, hf] at this; cases this
  have hfi : ∀ n j, (m.find n).isSome = true → (m.push d).find n = some j → m.find n = some j := fun n j h1 h2 => by
    rw [find_push hg hf] at h2
    by_cases e : n = d.name
    · rw [e, hf] at h1; cases h1
    · rwa [if_neg e] at h2
  refine ⟨fun i j hi hj hgi hgj he => ?_, fun i hi hgi => ?_, fun i => ?_, fun i hi hgi t ht hne => ?_, ?_, fun i hi => ?_, fun i => ?_, fun i => ?_, fun i hi w hw => ?_⟩
  · rw [at_push] at hgi he
    rw [at_push] at hgj
    rw [at_push (i := j)] at he
    rcases hcase i hi with rfl | h1 <;> rcases hcase j hj with rfl | h2
    · rfl
    · rw [if_neg (by omega)] at hgj
      rw [if_pos rfl, if_neg (by omega)] at he
      exact absurd he.symm (hno j h2 hgj)
    · rw [if_neg (by omega)] at hgi
      rw [if_neg (by omega), if_pos rfl] at he
      exact absurd he (hno i h1 hgi)
    · rw [if_neg (by omega)] at hgi hgj
      rw [if_neg (by omega), if_neg (by omega)] at he
      exact hO.uniq i j h1 h2 hgi hgj he
  · rw [at_push] at hgi ⊢
    rcases hcase i hi with rfl | h1
    · rw [if_pos rfl]; exact hn
    · rw [if_neg (by omega)] at hgi ⊢; exact hO.nm i h1 hgi
  · rw [at_push]; split
    · rw [hl, hw0]; exact ⟨rfl, rfl⟩
    · exact hO.chk i
  · rw [at_push] at hgi ht
    rcases hcase i hi with rfl | h1
    · rw [if_pos rfl] at ht
      unfold tbl at ht; rw [hl, hw0] at ht; cases ht
    · rw [if_neg (by omega)] at hgi ht
      have h2 := hO.nam i h1 hgi t ht hne
      rw [find_push hg hf]
      split
      · rfl
      · exact h2
  · obtain ⟨rk, hr⟩ := hO.acy
    refine ⟨rk, fun i hi hgi t ht j hj => ?_⟩
    rw [at_push] at hgi ht
    rcases hcase i hi with rfl | h1
    · rw [if_pos rfl] at ht
      unfold tbl at ht; rw [hl, hw0] at ht; cases ht
    · rw [if_neg (by omega)] at hgi ht
      by_cases hne : t.On = noN
      · rw [find_push hg hf, if_neg (fun e => hn (by rw [← e, hne]))] at hj
        exact hr i h1 hgi t ht j hj
      · exact hr i h1 hgi t ht j (hfi _ _ (hO.nam i h1 hgi t ht hne) hj)
  · rw [at_push] at hi ⊢
    split at hi
    · rename_i e; rw [if_pos e]; exact ⟨hl, hw0, hwt, hhl, hhn, hs, hb⟩
    · rename_i e; rw [if_neg e]; exact hO.bas i hi
  · rw [at_push]; split
    · exact fun _ => hl
    · exact hO.hl i
  · rw [at_push]; split
    · exact fun _ => hw0
    · exact hO.hn i
  · rw [at_push] at hw ⊢
    rcases hcase i hi with rfl | h1
    · rw [if_pos rfl, hwt] at hw; cases hw
    · rw [if_neg (by omega)] at hw ⊢
      obtain ⟨g1, g2, g3, g4, g5⟩ := hO.org i h1 w hw
      refine ⟨g1, by rw [push_len]; omega, ?_, ?_, g5⟩
      · rw [at_push, if_neg (by omega)]; exact g3
      · rw [at_push, if_neg (by omega)]; exact g4
theorem MdBig.push {m : Md} {d : Dv} (h : MdBig m) (hl : m.dv.length + 1 ≤ 10000) (hw : d.wait = []) : MdBig (m.push d) :=
  ⟨by rw [Md.push_len]; exact hl, fun i => by rw [Md.at_push]; split; · rw [hw]; exact Nat.zero_le _
                                              · exact h.wl i, h.tks, h.told, h.wr⟩
theorem MdBd.push_tick {m : Md} {d : Dv} (h : MdBd m) (hc : m.cl < 4000) (hw : d.wait = []) : MdBd (m.push d).tick := by
  have h1 := h.tks; have h2 := h.told; have h3 := h.wr; have h4 := h.len
  have h5 : (m.push d).wsum = m.wsum := by
    show ((m.dv ++ [d]).map fun d => d.wait.length).sum = _
    rw [List.map_append, List.sum_append, List.map_cons, hw]
    simp [Md.wsum]
  exact ⟨by show (m.push d).wsum ≤ m.tks; rw [h5]; exact h.wl, Nat.le_succ_of_le h1, Nat.le_trans h2 (by show _ ≤ 4000 * (m.cl + 1); omega), Nat.le_trans h3 (by show _ ≤ 4000 * (m.cl + 1); omega), by
    show (m.push d).dv.length ≤ m.cl + 1 + 2
    rw [Md.push_len]; omega, hc⟩
end Go.Proofs
set_option linter.unusedSimpArgs false
set_option maxRecDepth 20000
namespace Go.Proofs
open Go.VG
theorem CMap15_bs_45_1_0 (v0 : ByteArray) : BuildsSlice Try.prog 45 1 [(0, .string v0)] 9 [.string v0] := fun w => by kernel_rfl
theorem CMap15_bld_75_0 (v0 : ByteArray) : ∀ w, (Instr.build 75 (#[(0, .string v0)] : Array (Nat × Value))).run Try.prog w = .ok (.agg #[.string v0, .slice none 0 0, .slice none 0 0, .bool false, .bool false, .bool false, .bool false, .slice none 0 0]) w := fun w => by kernel_rfl
theorem blk_ne {b b' : Nat} {T T' : TypeId} {cs cs' : List Value} {R : List HP} {h : PH} (hh : stars (blk b T cs :: blk b' T' cs' :: R) h) : b ≠ b' := by
  rintro rfl
  obtain ⟨a1, a2, d1, e1, p1, b1, b2, d2, e2, p2, q2⟩ := hh
  have h1 : a1 b = some (.cells cs.toArray T (0, 0), false) := by rw [show a1 = PH.one b _ from p1]; simp [PH.one]
  have h2 : a2 b = some (.cells cs'.toArray T' (0, 0), false) := by rw [e2]; show (b1 b).or (b2 b) = _; rw [show b1 = PH.one b _ from p2]; simp [PH.one]
  rcases d1 b with h | h | ⟨h, o, ho⟩
  · rw [h1] at h; cases h
  · rw [h2] at h; cases h
  · rw [h1] at ho; cases ho
theorem stars_star_first {B1 B2 B3 B4 : HP} {R : List HP} {h : PH} (hh : stars (B1 :: B2 :: B3 :: B4 :: R) h) : stars (star [B1, B2, B3, B4] :: R) h := stars_star.2 hh
section
variable {X : HP} {c : MH} {m : Md} {R : List HP} {d : Dv} {h : DH} {ov : Sl3} {dl bl : List (ByteArray × Nat)}
theorem DevC_bs {a : Nat} {bs bs' : Nat → Nat} {x : DH × Dv} (hx : ∀ w ∈ x.2.wait, bs' w.gv = bs w.gv) : DevC a bs' x = DevC a bs x := by
  have e : x.2.wait.map (wC bs') = x.2.wait.map (wC bs) := List.map_congr_left fun w hw => by unfold wC; rw [hx w hw]
  unfold DevC; rw [e]
theorem Own_bs {a : Nat} {bs' : Nat → Nat} (hW : MapWF c m) (hb : ∀ i, i < m.dv.length → bs' i = c.bs i) : Go.VG.Own (DevC a bs') c.l = Go.VG.Own (DevC a c.bs) c.l := by
  unfold Go.VG.Own
  rw [List.map_congr_left fun x hx => ?_]
  obtain ⟨i, hi, rfl⟩ := List.getElem_of_mem hx
  have hl : c.l.length = m.dv.length := by rw [← hW.dv]; simp
  have h2 := (hW.at (k := i) (by omega)).2
  have h3 : c.l[i] = (c.hd i, m.at i) := by rw [← h2]; simp [List.getD, hi]
  refine DevC_bs fun w hw => hb _ ?_
  rw [h3] at hw
  exact (hW.ok.org i (by omega) w hw).2.1
abbrev MH.push (c : MH) (ov : Sl3) (dl bl : List (ByteArray × Nat)) (h : DH) (d : Dv) : MH := { c with ov := ov, dl := dl, bl := bl, l := c.l ++ [(h, d)] }
theorem hd_push (hW : MapWF c m) (i : Nat) : (c.push ov dl bl h d).hd i = if i = m.dv.length then h else c.hd i := by
  have hl : c.l.length = m.dv.length := by rw [← hW.dv]; simp
  unfold MH.hd
  show ((c.l ++ [(h, d)]).getD i (dh0, Dv.z)).1 = _
  by_cases h1 : i < c.l.length
  · rw [if_neg (by omega)]; simp [List.getD, List.getElem?_append_left h1]
  · by_cases e : i = m.dv.length
    · subst e; rw [if_pos rfl, ← hl]; simp [List.getD]
    · rw [if_neg e]; simp [List.getD, List.getElem?_eq_none (show (c.l ++ [(h, d)]).length ≤ i by simp; omega), List.getElem?_eq_none (Nat.le_of_not_lt h1)]
theorem bs_push (hW : MapWF c m) (i : Nat) : (c.push ov dl bl h d).bs i = if i = m.dv.length then h.b else c.bs i := by
  unfold MH.bs; rw [hd_push hW]; split <;> rfl
theorem bas_push {n : ByteArray} (hg : d.gone = false) (hf : m.find d.name = none) : (m.push d).bas n = if n = d.name then (if d.isB then some m.dv.length else none) else m.bas n := by
  unfold Md.bas
  rw [Md.find_push hg hf]
  by_cases e : n = d.name
  · rw [if_pos e, if_pos e, Option.bind_some, Md.at_push, if_pos rfl]
  · rw [if_neg e, if_neg e]
    cases h : m.find n with
    | none => rfl
    | some i => rw [Option.bind_some, Option.bind_some, Md.at_push, if_neg (c := i = m.dv.length) (by have := Md.find_lt0 h; omega)]
theorem MapWF.push (hW : MapWF c m) (ok : MdOk (m.push d)) (big : MdBig (m.push d)) (hg : d.gone = false) (hf : m.find d.name = none)
    (hdl : ∀ x, lookM dl x = if x = d.name then (if d.isB then none else some h.b) else lookM c.dl x) (hbl : ∀ x, lookM bl x = if x = d.name then (if d.isB then some h.b else none) else lookM c.bl x)
    (hne : d.isB = false → ∀ i, m.isD i → c.bs i ≠ h.b) (hdk : d.isB = true → h.dn < c.s.drv.length ∧ nowL c.s h.dn = d.base ∧ d.base.length ≤ 65536 ∧ ∀ i, m.isBs i → (c.hd i).dn ≠ h.dn) : MapWF (c.push ov dl bl h d) (m.push d) := by
  have hcD : ∀ i, (m.push d).isD i → (i = m.dv.length ∧ d.isB = false) ∨ (i ≠ m.dv.length ∧ m.isD i) := fun i hi => by
    obtain ⟨h1, h2, h3⟩ := hi
    rw [Md.push_len] at h1
    rw [Md.at_push] at h2 h3
    by_cases e : i = m.dv.length
    · rw [if_pos e] at h3; exact .inl ⟨e, h3⟩
    · rw [if_neg e] at h2 h3; exact .inr ⟨e, by omega, h2, h3⟩
  have hcB : ∀ i, (m.push d).isBs i → (i = m.dv.length ∧ d.isB = true) ∨ (i ≠ m.dv.length ∧ m.isBs i) := fun i hi => by
    obtain ⟨h1, h2, h3⟩ := hi
    rw [Md.push_len] at h1
    rw [Md.at_push] at h2 h3
    by_cases e : i = m.dv.length
    · rw [if_pos e] at h3; exact .inl ⟨e, h3⟩
    · rw [if_neg e] at h2 h3; exact .inr ⟨e, by omega, h2, h3⟩
  refine ⟨?_, ok, big, fun x => ?_, fun x => ?_, fun i j hi hj he => ?_, hW.good, fun k hk => ?_, fun i j hi hj he => ?_, hW.wr⟩
  · show (c.l ++ [(h, d)]).map Prod.snd = m.dv ++ [d]
    rw [List.map_append, hW.dv]; rfl
  · rw [show (c.push ov dl bl h d).dl = dl from rfl, hdl, Md.dev_push hg hf]
    by_cases e : x = d.name
    · rw [if_pos e, if_pos e]
      cases d.isB
      · simp [bs_push hW]
      · rfl
    · rw [if_neg e, if_neg e, hW.dl]
      cases hx : m.dev x with
      | none => rfl
      | some k => rw [Option.map_some, Option.map_some, bs_push hW, if_neg (by have := (Md.dev_is hx).1.1; omega)]
  · rw [show (c.push ov dl bl h d).bl = bl from rfl, hbl, bas_push hg hf]
    by_cases e : x = d.name
    · rw [if_pos e, if_pos e]
      cases d.isB
      · rfl
      · simp [bs_push hW]
    · rw [if_neg e, if_neg e, hW.bl]
      cases hx : m.bas x with
      | none => rfl
      | some k => rw [Option.map_some, Option.map_some, bs_push hW, if_neg (by have := (Md.bas_is hx).1.1; omega)]
  · rw [bs_push hW, bs_push hW] at he
    rcases hcD i hi with ⟨e1, b1⟩ | ⟨e1, b1⟩ <;> rcases hcD j hj with ⟨e2, b2⟩ | ⟨e2, b2⟩
    · rw [e1, e2]
    · rw [if_pos e1, if_neg e2] at he; exact absurd he.symm (hne b1 j b2)
    · rw [if_neg e1, if_pos e2] at he; exact absurd he (hne b2 i b1)
    · rw [if_neg e1, if_neg e2] at he; exact hW.inj i j b1 b2 he
  · rw [hd_push hW, Md.at_push]
    rcases hcB k hk with ⟨e1, b1⟩ | ⟨e1, b1⟩
    · rw [if_pos e1, if_pos e1]; obtain ⟨q1, q2, q3, _⟩ := hdk b1; exact ⟨q1, q2, q3⟩
    · rw [if_neg e1, if_neg e1]; exact hW.dsk k b1
  · rw [hd_push hW, hd_push hW] at he
    rcases hcB i hi with ⟨e1, b1⟩ | ⟨e1, b1⟩ <;> rcases hcB j hj with ⟨e2, b2⟩ | ⟨e2, b2⟩
    · rw [e1, e2]
    · rw [if_pos e1, if_neg e2] at he; exact absurd he.symm ((hdk b1).2.2.2 j b2)
    · rw [if_neg e1, if_pos e2] at he; exact absurd he ((hdk b2).2.2.2 i b1)
    · rw [if_neg e1, if_neg e2] at he; exact hW.dsj i j b1 b2 he
theorem MapR_push (hW : MapWF c m) (hg : d.gone = false) (hwt : d.wait = []) (hw : MapWF (c.push ov dl bl h d) (m.push d)) :
    Ent (DevC c.a c.bs (h, d) :: Go.VG.Own (DevC c.a c.bs) c.l :: mpc mBas c.bm bl :: mpc mDev c.dm dl :: sl tyS ov.v (m.names ++ [d.name]) :: sl tyapi_Answer c.tv.v m.told :: Arr c.a c.s :: R) (MapR (c.push ov dl bl h d) (m.push d) :: R) := fun g hh => by
  have e1 : DevC c.a c.bs (h, d) = DevC c.a (c.push ov dl bl h d).bs (h, d) := (DevC_bs fun w hw' => by rw [show ((h, d) : DH × Dv).2.wait = [] from hwt] at hw'; cases hw').symm
  have e2 := Own_bs (a := c.a) (bs' := (c.push ov dl bl h d).bs) hW fun i hi => by rw [bs_push hW, if_neg (by omega)]
  rw [e1, ← e2] at hh
  have h1 := Own_push (DevC c.a (c.push ov dl bl h d).bs) (h, d) g hh
  refine stars_star.2 (stars_pur.2 ⟨hw, ?_⟩)
  rw [Md.names_push hg]
  exact stars_perm (show List.Perm (Go.VG.Own (DevC c.a (c.push ov dl bl h d).bs) (c.l ++ [(h, d)]) :: ([mpc mBas c.bm bl, mpc mDev c.dm dl, sl tyS ov.v (m.names ++ [d.name]), sl tyapi_Answer c.tv.v m.told] ++ (Arr c.a c.s :: R))) _ from (List.perm_middle (l₁ := [_, _, _, _])).symm) _ h1
abbrev dNew (n : ByteArray) : Dv := { Dv.z with name := n }
abbrev hNew (b : Nat) : DH := ⟨b, 0, s3z, s3z, s3z⟩
theorem MapR_addD {n : ByteArray} {nb : Nat} (hW : MapWF c m) (hf : m.find n = none) (hn : n ≠ noN) (hlen : m.dv.length + 1 ≤ 10000) :
    Ent (blk nb 75 (dCells (hNew nb) (dNew n)) :: Go.VG.Own (DevC c.a c.bs) c.l :: mpc mBas c.bm c.bl :: mpc mDev c.dm (setM c.dl n nb) :: sl tyS ov.v (m.names ++ [n]) :: sl tyapi_Answer c.tv.v m.told :: Arr c.a c.s :: R) (MapR (c.push ov (setM c.dl n nb) c.bl (hNew nb) (dNew n)) (m.push (dNew n)) :: R) := fun g hh => by
  have hne : ∀ i, m.isD i → c.bs i ≠ nb := fun i hi => by
    obtain ⟨a1, a2, d1, e1, p1, q1⟩ := id hh
    obtain ⟨g1, g2⟩ := hW.at hi.1
    have h2 := Own_open (DevC c.a c.bs) i (dh0, Dv.z) g1 a2 q1
    rw [g2, DevC_dev hi.2.1 hi.2.2] at h2
    have h3 := stars_star.1 h2
    exact (blk_ne (h := g) ⟨a1, a2, d1, e1, p1, h3⟩).symm
  have ok := hW.ok.push (d := dNew n) rfl hn hf rfl rfl rfl rfl rfl rfl (Nat.zero_le _)
  have big := hW.big.push (d := dNew n) hlen rfl
  have hw : MapWF (c.push ov (setM c.dl n nb) c.bl (hNew nb) (dNew n)) (m.push (dNew n)) := hW.push ok big rfl hf (fun x => by rw [lookM_setM]; rfl) (fun x => by
    by_cases e : x = n
    · rw [if_pos e, hW.bl, e]
      have : m.bas n = none := by unfold Md.bas; rw [hf]; rfl
      rw [this]; rfl
    · rw [if_neg e]) (fun _ => hne) (fun h => by cases h)
  refine MapR_push hW rfl rfl hw g ?_
  obtain ⟨a1, a2, d1, e1, p1, q1⟩ := hh
  have h1 : stars (blk nb 75 (dCells (hNew nb) (dNew n)) :: sl tyapi_Target (Sl3.v s3z) [] :: sl tyapi_Target (Sl3.v s3z) [] :: sl tyErr (Sl3.v s3z) [] :: (Go.VG.Own (DevC c.a c.bs) c.l :: mpc mBas c.bm c.bl :: mpc mDev c.dm (setM c.dl n nb) :: sl tyS ov.v (m.names ++ [n]) :: sl tyapi_Answer c.tv.v m.told :: Arr c.a c.s :: R)) g := ⟨a1, a2, d1, e1, p1, sl_nil _ (sl_nil _ (sl_nil _ q1))⟩
  rw [DevC_dev rfl rfl]
  exact stars_star_first h1
end
section
variable {m : Md} {n : ByteArray}
theorem crE_cr (h : m.addE n ≠ 0) : m.crE n = m.addE n ∧ m.crS n = m := ⟨rfl, by unfold Md.crS Md.addS; exact if_neg h⟩
theorem cr_ok (h : m.addE n = 0) : m.crS n = m.push (dNew n) ∧ m.find n = none ∧ n ≠ noN ∧ m.names.length < 256 := by
  refine ⟨by unfold Md.crS Md.addS; exact if_pos h, ?_⟩
  unfold Md.addE at h
  split at h
  · rename_i h1; exact absurd h h1
  · rename_i h1
    have h2 : m.freshE n = 0 := Classical.not_not.1 h1
    unfold Md.freshE at h2
    split at h2
    · cases h2
    · rename_i h3
      split at h2
      · cases h2
      · rename_i h4
        refine ⟨by simpa using h4, fun e => h3 (.inl (by rw [e]; decide)), ?_⟩
        split at h
        · cases h
        · omega
end
theorem c_fresh {W : World} {b : Nat} {c : MH} {m : Md} {n : ByteArray} {A : HP} (hA : Reads A tyS c.ov.v m.names) (hl : m.names.length ≤ 100000) :
    CSpec Try.prog W 41 [ptr b 0, .string n] [A, blk b 79 (mCells c m)] (fun _ : Unit => .int .i64 (m.freshE n)) (fun _ => True) (fun _ F => A :: blk b 79 (mCells c m) :: F) := by
 refine CSpec.of_body Try.func41 rfl Try.ntmps41 rfl fun F => ?_
 show CJ _ _ _ _ _ _ (_ :: _ :: F)
 refine sR <| oA rfl rfl <| nT <| CJ_seq <| CJ_block <| sR <| oM rfl rfl <| oP (P_lenS rfl Try.runUnderlying9) rfl <| oP (P_lss rfl rfl) rfl <| oM rfl rfl ?_
 first | (refine RJ_splitD 9 rfl (fun hg1B hg1 => ?_) (fun hg1B hg1 => ?_)) | (refine RJ_splitN 9 rfl (fun hg1B hg1 => ?_) (fun hg1B hg1 => ?_)) | (refine RJ_split 9 rfl (fun hg1B => ?_) (fun hg1B => ?_))
 ·
  refine RJ_gn (GY_no rfl rfl rfl hg1B) rfl rfl <| RJ_gn (GY_no rfl rfl rfl hg1B) rfl rfl <| RJ_gn (GY_no rfl rfl rfl hg1B) rfl rfl <| oP (P_pickT rfl hg1B rfl) rfl <| oA rfl rfl <| nT <| CJ_condT rfl rfl <| sR <| oA rfl rfl <| nT <| CJ_ret <| QJ_block_ret <| QJ_then_ret <| QJ_end (res1 Try.results41 rfl) <| CSpec.close () ?_ ?_ (t0_ (t0_ eR))
  · exact iv (by unfold Md.freshE; first | rw [if_pos (show n.size < 1 ∨ 40 < n.size by omega)] | (rw [if_neg (show ¬ (n.size < 1 ∨ 40 < n.size) by omega)]; simp_all [Md.memS_find]))
  · trivial
 ·
  refine gP (GY_yes rfl rfl rfl hg1B) (P_move rfl) rfl <| gP (GY_yes rfl rfl rfl hg1B) (P_lenS rfl Try.runUnderlying9) rfl <| gP (GY_yes rfl rfl rfl hg1B) (P_gtr rfl rfl) rfl <| oP (P_pickF rfl hg1B rfl) rfl <| oA rfl rfl <| nT ?_
  first | (refine CJ_condD rfl (fun hg2 => ?_) (fun hg2 => ?_)) | (refine CJ_condN rfl (fun hg2 => ?_) (fun hg2 => ?_)) | (refine CJ_cond rfl (fun hg2 => ?_) (fun hg2 => ?_))
  ·
   refine sR <| oA rfl rfl <| nT <| CJ_ret <| QJ_block_ret <| QJ_then_ret <| QJ_end (res1 Try.results41 rfl) <| CSpec.close () ?_ ?_ (t0_ (t0_ eR))
   · exact iv (by unfold Md.freshE; first | rw [if_pos (show n.size < 1 ∨ 40 < n.size by omega)] | (rw [if_neg (show ¬ (n.size < 1 ∨ 40 < n.size) by omega)]; simp_all [Md.memS_find]))
   · trivial
  ·
   refine sR <| oM rfl rfl <| oP (P_nilCheck rfl) rfl <| oP (P_fieldAddr rfl ⟨_, _, _, Try.runUnderlying79, rfl, rfl, Try.sizeOf45, rfl⟩) rfl <| oV (V_load rfl foc1 rfl Try.isAgg45) rfl <| oM rfl rfl <| oO <| O_call (L_slices_Contains_string hA (contains_eq (by first | assumption | omega))) rfl Try.call30 (Dels.cons del0 Dels.nil) rfl fun _ hc1 => oA rfl rfl <| nT ?_
   first | (refine CJ_condD rfl (fun hg3 => ?_) (fun hg3 => ?_)) | (refine CJ_condN rfl (fun hg3 => ?_) (fun hg3 => ?_)) | (refine CJ_cond rfl (fun hg3 => ?_) (fun hg3 => ?_))
   ·
    refine sR <| oA rfl rfl <| nT <| CJ_ret <| QJ_block_ret <| QJ_then_ret <| QJ_end (res1 Try.results41 rfl) <| CSpec.close () ?_ ?_ (t0_ (t0_ eR))
    · exact iv (by unfold Md.freshE; first | rw [if_pos (show n.size < 1 ∨ 40 < n.size by omega)] | (rw [if_neg (show ¬ (n.size < 1 ∨ 40 < n.size) by omega)]; simp_all [Md.memS_find]))
    · trivial
   ·
    refine CJ_skip <| QJ_block_normal <| QJ_then <| sR <| oA rfl rfl <| nT <| CJ_ret <| QJ_end (res1 Try.results41 rfl) <| CSpec.close () ?_ ?_ (t0_ (t0_ eR))
    · exact iv (by unfold Md.freshE; first | rw [if_pos (show n.size < 1 ∨ 40 < n.size by omega)] | (rw [if_neg (show ¬ (n.size < 1 ∨ 40 < n.size) by omega)]; simp_all [Md.memS_find]))
    · trivial
theorem c_add {W : World} {b : Nat} {c : MH} {m : Md} {n : ByteArray} (hl : m.names.length ≤ 100000) :
    CSpec Try.prog W 25 [ptr b 0, .string n] [sl tyS c.ov.v m.names, blk b 79 (mCells c m)] (fun _x : Sl3 => .int .i64 (m.addE n)) (fun x => m.addE n ≠ 0 → x = c.ov) (fun x F => sl tyS x.v (if m.addE n = 0 then m.names ++ [n] else m.names) :: blk b 79 (mCells { c with ov := x } m) :: F) := by
 refine CSpec.of_body Try.func25 rfl Try.ntmps25 rfl fun F => ?_
 show CJ _ _ _ _ _ _ (_ :: _ :: F)
 refine sR <| oA rfl rfl <| nT <| CJ_seq <| sR <| oM rfl rfl <| oM rfl rfl <| oO <| O_call (c_fresh (Reads.sl _ _ _) hl) rfl Try.call41 (Dels.cons del0 (Dels.cons del0 Dels.nil)) rfl fun _ hc1 => oA rfl rfl <| nT <| sR <| oM rfl rfl <| oP (P_neq rfl rfl) rfl <| nT ?_
 first | (refine CJ_condD rfl (fun hg1 => ?_) (fun hg1 => ?_)) | (refine CJ_condN rfl (fun hg1 => ?_) (fun hg1 => ?_)) | (refine CJ_cond rfl (fun hg1 => ?_) (fun hg1 => ?_))
 ·
  refine sR <| oM rfl rfl <| oA rfl rfl <| nT <| CJ_ret <| QJ_then_ret <| QJ_end (res1 Try.results25 rfl) ?_
  have e1 : m.addE n ≠ 0 ∧ m.addE n = m.freshE n := by
    have e2 : m.addE n = m.freshE n := by unfold Md.addE; first | rw [if_pos (by assumption)] | rw [if_neg (by assumption), if_pos (by omega)]
    exact ⟨by rw [e2]; assumption, e2⟩
  rw [if_neg e1.1]
  refine CSpec.close c.ov ?_ ?_ (t0_ (t0_ eR))
  · exact iv e1.2.symm
  · exact fun _ => rfl
 ·
  refine kT <| CJ_seq <| sR <| oM rfl rfl <| oP (P_nilCheck rfl) rfl <| oP (P_fieldAddr rfl ⟨_, _, _, Try.runUnderlying79, rfl, rfl, Try.sizeOf45, rfl⟩) rfl <| oV (V_load rfl foc1 rfl Try.isAgg45) rfl <| oV (V_len rfl foc0 (Reads.sl _ _ _) Try.runUnderlying45) rfl <| oP (P_geq rfl rfl) rfl <| nT ?_
  first | (refine CJ_condD rfl (fun hg2 => ?_) (fun hg2 => ?_)) | (refine CJ_condN rfl (fun hg2 => ?_) (fun hg2 => ?_)) | (refine CJ_cond rfl (fun hg2 => ?_) (fun hg2 => ?_))
  ·
   refine sR <| oA rfl rfl <| nT <| CJ_ret <| QJ_then_ret <| QJ_end (res1 Try.results25 rfl) ?_
   have e1 : m.addE n ≠ 0 ∧ m.addE n = 4 := by
     have e2 : m.addE n = 4 := by unfold Md.addE; first | rw [if_pos (by assumption)] | rw [if_neg (by assumption), if_pos (by omega)]
     exact ⟨by rw [e2]; decide, e2⟩
   rw [if_neg e1.1]
   refine CSpec.close c.ov ?_ ?_ (t0_ (t0_ eR))
   · exact iv e1.2.symm
   · exact fun _ => rfl
  ·
   refine kT <| sR <| oM rfl rfl <| oM rfl rfl <| oP (P_nilCheck rfl) rfl <| oP (P_fieldAddr rfl ⟨_, _, _, Try.runUnderlying79, rfl, rfl, Try.sizeOf45, rfl⟩) rfl <| oV (V_load rfl foc1 rfl Try.isAgg45) rfl <| oM rfl rfl <| oO <| O_buildSlice rfl (CMap15_bs_45_1_0 _) rfl fun b2 => RJ_ent (Ent.trans (t0_ eR) (sl_of_lit (t := tyS) (m := 1) [n] rfl rfl rfl (by decide))) <| oO <| O_append (t := tyS) (bytes := 16) rfl rfl del1 foc0 (Reads.sl _ _ _) Try.underlying45 ok_tyS (by simp only [List.length_append, List.length_cons, List.length_nil, maxLen] at *; omega) (by simp only [List.length_append, List.length_cons, List.length_nil, maxLen] at *; omega) rfl fun p3 c4 => oP (P_nilCheck rfl) rfl <| oP (P_fieldAddr rfl ⟨_, _, _, Try.runUnderlying79, rfl, rfl, Try.sizeOf45, rfl⟩) rfl <| oO <| O_store rfl rfl foc2 rfl rfl Try.sizeOf45 <| nT <| sR <| oA rfl rfl <| nT <| CJ_ret <| QJ_end (res1 Try.results25 rfl) ?_
   have e1 : m.addE n = 0 := by unfold Md.addE; rw [if_neg (by assumption), if_neg (by omega)]
   rw [if_pos e1]
   refine CSpec.close ⟨p3, _, c4⟩ ?_ ?_ (t0_ (t1_ (eD eR)))
   · exact iv e1.symm
   · exact fun h => absurd e1 h
theorem c_Create {W : World} {b : Nat} {c : MH} {m : Md} {n : ByteArray} (hlen : m.dv.length + 1 ≤ 10000) :
    CSpec Try.prog W 8 [ptr b 0, .string n] [blk b 79 (mCells c m), MapR c m] (fun _ : MH => .int .i64 (m.crE n)) (fun _ => True) (fun c2 F => blk b 79 (mCells c2 (m.crS n)) :: MapR c2 (m.crS n) :: F) := by
 refine CSpec.of_body Try.func8 rfl Try.ntmps8 rfl fun F => ?_
 show CJ _ _ _ _ _ _ (_ :: _ :: F)
 refine CJ_pure (MapR_wf foc1) fun hW => ?_
 have hns := Md.names_len (m := m)
 refine CJ_ent (Ent.trans (t1_ eR) MapR_flat) <| sR <| oA rfl rfl <| nT <| sR <| oM rfl rfl <| oM rfl rfl <| oO <| O_call (c_add (by omega)) rfl Try.call25 (Dels.cons del2 (Dels.cons del5 Dels.nil)) rfl fun ov9 hov9 => oA rfl rfl <| nT <| CJ_seq <| sR <| oM rfl rfl <| oP (P_eql rfl rfl) rfl <| nT ?_
 first | (refine CJ_condD rfl (fun hg1 => ?_) (fun hg1 => ?_)) | (refine CJ_condN rfl (fun hg1 => ?_) (fun hg1 => ?_)) | (refine CJ_cond rfl (fun hg1 => ?_) (fun hg1 => ?_))
 ·
  refine CJ_region <| oM rfl rfl <| oP (P_nilCheck rfl) rfl <| oP (P_fieldAddr rfl ⟨_, _, _, Try.runUnderlying79, rfl, rfl, Try.sizeOf77, rfl⟩) rfl <| oV (V_load rfl foc1 rfl Try.isAgg77) rfl <| oM rfl rfl <| oM rfl rfl <| oP (P_build rfl (CMap15_bld_75_0 _)) rfl <| oO <| O_box rfl rfl rfl fun b2 => oO <| O_mapUpdate (M := mDev) (k := n) (v := b2) rfl rfl rfl foc4 ok_mDev <| nT <| sR <| oM rfl rfl <| oA rfl rfl <| nT <| CJ_ret <| QJ_end (res1 Try.results8 rfl) ?_
  have e0 : m.addE n = 0 := by assumption
  obtain ⟨e1, e2, e3, e4⟩ := cr_ok e0
  rw [if_pos e0, e1]
  refine CSpec.close (c.push ov9 (setM c.dl n b2) c.bl (hNew b2) (dNew n)) ?_ ?_ (Ent.trans (Ent.trans (t0_ (t5_ (t2_ (t2_ (t0_ (t1_ (t1_ eR))))))) (MapR_addD (ov := ov9) hW e2 e3 hlen)) (t1_ (t0_ eR)))
  · exact iv (show m.addE n = m.crE n from rfl)
  · trivial
 ·
  refine kT <| sR <| oM rfl rfl <| oA rfl rfl <| nT <| CJ_ret <| QJ_end (res1 Try.results8 rfl) ?_
  have e0 : m.addE n ≠ 0 := by assumption
  obtain ⟨e1, e2⟩ := crE_cr e0
  obtain rfl := hov9 e0
  rw [if_neg e0, e2]
  refine CSpec.close c ?_ ?_ (Ent.trans (Ent.trans (t2_ (t2_ (t0_ (t1_ (t1_ (t1_ eR)))))) (MapR_close hW)) (t1_ (t0_ eR)))
  · exact iv e1.symm
  · trivial
end Go.Proofs
namespace Go.Proofs
namespace Md
section
variable {m : Md} {k : Nat} {n : ByteArray}
def drop (m : Md) (k : Nat) : Md := m.set k { m.at k with gone := true }
theorem at_drop {i : Nat} (hk : k < m.dv.length) : (m.drop k).at i = if i = k then { m.at k with gone := true } else m.at i := at_set hk
theorem drop_len : (m.drop k).dv.length = m.dv.length := by show (m.dv.set k _).length = _; simp
theorem find_drop (hO : MdOk m) (hk : k < m.dv.length) (hg : (m.at k).gone = false) : (m.drop k).find n = if n = (m.at k).name then none else m.find n := by
  have hin : ∀ {x : Md} {j : Nat}, x.find n = some j → j < x.dv.length ∧ (x.at j).gone = false ∧ (x.at j).name = n := fun {x j} h => by
    obtain ⟨h1, h2, _⟩ := List.findIdx?_eq_some_iff_getElem.1 h
    have e : x.at j = x.dv[j] := by simp [Md.at, List.getD, h1]
    simp only [isN, Bool.and_eq_true, Bool.not_eq_true', decide_eq_true_eq] at h2
    exact ⟨h1, by rw [e]; exact h2.1, by rw [e]; exact h2.2⟩
  have hfi : ∀ {x : Md} {j : Nat}, j < x.dv.length → (x.at j).gone = false → (x.at j).name = n → ∃ i, x.find n = some i := fun {x j} h1 h2 h3 => by
    cases hf : x.find n with
    | some i => exact ⟨i, rfl⟩
    | none =>
      have := List.findIdx?_eq_none_iff.1 hf x.dv[j] (List.getElem_mem h1)
      have e : x.at j = x.dv[j] := by simp [Md.at, List.getD, h1]
      rw [← e] at this
      simp [isN, h2, h3] at this
  by_cases e : n = (m.at k).name
  · rw [if_pos e]
    cases hf : (m.drop k).find n with
    | none => rfl
    | some j =>
      obtain ⟨h1, h2, h3⟩ := hin hf
      rw [drop_len] at h1
      rw [at_drop hk] at h2 h3
      by_cases ej : j = k
      · rw [if_pos ej] at h2; cases h2
      · rw [if_neg ej] at h2 h3
        exact absurd (hO.uniq j k h1 hk h2 hg (h3.trans e)) ej
  · rw [if_neg e]
    cases hf : m.find n with
    | none =>
      cases hf2 : (m.drop k).find n with
      | none => rfl
      | some j =>
        obtain ⟨h1, h2, h3⟩ := hin hf2
        rw [drop_len] at h1
        rw [at_drop hk] at h2 h3
        by_cases ej : j = k
        · rw [if_pos ej] at h2; cases h2
        · rw [if_neg ej] at h2 h3
          obtain ⟨i, hi⟩ := hfi h1 h2 h3
          rw [hf] at hi; cases hi
    | some j =>
      obtain ⟨h1, h2, h3⟩ := hin hf
      have ej : j ≠ k := fun ej => e (by rw [← h3, ej])
      obtain ⟨i, hi⟩ := hfi (x := m.drop k) (j := j) (by rw [drop_len]; exact h1) (by rw [at_drop hk, if_neg ej]; exact h2) (by rw [at_drop hk, if_neg ej]; exact h3)
      obtain ⟨g1, g2, g3⟩ := hin hi
      rw [drop_len] at g1
      rw [at_drop hk] at g2 g3
      by_cases ei : i = k
      · rw [if_pos ei] at g2; cases g2
      · rw [if_neg ei] at g2 g3
        rw [hi, hO.uniq i j g1 h1 g2 h2 (g3.trans h3.symm)]
end
end Md
open Md in
theorem MdOk.drop {m : Md} {k : Nat} (hO : MdOk m) (hk : k < m.dv.length) (hg : (m.at k).gone = false) (hu : m.users (m.at k).name = 0) (hb : m.busy k = false) : MdOk (m.drop k) := by
  have hf := fun n => find_drop (n := n) hO hk hg
  have hc : ∀ i, ((m.drop k).at i).gone = false → i ≠ k ∧ (m.drop k).at i = m.at i := fun i hi => by
    rw [at_drop hk] at hi ⊢
    by_cases e : i = k
    · rw [if_pos e] at hi; cases hi
    · exact ⟨e, if_neg e⟩
  have hfl : ∀ i, ((m.drop k).at i).live = (m.at i).live ∧ ((m.drop k).at i).new = (m.at i).new ∧ ((m.drop k).at i).hl = (m.at i).hl ∧ ((m.drop k).at i).hn = (m.at i).hn ∧ ((m.drop k).at i).isB = (m.at i).isB ∧ ((m.drop k).at i).susp = (m.at i).susp ∧ ((m.drop k).at i).wait = (m.at i).wait ∧ ((m.drop k).at i).base = (m.at i).base := fun i => by
    rw [at_drop hk]
    by_cases e : i = k
    · rw [if_pos e, e]; exact ⟨rfl, rfl, rfl, rfl, rfl, rfl, rfl, rfl⟩
    · rw [if_neg e]; exact ⟨rfl, rfl, rfl, rfl, rfl, rfl, rfl, rfl⟩
  unfold busy at hb
  rw [Bool.or_eq_false_iff] at hb
  have hw0 : (m.at k).wait = [] := by simpa using hb.1
  have hno : ∀ i, i < m.dv.length → ∀ w ∈ (m.at i).wait, w.gv ≠ k := fun i hi w hw e => by
    have h := List.any_eq_false.1 hb.2 (m.at i) (by simp [Md.at, List.getD, hi])
    exact h (List.any_eq_true.2 ⟨w, hw, by simp [e]⟩)
  refine ⟨fun i j hi hj hgi hgj he => ?_, fun i hi hgi => ?_, fun i => ?_, fun i hi hgi t ht hne => ?_, ?_, fun i hi => ?_, fun i => ?_, fun i => ?_, fun i hi w hw => ?_⟩
  · rw [drop_len] at hi hj
    have e1 := (hc i hgi).2; have e2 := (hc j hgj).2
    rw [e1] at hgi he
    rw [e2] at hgj he
    exact hO.uniq i j hi hj hgi hgj he
  · rw [drop_len] at hi
    have e1 := (hc i hgi).2
    rw [e1] at hgi ⊢
    exact hO.nm i hi hgi
  · rw [(hfl i).1, (hfl i).2.1]; exact hO.chk i
  · rw [drop_len] at hi
    have e1 := (hc i hgi).2
    rw [e1] at hgi ht
    rw [hf]
    have h1 := hO.nam i hi hgi t ht hne
    split
    · rename_i e
      exfalso
      have h2 := List.countP_eq_zero.1 hu (m.at i) (by simp [Md.at, List.getD, hi])
      apply h2
      unfold usesD
      rw [hgi]
      have hn : ∀ l : List api_Target, t ∈ l → Go.Proofs.nam l (m.at k).name = true := fun l hl => List.any_eq_true.2 ⟨t, hl, by rw [← e]; simp [hne]⟩
      rcases List.mem_append.1 ht with h3 | h3
      · rw [hn _ h3]; rfl
      · rw [hn _ h3]; simp
    · exact h1
  · obtain ⟨rk, hr⟩ := hO.acy
    refine ⟨rk, fun i hi hgi t ht j hj => ?_⟩
    rw [drop_len] at hi
    have e1 := (hc i hgi).2
    rw [e1] at hgi ht
    rw [hf] at hj
    split at hj
    · cases hj
    · exact hr i hi hgi t ht j hj
  · obtain ⟨q1, q2, q3, q4, q5, q6, q7, q8⟩ := hfl i
    rw [q5] at hi
    rw [q1, q2, q3, q4, q6, q7, q8]; exact hO.bas i hi
  · rw [(hfl i).1, (hfl i).2.2.1]; exact hO.hl i
  · rw [(hfl i).2.1, (hfl i).2.2.2.1]; exact hO.hn i
  · rw [drop_len] at hi ⊢
    rw [(hfl i).2.2.2.2.2.2.1] at hw
    obtain ⟨g1, g2, g3, g4, g5⟩ := hO.org i hi w hw
    have ei : i ≠ k := fun e => by rw [e, hw0] at hw; cases hw
    have ew := hno i hi w hw
    refine ⟨by rw [at_drop hk, if_neg ei]; exact g1, g2, by rw [at_drop hk, if_neg ew]; exact g3, by rw [at_drop hk, if_neg ew]; exact g4, g5⟩
theorem MdBig.drop {m : Md} {k : Nat} (h : MdBig m) (hk : k < m.dv.length) : MdBig (m.drop k) := h.set hk rfl (h.wl k) h.tks h.told h.wr
end Go.Proofs
set_option linter.unusedSimpArgs false
set_option maxRecDepth 20000
namespace Go.Proofs
open Go.VG
theorem mpc_nd {κ ν : Type} [DecidableEq κ] {M : MTy κ ν} {r : Nat} {l : List (κ × ν)} {H : List HP} {C : HP → List HP} (hf : Foc H (mpc M r l) C) : ∀ h, stars H h → (l.map (·.1)).Nodup := fun h hh => by
  obtain ⟨F, hp, _⟩ := hf.focus
  obtain ⟨a1, a2, d1, e1, ⟨es, clock, _, _, h3, _⟩, _⟩ := stars_perm hp _ hh
  exact h3
namespace Md
section
variable {m : Md} {n : ByteArray} {k : Nat}
theorem dv_range (m : Md) : m.dv = (List.range m.dv.length).map m.at := List.ext_getElem (by simp) fun i h1 h2 => by simp [Md.at, List.getD, h1]
theorem names_range (m : Md) : m.names = ((List.range m.dv.length).filter fun j => !(m.at j).gone).map fun j => (m.at j).name := by
  have : m.names = ((((List.range m.dv.length).map m.at).filter fun d => !d.gone)).map (·.name) := by rw [← dv_range]; rfl
  rw [this, List.filter_map, List.map_map]; rfl
end
end Md
end Go.Proofs
namespace Go.Proofs
namespace Md
section
variable {m m2 : Md} {k i : Nat} {x : Wt} {n : ByteArray}
def rs0 (m : Md) (k : Nat) : Md := m.set k { rsX (m.at k) with susp := false, wait := [] }
theorem ok_rs0 (hO : MdOk m) (hk : m.isDx k) : MdOk (m.rs0 k) := by
  obtain ⟨rk, hr⟩ := hO.acy
  have hx : rsX (m.at k) = m.at k ∨ ((m.at k).hn = true ∧ rsX (m.at k) = { m.at k with live := (m.at k).new, hl := true, new := [], hn := false }) := by
    unfold rsX
    cases h : (m.at k).hn
    · exact .inl (by simp)
    · exact .inr ⟨rfl, by simp⟩
  have hs : ∀ t ∈ tbl { rsX (m.at k) with susp := false, wait := [] }, t ∈ tbl (m.at k) := fun t ht => by
    rcases hx with h | ⟨_, h⟩
    · rw [h] at ht; exact ht
    · rw [h] at ht
      have : t ∈ (m.at k).new := by simpa [tbl] using ht
      exact List.mem_append.2 (.inr this)
  have hkey : key { rsX (m.at k) with susp := false, wait := [] } = key (m.at k) := by
    rcases hx with h | ⟨_, h⟩ <;> rw [h] <;> rfl
  refine hO.set (d' := { rsX (m.at k) with susp := false, wait := [] }) hk rfl hkey ?_ ?_ (fun t ht hne => hO.nam k hk.1 hk.2.1 t (hs t ht) hne) ⟨rk, rank_sub hk.1 rfl hkey hs hr⟩ ?_ ?_ (fun w hw => by cases hw)
  · rcases hx with h | ⟨_, h⟩ <;> rw [h] <;> exact hk.2.2
  · rcases hx with h | ⟨_, h⟩ <;> rw [h]
    · exact hO.chk k
    · exact ⟨(hO.chk k).2, rfl⟩
  · rcases hx with h | ⟨_, h⟩ <;> rw [h]
    · exact hO.hl k
    · exact fun h => by cases h
  · rcases hx with h | ⟨_, h⟩ <;> rw [h]
    · exact hO.hn k
    · exact fun _ => rfl
theorem wsum_congr (hl : m2.dv.length = m.dv.length) (h : ∀ i, (m2.at i).wait = (m.at i).wait) : m2.wsum = m.wsum := by
  unfold wsum
  congr 1
  refine List.ext_getElem (by simp [hl]) fun i h1 h2 => ?_
  simp only [List.length_map] at h1 h2
  have := congrArg List.length (h i)
  simpa [Md.at, List.getD, h1, h2] using this
structure RsK (m m2 : Md) (i : Nat) : Prop where
  like : Like m m2
  tks : m2.tks = m.tks
  cl : m2.cl = m.cl
  told : m2.told.length ≤ m.told.length + i
  wr : m2.wr ≤ m.wr + i
  wsum : m2.wsum ≤ m.wsum + i
theorem RsK.refl : RsK m m 0 := ⟨.refl, rfl, rfl, Nat.le_refl _, Nat.le_refl _, Nat.le_refl _⟩
theorem RsK.step (h : RsK m m2 i) : RsK m (m2.rsT x) (i + 1) := by
  have h3 := h.told; have h4 := h.wr; have h5 := h.wsum
  unfold rsT
  split
  · rename_i w _
    refine ⟨h.like.trans (Like.set (m := m2) (k := w) (d' := { m2.at w with wait := (m2.at w).wait ++ [x] }) ⟨rfl, rfl, rfl, rfl, rfl, rfl, rfl, rfl⟩), h.tks, h.cl, Nat.le_succ_of_le h3, Nat.le_succ_of_le h4, ?_⟩
    refine Nat.le_trans ?_ (Nat.succ_le_succ h5)
    by_cases hw : w < m2.dv.length
    · have := wsum_set m2.dv w { m2.at w with wait := (m2.at w).wait ++ [x] } hw
      have e : (m2.dv.getD w Dv.z).wait.length = (m2.at w).wait.length := rfl
      rw [List.length_append, List.length_singleton] at this
      show ((m2.dv.set w _).map fun d => d.wait.length).sum ≤ (m2.dv.map fun d => d.wait.length).sum + 1
      omega
    · show ((m2.dv.set w _).map fun d => d.wait.length).sum ≤ (m2.dv.map fun d => d.wait.length).sum + 1
      rw [List.set_eq_of_length_le (by omega)]; omega
  · have hK := carry_kept (m := m2) (m2.dv.length + 1) x.gv x.t
    have e := wsum_congr hK.like.len hK.wait
    refine ⟨h.like.trans ⟨hK.like.len, hK.like.at_⟩, hK.tks.trans h.tks, hK.cl.trans h.cl, ?_, Nat.le_trans hK.wr (Nat.succ_le_succ h4), ?_⟩
    · show ((m2.carryk x.gv x.t).2.told ++ [_]).length ≤ _
      rw [List.length_append, show (m2.carryk x.gv x.t).2.told = m2.told from hK.told]
      simp; omega
    · show (m2.carryk x.gv x.t).2.wsum ≤ _
      rw [show (m2.carryk x.gv x.t).2.wsum = m2.wsum from e]; omega
theorem RsK.foldl : ∀ (l : List Wt) {i : Nat} {m2 : Md}, RsK m m2 i → RsK m (l.foldl rsT m2) (i + l.length)
  | [], _, _, h => h
  | x :: l, i, m2, h => by
    have := RsK.foldl l (h.step (x := x))
    rw [List.length_cons, show i + (l.length + 1) = i + 1 + l.length by omega]
    exact this
theorem rs0_wsum (hk : k < m.dv.length) : (m.rs0 k).wsum + (m.at k).wait.length = m.wsum := by
  have := wsum_set m.dv k { rsX (m.at k) with susp := false, wait := [] } hk
  have e : (m.dv.getD k Dv.z).wait.length = (m.at k).wait.length := rfl
  rw [e] at this
  exact this
theorem dev_lt (h : m.dev n = some k) : k < m.dv.length := by
  unfold dev at h
  cases hf : m.find n with
  | none => rw [hf] at h; cases h
  | some j =>
    rw [hf] at h
    have := find_lt0 hf
    cases hb : (m.at j).isB
    · simp [hb] at h; omega
    · simp [hb] at h
theorem bd_rs (h : MdBd m) (hc : m.cl < 4000) : MdBd (m.rsS n).tick := by
  have h1 := h.tks; have h2 := h.told; have h3 := h.wr; have h4 := h.len; have h5 := h.wl
  unfold rsS
  cases hd : m.dev n with
  | none => exact tick_bd h hc
  | some k =>
    show MdBd (Md.tick (if m.rsE n = 0 then (m.at k).wait.foldl rsT (m.rs0 k) else m))
    split
    · have hk := dev_lt hd
      have hK := (RsK.refl (m := m.rs0 k)).foldl (m.at k).wait
      rw [Nat.zero_add] at hK
      have hw := rs0_wsum (m := m) hk
      have g1 := hK.wsum; have g2 := hK.told; have g3 := hK.wr; have g4 := hK.tks; have g5 := hK.cl; have g6 := hK.like.len
      have e1 : (m.rs0 k).tks = m.tks := rfl
      have e2 : (m.rs0 k).cl = m.cl := rfl
      have e3 : (m.rs0 k).told = m.told := rfl
      have e4 : (m.rs0 k).wr = m.wr := rfl
      have e5 : (m.rs0 k).dv.length = m.dv.length := by show (m.dv.set k _).length = _; simp
      rw [e3] at g2
      show MdBd ((m.at k).wait.foldl rsT (m.rs0 k)).tick
      generalize (m.at k).wait.foldl rsT (m.rs0 k) = z at *
      exact ⟨by show z.wsum ≤ z.tks; omega, by show z.tks ≤ z.cl + 1; omega, by show z.told.length ≤ 4000 * (z.cl + 1); omega, by show z.wr ≤ 4000 * (z.cl + 1); omega, by show z.dv.length ≤ z.cl + 1 + 2; omega, by show z.cl + 1 ≤ 4000; omega⟩
    · exact tick_bd h hc
theorem foldl_take {l : List Wt} (hi : i < l.length) : (l.take (i + 1)).foldl rsT m = ((l.take i).foldl rsT m).rsT (l.getD i Wt.z) := by
  have e : l.take (i + 1) = l.take i ++ [l.getD i Wt.z] := by rw [List.take_succ_eq_append_getElem hi]; simp [List.getD, hi]
  rw [e, List.foldl_append]; rfl
theorem rsT_way {w : Nat} (h : m.wayk x.gv x.t = some w) : m.rsT x = m.addW w x := by unfold rsT; rw [h]
theorem rsT_go (h : m.wayk x.gv x.t = none) : m.rsT x = { (m.carryk x.gv x.t).2 with told := (m.carryk x.gv x.t).2.told ++ [⟨true, (x.tk : Int), (m.carryk x.gv x.t).1.1, (m.carryk x.gv x.t).1.2⟩] } := by unfold rsT; rw [h]
theorem rs_none (h : m.dev n = none) : m.rsE n = 12 ∧ m.rsS n = m := by unfold rsE rsS; rw [h]; exact ⟨rfl, rfl⟩
theorem rsS_no (h : m.rsE n ≠ 0) : m.rsS n = m := by
  unfold rsS
  cases m.dev n with
  | none => rfl
  | some k => exact if_neg h
theorem rs_state (h : m.dev n = some k) (h1 : (m.at k).susp = false ∨ ((m.at k).hl = false ∧ (m.at k).hn = false)) : m.rsE n = 20 := by unfold rsE; rw [h]; exact if_pos h1
theorem rs_fit (h : m.dev n = some k) (h1 : ¬ ((m.at k).susp = false ∨ ((m.at k).hl = false ∧ (m.at k).hn = false))) (h2 : (m.at k).hn = true ∧ (m.needs k (tsize (m.at k).new) = false ∨ m.fits (m.at k).new = false)) : m.rsE n = 1 := by
  unfold rsE; rw [h]; show (if _ then _ else _) = _; rw [if_neg h1, if_pos h2]
theorem rs_ok (h : m.dev n = some k) (h1 : ¬ ((m.at k).susp = false ∨ ((m.at k).hl = false ∧ (m.at k).hn = false))) (h2 : ¬ ((m.at k).hn = true ∧ (m.needs k (tsize (m.at k).new) = false ∨ m.fits (m.at k).new = false))) : m.rsE n = 0 ∧ m.rsS n = (m.at k).wait.foldl rsT (m.rs0 k) := by
  have e : m.rsE n = 0 := by unfold rsE; rw [h]; show (if _ then _ else _) = _; rw [if_neg h1, if_neg h2]
  exact ⟨e, by unfold rsS; rw [h]; exact if_pos e⟩
end
end Md
end Go.Proofs
set_option linter.unusedSimpArgs false
set_option maxRecDepth 20000
namespace Go.Proofs
open Go.VG
theorem CMap17_bs_73_1_0 (v0 : Int) (v1 : (Option Addr)) (v2 : Int) (v3 : Int) (v4 : Int) : BuildsSlice Try.prog 73 1 [(0, .agg #[.int .i64 v0, .pointer v1, .int .i64 v2, .int .i64 v3, .int .u64 v4])] 94 [.int .i64 v0, .pointer v1, .int .i64 v2, .int .i64 v3, .int .u64 v4] := fun w => by kernel_rfl
theorem CMap17_bs_46_1_0 (v0 : Bool) (v1 : Int) (v2 : Int) (v3 : Int) : BuildsSlice Try.prog 46 1 [(0, .agg #[.bool v0, .int .i64 v1, .int .u64 v2, .int .i64 v3])] 40 [.bool v0, .int .i64 v1, .int .u64 v2, .int .i64 v3] := fun w => by kernel_rfl
theorem AJ_alloc {P : Program} {n : Env} {W : World} {l : List Oper} {Q : Exit → Act → World → Prop} {Hr H : List HP} {tl fuel m : Nat} {s : Slots} {T : TypeId} {z : Value} {zs : List Value} {d : Nat} {ty : TypeId} {pos : String} {after : Array Edge} {g : Option (Nat × Bool)} (i m' : Nat) (hi : l[i]? = some ⟨some d, .alloc T, ty, pos, after, g⟩) (hr : readyAre l.toArray m [i] = true) (hm' : m ||| 2 ^ i = m') (hg : GY l.toArray s ⟨some d, .alloc T, ty, pos, after, g⟩ true)
    (hz : ∀ w, (zeroValue T).run P w = .ok z w) (hc : z.cells = zs.toArray) (hd : Nat.blt d n.n = true) (h : ∀ b, AJ P n W l Q Hr tl fuel m' ((d, ptr b 0) :: s) (blk b T zs :: H)) : AJ P n W l Q Hr tl (fuel + 1) m s H := by
  intro a w hf hs
  have hr' : Region.ready .any l.toArray (listedOf l.toArray.size m) = [i] := by simpa [readyAre] using hr
  refine ⟨fun h0 => (by rw [hr'] at h0; cases h0), fun j hj => ?_⟩
  rw [hr'] at hj
  have : j = i := by simpa using hj
  subst this
  rw [listedOf_set, hm']
  have hi' : l.toArray[j]? = some ⟨some d, .alloc T, ty, pos, after, g⟩ := by simpa using hi
  have hrun : (execOp a.eval ⟨some d, .alloc T, ty, pos, after, g⟩).run P w = .ok (.value (ptr w.heap.size 0)) (w.alloc (.cells zs.toArray T)) := by simp [execOp, Instr.alloc, hz, newVar, newRow, hc]
  unfold wpOp
  simp only [hi', hg n a hf, if_true]
  refine .inl ?_
  unfold Oper.wp
  rw [hrun]
  exact ⟨fun _ hS => (hS.alloc _).imp (Ent.drop Ent.refl), h _ _ _ (hf.put hd _) (hs.alloc _)⟩
theorem err_at {bs : Nat → Nat} {l : List Wt} {i : Nat} (hi : i < l.length) : Value.agg #[.int .i64 ((l.getD i Wt.z).tk : Int), ptr (bs (l.getD i Wt.z).gv) 0, .int .i64 (l.getD i Wt.z).t.Kind, .int .i64 (l.getD i Wt.z).t.At, .int .u64 ((l.getD i Wt.z).t.Value.toNat : Int)] = Value.agg (tyErr.enc ((l.map (wC bs)).getD i tyErr.dflt)).toArray := by
  have : (l.map (wC bs)).getD i tyErr.dflt = wC bs (l.getD i Wt.z) := by simp [List.getD, hi]
  rw [this]; rfl
namespace Md
section
variable {m : Md} {k i : Nat}
def rsI (m : Md) (k i : Nat) : Md := ((m.at k).wait.take i).foldl rsT (m.rs0 k)
theorem rsI_zero : m.rsI k 0 = m.rs0 k := by unfold rsI; rw [List.take_zero]; rfl
theorem rsI_succ (hi : i < (m.at k).wait.length) : m.rsI k (i + 1) = (m.rsI k i).rsT ((m.at k).wait.getD i Wt.z) := foldl_take hi
theorem rsI_end : m.rsI k (m.at k).wait.length = (m.at k).wait.foldl rsT (m.rs0 k) := by unfold rsI; rw [List.take_length]
theorem rsI_K (hi : i ≤ (m.at k).wait.length) : RsK (m.rs0 k) (m.rsI k i) i := by
  have := (RsK.refl (m := m.rs0 k)).foldl ((m.at k).wait.take i)
  rw [Nat.zero_add, List.length_take, Nat.min_eq_left hi] at this
  exact this
theorem rs0_at (hk : k < m.dv.length) (j : Nat) : ((m.rs0 k).at j).gone = (m.at j).gone ∧ ((m.rs0 k).at j).isB = (m.at j).isB ∧ ((m.rs0 k).at j).name = (m.at j).name := by
  unfold rs0
  rw [at_set hk]
  by_cases e : j = k
  · subst e; rw [if_pos rfl]
    unfold rsX
    split <;> exact ⟨rfl, rfl, rfl⟩
  · rw [if_neg e]; exact ⟨rfl, rfl, rfl⟩
theorem rsI_isD (hk : k < m.dv.length) (hi : i ≤ (m.at k).wait.length) {j : Nat} (hj : m.isD j) : (m.rsI k i).isD j := by
  have h := (rsI_K hi).like
  obtain ⟨g1, g2, _⟩ := rs0_at hk j
  exact ⟨by rw [h.len]; show j < (m.dv.set k _).length; rw [List.length_set]; exact hj.1, ((h.at_ j).gone.trans g1).trans hj.2.1, ((h.at_ j).isB.trans g2).trans hj.2.2⟩
theorem org_at (hO : MdOk m) (hk : k < m.dv.length) (hi : i < (m.at k).wait.length) : m.isD ((m.at k).wait.getD i Wt.z).gv ∧ 1 ≤ ((m.at k).wait.getD i Wt.z).t.Kind ∧ ((m.at k).wait.getD i Wt.z).t.Kind ≤ 3 ∧ inT ((m.at k).wait.getD i Wt.z).t := by
  obtain ⟨_, h1, h2, h3, h4, h5, h6⟩ := hO.org k hk _ (getD_mem Wt.z hi)
  exact ⟨⟨h1, h2, h3⟩, h4, h5, h6⟩
end
end Md
theorem c_Resume {W : World} {b : Nat} {c : MH} {m : Md} {n : ByteArray} (hwr : m.wr + m.wsum < 100000000) (hto : m.told.length + m.wsum < 100000000) (hws : m.wsum < 100000) :
    CSpec Try.prog W 11 [ptr b 0, .string n] [blk b 79 (mCells c m), MapR c m] (fun _ : MH => .int .i64 (m.rsE n)) (fun _ => True) (fun c2 F => blk b 79 (mCells c2 (m.rsS n)) :: MapR c2 (m.rsS n) :: F) := by
 refine CSpec.of_body Try.func11 rfl Try.ntmps11 rfl fun F => ?_
 show CJ _ _ _ _ _ _ (_ :: _ :: F)
 refine CJ_pure (MapR_wf foc1) fun hW => ?_
 have hO := hW.ok
 have hns := Md.names_len (m := m)
 have hln := hW.big.len
 refine sR <| oA rfl rfl <| nT <| sR <| oM rfl rfl <| oP (P_nilCheck rfl) rfl <| oP (P_fieldAddr rfl ⟨_, _, _, Try.runUnderlying79, rfl, rfl, Try.sizeOf77, rfl⟩) rfl <| oV (V_load rfl foc0 rfl Try.isAgg77) rfl <| oM rfl rfl <| oO (O_lookD rfl rfl foc1 rfl (fun hd2 => ?_) (fun k1 hd2 => ?_))
 ·
  refine oA rfl rfl <| nT <| CJ_cutR (X := Unit) [4, 17, 18, 19, 20, 21, 22, 23, 24, 25, 26, 27, 28, 29, 30, 31, 32, 33, 34, 35, 36, 37, 38, 39, 40, 41, 42, 43, 44, 45, 46, 47, 48, 49, 50, 51, 52, 53, 54, 55, 56, 57, 58, 59, 60, 61, 62, 63, 64] (fun _ => ([] : Slots)) (fun _ R => R) (fun _ => False) Dels.nil ?_ ?_
  ·
   refine CJ_block <| sR <| oM rfl rfl <| oP (P_eqlNN rfl rfl Try.underlying72) rfl <| oA rfl rfl <| nT <| CJ_condT rfl rfl <| sR <| oA rfl rfl <| nT <| CJ_ret <| QJ_block_ret <| QJ_then_ret <| QJ_end (res1 Try.results11 rfl) ?_
   have e1 := Md.rs_none hd2
   rw [e1.2]
   refine CSpec.close c ?_ ?_ (t0_ (t0_ eR))
   · rw [e1.1]
   · trivial
  ·
   intro _ hpf
   show CJ _ _ _ _ _ (([] : Slots) ++ forget _ _) (_)
   exact hpf.elim
 ·
  refine oA rfl rfl <| nT <| CJ_cutR (X := Unit) [4, 17, 18, 19, 20, 21, 22, 23, 24, 25, 26, 27, 28, 29, 30, 31, 32, 33, 34, 35, 36, 37, 38, 39, 40, 41, 42, 43, 44, 45, 46, 47, 48, 49, 50, 51, 52, 53, 54, 55, 56, 57, 58, 59, 60, 61, 62, 63, 64] (fun _ => ([] : Slots)) (fun _ R => blk b 79 (mCells c m) :: MapR c m :: R) (fun _ => ¬ ((m.at k1).susp = false ∨ ((m.at k1).hl = false ∧ (m.at k1).hn = false)) ∧ ¬ ((m.at k1).hn = true ∧ (m.needs k1 (tsize (m.at k1).new) = false ∨ m.fits (m.at k1).new = false))) (Dels.cons del0 (Dels.cons del0 Dels.nil)) ?_ ?_
  ·
   refine CJ_block <| sR <| oM rfl rfl <| oP (P_eqlPN rfl rfl Try.underlying72) rfl <| oA rfl rfl <| nT <| CJ_condF rfl rfl <| CJ_seq ?_
   have hdk := Md.dev_is hd2
   have hch2 := chk_len (hO.chk k1).2
   have hwl := m.wait_le k1
   refine CJ_region <| oM rfl rfl <| oP (P_nilCheck rfl) rfl <| oP (P_fieldAddr rfl ⟨_, _, _, Try.runUnderlying75, rfl, rfl, Try.sizeOf4, rfl⟩) rfl <| oV (VJ_ent (Ent.trans (t1_ eR) (MapR_dev (Md.dev_is hd2).1)) (V_load rfl foc0 rfl Try.isAgg4)) rfl <| oP (P_not rfl) rfl <| oM rfl rfl ?_
   first | (refine RJ_splitD 26 rfl (fun hg1B hg1 => ?_) (fun hg1B hg1 => ?_)) | (refine RJ_splitN 26 rfl (fun hg1B hg1 => ?_) (fun hg1B hg1 => ?_)) | (refine RJ_split 26 rfl (fun hg1B => ?_) (fun hg1B => ?_))
   ·
    refine RJ_gn (GY_no rfl rfl rfl hg1B) rfl rfl <| RJ_gn (GY_no rfl rfl rfl hg1B) rfl rfl <| RJ_gn (GY_no rfl rfl rfl hg1B) rfl rfl <| RJ_gn (GY_no rfl rfl rfl hg1B) rfl rfl <| RJ_gn (GY_no rfl rfl rfl hg1B) rfl rfl <| RJ_gn (GY_no rfl rfl rfl hg1B) rfl rfl <| RJ_gn (GY_undef rfl rfl rfl) rfl rfl <| RJ_gn (GY_undef rfl rfl rfl) rfl rfl <| RJ_gn (GY_undef rfl rfl rfl) rfl rfl <| RJ_gn (GY_undef rfl rfl rfl) rfl rfl <| RJ_gn (GY_undef rfl rfl rfl) rfl rfl <| RJ_gn (GY_no rfl rfl rfl hg1B) rfl rfl <| oP (P_pickT rfl hg1B rfl) rfl <| oA rfl rfl <| nT <| CJ_condT rfl rfl <| sR <| oA rfl rfl <| nT <| CJ_ret <| QJ_block_ret <| QJ_then_ret <| QJ_end (res1 Try.results11 rfl) ?_
    have e1 := (fun z => (⟨z, Md.rsS_no (by rw [z]; decide)⟩ : m.rsE n = 20 ∧ m.rsS n = m)) (Md.rs_state hd2 (by simp_all))
    rw [e1.2]
    refine CSpec.close c ?_ ?_ (t0_ (t0_ eR))
    · rw [e1.1]
    · trivial
   ·
    refine gP (GY_yes rfl rfl rfl hg1B) (P_move rfl) rfl <| gP (GY_yes rfl rfl rfl hg1B) (P_nilCheck rfl) rfl <| gP (GY_yes rfl rfl rfl hg1B) (P_fieldAddr rfl ⟨_, _, _, Try.runUnderlying75, rfl, rfl, Try.sizeOf4, rfl⟩) rfl <| gV (GY_yes rfl rfl rfl hg1B) (VJ_ent (Ent.trans (t1_ eR) (MapR_dev (Md.dev_is hd2).1)) (V_load rfl foc0 rfl Try.isAgg4)) rfl <| gP (GY_yes rfl rfl rfl hg1B) (P_not rfl) rfl <| gP (GY_yes rfl rfl rfl hg1B) (P_move rfl) rfl ?_
    first | (refine RJ_splitD 32 rfl (fun hg2B hg2 => ?_) (fun hg2B hg2 => ?_)) | (refine RJ_splitN 32 rfl (fun hg2B hg2 => ?_) (fun hg2B hg2 => ?_)) | (refine RJ_split 32 rfl (fun hg2B => ?_) (fun hg2B => ?_))
    ·
     refine gP (GY_yes rfl rfl rfl hg2B) (P_move rfl) rfl <| gP (GY_yes rfl rfl rfl hg2B) (P_nilCheck rfl) rfl <| gP (GY_yes rfl rfl rfl hg2B) (P_fieldAddr rfl ⟨_, _, _, Try.runUnderlying75, rfl, rfl, Try.sizeOf4, rfl⟩) rfl <| gV (GY_yes rfl rfl rfl hg2B) (VJ_ent (Ent.trans (t1_ eR) (MapR_dev (Md.dev_is hd2).1)) (V_load rfl foc0 rfl Try.isAgg4)) rfl <| gP (GY_yes rfl rfl rfl hg2B) (P_not rfl) rfl <| gP (GY_yes rfl rfl rfl hg1B) (P_pickT rfl hg2B rfl) rfl <| oP (P_pickF rfl hg1B rfl) rfl <| oA rfl rfl <| nT ?_
     first | (refine CJ_condD rfl (fun hg3 => ?_) (fun hg3 => ?_)) | (refine CJ_condN rfl (fun hg3 => ?_) (fun hg3 => ?_)) | (refine CJ_cond rfl (fun hg3 => ?_) (fun hg3 => ?_))
     ·
      refine sR <| oA rfl rfl <| nT <| CJ_ret <| QJ_block_ret <| QJ_then_ret <| QJ_end (res1 Try.results11 rfl) ?_
      have e1 := (fun z => (⟨z, Md.rsS_no (by rw [z]; decide)⟩ : m.rsE n = 20 ∧ m.rsS n = m)) (Md.rs_state hd2 (by simp_all))
      rw [e1.2]
      refine CSpec.close c ?_ ?_ (t0_ (t0_ eR))
      · rw [e1.1]
      · trivial
     ·
      refine sR <| oM rfl rfl <| oP (P_nilCheck rfl) rfl <| oP (P_fieldAddr rfl ⟨_, _, _, Try.runUnderlying75, rfl, rfl, Try.sizeOf4, rfl⟩) rfl <| oV (VJ_ent (Ent.trans (t1_ eR) (MapR_dev (Md.dev_is hd2).1)) (V_load rfl foc0 rfl Try.isAgg4)) rfl <| oM rfl rfl ?_
      first | (refine RJ_splitD 45 rfl (fun hg4B hg4 => ?_) (fun hg4B hg4 => ?_)) | (refine RJ_splitN 45 rfl (fun hg4B hg4 => ?_) (fun hg4B hg4 => ?_)) | (refine RJ_split 45 rfl (fun hg4B => ?_) (fun hg4B => ?_))
      ·
       refine gP (GY_yes rfl rfl rfl hg4B) (P_move rfl) rfl <| gP (GY_yes rfl rfl rfl hg4B) (P_move rfl) rfl <| gP (GY_yes rfl rfl rfl hg4B) (P_move rfl) rfl <| gP (GY_yes rfl rfl rfl hg4B) (P_nilCheck rfl) rfl <| gP (GY_yes rfl rfl rfl hg4B) (P_fieldAddr rfl ⟨_, _, _, Try.runUnderlying75, rfl, rfl, Try.sizeOf34, rfl⟩) rfl <| gV (GY_yes rfl rfl rfl hg4B) (VJ_ent (Ent.trans (t1_ eR) (MapR_dev (Md.dev_is hd2).1)) (V_load rfl foc0 rfl Try.isAgg34)) rfl <| RJ_gy (GY_yes rfl rfl rfl hg4B) <| O_call (L_table_Size (rdNew (Md.dev_is hd2).1) size_eq) rfl Try.call37 (Dels.cons del1 Dels.nil) rfl fun _ hc3 => RJ_gy (GY_yes rfl rfl rfl hg4B) <| O_call (c_enough (Md.dev_is hd2).1) rfl Try.call36 (Dels.cons del1 (Dels.cons del0 Dels.nil)) rfl fun _ hc4 => gP (GY_yes rfl rfl rfl hg4B) (P_not rfl) rfl <| gP (GY_yes rfl rfl rfl hg4B) (P_move rfl) rfl ?_
       first | (refine RJ_splitD 55 rfl (fun hg5B hg5 => ?_) (fun hg5B hg5 => ?_)) | (refine RJ_splitN 55 rfl (fun hg5B hg5 => ?_) (fun hg5B hg5 => ?_)) | (refine RJ_split 55 rfl (fun hg5B => ?_) (fun hg5B => ?_))
       ·
        refine RJ_gn (GY_no rfl rfl rfl hg5B) rfl rfl <| RJ_gn (GY_no rfl rfl rfl hg5B) rfl rfl <| RJ_gn (GY_no rfl rfl rfl hg5B) rfl rfl <| RJ_gn (GY_no rfl rfl rfl hg5B) rfl rfl <| RJ_gn (GY_no rfl rfl rfl hg5B) rfl rfl <| RJ_gn (GY_no rfl rfl rfl hg5B) rfl rfl <| RJ_gn (GY_no rfl rfl rfl hg5B) rfl rfl <| gP (GY_yes rfl rfl rfl hg4B) (P_pickT rfl hg5B rfl) rfl <| oP (P_pickT rfl hg4B rfl) rfl <| oA rfl rfl <| nT <| CJ_condT rfl rfl <| sR <| oA rfl rfl <| nT <| CJ_ret <| QJ_block_ret <| QJ_then_ret <| QJ_end (res1 Try.results11 rfl) ?_
        have e1 := (fun z => (⟨z, Md.rsS_no (by rw [z]; decide)⟩ : m.rsE n = 1 ∧ m.rsS n = m)) (Md.rs_fit hd2 (by simp_all) (by simp_all))
        rw [e1.2]
        refine CSpec.close c ?_ ?_ (t0_ (t0_ eR))
        · rw [e1.1]
        · trivial
       ·
        refine gP (GY_yes rfl rfl rfl hg5B) (P_move rfl) rfl <| gP (GY_yes rfl rfl rfl hg5B) (P_move rfl) rfl <| gP (GY_yes rfl rfl rfl hg5B) (P_nilCheck rfl) rfl <| gP (GY_yes rfl rfl rfl hg5B) (P_fieldAddr rfl ⟨_, _, _, Try.runUnderlying75, rfl, rfl, Try.sizeOf34, rfl⟩) rfl <| gV (GY_yes rfl rfl rfl hg5B) (VJ_ent (Ent.trans (t1_ eR) (MapR_dev (Md.dev_is hd2).1)) (V_load rfl foc0 rfl Try.isAgg34)) rfl <| RJ_gy (GY_yes rfl rfl rfl hg5B) <| O_call (c_fitsR (rdNew hdk.1) (by omega) (fun x hx => ⟨fun hne => hO.nam _ hdk.1.1 hdk.1.2.1 x (List.mem_append.2 (.inr hx)) hne, find_bound (hO.chk _).2 hx⟩)) rfl Try.call32 (Dels.cons del0 (Dels.cons del0 Dels.nil)) rfl fun _ hc5 => gP (GY_yes rfl rfl rfl hg5B) (P_not rfl) rfl <| gP (GY_yes rfl rfl rfl hg4B) (P_pickF rfl hg5B rfl) rfl <| oP (P_pickT rfl hg4B rfl) rfl <| oA rfl rfl <| nT ?_
        first | (refine CJ_condD rfl (fun hg6 => ?_) (fun hg6 => ?_)) | (refine CJ_condN rfl (fun hg6 => ?_) (fun hg6 => ?_)) | (refine CJ_cond rfl (fun hg6 => ?_) (fun hg6 => ?_))
        ·
         refine sR <| oA rfl rfl <| nT <| CJ_ret <| QJ_block_ret <| QJ_then_ret <| QJ_end (res1 Try.results11 rfl) ?_
         have e1 := (fun z => (⟨z, Md.rsS_no (by rw [z]; decide)⟩ : m.rsE n = 1 ∧ m.rsS n = m)) (Md.rs_fit hd2 (by simp_all) (by simp_all))
         rw [e1.2]
         refine CSpec.close c ?_ ?_ (t0_ (t0_ eR))
         · rw [e1.1]
         · trivial
        ·
         exact CJ_skip <| QJ_block_normal <| cR () ⟨by simp_all, by simp_all⟩ True.intro (t0_ (t0_ eR))
      ·
       exact RJ_gn (GY_no rfl rfl rfl hg4B) rfl rfl <| RJ_gn (GY_no rfl rfl rfl hg4B) rfl rfl <| RJ_gn (GY_no rfl rfl rfl hg4B) rfl rfl <| RJ_gn (GY_no rfl rfl rfl hg4B) rfl rfl <| RJ_gn (GY_no rfl rfl rfl hg4B) rfl rfl <| RJ_gn (GY_no rfl rfl rfl hg4B) rfl rfl <| RJ_gn (GY_no rfl rfl rfl hg4B) rfl rfl <| RJ_gn (GY_no rfl rfl rfl hg4B) rfl rfl <| RJ_gn (GY_no rfl rfl rfl hg4B) rfl rfl <| RJ_gn (GY_no rfl rfl rfl hg4B) rfl rfl <| RJ_gn (GY_undef rfl rfl rfl) rfl rfl <| RJ_gn (GY_undef rfl rfl rfl) rfl rfl <| RJ_gn (GY_undef rfl rfl rfl) rfl rfl <| RJ_gn (GY_undef rfl rfl rfl) rfl rfl <| RJ_gn (GY_undef rfl rfl rfl) rfl rfl <| RJ_gn (GY_undef rfl rfl rfl) rfl rfl <| RJ_gn (GY_undef rfl rfl rfl) rfl rfl <| RJ_gn (GY_no rfl rfl rfl hg4B) rfl rfl <| oP (P_pickF rfl hg4B rfl) rfl <| oA rfl rfl <| nT <| CJ_condF rfl rfl <| CJ_skip <| QJ_block_normal <| cR () ⟨by simp_all, by simp_all⟩ True.intro (t0_ (t0_ eR))
    ·
     refine RJ_gn (GY_no rfl rfl rfl hg2B) rfl rfl <| RJ_gn (GY_no rfl rfl rfl hg2B) rfl rfl <| RJ_gn (GY_no rfl rfl rfl hg2B) rfl rfl <| RJ_gn (GY_no rfl rfl rfl hg2B) rfl rfl <| RJ_gn (GY_no rfl rfl rfl hg2B) rfl rfl <| gP (GY_yes rfl rfl rfl hg1B) (P_pickF rfl hg2B rfl) rfl <| oP (P_pickF rfl hg1B rfl) rfl <| oA rfl rfl <| nT <| CJ_condF rfl rfl <| sR <| oM rfl rfl <| oP (P_nilCheck rfl) rfl <| oP (P_fieldAddr rfl ⟨_, _, _, Try.runUnderlying75, rfl, rfl, Try.sizeOf4, rfl⟩) rfl <| oV (VJ_ent (Ent.trans (t1_ eR) (MapR_dev (Md.dev_is hd2).1)) (V_load rfl foc0 rfl Try.isAgg4)) rfl <| oM rfl rfl ?_
     first | (refine RJ_splitD 45 rfl (fun hg7B hg7 => ?_) (fun hg7B hg7 => ?_)) | (refine RJ_splitN 45 rfl (fun hg7B hg7 => ?_) (fun hg7B hg7 => ?_)) | (refine RJ_split 45 rfl (fun hg7B => ?_) (fun hg7B => ?_))
     ·
      refine gP (GY_yes rfl rfl rfl hg7B) (P_move rfl) rfl <| gP (GY_yes rfl rfl rfl hg7B) (P_move rfl) rfl <| gP (GY_yes rfl rfl rfl hg7B) (P_move rfl) rfl <| gP (GY_yes rfl rfl rfl hg7B) (P_nilCheck rfl) rfl <| gP (GY_yes rfl rfl rfl hg7B) (P_fieldAddr rfl ⟨_, _, _, Try.runUnderlying75, rfl, rfl, Try.sizeOf34, rfl⟩) rfl <| gV (GY_yes rfl rfl rfl hg7B) (VJ_ent (Ent.trans (t1_ eR) (MapR_dev (Md.dev_is hd2).1)) (V_load rfl foc0 rfl Try.isAgg34)) rfl <| RJ_gy (GY_yes rfl rfl rfl hg7B) <| O_call (L_table_Size (rdNew (Md.dev_is hd2).1) size_eq) rfl Try.call37 (Dels.cons del1 Dels.nil) rfl fun _ hc6 => RJ_gy (GY_yes rfl rfl rfl hg7B) <| O_call (c_enough (Md.dev_is hd2).1) rfl Try.call36 (Dels.cons del1 (Dels.cons del0 Dels.nil)) rfl fun _ hc7 => gP (GY_yes rfl rfl rfl hg7B) (P_not rfl) rfl <| gP (GY_yes rfl rfl rfl hg7B) (P_move rfl) rfl ?_
      first | (refine RJ_splitD 55 rfl (fun hg8B hg8 => ?_) (fun hg8B hg8 => ?_)) | (refine RJ_splitN 55 rfl (fun hg8B hg8 => ?_) (fun hg8B hg8 => ?_)) | (refine RJ_split 55 rfl (fun hg8B => ?_) (fun hg8B => ?_))
      ·
       refine RJ_gn (GY_no rfl rfl rfl hg8B) rfl rfl <| RJ_gn (GY_no rfl rfl rfl hg8B) rfl rfl <| RJ_gn (GY_no rfl rfl rfl hg8B) rfl rfl <| RJ_gn (GY_no rfl rfl rfl hg8B) rfl rfl <| RJ_gn (GY_no rfl rfl rfl hg8B) rfl rfl <| RJ_gn (GY_no rfl rfl rfl hg8B) rfl rfl <| RJ_gn (GY_no rfl rfl rfl hg8B) rfl rfl <| gP (GY_yes rfl rfl rfl hg7B) (P_pickT rfl hg8B rfl) rfl <| oP (P_pickT rfl hg7B rfl) rfl <| oA rfl rfl <| nT <| CJ_condT rfl rfl <| sR <| oA rfl rfl <| nT <| CJ_ret <| QJ_block_ret <| QJ_then_ret <| QJ_end (res1 Try.results11 rfl) ?_
       have e1 := (fun z => (⟨z, Md.rsS_no (by rw [z]; decide)⟩ : m.rsE n = 1 ∧ m.rsS n = m)) (Md.rs_fit hd2 (by simp_all) (by simp_all))
       rw [e1.2]
       refine CSpec.close c ?_ ?_ (t0_ (t0_ eR))
       · rw [e1.1]
       · trivial
      ·
       refine gP (GY_yes rfl rfl rfl hg8B) (P_move rfl) rfl <| gP (GY_yes rfl rfl rfl hg8B) (P_move rfl) rfl <| gP (GY_yes rfl rfl rfl hg8B) (P_nilCheck rfl) rfl <| gP (GY_yes rfl rfl rfl hg8B) (P_fieldAddr rfl ⟨_, _, _, Try.runUnderlying75, rfl, rfl, Try.sizeOf34, rfl⟩) rfl <| gV (GY_yes rfl rfl rfl hg8B) (VJ_ent (Ent.trans (t1_ eR) (MapR_dev (Md.dev_is hd2).1)) (V_load rfl foc0 rfl Try.isAgg34)) rfl <| RJ_gy (GY_yes rfl rfl rfl hg8B) <| O_call (c_fitsR (rdNew hdk.1) (by omega) (fun x hx => ⟨fun hne => hO.nam _ hdk.1.1 hdk.1.2.1 x (List.mem_append.2 (.inr hx)) hne, find_bound (hO.chk _).2 hx⟩)) rfl Try.call32 (Dels.cons del0 (Dels.cons del0 Dels.nil)) rfl fun _ hc8 => gP (GY_yes rfl rfl rfl hg8B) (P_not rfl) rfl <| gP (GY_yes rfl rfl rfl hg7B) (P_pickF rfl hg8B rfl) rfl <| oP (P_pickT rfl hg7B rfl) rfl <| oA rfl rfl <| nT ?_
       first | (refine CJ_condD rfl (fun hg9 => ?_) (fun hg9 => ?_)) | (refine CJ_condN rfl (fun hg9 => ?_) (fun hg9 => ?_)) | (refine CJ_cond rfl (fun hg9 => ?_) (fun hg9 => ?_))
       ·
        refine sR <| oA rfl rfl <| nT <| CJ_ret <| QJ_block_ret <| QJ_then_ret <| QJ_end (res1 Try.results11 rfl) ?_
        have e1 := (fun z => (⟨z, Md.rsS_no (by rw [z]; decide)⟩ : m.rsE n = 1 ∧ m.rsS n = m)) (Md.rs_fit hd2 (by simp_all) (by simp_all))
        rw [e1.2]
        refine CSpec.close c ?_ ?_ (t0_ (t0_ eR))
        · rw [e1.1]
        · trivial
       ·
        exact CJ_skip <| QJ_block_normal <| cR () ⟨by simp_all, by simp_all⟩ True.intro (t0_ (t0_ eR))
     ·
      exact RJ_gn (GY_no rfl rfl rfl hg7B) rfl rfl <| RJ_gn (GY_no rfl rfl rfl hg7B) rfl rfl <| RJ_gn (GY_no rfl rfl rfl hg7B) rfl rfl <| RJ_gn (GY_no rfl rfl rfl hg7B) rfl rfl <| RJ_gn (GY_no rfl rfl rfl hg7B) rfl rfl <| RJ_gn (GY_no rfl rfl rfl hg7B) rfl rfl <| RJ_gn (GY_no rfl rfl rfl hg7B) rfl rfl <| RJ_gn (GY_no rfl rfl rfl hg7B) rfl rfl <| RJ_gn (GY_no rfl rfl rfl hg7B) rfl rfl <| RJ_gn (GY_no rfl rfl rfl hg7B) rfl rfl <| RJ_gn (GY_undef rfl rfl rfl) rfl rfl <| RJ_gn (GY_undef rfl rfl rfl) rfl rfl <| RJ_gn (GY_undef rfl rfl rfl) rfl rfl <| RJ_gn (GY_undef rfl rfl rfl) rfl rfl <| RJ_gn (GY_undef rfl rfl rfl) rfl rfl <| RJ_gn (GY_undef rfl rfl rfl) rfl rfl <| RJ_gn (GY_undef rfl rfl rfl) rfl rfl <| RJ_gn (GY_no rfl rfl rfl hg7B) rfl rfl <| oP (P_pickF rfl hg7B rfl) rfl <| oA rfl rfl <| nT <| CJ_condF rfl rfl <| CJ_skip <| QJ_block_normal <| cR () ⟨by simp_all, by simp_all⟩ True.intro (t0_ (t0_ eR))
  ·
   intro _ hpf
   obtain ⟨hst, hft⟩ := hpf
   show CJ _ _ _ _ _ (([] : Slots) ++ forget _ _) (blk b 79 (mCells c m) :: MapR c m :: _)
   refine CJ_seq <| CJ_seq ?_
   have hdk := Md.dev_is hd2
   have hch2 := chk_len (hO.chk k1).2
   have hwl := m.wait_le k1
   refine CJ_ent (Ent.trans (t1_ eR) (MapR_dev hdk.1)) <| CJ_region <| oM rfl rfl <| oP (P_nilCheck rfl) rfl <| oP (P_fieldAddr rfl ⟨_, _, _, Try.runUnderlying75, rfl, rfl, Try.sizeOf4, rfl⟩) rfl <| oV (V_load rfl foc0 rfl Try.isAgg4) rfl <| nT ?_
   first | (refine CJ_condD rfl (fun hg10 => ?_) (fun hg10 => ?_)) | (refine CJ_condN rfl (fun hg10 => ?_) (fun hg10 => ?_)) | (refine CJ_cond rfl (fun hg10 => ?_) (fun hg10 => ?_))
   ·
    refine sR <| oM rfl rfl <| oM rfl rfl <| oM rfl rfl <| oP (P_nilCheck rfl) rfl <| oP (P_fieldAddr rfl ⟨_, _, _, Try.runUnderlying75, rfl, rfl, Try.sizeOf34, rfl⟩) rfl <| oV (V_load rfl foc0 rfl Try.isAgg34) rfl <| oP (P_nilCheck rfl) rfl <| oP (P_fieldAddr rfl ⟨_, _, _, Try.runUnderlying75, rfl, rfl, Try.sizeOf34, rfl⟩) rfl <| oO <| O_store rfl rfl foc0 rfl rfl Try.sizeOf34 <| oP (P_nilCheck rfl) rfl <| oP (P_fieldAddr rfl ⟨_, _, _, Try.runUnderlying75, rfl, rfl, Try.sizeOf4, rfl⟩) rfl <| oO <| O_store rfl rfl foc0 rfl rfl Try.sizeOf4 <| nT <| CJ_region <| oM rfl rfl <| oM rfl rfl <| oP (P_nilCheck rfl) rfl <| oP (P_fieldAddr rfl ⟨_, _, _, Try.runUnderlying75, rfl, rfl, Try.sizeOf34, rfl⟩) rfl <| oO <| O_store rfl rfl foc0 rfl rfl Try.sizeOf34 <| oP (P_nilCheck rfl) rfl <| oP (P_fieldAddr rfl ⟨_, _, _, Try.runUnderlying75, rfl, rfl, Try.sizeOf4, rfl⟩) rfl <| oO <| O_store rfl rfl foc0 rfl rfl Try.sizeOf4 <| nT <| sR <| oM rfl rfl <| oP (P_nilCheck rfl) rfl <| oP (P_fieldAddr rfl ⟨_, _, _, Try.runUnderlying75, rfl, rfl, Try.sizeOf4, rfl⟩) rfl <| oO <| O_store rfl rfl foc0 rfl rfl Try.sizeOf4 <| nT <| sR <| oM rfl rfl <| oP (P_nilCheck rfl) rfl <| oP (P_fieldAddr rfl ⟨_, _, _, Try.runUnderlying75, rfl, rfl, Try.sizeOf73, rfl⟩) rfl <| oV (V_load rfl foc0 rfl Try.isAgg73) rfl <| oA rfl rfl <| nT <| sR <| oM rfl rfl <| oP (P_nilCheck rfl) rfl <| oP (P_fieldAddr rfl ⟨_, _, _, Try.runUnderlying75, rfl, rfl, Try.sizeOf73, rfl⟩) rfl <| oO <| O_store rfl rfl foc0 rfl rfl Try.sizeOf73 <| nT ?_
    refine CJ_seq <| CJ_seq <| CJ_ent (fun h hh => sl_nil (t := tyErr) h hh) <| CJ_ent (fun h hh => sl_nil (t := tyapi_Target) h hh) ?_
    have he : m.rs0 k1 = m.set k1 { m.at k1 with live := (m.at k1).new, hl := true, new := [], hn := false, susp := false, wait := [] } := by unfold Md.rs0 Md.rsX; rw [if_pos (by assumption)]
    refine CJ_ent (Ent.trans (t2_ (t3_ (t0_ (t0_ (t2_ eR))))) (MapR_putD (h' := { c.hd k1 with lv := (c.hd k1).nw, nw := s3z, wt := s3z }) (d' := { m.at k1 with live := (m.at k1).new, hl := true, new := [], hn := false, susp := false, wait := [] }) (m' := (m.set k1 { m.at k1 with live := (m.at k1).new, hl := true, new := [], hn := false, susp := false, wait := [] })) hW hdk.1 rfl hdk.1.2.2 rfl rfl rfl (he ▸ Md.ok_rs0 hO hdk.1) (hW.big.set hdk.1.1 rfl (Nat.zero_le _) hW.big.tks hW.big.told hW.big.wr) rfl rfl)) ?_
    rw [← he]
    refine CJ_region <| oM rfl rfl <| oV (V_len rfl foc2 (Reads.sl _ _ _) Try.runUnderlying73) rfl <| oM rfl rfl <| nT <| CJ_block <| CJ_loopR (X := Nat × MH) [8, 9, 10, 97, 98, 99, 100, 101, 102, 103, 104, 105, 106, 107, 108, 109, 110, 111, 112, 113, 114, 115, 116, 117, 118, 119, 120, 121, 122, 123, 124, 125, 126, 127, 128, 129, 130, 131, 132, 133, 134, 135, 136, 137, 138, 139, 140, 141] (fun ⟨i, c2⟩  => ([(97, .int .i64 (i : Nat))] : Slots)) (fun ⟨i, c2⟩ R => sl tyErr (c.hd k1).wt.v ((m.at k1).wait.map (wC c2.bs)) :: blk b 79 (mCells c2 (m.rsI k1 i)) :: MapR c2 (m.rsI k1 i) :: R) (fun ⟨i, c2⟩  => i ≤ (m.at k1).wait.length) (fun ⟨i, c2⟩  => (m.at k1).wait.length - i) ⟨0, (c.put k1 { c.hd k1 with lv := (c.hd k1).nw, nw := s3z, wt := s3z } { m.at k1 with live := (m.at k1).new, hl := true, new := [], hn := false, susp := false, wait := [] })⟩ ?_ ?_ (Ent.takeC del2 (congrArg (fun f => sl tyErr (c.hd k1).wt.v ((m.at k1).wait.map (wC f))) (show MH.bs (c.put k1 { c.hd k1 with lv := (c.hd k1).nw, nw := s3z, wt := s3z } { m.at k1 with live := (m.at k1).new, hl := true, new := [], hn := false, susp := false, wait := [] }) = c.bs from put_bs hW hdk.1 rfl).symm) (Ent.takeC del2 (by rw [Md.rsI_zero]; rfl) (Ent.takeC del0 (by rw [Md.rsI_zero]; rfl) (t0_ eR)))) ?_
    · exact Nat.zero_le _
    · exact ⟨rfl, True.intro⟩
    ·
     rintro ⟨i, c2⟩ hi
     show CJ _ _ _ _ _ (([(97, .int .i64 (i : Nat))] : Slots) ++ forget _ _) (sl tyErr (c.hd k1).wt.v ((m.at k1).wait.map (wC c2.bs)) :: blk b 79 (mCells c2 (m.rsI k1 i)) :: MapR c2 (m.rsI k1 i) :: _)
     refine CJ_pure (MapR_wf foc2) fun hW2 => ?_
     have hO2 := hW2.ok
     have hK := Md.rsI_K hi
     have hKt := hK.told
     have hKw := hK.wr
     have hKs := hK.wsum
     have hK0 := Md.rs0_wsum (m := m) hdk.1.1
     have hr0t : (m.rs0 k1).told = m.told := rfl
     have hr0w : (m.rs0 k1).wr = m.wr := rfl
     rw [hr0t] at hKt
     rw [hr0w] at hKw
     have hlm : ((m.at k1).wait.map (wC c2.bs)).length = (m.at k1).wait.length := by simp
     have hlm0 : ((m.at k1).wait.map (wC c.bs)).length = (m.at k1).wait.length := by simp
     refine sR <| oP (P_lss rfl rfl) rfl <| nT <| CJ_seq ?_
     first | (refine CJ_condD rfl (fun hg11 => ?_) (fun hg11 => ?_)) | (refine CJ_condN rfl (fun hg11 => ?_) (fun hg11 => ?_)) | (refine CJ_cond rfl (fun hg11 => ?_) (fun hg11 => ?_))
     ·
      refine kT <| CJ_seq <| CJ_block <| CJ_seq ?_
      have hi2 : i < (m.at k1).wait.length := by omega
      have hog := Md.org_at hO hdk.1.1 hi2
      have hgv := Md.rsI_isD hdk.1.1 hi hog.1
      refine CJ_region ?_
      first | (refine RJ_op rfl (OJ_V (V_index rfl rfl rfl (by omega) foc0 (Reads.sl _ _ _) Try.runUnderlying73 Try.sizeOf94) rfl ?_)) | (refine RJ_op rfl (OJ_V (V_index rfl rfl (Int.toNat_of_nonneg (by omega)).symm (by omega) foc0 (Reads.sl _ _ _) Try.runUnderlying73 Try.sizeOf94) rfl ?_))
      refine oV (VJ_eq (V_loadEN rfl rfl (by omega) foc0 (Reads.sl _ _ _) rfl rfl Try.isAgg94 Try.sizeOf94) (err_at hi2)) rfl <| oO <| O_alloc Try.zeroValue94 rfl rfl fun b9 => oO <| O_storeN rfl rfl foc0 Try.sizeOf94 rfl rfl rfl <| nT <| CJ_seq <| sR <| oM rfl rfl <| oP (P_fieldAddr rfl ⟨_, _, _, Try.runUnderlying94, rfl, rfl, Try.sizeOf72, rfl⟩) rfl <| oV (V_load rfl foc0 rfl Try.isAgg72) rfl <| oP (P_fieldAddr rfl ⟨_, _, _, Try.runUnderlying94, rfl, rfl, Try.sizeOf44, rfl⟩) rfl <| oV (V_loadN rfl foc0 Try.isAgg44 Try.sizeOf44 rfl rfl) rfl <| oO <| O_call (c_stop (t := ((m.at k1).wait.getD i Wt.z).t) hgv) rfl Try.call34 (Dels.cons del2 (Dels.cons del2 Dels.nil)) rfl fun _ hc10 => oA rfl rfl <| nT <| sR <| oM rfl rfl <| oP (P_neqO rfl rfl Try.underlying72) rfl <| nT ?_
      first | (refine CJ_condD rfl (fun hg12 => ?_) (fun hg12 => ?_)) | (refine CJ_condN rfl (fun hg12 => ?_) (fun hg12 => ?_)) | (refine CJ_cond rfl (fun hg12 => ?_) (fun hg12 => ?_))
      ·
       refine CJ_seq ?_
       obtain ⟨w, hw0⟩ := Option.isSome_iff_exists.1 (show ((m.rsI k1 i).wayk ((m.at k1).wait.getD i Wt.z).gv ((m.at k1).wait.getD i Wt.z).t).isSome = true by assumption)
       have hwD : (m.rsI k1 i).isD w := by have := Md.way_is hO2 _ _ _ _ hgv.1 hgv.2.1 hw0; exact ⟨this.1, this.2.1, this.2.2.1⟩
       rw [hw0]
       have hwle := (m.rsI k1 i).wait_le w
       refine CJ_ent (Ent.trans (t1_ eR) (MapR_dev hwD)) <| AJ_startH 1152 (by kernel_rfl) rfl <| aN 0 1 rfl rfl (P_move rfl) rfl <| aN 1 3 rfl rfl (P_move rfl) rfl <| aN 2 7 rfl rfl (P_nilCheck rfl) rfl <| aN 3 15 rfl rfl (P_fieldAddr rfl ⟨_, _, _, Try.runUnderlying75, rfl, rfl, Try.sizeOf73, rfl⟩) rfl <| aV 4 31 rfl rfl (GY_none rfl) (t0_ (t0_ (t0_ (t0_ (t0_ (t0_ (t0_ (t0_ (t0_ eR))))))))) (V_load rfl foc0 rfl Try.isAgg73) rfl <| aV 5 63 rfl rfl (GY_none rfl) (t0_ (t0_ (t0_ (t0_ (t0_ (t0_ (t0_ (t0_ (t0_ eR))))))))) (V_loadN rfl foc6 Try.isAgg94 Try.sizeOf94 rfl rfl) rfl <| AJ_op 6 127 rfl (by kernel_rfl) rfl (GY_none rfl) <| O_buildSlice rfl (CMap17_bs_73_1_0 _ _ _ _ _) rfl fun b11 => ⟨fun _ => (t1_ (t1_ (t1_ (t1_ (t1_ (t1_ (t1_ (t1_ (t1_ (eD eR)))))))))), ?_⟩
       refine AJ_op 7 255 rfl (by kernel_rfl) rfl (GY_none rfl) <| O_append (t := tyErr) (bytes := 40) rfl rfl del4 foc0 (Reads.lit (t := tyErr) (ys := [⟨(((m.at k1).wait.getD i Wt.z).tk : Int), c2.bs ((m.at k1).wait.getD i Wt.z).gv, ((m.at k1).wait.getD i Wt.z).t⟩]) rfl rfl (by decide) (by decide) rfl) Try.underlying73 ok_tyErr (by simp only [List.length_append, List.length_map, List.length_cons, List.length_nil, maxLen] at *; omega) (by simp only [List.length_append, List.length_map, List.length_cons, List.length_nil, maxLen] at *; omega) rfl fun p12 c13 => ⟨fun h => absurd h (by decide), ?_⟩
       refine aN 8 511 rfl rfl (P_nilCheck rfl) rfl <| aN 9 1023 rfl rfl (P_fieldAddr rfl ⟨_, _, _, Try.runUnderlying75, rfl, rfl, Try.sizeOf73, rfl⟩) rfl <| AJ_op 10 2047 rfl (by kernel_rfl) rfl (GY_none rfl) <| O_store rfl rfl foc2 rfl rfl Try.sizeOf73 <| ⟨fun h => absurd h (by decide), ?_⟩
       refine aD <| CJ_exit <| QJ_then_exit <| QJ_block_here <| QJ_then <| CJ_region <| oP (P_add rfl rfl (by omega)) rfl <| oM rfl rfl <| RJ_nil ?_
       have he2 : m.rsI k1 (i + 1) = (m.rsI k1 i).addW w ((m.at k1).wait.getD i Wt.z) := by rw [Md.rsI_succ hi2, Md.rsT_way hw0]
       refine QJ_nextR ⟨i + 1, (c2.put w { c2.hd w with wt := ⟨p12, _, c13⟩ } { (m.rsI k1 i).at w with wait := ((m.rsI k1 i).at w).wait ++ [((m.at k1).wait.getD i Wt.z)] })⟩ (by show (m.at k1).wait.length - (i + 1) < (m.at k1).wait.length - i; omega) ?_ (by repeat (first | exact Kp.base | exact Kp.self | refine Kp.cons rfl ?_ | refine Kp.forget rfl ?_)) ?_ (Ent.trans (Ent.trans (t2_ (t2_ (t2_ (Ent.takeC del0 (by rw [List.map_append]; rfl) (t1_ eR))))) (MapR_putD (h' := { c2.hd w with wt := ⟨p12, _, c13⟩ }) (d' := { (m.rsI k1 i).at w with wait := ((m.rsI k1 i).at w).wait ++ [((m.at k1).wait.getD i Wt.z)] }) (m' := (m.rsI k1 i).addW w ((m.at k1).wait.getD i Wt.z)) hW2 hwD rfl hwD.2.2 rfl rfl rfl (Md.ok_addW hO2 hwD ⟨hgv.1, hgv.2.1, hgv.2.2, hog.2⟩) (hW2.big.set hwD.1 rfl (by show (((m.rsI k1 i).at w).wait ++ _).length ≤ _; rw [List.length_append]; have := (m.rsI k1 i).wait_le w; simp; omega) hW2.big.tks hW2.big.told hW2.big.wr) rfl rfl)) (Ent.takeC del4 (congrArg (fun f => sl tyErr (c.hd k1).wt.v ((m.at k1).wait.map (wC f))) (show MH.bs (c2.put w { c2.hd w with wt := ⟨p12, _, c13⟩ } { (m.rsI k1 i).at w with wait := ((m.rsI k1 i).at w).wait ++ [((m.at k1).wait.getD i Wt.z)] }) = c2.bs from put_bs hW2 hwD rfl).symm) (Ent.takeC del2 (by rw [he2] <;> rfl) (Ent.takeC del0 (by rw [he2] <;> rfl) (t2_ (eD (eD eR)))))))
       · omega
       · exact ⟨rfl, True.intro⟩
      ·
       refine kT <| CJ_seq ?_
       have hnw : (m.rsI k1 i).wayk ((m.at k1).wait.getD i Wt.z).gv ((m.at k1).wait.getD i Wt.z).t = none := by simpa using (show ((m.rsI k1 i).wayk ((m.at k1).wait.getD i Wt.z).gv ((m.at k1).wait.getD i Wt.z).t).isSome = false by assumption)
       refine AJ_startH 1280 (by kernel_rfl) rfl <| aN 0 1 rfl rfl (P_move rfl) rfl <| aN 1 3 rfl rfl (P_fieldAddr rfl ⟨_, _, _, Try.runUnderlying94, rfl, rfl, Try.sizeOf72, rfl⟩) rfl <| aV 2 7 rfl rfl (GY_none rfl) (t0_ (t0_ (t0_ (t0_ (t0_ eR))))) (V_load rfl foc2 rfl Try.isAgg72) rfl <| aN 3 15 rfl rfl (P_nilCheck rfl) rfl <| aN 4 31 rfl rfl (P_fieldAddr rfl ⟨_, _, _, Try.runUnderlying75, rfl, rfl, Try.sizeOf9, rfl⟩) rfl <| aV 5 63 rfl rfl (GY_none rfl) (t0_ (t0_ (t0_ (t0_ (t0_ eR))))) (VJ_ent (Ent.trans (t1_ eR) (MapR_dev hgv)) (V_load rfl foc0 rfl Try.isAgg9)) rfl <| aN 6 127 rfl rfl (P_fieldAddr rfl ⟨_, _, _, Try.runUnderlying94, rfl, rfl, Try.sizeOf44, rfl⟩) rfl <| aV 7 255 rfl rfl (GY_none rfl) (t0_ (t0_ (t0_ (t0_ (t0_ eR))))) (V_loadN rfl foc2 Try.isAgg44 Try.sizeOf44 rfl rfl) rfl <| AJ_two 8 9 511 767 rfl rfl (by kernel_rfl) rfl rfl (GY_none rfl) (GY_none rfl) (O_call ((c_answer (nm := ((m.rsI k1 i).at ((m.at k1).wait.getD i Wt.z).gv).name) (t := ((m.at k1).wait.getD i Wt.z).t) (by omega) hog.2.2.2 (by rw [Md.at_find hO2 hgv.1 hgv.2.1]; rfl) ⟨hog.2.1, hog.2.2.1⟩)) rfl Try.call38 (Dels.cons del0 (Dels.cons del0 Dels.nil)) rfl (fun c9 h9 => ?_)) (O_alloc Try.zeroValue40 rfl rfl (fun b15 => ?_))
       ·
        refine ⟨fun h => absurd h (by decide), ?_⟩
        refine AJ_alloc 9 1023 rfl (by kernel_rfl) rfl (GY_none rfl) Try.zeroValue40 rfl rfl fun b16 => AJ_op 10 2047 rfl (by kernel_rfl) rfl (GY_none rfl) <| O_storeN rfl rfl foc0 Try.sizeOf40 rfl rfl rfl <| ⟨fun h => absurd h (by decide), ?_⟩
        refine aD <| CJ_seq <| CJ_ent (t0_ (Ent.takeC del0 (congrArg (blk b 79) h9.1.symm) (t0_ (t0_ (t0_ (t0_ eR)))))) <| CJ_region <| oP (P_fieldAddr rfl ⟨_, _, _, Try.runUnderlying94, rfl, rfl, Try.sizeOf3, rfl⟩) rfl <| oV (V_load rfl foc3 rfl Try.isAgg3) rfl <| oP (P_fieldAddr rfl ⟨_, _, _, Try.runUnderlying40, rfl, rfl, Try.sizeOf3, rfl⟩) rfl <| oO <| O_store rfl rfl foc0 rfl rfl Try.sizeOf3 <| nT <| CJ_ent (Ent.trans (t2_ eR) MapR_told) ?_
        have hto9 : ((m.rsI k1 i).carryN ((m.rsI k1 i).dv.length + 1) ((m.rsI k1 i).at ((m.at k1).wait.getD i Wt.z).gv).name ((m.at k1).wait.getD i Wt.z).t).2.told = (m.rsI k1 i).told := by rw [carryN_k hO2 hgv.1 hgv.2.1]; exact (Md.carry_kept _ _ _).told
        have hto8 := congrArg List.length hto9
        refine AJ_startH 1152 (by kernel_rfl) rfl <| aN 0 1 rfl rfl (P_move rfl) rfl <| aN 1 3 rfl rfl (P_move rfl) rfl <| aN 2 7 rfl rfl (P_nilCheck rfl) rfl <| aN 3 15 rfl rfl (P_fieldAddr rfl ⟨_, _, _, Try.runUnderlying79, rfl, rfl, Try.sizeOf46, rfl⟩) rfl <| aV 4 31 rfl rfl (GY_none rfl) (t0_ (t0_ (t0_ (t0_ (t0_ (t0_ (t0_ eR))))))) (V_load rfl foc3 rfl Try.isAgg46) rfl <| aV 5 63 rfl rfl (GY_none rfl) (t0_ (t0_ (t0_ (t0_ (t0_ (t0_ (t0_ eR))))))) (V_loadN rfl foc2 Try.isAgg40 Try.sizeOf40 rfl rfl) rfl <| AJ_op 6 127 rfl (by kernel_rfl) rfl (GY_none rfl) <| O_buildSlice rfl (CMap17_bs_46_1_0 _ _ _ _) rfl fun b17 => ⟨fun _ => (t1_ (t1_ (t1_ (t1_ (t1_ (t1_ (t1_ (eD eR)))))))), ?_⟩
        refine AJ_op 7 255 rfl (by kernel_rfl) rfl (GY_none rfl) <| O_append (t := tyapi_Answer) (bytes := 32) rfl rfl del1 foc0 (Reads.lit (t := tyapi_Answer) (ys := [⟨true, (((m.at k1).wait.getD i Wt.z).tk : Int), (ansN (m.rsI k1 i) ((m.rsI k1 i).at ((m.at k1).wait.getD i Wt.z).gv).name ((m.at k1).wait.getD i Wt.z).t).Value, (ansN (m.rsI k1 i) ((m.rsI k1 i).at ((m.at k1).wait.getD i Wt.z).gv).name ((m.at k1).wait.getD i Wt.z).t).Error⟩]) rfl rfl (by decide) (by decide) rfl) Try.underlying46 ok_tyapi_Answer (by simp only [List.length_append, List.length_map, List.length_cons, List.length_nil, maxLen] at *; omega) (by simp only [List.length_append, List.length_map, List.length_cons, List.length_nil, maxLen] at *; omega) rfl fun p18 c19 => ⟨fun h => absurd h (by decide), ?_⟩
        refine aN 8 511 rfl rfl (P_nilCheck rfl) rfl <| aN 9 1023 rfl rfl (P_fieldAddr rfl ⟨_, _, _, Try.runUnderlying79, rfl, rfl, Try.sizeOf46, rfl⟩) rfl <| AJ_op 10 2047 rfl (by kernel_rfl) rfl (GY_none rfl) <| O_store rfl rfl foc4 rfl rfl Try.sizeOf46 <| ⟨fun h => absurd h (by decide), ?_⟩
        refine AJ_done (by kernel_rfl) <| QJ_block_normal <| QJ_then <| CJ_region <| oP (P_add rfl rfl (by omega)) rfl <| oM rfl rfl <| RJ_nil ?_
        have he2 : m.rsI k1 (i + 1) = { { ((m.rsI k1 i).carryN ((m.rsI k1 i).dv.length + 1) ((m.rsI k1 i).at ((m.at k1).wait.getD i Wt.z).gv).name ((m.at k1).wait.getD i Wt.z).t).2 with told := [] } with told := ((m.rsI k1 i).carryN ((m.rsI k1 i).dv.length + 1) ((m.rsI k1 i).at ((m.at k1).wait.getD i Wt.z).gv).name ((m.at k1).wait.getD i Wt.z).t).2.told ++ [⟨true, (((m.at k1).wait.getD i Wt.z).tk : Int), (ansN (m.rsI k1 i) ((m.rsI k1 i).at ((m.at k1).wait.getD i Wt.z).gv).name ((m.at k1).wait.getD i Wt.z).t).Value, (ansN (m.rsI k1 i) ((m.rsI k1 i).at ((m.at k1).wait.getD i Wt.z).gv).name ((m.at k1).wait.getD i Wt.z).t).Error⟩] } := by
          unfold ansN
          rw [Md.rsI_succ hi2, Md.rsT_go hnw, carryN_k hO2 hgv.1 hgv.2.1]
        have htl9 : (((m.rsI k1 i).carryN ((m.rsI k1 i).dv.length + 1) ((m.rsI k1 i).at ((m.at k1).wait.getD i Wt.z).gv).name ((m.at k1).wait.getD i Wt.z).t).2.told ++ [(⟨true, (((m.at k1).wait.getD i Wt.z).tk : Int), (ansN (m.rsI k1 i) ((m.rsI k1 i).at ((m.at k1).wait.getD i Wt.z).gv).name ((m.at k1).wait.getD i Wt.z).t).Value, (ansN (m.rsI k1 i) ((m.rsI k1 i).at ((m.at k1).wait.getD i Wt.z).gv).name ((m.at k1).wait.getD i Wt.z).t).Error⟩ : api_Answer)]).length ≤ 100000000 := by rw [List.length_append, hto9]; simp; omega
        refine QJ_nextR ⟨i + 1, { { c9 with tv := s3z } with tv := ⟨p18, (((m.rsI k1 i).carryN ((m.rsI k1 i).dv.length + 1) ((m.rsI k1 i).at ((m.at k1).wait.getD i Wt.z).gv).name ((m.at k1).wait.getD i Wt.z).t).2.told ++ [(⟨true, (((m.at k1).wait.getD i Wt.z).tk : Int), (ansN (m.rsI k1 i) ((m.rsI k1 i).at ((m.at k1).wait.getD i Wt.z).gv).name ((m.at k1).wait.getD i Wt.z).t).Value, (ansN (m.rsI k1 i) ((m.rsI k1 i).at ((m.at k1).wait.getD i Wt.z).gv).name ((m.at k1).wait.getD i Wt.z).t).Error⟩ : api_Answer)]).length, c19⟩ }⟩ (by show (m.at k1).wait.length - (i + 1) < (m.at k1).wait.length - i; omega) ?_ (by repeat (first | exact Kp.base | exact Kp.self | refine Kp.cons rfl ?_ | refine Kp.forget rfl ?_)) ?_ (Ent.trans (Ent.trans (t0_ (t1_ eR)) (MapR_tell (tv := ⟨p18, (((m.rsI k1 i).carryN ((m.rsI k1 i).dv.length + 1) ((m.rsI k1 i).at ((m.at k1).wait.getD i Wt.z).gv).name ((m.at k1).wait.getD i Wt.z).t).2.told ++ [(⟨true, (((m.at k1).wait.getD i Wt.z).tk : Int), (ansN (m.rsI k1 i) ((m.rsI k1 i).at ((m.at k1).wait.getD i Wt.z).gv).name ((m.at k1).wait.getD i Wt.z).t).Value, (ansN (m.rsI k1 i) ((m.rsI k1 i).at ((m.at k1).wait.getD i Wt.z).gv).name ((m.at k1).wait.getD i Wt.z).t).Error⟩ : api_Answer)]).length, c19⟩) htl9)) (Ent.takeC del5 (by exact congrArg (fun f => sl tyErr (c.hd k1).wt.v ((m.at k1).wait.map (wC f))) h9.2.symm) (Ent.takeC del3 (by rw [he2] <;> rfl) (Ent.takeC del0 (by rw [he2] <;> rfl) (t3_ (eD (eD (eD eR))))))))
        · omega
        · exact ⟨rfl, True.intro⟩
       ·
        refine ⟨fun _ => (t1_ (t1_ (t1_ (t1_ (t1_ (eD eR)))))), ?_⟩
        refine AJ_op 8 1023 rfl (by kernel_rfl) rfl (GY_none rfl) <| O_call ((c_answer (nm := ((m.rsI k1 i).at ((m.at k1).wait.getD i Wt.z).gv).name) (t := ((m.at k1).wait.getD i Wt.z).t) (by omega) hog.2.2.2 (by rw [Md.at_find hO2 hgv.1 hgv.2.1]; rfl) ⟨hog.2.1, hog.2.2.1⟩)) rfl Try.call38 (Dels.cons del1 (Dels.cons del1 Dels.nil)) rfl fun c9 h9 => ⟨fun h => absurd h (by decide), ?_⟩
        refine AJ_op 10 2047 rfl (by kernel_rfl) rfl (GY_none rfl) <| O_storeN rfl rfl foc2 Try.sizeOf40 rfl rfl rfl <| ⟨fun h => absurd h (by decide), ?_⟩
        refine aD <| CJ_seq <| CJ_ent (Ent.takeC del0 (congrArg (blk b 79) h9.1.symm) (t0_ (t0_ (t0_ (t0_ (t0_ eR)))))) <| CJ_region <| oP (P_fieldAddr rfl ⟨_, _, _, Try.runUnderlying94, rfl, rfl, Try.sizeOf3, rfl⟩) rfl <| oV (V_load rfl foc3 rfl Try.isAgg3) rfl <| oP (P_fieldAddr rfl ⟨_, _, _, Try.runUnderlying40, rfl, rfl, Try.sizeOf3, rfl⟩) rfl <| oO <| O_store rfl rfl foc2 rfl rfl Try.sizeOf3 <| nT <| CJ_ent (Ent.trans (t1_ eR) MapR_told) ?_
        have hto9 : ((m.rsI k1 i).carryN ((m.rsI k1 i).dv.length + 1) ((m.rsI k1 i).at ((m.at k1).wait.getD i Wt.z).gv).name ((m.at k1).wait.getD i Wt.z).t).2.told = (m.rsI k1 i).told := by rw [carryN_k hO2 hgv.1 hgv.2.1]; exact (Md.carry_kept _ _ _).told
        have hto8 := congrArg List.length hto9
        refine AJ_startH 1152 (by kernel_rfl) rfl <| aN 0 1 rfl rfl (P_move rfl) rfl <| aN 1 3 rfl rfl (P_move rfl) rfl <| aN 2 7 rfl rfl (P_nilCheck rfl) rfl <| aN 3 15 rfl rfl (P_fieldAddr rfl ⟨_, _, _, Try.runUnderlying79, rfl, rfl, Try.sizeOf46, rfl⟩) rfl <| aV 4 31 rfl rfl (GY_none rfl) (t0_ (t0_ (t0_ (t0_ (t0_ (t0_ (t0_ eR))))))) (V_load rfl foc2 rfl Try.isAgg46) rfl <| aV 5 63 rfl rfl (GY_none rfl) (t0_ (t0_ (t0_ (t0_ (t0_ (t0_ (t0_ eR))))))) (V_loadN rfl foc3 Try.isAgg40 Try.sizeOf40 rfl rfl) rfl <| AJ_op 6 127 rfl (by kernel_rfl) rfl (GY_none rfl) <| O_buildSlice rfl (CMap17_bs_46_1_0 _ _ _ _) rfl fun b21 => ⟨fun _ => (t1_ (t1_ (t1_ (t1_ (t1_ (t1_ (t1_ (eD eR)))))))), ?_⟩
        refine AJ_op 7 255 rfl (by kernel_rfl) rfl (GY_none rfl) <| O_append (t := tyapi_Answer) (bytes := 32) rfl rfl del1 foc0 (Reads.lit (t := tyapi_Answer) (ys := [⟨true, (((m.at k1).wait.getD i Wt.z).tk : Int), (ansN (m.rsI k1 i) ((m.rsI k1 i).at ((m.at k1).wait.getD i Wt.z).gv).name ((m.at k1).wait.getD i Wt.z).t).Value, (ansN (m.rsI k1 i) ((m.rsI k1 i).at ((m.at k1).wait.getD i Wt.z).gv).name ((m.at k1).wait.getD i Wt.z).t).Error⟩]) rfl rfl (by decide) (by decide) rfl) Try.underlying46 ok_tyapi_Answer (by simp only [List.length_append, List.length_map, List.length_cons, List.length_nil, maxLen] at *; omega) (by simp only [List.length_append, List.length_map, List.length_cons, List.length_nil, maxLen] at *; omega) rfl fun p22 c23 => ⟨fun h => absurd h (by decide), ?_⟩
        refine aN 8 511 rfl rfl (P_nilCheck rfl) rfl <| aN 9 1023 rfl rfl (P_fieldAddr rfl ⟨_, _, _, Try.runUnderlying79, rfl, rfl, Try.sizeOf46, rfl⟩) rfl <| AJ_op 10 2047 rfl (by kernel_rfl) rfl (GY_none rfl) <| O_store rfl rfl foc3 rfl rfl Try.sizeOf46 <| ⟨fun h => absurd h (by decide), ?_⟩
        refine AJ_done (by kernel_rfl) <| QJ_block_normal <| QJ_then <| CJ_region <| oP (P_add rfl rfl (by omega)) rfl <| oM rfl rfl <| RJ_nil ?_
        have he2 : m.rsI k1 (i + 1) = { { ((m.rsI k1 i).carryN ((m.rsI k1 i).dv.length + 1) ((m.rsI k1 i).at ((m.at k1).wait.getD i Wt.z).gv).name ((m.at k1).wait.getD i Wt.z).t).2 with told := [] } with told := ((m.rsI k1 i).carryN ((m.rsI k1 i).dv.length + 1) ((m.rsI k1 i).at ((m.at k1).wait.getD i Wt.z).gv).name ((m.at k1).wait.getD i Wt.z).t).2.told ++ [⟨true, (((m.at k1).wait.getD i Wt.z).tk : Int), (ansN (m.rsI k1 i) ((m.rsI k1 i).at ((m.at k1).wait.getD i Wt.z).gv).name ((m.at k1).wait.getD i Wt.z).t).Value, (ansN (m.rsI k1 i) ((m.rsI k1 i).at ((m.at k1).wait.getD i Wt.z).gv).name ((m.at k1).wait.getD i Wt.z).t).Error⟩] } := by
          unfold ansN
          rw [Md.rsI_succ hi2, Md.rsT_go hnw, carryN_k hO2 hgv.1 hgv.2.1]
        have htl9 : (((m.rsI k1 i).carryN ((m.rsI k1 i).dv.length + 1) ((m.rsI k1 i).at ((m.at k1).wait.getD i Wt.z).gv).name ((m.at k1).wait.getD i Wt.z).t).2.told ++ [(⟨true, (((m.at k1).wait.getD i Wt.z).tk : Int), (ansN (m.rsI k1 i) ((m.rsI k1 i).at ((m.at k1).wait.getD i Wt.z).gv).name ((m.at k1).wait.getD i Wt.z).t).Value, (ansN (m.rsI k1 i) ((m.rsI k1 i).at ((m.at k1).wait.getD i Wt.z).gv).name ((m.at k1).wait.getD i Wt.z).t).Error⟩ : api_Answer)]).length ≤ 100000000 := by rw [List.length_append, hto9]; simp; omega
        refine QJ_nextR ⟨i + 1, { { c9 with tv := s3z } with tv := ⟨p22, (((m.rsI k1 i).carryN ((m.rsI k1 i).dv.length + 1) ((m.rsI k1 i).at ((m.at k1).wait.getD i Wt.z).gv).name ((m.at k1).wait.getD i Wt.z).t).2.told ++ [(⟨true, (((m.at k1).wait.getD i Wt.z).tk : Int), (ansN (m.rsI k1 i) ((m.rsI k1 i).at ((m.at k1).wait.getD i Wt.z).gv).name ((m.at k1).wait.getD i Wt.z).t).Value, (ansN (m.rsI k1 i) ((m.rsI k1 i).at ((m.at k1).wait.getD i Wt.z).gv).name ((m.at k1).wait.getD i Wt.z).t).Error⟩ : api_Answer)]).length, c23⟩ }⟩ (by show (m.at k1).wait.length - (i + 1) < (m.at k1).wait.length - i; omega) ?_ (by repeat (first | exact Kp.base | exact Kp.self | refine Kp.cons rfl ?_ | refine Kp.forget rfl ?_)) ?_ (Ent.trans (Ent.trans (t0_ (t1_ eR)) (MapR_tell (tv := ⟨p22, (((m.rsI k1 i).carryN ((m.rsI k1 i).dv.length + 1) ((m.rsI k1 i).at ((m.at k1).wait.getD i Wt.z).gv).name ((m.at k1).wait.getD i Wt.z).t).2.told ++ [(⟨true, (((m.at k1).wait.getD i Wt.z).tk : Int), (ansN (m.rsI k1 i) ((m.rsI k1 i).at ((m.at k1).wait.getD i Wt.z).gv).name ((m.at k1).wait.getD i Wt.z).t).Value, (ansN (m.rsI k1 i) ((m.rsI k1 i).at ((m.at k1).wait.getD i Wt.z).gv).name ((m.at k1).wait.getD i Wt.z).t).Error⟩ : api_Answer)]).length, c23⟩) htl9)) (Ent.takeC del5 (by exact congrArg (fun f => sl tyErr (c.hd k1).wt.v ((m.at k1).wait.map (wC f))) h9.2.symm) (Ent.takeC del2 (by rw [he2] <;> rfl) (Ent.takeC del0 (by rw [he2] <;> rfl) (t3_ (eD (eD (eD eR))))))))
        · omega
        · exact ⟨rfl, True.intro⟩
     ·
      refine CJ_exit <| QJ_then_exit <| QJ_round_exit <| QJ_block_here <| QJ_then <| sR <| oA rfl rfl <| nT <| CJ_ret <| QJ_end (res1 Try.results11 rfl) ?_
      obtain rfl : i = (m.at k1).wait.length := by omega
      have e1 := Md.rs_ok hd2 hst hft
      rw [e1.2, ← Md.rsI_end]
      refine CSpec.close c2 ?_ ?_ (t1_ (t1_ (eD (eD eR))))
      · rw [e1.1]
      · trivial
   ·
    refine kT <| sR <| oM rfl rfl <| oP (P_nilCheck rfl) rfl <| oP (P_fieldAddr rfl ⟨_, _, _, Try.runUnderlying75, rfl, rfl, Try.sizeOf4, rfl⟩) rfl <| oO <| O_store rfl rfl foc0 rfl rfl Try.sizeOf4 <| nT <| sR <| oM rfl rfl <| oP (P_nilCheck rfl) rfl <| oP (P_fieldAddr rfl ⟨_, _, _, Try.runUnderlying75, rfl, rfl, Try.sizeOf73, rfl⟩) rfl <| oV (V_load rfl foc0 rfl Try.isAgg73) rfl <| oA rfl rfl <| nT <| sR <| oM rfl rfl <| oP (P_nilCheck rfl) rfl <| oP (P_fieldAddr rfl ⟨_, _, _, Try.runUnderlying75, rfl, rfl, Try.sizeOf73, rfl⟩) rfl <| oO <| O_store rfl rfl foc0 rfl rfl Try.sizeOf73 <| nT <| CJ_seq <| CJ_seq <| CJ_ent (fun h hh => sl_nil (t := tyErr) h hh) ?_
    have he : m.rs0 k1 = m.set k1 { m.at k1 with susp := false, wait := [] } := by unfold Md.rs0 Md.rsX; rw [if_neg (by simp_all)]
    refine CJ_ent (Ent.trans (t1_ (t1_ (t1_ (t0_ (t1_ eR))))) (MapR_putD (h' := { c.hd k1 with wt := s3z }) (d' := { m.at k1 with susp := false, wait := [] }) (m' := (m.set k1 { m.at k1 with susp := false, wait := [] })) hW hdk.1 rfl hdk.1.2.2 rfl rfl rfl (he ▸ Md.ok_rs0 hO hdk.1) (hW.big.set hdk.1.1 rfl (Nat.zero_le _) hW.big.tks hW.big.told hW.big.wr) rfl rfl)) ?_
    rw [← he]
    refine CJ_region <| oM rfl rfl <| oV (V_len rfl foc1 (Reads.sl _ _ _) Try.runUnderlying73) rfl <| oM rfl rfl <| nT <| CJ_block <| CJ_loopR (X := Nat × MH) [8, 9, 10, 97, 98, 99, 100, 101, 102, 103, 104, 105, 106, 107, 108, 109, 110, 111, 112, 113, 114, 115, 116, 117, 118, 119, 120, 121, 122, 123, 124, 125, 126, 127, 128, 129, 130, 131, 132, 133, 134, 135, 136, 137, 138, 139, 140, 141] (fun ⟨i, c2⟩  => ([(97, .int .i64 (i : Nat))] : Slots)) (fun ⟨i, c2⟩ R => sl tyErr (c.hd k1).wt.v ((m.at k1).wait.map (wC c2.bs)) :: blk b 79 (mCells c2 (m.rsI k1 i)) :: MapR c2 (m.rsI k1 i) :: R) (fun ⟨i, c2⟩  => i ≤ (m.at k1).wait.length) (fun ⟨i, c2⟩  => (m.at k1).wait.length - i) ⟨0, (c.put k1 { c.hd k1 with wt := s3z } { m.at k1 with susp := false, wait := [] })⟩ ?_ ?_ (Ent.takeC del1 (congrArg (fun f => sl tyErr (c.hd k1).wt.v ((m.at k1).wait.map (wC f))) (show MH.bs (c.put k1 { c.hd k1 with wt := s3z } { m.at k1 with susp := false, wait := [] }) = c.bs from put_bs hW hdk.1 rfl).symm) (Ent.takeC del1 (by rw [Md.rsI_zero]; rfl) (Ent.takeC del0 (by rw [Md.rsI_zero]; rfl) eR))) ?_
    · exact Nat.zero_le _
    · exact ⟨rfl, True.intro⟩
    ·
     rintro ⟨i, c2⟩ hi
     show CJ _ _ _ _ _ (([(97, .int .i64 (i : Nat))] : Slots) ++ forget _ _) (sl tyErr (c.hd k1).wt.v ((m.at k1).wait.map (wC c2.bs)) :: blk b 79 (mCells c2 (m.rsI k1 i)) :: MapR c2 (m.rsI k1 i) :: _)
     refine CJ_pure (MapR_wf foc2) fun hW2 => ?_
     have hO2 := hW2.ok
     have hK := Md.rsI_K hi
     have hKt := hK.told
     have hKw := hK.wr
     have hKs := hK.wsum
     have hK0 := Md.rs0_wsum (m := m) hdk.1.1
     have hr0t : (m.rs0 k1).told = m.told := rfl
     have hr0w : (m.rs0 k1).wr = m.wr := rfl
     rw [hr0t] at hKt
     rw [hr0w] at hKw
     have hlm : ((m.at k1).wait.map (wC c2.bs)).length = (m.at k1).wait.length := by simp
     have hlm0 : ((m.at k1).wait.map (wC c.bs)).length = (m.at k1).wait.length := by simp
     refine sR <| oP (P_lss rfl rfl) rfl <| nT <| CJ_seq ?_
     first | (refine CJ_condD rfl (fun hg13 => ?_) (fun hg13 => ?_)) | (refine CJ_condN rfl (fun hg13 => ?_) (fun hg13 => ?_)) | (refine CJ_cond rfl (fun hg13 => ?_) (fun hg13 => ?_))
     ·
      refine kT <| CJ_seq <| CJ_block <| CJ_seq ?_
      have hi2 : i < (m.at k1).wait.length := by omega
      have hog := Md.org_at hO hdk.1.1 hi2
      have hgv := Md.rsI_isD hdk.1.1 hi hog.1
      refine CJ_region ?_
      first | (refine RJ_op rfl (OJ_V (V_index rfl rfl rfl (by omega) foc0 (Reads.sl _ _ _) Try.runUnderlying73 Try.sizeOf94) rfl ?_)) | (refine RJ_op rfl (OJ_V (V_index rfl rfl (Int.toNat_of_nonneg (by omega)).symm (by omega) foc0 (Reads.sl _ _ _) Try.runUnderlying73 Try.sizeOf94) rfl ?_))
      refine oV (VJ_eq (V_loadEN rfl rfl (by omega) foc0 (Reads.sl _ _ _) rfl rfl Try.isAgg94 Try.sizeOf94) (err_at hi2)) rfl <| oO <| O_alloc Try.zeroValue94 rfl rfl fun b24 => oO <| O_storeN rfl rfl foc0 Try.sizeOf94 rfl rfl rfl <| nT <| CJ_seq <| sR <| oM rfl rfl <| oP (P_fieldAddr rfl ⟨_, _, _, Try.runUnderlying94, rfl, rfl, Try.sizeOf72, rfl⟩) rfl <| oV (V_load rfl foc0 rfl Try.isAgg72) rfl <| oP (P_fieldAddr rfl ⟨_, _, _, Try.runUnderlying94, rfl, rfl, Try.sizeOf44, rfl⟩) rfl <| oV (V_loadN rfl foc0 Try.isAgg44 Try.sizeOf44 rfl rfl) rfl <| oO <| O_call (c_stop (t := ((m.at k1).wait.getD i Wt.z).t) hgv) rfl Try.call34 (Dels.cons del2 (Dels.cons del2 Dels.nil)) rfl fun _ hc25 => oA rfl rfl <| nT <| sR <| oM rfl rfl <| oP (P_neqO rfl rfl Try.underlying72) rfl <| nT ?_
      first | (refine CJ_condD rfl (fun hg14 => ?_) (fun hg14 => ?_)) | (refine CJ_condN rfl (fun hg14 => ?_) (fun hg14 => ?_)) | (refine CJ_cond rfl (fun hg14 => ?_) (fun hg14 => ?_))
      ·
       refine CJ_seq ?_
       obtain ⟨w, hw0⟩ := Option.isSome_iff_exists.1 (show ((m.rsI k1 i).wayk ((m.at k1).wait.getD i Wt.z).gv ((m.at k1).wait.getD i Wt.z).t).isSome = true by assumption)
       have hwD : (m.rsI k1 i).isD w := by have := Md.way_is hO2 _ _ _ _ hgv.1 hgv.2.1 hw0; exact ⟨this.1, this.2.1, this.2.2.1⟩
       rw [hw0]
       have hwle := (m.rsI k1 i).wait_le w
       refine CJ_ent (Ent.trans (t1_ eR) (MapR_dev hwD)) <| AJ_startH 1152 (by kernel_rfl) rfl <| aN 0 1 rfl rfl (P_move rfl) rfl <| aN 1 3 rfl rfl (P_move rfl) rfl <| aN 2 7 rfl rfl (P_nilCheck rfl) rfl <| aN 3 15 rfl rfl (P_fieldAddr rfl ⟨_, _, _, Try.runUnderlying75, rfl, rfl, Try.sizeOf73, rfl⟩) rfl <| aV 4 31 rfl rfl (GY_none rfl) (t0_ (t0_ (t0_ (t0_ (t0_ (t0_ (t0_ (t0_ eR)))))))) (V_load rfl foc0 rfl Try.isAgg73) rfl <| aV 5 63 rfl rfl (GY_none rfl) (t0_ (t0_ (t0_ (t0_ (t0_ (t0_ (t0_ (t0_ eR)))))))) (V_loadN rfl foc6 Try.isAgg94 Try.sizeOf94 rfl rfl) rfl <| AJ_op 6 127 rfl (by kernel_rfl) rfl (GY_none rfl) <| O_buildSlice rfl (CMap17_bs_73_1_0 _ _ _ _ _) rfl fun b26 => ⟨fun _ => (t1_ (t1_ (t1_ (t1_ (t1_ (t1_ (t1_ (t1_ (eD eR))))))))), ?_⟩
       refine AJ_op 7 255 rfl (by kernel_rfl) rfl (GY_none rfl) <| O_append (t := tyErr) (bytes := 40) rfl rfl del4 foc0 (Reads.lit (t := tyErr) (ys := [⟨(((m.at k1).wait.getD i Wt.z).tk : Int), c2.bs ((m.at k1).wait.getD i Wt.z).gv, ((m.at k1).wait.getD i Wt.z).t⟩]) rfl rfl (by decide) (by decide) rfl) Try.underlying73 ok_tyErr (by simp only [List.length_append, List.length_map, List.length_cons, List.length_nil, maxLen] at *; omega) (by simp only [List.length_append, List.length_map, List.length_cons, List.length_nil, maxLen] at *; omega) rfl fun p27 c28 => ⟨fun h => absurd h (by decide), ?_⟩
       refine aN 8 511 rfl rfl (P_nilCheck rfl) rfl <| aN 9 1023 rfl rfl (P_fieldAddr rfl ⟨_, _, _, Try.runUnderlying75, rfl, rfl, Try.sizeOf73, rfl⟩) rfl <| AJ_op 10 2047 rfl (by kernel_rfl) rfl (GY_none rfl) <| O_store rfl rfl foc2 rfl rfl Try.sizeOf73 <| ⟨fun h => absurd h (by decide), ?_⟩
       refine aD <| CJ_exit <| QJ_then_exit <| QJ_block_here <| QJ_then <| CJ_region <| oP (P_add rfl rfl (by omega)) rfl <| oM rfl rfl <| RJ_nil ?_
       have he2 : m.rsI k1 (i + 1) = (m.rsI k1 i).addW w ((m.at k1).wait.getD i Wt.z) := by rw [Md.rsI_succ hi2, Md.rsT_way hw0]
       refine QJ_nextR ⟨i + 1, (c2.put w { c2.hd w with wt := ⟨p27, _, c28⟩ } { (m.rsI k1 i).at w with wait := ((m.rsI k1 i).at w).wait ++ [((m.at k1).wait.getD i Wt.z)] })⟩ (by show (m.at k1).wait.length - (i + 1) < (m.at k1).wait.length - i; omega) ?_ (by repeat (first | exact Kp.base | exact Kp.self | refine Kp.cons rfl ?_ | refine Kp.forget rfl ?_)) ?_ (Ent.trans (Ent.trans (t2_ (t2_ (t2_ (Ent.takeC del0 (by rw [List.map_append]; rfl) (t1_ eR))))) (MapR_putD (h' := { c2.hd w with wt := ⟨p27, _, c28⟩ }) (d' := { (m.rsI k1 i).at w with wait := ((m.rsI k1 i).at w).wait ++ [((m.at k1).wait.getD i Wt.z)] }) (m' := (m.rsI k1 i).addW w ((m.at k1).wait.getD i Wt.z)) hW2 hwD rfl hwD.2.2 rfl rfl rfl (Md.ok_addW hO2 hwD ⟨hgv.1, hgv.2.1, hgv.2.2, hog.2⟩) (hW2.big.set hwD.1 rfl (by show (((m.rsI k1 i).at w).wait ++ _).length ≤ _; rw [List.length_append]; have := (m.rsI k1 i).wait_le w; simp; omega) hW2.big.tks hW2.big.told hW2.big.wr) rfl rfl)) (Ent.takeC del4 (congrArg (fun f => sl tyErr (c.hd k1).wt.v ((m.at k1).wait.map (wC f))) (show MH.bs (c2.put w { c2.hd w with wt := ⟨p27, _, c28⟩ } { (m.rsI k1 i).at w with wait := ((m.rsI k1 i).at w).wait ++ [((m.at k1).wait.getD i Wt.z)] }) = c2.bs from put_bs hW2 hwD rfl).symm) (Ent.takeC del2 (by rw [he2] <;> rfl) (Ent.takeC del0 (by rw [he2] <;> rfl) (eD (eD eR))))))
       · omega
       · exact ⟨rfl, True.intro⟩
      ·
       refine kT <| CJ_seq ?_
       have hnw : (m.rsI k1 i).wayk ((m.at k1).wait.getD i Wt.z).gv ((m.at k1).wait.getD i Wt.z).t = none := by simpa using (show ((m.rsI k1 i).wayk ((m.at k1).wait.getD i Wt.z).gv ((m.at k1).wait.getD i Wt.z).t).isSome = false by assumption)
       refine AJ_startH 1280 (by kernel_rfl) rfl <| aN 0 1 rfl rfl (P_move rfl) rfl <| aN 1 3 rfl rfl (P_fieldAddr rfl ⟨_, _, _, Try.runUnderlying94, rfl, rfl, Try.sizeOf72, rfl⟩) rfl <| aV 2 7 rfl rfl (GY_none rfl) (t0_ (t0_ (t0_ (t0_ eR)))) (V_load rfl foc2 rfl Try.isAgg72) rfl <| aN 3 15 rfl rfl (P_nilCheck rfl) rfl <| aN 4 31 rfl rfl (P_fieldAddr rfl ⟨_, _, _, Try.runUnderlying75, rfl, rfl, Try.sizeOf9, rfl⟩) rfl <| aV 5 63 rfl rfl (GY_none rfl) (t0_ (t0_ (t0_ (t0_ eR)))) (VJ_ent (Ent.trans (t1_ eR) (MapR_dev hgv)) (V_load rfl foc0 rfl Try.isAgg9)) rfl <| aN 6 127 rfl rfl (P_fieldAddr rfl ⟨_, _, _, Try.runUnderlying94, rfl, rfl, Try.sizeOf44, rfl⟩) rfl <| aV 7 255 rfl rfl (GY_none rfl) (t0_ (t0_ (t0_ (t0_ eR)))) (V_loadN rfl foc2 Try.isAgg44 Try.sizeOf44 rfl rfl) rfl <| AJ_two 8 9 511 767 rfl rfl (by kernel_rfl) rfl rfl (GY_none rfl) (GY_none rfl) (O_call ((c_answer (nm := ((m.rsI k1 i).at ((m.at k1).wait.getD i Wt.z).gv).name) (t := ((m.at k1).wait.getD i Wt.z).t) (by omega) hog.2.2.2 (by rw [Md.at_find hO2 hgv.1 hgv.2.1]; rfl) ⟨hog.2.1, hog.2.2.1⟩)) rfl Try.call38 (Dels.cons del0 (Dels.cons del0 Dels.nil)) rfl (fun c9 h9 => ?_)) (O_alloc Try.zeroValue40 rfl rfl (fun b30 => ?_))
       ·
        refine ⟨fun h => absurd h (by decide), ?_⟩
        refine AJ_alloc 9 1023 rfl (by kernel_rfl) rfl (GY_none rfl) Try.zeroValue40 rfl rfl fun b31 => AJ_op 10 2047 rfl (by kernel_rfl) rfl (GY_none rfl) <| O_storeN rfl rfl foc0 Try.sizeOf40 rfl rfl rfl <| ⟨fun h => absurd h (by decide), ?_⟩
        refine aD <| CJ_seq <| CJ_ent (t0_ (Ent.takeC del0 (congrArg (blk b 79) h9.1.symm) (t0_ (t0_ (t0_ eR))))) <| CJ_region <| oP (P_fieldAddr rfl ⟨_, _, _, Try.runUnderlying94, rfl, rfl, Try.sizeOf3, rfl⟩) rfl <| oV (V_load rfl foc3 rfl Try.isAgg3) rfl <| oP (P_fieldAddr rfl ⟨_, _, _, Try.runUnderlying40, rfl, rfl, Try.sizeOf3, rfl⟩) rfl <| oO <| O_store rfl rfl foc0 rfl rfl Try.sizeOf3 <| nT <| CJ_ent (Ent.trans (t2_ eR) MapR_told) ?_
        have hto9 : ((m.rsI k1 i).carryN ((m.rsI k1 i).dv.length + 1) ((m.rsI k1 i).at ((m.at k1).wait.getD i Wt.z).gv).name ((m.at k1).wait.getD i Wt.z).t).2.told = (m.rsI k1 i).told := by rw [carryN_k hO2 hgv.1 hgv.2.1]; exact (Md.carry_kept _ _ _).told
        have hto8 := congrArg List.length hto9
        refine AJ_startH 1152 (by kernel_rfl) rfl <| aN 0 1 rfl rfl (P_move rfl) rfl <| aN 1 3 rfl rfl (P_move rfl) rfl <| aN 2 7 rfl rfl (P_nilCheck rfl) rfl <| aN 3 15 rfl rfl (P_fieldAddr rfl ⟨_, _, _, Try.runUnderlying79, rfl, rfl, Try.sizeOf46, rfl⟩) rfl <| aV 4 31 rfl rfl (GY_none rfl) (t0_ (t0_ (t0_ (t0_ (t0_ (t0_ eR)))))) (V_load rfl foc3 rfl Try.isAgg46) rfl <| aV 5 63 rfl rfl (GY_none rfl) (t0_ (t0_ (t0_ (t0_ (t0_ (t0_ eR)))))) (V_loadN rfl foc2 Try.isAgg40 Try.sizeOf40 rfl rfl) rfl <| AJ_op 6 127 rfl (by kernel_rfl) rfl (GY_none rfl) <| O_buildSlice rfl (CMap17_bs_46_1_0 _ _ _ _) rfl fun b32 => ⟨fun _ => (t1_ (t1_ (t1_ (t1_ (t1_ (t1_ (eD eR))))))), ?_⟩
        refine AJ_op 7 255 rfl (by kernel_rfl) rfl (GY_none rfl) <| O_append (t := tyapi_Answer) (bytes := 32) rfl rfl del1 foc0 (Reads.lit (t := tyapi_Answer) (ys := [⟨true, (((m.at k1).wait.getD i Wt.z).tk : Int), (ansN (m.rsI k1 i) ((m.rsI k1 i).at ((m.at k1).wait.getD i Wt.z).gv).name ((m.at k1).wait.getD i Wt.z).t).Value, (ansN (m.rsI k1 i) ((m.rsI k1 i).at ((m.at k1).wait.getD i Wt.z).gv).name ((m.at k1).wait.getD i Wt.z).t).Error⟩]) rfl rfl (by decide) (by decide) rfl) Try.underlying46 ok_tyapi_Answer (by simp only [List.length_append, List.length_map, List.length_cons, List.length_nil, maxLen] at *; omega) (by simp only [List.length_append, List.length_map, List.length_cons, List.length_nil, maxLen] at *; omega) rfl fun p33 c34 => ⟨fun h => absurd h (by decide), ?_⟩
        refine aN 8 511 rfl rfl (P_nilCheck rfl) rfl <| aN 9 1023 rfl rfl (P_fieldAddr rfl ⟨_, _, _, Try.runUnderlying79, rfl, rfl, Try.sizeOf46, rfl⟩) rfl <| AJ_op 10 2047 rfl (by kernel_rfl) rfl (GY_none rfl) <| O_store rfl rfl foc4 rfl rfl Try.sizeOf46 <| ⟨fun h => absurd h (by decide), ?_⟩
        refine AJ_done (by kernel_rfl) <| QJ_block_normal <| QJ_then <| CJ_region <| oP (P_add rfl rfl (by omega)) rfl <| oM rfl rfl <| RJ_nil ?_
        have he2 : m.rsI k1 (i + 1) = { { ((m.rsI k1 i).carryN ((m.rsI k1 i).dv.length + 1) ((m.rsI k1 i).at ((m.at k1).wait.getD i Wt.z).gv).name ((m.at k1).wait.getD i Wt.z).t).2 with told := [] } with told := ((m.rsI k1 i).carryN ((m.rsI k1 i).dv.length + 1) ((m.rsI k1 i).at ((m.at k1).wait.getD i Wt.z).gv).name ((m.at k1).wait.getD i Wt.z).t).2.told ++ [⟨true, (((m.at k1).wait.getD i Wt.z).tk : Int), (ansN (m.rsI k1 i) ((m.rsI k1 i).at ((m.at k1).wait.getD i Wt.z).gv).name ((m.at k1).wait.getD i Wt.z).t).Value, (ansN (m.rsI k1 i) ((m.rsI k1 i).at ((m.at k1).wait.getD i Wt.z).gv).name ((m.at k1).wait.getD i Wt.z).t).Error⟩] } := by
          unfold ansN
          rw [Md.rsI_succ hi2, Md.rsT_go hnw, carryN_k hO2 hgv.1 hgv.2.1]
        have htl9 : (((m.rsI k1 i).carryN ((m.rsI k1 i).dv.length + 1) ((m.rsI k1 i).at ((m.at k1).wait.getD i Wt.z).gv).name ((m.at k1).wait.getD i Wt.z).t).2.told ++ [(⟨true, (((m.at k1).wait.getD i Wt.z).tk : Int), (ansN (m.rsI k1 i) ((m.rsI k1 i).at ((m.at k1).wait.getD i Wt.z).gv).name ((m.at k1).wait.getD i Wt.z).t).Value, (ansN (m.rsI k1 i) ((m.rsI k1 i).at ((m.at k1).wait.getD i Wt.z).gv).name ((m.at k1).wait.getD i Wt.z).t).Error⟩ : api_Answer)]).length ≤ 100000000 := by rw [List.length_append, hto9]; simp; omega
        refine QJ_nextR ⟨i + 1, { { c9 with tv := s3z } with tv := ⟨p33, (((m.rsI k1 i).carryN ((m.rsI k1 i).dv.length + 1) ((m.rsI k1 i).at ((m.at k1).wait.getD i Wt.z).gv).name ((m.at k1).wait.getD i Wt.z).t).2.told ++ [(⟨true, (((m.at k1).wait.getD i Wt.z).tk : Int), (ansN (m.rsI k1 i) ((m.rsI k1 i).at ((m.at k1).wait.getD i Wt.z).gv).name ((m.at k1).wait.getD i Wt.z).t).Value, (ansN (m.rsI k1 i) ((m.rsI k1 i).at ((m.at k1).wait.getD i Wt.z).gv).name ((m.at k1).wait.getD i Wt.z).t).Error⟩ : api_Answer)]).length, c34⟩ }⟩ (by show (m.at k1).wait.length - (i + 1) < (m.at k1).wait.length - i; omega) ?_ (by repeat (first | exact Kp.base | exact Kp.self | refine Kp.cons rfl ?_ | refine Kp.forget rfl ?_)) ?_ (Ent.trans (Ent.trans (t0_ (t1_ eR)) (MapR_tell (tv := ⟨p33, (((m.rsI k1 i).carryN ((m.rsI k1 i).dv.length + 1) ((m.rsI k1 i).at ((m.at k1).wait.getD i Wt.z).gv).name ((m.at k1).wait.getD i Wt.z).t).2.told ++ [(⟨true, (((m.at k1).wait.getD i Wt.z).tk : Int), (ansN (m.rsI k1 i) ((m.rsI k1 i).at ((m.at k1).wait.getD i Wt.z).gv).name ((m.at k1).wait.getD i Wt.z).t).Value, (ansN (m.rsI k1 i) ((m.rsI k1 i).at ((m.at k1).wait.getD i Wt.z).gv).name ((m.at k1).wait.getD i Wt.z).t).Error⟩ : api_Answer)]).length, c34⟩) htl9)) (Ent.takeC del5 (by exact congrArg (fun f => sl tyErr (c.hd k1).wt.v ((m.at k1).wait.map (wC f))) h9.2.symm) (Ent.takeC del3 (by rw [he2] <;> rfl) (Ent.takeC del0 (by rw [he2] <;> rfl) (eD (eD (eD eR)))))))
        · omega
        · exact ⟨rfl, True.intro⟩
       ·
        refine ⟨fun _ => (t1_ (t1_ (t1_ (t1_ (eD eR))))), ?_⟩
        refine AJ_op 8 1023 rfl (by kernel_rfl) rfl (GY_none rfl) <| O_call ((c_answer (nm := ((m.rsI k1 i).at ((m.at k1).wait.getD i Wt.z).gv).name) (t := ((m.at k1).wait.getD i Wt.z).t) (by omega) hog.2.2.2 (by rw [Md.at_find hO2 hgv.1 hgv.2.1]; rfl) ⟨hog.2.1, hog.2.2.1⟩)) rfl Try.call38 (Dels.cons del1 (Dels.cons del1 Dels.nil)) rfl fun c9 h9 => ⟨fun h => absurd h (by decide), ?_⟩
        refine AJ_op 10 2047 rfl (by kernel_rfl) rfl (GY_none rfl) <| O_storeN rfl rfl foc2 Try.sizeOf40 rfl rfl rfl <| ⟨fun h => absurd h (by decide), ?_⟩
        refine aD <| CJ_seq <| CJ_ent (Ent.takeC del0 (congrArg (blk b 79) h9.1.symm) (t0_ (t0_ (t0_ (t0_ eR))))) <| CJ_region <| oP (P_fieldAddr rfl ⟨_, _, _, Try.runUnderlying94, rfl, rfl, Try.sizeOf3, rfl⟩) rfl <| oV (V_load rfl foc3 rfl Try.isAgg3) rfl <| oP (P_fieldAddr rfl ⟨_, _, _, Try.runUnderlying40, rfl, rfl, Try.sizeOf3, rfl⟩) rfl <| oO <| O_store rfl rfl foc2 rfl rfl Try.sizeOf3 <| nT <| CJ_ent (Ent.trans (t1_ eR) MapR_told) ?_
        have hto9 : ((m.rsI k1 i).carryN ((m.rsI k1 i).dv.length + 1) ((m.rsI k1 i).at ((m.at k1).wait.getD i Wt.z).gv).name ((m.at k1).wait.getD i Wt.z).t).2.told = (m.rsI k1 i).told := by rw [carryN_k hO2 hgv.1 hgv.2.1]; exact (Md.carry_kept _ _ _).told
        have hto8 := congrArg List.length hto9
        refine AJ_startH 1152 (by kernel_rfl) rfl <| aN 0 1 rfl rfl (P_move rfl) rfl <| aN 1 3 rfl rfl (P_move rfl) rfl <| aN 2 7 rfl rfl (P_nilCheck rfl) rfl <| aN 3 15 rfl rfl (P_fieldAddr rfl ⟨_, _, _, Try.runUnderlying79, rfl, rfl, Try.sizeOf46, rfl⟩) rfl <| aV 4 31 rfl rfl (GY_none rfl) (t0_ (t0_ (t0_ (t0_ (t0_ (t0_ eR)))))) (V_load rfl foc2 rfl Try.isAgg46) rfl <| aV 5 63 rfl rfl (GY_none rfl) (t0_ (t0_ (t0_ (t0_ (t0_ (t0_ eR)))))) (V_loadN rfl foc3 Try.isAgg40 Try.sizeOf40 rfl rfl) rfl <| AJ_op 6 127 rfl (by kernel_rfl) rfl (GY_none rfl) <| O_buildSlice rfl (CMap17_bs_46_1_0 _ _ _ _) rfl fun b36 => ⟨fun _ => (t1_ (t1_ (t1_ (t1_ (t1_ (t1_ (eD eR))))))), ?_⟩
        refine AJ_op 7 255 rfl (by kernel_rfl) rfl (GY_none rfl) <| O_append (t := tyapi_Answer) (bytes := 32) rfl rfl del1 foc0 (Reads.lit (t := tyapi_Answer) (ys := [⟨true, (((m.at k1).wait.getD i Wt.z).tk : Int), (ansN (m.rsI k1 i) ((m.rsI k1 i).at ((m.at k1).wait.getD i Wt.z).gv).name ((m.at k1).wait.getD i Wt.z).t).Value, (ansN (m.rsI k1 i) ((m.rsI k1 i).at ((m.at k1).wait.getD i Wt.z).gv).name ((m.at k1).wait.getD i Wt.z).t).Error⟩]) rfl rfl (by decide) (by decide) rfl) Try.underlying46 ok_tyapi_Answer (by simp only [List.length_append, List.length_map, List.length_cons, List.length_nil, maxLen] at *; omega) (by simp only [List.length_append, List.length_map, List.length_cons, List.length_nil, maxLen] at *; omega) rfl fun p37 c38 => ⟨fun h => absurd h (by decide), ?_⟩
        refine aN 8 511 rfl rfl (P_nilCheck rfl) rfl <| aN 9 1023 rfl rfl (P_fieldAddr rfl ⟨_, _, _, Try.runUnderlying79, rfl, rfl, Try.sizeOf46, rfl⟩) rfl <| AJ_op 10 2047 rfl (by kernel_rfl) rfl (GY_none rfl) <| O_store rfl rfl foc3 rfl rfl Try.sizeOf46 <| ⟨fun h => absurd h (by decide), ?_⟩
        refine AJ_done (by kernel_rfl) <| QJ_block_normal <| QJ_then <| CJ_region <| oP (P_add rfl rfl (by omega)) rfl <| oM rfl rfl <| RJ_nil ?_
        have he2 : m.rsI k1 (i + 1) = { { ((m.rsI k1 i).carryN ((m.rsI k1 i).dv.length + 1) ((m.rsI k1 i).at ((m.at k1).wait.getD i Wt.z).gv).name ((m.at k1).wait.getD i Wt.z).t).2 with told := [] } with told := ((m.rsI k1 i).carryN ((m.rsI k1 i).dv.length + 1) ((m.rsI k1 i).at ((m.at k1).wait.getD i Wt.z).gv).name ((m.at k1).wait.getD i Wt.z).t).2.told ++ [⟨true, (((m.at k1).wait.getD i Wt.z).tk : Int), (ansN (m.rsI k1 i) ((m.rsI k1 i).at ((m.at k1).wait.getD i Wt.z).gv).name ((m.at k1).wait.getD i Wt.z).t).Value, (ansN (m.rsI k1 i) ((m.rsI k1 i).at ((m.at k1).wait.getD i Wt.z).gv).name ((m.at k1).wait.getD i Wt.z).t).Error⟩] } := by
          unfold ansN
          rw [Md.rsI_succ hi2, Md.rsT_go hnw, carryN_k hO2 hgv.1 hgv.2.1]
        have htl9 : (((m.rsI k1 i).carryN ((m.rsI k1 i).dv.length + 1) ((m.rsI k1 i).at ((m.at k1).wait.getD i Wt.z).gv).name ((m.at k1).wait.getD i Wt.z).t).2.told ++ [(⟨true, (((m.at k1).wait.getD i Wt.z).tk : Int), (ansN (m.rsI k1 i) ((m.rsI k1 i).at ((m.at k1).wait.getD i Wt.z).gv).name ((m.at k1).wait.getD i Wt.z).t).Value, (ansN (m.rsI k1 i) ((m.rsI k1 i).at ((m.at k1).wait.getD i Wt.z).gv).name ((m.at k1).wait.getD i Wt.z).t).Error⟩ : api_Answer)]).length ≤ 100000000 := by rw [List.length_append, hto9]; simp; omega
        refine QJ_nextR ⟨i + 1, { { c9 with tv := s3z } with tv := ⟨p37, (((m.rsI k1 i).carryN ((m.rsI k1 i).dv.length + 1) ((m.rsI k1 i).at ((m.at k1).wait.getD i Wt.z).gv).name ((m.at k1).wait.getD i Wt.z).t).2.told ++ [(⟨true, (((m.at k1).wait.getD i Wt.z).tk : Int), (ansN (m.rsI k1 i) ((m.rsI k1 i).at ((m.at k1).wait.getD i Wt.z).gv).name ((m.at k1).wait.getD i Wt.z).t).Value, (ansN (m.rsI k1 i) ((m.rsI k1 i).at ((m.at k1).wait.getD i Wt.z).gv).name ((m.at k1).wait.getD i Wt.z).t).Error⟩ : api_Answer)]).length, c38⟩ }⟩ (by show (m.at k1).wait.length - (i + 1) < (m.at k1).wait.length - i; omega) ?_ (by repeat (first | exact Kp.base | exact Kp.self | refine Kp.cons rfl ?_ | refine Kp.forget rfl ?_)) ?_ (Ent.trans (Ent.trans (t0_ (t1_ eR)) (MapR_tell (tv := ⟨p37, (((m.rsI k1 i).carryN ((m.rsI k1 i).dv.length + 1) ((m.rsI k1 i).at ((m.at k1).wait.getD i Wt.z).gv).name ((m.at k1).wait.getD i Wt.z).t).2.told ++ [(⟨true, (((m.at k1).wait.getD i Wt.z).tk : Int), (ansN (m.rsI k1 i) ((m.rsI k1 i).at ((m.at k1).wait.getD i Wt.z).gv).name ((m.at k1).wait.getD i Wt.z).t).Value, (ansN (m.rsI k1 i) ((m.rsI k1 i).at ((m.at k1).wait.getD i Wt.z).gv).name ((m.at k1).wait.getD i Wt.z).t).Error⟩ : api_Answer)]).length, c38⟩) htl9)) (Ent.takeC del5 (by exact congrArg (fun f => sl tyErr (c.hd k1).wt.v ((m.at k1).wait.map (wC f))) h9.2.symm) (Ent.takeC del2 (by rw [he2] <;> rfl) (Ent.takeC del0 (by rw [he2] <;> rfl) (eD (eD (eD eR)))))))
        · omega
        · exact ⟨rfl, True.intro⟩
     ·
      refine CJ_exit <| QJ_then_exit <| QJ_round_exit <| QJ_block_here <| QJ_then <| sR <| oA rfl rfl <| nT <| CJ_ret <| QJ_end (res1 Try.results11 rfl) ?_
      obtain rfl : i = (m.at k1).wait.length := by omega
      have e1 := Md.rs_ok hd2 hst hft
      rw [e1.2, ← Md.rsI_end]
      refine CSpec.close c2 ?_ ?_ (t1_ (t1_ (eD eR)))
      · rw [e1.1]
      · trivial
end Go.Proofs
set_option linter.unusedSimpArgs false
set_option maxRecDepth 20000
namespace Go.Proofs
open Go.VG
end Go.Proofs
set_option linter.unusedSimpArgs false
set_option maxRecDepth 20000
namespace Go.Proofs
open Go.VG
theorem CMap19_bld_79_0_1 (v0 : (Option Nat)) (v1 : (Option Nat)) : ∀ w, (Instr.build 79 (#[(0, .map v0), (1, .map v1)] : Array (Nat × Value))).run Try.prog w = .ok (.agg #[.map v0, .map v1, .slice none 0 0, .int .i64 0, .slice none 0 0]) w := fun w => by kernel_rfl
abbrev bNew (n : ByteArray) (z : Nat) : Dv := { Dv.z with name := n, isB := true, base := List.replicate z 0 }
abbrev hBas (p dn : Nat) : DH := ⟨p, dn, s3z, s3z, s3z⟩
abbrev Md.z : Md := ⟨[], 0, [], 0, 0⟩
theorem Md.z_ok : MdOk Md.z := ⟨fun i j h => absurd h (Nat.not_lt_zero _), fun i h => absurd h (Nat.not_lt_zero _), fun i => ⟨rfl, rfl⟩, fun i h => absurd h (Nat.not_lt_zero _), ⟨fun _ => 0, fun i h => absurd h (Nat.not_lt_zero _)⟩, (fun i h => by cases h), fun _ _ => rfl, fun _ _ => rfl, fun i h => absurd h (Nat.not_lt_zero _)⟩
theorem Md.z_big : MdBig Md.z := ⟨Nat.zero_le _, fun _ => Nat.zero_le _, Nat.zero_le _, Nat.zero_le _, Nat.zero_le _⟩
section
variable {c : MH} {m : Md} {R : List HP} {n : ByteArray} {p dn z : Nat} {ov : Sl3}
theorem base_ok (h : m.addE n = 0) : m.baS n z = m.push (bNew n z) ∧ m.find n = none ∧ n ≠ noN ∧ m.names.length < 256 := ⟨by unfold Md.baS Md.addS; exact if_pos h, (cr_ok h).2⟩
theorem MapWF.addB (hW : MapWF c m) (h0 : m.addE n = 0) (hlen : m.dv.length + 1 ≤ 10000) (hz : z ≤ 65536) (h1 : dn < c.s.drv.length) (h2 : nowL c.s dn = List.replicate z 0) (h3 : ∀ i, m.isBs i → (c.hd i).dn ≠ dn) : MapWF (c.push ov c.dl (setM c.bl n p) (hBas p dn) (bNew n z)) (m.push (bNew n z)) := by
  obtain ⟨_, hf, hn, _⟩ := base_ok (z := z) h0
  have ok := hW.ok.push (d := bNew n z) rfl hn hf rfl rfl rfl rfl rfl rfl (by simp; exact hz)
  have big := hW.big.push (d := bNew n z) hlen rfl
  refine hW.push ok big rfl hf (fun x => ?_) (fun x => by rw [lookM_setM]; rfl) (fun h => by cases h) (fun _ => ⟨h1, h2, by simp; exact hz, h3⟩)
  by_cases e : x = n
  · rw [if_pos e, hW.dl, e]
    have : m.dev n = none := by unfold Md.dev; rw [hf]; rfl
    rw [this]; rfl
  · rw [if_neg e]
theorem MapR_addB (hW : MapWF c m) (hw : MapWF (c.push ov c.dl (setM c.bl n p) (hBas p dn) (bNew n z)) (m.push (bNew n z))) :
    Ent (blkR p 143 [ptr c.a 0, .int .i64 (dn : Int), .int .i64 0, .int .i64 (z : Int)] :: Go.VG.Own (DevC c.a c.bs) c.l :: mpc mBas c.bm (setM c.bl n p) :: mpc mDev c.dm c.dl :: sl tyS ov.v (m.names ++ [n]) :: sl tyapi_Answer c.tv.v m.told :: Arr c.a c.s :: R) (MapR (c.push ov c.dl (setM c.bl n p) (hBas p dn) (bNew n z)) (m.push (bNew n z)) :: R) := by
  have h := MapR_push (R := R) (h := hBas p dn) (d := bNew n z) hW rfl rfl hw
  rw [DevC_bas rfl rfl, show ((bNew n z).base.length : Int) = (z : Int) by simp] at h
  exact h
theorem MapWF_z {a bm dm : Nat} {s : ArrS} (hg : Good s) (hw : s.writes = 0) : MapWF ⟨bm, dm, a, s3z, s3z, [], [], [], s⟩ Md.z :=
  ⟨rfl, Md.z_ok, Md.z_big, fun n => rfl, fun n => rfl, fun i j h => absurd h.1 (Nat.not_lt_zero _), hg, fun k h => absurd h.1 (Nat.not_lt_zero _), fun i j h => absurd h.1 (Nat.not_lt_zero _), by show s.writes ≤ 0; omega⟩
theorem MapR_z {a bm dm : Nat} {s : ArrS} (hg : Good s) (hw : s.writes = 0) : Ent (mpc mBas bm [] :: mpc mDev dm [] :: Arr a s :: R) (MapR ⟨bm, dm, a, s3z, s3z, [], [], [], s⟩ Md.z :: R) := fun g hh => by
  refine stars_star.2 (stars_pur.2 ⟨MapWF_z hg hw, ?_⟩)
  have h1 : stars (Go.VG.Own (DevC a (MH.bs ⟨bm, dm, a, s3z, s3z, [], [], [], s⟩)) [] :: sl tyapi_Answer (Sl3.v s3z) [] :: sl tyS (Sl3.v s3z) [] :: mpc mBas bm [] :: mpc mDev dm [] :: Arr a s :: R) g := Own_nil _ _ (sl_nil _ (sl_nil _ hh))
  exact (Ent.take del3 (Ent.take del3 (Ent.take del2 (Ent.take del1 (Ent.take del0 (Ent.take del0 Ent.refl)))))) g h1
end
theorem c_Base {W : World} {b p dn z : Nat} {c : MH} {m : Md} {n : ByteArray} (hlen : m.dv.length + 1 ≤ 10000) (h0 : m.addE n = 0) (hz : z ≤ 65536) (h1 : dn < c.s.drv.length) (h2 : nowL c.s dn = List.replicate z 0) (h3 : ∀ i, m.isBs i → (c.hd i).dn ≠ dn) :
    CSpec Try.prog W 23 [ptr b 0, .string n, .iface 141 (ptr p 0)] [blkR p 143 [ptr c.a 0, .int .i64 (dn : Int), .int .i64 0, .int .i64 (z : Int)], blk b 79 (mCells c m), MapR c m] (fun _ : MH => .int .i64 0) (fun c2 => ∃ ov, c2 = c.push ov c.dl (setM c.bl n p) (hBas p dn) (bNew n z)) (fun c2 F => blk b 79 (mCells c2 (m.push (bNew n z))) :: MapR c2 (m.push (bNew n z)) :: F) := by
 refine CSpec.of_body Try.func23 rfl Try.ntmps23 rfl fun F => ?_
 show CJ _ _ _ _ _ _ (_ :: _ :: _ :: F)
 refine CJ_pure (MapR_wf foc2) fun hW => ?_
 have hns := Md.names_len (m := m)
 refine CJ_ent (Ent.trans (t2_ eR) MapR_flat) <| sR <| oA rfl rfl <| nT <| sR <| oM rfl rfl <| oM rfl rfl <| oO <| O_call (c_add (by omega)) rfl Try.call25 (Dels.cons del2 (Dels.cons del6 Dels.nil)) rfl fun ov9 hov9 => oA rfl rfl <| nT <| CJ_seq <| sR <| oM rfl rfl <| oP (P_eql rfl rfl) rfl <| nT ?_
 first | (refine CJ_condT rfl (decide_eq_true (by exact h0)) ?_) | (refine CJ_condT rfl (by exact h0) ?_)
 refine CJ_region <| oM rfl rfl <| oP (P_nilCheck rfl) rfl <| oP (P_fieldAddr rfl ⟨_, _, _, Try.runUnderlying79, rfl, rfl, Try.sizeOf76, rfl⟩) rfl <| oV (V_load rfl foc1 rfl Try.isAgg76) rfl <| oM rfl rfl <| oM rfl rfl <| oO <| O_mapUpdate (M := mBas) (k := n) (v := p) rfl rfl rfl foc2 ok_mBas <| nT <| sR <| oM rfl rfl <| oA rfl rfl <| nT <| CJ_ret <| QJ_end (res1 Try.results23 rfl) ?_
 rw [if_pos h0]
 have hw9 := hW.addB (ov := ov9) (p := p) h0 hlen hz h1 h2 h3
 refine CSpec.close (c.push ov9 c.dl (setM c.bl n p) (hBas p dn) (bNew n z)) ?_ ?_ (Ent.trans (Ent.trans (t7_ (t5_ (t2_ (t2_ (t0_ (t1_ (t1_ eR))))))) (MapR_addB (ov := ov9) hW hw9)) (t1_ (t0_ eR)))
 · exact iv h0
 · exact ⟨ov9, rfl⟩
theorem c_NewM {W : World}  :
    CSpec Try.prog W 21 [] [] (fun x : Nat × Nat × Nat => ptr x.1 0) (fun _ => True) (fun x F => blk x.1 79 [.map (some x.2.1), .map (some x.2.2), .slice none 0 0, .int .i64 0, .slice none 0 0] :: mpc mBas x.2.1 [] :: mpc mDev x.2.2 [] :: F) := by
 refine CSpec.of_body Try.func21 rfl Try.ntmps21 rfl fun F => ?_
 show CJ _ _ _ _ _ _ (F)
 refine sR <| oA rfl rfl <| nT <| sR <| oO <| O_makeMap mBas rfl fun b1 => oO <| O_makeMap mDev rfl fun b2 => oP (P_build rfl (CMap19_bld_79_0_1 _ _)) rfl <| oO <| O_box rfl rfl rfl fun b3 => oA rfl rfl <| nT <| CJ_ret <| QJ_end (res1 Try.results21 rfl) <| CSpec.close ⟨b3, b1, b2⟩ ?_ ?_ (t0_ (t1_ (t0_ eR)))
 · rfl
 · trivial
end Go.Proofs
namespace Go.Proofs
namespace Md
section
variable {m : Md} {k : Nat} {n : ByteArray} {l : List api_Target} {t : api_Task}
theorem bd_set (h : MdBd m) (hc : m.cl < 4000) (hk : k < m.dv.length) {d' : Dv} (hw : d'.wait.length = (m.at k).wait.length) : MdBd (m.set k d').tick :=
  tick_bd (h.set (m' := m.set k d') hk rfl (by show _ + m.tks ≤ _ + m.tks; omega) h.tks h.told h.wr (Nat.le_refl _) h.cl) hc
theorem bd_cr (h : MdBd m) (hc : m.cl < 4000) : MdBd (m.crS n).tick := by
  unfold crS addS
  split
  · exact h.push_tick hc rfl
  · exact tick_bd h hc
theorem bd_ld (h : MdBd m) (hc : m.cl < 4000) : MdBd (m.ldS n l).tick := by
  unfold ldS
  cases hd : m.dev n with
  | none => exact tick_bd h hc
  | some k =>
    show MdBd (Md.tick (if m.ldE n l = 0 then m.set k { m.at k with new := l, hn := true } else m))
    split
    · exact bd_set h hc (dev_lt hd) rfl
    · exact tick_bd h hc
theorem bd_su (h : MdBd m) (hc : m.cl < 4000) : MdBd (m.suS n).tick := by
  unfold suS
  cases hd : m.dev n with
  | none => exact tick_bd h hc
  | some k =>
    show MdBd (Md.tick (if m.suE n = 0 then m.set k { m.at k with susp := true } else m))
    split
    · exact bd_set h hc (dev_lt hd) rfl
    · exact tick_bd h hc
theorem bd_an (h : MdBd m) (hc : m.cl < 4000) : MdBd m.anS.tick := tick_bd (m := m.anS) ⟨h.wl, h.tks, Nat.zero_le _, h.wr, h.len, h.cl⟩ hc
theorem bd_do (hO : MdOk m) (h : MdBd m) (hc : m.cl < 4000) : MdBd (m.doS n t).tick := by
  have h1 := h.tks; have h2 := h.told; have h3 := h.wr; have h4 := h.len; have h5 := h.wl
  unfold doS
  split
  · exact tick_bd h hc
  · cases hf : m.find n with
    | none => exact tick_bd h hc
    | some k =>
      dsimp only
      obtain ⟨g1, g2, _⟩ := List.findIdx?_eq_some_iff_getElem.1 hf
      have e : m.at k = m.dv[k] := by simp [Md.at, List.getD, g1]
      simp only [isN, Bool.and_eq_true, Bool.not_eq_true', decide_eq_true_eq] at g2
      rw [← e] at g2
      cases hw : m.wayk k t with
      | some w =>
        have hwl := (way_is hO _ _ _ _ g1 g2.1 hw).1
        have hs := wsum_set m.dv w { m.at w with wait := (m.at w).wait ++ [⟨m.tks + 1, k, t⟩] } hwl
        have e2 : (m.dv.getD w Dv.z).wait.length = (m.at w).wait.length := rfl
        rw [List.length_append, List.length_singleton] at hs
        show MdBd (Md.tick ({ m with tks := m.tks + 1 }.addW w ⟨m.tks + 1, k, t⟩))
        refine ⟨?_, by show m.tks + 1 ≤ m.cl + 1; omega, Nat.le_trans h2 (by show _ ≤ 4000 * (m.cl + 1); omega), Nat.le_trans h3 (by show _ ≤ 4000 * (m.cl + 1); omega), ?_, hc⟩
        · show ((m.dv.set w _).map fun d => d.wait.length).sum ≤ m.tks + 1
          have e3 : (m.dv.map fun d => d.wait.length).sum = m.wsum := rfl
          have e4 : (({ m with tks := m.tks + 1 } : Md).at w) = m.at w := rfl
          rw [e4]; omega
        · show (m.dv.set w _).length ≤ m.cl + 1 + 2
          rw [List.length_set]; omega
      | none =>
        have hK := carry_kept (m := m) (m.dv.length + 1) k t
        have e1 := wsum_congr hK.like.len hK.wait
        have e2 := hK.tks; have e3 := hK.told; have e4 := hK.cl; have e5 := hK.wr; have e6 := hK.like.len
        show MdBd (Md.tick (m.carryk k t).2)
        unfold carryk
        generalize (m.carry (m.dv.length + 1) k t).2 = z at *
        exact ⟨by show z.wsum ≤ z.tks; omega, by show z.tks ≤ z.cl + 1; omega, by show z.told.length ≤ 4000 * (z.cl + 1); rw [e3]; omega, by show z.wr ≤ 4000 * (z.cl + 1); omega, by show z.dv.length ≤ z.cl + 1 + 2; omega, by show z.cl + 1 ≤ 4000; omega⟩
end
end Md
end Go.Proofs
set_option linter.unusedSimpArgs false
set_option maxRecDepth 20000
namespace Go.Proofs
open Go.VG
theorem CSpec.toT {W : World} {f : FuncId} {args : List Value} {b : Nat} {m m' : Md} {v : Value} {G : List HP} (_hc : m.cl < 4000) (hm : MdOk m → MdBd m → MdBd m'.tick)
    (h : ∀ c : MH, MdBd m → CSpec Try.prog W f args (blk b 79 (mCells c m) :: MapR c m :: G) (fun _ : MH => v) (fun _ => True) (fun c2 F => blk b 79 (mCells c2 m') :: MapR c2 m' :: (G ++ F))) :
    CSpec Try.prog W f args (MapP b m :: G) (fun _ : Unit => v) (fun _ => True) (fun _ F => MapP b m'.tick :: (G ++ F)) := by
  intro F w hs
  obtain ⟨gg, hgg⟩ := hs.heap
  obtain ⟨c, h1⟩ := MapP_open _ hgg
  obtain ⟨hb, h2⟩ := stars_pur.1 h1
  have hO : MdOk m := (MapR_wf (H := blk b 79 (mCells c m) :: MapR c m :: (G ++ F)) foc1 _ h2).ok
  refine (h c hb F w ⟨hs.os, hs.tape, hs.output, gg, h2⟩).mono ?_
  rintro e w' ⟨c2, h3, h4, h5⟩
  exact ⟨(), h3, trivial, h5.imp (Ent.trans (Ent.take del1 Ent.refl) (Ent.trans MapR_tick (Ent.trans (Ent.take del1 Ent.refl) (MapP_close (m := m'.tick) (c := c2) (hm hO hb)))))⟩
section
variable {W : World} {b : Nat} {m : Md} {n : ByteArray}
theorem c_CreateP (hc : m.cl < 4000) : CSpec Try.prog W 8 [ptr b 0, .string n] (MapP b m :: []) (fun _ : Unit => .int .i64 (m.crE n)) (fun _ => True) (fun _ F => MapP b (m.crS n).tick :: ([] ++ F)) :=
  CSpec.toT hc (fun hO h => Md.bd_cr h hc) fun c hb => by
    have g1 := hb.tks; have g2 := hb.told; have g3 := hb.wr; have g4 := hb.len; have g5 := hb.wl
    exact c_Create (by omega)
theorem c_LoadP {A : HP} {v : Sl3} {l : List api_Target} (hA : Reads A tyapi_Target v.v l) (hc : m.cl < 4000) (hl : l.length ≤ 100000000) : CSpec Try.prog W 9 [ptr b 0, .string n, v.v] (MapP b m :: [A]) (fun _ : Unit => .int .i64 (m.ldE n l)) (fun _ => True) (fun _ F => MapP b (m.ldS n l).tick :: ([A] ++ F)) :=
  CSpec.toT hc (fun hO h => Md.bd_ld h hc) fun c hb => by
    have g1 := hb.tks; have g2 := hb.told; have g3 := hb.wr; have g4 := hb.len; have g5 := hb.wl
    exact c_Load hA hl
theorem c_SuspendP (hc : m.cl < 4000) : CSpec Try.prog W 10 [ptr b 0, .string n] (MapP b m :: []) (fun _ : Unit => .int .i64 (m.suE n)) (fun _ => True) (fun _ F => MapP b (m.suS n).tick :: ([] ++ F)) :=
  CSpec.toT hc (fun hO h => Md.bd_su h hc) fun c hb => by
    have g1 := hb.tks; have g2 := hb.told; have g3 := hb.wr; have g4 := hb.len; have g5 := hb.wl
    exact c_Suspend
theorem c_ResumeP (hc : m.cl < 4000) : CSpec Try.prog W 11 [ptr b 0, .string n] (MapP b m :: []) (fun _ : Unit => .int .i64 (m.rsE n)) (fun _ => True) (fun _ F => MapP b (m.rsS n).tick :: ([] ++ F)) :=
  CSpec.toT hc (fun hO h => Md.bd_rs h hc) fun c hb => by
    have g1 := hb.tks; have g2 := hb.told; have g3 := hb.wr; have g4 := hb.len; have g5 := hb.wl
    exact c_Resume (by omega) (by omega) (by omega)
theorem c_DoP {t : api_Task} (hc : m.cl < 4000) (hb2 : -9223372036854775808 ≤ t.At ∧ t.At ≤ 9223372036854775807) : CSpec Try.prog W 14 [ptr b 0, .string n, .agg #[.int .i64 t.Kind, .int .i64 t.At, .int .u64 (t.Value.toNat : Int)]] (MapP b m :: []) (fun _ : Unit => .tuple #[.agg #[.bool (m.doA n t).Done, .int .i64 (m.doA n t).Ticket, .int .u64 ((m.doA n t).Value.toNat : Int), .int .i64 (m.doA n t).Error], .int .i64 (m.doE n t)]) (fun _ => True) (fun _ F => MapP b (m.doS n t).tick :: ([] ++ F)) :=
  CSpec.toT hc (fun hO h => Md.bd_do hO h hc) fun c hb => by
    have g1 := hb.tks; have g2 := hb.told; have g3 := hb.wr; have g4 := hb.len; have g5 := hb.wl
    exact c_Do (by omega) (by omega) (fun i => by have := m.wait_le i; omega) hb2
end
theorem c_AnswersP {W : World} {b : Nat} {m : Md} (hc : m.cl < 4000) : CSpec Try.prog W 15 [ptr b 0] [MapP b m] (fun x : Sl3 => x.v) (fun _ => True) (fun x F => sl tyapi_Answer x.v m.told :: MapP b m.anS.tick :: F) := by
  intro F w hs
  obtain ⟨gg, hgg⟩ := hs.heap
  obtain ⟨c, h1⟩ := MapP_open _ hgg
  obtain ⟨hb, h2⟩ := stars_pur.1 h1
  refine (c_Answers (b := b) (c := c) (m := m) F w ⟨hs.os, hs.tape, hs.output, gg, h2⟩).mono ?_
  rintro e w' ⟨_, h3, h4, h5⟩
  exact ⟨c.tv, h3, trivial, h5.imp (Ent.trans (Ent.take del2 Ent.refl) (Ent.trans MapR_tick (Ent.trans (Ent.take del2 Ent.refl) (Ent.trans (MapP_close (m := m.anS.tick) (c := { c with tv := s3z }) (Md.bd_an hb hc)) (Ent.take del1 Ent.refl)))))⟩
end Go.Proofs
set_option linter.unusedSimpArgs false
set_option maxRecDepth 20000
namespace Go.Proofs
open Go.VG
theorem CRf0_bs_45_1_0 (v0 : ByteArray) : BuildsSlice Try.prog 45 1 [(0, .string v0)] 9 [.string v0] := fun w => by kernel_rfl
structure RD where
  ba : Sl3
  lv : Sl3
  nw : Sl3
  wt : Sl3
abbrev rd0 : RD := ⟨s3z, s3z, s3z, s3z⟩
abbrev tyWt : Ty Wt := { T := 183, sz := 5, enc := fun x => [.int .i64 (x.tk : Int), .int .i64 (x.gv : Int), .int .i64 x.t.Kind, .int .i64 x.t.At, .int .u64 (x.t.Value.toNat : Int)], dflt := Wt.z, len := fun _ => rfl, one := fun _ => rfl, pos := by decide }
abbrev tyDv : Ty (RD × Dv) := { T := 115, sz := 10, enc := fun x => [.bool x.2.gone, .bool x.2.isB, .string x.2.name, x.1.ba.v, x.1.lv.v, x.1.nw.v, .bool x.2.hl, .bool x.2.hn, .bool x.2.susp, x.1.wt.v], dflt := (rd0, Dv.z), len := fun _ => rfl, one := fun _ => rfl, pos := by decide }
theorem ok_tyDv : ElemOk Try.prog tyDv 128 := ⟨Try.t115, .agg #[.bool false, .bool false, .string ByteArray.empty, .slice none 0 0, .slice none 0 0, .slice none 0 0, .bool false, .bool false, .bool false, .slice none 0 0], by kernel_rfl, rfl, rfl, rfl, rfl⟩
structure RH where
  dv : Sl3
  tv : Sl3
  l : List (RD × Dv)
def RowC (x : RD × Dv) : HP := star [sl tyU x.1.ba.v x.2.base, sl tyapi_Target x.1.lv.v x.2.live, sl tyapi_Target x.1.nw.v x.2.new, sl tyWt x.1.wt.v x.2.wait]
structure RefWF (c : RH) (m : Md) : Prop where
  dv : c.l.map Prod.snd = m.dv
  ok : MdOk m
  big : MdBig m
def RefR (c : RH) (m : Md) : HP := star [pur (RefWF c m), sl tyDv c.dv.v c.l, sl tyapi_Answer c.tv.v m.told, Go.VG.Own RowC c.l]
abbrev rCells (c : RH) (m : Md) : List Value := [c.dv.v, .int .i64 (m.tks : Int), c.tv.v]
def RefP (b : Nat) (m : Md) : HP := ex fun c : RH => star [pur (MdBd m), blk b 65 (rCells c m), RefR c m]
section
variable {c : RH} {m : Md} {k : Nat} {R : List HP}
theorem RefR_wf {H : List HP} {C : HP → List HP} (hf : Foc H (RefR c m) C) : ∀ h, stars H h → RefWF c m := fun h hh => by
  obtain ⟨F, hp, _⟩ := hf.focus
  exact (stars_pur.1 (stars_star.1 (stars_perm hp _ hh))).1
theorem RefR_flat : Ent (RefR c m :: R) (sl tyDv c.dv.v c.l :: sl tyapi_Answer c.tv.v m.told :: Go.VG.Own RowC c.l :: R) := fun _h hh => (stars_pur.1 (stars_star.1 hh)).2
theorem RefR_close (h : RefWF c m) : Ent (sl tyDv c.dv.v c.l :: sl tyapi_Answer c.tv.v m.told :: Go.VG.Own RowC c.l :: R) (RefR c m :: R) := fun _ hh => stars_star.2 (stars_pur.2 ⟨h, hh⟩)
theorem rdDv : Reads (RefR c m) tyDv c.dv.v c.l := Reads_ent RefR_flat
theorem RefWF.len (h : RefWF c m) : c.l.length = m.dv.length := by rw [← h.dv]; simp
theorem RefWF.at (h : RefWF c m) (k : Nat) : (c.l.getD k tyDv.dflt).2 = m.at k := by
  have h2 := getD_map (fun p : RD × Dv => p.2) c.l k (rd0, Dv.z)
  have h3 : (c.l.map fun p : RD × Dv => p.2).getD k Dv.z = m.at k := by rw [show (c.l.map fun p : RD × Dv => p.2) = m.dv from h.dv]; rfl
  exact h2.symm.trans h3
theorem RefR_push {dv : Sl3} {h : RD} {d : Dv} (hW : RefWF c m) (ok : MdOk (m.push d)) (big : MdBig (m.push d)) : Ent (RowC (h, d) :: Go.VG.Own RowC c.l :: sl tyDv dv.v (c.l ++ [(h, d)]) :: sl tyapi_Answer c.tv.v m.told :: R) (RefR { c with dv := dv, l := c.l ++ [(h, d)] } (m.push d) :: R) := fun g hh => by
  have hw : RefWF { c with dv := dv, l := c.l ++ [(h, d)] } (m.push d) := ⟨by show (c.l ++ [(h, d)]).map Prod.snd = m.dv ++ [d]; rw [List.map_append, hW.dv]; rfl, ok, big⟩
  have h1 := Own_push RowC (h, d) g hh
  exact RefR_close (c := { c with dv := dv, l := c.l ++ [(h, d)] }) hw g ((Ent.take del1 (Ent.take del1 (Ent.take del0 Ent.refl))) g h1)
end
namespace Md
def findI (m : Md) (n : ByteArray) : Int := match m.find n with | some k => (k : Int) | none => -1
section
variable {m : Md} {n : ByteArray} {i : Nat}
theorem findI_at (hi : i < m.dv.length) (h : isN (m.at i) n = true) (hno : ∀ j, j < i → isN (m.at j) n = false) : m.findI n = (i : Int) := by
  have : m.find n = some i := List.findIdx?_eq_some_iff_getElem.2 ⟨hi, by rw [show m.dv[i] = m.at i by simp [Md.at, List.getD, hi]]; exact h, fun j hj => by
    have := hno j hj
    rw [show m.dv[j] = m.at j by simp [Md.at, List.getD, show j < m.dv.length by omega], this]; decide⟩
  unfold findI; rw [this]
theorem findI_no (hno : ∀ j, j < m.dv.length → isN (m.at j) n = false) : m.findI n = -1 := by
  have : m.find n = none := List.findIdx?_eq_none_iff.2 fun d hd => by
    obtain ⟨j, hj, rfl⟩ := List.getElem_of_mem hd
    have := hno j hj
    rwa [show m.dv[j] = m.at j by simp [Md.at, List.getD, hj]]
  unfold findI; rw [this]
theorem findI_some : (0 ≤ m.findI n) ↔ (m.find n).isSome = true := by
  unfold findI
  cases m.find n with
  | none => simp
  | some k => simp
def nmT (m : Md) (i : Nat) : List ByteArray := ((m.dv.take i).filter fun d => !d.gone).map (·.name)
theorem nmT_step (hi : i < m.dv.length) : m.nmT (i + 1) = m.nmT i ++ (if (m.at i).gone then [] else [(m.at i).name]) := by
  unfold nmT
  have e : m.dv.take (i + 1) = m.dv.take i ++ [m.at i] := by rw [List.take_succ_eq_append_getElem hi]; simp [Md.at, List.getD, hi]
  rw [e, List.filter_append, List.map_append]
  cases h : (m.at i).gone <;> simp [h]
theorem nmT_len (i : Nat) : (m.nmT i).length ≤ i := by
  unfold nmT
  rw [List.length_map]
  exact Nat.le_trans (List.length_filter_le _ _) (by rw [List.length_take]; omega)
end
end Md
theorem c_rfind {W : World} {b : Nat} {c : RH} {m : Md} {n : ByteArray} :
    CSpec Try.prog W 79 [ptr b 0, .string n] [blk b 65 (rCells c m), RefR c m] (fun _ : Unit => .int .i64 (m.findI n)) (fun _ => True) (fun _ F => blk b 65 (rCells c m) :: RefR c m :: F) := by
 refine CSpec.of_body Try.func79 rfl Try.ntmps79 rfl fun F => ?_
 show CJ _ _ _ _ _ _ (_ :: _ :: F)
 refine CJ_pure (RefR_wf foc1) fun hW => ?_
 have hO := hW.ok
 have hln := hW.big.len
 have hll := hW.len
 refine sR <| oA rfl rfl <| nT <| CJ_seq <| sR <| oA rfl rfl <| nT <| CJ_block <| CJ_loopR (X := Nat) [4, 5, 6, 7, 8, 9, 10, 11, 12, 13, 14, 15, 16, 17, 18, 19, 20, 21, 22, 23, 24, 25, 26, 27, 28, 29, 30, 31, 32, 33, 34, 35, 36] (fun i  => ([(5, .int .i64 (i : Nat))] : Slots)) (fun i R => R) (fun i  => i ≤ m.dv.length ∧ ∀ j, j < i → Md.isN (m.at j) n = false) (fun i  => m.dv.length - i) (0) ?_ ?_ (t0_ (t0_ eR)) ?_
 · exact ⟨Nat.zero_le _, fun j h => by omega⟩
 · exact ⟨rfl, True.intro⟩
 ·
  intro i hpf
  obtain ⟨hi, hno⟩ := hpf
  show CJ _ _ _ _ _ (([(5, .int .i64 (i : Nat))] : Slots) ++ forget _ _) (_)
  have hat := hW.at i
  refine CJ_seq <| sR <| oM rfl rfl <| oM rfl rfl <| oP (P_nilCheck rfl) rfl <| oP (P_fieldAddr rfl ⟨_, _, _, Try.runUnderlying65, rfl, rfl, Try.sizeOf63, rfl⟩) rfl <| oV (V_load rfl foc0 rfl Try.isAgg63) rfl <| oV (V_len rfl foc1 rdDv Try.runUnderlying63) rfl <| oP (P_lss rfl rfl) rfl <| nT ?_
  first | (refine CJ_condD rfl (fun hg1 => ?_) (fun hg1 => ?_)) | (refine CJ_condN rfl (fun hg1 => ?_) (fun hg1 => ?_)) | (refine CJ_cond rfl (fun hg1 => ?_) (fun hg1 => ?_))
  ·
   refine kT <| CJ_seq <| CJ_block <| sR <| oM rfl rfl <| oP (P_nilCheck rfl) rfl <| oP (P_fieldAddr rfl ⟨_, _, _, Try.runUnderlying65, rfl, rfl, Try.sizeOf63, rfl⟩) rfl <| oV (V_load rfl foc0 rfl Try.isAgg63) rfl <| oM rfl rfl ?_
   first | (refine RJ_op rfl (OJ_V (V_index rfl rfl rfl (by omega) foc1 rdDv Try.runUnderlying63 Try.sizeOf115) rfl ?_)) | (refine RJ_op rfl (OJ_V (V_index rfl rfl (Int.toNat_of_nonneg (by omega)).symm (by omega) foc1 rdDv Try.runUnderlying63 Try.sizeOf115) rfl ?_))
   refine oP (P_fieldE rfl ⟨_, _, _, Try.runUnderlying115, rfl, rfl, Try.sizeOf4, rfl⟩) rfl <| oV (V_loadE rfl rfl (by omega) foc1 rdDv rfl rfl Try.isAgg4) rfl <| oP (P_not rfl) rfl <| oM rfl rfl ?_
   first | (refine RJ_splitD 24 rfl (fun hg2B hg2 => ?_) (fun hg2B hg2 => ?_)) | (refine RJ_splitN 24 rfl (fun hg2B hg2 => ?_) (fun hg2B hg2 => ?_)) | (refine RJ_split 24 rfl (fun hg2B => ?_) (fun hg2B => ?_))
   ·
    refine gP (GY_yes rfl rfl rfl hg2B) (P_move rfl) rfl <| gP (GY_yes rfl rfl rfl hg2B) (P_nilCheck rfl) rfl <| gP (GY_yes rfl rfl rfl hg2B) (P_fieldAddr rfl ⟨_, _, _, Try.runUnderlying65, rfl, rfl, Try.sizeOf63, rfl⟩) rfl <| gV (GY_yes rfl rfl rfl hg2B) (V_load rfl foc0 rfl Try.isAgg63) rfl <| gP (GY_yes rfl rfl rfl hg2B) (P_move rfl) rfl ?_
    first | (refine RJ_gy (GY_yes rfl rfl rfl hg2B) (OJ_V (V_index rfl rfl rfl (by omega) foc1 rdDv Try.runUnderlying63 Try.sizeOf115) rfl ?_)) | (refine RJ_gy (GY_yes rfl rfl rfl hg2B) (OJ_V (V_index rfl rfl (Int.toNat_of_nonneg (by omega)).symm (by omega) foc1 rdDv Try.runUnderlying63 Try.sizeOf115) rfl ?_))
    refine gP (GY_yes rfl rfl rfl hg2B) (P_fieldE rfl ⟨_, _, _, Try.runUnderlying115, rfl, rfl, Try.sizeOf9, rfl⟩) rfl <| gV (GY_yes rfl rfl rfl hg2B) (V_loadE rfl rfl (by omega) foc1 rdDv rfl rfl Try.isAgg9) rfl <| gP (GY_yes rfl rfl rfl hg2B) (P_move rfl) rfl <| gP (GY_yes rfl rfl rfl hg2B) (P_eqlStr rfl rfl Try.underlying9) rfl <| oP (P_pickT rfl hg2B rfl) rfl <| nT ?_
    first | (refine CJ_condD rfl (fun hg3 => ?_) (fun hg3 => ?_)) | (refine CJ_condN rfl (fun hg3 => ?_) (fun hg3 => ?_)) | (refine CJ_cond rfl (fun hg3 => ?_) (fun hg3 => ?_))
    ·
     refine sR <| oM rfl rfl <| oA rfl rfl <| nT <| CJ_ret <| QJ_block_ret <| QJ_then_ret <| QJ_round_ret <| QJ_block_ret <| QJ_then_ret <| QJ_end (res1 Try.results79 rfl) <| CSpec.close () ?_ ?_ (t0_ (t0_ eR))
     · exact iv (Md.findI_at (by omega) (by unfold Md.isN; rw [← hat]; simp_all) hno).symm
     · trivial
    ·
     refine CJ_skip <| QJ_block_normal <| QJ_then <| CJ_region <| oM rfl rfl <| oP (P_add rfl rfl (by omega)) rfl <| oA rfl rfl <| RJ_nil <| QJ_nextR (i + 1) (by first | omega | (simp only []; omega)) ?_ (by repeat (first | exact Kp.base | exact Kp.self | refine Kp.cons rfl ?_ | refine Kp.forget rfl ?_)) ?_ (t0_ (t0_ eR))
     ·
      refine ⟨by omega, fun j hj => ?_⟩
      rcases Nat.lt_or_ge j i with h | h
      · exact hno j h
      · obtain rfl : j = i := by omega
        unfold Md.isN; rw [← hat]; simp_all
     · exact ⟨rfl, True.intro⟩
   ·
    refine RJ_gn (GY_no rfl rfl rfl hg2B) rfl rfl <| RJ_gn (GY_no rfl rfl rfl hg2B) rfl rfl <| RJ_gn (GY_no rfl rfl rfl hg2B) rfl rfl <| RJ_gn (GY_no rfl rfl rfl hg2B) rfl rfl <| RJ_gn (GY_no rfl rfl rfl hg2B) rfl rfl <| RJ_gn (GY_no rfl rfl rfl hg2B) rfl rfl <| RJ_gn (GY_no rfl rfl rfl hg2B) rfl rfl <| RJ_gn (GY_no rfl rfl rfl hg2B) rfl rfl <| RJ_gn (GY_no rfl rfl rfl hg2B) rfl rfl <| RJ_gn (GY_no rfl rfl rfl hg2B) rfl rfl <| oP (P_pickF rfl hg2B rfl) rfl <| nT <| CJ_condF rfl rfl <| CJ_skip <| QJ_block_normal <| QJ_then <| CJ_region <| oM rfl rfl <| oP (P_add rfl rfl (by omega)) rfl <| oA rfl rfl <| RJ_nil <| QJ_nextR (i + 1) (by first | omega | (simp only []; omega)) ?_ (by repeat (first | exact Kp.base | exact Kp.self | refine Kp.cons rfl ?_ | refine Kp.forget rfl ?_)) ?_ (t0_ (t0_ eR))
    ·
     refine ⟨by omega, fun j hj => ?_⟩
     rcases Nat.lt_or_ge j i with h | h
     · exact hno j h
     · obtain rfl : j = i := by omega
       unfold Md.isN; rw [← hat]; simp_all
    · exact ⟨rfl, True.intro⟩
  ·
   refine CJ_exit <| QJ_then_exit <| QJ_round_exit <| QJ_block_here <| QJ_then <| sR <| oA rfl rfl <| nT <| CJ_ret <| QJ_end (res1 Try.results79 rfl) <| CSpec.close () ?_ ?_ (t0_ (t0_ eR))
   · exact iv (Md.findI_no fun j hj => hno j (by omega)).symm
   · trivial
theorem c_rfresh {W : World} {b : Nat} {c : RH} {m : Md} {n : ByteArray} :
    CSpec Try.prog W 71 [ptr b 0, .string n] [blk b 65 (rCells c m), RefR c m] (fun _ : Unit => .int .i64 (m.freshE n)) (fun _ => True) (fun _ F => blk b 65 (rCells c m) :: RefR c m :: F) := by
 refine CSpec.of_body Try.func71 rfl Try.ntmps71 rfl fun F => ?_
 show CJ _ _ _ _ _ _ (_ :: _ :: F)
 refine CJ_pure (RefR_wf foc1) fun hW => ?_
 have hO := hW.ok
 have hln := hW.big.len
 have hll := hW.len
 refine sR <| oA rfl rfl <| nT <| CJ_seq <| sR <| oM rfl rfl <| oP (P_lenS rfl Try.runUnderlying9) rfl <| oP (P_lss rfl rfl) rfl <| oM rfl rfl ?_
 first | (refine RJ_splitD 8 rfl (fun hg1B hg1 => ?_) (fun hg1B hg1 => ?_)) | (refine RJ_splitN 8 rfl (fun hg1B hg1 => ?_) (fun hg1B hg1 => ?_)) | (refine RJ_split 8 rfl (fun hg1B => ?_) (fun hg1B => ?_))
 ·
  refine RJ_gn (GY_no rfl rfl rfl hg1B) rfl rfl <| RJ_gn (GY_no rfl rfl rfl hg1B) rfl rfl <| RJ_gn (GY_no rfl rfl rfl hg1B) rfl rfl <| oP (P_pickT rfl hg1B rfl) rfl <| nT <| CJ_condT rfl rfl <| sR <| oA rfl rfl <| nT <| CJ_ret <| QJ_then_ret <| QJ_end (res1 Try.results71 rfl) <| CSpec.close () ?_ ?_ (t0_ (t0_ eR))
  · exact iv (by unfold Md.freshE; first | rw [if_pos (show n.size < 1 ∨ 40 < n.size by omega)] | rw [if_neg (show ¬ (n.size < 1 ∨ 40 < n.size) by omega), if_pos (Md.findI_some.1 (by assumption))] | rw [if_neg (show ¬ (n.size < 1 ∨ 40 < n.size) by omega), if_neg (fun h => absurd (Md.findI_some.2 h) (by assumption))])
  · trivial
 ·
  refine gP (GY_yes rfl rfl rfl hg1B) (P_move rfl) rfl <| gP (GY_yes rfl rfl rfl hg1B) (P_lenS rfl Try.runUnderlying9) rfl <| gP (GY_yes rfl rfl rfl hg1B) (P_gtr rfl rfl) rfl <| oP (P_pickF rfl hg1B rfl) rfl <| nT ?_
  first | (refine CJ_condD rfl (fun hg2 => ?_) (fun hg2 => ?_)) | (refine CJ_condN rfl (fun hg2 => ?_) (fun hg2 => ?_)) | (refine CJ_cond rfl (fun hg2 => ?_) (fun hg2 => ?_))
  ·
   refine sR <| oA rfl rfl <| nT <| CJ_ret <| QJ_then_ret <| QJ_end (res1 Try.results71 rfl) <| CSpec.close () ?_ ?_ (t0_ (t0_ eR))
   · exact iv (by unfold Md.freshE; first | rw [if_pos (show n.size < 1 ∨ 40 < n.size by omega)] | rw [if_neg (show ¬ (n.size < 1 ∨ 40 < n.size) by omega), if_pos (Md.findI_some.1 (by assumption))] | rw [if_neg (show ¬ (n.size < 1 ∨ 40 < n.size) by omega), if_neg (fun h => absurd (Md.findI_some.2 h) (by assumption))])
   · trivial
  ·
   refine kT <| CJ_seq <| sR <| oM rfl rfl <| oM rfl rfl <| oO <| O_call (c_rfind) rfl Try.call79 (Dels.cons del0 (Dels.cons del0 Dels.nil)) rfl fun _ hc1 => oP (P_geq rfl rfl) rfl <| nT ?_
   first | (refine CJ_condD rfl (fun hg3 => ?_) (fun hg3 => ?_)) | (refine CJ_condN rfl (fun hg3 => ?_) (fun hg3 => ?_)) | (refine CJ_cond rfl (fun hg3 => ?_) (fun hg3 => ?_))
   ·
    refine sR <| oA rfl rfl <| nT <| CJ_ret <| QJ_then_ret <| QJ_end (res1 Try.results71 rfl) <| CSpec.close () ?_ ?_ (t0_ (t0_ eR))
    · exact iv (by unfold Md.freshE; first | rw [if_pos (show n.size < 1 ∨ 40 < n.size by omega)] | rw [if_neg (show ¬ (n.size < 1 ∨ 40 < n.size) by omega), if_pos (Md.findI_some.1 (by assumption))] | rw [if_neg (show ¬ (n.size < 1 ∨ 40 < n.size) by omega), if_neg (fun h => absurd (Md.findI_some.2 h) (by assumption))])
    · trivial
   ·
    refine kT <| sR <| oA rfl rfl <| nT <| CJ_ret <| QJ_end (res1 Try.results71 rfl) <| CSpec.close () ?_ ?_ (t0_ (t0_ eR))
    · exact iv (by unfold Md.freshE; first | rw [if_pos (show n.size < 1 ∨ 40 < n.size by omega)] | rw [if_neg (show ¬ (n.size < 1 ∨ 40 < n.size) by omega), if_pos (Md.findI_some.1 (by assumption))] | rw [if_neg (show ¬ (n.size < 1 ∨ 40 < n.size) by omega), if_neg (fun h => absurd (Md.findI_some.2 h) (by assumption))])
    · trivial
theorem c_rNames {W : World} {b : Nat} {c : RH} {m : Md} :
    CSpec Try.prog W 72 [ptr b 0] [blk b 65 (rCells c m), RefR c m] (fun x : Sl3 => x.v) (fun _ => True) (fun x F => sl tyS x.v m.names :: blk b 65 (rCells c m) :: RefR c m :: F) := by
 refine CSpec.of_body Try.func72 rfl Try.ntmps72 rfl fun F => ?_
 show CJ _ _ _ _ _ _ (_ :: _ :: F)
 refine CJ_pure (RefR_wf foc1) fun hW => ?_
 have hO := hW.ok
 have hln := hW.big.len
 have hll := hW.len
 refine sR <| oA rfl rfl <| nT <| sR <| oA rfl rfl <| nT <| CJ_seq <| sR <| oA rfl rfl <| nT <| CJ_block <| CJ_ent (fun h hh => sl_nil (t := tyS) h hh) <| CJ_loopR (X := Nat × Sl3) [3, 4, 5, 6, 7, 8, 9, 10, 11, 12, 13, 14, 15, 16, 17, 18, 19, 20, 21, 22, 23, 24, 25, 26, 27, 28, 29, 30, 31, 32, 33] (fun ⟨i, rv⟩  => ([(4, .int .i64 (i : Nat)), (3, rv.v)] : Slots)) (fun ⟨i, rv⟩ R => sl tyS rv.v (m.nmT i) :: R) (fun ⟨i, rv⟩  => i ≤ m.dv.length) (fun ⟨i, rv⟩  => m.dv.length - i) ⟨0, ⟨none, 0, 0⟩⟩ ?_ ?_ (t0_ (t0_ (t0_ eR))) ?_
 · exact Nat.zero_le _
 · exact ⟨rfl, rfl, True.intro⟩
 ·
  rintro ⟨i, rv⟩ hi
  show CJ _ _ _ _ _ (([(4, .int .i64 (i : Nat)), (3, rv.v)] : Slots) ++ forget _ _) (sl tyS rv.v (m.nmT i) :: _)
  have hat := hW.at i
  have hnl := Md.nmT_len (m := m) i
  refine CJ_seq <| sR <| oM rfl rfl <| oM rfl rfl <| oP (P_nilCheck rfl) rfl <| oP (P_fieldAddr rfl ⟨_, _, _, Try.runUnderlying65, rfl, rfl, Try.sizeOf63, rfl⟩) rfl <| oV (V_load rfl foc1 rfl Try.isAgg63) rfl <| oV (V_len rfl foc2 rdDv Try.runUnderlying63) rfl <| oP (P_lss rfl rfl) rfl <| nT ?_
  first | (refine CJ_condD rfl (fun hg1 => ?_) (fun hg1 => ?_)) | (refine CJ_condN rfl (fun hg1 => ?_) (fun hg1 => ?_)) | (refine CJ_cond rfl (fun hg1 => ?_) (fun hg1 => ?_))
  ·
   refine kT <| CJ_seq <| CJ_block <| sR <| oM rfl rfl <| oP (P_nilCheck rfl) rfl <| oP (P_fieldAddr rfl ⟨_, _, _, Try.runUnderlying65, rfl, rfl, Try.sizeOf63, rfl⟩) rfl <| oV (V_load rfl foc1 rfl Try.isAgg63) rfl <| oM rfl rfl ?_
   first | (refine RJ_op rfl (OJ_V (V_index rfl rfl rfl (by omega) foc2 rdDv Try.runUnderlying63 Try.sizeOf115) rfl ?_)) | (refine RJ_op rfl (OJ_V (V_index rfl rfl (Int.toNat_of_nonneg (by omega)).symm (by omega) foc2 rdDv Try.runUnderlying63 Try.sizeOf115) rfl ?_))
   refine oP (P_fieldE rfl ⟨_, _, _, Try.runUnderlying115, rfl, rfl, Try.sizeOf4, rfl⟩) rfl <| oV (V_loadE rfl rfl (by omega) foc2 rdDv rfl rfl Try.isAgg4) rfl <| oP (P_not rfl) rfl <| nT ?_
   first | (refine CJ_condD rfl (fun hg2 => ?_) (fun hg2 => ?_)) | (refine CJ_condN rfl (fun hg2 => ?_) (fun hg2 => ?_)) | (refine CJ_cond rfl (fun hg2 => ?_) (fun hg2 => ?_))
   ·
    refine CJ_region <| oM rfl rfl <| oM rfl rfl <| oP (P_nilCheck rfl) rfl <| oP (P_fieldAddr rfl ⟨_, _, _, Try.runUnderlying65, rfl, rfl, Try.sizeOf63, rfl⟩) rfl <| oV (V_load rfl foc1 rfl Try.isAgg63) rfl <| oM rfl rfl ?_
    first | (refine RJ_op rfl (OJ_V (V_index rfl rfl rfl (by omega) foc2 rdDv Try.runUnderlying63 Try.sizeOf115) rfl ?_)) | (refine RJ_op rfl (OJ_V (V_index rfl rfl (Int.toNat_of_nonneg (by omega)).symm (by omega) foc2 rdDv Try.runUnderlying63 Try.sizeOf115) rfl ?_))
    refine oP (P_fieldE rfl ⟨_, _, _, Try.runUnderlying115, rfl, rfl, Try.sizeOf9, rfl⟩) rfl <| oV (V_loadE rfl rfl (by omega) foc2 rdDv rfl rfl Try.isAgg9) rfl <| oO <| O_buildSlice rfl (CRf0_bs_45_1_0 _) rfl fun b1 => oO <| O_append (t := tyS) (bytes := 16) rfl rfl del1 foc0 (Reads.lit (t := tyS) (ys := [(c.l.getD i tyDv.dflt).2.name]) rfl rfl (by decide) (by decide) rfl) Try.underlying45 ok_tyS (by simp only [List.length_append, List.length_cons, List.length_nil, maxLen] at *; omega) (by simp only [List.length_append, List.length_cons, List.length_nil, maxLen] at *; omega) rfl fun p2 c3 => oA rfl rfl <| RJ_nil <| QJ_block_normal <| QJ_then <| CJ_region <| oM rfl rfl <| oP (P_add rfl rfl (by omega)) rfl <| oA rfl rfl <| RJ_nil <| QJ_nextR ⟨i + 1, ⟨p2, _, c3⟩⟩ (by show m.dv.length - (i + 1) < m.dv.length - i; omega) ?_ (by repeat (first | exact Kp.base | exact Kp.self | refine Kp.cons rfl ?_ | refine Kp.forget rfl ?_)) ?_ (Ent.takeC del0 (congrArg (sl tyS _) (by rw [Md.nmT_step (by omega), ← hat, if_neg (by simp_all)])) (t1_ (t1_ (eD eR))))
    · omega
    · exact ⟨rfl, rfl, True.intro⟩
   ·
    refine CJ_skip <| QJ_block_normal <| QJ_then <| CJ_region <| oM rfl rfl <| oP (P_add rfl rfl (by omega)) rfl <| oA rfl rfl <| RJ_nil <| QJ_nextR ⟨i + 1, rv⟩ (by show m.dv.length - (i + 1) < m.dv.length - i; omega) ?_ (by repeat (first | exact Kp.base | exact Kp.self | refine Kp.cons rfl ?_ | refine Kp.forget rfl ?_)) ?_ (Ent.takeC del0 (congrArg (sl tyS _) (by rw [Md.nmT_step (by omega), ← hat, if_pos (by simp_all), List.append_nil])) (t0_ (t0_ eR)))
    · omega
    · exact ⟨rfl, rfl, True.intro⟩
  ·
   refine CJ_exit <| QJ_then_exit <| QJ_round_exit <| QJ_block_here <| QJ_then <| sR <| oM rfl rfl <| oA rfl rfl <| nT <| CJ_ret <| QJ_end (res1 Try.results72 rfl) ?_
   obtain rfl : i = m.dv.length := by omega
   refine CSpec.close rv ?_ ?_ (Ent.takeC del0 (congrArg (sl tyS _) (by unfold Md.nmT Md.names; rw [List.take_length])) (t0_ (t0_ eR)))
   · rfl
   · trivial
end Go.Proofs
set_option linter.unusedSimpArgs false
set_option maxRecDepth 20000
namespace Go.Proofs
open Go.VG
theorem CRf1_bs_63_1_0 (v0 : Bool) (v1 : Bool) (v2 : ByteArray) (v3 : (Option Addr)) (v4 : Nat) (v5 : Nat) (v6 : (Option Addr)) (v7 : Nat) (v8 : Nat) (v9 : (Option Addr)) (v10 : Nat) (v11 : Nat) (v12 : Bool) (v13 : Bool) (v14 : Bool) (v15 : (Option Addr)) (v16 : Nat) (v17 : Nat) : BuildsSlice Try.prog 63 1 [(0, .agg #[.bool v0, .bool v1, .string v2, .slice v3 v4 v5, .slice v6 v7 v8, .slice v9 v10 v11, .bool v12, .bool v13, .bool v14, .slice v15 v16 v17])] 115 [.bool v0, .bool v1, .string v2, .slice v3 v4 v5, .slice v6 v7 v8, .slice v9 v10 v11, .bool v12, .bool v13, .bool v14, .slice v15 v16 v17] := fun w => by kernel_rfl
theorem CRf1_bld_115_1_2_3 (v0 : Bool) (v1 : ByteArray) (v2 : (Option Addr)) (v3 : Nat) (v4 : Nat) : ∀ w, (Instr.build 115 (#[(1, .bool v0), (2, .string v1), (3, .slice v2 v3 v4)] : Array (Nat × Value))).run Try.prog w = .ok (.agg #[.bool false, .bool v0, .string v1, .slice v2 v3 v4, .slice none 0 0, .slice none 0 0, .bool false, .bool false, .bool false, .slice none 0 0]) w := fun w => by kernel_rfl
section
variable {m : Md} {d : Dv} {n : ByteArray} {z : Nat}
theorem addS_no (h : m.addE d.name ≠ 0) : m.addS d = m := if_neg h
theorem addS_ok (h : m.addE d.name = 0) : m.addS d = m.push d := if_pos h
theorem push_bas (hO : MdOk m) (hB : MdBig m) (hl : m.dv.length + 1 ≤ 10000) (hz : z ≤ 65536) (h : m.addE n = 0) : MdOk (m.push (bNew n z)) ∧ MdBig (m.push (bNew n z)) := by
  obtain ⟨_, hf, hn, _⟩ := cr_ok h
  exact ⟨hO.push (d := bNew n z) rfl hn hf rfl rfl rfl rfl rfl rfl (by simp; exact hz), hB.push (d := bNew n z) hl rfl⟩
theorem RowC_bas {v : Sl3} {R : List HP} : Ent (sl tyU v.v (List.replicate z 0) :: R) (RowC (⟨v, s3z, s3z, s3z⟩, bNew n z) :: R) := fun g hh => by
  obtain ⟨a1, a2, d1, e1, p1, q1⟩ := hh
  exact stars_star.2 ⟨a1, a2, d1, e1, p1, sl_nil (t := tyapi_Target) _ (sl_nil (t := tyapi_Target) _ (sl_nil (t := tyWt) _ q1))⟩
end
theorem c_radd {W : World} {b : Nat} {c : RH} {m : Md} {h : RD} {d : Dv} (hok : m.addE d.name = 0 → MdOk (m.push d) ∧ MdBig (m.push d)) :
    CSpec Try.prog W 53 [ptr b 0, .agg #[.bool d.gone, .bool d.isB, .string d.name, h.ba.v, h.lv.v, h.nw.v, .bool d.hl, .bool d.hn, .bool d.susp, h.wt.v]] [RowC (h, d), blk b 65 (rCells c m), RefR c m] (fun _ : RH => .int .i64 (m.addE d.name)) (fun _ => True) (fun c2 F => blk b 65 (rCells c2 (m.addS d)) :: RefR c2 (m.addS d) :: F) := by
 refine CSpec.of_body Try.func53 rfl Try.ntmps53 rfl fun F => ?_
 show CJ _ _ _ _ _ _ (_ :: _ :: _ :: F)
 refine CJ_pure (RefR_wf foc2) fun hW => ?_
 have hO := hW.ok
 have hln := hW.big.len
 have hll := hW.len
 have hns := Md.names_len (m := m)
 refine sR <| oO <| O_box rfl rfl rfl fun b1 => oA rfl rfl <| nT <| CJ_seq <| sR <| oM rfl rfl <| oP (P_fieldAddr rfl ⟨_, _, _, Try.runUnderlying115, rfl, rfl, Try.sizeOf9, rfl⟩) rfl <| oV (V_load rfl foc0 rfl Try.isAgg9) rfl <| oO <| O_call (c_rfresh) rfl Try.call71 (Dels.cons del2 (Dels.cons del2 Dels.nil)) rfl fun _ hc2 => oA rfl rfl <| nT <| sR <| oM rfl rfl <| oP (P_neq rfl rfl) rfl <| nT ?_
 first | (refine CJ_condD rfl (fun hg1 => ?_) (fun hg1 => ?_)) | (refine CJ_condN rfl (fun hg1 => ?_) (fun hg1 => ?_)) | (refine CJ_cond rfl (fun hg1 => ?_) (fun hg1 => ?_))
 ·
  refine sR <| oM rfl rfl <| oA rfl rfl <| nT <| CJ_ret <| QJ_then_ret <| QJ_end (res1 Try.results53 rfl) ?_
  have e1 : m.addE d.name = m.freshE d.name := by unfold Md.addE; first | rw [if_pos (by assumption)] | rw [if_neg (by assumption), if_pos (by omega)]
  have e2 := addS_no (m := m) (d := d) (by rw [e1]; assumption)
  rw [e2]
  refine CSpec.close c ?_ ?_ (t0_ (t0_ (eD (eD eR))))
  · exact iv e1.symm
  · trivial
 ·
  refine kT <| CJ_seq <| sR <| oM rfl rfl <| oO <| O_call (c_rNames) rfl Try.call72 (Dels.cons del0 (Dels.cons del0 Dels.nil)) rfl fun _ hc4 => oV (V_len rfl foc0 (Reads.sl _ _ _) Try.runUnderlying45) rfl <| oP (P_geq rfl rfl) rfl <| nT ?_
  first | (refine CJ_condD rfl (fun hg2 => ?_) (fun hg2 => ?_)) | (refine CJ_condN rfl (fun hg2 => ?_) (fun hg2 => ?_)) | (refine CJ_cond rfl (fun hg2 => ?_) (fun hg2 => ?_))
  ·
   refine sR <| oA rfl rfl <| nT <| CJ_ret <| QJ_then_ret <| QJ_end (res1 Try.results53 rfl) ?_
   have e1 : m.addE d.name = 4 := by unfold Md.addE; first | rw [if_pos (by assumption)] | rw [if_neg (by assumption), if_pos (by omega)]
   have e2 := addS_no (m := m) (d := d) (by rw [e1]; decide)
   rw [e2]
   refine CSpec.close c ?_ ?_ (t1_ (t1_ (eD (eD (eD eR)))))
   · exact iv e1.symm
   · trivial
  ·
   refine kT <| CJ_seq <| CJ_ent (Ent.trans (t2_ eR) RefR_flat) ?_
   have e0 : m.addE d.name = 0 := by unfold Md.addE; rw [if_neg (by assumption), if_neg (by omega)]
   obtain ⟨hok1, hok2⟩ := hok e0
   refine AJ_startH 1152 (by kernel_rfl) rfl <| aN 0 1 rfl rfl (P_move rfl) rfl <| aN 1 3 rfl rfl (P_move rfl) rfl <| aN 2 7 rfl rfl (P_nilCheck rfl) rfl <| aN 3 15 rfl rfl (P_fieldAddr rfl ⟨_, _, _, Try.runUnderlying65, rfl, rfl, Try.sizeOf63, rfl⟩) rfl <| aV 4 31 rfl rfl (GY_none rfl) (t0_ (t0_ (t0_ (t0_ (t0_ (t0_ (t0_ eR))))))) (V_load rfl foc4 rfl Try.isAgg63) rfl <| aV 5 63 rfl rfl (GY_none rfl) (t0_ (t0_ (t0_ (t0_ (t0_ (t0_ (t0_ eR))))))) (V_loadN rfl foc5 Try.isAgg115 Try.sizeOf115 rfl rfl) rfl <| AJ_op 6 127 rfl (by kernel_rfl) rfl (GY_none rfl) <| O_buildSlice rfl (CRf1_bs_63_1_0 _ _ _ _ _ _ _ _ _ _ _ _ _ _ _ _ _ _) rfl fun b5 => ⟨fun _ => (t1_ (t1_ (t1_ (t1_ (t1_ (t1_ (t1_ (eD eR)))))))), ?_⟩
   refine AJ_op 7 255 rfl (by kernel_rfl) rfl (GY_none rfl) <| O_append (t := tyDv) (bytes := 128) rfl rfl del1 foc0 (Reads.lit (t := tyDv) (ys := [(h, d)]) rfl rfl (by decide) (by decide) rfl) Try.underlying63 ok_tyDv (by simp only [List.length_append, List.length_map, List.length_cons, List.length_nil, maxLen] at *; omega) (by simp only [List.length_append, List.length_map, List.length_cons, List.length_nil, maxLen] at *; omega) rfl fun p6 c7 => ⟨fun h => absurd h (by decide), ?_⟩
   refine aN 8 511 rfl rfl (P_nilCheck rfl) rfl <| aN 9 1023 rfl rfl (P_fieldAddr rfl ⟨_, _, _, Try.runUnderlying65, rfl, rfl, Try.sizeOf63, rfl⟩) rfl <| AJ_op 10 2047 rfl (by kernel_rfl) rfl (GY_none rfl) <| O_store rfl rfl foc5 rfl rfl Try.sizeOf63 <| ⟨fun h => absurd h (by decide), ?_⟩
   refine aD <| sR <| oA rfl rfl <| nT <| CJ_ret <| QJ_end (res1 Try.results53 rfl) ?_
   rw [addS_ok e0]
   refine CSpec.close { c with dv := ⟨p6, _, c7⟩, l := c.l ++ [(h, d)] } ?_ ?_ (Ent.trans (Ent.trans (t7_ (t3_ (t0_ (t1_ eR)))) (RefR_push (dv := ⟨p6, _, c7⟩) hW hok1 hok2)) (t3_ (t0_ (eD (eD (eD eR))))))
   · exact iv e0.symm
   · trivial
theorem c_rBase {W : World} {b z : Nat} {c : RH} {m : Md} {n : ByteArray} (hlen : m.dv.length + 1 ≤ 10000) (hz : z ≤ 65536) :
    CSpec Try.prog W 24 [ptr b 0, .string n, .int .i64 (z : Int)] [blk b 65 (rCells c m), RefR c m] (fun _ : RH => .int .i64 (m.addE n)) (fun _ => True) (fun c2 F => blk b 65 (rCells c2 (m.baS n z)) :: RefR c2 (m.baS n z) :: F) := by
 refine CSpec.of_body Try.func24 rfl Try.ntmps24 rfl fun F => ?_
 show CJ _ _ _ _ _ _ (_ :: _ :: F)
 refine CJ_pure (RefR_wf foc1) fun hW => ?_
 have hO := hW.ok
 have hln := hW.big.len
 have hll := hW.len
 have hns := Md.names_len (m := m)
 refine sR <| oA rfl rfl <| nT <| sR <| oM rfl rfl <| oM rfl rfl <| oM rfl rfl <| oO <| O_make (t := tyU) (m := z) (x0 := (0 : UInt64)) (z := _) (bytes := _) rfl rfl rfl rfl Try.underlying50 ⟨Try.t35, by kernel_rfl, rfl, rfl, rfl⟩ rfl (by omega) (by decide) rfl fun b1 => oP (P_build rfl (CRf1_bld_115_1_2_3 _ _ _ _ _)) rfl <| RJ_ent (Ent.trans (t0_ eR) (RowC_bas (n := n) (z := z) (v := ⟨some ⟨b1, 0, none⟩, z, z⟩))) <| oO <| O_call ((c_radd (h := ⟨⟨some ⟨b1, 0, none⟩, z, z⟩, s3z, s3z, s3z⟩) (d := bNew n z) (push_bas hO hW.big hlen hz))) rfl Try.call53 (Dels.cons del0 (Dels.cons del0 (Dels.cons del0 Dels.nil))) rfl fun c9 hc2 => oA rfl rfl <| nT <| CJ_ret <| QJ_end (res1 Try.results24 rfl) <| CSpec.close c9 ?_ ?_ (t0_ (t0_ eR))
 · rfl
 · trivial
end Go.Proofs
set_option linter.unusedSimpArgs false
set_option maxRecDepth 20000
namespace Go.Proofs
open Go.VG
theorem CBeg0_bld_143_0_1_2_3 (v0 : (Option Addr)) (v1 : Int) (v2 : Int) (v3 : Int) : ∀ w, (Instr.build 143 (#[(0, .pointer v0), (1, .int .i64 v1), (2, .int .i64 v2), (3, .int .i64 v3)] : Array (Nat × Value))).run Try.prog w = .ok (.agg #[.pointer v0, .int .i64 v1, .int .i64 v2, .int .i64 v3]) w := fun w => by kernel_rfl
theorem CBeg0_bs_66_1_0 (v0 : TypeId) (v1 : Value) : BuildsSlice Try.prog 66 1 [(0, .iface v0 v1)] 70 [.iface v0 v1] := fun w => by kernel_rfl
abbrev SpC (a z0 z1 : Nat) (x : Nat × Nat) : HP := blkR x.1 143 [ptr a 0, .int .i64 (x.2 : Int), .int .i64 0, .int .i64 ((if x.2 = 0 then z0 else z1 : Nat) : Int)]
abbrev spI (x : Nat × Nat) : IfH := ⟨141, ptr x.1 0⟩
theorem two_of {ps : List (Nat × Nat)} (hl : ps.length = 2) (h : ∀ j, j < 2 → (ps.getD j (0, 0)).2 = j) : ∃ p q, ps = [(p, 0), (q, 1)] := by
  match ps, hl with
  | [(p, x), (q, y)], _ =>
    have h0 : x = 0 := h 0 (by decide)
    have h1 : y = 1 := h 1 (by decide)
    subst h0; subst h1; exact ⟨p, q, rfl⟩
theorem own_two {f : Nat × Nat → HP} {x y : Nat × Nat} {R : List HP} : Ent (Go.VG.Own f [x, y] :: R) (f x :: f y :: R) := fun _ hh => stars_star.1 hh
theorem own_psh {f : Nat × Nat → HP} {x : Nat × Nat} {l : List (Nat × Nat)} {R : List HP} : Ent (f x :: Go.VG.Own f l :: R) (Go.VG.Own f (l ++ [x]) :: R) := Own_push f x
theorem ps_step {ps : List (Nat × Nat)} {i p : Nat} (hl : ps.length = i) (h : ∀ j, j < i → (ps.getD j (0, 0)).2 = j) : ∀ j, j < i + 1 → ((ps ++ [(p, i)]).getD j (0, 0)).2 = j := fun j hj => by
  rcases Nat.lt_or_ge j i with h1 | h1
  · have := h j h1
    simpa [List.getD, List.getElem?_append_left (show j < ps.length by omega)] using this
  · obtain rfl : j = i := by omega
    subst hl; simp [List.getD]
theorem c_Span {W : World} {a d z : Nat} {s : ArrS} (hz : 1 ≤ z ∧ z ≤ 65536) (hs : sizeI s (d : Int) = (z : Int)) (_hW : s.writes ≤ 1000000000) :
    CSpec Try.prog W 51 [ptr a 0, .int .i64 (d : Int), .int .i64 0, .int .i64 (z : Int)] [Arr a s] (fun p : Nat => .tuple #[.iface 141 (ptr p 0), .int .i64 0]) (fun _ => True) (fun p F => blkR p 143 [ptr a 0, .int .i64 (d : Int), .int .i64 0, .int .i64 (z : Int)] :: Arr a s :: F) := by
 refine CSpec.of_body Try.func51 rfl Try.ntmps51 rfl fun F => ?_
 show CJ _ _ _ _ _ _ (_ :: F)
 refine sR <| oA rfl rfl <| oA rfl rfl <| nT <| CJ_seq <| sR <| oM rfl rfl <| oP (P_lss rfl rfl) rfl <| oM rfl rfl ?_
 first | (refine RJ_splitD 12 rfl (fun hg1B hg1 => ?_) (fun hg1B hg1 => ?_)) | (refine RJ_splitN 12 rfl (fun hg1B hg1 => ?_) (fun hg1B hg1 => ?_)) | (refine RJ_split 12 rfl (fun hg1B => ?_) (fun hg1B => ?_))
 ·
  refine RJ_gn (GY_no rfl rfl rfl hg1B) rfl rfl <| RJ_gn (GY_no rfl rfl rfl hg1B) rfl rfl <| RJ_gn (GY_no rfl rfl rfl hg1B) rfl rfl <| RJ_gn (GY_no rfl rfl rfl hg1B) rfl rfl <| RJ_gn (GY_no rfl rfl rfl hg1B) rfl rfl <| RJ_gn (GY_no rfl rfl rfl hg1B) rfl rfl <| RJ_gn (GY_no rfl rfl rfl hg1B) rfl rfl <| oP (P_pickT rfl hg1B rfl) rfl <| nT <| CJ_condT rfl rfl <| sR <| oA rfl rfl <| oA rfl rfl <| nT <| CJ_ret <| QJ_then_ret ?_
  exfalso; simp_all; try omega
 ·
  refine gP (GY_yes rfl rfl rfl hg1B) (P_move rfl) rfl <| gP (GY_yes rfl rfl rfl hg1B) (P_move rfl) rfl <| RJ_gy (GY_yes rfl rfl rfl hg1B) <| O_call (c_SizeD) rfl Try.call52 (Dels.cons del0 Dels.nil) rfl fun _ hc1 => gP (GY_yes rfl rfl rfl hg1B) (P_move rfl) rfl <| gP (GY_yes rfl rfl rfl hg1B) (P_move rfl) rfl <| RJ_gy (GY_yes rfl rfl rfl hg1B) <| O_call (L_block_inside (inside_t (by omega) (by omega))) rfl Try.call70 Dels.nil rfl fun _ hc2 => gP (GY_yes rfl rfl rfl hg1B) (P_not rfl) rfl <| oP (P_pickF rfl hg1B rfl) rfl <| nT ?_
  first | (refine CJ_condF rfl (decide_eq_false (by simp)) ?_) | (refine CJ_condF rfl (by simp) ?_)
  refine kT <| sR <| oM rfl rfl <| oM rfl rfl <| oM rfl rfl <| oM rfl rfl <| oP (P_build rfl (CBeg0_bld_143_0_1_2_3 _ _ _ _)) rfl <| oO <| O_box rfl rfl rfl fun b3 => oP (P_makeIface rfl Try.runUnderlying141 (by intro ms h; cases h)) rfl <| oA rfl rfl <| oA rfl rfl <| nT <| CJ_ret <| QJ_share del0 <| QJ_end (res2 Try.results51 rfl rfl) <| CSpec.close b3 ?_ ?_ (t0_ (t0_ eR))
  · rfl
  · trivial
theorem c_Spans2 {W : World} {a z0 z1 : Nat} {s : ArrS} (h0 : 1 ≤ z0 ∧ z0 ≤ 65536) (h1 : 1 ≤ z1 ∧ z1 ≤ 65536) (hl : s.drv.length = 2) (hs0 : sizeI s 0 = (z0 : Int)) (hs1 : sizeI s 1 = (z1 : Int)) (hW : s.writes ≤ 1000000000) :
    CSpec Try.prog W 22 [ptr a 0] [Arr a s] (fun x : Sl3 × Nat × Nat => x.1.v) (fun _ => True) (fun x F => sl tyDev x.1.v [spI (x.2.1, 0), spI (x.2.2, 1)] :: SpC a z0 z1 (x.2.1, 0) :: SpC a z0 z1 (x.2.2, 1) :: Arr a s :: F) := by
 refine CSpec.of_body Try.func22 rfl Try.ntmps22 rfl fun F => ?_
 show CJ _ _ _ _ _ _ (_ :: F)
 refine sR <| oA rfl rfl <| nT <| sR <| oA rfl rfl <| nT <| CJ_seq <| sR <| oA rfl rfl <| nT <| CJ_block <| CJ_ent (fun h hh => sl_nil (t := tyDev) h hh) <| CJ_ent (Own_nil (SpC a z0 z1)) <| CJ_loopR (X := Nat × Sl3 × List (Nat × Nat)) [2, 3, 4, 5, 6, 7, 8, 9, 10, 11, 12, 13, 14, 15, 16, 17, 18, 19, 20, 21, 22, 23, 24, 25, 26, 27, 28, 29, 30, 31] (fun ⟨i, rv, ps⟩  => ([(4, .int .i64 (i : Nat)), (3, rv.v)] : Slots)) (fun ⟨i, rv, ps⟩ R => sl tyDev rv.v (ps.map spI) :: Go.VG.Own (SpC a z0 z1) ps :: R) (fun ⟨i, rv, ps⟩  => i ≤ 2 ∧ ps.length = i ∧ ∀ j, j < i → (ps.getD j (0, 0)).2 = j) (fun ⟨i, rv, ps⟩  => 2 - i) ⟨0, ⟨none, 0, 0⟩, []⟩ ?_ ?_ (t1_ (t0_ (t0_ eR))) ?_
 · exact ⟨by omega, rfl, fun j h => by omega⟩
 · exact ⟨rfl, rfl, True.intro⟩
 ·
  rintro ⟨i, rv, ps⟩ ⟨hi, hpl, hps⟩
  show CJ _ _ _ _ _ (([(4, .int .i64 (i : Nat)), (3, rv.v)] : Slots) ++ forget _ _) (sl tyDev rv.v (ps.map spI) :: Go.VG.Own (SpC a z0 z1) ps :: _)
  have hpm : (ps.map spI).length = ps.length := by simp
  refine CJ_seq <| sR <| oM rfl rfl <| oM rfl rfl <| oO <| O_call (c_CountD) rfl Try.call50 (Dels.cons del2 Dels.nil) rfl fun _ hc1 => oP (P_lss rfl rfl) rfl <| nT ?_
  first | (refine CJ_condD rfl (fun hg1 => ?_) (fun hg1 => ?_)) | (refine CJ_condN rfl (fun hg1 => ?_) (fun hg1 => ?_)) | (refine CJ_cond rfl (fun hg1 => ?_) (fun hg1 => ?_))
  ·
   refine kT <| CJ_seq <| CJ_block <| CJ_seq ?_
   have hsz : sizeI s ((i : Nat) : Int) = ((if i = 0 then z0 else z1 : Nat) : Int) := by
     rcases (by omega : i = 0 ∨ i = 1) with rfl | rfl
     · rw [if_pos rfl]; exact hs0
     · rw [if_neg (by decide)]; exact hs1
   refine CJ_region <| oM rfl rfl <| oM rfl rfl <| oM rfl rfl <| oM rfl rfl <| oO <| O_call (c_SizeD) rfl Try.call52 (Dels.cons del0 Dels.nil) rfl fun _ hc2 => ?_
   rw [hsz]
   refine oO <| O_call ((c_Span (d := i) (z := if i = 0 then z0 else z1) (by split <;> assumption) hsz hW)) rfl Try.call51 (Dels.cons del0 Dels.nil) rfl fun p9 hc4 => oM rfl rfl <| oP (P_extract rfl rfl) rfl <| oP (P_extract rfl rfl) rfl <| oA rfl rfl <| oA rfl rfl <| nT <| CJ_seq <| sR <| oM rfl rfl <| oP (P_neq rfl rfl) rfl <| oM rfl rfl ?_
   first | (refine RJ_splitD 24 rfl (fun hg2B hg2 => ?_) (fun hg2B hg2 => ?_)) | (refine RJ_splitN 24 rfl (fun hg2B hg2 => ?_) (fun hg2B hg2 => ?_)) | (refine RJ_split 24 rfl (fun hg2B => ?_) (fun hg2B => ?_))
   ·
    refine RJ_gn (GY_no rfl rfl rfl hg2B) rfl rfl <| RJ_gn (GY_no rfl rfl rfl hg2B) rfl rfl <| oP (P_pickT rfl hg2B rfl) rfl <| nT <| CJ_condT rfl rfl <| sR <| oA rfl rfl <| nT <| CJ_ret <| QJ_then_ret <| QJ_block_ret <| QJ_then_ret <| QJ_round_ret <| QJ_block_ret <| QJ_then_ret ?_
    exfalso; simp_all
   ·
    refine gP (GY_yes rfl rfl rfl hg2B) (P_move rfl) rfl <| gP (GY_yes rfl rfl rfl hg2B) (P_eqlIfN rfl rfl Try.underlying70) rfl <| oP (P_pickF rfl hg2B rfl) rfl <| nT <| CJ_condF rfl rfl <| kT <| CJ_region <| oM rfl rfl <| oM rfl rfl <| oO <| O_buildSlice rfl (CBeg0_bs_66_1_0 _ _) rfl fun b5 => oO <| O_append (t := tyDev) (bytes := 16) rfl rfl del3 foc0 (Reads.lit (t := tyDev) (ys := [spI (p9, i)]) rfl rfl (by decide) (by decide) rfl) Try.underlying66 ok_tyDev (by simp only [List.length_append, List.length_cons, List.length_nil, maxLen] at *; omega) (by simp only [List.length_append, List.length_cons, List.length_nil, maxLen] at *; omega) rfl fun p6 c7 => oA rfl rfl <| RJ_nil <| QJ_block_normal <| QJ_then <| CJ_region <| oM rfl rfl <| oP (P_add rfl rfl (by omega)) rfl <| oA rfl rfl <| RJ_nil <| QJ_nextR ⟨i + 1, ⟨p6, _, c7⟩, ps ++ [(p9, i)]⟩ (by show 2 - (i + 1) < 2 - i; omega) ?_ (by repeat (first | exact Kp.base | exact Kp.self | refine Kp.cons rfl ?_ | refine Kp.forget rfl ?_)) ?_ (Ent.trans (Ent.trans (t2_ (t3_ eR)) (own_psh (f := SpC a z0 z1) (x := (p9, i)))) (Ent.takeC del1 (congrArg (sl tyDev _) (by rw [List.map_append]; rfl)) (t0_ (t1_ (eD eR)))))
    · exact ⟨by omega, by simp [hpl], ps_step hpl hps⟩
    · exact ⟨rfl, rfl, True.intro⟩
  ·
   refine CJ_exit <| QJ_then_exit <| QJ_round_exit <| QJ_block_here <| QJ_then <| sR <| oM rfl rfl <| oA rfl rfl <| nT <| CJ_ret ?_
   obtain rfl : i = 2 := by omega
   obtain ⟨p7, q7, rfl⟩ := two_of hpl hps
   refine QJ_end (res1 Try.results22 rfl) <| CSpec.close ⟨rv, p7, q7⟩ ?_ ?_ (Ent.trans (Ent.trans (t2_ eR) own_two) (t3_ (t0_ (t0_ (t0_ eR)))))
   · rfl
   · trivial
end Go.Proofs
set_option linter.unusedSimpArgs false
set_option maxRecDepth 20000
namespace Go.Proofs
open Go.VG
theorem CBeg1_bs_61_2_0_1 (v0 : (Option Addr)) (v1 : Nat) (v2 : Nat) (v3 : (Option Addr)) (v4 : Nat) (v5 : Nat) : BuildsSlice Try.prog 61 2 [(0, .slice v0 v1 v2), (1, .slice v3 v4 v5)] 50 [.slice v0 v1 v2, .slice v3 v4 v5] := fun w => by kernel_rfl
theorem CBeg1_bld_65_ : ∀ w, (Instr.build 65 (#[] : Array (Nat × Value))).run Try.prog w = .ok (.agg #[.slice none 0 0, .int .i64 0, .slice none 0 0]) w := fun w => by kernel_rfl
abbrev nd0 : ByteArray := ByteArray.mk #[100, 105, 115, 107, 48]
abbrev nd1 : ByteArray := ByteArray.mk #[100, 105, 115, 107, 49]
abbrev Mb1 : Md := Md.z.push (bNew nd0 12)
abbrev Mb2 : Md := Mb1.push (bNew nd1 8)
theorem addE0 : Md.z.addE nd0 = 0 := by rfl
theorem addE1 : Mb1.addE nd1 = 0 := by kernel_rfl
abbrev Sb : ArrS := mkS [List.replicate 12 0, List.replicate 8 0]
theorem Mb2_bd : MdBd Mb2 := ⟨Nat.le_refl _, Nat.le_refl _, Nat.zero_le _, Nat.zero_le _, by decide, by decide⟩
theorem rows2 {v0 v1 : Sl3} {a b : List UInt64} : RowsR (star [sl tyU v0.v a, sl tyU v1.v b]) [a, b] [v0, v1] := ⟨rfl, fun i hi => by
  match i, hi with
  | 0, _ => exact Reads_ent (R := [sl tyU v1.v b]) (fun _ hh => stars_star.1 hh)
  | 1, _ => exact Reads_ent (R := [sl tyU v0.v a]) (Ent.trans (fun _ hh => stars_star.1 hh) (Ent.take del1 Ent.refl))⟩
theorem c_Loaded2 {W : World} {vl v0 v1 : Sl3} : CSpec Try.prog W 20 [vl.v] [sl tyRow vl.v [v0, v1], star [sl tyU v0.v (List.replicate 12 0), sl tyU v1.v (List.replicate 8 0)]] (fun x : Nat => ptr x 0) (fun _ => True) (fun x F => sl tyRow vl.v [v0, v1] :: star [sl tyU v0.v (List.replicate 12 0), sl tyU v1.v (List.replicate 8 0)] :: Arr x Sb :: F) :=
  L_volumegroupmake_Loaded (Reads.sl _ _ _) rows2 (loaded_eq (by decide) (by intro im h; simp only [List.mem_cons, List.not_mem_nil, or_false] at h; rcases h with rfl | rfl <;> simp))
theorem RefR_z {R : List HP} : Ent R (RefR ⟨s3z, s3z, []⟩ Md.z :: R) := fun g hh => RefR_close (c := ⟨s3z, s3z, []⟩) ⟨rfl, Md.z_ok, Md.z_big⟩ g (sl_nil (t := tyDv) _ (sl_nil (t := tyapi_Answer) _ (Own_nil RowC _ hh)))
theorem RefP_close {b : Nat} {m : Md} {c : RH} {R : List HP} (h : MdBd m) : Ent (blk b 65 (rCells c m) :: RefR c m :: R) (RefP b m :: R) :=
  fun _ hh => stars_ex.2 ⟨c, stars_star.2 (stars_pur.2 ⟨h, hh⟩)⟩
theorem c_begun {W : World}  :
    CSpec Try.prog W 7 [] [] (fun x : Nat × Nat => .tuple #[ptr x.1 0, ptr x.2 0]) (fun _ => True) (fun x F => MapP x.1 Mb2 :: RefP x.2 Mb2 :: F) := by
 refine CSpec.of_body Try.func7 rfl Try.ntmps7 rfl fun F => ?_
 show CJ _ _ _ _ _ _ (F)
 refine sR <| oA rfl rfl <| oA rfl rfl <| nT <| CJ_seq <| AJ_startH 15 (by kernel_rfl) rfl <| AJ_two 0 1 1 2 rfl rfl (by kernel_rfl) rfl rfl (GY_none rfl) (GY_none rfl) (O_make (t := tyU) (m := 12) (x0 := (0 : UInt64)) (z := _) (bytes := _) rfl rfl rfl rfl Try.underlying50 ⟨Try.t35, by kernel_rfl, rfl, rfl, rfl⟩ rfl (by decide) (by decide) rfl (fun b1 => ?_)) (O_make (t := tyU) (m := 8) (x0 := (0 : UInt64)) (z := _) (bytes := _) rfl rfl rfl rfl Try.underlying50 ⟨Try.t35, by kernel_rfl, rfl, rfl, rfl⟩ rfl (by decide) (by decide) rfl (fun b2 => ?_))
 ·
  refine ⟨fun h => absurd h (by decide), ?_⟩
  refine AJ_op 1 3 rfl (by kernel_rfl) rfl (GY_none rfl) <| O_make (t := tyU) (m := 8) (x0 := (0 : UInt64)) (z := _) (bytes := _) rfl rfl rfl rfl Try.underlying50 ⟨Try.t35, by kernel_rfl, rfl, rfl, rfl⟩ rfl (by decide) (by decide) rfl fun b3 => ⟨fun h => absurd h (by decide), ?_⟩
  refine AJ_op 2 7 rfl (by kernel_rfl) rfl (GY_none rfl) <| O_buildSlice rfl (CBeg1_bs_61_2_0_1 _ _ _ _ _ _) rfl fun b4 => ⟨fun h => absurd h (by decide), ?_⟩
  refine AJ_ent (Ent.trans (t0_ eR) (sl_of_lit (t := tyRow) (m := 2) [⟨some ⟨b1, 0, none⟩, 12, 12⟩, ⟨some ⟨b3, 0, none⟩, 8, 8⟩] rfl rfl rfl (by decide))) <| AJ_ent (Ent.trans (t2_ (t1_ eR)) (fun h hh => (stars_star.2 hh : stars (star [sl tyU (Sl3.v ⟨some ⟨b1, 0, none⟩, 12, 12⟩) (List.replicate 12 0), sl tyU (Sl3.v ⟨some ⟨b3, 0, none⟩, 8, 8⟩) (List.replicate 8 0)] :: _) h))) <| AJ_op 3 15 rfl (by kernel_rfl) rfl (GY_none rfl) <| O_call ((c_Loaded2 (vl := ⟨some ⟨b4, 0, none⟩, 2, 2⟩) (v0 := ⟨some ⟨b1, 0, none⟩, 12, 12⟩) (v1 := ⟨some ⟨b3, 0, none⟩, 8, 8⟩))) rfl Try.call20 (Dels.cons del1 (Dels.cons del0 Dels.nil)) rfl fun a hc6 => ⟨fun h => absurd h (by decide), ?_⟩
  refine aN 4 31 rfl rfl (P_assign rfl) rfl <| aD <| sR <| oO <| O_call (c_NewM) rfl Try.call21 Dels.nil rfl fun nw hc10 => oP (P_build rfl (CBeg1_bld_65_)) rfl <| oO <| O_box rfl rfl rfl fun b11 => oA rfl rfl <| oA rfl rfl <| nT <| CJ_seq <| sR <| oM rfl rfl <| oP (P_eqlPN rfl rfl Try.underlying59) rfl <| oM rfl rfl <| gP (GY_yes rfl rfl rfl rfl) (P_move rfl) rfl <| gP (GY_yes rfl rfl rfl rfl) (P_eqlPN rfl rfl Try.underlying25) rfl <| oP (P_pickF rfl rfl rfl) rfl <| nT <| CJ_condF rfl rfl <| kT <| sR <| oM rfl rfl <| oO <| O_call ((c_Spans2 (z0 := 12) (z1 := 8) (by decide) (by decide) (by simp) (by rfl) (by rfl) (by decide))) rfl Try.call22 (Dels.cons del6 Dels.nil) rfl fun sp hc15 => oA rfl rfl <| nT <| CJ_seq <| CJ_seq <| CJ_ent (Ent.trans (t6_ (t6_ (t3_ eR))) (MapR_z good_mkS rfl)) <| CJ_ent RefR_z <| CJ_ent (t0_ (t0_ (t0_ (Ent.takeC del0 (show _ = blkR sp.2.1 143 [ptr a 0, .int .i64 ((0 : Nat) : Int), .int .i64 0, .int .i64 ((12 : Nat) : Int)] from rfl) (Ent.takeC del0 (show _ = blkR sp.2.2 143 [ptr a 0, .int .i64 ((1 : Nat) : Int), .int .i64 0, .int .i64 ((8 : Nat) : Int)] from rfl) (Ent.takeC del0 (show _ = blk b11 65 (rCells ⟨s3z, s3z, []⟩ Md.z) from rfl) (Ent.takeC del0 (show _ = blk nw.1 79 (mCells ⟨nw.2.1, nw.2.2, a, s3z, s3z, [], [], [], Sb⟩ Md.z) from rfl) (t0_ (t0_ eR))))))))) <| CJ_region <| oM rfl rfl <| oV (V_len rfl foc2 (Reads.sl _ _ _) Try.runUnderlying66) rfl ?_
  refine oP (P_neq rfl rfl) rfl <| oM rfl rfl ?_
  first | (refine RJ_splitD 24 rfl (fun hg1B hg1 => ?_) (fun hg1B hg1 => ?_)) | (refine RJ_splitN 24 rfl (fun hg1B hg1 => ?_) (fun hg1B hg1 => ?_)) | (refine RJ_split 24 rfl (fun hg1B => ?_) (fun hg1B => ?_))
  ·
   refine RJ_gn (GY_no rfl rfl rfl hg1B) rfl rfl <| RJ_gn (GY_no rfl rfl rfl hg1B) rfl rfl <| RJ_gn (GY_no rfl rfl rfl hg1B) rfl rfl <| RJ_gn (GY_no rfl rfl rfl hg1B) rfl rfl <| RJ_gn (GY_no rfl rfl rfl hg1B) rfl rfl <| RJ_gn (GY_no rfl rfl rfl hg1B) rfl rfl <| oP (P_pickT rfl hg1B rfl) rfl <| oM rfl rfl <| RJ_gn (GY_no rfl rfl rfl rfl) rfl rfl <| RJ_gn (GY_no rfl rfl rfl rfl) rfl rfl <| RJ_gn (GY_no rfl rfl rfl rfl) rfl rfl <| RJ_gn (GY_no rfl rfl rfl rfl) rfl rfl <| RJ_gn (GY_no rfl rfl rfl rfl) rfl rfl <| RJ_gn (GY_no rfl rfl rfl rfl) rfl rfl <| oP (P_pickT rfl rfl rfl) rfl <| oM rfl rfl <| RJ_gn (GY_no rfl rfl rfl rfl) rfl rfl <| RJ_gn (GY_no rfl rfl rfl rfl) rfl rfl <| RJ_gn (GY_no rfl rfl rfl rfl) rfl rfl <| oP (P_pickT rfl rfl rfl) rfl <| oM rfl rfl <| RJ_gn (GY_no rfl rfl rfl rfl) rfl rfl <| RJ_gn (GY_no rfl rfl rfl rfl) rfl rfl <| RJ_gn (GY_no rfl rfl rfl rfl) rfl rfl <| oP (P_pickT rfl rfl rfl) rfl <| nT <| CJ_condT rfl rfl <| sR <| oA rfl rfl <| oA rfl rfl <| nT <| CJ_ret <| QJ_then_ret ?_
   exfalso; first | omega | (have z0 := addE0; have z1 := addE1; simp_all)
  ·
   refine gP (GY_yes rfl rfl rfl hg1B) (P_move rfl) rfl <| gP (GY_yes rfl rfl rfl hg1B) (P_move rfl) rfl ?_
   first | (refine RJ_gy (GY_yes rfl rfl rfl hg1B) (OJ_V (V_index rfl rfl rfl (by omega) foc2 (Reads.sl _ _ _) Try.runUnderlying66 Try.sizeOf70) rfl ?_)) | (refine RJ_gy (GY_yes rfl rfl rfl hg1B) (OJ_V (V_index rfl rfl (Int.toNat_of_nonneg (by omega)).symm (by omega) foc2 (Reads.sl _ _ _) Try.runUnderlying66 Try.sizeOf70) rfl ?_))
   refine gV (GY_yes rfl rfl rfl hg1B) (V_loadE rfl rfl (by omega) foc2 (Reads.sl _ _ _) rfl rfl Try.isAgg70) rfl <| RJ_gy (GY_yes rfl rfl rfl hg1B) <| O_call ((c_Base (c := ⟨nw.2.1, nw.2.2, a, s3z, s3z, [], [], [], Sb⟩) (m := Md.z) (n := nd0) (p := sp.2.1) (dn := 0) (z := 12) (by decide) addE0 (by decide) (by simp) (by rw [nowL_mkS]; rfl) (fun i hi => absurd hi.1 (Nat.not_lt_zero _)))) rfl Try.call23 (Dels.cons del3 (Dels.cons del5 (Dels.cons del1 Dels.nil))) rfl fun c1 hc1 => ?_
   obtain ⟨ov1, rfl⟩ := hc1
   refine gP (GY_yes rfl rfl rfl hg1B) (P_neq rfl rfl) rfl <| oP (P_pickF rfl hg1B rfl) rfl <| oM rfl rfl ?_
   first | (refine RJ_splitD 32 rfl (fun hg2B hg2 => ?_) (fun hg2B hg2 => ?_)) | (refine RJ_splitN 32 rfl (fun hg2B hg2 => ?_) (fun hg2B hg2 => ?_)) | (refine RJ_split 32 rfl (fun hg2B => ?_) (fun hg2B => ?_))
   ·
    refine RJ_gn (GY_no rfl rfl rfl hg2B) rfl rfl <| RJ_gn (GY_no rfl rfl rfl hg2B) rfl rfl <| RJ_gn (GY_no rfl rfl rfl hg2B) rfl rfl <| RJ_gn (GY_no rfl rfl rfl hg2B) rfl rfl <| RJ_gn (GY_no rfl rfl rfl hg2B) rfl rfl <| RJ_gn (GY_no rfl rfl rfl hg2B) rfl rfl <| oP (P_pickT rfl hg2B rfl) rfl <| oM rfl rfl <| RJ_gn (GY_no rfl rfl rfl rfl) rfl rfl <| RJ_gn (GY_no rfl rfl rfl rfl) rfl rfl <| RJ_gn (GY_no rfl rfl rfl rfl) rfl rfl <| oP (P_pickT rfl rfl rfl) rfl <| oM rfl rfl <| RJ_gn (GY_no rfl rfl rfl rfl) rfl rfl <| RJ_gn (GY_no rfl rfl rfl rfl) rfl rfl <| RJ_gn (GY_no rfl rfl rfl rfl) rfl rfl <| oP (P_pickT rfl rfl rfl) rfl <| nT <| CJ_condT rfl rfl <| sR <| oA rfl rfl <| oA rfl rfl <| nT <| CJ_ret <| QJ_then_ret ?_
    exfalso; first | omega | (have z0 := addE0; have z1 := addE1; simp_all)
   ·
    refine gP (GY_yes rfl rfl rfl hg2B) (P_move rfl) rfl <| gP (GY_yes rfl rfl rfl hg2B) (P_move rfl) rfl ?_
    first | (refine RJ_gy (GY_yes rfl rfl rfl hg2B) (OJ_V (V_index rfl rfl rfl (by omega) foc3 (Reads.sl _ _ _) Try.runUnderlying66 Try.sizeOf70) rfl ?_)) | (refine RJ_gy (GY_yes rfl rfl rfl hg2B) (OJ_V (V_index rfl rfl (Int.toNat_of_nonneg (by omega)).symm (by omega) foc3 (Reads.sl _ _ _) Try.runUnderlying66 Try.sizeOf70) rfl ?_))
    refine gV (GY_yes rfl rfl rfl hg2B) (V_loadE rfl rfl (by omega) foc3 (Reads.sl _ _ _) rfl rfl Try.isAgg70) rfl <| RJ_gy (GY_yes rfl rfl rfl hg2B) (O_call ((c_Base (c := (MH.push (⟨nw.2.1, nw.2.2, a, s3z, s3z, [], [], [], Sb⟩ : MH) ov1 (MH.dl (⟨nw.2.1, nw.2.2, a, s3z, s3z, [], [], [], Sb⟩ : MH)) (setM (MH.bl (⟨nw.2.1, nw.2.2, a, s3z, s3z, [], [], [], Sb⟩ : MH)) nd0 sp.2.1) (hBas sp.2.1 0) (bNew nd0 12))) (m := Mb1) (n := nd1) (p := sp.2.2) (dn := 1) (z := 8) (by decide) addE1 (by decide) (by simp) (by rw [nowL_mkS]; rfl) (fun i hi => by
      have h0 : i = 0 := by have := hi.1; have e : Mb1.dv.length = 1 := rfl; omega
      subst h0; exact (by decide : (0 : Nat) ≠ 1)))) rfl Try.call23 (Dels.cons del4 (Dels.cons del0 (Dels.cons del0 Dels.nil))) rfl (fun c2 hc2 => ?_))
    obtain ⟨ov2, rfl⟩ := hc2
    refine gP (GY_yes rfl rfl rfl hg2B) (P_neq rfl rfl) rfl <| oP (P_pickF rfl hg2B rfl) rfl <| oM rfl rfl ?_
    first | (refine RJ_splitD 40 rfl (fun hg3B hg3 => ?_) (fun hg3B hg3 => ?_)) | (refine RJ_splitN 40 rfl (fun hg3B hg3 => ?_) (fun hg3B hg3 => ?_)) | (refine RJ_split 40 rfl (fun hg3B => ?_) (fun hg3B => ?_))
    ·
     refine RJ_gn (GY_no rfl rfl rfl hg3B) rfl rfl <| RJ_gn (GY_no rfl rfl rfl hg3B) rfl rfl <| RJ_gn (GY_no rfl rfl rfl hg3B) rfl rfl <| oP (P_pickT rfl hg3B rfl) rfl <| oM rfl rfl <| RJ_gn (GY_no rfl rfl rfl rfl) rfl rfl <| RJ_gn (GY_no rfl rfl rfl rfl) rfl rfl <| RJ_gn (GY_no rfl rfl rfl rfl) rfl rfl <| oP (P_pickT rfl rfl rfl) rfl <| nT <| CJ_condT rfl rfl <| sR <| oA rfl rfl <| oA rfl rfl <| nT <| CJ_ret <| QJ_then_ret ?_
     exfalso; first | omega | (have z0 := addE0; have z1 := addE1; simp_all)
    ·
     refine gP (GY_yes rfl rfl rfl hg3B) (P_move rfl) rfl <| RJ_gy (GY_yes rfl rfl rfl hg3B) <| O_call ((c_rBase (m := Md.z) (n := nd0) (z := 12) (by decide) (by decide))) rfl Try.call24 (Dels.cons del4 (Dels.cons del2 Dels.nil)) rfl fun r1 hc18 => ?_
     rw [(base_ok (z := 12) addE0).1]
     refine gP (GY_yes rfl rfl rfl hg3B) (P_neq rfl rfl) rfl <| oP (P_pickF rfl hg3B rfl) rfl <| oM rfl rfl ?_
     first | (refine RJ_splitD 45 rfl (fun hg4B hg4 => ?_) (fun hg4B hg4 => ?_)) | (refine RJ_splitN 45 rfl (fun hg4B hg4 => ?_) (fun hg4B hg4 => ?_)) | (refine RJ_split 45 rfl (fun hg4B => ?_) (fun hg4B => ?_))
     ·
      refine RJ_gn (GY_no rfl rfl rfl hg4B) rfl rfl <| RJ_gn (GY_no rfl rfl rfl hg4B) rfl rfl <| RJ_gn (GY_no rfl rfl rfl hg4B) rfl rfl <| oP (P_pickT rfl hg4B rfl) rfl <| nT <| CJ_condT rfl rfl <| sR <| oA rfl rfl <| oA rfl rfl <| nT <| CJ_ret <| QJ_then_ret ?_
      exfalso; first | omega | (have z0 := addE0; have z1 := addE1; simp_all)
     ·
      refine gP (GY_yes rfl rfl rfl hg4B) (P_move rfl) rfl <| RJ_gy (GY_yes rfl rfl rfl hg4B) <| O_call ((c_rBase (m := Mb1) (n := nd1) (z := 8) (by decide) (by decide))) rfl Try.call24 (Dels.cons del0 (Dels.cons del0 Dels.nil)) rfl fun r2 hc19 => ?_
      rw [(base_ok (m := Mb1) (z := 8) addE1).1]
      refine gP (GY_yes rfl rfl rfl hg4B) (P_neq rfl rfl) rfl <| oP (P_pickF rfl hg4B rfl) rfl <| nT ?_
      first | (refine CJ_condD rfl (fun hg5 => ?_) (fun hg5 => ?_)) | (refine CJ_condN rfl (fun hg5 => ?_) (fun hg5 => ?_)) | (refine CJ_cond rfl (fun hg5 => ?_) (fun hg5 => ?_))
      ·
       refine sR <| oA rfl rfl <| oA rfl rfl <| nT <| CJ_ret <| QJ_then_ret ?_
       exfalso; first | omega | (have z0 := addE0; have z1 := addE1; simp_all)
      ·
       refine kT <| sR <| oM rfl rfl <| oM rfl rfl <| oA rfl rfl <| oA rfl rfl <| nT <| CJ_ret <| QJ_end (res2 Try.results7 rfl rfl) <| CSpec.close ⟨nw.1, b11⟩ ?_ ?_ (Ent.trans (Ent.trans (t2_ (t2_ eR)) (MapP_close Mb2_bd)) (Ent.trans (Ent.trans (t1_ (t1_ eR)) (RefP_close Mb2_bd)) (t1_ (t0_ (eD (eD (eD eR)))))))
       · rfl
       · trivial
 ·
  refine ⟨fun h => absurd h (by decide), ?_⟩
  refine AJ_op 0 3 rfl (by kernel_rfl) rfl (GY_none rfl) <| O_make (t := tyU) (m := 12) (x0 := (0 : UInt64)) (z := _) (bytes := _) rfl rfl rfl rfl Try.underlying50 ⟨Try.t35, by kernel_rfl, rfl, rfl, rfl⟩ rfl (by decide) (by decide) rfl fun b20 => ⟨fun h => absurd h (by decide), ?_⟩
  refine AJ_op 2 7 rfl (by kernel_rfl) rfl (GY_none rfl) <| O_buildSlice rfl (CBeg1_bs_61_2_0_1 _ _ _ _ _ _) rfl fun b21 => ⟨fun h => absurd h (by decide), ?_⟩
  refine AJ_ent (Ent.trans (t0_ eR) (sl_of_lit (t := tyRow) (m := 2) [⟨some ⟨b20, 0, none⟩, 12, 12⟩, ⟨some ⟨b2, 0, none⟩, 8, 8⟩] rfl rfl rfl (by decide))) <| AJ_ent (Ent.trans (t1_ (t1_ eR)) (fun h hh => (stars_star.2 hh : stars (star [sl tyU (Sl3.v ⟨some ⟨b20, 0, none⟩, 12, 12⟩) (List.replicate 12 0), sl tyU (Sl3.v ⟨some ⟨b2, 0, none⟩, 8, 8⟩) (List.replicate 8 0)] :: _) h))) <| AJ_op 3 15 rfl (by kernel_rfl) rfl (GY_none rfl) <| O_call ((c_Loaded2 (vl := ⟨some ⟨b21, 0, none⟩, 2, 2⟩) (v0 := ⟨some ⟨b20, 0, none⟩, 12, 12⟩) (v1 := ⟨some ⟨b2, 0, none⟩, 8, 8⟩))) rfl Try.call20 (Dels.cons del1 (Dels.cons del0 Dels.nil)) rfl fun a hc23 => ⟨fun h => absurd h (by decide), ?_⟩
  refine aN 4 31 rfl rfl (P_assign rfl) rfl <| aD <| sR <| oO <| O_call (c_NewM) rfl Try.call21 Dels.nil rfl fun nw hc27 => oP (P_build rfl (CBeg1_bld_65_)) rfl <| oO <| O_box rfl rfl rfl fun b28 => oA rfl rfl <| oA rfl rfl <| nT <| CJ_seq <| sR <| oM rfl rfl <| oP (P_eqlPN rfl rfl Try.underlying59) rfl <| oM rfl rfl <| gP (GY_yes rfl rfl rfl rfl) (P_move rfl) rfl <| gP (GY_yes rfl rfl rfl rfl) (P_eqlPN rfl rfl Try.underlying25) rfl <| oP (P_pickF rfl rfl rfl) rfl <| nT <| CJ_condF rfl rfl <| kT <| sR <| oM rfl rfl <| oO <| O_call ((c_Spans2 (z0 := 12) (z1 := 8) (by decide) (by decide) (by simp) (by rfl) (by rfl) (by decide))) rfl Try.call22 (Dels.cons del6 Dels.nil) rfl fun sp hc32 => oA rfl rfl <| nT <| CJ_seq <| CJ_seq <| CJ_ent (Ent.trans (t6_ (t6_ (t3_ eR))) (MapR_z good_mkS rfl)) <| CJ_ent RefR_z <| CJ_ent (t0_ (t0_ (t0_ (Ent.takeC del0 (show _ = blkR sp.2.1 143 [ptr a 0, .int .i64 ((0 : Nat) : Int), .int .i64 0, .int .i64 ((12 : Nat) : Int)] from rfl) (Ent.takeC del0 (show _ = blkR sp.2.2 143 [ptr a 0, .int .i64 ((1 : Nat) : Int), .int .i64 0, .int .i64 ((8 : Nat) : Int)] from rfl) (Ent.takeC del0 (show _ = blk b28 65 (rCells ⟨s3z, s3z, []⟩ Md.z) from rfl) (Ent.takeC del0 (show _ = blk nw.1 79 (mCells ⟨nw.2.1, nw.2.2, a, s3z, s3z, [], [], [], Sb⟩ Md.z) from rfl) (t0_ (t0_ eR))))))))) <| CJ_region <| oM rfl rfl <| oV (V_len rfl foc2 (Reads.sl _ _ _) Try.runUnderlying66) rfl ?_
  refine oP (P_neq rfl rfl) rfl <| oM rfl rfl ?_
  first | (refine RJ_splitD 24 rfl (fun hg6B hg6 => ?_) (fun hg6B hg6 => ?_)) | (refine RJ_splitN 24 rfl (fun hg6B hg6 => ?_) (fun hg6B hg6 => ?_)) | (refine RJ_split 24 rfl (fun hg6B => ?_) (fun hg6B => ?_))
  ·
   refine RJ_gn (GY_no rfl rfl rfl hg6B) rfl rfl <| RJ_gn (GY_no rfl rfl rfl hg6B) rfl rfl <| RJ_gn (GY_no rfl rfl rfl hg6B) rfl rfl <| RJ_gn (GY_no rfl rfl rfl hg6B) rfl rfl <| RJ_gn (GY_no rfl rfl rfl hg6B) rfl rfl <| RJ_gn (GY_no rfl rfl rfl hg6B) rfl rfl <| oP (P_pickT rfl hg6B rfl) rfl <| oM rfl rfl <| RJ_gn (GY_no rfl rfl rfl rfl) rfl rfl <| RJ_gn (GY_no rfl rfl rfl rfl) rfl rfl <| RJ_gn (GY_no rfl rfl rfl rfl) rfl rfl <| RJ_gn (GY_no rfl rfl rfl rfl) rfl rfl <| RJ_gn (GY_no rfl rfl rfl rfl) rfl rfl <| RJ_gn (GY_no rfl rfl rfl rfl) rfl rfl <| oP (P_pickT rfl rfl rfl) rfl <| oM rfl rfl <| RJ_gn (GY_no rfl rfl rfl rfl) rfl rfl <| RJ_gn (GY_no rfl rfl rfl rfl) rfl rfl <| RJ_gn (GY_no rfl rfl rfl rfl) rfl rfl <| oP (P_pickT rfl rfl rfl) rfl <| oM rfl rfl <| RJ_gn (GY_no rfl rfl rfl rfl) rfl rfl <| RJ_gn (GY_no rfl rfl rfl rfl) rfl rfl <| RJ_gn (GY_no rfl rfl rfl rfl) rfl rfl <| oP (P_pickT rfl rfl rfl) rfl <| nT <| CJ_condT rfl rfl <| sR <| oA rfl rfl <| oA rfl rfl <| nT <| CJ_ret <| QJ_then_ret ?_
   exfalso; first | omega | (have z0 := addE0; have z1 := addE1; simp_all)
  ·
   refine gP (GY_yes rfl rfl rfl hg6B) (P_move rfl) rfl <| gP (GY_yes rfl rfl rfl hg6B) (P_move rfl) rfl ?_
   first | (refine RJ_gy (GY_yes rfl rfl rfl hg6B) (OJ_V (V_index rfl rfl rfl (by omega) foc2 (Reads.sl _ _ _) Try.runUnderlying66 Try.sizeOf70) rfl ?_)) | (refine RJ_gy (GY_yes rfl rfl rfl hg6B) (OJ_V (V_index rfl rfl (Int.toNat_of_nonneg (by omega)).symm (by omega) foc2 (Reads.sl _ _ _) Try.runUnderlying66 Try.sizeOf70) rfl ?_))
   refine gV (GY_yes rfl rfl rfl hg6B) (V_loadE rfl rfl (by omega) foc2 (Reads.sl _ _ _) rfl rfl Try.isAgg70) rfl <| RJ_gy (GY_yes rfl rfl rfl hg6B) <| O_call ((c_Base (c := ⟨nw.2.1, nw.2.2, a, s3z, s3z, [], [], [], Sb⟩) (m := Md.z) (n := nd0) (p := sp.2.1) (dn := 0) (z := 12) (by decide) addE0 (by decide) (by simp) (by rw [nowL_mkS]; rfl) (fun i hi => absurd hi.1 (Nat.not_lt_zero _)))) rfl Try.call23 (Dels.cons del3 (Dels.cons del5 (Dels.cons del1 Dels.nil))) rfl fun c1 hc1 => ?_
   obtain ⟨ov1, rfl⟩ := hc1
   refine gP (GY_yes rfl rfl rfl hg6B) (P_neq rfl rfl) rfl <| oP (P_pickF rfl hg6B rfl) rfl <| oM rfl rfl ?_
   first | (refine RJ_splitD 32 rfl (fun hg7B hg7 => ?_) (fun hg7B hg7 => ?_)) | (refine RJ_splitN 32 rfl (fun hg7B hg7 => ?_) (fun hg7B hg7 => ?_)) | (refine RJ_split 32 rfl (fun hg7B => ?_) (fun hg7B => ?_))
   ·
    refine RJ_gn (GY_no rfl rfl rfl hg7B) rfl rfl <| RJ_gn (GY_no rfl rfl rfl hg7B) rfl rfl <| RJ_gn (GY_no rfl rfl rfl hg7B) rfl rfl <| RJ_gn (GY_no rfl rfl rfl hg7B) rfl rfl <| RJ_gn (GY_no rfl rfl rfl hg7B) rfl rfl <| RJ_gn (GY_no rfl rfl rfl hg7B) rfl rfl <| oP (P_pickT rfl hg7B rfl) rfl <| oM rfl rfl <| RJ_gn (GY_no rfl rfl rfl rfl) rfl rfl <| RJ_gn (GY_no rfl rfl rfl rfl) rfl rfl <| RJ_gn (GY_no rfl rfl rfl rfl) rfl rfl <| oP (P_pickT rfl rfl rfl) rfl <| oM rfl rfl <| RJ_gn (GY_no rfl rfl rfl rfl) rfl rfl <| RJ_gn (GY_no rfl rfl rfl rfl) rfl rfl <| RJ_gn (GY_no rfl rfl rfl rfl) rfl rfl <| oP (P_pickT rfl rfl rfl) rfl <| nT <| CJ_condT rfl rfl <| sR <| oA rfl rfl <| oA rfl rfl <| nT <| CJ_ret <| QJ_then_ret ?_
    exfalso; first | omega | (have z0 := addE0; have z1 := addE1; simp_all)
   ·
    refine gP (GY_yes rfl rfl rfl hg7B) (P_move rfl) rfl <| gP (GY_yes rfl rfl rfl hg7B) (P_move rfl) rfl ?_
    first | (refine RJ_gy (GY_yes rfl rfl rfl hg7B) (OJ_V (V_index rfl rfl rfl (by omega) foc3 (Reads.sl _ _ _) Try.runUnderlying66 Try.sizeOf70) rfl ?_)) | (refine RJ_gy (GY_yes rfl rfl rfl hg7B) (OJ_V (V_index rfl rfl (Int.toNat_of_nonneg (by omega)).symm (by omega) foc3 (Reads.sl _ _ _) Try.runUnderlying66 Try.sizeOf70) rfl ?_))
    refine gV (GY_yes rfl rfl rfl hg7B) (V_loadE rfl rfl (by omega) foc3 (Reads.sl _ _ _) rfl rfl Try.isAgg70) rfl <| RJ_gy (GY_yes rfl rfl rfl hg7B) (O_call ((c_Base (c := (MH.push (⟨nw.2.1, nw.2.2, a, s3z, s3z, [], [], [], Sb⟩ : MH) ov1 (MH.dl (⟨nw.2.1, nw.2.2, a, s3z, s3z, [], [], [], Sb⟩ : MH)) (setM (MH.bl (⟨nw.2.1, nw.2.2, a, s3z, s3z, [], [], [], Sb⟩ : MH)) nd0 sp.2.1) (hBas sp.2.1 0) (bNew nd0 12))) (m := Mb1) (n := nd1) (p := sp.2.2) (dn := 1) (z := 8) (by decide) addE1 (by decide) (by simp) (by rw [nowL_mkS]; rfl) (fun i hi => by
      have h0 : i = 0 := by have := hi.1; have e : Mb1.dv.length = 1 := rfl; omega
      subst h0; exact (by decide : (0 : Nat) ≠ 1)))) rfl Try.call23 (Dels.cons del4 (Dels.cons del0 (Dels.cons del0 Dels.nil))) rfl (fun c2 hc2 => ?_))
    obtain ⟨ov2, rfl⟩ := hc2
    refine gP (GY_yes rfl rfl rfl hg7B) (P_neq rfl rfl) rfl <| oP (P_pickF rfl hg7B rfl) rfl <| oM rfl rfl ?_
    first | (refine RJ_splitD 40 rfl (fun hg8B hg8 => ?_) (fun hg8B hg8 => ?_)) | (refine RJ_splitN 40 rfl (fun hg8B hg8 => ?_) (fun hg8B hg8 => ?_)) | (refine RJ_split 40 rfl (fun hg8B => ?_) (fun hg8B => ?_))
    ·
     refine RJ_gn (GY_no rfl rfl rfl hg8B) rfl rfl <| RJ_gn (GY_no rfl rfl rfl hg8B) rfl rfl <| RJ_gn (GY_no rfl rfl rfl hg8B) rfl rfl <| oP (P_pickT rfl hg8B rfl) rfl <| oM rfl rfl <| RJ_gn (GY_no rfl rfl rfl rfl) rfl rfl <| RJ_gn (GY_no rfl rfl rfl rfl) rfl rfl <| RJ_gn (GY_no rfl rfl rfl rfl) rfl rfl <| oP (P_pickT rfl rfl rfl) rfl <| nT <| CJ_condT rfl rfl <| sR <| oA rfl rfl <| oA rfl rfl <| nT <| CJ_ret <| QJ_then_ret ?_
     exfalso; first | omega | (have z0 := addE0; have z1 := addE1; simp_all)
    ·
     refine gP (GY_yes rfl rfl rfl hg8B) (P_move rfl) rfl <| RJ_gy (GY_yes rfl rfl rfl hg8B) <| O_call ((c_rBase (m := Md.z) (n := nd0) (z := 12) (by decide) (by decide))) rfl Try.call24 (Dels.cons del4 (Dels.cons del2 Dels.nil)) rfl fun r1 hc35 => ?_
     rw [(base_ok (z := 12) addE0).1]
     refine gP (GY_yes rfl rfl rfl hg8B) (P_neq rfl rfl) rfl <| oP (P_pickF rfl hg8B rfl) rfl <| oM rfl rfl ?_
     first | (refine RJ_splitD 45 rfl (fun hg9B hg9 => ?_) (fun hg9B hg9 => ?_)) | (refine RJ_splitN 45 rfl (fun hg9B hg9 => ?_) (fun hg9B hg9 => ?_)) | (refine RJ_split 45 rfl (fun hg9B => ?_) (fun hg9B => ?_))
     ·
      refine RJ_gn (GY_no rfl rfl rfl hg9B) rfl rfl <| RJ_gn (GY_no rfl rfl rfl hg9B) rfl rfl <| RJ_gn (GY_no rfl rfl rfl hg9B) rfl rfl <| oP (P_pickT rfl hg9B rfl) rfl <| nT <| CJ_condT rfl rfl <| sR <| oA rfl rfl <| oA rfl rfl <| nT <| CJ_ret <| QJ_then_ret ?_
      exfalso; first | omega | (have z0 := addE0; have z1 := addE1; simp_all)
     ·
      refine gP (GY_yes rfl rfl rfl hg9B) (P_move rfl) rfl <| RJ_gy (GY_yes rfl rfl rfl hg9B) <| O_call ((c_rBase (m := Mb1) (n := nd1) (z := 8) (by decide) (by decide))) rfl Try.call24 (Dels.cons del0 (Dels.cons del0 Dels.nil)) rfl fun r2 hc36 => ?_
      rw [(base_ok (m := Mb1) (z := 8) addE1).1]
      refine gP (GY_yes rfl rfl rfl hg9B) (P_neq rfl rfl) rfl <| oP (P_pickF rfl hg9B rfl) rfl <| nT ?_
      first | (refine CJ_condD rfl (fun hg10 => ?_) (fun hg10 => ?_)) | (refine CJ_condN rfl (fun hg10 => ?_) (fun hg10 => ?_)) | (refine CJ_cond rfl (fun hg10 => ?_) (fun hg10 => ?_))
      ·
       refine sR <| oA rfl rfl <| oA rfl rfl <| nT <| CJ_ret <| QJ_then_ret ?_
       exfalso; first | omega | (have z0 := addE0; have z1 := addE1; simp_all)
      ·
       refine kT <| sR <| oM rfl rfl <| oM rfl rfl <| oA rfl rfl <| oA rfl rfl <| nT <| CJ_ret <| QJ_end (res2 Try.results7 rfl rfl) <| CSpec.close ⟨nw.1, b28⟩ ?_ ?_ (Ent.trans (Ent.trans (t2_ (t2_ eR)) (MapP_close Mb2_bd)) (Ent.trans (Ent.trans (t1_ (t1_ eR)) (RefP_close Mb2_bd)) (t1_ (t0_ (eD (eD (eD eR)))))))
       · rfl
       · trivial
end Go.Proofs
