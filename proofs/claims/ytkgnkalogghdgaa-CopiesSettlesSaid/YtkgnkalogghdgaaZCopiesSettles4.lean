/- CopiesSettles, part 4 of the proof: PPack, LCopy, LRef12, LRing, PRing2, PGood, PGood2, PArr, PMapD, PFls, PUp, PAllR, POneR, PRing3, PSpansA, PFlat0, PDk, LAw12, PRing4, PRing5, LRef13. -/
import Derived.WalkKit
import Derived.Orders
import Derived.RangeFuncLeaves
import Derived.RangeFuncCalls
import Derived.TacticsIn
import Derived.Handy
import Derived.OrdersHeld
import Derived.OrdersIn
import Derived.Below
import Derived.OpenShut
import Derived.Deep.Slices
import Derived.Scope
import Derived.KernelRfl
import Derived.RangeFuncRecord
import Derived.ChangeKeysEq
import Derived.Laws.BytesArg
import Derived.ProofKit
import Derived.ShutString
import Derived.ChangeOld
import Derived.Test.YtkgnkalogghdgaaChecked
import Derived.Test.YtkgnkalogghdgaaRows
import Derived.Test.YtkgnkalogghdgaaZCopiesSettles3
namespace Go.Proofs
open Go.VG
theorem tdiv8 {n : Nat} (h : n ≤ 1000000000) : IntKind.i64.wrap (((n : Nat) : Int).tdiv (8 : Int)) = ((n / 8 : Nat) : Int) := by
  have e : ((n : Nat) : Int).tdiv (8 : Int) = ((n / 8 : Nat) : Int) := by
    rw [Int.tdiv_eq_ediv_of_nonneg (by omega)]; omega
  rw [e]; exact wrap64_in (by omega) (by omega)
theorem length_eq {n : Nat} (h : n ≤ 100000000) : pack_Length (n : Int) = some ((1 + bytesN n : Nat) : Int) := by
  unfold pack_Length
  rw [tdiv8 (by omega), if_neg (by omega), grd_pos (inI64_of (by omega))]
  unfold bytesN
  by_cases h8 : (0 : Int) < ((n : Int) % (8 : Int))
  · rw [if_pos h8, grd_pos (inI64_of (by omega))]; congr 1; omega
  · rw [if_neg h8]; congr 1; omega
def textP (b : Nat → UInt8) (n i : Nat) : List UInt64 := to_u64 (n : Int) :: (List.range (bytesN n)).map fun k => wordB fun j => if 8 * k + j < i then b (8 * k + j) else 0
theorem textP_len {b : Nat → UInt8} {n i : Nat} : (textP b n i).length = 1 + bytesN n := by simp [textP]; omega
theorem textP_get {b : Nat → UInt8} {n i k : Nat} (h : k < bytesN n) : (textP b n i).getD (1 + k) 0 = wordB fun j => if 8 * k + j < i then b (8 * k + j) else 0 := by
  rw [Nat.add_comm]
  simp [textP, List.getD_eq_getElem?_getD, h]
theorem wordB_zero : (wordB fun _ => 0) = 0 := by
  refine tb_ext fun i hi => ?_
  rw [tb_wordB _ hi, tb_zero]
  exact Nat.zero_testBit _
theorem textP_zero {b : Nat → UInt8} {n : Nat} : (List.replicate (1 + bytesN n) (0 : UInt64)).set 0 (to_u64 (n : Int)) = textP b n 0 := by
  refine List.ext_getElem (by rw [List.length_set, List.length_replicate, textP_len]) fun i h1 h2 => ?_
  cases i with
  | zero => simp [textP]
  | succ k =>
    have e := getD_get (l := textP b n 0) h2
    rw [textP_len] at h2
    have e3 : (textP b n 0).getD (k + 1) 0 = wordB fun j => if 8 * k + j < 0 then b (8 * k + j) else 0 := by
      rw [show k + 1 = 1 + k by omega]; exact textP_get (by omega)
    rw [← e, e3]
    simp [wordB_zero]
theorem textP_step {b : Nat → UInt8} {n i : Nat} (h : i < n) : (textP b n i).set (1 + i / 8) ((textP b n i).getD (1 + i / 8) 0 ||| shl_u64 (to_u64 ((b i).toNat : Int)) (8 * (i % 8))) = textP b n (i + 1) := by
  have hk : i / 8 < bytesN n := by unfold bytesN; omega
  rw [textP_get hk, wordB_put (by omega) (if_neg (by omega))]
  refine List.ext_getElem (by rw [List.length_set, textP_len, textP_len]) fun q h1 h2 => ?_
  rw [List.getElem_set, ← getD_get h2]
  rw [textP_len] at h2
  split
  · rename_i e
    rw [← e, textP_get hk]
    refine wordB_inj.2 fun j hj => ?_
    by_cases e2 : j = i % 8
    · rw [if_pos e2, if_pos (by omega)]; congr 1; omega
    · rw [if_neg e2]
      by_cases e3 : 8 * (i / 8) + j < i
      · rw [if_pos e3, if_pos (by omega)]
      · rw [if_neg e3, if_neg (by omega)]
  · rename_i e
    rw [List.length_set] at h1
    rw [← getD_get h1]
    rcases Nat.eq_zero_or_pos q with h0 | h0
    · rw [h0]; simp [textP]
    · obtain ⟨k, rfl⟩ : ∃ k, q = 1 + k := ⟨q - 1, by omega⟩
      rw [textP_get (b := b) (i := i) (show k < bytesN n by omega), textP_get (b := b) (i := i + 1) (show k < bytesN n by omega)]
      refine wordB_inj.2 fun j hj => ?_
      by_cases e3 : 8 * k + j < i
      · rw [if_pos e3, if_pos (by omega)]
      · rw [if_neg e3, if_neg (by omega)]
theorem text_l1 {s : ByteArray} (hs : s.size ≤ 8192) : ∀ (N i : Nat), s.size - i < N → i ≤ s.size → pack_Text_l1 s N (textP (strAt s) s.size i) i = some (encT s)
  | 0, _, h, _ => absurd h (by omega)
  | N + 1, i, h, hi => by
    show pack_Text_l1_b _ _ _ _ = _
    unfold pack_Text_l1_b
    simp only [lt]
    by_cases hlt : i < s.size
    · have hb : 1 + i / 8 < (textP (strAt s) s.size i).length := by rw [textP_len]; unfold bytesN; omega
      rw [if_pos (by omega), grd_pos (decide_eq_true hb), grd_pos (decide_eq_true hb), show ((((i % 8 : Nat) : Int)) * (8 : Int)).toNat = 8 * (i % 8) by omega, textP_step hlt]
      exact text_l1 hs N (i + 1) (by omega) (by omega)
    · rw [if_neg (by omega), show i = s.size by omega]; rfl
theorem text_eq (s : ByteArray) : pack_Text s = some (if 8192 < s.size then ([], 4) else (encT s, 0)) := by
  unfold pack_Text
  by_cases h : 8192 < s.size
  · rw [if_pos (by omega), if_pos h]
  · rw [if_neg (by omega), if_neg h, length_eq (by omega)]; simp only [Option.bind_some]
    have hb : bytesN s.size ≤ 100000 := by unfold bytesN; omega
    rw [grd_pos (decide_eq_true (by omega)), show (((1 + bytesN s.size : Nat) : Int)).toNat = 1 + bytesN s.size by omega, grd_pos (decide_eq_true (by rw [List.length_replicate]; omega)), textP_zero (b := strAt s)]
    have hF := fuel_big
    generalize FUEL = N at hF ⊢
    rw [text_l1 (by omega) N 0 (by omega) (by omega)]; rfl
theorem slicesEq_l1 {a b : List UInt64} (hl : a.length = b.length) : ∀ (N i : Nat), a.length - i < N → i ≤ a.length → (∀ j, j < i → a.getD j 0 = b.getD j 0) →
    slices_Equal_uint64_l1 a b N i = some (if a = b then .inl () else .inr false)
  | 0, _, h, _, _ => absurd h (by omega)
  | N + 1, i, h, hi, he => by
    show slices_Equal_uint64_l1_b _ _ _ _ = _
    unfold slices_Equal_uint64_l1_b
    by_cases hlt : i < a.length
    · rw [if_pos (by omega)]
      by_cases hab : a.getD i 0 = b.getD i 0
      · rw [if_neg (by simpa using hab)]
        refine slicesEq_l1 hl N (i + 1) (by omega) (by omega) fun j hj => ?_
        rcases Nat.lt_or_ge j i with h2 | h2
        · exact he j h2
        · have : j = i := by omega
          rw [this]; exact hab
      · rw [if_pos (by simpa using hab), if_neg (fun e => hab (by rw [e]))]
    · rw [if_neg (by omega), if_pos]
      refine List.ext_getElem hl fun j h1 h2 => ?_
      have := he j (by omega)
      simpa [List.getD, h1, h2] using this
theorem slicesEq {a b : List UInt64} (hl : a.length ≤ 1000000000) : slices_Equal_uint64 a b = some (decide (a = b)) := by
  unfold slices_Equal_uint64
  have hF := fuel_big
  generalize FUEL = N at hF ⊢
  by_cases h : a.length = b.length
  · rw [if_neg (by omega), slicesEq_l1 h N 0 (by omega) (by omega) (fun j h => absurd h (by omega))]
    by_cases e : a = b
    · rw [if_pos e]; show some true = _; rw [decide_eq_true e]
    · rw [if_neg e]; show some false = _; rw [decide_eq_false e]
  · rw [if_pos (by omega), decide_eq_false (fun e => h (congrArg List.length e))]
def bytesP (l : List UInt64) (n i : Nat) : List UInt8 := (List.range n).map fun k => if k < i then byteOf (l.getD (1 + k / 8) 0) (k % 8) else 0
theorem bytesP_zero {l : List UInt64} {n : Nat} : List.replicate n (0 : UInt8) = bytesP l n 0 := by
  refine List.ext_getElem (by simp [bytesP]) fun i h1 h2 => by simp [bytesP]
theorem bytesP_len {l : List UInt64} {n i : Nat} : (bytesP l n i).length = n := by simp [bytesP]
theorem bytesP_step {l : List UInt64} {n i : Nat} : (bytesP l n i).set i (byteOf (l.getD (1 + i / 8) 0) (i % 8)) = bytesP l n (i + 1) := by
  refine List.ext_getElem (by simp [bytesP]) fun k h1 h2 => ?_
  rw [List.getElem_set]
  split
  · rename_i e; subst e; simp [bytesP]
  · rename_i e
    simp only [bytesP, List.getElem_map, List.getElem_range]
    by_cases h3 : k < i
    · rw [if_pos h3, if_pos (by omega)]
    · rw [if_neg h3, if_neg (by omega)]
theorem bytesP_full {l : List UInt64} : bytesP l (l.getD 0 0).toNat (l.getD 0 0).toNat = bytesT l :=
  List.map_congr_left fun _i hi => if_pos (List.mem_range.1 hi)
section
variable {l : List UInt64}
theorem fromT_l1 (h0 : (l.getD 0 0).toNat ≤ 8192) (hl : l.length = 1 + bytesN (l.getD 0 0).toNat) : ∀ (N i : Nat), (l.getD 0 0).toNat - i < N → i ≤ (l.getD 0 0).toNat → pack_FromText_l1 l N (bytesP l (l.getD 0 0).toNat i) i = some (bytesT l)
  | 0, _, h, _ => absurd h (by omega)
  | N + 1, i, h, hi => by
    show pack_FromText_l1_b _ _ _ _ = _
    unfold pack_FromText_l1_b
    simp only [lt, List.length_replicate]
    by_cases hlt : i < (l.getD 0 0).toNat
    · have hb : 1 + i / 8 < l.length := by rw [hl]; unfold bytesN; omega
      rw [if_pos (by omega), tdiv8 (by omega), grd_pos (inI64_of (by omega)), grd_pos (decide_eq_true (by omega)), show ((1 : Int) + ((i / 8 : Nat) : Int)).toNat = 1 + i / 8 by omega, grd_pos (decide_eq_true (by rw [bytesP_len]; exact hlt)), grd_pos (inN64_of (by omega)),
        show ((((i % 8 : Nat) : Int)) * (8 : Int)).toNat = 8 * (i % 8) by omega]
      show pack_FromText_l1 l N ((bytesP l (l.getD 0 0).toNat i).set i (byteOf (l.getD (1 + i / 8) 0) (i % 8))) (i + 1) = _
      rw [bytesP_step]
      exact fromT_l1 h0 hl N (i + 1) (by omega) (by omega)
    · rw [if_neg (by omega), show i = (l.getD 0 0).toNat by omega, bytesP_full]
theorem fromText_eq (hL : l.length ≤ 1000000) : pack_FromText l = some (decT l) := by
  unfold pack_FromText decT
  by_cases h1 : l.length = 0 ∨ 8192 < (l.getD 0 0).toNat
  · rw [if_pos (by have : ((8192 : UInt64).toNat : Int) = 8192 := rfl
                   rw [this]; omega), if_pos (by omega)]
  · rw [if_neg (by have : ((8192 : UInt64).toNat : Int) = 8192 := rfl
                   rw [this]; omega), wrap64_u _ (by omega), length_eq (by omega)]
    simp only [Option.bind_some]
    by_cases h2 : l.length = 1 + bytesN (l.getD 0 0).toNat
    · rw [if_neg (by omega), if_neg (by omega), grd_pos (inLen_of (by omega)), bytesP_zero (l := l)]
      have hF := fuel_big
      generalize FUEL = N at hF ⊢
      rw [fromT_l1 (by omega) h2 N 0 (by omega) (by omega)]; simp only [Option.bind_some]
      rw [text_eq, if_neg (by rw [strSize_of, bytesT_len]; omega)]; simp only [Option.bind_some]
      rw [if_neg (by simp), slicesEq (by rw [encT_len]; unfold bytesN; rw [strSize_of, bytesT_len]; omega)]
      simp only [Option.bind_some]
      by_cases h3 : encT (strOf (bytesT l)) = l
      · rw [if_neg (by simpa using h3), if_pos h3]
      · rw [if_pos (by simpa using h3), if_neg h3]
    · rw [if_pos (by omega), if_pos (by omega)]
end
end Go.Proofs
set_option linter.unusedSimpArgs false
set_option linter.unusedVariables false
set_option maxRecDepth 20000
set_option maxHeartbeats 4000000
namespace Go.Proofs
open Go.VG
def block_ReadAll_l1_b (x_0 : Dvc) (at_1 : Int) (n_2 : Int) (s : ArrS) (rec : Nat → (List UInt64) → Option (((List UInt64)) ⊕ ((List UInt64) × Int))) (x14 : Nat) (x15 : List UInt64) : Option (((List UInt64)) ⊕ ((List UInt64) × Int)) :=
  if (((x14 : Nat) : Int) < n_2) then
    grd (inI64 ((at_1 + ((x14 : Nat) : Int)))) <|
    Option.bind (Dvc.rd x_0 s ((at_1 + ((x14 : Nat) : Int)))) fun r19 =>
    if (r19.2 ≠ (0 : Int)) then
      some (.inr ([], r19.2))
    else
      grd (inLen (x15.length + 1)) <|
      grd (inN64 (x14 + 1)) <|
      rec (x14 + 1) (x15 ++ [r19.1])
  else
    some (.inl x15)
def block_ReadAll_l1 (x_0 : Dvc) (at_1 : Int) (n_2 : Int) (s : ArrS) : Nat → Nat → (List UInt64) → Option (((List UInt64)) ⊕ ((List UInt64) × Int))
  | 0, _, _ => none
  | n + 1, x14, x15 => block_ReadAll_l1_b x_0 at_1 n_2 s (block_ReadAll_l1 x_0 at_1 n_2 s n) x14 x15
def block_ReadAll (x_0 : Dvc) (at_1 : Int) (n_2 : Int) (s : ArrS) : Option ((List UInt64) × Int) :=
  Option.bind (Dvc.size x_0 s) fun r2 =>
  Option.bind (block_inside r2 at_1 n_2) fun r4 =>
  if (¬ r4 = true) then
    some (([], (1 : Int)))
  else
    seqO (block_ReadAll_l1 x_0 at_1 n_2 s FUEL 0 ([])) fun a13 =>
    some ((a13, (0 : Int)))
theorem L_block_ReadAll {W : World} {vx_0 : IfH} {bs : Nat} {x_0 : Dvc} {at_1 : Int} {n_2 : Int} {s : ArrS} {r : (List UInt64) × Int} (h : block_ReadAll x_0 at_1 n_2 s = some r) :
    CSpec Try.prog W 62 [IfH.v vx_0, .int .i64 at_1, .int .i64 n_2] [DevP bs x_0 vx_0, Arr bs s] (fun x : Sl3 => .tuple #[x.v, .int .i64 r.2]) (fun _ => True) (fun x F => DevP bs x_0 vx_0 :: Arr bs s :: sl tyU x.v r.1 :: F) := by
 refine CSpec.of_body Try.func62 rfl Try.ntmps62 rfl fun F => ?_
 show CJ _ _ _ _ _ _ (_ :: _ :: F)
 unfold block_ReadAll at h
 refine sR <| oA rfl rfl <| oA rfl rfl <| nT <| CJ_seq <| sR <| oM rfl rfl <| RJ_pure (fun h hh => DevP_dep h (stars_perm (del0 (A := DevP bs x_0 vx_0)).out h hh)) fun hdp1 => ?_
 obtain ⟨r2, hr3, h⟩ := bind_e h
 refine oO <| O_callI rfl (dev_Size hr3 hdp1) rfl (Dels.cons del0 (Dels.cons del0 Dels.nil)) rfl fun _ _ => oM rfl rfl <| oM rfl rfl ?_
 obtain ⟨r4, hr5, h⟩ := bind_e h
 refine oO <| O_call (L_block_inside hr5) rfl Try.call88 Dels.nil rfl fun _ _ => oP (P_not rfl) rfl <| nT <| CJ_condP rfl (bT_not Iff.rfl) (fun hg1 => ?_) (fun hg1 => ?_)
 ·
  replace h := ite_t hg1 h
  refine sR <| oA rfl rfl <| oA rfl rfl <| nT <| CJ_ret <| QJ_then_ret <| QJ_ent (fun h hh => sl_nil (t := tyU) h hh) ?_
  cases h
  exact fE (res2 Try.results62 rfl rfl) ⟨none, 0, 0⟩ (t1_ (t1_ eR))
 ·
  replace h := ite_f hg1 h
  refine kT <| sR <| oA rfl rfl <| nT <| CJ_seq <| sR <| oM rfl rfl <| oM rfl rfl <| nT <| CJ_ent (fun h hh => sl_nil (t := tyU) h hh) ?_
  obtain ⟨y10, hl8, hK9⟩ := seq_e h
  refine CJ_cutT (X := (List UInt64) × Sl3) [6, 7, 8, 9, 10, 11, 19, 20, 21, 22, 23, 24, 25, 26, 27, 28, 29, 30, 31, 32, 33, 34, 35, 36, 37] (fun ⟨a13, hd12⟩ => ([(8, hd12.v)] : Slots)) (fun ⟨a13, hd12⟩ R => sl tyU hd12.v a13 :: R) (fun ⟨a13, hd12⟩ => y10 = .inl a13) (Dels.cons del0 Dels.nil) ?_ ?_
  ·
   refine CJ_block <| CJ_loopR (X := Nat × Nat × (List UInt64) × Sl3) [6, 7, 8, 9, 10, 11, 19, 20, 21, 22, 23, 24, 25, 26, 27, 28, 29, 30, 31, 32, 33, 34, 35, 36, 37] (fun ⟨n, x14, x15, hd16⟩ => ([(8, hd16.v), (19, .int .i64 (((x14 : Nat) : Int)))] : Slots)) (fun ⟨n, x14, x15, hd16⟩ R => sl tyU hd16.v x15 :: R) (fun ⟨n, x14, x15, hd16⟩ => block_ReadAll_l1 x_0 at_1 n_2 s n x14 x15 = some y10) (fun ⟨n, x14, x15, hd16⟩ => n) ⟨FUEL, 0, [], ⟨none, 0, 0⟩⟩ ?_ ?_ eR ?_
   · exact hl8
   · exact ⟨rfl, rfl, True.intro⟩
   ·
    rintro ⟨n, x14, x15, hd16⟩ h
    cases n with
    | zero => exact none_e h
    | succ n => ?_
    replace h : block_ReadAll_l1_b x_0 at_1 n_2 s (block_ReadAll_l1 x_0 at_1 n_2 s n) x14 x15 = some y10 := h
    unfold block_ReadAll_l1_b at h
    show CJ _ _ _ _ _ (([(8, hd16.v), (19, .int .i64 (((x14 : Nat) : Int)))] : Slots) ++ forget _ _) (sl tyU hd16.v x15 :: _)
    refine lC del0 fun hlen17 => sR <| oP (P_lss (a := ((x14 : Nat) : Int)) (b := n_2) rfl rfl) rfl <| nT <| CJ_seq <| CJ_condP rfl bT_dec (fun hg2 => ?_) (fun hg2 => ?_)
    ·
     replace h := ite_t hg2 h
     refine kT <| CJ_seq <| CJ_block <| sR <| oM rfl rfl <| oA rfl rfl <| nT <| sR <| oM rfl rfl <| oM rfl rfl <| oM rfl rfl ?_
     obtain ⟨hg3, h⟩ := grd_Ie h
     refine oP (P_add (a := at_1) (b := ((x14 : Nat) : Int)) rfl rfl hg3) rfl <| RJ_pure (fun h hh => DevP_dep h (stars_perm (del1 (A := DevP bs x_0 vx_0)).out h hh)) fun hdp18 => ?_
     obtain ⟨r19, hr20, h⟩ := bind_e h
     refine oO <| O_callI rfl (dev_Read hr20 hdp18) rfl (Dels.cons del1 (Dels.cons del1 Dels.nil)) rfl fun _ _ => oM rfl rfl <| oP (P_extract rfl rfl) rfl <| oP (P_extract rfl rfl) rfl <| oA rfl rfl <| oA rfl rfl <| nT <| CJ_seq <| sR <| oM rfl rfl <| oP (P_neq (a := r19.2) (b := (0 : Int)) rfl rfl) rfl <| nT <| CJ_condP rfl bT_dec (fun hg4 => ?_) (fun hg4 => ?_)
     ·
      replace h := ite_t hg4 h
      refine sR <| oM rfl rfl <| oA rfl rfl <| oA rfl rfl <| nT <| CJ_ret <| QJ_then_ret <| QJ_block_ret <| QJ_then_ret <| QJ_round_ret <| QJ_block_ret <| QJ_then_ret <| QJ_ent (fun h hh => sl_nil (t := tyU) h hh) ?_
      have hE := Option.some.inj h
      replace hE := seq_inr hK9 hE.symm
      subst hE
      exact fE (res2 Try.results62 rfl rfl) ⟨none, 0, 0⟩ (t1_ (t1_ (t0_ (eD eR))))
     ·
      replace h := ite_f hg4 h
      refine kT <| CJ_region <| oM rfl rfl <| oM rfl rfl <| oO <| O_buildSlice rfl (bs_29_1_0 _) rfl fun b22 => ?_
      obtain ⟨hg5, h⟩ := grd_Le h
      refine oO <| O_append (t := tyU) (bytes := 8) rfl rfl del3 foc0 (Reads.lit (t := tyU) (ys := [r19.1]) rfl rfl (by decide) (by decide) rfl) Try.underlying29 ok_tyU (apl (m := 1) (b := 8) hg5 (by decide)).1 (apl (m := 1) (b := 8) hg5 (by decide)).2 rfl fun p24 c25 => oA rfl rfl <| RJ_nil <| QJ_block_normal <| QJ_then <| CJ_region ?_
      obtain ⟨hg6, h⟩ := grd_Ne h
      exact oP (PJ_eq (P_add (a := ((x14 : Nat) : Int)) (b := (1 : Int)) rfl rfl (nat_in hg6)) rfl) rfl <| oM rfl rfl <| RJ_nil <| nR ⟨n, (x14 + 1), (x15 ++ [r19.1]), ⟨p24, (x15 ++ [r19.1]).length, c25⟩⟩ h ⟨rfl, rfl, True.intro⟩ (t0_ (t1_ (t1_ (eD eR))))
    ·
     replace h := ite_f hg2 h
     exact CJ_exit <| QJ_then_exit <| QJ_round_exit <| QJ_block_here <| cR ⟨x15, hd16⟩ (Option.some.inj h).symm ⟨rfl, True.intro⟩ eR
  ·
   rintro ⟨a13, hd12⟩ hy26
   replace h := seq_inl hK9 hy26
   show CJ _ _ _ _ _ (([(8, hd12.v)] : Slots) ++ forget _ _) (sl tyU hd12.v a13 :: _)
   refine lC del0 fun hlen27 => sR <| oM rfl rfl <| oA rfl rfl <| oA rfl rfl <| nT <| CJ_ret ?_
   cases h
   exact fE (res2 Try.results62 rfl rfl) hd12 (t1_ (t1_ eR))
end Go.Proofs
set_option linter.unusedSimpArgs false
set_option linter.unusedVariables false
set_option maxRecDepth 20000
set_option maxHeartbeats 4000000
namespace Go.Proofs
open Go.VG
@[ext] structure api_Copy where
  Valid : Bool
  Seq : Int
  Text : ByteArray
  deriving DecidableEq
abbrev tyapi_Copy : Ty api_Copy := { T := 34, sz := 3, enc := fun x => [.bool x.Valid, .int .i64 x.Seq, .string x.Text], dflt := ⟨false, 0, ByteArray.empty⟩, len := fun _ => rfl, one := fun _ => rfl, pos := by decide }
theorem ok_tyapi_Copy : ElemOk Try.prog tyapi_Copy 32 := ⟨Try.t34, .agg #[.bool false, .int .i64 0, .string ByteArray.empty], by kernel_rfl, rfl, rfl, rfl, rfl⟩
theorem bs_29_3_0_1_2 (v0 : Int) (v1 : Int) (v2 : Int) : BuildsSlice Try.prog 29 3 [(0, .int .u64 v0), (1, .int .u64 v1), (2, .int .u64 v2)] 39 [.int .u64 v0, .int .u64 v1, .int .u64 v2] := fun w => by kernel_rfl
theorem bld_34 : ∀ w, (Instr.build 34 (#[] : Array (Nat × Value))).run Try.prog w = .ok (.agg #[.bool false, .int .i64 (0 : Int), .string ByteArray.empty]) w := fun w => by kernel_rfl
theorem bld_34_1 (v0 : Int) : ∀ w, (Instr.build 34 (#[(1, .int .i64 v0)] : Array (Nat × Value))).run Try.prog w = .ok (.agg #[.bool false, .int .i64 v0, .string ByteArray.empty]) w := fun w => by kernel_rfl
theorem bld_34_0_1_2 (v0 : Bool) (v1 : Int) (v2 : ByteArray) : ∀ w, (Instr.build 34 (#[(0, .bool v0), (1, .int .i64 v1), (2, .string v2)] : Array (Nat × Value))).run Try.prog w = .ok (.agg #[.bool v0, .int .i64 v1, .string v2]) w := fun w => by kernel_rfl
end Go.Proofs
set_option linter.unusedSimpArgs false
set_option linter.unusedVariables false
set_option maxRecDepth 20000
set_option maxHeartbeats 4000000
namespace Go.Proofs
open Go.VG
@[ext] structure ring_parts where
  seq : Int
  start : Int
  length : Int
  sum : Int
  deriving DecidableEq
theorem bld_96 : ∀ w, (Instr.build 96 (#[] : Array (Nat × Value))).run Try.prog w = .ok (.agg #[.nilIface, .int .i64 (0 : Int)]) w := fun w => by kernel_rfl
theorem bld_96_0_1 (v0 : TypeId) (v1 : Value) (v2 : Int) : ∀ w, (Instr.build 96 (#[(0, .iface v0 v1), (1, .int .i64 v2)] : Array (Nat × Value))).run Try.prog w = .ok (.agg #[.iface v0 v1, .int .i64 v2]) w := fun w => by kernel_rfl
theorem bs_38_4_0_1_2_3 (v0 : Int) (v1 : Int) (v2 : Int) (v3 : Int) : BuildsSlice Try.prog 38 4 [(0, .int .i64 v0), (1, .int .i64 v1), (2, .int .i64 v2), (3, .int .i64 v3)] 3 [.int .i64 v0, .int .i64 v1, .int .i64 v2, .int .i64 v3] := fun w => by kernel_rfl
theorem bld_103_0_1_2_3 (v0 : Int) (v1 : Int) (v2 : Int) (v3 : Int) : ∀ w, (Instr.build 103 (#[(0, .int .i64 v0), (1, .int .i64 v1), (2, .int .i64 v2), (3, .int .i64 v3)] : Array (Nat × Value))).run Try.prog w = .ok (.agg #[.int .i64 v0, .int .i64 v1, .int .i64 v2, .int .i64 v3]) w := fun w => by kernel_rfl
theorem fld_103_0 (v0 : Int) (v1 : Int) (v2 : Int) (v3 : Int) : ∀ w, (Instr.field 103 (.agg #[.int .i64 v0, .int .i64 v1, .int .i64 v2, .int .i64 v3]) 0).run Try.prog w = .ok (.int .i64 v0) w := fun w => by kernel_rfl
theorem bld_103_0_1_2 (v0 : Int) (v1 : Int) (v2 : Int) : ∀ w, (Instr.build 103 (#[(0, .int .i64 v0), (1, .int .i64 v1), (2, .int .i64 v2)] : Array (Nat × Value))).run Try.prog w = .ok (.agg #[.int .i64 v0, .int .i64 v1, .int .i64 v2, .int .i64 (0 : Int)]) w := fun w => by kernel_rfl
theorem bs_29_4_0_1_2_3 (v0 : Int) (v1 : Int) (v2 : Int) (v3 : Int) : BuildsSlice Try.prog 29 4 [(0, .int .u64 v0), (1, .int .u64 v1), (2, .int .u64 v2), (3, .int .u64 v3)] 39 [.int .u64 v0, .int .u64 v1, .int .u64 v2, .int .u64 v3] := fun w => by kernel_rfl
def ring_open (x_0 : Dvc) (s : ArrS) : Option ((Option Dvc) × Int × Nat) :=
  Option.bind (Dvc.size x_0 s) fun r3 =>
  if (r3 < (4 : Int)) then
    some ((none, (0 : Int), 3))
  else
    Option.bind (Dvc.size x_0 s) fun r7 =>
    grd (inI64 ((r7 - (2 : Int)))) <|
    some (((some x_0), (min ((r7 - (2 : Int))) (65535 : Int)), 0))
theorem L_ring_open {W : World} {vx_0 : IfH} {bs : Nat} {x_0 : Dvc} {s : ArrS} {r : (Option Dvc) × Int × Nat} (h : ring_open x_0 s = some r) :
    CSpec Try.prog W 54 [IfH.v vx_0] [DevP bs x_0 vx_0, Arr bs s] (fun x : IfH => .tuple #[.agg #[oif r.1 x, .int .i64 r.2.1], .int .i64 (((r.2.2 : Nat) : Int))]) (fun _ => True) (fun x F => DevP bs x_0 vx_0 :: Arr bs s :: optP (DevP bs · x) r.1 :: F) := by
 refine CSpec.of_body Try.func54 rfl Try.ntmps54 rfl fun F => ?_
 show CJ _ _ _ _ _ _ (_ :: _ :: F)
 unfold ring_open at h
 refine sR <| oO <| O_alloc Try.zeroValue96 rfl rfl fun b1 => oA rfl rfl <| nT <| CJ_seq <| sR <| oM rfl rfl <| RJ_pure (fun h hh => DevP_dep h (stars_perm (del1 (A := DevP bs x_0 vx_0)).out h hh)) fun hdp2 => ?_
 obtain ⟨r3, hr4, h⟩ := bind_e h
 refine oO <| O_callI rfl (dev_Size hr4 hdp2) rfl (Dels.cons del1 (Dels.cons del1 Dels.nil)) rfl fun _ _ => oP (P_lss (a := r3) (b := (4 : Int)) rfl rfl) rfl <| nT <| CJ_condP rfl bT_dec (fun hg1 => ?_) (fun hg1 => ?_)
 ·
  replace h := ite_t hg1 h
  refine sR <| oP (P_build rfl (bld_96)) rfl <| oO <| O_storeN rfl rfl foc2 Try.sizeOf96 rfl rfl rfl <| oA rfl rfl <| nT <| CJ_ret <| QJ_then_ret <| QJ_ent (fun h hh => optP_none (f := (DevP bs · ⟨0, .bool false⟩)) h hh) ?_
  cases h
  exact fE (resA2 Try.results54 (RV_cellN rfl foc3 Try.isAgg96 Try.sizeOf96 rfl rfl) (RV_tmp rfl)) ⟨0, .bool false⟩ (t1_ (t1_ (t0_ (eD eR))))
 ·
  replace h := ite_f hg1 h
  refine kT <| sR <| oM rfl rfl <| oM rfl rfl <| RJ_pure (fun h hh => DevP_dep h (stars_perm (del0 (A := DevP bs x_0 vx_0)).out h hh)) fun hdp6 => ?_
  obtain ⟨r7, hr8, h⟩ := bind_e h
  refine oO <| O_callI rfl (dev_Size hr8 hdp6) rfl (Dels.cons del0 (Dels.cons del0 Dels.nil)) rfl fun _ _ => ?_
  obtain ⟨hg2, h⟩ := grd_Ie h
  refine oP (P_sub (a := r7) (b := (2 : Int)) rfl rfl hg2) rfl <| oP (P_min (a := (r7 - (2 : Int))) (b := (65535 : Int)) rfl rfl) rfl <| oP (P_build rfl (bld_96_0_1 _ _ _)) rfl <| oO <| O_storeN rfl rfl foc2 Try.sizeOf96 rfl rfl rfl <| oA rfl rfl <| nT <| CJ_ret <| QJ_ent (Ent.trans (t0_ eR) (fun h hh => stars_dup Dup_DevP hh)) <| QJ_ent (Ent.takeC (A' := optP (DevP bs · vx_0) (some x_0)) del0 rfl eR) ?_
  cases h
  exact fE (resA2 Try.results54 (RV_cellN rfl foc3 Try.isAgg96 Try.sizeOf96 rfl rfl) (RV_tmp rfl)) vx_0 (t1_ (t1_ (t0_ (eD eR))))
def ring_area_put (a_Device : Dvc) (a_places : Int) (sector : Int) (d : UInt64) (s : ArrS) : Option (Int × ArrS) :=
  Option.bind (Dvc.wr a_Device s sector d) fun r3 =>
  if (r3.1 ≠ (0 : Int)) then
    some (r3.1, r3.2)
  else
    Option.bind (Dvc.fl a_Device r3.2) fun r6 =>
    some (r6.1, r6.2)
theorem L_ring_area_put {W : World} {va_Device : IfH} {bs : Nat} {a_Device : Dvc} {a_places : Int} {sector : Int} {d : UInt64} {s : ArrS} {r : Int × ArrS} (h : ring_area_put a_Device a_places sector d s = some r) :
    CSpec Try.prog W 60 [.agg #[IfH.v va_Device, .int .i64 a_places], .int .i64 sector, .int .u64 (d.toNat : Int)] [DevP bs a_Device va_Device, Arr bs s] (fun x : Unit => .int .i64 r.1) (fun _ => True) (fun x F => DevP bs a_Device va_Device :: Arr bs r.2 :: F) := by
 refine CSpec.of_body Try.func60 rfl Try.ntmps60 rfl fun F => ?_
 show CJ _ _ _ _ _ _ (_ :: _ :: F)
 unfold ring_area_put at h
 refine sR <| oO <| O_box rfl rfl rfl fun b1 => oA rfl rfl <| nT <| CJ_seq <| sR <| oP (P_fieldAddr rfl ⟨_, _, _, Try.runUnderlying96, rfl, rfl, Try.sizeOf26, rfl⟩) rfl <| oV (V_load rfl foc0 rfl Try.isAgg26) rfl <| oM rfl rfl <| oM rfl rfl <| RJ_pure (fun h hh => DevP_dep h (stars_perm (del1 (A := DevP bs a_Device va_Device)).out h hh)) fun hdp2 => ?_
 obtain ⟨r3, hr4, h⟩ := bind_e h
 refine oO <| O_callI rfl (dev_Write hr4 hdp2) rfl (Dels.cons del1 (Dels.cons del1 Dels.nil)) rfl fun _ _ => oA rfl rfl <| nT <| sR <| oM rfl rfl <| oP (P_neq (a := r3.1) (b := (0 : Int)) rfl rfl) rfl <| nT <| CJ_condP rfl bT_dec (fun hg1 => ?_) (fun hg1 => ?_)
 ·
  replace h := ite_t hg1 h
  refine sR <| oM rfl rfl <| oA rfl rfl <| nT <| CJ_ret <| QJ_then_ret ?_
  cases h
  exact fE (res1 Try.results60 rfl) () (t0_ (t0_ (eD eR)))
 ·
  replace h := ite_f hg1 h
  refine kT <| sR <| oP (P_fieldAddr rfl ⟨_, _, _, Try.runUnderlying96, rfl, rfl, Try.sizeOf26, rfl⟩) rfl <| oV (V_load rfl foc2 rfl Try.isAgg26) rfl <| RJ_pure (fun h hh => DevP_dep h (stars_perm (del0 (A := DevP bs a_Device va_Device)).out h hh)) fun hdp5 => ?_
  obtain ⟨r6, hr7, h⟩ := bind_e h
  refine oO <| O_callI rfl (dev_Flush hr7 hdp5) rfl (Dels.cons del0 (Dels.cons del0 Dels.nil)) rfl fun _ _ => oA rfl rfl <| nT <| CJ_ret ?_
  cases h
  exact fE (res1 Try.results60 rfl) () (t0_ (t0_ (eD eR)))
def ring_Clear (x_0 : Dvc) (s : ArrS) : Option (Int × ArrS) :=
  Option.bind (ring_open x_0 s) fun r1 =>
  if (((r1.2.2 : Nat) : Int) ≠ (0 : Int)) then
    some ((((r1.2.2 : Nat) : Int), s))
  else
    Option.elim r1.1 (
      none) fun o7 =>
    Option.bind (ring_area_put o7 r1.2.1 (0 : Int) (0 : UInt64) s) fun r8 =>
    some (r8.1, r8.2)
theorem L_ring_Clear {W : World} {vx_0 : IfH} {bs : Nat} {x_0 : Dvc} {s : ArrS} {r : Int × ArrS} (h : ring_Clear x_0 s = some r) :
    CSpec Try.prog W 29 [IfH.v vx_0] [DevP bs x_0 vx_0, Arr bs s] (fun x : Unit => .int .i64 r.1) (fun _ => True) (fun x F => DevP bs x_0 vx_0 :: Arr bs r.2 :: F) := by
 refine CSpec.of_body Try.func29 rfl Try.ntmps29 rfl fun F => ?_
 show CJ _ _ _ _ _ _ (_ :: _ :: F)
 unfold ring_Clear at h
 refine sR <| oA rfl rfl <| nT <| sR <| oM rfl rfl ?_
 obtain ⟨r1, hr2, h⟩ := bind_e h
 refine oO <| O_call (L_ring_open hr2) rfl Try.call54 (Dels.cons del0 (Dels.cons del0 Dels.nil)) rfl fun X3 _ => oM rfl rfl <| oP (P_extract rfl rfl) rfl <| oP (P_extract rfl rfl) rfl <| oO <| O_alloc Try.zeroValue96 rfl rfl fun b5 => oO <| O_storeN rfl rfl foc0 Try.sizeOf96 rfl rfl (by simp only [allOne, oneCell_oval, oneCell_oif, oneCell_oifc, Bool.true_and]; rfl) <| oA rfl rfl <| nT <| CJ_seq <| sR <| oM rfl rfl <| oP (P_neq (a := ((r1.2.2 : Nat) : Int)) (b := (0 : Int)) rfl rfl) rfl <| nT <| CJ_condP rfl bT_dec (fun hg1 => ?_) (fun hg1 => ?_)
 ·
  replace h := ite_t hg1 h
  refine sR <| oM rfl rfl <| oA rfl rfl <| nT <| CJ_ret <| QJ_then_ret ?_
  cases h
  exact fE (res1 Try.results29 rfl) () (t1_ (t1_ (eD (eD eR))))
 ·
  replace h := ite_f hg1 h
  refine kT <| sR <| oV (V_loadN rfl foc0 Try.isAgg96 Try.sizeOf96 rfl rfl) rfl ?_
  rcases opt_e h with ⟨ht6, h⟩ | ⟨o7, ht6, h⟩
  ·
   rw [ht6]
   exact RJ_ent (t0_ (t0_ (t0_ (eD eR)))) <| none_e h
  ·
   rw [ht6]
   refine RJ_ent (Ent.takeC (A' := DevP bs o7 X3) del3 rfl eR) ?_
   obtain ⟨r8, hr9, h⟩ := bind_e h
   refine oO <| O_call (L_ring_area_put hr9) rfl Try.call60 (Dels.cons del0 (Dels.cons del2 Dels.nil)) rfl fun _ _ => oA rfl rfl <| nT <| CJ_ret ?_
   cases h
   exact fE (res1 Try.results29 rfl) () (t3_ (t1_ (eD (eD eR))))
def ring_widths : Option ((List Int)) :=
  some ([(20 : Int), (16 : Int), (12 : Int), (16 : Int)])
theorem L_ring_widths {W : World} {r : (List Int)} (h : ring_widths = some r) :
    CSpec Try.prog W 83 [] [] (fun x : Sl3 => x.v) (fun _ => True) (fun x F => sl tyI x.v r :: F) := by
 refine CSpec.of_body Try.func83 rfl Try.ntmps83 rfl fun F => ?_
 show CJ _ _ _ _ _ _ (F)
 unfold ring_widths at h
 refine sR <| oA rfl rfl <| nT <| sR <| oO <| O_buildSlice rfl (bs_38_4_0_1_2_3 _ _ _ _) rfl fun b1 => RJ_ent (Ent.trans (t0_ eR) (sl_of_lit (t := tyI) (m := 4) [(20 : Int), (16 : Int), (12 : Int), (16 : Int)] rfl rfl rfl (by decide))) <| oA rfl rfl <| nT <| CJ_ret ?_
 cases h
 exact fE (res1 Try.results83 rfl) ⟨some ⟨b1, 0, none⟩, 4, 4⟩ eR
def ring_descriptor_parts (d : UInt64) : Option (ring_parts) :=
  Option.bind (ring_widths) fun r2 =>
  Option.bind (pack_Split d r2) fun r6 =>
  grd (decide (0 < r6.1.length)) <|
  grd (decide (1 < r6.1.length)) <|
  grd (decide (2 < r6.1.length)) <|
  grd (decide (3 < r6.1.length)) <|
  some ((⟨(IntKind.i64.wrap ((r6.1.getD 0 0).toNat : Int)), (IntKind.i64.wrap ((r6.1.getD 1 0).toNat : Int)), (IntKind.i64.wrap ((r6.1.getD 2 0).toNat : Int)), (IntKind.i64.wrap ((r6.1.getD 3 0).toNat : Int))⟩ : ring_parts))
theorem L_ring_descriptor_parts {W : World} {d : UInt64} {r : ring_parts} (h : ring_descriptor_parts d = some r) :
    CSpec Try.prog W 57 [.int .u64 (d.toNat : Int)] [] (fun x : Unit => .agg #[.int .i64 r.seq, .int .i64 r.start, .int .i64 r.length, .int .i64 r.sum]) (fun _ => True) (fun x F => F) := by
 refine CSpec.of_body Try.func57 rfl Try.ntmps57 rfl fun F => ?_
 show CJ _ _ _ _ _ _ (F)
 unfold ring_descriptor_parts at h
 refine sR <| oO <| O_alloc Try.zeroValue103 rfl rfl fun b1 => nT <| sR <| oM rfl rfl ?_
 obtain ⟨r2, hr3, h⟩ := bind_e h
 refine oO <| O_call (L_ring_widths hr3) rfl Try.call83 Dels.nil rfl fun X4 _ => ?_
 obtain ⟨r6, hr7, h⟩ := bind_e h
 refine oO <| O_call (L_pack_Split (Reads.sl _ _ _) hr7) rfl Try.call82 (Dels.cons del0 Dels.nil) rfl fun X8 _ => oM rfl rfl <| oP (P_extract (v := X8.v) rfl rfl) rfl <| oP (P_extract rfl rfl) rfl <| oA rfl rfl <| oA rfl rfl <| nT <| CJ_seq <| AJ_startH 131072 (by kernel_rfl) rfl <| aN 0 1 rfl rfl (P_move rfl) rfl ?_
 obtain ⟨hg1, h⟩ := grd_de h
 refine aV 1 3 rfl rfl (GY_none rfl) eR (V_index (i := 0) rfl rfl rfl hg1 foc1 (Reads.sl _ _ _) Try.runUnderlying29 Try.sizeOf39) rfl <| aV 2 7 rfl rfl (GY_none rfl) eR (V_loadE rfl rfl hg1 foc1 (Reads.sl _ _ _) rfl rfl Try.isAgg39) rfl <| aN 3 15 rfl rfl (P_conv rfl Try.runUnderlying39 Try.runUnderlying3) rfl <| aN 4 31 rfl rfl (P_move rfl) rfl ?_
 obtain ⟨hg2, h⟩ := grd_de h
 refine aV 5 63 rfl rfl (GY_none rfl) eR (V_index (i := 1) rfl rfl rfl hg2 foc1 (Reads.sl _ _ _) Try.runUnderlying29 Try.sizeOf39) rfl <| aV 6 127 rfl rfl (GY_none rfl) eR (V_loadE rfl rfl hg2 foc1 (Reads.sl _ _ _) rfl rfl Try.isAgg39) rfl <| aN 7 255 rfl rfl (P_conv rfl Try.runUnderlying39 Try.runUnderlying3) rfl <| aN 8 511 rfl rfl (P_move rfl) rfl ?_
 obtain ⟨hg3, h⟩ := grd_de h
 refine aV 9 1023 rfl rfl (GY_none rfl) eR (V_index (i := 2) rfl rfl rfl hg3 foc1 (Reads.sl _ _ _) Try.runUnderlying29 Try.sizeOf39) rfl <| aV 10 2047 rfl rfl (GY_none rfl) eR (V_loadE rfl rfl hg3 foc1 (Reads.sl _ _ _) rfl rfl Try.isAgg39) rfl <| aN 11 4095 rfl rfl (P_conv rfl Try.runUnderlying39 Try.runUnderlying3) rfl <| aN 12 8191 rfl rfl (P_move rfl) rfl ?_
 obtain ⟨hg4, h⟩ := grd_de h
 refine aV 13 16383 rfl rfl (GY_none rfl) eR (V_index (i := 3) rfl rfl rfl hg4 foc1 (Reads.sl _ _ _) Try.runUnderlying29 Try.sizeOf39) rfl <| aV 14 32767 rfl rfl (GY_none rfl) eR (V_loadE rfl rfl hg4 foc1 (Reads.sl _ _ _) rfl rfl Try.isAgg39) rfl <| aN 15 65535 rfl rfl (P_conv rfl Try.runUnderlying39 Try.runUnderlying3) rfl <| aN 16 131071 rfl rfl (P_build rfl (bld_103_0_1_2_3 _ _ _ _)) rfl <| AJ_op 17 262143 rfl (by kernel_rfl) rfl (GY_none rfl) <| O_storeN rfl rfl foc2 Try.sizeOf103 rfl rfl rfl <| ⟨fun h => absurd h (by decide), ?_⟩
 refine aD <| CJ_ret ?_
 cases h
 exact fE (resA1 Try.results57 (RV_cellN rfl foc2 Try.isAgg103 Try.sizeOf103 rfl rfl)) () (eD (eD (eD eR)))
def ring_area_sectors (a_Device : Dvc) (a_places : Int) (start : Int) (n_2 : Int) (s : ArrS) : Option (Int × Int × Dvc × Int) :=
  some (n_2, start, a_Device, a_places)
theorem L_ring_area_sectors {W : World} {va_Device : IfH} {bs : Nat} {a_Device : Dvc} {a_places : Int} {start : Int} {n_2 : Int} {s : ArrS} {r : Int × Int × Dvc × Int} (h : ring_area_sectors a_Device a_places start n_2 s = some r) :
    CSpec Try.prog W 59 [.agg #[IfH.v va_Device, .int .i64 a_places], .int .i64 start, .int .i64 n_2] [DevP bs a_Device va_Device, Arr bs s] (fun x : Nat × Nat × Nat × IfH => .func (.func 86) #[] #[ptr x.1 0, ptr x.2.1 0, ptr x.2.2.1 0]) (fun _ => True) (fun x F => DevP bs a_Device va_Device :: Arr bs s :: blk x.1 3 [.int .i64 r.1] :: blk x.2.1 3 [.int .i64 r.2.1] :: blk x.2.2.1 96 [IfH.v x.2.2.2, .int .i64 r.2.2.2] :: DevP bs r.2.2.1 x.2.2.2 :: F) := by
 refine CSpec.of_body Try.func59 rfl Try.ntmps59 rfl fun F => ?_
 show CJ _ _ _ _ _ _ (_ :: _ :: F)
 unfold ring_area_sectors at h
 refine sR <| oO <| O_box rfl rfl rfl fun b1 => oO <| O_box rfl rfl rfl fun b2 => oO <| O_box rfl rfl rfl fun b3 => oA rfl rfl <| nT <| sR <| oP (P_makeFunc rfl rfl) rfl <| oA rfl rfl <| nT <| CJ_ret <| QJ_ent (Ent.trans (t3_ eR) (fun h hh => stars_dup Dup_DevP hh)) ?_
 cases h
 exact fE (res1 Try.results59 rfl) ⟨b3, b2, b1, va_Device⟩ (t1_ (t4_ (t1_ (t1_ (t1_ eR)))))
def ring_parts_check (p : ring_parts) (words : List UInt64) : Option (Int) :=
  grd (inLen (([(to_u64 p.seq), (to_u64 p.start), (to_u64 p.length)]).length + words.length)) <|
  Option.bind (checksum_Words (([(to_u64 p.seq), (to_u64 p.start), (to_u64 p.length)] ++ words))) fun r7 =>
  Option.bind (checksum_Short r7) fun r9 =>
  some (((r9.toNat : Nat) : Int))
theorem L_ring_parts_check {W : World} {Awords : HP} {vwords : Value} {p : ring_parts} {words : List UInt64} {r : Int} (rwords : Reads Awords tyU vwords words) (h : ring_parts_check p words = some r) :
    CSpec Try.prog W 58 [.agg #[.int .i64 p.seq, .int .i64 p.start, .int .i64 p.length, .int .i64 p.sum], vwords] [Awords] (fun x : Unit => .int .i64 r) (fun _ => True) (fun x F => Awords :: F) := by
 refine CSpec.of_body Try.func58 rfl Try.ntmps58 rfl fun F => ?_
 show CJ _ _ _ _ _ _ (_ :: F)
 unfold ring_parts_check at h
 refine CJ_pure (len_of rwords del0) fun hlen1 => sR <| oO <| O_box rfl rfl rfl fun b2 => oA rfl rfl <| nT <| sR <| oP (P_fieldAddr rfl ⟨_, _, _, Try.runUnderlying103, rfl, rfl, Try.sizeOf3, rfl⟩) rfl <| oV (V_load rfl foc0 rfl Try.isAgg3) rfl <| oP (P_conv_u64 (a := p.seq) rfl Try.runUnderlying3 Try.runUnderlying39) rfl <| oP (P_fieldAddr rfl ⟨_, _, _, Try.runUnderlying103, rfl, rfl, Try.sizeOf3, rfl⟩) rfl <| oV (V_load rfl foc0 rfl Try.isAgg3) rfl <| oP (P_conv_u64 (a := p.start) rfl Try.runUnderlying3 Try.runUnderlying39) rfl <| oP (P_fieldAddr rfl ⟨_, _, _, Try.runUnderlying103, rfl, rfl, Try.sizeOf3, rfl⟩) rfl <| oV (V_load rfl foc0 rfl Try.isAgg3) rfl <| oP (P_conv_u64 (a := p.length) rfl Try.runUnderlying3 Try.runUnderlying39) rfl <| oO <| O_buildSlice rfl (bs_29_3_0_1_2 _ _ _) rfl fun b3 => RJ_ent (Ent.trans (t0_ eR) (sl_of_lit (t := tyU) (m := 3) [(to_u64 p.seq), (to_u64 p.start), (to_u64 p.length)] rfl rfl rfl (by decide))) <| oM rfl rfl ?_
 obtain ⟨hg1, h⟩ := grd_Le h
 refine oO <| O_append (t := tyU) (bytes := 8) rfl rfl del0 foc1 rwords Try.underlying29 ok_tyU (apl (m := words.length) (b := 8) hg1 (by decide)).1 (apl (m := words.length) (b := 8) hg1 (by decide)).2 rfl fun p5 c6 => oA rfl rfl <| nT <| sR <| oM rfl rfl ?_
 obtain ⟨r7, hr8, h⟩ := bind_e h
 refine oO <| O_call (L_checksum_Words (Reads.sl _ _ _) hr8) rfl Try.call85 (Dels.cons del0 Dels.nil) rfl fun _ _ => ?_
 obtain ⟨r9, hr10, h⟩ := bind_e h
 refine oO <| O_call (L_checksum_Short hr10) rfl Try.call84 Dels.nil rfl fun _ _ => oP (P_convSame rfl Try.runUnderlying71 Try.runUnderlying3 (wrap64_u _ (by have h9 := r9.toNat_lt; exact (by omega : r9.toNat < 9223372036854775808)))) rfl <| oA rfl rfl <| nT <| CJ_ret ?_
 cases h
 exact fE (res1 Try.results58 rfl) () (t2_ (eD (eD eR)))
def ring_area_text_l1_b (a_Device : Dvc) (s : ArrS) (rec : (List UInt64) → Option (((List UInt64)) ⊕ (Int × ByteArray × (List UInt64)))) (e43 : (Int × Int)) (a48 : (List UInt64)) : Option (((List UInt64)) ⊕ (Int × ByteArray × (List UInt64))) :=
  Option.bind (Dvc.rd a_Device s e43.2) fun r60 =>
  if (r60.2 ≠ (0 : Int)) then
    some (.inr ((r60.2, (ByteArray.mk #[]), a48)))
  else
    grd (decide (0 ≤ e43.1 ∧ e43.1 < (a48.length : Int))) <|
    rec ((a48.set ((e43.1).toNat) r60.1))
def ring_area_text_l1 (a_Device : Dvc) (s : ArrS) : List (Int × Int) → (List UInt64) → Option (((List UInt64)) ⊕ (Int × ByteArray × (List UInt64)))
  | [], a48 => some (.inl a48)
  | e43 :: bs54, a48 => ring_area_text_l1_b a_Device s (ring_area_text_l1 a_Device s bs54) e43 a48
def ring_area_text (a_Device : Dvc) (a_places : Int) (d : UInt64) (s : ArrS) : Option (ByteArray × Bool × Int) :=
  Option.bind (ring_descriptor_parts d) fun r5 =>
  if ((((r5.seq = (0 : Int)) ∨ (r5.length = (0 : Int))) ∨ (a_places ≤ r5.start)) ∨ (a_places < r5.length)) then
    some (((ByteArray.mk #[]), false, (0 : Int)))
  else
    grd (decide (0 ≤ r5.length ∧ r5.length ≤ 1000000000)) <|
    Option.bind (ring_area_sectors a_Device a_places r5.start r5.length s) fun r36 =>
    grd (decide (0 ≤ r36.2.1 ∧ 0 < r36.2.2.2 ∧ r36.2.1 + r36.1 ≤ 4611686018427387904 ∧ r36.2.2.2 ≤ 4611686018427387904)) <|
    Option.bind (ring_area_text_l1 a_Device s (sectorsL r36.1 r36.2.1 r36.2.2.2) ((List.replicate ((r5.length).toNat) (0 : UInt64)))) fun y47 =>
    selO y47 (fun a48 =>
      Option.bind (pack_FromText a48) fun r64 =>
      if (r64.2 = (0 : Int)) then
        Option.bind (ring_parts_check r5 a48) fun r66 =>
        some ((r64.1, (decide (r66 = r5.sum)), (0 : Int)))
      else
        some ((r64.1, false, (0 : Int)))) (fun z49 =>
      some (z49.2.1, false, z49.1))
theorem L_ring_area_text {W : World} {va_Device : IfH} {bs : Nat} {a_Device : Dvc} {a_places : Int} {d : UInt64} {s : ArrS} {r : ByteArray × Bool × Int} (h : ring_area_text a_Device a_places d s = some r) :
    CSpec Try.prog W 56 [.agg #[IfH.v va_Device, .int .i64 a_places], .int .u64 (d.toNat : Int)] [DevP bs a_Device va_Device, Arr bs s] (fun x : Unit => .tuple #[.string r.1, .bool r.2.1, .int .i64 r.2.2]) (fun _ => True) (fun x F => DevP bs a_Device va_Device :: Arr bs s :: F) := by
  refine CSpec.of_bodyM Try.func56 rfl Try.ntmps56 rfl (fun F => ?_)
  show CJ _ _ _ _ _ _ (_ :: _ :: F)
  unfold ring_area_text at h
  refine CJ_seq ?_
  refine CJ_region ?_
  refine RJ_op rfl (O_box rfl rfl rfl (fun b1 => ?_))
  refine RJ_op rfl (O_alloc Try.zeroValue9 rfl rfl (fun b2 => ?_))
  refine RJ_op rfl (O_alloc Try.zeroValue4 rfl rfl (fun b3 => ?_))
  refine RJ_op rfl (O_alloc Try.zeroValue30 rfl rfl (fun b4 => ?_))
  refine RJ_nil ?_
  refine QJ_then ?_
  refine CJ_seq ?_
  refine CJ_region ?_
  refine RJ_op rfl (OJ_P (P_move rfl) rfl ?_)
  obtain ⟨r5, hr6, h⟩ := bind_e h
  refine RJ_op rfl (O_call (L_ring_descriptor_parts hr6) rfl Try.call57 Dels.nil rfl (fun _ _ => ?_))
  refine RJ_op rfl (O_alloc Try.zeroValue103 rfl rfl (fun b7 => ?_))
  refine RJ_op rfl (O_storeN rfl rfl foc0 Try.sizeOf103 rfl rfl rfl ?_)
  refine RJ_nil ?_
  refine QJ_then ?_
  refine CJ_seq ?_
  refine CJ_seq ?_
  refine CJ_region ?_
  refine RJ_op rfl (OJ_P (P_fieldAddr rfl ⟨_, _, _, Try.runUnderlying103, rfl, rfl, Try.sizeOf3, rfl⟩) rfl ?_)
  refine RJ_op rfl (OJ_V (V_load rfl foc0 rfl Try.isAgg3) rfl ?_)
  refine RJ_op rfl (OJ_P (P_eql (a := r5.seq) (b := (0 : Int)) rfl rfl) rfl ?_)
  refine RJ_op rfl (OJ_P (P_move rfl) rfl ?_)
  refine RJ_mbF rfl rfl rfl (fun hG8 => have hP9 : ¬ (r5.seq = (0 : Int)) := nP (bT_dec) hG8; VJ_P (P_fieldAddr rfl ⟨_, _, _, Try.runUnderlying103, rfl, rfl, Try.sizeOf3, rfl⟩)) ?_
  refine RJ_mbF rfl rfl rfl (fun hG10 => have hP11 : ¬ (r5.seq = (0 : Int)) := nP (bT_dec) hG10; V_load (mbx hG10 rfl) foc0 rfl Try.isAgg3) ?_
  refine RJ_mbF rfl rfl rfl (fun hG12 => have hP13 : ¬ (r5.seq = (0 : Int)) := nP (bT_dec) hG12; VJ_P (P_eql (a := r5.length) (b := (0 : Int)) (mbx hG12 rfl) rfl)) ?_
  refine RJ_op rfl (OJ_P (P_pickOr rfl rfl (fun hh => mbx (not_f hh) rfl)) rfl ?_)
  refine RJ_op rfl (OJ_P (P_move rfl) rfl ?_)
  refine RJ_mbF rfl rfl rfl (fun hG14 => have hP15 : ¬ ((r5.seq = (0 : Int)) ∨ (r5.length = (0 : Int))) := nP ((bT_or bT_dec bT_dec)) hG14; VJ_P (P_fieldAddr rfl ⟨_, _, _, Try.runUnderlying103, rfl, rfl, Try.sizeOf3, rfl⟩)) ?_
  refine RJ_mbF rfl rfl rfl (fun hG16 => have hP17 : ¬ ((r5.seq = (0 : Int)) ∨ (r5.length = (0 : Int))) := nP ((bT_or bT_dec bT_dec)) hG16; V_load (mbx hG16 rfl) foc0 rfl Try.isAgg3) ?_
  refine RJ_mbF rfl rfl rfl (fun hG18 => have hP19 : ¬ ((r5.seq = (0 : Int)) ∨ (r5.length = (0 : Int))) := nP ((bT_or bT_dec bT_dec)) hG18; VJ_P (P_fieldAddr rfl ⟨_, _, _, Try.runUnderlying96, rfl, rfl, Try.sizeOf3, rfl⟩)) ?_
  refine RJ_mbF rfl rfl rfl (fun hG20 => have hP21 : ¬ ((r5.seq = (0 : Int)) ∨ (r5.length = (0 : Int))) := nP ((bT_or bT_dec bT_dec)) hG20; V_load (mbx hG20 rfl) foc4 rfl Try.isAgg3) ?_
  refine RJ_mbF rfl rfl rfl (fun hG22 => have hP23 : ¬ ((r5.seq = (0 : Int)) ∨ (r5.length = (0 : Int))) := nP ((bT_or bT_dec bT_dec)) hG22; VJ_P (P_geq (a := r5.start) (b := a_places) (mbx hG22 rfl) (mbx hG22 rfl))) ?_
  refine RJ_op rfl (OJ_P (P_pickOr rfl rfl (fun hh => mbx (not_f hh) rfl)) rfl ?_)
  refine RJ_op rfl (OJ_P (P_move rfl) rfl ?_)
  refine RJ_mbF rfl rfl rfl (fun hG24 => have hP25 : ¬ (((r5.seq = (0 : Int)) ∨ (r5.length = (0 : Int))) ∨ (a_places ≤ r5.start)) := nP ((bT_or (bT_or bT_dec bT_dec) bT_dec)) hG24; VJ_P (P_fieldAddr rfl ⟨_, _, _, Try.runUnderlying103, rfl, rfl, Try.sizeOf3, rfl⟩)) ?_
  refine RJ_mbF rfl rfl rfl (fun hG26 => have hP27 : ¬ (((r5.seq = (0 : Int)) ∨ (r5.length = (0 : Int))) ∨ (a_places ≤ r5.start)) := nP ((bT_or (bT_or bT_dec bT_dec) bT_dec)) hG26; V_load (mbx hG26 rfl) foc0 rfl Try.isAgg3) ?_
  refine RJ_mbF rfl rfl rfl (fun hG28 => have hP29 : ¬ (((r5.seq = (0 : Int)) ∨ (r5.length = (0 : Int))) ∨ (a_places ≤ r5.start)) := nP ((bT_or (bT_or bT_dec bT_dec) bT_dec)) hG28; VJ_P (P_fieldAddr rfl ⟨_, _, _, Try.runUnderlying96, rfl, rfl, Try.sizeOf3, rfl⟩)) ?_
  refine RJ_mbF rfl rfl rfl (fun hG30 => have hP31 : ¬ (((r5.seq = (0 : Int)) ∨ (r5.length = (0 : Int))) ∨ (a_places ≤ r5.start)) := nP ((bT_or (bT_or bT_dec bT_dec) bT_dec)) hG30; V_load (mbx hG30 rfl) foc4 rfl Try.isAgg3) ?_
  refine RJ_mbF rfl rfl rfl (fun hG32 => have hP33 : ¬ (((r5.seq = (0 : Int)) ∨ (r5.length = (0 : Int))) ∨ (a_places ≤ r5.start)) := nP ((bT_or (bT_or bT_dec bT_dec) bT_dec)) hG32; VJ_P (P_gtr (a := r5.length) (b := a_places) (mbx hG32 rfl) (mbx hG32 rfl))) ?_
  refine RJ_op rfl (OJ_P (P_pickOr rfl rfl (fun hh => mbx (not_f hh) rfl)) rfl ?_)
  refine RJ_nil ?_
  refine QJ_then ?_
  refine CJ_condP rfl (bT_or (bT_or (bT_or bT_dec bT_dec) bT_dec) bT_dec) (fun hg1 => ?_) (fun hg1 => ?_)
  ·
    replace h := ite_t hg1 h
    refine CJ_seq ?_
    refine CJ_region ?_
    refine RJ_op rfl (O_store rfl rfl foc3 rfl rfl Try.sizeOf9 ?_)
    refine RJ_op rfl (O_store rfl rfl foc2 rfl rfl Try.sizeOf4 ?_)
    refine RJ_op rfl (O_store rfl rfl foc1 rfl rfl Try.sizeOf30 ?_)
    refine RJ_nil ?_
    refine QJ_ent (Ent.take del1 (Ent.take del1 (Ent.take del1 (Ent.take del2 (Ent.take del2 (Ent.drop (Ent.drop Ent.refl))))))) ?_
    refine QJ_then ?_
    refine CJ_ret ?_
    refine QJ_then_ret ?_
    have hE := Option.some.inj h
    subst hE
    refine QJ_endM0 (.inl rfl) (resA3 Try.results56 (RV_cell rfl foc2 rfl Try.isAgg9) (RV_cell rfl foc1 rfl Try.isAgg4) (RV_cell rfl foc0 rfl Try.isAgg30)) ?_
    refine CSpec.close () ?_ ?_ (Ent.take del3 (Ent.take del3 (Ent.drop (Ent.drop (Ent.drop Ent.refl)))))
    · rfl
    · trivial
  ·
    replace h := ite_f hg1 h
    refine CJ_skip ?_
    refine QJ_then ?_
    refine CJ_seq ?_
    refine CJ_region ?_
    refine RJ_op rfl (OJ_P (P_fieldAddr rfl ⟨_, _, _, Try.runUnderlying103, rfl, rfl, Try.sizeOf3, rfl⟩) rfl ?_)
    refine RJ_op rfl (OJ_V (V_load rfl foc0 rfl Try.isAgg3) rfl ?_)
    obtain ⟨hg2, h⟩ := grd_de h
    refine RJ_op rfl (O_make (t := tyU) (m := (r5.length).toNat) (x0 := 0) (z := _) (bytes := _) rfl rfl (Int.toNat_of_nonneg (hg2.1)).symm (Int.toNat_of_nonneg (hg2.1)).symm Try.underlying29 ⟨Try.t39, by kernel_rfl, rfl, rfl, rfl⟩ rfl (by omega) (by decide) rfl (fun b34 => ?_))
    refine RJ_op rfl (O_alloc Try.zeroValue29 rfl rfl (fun b35 => ?_))
    refine RJ_op rfl (O_store rfl rfl foc0 rfl rfl Try.sizeOf29 ?_)
    refine RJ_nil ?_
    refine QJ_then ?_
    refine CJ_seq ?_
    refine CJ_seq ?_
    refine CJ_region ?_
    refine RJ_op rfl (OJ_V (V_loadN rfl foc6 Try.isAgg96 Try.sizeOf96 rfl rfl) rfl ?_)
    refine RJ_op rfl (OJ_P (P_fieldAddr rfl ⟨_, _, _, Try.runUnderlying103, rfl, rfl, Try.sizeOf3, rfl⟩) rfl ?_)
    refine RJ_op rfl (OJ_V (V_load rfl foc2 rfl Try.isAgg3) rfl ?_)
    refine RJ_op rfl (OJ_P (P_fieldAddr rfl ⟨_, _, _, Try.runUnderlying103, rfl, rfl, Try.sizeOf3, rfl⟩) rfl ?_)
    refine RJ_op rfl (OJ_V (V_load rfl foc2 rfl Try.isAgg3) rfl ?_)
    obtain ⟨r36, hr37, h⟩ := bind_e h
    refine RJ_op rfl (O_call (L_ring_area_sectors hr37) rfl Try.call59 (Dels.cons del7 (Dels.cons del7 Dels.nil)) rfl (fun X38 _ => ?_))
    refine RJ_nil ?_
    refine QJ_then ?_
    refine CJ_block ?_
    obtain ⟨hg44, h⟩ := grd_de h
    obtain ⟨y47, hl45, hK46⟩ := bind_c h
    refine CJ_range (ps := [48, 49]) (C := (List UInt64)) (Z := Int × ByteArray × (List UInt64)) (ispec_sectors hg44) rfl Try.call86 rfl (fun _ => rfl) (fun a48 R => sl tyU (.slice (some ⟨b34, 0, none⟩) ((r5.length).toNat) ((r5.length).toNat)) a48 :: blk b4 30 [.int .i64 (0 : Int)] :: blk b2 9 [.string ByteArray.empty] :: R) (fun bs54 a48 => ring_area_text_l1 a_Device s bs54 a48 = some y47) (fun z49 R => blk b4 30 [.int .i64 z49.1] :: blk b2 9 [.string z49.2.1] :: sl tyU (.slice (some ⟨b34, 0, none⟩) ((r5.length).toNat) ((r5.length).toNat)) z49.2.2 :: R) (fun z49 => y47 = .inr z49) (List.replicate ((r5.length).toNat) (0 : UInt64)) hl45 (Dels.cons del2 (Dels.cons del2 (Dels.cons del2 Dels.nil))) (Ent.take del4 (Ent.take del5 (Ent.take del6 Ent.refl))) ?_ ?_ ?_
    ·
      rintro l55 Zz bs54 e43 a48 hpre56 h
      replace h : ring_area_text_l1_b a_Device s (ring_area_text_l1 a_Device s bs54) e43 a48 = some y47 := h
      unfold ring_area_text_l1_b at h
      show CJ _ _ _ _ _ (([(49, .int .i64 e43.2), (48, .int .i64 e43.1)] : Slots) ++ _) (Zz :: sl tyU (.slice (some ⟨b34, 0, none⟩) ((r5.length).toNat) ((r5.length).toNat)) a48 :: blk b4 30 [.int .i64 (0 : Int)] :: blk b2 9 [.string ByteArray.empty] :: _)
      refine CJ_pure (len_of (Reads.sl _ _ _) del1) (fun hlen57 => ?_)
      refine CJ_seq ?_
      refine CJ_region ?_
      refine RJ_op rfl (OJ_P (P_assign rfl) rfl ?_)
      refine RJ_nil ?_
      refine QJ_then ?_
      refine CJ_region ?_
      refine RJ_op rfl (OJ_P (P_assign rfl) rfl ?_)
      refine RJ_nil ?_
      refine QJ_begin (fun Zz58 => ?_)
      refine CJ_block ?_
      refine CJ_seq ?_
      refine CJ_region ?_
      refine RJ_op rfl (OJ_P (P_fieldAddr rfl ⟨_, _, _, Try.runUnderlying96, rfl, rfl, Try.sizeOf26, rfl⟩) rfl ?_)
      refine RJ_op rfl (OJ_V (V_load rfl foc10 rfl Try.isAgg26) rfl ?_)
      refine RJ_op rfl (OJ_P (P_move rfl) rfl ?_)
      refine RJ_pure (fun h hh => DevP_dep h (stars_perm (del4 (A := DevP bs a_Device va_Device)).out h hh)) (fun hdp59 => ?_)
      obtain ⟨r60, hr61, h⟩ := bind_e h
      refine RJ_op rfl (O_callI rfl (dev_Read hr61 hdp59) rfl (Dels.cons del4 (Dels.cons del4 Dels.nil)) rfl (fun _ _ => ?_))
      refine RJ_op rfl (OJ_P (P_move rfl) rfl ?_)
      refine RJ_op rfl (OJ_P (P_extract rfl rfl) rfl ?_)
      refine RJ_op rfl (OJ_P (P_extract rfl rfl) rfl ?_)
      refine RJ_op rfl (OJ_P (P_assign rfl) rfl ?_)
      refine RJ_op rfl (OJ_P (P_assign rfl) rfl ?_)
      refine RJ_nil ?_
      refine QJ_then ?_
      refine CJ_seq ?_
      refine CJ_seq ?_
      refine CJ_region ?_
      refine RJ_op rfl (OJ_P (P_move rfl) rfl ?_)
      refine RJ_op rfl (OJ_P (P_neq (a := r60.2) (b := (0 : Int)) rfl rfl) rfl ?_)
      refine RJ_nil ?_
      refine QJ_then ?_
      refine CJ_condP rfl bT_dec (fun hg3 => ?_) (fun hg3 => ?_)
      ·
        replace h := ite_t hg3 h
        refine CJ_seq ?_
        refine CJ_region ?_
        refine RJ_op rfl (OJ_P (P_move rfl) rfl ?_)
        refine RJ_op rfl (O_store rfl rfl foc5 rfl rfl Try.sizeOf9 ?_)
        refine RJ_op rfl (O_store rfl rfl foc9 rfl rfl Try.sizeOf4 ?_)
        refine RJ_op rfl (O_store rfl rfl foc4 rfl rfl Try.sizeOf30 ?_)
        refine RJ_nil ?_
        refine QJ_then ?_
        refine CJ_ret ?_
        refine QJ_then_ret ?_
        refine QJ_block_ret ?_
        refine QJ_rngR (r60.2, (ByteArray.mk #[]), a48) ?_ (Ent.take del2 (Ent.take del3 (Ent.take del3 (Ent.take del2 Ent.refl))))
        exact (Option.some.inj h).symm
      ·
        replace h := ite_f hg3 h
        refine CJ_skip ?_
        refine QJ_then ?_
        refine CJ_region ?_
        refine RJ_op rfl (OJ_V (V_load rfl foc7 rfl Try.isAgg29) rfl ?_)
        refine RJ_op rfl (OJ_P (P_move rfl) rfl ?_)
        refine RJ_op rfl (OJ_P (P_move rfl) rfl ?_)
        obtain ⟨hg4, h⟩ := grd_de h
        refine RJ_op rfl (OJ_V (V_index (i := (e43.1).toNat) rfl rfl (Int.toNat_of_nonneg (hg4.1)).symm (by omega) foc3 (Reads.sl _ _ _) Try.runUnderlying29 Try.sizeOf39) rfl ?_)
        refine RJ_op rfl (O_storeE (x' := r60.1) rfl rfl rfl (by omega) foc3 rfl rfl rfl Try.sizeOf39 ?_)
        refine RJ_nil ?_
        refine QJ_block_normal ?_
        refine QJ_rng (a48.set ((e43.1).toNat) r60.1) ?_ (Ent.take del2 (Ent.take del2 (Ent.take del2 (Ent.take del2 Ent.refl))))
        exact h
    ·
      rintro D62 a48 hy63
      replace h := sel_inl hK46 (show some (.inl a48) = some y47 from hy63)
      show QJ _ _ _ _ _ (dblk D62 :: blk X38.1 3 [.int .i64 r36.1] :: blk X38.2.1 3 [.int .i64 r36.2.1] :: blk X38.2.2.1 96 [IfH.v X38.2.2.2, .int .i64 r36.2.2.2] :: sl tyU (.slice (some ⟨b34, 0, none⟩) ((r5.length).toNat) ((r5.length).toNat)) a48 :: blk b4 30 [.int .i64 (0 : Int)] :: blk b2 9 [.string ByteArray.empty] :: _)
      refine QJ_block_normal ?_
      refine QJ_ent (Ent.take del0 (Ent.take del3 (Ent.take del3 (Ent.take del3 (Ent.take del3 (Ent.take del3 (Ent.take del4 (Ent.take del4 (Ent.take del4 (Ent.drop (Ent.drop (Ent.drop (Ent.drop (Ent.drop Ent.refl)))))))))))))) ?_
      refine QJ_then ?_
      refine CJ_seq ?_
      refine CJ_region ?_
      refine RJ_op rfl (OJ_V (V_load rfl foc6 rfl Try.isAgg29) rfl ?_)
      obtain ⟨r64, hr65, h⟩ := bind_e h
      refine RJ_op rfl (O_call (L_pack_FromText (Reads.sl _ _ _) hr65) rfl Try.call81 (Dels.cons del1 Dels.nil) rfl (fun _ _ => ?_))
      refine RJ_op rfl (OJ_P (P_move rfl) rfl ?_)
      refine RJ_op rfl (OJ_P (P_extract rfl rfl) rfl ?_)
      refine RJ_op rfl (OJ_P (P_extract rfl rfl) rfl ?_)
      refine RJ_op rfl (OJ_P (P_assign rfl) rfl ?_)
      refine RJ_op rfl (OJ_P (P_assign rfl) rfl ?_)
      refine RJ_nil ?_
      refine QJ_then ?_
      refine CJ_seq ?_
      refine AJ_start [sl tyU (.slice (some ⟨b34, 0, none⟩) ((r5.length).toNat) ((r5.length).toNat)) a48, dblk D62, blk b4 30 [.int .i64 (0 : Int)], DevP bs a_Device va_Device, Arr bs s, blk b35 29 [.slice (some ⟨b34, 0, none⟩) ((r5.length).toNat) ((r5.length).toNat)], blk b7 103 [.int .i64 r5.seq, .int .i64 r5.start, .int .i64 r5.length, .int .i64 r5.sum], blk b3 4 [.bool false]] 12288 (by kernel_rfl) rfl ?_
      refine AJ_takeP 0 1 rfl (by kernel_rfl) rfl (GY_none rfl) (P_move rfl) rfl (fun _ _ _ _ h => h) ?_
      refine AJ_takeP 1 3 rfl (by kernel_rfl) rfl (GY_none rfl) (P_move rfl) rfl (fun _ _ _ _ h => h) ?_
      refine AJ_takeP 2 7 rfl (by kernel_rfl) rfl (GY_none rfl) (P_eql (a := r64.2) (b := (0 : Int)) rfl rfl) rfl (fun _ _ _ _ h => h) ?_
      refine AJ_takeP 3 15 rfl (by kernel_rfl) rfl (GY_none rfl) (P_move rfl) rfl (fun _ _ _ _ h => h) ?_
      refine AJ_splitP 72 rfl bT_dec (fun hg5B hg5 => ?_) (fun hg5B hg5 => ?_)
      ·
        replace h := ite_t hg5 h
        refine AJ_takeV 4 31 rfl (by kernel_rfl) rfl (by kernel_rfl) (by kernel_rfl) (GY_yes rfl rfl rfl hg5B) (Ent.take del0 (Ent.take del0 (Ent.take del0 (Ent.take del1 (Ent.take del1 (Ent.take del1 (Ent.take del1 (Ent.take del1 Ent.done)))))))) (V_loadN rfl foc6 Try.isAgg103 Try.sizeOf103 rfl rfl) rfl (fun _ _ _ _ h => h) ?_
        refine AJ_takeV 5 63 rfl (by kernel_rfl) rfl (by kernel_rfl) (by kernel_rfl) (GY_yes rfl rfl rfl hg5B) (Ent.take del0 (Ent.take del0 (Ent.take del0 (Ent.take del1 (Ent.take del1 (Ent.take del1 (Ent.take del1 (Ent.take del1 Ent.done)))))))) (V_load rfl foc5 rfl Try.isAgg29) rfl (fun _ _ _ _ h => h) ?_
        refine AJ_takeP 7 191 rfl (by kernel_rfl) rfl (GY_yes rfl rfl rfl hg5B) (P_fieldAddr rfl ⟨_, _, _, Try.runUnderlying103, rfl, rfl, Try.sizeOf3, rfl⟩) rfl (fun _ _ _ _ h => h) ?_
        refine AJ_takeV 8 447 rfl (by kernel_rfl) rfl (by kernel_rfl) (by kernel_rfl) (GY_yes rfl rfl rfl hg5B) (Ent.take del0 (Ent.take del0 (Ent.take del0 (Ent.take del1 (Ent.take del1 (Ent.take del1 (Ent.take del1 (Ent.take del1 Ent.done)))))))) (V_load rfl foc6 rfl Try.isAgg3) rfl (fun _ _ _ _ h => h) ?_
        obtain ⟨r66, hr67, h⟩ := bind_e h
        refine AJ_op 6 511 rfl (by kernel_rfl) rfl (GY_yes rfl rfl rfl hg5B) (O_call (L_ring_parts_check (Reads.sl _ _ _) hr67) rfl Try.call58 (Dels.cons del0 Dels.nil) rfl (fun _ _ => ?_))
        refine ⟨fun _ => (Ent.take del0 (Ent.take del0 (Ent.take del0 (Ent.take del1 (Ent.take del1 (Ent.take del1 (Ent.take del1 (Ent.take del1 Ent.done)))))))), ?_⟩
        refine AJ_takeP 9 1023 rfl (by kernel_rfl) rfl (GY_yes rfl rfl rfl hg5B) (P_eql (a := r66) (b := r5.sum) rfl rfl) rfl (fun _ _ _ _ h => h) ?_
        refine AJ_takeP 10 2047 rfl (by kernel_rfl) rfl (GY_none rfl) (P_pickT rfl hg5B rfl) rfl (fun _ _ _ _ h => h) ?_
        refine AJ_op 11 4095 rfl (by kernel_rfl) rfl (GY_none rfl) (O_store rfl rfl foc3 rfl rfl Try.sizeOf9 ?_)
        refine ⟨fun _ => (Ent.take del0 (Ent.take del0 (Ent.take del0 (Ent.take del1 (Ent.take del1 (Ent.take del1 (Ent.take del1 (Ent.take del1 Ent.done)))))))), ?_⟩
        refine AJ_op 12 8191 rfl (by kernel_rfl) rfl (GY_none rfl) (O_store rfl rfl foc8 rfl rfl Try.sizeOf4 ?_)
        refine ⟨fun h => absurd h (by decide), ?_⟩
        refine AJ_op 13 16383 rfl (by kernel_rfl) rfl (GY_none rfl) (O_store rfl rfl foc2 rfl rfl Try.sizeOf30 ?_)
        refine ⟨fun h => absurd h (by decide), ?_⟩
        refine AJ_done (by kernel_rfl) ?_
        refine QJ_ent (Ent.take del1 (Ent.take del1 (Ent.take del1 (Ent.take del1 (Ent.take del1 (Ent.take del3 (Ent.drop (Ent.drop (Ent.drop Ent.refl))))))))) ?_
        refine QJ_then ?_
        refine CJ_ret ?_
        have hE := Option.some.inj h
        subst hE
        refine QJ_endM1 (.inl rfl) del0 (resA3 Try.results56 (RV_cell rfl foc2 rfl Try.isAgg9) (RV_cell rfl foc5 rfl Try.isAgg4) (RV_cell rfl foc1 rfl Try.isAgg30)) rfl ?_
        refine CSpec.close () ?_ ?_ (Ent.take del2 (Ent.take del2 (Ent.drop (Ent.drop (Ent.drop Ent.refl)))))
        · rfl
        · trivial
      ·
        replace h := ite_f hg5 h
        refine AJ_skip 4 31 rfl (by kernel_rfl) rfl (GY_no rfl rfl rfl hg5B) rfl (fun _ _ _ _ h => h) ?_
        refine AJ_skip 5 63 rfl (by kernel_rfl) rfl (GY_no rfl rfl rfl hg5B) rfl (fun _ _ _ _ h => h) ?_
        refine AJ_skip 7 191 rfl (by kernel_rfl) rfl (GY_no rfl rfl rfl hg5B) rfl (fun _ _ _ _ h => h) ?_
        refine AJ_skip 8 447 rfl (by kernel_rfl) rfl (GY_no rfl rfl rfl hg5B) rfl (fun _ _ _ _ h => h) ?_
        refine AJ_skip 6 511 rfl (by kernel_rfl) rfl (GY_no rfl rfl rfl hg5B) rfl (fun _ _ _ _ h => h) ?_
        refine AJ_skip 9 1023 rfl (by kernel_rfl) rfl (GY_no rfl rfl rfl hg5B) rfl (fun _ _ _ _ h => h) ?_
        refine AJ_takeP 10 2047 rfl (by kernel_rfl) rfl (GY_none rfl) (P_pickF rfl hg5B rfl) rfl (fun _ _ _ _ h => h) ?_
        refine AJ_op 11 4095 rfl (by kernel_rfl) rfl (GY_none rfl) (O_store rfl rfl foc3 rfl rfl Try.sizeOf9 ?_)
        refine ⟨fun _ => (Ent.take del0 (Ent.take del0 (Ent.take del0 (Ent.take del1 (Ent.take del1 (Ent.take del1 (Ent.take del1 (Ent.take del1 Ent.done)))))))), ?_⟩
        refine AJ_op 12 8191 rfl (by kernel_rfl) rfl (GY_none rfl) (O_store rfl rfl foc8 rfl rfl Try.sizeOf4 ?_)
        refine ⟨fun h => absurd h (by decide), ?_⟩
        refine AJ_op 13 16383 rfl (by kernel_rfl) rfl (GY_none rfl) (O_store rfl rfl foc2 rfl rfl Try.sizeOf30 ?_)
        refine ⟨fun h => absurd h (by decide), ?_⟩
        refine AJ_done (by kernel_rfl) ?_
        refine QJ_ent (Ent.take del1 (Ent.take del1 (Ent.take del1 (Ent.take del1 (Ent.take del1 (Ent.take del3 (Ent.drop (Ent.drop (Ent.drop Ent.refl))))))))) ?_
        refine QJ_then ?_
        refine CJ_ret ?_
        have hE := Option.some.inj h
        subst hE
        refine QJ_endM1 (.inl rfl) del0 (resA3 Try.results56 (RV_cell rfl foc2 rfl Try.isAgg9) (RV_cell rfl foc5 rfl Try.isAgg4) (RV_cell rfl foc1 rfl Try.isAgg30)) rfl ?_
        refine CSpec.close () ?_ ?_ (Ent.take del2 (Ent.take del2 (Ent.drop (Ent.drop (Ent.drop Ent.refl)))))
        · rfl
        · trivial
    ·
      rintro D68 z49 hy69
      replace h := sel_inr hK46 hy69
      show QJ _ _ _ _ _ (dblk D68 :: blk X38.1 3 [.int .i64 r36.1] :: blk X38.2.1 3 [.int .i64 r36.2.1] :: blk X38.2.2.1 96 [IfH.v X38.2.2.2, .int .i64 r36.2.2.2] :: blk b4 30 [.int .i64 z49.1] :: blk b2 9 [.string z49.2.1] :: sl tyU (.slice (some ⟨b34, 0, none⟩) ((r5.length).toNat) ((r5.length).toNat)) z49.2.2 :: _)
      refine QJ_block_ret ?_
      refine QJ_then_ret ?_
      have hE := Option.some.inj h
      subst hE
      refine QJ_endM1 (.inl rfl) del0 (resA3 Try.results56 (RV_cell rfl foc5 rfl Try.isAgg9) (RV_cell rfl foc12 rfl Try.isAgg4) (RV_cell rfl foc4 rfl Try.isAgg30)) rfl ?_
      refine CSpec.close () ?_ ?_ (Ent.take del6 (Ent.take del6 (Ent.drop (Ent.drop (Ent.drop (Ent.drop (Ent.drop (Ent.drop (Ent.drop (Ent.drop (Ent.drop (Ent.drop (Ent.drop Ent.refl)))))))))))))
      · rfl
      · trivial
def ring_Read (x_0 : Dvc) (s : ArrS) : Option (api_Copy × Int) :=
  Option.bind (ring_open x_0 s) fun r2 =>
  if (((r2.2.2 : Nat) : Int) ≠ (0 : Int)) then
    some (((⟨false, (0 : Int), ByteArray.empty⟩ : api_Copy), ((r2.2.2 : Nat) : Int)))
  else
    Option.elim r2.1 (
      none) fun o8 =>
    Option.bind (Dvc.rd o8 s (0 : Int)) fun r10 =>
    if (r10.2 ≠ (0 : Int)) then
      some (((⟨false, (0 : Int), ByteArray.empty⟩ : api_Copy), r10.2))
    else
      if (r10.1 = (0 : UInt64)) then
        some (((⟨false, (0 : Int), ByteArray.empty⟩ : api_Copy), (12 : Int)))
      else
        Option.bind (ring_area_text o8 r2.2.1 r10.1 s) fun r12 =>
        if (r12.2.2 ≠ (0 : Int)) then
          some (((⟨false, (0 : Int), ByteArray.empty⟩ : api_Copy), r12.2.2))
        else
          if (¬ r12.2.1 = true) then
            Option.bind (ring_descriptor_parts r10.1) fun r14 =>
            some (((⟨false, r14.seq, ByteArray.empty⟩ : api_Copy), (11 : Int)))
          else
            Option.bind (ring_descriptor_parts r10.1) fun r16 =>
            some (((⟨true, r16.seq, r12.1⟩ : api_Copy), (0 : Int)))
theorem L_ring_Read {W : World} {vx_0 : IfH} {bs : Nat} {x_0 : Dvc} {s : ArrS} {r : api_Copy × Int} (h : ring_Read x_0 s = some r) :
    CSpec Try.prog W 18 [IfH.v vx_0] [DevP bs x_0 vx_0, Arr bs s] (fun x : Unit => .tuple #[.agg #[.bool r.1.Valid, .int .i64 r.1.Seq, .string r.1.Text], .int .i64 r.2]) (fun _ => True) (fun x F => DevP bs x_0 vx_0 :: Arr bs s :: F) := by
 refine CSpec.of_body Try.func18 rfl Try.ntmps18 rfl fun F => ?_
 show CJ _ _ _ _ _ _ (_ :: _ :: F)
 unfold ring_Read at h
 refine sR <| oO <| O_alloc Try.zeroValue34 rfl rfl fun b1 => oA rfl rfl <| nT <| sR <| oM rfl rfl ?_
 obtain ⟨r2, hr3, h⟩ := bind_e h
 refine oO <| O_call (L_ring_open hr3) rfl Try.call54 (Dels.cons del1 (Dels.cons del1 Dels.nil)) rfl fun X4 _ => oM rfl rfl <| oP (P_extract rfl rfl) rfl <| oP (P_extract rfl rfl) rfl <| oO <| O_alloc Try.zeroValue96 rfl rfl fun b6 => oO <| O_storeN rfl rfl foc0 Try.sizeOf96 rfl rfl (by simp only [allOne, oneCell_oval, oneCell_oif, oneCell_oifc, Bool.true_and]; rfl) <| oA rfl rfl <| nT <| CJ_seq <| sR <| oM rfl rfl <| oP (P_neq (a := ((r2.2.2 : Nat) : Int)) (b := (0 : Int)) rfl rfl) rfl <| nT <| CJ_condP rfl bT_dec (fun hg1 => ?_) (fun hg1 => ?_)
 ·
  replace h := ite_t hg1 h
  refine sR <| oP (P_build rfl (bld_34)) rfl <| oM rfl rfl <| oO <| O_storeN rfl rfl foc4 Try.sizeOf34 rfl rfl rfl <| oA rfl rfl <| nT <| CJ_ret <| QJ_then_ret ?_
  cases h
  exact fE (resA2 Try.results18 (RV_cellN rfl foc4 Try.isAgg34 Try.sizeOf34 rfl rfl) (RV_tmp rfl)) () (t1_ (t1_ (eD (eD (eD eR)))))
 ·
  replace h := ite_f hg1 h
  refine kT <| sR <| oP (P_fieldAddr rfl ⟨_, _, _, Try.runUnderlying96, rfl, rfl, Try.sizeOf26, rfl⟩) rfl <| oV (V_load rfl foc0 rfl Try.isAgg26) rfl ?_
  rcases opt_e h with ⟨ht7, h⟩ | ⟨o8, ht7, h⟩
  ·
   rw [ht7]
   exact RJ_ent (t0_ (t0_ (t0_ (t1_ (eD eR))))) <| none_e h
  ·
   rw [ht7]
   refine RJ_ent (Ent.takeC (A' := DevP bs o8 X4) del3 rfl eR) <| RJ_pure (fun h hh => DevP_dep h (stars_perm (del0 (A := DevP bs o8 X4)).out h hh)) fun hdp9 => ?_
   obtain ⟨r10, hr11, h⟩ := bind_e h
   refine oO <| O_callI rfl (dev_Read hr11 hdp9) rfl (Dels.cons del0 (Dels.cons del2 Dels.nil)) rfl fun _ _ => oM rfl rfl <| oP (P_extract rfl rfl) rfl <| oP (P_extract rfl rfl) rfl <| oA rfl rfl <| oA rfl rfl <| nT <| CJ_seq <| sR <| oM rfl rfl <| oP (P_neq (a := r10.2) (b := (0 : Int)) rfl rfl) rfl <| nT <| CJ_condP rfl bT_dec (fun hg2 => ?_) (fun hg2 => ?_)
   ·
    replace h := ite_t hg2 h
    refine sR <| oP (P_build rfl (bld_34)) rfl <| oM rfl rfl <| oO <| O_storeN rfl rfl foc4 Try.sizeOf34 rfl rfl rfl <| oA rfl rfl <| nT <| CJ_ret <| QJ_then_ret ?_
    cases h
    exact fE (resA2 Try.results18 (RV_cellN rfl foc4 Try.isAgg34 Try.sizeOf34 rfl rfl) (RV_tmp rfl)) () (t3_ (t1_ (eD (eD (eD eR)))))
   ·
    replace h := ite_f hg2 h
    refine kT <| CJ_seq <| sR <| oM rfl rfl <| oP (P_eq_u64 (a := r10.1) (b := (0 : UInt64)) rfl rfl) rfl <| nT <| CJ_condP rfl bT_dec (fun hg3 => ?_) (fun hg3 => ?_)
    ·
     replace h := ite_t hg3 h
     refine sR <| oP (P_build rfl (bld_34)) rfl <| oO <| O_storeN rfl rfl foc4 Try.sizeOf34 rfl rfl rfl <| oA rfl rfl <| nT <| CJ_ret <| QJ_then_ret ?_
     cases h
     exact fE (resA2 Try.results18 (RV_cellN rfl foc4 Try.isAgg34 Try.sizeOf34 rfl rfl) (RV_tmp rfl)) () (t3_ (t1_ (eD (eD (eD eR)))))
    ·
     replace h := ite_f hg3 h
     refine kT <| sR <| oM rfl rfl <| oA rfl rfl <| nT <| sR <| oV (V_loadN rfl foc2 Try.isAgg96 Try.sizeOf96 rfl rfl) rfl <| oM rfl rfl ?_
     obtain ⟨r12, hr13, h⟩ := bind_e h
     refine oO <| O_call (L_ring_area_text hr13) rfl Try.call56 (Dels.cons del0 (Dels.cons del0 Dels.nil)) rfl fun _ _ => oM rfl rfl <| oP (P_extract rfl rfl) rfl <| oP (P_extract rfl rfl) rfl <| oP (P_extract rfl rfl) rfl <| oA rfl rfl <| oA rfl rfl <| oA rfl rfl <| nT <| CJ_seq <| CJ_block <| sR <| oM rfl rfl <| oP (P_neq (a := r12.2.2) (b := (0 : Int)) rfl rfl) rfl <| oA rfl rfl <| nT <| CJ_condP rfl bT_dec (fun hg4 => ?_) (fun hg4 => ?_)
     ·
      replace h := ite_t hg4 h
      refine sR <| oP (P_build rfl (bld_34)) rfl <| oM rfl rfl <| oO <| O_storeN rfl rfl foc4 Try.sizeOf34 rfl rfl rfl <| oA rfl rfl <| nT <| CJ_ret <| QJ_block_ret <| QJ_then_ret ?_
      cases h
      exact fE (resA2 Try.results18 (RV_cellN rfl foc4 Try.isAgg34 Try.sizeOf34 rfl rfl) (RV_tmp rfl)) () (t3_ (t1_ (eD (eD (eD eR)))))
     ·
      replace h := ite_f hg4 h
      refine sR <| oM rfl rfl <| oP (P_not rfl) rfl <| oA rfl rfl <| nT <| CJ_condP rfl (bT_not Iff.rfl) (fun hg5 => ?_) (fun hg5 => ?_)
      ·
       replace h := ite_t hg5 h
       refine sR <| oM rfl rfl ?_
       obtain ⟨r14, hr15, h⟩ := bind_e h
       refine oO <| O_call (L_ring_descriptor_parts hr15) rfl Try.call57 Dels.nil rfl fun _ _ => oP (P_field rfl (fld_103_0 _ _ _ _)) rfl <| oP (P_build rfl (bld_34_1 _)) rfl <| oO <| O_storeN rfl rfl foc4 Try.sizeOf34 rfl rfl rfl <| oA rfl rfl <| nT <| CJ_ret <| QJ_block_ret <| QJ_then_ret ?_
       cases h
       exact fE (resA2 Try.results18 (RV_cellN rfl foc4 Try.isAgg34 Try.sizeOf34 rfl rfl) (RV_tmp rfl)) () (t3_ (t1_ (eD (eD (eD eR)))))
      ·
       replace h := ite_f hg5 h
       refine CJ_skip <| QJ_block_normal <| QJ_then <| sR <| oM rfl rfl ?_
       obtain ⟨r16, hr17, h⟩ := bind_e h
       refine oO <| O_call (L_ring_descriptor_parts hr17) rfl Try.call57 Dels.nil rfl fun _ _ => oP (P_field rfl (fld_103_0 _ _ _ _)) rfl <| oM rfl rfl <| oP (P_build rfl (bld_34_0_1_2 _ _ _)) rfl <| oO <| O_storeN rfl rfl foc4 Try.sizeOf34 rfl rfl rfl <| oA rfl rfl <| nT <| CJ_ret ?_
       cases h
       exact fE (resA2 Try.results18 (RV_cellN rfl foc4 Try.isAgg34 Try.sizeOf34 rfl rfl) (RV_tmp rfl)) () (t3_ (t1_ (eD (eD (eD eR)))))
def ring_Seqs (x_0 : Dvc) (s : ArrS) : Option (Int × Int × Int) :=
  Option.bind (ring_open x_0 s) fun r1 =>
  if (((r1.2.2 : Nat) : Int) ≠ (0 : Int)) then
    some (((0 : Int), (0 : Int), ((r1.2.2 : Nat) : Int)))
  else
    Option.elim r1.1 (
      none) fun o7 =>
    Option.bind (block_ReadAll o7 (0 : Int) (2 : Int) s) fun r8 =>
    if (r8.2 ≠ (0 : Int)) then
      some (((0 : Int), (0 : Int), r8.2))
    else
      grd (decide (0 < r8.1.length)) <|
      grd (decide (1 < r8.1.length)) <|
      Option.bind (ring_descriptor_parts (r8.1.getD 0 0)) fun r12 =>
      Option.bind (ring_descriptor_parts (r8.1.getD 1 0)) fun r14 =>
      some ((r12.seq, r14.seq, (0 : Int)))
theorem L_ring_Seqs {W : World} {vx_0 : IfH} {bs : Nat} {x_0 : Dvc} {s : ArrS} {r : Int × Int × Int} (h : ring_Seqs x_0 s = some r) :
    CSpec Try.prog W 25 [IfH.v vx_0] [DevP bs x_0 vx_0, Arr bs s] (fun x : Unit => .tuple #[.int .i64 r.1, .int .i64 r.2.1, .int .i64 r.2.2]) (fun _ => True) (fun x F => DevP bs x_0 vx_0 :: Arr bs s :: F) := by
 refine CSpec.of_body Try.func25 rfl Try.ntmps25 rfl fun F => ?_
 show CJ _ _ _ _ _ _ (_ :: _ :: F)
 unfold ring_Seqs at h
 refine sR <| oA rfl rfl <| oA rfl rfl <| oA rfl rfl <| nT <| sR <| oM rfl rfl ?_
 obtain ⟨r1, hr2, h⟩ := bind_e h
 refine oO <| O_call (L_ring_open hr2) rfl Try.call54 (Dels.cons del0 (Dels.cons del0 Dels.nil)) rfl fun X3 _ => oM rfl rfl <| oP (P_extract rfl rfl) rfl <| oP (P_extract rfl rfl) rfl <| oO <| O_alloc Try.zeroValue96 rfl rfl fun b5 => oO <| O_storeN rfl rfl foc0 Try.sizeOf96 rfl rfl (by simp only [allOne, oneCell_oval, oneCell_oif, oneCell_oifc, Bool.true_and]; rfl) <| oA rfl rfl <| nT <| CJ_seq <| sR <| oM rfl rfl <| oP (P_neq (a := ((r1.2.2 : Nat) : Int)) (b := (0 : Int)) rfl rfl) rfl <| nT <| CJ_condP rfl bT_dec (fun hg1 => ?_) (fun hg1 => ?_)
 ·
  replace h := ite_t hg1 h
  refine sR <| oM rfl rfl <| oA rfl rfl <| oA rfl rfl <| oA rfl rfl <| nT <| CJ_ret <| QJ_then_ret ?_
  cases h
  exact fE (res3 Try.results25 rfl rfl rfl) () (t1_ (t1_ (eD (eD eR))))
 ·
  replace h := ite_f hg1 h
  refine kT <| sR <| oP (P_fieldAddr rfl ⟨_, _, _, Try.runUnderlying96, rfl, rfl, Try.sizeOf26, rfl⟩) rfl <| oV (V_load rfl foc0 rfl Try.isAgg26) rfl ?_
  rcases opt_e h with ⟨ht6, h⟩ | ⟨o7, ht6, h⟩
  ·
   rw [ht6]
   exact RJ_ent (t0_ (t0_ (t0_ (eD eR)))) <| none_e h
  ·
   rw [ht6]
   refine RJ_ent (Ent.takeC (A' := DevP bs o7 X3) del3 rfl eR) ?_
   obtain ⟨r8, hr9, h⟩ := bind_e h
   refine oO <| O_call (L_block_ReadAll hr9) rfl Try.call62 (Dels.cons del0 (Dels.cons del2 Dels.nil)) rfl fun X10 _ => oM rfl rfl <| oP (P_extract (v := X10.v) rfl rfl) rfl <| oP (P_extract rfl rfl) rfl <| oA rfl rfl <| oA rfl rfl <| nT <| CJ_seq <| sR <| oM rfl rfl <| oP (P_neq (a := r8.2) (b := (0 : Int)) rfl rfl) rfl <| nT <| CJ_condP rfl bT_dec (fun hg2 => ?_) (fun hg2 => ?_)
   ·
    replace h := ite_t hg2 h
    refine sR <| oM rfl rfl <| oA rfl rfl <| oA rfl rfl <| oA rfl rfl <| nT <| CJ_ret <| QJ_then_ret ?_
    cases h
    exact fE (res3 Try.results25 rfl rfl rfl) () (t4_ (t1_ (eD (eD (eD eR)))))
   ·
    replace h := ite_f hg2 h
    refine kT <| CJ_seq <| AJ_startH 256 (by kernel_rfl) rfl <| aN 0 1 rfl rfl (P_move rfl) rfl ?_
    obtain ⟨hg3, h⟩ := grd_de h
    refine aV 1 3 rfl rfl (GY_none rfl) eR (V_index (i := 0) rfl rfl rfl hg3 foc2 (Reads.sl _ _ _) Try.runUnderlying29 Try.sizeOf39) rfl <| aV 2 7 rfl rfl (GY_none rfl) eR (V_loadE rfl rfl hg3 foc2 (Reads.sl _ _ _) rfl rfl Try.isAgg39) rfl <| aN 5 39 rfl rfl (P_move rfl) rfl ?_
    obtain ⟨hg4, h⟩ := grd_de h
    refine aV 6 103 rfl rfl (GY_none rfl) eR (V_index (i := 1) rfl rfl rfl hg4 foc2 (Reads.sl _ _ _) Try.runUnderlying29 Try.sizeOf39) rfl <| aV 7 231 rfl rfl (GY_none rfl) eR (V_loadE rfl rfl hg4 foc2 (Reads.sl _ _ _) rfl rfl Try.isAgg39) rfl ?_
    obtain ⟨r12, hr13, h⟩ := bind_e h
    refine AJ_op 3 239 rfl (by kernel_rfl) rfl (GY_none rfl) <| O_call (L_ring_descriptor_parts hr13) rfl Try.call57 Dels.nil rfl fun _ _ => ⟨fun _ => eR, ?_⟩
    refine aN 4 255 rfl rfl (P_field rfl (fld_103_0 _ _ _ _)) rfl ?_
    obtain ⟨r14, hr15, h⟩ := bind_e h
    refine AJ_op 8 511 rfl (by kernel_rfl) rfl (GY_none rfl) <| O_call (L_ring_descriptor_parts hr15) rfl Try.call57 Dels.nil rfl fun _ _ => ⟨fun h => absurd h (by decide), ?_⟩
    refine aN 9 1023 rfl rfl (P_field rfl (fld_103_0 _ _ _ _)) rfl <| aN 10 2047 rfl rfl (P_assign rfl) rfl <| aN 11 4095 rfl rfl (P_assign rfl) rfl <| aN 12 8191 rfl rfl (P_assign rfl) rfl <| aD <| CJ_ret ?_
    cases h
    exact fE (res3 Try.results25 rfl rfl rfl) () (t4_ (t1_ (eD (eD (eD eR)))))
def ring_parts_word (p : ring_parts) : Option (UInt64) :=
  Option.bind (ring_widths) fun r2 =>
  Option.bind (pack_Fields r2 ([(to_u64 p.seq), (to_u64 p.start), (to_u64 p.length), (to_u64 p.sum)])) fun r562 =>
  some r562.1
theorem L_ring_parts_word {W : World} {p : ring_parts} {r : UInt64} (h : ring_parts_word p = some r) :
    CSpec Try.prog W 61 [.agg #[.int .i64 p.seq, .int .i64 p.start, .int .i64 p.length, .int .i64 p.sum]] [] (fun x : Unit => .int .u64 (r.toNat : Int)) (fun _ => True) (fun x F => F) := by
 refine CSpec.of_body Try.func61 rfl Try.ntmps61 rfl fun F => ?_
 show CJ _ _ _ _ _ _ (F)
 unfold ring_parts_word at h
 refine sR <| oO <| O_box rfl rfl rfl fun b1 => oA rfl rfl <| nT <| CJ_seq <| AJ_startH 24576 (by kernel_rfl) rfl <| aN 1 2 rfl rfl (P_fieldAddr rfl ⟨_, _, _, Try.runUnderlying103, rfl, rfl, Try.sizeOf3, rfl⟩) rfl <| aV 2 6 rfl rfl (GY_none rfl) eR (V_load rfl foc0 rfl Try.isAgg3) rfl <| aN 3 14 rfl rfl (P_conv_u64 (a := p.seq) rfl Try.runUnderlying3 Try.runUnderlying39) rfl <| aN 4 30 rfl rfl (P_fieldAddr rfl ⟨_, _, _, Try.runUnderlying103, rfl, rfl, Try.sizeOf3, rfl⟩) rfl <| aV 5 62 rfl rfl (GY_none rfl) eR (V_load rfl foc0 rfl Try.isAgg3) rfl <| aN 6 126 rfl rfl (P_conv_u64 (a := p.start) rfl Try.runUnderlying3 Try.runUnderlying39) rfl <| aN 7 254 rfl rfl (P_fieldAddr rfl ⟨_, _, _, Try.runUnderlying103, rfl, rfl, Try.sizeOf3, rfl⟩) rfl <| aV 8 510 rfl rfl (GY_none rfl) eR (V_load rfl foc0 rfl Try.isAgg3) rfl <| aN 9 1022 rfl rfl (P_conv_u64 (a := p.length) rfl Try.runUnderlying3 Try.runUnderlying39) rfl <| aN 10 2046 rfl rfl (P_fieldAddr rfl ⟨_, _, _, Try.runUnderlying103, rfl, rfl, Try.sizeOf3, rfl⟩) rfl <| aV 11 4094 rfl rfl (GY_none rfl) eR (V_load rfl foc0 rfl Try.isAgg3) rfl <| aN 12 8190 rfl rfl (P_conv_u64 (a := p.sum) rfl Try.runUnderlying3 Try.runUnderlying39) rfl <| AJ_two 0 13 8191 16382 rfl rfl (by kernel_rfl) rfl rfl (GY_none rfl) (GY_none rfl) ?_ ?_
 ·
  obtain ⟨r2, hr3, h⟩ := bind_e h
  refine O_call (L_ring_widths hr3) rfl Try.call83 Dels.nil rfl fun X4 _ => ⟨fun _ => (t1_ (eD eR)), ?_⟩
  refine AJ_op 13 16383 rfl (by kernel_rfl) rfl (GY_none rfl) <| O_buildSlice rfl (bs_29_4_0_1_2_3 _ _ _ _) rfl fun b522 => ⟨fun h => absurd h (by decide), ?_⟩
  refine AJ_ent (Ent.trans (t0_ eR) (sl_of_lit (t := tyU) (m := 4) [(to_u64 p.seq), (to_u64 p.start), (to_u64 p.length), (to_u64 p.sum)] rfl rfl rfl (by decide))) ?_
  obtain ⟨r562, hr563, h⟩ := bind_e h
  refine AJ_op 14 32767 rfl (by kernel_rfl) rfl (GY_none rfl) <| O_call (L_pack_Fields (Reads.sl _ _ _) (Reads.sl _ _ _) hr563) rfl Try.call87 (Dels.cons del1 (Dels.cons del0 Dels.nil)) rfl fun _ _ => ⟨fun h => absurd h (by decide), ?_⟩
  refine aN 15 65535 rfl rfl (P_move rfl) rfl <| aN 16 131071 rfl rfl (P_extract rfl rfl) rfl <| aN 17 262143 rfl rfl (P_extract rfl rfl) rfl <| aN 18 524287 rfl rfl (P_assign rfl) rfl <| aN 19 1048575 rfl rfl (P_assign rfl) rfl <| aD <| sR <| oM rfl rfl <| oA rfl rfl <| nT <| CJ_ret ?_
  cases h
  exact fE (res1 Try.results61 rfl) () (eD (eD (eD eR)))
 ·
  refine O_buildSlice rfl (bs_29_4_0_1_2_3 _ _ _ _) rfl fun b522 => ⟨fun h => absurd h (by decide), ?_⟩
  obtain ⟨r2, hr3, h⟩ := bind_e h
  refine AJ_op 0 16383 rfl (by kernel_rfl) rfl (GY_none rfl) <| O_call (L_ring_widths hr3) rfl Try.call83 Dels.nil rfl fun X4 _ => ⟨fun _ => (t2_ (eD (eD eR))), ?_⟩
  refine AJ_ent (Ent.trans (t1_ eR) (sl_of_lit (t := tyU) (m := 4) [(to_u64 p.seq), (to_u64 p.start), (to_u64 p.length), (to_u64 p.sum)] rfl rfl rfl (by decide))) ?_
  obtain ⟨r562, hr563, h⟩ := bind_e h
  refine AJ_op 14 32767 rfl (by kernel_rfl) rfl (GY_none rfl) <| O_call (L_pack_Fields (Reads.sl _ _ _) (Reads.sl _ _ _) hr563) rfl Try.call87 (Dels.cons del1 (Dels.cons del0 Dels.nil)) rfl fun _ _ => ⟨fun h => absurd h (by decide), ?_⟩
  refine aN 15 65535 rfl rfl (P_move rfl) rfl <| aN 16 131071 rfl rfl (P_extract rfl rfl) rfl <| aN 17 262143 rfl rfl (P_extract rfl rfl) rfl <| aN 18 524287 rfl rfl (P_assign rfl) rfl <| aN 19 1048575 rfl rfl (P_assign rfl) rfl <| aD <| sR <| oM rfl rfl <| oA rfl rfl <| nT <| CJ_ret ?_
  cases h
  exact fE (res1 Try.results61 rfl) () (eD (eD (eD eR)))
def ring_Prepare_l2_b (r11 : (List UInt64) × Int) (o17 : Dvc) (rec : ArrS → Option ((ArrS) ⊕ (Int × ArrS))) (e45 : (Int × Int)) (a50 : ArrS) : Option ((ArrS) ⊕ (Int × ArrS)) :=
  grd (decide (0 ≤ e45.1 ∧ e45.1 < (r11.1.length : Int))) <|
  Option.bind (Dvc.wr o17 a50 e45.2 ((r11.1.getD ((e45.1).toNat) 0))) fun r60 =>
  if (r60.1 ≠ (0 : Int)) then
    some (.inr (r60.1, r60.2))
  else
    rec r60.2
def ring_Prepare_l2 (r11 : (List UInt64) × Int) (o17 : Dvc) : List (Int × Int) → ArrS → Option ((ArrS) ⊕ (Int × ArrS))
  | [], a50 => some (.inl a50)
  | e45 :: bs55, a50 => ring_Prepare_l2_b r11 o17 (ring_Prepare_l2 r11 o17 bs55) e45 a50
def ring_Prepare (x_0 : Dvc) (seq : Int) (text : ByteArray) (s : ArrS) : Option (Int × ArrS) :=
  Option.bind (ring_open x_0 s) fun r2 =>
  if (((r2.2.2 : Nat) : Int) ≠ (0 : Int)) then
    some ((((r2.2.2 : Nat) : Int), s))
  else
    if ((seq < (1 : Int)) ∨ ((1048575 : Int) < seq)) then
      some (((1 : Int), s))
    else
      Option.bind (pack_Text text) fun r11 =>
      if (r11.2 ≠ (0 : Int)) then
        some (r11.2, s)
      else
        Option.elim r2.1 (
          none) fun o17 =>
        Option.bind (Dvc.rd o17 s (0 : Int)) fun r19 =>
        if (r19.2 ≠ (0 : Int)) then
          some (r19.2, s)
        else
          seqO ((
            if (r19.1 ≠ (0 : UInt64)) then
              Option.bind (ring_area_text o17 r2.2.1 r19.1 s) fun r30 =>
              if (r30.2.2 ≠ (0 : Int)) then
                some (.inr (r30.2.2, s))
              else
                if (¬ r30.2.1 = true) then
                  some (.inr (((11 : Int), s)))
                else
                  Option.bind (ring_descriptor_parts r19.1) fun r32 =>
                  some (.inl (r32.seq, r32.start, r32.length, r32.sum))
            else
              some (.inl ((0 : Int), (0 : Int), (0 : Int), (0 : Int))) : Option ((Int × Int × Int × Int) ⊕ (Int × ArrS)))) fun a29 =>
          grd (inI64 ((((r11.1.length : Nat) : Int) + a29.2.2.1))) <|
          if (r2.2.1 < (((r11.1.length : Nat) : Int) + a29.2.2.1)) then
            some (((14 : Int), s))
          else
            grd (inI64 (a29.2.1 + a29.2.2.1)) <|
            grd (decide (¬ r2.2.1 = 0)) <|
            Option.bind (ring_parts_check ((⟨seq, ((a29.2.1 + a29.2.2.1).tmod r2.2.1), ((r11.1.length : Nat) : Int), (0 : Int)⟩ : ring_parts)) r11.1) fun r36 =>
            Option.bind (ring_area_sectors o17 r2.2.1 (((a29.2.1 + a29.2.2.1).tmod r2.2.1)) (((r11.1.length : Nat) : Int)) s) fun r38 =>
            grd (decide (0 ≤ r38.2.1 ∧ 0 < r38.2.2.2 ∧ r38.2.1 + r38.1 ≤ 4611686018427387904 ∧ r38.2.2.2 ≤ 4611686018427387904)) <|
            Option.bind (ring_Prepare_l2 r11 o17 (sectorsL r38.1 r38.2.1 r38.2.2.2) s) fun y49 =>
            selO y49 (fun a50 =>
              Option.bind (Dvc.fl o17 a50) fun r65 =>
              if (r65.1 ≠ (0 : Int)) then
                some (r65.1, r65.2)
              else
                Option.bind (ring_parts_word ((⟨seq, ((a29.2.1 + a29.2.2.1).tmod r2.2.1), ((r11.1.length : Nat) : Int), r36⟩ : ring_parts))) fun r67 =>
                Option.bind (ring_area_put o17 r2.2.1 (1 : Int) r67 r65.2) fun r69 =>
                some (r69.1, r69.2)) (fun z51 =>
              some (z51.1, z51.2))
theorem L_ring_Prepare {W : World} {vx_0 : IfH} {bs : Nat} {x_0 : Dvc} {seq : Int} {text : ByteArray} {s : ArrS} {r : Int × ArrS} (h : ring_Prepare x_0 seq text s = some r) :
    CSpec Try.prog W 16 [IfH.v vx_0, .int .i64 seq, .string text] [DevP bs x_0 vx_0, Arr bs s] (fun x : Unit => .int .i64 r.1) (fun _ => True) (fun x F => DevP bs x_0 vx_0 :: Arr bs r.2 :: F) := by
  refine CSpec.of_bodyM Try.func16 rfl Try.ntmps16 rfl (fun F => ?_)
  show CJ _ _ _ _ _ _ (_ :: _ :: F)
  unfold ring_Prepare at h
  refine CJ_seq ?_
  refine CJ_region ?_
  refine RJ_op rfl (O_alloc Try.zeroValue30 rfl rfl (fun b1 => ?_))
  refine RJ_nil ?_
  refine QJ_then ?_
  refine CJ_seq ?_
  refine CJ_region ?_
  refine RJ_op rfl (OJ_P (P_move rfl) rfl ?_)
  obtain ⟨r2, hr3, h⟩ := bind_e h
  refine RJ_op rfl (O_call (L_ring_open hr3) rfl Try.call54 (Dels.cons del1 (Dels.cons del1 Dels.nil)) rfl (fun X4 _ => ?_))
  refine RJ_op rfl (OJ_P (P_move rfl) rfl ?_)
  refine RJ_op rfl (OJ_P (P_extract rfl rfl) rfl ?_)
  refine RJ_op rfl (OJ_P (P_extract rfl rfl) rfl ?_)
  refine RJ_op rfl (O_alloc Try.zeroValue96 rfl rfl (fun b6 => ?_))
  refine RJ_op rfl (O_storeN rfl rfl foc0 Try.sizeOf96 rfl rfl (by simp only [allOne, oneCell_oval, oneCell_oif, oneCell_oifc, Bool.true_and]; rfl) ?_)
  refine RJ_op rfl (OJ_P (P_assign rfl) rfl ?_)
  refine RJ_nil ?_
  refine QJ_then ?_
  refine CJ_seq ?_
  refine CJ_seq ?_
  refine CJ_region ?_
  refine RJ_op rfl (OJ_P (P_move rfl) rfl ?_)
  refine RJ_op rfl (OJ_P (P_neq (a := ((r2.2.2 : Nat) : Int)) (b := (0 : Int)) rfl rfl) rfl ?_)
  refine RJ_nil ?_
  refine QJ_then ?_
  refine CJ_condP rfl bT_dec (fun hg1 => ?_) (fun hg1 => ?_)
  ·
    replace h := ite_t hg1 h
    refine CJ_seq ?_
    refine CJ_region ?_
    refine RJ_op rfl (OJ_P (P_move rfl) rfl ?_)
    refine RJ_op rfl (O_store rfl rfl foc4 rfl rfl Try.sizeOf30 ?_)
    refine RJ_nil ?_
    refine QJ_then ?_
    refine CJ_ret ?_
    refine QJ_then_ret ?_
    have hE := Option.some.inj h
    subst hE
    refine QJ_endM0 (.inl rfl) (resA1 Try.results16 (RV_cell rfl foc4 rfl Try.isAgg30)) ?_
    refine CSpec.close () ?_ ?_ (Ent.take del1 (Ent.take del1 (Ent.drop (Ent.drop (Ent.drop Ent.refl)))))
    · rfl
    · trivial
  ·
    replace h := ite_f hg1 h
    refine CJ_skip ?_
    refine QJ_then ?_
    refine CJ_seq ?_
    refine CJ_seq ?_
    refine CJ_region ?_
    refine RJ_op rfl (OJ_P (P_move rfl) rfl ?_)
    refine RJ_op rfl (OJ_P (P_lss (a := seq) (b := (1 : Int)) rfl rfl) rfl ?_)
    refine RJ_op rfl (OJ_P (P_move rfl) rfl ?_)
    refine RJ_mbF rfl rfl rfl (fun hG7 => have hP8 : ¬ (seq < (1 : Int)) := nP (bT_dec) hG7; VJ_P (P_move rfl)) ?_
    refine RJ_mbF rfl rfl rfl (fun hG9 => have hP10 : ¬ (seq < (1 : Int)) := nP (bT_dec) hG9; VJ_P (P_gtr (a := seq) (b := (1048575 : Int)) (mbx hG9 rfl) rfl)) ?_
    refine RJ_op rfl (OJ_P (P_pickOr rfl rfl (fun hh => mbx (not_f hh) rfl)) rfl ?_)
    refine RJ_nil ?_
    refine QJ_then ?_
    refine CJ_condP rfl (bT_or bT_dec bT_dec) (fun hg2 => ?_) (fun hg2 => ?_)
    ·
      replace h := ite_t hg2 h
      refine CJ_seq ?_
      refine CJ_region ?_
      refine RJ_op rfl (O_store rfl rfl foc4 rfl rfl Try.sizeOf30 ?_)
      refine RJ_nil ?_
      refine QJ_then ?_
      refine CJ_ret ?_
      refine QJ_then_ret ?_
      have hE := Option.some.inj h
      subst hE
      refine QJ_endM0 (.inl rfl) (resA1 Try.results16 (RV_cell rfl foc4 rfl Try.isAgg30)) ?_
      refine CSpec.close () ?_ ?_ (Ent.take del1 (Ent.take del1 (Ent.drop (Ent.drop (Ent.drop Ent.refl)))))
      · rfl
      · trivial
    ·
      replace h := ite_f hg2 h
      refine CJ_skip ?_
      refine QJ_then ?_
      refine CJ_seq ?_
      refine CJ_region ?_
      refine RJ_op rfl (OJ_P (P_move rfl) rfl ?_)
      obtain ⟨r11, hr12, h⟩ := bind_e h
      refine RJ_op rfl (O_call (L_pack_Text hr12) rfl Try.call55 Dels.nil rfl (fun X13 _ => ?_))
      refine RJ_op rfl (OJ_P (P_move rfl) rfl ?_)
      refine RJ_op rfl (OJ_P (P_extract (v := X13.v) rfl rfl) rfl ?_)
      refine RJ_op rfl (OJ_P (P_extract rfl rfl) rfl ?_)
      refine RJ_op rfl (O_alloc Try.zeroValue29 rfl rfl (fun b15 => ?_))
      refine RJ_op rfl (O_store rfl rfl foc0 rfl rfl Try.sizeOf29 ?_)
      refine RJ_op rfl (OJ_P (P_assign rfl) rfl ?_)
      refine RJ_nil ?_
      refine QJ_then ?_
      refine CJ_seq ?_
      refine CJ_seq ?_
      refine CJ_region ?_
      refine RJ_op rfl (OJ_P (P_move rfl) rfl ?_)
      refine RJ_op rfl (OJ_P (P_neq (a := r11.2) (b := (0 : Int)) rfl rfl) rfl ?_)
      refine RJ_nil ?_
      refine QJ_then ?_
      refine CJ_condP rfl bT_dec (fun hg3 => ?_) (fun hg3 => ?_)
      ·
        replace h := ite_t hg3 h
        refine CJ_seq ?_
        refine CJ_region ?_
        refine RJ_op rfl (OJ_P (P_move rfl) rfl ?_)
        refine RJ_op rfl (O_store rfl rfl foc6 rfl rfl Try.sizeOf30 ?_)
        refine RJ_nil ?_
        refine QJ_ent (Ent.take del3 (Ent.take del3 (Ent.take del4 (Ent.drop (Ent.drop (Ent.drop (Ent.drop Ent.refl))))))) ?_
        refine QJ_then ?_
        refine CJ_ret ?_
        refine QJ_then_ret ?_
        have hE := Option.some.inj h
        subst hE
        refine QJ_endM0 (.inl rfl) (resA1 Try.results16 (RV_cell rfl foc2 rfl Try.isAgg30)) ?_
        refine CSpec.close () ?_ ?_ (Ent.take del0 (Ent.take del0 (Ent.drop Ent.refl)))
        · rfl
        · trivial
      ·
        replace h := ite_f hg3 h
        refine CJ_skip ?_
        refine QJ_then ?_
        refine CJ_seq ?_
        refine CJ_region ?_
        refine RJ_op rfl (OJ_P (P_fieldAddr rfl ⟨_, _, _, Try.runUnderlying96, rfl, rfl, Try.sizeOf26, rfl⟩) rfl ?_)
        refine RJ_op rfl (OJ_V (V_load rfl foc2 rfl Try.isAgg26) rfl ?_)
        rcases opt_e h with ⟨ht16, h⟩ | ⟨o17, ht16, h⟩
        ·
          rw [ht16]
          refine RJ_ent (Ent.take del0 (Ent.take del0 (Ent.take del0 (Ent.take del0 (Ent.take del0 (Ent.take del1 (Ent.drop Ent.refl))))))) ?_
          exact none_e h
        ·
          rw [ht16]
          refine RJ_ent (Ent.takeC (A' := DevP bs o17 X4) del5 rfl Ent.refl) ?_
          refine RJ_pure (fun h hh => DevP_dep h (stars_perm (del0 (A := DevP bs o17 X4)).out h hh)) (fun hdp18 => ?_)
          obtain ⟨r19, hr20, h⟩ := bind_e h
          refine RJ_op rfl (O_callI rfl (dev_Read hr20 hdp18) rfl (Dels.cons del0 (Dels.cons del4 Dels.nil)) rfl (fun _ _ => ?_))
          refine RJ_op rfl (OJ_P (P_move rfl) rfl ?_)
          refine RJ_op rfl (OJ_P (P_extract rfl rfl) rfl ?_)
          refine RJ_op rfl (OJ_P (P_extract rfl rfl) rfl ?_)
          refine RJ_op rfl (OJ_P (P_assign rfl) rfl ?_)
          refine RJ_op rfl (OJ_P (P_assign rfl) rfl ?_)
          refine RJ_nil ?_
          refine QJ_then ?_
          refine CJ_seq ?_
          refine CJ_seq ?_
          refine CJ_region ?_
          refine RJ_op rfl (OJ_P (P_move rfl) rfl ?_)
          refine RJ_op rfl (OJ_P (P_neq (a := r19.2) (b := (0 : Int)) rfl rfl) rfl ?_)
          refine RJ_nil ?_
          refine QJ_then ?_
          refine CJ_condP rfl bT_dec (fun hg4 => ?_) (fun hg4 => ?_)
          ·
            replace h := ite_t hg4 h
            refine CJ_seq ?_
            refine CJ_region ?_
            refine RJ_op rfl (OJ_P (P_move rfl) rfl ?_)
            refine RJ_op rfl (O_store rfl rfl foc6 rfl rfl Try.sizeOf30 ?_)
            refine RJ_nil ?_
            refine QJ_ent (Ent.take del1 (Ent.take del4 (Ent.take del4 (Ent.drop (Ent.drop (Ent.drop (Ent.drop Ent.refl))))))) ?_
            refine QJ_then ?_
            refine CJ_ret ?_
            refine QJ_then_ret ?_
            have hE := Option.some.inj h
            subst hE
            refine QJ_endM0 (.inl rfl) (resA1 Try.results16 (RV_cell rfl foc2 rfl Try.isAgg30)) ?_
            refine CSpec.close () ?_ ?_ (Ent.take del1 (Ent.take del0 (Ent.drop Ent.refl)))
            · rfl
            · trivial
          ·
            replace h := ite_f hg4 h
            refine CJ_skip ?_
            refine QJ_then ?_
            refine CJ_seq ?_
            refine CJ_region ?_
            refine RJ_op rfl (O_alloc Try.zeroValue103 rfl rfl (fun b21 => ?_))
            refine RJ_nil ?_
            refine QJ_then ?_
            refine CJ_seq ?_
            refine CJ_seq ?_
            refine CJ_region ?_
            refine RJ_op rfl (OJ_P (P_move rfl) rfl ?_)
            refine RJ_op rfl (OJ_P (P_ne_u64 (a := r19.1) (b := (0 : UInt64)) rfl rfl) rfl ?_)
            refine RJ_nil ?_
            refine QJ_then ?_
            obtain ⟨y24, hl22, hK23⟩ := seq_e h
            refine CJ_cutT (X := Int × Int × Int × Int) [12, 13, 14, 53, 54, 55, 56, 57, 58, 59, 60, 61, 62, 63, 64, 65, 66] (fun a29 => ([] : Slots)) (fun a29 R => blk b21 103 [.int .i64 a29.1, .int .i64 a29.2.1, .int .i64 a29.2.2.1, .int .i64 a29.2.2.2] :: R) (fun a29 => y24 = .inl a29) (Dels.cons del0 Dels.nil) ?_ ?_
            ·
              have h := hl22
              refine CJ_condP rfl bT_dec (fun hg5 => ?_) (fun hg5 => ?_)
              ·
                replace h := ite_t hg5 h
                refine CJ_seq ?_
                refine CJ_region ?_
                refine RJ_op rfl (OJ_V (V_loadN rfl foc5 Try.isAgg96 Try.sizeOf96 rfl rfl) rfl ?_)
                refine RJ_op rfl (OJ_P (P_move rfl) rfl ?_)
                obtain ⟨r30, hr31, h⟩ := bind_e h
                refine RJ_op rfl (O_call (L_ring_area_text hr31) rfl Try.call56 (Dels.cons del1 (Dels.cons del1 Dels.nil)) rfl (fun _ _ => ?_))
                refine RJ_op rfl (OJ_P (P_move rfl) rfl ?_)
                refine RJ_op rfl (OJ_P (P_extract rfl rfl) rfl ?_)
                refine RJ_op rfl (OJ_P (P_extract rfl rfl) rfl ?_)
                refine RJ_op rfl (OJ_P (P_extract rfl rfl) rfl ?_)
                refine RJ_op rfl (OJ_P (P_assign rfl) rfl ?_)
                refine RJ_op rfl (OJ_P (P_assign rfl) rfl ?_)
                refine RJ_op rfl (OJ_P (P_assign rfl) rfl ?_)
                refine RJ_nil ?_
                refine QJ_then ?_
                refine CJ_seq ?_
                refine CJ_seq ?_
                refine CJ_region ?_
                refine RJ_op rfl (OJ_P (P_move rfl) rfl ?_)
                refine RJ_op rfl (OJ_P (P_neq (a := r30.2.2) (b := (0 : Int)) rfl rfl) rfl ?_)
                refine RJ_nil ?_
                refine QJ_then ?_
                refine CJ_condP rfl bT_dec (fun hg6 => ?_) (fun hg6 => ?_)
                ·
                  replace h := ite_t hg6 h
                  refine CJ_seq ?_
                  refine CJ_region ?_
                  refine RJ_op rfl (OJ_P (P_move rfl) rfl ?_)
                  refine RJ_op rfl (O_store rfl rfl foc7 rfl rfl Try.sizeOf30 ?_)
                  refine RJ_nil ?_
                  refine QJ_then ?_
                  refine CJ_ret ?_
                  refine QJ_then_ret ?_
                  refine QJ_then_ret ?_
                  have hE := Option.some.inj h
                  replace hE := seq_inr hK23 hE.symm
                  subst hE
                  refine QJ_endM0 (.inl rfl) (resA1 Try.results16 (RV_cell rfl foc7 rfl Try.isAgg30)) ?_
                  refine CSpec.close () ?_ ?_ (Ent.take del6 (Ent.take del1 (Ent.drop (Ent.drop (Ent.drop (Ent.drop (Ent.drop (Ent.drop Ent.refl))))))))
                  · rfl
                  · trivial
                ·
                  replace h := ite_f hg6 h
                  refine CJ_skip ?_
                  refine QJ_then ?_
                  refine CJ_seq ?_
                  refine CJ_seq ?_
                  refine CJ_region ?_
                  refine RJ_op rfl (OJ_P (P_move rfl) rfl ?_)
                  refine RJ_op rfl (OJ_P (P_not rfl) rfl ?_)
                  refine RJ_nil ?_
                  refine QJ_then ?_
                  refine CJ_condP rfl (bT_not Iff.rfl) (fun hg7 => ?_) (fun hg7 => ?_)
                  ·
                    replace h := ite_t hg7 h
                    refine CJ_seq ?_
                    refine CJ_region ?_
                    refine RJ_op rfl (O_store rfl rfl foc7 rfl rfl Try.sizeOf30 ?_)
                    refine RJ_nil ?_
                    refine QJ_then ?_
                    refine CJ_ret ?_
                    refine QJ_then_ret ?_
                    refine QJ_then_ret ?_
                    have hE := Option.some.inj h
                    replace hE := seq_inr hK23 hE.symm
                    subst hE
                    refine QJ_endM0 (.inl rfl) (resA1 Try.results16 (RV_cell rfl foc7 rfl Try.isAgg30)) ?_
                    refine CSpec.close () ?_ ?_ (Ent.take del6 (Ent.take del1 (Ent.drop (Ent.drop (Ent.drop (Ent.drop (Ent.drop (Ent.drop Ent.refl))))))))
                    · rfl
                    · trivial
                  ·
                    replace h := ite_f hg7 h
                    refine CJ_skip ?_
                    refine QJ_then ?_
                    refine CJ_region ?_
                    refine RJ_op rfl (OJ_P (P_move rfl) rfl ?_)
                    obtain ⟨r32, hr33, h⟩ := bind_e h
                    refine RJ_op rfl (O_call (L_ring_descriptor_parts hr33) rfl Try.call57 Dels.nil rfl (fun _ _ => ?_))
                    refine RJ_op rfl (O_storeN rfl rfl foc2 Try.sizeOf103 rfl rfl rfl ?_)
                    refine RJ_nil ?_
                    refine QJ_cutR (r32.seq, r32.start, r32.length, r32.sum) ?_ (by repeat (first | exact Kp.base | exact Kp.self | refine Kp.cons rfl ?_ | refine Kp.forget rfl ?_)) ?_ (Ent.take del2 Ent.refl)
                    · exact (Option.some.inj h).symm
                    · exact True.intro
              ·
                replace h := ite_f hg5 h
                refine CJ_skip ?_
                refine QJ_cutR ((0 : Int), (0 : Int), (0 : Int), (0 : Int)) ?_ (by repeat (first | exact Kp.base | exact Kp.self | refine Kp.cons rfl ?_ | refine Kp.forget rfl ?_)) ?_ Ent.refl
                · exact (Option.some.inj h).symm
                · exact True.intro
            ·
              rintro a29 hy34
              replace h := seq_inl hK23 hy34
              show CJ _ _ _ _ _ (([] : Slots) ++ forget _ _) (blk b21 103 [.int .i64 a29.1, .int .i64 a29.2.1, .int .i64 a29.2.2.1, .int .i64 a29.2.2.2] :: _)
              refine CJ_seq ?_
              refine CJ_seq ?_
              refine CJ_region ?_
              refine RJ_op rfl (OJ_V (V_load rfl foc3 rfl Try.isAgg29) rfl ?_)
              refine RJ_op rfl (OJ_V (V_len rfl foc4 (Reads.sl _ _ _) Try.runUnderlying29) rfl ?_)
              refine RJ_op rfl (OJ_P (P_fieldAddr rfl ⟨_, _, _, Try.runUnderlying103, rfl, rfl, Try.sizeOf3, rfl⟩) rfl ?_)
              refine RJ_op rfl (OJ_V (V_load rfl foc0 rfl Try.isAgg3) rfl ?_)
              obtain ⟨hg8, h⟩ := grd_Ie h
              refine RJ_op rfl (OJ_P (P_add (a := ((r11.1.length : Nat) : Int)) (b := a29.2.2.1) rfl rfl hg8) rfl ?_)
              refine RJ_op rfl (OJ_P (P_fieldAddr rfl ⟨_, _, _, Try.runUnderlying96, rfl, rfl, Try.sizeOf3, rfl⟩) rfl ?_)
              refine RJ_op rfl (OJ_V (V_load rfl foc5 rfl Try.isAgg3) rfl ?_)
              refine RJ_op rfl (OJ_P (P_gtr (a := (((r11.1.length : Nat) : Int) + a29.2.2.1)) (b := r2.2.1) rfl rfl) rfl ?_)
              refine RJ_nil ?_
              refine QJ_then ?_
              refine CJ_condP rfl bT_dec (fun hg9 => ?_) (fun hg9 => ?_)
              ·
                replace h := ite_t hg9 h
                refine CJ_seq ?_
                refine CJ_region ?_
                refine RJ_op rfl (O_store rfl rfl foc7 rfl rfl Try.sizeOf30 ?_)
                refine RJ_nil ?_
                refine QJ_ent (Ent.take del2 (Ent.take del5 (Ent.take del5 (Ent.drop (Ent.drop (Ent.drop (Ent.drop (Ent.drop Ent.refl)))))))) ?_
                refine QJ_then ?_
                refine CJ_ret ?_
                refine QJ_then_ret ?_
                have hE := Option.some.inj h
                subst hE
                refine QJ_endM0 (.inl rfl) (resA1 Try.results16 (RV_cell rfl foc2 rfl Try.isAgg30)) ?_
                refine CSpec.close () ?_ ?_ (Ent.take del1 (Ent.take del0 (Ent.drop Ent.refl)))
                · rfl
                · trivial
              ·
                replace h := ite_f hg9 h
                refine CJ_skip ?_
                refine QJ_then ?_
                refine CJ_seq ?_
                refine AJ_startH 8192 (by kernel_rfl) rfl ?_
                refine AJ_takeP 0 1 rfl (by kernel_rfl) rfl (GY_none rfl) (P_move rfl) rfl (fun _ _ _ _ h => h) ?_
                refine AJ_takeP 1 3 rfl (by kernel_rfl) rfl (GY_none rfl) (P_fieldAddr rfl ⟨_, _, _, Try.runUnderlying103, rfl, rfl, Try.sizeOf3, rfl⟩) rfl (fun _ _ _ _ h => h) ?_
                refine AJ_takeV 2 7 rfl (by kernel_rfl) rfl (by kernel_rfl) (by kernel_rfl) (GY_none rfl) Ent.refl (V_load rfl foc0 rfl Try.isAgg3) rfl (fun _ _ _ _ h => h) ?_
                refine AJ_takeP 3 15 rfl (by kernel_rfl) rfl (GY_none rfl) (P_fieldAddr rfl ⟨_, _, _, Try.runUnderlying103, rfl, rfl, Try.sizeOf3, rfl⟩) rfl (fun _ _ _ _ h => h) ?_
                refine AJ_takeV 4 31 rfl (by kernel_rfl) rfl (by kernel_rfl) (by kernel_rfl) (GY_none rfl) Ent.refl (V_load rfl foc0 rfl Try.isAgg3) rfl (fun _ _ _ _ h => h) ?_
                obtain ⟨hg10, h⟩ := grd_Ie h
                refine AJ_takeP 5 63 rfl (by kernel_rfl) rfl (GY_none rfl) (P_add (a := a29.2.1) (b := a29.2.2.1) rfl rfl hg10) rfl (fun _ _ _ _ h => h) ?_
                refine AJ_takeP 6 127 rfl (by kernel_rfl) rfl (GY_none rfl) (P_fieldAddr rfl ⟨_, _, _, Try.runUnderlying96, rfl, rfl, Try.sizeOf3, rfl⟩) rfl (fun _ _ _ _ h => h) ?_
                refine AJ_takeV 7 255 rfl (by kernel_rfl) rfl (by kernel_rfl) (by kernel_rfl) (GY_none rfl) Ent.refl (V_load rfl foc5 rfl Try.isAgg3) rfl (fun _ _ _ _ h => h) ?_
                obtain ⟨hg11, h⟩ := grd_de h
                refine AJ_takeP 8 511 rfl (by kernel_rfl) rfl (GY_none rfl) (P_remT (a := (a29.2.1 + a29.2.2.1)) (b := r2.2.1) rfl rfl hg11) rfl (fun _ _ _ _ h => h) ?_
                refine AJ_takeV 9 1023 rfl (by kernel_rfl) rfl (by kernel_rfl) (by kernel_rfl) (GY_none rfl) Ent.refl (V_load rfl foc3 rfl Try.isAgg29) rfl (fun _ _ _ _ h => h) ?_
                refine AJ_takeV 10 2047 rfl (by kernel_rfl) rfl (by kernel_rfl) (by kernel_rfl) (GY_none rfl) Ent.refl (V_len rfl foc4 (Reads.sl _ _ _) Try.runUnderlying29) rfl (fun _ _ _ _ h => h) ?_
                refine AJ_takeP 11 4095 rfl (by kernel_rfl) rfl (GY_none rfl) (P_build rfl (bld_103_0_1_2 _ _ _)) rfl (fun _ _ _ _ h => h) ?_
                refine AJ_op 12 8191 rfl (by kernel_rfl) rfl (GY_none rfl) (O_alloc Try.zeroValue103 rfl rfl (fun b35 => ?_))
                refine ⟨fun _ => (Ent.take del1 (Ent.take del1 (Ent.take del1 (Ent.take del1 (Ent.take del1 (Ent.take del1 (Ent.take del1 (Ent.take del1 (Ent.drop Ent.refl))))))))), ?_⟩
                refine AJ_op 13 16383 rfl (by kernel_rfl) rfl (GY_none rfl) (O_storeN rfl rfl foc0 Try.sizeOf103 rfl rfl rfl ?_)
                refine ⟨fun h => absurd h (by decide), ?_⟩
                refine AJ_done (by kernel_rfl) ?_
                refine QJ_ent (Ent.take del0 (Ent.take del1 (Ent.take del1 (Ent.take del1 (Ent.take del1 (Ent.take del1 (Ent.take del1 (Ent.take del1 (Ent.drop Ent.refl))))))))) ?_
                refine QJ_then ?_
                refine CJ_seq ?_
                refine CJ_region ?_
                refine RJ_op rfl (OJ_V (V_loadN rfl foc0 Try.isAgg103 Try.sizeOf103 rfl rfl) rfl ?_)
                refine RJ_op rfl (OJ_V (V_load rfl foc3 rfl Try.isAgg29) rfl ?_)
                obtain ⟨r36, hr37, h⟩ := bind_e h
                refine RJ_op rfl (O_call (L_ring_parts_check (Reads.sl _ _ _) hr37) rfl Try.call58 (Dels.cons del4 Dels.nil) rfl (fun _ _ => ?_))
                refine RJ_op rfl (OJ_P (P_fieldAddr rfl ⟨_, _, _, Try.runUnderlying103, rfl, rfl, Try.sizeOf3, rfl⟩) rfl ?_)
                refine RJ_op rfl (O_store rfl rfl foc1 rfl rfl Try.sizeOf3 ?_)
                refine RJ_nil ?_
                refine QJ_then ?_
                refine CJ_seq ?_
                refine CJ_seq ?_
                refine CJ_region ?_
                refine RJ_op rfl (OJ_V (V_loadN rfl foc5 Try.isAgg96 Try.sizeOf96 rfl rfl) rfl ?_)
                refine RJ_op rfl (OJ_P (P_fieldAddr rfl ⟨_, _, _, Try.runUnderlying103, rfl, rfl, Try.sizeOf3, rfl⟩) rfl ?_)
                refine RJ_op rfl (OJ_V (V_load rfl foc1 rfl Try.isAgg3) rfl ?_)
                refine RJ_op rfl (OJ_P (P_fieldAddr rfl ⟨_, _, _, Try.runUnderlying103, rfl, rfl, Try.sizeOf3, rfl⟩) rfl ?_)
                refine RJ_op rfl (OJ_V (V_load rfl foc1 rfl Try.isAgg3) rfl ?_)
                obtain ⟨r38, hr39, h⟩ := bind_e h
                refine RJ_op rfl (O_call (L_ring_area_sectors hr39) rfl Try.call59 (Dels.cons del2 (Dels.cons del2 Dels.nil)) rfl (fun X40 _ => ?_))
                refine RJ_nil ?_
                refine QJ_then ?_
                refine CJ_block ?_
                obtain ⟨hg46, h⟩ := grd_de h
                obtain ⟨y49, hl47, hK48⟩ := bind_c h
                refine CJ_range (ps := [97, 98]) (C := ArrS) (Z := Int × ArrS) (ispec_sectors hg46) rfl Try.call86 rfl (fun _ => rfl) (fun a50 R => Arr bs a50 :: blk b1 30 [.int .i64 (0 : Int)] :: R) (fun bs55 a50 => ring_Prepare_l2 r11 o17 bs55 a50 = some y49) (fun z51 R => blk b1 30 [.int .i64 z51.1] :: Arr bs z51.2 :: R) (fun z51 => y49 = .inr z51) s hl47 (Dels.cons del2 (Dels.cons del2 (Dels.cons del2 Dels.nil))) (Ent.take del1 (Ent.take del7 Ent.refl)) ?_ ?_ ?_
                ·
                  rintro l56 Zz bs55 e45 a50 hpre57 h
                  replace h : ring_Prepare_l2_b r11 o17 (ring_Prepare_l2 r11 o17 bs55) e45 a50 = some y49 := h
                  unfold ring_Prepare_l2_b at h
                  show CJ _ _ _ _ _ (([(98, .int .i64 e45.2), (97, .int .i64 e45.1)] : Slots) ++ _) (Zz :: Arr bs a50 :: blk b1 30 [.int .i64 (0 : Int)] :: _)
                  refine CJ_seq ?_
                  refine CJ_region ?_
                  refine RJ_op rfl (OJ_P (P_assign rfl) rfl ?_)
                  refine RJ_nil ?_
                  refine QJ_then ?_
                  refine CJ_region ?_
                  refine RJ_op rfl (OJ_P (P_assign rfl) rfl ?_)
                  refine RJ_nil ?_
                  refine QJ_begin (fun Zz58 => ?_)
                  refine CJ_block ?_
                  refine CJ_seq ?_
                  refine AJ_startH 512 (by kernel_rfl) rfl ?_
                  refine AJ_takeP 0 1 rfl (by kernel_rfl) rfl (GY_none rfl) (P_fieldAddr rfl ⟨_, _, _, Try.runUnderlying96, rfl, rfl, Try.sizeOf26, rfl⟩) rfl (fun _ _ _ _ h => h) ?_
                  refine AJ_takeV 1 3 rfl (by kernel_rfl) rfl (by kernel_rfl) (by kernel_rfl) (GY_none rfl) Ent.refl (V_load rfl foc8 rfl Try.isAgg26) rfl (fun _ _ _ _ h => h) ?_
                  refine AJ_takeP 2 7 rfl (by kernel_rfl) rfl (GY_none rfl) (P_move rfl) rfl (fun _ _ _ _ h => h) ?_
                  refine AJ_takeV 3 15 rfl (by kernel_rfl) rfl (by kernel_rfl) (by kernel_rfl) (GY_none rfl) Ent.refl (V_load rfl foc7 rfl Try.isAgg29) rfl (fun _ _ _ _ h => h) ?_
                  refine AJ_takeP 4 31 rfl (by kernel_rfl) rfl (GY_none rfl) (P_move rfl) rfl (fun _ _ _ _ h => h) ?_
                  obtain ⟨hg12, h⟩ := grd_de h
                  refine AJ_takeV 5 63 rfl (by kernel_rfl) rfl (by kernel_rfl) (by kernel_rfl) (GY_none rfl) Ent.refl (V_index (i := (e45.1).toNat) rfl rfl (Int.toNat_of_nonneg (hg12.1)).symm (by omega) foc5 (Reads.sl _ _ _) Try.runUnderlying29 Try.sizeOf39) rfl (fun _ _ _ _ h => h) ?_
                  refine AJ_takeV 6 127 rfl (by kernel_rfl) rfl (by kernel_rfl) (by kernel_rfl) (GY_none rfl) Ent.refl (V_loadE rfl rfl (by omega) foc5 (Reads.sl _ _ _) rfl rfl Try.isAgg39) rfl (fun _ _ _ _ h => h) ?_
                  refine AJ_takeP 7 255 rfl (by kernel_rfl) rfl (GY_none rfl) (P_nilCheckI rfl) rfl (fun _ _ _ _ h => h) ?_
                  refine AJ_takeP 8 511 rfl (by kernel_rfl) rfl (GY_none rfl) (P_move rfl) rfl (fun _ _ _ _ h => h) ?_
                  refine AJ_pure (fun h hh => DevP_dep h (stars_perm (del3 (A := DevP bs o17 X4)).out h hh)) (fun hdp59 => ?_)
                  obtain ⟨r60, hr61, h⟩ := bind_e h
                  refine AJ_op 9 1023 rfl (by kernel_rfl) rfl (GY_none rfl) (O_callI rfl (dev_Write hr61 hdp59) rfl (Dels.cons del3 (Dels.cons del1 Dels.nil)) rfl (fun _ _ => ?_))
                  refine ⟨fun h => absurd h (by decide), ?_⟩
                  refine AJ_takeP 10 2047 rfl (by kernel_rfl) rfl (GY_none rfl) (P_assign rfl) rfl (fun _ _ _ _ h => h) ?_
                  refine AJ_done (by kernel_rfl) ?_
                  refine QJ_then ?_
                  refine CJ_seq ?_
                  refine CJ_region ?_
                  refine RJ_op rfl (OJ_P (P_move rfl) rfl ?_)
                  refine RJ_op rfl (OJ_P (P_neq (a := r60.1) (b := (0 : Int)) rfl rfl) rfl ?_)
                  refine RJ_nil ?_
                  refine QJ_then ?_
                  refine CJ_condP rfl bT_dec (fun hg13 => ?_) (fun hg13 => ?_)
                  ·
                    replace h := ite_t hg13 h
                    refine CJ_seq ?_
                    refine CJ_region ?_
                    refine RJ_op rfl (OJ_P (P_move rfl) rfl ?_)
                    refine RJ_op rfl (O_store rfl rfl foc3 rfl rfl Try.sizeOf30 ?_)
                    refine RJ_nil ?_
                    refine QJ_then ?_
                    refine CJ_ret ?_
                    refine QJ_block_ret ?_
                    refine QJ_rngR (r60.1, r60.2) ?_ (Ent.take del2 (Ent.take del2 (Ent.take del1 Ent.refl)))
                    exact (Option.some.inj h).symm
                  ·
                    replace h := ite_f hg13 h
                    refine CJ_skip ?_
                    refine QJ_block_normal ?_
                    refine QJ_rng r60.2 ?_ (Ent.take del2 (Ent.take del1 (Ent.take del1 Ent.refl)))
                    exact h
                ·
                  rintro D62 a50 hy63
                  replace h := sel_inl hK48 (show some (.inl a50) = some y49 from hy63)
                  show QJ _ _ _ _ _ (dblk D62 :: blk X40.1 3 [.int .i64 r38.1] :: blk X40.2.1 3 [.int .i64 r38.2.1] :: blk X40.2.2.1 96 [IfH.v X40.2.2.2, .int .i64 r38.2.2.2] :: Arr bs a50 :: blk b1 30 [.int .i64 (0 : Int)] :: _)
                  refine QJ_block_normal ?_
                  refine QJ_ent (Ent.take del0 (Ent.take del3 (Ent.take del3 (Ent.take del3 (Ent.take del5 (Ent.take del6 (Ent.take del6 (Ent.drop (Ent.drop (Ent.drop (Ent.drop (Ent.drop (Ent.drop Ent.refl))))))))))))) ?_
                  refine QJ_then ?_
                  refine CJ_seq ?_
                  refine CJ_seq ?_
                  refine CJ_region ?_
                  refine RJ_op rfl (OJ_P (P_fieldAddr rfl ⟨_, _, _, Try.runUnderlying96, rfl, rfl, Try.sizeOf26, rfl⟩) rfl ?_)
                  refine RJ_op rfl (OJ_V (V_load rfl foc5 rfl Try.isAgg26) rfl ?_)
                  refine RJ_pure (fun h hh => DevP_dep h (stars_perm (del3 (A := DevP bs o17 X4)).out h hh)) (fun hdp64 => ?_)
                  obtain ⟨r65, hr66, h⟩ := bind_e h
                  refine RJ_op rfl (O_callI rfl (dev_Flush hr66 hdp64) rfl (Dels.cons del3 (Dels.cons del1 Dels.nil)) rfl (fun _ _ => ?_))
                  refine RJ_op rfl (OJ_P (P_assign rfl) rfl ?_)
                  refine RJ_nil ?_
                  refine QJ_then ?_
                  refine CJ_seq ?_
                  refine CJ_region ?_
                  refine RJ_op rfl (OJ_P (P_move rfl) rfl ?_)
                  refine RJ_op rfl (OJ_P (P_neq (a := r65.1) (b := (0 : Int)) rfl rfl) rfl ?_)
                  refine RJ_nil ?_
                  refine QJ_then ?_
                  refine CJ_condP rfl bT_dec (fun hg14 => ?_) (fun hg14 => ?_)
                  ·
                    replace h := ite_t hg14 h
                    refine CJ_seq ?_
                    refine CJ_region ?_
                    refine RJ_op rfl (OJ_P (P_move rfl) rfl ?_)
                    refine RJ_op rfl (O_store rfl rfl foc3 rfl rfl Try.sizeOf30 ?_)
                    refine RJ_nil ?_
                    refine QJ_ent (Ent.take del1 (Ent.take del1 (Ent.take del1 (Ent.take del3 (Ent.drop (Ent.drop (Ent.drop Ent.refl))))))) ?_
                    refine QJ_then ?_
                    refine CJ_ret ?_
                    refine QJ_then_ret ?_
                    have hE := Option.some.inj h
                    subst hE
                    refine QJ_endM1 (.inl rfl) del1 (resA1 Try.results16 (RV_cell rfl foc2 rfl Try.isAgg30)) rfl ?_
                    refine CSpec.close () ?_ ?_ (Ent.take del2 (Ent.take del0 (Ent.drop Ent.refl)))
                    · rfl
                    · trivial
                  ·
                    replace h := ite_f hg14 h
                    refine CJ_skip ?_
                    refine QJ_then ?_
                    refine CJ_seq ?_
                    refine AJ_startH 24 (by kernel_rfl) rfl ?_
                    refine AJ_takeV 0 1 rfl (by kernel_rfl) rfl (by kernel_rfl) (by kernel_rfl) (GY_none rfl) Ent.refl (V_loadN rfl foc5 Try.isAgg96 Try.sizeOf96 rfl rfl) rfl (fun _ _ _ _ h => h) ?_
                    refine AJ_takeV 1 3 rfl (by kernel_rfl) rfl (by kernel_rfl) (by kernel_rfl) (GY_none rfl) Ent.refl (V_loadN rfl foc4 Try.isAgg103 Try.sizeOf103 rfl rfl) rfl (fun _ _ _ _ h => h) ?_
                    obtain ⟨r67, hr68, h⟩ := bind_e h
                    refine AJ_op 2 7 rfl (by kernel_rfl) rfl (GY_none rfl) (O_call (L_ring_parts_word hr68) rfl Try.call61 Dels.nil rfl (fun _ _ => ?_))
                    refine ⟨fun _ => Ent.refl, ?_⟩
                    obtain ⟨r69, hr70, h⟩ := bind_e h
                    refine AJ_op 3 15 rfl (by kernel_rfl) rfl (GY_none rfl) (O_call (L_ring_area_put hr70) rfl Try.call60 (Dels.cons del0 (Dels.cons del0 Dels.nil)) rfl (fun _ _ => ?_))
                    refine ⟨fun h => absurd h (by decide), ?_⟩
                    refine AJ_op 4 31 rfl (by kernel_rfl) rfl (GY_none rfl) (O_store rfl rfl foc3 rfl rfl Try.sizeOf30 ?_)
                    refine ⟨fun h => absurd h (by decide), ?_⟩
                    refine AJ_done (by kernel_rfl) ?_
                    refine QJ_ent (Ent.take del1 (Ent.take del1 (Ent.take del1 (Ent.take del3 (Ent.drop (Ent.drop (Ent.drop Ent.refl))))))) ?_
                    refine QJ_then ?_
                    refine CJ_ret ?_
                    have hE := Option.some.inj h
                    subst hE
                    refine QJ_endM1 (.inl rfl) del1 (resA1 Try.results16 (RV_cell rfl foc2 rfl Try.isAgg30)) rfl ?_
                    refine CSpec.close () ?_ ?_ (Ent.take del2 (Ent.take del0 (Ent.drop Ent.refl)))
                    · rfl
                    · trivial
                ·
                  rintro D71 z51 hy72
                  replace h := sel_inr hK48 hy72
                  show QJ _ _ _ _ _ (dblk D71 :: blk X40.1 3 [.int .i64 r38.1] :: blk X40.2.1 3 [.int .i64 r38.2.1] :: blk X40.2.2.1 96 [IfH.v X40.2.2.2, .int .i64 r38.2.2.2] :: blk b1 30 [.int .i64 z51.1] :: Arr bs z51.2 :: _)
                  refine QJ_block_ret ?_
                  refine QJ_then_ret ?_
                  have hE := Option.some.inj h
                  subst hE
                  refine QJ_endM1 (.inl rfl) del0 (resA1 Try.results16 (RV_cell rfl foc4 rfl Try.isAgg30)) rfl ?_
                  refine CSpec.close () ?_ ?_ (Ent.take del11 (Ent.take del4 (Ent.drop (Ent.drop (Ent.drop (Ent.drop (Ent.drop (Ent.drop (Ent.drop (Ent.drop (Ent.drop (Ent.drop Ent.refl))))))))))))
                  · rfl
                  · trivial
def ring_Switch (x_0 : Dvc) (s : ArrS) : Option (Int × ArrS) :=
  Option.bind (ring_open x_0 s) fun r1 =>
  if (((r1.2.2 : Nat) : Int) ≠ (0 : Int)) then
    some ((((r1.2.2 : Nat) : Int), s))
  else
    Option.elim r1.1 (
      none) fun o7 =>
    Option.bind (Dvc.rd o7 s (1 : Int)) fun r9 =>
    if (r9.2 ≠ (0 : Int)) then
      some (r9.2, s)
    else
      if (r9.1 = (0 : UInt64)) then
        some (((12 : Int), s))
      else
        Option.bind (ring_area_text o7 r1.2.1 r9.1 s) fun r11 =>
        if (r11.2.2 ≠ (0 : Int)) then
          some (r11.2.2, s)
        else
          if (¬ r11.2.1 = true) then
            some (((11 : Int), s))
          else
            Option.bind (ring_area_put o7 r1.2.1 (0 : Int) r9.1 s) fun r13 =>
            some (r13.1, r13.2)
theorem L_ring_Switch {W : World} {vx_0 : IfH} {bs : Nat} {x_0 : Dvc} {s : ArrS} {r : Int × ArrS} (h : ring_Switch x_0 s = some r) :
    CSpec Try.prog W 17 [IfH.v vx_0] [DevP bs x_0 vx_0, Arr bs s] (fun x : Unit => .int .i64 r.1) (fun _ => True) (fun x F => DevP bs x_0 vx_0 :: Arr bs r.2 :: F) := by
 refine CSpec.of_body Try.func17 rfl Try.ntmps17 rfl fun F => ?_
 show CJ _ _ _ _ _ _ (_ :: _ :: F)
 unfold ring_Switch at h
 refine sR <| oA rfl rfl <| nT <| sR <| oM rfl rfl ?_
 obtain ⟨r1, hr2, h⟩ := bind_e h
 refine oO <| O_call (L_ring_open hr2) rfl Try.call54 (Dels.cons del0 (Dels.cons del0 Dels.nil)) rfl fun X3 _ => oM rfl rfl <| oP (P_extract rfl rfl) rfl <| oP (P_extract rfl rfl) rfl <| oO <| O_alloc Try.zeroValue96 rfl rfl fun b5 => oO <| O_storeN rfl rfl foc0 Try.sizeOf96 rfl rfl (by simp only [allOne, oneCell_oval, oneCell_oif, oneCell_oifc, Bool.true_and]; rfl) <| oA rfl rfl <| nT <| CJ_seq <| sR <| oM rfl rfl <| oP (P_neq (a := ((r1.2.2 : Nat) : Int)) (b := (0 : Int)) rfl rfl) rfl <| nT <| CJ_condP rfl bT_dec (fun hg1 => ?_) (fun hg1 => ?_)
 ·
  replace h := ite_t hg1 h
  refine sR <| oM rfl rfl <| oA rfl rfl <| nT <| CJ_ret <| QJ_then_ret ?_
  cases h
  exact fE (res1 Try.results17 rfl) () (t1_ (t1_ (eD (eD eR))))
 ·
  replace h := ite_f hg1 h
  refine kT <| sR <| oP (P_fieldAddr rfl ⟨_, _, _, Try.runUnderlying96, rfl, rfl, Try.sizeOf26, rfl⟩) rfl <| oV (V_load rfl foc0 rfl Try.isAgg26) rfl ?_
  rcases opt_e h with ⟨ht6, h⟩ | ⟨o7, ht6, h⟩
  ·
   rw [ht6]
   exact RJ_ent (t0_ (t0_ (t0_ (eD eR)))) <| none_e h
  ·
   rw [ht6]
   refine RJ_ent (Ent.takeC (A' := DevP bs o7 X3) del3 rfl eR) <| RJ_pure (fun h hh => DevP_dep h (stars_perm (del0 (A := DevP bs o7 X3)).out h hh)) fun hdp8 => ?_
   obtain ⟨r9, hr10, h⟩ := bind_e h
   refine oO <| O_callI rfl (dev_Read hr10 hdp8) rfl (Dels.cons del0 (Dels.cons del2 Dels.nil)) rfl fun _ _ => oM rfl rfl <| oP (P_extract rfl rfl) rfl <| oP (P_extract rfl rfl) rfl <| oA rfl rfl <| oA rfl rfl <| nT <| CJ_seq <| sR <| oM rfl rfl <| oP (P_neq (a := r9.2) (b := (0 : Int)) rfl rfl) rfl <| nT <| CJ_condP rfl bT_dec (fun hg2 => ?_) (fun hg2 => ?_)
   ·
    replace h := ite_t hg2 h
    refine sR <| oM rfl rfl <| oA rfl rfl <| nT <| CJ_ret <| QJ_then_ret ?_
    cases h
    exact fE (res1 Try.results17 rfl) () (t3_ (t1_ (eD (eD eR))))
   ·
    replace h := ite_f hg2 h
    refine kT <| CJ_seq <| sR <| oM rfl rfl <| oP (P_eq_u64 (a := r9.1) (b := (0 : UInt64)) rfl rfl) rfl <| nT <| CJ_condP rfl bT_dec (fun hg3 => ?_) (fun hg3 => ?_)
    ·
     replace h := ite_t hg3 h
     refine sR <| oA rfl rfl <| nT <| CJ_ret <| QJ_then_ret ?_
     cases h
     exact fE (res1 Try.results17 rfl) () (t3_ (t1_ (eD (eD eR))))
    ·
     replace h := ite_f hg3 h
     refine kT <| sR <| oV (V_loadN rfl foc2 Try.isAgg96 Try.sizeOf96 rfl rfl) rfl <| oM rfl rfl ?_
     obtain ⟨r11, hr12, h⟩ := bind_e h
     refine oO <| O_call (L_ring_area_text hr12) rfl Try.call56 (Dels.cons del0 (Dels.cons del0 Dels.nil)) rfl fun _ _ => oM rfl rfl <| oP (P_extract rfl rfl) rfl <| oP (P_extract rfl rfl) rfl <| oP (P_extract rfl rfl) rfl <| oA rfl rfl <| oA rfl rfl <| oA rfl rfl <| nT <| CJ_seq <| sR <| oM rfl rfl <| oP (P_neq (a := r11.2.2) (b := (0 : Int)) rfl rfl) rfl <| nT <| CJ_condP rfl bT_dec (fun hg4 => ?_) (fun hg4 => ?_)
     ·
      replace h := ite_t hg4 h
      refine sR <| oM rfl rfl <| oA rfl rfl <| nT <| CJ_ret <| QJ_then_ret ?_
      cases h
      exact fE (res1 Try.results17 rfl) () (t3_ (t1_ (eD (eD eR))))
     ·
      replace h := ite_f hg4 h
      refine kT <| CJ_seq <| sR <| oM rfl rfl <| oP (P_not rfl) rfl <| nT <| CJ_condP rfl (bT_not Iff.rfl) (fun hg5 => ?_) (fun hg5 => ?_)
      ·
       replace h := ite_t hg5 h
       refine sR <| oA rfl rfl <| nT <| CJ_ret <| QJ_then_ret ?_
       cases h
       exact fE (res1 Try.results17 rfl) () (t3_ (t1_ (eD (eD eR))))
      ·
       replace h := ite_f hg5 h
       refine kT <| sR <| oV (V_loadN rfl foc2 Try.isAgg96 Try.sizeOf96 rfl rfl) rfl <| oM rfl rfl ?_
       obtain ⟨r13, hr14, h⟩ := bind_e h
       refine oO <| O_call (L_ring_area_put hr14) rfl Try.call60 (Dels.cons del0 (Dels.cons del0 Dels.nil)) rfl fun _ _ => oA rfl rfl <| nT <| CJ_ret ?_
       cases h
       exact fE (res1 Try.results17 rfl) () (t3_ (t1_ (eD (eD eR))))
end Go.Proofs
namespace Go.Proofs
open Go.VG
theorem wU {x : UInt64} (h : x.toNat < 2 ^ 20) : IntKind.i64.wrap (x.toNat : Int) = (x.toNat : Int) := wrap64_u _ (by omega)
theorem fU_lt (w : UInt64) (p : Nat) {k : Nat} (h : k ≤ 20) : (fieldU w p k).toNat < 2 ^ 20 := Nat.lt_of_lt_of_le (fieldU_lt w p k) (Nat.pow_le_pow_right (by omega) h)
theorem to_u64_self (x : UInt64) : to_u64 ((x.toNat : Nat) : Int) = x := by
  have h1 := to_u64_toNat (x.toNat : Int)
  have h2 := x.toNat_lt
  exact UInt64.toNat_inj.1 (by omega)
abbrev wid4 : List Int := [20, 16, 12, 16]
theorem divided4 : pack_divided wid4 = some true := by
  unfold pack_divided
  have hF := fuel_big
  generalize FUEL = N at hF ⊢
  obtain ⟨M, rfl⟩ : ∃ M, N = M + 5 := ⟨N - 5, by omega⟩
  have e : pack_divided_l1 wid4 (M + 5) 0 0 = some (.inl ()) := by
    show pack_divided_l1_b _ _ _ _ = _
    unfold pack_divided_l1_b
    rw [if_pos (by simp), if_neg (by simp), grd_pos (inI64_of (by simp)), if_neg (by simp)]
    show pack_divided_l1_b _ _ _ _ = _
    unfold pack_divided_l1_b
    rw [if_pos (by simp), if_neg (by simp), grd_pos (inI64_of (by simp)), if_neg (by simp)]
    show pack_divided_l1_b _ _ _ _ = _
    unfold pack_divided_l1_b
    rw [if_pos (by simp), if_neg (by simp), grd_pos (inI64_of (by simp)), if_neg (by simp)]
    show pack_divided_l1_b _ _ _ _ = _
    unfold pack_divided_l1_b
    rw [if_pos (by simp), if_neg (by simp), grd_pos (inI64_of (by simp)), if_neg (by simp)]
    show pack_divided_l1_b _ _ _ _ = _
    unfold pack_divided_l1_b
    rw [if_neg (by simp)]
  rw [e]; rfl
abbrev maskK (k : Nat) : UInt64 := shr_u64 18446744073709551615 (64 - k)
theorem fields4 : fieldsL wid4 0 = [(0, maskK 20), (20, maskK 16), (36, maskK 12), (48, maskK 16)] := rfl
theorem okW4 : (∀ w ∈ wid4, 0 ≤ w ∧ w ≤ 64) ∧ wid4.length ≤ 1000000 := by
  refine ⟨fun w hw => ?_, by decide⟩
  simp only [List.mem_cons, List.not_mem_nil, or_false] at hw
  omega
theorem field_and (w : UInt64) (p : Nat) {k : Nat} (hk : k ≤ 64) : shr_u64 w p &&& maskK k = fieldU w p k := and_mask (shr_max hk)
theorem split4 (d : UInt64) : pack_Split d wid4 = some ([dQ d, dS d, dN d, dC d], 0) := by
  unfold pack_Split
  rw [divided4]; simp only [Option.bind_some]
  rw [if_neg (by simp), show pack_fields wid4 = some () from rfl]; simp only [Option.bind_some]
  rw [grd_pos (decide_eq_true okW4), fields4]
  simp only [pack_Split_l1, pack_Split_l1_b]
  rw [grd_pos (by rfl), grd_pos (inLen_of (by simp)), grd_pos (by rfl), grd_pos (inLen_of (by simp)), grd_pos (by rfl), grd_pos (inLen_of (by simp)), grd_pos (by rfl), grd_pos (inLen_of (by simp))]
  simp only [Option.bind_some, List.nil_append, List.cons_append]
  rw [field_and _ _ (by omega), field_and _ _ (by omega), field_and _ _ (by omega), field_and _ _ (by omega)]
  rfl
abbrev partsD (d : UInt64) : ring_parts := ⟨((dQ d).toNat : Int), ((dS d).toNat : Int), ((dN d).toNat : Int), ((dC d).toNat : Int)⟩
theorem parts_eq (d : UInt64) : ring_descriptor_parts d = some (partsD d) := by
  unfold ring_descriptor_parts
  rw [show ring_widths = some wid4 from rfl]; simp only [Option.bind_some]
  rw [split4]; simp only [Option.bind_some]
  rw [grd_pos (by rfl), grd_pos (by rfl), grd_pos (by rfl), grd_pos (by rfl)]
  show some (⟨IntKind.i64.wrap ((dQ d).toNat : Int), IntKind.i64.wrap ((dS d).toNat : Int), IntKind.i64.wrap ((dN d).toNat : Int), IntKind.i64.wrap ((dC d).toNat : Int)⟩ : ring_parts) = _
  rw [wU (fU_lt _ _ (by omega)), wU (fU_lt _ _ (by omega)), wU (fU_lt _ _ (by omega)), wU (fU_lt _ _ (by omega))]
theorem sumW_int {q st n : UInt64} {ws : List UInt64} : ((shortU (crcU (q :: st :: n :: ws))).toNat : Int) = ((sumW q st n ws).toNat : Int) := by
  have h := (shortU (crcU (q :: st :: n :: ws))).toNat_lt
  have h2 := to_u64_toNat ((shortU (crcU (q :: st :: n :: ws))).toNat : Int)
  unfold sumW
  omega
theorem check_eq (p : ring_parts) {ws : List UInt64} (hw : ws.length ≤ 100000) : ring_parts_check p ws = some ((sumW (to_u64 p.seq) (to_u64 p.start) (to_u64 p.length) ws).toNat : Int) := by
  unfold ring_parts_check
  rw [grd_pos (inLen_of (by simp; omega)), Words_eq]; simp only [Option.bind_some]
  rw [show checksum_Short (crcU ([to_u64 p.seq, to_u64 p.start, to_u64 p.length] ++ ws)) = some (shortU (crcU (to_u64 p.seq :: to_u64 p.start :: to_u64 p.length :: ws))) from rfl]
  simp only [Option.bind_some]
  rw [sumW_int]
theorem shl_zero (a : UInt64) : shl_u64 a 0 = a := by
  refine tb_ext fun i hi => ?_
  rw [tb_shl _ (by omega)]; simp [hi]
theorem or_zero (a : UInt64) : 0 ||| a = a := by
  refine tb_ext fun i _ => ?_
  rw [tb_or, tb_zero]; rfl
theorem maskK_toNat {k : Nat} (hk : k ≤ 64) : (maskK k).toNat = 2 ^ k - 1 := shr_max hk
theorem word_eq4 {a b c d : UInt64} (ha : a.toNat < 2 ^ 20) (hb : b.toNat < 2 ^ 16) (hc : c.toNat < 2 ^ 12) (hd : d.toNat < 2 ^ 16) : pack_Fields wid4 [a, b, c, d] = some (descW a b c d, 0) := by
  unfold pack_Fields
  rw [if_neg (by simp), divided4]; simp only [Option.bind_some]
  rw [if_neg (by simp), show pack_fields wid4 = some () from rfl]; simp only [Option.bind_some]
  rw [grd_pos (decide_eq_true okW4), fields4]
  have m20 := maskK_toNat (k := 20) (by omega); have m16 := maskK_toNat (k := 16) (by omega); have m12 := maskK_toNat (k := 12) (by omega)
  simp only [pack_Fields_l1, pack_Fields_l1_b]
  show Option.bind (grd _ <| if ((maskK 20).toNat : Int) < (a.toNat : Int) then _ else _) _ = _
  rw [grd_pos (by rfl), if_neg (by omega), grd_pos (by rfl), grd_pos (by rfl), grd_pos (inN64_of (by omega))]
  show Option.bind (grd _ <| if ((maskK 16).toNat : Int) < (b.toNat : Int) then _ else _) _ = _
  rw [grd_pos (by rfl), if_neg (by omega), grd_pos (by rfl), grd_pos (by rfl), grd_pos (inN64_of (by omega))]
  show Option.bind (grd _ <| if ((maskK 12).toNat : Int) < (c.toNat : Int) then _ else _) _ = _
  rw [grd_pos (by rfl), if_neg (by omega), grd_pos (by rfl), grd_pos (by rfl), grd_pos (inN64_of (by omega))]
  show Option.bind (grd _ <| if ((maskK 16).toNat : Int) < (d.toNat : Int) then _ else _) _ = _
  rw [grd_pos (by rfl), if_neg (by omega), grd_pos (by rfl), grd_pos (by rfl), grd_pos (inN64_of (by omega))]
  show some ((((0 ||| shl_u64 a 0) ||| shl_u64 b 20) ||| shl_u64 c 36) ||| shl_u64 d 48, (0 : Int)) = _
  rw [shl_zero, or_zero]; rfl
theorem partsWord_eq {p : ring_parts} (ha : (to_u64 p.seq).toNat < 2 ^ 20) (hb : (to_u64 p.start).toNat < 2 ^ 16) (hc : (to_u64 p.length).toNat < 2 ^ 12) (hd : (to_u64 p.sum).toNat < 2 ^ 16) :
    ring_parts_word p = some (descW (to_u64 p.seq) (to_u64 p.start) (to_u64 p.length) (to_u64 p.sum)) := by
  unfold ring_parts_word
  rw [show ring_widths = some wid4 from rfl]; simp only [Option.bind_some]
  rw [word_eq4 ha hb hc hd]; rfl
abbrev rgR (n : Nat) : Nat := min (n - 2) 65535
theorem tmodN {a b : Nat} : ((a : Nat) : Int).tmod (b : Int) = ((a % b : Nat) : Int) := by
  rw [Int.tmod_eq_emod_of_nonneg (by omega)]; omega
theorem nz_iff (x : UInt64) : ((x.toNat : Nat) : Int) = 0 ↔ x = 0 := by
  constructor
  · intro h
    refine UInt64.toNat_inj.1 ?_
    have e : (0 : UInt64).toNat = 0 := rfl
    omega
  · rintro rfl; rfl
end Go.Proofs
namespace Go.Proofs
open Go.VG
def nowL (s : ArrS) (d : Nat) : List UInt64 := (s.drv.getD d d0).now
theorem size_nowL {s : ArrS} {d : Nat} : s.size d = (nowL s d).length := rfl
structure Good (s : ArrS) : Prop where
  down : s.down = false
  fuse : s.fuse = 0
  bad : s.bad = []
  miss : ∀ d, (s.drv.getD d d0).miss = false
theorem good_mkS {ims : List (List UInt64)} : Good (mkS ims) where
  down := rfl
  fuse := rfl
  bad := rfl
  miss d := by
    simp only [mkS, List.getD, List.getElem?_map]
    cases ims[d]? <;> rfl
theorem nowL_mkS {ims : List (List UInt64)} {d : Nat} : nowL (mkS ims) d = ims.getD d [] := by
  simp only [nowL, mkS, List.getD, List.getElem?_map]
  cases ims[d]? <;> rfl
@[simp] theorem drv_mkS {ims : List (List UInt64)} : (mkS ims).drv.length = ims.length := by simp [mkS]
theorem Good.chk {s : ArrS} (hg : Good s) {d a : Nat} (hd : d < s.drv.length) (ha : a < s.size d) : cPow s = 0 ∧ cLoc s d = 0 ∧ cPla s d a = 0 ∧ cPre s d = 0 ∧ cWho s d a = 0 := by
  refine ⟨by simp [cPow, hg.down], ?_, ?_, by simp only [cPre, missI, Int.toNat_natCast, hg.miss d]; rfl, by simp [cWho, isBad, hg.bad, lookM]⟩
  · rw [cLoc, if_pos (show inR s (d : Int) from ⟨by omega, by omega⟩)]
  · rw [cPla, sizeI_of hd, if_pos (by omega)]
theorem Good.rdC {s : ArrS} (hg : Good s) {d a : Nat} (hd : d < s.drv.length) (ha : a < s.size d) : rdC s d a = 0 := by
  obtain ⟨h1, h2, h3, h4, h5⟩ := hg.chk hd ha
  simp [Go.Proofs.rdC, fz, h1, h2, h3, h4, h5]
theorem Good.rdV {s : ArrS} (hg : Good s) {d a : Nat} (hd : d < s.drv.length) (ha : a < s.size d) : rdV s d a = (nowL s d).getD a 0 := by
  rw [Go.Proofs.rdV, if_pos (hg.rdC hd ha)]; rfl
def wr1 (s : ArrS) (d a : Nat) (v : UInt64) : ArrS := { s with drv := setNow s d a v, log := s.log ++ [⟨d, a, v⟩], writes := s.writes + 1 }
theorem Good.wr {s : ArrS} (hg : Good s) {d a : Nat} {v : UInt64} (hd : d < s.drv.length) (ha : a < s.size d) : wrR s d a = 0 ∧ wrS s d a v = wr1 s d a v := by
  obtain ⟨h1, h2, h3, h4, h5⟩ := hg.chk hd ha
  have hc : wrC s d a = 0 := by simp [wrC, fz, h1, h2, h3, h4]
  refine ⟨by rw [wrR, if_neg (by simp [hc]), if_neg (by rw [hg.fuse]; decide)], ?_⟩
  rw [wrS, if_neg (by simp [hc]), if_neg (by rw [hg.fuse]; decide)]
  have hdel : delM ([] : List ((Int × Int) × Unit)) ((d : Int), (a : Int)) = [] := rfl
  simp only [wr1, Int.toNat_natCast, hg.bad, hg.fuse, hdel]
theorem nowL_wr1 {s : ArrS} {d a e : Nat} {v : UInt64} (hd : d < s.drv.length) : nowL (wr1 s d a v) e = if e = d then (nowL s d).set a v else nowL s e := by
  unfold nowL wr1 setNow
  simp only [List.getD, List.getElem?_set]
  by_cases h : d = e
  · subst h; simp [hd]
  · rw [if_neg h, if_neg (fun x => h x.symm)]
@[simp] theorem drv_wr1 {s : ArrS} {d a : Nat} {v : UInt64} : (wr1 s d a v).drv.length = s.drv.length := by simp [wr1, setNow]
@[simp] theorem writes_wr1 {s : ArrS} {d a : Nat} {v : UInt64} : (wr1 s d a v).writes = s.writes + 1 := rfl
theorem size_wr1 {s : ArrS} {d a e : Nat} {v : UInt64} (hd : d < s.drv.length) : (wr1 s d a v).size e = s.size e := by
  rw [size_nowL, size_nowL, nowL_wr1 hd]; split
  · rename_i h; rw [List.length_set, h]
  · rfl
theorem Good.wr1 {s : ArrS} (hg : Good s) {d a : Nat} {v : UInt64} : Good (wr1 s d a v) where
  down := hg.down
  fuse := hg.fuse
  bad := hg.bad
  miss e := by
    have h0 := hg.miss e
    simp only [Go.Proofs.wr1, setNow, List.getD, List.getElem?_set] at h0 ⊢
    by_cases h : d = e
    · subst h
      by_cases hl : d < s.drv.length
      · have h1 := hg.miss d
        simp [hl, List.getD] at h1 ⊢
        exact h1
      · simp [hl]
    · rw [if_neg h]; exact h0
end Go.Proofs
namespace Go.Proofs
open Go.VG
theorem Good.span_rd {s : ArrS} (hg : Good s) {d st n k : Nat} (hd : d < s.drv.length) (hk : k < n) (hn : st + n ≤ s.size d) (hb : s.size d ≤ 1000000000) : (Dvc.span (d : Int) (st : Int) (n : Int)).rd s (k : Int) = some ((nowL s d).getD (st + k) 0, 0) := by
  rw [Go.Proofs.span_rd (by omega) (by omega), if_pos (by omega)]
  have e : (st : Int) + (k : Int) = ((st + k : Nat) : Int) := by omega
  rw [e, hg.rdC hd (by omega), hg.rdV hd (by omega)]
theorem Good.span_wr {s : ArrS} (hg : Good s) {d st n k : Nat} {v : UInt64} (hd : d < s.drv.length) (hk : k < n) (hn : st + n ≤ s.size d) (hb : s.size d ≤ 1000000000) (hw : s.writes ≤ 1000000000) : (Dvc.span (d : Int) (st : Int) (n : Int)).wr s (k : Int) v = some (0, Go.Proofs.wr1 s d (st + k) v) := by
  rw [Go.Proofs.span_wr (by omega) (by omega) hw, if_pos (by omega)]
  have e : (st : Int) + (k : Int) = ((st + k : Nat) : Int) := by omega
  rw [e, (hg.wr (v := v) hd (by omega)).1, (hg.wr hd (by omega)).2]
def wrN (s : ArrS) (d a : Nat) (f : Nat → UInt64) : Nat → ArrS
  | 0 => s
  | n + 1 => wr1 (wrN s d a f n) d (a + n) (f n)
theorem Good.wrN {s : ArrS} (hg : Good s) {d a : Nat} {f : Nat → UInt64} : ∀ n, Good (wrN s d a f n)
  | 0 => hg
  | n + 1 => (Good.wrN hg n).wr1
@[simp] theorem drv_wrN {s : ArrS} {d a : Nat} {f : Nat → UInt64} : ∀ {n}, (wrN s d a f n).drv.length = s.drv.length
  | 0 => rfl
  | n + 1 => by rw [wrN, drv_wr1, drv_wrN]
@[simp] theorem writes_wrN {s : ArrS} {d a : Nat} {f : Nat → UInt64} : ∀ {n}, (wrN s d a f n).writes = s.writes + n
  | 0 => rfl
  | n + 1 => by rw [wrN, writes_wr1, writes_wrN]; omega
theorem getD_set_ne {l : List UInt64} {i j : Nat} {v : UInt64} (h : i ≠ j) : (l.set i v).getD j 0 = l.getD j 0 := by
  simp [List.getD, List.getElem?_set, h]
theorem getD_set_eq {l : List UInt64} {i : Nat} {v : UInt64} (h : i < l.length) : (l.set i v).getD i 0 = v := by
  simp [List.getD, List.getElem?_set, h]
end Go.Proofs
namespace Go.Proofs
open Go.VG
def durL (s : ArrS) (d : Nat) : List UInt64 := (s.drv.getD d d0).dur
def pendR (log : List Rec) (d a : Nat) : List UInt64 := (log.filter fun r => decide (r.d = d ∧ r.a = a)).map Rec.v
abbrev pend (s : ArrS) (d a : Nat) : List UInt64 := pendR s.log d a
def now (s : ArrS) (d a : Nat) : UInt64 := (nowL s d).getD a 0
def dur (s : ArrS) (d a : Nat) : UInt64 := (durL s d).getD a 0
abbrev cand (s : ArrS) (d a : Nat) : List UInt64 := dur s d a :: pend s d a
theorem pendR_nil {d a : Nat} : pendR [] d a = [] := rfl
theorem pendR_append {l l' : List Rec} {d a : Nat} : pendR (l ++ l') d a = pendR l d a ++ pendR l' d a := by simp [pendR]
theorem pendR_one {r : Rec} {d a : Nat} : pendR [r] d a = if r.d = d ∧ r.a = a then [r.v] else [] := by
  by_cases h : r.d = d ∧ r.a = a
  · simp [pendR, h]
  · simp [pendR, h]
theorem pendR_cons {r : Rec} {l : List Rec} {d a : Nat} : pendR (r :: l) d a = if r.d = d ∧ r.a = a then r.v :: pendR l d a else pendR l d a := by
  rw [show r :: l = [r] ++ l from rfl, pendR_append, pendR_one]; split <;> rfl
theorem pendR_others {l : List Rec} {d e a : Nat} : pendR (others e l) d a = if d = e then [] else pendR l d a := by
  unfold pendR others
  rw [List.filter_filter]
  by_cases h : d = e
  · subst h
    rw [if_pos rfl, List.filter_eq_nil_iff.2]; · rfl
    intro r _ hr; simp at hr; exact hr.2 hr.1.1
  · rw [if_neg h]
    congr 1; apply List.filter_congr; intro r _
    by_cases h2 : r.d = d ∧ r.a = a
    · simp [h2, h]
    · simp [h2]
def lastD : UInt64 → List UInt64 → UInt64
  | d, [] => d
  | _, x :: l => lastD x l
theorem lastD_snoc {v : UInt64} : ∀ {l : List UInt64} {d : UInt64}, lastD d (l ++ [v]) = v
  | [], _ => rfl
  | x :: l, _ => lastD_snoc (l := l) (d := x)
structure Coh (s : ArrS) : Prop where
  len : ∀ d, (durL s d).length = (nowL s d).length
  last : ∀ d a, a < s.size d → lastD (dur s d a) (pend s d a) = now s d a
  log : ∀ r ∈ s.log, r.d < s.drv.length ∧ r.a < s.size r.d
theorem coh_mkS {ims : List (List UInt64)} : Coh (mkS ims) where
  len d := by simp only [durL, nowL, mkS, List.getD, List.getElem?_map]; cases ims[d]? <;> rfl
  last d a _ := by
    show dur (mkS ims) d a = _
    simp only [dur, now, durL, nowL, mkS, List.getD, List.getElem?_map]
    cases ims[d]? <;> rfl
  log r h := by cases h
theorem getD_set {l : List UInt64} {i j : Nat} {v : UInt64} (h : i < l.length) : (l.set i v).getD j 0 = if j = i then v else l.getD j 0 := by
  by_cases e : j = i
  · subst e; rw [if_pos rfl, getD_set_eq h]
  · rw [if_neg e, getD_set_ne (fun x => e x.symm)]
theorem drv_set {l : List Drive} {i j : Nat} {x : Drive} (h : i < l.length) : (l.set i x).getD j d0 = if j = i then x else l.getD j d0 := by
  simp only [List.getD, List.getElem?_set]
  by_cases e : i = j
  · subst e; simp [h]
  · rw [if_neg e, if_neg (fun x => e x.symm)]
section
variable {s : ArrS} {d a : Nat} {v : UInt64}
theorem durL_wr1 {e : Nat} (hd : d < s.drv.length) : durL (wr1 s d a v) e = durL s e := by
  unfold durL wr1 setNow
  rw [drv_set hd]; split
  · rename_i h; subst h; rfl
  · rfl
theorem pend_wr1 {e b : Nat} : pend (wr1 s d a v) e b = if d = e ∧ a = b then pend s e b ++ [v] else pend s e b := by
  show pendR (s.log ++ [⟨d, a, v⟩]) e b = _
  rw [pendR_append, pendR_one]; split <;> simp_all
theorem now_wr1 {e b : Nat} (hd : d < s.drv.length) (ha : a < s.size d) : now (wr1 s d a v) e b = if d = e ∧ a = b then v else now s e b := by
  unfold now
  rw [nowL_wr1 hd]
  by_cases h : e = d
  · subst h; rw [if_pos rfl, getD_set (show a < (nowL s e).length from ha)]
    by_cases h2 : b = a
    · subst h2; simp
    · rw [if_neg h2, if_neg (fun x => h2 x.2.symm)]
  · rw [if_neg h, if_neg (fun x => h x.1.symm)]
theorem dur_wr1 {e b : Nat} (hd : d < s.drv.length) : dur (wr1 s d a v) e b = dur s e b := by unfold dur; rw [durL_wr1 hd]
theorem Coh.wr1 (hc : Coh s) (hd : d < s.drv.length) (ha : a < s.size d) : Coh (wr1 s d a v) where
  len e := by rw [durL_wr1 hd, nowL_wr1 hd]; split
              · rename_i h; subst h; rw [List.length_set]; exact hc.len _
              · exact hc.len e
  last e b hb := by
    rw [size_wr1 hd] at hb
    have h1 := hc.last e b hb
    rw [dur_wr1 hd, pend_wr1, now_wr1 hd ha]
    by_cases h : d = e ∧ a = b
    · rw [if_pos h, if_pos h, lastD_snoc]
    · rw [if_neg h, if_neg h]; exact h1
  log r hr := by
    rw [drv_wr1, size_wr1 hd]
    rcases List.mem_append.1 (show r ∈ s.log ++ [⟨d, a, v⟩] from hr) with h | h
    · exact hc.log r h
    · rw [List.mem_singleton.1 h]; exact ⟨hd, ha⟩
end
def fl1 (s : ArrS) (d : Nat) : ArrS := { s with drv := s.drv.set d { s.drv.getD d d0 with dur := flDur (s.drv.getD d d0).now d s.log (s.drv.getD d d0).dur }, log := others d s.log }
theorem flDur_at {nw : List UInt64} {i a : Nat} : ∀ {log : List Rec} {du : List UInt64}, a < du.length → (flDur nw i log du).getD a 0 = if pendR log i a = [] then du.getD a 0 else nw.getD a 0
  | [], du, _ => by rw [pendR_nil, if_pos rfl]; rfl
  | r :: log, du, h => by
    show (flDur nw i log (if r.d = i then du.set r.a (nw.getD r.a 0) else du)).getD a 0 = _
    rw [flDur_at (by split <;> simpa using h), pendR_cons]
    by_cases hr : r.d = i
    · rw [if_pos hr]
      by_cases ha : r.a = a
      · rw [show (if r.d = i ∧ r.a = a then r.v :: pendR log i a else pendR log i a) = r.v :: pendR log i a from if_pos ⟨hr, ha⟩, if_neg (show ¬ r.v :: pendR log i a = [] by simp)]
        subst ha
        split
        · rw [getD_set_eq h]
        · rfl
      · rw [show (if r.d = i ∧ r.a = a then r.v :: pendR log i a else pendR log i a) = pendR log i a from if_neg (fun x => ha x.2), getD_set_ne ha]
    · rw [if_neg hr, show (if r.d = i ∧ r.a = a then r.v :: pendR log i a else pendR log i a) = pendR log i a from if_neg (fun x => hr x.1)]
section
variable {s : ArrS} {d : Nat}
@[simp] theorem drv_fl1 : (fl1 s d).drv.length = s.drv.length := by simp [fl1]
theorem nowL_fl1 {e : Nat} (hd : d < s.drv.length) : nowL (fl1 s d) e = nowL s e := by
  unfold nowL fl1
  rw [drv_set hd]; split
  · rename_i h; subst h; rfl
  · rfl
theorem size_fl1 {e : Nat} (hd : d < s.drv.length) : (fl1 s d).size e = s.size e := by rw [size_nowL, size_nowL, nowL_fl1 hd]
theorem pend_fl1 {e b : Nat} : pend (fl1 s d) e b = if e = d then [] else pend s e b := pendR_others
theorem dur_fl1 {e b : Nat} (hc : Coh s) (hd : d < s.drv.length) (hb : b < s.size e) : dur (fl1 s d) e b = if e = d then now s e b else dur s e b := by
  unfold dur durL fl1
  rw [drv_set hd]
  by_cases h : e = d
  · subst h
    rw [if_pos rfl, if_pos rfl]
    have hl := hc.last e b hb
    rw [flDur_at (by have := hc.len e; unfold durL at this; rw [this]; exact hb)]
    by_cases hp : pendR s.log e b = []
    · rw [if_pos hp]
      have : pend s e b = [] := hp
      rw [this] at hl
      exact hl
    · rw [if_neg hp]; rfl
  · rw [if_neg h, if_neg h]
theorem now_fl1 {e b : Nat} (hd : d < s.drv.length) : now (fl1 s d) e b = now s e b := by unfold now; rw [nowL_fl1 hd]
theorem Coh.fl1 (hc : Coh s) (hd : d < s.drv.length) : Coh (fl1 s d) where
  len e := by
    rw [nowL_fl1 hd]
    unfold durL Go.Proofs.fl1
    rw [drv_set hd]; split
    · rename_i h; subst h; rw [flDur_len]; exact hc.len _
    · exact hc.len e
  last e b hb := by
    rw [size_fl1 hd] at hb
    have h1 := hc.last e b hb
    rw [dur_fl1 hc hd hb, pend_fl1, now_fl1 hd]
    by_cases h : e = d
    · rw [if_pos h, if_pos h]; rfl
    · rw [if_neg h, if_neg h]; exact h1
  log r hr := by
    rw [drv_fl1, size_fl1 hd]
    exact hc.log r (List.mem_filter.1 (show r ∈ others d s.log from hr)).1
theorem miss_fl1 {e : Nat} (hd : d < s.drv.length) : ((fl1 s d).drv.getD e d0).miss = (s.drv.getD e d0).miss := by
  unfold fl1
  rw [drv_set hd]; split
  · rename_i h; subst h; rfl
  · rfl
theorem Good.fl1 (hg : Good s) (hd : d < s.drv.length) : Good (fl1 s d) where
  down := hg.down
  fuse := hg.fuse
  bad := hg.bad
  miss e := by rw [miss_fl1 hd]; exact hg.miss e
theorem flC_of (hdn : s.down = false) (hd : d < s.drv.length) : flC s d = if (s.drv.getD d d0).miss then 6 else 0 := by
  have h1 : cPow s = 0 := by simp [cPow, hdn]
  have h2 : cLoc s d = 0 := by rw [cLoc, if_pos (show inR s (d : Int) from ⟨by omega, by omega⟩)]
  simp only [flC, fz, h1, h2, cPre, missI, Int.toNat_natCast]
  by_cases hm : (s.drv.getD d d0).miss = true
  · simp [hm]
  · simp [hm]
theorem flS_of (h : flC s d = 0) : flS s d = fl1 s d := flS_ok h
end
theorem rsGo_dur {ks : List Bool} {d a : Nat} : ∀ {log : List Rec} {n : Nat} {ds : List Drive}, d < ds.length → a < (ds.getD d d0).dur.length →
    (((rsGo ks n log ds).getD d d0).dur.getD a 0) ∈ ((ds.getD d d0).dur.getD a 0) :: pendR log d a
  | [], _, _, _, _ => List.mem_cons_self
  | r :: log, n, ds, hd, ha => by
    show ((rsGo ks (n + 1) log (if ks.getD n false = true then putD ds r else ds)).getD d d0).dur.getD a 0 ∈ _
    have hk := putD_keep ds r d
    by_cases h : ks.getD n false = true
    · rw [if_pos h]
      have := rsGo_dur (ks := ks) (d := d) (a := a) (log := log) (n := n + 1) (ds := putD ds r) (by rw [hk.1]; exact hd) (by rw [hk.2.2.1]; exact ha)
      rw [pendR_cons]
      by_cases hr : r.d = d
      · have e1 : (putD ds r).getD d d0 = { ds.getD d d0 with dur := (ds.getD d d0).dur.set r.a r.v } := by
          unfold putD; rw [drv_set (by omega), if_pos hr.symm, hr]
        rw [e1] at this
        by_cases hra : r.a = a
        · rw [if_pos ⟨hr, hra⟩]
          rw [hra, getD_set_eq ha] at this
          exact List.mem_cons_of_mem _ this
        · rw [if_neg (fun x => hra x.2)]
          rw [getD_set_ne hra] at this
          exact this
      · have e1 : (putD ds r).getD d d0 = ds.getD d d0 := by
          unfold putD
          by_cases hl : r.d < ds.length
          · rw [drv_set hl, if_neg (fun x => hr x.symm)]
          · rw [List.set_eq_of_length_le (by omega)]
        rw [e1] at this
        rw [if_neg (fun x => hr x.1)]; exact this
    · rw [if_neg h, pendR_cons]
      have := rsGo_dur (ks := ks) (d := d) (a := a) (log := log) (n := n + 1) (ds := ds) hd ha
      split
      · rcases List.mem_cons.1 this with e | e
        · rw [e]; exact List.mem_cons_self
        · exact List.mem_cons_of_mem _ (List.mem_cons_of_mem _ e)
      · exact this
section
variable {s : ArrS} {ks : List Bool}
@[simp] theorem drv_rs : (rsS s ks).drv.length = s.drv.length := by simp [rsS, (rsGo_keep ks s.log 0 s.drv 0).1]
theorem nowL_rs {d : Nat} : nowL (rsS s ks) d = durL (rsS s ks) d := by unfold nowL durL; rw [rs_at]; rfl
theorem durL_rs_len {d : Nat} : (durL (rsS s ks) d).length = (durL s d).length := by
  unfold durL; rw [rs_at]; exact (rsGo_keep ks s.log 0 s.drv d).2.2.1
theorem size_rs {d : Nat} (hc : Coh s) : (rsS s ks).size d = s.size d := by rw [size_nowL, nowL_rs, durL_rs_len, hc.len]; rfl
theorem now_rs {d a : Nat} : now (rsS s ks) d a = dur (rsS s ks) d a := by unfold now dur; rw [nowL_rs]
theorem dur_rs {d a : Nat} (hc : Coh s) (hd : d < s.drv.length) (ha : a < s.size d) : dur (rsS s ks) d a ∈ cand s d a := by
  unfold dur durL; rw [rs_at]
  exact rsGo_dur hd (by have := hc.len d; unfold durL at this; rw [this]; exact ha)
theorem Coh.rs (hc : Coh s) : Coh (rsS s ks) where
  len d := by rw [nowL_rs]
  last d a _ := by show dur (rsS s ks) d a = _; rw [now_rs]
  log r h := by cases h
theorem miss_rs {d : Nat} : ((rsS s ks).drv.getD d d0).miss = (s.drv.getD d d0).miss := by rw [rs_at]; exact (rsGo_keep ks s.log 0 s.drv d).2.2.2
end
end Go.Proofs
namespace Go.Proofs
open Go.VG
structure InSz (ns : List Nat) (s : ArrS) : Prop where
  cnt : s.drv.length = ns.length
  size : ∀ d, d < ns.length → s.size d = ns.getD d 0
  wr : s.writes ≤ 1000000000
theorem flS_drv {s : ArrS} {d : Nat} : (flS s d).drv.length = s.drv.length := by unfold flS; split <;> simp
theorem flS_writes {s : ArrS} {d : Int} : (flS s d).writes = s.writes := by unfold flS; split <;> rfl
theorem flS_size {s : ArrS} {d e : Nat} : (flS s d).size e = s.size e := by
  unfold flS; split
  · rfl
  · rename_i h
    have hd : d < s.drv.length := by
      rcases Nat.lt_or_ge d s.drv.length with h' | h'
      · exact h'
      · exfalso; apply h
        have : cLoc s (d : Int) = 1 := by rw [cLoc, if_neg (fun x : inR s (d : Int) => by have := x.2; omega)]
        intro h0
        have h1 := h0
        unfold flC fz at h1
        by_cases hp : cPow s = 0
        · simp [hp, fz, this] at h1
        · simp [hp] at h1
    exact size_fl1 (s := s) hd
theorem InSz.flS {ns : List Nat} {s : ArrS} (h : InSz ns s) (d : Nat) : InSz ns (flS s d) := ⟨by rw [flS_drv]; exact h.cnt, fun e he => by rw [flS_size]; exact h.size e he, by rw [flS_writes]; exact h.wr⟩
def flsS : ArrS → List Nat → ArrS
  | s, [] => s
  | s, d :: ds => flsS (flS s d) ds
def flsC : ArrS → List Nat → Int
  | _, [] => 0
  | s, d :: ds => if flC s d = 0 then flsC (flS s d) ds else flC s d
theorem InSz.flsS {ns : List Nat} : ∀ {ds : List Nat} {s : ArrS}, InSz ns s → InSz ns (flsS s ds)
  | [], _, h => h
  | d :: ds, s, h => show InSz ns (Go.Proofs.flsS (Go.Proofs.flS s d) ds) from InSz.flsS (h.flS d)
structure MapD (ns : List Nat) (x : Dvc) (n : Nat) (f : Nat → Nat × Nat) (ds : List Nat) : Prop where
  small : n ≤ 1000000000
  at_ : ∀ k, k < n → (f k).1 < ns.length ∧ (f k).2 < ns.getD (f k).1 0 ∧ (f k).1 ∈ ds
  size : ∀ s, InSz ns s → x.size s = some (n : Int)
  rd : ∀ s (k : Nat), InSz ns s → k < n → x.rd s (k : Int) = some (rdV s (f k).1 (f k).2, rdC s (f k).1 (f k).2)
  rdo : ∀ s (k : Int), InSz ns s → ¬ (0 ≤ k ∧ k < n) → x.rd s k = some (0, 1)
  wr : ∀ s (k : Nat) v, InSz ns s → k < n → x.wr s (k : Int) v = some (wrR s (f k).1 (f k).2, wrS s (f k).1 (f k).2 v)
  wro : ∀ s (k : Int) v, InSz ns s → ¬ (0 ≤ k ∧ k < n) → x.wr s k v = some (1, s)
  fl : ∀ s, InSz ns s → x.fl s = some (flsC s ds, flsS s ds)
theorem MapD.span {ns : List Nat} {d st n : Nat} (hd : d < ns.length) (hn : st + n ≤ ns.getD d 0) (hb : ns.getD d 0 ≤ 1000000000) : MapD ns (Dvc.span (d : Int) (st : Int) (n : Int)) n (fun k => (d, st + k)) [d] where
  small := by omega
  at_ k hk := ⟨hd, by show st + k < ns.getD d 0; omega, List.mem_singleton.2 rfl⟩
  size s h := rfl
  rd s k h hk := by
    rw [span_rd (by omega) (by omega), if_pos (by omega)]
    have e : (st : Int) + (k : Int) = ((st + k : Nat) : Int) := by omega
    rw [e]
  rdo s k h hk := by rw [span_rd (by omega) (by omega), if_neg hk]
  wr s k v h hk := by
    rw [span_wr (by omega) (by omega) h.wr, if_pos (by omega)]
    have e : (st : Int) + (k : Int) = ((st + k : Nat) : Int) := by omega
    rw [e]
  wro s k v h hk := by rw [span_wr (by omega) (by omega) h.wr, if_neg hk]
  fl s h := by
    rw [span_fl h.wr]
    show _ = some ((if flC s d = 0 then (0 : Int) else flC s d), flS s d)
    by_cases e : flC s d = 0
    · rw [if_pos e, e]
    · rw [if_neg e]
end Go.Proofs
namespace Go.Proofs
open Go.VG
def miss (s : ArrS) (d : Nat) : Bool := (s.drv.getD d d0).miss
structure Flushed (s : ArrS) (ds : List Nat) (t : ArrS) : Prop where
  drv : t.drv.length = s.drv.length
  now : ∀ d, nowL t d = nowL s d
  dur : ∀ d a, a < s.size d → dur t d a = if d ∈ ds ∧ miss s d = false then Go.Proofs.now s d a else Go.Proofs.dur s d a
  pend : ∀ d a, pend t d a = if d ∈ ds ∧ miss s d = false then [] else Go.Proofs.pend s d a
  miss : ∀ d, miss t d = Go.Proofs.miss s d
  down : t.down = s.down
  fuse : t.fuse = s.fuse
  bad : t.bad = s.bad
  wr : t.writes = s.writes
  coh : Coh t
theorem Flushed.none {s : ArrS} (h : Coh s) : Flushed s [] s where
  drv := rfl
  now _ := rfl
  dur _ _ _ := by simp
  pend _ _ := by simp
  miss _ := rfl
  down := rfl
  fuse := rfl
  bad := rfl
  wr := rfl
  coh := h
theorem flC_miss {s : ArrS} {d : Nat} (hdn : s.down = false) (hd : d < s.drv.length) : flC s d = if miss s d then 6 else 0 := flC_of hdn hd
theorem flS_miss {s : ArrS} {d : Nat} (hdn : s.down = false) (hd : d < s.drv.length) : flS s d = if miss s d then s else fl1 s d := by
  have h := flC_miss hdn hd
  by_cases hm : miss s d = true
  · rw [if_pos hm] at h; rw [if_pos hm]
    unfold flS; rw [if_pos (by rw [h]; decide)]
  · rw [if_neg hm] at h; rw [if_neg hm]; exact flS_of h
theorem flushed : ∀ {ds : List Nat} {s : ArrS}, Coh s → s.down = false → (∀ d ∈ ds, d < s.drv.length) → Flushed s ds (flsS s ds) ∧ flsC s ds = if ds.any (fun d => miss s d) then 6 else 0
  | [], s, hc, _, _ => ⟨Flushed.none hc, rfl⟩
  | d :: ds, s, hc, hdn, hds => by
    have hd := hds d List.mem_cons_self
    have hC := flC_miss hdn hd
    have hS := flS_miss hdn hd
    show Flushed s (d :: ds) (flsS (flS s d) ds) ∧ (if flC s d = 0 then flsC (flS s d) ds else flC s d) = _
    by_cases hm : miss s d = true
    · rw [if_pos hm] at hC hS
      rw [hS, hC]
      obtain ⟨h1, -⟩ := flushed (ds := ds) hc hdn (fun e he => hds e (List.mem_cons_of_mem _ he))
      refine ⟨{ h1 with dur := fun e a ha => ?_, pend := fun e a => ?_ }, by simp [hm]⟩
      · rw [h1.dur e a ha]
        by_cases he : e = d
        · subst he; rw [if_neg (by simp [hm]), if_neg (by simp [hm])]
        · simp [he]
      · rw [h1.pend e a]
        by_cases he : e = d
        · subst he; rw [if_neg (by simp [hm]), if_neg (by simp [hm])]
        · simp [he]
    · have hm' : miss s d = false := by simpa using hm
      rw [if_neg hm] at hC hS
      rw [hS, hC]
      have hmm : ∀ e, miss (fl1 s d) e = miss s e := fun e => miss_fl1 hd
      obtain ⟨h1, h2⟩ := flushed (ds := ds) (s := fl1 s d) (hc.fl1 hd) hdn (fun e he => by rw [drv_fl1]; exact hds e (List.mem_cons_of_mem _ he))
      refine ⟨⟨by rw [h1.drv, drv_fl1], fun e => by rw [h1.now, nowL_fl1 hd], fun e a ha => ?_, fun e a => ?_, fun e => by rw [h1.miss, hmm], h1.down, h1.fuse, h1.bad, h1.wr, h1.coh⟩, ?_⟩
      · rw [h1.dur e a (by rw [size_fl1 hd]; exact ha), hmm, now_fl1 hd, dur_fl1 hc hd ha]
        by_cases he : e = d
        · subst he; simp [hm']
        · simp [he]
      · rw [h1.pend e a, hmm, pend_fl1]
        by_cases he : e = d
        · subst he; simp [hm']
        · simp [he]
      · rw [if_pos rfl, h2, List.any_cons, hm', Bool.false_or]
        congr 1
        simp only [hmm]
theorem Flushed.size {s t : ArrS} {ds : List Nat} (h : Flushed s ds t) {d : Nat} : t.size d = s.size d := by rw [size_nowL, size_nowL, h.now]
theorem Flushed.inSz {ns : List Nat} {s t : ArrS} {ds : List Nat} (h : Flushed s ds t) (hs : InSz ns s) : InSz ns t := ⟨by rw [h.drv]; exact hs.cnt, fun d hd => by rw [h.size]; exact hs.size d hd, by rw [h.wr]; exact hs.wr⟩
theorem Flushed.nowAt {s t : ArrS} {ds : List Nat} (h : Flushed s ds t) {d a : Nat} : Go.Proofs.now t d a = Go.Proofs.now s d a := by unfold Go.Proofs.now; rw [h.now]
structure Missed (s : ArrS) (p : Nat → Bool) (t : ArrS) : Prop where
  drv : t.drv.length = s.drv.length
  now : ∀ d, nowL t d = nowL s d
  dur : ∀ d, durL t d = durL s d
  log : t.log = s.log
  miss : ∀ d, d < s.drv.length → miss t d = p d
  down : t.down = s.down
  fuse : t.fuse = s.fuse
  bad : t.bad = s.bad
  wr : t.writes = s.writes
theorem Missed.coh {s t : ArrS} {p : Nat → Bool} (h : Missed s p t) (hc : Coh s) : Coh t where
  len d := by rw [h.now, h.dur]; exact hc.len d
  last d a ha := by
    have h1 := hc.last d a (by rw [size_nowL] at ha ⊢; rw [← h.now]; exact ha)
    unfold Go.Proofs.now Go.Proofs.dur pend at h1 ⊢
    rw [h.now, h.dur, h.log]; exact h1
  log r hr := by
    rw [h.log] at hr
    have := hc.log r hr
    rw [h.drv, size_nowL, h.now]; exact this
theorem Missed.size {s t : ArrS} {p : Nat → Bool} (h : Missed s p t) {d : Nat} : t.size d = s.size d := by rw [size_nowL, size_nowL, h.now]
theorem Missed.inSz {ns : List Nat} {s t : ArrS} {p : Nat → Bool} (h : Missed s p t) (hs : InSz ns s) : InSz ns t := ⟨by rw [h.drv]; exact hs.cnt, fun d hd => by rw [h.size]; exact hs.size d hd, by rw [h.wr]; exact hs.wr⟩
theorem Missed.self {s : ArrS} : Missed s (Go.Proofs.miss s) s := ⟨rfl, fun _ => rfl, fun _ => rfl, rfl, fun _ _ => rfl, rfl, rfl, rfl, rfl⟩
theorem smS_of {s : ArrS} {d : Nat} {b : Bool} (hd : d < s.drv.length) : smS s d b = { s with drv := s.drv.set d { s.drv.getD d d0 with miss := b } } := by
  rw [smS, if_pos (show inR s (d : Int) from ⟨by omega, by omega⟩)]; rfl
theorem Missed.set {s t : ArrS} {p : Nat → Bool} (h : Missed s p t) {d : Nat} {b : Bool} (hd : d < s.drv.length) : Missed s (fun e => if e = d then b else p e) (smS t d b) := by
  have hd' : d < t.drv.length := by rw [h.drv]; exact hd
  rw [smS_of hd']
  refine ⟨by simpa using h.drv, fun e => ?_, fun e => ?_, h.log, fun e he => ?_, h.down, h.fuse, h.bad, h.wr⟩
  · rw [← h.now]; unfold nowL; rw [drv_set hd']; split
    · rename_i x; subst x; rfl
    · rfl
  · rw [← h.dur]; unfold durL; rw [drv_set hd']; split
    · rename_i x; subst x; rfl
    · rfl
  · unfold Go.Proofs.miss; rw [drv_set hd']; split
    · rfl
    · exact h.miss e he
theorem imC_of {s : ArrS} {d : Nat} (hd : d < s.drv.length) : imC s d = 0 := by rw [imC, if_pos (show inR s (d : Int) from ⟨by omega, by omega⟩)]
theorem imL_of {s : ArrS} {d : Nat} (hd : d < s.drv.length) : imL s d = nowL s d := by rw [imL, if_pos (show inR s (d : Int) from ⟨by omega, by omega⟩)]; rfl
end Go.Proofs
namespace Go.Proofs
open Go.VG
structure ArrOk (ns : List Nat) (K : Nat) (s : ArrS) : Prop where
  sz : InSz ns s
  wr : s.writes ≤ K
  coh : Coh s
  bad : s.bad = []
section
variable {ns : List Nat} {K d a : Nat} {s : ArrS} {v : UInt64}
theorem ArrOk.mono {K' : Nat} (h : ArrOk ns K s) (hK : K ≤ K') : ArrOk ns K' s := { h with wr := Nat.le_trans h.wr hK }
theorem ArrOk.disk (h : ArrOk ns K s) (hd : d < ns.length) : d < s.drv.length := by rw [h.sz.cnt]; exact hd
theorem ArrOk.sect (h : ArrOk ns K s) (hd : d < ns.length) (ha : a < ns.getD d 0) : a < s.size d := by rw [h.sz.size d hd]; exact ha
theorem ArrOk.chk (h : ArrOk ns K s) (hdn : s.down = false) (hd : d < ns.length) (ha : a < ns.getD d 0) : cPow s = 0 ∧ cLoc s d = 0 ∧ cPla s d a = 0 ∧ cPre s d = (if miss s d then 6 else 0) ∧ cWho s d a = 0 := by
  have hdd := h.disk hd
  have haa := h.sect hd ha
  refine ⟨by simp [cPow, hdn], ?_, ?_, ?_, by simp [cWho, isBad, h.bad, lookM]⟩
  · rw [cLoc, if_pos (show inR s (d : Int) from ⟨by omega, by omega⟩)]
  · rw [cPla, sizeI_of hdd, if_pos (by omega)]
  · simp only [cPre, missI, Int.toNat_natCast, miss]; by_cases hh : (s.drv.getD d d0).miss = true <;> simp [hh]
theorem ArrOk.rdA (h : ArrOk ns K s) (hdn : s.down = false) (hd : d < ns.length) (ha : a < ns.getD d 0) (hm : miss s d = false) : rdV s d a = now s d a ∧ rdC s d a = 0 := by
  obtain ⟨h1, h2, h3, h4, h5⟩ := h.chk hdn hd ha
  rw [hm] at h4
  have hC : rdC s d a = 0 := by simp [rdC, fz, h1, h2, h3, h4, h5]
  exact ⟨by rw [rdV, if_pos hC]; rfl, hC⟩
structure Wrote (ns : List Nat) (K : Nat) (s : ArrS) (d a : Nat) (v : UInt64) (t : ArrS) : Prop where
  ok : ArrOk ns (K + 1) t
  dn : t.down = false
  fuse : t.fuse = s.fuse - 1
  miss : ∀ e, Go.Proofs.miss t e = Go.Proofs.miss s e
  now : ∀ e b, Go.Proofs.now t e b = if d = e ∧ a = b then v else Go.Proofs.now s e b
  cand : ∀ e b, Go.Proofs.cand t e b = if d = e ∧ a = b then Go.Proofs.cand s e b ++ [v] else Go.Proofs.cand s e b
structure Fell (ns : List Nat) (K : Nat) (s t : ArrS) : Prop where
  ok : ArrOk ns K t
  dn : t.down = true
  miss : ∀ e, Go.Proofs.miss t e = Go.Proofs.miss s e
  now : ∀ e b, Go.Proofs.now t e b = Go.Proofs.now s e b
  cand : ∀ e b, Go.Proofs.cand t e b = Go.Proofs.cand s e b
theorem ArrOk.wrA (h : ArrOk ns K s) (hK : K ≤ 1000000) (hdn : s.down = false) (hd : d < ns.length) (ha : a < ns.getD d 0) (hm : miss s d = false) :
    (s.fuse ≠ 1 ∧ wrR s d a = 0 ∧ Wrote ns K s d a v (wrS s d a v)) ∨ (s.fuse = 1 ∧ wrR s d a = 5 ∧ Fell ns K s (wrS s d a v)) := by
  obtain ⟨h1, h2, h3, h4, h5⟩ := h.chk hdn hd ha
  rw [hm] at h4
  have hdd := h.disk hd
  have haa := h.sect hd ha
  have hC : wrC s d a = 0 := by simp [wrC, fz, h1, h2, h3, h4]
  have hC' : ¬ wrC s d a ≠ 0 := fun x => x hC
  by_cases hf : s.fuse = 1
  · refine .inr ⟨hf, by rw [wrR, if_neg hC', if_pos hf], ?_⟩
    rw [wrS, if_neg hC', if_pos hf]
    exact ⟨⟨⟨h.sz.cnt, h.sz.size, h.sz.wr⟩, h.wr, ⟨h.coh.len, h.coh.last, h.coh.log⟩, h.bad⟩, rfl, fun _ => rfl, fun _ _ => rfl, fun _ _ => rfl⟩
  · refine .inl ⟨hf, by rw [wrR, if_neg hC', if_neg hf], ?_⟩
    rw [wrS, if_neg hC', if_neg hf]
    have hbad : delM s.bad ((d : Int), (a : Int)) = [] := by rw [h.bad]; rfl
    have hs' : ({ s with drv := setNow s (d : Int).toNat (a : Int).toNat v, bad := delM s.bad ((d : Int), (a : Int)), log := s.log ++ [⟨(d : Int).toNat, (a : Int).toNat, v⟩], fuse := s.fuse - 1, writes := s.writes + 1 } : ArrS) = { wr1 s d a v with bad := [], fuse := s.fuse - 1 } := by
      simp only [wr1, Int.toNat_natCast, hbad]
    rw [hs']
    have hcoh := h.coh.wr1 (v := v) hdd haa
    refine ⟨⟨⟨by show (wr1 s _ _ _).drv.length = _; rw [drv_wr1]; exact h.sz.cnt, fun e he => by show (wr1 s _ _ _).size e = _; rw [size_wr1 hdd]; exact h.sz.size e he, by show s.writes + 1 ≤ _; have := h.wr; omega⟩, by show s.writes + 1 ≤ _; have := h.wr; omega, ⟨hcoh.len, hcoh.last, hcoh.log⟩, rfl⟩, hdn, rfl, fun e => ?_, fun e b => now_wr1 hdd haa, fun e b => ?_⟩
    · show (((setNow s d a v).getD e d0)).miss = _
      unfold setNow Go.Proofs.miss; rw [drv_set hdd]; split
      · rename_i x; subst x; rfl
      · rfl
    · show dur (wr1 s d a v) e b :: pend (wr1 s d a v) e b = _
      rw [dur_wr1 hdd, pend_wr1]; split <;> rfl
structure Flushed1 (ns : List Nat) (K : Nat) (s : ArrS) (d : Nat) (t : ArrS) : Prop where
  ok : ArrOk ns K t
  dn : t.down = false
  fuse : t.fuse = s.fuse
  miss : ∀ e, Go.Proofs.miss t e = Go.Proofs.miss s e
  now : ∀ e b, Go.Proofs.now t e b = Go.Proofs.now s e b
  cand : ∀ e b, e < ns.length → b < ns.getD e 0 → Go.Proofs.cand t e b = if d = e then [Go.Proofs.now s e b] else Go.Proofs.cand s e b
theorem ArrOk.flA (h : ArrOk ns K s) (hdn : s.down = false) (hd : d < ns.length) (hm : miss s d = false) : flC s d = 0 ∧ Flushed1 ns K s d (flS s d) := by
  have hdd := h.disk hd
  obtain ⟨h1, h2⟩ := flushed (ds := [d]) h.coh hdn (fun e he => by rw [List.mem_singleton.1 he]; exact hdd)
  have hany : [d].any (fun d => Go.Proofs.miss s d) = false := by simp [hm]
  rw [hany] at h2
  have h3 : flC s d = 0 := by
    have h4 : (if flC s d = 0 then (0 : Int) else flC s d) = 0 := h2
    by_cases h5 : flC s d = 0
    · exact h5
    · rwa [if_neg h5] at h4
  have h6 : flsS s [d] = flS s d := rfl
  rw [h6] at h1
  refine ⟨h3, ⟨⟨h1.inSz h.sz, by rw [h1.wr]; exact h.wr, h1.coh, by rw [h1.bad]; exact h.bad⟩, by rw [h1.down]; exact hdn, h1.fuse, h1.miss, fun e b => h1.nowAt, fun e b he hb => ?_⟩⟩
  show Go.Proofs.dur _ _ _ :: Go.Proofs.pend _ _ _ = _
  rw [h1.dur _ _ (h.sect he hb), h1.pend]
  by_cases e1 : d = e
  · subst e1; rw [if_pos ⟨List.mem_singleton.2 rfl, hm⟩, if_pos ⟨List.mem_singleton.2 rfl, hm⟩, if_pos rfl]
  · rw [if_neg (fun x => e1 (List.mem_singleton.1 x.1).symm), if_neg (fun x => e1 (List.mem_singleton.1 x.1).symm), if_neg e1]
structure Restarted (ns : List Nat) (K : Nat) (s t : ArrS) : Prop where
  ok : ArrOk ns K t
  dn : t.down = false
  fuse : t.fuse = 0
  miss : ∀ e, Go.Proofs.miss t e = Go.Proofs.miss s e
  now : ∀ e b, e < ns.length → b < ns.getD e 0 → Go.Proofs.now t e b ∈ Go.Proofs.cand s e b
  cand : ∀ e b, Go.Proofs.cand t e b = [Go.Proofs.now t e b]
  unfl : t.log = []
theorem ArrOk.rs (h : ArrOk ns K s) (ks : List Bool) : Restarted ns K s (rsS s ks) where
  ok := ⟨⟨by rw [drv_rs]; exact h.sz.cnt, fun d hd => by rw [size_rs h.coh]; exact h.sz.size d hd, h.sz.wr⟩, h.wr, h.coh.rs, h.bad⟩
  dn := rfl
  fuse := rfl
  miss e := by unfold Go.Proofs.miss; rw [miss_rs]
  now e b he hb := by rw [now_rs]; exact dur_rs h.coh (h.disk he) (h.sect he hb)
  cand e b := by
    show [dur (rsS s ks) e b] = _
    rw [now_rs]
  unfl := rfl
theorem ArrOk.fuse (h : ArrOk ns K s) {m : Nat} : ArrOk ns K { s with fuse := m } := ⟨⟨h.sz.cnt, h.sz.size, h.sz.wr⟩, h.wr, ⟨h.coh.len, h.coh.last, h.coh.log⟩, h.bad⟩
end
end Go.Proofs
namespace Go.Proofs
open Go.VG
section
variable {x y : Dvc} {s : ArrS} {at_ : Int} {n : Nat}
theorem readAll_l1 {f : Nat → UInt64} (ha : 0 ≤ at_ ∧ at_ + n ≤ 1000000000) (hr : ∀ i, i < n → x.rd s (at_ + i) = some (f i, 0)) : ∀ (N i : Nat) (acc : List UInt64), n - i < N → i ≤ n → acc = (List.range i).map f →
    block_ReadAll_l1 x at_ (n : Int) s N i acc = some (.inl ((List.range n).map f))
  | 0, _, _, h, _, _ => absurd h (by omega)
  | N + 1, i, acc, h, hi, he => by
    show block_ReadAll_l1_b _ _ _ _ _ _ _ = _
    unfold block_ReadAll_l1_b
    subst he
    by_cases hlt : i < n
    · rw [if_pos (by omega), grd_t (inI64_of (by omega)), hr i hlt]
      simp only [Option.bind_some]
      rw [if_neg (by simp), grd_t (inLen_of (by simp; omega)), grd_t (inN64_of (by omega))]
      exact readAll_l1 ha hr N (i + 1) _ (by omega) (by omega) (by simp [List.range_succ])
    · rw [if_neg (by omega)]
      have : i = n := by omega
      rw [this]
theorem readAll_eq {m : Int} {f : Nat → UInt64} (hs : x.size s = some m) (hm : m ≤ 1000000000) (ha : 0 ≤ at_ ∧ at_ + n ≤ m) (hr : ∀ i, i < n → x.rd s (at_ + i) = some (f i, 0)) : block_ReadAll x at_ (n : Int) s = some ((List.range n).map f, 0) := by
  unfold block_ReadAll
  have hF := fuel_big
  generalize FUEL = N at hF ⊢
  rw [hs]; simp only [Option.bind_some]
  rw [inside_t hm (by omega)]; simp only [Option.bind_some]
  rw [if_neg (by simp), readAll_l1 (by omega) hr N 0 [] (by omega) (by omega) (by simp)]; rfl
end
end Go.Proofs
namespace Go.Proofs
open Go.VG
abbrev Dk (d n : Nat) : Dvc := Dvc.span (d : Int) 0 (n : Int)
section
variable {ns : List Nat} {K d n k : Nat} {s : ArrS} {v : UInt64}
theorem Dk.sz : (Dk d n).size s = some (n : Int) := rfl
theorem Dk.rd0 (hn : n ≤ 1000000000) (hk : k < n) : (Dk d n).rd s (k : Int) = some (rdV s d k, rdC s d k) := by
  rw [span_rd (by omega) (by omega), if_pos (by omega), Int.zero_add]
theorem Dk.wr0 (hn : n ≤ 1000000000) (hk : k < n) (hw : s.writes ≤ 1000000000) : (Dk d n).wr s (k : Int) v = some (wrR s d k, wrS s d k v) := by
  rw [span_wr (by omega) (by omega) hw, if_pos (by omega), Int.zero_add]
theorem Dk.fl0 (hw : s.writes ≤ 1000000000) : (Dk d n).fl s = some (flC s d, flS s d) := span_fl hw
theorem Dk.rd (h : ArrOk ns K s) (hdn : s.down = false) (hd : d < ns.length) (hn : ns.getD d 0 = n) (hb : n ≤ 1000000000) (hm : miss s d = false) (hk : k < n) : (Dk d n).rd s (k : Int) = some (now s d k, 0) := by
  obtain ⟨h1, h2⟩ := h.rdA hdn hd (a := k) (by rw [hn]; exact hk) hm
  rw [Dk.rd0 hb hk, h1, h2]
theorem Dk.wr (h : ArrOk ns K s) (hK : K ≤ 1000000) (hdn : s.down = false) (hd : d < ns.length) (hn : ns.getD d 0 = n) (hb : n ≤ 1000000000) (hm : miss s d = false) (hk : k < n) :
    (s.fuse ≠ 1 ∧ ∃ t, (Dk d n).wr s (k : Int) v = some (0, t) ∧ Wrote ns K s d k v t) ∨ (s.fuse = 1 ∧ ∃ t, (Dk d n).wr s (k : Int) v = some (5, t) ∧ Fell ns K s t) := by
  have hw := h.wr
  rcases h.wrA (v := v) hK hdn hd (a := k) (by rw [hn]; exact hk) hm with ⟨h1, h2, h3⟩ | ⟨h1, h2, h3⟩
  · exact .inl ⟨h1, _, by rw [Dk.wr0 hb hk (by omega), h2], h3⟩
  · exact .inr ⟨h1, _, by rw [Dk.wr0 hb hk (by omega), h2], h3⟩
theorem Dk.fl (h : ArrOk ns K s) (hK : K ≤ 1000000) (hdn : s.down = false) (hd : d < ns.length) (hm : miss s d = false) : ∃ t, (Dk d n).fl s = some (0, t) ∧ Flushed1 ns K s d t := by
  have hw := h.wr
  obtain ⟨h1, h2⟩ := h.flA hdn hd hm
  exact ⟨_, by rw [Dk.fl0 (by omega), h1], h2⟩
end
structure WroteL (ns : List Nat) (K : Nat) (s : ArrS) (d a : Nat) (l : List UInt64) (t : ArrS) : Prop where
  ok : ArrOk ns (K + l.length) t
  dn : t.down = false
  fuse : t.fuse = s.fuse - l.length
  miss : ∀ e, Go.Proofs.miss t e = Go.Proofs.miss s e
  now : ∀ e b, Go.Proofs.now t e b = if d = e ∧ a ≤ b ∧ b < a + l.length then l.getD (b - a) 0 else Go.Proofs.now s e b
  cand : ∀ e b, ¬ (d = e ∧ a ≤ b ∧ b < a + l.length) → Go.Proofs.cand t e b = Go.Proofs.cand s e b
section
variable {ns : List Nat} {K d n a : Nat} {s : ArrS}
theorem WroteL.nil (h : ArrOk ns K s) (hdn : s.down = false) : WroteL ns K s d a [] s :=
  ⟨by simpa using h, hdn, by simp, fun _ => rfl, fun e b => by rw [if_neg (fun x => by have h2 := x.2.2; rw [List.length_nil] at h2; omega)], fun _ _ _ => rfl⟩
theorem Dk.readAll {m : Nat} (h : ArrOk ns K s) (hdn : s.down = false) (hd : d < ns.length) (hn : ns.getD d 0 = n) (hb : n ≤ 1000000) (hm : miss s d = false) (ha : a + m ≤ n) :
    block_ReadAll (Dk d n) (a : Int) (m : Int) s = some ((List.range m).map fun i => now s d (a + i), 0) :=
  readAll_eq Dk.sz (by omega) (by omega) fun i hi => by
    have e0 : (a : Int) + ((i : Nat) : Int) = ((a + i : Nat) : Int) := by omega
    rw [e0]; exact Dk.rd h hdn hd hn (by omega) hm (by omega)
end
end Go.Proofs
namespace Go.Proofs
open Go.VG
structure Lv (ns : List Nat) (K d n : Nat) (s : ArrS) : Prop where
  ok : ArrOk ns K s
  dn : s.down = false
  hd : d < ns.length
  hn : ns.getD d 0 = n
  h4 : 4 ≤ n
  hb : n ≤ 1000
  ms : miss s d = false
  cl : ∀ b, b < n → cand s d b = [now s d b]
  hK : K ≤ 900000
theorem rg_le {n : Nat} (h4 : 4 ≤ n) (hb : n ≤ 1000) : 2 ≤ rgR n ∧ 2 + rgR n ≤ n ∧ rgR n = n - 2 := by unfold rgR; omega
section
variable {ns : List Nat} {K d n : Nat} {s : ArrS}
theorem open_eq (h4 : 4 ≤ n) (hb : n ≤ 1000) : ring_open (Dk d n) s = some (some (Dk d n), ((rgR n : Nat) : Int), 0) := by
  unfold ring_open
  rw [Dk.sz]; simp only [Option.bind_some]
  rw [if_neg (by omega), grd_pos (inI64_of (by omega))]
  have e : min ((n : Int) - (2 : Int)) (65535 : Int) = ((rgR n : Nat) : Int) := by unfold rgR; omega
  rw [e]
theorem sectors_drop {m st r i : Nat} (h : i < m) : (sectorsL (m : Int) (st : Int) (r : Int)).drop i = ((i : Int), ((plc r st i : Nat) : Int)) :: (sectorsL (m : Int) (st : Int) (r : Int)).drop (i + 1) := by
  have hl : i < (sectorsL (m : Int) (st : Int) (r : Int)).length := by rw [sectorsL_len]; omega
  rw [List.drop_eq_getElem_cons hl]
  congr 1
  simp only [sectorsL, List.getElem_map, List.getElem_range, Prod.mk.injEq, true_and]
  have e : ((st : Int) + (i : Int)) = ((st + i : Nat) : Int) := by omega
  unfold plc
  rw [e]
  omega
theorem sectors_end {m st r : Nat} : (sectorsL (m : Int) (st : Int) (r : Int)).drop m = [] := List.drop_eq_nil_of_le (by rw [sectorsL_len]; omega)
def readP (A : Nat → UInt64) (r st m i : Nat) : List UInt64 := (List.range m).map fun k => if k < i then A (plc r st k) else 0
theorem readP_zero {A : Nat → UInt64} {r st m : Nat} : List.replicate m (0 : UInt64) = readP A r st m 0 := List.ext_getElem (by simp [readP]) fun i h1 h2 => by simp [readP]
theorem readP_len {A : Nat → UInt64} {r st m i : Nat} : (readP A r st m i).length = m := by simp [readP]
theorem readP_full {A : Nat → UInt64} {r st m : Nat} : readP A r st m m = ringW A r st m := List.map_congr_left fun i hi => if_pos (List.mem_range.1 hi)
theorem readP_step {A : Nat → UInt64} {r st m i : Nat} : (readP A r st m i).set i (A (plc r st i)) = readP A r st m (i + 1) := by
  refine List.ext_getElem (by simp [readP]) fun k h1 h2 => ?_
  rw [List.getElem_set]
  split
  · rename_i e; subst e; simp [readP]
  · rename_i e
    simp only [readP, List.getElem_map, List.getElem_range]
    by_cases h3 : k < i
    · rw [if_pos h3, if_pos (by omega)]
    · rw [if_neg h3, if_neg (by omega)]
theorem Lv.rd (h : Lv ns K d n s) {k : Nat} (hk : k < n) : (Dk d n).rd s (k : Int) = some (now s d k, 0) := Dk.rd h.ok h.dn h.hd h.hn (by have := h.hb; omega) h.ms hk
theorem text_l1_eq (h : Lv ns K d n s) {st m : Nat} : ∀ (N i : Nat), m - i = N → i ≤ m → ring_area_text_l1 (Dk d n) s ((sectorsL (m : Int) (st : Int) ((rgR n : Nat) : Int)).drop i) (readP (now s d) (rgR n) st m i) = some (.inl (ringW (now s d) (rgR n) st m))
  | 0, i, hN, hi => by
    have e : i = m := by omega
    rw [e, sectors_end, readP_full]; rfl
  | N + 1, i, hN, hi => by
    obtain ⟨r1, r2, r3⟩ := rg_le h.h4 h.hb
    rw [sectors_drop (by omega)]
    show ring_area_text_l1_b _ _ _ _ _ = _
    unfold ring_area_text_l1_b
    have hp := plc_lt (r := rgR n) (st := st) (i := i) (by omega)
    simp only
    rw [h.rd (by omega)]; simp only [Option.bind_some]
    rw [if_neg (by simp), grd_pos (decide_eq_true (by rw [readP_len]; omega)), show (((i : Nat) : Int)).toNat = i by omega, readP_step]
    exact text_l1_eq h N (i + 1) (by omega) (by omega)
theorem area_text_eq (h : Lv ns K d n s) (w : UInt64) : ring_area_text (Dk d n) ((rgR n : Nat) : Int) w s = some ((wholeR (now s d) (rgR n) w).1, (wholeR (now s d) (rgR n) w).2, 0) := by
  obtain ⟨r1, r2, r3⟩ := rg_le h.h4 h.hb
  have hb := h.hb
  unfold ring_area_text wholeR
  rw [parts_eq]; simp only [Option.bind_some]
  simp only [nz_iff]
  have hiff : (((dQ w = 0 ∨ dN w = 0) ∨ ((rgR n : Nat) : Int) ≤ ((dS w).toNat : Int)) ∨ ((rgR n : Nat) : Int) < ((dN w).toNat : Int)) ↔ (dQ w = 0 ∨ dN w = 0 ∨ rgR n ≤ (dS w).toNat ∨ rgR n < (dN w).toNat) := by
    rw [Int.ofNat_le, Int.ofNat_lt, or_assoc, or_assoc]
  by_cases hc : dQ w = 0 ∨ dN w = 0 ∨ rgR n ≤ (dS w).toNat ∨ rgR n < (dN w).toNat
  · rw [if_pos (hiff.2 hc), if_pos hc]
  · rw [if_neg (fun x => hc (hiff.1 x)), if_neg hc]
    have c1 : (dS w).toNat < rgR n := Nat.lt_of_not_le fun x => hc (.inr (.inr (.inl x)))
    have c2 : (dN w).toNat ≤ rgR n := Nat.le_of_not_lt fun x => hc (.inr (.inr (.inr x)))
    rw [grd_pos (decide_eq_true (by omega))]
    unfold ring_area_sectors
    simp only [Option.bind_some]
    rw [grd_pos (decide_eq_true (by omega)), show ((((dN w).toNat : Nat) : Int)).toNat = (dN w).toNat by omega]
    have hl := text_l1_eq h (st := (dS w).toNat) (m := (dN w).toNat) (dN w).toNat 0 (by omega) (by omega)
    rw [List.drop_zero, ← readP_zero] at hl
    rw [hl]; simp only [Option.bind_some]
    show Option.bind (pack_FromText (ringW (now s d) (rgR n) (dS w).toNat (dN w).toNat)) _ = _
    rw [fromText_eq (by rw [ringW_len]; omega)]; simp only [Option.bind_some]
    by_cases h2 : (decT (ringW (now s d) (rgR n) (dS w).toNat (dN w).toNat)).2 = 0
    · rw [if_pos h2, check_eq _ (by rw [ringW_len]; omega)]; simp only [Option.bind_some]
      simp only [to_u64_self, h2, decide_true, Bool.true_and]
      congr 3
      rw [decide_eq_decide]
      rw [← UInt64.toNat_inj]
      omega
    · rw [if_neg h2]
      simp [h2]
noncomputable def readR (A : Nat → UInt64) (r : Nat) : api_Copy × Int :=
  open Classical in
  if A 0 = 0 then (⟨false, 0, ByteArray.empty⟩, 12) else if (wholeR A r (A 0)).2 = true then (⟨true, ((dQ (A 0)).toNat : Int), (wholeR A r (A 0)).1⟩, 0) else (⟨false, ((dQ (A 0)).toNat : Int), ByteArray.empty⟩, 11)
theorem read_eq (h : Lv ns K d n s) : ring_Read (Dk d n) s = some (readR (now s d) (rgR n)) := by
  have h4 := h.h4
  unfold ring_Read readR
  rw [open_eq h.h4 h.hb]; simp only [Option.bind_some]
  rw [if_neg (by simp)]; simp only [Option.elim]
  have hr := h.rd (k := 0) (by omega)
  have hr' : (Dk d n).rd s (0 : Int) = some (now s d 0, 0) := hr
  rw [hr']; simp only [Option.bind_some]
  rw [if_neg (by simp)]
  by_cases h0 : now s d 0 = 0
  · rw [if_pos h0, if_pos h0]
  · rw [if_neg h0, if_neg h0, area_text_eq h]; simp only [Option.bind_some]
    rw [if_neg (by simp)]
    by_cases hw : (wholeR (now s d) (rgR n) (now s d 0)).2 = true
    · rw [if_neg (by simpa using hw), if_pos hw, parts_eq]; rfl
    · rw [if_pos hw, if_neg hw, parts_eq]; rfl
theorem seqs_eq (h : Lv ns K d n s) : ring_Seqs (Dk d n) s = some (((dQ (now s d 0)).toNat : Int), ((dQ (now s d 1)).toNat : Int), 0) := by
  have h4 := h.h4; have hb := h.hb
  unfold ring_Seqs
  rw [open_eq h.h4 h.hb]; simp only [Option.bind_some]
  rw [if_neg (by simp)]; simp only [Option.elim]
  have hr : block_ReadAll (Dk d n) (0 : Int) (2 : Int) s = _ := Dk.readAll (a := 0) (m := 2) h.ok h.dn h.hd h.hn (by omega) h.ms (by omega)
  rw [hr]; simp only [Option.bind_some]
  rw [if_neg (by simp), grd_pos (by rfl), grd_pos (by rfl)]
  show Option.bind (ring_descriptor_parts (now s d 0)) _ = _
  rw [parts_eq]; simp only [Option.bind_some]
  show Option.bind (ring_descriptor_parts (now s d 1)) _ = _
  rw [parts_eq]; rfl
structure Put1 (ns : List Nat) (K : Nat) (s : ArrS) (d k : Nat) (v : UInt64) (t : ArrS) : Prop where
  ok : ArrOk ns (K + 1) t
  dn : t.down = false
  fuse : t.fuse = s.fuse - 1
  miss : ∀ e, Go.Proofs.miss t e = Go.Proofs.miss s e
  now : ∀ e b, Go.Proofs.now t e b = if d = e ∧ k = b then v else Go.Proofs.now s e b
  cand : ∀ e b, e < ns.length → b < ns.getD e 0 → Go.Proofs.cand t e b = if d = e then [Go.Proofs.now t e b] else Go.Proofs.cand s e b
theorem Lv.put (h : Lv ns K d n s) {k : Nat} (hk : k < n) {v : UInt64} {pl : Int} :
    (s.fuse ≠ 1 ∧ ∃ t, ring_area_put (Dk d n) pl (k : Int) v s = some (0, t) ∧ Put1 ns K s d k v t) ∨ (s.fuse = 1 ∧ ∃ t, ring_area_put (Dk d n) pl (k : Int) v s = some (5, t) ∧ Fell ns K s t) := by
  have hb := h.hb; have hK := h.hK
  unfold ring_area_put
  rcases Dk.wr (v := v) h.ok (by omega) h.dn h.hd h.hn (by omega) h.ms hk with ⟨hf, t, w1, W1⟩ | ⟨hf, t, w1, W1⟩
  · rw [w1]; simp only [Option.bind_some]
    rw [if_neg (by simp)]
    obtain ⟨u, w2, W2⟩ := Dk.fl (n := n) W1.ok (by omega) W1.dn h.hd (by rw [W1.miss]; exact h.ms)
    rw [w2]; simp only [Option.bind_some]
    refine .inl ⟨hf, u, rfl, W2.ok, W2.dn, by rw [W2.fuse, W1.fuse], fun e => by rw [W2.miss, W1.miss], fun e b => by rw [W2.now, W1.now], fun e b he hb => ?_⟩
    rw [W2.cand e b he hb]
    by_cases hde : d = e
    · rw [if_pos hde, if_pos hde, W2.now]
    · rw [if_neg hde, if_neg hde, W1.cand, if_neg (fun x => hde x.1)]
  · rw [w1]; simp only [Option.bind_some]
    rw [if_pos (by simp)]
    exact .inr ⟨hf, t, rfl, W1⟩
theorem Put1.lv {t : ArrS} {k : Nat} {v : UInt64} (h : Lv ns K d n s) (hp : Put1 ns K s d k v t) (hK : K + 1 ≤ 900000) : Lv ns (K + 1) d n t :=
  ⟨hp.ok, hp.dn, h.hd, h.hn, h.h4, h.hb, by rw [hp.miss]; exact h.ms, fun b hb => by rw [hp.cand d b h.hd (by rw [h.hn]; exact hb), if_pos rfl], hK⟩
theorem Put1.nowD {t : ArrS} {k : Nat} {v : UInt64} (hp : Put1 ns K s d k v t) : Go.Proofs.now t d = upd (Go.Proofs.now s d) k v := by
  funext b
  rw [hp.now]
  unfold upd
  by_cases hb : b = k
  · rw [if_pos ⟨rfl, hb.symm⟩, if_pos hb]
  · rw [if_neg (fun x => hb x.2.symm), if_neg hb]
structure PutR (ns : List Nat) (K : Nat) (s : ArrS) (d r st : Nat) (l : List UInt64) (i : Nat) (t : ArrS) : Prop where
  ok : ArrOk ns (K + i) t
  dn : t.down = false
  fuse : t.fuse = s.fuse - i
  fz : s.fuse = 0 ∨ i < s.fuse
  miss : ∀ e, Go.Proofs.miss t e = Go.Proofs.miss s e
  now : ∀ e b, Go.Proofs.now t e b = if d = e then putN (Go.Proofs.now s d) r st l i b else Go.Proofs.now s e b
  cand : ∀ e b, (d = e → ∀ j, j < i → b ≠ plc r st j) → Go.Proofs.cand t e b = Go.Proofs.cand s e b
structure FellR (ns : List Nat) (K : Nat) (s : ArrS) (d r st m : Nat) (t : ArrS) : Prop where
  ok : ArrOk ns (K + m) t
  dn : t.down = true
  miss : ∀ e, Go.Proofs.miss t e = Go.Proofs.miss s e
  cand : ∀ e b, e < ns.length → b < ns.getD e 0 → (d = e → ∀ j, j < m → b ≠ plc r st j) → Go.Proofs.cand t e b = Go.Proofs.cand s e b
theorem prep_l2_eq (h : Lv ns K d n s) {st : Nat} {l : List UInt64} {e0 : Int} (hl : l.length ≤ 100000) : ∀ (N i : Nat) (t : ArrS), l.length - i = N → i ≤ l.length → PutR ns K s d (rgR n) st l i t →
    (∃ u, ring_Prepare_l2 (l, e0) (Dk d n) ((sectorsL (l.length : Int) (st : Int) ((rgR n : Nat) : Int)).drop i) t = some (.inl u) ∧ PutR ns K s d (rgR n) st l l.length u) ∨
    (s.fuse ≠ 0 ∧ s.fuse ≤ l.length ∧ ∃ u, ring_Prepare_l2 (l, e0) (Dk d n) ((sectorsL (l.length : Int) (st : Int) ((rgR n : Nat) : Int)).drop i) t = some (.inr (5, u)) ∧ FellR ns K s d (rgR n) st l.length u)
  | 0, i, t, hN, hi, ht => by
    have e : i = l.length := by omega
    subst e
    rw [sectors_end]
    exact .inl ⟨t, rfl, ht⟩
  | N + 1, i, t, hN, hi, ht => by
    obtain ⟨r1, r2, r3⟩ := rg_le h.h4 h.hb
    have hK := h.hK; have hb := h.hb
    rw [sectors_drop (by omega)]
    have hp := plc_lt (r := rgR n) (st := st) (i := i) (by omega)
    have e : ∀ z, ring_Prepare_l2 (l, e0) (Dk d n) (((i : Int), ((plc (rgR n) st i : Nat) : Int)) :: z) t = ring_Prepare_l2_b (l, e0) (Dk d n) (ring_Prepare_l2 (l, e0) (Dk d n) z) ((i : Int), ((plc (rgR n) st i : Nat) : Int)) t := fun _ => rfl
    rw [e]
    unfold ring_Prepare_l2_b
    simp only
    rw [grd_pos (decide_eq_true (by omega)), show (((i : Nat) : Int)).toNat = i by omega]
    rcases Dk.wr (v := l.getD i 0) ht.ok (by omega) ht.dn h.hd h.hn (by omega) (by rw [ht.miss]; exact h.ms) (k := plc (rgR n) st i) (by omega) with ⟨hf, u, w1, W1⟩ | ⟨hf, u, w1, W1⟩
    · rw [w1]; simp only [Option.bind_some]
      rw [if_neg (by simp)]
      have hfz := ht.fz; have hfu := ht.fuse
      refine prep_l2_eq h hl N (i + 1) u (by omega) (by omega) ⟨W1.ok, W1.dn, by rw [W1.fuse, ht.fuse]; omega, by omega, fun e => by rw [W1.miss, ht.miss], fun e b => ?_, fun e b hne => ?_⟩
      · rw [W1.now, ht.now]
        by_cases hde : d = e
        · rw [if_pos hde, if_pos hde]
          show _ = upd _ _ _ b
          unfold upd
          by_cases hbp : plc (rgR n) st i = b
          · rw [if_pos ⟨hde, hbp⟩, if_pos hbp.symm]
          · rw [if_neg (fun x => hbp x.2), if_neg (fun x => hbp x.symm)]
        · rw [if_neg (fun x => hde x.1), if_neg hde, if_neg hde]
      · rw [W1.cand, if_neg (fun x => hne x.1 i (by omega) x.2.symm), ht.cand e b (fun hde j hj => hne hde j (by omega))]
    · rw [w1]; simp only [Option.bind_some]
      rw [if_pos (by simp)]
      have hfz := ht.fz; have hfu := ht.fuse
      refine .inr ⟨by omega, by omega, u, rfl, W1.ok.mono (by omega), W1.dn, fun e => by rw [W1.miss, ht.miss], fun e b _ _ hne => ?_⟩
      rw [W1.cand, ht.cand e b (fun hde j hj => hne hde j (by omega))]
structure Prepd (ns : List Nat) (K : Nat) (s : ArrS) (d n st : Nat) (q : Nat) (x : ByteArray) (t : ArrS) : Prop where
  ok : ArrOk ns (K + (encT x).length + 1) t
  dn : t.down = false
  fuse : t.fuse = s.fuse - ((encT x).length + 1)
  miss : ∀ e, Go.Proofs.miss t e = Go.Proofs.miss s e
  now : ∀ e b, Go.Proofs.now t e b = if d = e then upd (putN (Go.Proofs.now s d) (rgR n) st (encT x) (encT x).length) 1 (descT q st x) b else Go.Proofs.now s e b
  cand : ∀ e b, e < ns.length → b < ns.getD e 0 → Go.Proofs.cand t e b = if d = e then [Go.Proofs.now t e b] else Go.Proofs.cand s e b
def oldS (w : UInt64) : Nat := if w = 0 then 0 else (dS w).toNat
def oldN (w : UInt64) : Nat := if w = 0 then 0 else (dN w).toNat
theorem prep_out (h : Lv ns K d n s) (hK8 : K ≤ 800000) {q : Nat} {x : ByteArray} (hq : 1 ≤ q ∧ q ≤ 1048575) (hx : x.size ≤ 8192) (hw : now s d 0 ≠ 0 → (wholeR (now s d) (rgR n) (now s d 0)).2 = true) :
    (rgR n < (encT x).length + oldN (now s d 0) ∧ ring_Prepare (Dk d n) (q : Int) x s = some (14, s)) ∨
    ((encT x).length + oldN (now s d 0) ≤ rgR n ∧ ((∃ t, ring_Prepare (Dk d n) (q : Int) x s = some (0, t) ∧ Prepd ns K s d n ((oldS (now s d 0) + oldN (now s d 0)) % rgR n) q x t) ∨
      (s.fuse ≠ 0 ∧ s.fuse ≤ (encT x).length + 1 ∧ ∃ t, ring_Prepare (Dk d n) (q : Int) x s = some (5, t) ∧ FellR ns K s d (rgR n) ((oldS (now s d 0) + oldN (now s d 0)) % rgR n) (encT x).length t))) := by
  obtain ⟨r1, r2, r3⟩ := rg_le h.h4 h.hb
  have h4 := h.h4; have hb := h.hb; have hK := h.hK
  have hE := encT_lt hx
  have hr : (Dk d n).rd s (0 : Int) = some (now s d 0, 0) := h.rd (k := 0) (by omega)
  have hfS : (dS (now s d 0)).toNat < 2 ^ 16 := fieldU_lt _ _ _
  have hfN : (dN (now s d 0)).toNat < 2 ^ 12 := fieldU_lt _ _ _
  have hoS : oldS (now s d 0) < 2 ^ 16 := by unfold oldS; split <;> omega
  have hoN : oldN (now s d 0) < 2 ^ 12 := by unfold oldN; split <;> omega
  -- what is old
  have hold : ∃ a c : Int, (if now s d 0 ≠ (0 : UInt64) then
              Option.bind (ring_area_text (Dk d n) ((rgR n : Nat) : Int) (now s d 0) s) fun r30 =>
              if (r30.2.2 ≠ (0 : Int)) then
                some (.inr (r30.2.2, s))
              else
                if (¬ r30.2.1 = true) then
                  some (.inr (((11 : Int), s)))
                else
                  Option.bind (ring_descriptor_parts (now s d 0)) fun r32 =>
                  some (.inl (r32.seq, r32.start, r32.length, r32.sum))
            else
              some (.inl ((0 : Int), (0 : Int), (0 : Int), (0 : Int))) : Option ((Int × Int × Int × Int) ⊕ (Int × ArrS))) = some (.inl (a, ((oldS (now s d 0) : Nat) : Int), ((oldN (now s d 0) : Nat) : Int), c)) := by
    by_cases h0 : now s d 0 = 0
    · refine ⟨0, 0, ?_⟩
      rw [if_neg (fun x => x h0)]
      unfold oldS oldN
      rw [if_pos h0, if_pos h0]; rfl
    · refine ⟨((dQ (now s d 0)).toNat : Int), ((dC (now s d 0)).toNat : Int), ?_⟩
      rw [if_pos h0, area_text_eq h]; simp only [Option.bind_some]
      rw [if_neg (by simp), if_neg (by simp [hw h0]), parts_eq]
      unfold oldS oldN
      rw [if_neg h0, if_neg h0]; rfl
  obtain ⟨ha, hc, hold⟩ := hold
  unfold ring_Prepare
  rw [open_eq h.h4 h.hb]; simp only [Option.bind_some]
  rw [if_neg (by simp), if_neg (by omega), text_eq, if_neg (by omega)]; simp only [Option.bind_some]
  rw [if_neg (by simp)]; simp only [Option.elim]
  rw [hr]; simp only [Option.bind_some]
  rw [if_neg (by simp), hold]
  show (_ ∧ grd _ _ = _) ∨ (_ ∧ ((∃ t, grd _ _ = _ ∧ _) ∨ (_ ∧ _ ∧ ∃ t, grd _ _ = _ ∧ _)))
  dsimp only
  rw [grd_pos (inI64_of (by omega))]
  by_cases hsp : rgR n < (encT x).length + oldN (now s d 0)
  · rw [if_pos (by omega)]
    exact .inl ⟨hsp, rfl⟩
  · rw [if_neg (by omega), grd_pos (inI64_of (by omega)), grd_pos (decide_eq_true (by omega))]
    refine .inr ⟨by omega, ?_⟩
    have e1 : (((oldS (now s d 0) : Nat) : Int) + ((oldN (now s d 0) : Nat) : Int)) = ((oldS (now s d 0) + oldN (now s d 0) : Nat) : Int) := by omega
    rw [e1, tmodN]
    have hst := Nat.mod_lt (oldS (now s d 0) + oldN (now s d 0)) (show 0 < rgR n by omega)
    generalize hst' : (oldS (now s d 0) + oldN (now s d 0)) % rgR n = st at hst ⊢
    rw [check_eq _ (by omega)]; simp only [Option.bind_some]
    unfold ring_area_sectors
    simp only [Option.bind_some]
    rw [grd_pos (decide_eq_true (by omega))]
    have h0 : PutR ns K s d (rgR n) st (encT x) 0 s := ⟨h.ok, h.dn, by omega, by omega, fun _ => rfl, fun e b => by
      by_cases hde : d = e
      · rw [if_pos hde, ← hde]; rfl
      · rw [if_neg hde], fun _ _ _ => rfl⟩
    rcases prep_l2_eq h (e0 := 0) (by omega) _ 0 s rfl (Nat.zero_le _) h0 with ⟨t, w1, W1⟩ | ⟨hf1, hf2, t, w1, W1⟩
    · rw [List.drop_zero] at w1
      rw [w1]; simp only [Option.bind_some]
      show (∃ t', (Option.bind ((Dk d n).fl t) fun r65 => _) = _ ∧ _) ∨ (_ ∧ _ ∧ ∃ t', (Option.bind ((Dk d n).fl t) fun r65 => _) = _ ∧ _)
      obtain ⟨u, w2, W2⟩ := Dk.fl (n := n) W1.ok (by omega) W1.dn h.hd (by rw [W1.miss]; exact h.ms)
      rw [w2]; simp only [Option.bind_some]
      rw [if_neg (by simp), partsWord_eq (p := ⟨(q : Int), (st : Int), (((encT x).length : Nat) : Int), ((sumW (to_u64 (q : Int)) (to_u64 (st : Int)) (to_u64 (((encT x).length : Nat) : Int)) (encT x)).toNat : Int)⟩) (to_u64_lt (by omega) (by omega)) (to_u64_lt (by omega) (by omega)) (to_u64_lt hE (by omega)) (by rw [to_u64_self]; exact sumW_lt)]
      simp only [Option.bind_some, to_u64_self]
      have hLu : Lv ns (K + (encT x).length) d n u := ⟨W2.ok, W2.dn, h.hd, h.hn, h.h4, h.hb, by rw [W2.miss, W1.miss]; exact h.ms, fun b hb => by rw [W2.cand d b h.hd (by rw [h.hn]; exact hb), if_pos rfl, W2.now], by omega⟩
      have hfz := W1.fz; have hfu := W1.fuse; have hfu2 := W2.fuse
      rcases hLu.put (k := 1) (by omega) (v := descT q st x) (pl := ((rgR n : Nat) : Int)) with ⟨hf3, v, w3, W3⟩ | ⟨hf3, v, w3, W3⟩
      · have w3' : ring_area_put (Dk d n) ((rgR n : Nat) : Int) (1 : Int) (descW (to_u64 (q : Int)) (to_u64 (st : Int)) (to_u64 (((encT x).length : Nat) : Int)) (sumW (to_u64 (q : Int)) (to_u64 (st : Int)) (to_u64 (((encT x).length : Nat) : Int)) (encT x))) u = some (0, v) := w3
        rw [w3']; simp only [Option.bind_some]
        refine .inl ⟨v, rfl, W3.ok, W3.dn, by have := W3.fuse; omega, fun e => by rw [W3.miss, W2.miss, W1.miss], fun e b => ?_, fun e b he hb => ?_⟩
        · rw [W3.now, W2.now, W1.now]
          by_cases hde : d = e
          · rw [if_pos hde, if_pos hde]
            unfold upd
            by_cases hb1 : b = 1
            · rw [if_pos ⟨hde, hb1.symm⟩, if_pos hb1]
            · rw [if_neg (fun x => hb1 x.2.symm), if_neg hb1]
          · rw [if_neg (fun x => hde x.1), if_neg hde, if_neg hde]
        · rw [W3.cand e b he hb]
          by_cases hde : d = e
          · rw [if_pos hde, if_pos hde]
          · rw [if_neg hde, if_neg hde, W2.cand e b he hb, if_neg hde, W1.cand e b (fun x => absurd x hde)]
      · have w3' : ring_area_put (Dk d n) ((rgR n : Nat) : Int) (1 : Int) (descW (to_u64 (q : Int)) (to_u64 (st : Int)) (to_u64 (((encT x).length : Nat) : Int)) (sumW (to_u64 (q : Int)) (to_u64 (st : Int)) (to_u64 (((encT x).length : Nat) : Int)) (encT x))) u = some (5, v) := w3
        rw [w3']; simp only [Option.bind_some]
        refine .inr ⟨by omega, by omega, v, rfl, W3.ok, W3.dn, fun e => by rw [W3.miss, W2.miss, W1.miss], fun e b he hb hne => ?_⟩
        rw [W3.cand, W2.cand e b he hb]
        by_cases hde : d = e
        · have hne' := hne hde
          subst hde
          rw [if_pos rfl, W1.now, if_pos rfl, putN_out hne', h.cl b (by rw [h.hn] at hb; exact hb)]
        · rw [if_neg hde, W1.cand e b (fun x => absurd x hde)]
    · rw [List.drop_zero] at w1
      rw [w1]; simp only [Option.bind_some]
      exact .inr ⟨hf1, by omega, t, rfl, W1⟩
end
end Go.Proofs
namespace Go.Proofs
open Go.VG
theorem spans_l1 {s : ArrS} (h8 : s.drv.length ≤ 1000) (hz : ∀ i, i < s.drv.length → 1 ≤ s.size i ∧ s.size i ≤ 65536) : ∀ (N i : Nat) (acc : List Dvc), s.drv.length - i < N → i ≤ s.drv.length →
    acc = (List.range i).map (fun i => Dvc.span ((i : Nat) : Int) 0 ((s.size i : Nat) : Int)) → volumegroupmake_Spans_l1 s N acc i = some (.inl (spansA s))
  | 0, _, _, h, _, _ => absurd h (by omega)
  | N + 1, i, acc, h, hi, ha => by
    show volumegroupmake_Spans_l1_b _ _ _ _ = _
    unfold volumegroupmake_Spans_l1_b
    subst ha
    by_cases hlt : i < s.drv.length
    · have h1 := hz i hlt
      rw [if_pos (by omega), sizeI_of hlt, span_mk (by omega) (by omega) (by rw [sizeI_of hlt]; omega) (by rw [sizeI_of hlt]; omega)]
      simp only [Option.bind_some, Option.elim]
      rw [if_neg (by simp), grd_t (inLen_of (by simp; omega)), grd_t (inN64_of (by omega))]
      refine spans_l1 h8 hz N (i + 1) _ (by omega) (by omega) ?_
      simp [List.range_succ]
    · rw [if_neg (by omega)]
      have : i = s.drv.length := by omega
      rw [this]; rfl
theorem spans_eq {s : ArrS} (h8 : s.drv.length ≤ 1000) (hz : ∀ i, i < s.drv.length → 1 ≤ s.size i ∧ s.size i ≤ 65536) : volumegroupmake_Spans s = some (spansA s) := by
  unfold volumegroupmake_Spans
  have hF := fuel_big
  generalize FUEL = N at hF ⊢
  rw [spans_l1 h8 hz N 0 _ (by omega) (by omega) (by simp)]; rfl
end Go.Proofs
namespace Go.Proofs
open Go.VG
def lensN (ims : List (List UInt64)) : List Nat := ims.map List.length
theorem lensN_getD {ims : List (List UInt64)} {i : Nat} : (lensN ims).getD i 0 = (ims.getD i []).length := by
  simp only [lensN, List.getD, List.getElem?_map]; cases ims[i]? <;> rfl
@[simp] theorem lensN_length {ims : List (List UInt64)} : (lensN ims).length = ims.length := by simp [lensN]
theorem inSz_mkS {ims : List (List UInt64)} : InSz (lensN ims) (mkS ims) := ⟨by simp, fun d _ => by rw [size_nowL, nowL_mkS, lensN_getD], Nat.zero_le _⟩
end Go.Proofs
namespace Go.Proofs
open Go.VG
section
variable {ns : List Nat} {K d n : Nat} {s : ArrS}
theorem miss_mkS {ims : List (List UInt64)} {d : Nat} : miss (mkS ims) d = false := good_mkS.miss d
theorem cand_mkS {ims : List (List UInt64)} {d b : Nat} : cand (mkS ims) d b = [now (mkS ims) d b] := by
  show dur _ _ _ :: [] = _
  unfold dur now durL nowL
  simp only [mkS, List.getD, List.getElem?_map]
  cases ims[d]? <;> rfl
end
end Go.Proofs
set_option linter.unusedSimpArgs false
set_option linter.unusedVariables false
set_option maxRecDepth 20000
set_option maxHeartbeats 4000000
namespace Go.Proofs
open Go.VG
theorem bs_62_1_0 (v0 : (Option Addr)) (v1 : Nat) (v2 : Nat) : BuildsSlice Try.prog 62 1 [(0, .slice v0 v1 v2)] 29 [.slice v0 v1 v2] := fun w => by kernel_rfl
theorem eqs_34 : EqsAt Try.prog 34 (fun x => .agg ((tyapi_Copy).enc x).toArray) := eqs_struct (enc := (tyapi_Copy).enc) (by kernel_rfl) (by kernel_rfl) (fun x y => [(x.Valid == y.Valid), (x.Seq == y.Seq), (x.Text.toList == y.Text.toList)]) (fun x y => ⟨by decide, ⟨.bool x.Valid, .bool y.Valid, fun _ => by kernel_rfl, fun _ => by kernel_rfl, fun w => run_equalIn_bool' w 9998 4 _ _ Try.underlying4⟩, ⟨by decide, ⟨.int .i64 x.Seq, .int .i64 y.Seq, fun _ => by kernel_rfl, fun _ => by kernel_rfl, fun w => run_equalIn_int w 9998 3 _ _ _ _ Try.underlying3⟩, ⟨by decide, ⟨.string x.Text, .string y.Text, fun _ => by kernel_rfl, fun _ => by kernel_rfl, fun w => run_equalIn_string w 9998 9 _ _ Try.underlying9⟩, trivial⟩⟩⟩) (fun x y => by
  rw [Bool.eq_iff_iff]
  simp only [str_ibeq, List.all_cons, List.all_nil, id, Bool.and_true, Bool.and_eq_true, decide_eq_true_eq, beq_iff_eq, api_Copy.ext_iff])
end Go.Proofs
namespace Go.Proofs
open Go.VG
section
variable {ns : List Nat} {K d n : Nat} {s : ArrS} {c : Option Txt} {t : Txt}
theorem switch_out (h : Lv ns K d n s) (h1 : now s d 1 ≠ 0) (hw : (wholeR (now s d) (rgR n) (now s d 1)).2 = true) :
    (s.fuse ≠ 1 ∧ ∃ t, ring_Switch (Dk d n) s = some (0, t) ∧ Put1 ns K s d 0 (now s d 1) t) ∨ (s.fuse = 1 ∧ ∃ t, ring_Switch (Dk d n) s = some (5, t) ∧ Fell ns K s t) := by
  have h4 := h.h4
  unfold ring_Switch
  rw [open_eq h.h4 h.hb]; simp only [Option.bind_some]
  rw [if_neg (by simp)]; simp only [Option.elim]
  have hr : (Dk d n).rd s (1 : Int) = some (now s d 1, 0) := h.rd (k := 1) (by omega)
  rw [hr]; simp only [Option.bind_some]
  rw [if_neg (by simp), if_neg h1, area_text_eq h]; simp only [Option.bind_some]
  rw [if_neg (by simp), if_neg (by simp [hw])]
  rcases h.put (k := 0) (by omega) (v := now s d 1) (pl := ((rgR n : Nat) : Int)) with ⟨hf, u, w, W⟩ | ⟨hf, u, w, W⟩
  · have w' : ring_area_put (Dk d n) ((rgR n : Nat) : Int) (0 : Int) (now s d 1) s = some (0, u) := w
    rw [w']; exact .inl ⟨hf, u, rfl, W⟩
  · have w' : ring_area_put (Dk d n) ((rgR n : Nat) : Int) (0 : Int) (now s d 1) s = some (5, u) := w
    rw [w']; exact .inr ⟨hf, u, rfl, W⟩
theorem clear_out (h : Lv ns K d n s) : (s.fuse ≠ 1 ∧ ∃ t, ring_Clear (Dk d n) s = some (0, t) ∧ Put1 ns K s d 0 0 t) ∨ (s.fuse = 1 ∧ ∃ t, ring_Clear (Dk d n) s = some (5, t) ∧ Fell ns K s t) := by
  have h4 := h.h4
  unfold ring_Clear
  rw [open_eq h.h4 h.hb]; simp only [Option.bind_some]
  rw [if_neg (by simp)]; simp only [Option.elim]
  rcases h.put (k := 0) (by omega) (v := 0) (pl := ((rgR n : Nat) : Int)) with ⟨hf, u, w, W⟩ | ⟨hf, u, w, W⟩
  · have w' : ring_area_put (Dk d n) ((rgR n : Nat) : Int) (0 : Int) (0 : UInt64) s = some (0, u) := w
    rw [w']; exact .inl ⟨hf, u, rfl, W⟩
  · have w' : ring_area_put (Dk d n) ((rgR n : Nat) : Int) (0 : Int) (0 : UInt64) s = some (5, u) := w
    rw [w']; exact .inr ⟨hf, u, rfl, W⟩
theorem hold_old (hh : Hold (now s d) (rgR n) 0 c) : oldS (now s d 0) = oSt c ∧ oldN (now s d 0) = oLen c ∧ (now s d 0 ≠ 0 → (wholeR (now s d) (rgR n) (now s d 0)).2 = true) := by
  unfold oldS oldN
  cases c with
  | none => rw [if_pos (show now s d 0 = 0 from hh), if_pos (show now s d 0 = 0 from hh)]; exact ⟨rfl, rfl, fun x => absurd hh x⟩
  | some t =>
    have h0 : now s d 0 ≠ 0 := fun x => nomatch hh.ne.1 x
    rw [if_neg h0, if_neg h0, hh.whole]
    exact ⟨hh.dS.1, hh.dS.2.1, fun _ => rfl⟩
theorem Prepd.lv {u : ArrS} {st q : Nat} {x : ByteArray} (h : Lv ns K d n s) (p : Prepd ns K s d n st q x u) (hK : K + (encT x).length + 1 ≤ 900000) : Lv ns (K + (encT x).length + 1) d n u :=
  ⟨p.ok, p.dn, h.hd, h.hn, h.h4, h.hb, by rw [p.miss]; exact h.ms, fun b hb => by rw [p.cand d b h.hd (by rw [h.hn]; exact hb), if_pos rfl], hK⟩
theorem Prepd.nowD {u : ArrS} {st q : Nat} {x : ByteArray} (p : Prepd ns K s d n st q x u) : Go.Proofs.now u d = upd (putN (Go.Proofs.now s d) (rgR n) st (encT x) (encT x).length) 1 (descT q st x) := by
  funext b; rw [p.now, if_pos rfl]
theorem prep_hold (h : Lv ns K d n s) (hK : K ≤ 800000) (hh : Hold (now s d) (rgR n) 0 c) {q : Nat} {x : ByteArray} (hq : 1 ≤ q ∧ q ≤ 1048575) (hx : x.size ≤ 8192) :
    (rgR n < (encT x).length + oLen c ∧ ring_Prepare (Dk d n) (q : Int) x s = some (14, s)) ∨
    ((encT x).length + oLen c ≤ rgR n ∧ ((∃ t, ring_Prepare (Dk d n) (q : Int) x s = some (0, t) ∧ Prepd ns K s d n (nextSt (rgR n) c) q x t ∧ Lv ns (K + (encT x).length + 1) d n t ∧ Hold (now t d) (rgR n) 0 c ∧ Hold (now t d) (rgR n) 1 (some ⟨q, nextSt (rgR n) c, x⟩)) ∨
      (s.fuse ≠ 0 ∧ s.fuse ≤ (encT x).length + 1 ∧ ∃ t, ring_Prepare (Dk d n) (q : Int) x s = some (5, t) ∧ FellR ns K s d (rgR n) (nextSt (rgR n) c) (encT x).length t))) := by
  obtain ⟨r1, r2, r3⟩ := rg_le h.h4 h.hb
  have hb := h.hb
  obtain ⟨e1, e2, e3⟩ := hold_old hh
  have := prep_out h hK hq hx e3
  rw [e1, e2] at this
  have hE := encT_lt hx
  rcases this with h1 | ⟨h1, ⟨t, h2, h3⟩ | h2⟩
  · exact .inl h1
  · refine .inr ⟨h1, .inl ⟨t, h2, h3, h3.lv h (by omega), ?_⟩⟩
    rw [h3.nowD]
    exact hh.prep ⟨by omega, by unfold rgR; omega⟩ ⟨hq.1, by omega⟩ hx h1
  · exact .inr ⟨h1, .inr h2⟩
theorem switch_hold (h : Lv ns K d n s) (hK : K ≤ 800000) (hh : Hold (now s d) (rgR n) 1 (some t)) :
    (s.fuse ≠ 1 ∧ ∃ u, ring_Switch (Dk d n) s = some (0, u) ∧ Put1 ns K s d 0 (now s d 1) u ∧ Lv ns (K + 1) d n u ∧ Hold (now u d) (rgR n) 0 (some t)) ∨ (s.fuse = 1 ∧ ∃ u, ring_Switch (Dk d n) s = some (5, u) ∧ Fell ns K s u) := by
  rcases switch_out h (fun x => nomatch hh.ne.1 x) (by rw [hh.whole]) with ⟨hf, u, h1, h2⟩ | h1
  · refine .inl ⟨hf, u, h1, h2, h2.lv h (by omega), ?_⟩
    rw [h2.nowD]
    exact hh.switch
  · exact .inr h1
end
end Go.Proofs
namespace Go.Proofs
open Go.VG
section
variable {K n : Nat} {s : ArrS}
theorem Lv.len0 (h : Lv [n] K 0 n s) : (nowL s 0).length = n := h.ok.sz.size 0 (by simp)
end
end Go.Proofs
set_option linter.unusedSimpArgs false
set_option linter.unusedVariables false
set_option maxRecDepth 20000
set_option maxHeartbeats 4000000
namespace Go.Proofs
open Go.VG
end Go.Proofs
