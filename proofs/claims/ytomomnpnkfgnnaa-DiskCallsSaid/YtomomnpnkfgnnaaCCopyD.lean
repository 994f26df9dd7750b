/- YtomomnpnkfgnnaaCCopyD: contracts of functions of the program, walked rule by rule; printed by vg.py. -/
import Derived.Test.YtomomnpnkfgnnaaCDiskI
import Derived.Test.YtomomnpnkfgnnaaVgRm
import Derived.Test.YtomomnpnkfgnnaaVgR
set_option linter.unusedSimpArgs false
set_option maxRecDepth 20000
namespace Go.Proofs
open Go.VG
theorem CCopyD_bs_53_0_ : BuildsSlice Try.prog 53 0 [] 64 [] := fun w => by kernel_rfl
theorem CCopyD_bld_55_1_2_3_4_5 (v0 : (Option Nat)) (v1 : (Option Addr)) (v2 : Nat) (v3 : Nat) (v4 : Int) (v5 : Bool) (v6 : Int) : ∀ w, (Instr.build 55 (#[(1, .map v0), (2, .slice v1 v2 v3), (3, .int .i64 v4), (4, .bool v5), (5, .int .i64 v6)] : Array (Nat × Value))).run Try.prog w = .ok (.agg #[.slice none 0 0, .map v0, .slice v1 v2 v3, .int .i64 v4, .bool v5, .int .i64 v6]) w := fun w => by kernel_rfl
theorem CCopyD_bld_58_0_1_2 (v0 : (Option Addr)) (v1 : Nat) (v2 : Nat) (v3 : (Option Addr)) (v4 : Nat) (v5 : Nat) (v6 : Bool) : ∀ w, (Instr.build 58 (#[(0, .slice v0 v1 v2), (1, .slice v3 v4 v5), (2, .bool v6)] : Array (Nat × Value))).run Try.prog w = .ok (.agg #[.slice v0 v1 v2, .slice v3 v4 v5, .bool v6]) w := fun w => by kernel_rfl
theorem CCopyD_bs_52_1_0 (v0 : (Option Addr)) (v1 : Nat) (v2 : Nat) (v3 : (Option Addr)) (v4 : Nat) (v5 : Nat) (v6 : Bool) : BuildsSlice Try.prog 52 1 [(0, .agg #[.slice v0 v1 v2, .slice v3 v4 v5, .bool v6])] 58 [.slice v0 v1 v2, .slice v3 v4 v5, .bool v6] := fun w => by kernel_rfl

theorem take_snocD (xs : List Drive) (k : Nat) (h : k < xs.length) : xs.take (k + 1) = xs.take k ++ [xs.getD k d0] := by
  rw [List.take_add_one, List.getElem?_eq_getElem h]; simp [List.getD, h]
theorem missAt {l : DL} {s : ArrS} {i : Nat} (hl : l.map Prod.snd = s.drv) (hm : ∀ p ∈ l, p.1.miss = p.2.miss) (hi : i < s.drv.length) : ((DL.hs l).getD i dH0).miss = (s.drv.getD i d0).miss := by
  have hlen : i < l.length := by rw [← hl, List.length_map] at hi; exact hi
  subst_vars
  rw [← hl]
  simp only [DL.hs, List.getD, List.getElem?_map, List.getElem?_eq_getElem hlen, Option.map_some, Option.getD_some]
  exact hm _ (List.getElem_mem hlen)
theorem is_lt {is : List Nat} {i n : Nat} (hn : is.Nodup) (hl : ∀ j ∈ is, j < n) (h : i ∉ is) (hi : i < n) : is.length < n := by
  have h2 : (i :: is).Nodup := List.nodup_cons.2 ⟨h, hn⟩
  have h3 : (i :: is).Perm ((List.range n).filter (fun j => decide (j ∈ i :: is))) := (List.perm_ext_iff_of_nodup h2 (List.nodup_range.filter _)).2 fun j => by
    rw [List.mem_filter, List.mem_range]
    constructor
    · intro hj
      refine ⟨?_, by simpa using hj⟩
      rcases List.mem_cons.1 hj with h4 | h4
      · omega
      · exact hl j h4
    · rintro ⟨_, h4⟩; simpa using h4
  have h4 := h3.length_eq
  have h5 := List.length_filter_le (fun j => decide (j ∈ i :: is)) (List.range n)
  rw [List.length_range] at h5; rw [List.length_cons] at h4; omega
theorem mpi_nodup {bm r : Nat} {l : List ((Int × Int) × Unit)} {is : List Nat} {R : List HP} : ∀ h, stars (mpi mBad bm r l is :: R) h → (l.map (·.1)).Nodup := fun h hh => by
  obtain ⟨c, h1⟩ := stars_ex.1 hh
  exact (stars_pur.1 (stars_star.1 h1)).1.2.1
theorem setM_met {l : List ((Int × Int) × Unit)} {is : List Nat} {i : Nat} {p : (Int × Int) × Unit} (hnd : (l.map (·.1)).Nodup) (hil : ∀ j ∈ is, j < l.length) (hip : l[i]? = some p) (hni : i ∉ is) : setM (is.filterMap fun j => l[j]?) p.1 () = (is ++ [i]).filterMap fun j => l[j]? := by
  have hz : ∀ q ∈ (is.filterMap fun j => l[j]?), q.1 ≠ p.1 := fun q hq he => by
    obtain ⟨j, hj, hjq⟩ := List.mem_filterMap.1 hq
    have h1 : (l.map (·.1))[j]? = some q.1 := by rw [List.getElem?_map, hjq]; rfl
    have h2 : (l.map (·.1))[i]? = some p.1 := by rw [List.getElem?_map, hip]; rfl
    obtain ⟨h3, h4⟩ := List.getElem?_eq_some_iff.1 h1
    obtain ⟨h5, h6⟩ := List.getElem?_eq_some_iff.1 h2
    have : j = i := (List.getElem_inj (h₀ := h3) (h₁ := h5) hnd).1 (by rw [h4, h6, he])
    exact hni (this ▸ hj)
  unfold setM
  cases hf : findE (is.filterMap fun j => l[j]?) p.1 0 with
  | none => simp only [List.filterMap_append, List.filterMap_cons, hip, List.filterMap_nil]
  | some a =>
    obtain ⟨_, h7⟩ := findE_some _ _ _ _ _ (show findE _ _ _ = some (a.1, a.2) from hf)
    exact absurd rfl (hz _ (List.mem_of_getElem? h7))

theorem c_CloneR {W : World} {A : HP} {v : Sl3} {xs : List Rec} (hA : Reads A tyRec v.v xs) (hl : xs.length ≤ 1000000000) :
    CSpec Try.prog W 52 [v.v] [A] (fun x : Sl3 => x.v) (fun _ => True) (fun x F => sl tyRec x.v xs :: A :: F) := by
  refine CSpec.of_body Try.func52 rfl Try.ntmps52 rfl (fun F => ?_)
  show CJ _ _ _ _ _ _ (_ :: F)
  refine CJ_seq ?_
  refine CJ_region ?_
  refine RJ_op rfl (OJ_P (P_assign rfl) rfl ?_)
  refine RJ_nil ?_
  refine QJ_then ?_
  refine CJ_seq ?_
  refine CJ_seq ?_
  refine CJ_region ?_
  refine RJ_op rfl (OJ_P (P_move rfl) rfl ?_)
  refine RJ_op rfl (OJ_P (P_eqlSN rfl rfl Try.underlying53) rfl ?_)
  refine RJ_nil ?_
  refine QJ_then ?_
  first | (refine CJ_condD rfl (fun hg1 => ?_) (fun hg1 => ?_)) | (refine CJ_condN rfl (fun hg1 => ?_) (fun hg1 => ?_)) | (refine CJ_cond rfl (fun hg1 => ?_) (fun hg1 => ?_))
  ·
    refine CJ_seq ?_
    refine CJ_region ?_
    refine RJ_op rfl (OJ_P (P_assign rfl) rfl ?_)
    refine RJ_nil ?_
    refine QJ_then ?_
    refine CJ_ret ?_
    refine QJ_then_ret ?_
    refine QJ_end (res1 Try.results52 rfl) ?_
    obtain ⟨vp, vn, vc⟩ := v
    obtain rfl : vp = none := by simpa using hg1
    refine fun w hs => ?_
    obtain rfl := reads_none hA _ hs.heap.choose_spec
    revert w hs
    show ∀ w, St W w _ → _
    refine CSpec.close ⟨none, 0, 0⟩ ?_ ?_ (Ent.trans (fun h hh => sl_nil (t := tyRec) h hh) Ent.refl)
    · rfl
    · trivial
  ·
    refine CJ_skip ?_
    refine QJ_then ?_
    refine CJ_seq ?_
    refine CJ_region ?_
    refine RJ_op rfl (O_buildSlice rfl (CCopyD_bs_53_0_) rfl (fun b1 => ?_))
    refine RJ_ent (Ent.trans (Ent.take del0 Ent.refl) (sl_of_lit (t := tyRec) (m := 0) [] rfl rfl rfl (by decide))) ?_
    refine RJ_op rfl (OJ_P (P_move rfl) rfl ?_)
    refine RJ_op rfl (O_append (t := tyRec) (bytes := 24) rfl rfl del0 foc0 hA Try.underlying53 ok_tyRec (by simp only [List.length_append, List.length_cons, List.length_nil, maxLen] at *; omega) (by simp only [List.length_append, List.length_cons, List.length_nil, maxLen] at *; omega) rfl (fun p2 c3 => ?_))
    refine RJ_op rfl (OJ_P (P_assign rfl) rfl ?_)
    refine RJ_nil ?_
    refine QJ_then ?_
    refine CJ_ret ?_
    refine QJ_end (res1 Try.results52 rfl) ?_
    refine CSpec.close ⟨p2, _, c3⟩ ?_ ?_ (Ent.take del0 (Ent.take del0 Ent.refl))
    · rfl
    · trivial

theorem c_Copy {W : World} {b : Nat} {s : ArrS} (hW : s.writes ≤ 1000000000) :
    CSpec Try.prog W 38 [ptr b 0] [Arr b s] (fun x : Nat × List ((Int × Int) × Unit) => ptr x.1 0) (fun x => x.2.Perm s.bad) (fun x F => Arr x.1 { s with bad := x.2 } :: Arr b s :: F) := by
  refine CSpec.of_body Try.func38 rfl Try.ntmps38 rfl (fun F => ?_)
  show CJ _ _ _ _ _ _ (_ :: F)
  refine CJ_entX (Ent.transX (Ent.take del0 Ent.refl) Arr_open) (fun ⟨dv, lv, mr, l⟩ => ?_)
  refine CJ_pur (fun hX => ?_)
  obtain ⟨hl, hm, hw⟩ : l.map Prod.snd = (s).drv ∧ (∀ p ∈ l, p.1.miss = p.2.miss) ∧ ArrWF (s) := hX
  show CJ _ _ _ _ _ _ (blk b 55 [Sl3.v dv, .map (some mr), Sl3.v lv, _, _, _] :: sl tyDrv (Sl3.v dv) (DL.hs l) :: DOwn l :: sl tyRec (Sl3.v lv) _ :: mpc mBad mr _ :: _)
  have hn := hs_len hl
  have hwF := hw.fuse
  have hwL := hw.len
  have hwC := hw.cnt
  refine CJ_seq ?_
  refine CJ_region ?_
  refine RJ_op rfl (OJ_P (P_assign rfl) rfl ?_)
  refine RJ_nil ?_
  refine QJ_then ?_
  refine CJ_seq ?_
  refine AJ_startH 524288 (by kernel_rfl) rfl ?_
  refine AJ_takeP 1 2 rfl (by kernel_rfl) rfl (GY_none rfl) (P_move rfl) rfl (fun _ _ _ _ h => h) ?_
  refine AJ_takeP 2 6 rfl (by kernel_rfl) rfl (GY_none rfl) (P_nilCheck rfl) rfl (fun _ _ _ _ h => h) ?_
  refine AJ_takeP 3 14 rfl (by kernel_rfl) rfl (GY_none rfl) (P_fieldAddr rfl ⟨_, _, _, Try.runUnderlying55, rfl, rfl, Try.sizeOf53, rfl⟩) rfl (fun _ _ _ _ h => h) ?_
  refine AJ_takeV 4 30 rfl (by kernel_rfl) rfl (by kernel_rfl) (by kernel_rfl) (GY_none rfl) (Ent.take del0 (Ent.take del0 (Ent.take del0 (Ent.take del0 (Ent.take del0 Ent.refl))))) (V_load rfl foc0 rfl Try.isAgg53) rfl (fun _ _ _ _ h => h) ?_
  refine AJ_takeP 6 94 rfl (by kernel_rfl) rfl (GY_none rfl) (P_move rfl) rfl (fun _ _ _ _ h => h) ?_
  refine AJ_takeP 7 222 rfl (by kernel_rfl) rfl (GY_none rfl) (P_nilCheck rfl) rfl (fun _ _ _ _ h => h) ?_
  refine AJ_takeP 8 478 rfl (by kernel_rfl) rfl (GY_none rfl) (P_fieldAddr rfl ⟨_, _, _, Try.runUnderlying55, rfl, rfl, Try.sizeOf3, rfl⟩) rfl (fun _ _ _ _ h => h) ?_
  refine AJ_takeV 9 990 rfl (by kernel_rfl) rfl (by kernel_rfl) (by kernel_rfl) (GY_none rfl) (Ent.take del0 (Ent.take del0 (Ent.take del0 (Ent.take del0 (Ent.take del0 Ent.refl))))) (V_load rfl foc0 rfl Try.isAgg3) rfl (fun _ _ _ _ h => h) ?_
  refine AJ_takeP 10 2014 rfl (by kernel_rfl) rfl (GY_none rfl) (P_move rfl) rfl (fun _ _ _ _ h => h) ?_
  refine AJ_takeP 11 4062 rfl (by kernel_rfl) rfl (GY_none rfl) (P_nilCheck rfl) rfl (fun _ _ _ _ h => h) ?_
  refine AJ_takeP 12 8158 rfl (by kernel_rfl) rfl (GY_none rfl) (P_fieldAddr rfl ⟨_, _, _, Try.runUnderlying55, rfl, rfl, Try.sizeOf4, rfl⟩) rfl (fun _ _ _ _ h => h) ?_
  refine AJ_takeV 13 16350 rfl (by kernel_rfl) rfl (by kernel_rfl) (by kernel_rfl) (GY_none rfl) (Ent.take del0 (Ent.take del0 (Ent.take del0 (Ent.take del0 (Ent.take del0 Ent.refl))))) (V_load rfl foc0 rfl Try.isAgg4) rfl (fun _ _ _ _ h => h) ?_
  refine AJ_takeP 14 32734 rfl (by kernel_rfl) rfl (GY_none rfl) (P_move rfl) rfl (fun _ _ _ _ h => h) ?_
  refine AJ_takeP 15 65502 rfl (by kernel_rfl) rfl (GY_none rfl) (P_nilCheck rfl) rfl (fun _ _ _ _ h => h) ?_
  refine AJ_takeP 16 131038 rfl (by kernel_rfl) rfl (GY_none rfl) (P_fieldAddr rfl ⟨_, _, _, Try.runUnderlying55, rfl, rfl, Try.sizeOf3, rfl⟩) rfl (fun _ _ _ _ h => h) ?_
  refine AJ_takeV 17 262110 rfl (by kernel_rfl) rfl (by kernel_rfl) (by kernel_rfl) (GY_none rfl) (Ent.take del0 (Ent.take del0 (Ent.take del0 (Ent.take del0 (Ent.take del0 Ent.refl))))) (V_load rfl foc0 rfl Try.isAgg3) rfl (fun _ _ _ _ h => h) ?_
  refine AJ_two 0 5 262111 262142 rfl rfl (by kernel_rfl) rfl rfl (GY_none rfl) (GY_none rfl) (O_makeMap mBad rfl (fun b1 => ?_)) (O_call (c_CloneR (Reads.sl _ _ _) (by omega)) rfl Try.call52 (Dels.cons del3 Dels.nil) rfl (fun cx2 hc4 => ?_))
  ·
    refine ⟨fun _ => (Ent.take del1 (Ent.take del1 (Ent.take del1 (Ent.take del1 (Ent.take del1 (Ent.drop Ent.refl)))))), ?_⟩
    refine AJ_op 5 262143 rfl (by kernel_rfl) rfl (GY_none rfl) (O_call (c_CloneR (Reads.sl _ _ _) (by omega)) rfl Try.call52 (Dels.cons del4 Dels.nil) rfl (fun cx5 hc7 => ?_))
    refine ⟨fun _ => (Ent.take del3 (Ent.take del3 (Ent.take del3 (Ent.take del1 (Ent.take del2 (Ent.drop (Ent.drop Ent.refl))))))), ?_⟩
    refine AJ_takeP 18 524287 rfl (by kernel_rfl) rfl (GY_none rfl) (P_build rfl (CCopyD_bld_55_1_2_3_4_5 _ _ _ _ _ _ _)) rfl (fun _ _ _ _ h => h) ?_
    refine AJ_op 19 1048575 rfl (by kernel_rfl) rfl (GY_none rfl) (O_box rfl rfl rfl (fun b8 => ?_))
    refine ⟨fun h => absurd h (by decide), ?_⟩
    refine AJ_takeP 20 2097151 rfl (by kernel_rfl) rfl (GY_none rfl) (P_assign rfl) rfl (fun _ _ _ _ h => h) ?_
    refine AJ_done (by kernel_rfl) ?_
    refine QJ_then ?_
    refine CJ_seq ?_
    refine CJ_seq ?_
    refine CJ_region ?_
    refine RJ_op rfl (OJ_P (P_move rfl) rfl ?_)
    refine RJ_op rfl (OJ_P (P_nilCheck rfl) rfl ?_)
    refine RJ_op rfl (OJ_P (P_fieldAddr rfl ⟨_, _, _, Try.runUnderlying55, rfl, rfl, Try.sizeOf52, rfl⟩) rfl ?_)
    refine RJ_op rfl (OJ_V (V_load rfl foc4 rfl Try.isAgg52) rfl ?_)
    refine RJ_op rfl (OJ_V (V_len rfl foc5 (Reads.sl _ _ _) Try.runUnderlying52) rfl ?_)
    refine RJ_op rfl (OJ_P (P_move rfl) rfl ?_)
    refine RJ_nil ?_
    refine QJ_then ?_
    refine CJ_block ?_
    refine CJ_ent (fun h hh => sl_nil (t := tyDrv) h hh) ?_
    refine CJ_ent DOwn_nil ?_
    refine CJ_loopR (X := Nat × Sl3 × DL) [5, 32, 33, 34, 35, 36, 37, 38, 39, 40, 41, 42, 43, 44, 45, 46, 47, 48, 49, 50, 51, 52, 53, 54] (fun ⟨i, dv2, l2⟩  => ([(32, .int .i64 (i : Nat))] : Slots)) (fun ⟨i, dv2, l2⟩ R => blk b8 55 [dv2.v, .map (some b1), cx5.v, .int .i64 (s.fuse : Int), .bool s.down, .int .i64 (s.writes : Int)] :: sl tyDrv dv2.v (DL.hs l2) :: DOwn l2 :: R) (fun ⟨i, dv2, l2⟩  => i ≤ s.drv.length ∧ l2.map Prod.snd = s.drv.take i ∧ (∀ p ∈ l2, p.1.miss = p.2.miss) ∧ (DL.hs l2).length = i) (fun ⟨i, dv2, l2⟩  => s.drv.length - i) ⟨0, ⟨none, 0, 0⟩, []⟩ ?_ ?_ (Ent.take del2 (Ent.take del1 (Ent.take del0 (Ent.take del0 (Ent.take del0 (Ent.take del0 (Ent.take del0 (Ent.take del0 (Ent.take del0 (Ent.take del0 Ent.refl)))))))))) ?_
    · exact ⟨Nat.zero_le _, rfl, (fun p hp => by cases hp), rfl⟩
    · exact ⟨rfl, True.intro⟩
    ·
      rintro ⟨i, dv2, l2⟩ ⟨hi, hl2, hm2, hn2⟩
      show CJ _ _ _ _ _ (([(32, .int .i64 (i : Nat))] : Slots) ++ forget _ _) (blk b8 55 [dv2.v, .map (some b1), cx5.v, .int .i64 (s.fuse : Int), .bool s.down, .int .i64 (s.writes : Int)] :: sl tyDrv dv2.v (DL.hs l2) :: DOwn l2 :: _)
      refine CJ_seq ?_
      refine CJ_region ?_
      refine RJ_op rfl (OJ_P (P_lss rfl rfl) rfl ?_)
      refine RJ_nil ?_
      refine QJ_then ?_
      refine CJ_seq ?_
      first | (refine CJ_condD rfl (fun hg1 => ?_) (fun hg1 => ?_)) | (refine CJ_condN rfl (fun hg1 => ?_) (fun hg1 => ?_)) | (refine CJ_cond rfl (fun hg1 => ?_) (fun hg1 => ?_))
      ·
        refine CJ_skip ?_
        refine QJ_then ?_
        refine CJ_seq ?_
        refine CJ_block ?_
        refine CJ_seq ?_
        have hsm := hw.same i (by omega)
        refine CJ_ent (Ent.trans (Ent.take del8 Ent.refl) (DOwn_open i hl (by omega))) ?_
        refine CJ_region ?_
        first | (refine RJ_op rfl (OJ_V (V_index rfl rfl rfl (by omega) foc10 (Reads.sl _ _ _) Try.runUnderlying52 Try.sizeOf58) rfl ?_)) | (refine RJ_op rfl (OJ_V (V_index rfl rfl (Int.toNat_of_nonneg (by omega)).symm (by omega) foc10 (Reads.sl _ _ _) Try.runUnderlying52 Try.sizeOf58) rfl ?_))
        refine RJ_op rfl (OJ_V (V_loadEN rfl rfl (by omega) foc10 (Reads.sl _ _ _) rfl rfl Try.isAgg58 Try.sizeOf58) rfl ?_)
        refine RJ_op rfl (O_alloc Try.zeroValue58 rfl rfl (fun b9 => ?_))
        refine RJ_op rfl (O_storeN rfl rfl foc0 Try.sizeOf58 rfl rfl rfl ?_)
        refine RJ_nil ?_
        refine QJ_then ?_
        refine AJ_startH 294912 (by kernel_rfl) rfl ?_
        refine AJ_takeP 0 1 rfl (by kernel_rfl) rfl (GY_none rfl) (P_move rfl) rfl (fun _ _ _ _ h => h) ?_
        refine AJ_takeP 1 3 rfl (by kernel_rfl) rfl (GY_none rfl) (P_move rfl) rfl (fun _ _ _ _ h => h) ?_
        refine AJ_takeP 2 7 rfl (by kernel_rfl) rfl (GY_none rfl) (P_nilCheck rfl) rfl (fun _ _ _ _ h => h) ?_
        refine AJ_takeP 3 15 rfl (by kernel_rfl) rfl (GY_none rfl) (P_fieldAddr rfl ⟨_, _, _, Try.runUnderlying55, rfl, rfl, Try.sizeOf52, rfl⟩) rfl (fun _ _ _ _ h => h) ?_
        refine AJ_takeV 4 31 rfl (by kernel_rfl) rfl (by kernel_rfl) (by kernel_rfl) (GY_none rfl) (Ent.take del0 (Ent.take del0 (Ent.take del0 (Ent.take del0 (Ent.take del0 (Ent.take del0 (Ent.take del0 (Ent.take del0 (Ent.take del0 (Ent.take del0 (Ent.take del0 (Ent.take del0 (Ent.take del0 Ent.refl))))))))))))) (V_load rfl foc4 rfl Try.isAgg52) rfl (fun _ _ _ _ h => h) ?_
        refine AJ_takeP 5 63 rfl (by kernel_rfl) rfl (GY_none rfl) (P_fieldAddr rfl ⟨_, _, _, Try.runUnderlying58, rfl, rfl, Try.sizeOf56, rfl⟩) rfl (fun _ _ _ _ h => h) ?_
        refine AJ_takeV 6 127 rfl (by kernel_rfl) rfl (by kernel_rfl) (by kernel_rfl) (GY_none rfl) (Ent.take del0 (Ent.take del0 (Ent.take del0 (Ent.take del0 (Ent.take del0 (Ent.take del0 (Ent.take del0 (Ent.take del0 (Ent.take del0 (Ent.take del0 (Ent.take del0 (Ent.take del0 (Ent.take del0 Ent.refl))))))))))))) (V_load rfl foc0 rfl Try.isAgg56) rfl (fun _ _ _ _ h => h) ?_
        refine AJ_takeP 8 383 rfl (by kernel_rfl) rfl (GY_none rfl) (P_fieldAddr rfl ⟨_, _, _, Try.runUnderlying58, rfl, rfl, Try.sizeOf56, rfl⟩) rfl (fun _ _ _ _ h => h) ?_
        refine AJ_takeV 9 895 rfl (by kernel_rfl) rfl (by kernel_rfl) (by kernel_rfl) (GY_none rfl) (Ent.take del0 (Ent.take del0 (Ent.take del0 (Ent.take del0 (Ent.take del0 (Ent.take del0 (Ent.take del0 (Ent.take del0 (Ent.take del0 (Ent.take del0 (Ent.take del0 (Ent.take del0 (Ent.take del0 Ent.refl))))))))))))) (V_load rfl foc0 rfl Try.isAgg56) rfl (fun _ _ _ _ h => h) ?_
        refine AJ_takeP 11 2943 rfl (by kernel_rfl) rfl (GY_none rfl) (P_fieldAddr rfl ⟨_, _, _, Try.runUnderlying58, rfl, rfl, Try.sizeOf4, rfl⟩) rfl (fun _ _ _ _ h => h) ?_
        refine AJ_takeV 12 7039 rfl (by kernel_rfl) rfl (by kernel_rfl) (by kernel_rfl) (GY_none rfl) (Ent.take del0 (Ent.take del0 (Ent.take del0 (Ent.take del0 (Ent.take del0 (Ent.take del0 (Ent.take del0 (Ent.take del0 (Ent.take del0 (Ent.take del0 (Ent.take del0 (Ent.take del0 (Ent.take del0 Ent.refl))))))))))))) (V_load rfl foc0 rfl Try.isAgg4) rfl (fun _ _ _ _ h => h) ?_
        refine AJ_op 7 7167 rfl (by kernel_rfl) rfl (GY_none rfl) (O_call (c_CloneU (Reads.sl _ _ _) (by omega)) rfl Try.call51 (Dels.cons del1 Dels.nil) rfl (fun cx11 hc13 => ?_))
        refine ⟨fun _ => (Ent.take del2 (Ent.take del1 (Ent.take del1 (Ent.take del1 (Ent.take del1 (Ent.take del1 (Ent.take del1 (Ent.take del1 (Ent.take del1 (Ent.take del1 (Ent.take del1 (Ent.take del1 (Ent.take del1 (Ent.drop Ent.refl)))))))))))))), ?_⟩
        refine AJ_op 10 8191 rfl (by kernel_rfl) rfl (GY_none rfl) (O_call (c_CloneU (Reads.sl _ _ _) (by omega)) rfl Try.call51 (Dels.cons del3 Dels.nil) rfl (fun cx15 hc17 => ?_))
        refine ⟨fun _ => (Ent.take del4 (Ent.take del3 (Ent.take del1 (Ent.take del2 (Ent.take del2 (Ent.take del2 (Ent.take del2 (Ent.take del2 (Ent.take del2 (Ent.take del2 (Ent.take del2 (Ent.take del2 (Ent.take del2 (Ent.drop (Ent.drop Ent.refl))))))))))))))), ?_⟩
        refine AJ_takeP 13 16383 rfl (by kernel_rfl) rfl (GY_none rfl) (P_build rfl (CCopyD_bld_58_0_1_2 _ _ _ _ _ _ _)) rfl (fun _ _ _ _ h => h) ?_
        refine AJ_op 14 32767 rfl (by kernel_rfl) rfl (GY_none rfl) (O_buildSlice rfl (CCopyD_bs_52_1_0 _ _ _ _ _ _ _) rfl (fun b18 => ?_))
        refine ⟨fun _ => (Ent.take del5 (Ent.take del4 (Ent.take del2 (Ent.take del3 (Ent.take del3 (Ent.take del3 (Ent.take del3 (Ent.take del3 (Ent.take del3 (Ent.take del3 (Ent.take del3 (Ent.take del3 (Ent.take del3 (Ent.drop (Ent.drop (Ent.drop Ent.refl)))))))))))))))), ?_⟩
        refine AJ_op 15 65535 rfl (by kernel_rfl) rfl (GY_none rfl) (O_append (t := tyDrv) (bytes := 56) rfl rfl del8 foc0 (Reads.lit (t := tyDrv) (ys := [⟨cx11, cx15, ((DL.hs l).getD i dH0).miss⟩]) rfl rfl (by decide) (by decide) rfl) Try.underlying52 ok_tyDrv (by simp only [List.length_append, List.length_cons, List.length_nil, maxLen] at *; omega) (by simp only [List.length_append, List.length_cons, List.length_nil, maxLen] at *; omega) rfl (fun p19 c20 => ?_))
        refine ⟨fun h => absurd h (by decide), ?_⟩
        refine AJ_takeP 16 131071 rfl (by kernel_rfl) rfl (GY_none rfl) (P_nilCheck rfl) rfl (fun _ _ _ _ h => h) ?_
        refine AJ_takeP 17 262143 rfl (by kernel_rfl) rfl (GY_none rfl) (P_fieldAddr rfl ⟨_, _, _, Try.runUnderlying55, rfl, rfl, Try.sizeOf52, rfl⟩) rfl (fun _ _ _ _ h => h) ?_
        refine AJ_op 18 524287 rfl (by kernel_rfl) rfl (GY_none rfl) (O_store rfl rfl foc8 rfl rfl Try.sizeOf52 ?_)
        refine ⟨fun h => absurd h (by decide), ?_⟩
        refine AJ_done (by kernel_rfl) ?_
        refine QJ_block_normal ?_
        refine QJ_then ?_
        refine CJ_region ?_
        refine RJ_op rfl (OJ_P (P_add rfl rfl (by omega)) rfl ?_)
        refine RJ_op rfl (OJ_P (P_move rfl) rfl ?_)
        refine RJ_nil ?_
        refine QJ_nextR ⟨i + 1, ⟨p19, _, c20⟩, l2 ++ [((⟨cx11, cx15, ((DL.hs l).getD i dH0).miss⟩ : DrvH), s.drv.getD i d0)]⟩ (by first | omega | (simp only []; omega)) ?_ (by repeat (first | exact Kp.base | exact Kp.self | refine Kp.cons rfl ?_ | refine Kp.forget rfl ?_)) ?_ (Ent.trans (Ent.trans (Ent.take del5 (Ent.take del3 (Ent.take del5 Ent.refl))) (DOwn_back hl (by omega))) (Ent.trans (Ent.trans (Ent.take del4 (Ent.take del3 (Ent.take del5 Ent.refl))) (DOwn_push ((⟨cx11, cx15, ((DL.hs l).getD i dH0).miss⟩ : DrvH), s.drv.getD i d0))) (Ent.take del5 (Ent.takeC del2 (congrArg (sl tyDrv _) (hs_snoc l2 ((⟨cx11, cx15, ((DL.hs l).getD i dH0).miss⟩ : DrvH), s.drv.getD i d0)).symm) (Ent.take del0 (Ent.take del3 (Ent.take del3 (Ent.take del3 (Ent.take del3 (Ent.take del3 (Ent.take del0 (Ent.take del2 (Ent.drop (Ent.drop Ent.refl))))))))))))))
        ·
          refine ⟨by omega, ?_, ?_, by rw [hs_snoc, List.length_append, hn2]; rfl⟩
          · rw [List.map_append, hl2, take_snocD s.drv i (by omega)]; rfl
          · intro p hp
            rcases List.mem_append.1 hp with hp | hp
            · exact hm2 p hp
            · rw [List.mem_singleton] at hp; subst hp; exact missAt hl hm (by omega)
        · exact ⟨rfl, True.intro⟩
      ·
        refine CJ_exit ?_
        refine QJ_then_exit ?_
        refine QJ_round_exit ?_
        refine QJ_block_here ?_
        refine QJ_then ?_
        refine CJ_seq ?_
        refine CJ_seq ?_
        refine CJ_region ?_
        refine RJ_op rfl (OJ_P (P_move rfl) rfl ?_)
        refine RJ_op rfl (OJ_P (P_nilCheck rfl) rfl ?_)
        refine RJ_op rfl (OJ_P (P_fieldAddr rfl ⟨_, _, _, Try.runUnderlying55, rfl, rfl, Try.sizeOf51, rfl⟩) rfl ?_)
        refine RJ_op rfl (OJ_V (V_load rfl foc6 rfl Try.isAgg51) rfl ?_)
        refine RJ_op rfl (O_rangeM rfl foc9 ok_mBad rfl (fun ri21 => ?_))
        refine RJ_nil ?_
        refine QJ_then ?_
        refine CJ_block ?_
        refine CJ_loopR (X := List Nat) [6, 60, 61, 62, 63, 64, 65, 66, 67, 68] (fun is  => ([] : Slots)) (fun is R => mpi mBad mr ri21 s.bad is :: mpc mBad b1 (is.filterMap fun i => s.bad[i]?) :: R) (fun is  => is.Nodup ∧ ∀ i ∈ is, i < s.bad.length) (fun is  => s.bad.length - is.length) ([]) ?_ ?_ (Ent.take del9 (Ent.take del5 (Ent.take del0 (Ent.take del0 (Ent.take del0 (Ent.take del0 (Ent.take del0 (Ent.take del0 (Ent.take del0 (Ent.take del0 Ent.refl)))))))))) ?_
        · exact ⟨List.nodup_nil, fun i h => by cases h⟩
        · exact True.intro
        ·
          intro is hpf
          obtain ⟨hin, hil⟩ := hpf
          show CJ _ _ _ _ _ (([] : Slots) ++ forget _ _) (mpi mBad mr ri21 s.bad is :: mpc mBad b1 (is.filterMap fun i => s.bad[i]?) :: _)
          refine CJ_seq ?_
          refine CJ_pure mpi_nodup (fun hnd => ?_)
          refine CJ_region ?_
          refine RJ_op rfl (O_nextM rfl foc0 rfl (fun hall => ?_) (fun i p hip hni => ?_))
          ·
            refine RJ_op rfl (OJ_P (P_extract rfl rfl) rfl ?_)
            refine RJ_nil ?_
            refine QJ_then ?_
            refine CJ_seq ?_
            refine CJ_condF rfl rfl ?_
            refine CJ_exit ?_
            refine QJ_then_exit ?_
            refine QJ_round_exit ?_
            refine QJ_block_here ?_
            refine QJ_then ?_
            refine CJ_seq ?_
            refine CJ_region ?_
            refine RJ_op rfl (OJ_P (P_move rfl) rfl ?_)
            refine RJ_op rfl (OJ_P (P_assign rfl) rfl ?_)
            refine RJ_nil ?_
            refine QJ_then ?_
            refine CJ_ret ?_
            refine QJ_end (res1 Try.results38 rfl) ?_
            refine CSpec.close ⟨b8, is.filterMap fun i => s.bad[i]?⟩ ?_ ?_ (Ent.trans (Ent.trans (Ent.take del0 Ent.refl) mpi_done) (Ent.trans (Ent.trans (Ent.take del7 (Ent.take del7 (Ent.take del7 (Ent.take del6 (Ent.take del0 Ent.refl))))) (Arr_close hl hm hw)) (Ent.trans (Ent.trans (Ent.take del2 (Ent.take del2 (Ent.take del2 (Ent.take del2 (Ent.take del1 Ent.refl))))) (Arr_close (s := { s with bad := is.filterMap fun i => s.bad[i]? }) (by rw [hl2, List.take_of_length_le (by omega)]) hm2 ⟨hw.cnt, hw.same, hw.log, hw.len, hw.fuse⟩)) (Ent.take del0 (Ent.take del0 Ent.refl)))))
            · rfl
            · exact met_perm hin hil hall
          ·
            refine RJ_op rfl (OJ_P (P_extract rfl rfl) rfl ?_)
            refine RJ_nil ?_
            refine QJ_then ?_
            refine CJ_seq ?_
            refine CJ_condT rfl rfl ?_
            refine CJ_skip ?_
            refine QJ_then ?_
            refine CJ_block ?_
            refine CJ_seq ?_
            refine CJ_region ?_
            refine RJ_op rfl (OJ_V (V_entryM rfl foc0 hip) rfl ?_)
            refine RJ_op rfl (OJ_P (P_extract rfl rfl) rfl ?_)
            refine RJ_op rfl (O_alloc Try.zeroValue60 rfl rfl (fun b22 => ?_))
            refine RJ_op rfl (O_storeN rfl rfl foc0 Try.sizeOf60 rfl rfl rfl ?_)
            refine RJ_nil ?_
            refine QJ_then ?_
            refine AJ_startH 32 (by kernel_rfl) rfl ?_
            refine AJ_takeP 0 1 rfl (by kernel_rfl) rfl (GY_none rfl) (P_move rfl) rfl (fun _ _ _ _ h => h) ?_
            refine AJ_takeP 1 3 rfl (by kernel_rfl) rfl (GY_none rfl) (P_nilCheck rfl) rfl (fun _ _ _ _ h => h) ?_
            refine AJ_takeP 2 7 rfl (by kernel_rfl) rfl (GY_none rfl) (P_fieldAddr rfl ⟨_, _, _, Try.runUnderlying55, rfl, rfl, Try.sizeOf51, rfl⟩) rfl (fun _ _ _ _ h => h) ?_
            refine AJ_takeV 3 15 rfl (by kernel_rfl) rfl (by kernel_rfl) (by kernel_rfl) (GY_none rfl) (Ent.take del0 (Ent.take del0 (Ent.take del0 (Ent.take del0 (Ent.take del0 (Ent.take del0 (Ent.take del0 (Ent.take del0 (Ent.take del0 (Ent.take del0 (Ent.take del0 Ent.refl))))))))))) (V_load rfl foc3 rfl Try.isAgg51) rfl (fun _ _ _ _ h => h) ?_
            refine AJ_takeV 4 31 rfl (by kernel_rfl) rfl (by kernel_rfl) (by kernel_rfl) (GY_none rfl) (Ent.take del0 (Ent.take del0 (Ent.take del0 (Ent.take del0 (Ent.take del0 (Ent.take del0 (Ent.take del0 (Ent.take del0 (Ent.take del0 (Ent.take del0 (Ent.take del0 Ent.refl))))))))))) (V_loadN rfl foc0 Try.isAgg60 Try.sizeOf60 rfl rfl) rfl (fun _ _ _ _ h => h) ?_
            refine AJ_op 5 63 rfl (by kernel_rfl) rfl (GY_none rfl) (O_mapUpdate (M := mBad) (k := p.1) (v := ()) rfl rfl rfl foc2 ok_mBad ?_)
            refine ⟨fun h => absurd h (by decide), ?_⟩
            refine AJ_done (by kernel_rfl) ?_
            refine QJ_block_normal ?_
            refine QJ_nextR (is ++ [i]) (by have := is_lt hin hil hni (List.getElem?_eq_some_iff.1 hip).1; simp only [List.length_append, List.length_cons, List.length_nil]; omega) ?_ (by repeat (first | exact Kp.base | exact Kp.self | refine Kp.cons rfl ?_ | refine Kp.forget rfl ?_)) ?_ (Ent.take del1 (Ent.takeC del1 (congrArg (mpc mBad _) (setM_met hnd hil hip hni)) (Ent.take del1 (Ent.take del1 (Ent.take del1 (Ent.take del1 (Ent.take del1 (Ent.take del1 (Ent.take del1 (Ent.take del1 (Ent.drop Ent.refl)))))))))))
            ·
              refine ⟨List.nodup_append.2 ⟨hin, (by simp), fun a ha b hb he => hni (by rw [List.mem_singleton] at hb; rw [← hb, ← he]; exact ha)⟩, fun j hj => ?_⟩
              rcases List.mem_append.1 hj with hj | hj
              · exact hil j hj
              · rw [List.mem_singleton] at hj; subst hj; exact (List.getElem?_eq_some_iff.1 hip).1
            · exact True.intro
  ·
    refine ⟨fun _ => (Ent.take del2 (Ent.take del2 (Ent.take del2 (Ent.take del1 (Ent.take del1 (Ent.drop Ent.refl)))))), ?_⟩
    refine AJ_op 0 262143 rfl (by kernel_rfl) rfl (GY_none rfl) (O_makeMap mBad rfl (fun b23 => ?_))
    refine ⟨fun _ => (Ent.take del3 (Ent.take del3 (Ent.take del3 (Ent.take del2 (Ent.take del2 (Ent.drop (Ent.drop Ent.refl))))))), ?_⟩
    refine AJ_takeP 18 524287 rfl (by kernel_rfl) rfl (GY_none rfl) (P_build rfl (CCopyD_bld_55_1_2_3_4_5 _ _ _ _ _ _ _)) rfl (fun _ _ _ _ h => h) ?_
    refine AJ_op 19 1048575 rfl (by kernel_rfl) rfl (GY_none rfl) (O_box rfl rfl rfl (fun b24 => ?_))
    refine ⟨fun h => absurd h (by decide), ?_⟩
    refine AJ_takeP 20 2097151 rfl (by kernel_rfl) rfl (GY_none rfl) (P_assign rfl) rfl (fun _ _ _ _ h => h) ?_
    refine AJ_done (by kernel_rfl) ?_
    refine QJ_then ?_
    refine CJ_seq ?_
    refine CJ_seq ?_
    refine CJ_region ?_
    refine RJ_op rfl (OJ_P (P_move rfl) rfl ?_)
    refine RJ_op rfl (OJ_P (P_nilCheck rfl) rfl ?_)
    refine RJ_op rfl (OJ_P (P_fieldAddr rfl ⟨_, _, _, Try.runUnderlying55, rfl, rfl, Try.sizeOf52, rfl⟩) rfl ?_)
    refine RJ_op rfl (OJ_V (V_load rfl foc4 rfl Try.isAgg52) rfl ?_)
    refine RJ_op rfl (OJ_V (V_len rfl foc5 (Reads.sl _ _ _) Try.runUnderlying52) rfl ?_)
    refine RJ_op rfl (OJ_P (P_move rfl) rfl ?_)
    refine RJ_nil ?_
    refine QJ_then ?_
    refine CJ_block ?_
    refine CJ_ent (fun h hh => sl_nil (t := tyDrv) h hh) ?_
    refine CJ_ent DOwn_nil ?_
    refine CJ_loopR (X := Nat × Sl3 × DL) [5, 32, 33, 34, 35, 36, 37, 38, 39, 40, 41, 42, 43, 44, 45, 46, 47, 48, 49, 50, 51, 52, 53, 54] (fun ⟨i, dv2, l2⟩  => ([(32, .int .i64 (i : Nat))] : Slots)) (fun ⟨i, dv2, l2⟩ R => blk b24 55 [dv2.v, .map (some b23), cx2.v, .int .i64 (s.fuse : Int), .bool s.down, .int .i64 (s.writes : Int)] :: sl tyDrv dv2.v (DL.hs l2) :: DOwn l2 :: R) (fun ⟨i, dv2, l2⟩  => i ≤ s.drv.length ∧ l2.map Prod.snd = s.drv.take i ∧ (∀ p ∈ l2, p.1.miss = p.2.miss) ∧ (DL.hs l2).length = i) (fun ⟨i, dv2, l2⟩  => s.drv.length - i) ⟨0, ⟨none, 0, 0⟩, []⟩ ?_ ?_ (Ent.take del2 (Ent.take del1 (Ent.take del0 (Ent.take del0 (Ent.take del0 (Ent.take del0 (Ent.take del0 (Ent.take del0 (Ent.take del0 (Ent.take del0 Ent.refl)))))))))) ?_
    · exact ⟨Nat.zero_le _, rfl, (fun p hp => by cases hp), rfl⟩
    · exact ⟨rfl, True.intro⟩
    ·
      rintro ⟨i, dv2, l2⟩ ⟨hi, hl2, hm2, hn2⟩
      show CJ _ _ _ _ _ (([(32, .int .i64 (i : Nat))] : Slots) ++ forget _ _) (blk b24 55 [dv2.v, .map (some b23), cx2.v, .int .i64 (s.fuse : Int), .bool s.down, .int .i64 (s.writes : Int)] :: sl tyDrv dv2.v (DL.hs l2) :: DOwn l2 :: _)
      refine CJ_seq ?_
      refine CJ_region ?_
      refine RJ_op rfl (OJ_P (P_lss rfl rfl) rfl ?_)
      refine RJ_nil ?_
      refine QJ_then ?_
      refine CJ_seq ?_
      first | (refine CJ_condD rfl (fun hg2 => ?_) (fun hg2 => ?_)) | (refine CJ_condN rfl (fun hg2 => ?_) (fun hg2 => ?_)) | (refine CJ_cond rfl (fun hg2 => ?_) (fun hg2 => ?_))
      ·
        refine CJ_skip ?_
        refine QJ_then ?_
        refine CJ_seq ?_
        refine CJ_block ?_
        refine CJ_seq ?_
        have hsm := hw.same i (by omega)
        refine CJ_ent (Ent.trans (Ent.take del8 Ent.refl) (DOwn_open i hl (by omega))) ?_
        refine CJ_region ?_
        first | (refine RJ_op rfl (OJ_V (V_index rfl rfl rfl (by omega) foc10 (Reads.sl _ _ _) Try.runUnderlying52 Try.sizeOf58) rfl ?_)) | (refine RJ_op rfl (OJ_V (V_index rfl rfl (Int.toNat_of_nonneg (by omega)).symm (by omega) foc10 (Reads.sl _ _ _) Try.runUnderlying52 Try.sizeOf58) rfl ?_))
        refine RJ_op rfl (OJ_V (V_loadEN rfl rfl (by omega) foc10 (Reads.sl _ _ _) rfl rfl Try.isAgg58 Try.sizeOf58) rfl ?_)
        refine RJ_op rfl (O_alloc Try.zeroValue58 rfl rfl (fun b25 => ?_))
        refine RJ_op rfl (O_storeN rfl rfl foc0 Try.sizeOf58 rfl rfl rfl ?_)
        refine RJ_nil ?_
        refine QJ_then ?_
        refine AJ_startH 294912 (by kernel_rfl) rfl ?_
        refine AJ_takeP 0 1 rfl (by kernel_rfl) rfl (GY_none rfl) (P_move rfl) rfl (fun _ _ _ _ h => h) ?_
        refine AJ_takeP 1 3 rfl (by kernel_rfl) rfl (GY_none rfl) (P_move rfl) rfl (fun _ _ _ _ h => h) ?_
        refine AJ_takeP 2 7 rfl (by kernel_rfl) rfl (GY_none rfl) (P_nilCheck rfl) rfl (fun _ _ _ _ h => h) ?_
        refine AJ_takeP 3 15 rfl (by kernel_rfl) rfl (GY_none rfl) (P_fieldAddr rfl ⟨_, _, _, Try.runUnderlying55, rfl, rfl, Try.sizeOf52, rfl⟩) rfl (fun _ _ _ _ h => h) ?_
        refine AJ_takeV 4 31 rfl (by kernel_rfl) rfl (by kernel_rfl) (by kernel_rfl) (GY_none rfl) (Ent.take del0 (Ent.take del0 (Ent.take del0 (Ent.take del0 (Ent.take del0 (Ent.take del0 (Ent.take del0 (Ent.take del0 (Ent.take del0 (Ent.take del0 (Ent.take del0 (Ent.take del0 (Ent.take del0 Ent.refl))))))))))))) (V_load rfl foc4 rfl Try.isAgg52) rfl (fun _ _ _ _ h => h) ?_
        refine AJ_takeP 5 63 rfl (by kernel_rfl) rfl (GY_none rfl) (P_fieldAddr rfl ⟨_, _, _, Try.runUnderlying58, rfl, rfl, Try.sizeOf56, rfl⟩) rfl (fun _ _ _ _ h => h) ?_
        refine AJ_takeV 6 127 rfl (by kernel_rfl) rfl (by kernel_rfl) (by kernel_rfl) (GY_none rfl) (Ent.take del0 (Ent.take del0 (Ent.take del0 (Ent.take del0 (Ent.take del0 (Ent.take del0 (Ent.take del0 (Ent.take del0 (Ent.take del0 (Ent.take del0 (Ent.take del0 (Ent.take del0 (Ent.take del0 Ent.refl))))))))))))) (V_load rfl foc0 rfl Try.isAgg56) rfl (fun _ _ _ _ h => h) ?_
        refine AJ_takeP 8 383 rfl (by kernel_rfl) rfl (GY_none rfl) (P_fieldAddr rfl ⟨_, _, _, Try.runUnderlying58, rfl, rfl, Try.sizeOf56, rfl⟩) rfl (fun _ _ _ _ h => h) ?_
        refine AJ_takeV 9 895 rfl (by kernel_rfl) rfl (by kernel_rfl) (by kernel_rfl) (GY_none rfl) (Ent.take del0 (Ent.take del0 (Ent.take del0 (Ent.take del0 (Ent.take del0 (Ent.take del0 (Ent.take del0 (Ent.take del0 (Ent.take del0 (Ent.take del0 (Ent.take del0 (Ent.take del0 (Ent.take del0 Ent.refl))))))))))))) (V_load rfl foc0 rfl Try.isAgg56) rfl (fun _ _ _ _ h => h) ?_
        refine AJ_takeP 11 2943 rfl (by kernel_rfl) rfl (GY_none rfl) (P_fieldAddr rfl ⟨_, _, _, Try.runUnderlying58, rfl, rfl, Try.sizeOf4, rfl⟩) rfl (fun _ _ _ _ h => h) ?_
        refine AJ_takeV 12 7039 rfl (by kernel_rfl) rfl (by kernel_rfl) (by kernel_rfl) (GY_none rfl) (Ent.take del0 (Ent.take del0 (Ent.take del0 (Ent.take del0 (Ent.take del0 (Ent.take del0 (Ent.take del0 (Ent.take del0 (Ent.take del0 (Ent.take del0 (Ent.take del0 (Ent.take del0 (Ent.take del0 Ent.refl))))))))))))) (V_load rfl foc0 rfl Try.isAgg4) rfl (fun _ _ _ _ h => h) ?_
        refine AJ_op 7 7167 rfl (by kernel_rfl) rfl (GY_none rfl) (O_call (c_CloneU (Reads.sl _ _ _) (by omega)) rfl Try.call51 (Dels.cons del1 Dels.nil) rfl (fun cx27 hc29 => ?_))
        refine ⟨fun _ => (Ent.take del2 (Ent.take del1 (Ent.take del1 (Ent.take del1 (Ent.take del1 (Ent.take del1 (Ent.take del1 (Ent.take del1 (Ent.take del1 (Ent.take del1 (Ent.take del1 (Ent.take del1 (Ent.take del1 (Ent.drop Ent.refl)))))))))))))), ?_⟩
        refine AJ_op 10 8191 rfl (by kernel_rfl) rfl (GY_none rfl) (O_call (c_CloneU (Reads.sl _ _ _) (by omega)) rfl Try.call51 (Dels.cons del3 Dels.nil) rfl (fun cx31 hc33 => ?_))
        refine ⟨fun _ => (Ent.take del4 (Ent.take del3 (Ent.take del1 (Ent.take del2 (Ent.take del2 (Ent.take del2 (Ent.take del2 (Ent.take del2 (Ent.take del2 (Ent.take del2 (Ent.take del2 (Ent.take del2 (Ent.take del2 (Ent.drop (Ent.drop Ent.refl))))))))))))))), ?_⟩
        refine AJ_takeP 13 16383 rfl (by kernel_rfl) rfl (GY_none rfl) (P_build rfl (CCopyD_bld_58_0_1_2 _ _ _ _ _ _ _)) rfl (fun _ _ _ _ h => h) ?_
        refine AJ_op 14 32767 rfl (by kernel_rfl) rfl (GY_none rfl) (O_buildSlice rfl (CCopyD_bs_52_1_0 _ _ _ _ _ _ _) rfl (fun b34 => ?_))
        refine ⟨fun _ => (Ent.take del5 (Ent.take del4 (Ent.take del2 (Ent.take del3 (Ent.take del3 (Ent.take del3 (Ent.take del3 (Ent.take del3 (Ent.take del3 (Ent.take del3 (Ent.take del3 (Ent.take del3 (Ent.take del3 (Ent.drop (Ent.drop (Ent.drop Ent.refl)))))))))))))))), ?_⟩
        refine AJ_op 15 65535 rfl (by kernel_rfl) rfl (GY_none rfl) (O_append (t := tyDrv) (bytes := 56) rfl rfl del8 foc0 (Reads.lit (t := tyDrv) (ys := [⟨cx27, cx31, ((DL.hs l).getD i dH0).miss⟩]) rfl rfl (by decide) (by decide) rfl) Try.underlying52 ok_tyDrv (by simp only [List.length_append, List.length_cons, List.length_nil, maxLen] at *; omega) (by simp only [List.length_append, List.length_cons, List.length_nil, maxLen] at *; omega) rfl (fun p35 c36 => ?_))
        refine ⟨fun h => absurd h (by decide), ?_⟩
        refine AJ_takeP 16 131071 rfl (by kernel_rfl) rfl (GY_none rfl) (P_nilCheck rfl) rfl (fun _ _ _ _ h => h) ?_
        refine AJ_takeP 17 262143 rfl (by kernel_rfl) rfl (GY_none rfl) (P_fieldAddr rfl ⟨_, _, _, Try.runUnderlying55, rfl, rfl, Try.sizeOf52, rfl⟩) rfl (fun _ _ _ _ h => h) ?_
        refine AJ_op 18 524287 rfl (by kernel_rfl) rfl (GY_none rfl) (O_store rfl rfl foc8 rfl rfl Try.sizeOf52 ?_)
        refine ⟨fun h => absurd h (by decide), ?_⟩
        refine AJ_done (by kernel_rfl) ?_
        refine QJ_block_normal ?_
        refine QJ_then ?_
        refine CJ_region ?_
        refine RJ_op rfl (OJ_P (P_add rfl rfl (by omega)) rfl ?_)
        refine RJ_op rfl (OJ_P (P_move rfl) rfl ?_)
        refine RJ_nil ?_
        refine QJ_nextR ⟨i + 1, ⟨p35, _, c36⟩, l2 ++ [((⟨cx27, cx31, ((DL.hs l).getD i dH0).miss⟩ : DrvH), s.drv.getD i d0)]⟩ (by first | omega | (simp only []; omega)) ?_ (by repeat (first | exact Kp.base | exact Kp.self | refine Kp.cons rfl ?_ | refine Kp.forget rfl ?_)) ?_ (Ent.trans (Ent.trans (Ent.take del5 (Ent.take del3 (Ent.take del5 Ent.refl))) (DOwn_back hl (by omega))) (Ent.trans (Ent.trans (Ent.take del4 (Ent.take del3 (Ent.take del5 Ent.refl))) (DOwn_push ((⟨cx27, cx31, ((DL.hs l).getD i dH0).miss⟩ : DrvH), s.drv.getD i d0))) (Ent.take del5 (Ent.takeC del2 (congrArg (sl tyDrv _) (hs_snoc l2 ((⟨cx27, cx31, ((DL.hs l).getD i dH0).miss⟩ : DrvH), s.drv.getD i d0)).symm) (Ent.take del0 (Ent.take del3 (Ent.take del3 (Ent.take del3 (Ent.take del3 (Ent.take del3 (Ent.take del0 (Ent.take del2 (Ent.drop (Ent.drop Ent.refl))))))))))))))
        ·
          refine ⟨by omega, ?_, ?_, by rw [hs_snoc, List.length_append, hn2]; rfl⟩
          · rw [List.map_append, hl2, take_snocD s.drv i (by omega)]; rfl
          · intro p hp
            rcases List.mem_append.1 hp with hp | hp
            · exact hm2 p hp
            · rw [List.mem_singleton] at hp; subst hp; exact missAt hl hm (by omega)
        · exact ⟨rfl, True.intro⟩
      ·
        refine CJ_exit ?_
        refine QJ_then_exit ?_
        refine QJ_round_exit ?_
        refine QJ_block_here ?_
        refine QJ_then ?_
        refine CJ_seq ?_
        refine CJ_seq ?_
        refine CJ_region ?_
        refine RJ_op rfl (OJ_P (P_move rfl) rfl ?_)
        refine RJ_op rfl (OJ_P (P_nilCheck rfl) rfl ?_)
        refine RJ_op rfl (OJ_P (P_fieldAddr rfl ⟨_, _, _, Try.runUnderlying55, rfl, rfl, Try.sizeOf51, rfl⟩) rfl ?_)
        refine RJ_op rfl (OJ_V (V_load rfl foc6 rfl Try.isAgg51) rfl ?_)
        refine RJ_op rfl (O_rangeM rfl foc9 ok_mBad rfl (fun ri37 => ?_))
        refine RJ_nil ?_
        refine QJ_then ?_
        refine CJ_block ?_
        refine CJ_loopR (X := List Nat) [6, 60, 61, 62, 63, 64, 65, 66, 67, 68] (fun is  => ([] : Slots)) (fun is R => mpi mBad mr ri37 s.bad is :: mpc mBad b23 (is.filterMap fun i => s.bad[i]?) :: R) (fun is  => is.Nodup ∧ ∀ i ∈ is, i < s.bad.length) (fun is  => s.bad.length - is.length) ([]) ?_ ?_ (Ent.take del9 (Ent.take del3 (Ent.take del0 (Ent.take del0 (Ent.take del0 (Ent.take del0 (Ent.take del0 (Ent.take del0 (Ent.take del0 (Ent.take del0 Ent.refl)))))))))) ?_
        · exact ⟨List.nodup_nil, fun i h => by cases h⟩
        · exact True.intro
        ·
          intro is hpf
          obtain ⟨hin, hil⟩ := hpf
          show CJ _ _ _ _ _ (([] : Slots) ++ forget _ _) (mpi mBad mr ri37 s.bad is :: mpc mBad b23 (is.filterMap fun i => s.bad[i]?) :: _)
          refine CJ_seq ?_
          refine CJ_pure mpi_nodup (fun hnd => ?_)
          refine CJ_region ?_
          refine RJ_op rfl (O_nextM rfl foc0 rfl (fun hall => ?_) (fun i p hip hni => ?_))
          ·
            refine RJ_op rfl (OJ_P (P_extract rfl rfl) rfl ?_)
            refine RJ_nil ?_
            refine QJ_then ?_
            refine CJ_seq ?_
            refine CJ_condF rfl rfl ?_
            refine CJ_exit ?_
            refine QJ_then_exit ?_
            refine QJ_round_exit ?_
            refine QJ_block_here ?_
            refine QJ_then ?_
            refine CJ_seq ?_
            refine CJ_region ?_
            refine RJ_op rfl (OJ_P (P_move rfl) rfl ?_)
            refine RJ_op rfl (OJ_P (P_assign rfl) rfl ?_)
            refine RJ_nil ?_
            refine QJ_then ?_
            refine CJ_ret ?_
            refine QJ_end (res1 Try.results38 rfl) ?_
            refine CSpec.close ⟨b24, is.filterMap fun i => s.bad[i]?⟩ ?_ ?_ (Ent.trans (Ent.trans (Ent.take del0 Ent.refl) mpi_done) (Ent.trans (Ent.trans (Ent.take del7 (Ent.take del7 (Ent.take del7 (Ent.take del6 (Ent.take del0 Ent.refl))))) (Arr_close hl hm hw)) (Ent.trans (Ent.trans (Ent.take del2 (Ent.take del2 (Ent.take del2 (Ent.take del2 (Ent.take del1 Ent.refl))))) (Arr_close (s := { s with bad := is.filterMap fun i => s.bad[i]? }) (by rw [hl2, List.take_of_length_le (by omega)]) hm2 ⟨hw.cnt, hw.same, hw.log, hw.len, hw.fuse⟩)) (Ent.take del0 (Ent.take del0 Ent.refl)))))
            · rfl
            · exact met_perm hin hil hall
          ·
            refine RJ_op rfl (OJ_P (P_extract rfl rfl) rfl ?_)
            refine RJ_nil ?_
            refine QJ_then ?_
            refine CJ_seq ?_
            refine CJ_condT rfl rfl ?_
            refine CJ_skip ?_
            refine QJ_then ?_
            refine CJ_block ?_
            refine CJ_seq ?_
            refine CJ_region ?_
            refine RJ_op rfl (OJ_V (V_entryM rfl foc0 hip) rfl ?_)
            refine RJ_op rfl (OJ_P (P_extract rfl rfl) rfl ?_)
            refine RJ_op rfl (O_alloc Try.zeroValue60 rfl rfl (fun b38 => ?_))
            refine RJ_op rfl (O_storeN rfl rfl foc0 Try.sizeOf60 rfl rfl rfl ?_)
            refine RJ_nil ?_
            refine QJ_then ?_
            refine AJ_startH 32 (by kernel_rfl) rfl ?_
            refine AJ_takeP 0 1 rfl (by kernel_rfl) rfl (GY_none rfl) (P_move rfl) rfl (fun _ _ _ _ h => h) ?_
            refine AJ_takeP 1 3 rfl (by kernel_rfl) rfl (GY_none rfl) (P_nilCheck rfl) rfl (fun _ _ _ _ h => h) ?_
            refine AJ_takeP 2 7 rfl (by kernel_rfl) rfl (GY_none rfl) (P_fieldAddr rfl ⟨_, _, _, Try.runUnderlying55, rfl, rfl, Try.sizeOf51, rfl⟩) rfl (fun _ _ _ _ h => h) ?_
            refine AJ_takeV 3 15 rfl (by kernel_rfl) rfl (by kernel_rfl) (by kernel_rfl) (GY_none rfl) (Ent.take del0 (Ent.take del0 (Ent.take del0 (Ent.take del0 (Ent.take del0 (Ent.take del0 (Ent.take del0 (Ent.take del0 (Ent.take del0 (Ent.take del0 (Ent.take del0 Ent.refl))))))))))) (V_load rfl foc3 rfl Try.isAgg51) rfl (fun _ _ _ _ h => h) ?_
            refine AJ_takeV 4 31 rfl (by kernel_rfl) rfl (by kernel_rfl) (by kernel_rfl) (GY_none rfl) (Ent.take del0 (Ent.take del0 (Ent.take del0 (Ent.take del0 (Ent.take del0 (Ent.take del0 (Ent.take del0 (Ent.take del0 (Ent.take del0 (Ent.take del0 (Ent.take del0 Ent.refl))))))))))) (V_loadN rfl foc0 Try.isAgg60 Try.sizeOf60 rfl rfl) rfl (fun _ _ _ _ h => h) ?_
            refine AJ_op 5 63 rfl (by kernel_rfl) rfl (GY_none rfl) (O_mapUpdate (M := mBad) (k := p.1) (v := ()) rfl rfl rfl foc2 ok_mBad ?_)
            refine ⟨fun h => absurd h (by decide), ?_⟩
            refine AJ_done (by kernel_rfl) ?_
            refine QJ_block_normal ?_
            refine QJ_nextR (is ++ [i]) (by have := is_lt hin hil hni (List.getElem?_eq_some_iff.1 hip).1; simp only [List.length_append, List.length_cons, List.length_nil]; omega) ?_ (by repeat (first | exact Kp.base | exact Kp.self | refine Kp.cons rfl ?_ | refine Kp.forget rfl ?_)) ?_ (Ent.take del1 (Ent.takeC del1 (congrArg (mpc mBad _) (setM_met hnd hil hip hni)) (Ent.take del1 (Ent.take del1 (Ent.take del1 (Ent.take del1 (Ent.take del1 (Ent.take del1 (Ent.take del1 (Ent.take del1 (Ent.drop Ent.refl)))))))))))
            ·
              refine ⟨List.nodup_append.2 ⟨hin, (by simp), fun a ha b hb he => hni (by rw [List.mem_singleton] at hb; rw [← hb, ← he]; exact ha)⟩, fun j hj => ?_⟩
              rcases List.mem_append.1 hj with hj | hj
              · exact hil j hj
              · rw [List.mem_singleton] at hj; subst hj; exact (List.getElem?_eq_some_iff.1 hip).1
            · exact True.intro

end Go.Proofs
