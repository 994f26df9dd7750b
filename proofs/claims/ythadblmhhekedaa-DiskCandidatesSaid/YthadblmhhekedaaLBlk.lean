/- YthadblmhhekedaaLBlk: lifted functions of the program; printed by lift.py. -/
import Derived.Test.YthadblmhhekedaaLCls2
set_option linter.unusedSimpArgs false
set_option linter.unusedVariables false
set_option maxRecDepth 20000
set_option maxHeartbeats 4000000
namespace Go.Proofs
open Go.VG

theorem bs_97_0 : BuildsSlice Try.prog 97 0 [] 93 [] := fun w => by kernel_rfl
theorem bld_139_0 (v0 : (Option Addr)) (v1 : Nat) (v2 : Nat) : ∀ w, (Instr.build 139 (#[(0, .slice v0 v1 v2)] : Array (Nat × Value))).run Try.prog w = .ok (.agg #[.slice v0 v1 v2, .slice none 0 0]) w := fun w => by kernel_rfl
theorem bld_144_0_1_2 (v0 : TypeId) (v1 : Value) (v2 : Int) (v3 : Int) : ∀ w, (Instr.build 144 (#[(0, .iface v0 v1), (1, .int .i64 v2), (2, .int .i64 v3)] : Array (Nat × Value))).run Try.prog w = .ok (.agg #[.iface v0 v1, .int .i64 v2, .int .i64 v3]) w := fun w => by kernel_rfl
theorem bs_32_3_0_1_2 (v0 : Int) (v1 : Int) (v2 : Int) : BuildsSlice Try.prog 32 3 [(0, .int .u64 v0), (1, .int .u64 v1), (2, .int .u64 v2)] 33 [.int .u64 v0, .int .u64 v1, .int .u64 v2] := fun w => by kernel_rfl
theorem bs_32_2_0_1 (v0 : Int) (v1 : Int) : BuildsSlice Try.prog 32 2 [(0, .int .u64 v0), (1, .int .u64 v1)] 33 [.int .u64 v0, .int .u64 v1] := fun w => by kernel_rfl
theorem bs_48_2_0_1 (v0 : (Option Addr)) (v1 : Nat) (v2 : Nat) (v3 : (Option Addr)) (v4 : Nat) (v5 : Nat) : BuildsSlice Try.prog 48 2 [(0, .slice v0 v1 v2), (1, .slice v3 v4 v5)] 32 [.slice v0 v1 v2, .slice v3 v4 v5] := fun w => by kernel_rfl
theorem bs_97_2_0_1 (v0 : TypeId) (v1 : Value) (v2 : TypeId) (v3 : Value) : BuildsSlice Try.prog 97 2 [(0, .iface v0 v1), (1, .iface v2 v3)] 93 [.iface v0 v1, .iface v2 v3] := fun w => by kernel_rfl
theorem c_Clone_71_0 {W : World} {A : HP} {v : Sl3} {xs : List (IfH)} (hA : Reads A tyDev v.v xs) (hl : xs.length ≤ 1000000000) :
    CSpec Try.prog W 71 [v.v] [A] (fun x : Sl3 => x.v) (fun _ => True) (fun x F => sl tyDev x.v xs :: A :: F) := by
  refine CSpec.of_body Try.func71 rfl Try.ntmps71 rfl (fun F => ?_)
  show CJ _ _ _ _ _ _ (_ :: F)
  have hll := hl
  refine CJ_seq (CJ_region (RJ_op rfl (OJ_P (P_assign rfl) rfl (RJ_nil (QJ_then (CJ_seq (CJ_seq (CJ_region (RJ_op rfl (OJ_P (P_move rfl) rfl (RJ_op rfl (OJ_P (P_eqlSN rfl rfl Try.underlying97) rfl (RJ_nil (QJ_then ?_))))))))))))))
  first | (refine CJ_condD rfl (fun hg1 => ?_) (fun hg1 => ?_)) | (refine CJ_condN rfl (fun hg1 => ?_) (fun hg1 => ?_)) | (refine CJ_cond rfl (fun hg1 => ?_) (fun hg1 => ?_))
  ·
    refine CJ_seq (CJ_region (RJ_op rfl (OJ_P (P_assign rfl) rfl (RJ_nil (QJ_then (CJ_ret (QJ_then_ret (QJ_end (res1 Try.results71 rfl) ?_))))))))
    obtain ⟨vp, vn, vc⟩ := v
    obtain rfl : vp = none := by simpa using hg1
    refine fun w hs => ?_
    obtain rfl := reads_none hA _ hs.heap.choose_spec
    revert w hs
    show ∀ w, St W w _ → _
    refine CSpec.close ⟨none, 0, 0⟩ ?_ ?_ (Ent.trans (fun h hh => sl_nil (t := tyDev) h hh) Ent.refl)
    · rfl
    · trivial
  ·
    refine CJ_skip (QJ_then (CJ_seq (CJ_region (RJ_op rfl (O_buildSlice rfl (bs_97_0) rfl (fun b1 => ?_))))))
    refine RJ_ent (Ent.trans (Ent.take del0 Ent.refl) (sl_of_lit (t := tyDev) (m := 0) [] rfl rfl rfl (by decide))) ?_
    refine RJ_op rfl (OJ_P (P_move rfl) rfl ?_)
    refine RJ_op rfl (O_append (t := tyDev) (bytes := 16) rfl rfl del0 foc0 hA Try.underlying97 ok_tyDev (apl (m := xs.length) (b := 16) (by simpa using hll) (by decide)).1 (apl (m := xs.length) (b := 16) (by simpa using hll) (by decide)).2 rfl (fun p2 c3 => ?_))
    refine RJ_op rfl (OJ_P (P_assign rfl) rfl (RJ_nil (QJ_then (CJ_ret (QJ_end (res1 Try.results71 rfl) ?_)))))
    refine CSpec.close ⟨p2, _, c3⟩ ?_ ?_ (Ent.take del0 (Ent.take del0 Ent.refl))
    · rfl
    · trivial
theorem c_Clone_71 {W : World} {A : HP} {v : Value} {xs : List (IfH)} (hA : Reads A tyDev v xs) (hl : xs.length ≤ 1000000000) :
    CSpec Try.prog W 71 [v] [A] (fun x : Sl3 => x.v) (fun _ => True) (fun x F => sl tyDev x.v xs :: A :: F) := by
  intro F w hs
  obtain ⟨h, hh⟩ := hs.heap
  obtain ⟨h1, h2, _, _, hh1, _⟩ := hh
  obtain ⟨x, rfl⟩ := reads_slice hA hh1
  exact c_Clone_71_0 hA hl F w hs

def block_Concat_l1_b (l : List Dvc) (s : ArrS) (rec : (List Int) → Nat → Int → Option ((List Int))) (x14 : List Int) (x16 : Nat) (x17 : Int) : Option ((List Int)) :=
  if (((x16 : Nat) : Int) < ((l.length : Nat) : Int)) then
    Option.bind (Dvc.size (l.getD x16 dv0) s) fun r21 =>
    grd (inI64 (x17 + r21)) <|
    grd (inLen (x14.length + 1)) <|
    rec ((x14 ++ [(x17 + r21)])) (x16 + 1) (x17 + r21)
  else
    some x14

def block_Concat_l1 (l : List Dvc) (s : ArrS) : Nat → (List Int) → Nat → Int → Option ((List Int))
  | 0, _, _, _ => none
  | n + 1, x14, x16, x17 => block_Concat_l1_b l s (block_Concat_l1 l s n) x14 x16 x17

def block_Concat (l : List Dvc) (s : ArrS) : Option (Dvc) :=
  grd (inLen l.length) <|
  Option.bind (block_Concat_l1 l s FUEL ([]) 0 (0 : Int)) fun a13 =>
  some (Dvc.concat l a13)

theorem L_block_Concat {W : World} {Al : HP} {vl : Value} {hsl : List IfH} {bs : Nat} {l : List Dvc} {s : ArrS} {r : Dvc} (rl : Reads Al tyDev vl hsl) (h : block_Concat l s = some r) :
    CSpec Try.prog W 41 [vl] [Al, Rs (DevP bs) l hsl, Arr bs s] (fun x : IfH => IfH.v x) (fun _ => True) (fun x F => Al :: Rs (DevP bs) l hsl :: Arr bs s :: DevP bs r x :: F) := by
  refine CSpec.of_body Try.func41 rfl Try.ntmps41 rfl (fun F => ?_)
  show CJ _ _ _ _ _ _ (_ :: _ :: _ :: F)
  unfold block_Concat at h
  refine CJ_pure (len_of rl del0) (fun hlen1 => ?_)
  refine CJ_pure (fun h hh => Rs_len (stars_perm (del1 (A := Rs (DevP bs) l hsl)).out h hh)) (fun hdl2 => ?_)
  refine CJ_seq ?_
  refine CJ_region ?_
  refine RJ_op rfl (OJ_P (P_assign rfl) rfl ?_)
  refine RJ_nil ?_
  refine QJ_then ?_
  refine CJ_seq ?_
  refine CJ_region ?_
  refine RJ_op rfl (OJ_P (P_move rfl) rfl ?_)
  obtain ⟨hg1, h⟩ := grd_Le h
  refine RJ_ent (Ent.trans (Ent.take del1 Ent.refl) (fun h hh => stars_dup (Dup_Rs (fun _ _ => Dup_DevP)) hh)) ?_
  refine RJ_op rfl (O_call (c_Clone_71 rl ((hdl2).symm ▸ hg1)) rfl Try.call71 (Dels.cons del2 Dels.nil) rfl (fun X3 _ => ?_))
  refine RJ_op rfl (OJ_P (P_build rfl (bld_139_0 _ _ _)) rfl ?_)
  refine RJ_op rfl (O_box rfl rfl rfl (fun b6 => ?_))
  refine RJ_op rfl (OJ_P (P_assign rfl) rfl ?_)
  refine RJ_nil ?_
  refine QJ_then ?_
  refine CJ_seq ?_
  refine CJ_region ?_
  refine RJ_op rfl (OJ_P (P_assign rfl) rfl ?_)
  refine RJ_nil ?_
  refine QJ_then ?_
  refine CJ_seq ?_
  refine CJ_seq ?_
  refine CJ_region ?_
  refine RJ_op rfl (OJ_P (P_move rfl) rfl ?_)
  refine RJ_op rfl (OJ_V (VJ_eq (V_len rfl foc2 rl Try.runUnderlying97) (congrArg (fun z : Nat => Value.int .i64 (z : Int)) (hdl2).symm)) rfl ?_)
  refine RJ_op rfl (OJ_P (P_move rfl) rfl ?_)
  refine RJ_nil ?_
  refine QJ_then ?_
  refine CJ_ent (fun h hh => sl_nil (t := tyI) h hh) ?_
  obtain ⟨y10, hl8, hK9⟩ := bind_c h
  refine CJ_cutT (X := (List Int) × Sl3) [4, 6, 13, 14, 15, 16, 17, 18, 19, 20, 21, 22, 23, 24, 25, 26, 27, 28, 29, 30, 31] (fun ⟨a13, hd12⟩ => ([] : Slots)) (fun ⟨a13, hd12⟩ R => sl tyI hd12.v a13 :: blk b6 139 [(Sl3.v X3), hd12.v] :: R) (fun ⟨a13, hd12⟩ => y10 = a13) (Dels.cons del0 (Dels.cons del0 Dels.nil)) ?_ ?_
  ·
    refine CJ_block ?_
    refine CJ_loopR (X := Nat × (List Int) × Nat × Int × Sl3) [4, 6, 13, 14, 15, 16, 17, 18, 19, 20, 21, 22, 23, 24, 25, 26, 27, 28, 29, 30, 31] (fun ⟨n, x14, x16, x17, hd15⟩ => ([(4, .int .i64 x17), (13, .int .i64 (((x16 : Nat) : Int)))] : Slots)) (fun ⟨n, x14, x16, x17, hd15⟩ R => sl tyI hd15.v x14 :: blk b6 139 [(Sl3.v X3), hd15.v] :: R) (fun ⟨n, x14, x16, x17, hd15⟩ => block_Concat_l1 l s n x14 x16 x17 = some y10) (fun ⟨n, x14, x16, x17, hd15⟩ => n) ⟨FUEL, [], 0, (0 : Int), ⟨none, 0, 0⟩⟩ ?_ ?_ Ent.refl ?_
    · exact hl8
    · exact ⟨rfl, rfl, True.intro⟩
    ·
      rintro ⟨n, x14, x16, x17, hd15⟩ h
      cases n with
      | zero => exact none_e h
      | succ n => ?_
      replace h : block_Concat_l1_b l s (block_Concat_l1 l s n) x14 x16 x17 = some y10 := h
      unfold block_Concat_l1_b at h
      show CJ _ _ _ _ _ (([(4, .int .i64 x17), (13, .int .i64 (((x16 : Nat) : Int)))] : Slots) ++ forget _ _) (sl tyI hd15.v x14 :: blk b6 139 [(Sl3.v X3), hd15.v] :: _)
      refine CJ_pure (len_of (Reads.sl _ _ _) del0) (fun hlen18 => ?_)
      refine CJ_seq ?_
      refine CJ_region ?_
      refine RJ_op rfl (OJ_P (P_lss (a := ((x16 : Nat) : Int)) (b := ((l.length : Nat) : Int)) rfl rfl) rfl ?_)
      refine RJ_nil ?_
      refine QJ_then ?_
      refine CJ_seq ?_
      refine CJ_condP rfl bT_dec (fun hg2 => ?_) (fun hg2 => ?_)
      ·
        replace h := ite_t hg2 h
        refine CJ_skip ?_
        refine QJ_then ?_
        refine CJ_seq ?_
        refine CJ_block ?_
        refine CJ_seq ?_
        refine CJ_region ?_
        refine RJ_op rfl (OJ_V (V_index (i := x16) rfl rfl rfl (by have hz : x16 < l.length := (by omega); have hy := hdl2; omega) foc3 rl Try.runUnderlying97 Try.sizeOf93) rfl ?_)
        refine RJ_ent (Ent.trans (Ent.take del5 Ent.refl) (Rs_at (fun _ _ => Dup_DevP) (dx := dv0) (dh := tyDev.dflt) (i := x16) (by omega))) ?_
        refine RJ_op rfl (OJ_V (V_loadE rfl rfl (by have hz : x16 < l.length := (by omega); have hy := hdl2; omega) foc5 rl rfl rfl Try.isAgg93) rfl ?_)
        refine RJ_op rfl (OJ_P (P_assign rfl) rfl ?_)
        refine RJ_nil ?_
        refine QJ_then ?_
        refine CJ_seq ?_
        refine CJ_region ?_
        refine RJ_op rfl (OJ_P (P_move rfl) rfl ?_)
        refine RJ_op rfl (OJ_P (P_move rfl) rfl ?_)
        refine RJ_pure (fun h hh => DevP_dep h (stars_perm (del0 (A := DevP bs (l.getD x16 dv0) (hsl.getD x16 tyDev.dflt))).out h hh)) (fun hdp20 => ?_)
        obtain ⟨r21, hr22, h⟩ := bind_e h
        refine RJ_op rfl (O_callI rfl (dev_Size hr22 hdp20) rfl (Dels.cons del0 (Dels.cons del6 Dels.nil)) rfl (fun _ _ => ?_))
        obtain ⟨hg3, h⟩ := grd_Ie h
        refine RJ_op rfl (OJ_P (P_add (a := x17) (b := r21) rfl rfl hg3) rfl ?_)
        refine RJ_op rfl (OJ_P (P_assign rfl) rfl ?_)
        refine RJ_nil ?_
        refine QJ_ent (Ent.take del1 (Ent.take del1 (Ent.take del1 (Ent.take del1 (Ent.take del1 (Ent.take del1 (Ent.take del1 (Ent.drop Ent.refl)))))))) ?_
        refine QJ_then ?_
        refine CJ_region ?_
        refine RJ_op rfl (OJ_P (P_move rfl) rfl ?_)
        refine RJ_op rfl (OJ_P (P_move rfl) rfl ?_)
        refine RJ_op rfl (OJ_P (P_nilCheck rfl) rfl ?_)
        refine RJ_op rfl (OJ_P (P_fieldAddr rfl ⟨_, _, _, Try.runUnderlying139, rfl, rfl, Try.sizeOf29, rfl⟩) rfl ?_)
        refine RJ_op rfl (OJ_V (V_load rfl foc3 rfl Try.isAgg29) rfl ?_)
        refine RJ_op rfl (OJ_P (P_move rfl) rfl ?_)
        refine RJ_op rfl (O_buildSlice rfl (bs_29_1_0 _) rfl (fun b23 => ?_))
        obtain ⟨hg4, h⟩ := grd_Le h
        refine RJ_op rfl (O_append (t := tyI) (bytes := 8) rfl rfl del3 foc0 (Reads.lit (t := tyI) (ys := [(x17 + r21)]) rfl rfl (by decide) (by decide) rfl) Try.underlying29 ok_tyI (apl (m := 1) (b := 8) hg4 (by decide)).1 (apl (m := 1) (b := 8) hg4 (by decide)).2 rfl (fun p25 c26 => ?_))
        refine RJ_op rfl (OJ_P (P_nilCheck rfl) rfl ?_)
        refine RJ_op rfl (OJ_P (P_fieldAddr rfl ⟨_, _, _, Try.runUnderlying139, rfl, rfl, Try.sizeOf29, rfl⟩) rfl ?_)
        refine RJ_op rfl (O_store rfl rfl foc4 rfl rfl Try.sizeOf29 ?_)
        refine RJ_nil ?_
        refine QJ_block_normal ?_
        refine QJ_ent (Ent.take del0 (Ent.take del1 (Ent.take del1 (Ent.take del1 (Ent.take del1 (Ent.take del1 (Ent.take del1 (Ent.drop Ent.refl)))))))) ?_
        refine QJ_then ?_
        refine CJ_region ?_
        refine RJ_op rfl (OJ_P (PJ_eq (P_add (a := ((x16 : Nat) : Int)) (b := (1 : Int)) rfl rfl (by omega)) rfl) rfl ?_)
        refine RJ_op rfl (OJ_P (P_move rfl) rfl ?_)
        refine RJ_nil ?_
        refine QJ_nextR ⟨n, (x14 ++ [(x17 + r21)]), (x16 + 1), (x17 + r21), ⟨p25, (x14 ++ [(x17 + r21)]).length, c26⟩⟩ (Nat.lt_succ_self _) ?_ (by repeat (first | exact Kp.base | exact Kp.self | refine Kp.cons rfl ?_ | refine Kp.forget rfl ?_)) ?_ (Ent.take del0 (Ent.take del2 (Ent.take del2 (Ent.take del2 (Ent.take del2 (Ent.take del1 Ent.refl))))))
        · exact h
        · exact ⟨rfl, rfl, True.intro⟩
      ·
        replace h := ite_f hg2 h
        refine CJ_exit ?_
        refine QJ_then_exit ?_
        refine QJ_round_exit ?_
        refine QJ_block_here ?_
        refine QJ_cutR ⟨x14, hd15⟩ ?_ (by repeat (first | exact Kp.base | exact Kp.self | refine Kp.cons rfl ?_ | refine Kp.forget rfl ?_)) ?_ Ent.refl
        · exact (Option.some.inj h).symm
        · exact True.intro
  ·
    rintro ⟨a13, hd12⟩ hy27
    replace h := bindK_at hK9 hy27
    show CJ _ _ _ _ _ (([] : Slots) ++ forget _ _) (sl tyI hd12.v a13 :: blk b6 139 [(Sl3.v X3), hd12.v] :: _)
    refine CJ_pure (len_of (Reads.sl _ _ _) del0) (fun hlen28 => ?_)
    refine CJ_seq ?_
    refine CJ_region ?_
    refine RJ_op rfl (OJ_P (P_move rfl) rfl ?_)
    refine RJ_share del1 ?_
    refine RJ_shareS del2 ?_
    refine RJ_shareS del2 ?_
    refine RJ_ent (Ent.trans (Ent.take del4 Ent.refl) (fun h hh => stars_dup (Dup_Rs (fun _ _ => Dup_DevP)) hh)) ?_
    refine RJ_op rfl (OJ_P (P_makeIface rfl Try.runUnderlying136 (by intro ms h; cases h)) rfl ?_)
    refine RJ_ent (Ent.trans (Ent.take del4 (Ent.take del3 (Ent.take del0 (Ent.take del1 Ent.refl)))) (DevP_mk (a := bs) (x := (Dvc.concat l a13)) (h := (⟨136, ptr b6 0⟩ : IfH)) (ok_Dvc_concat))) ?_
    refine RJ_op rfl (OJ_P (P_assign rfl) rfl ?_)
    refine RJ_nil ?_
    refine QJ_then ?_
    refine CJ_ret ?_
    have hE := Option.some.inj h
    subst hE
    refine QJ_end (res1 Try.results41 rfl) ?_
    refine CSpec.close ((⟨136, ptr b6 0⟩ : IfH)) ?_ ?_ (Ent.take del2 (Ent.take del2 (Ent.take del2 (Ent.take del0 (Ent.drop Ent.refl)))))
    · rfl
    · trivial

def block_Window (x_0 : Dvc) (start : Int) (length : Int) (s : ArrS) : Option ((Option Dvc) × Int) :=
  Option.bind (Dvc.size x_0 s) fun r2 =>
  Option.bind (block_inside r2 start length) fun r4 =>
  if (¬ r4 = true) then
    some ((none, (1 : Int)))
  else
    grd (decide (Dvc.dep x_0 + 1 ≤ 60)) <|
    some (((some (Dvc.window x_0 start length)), (0 : Int)))

theorem L_block_Window {W : World} {vx_0 : IfH} {bs : Nat} {x_0 : Dvc} {start : Int} {length : Int} {s : ArrS} {r : (Option Dvc) × Int} (h : block_Window x_0 start length s = some r) :
    CSpec Try.prog W 46 [IfH.v vx_0, .int .i64 start, .int .i64 length] [DevP bs x_0 vx_0, Arr bs s] (fun x : IfH => .tuple #[oif r.1 x, .int .i64 r.2]) (fun _ => True) (fun x F => DevP bs x_0 vx_0 :: Arr bs s :: optP (DevP bs · x) r.1 :: F) := by
  refine CSpec.of_body Try.func46 rfl Try.ntmps46 rfl (fun F => ?_)
  show CJ _ _ _ _ _ _ (_ :: _ :: F)
  unfold block_Window at h
  refine CJ_seq ?_
  refine CJ_region ?_
  refine RJ_op rfl (OJ_P (P_assign rfl) rfl ?_)
  refine RJ_op rfl (OJ_P (P_assign rfl) rfl ?_)
  refine RJ_nil ?_
  refine QJ_then ?_
  refine CJ_seq ?_
  refine CJ_seq ?_
  refine CJ_region ?_
  refine RJ_op rfl (OJ_P (P_move rfl) rfl ?_)
  refine RJ_pure (fun h hh => DevP_dep h (stars_perm (del0 (A := DevP bs x_0 vx_0)).out h hh)) (fun hdp1 => ?_)
  obtain ⟨r2, hr3, h⟩ := bind_e h
  refine RJ_op rfl (O_callI rfl (dev_Size hr3 hdp1) rfl (Dels.cons del0 (Dels.cons del0 Dels.nil)) rfl (fun _ _ => ?_))
  refine RJ_op rfl (OJ_P (P_move rfl) rfl ?_)
  refine RJ_op rfl (OJ_P (P_move rfl) rfl ?_)
  obtain ⟨r4, hr5, h⟩ := bind_e h
  refine RJ_op rfl (O_call (L_block_inside hr5) rfl Try.call70 Dels.nil rfl (fun _ _ => ?_))
  refine RJ_op rfl (OJ_P (P_not rfl) rfl ?_)
  refine RJ_nil ?_
  refine QJ_then ?_
  refine CJ_condP rfl (bT_not Iff.rfl) (fun hg1 => ?_) (fun hg1 => ?_)
  ·
    replace h := ite_t hg1 h
    refine CJ_seq ?_
    refine CJ_region ?_
    refine RJ_op rfl (OJ_P (P_assign rfl) rfl ?_)
    refine RJ_op rfl (OJ_P (P_assign rfl) rfl ?_)
    refine RJ_nil ?_
    refine QJ_then ?_
    refine CJ_ret ?_
    refine QJ_then_ret ?_
    have hE := Option.some.inj h
    subst hE
    refine QJ_end (res2 Try.results46 rfl rfl) ?_
    refine CSpec.close ⟨0, .bool false⟩ ?_ ?_ (Ent.take del0 (Ent.take del0 (Ent.trans (fun h hh => optP_none h hh) <| Ent.take del0 Ent.refl)))
    · rfl
    · trivial
  ·
    replace h := ite_f hg1 h
    refine CJ_skip ?_
    refine QJ_then ?_
    refine CJ_seq ?_
    refine CJ_region ?_
    refine RJ_op rfl (OJ_P (P_move rfl) rfl ?_)
    refine RJ_op rfl (OJ_P (P_move rfl) rfl ?_)
    refine RJ_op rfl (OJ_P (P_move rfl) rfl ?_)
    refine RJ_op rfl (OJ_P (P_build rfl (bld_144_0_1_2 _ _ _ _)) rfl ?_)
    refine RJ_op rfl (O_box rfl rfl rfl (fun b6 => ?_))
    refine RJ_share del0 ?_
    refine RJ_ent (Ent.trans (Ent.take del1 Ent.refl) (fun h hh => stars_dup Dup_DevP hh)) ?_
    obtain ⟨hg2, h⟩ := grd_de h
    refine RJ_op rfl (OJ_P (P_makeIface rfl Try.runUnderlying142 (by intro ms h; cases h)) rfl ?_)
    refine RJ_ent (Ent.trans (Ent.take del2 (Ent.take del0 Ent.refl)) (DevP_mk (a := bs) (x := (Dvc.window x_0 start length)) (h := (⟨142, ptr b6 0⟩ : IfH)) (ok_Dvc_window hg2))) ?_
    refine RJ_op rfl (OJ_P (P_assign rfl) rfl ?_)
    refine RJ_op rfl (OJ_P (P_assign rfl) rfl ?_)
    refine RJ_nil ?_
    refine QJ_then ?_
    refine CJ_ret ?_
    have hE := Option.some.inj h
    subst hE
    refine QJ_end (res2 Try.results46 rfl rfl) ?_
    refine CSpec.close ((⟨142, ptr b6 0⟩ : IfH)) ?_ ?_ (Ent.take del1 (Ent.take del1 Ent.refl))
    · rfl
    · trivial

def volumegrouplaw05_awake : Option (Bool) :=
  Option.bind (volumegroupmake_Loaded (([[(1 : UInt64), (2 : UInt64), (3 : UInt64)], [(4 : UInt64), (5 : UInt64)]] : List (List UInt64)))) fun r5 =>
  Option.elim r5 (
    some false) fun o10 =>
  Option.bind (block_Span o10 (0 : Int) (1 : Int) (2 : Int)) fun r11 =>
  Option.bind (block_Span o10 (1 : Int) (0 : Int) (2 : Int)) fun r15 =>
  if ((r11.2 ≠ (0 : Int)) ∨ (r15.2 ≠ (0 : Int))) then
    some false
  else
    Option.elim r11.1 (
      some false) fun o28 =>
    Option.elim r15.1 (
      some false) fun o30 =>
    Option.bind (block_Concat ([o28, o30] : List Dvc) o10) fun r33 =>
    Option.bind (Dvc.rd r33 o10 (2 : Int)) fun r38 =>
    Option.bind (Dvc.size r33 o10) fun r41 =>
    some ((((decide (r41 = (4 : Int))) && (decide (r38.2 = (0 : Int)))) && (decide (r38.1 = (4 : UInt64)))))

theorem L_volumegrouplaw05_awake {W : World} {r : Bool} (h : volumegrouplaw05_awake = some r) :
    CSpec Try.prog W 27 [] [] (fun x : Unit => .bool r) (fun _ => True) (fun x F => F) := by
  refine CSpec.of_body Try.func27 rfl Try.ntmps27 rfl (fun F => ?_)
  show CJ _ _ _ _ _ _ (F)
  unfold volumegrouplaw05_awake at h
  refine CJ_seq ?_
  refine CJ_region ?_
  refine RJ_op rfl (OJ_P (P_assign rfl) rfl ?_)
  refine RJ_nil ?_
  refine QJ_then ?_
  refine CJ_seq ?_
  refine CJ_region ?_
  refine RJ_op rfl (O_buildSlice rfl (bs_32_3_0_1_2 _ _ _) rfl (fun b1 => ?_))
  refine RJ_ent (Ent.trans (Ent.take del0 Ent.refl) (sl_of_lit (t := tyU) (m := 3) [(1 : UInt64), (2 : UInt64), (3 : UInt64)] rfl rfl rfl (by decide))) ?_
  refine RJ_op rfl (O_buildSlice rfl (bs_32_2_0_1 _ _) rfl (fun b2 => ?_))
  refine RJ_ent (Ent.trans (Ent.take del0 Ent.refl) (sl_of_lit (t := tyU) (m := 2) [(4 : UInt64), (5 : UInt64)] rfl rfl rfl (by decide))) ?_
  refine RJ_op rfl (O_buildSlice rfl (bs_48_2_0_1 _ _ _ _ _ _) rfl (fun b3 => ?_))
  refine RJ_ent (Ent.trans (Ent.take del0 Ent.refl) (sl_of_lit (t := tyRow) (m := 2) [(⟨some ⟨b1, 0, none⟩, 3, 3⟩ : Sl3), (⟨some ⟨b2, 0, none⟩, 2, 2⟩ : Sl3)] rfl rfl rfl (by decide))) ?_
  refine RJ_ent (Ent.starI (l := [sl tyU (.slice (some ⟨b1, 0, none⟩) 3 3) ([(1 : UInt64), (2 : UInt64), (3 : UInt64)]), sl tyU (.slice (some ⟨b2, 0, none⟩) 2 2) ([(4 : UInt64), (5 : UInt64)])]) (Ent.take del2 (Ent.take del1 Ent.refl))) ?_
  obtain ⟨r5, hr6, h⟩ := bind_e h
  refine RJ_op rfl (O_call (L_volumegroupmake_Loaded (Reads.sl _ _ _) (RowsR.cons (Reads.sl _ _ _) (RowsR.cons (Reads.sl _ _ _) RowsR.nil)) hr6) rfl Try.call23 (Dels.cons del1 (Dels.cons del0 Dels.nil)) rfl (fun X7 _ => ?_))
  refine RJ_ent (Ent.trans (Ent.take del1 Ent.refl) (Ent.starE (l := [sl tyU (.slice (some ⟨b1, 0, none⟩) 3 3) ([(1 : UInt64), (2 : UInt64), (3 : UInt64)]), sl tyU (.slice (some ⟨b2, 0, none⟩) 2 2) ([(4 : UInt64), (5 : UInt64)])]) Ent.refl)) ?_
  refine RJ_op rfl (OJ_P (P_assign rfl) rfl ?_)
  refine RJ_nil ?_
  refine QJ_then ?_
  refine CJ_seq ?_
  refine CJ_seq ?_
  refine CJ_region ?_
  refine RJ_op rfl (OJ_P (P_move rfl) rfl ?_)
  rcases opt_e h with ⟨ht9, h⟩ | ⟨o10, ht9, h⟩
  ·
    rw [ht9]
    refine RJ_ent (Ent.take del0 (Ent.take del0 (Ent.take del0 (Ent.drop Ent.refl)))) ?_
    refine RJ_op rfl (OJ_P (P_eqlNN rfl rfl Try.underlying25) rfl ?_)
    refine RJ_nil ?_
    refine QJ_then ?_
    refine CJ_condT rfl rfl ?_
    refine CJ_seq ?_
    refine CJ_region ?_
    refine RJ_op rfl (OJ_P (P_assign rfl) rfl ?_)
    refine RJ_nil ?_
    refine QJ_then ?_
    refine CJ_ret ?_
    refine QJ_then_ret ?_
    have hE := Option.some.inj h
    subst hE
    refine QJ_end (res1 Try.results27 rfl) ?_
    refine CSpec.close () ?_ ?_ (Ent.drop (Ent.drop (Ent.drop Ent.refl)))
    · rfl
    · trivial
  ·
    rw [ht9]
    refine RJ_ent (Ent.takeC (A' := Arr X7 o10) del3 rfl Ent.refl) ?_
    refine RJ_op rfl (OJ_P (P_eqlPN rfl rfl Try.underlying25) rfl ?_)
    refine RJ_nil ?_
    refine QJ_then ?_
    refine CJ_condF rfl rfl ?_
    refine CJ_skip ?_
    refine QJ_then ?_
    refine CJ_seq ?_
    refine CJ_region ?_
    refine RJ_op rfl (OJ_P (P_move rfl) rfl ?_)
    obtain ⟨r11, hr12, h⟩ := bind_e h
    refine RJ_op rfl (O_call (L_block_Span hr12) rfl Try.call40 (Dels.cons del0 Dels.nil) rfl (fun X13 _ => ?_))
    refine RJ_op rfl (OJ_P (P_move rfl) rfl ?_)
    refine RJ_op rfl (OJ_P (P_extract rfl rfl) rfl ?_)
    refine RJ_op rfl (OJ_P (P_extract rfl rfl) rfl ?_)
    refine RJ_op rfl (OJ_P (P_assign rfl) rfl ?_)
    refine RJ_op rfl (OJ_P (P_assign rfl) rfl ?_)
    refine RJ_nil ?_
    refine QJ_then ?_
    refine CJ_seq ?_
    refine CJ_region ?_
    refine RJ_op rfl (OJ_P (P_move rfl) rfl ?_)
    obtain ⟨r15, hr16, h⟩ := bind_e h
    refine RJ_op rfl (O_call (L_block_Span hr16) rfl Try.call40 (Dels.cons del0 Dels.nil) rfl (fun X17 _ => ?_))
    refine RJ_op rfl (OJ_P (P_move rfl) rfl ?_)
    refine RJ_op rfl (OJ_P (P_extract rfl rfl) rfl ?_)
    refine RJ_op rfl (OJ_P (P_extract rfl rfl) rfl ?_)
    refine RJ_op rfl (OJ_P (P_assign rfl) rfl ?_)
    refine RJ_op rfl (OJ_P (P_assign rfl) rfl ?_)
    refine RJ_nil ?_
    refine QJ_then ?_
    refine CJ_seq ?_
    refine CJ_seq ?_
    refine CJ_region ?_
    refine RJ_op rfl (OJ_P (P_move rfl) rfl ?_)
    refine RJ_op rfl (OJ_P (P_neq (a := r11.2) (b := (0 : Int)) rfl rfl) rfl ?_)
    refine RJ_op rfl (OJ_P (P_move rfl) rfl ?_)
    refine RJ_mbF rfl rfl rfl (fun hG19 => have hP20 : ¬ (r11.2 ≠ (0 : Int)) := nP (bT_dec) hG19; VJ_P (P_move rfl)) ?_
    refine RJ_mbF rfl rfl rfl (fun hG21 => have hP22 : ¬ (r11.2 ≠ (0 : Int)) := nP (bT_dec) hG21; VJ_P (P_neq (a := r15.2) (b := (0 : Int)) (mbx hG21 rfl) rfl)) ?_
    refine RJ_op rfl (OJ_P (P_pickOr rfl rfl (fun hh => mbx (not_f hh) rfl)) rfl ?_)
    refine RJ_op rfl (OJ_P (P_move rfl) rfl ?_)
    refine RJ_mbF rfl rfl rfl (fun hG23 => have hP24 : ¬ ((r11.2 ≠ (0 : Int)) ∨ (r15.2 ≠ (0 : Int))) := nP ((bT_or bT_dec bT_dec)) hG23; VJ_P (P_move rfl)) ?_
    refine RJ_splitP 31 rfl (bT_or bT_dec bT_dec) (fun hg1B hg1 => ?_) (fun hg1B hg1 => ?_)
    ·
      replace h := ite_t hg1 h
      refine RJ_gn (GY_no rfl rfl rfl hg1B) rfl rfl ?_
      refine RJ_op rfl (OJ_P (P_pickT rfl hg1B rfl) rfl ?_)
      refine RJ_op rfl (OJ_P (P_move rfl) rfl ?_)
      refine RJ_gn (GY_no rfl rfl rfl rfl) rfl rfl ?_
      refine RJ_gn (GY_no rfl rfl rfl rfl) rfl rfl ?_
      refine RJ_op rfl (OJ_P (P_pickT rfl rfl rfl) rfl ?_)
      refine RJ_nil ?_
      refine QJ_then ?_
      refine CJ_condT rfl rfl ?_
      refine CJ_seq ?_
      refine CJ_region ?_
      refine RJ_op rfl (OJ_P (P_assign rfl) rfl ?_)
      refine RJ_nil ?_
      refine QJ_then ?_
      refine CJ_ret ?_
      refine QJ_then_ret ?_
      have hE := Option.some.inj h
      subst hE
      refine QJ_end (res1 Try.results27 rfl) ?_
      refine CSpec.close () ?_ ?_ (Ent.drop (Ent.drop (Ent.drop (Ent.drop (Ent.drop (Ent.drop Ent.refl))))))
      · rfl
      · trivial
    ·
      replace h := ite_f hg1 h
      rcases opt_e h with ⟨ht27, h⟩ | ⟨o28, ht27, h⟩
      ·
        rw [ht27]
        refine RJ_ent (Ent.take del0 (Ent.take del0 (Ent.take del1 (Ent.take del1 (Ent.take del1 (Ent.drop Ent.refl)))))) ?_
        refine RJ_gy (GY_yes rfl rfl rfl hg1B) (OJ_P (P_eqlIN (mbx (not_f hg1B) rfl) Try.underlying93) rfl ?_)
        refine RJ_op rfl (OJ_P (P_pickF rfl hg1B rfl) rfl ?_)
        refine RJ_op rfl (OJ_P (P_move rfl) rfl ?_)
        refine RJ_gn (GY_no rfl rfl rfl rfl) rfl rfl ?_
        refine RJ_gn (GY_no rfl rfl rfl rfl) rfl rfl ?_
        refine RJ_op rfl (OJ_P (P_pickT rfl rfl rfl) rfl ?_)
        refine RJ_nil ?_
        refine QJ_then ?_
        refine CJ_condT rfl rfl ?_
        refine CJ_seq ?_
        refine CJ_region ?_
        refine RJ_op rfl (OJ_P (P_assign rfl) rfl ?_)
        refine RJ_nil ?_
        refine QJ_then ?_
        refine CJ_ret ?_
        refine QJ_then_ret ?_
        have hE := Option.some.inj h
        subst hE
        refine QJ_end (res1 Try.results27 rfl) ?_
        refine CSpec.close () ?_ ?_ (Ent.drop (Ent.drop (Ent.drop (Ent.drop (Ent.drop Ent.refl)))))
        · rfl
        · trivial
      ·
        rw [ht27]
        refine RJ_ent (Ent.takeC (A' := DevP X7 o28 X13) del2 rfl Ent.refl) ?_
        refine RJ_gy (GY_yes rfl rfl rfl hg1B) (OJ_P (P_eqlIfN (mbx (not_f hg1B) rfl) rfl Try.underlying93) rfl ?_)
        refine RJ_op rfl (OJ_P (P_pickF rfl hg1B rfl) rfl ?_)
        refine RJ_op rfl (OJ_P (P_move rfl) rfl ?_)
        refine RJ_gy (GY_yes rfl rfl rfl rfl) (OJ_P (P_move rfl) rfl ?_)
        rcases opt_e h with ⟨ht29, h⟩ | ⟨o30, ht29, h⟩
        ·
          rw [ht29]
          refine RJ_ent (Ent.take del0 (Ent.take del0 (Ent.take del1 (Ent.take del1 (Ent.take del1 (Ent.drop Ent.refl)))))) ?_
          refine RJ_gy (GY_yes rfl rfl rfl rfl) (OJ_P (P_eqlIN rfl Try.underlying93) rfl ?_)
          refine RJ_op rfl (OJ_P (P_pickF rfl rfl rfl) rfl ?_)
          refine RJ_nil ?_
          refine QJ_then ?_
          refine CJ_condT rfl rfl ?_
          refine CJ_seq ?_
          refine CJ_region ?_
          refine RJ_op rfl (OJ_P (P_assign rfl) rfl ?_)
          refine RJ_nil ?_
          refine QJ_then ?_
          refine CJ_ret ?_
          refine QJ_then_ret ?_
          have hE := Option.some.inj h
          subst hE
          refine QJ_end (res1 Try.results27 rfl) ?_
          refine CSpec.close () ?_ ?_ (Ent.drop (Ent.drop (Ent.drop (Ent.drop (Ent.drop Ent.refl)))))
          · rfl
          · trivial
        ·
          rw [ht29]
          refine RJ_ent (Ent.takeC (A' := DevP X7 o30 X17) del2 rfl Ent.refl) ?_
          refine RJ_gy (GY_yes rfl rfl rfl rfl) (OJ_P (P_eqlIfN rfl rfl Try.underlying93) rfl ?_)
          refine RJ_op rfl (OJ_P (P_pickF rfl rfl rfl) rfl ?_)
          refine RJ_nil ?_
          refine QJ_then ?_
          refine CJ_condF rfl rfl ?_
          refine CJ_skip ?_
          refine QJ_then ?_
          refine CJ_seq ?_
          refine CJ_region ?_
          refine RJ_op rfl (OJ_P (P_move rfl) rfl ?_)
          refine RJ_op rfl (OJ_P (P_move rfl) rfl ?_)
          refine RJ_op rfl (O_buildSlice rfl (bs_97_2_0_1 _ _ _ _) rfl (fun b31 => ?_))
          refine RJ_ent (Ent.trans (Ent.take del0 Ent.refl) (sl_of_lit (t := tyDev) (m := 2) [X13, X17] rfl rfl rfl (by decide))) ?_
          refine RJ_ent (fun h hh => rs_nil (RP := DevP X7) h hh) ?_
          refine RJ_ent (Ent.trans (Ent.take del0 (Ent.take del2 Ent.refl)) (Rs_push (x := o28) (g := X13) (fun _ _ => Dup_DevP))) ?_
          refine RJ_ent (Ent.trans (Ent.take del0 (Ent.take del2 Ent.refl)) (Rs_push (x := o30) (g := X17) (fun _ _ => Dup_DevP))) ?_
          refine RJ_ent (Ent.takeC (A' := Rs (DevP X7) ([o28, o30] : List Dvc) ([X13, X17])) del0 rfl Ent.refl) ?_
          obtain ⟨r33, hr34, h⟩ := bind_e h
          refine RJ_op rfl (O_call (L_block_Concat (Reads.sl _ _ _) hr34) rfl Try.call41 (Dels.cons del3 (Dels.cons del0 (Dels.cons del2 Dels.nil))) rfl (fun X35 _ => ?_))
          refine RJ_op rfl (OJ_P (P_assign rfl) rfl ?_)
          refine RJ_nil ?_
          refine QJ_ent (Ent.take del2 (Ent.take del2 (Ent.drop (Ent.drop (Ent.drop (Ent.drop (Ent.drop (Ent.drop (Ent.drop Ent.refl))))))))) ?_
          refine QJ_then ?_
          refine CJ_seq ?_
          refine CJ_seq ?_
          refine CJ_region ?_
          refine RJ_op rfl (OJ_P (P_move rfl) rfl ?_)
          refine RJ_op rfl (OJ_P (P_eqlIfN rfl rfl Try.underlying93) rfl ?_)
          refine RJ_nil ?_
          refine QJ_then ?_
          refine CJ_condF rfl rfl ?_
          refine CJ_skip ?_
          refine QJ_then ?_
          refine CJ_seq ?_
          refine CJ_region ?_
          refine RJ_op rfl (OJ_P (P_move rfl) rfl ?_)
          refine RJ_pure (fun h hh => DevP_dep h (stars_perm (del1 (A := DevP X7 r33 X35)).out h hh)) (fun hdp37 => ?_)
          obtain ⟨r38, hr39, h⟩ := bind_e h
          refine RJ_op rfl (O_callI rfl (dev_Read hr39 hdp37) rfl (Dels.cons del1 (Dels.cons del0 Dels.nil)) rfl (fun _ _ => ?_))
          refine RJ_op rfl (OJ_P (P_move rfl) rfl ?_)
          refine RJ_op rfl (OJ_P (P_extract rfl rfl) rfl ?_)
          refine RJ_op rfl (OJ_P (P_extract rfl rfl) rfl ?_)
          refine RJ_op rfl (OJ_P (P_assign rfl) rfl ?_)
          refine RJ_op rfl (OJ_P (P_assign rfl) rfl ?_)
          refine RJ_nil ?_
          refine QJ_then ?_
          refine CJ_seq ?_
          refine CJ_region ?_
          refine RJ_op rfl (OJ_P (P_move rfl) rfl ?_)
          refine RJ_pure (fun h hh => DevP_dep h (stars_perm (del0 (A := DevP X7 r33 X35)).out h hh)) (fun hdp40 => ?_)
          obtain ⟨r41, hr42, h⟩ := bind_e h
          refine RJ_op rfl (O_callI rfl (dev_Size hr42 hdp40) rfl (Dels.cons del0 (Dels.cons del0 Dels.nil)) rfl (fun _ _ => ?_))
          refine RJ_op rfl (OJ_P (P_eql (a := r41) (b := (4 : Int)) rfl rfl) rfl ?_)
          refine RJ_op rfl (OJ_P (P_move rfl) rfl ?_)
          refine RJ_mbT rfl rfl rfl (fun hG43 => have hP44 : (r41 = (4 : Int)) := (bT_dec).1 hG43; VJ_P (P_move rfl)) ?_
          refine RJ_mbT rfl rfl rfl (fun hG45 => have hP46 : (r41 = (4 : Int)) := (bT_dec).1 hG45; VJ_P (P_eql (a := r38.2) (b := (0 : Int)) (mbx hG45 rfl) rfl)) ?_
          refine RJ_op rfl (OJ_P (P_pickAnd rfl (fun hh => mbx hh rfl) rfl) rfl ?_)
          refine RJ_op rfl (OJ_P (P_move rfl) rfl ?_)
          refine RJ_mbT rfl rfl rfl (fun hG47 => have hP48 : ((r41 = (4 : Int)) ∧ (r38.2 = (0 : Int))) := ((bT_and bT_dec bT_dec)).1 hG47; VJ_P (P_move rfl)) ?_
          refine RJ_mbT rfl rfl rfl (fun hG49 => have hP50 : ((r41 = (4 : Int)) ∧ (r38.2 = (0 : Int))) := ((bT_and bT_dec bT_dec)).1 hG49; VJ_P (P_eq_u64 (a := r38.1) (b := (4 : UInt64)) (mbx hG49 rfl) rfl)) ?_
          refine RJ_op rfl (OJ_P (P_pickAnd rfl (fun hh => mbx hh rfl) rfl) rfl ?_)
          refine RJ_op rfl (OJ_P (P_assign rfl) rfl ?_)
          refine RJ_nil ?_
          refine QJ_then ?_
          refine CJ_ret ?_
          have hE := Option.some.inj h
          subst hE
          refine QJ_end (res1 Try.results27 rfl) ?_
          refine CSpec.close () ?_ ?_ (Ent.drop (Ent.drop Ent.refl))
          · rfl
          · trivial

end Go.Proofs
