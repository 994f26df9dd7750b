/- ParityvolReturns, part 6 of the proof: CTrack, LPv5, LTrk, LTAll, LOwnC, LOwn. -/
import Derived.WalkKit
import Derived.Orders
import Derived.RangeFuncLeaves
import Derived.RangeFuncCalls
import Derived.TacticsIn
import Derived.Handy
import Derived.OrdersHeld
import Derived.OrdersIn
import Derived.Below
import Derived.OpenShut
import Derived.Deep.Slices
import Derived.Scope
import Derived.KernelRfl
import Derived.RangeFuncRecord
import Derived.ChangeKeysEq
import Derived.ProofKit
import Derived.ShutString
import Derived.ChangeOld
import Derived.Test.YtmoiepdpckpolaaGreatChecked
import Derived.Test.YtmoiepdpckpolaaGreatRows
import Derived.Test.YtmoiepdpckpolaaGreatZParityvolReturns5
set_option linter.unusedSimpArgs false
set_option maxRecDepth 20000
namespace Go.Proofs
open Go.VG
theorem CTrack_bs_43_1_0 (v0 : Int) : BuildsSlice Tryz.prog 43 1 [(0, .int .u64 v0)] 44 [.int .u64 v0] := fun w => by kernel_rfl
theorem CTrack_bld_56_ : ∀ w, (Instr.build 56 (#[] : Array (Nat × Value))).run Tryz.prog w = .ok (.agg #[.slice none 0 0]) w := fun w => by kernel_rfl
theorem CTrack_bld_151_0_1_2 (v0 : (Option Addr)) (v1 : Nat) (v2 : Nat) (v3 : Bool) (v4 : Int) : ∀ w, (Instr.build 151 (#[(0, .slice v0 v1 v2), (1, .bool v3), (2, .int .u64 v4)] : Array (Nat × Value))).run Tryz.prog w = .ok (.agg #[.slice v0 v1 v2, .bool v3, .int .u64 v4]) w := fun w => by kernel_rfl
theorem CTrack_bs_54_1_0 (v0 : (Option Addr)) (v1 : Nat) (v2 : Nat) (v3 : Bool) (v4 : Int) : BuildsSlice Tryz.prog 54 1 [(0, .agg #[.slice v0 v1 v2, .bool v3, .int .u64 v4])] 151 [.slice v0 v1 v2, .bool v3, .int .u64 v4] := fun w => by kernel_rfl
structure SecH where
  some : Sl3
  known : Bool
  value : UInt64
structure Sec where
  some : List UInt64
  known : Bool
  value : UInt64
abbrev sH0 : SecH := ⟨⟨none, 0, 0⟩, false, 0⟩
abbrev s0 : Sec := ⟨[], false, 0⟩
abbrev tySec : Ty SecH := { T := 151, sz := 3, enc := fun x => [x.some.v, .bool x.known, .int .u64 (x.value.toNat : Int)], dflt := sH0, len := fun _ => rfl, one := fun _ => rfl, pos := by decide }
theorem ok_tySec : ElemOk Tryz.prog tySec 40 := ⟨Tryz.t151, .agg #[.slice none 0 0, .bool false, .int .u64 0], by kernel_rfl, rfl, rfl, rfl, rfl⟩
abbrev SL := List (SecH × Sec)
def ownS (p : SecH × Sec) : HP := sl tyU p.1.some.v p.2.some
abbrev SL.hs (l : SL) : List SecH := l.map Prod.fst
structure SOk (l : SL) (t : List Sec) : Prop where
  ds : l.map Prod.snd = t
  ag : ∀ p ∈ l, p.1.known = p.2.known ∧ p.1.value = p.2.value
  cnt : t.length ≤ 65536
theorem SOk.len {l : SL} {t : List Sec} (h : SOk l t) : (SL.hs l).length = t.length := by rw [← h.ds]; simp
theorem SOk.at {l : SL} {t : List Sec} (h : SOk l t) {i : Nat} (hi : i < t.length) : ((SL.hs l).getD i sH0).known = (t.getD i s0).known ∧ ((SL.hs l).getD i sH0).value = (t.getD i s0).value := by
  have hi' : i < l.length := by rw [← h.ds] at hi; simpa using hi
  rw [← h.ds]
  show ((l.map Prod.fst).getD i (Prod.fst (sH0, s0))).known = ((l.map Prod.snd).getD i (Prod.snd (sH0, s0))).known ∧ ((l.map Prod.fst).getD i (Prod.fst (sH0, s0))).value = ((l.map Prod.snd).getD i (Prod.snd (sH0, s0))).value
  rw [getD_map, getD_map]
  have : l.getD i (sH0, s0) = l[i] := by simp [List.getD, hi']
  rw [this]
  exact h.ag _ (List.getElem_mem hi')
theorem SOk.set {l : SL} {t : List Sec} (h : SOk l t) (i : Nat) (x : SecH × Sec) (hx : x.1.known = x.2.known ∧ x.1.value = x.2.value) : SOk (l.set i x) (t.set i x.2) where
  ds := by rw [List.map_set, h.ds]
  ag := fun p hp => by
    rcases List.mem_or_eq_of_mem_set hp with hp | rfl
    · exact h.ag p hp
    · exact hx
  cnt := by simpa using h.cnt
def Trk (b : Nat) (t : List Sec) : HP := ex fun c : Sl3 × SL => star [pur (SOk c.2 t), blk b 56 [c.1.v], sl tySec c.1.v (SL.hs c.2), VG.Own ownS c.2]
theorem Trk_open {b : Nat} {t : List Sec} {R : List HP} : EntX (Trk b t :: R) fun c : Sl3 × SL => pur (SOk c.2 t) :: blk b 56 [c.1.v] :: sl tySec c.1.v (SL.hs c.2) :: VG.Own ownS c.2 :: R :=
  fun _ hh => let ⟨c, hc⟩ := stars_ex.1 hh; ⟨c, stars_star.1 hc⟩
theorem Trk_close {b : Nat} {t : List Sec} {sv : Sl3} {l : SL} (h : SOk l t) {R : List HP} : Ent (blk b 56 [sv.v] :: sl tySec sv.v (SL.hs l) :: VG.Own ownS l :: R) (Trk b t :: R) :=
  fun _ hh => stars_ex.2 ⟨(sv, l), stars_star.2 (stars_pur.2 ⟨h, hh⟩)⟩
theorem OwnS_open {l : SL} {t : List Sec} (h : SOk l t) (i : Nat) (hi : i < t.length) {R : List HP} : Ent (VG.Own ownS l :: R) (sl tyU ((SL.hs l).getD i sH0).some.v (t.getD i s0).some :: ORest ownS l i :: R) := by
  have hi' : i < l.length := by rw [← h.ds] at hi; simpa using hi
  have := Own_open ownS (R := R) i (sH0, s0) hi'
  rw [← h.ds]
  show Ent _ (sl tyU ((l.map Prod.fst).getD i (Prod.fst (sH0, s0))).some.v ((l.map Prod.snd).getD i (Prod.snd (sH0, s0))).some :: _)
  rw [getD_map, getD_map]; exact this
def upto {α : Type} (g : α → α) (n : Nat) (D : List α) : List α := (D.take n).map g ++ D.drop n
theorem upto_zero {α : Type} (g : α → α) (D : List α) : upto g 0 D = D := by simp [upto]
theorem upto_all {α : Type} (g : α → α) (D : List α) : upto g D.length D = D.map g := by simp [upto]
theorem upto_len {α : Type} (g : α → α) (n : Nat) (D : List α) : (upto g n D).length = D.length := by simp [upto]; omega
theorem upto_at {α : Type} {g : α → α} {n : Nat} {D : List α} {d : α} (hn : n < D.length) : (upto g n D).getD n d = D.getD n d := by
  have : ((D.take n).map g).length = n := by simp; omega
  simp only [upto, List.getD]
  rw [List.getElem?_append_right (by omega), this]; simp
theorem upto_step {α : Type} {g : α → α} {n : Nat} {D : List α} {d : α} (hn : n < D.length) : (upto g n D).set n (g (D.getD n d)) = upto g (n + 1) D := by
  have h1 : ((D.take n).map g).length = n := by simp; omega
  simp only [upto]
  rw [List.set_append, if_neg (by omega), h1, Nat.sub_self, List.drop_eq_getElem_cons hn, List.set_cons_zero, List.take_succ_eq_append_getElem hn, List.map_append, List.append_assoc, show D.getD n d = D[n] by simp [List.getD, hn]]
  rfl
theorem Own_same {l : SL} {t : List Sec} (h : SOk l t) {i : Nat} {x : SecH × Sec} (h1 : x.1.some = ((SL.hs l).getD i sH0).some) (h2 : x.2.some = (t.getD i s0).some) : VG.Own ownS (l.set i x) = VG.Own ownS l := by
  unfold VG.Own
  have e : (l.set i x).map ownS = l.map ownS := by
    apply List.ext_getElem?
    intro j
    simp only [List.getElem?_map, List.getElem?_set]
    by_cases h3 : i = j
    · subst h3
      by_cases h4 : i < l.length
      · rw [← h.ds] at h2
        have a1 : ((l.map Prod.fst).getD i (Prod.fst (sH0, s0))) = (l.getD i (sH0, s0)).1 := getD_map Prod.fst l i (sH0, s0)
        have a2 : ((l.map Prod.snd).getD i (Prod.snd (sH0, s0))) = (l.getD i (sH0, s0)).2 := getD_map Prod.snd l i (sH0, s0)
        have a3 : l.getD i (sH0, s0) = l[i] := by simp [List.getD, h4]
        have b1 : x.1.some = l[i].1.some := h1.trans (by rw [← a3, ← a1])
        have b2 : x.2.some = l[i].2.some := h2.trans (by rw [← a3, ← a2])
        simp [h4, ownS, b1, b2]
      · simp [h4]
    · simp [h3]
  rw [e]
def failX (x : Sec) : Sec := { x with known := false }
def flushX (x : Sec) : Sec := if x.known = true then { x with some := [x.value] } else x
def wroteT (t : List Sec) (d : Int) (v : UInt64) (ok : Bool) : List Sec := if 0 ≤ d ∧ d < t.length then t.set d.toNat ⟨(t.getD d.toNat s0).some ++ [v], ok, v⟩ else t
def flushedT (t : List Sec) : List Sec := t.map flushX
def failedT (t : List Sec) : List Sec := t.map failX
theorem set3 {l : List SecH} {i : Nat} {A B C : SecH} : ((l.set i A).set i B).set i C = l.set i C := by simp [List.set_set]
theorem getD_set1 {l : List SecH} {i : Nat} (hi : i < l.length) {A : SecH} : (l.set i A).getD i sH0 = A := by simp [List.getD, hi]
theorem wroteT_ok {t : List Sec} {i : Nat} {v : UInt64} {ok : Bool} (hi : i < t.length) : wroteT t i v ok = t.set i ⟨(t.getD i s0).some ++ [v], ok, v⟩ := if_pos ⟨Int.natCast_nonneg _, by omega⟩
theorem wroteT_no {t : List Sec} {d : Int} {v : UInt64} {ok : Bool} (h : ¬ (0 ≤ d ∧ d < t.length)) : wroteT t d v ok = t := if_neg h
theorem upto_skip {α : Type} {g : α → α} {n : Nat} {D : List α} {d : α} (hn : n < D.length) (h : g (D.getD n d) = D.getD n d) : upto g n D = upto g (n + 1) D := by
  rw [← upto_step (d := d) hn, h, ← upto_at (g := g) (n := n) (D := D) (d := d) hn]
  have hl := upto_len g n D
  apply List.ext_getElem?
  intro j
  simp only [List.getElem?_set]
  split
  · rename_i h1; subst h1
    have : n < (upto g n D).length := by omega
    rw [if_pos this, List.getElem?_eq_getElem this]; simp [List.getD, this]
  · rfl
theorem flushX_t {x : Sec} (h : x.known = true) : flushX x = { x with some := [x.value] } := if_pos h
theorem flushX_f {x : Sec} (h : x.known = false) : flushX x = x := if_neg (by simp [h])
def rdTS (t : List Sec) (d : Int) (v : UInt64) (q : Bool) : List Sec := if 0 ≤ d ∧ d < t.length then (if (t.getD d.toNat s0).known = true then t else t.set d.toNat ⟨if q = true then [v] else (t.getD d.toNat s0).some, true, v⟩) else t
def rdTR (t : List Sec) (d : Int) (v : UInt64) : Bool := if 0 ≤ d ∧ d < t.length then (if (t.getD d.toNat s0).known = true then decide (v = (t.getD d.toNat s0).value) else (t.getD d.toNat s0).some.any (fun u => decide (u = v))) else false
theorem any_step {xs : List UInt64} {k : Nat} {v : UInt64} (hk : k < xs.length) : (xs.take (k + 1)).any (fun u => decide (u = v)) = ((xs.take k).any (fun u => decide (u = v)) || decide (xs.getD k 0 = v)) := by
  rw [List.take_succ_eq_append_getElem hk, List.any_append]; simp [List.getD, hk]
theorem decU {a b : UInt64} : decide ((a.toNat : Int) = (b.toNat : Int)) = decide (a = b) := decide_eq_decide.2 ⟨fun h => UInt64.toNat_inj.1 (by omega), fun h => by rw [h]⟩
def mkSec (x : UInt64) : Sec := ⟨[x], true, x⟩
def trkT (xs : List UInt64) : List Sec := xs.map mkSec
theorem SL.snoc (l : SL) (x : SecH × Sec) : SL.hs (l ++ [x]) = SL.hs l ++ [x.1] := by simp [SL.hs]
theorem SOk.push {l : SL} {t : List Sec} (h : SOk l t) (x : SecH × Sec) (hx : x.1.known = x.2.known ∧ x.1.value = x.2.value) (hc : t.length + 1 ≤ 65536) : SOk (l ++ [x]) (t ++ [x.2]) where
  ds := by rw [List.map_append, h.ds]; rfl
  ag := fun p hp => by
    rcases List.mem_append.1 hp with hp | hp
    · exact h.ag p hp
    · simp at hp; subst hp; exact hx
  cnt := by simpa using hc
theorem takeU (xs : List UInt64) (k : Nat) (h : k < xs.length) : trkT (xs.take (k + 1)) = trkT (xs.take k) ++ [mkSec (xs.getD k 0)] := by
  rw [List.take_succ_eq_append_getElem h, trkT, trkT, List.map_append]; simp [List.getD, h]
theorem c_Failed {W : World} {b : Nat} {t : List Sec} :
    CSpec Tryz.prog W 91 [ptr b 0] [Trk b t] (fun _ : Unit => .tuple #[]) (fun _ => True) (fun _ F => Trk b (failedT t) :: F) := by
 refine CSpec.of_body Tryz.func91 rfl Tryz.ntmps91 rfl fun F => ?_
 show CJ _ _ _ _ _ _ (_ :: F)
 refine CJ_entX (Ent.transX (t0_ eR) Trk_open) fun ⟨sv, l⟩ => CJ_pur fun hX => ?_
 have hl : SOk l t := hX
 have hn := hl.len
 have hcn := hl.cnt
 show CJ _ _ _ _ _ _ (blk b 56 [Sl3.v sv] :: sl tySec (Sl3.v sv) (SL.hs l) :: VG.Own ownS l :: _)
 refine sR <| oA rfl rfl <| nT <| CJ_block <| CJ_loopR (X := Nat × SL) [2, 3, 4, 5, 6, 7, 8, 9, 10, 11, 12, 13, 14, 15, 16, 17, 18] (fun ⟨i, l1⟩  => ([(2, .int .i64 (i : Nat))] : Slots)) (fun ⟨i, l1⟩ R => sl tySec (Sl3.v sv) (SL.hs l1) :: VG.Own ownS l1 :: R) (fun ⟨i, l1⟩  => i ≤ t.length ∧ SOk l1 (upto failX i t)) (fun ⟨i, l1⟩  => t.length - i) ⟨0, l⟩ ?_ ?_ (t1_ (t1_ (t0_ eR))) ?_
 ·
  refine ⟨Nat.zero_le _, ?_⟩
  rw [upto_zero]; exact hl
 · exact ⟨rfl, True.intro⟩
 ·
  rintro ⟨i, l1⟩ ⟨hi, h1⟩
  show CJ _ _ _ _ _ (([(2, .int .i64 (i : Nat))] : Slots) ++ forget _ _) (sl tySec (Sl3.v sv) (SL.hs l1) :: VG.Own ownS l1 :: _)
  have hn1 := h1.len
  have hul := upto_len failX i t
  refine CJ_seq <| sR <| oM rfl rfl <| oM rfl rfl <| oP (P_nilCheck rfl) rfl <| oP (P_fieldAddr rfl ⟨_, _, _, Tryz.runUnderlying56, rfl, rfl, Tryz.sizeOf54, rfl⟩) rfl <| oV (V_load rfl foc2 rfl Tryz.isAgg54) rfl <| oV (V_len rfl foc0 (Reads.sl _ _ _) Tryz.runUnderlying54) rfl <| oP (P_lss rfl rfl) rfl <| nT ?_
  first | (refine CJ_condD rfl (fun hg1 => ?_) (fun hg1 => ?_)) | (refine CJ_condN rfl (fun hg1 => ?_) (fun hg1 => ?_)) | (refine CJ_cond rfl (fun hg1 => ?_) (fun hg1 => ?_))
  ·
   refine kT <| CJ_seq <| CJ_block <| CJ_region <| oM rfl rfl <| oP (P_nilCheck rfl) rfl <| oP (P_fieldAddr rfl ⟨_, _, _, Tryz.runUnderlying56, rfl, rfl, Tryz.sizeOf54, rfl⟩) rfl <| oV (V_load rfl foc2 rfl Tryz.isAgg54) rfl <| oM rfl rfl ?_
   first | (refine RJ_op rfl (OJ_V (V_index rfl rfl rfl (by omega) foc0 (Reads.sl _ _ _) Tryz.runUnderlying54 Tryz.sizeOf151) rfl ?_)) | (refine RJ_op rfl (OJ_V (V_index rfl rfl (Int.toNat_of_nonneg (by omega)).symm (by omega) foc0 (Reads.sl _ _ _) Tryz.runUnderlying54 Tryz.sizeOf151) rfl ?_))
   refine oP (P_fieldE rfl ⟨_, _, _, Tryz.runUnderlying151, rfl, rfl, Tryz.sizeOf4, rfl⟩) rfl <| oO <| O_storeE (x' := { (SL.hs l1).getD i sH0 with known := false }) rfl rfl rfl (by omega) foc0 rfl rfl rfl Tryz.sizeOf4 <| RJ_nil <| QJ_block_normal <| QJ_then <| CJ_region <| oM rfl rfl <| oP (P_add rfl rfl (by omega)) rfl <| oA rfl rfl <| RJ_nil <| QJ_nextR ⟨i + 1, l1.set i ({ (SL.hs l1).getD i sH0 with known := false }, failX ((upto failX i t).getD i s0))⟩ (by first | omega | (simp only []; omega)) ?_ (by repeat (first | exact Kp.base | exact Kp.self | refine Kp.cons rfl ?_ | refine Kp.forget rfl ?_)) ?_ (Ent.takeC del0 (congrArg (sl tySec _) (by simp only [SL.hs, List.map_set])) (Ent.takeC del0 (Own_same h1 rfl rfl).symm (t0_ eR)))
   ·
    refine ⟨by omega, ?_⟩
    rw [← upto_step (d := s0) (by omega), ← upto_at (g := failX) (n := i) (D := t) (d := s0) (by omega)]
    exact h1.set i ({ (SL.hs l1).getD i sH0 with known := false }, failX ((upto failX i t).getD i s0)) ⟨rfl, (h1.at (by omega)).2⟩
   · exact ⟨rfl, True.intro⟩
  ·
   refine CJ_exit <| QJ_then_exit <| QJ_round_exit <| QJ_block_here <| QJ_endN (res0 Tryz.results91) ?_
   obtain rfl : i = t.length := by omega
   rw [upto_all] at h1
   refine CSpec.close () ?_ ?_ (Ent.trans (Ent.trans (t2_ (t0_ (t0_ eR))) (Trk_close h1)) (t0_ eR))
   · rfl
   · trivial
theorem c_Wrote {W : World} {b : Nat} {t : List Sec} {d : Int} {v : UInt64} {o : Bool} (hs1 : ∀ i, (t.getD i s0).some.length ≤ 100000) :
    CSpec Tryz.prog W 96 [ptr b 0, .int .i64 d, .int .u64 (v.toNat : Int), .bool o] [Trk b t] (fun _ : Unit => .tuple #[]) (fun _ => True) (fun _ F => Trk b (wroteT t d v o) :: F) := by
 refine CSpec.of_body Tryz.func96 rfl Tryz.ntmps96 rfl fun F => ?_
 show CJ _ _ _ _ _ _ (_ :: F)
 refine CJ_entX (Ent.transX (t0_ eR) Trk_open) fun ⟨sv, l⟩ => CJ_pur fun hX => ?_
 have hl : SOk l t := hX
 have hn := hl.len
 have hcn := hl.cnt
 show CJ _ _ _ _ _ _ (blk b 56 [Sl3.v sv] :: sl tySec (Sl3.v sv) (SL.hs l) :: VG.Own ownS l :: _)
 refine CJ_seq <| sR <| oM rfl rfl <| oP (P_lss rfl rfl) rfl <| oM rfl rfl ?_
 first | (refine RJ_splitD 11 rfl (fun hg1B hg1 => ?_) (fun hg1B hg1 => ?_)) | (refine RJ_splitN 11 rfl (fun hg1B hg1 => ?_) (fun hg1B hg1 => ?_)) | (refine RJ_split 11 rfl (fun hg1B => ?_) (fun hg1B => ?_))
 ·
  refine RJ_gn (GY_no rfl rfl rfl hg1B) rfl rfl <| RJ_gn (GY_no rfl rfl rfl hg1B) rfl rfl <| RJ_gn (GY_no rfl rfl rfl hg1B) rfl rfl <| RJ_gn (GY_no rfl rfl rfl hg1B) rfl rfl <| RJ_gn (GY_no rfl rfl rfl hg1B) rfl rfl <| RJ_gn (GY_no rfl rfl rfl hg1B) rfl rfl <| RJ_gn (GY_no rfl rfl rfl hg1B) rfl rfl <| oP (P_pickT rfl hg1B rfl) rfl <| nT <| CJ_condT rfl rfl <| CJ_ret <| QJ_then_ret <| QJ_end (res0 Tryz.results96) ?_
  rw [wroteT_no (by omega)]
  refine CSpec.close () ?_ ?_ (Ent.trans (Ent.trans (t0_ (t0_ (t0_ eR))) (Trk_close hl)) (t0_ eR))
  · rfl
  · trivial
 ·
  refine gP (GY_yes rfl rfl rfl hg1B) (P_move rfl) rfl <| gP (GY_yes rfl rfl rfl hg1B) (P_move rfl) rfl <| gP (GY_yes rfl rfl rfl hg1B) (P_nilCheck rfl) rfl <| gP (GY_yes rfl rfl rfl hg1B) (P_fieldAddr rfl ⟨_, _, _, Tryz.runUnderlying56, rfl, rfl, Tryz.sizeOf54, rfl⟩) rfl <| gV (GY_yes rfl rfl rfl hg1B) (V_load rfl foc0 rfl Tryz.isAgg54) rfl <| gV (GY_yes rfl rfl rfl hg1B) (V_len rfl foc1 (Reads.sl _ _ _) Tryz.runUnderlying54) rfl <| gP (GY_yes rfl rfl rfl hg1B) (P_geq rfl rfl) rfl <| oP (P_pickF rfl hg1B rfl) rfl <| nT ?_
  first | (refine CJ_condD rfl (fun hg2 => ?_) (fun hg2 => ?_)) | (refine CJ_condN rfl (fun hg2 => ?_) (fun hg2 => ?_)) | (refine CJ_cond rfl (fun hg2 => ?_) (fun hg2 => ?_))
  ·
   refine CJ_ret <| QJ_then_ret <| QJ_end (res0 Tryz.results96) ?_
   rw [wroteT_no (by omega)]
   refine CSpec.close () ?_ ?_ (Ent.trans (Ent.trans (t0_ (t0_ (t0_ eR))) (Trk_close hl)) (t0_ eR))
   · rfl
   · trivial
  ·
   obtain ⟨i, rfl⟩ := Int.eq_ofNat_of_zero_le (show 0 ≤ d by omega)
   have hi : i < t.length := by omega
   have hil : i < (SL.hs l).length := by omega
   have hsi := hs1 i
   refine kT <| CJ_seq <| CJ_ent (Ent.trans (t2_ eR) (OwnS_open hl i (by omega))) <| CJ_region <| oM rfl rfl <| oP (P_nilCheck rfl) rfl <| oP (P_fieldAddr rfl ⟨_, _, _, Tryz.runUnderlying56, rfl, rfl, Tryz.sizeOf54, rfl⟩) rfl <| oV (V_load rfl foc2 rfl Tryz.isAgg54) rfl <| oM rfl rfl ?_
   first | (refine RJ_op rfl (OJ_V (V_index rfl rfl rfl (by first | omega | (simp only [List.length_set]; omega)) foc3 (Reads.sl _ _ _) Tryz.runUnderlying54 Tryz.sizeOf151) rfl ?_)) | (refine RJ_op rfl (OJ_V (V_index rfl rfl (Int.toNat_of_nonneg (by first | omega | (simp only [List.length_set]; omega))).symm (by first | omega | (simp only [List.length_set]; omega)) foc3 (Reads.sl _ _ _) Tryz.runUnderlying54 Tryz.sizeOf151) rfl ?_))
   refine oA rfl rfl <| nT <| sR <| oM rfl rfl <| oM rfl rfl <| oP (P_nilCheckE rfl) rfl <| oP (P_fieldE rfl ⟨_, _, _, Tryz.runUnderlying151, rfl, rfl, Tryz.sizeOf43, rfl⟩) rfl <| oV (V_loadE rfl rfl (by first | omega | (simp only [List.length_set]; omega)) foc3 (Reads.sl _ _ _) rfl rfl Tryz.isAgg43) rfl <| RJ_ent (fun h hh => sl_nil (t := tyU) h hh) <| oO <| O_append (t := tyU) (bytes := 8) rfl rfl del0 foc0 (Reads.sl _ _ _) Tryz.underlying43 ok_tyU (by simp only [List.length_append, List.length_cons, List.length_nil, maxLen] at *; omega) (by simp only [List.length_append, List.length_cons, List.length_nil, maxLen] at *; omega) rfl fun p3 c4 => oM rfl rfl <| oO <| O_buildSlice rfl (CTrack_bs_43_1_0 _) rfl fun b5 => oO <| O_append (t := tyU) (bytes := 8) rfl rfl del1 foc0 (Reads.lit (t := tyU) (ys := [v]) rfl rfl (by decide) (by decide) rfl) Tryz.underlying43 ok_tyU (by simp only [List.length_append, List.length_cons, List.length_nil, maxLen] at *; omega) (by simp only [List.length_append, List.length_cons, List.length_nil, maxLen] at *; omega) rfl fun p6 c7 => oP (P_nilCheckE rfl) rfl <| oP (P_fieldE rfl ⟨_, _, _, Tryz.runUnderlying151, rfl, rfl, Tryz.sizeOf43, rfl⟩) rfl <| oO <| O_storeE (x' := ⟨⟨p6, _, c7⟩, ((SL.hs l).getD i sH0).known, ((SL.hs l).getD i sH0).value⟩) rfl rfl rfl (by first | omega | (simp only [List.length_set]; omega)) foc5 rfl rfl rfl Tryz.sizeOf43 <| nT <| CJ_region <| oM rfl rfl <| oM rfl rfl <| oM rfl rfl <| oM rfl rfl <| oP (P_nilCheckE rfl) rfl ?_
   refine oP (P_fieldE rfl ⟨_, _, _, Tryz.runUnderlying151, rfl, rfl, Tryz.sizeOf4, rfl⟩) rfl <| oO <| O_storeE (x' := ⟨⟨p6, _, c7⟩, o, ((SL.hs l).getD i sH0).value⟩) rfl rfl rfl (by first | omega | (simp only [List.length_set]; omega)) foc5 rfl rfl (by rw [show List.getD _ _ tySec.dflt = _ from getD_set1 hil]; rfl) Tryz.sizeOf4 <| oP (P_nilCheckE rfl) rfl <| oP (P_fieldE rfl ⟨_, _, _, Tryz.runUnderlying151, rfl, rfl, Tryz.sizeOf44, rfl⟩) rfl <| oO <| O_storeE (x' := ⟨⟨p6, _, c7⟩, o, v⟩) rfl rfl rfl (by first | omega | (simp only [List.length_set]; omega)) foc5 rfl rfl (by rw [show List.getD _ _ tySec.dflt = _ from getD_set1 (by simpa using hil)]; rfl) Tryz.sizeOf44 <| RJ_nil <| QJ_endN (res0 Tryz.results96) ?_
   rw [wroteT_ok (by omega)]
   refine CSpec.close () ?_ ?_ (Ent.trans (Ent.trans (Ent.takeC del0 (show _ = ownS ((⟨⟨p6, _, c7⟩, o, v⟩ : SecH), (⟨(t.getD i s0).some ++ [v], o, v⟩ : Sec)) from rfl) (t2_ eR)) (Own_close ownS ((⟨⟨p6, _, c7⟩, o, v⟩ : SecH), (⟨(t.getD i s0).some ++ [v], o, v⟩ : Sec)) (by have := hl.len; simp at this; omega))) (Ent.trans (Ent.trans (t3_ (Ent.takeC del3 (congrArg (sl tySec _) (by rw [set3]; simp only [SL.hs, List.map_set])) (t0_ eR))) (Trk_close (hl.set i ((⟨⟨p6, _, c7⟩, o, v⟩ : SecH), (⟨(t.getD i s0).some ++ [v], o, v⟩ : Sec)) ⟨rfl, rfl⟩))) (t0_ (eD (eD eR)))))
   · rfl
   · trivial
theorem c_Flushed {W : World} {b : Nat} {t : List Sec} :
    CSpec Tryz.prog W 51 [ptr b 0] [Trk b t] (fun _ : Unit => .tuple #[]) (fun _ => True) (fun _ F => Trk b (flushedT t) :: F) := by
 refine CSpec.of_body Tryz.func51 rfl Tryz.ntmps51 rfl fun F => ?_
 show CJ _ _ _ _ _ _ (_ :: F)
 refine CJ_entX (Ent.transX (t0_ eR) Trk_open) fun ⟨sv, l⟩ => CJ_pur fun hX => ?_
 have hl : SOk l t := hX
 have hn := hl.len
 have hcn := hl.cnt
 show CJ _ _ _ _ _ _ (blk b 56 [Sl3.v sv] :: sl tySec (Sl3.v sv) (SL.hs l) :: VG.Own ownS l :: _)
 refine sR <| oA rfl rfl <| nT <| CJ_block <| CJ_loopR (X := Nat × SL) [2, 3, 4, 5, 6, 7, 8, 9, 10, 11, 12, 13, 14, 15, 16, 17, 18, 19, 20, 21, 22, 23, 24, 25, 26, 27, 28, 29, 30] (fun ⟨i, l1⟩  => ([(2, .int .i64 (i : Nat))] : Slots)) (fun ⟨i, l1⟩ R => sl tySec (Sl3.v sv) (SL.hs l1) :: VG.Own ownS l1 :: R) (fun ⟨i, l1⟩  => i ≤ t.length ∧ SOk l1 (upto flushX i t)) (fun ⟨i, l1⟩  => t.length - i) ⟨0, l⟩ ?_ ?_ (t1_ (t1_ (t0_ eR))) ?_
 ·
  refine ⟨Nat.zero_le _, ?_⟩
  rw [upto_zero]; exact hl
 · exact ⟨rfl, True.intro⟩
 ·
  rintro ⟨i, l1⟩ ⟨hi, h1⟩
  show CJ _ _ _ _ _ (([(2, .int .i64 (i : Nat))] : Slots) ++ forget _ _) (sl tySec (Sl3.v sv) (SL.hs l1) :: VG.Own ownS l1 :: _)
  have hn1 := h1.len
  have hul := upto_len flushX i t
  refine CJ_seq <| sR <| oM rfl rfl <| oM rfl rfl <| oP (P_nilCheck rfl) rfl <| oP (P_fieldAddr rfl ⟨_, _, _, Tryz.runUnderlying56, rfl, rfl, Tryz.sizeOf54, rfl⟩) rfl <| oV (V_load rfl foc2 rfl Tryz.isAgg54) rfl <| oV (V_len rfl foc0 (Reads.sl _ _ _) Tryz.runUnderlying54) rfl <| oP (P_lss rfl rfl) rfl <| nT ?_
  first | (refine CJ_condD rfl (fun hg1 => ?_) (fun hg1 => ?_)) | (refine CJ_condN rfl (fun hg1 => ?_) (fun hg1 => ?_)) | (refine CJ_cond rfl (fun hg1 => ?_) (fun hg1 => ?_))
  ·
   refine kT <| CJ_seq <| CJ_block <| sR <| oM rfl rfl <| oP (P_nilCheck rfl) rfl <| oP (P_fieldAddr rfl ⟨_, _, _, Tryz.runUnderlying56, rfl, rfl, Tryz.sizeOf54, rfl⟩) rfl <| oV (V_load rfl foc2 rfl Tryz.isAgg54) rfl <| oM rfl rfl ?_
   first | (refine RJ_op rfl (OJ_V (V_index rfl rfl rfl (by omega) foc0 (Reads.sl _ _ _) Tryz.runUnderlying54 Tryz.sizeOf151) rfl ?_)) | (refine RJ_op rfl (OJ_V (V_index rfl rfl (Int.toNat_of_nonneg (by omega)).symm (by omega) foc0 (Reads.sl _ _ _) Tryz.runUnderlying54 Tryz.sizeOf151) rfl ?_))
   refine oA rfl rfl <| nT <| sR <| oM rfl rfl <| oP (P_nilCheckE rfl) rfl <| oP (P_fieldE rfl ⟨_, _, _, Tryz.runUnderlying151, rfl, rfl, Tryz.sizeOf4, rfl⟩) rfl <| oV (V_loadE rfl rfl (by omega) foc0 (Reads.sl _ _ _) rfl rfl Tryz.isAgg4) rfl <| nT ?_
   first | (refine CJ_condD rfl (fun hg2 => ?_) (fun hg2 => ?_)) | (refine CJ_condN rfl (fun hg2 => ?_) (fun hg2 => ?_)) | (refine CJ_cond rfl (fun hg2 => ?_) (fun hg2 => ?_))
   ·
    have hkn : ((upto flushX i t).getD i s0).known = true := by rw [← (h1.at (by omega)).1]; assumption
    refine CJ_ent (Ent.trans (t1_ eR) (OwnS_open h1 i (by omega))) <| CJ_region <| oM rfl rfl <| oM rfl rfl <| oP (P_nilCheckE rfl) rfl <| oP (P_fieldE rfl ⟨_, _, _, Tryz.runUnderlying151, rfl, rfl, Tryz.sizeOf44, rfl⟩) rfl <| oV (V_loadE rfl rfl (by omega) foc2 (Reads.sl _ _ _) rfl rfl Tryz.isAgg44) rfl <| oO <| O_buildSlice rfl (CTrack_bs_43_1_0 _) rfl fun b1 => RJ_ent (Ent.trans (t0_ eR) (sl_of_lit (t := tyU) (m := 1) [((SL.hs l1).getD i sH0).value] rfl rfl rfl (by decide))) <| oP (P_nilCheckE rfl) rfl <| oP (P_fieldE rfl ⟨_, _, _, Tryz.runUnderlying151, rfl, rfl, Tryz.sizeOf43, rfl⟩) rfl <| oO <| O_storeE (x' := { (SL.hs l1).getD i sH0 with some := ⟨some ⟨b1, 0, none⟩, 1, 1⟩ }) rfl rfl rfl (by omega) foc3 rfl rfl rfl Tryz.sizeOf43 <| RJ_nil <| QJ_block_normal <| QJ_then <| CJ_region <| oM rfl rfl <| oP (P_add rfl rfl (by omega)) rfl <| oA rfl rfl <| RJ_nil ?_
    refine QJ_nextR ⟨i + 1, l1.set i ({ (SL.hs l1).getD i sH0 with some := ⟨some ⟨b1, 0, none⟩, 1, 1⟩ }, flushX ((upto flushX i t).getD i s0))⟩ (by first | omega | (simp only []; omega)) ?_ (by repeat (first | exact Kp.base | exact Kp.self | refine Kp.cons rfl ?_ | refine Kp.forget rfl ?_)) ?_ (Ent.trans (Ent.trans (Ent.takeC del0 (show _ = sl tyU _ _ by rw [flushX_t hkn]; exact congrArg (fun z => sl tyU _ [z]) (h1.at (by omega)).2) (t1_ eR)) (Own_close ownS ({ (SL.hs l1).getD i sH0 with some := ⟨some ⟨b1, 0, none⟩, 1, 1⟩ }, flushX ((upto flushX i t).getD i s0)) (by have := h1.len; simp at this; omega))) (Ent.takeC del2 (congrArg (sl tySec _) (by simp only [SL.hs, List.map_set])) (t0_ (t1_ (eD eR)))))
    ·
     refine ⟨by omega, ?_⟩
     rw [← upto_step (d := s0) (by omega), ← upto_at (g := flushX) (n := i) (D := t) (d := s0) (by omega)]
     refine h1.set i ({ (SL.hs l1).getD i sH0 with some := ⟨some ⟨b1, 0, none⟩, 1, 1⟩ }, flushX ((upto flushX i t).getD i s0)) ?_
     rw [flushX_t hkn]; exact h1.at (by omega)
    · exact ⟨rfl, True.intro⟩
   ·
    refine CJ_skip <| QJ_block_normal <| QJ_then <| CJ_region <| oM rfl rfl <| oP (P_add rfl rfl (by omega)) rfl <| oA rfl rfl <| RJ_nil <| QJ_nextR ⟨i + 1, l1⟩ (by first | omega | (simp only []; omega)) ?_ (by repeat (first | exact Kp.base | exact Kp.self | refine Kp.cons rfl ?_ | refine Kp.forget rfl ?_)) ?_ (t0_ (t0_ (t0_ eR)))
    ·
     refine ⟨by omega, ?_⟩
     rw [← upto_skip (d := s0) (by omega) (flushX_f (by rw [← upto_at (g := flushX) (n := i) (by omega), ← (h1.at (by omega)).1]; assumption))]; exact h1
    · exact ⟨rfl, True.intro⟩
  ·
   refine CJ_exit <| QJ_then_exit <| QJ_round_exit <| QJ_block_here <| QJ_endN (res0 Tryz.results51) ?_
   obtain rfl : i = t.length := by omega
   rw [upto_all] at h1
   refine CSpec.close () ?_ ?_ (Ent.trans (Ent.trans (t2_ (t0_ (t0_ eR))) (Trk_close h1)) (t0_ eR))
   · rfl
   · trivial
theorem c_Reads {W : World} {b : Nat} {t : List Sec} {d : Int} {v : UInt64} {q : Bool} (hs1 : ∀ i, (t.getD i s0).some.length ≤ 100000) :
    CSpec Tryz.prog W 100 [ptr b 0, .int .i64 d, .int .u64 (v.toNat : Int), .bool q] [Trk b t] (fun _ : Unit => .bool (rdTR t d v)) (fun _ => True) (fun _ F => Trk b (rdTS t d v q) :: F) := by
 refine CSpec.of_body Tryz.func100 rfl Tryz.ntmps100 rfl fun F => ?_
 show CJ _ _ _ _ _ _ (_ :: F)
 refine CJ_entX (Ent.transX (t0_ eR) Trk_open) fun ⟨sv, l⟩ => CJ_pur fun hX => ?_
 have hl : SOk l t := hX
 have hn := hl.len
 have hcn := hl.cnt
 show CJ _ _ _ _ _ _ (blk b 56 [Sl3.v sv] :: sl tySec (Sl3.v sv) (SL.hs l) :: VG.Own ownS l :: _)
 refine sR <| oA rfl rfl <| nT <| CJ_seq <| sR <| oM rfl rfl <| oP (P_lss rfl rfl) rfl <| oM rfl rfl ?_
 first | (refine RJ_splitD 14 rfl (fun hg1B hg1 => ?_) (fun hg1B hg1 => ?_)) | (refine RJ_splitN 14 rfl (fun hg1B hg1 => ?_) (fun hg1B hg1 => ?_)) | (refine RJ_split 14 rfl (fun hg1B => ?_) (fun hg1B => ?_))
 ·
  refine RJ_gn (GY_no rfl rfl rfl hg1B) rfl rfl <| RJ_gn (GY_no rfl rfl rfl hg1B) rfl rfl <| RJ_gn (GY_no rfl rfl rfl hg1B) rfl rfl <| RJ_gn (GY_no rfl rfl rfl hg1B) rfl rfl <| RJ_gn (GY_no rfl rfl rfl hg1B) rfl rfl <| RJ_gn (GY_no rfl rfl rfl hg1B) rfl rfl <| RJ_gn (GY_no rfl rfl rfl hg1B) rfl rfl <| oP (P_pickT rfl hg1B rfl) rfl <| nT <| CJ_condT rfl rfl <| sR <| oA rfl rfl <| nT <| CJ_ret <| QJ_then_ret <| QJ_end (res1 Tryz.results100 rfl) ?_
  have hR : ¬ (0 ≤ d ∧ d < t.length) := by omega
  rw [rdTS, if_neg hR]
  refine CSpec.close () ?_ ?_ (Ent.trans (Ent.trans (t0_ (t0_ (t0_ eR))) (Trk_close hl)) (t0_ eR))
  · exact bv (show _ = rdTR t d v by rw [rdTR, if_neg hR])
  · trivial
 ·
  refine gP (GY_yes rfl rfl rfl hg1B) (P_move rfl) rfl <| gP (GY_yes rfl rfl rfl hg1B) (P_move rfl) rfl <| gP (GY_yes rfl rfl rfl hg1B) (P_nilCheck rfl) rfl <| gP (GY_yes rfl rfl rfl hg1B) (P_fieldAddr rfl ⟨_, _, _, Tryz.runUnderlying56, rfl, rfl, Tryz.sizeOf54, rfl⟩) rfl <| gV (GY_yes rfl rfl rfl hg1B) (V_load rfl foc0 rfl Tryz.isAgg54) rfl <| gV (GY_yes rfl rfl rfl hg1B) (V_len rfl foc1 (Reads.sl _ _ _) Tryz.runUnderlying54) rfl <| gP (GY_yes rfl rfl rfl hg1B) (P_geq rfl rfl) rfl <| oP (P_pickF rfl hg1B rfl) rfl <| nT ?_
  first | (refine CJ_condD rfl (fun hg2 => ?_) (fun hg2 => ?_)) | (refine CJ_condN rfl (fun hg2 => ?_) (fun hg2 => ?_)) | (refine CJ_cond rfl (fun hg2 => ?_) (fun hg2 => ?_))
  ·
   refine sR <| oA rfl rfl <| nT <| CJ_ret <| QJ_then_ret <| QJ_end (res1 Tryz.results100 rfl) ?_
   have hR : ¬ (0 ≤ d ∧ d < t.length) := by omega
   rw [rdTS, if_neg hR]
   refine CSpec.close () ?_ ?_ (Ent.trans (Ent.trans (t0_ (t0_ (t0_ eR))) (Trk_close hl)) (t0_ eR))
   · exact bv (show _ = rdTR t d v by rw [rdTR, if_neg hR])
   · trivial
  ·
   obtain ⟨i, rfl⟩ := Int.eq_ofNat_of_zero_le (show 0 ≤ d by omega)
   have hi : i < t.length := by omega
   have hil : i < (SL.hs l).length := by omega
   have hll : i < l.length := by simpa using hil
   have hsi := hs1 i
   have hat := hl.at hi
   have hR : 0 ≤ (i : Int) ∧ (i : Int) < t.length := ⟨by omega, by omega⟩
   refine kT <| sR <| oM rfl rfl <| oP (P_nilCheck rfl) rfl <| oP (P_fieldAddr rfl ⟨_, _, _, Tryz.runUnderlying56, rfl, rfl, Tryz.sizeOf54, rfl⟩) rfl <| oV (V_load rfl foc0 rfl Tryz.isAgg54) rfl <| oM rfl rfl ?_
   first | (refine RJ_op rfl (OJ_V (V_index rfl rfl rfl (by first | omega | (simp only [List.length_set]; omega)) foc1 (Reads.sl _ _ _) Tryz.runUnderlying54 Tryz.sizeOf151) rfl ?_)) | (refine RJ_op rfl (OJ_V (V_index rfl rfl (Int.toNat_of_nonneg (by first | omega | (simp only [List.length_set]; omega))).symm (by first | omega | (simp only [List.length_set]; omega)) foc1 (Reads.sl _ _ _) Tryz.runUnderlying54 Tryz.sizeOf151) rfl ?_))
   refine oA rfl rfl <| nT <| CJ_seq <| sR <| oM rfl rfl <| oP (P_nilCheckE rfl) rfl <| oP (P_fieldE rfl ⟨_, _, _, Tryz.runUnderlying151, rfl, rfl, Tryz.sizeOf4, rfl⟩) rfl <| oV (V_loadE rfl rfl (by first | omega | (simp only [List.length_set]; omega)) foc1 (Reads.sl _ _ _) rfl rfl Tryz.isAgg4) rfl <| nT ?_
   first | (refine CJ_condD rfl (fun hg3 => ?_) (fun hg3 => ?_)) | (refine CJ_condN rfl (fun hg3 => ?_) (fun hg3 => ?_)) | (refine CJ_cond rfl (fun hg3 => ?_) (fun hg3 => ?_))
   ·
    have hkn : (t.getD ((i : Int)).toNat s0).known = true := hat.1.symm.trans hg3
    refine sR <| oM rfl rfl <| oM rfl rfl <| oP (P_nilCheckE rfl) rfl <| oP (P_fieldE rfl ⟨_, _, _, Tryz.runUnderlying151, rfl, rfl, Tryz.sizeOf44, rfl⟩) rfl <| oV (V_loadE rfl rfl (by first | omega | (simp only [List.length_set]; omega)) foc1 (Reads.sl _ _ _) rfl rfl Tryz.isAgg44) rfl <| oP (P_eql rfl rfl) rfl <| oA rfl rfl <| nT <| CJ_ret <| QJ_then_ret <| QJ_end (res1 Tryz.results100 rfl) ?_
    rw [rdTS, if_pos hR, if_pos hkn]
    refine CSpec.close () ?_ ?_ (Ent.trans (Ent.trans (t0_ (t0_ (t0_ eR))) (Trk_close hl)) (t0_ eR))
    · exact bv (show _ = rdTR t i v by rw [rdTR, if_pos hR, if_pos hkn, hat.2]; exact decU)
    · trivial
   ·
    have hkf : ¬ (t.getD ((i : Int)).toNat s0).known = true := by
      have h9 : (t.getD i s0).known = false := hat.1.symm.trans hg3
      intro e; exact absurd (show (t.getD i s0).known = true from e) (by rw [h9]; decide)
    refine kT <| CJ_seq <| CJ_ent (Ent.trans (t2_ eR) (OwnS_open hl i (by omega))) <| CJ_region <| oA rfl rfl <| nT <| CJ_seq <| sR <| oA rfl rfl <| nT <| CJ_block <| CJ_loopR (X := Nat) [10, 11, 39, 40, 41, 42, 43, 44, 45, 46, 47, 48, 49, 50, 51, 52, 53, 54, 55, 56, 57, 58, 59] (fun k  => ([(11, .int .i64 (k : Nat)), (10, .bool (((t.getD i s0).some.take k).any (fun u => decide (u = v))))] : Slots)) (fun k R => R) (fun k  => k ≤ (t.getD i s0).some.length) (fun k  => (t.getD i s0).some.length - k) (0) ?_ ?_ (t0_ (t0_ (t0_ (t0_ eR)))) ?_
    · omega
    · exact ⟨rfl, rfl, True.intro⟩
    ·
     intro k hk
     show CJ _ _ _ _ _ (([(11, .int .i64 (k : Nat)), (10, .bool (((t.getD i s0).some.take k).any (fun u => decide (u = v))))] : Slots) ++ forget _ _) (_)
     refine CJ_seq <| sR <| oM rfl rfl <| oM rfl rfl <| oP (P_nilCheckE rfl) rfl <| oP (P_fieldE rfl ⟨_, _, _, Tryz.runUnderlying151, rfl, rfl, Tryz.sizeOf43, rfl⟩) rfl <| oV (V_loadE rfl rfl (by first | omega | (simp only [List.length_set]; omega)) foc3 (Reads.sl _ _ _) rfl rfl Tryz.isAgg43) rfl <| oV (V_len rfl foc0 (Reads.sl _ _ _) Tryz.runUnderlying43) rfl <| oP (P_lss rfl rfl) rfl <| nT ?_
     first | (refine CJ_condD rfl (fun hg4 => ?_) (fun hg4 => ?_)) | (refine CJ_condN rfl (fun hg4 => ?_) (fun hg4 => ?_)) | (refine CJ_cond rfl (fun hg4 => ?_) (fun hg4 => ?_))
     ·
      refine kT <| CJ_seq <| CJ_block <| CJ_region <| oM rfl rfl <| oM rfl rfl ?_
      first | (refine RJ_splitD 49 rfl (fun hg5B hg5 => ?_) (fun hg5B hg5 => ?_)) | (refine RJ_splitN 49 rfl (fun hg5B hg5 => ?_) (fun hg5B hg5 => ?_)) | (refine RJ_split 49 rfl (fun hg5B => ?_) (fun hg5B => ?_))
      ·
       refine RJ_gn (GY_no rfl rfl rfl hg5B) rfl rfl <| RJ_gn (GY_no rfl rfl rfl hg5B) rfl rfl <| RJ_gn (GY_no rfl rfl rfl hg5B) rfl rfl <| RJ_gn (GY_no rfl rfl rfl hg5B) rfl rfl <| RJ_gn (GY_no rfl rfl rfl hg5B) rfl rfl <| RJ_gn (GY_no rfl rfl rfl hg5B) rfl rfl <| RJ_gn (GY_no rfl rfl rfl hg5B) rfl rfl <| RJ_gn (GY_no rfl rfl rfl hg5B) rfl rfl <| RJ_gn (GY_no rfl rfl rfl hg5B) rfl rfl <| oP (P_pickT rfl hg5B rfl) rfl <| oA rfl rfl <| RJ_nil <| QJ_block_normal <| QJ_then <| CJ_region <| oM rfl rfl <| oP (P_add rfl rfl (by first | omega | (simp only [List.length_set]; omega))) rfl <| oA rfl rfl <| RJ_nil <| QJ_nextR (k + 1) (by first | omega | (simp only []; omega)) ?_ (by repeat (first | exact Kp.base | exact Kp.self | refine Kp.cons rfl ?_ | refine Kp.forget rfl ?_)) ?_ (t0_ (t0_ (t0_ (t0_ eR))))
       · omega
       ·
        refine ⟨rfl, ?_, True.intro⟩
        refine (congrArg (fun z => some (Value.bool z)) ?_ : some (Value.bool _) = some (Value.bool _))
        rw [any_step (by omega), ‹(((t.getD i s0).some.take k).any (fun u => decide (u = v))) = true›]; rfl
      ·
       refine gP (GY_yes rfl rfl rfl hg5B) (P_move rfl) rfl <| gP (GY_yes rfl rfl rfl hg5B) (P_nilCheckE rfl) rfl <| gP (GY_yes rfl rfl rfl hg5B) (P_fieldE rfl ⟨_, _, _, Tryz.runUnderlying151, rfl, rfl, Tryz.sizeOf43, rfl⟩) rfl <| gV (GY_yes rfl rfl rfl hg5B) (V_loadE rfl rfl (by first | omega | (simp only [List.length_set]; omega)) foc3 (Reads.sl _ _ _) rfl rfl Tryz.isAgg43) rfl <| gP (GY_yes rfl rfl rfl hg5B) (P_move rfl) rfl ?_
       first | (refine RJ_gy (GY_yes rfl rfl rfl hg5B) (OJ_V (V_index rfl rfl rfl (by first | omega | (simp only [List.length_set]; omega)) foc0 (Reads.sl _ _ _) Tryz.runUnderlying43 Tryz.sizeOf44) rfl ?_)) | (refine RJ_gy (GY_yes rfl rfl rfl hg5B) (OJ_V (V_index rfl rfl (Int.toNat_of_nonneg (by first | omega | (simp only [List.length_set]; omega))).symm (by first | omega | (simp only [List.length_set]; omega)) foc0 (Reads.sl _ _ _) Tryz.runUnderlying43 Tryz.sizeOf44) rfl ?_))
       refine gV (GY_yes rfl rfl rfl hg5B) (V_loadE rfl rfl (by first | omega | (simp only [List.length_set]; omega)) foc0 (Reads.sl _ _ _) rfl rfl Tryz.isAgg44) rfl <| gP (GY_yes rfl rfl rfl hg5B) (P_move rfl) rfl <| gP (GY_yes rfl rfl rfl hg5B) (P_eql rfl rfl) rfl <| oP (P_pickF rfl hg5B rfl) rfl <| oA rfl rfl <| RJ_nil <| QJ_block_normal <| QJ_then <| CJ_region <| oM rfl rfl <| oP (P_add rfl rfl (by first | omega | (simp only [List.length_set]; omega))) rfl <| oA rfl rfl <| RJ_nil <| QJ_nextR (k + 1) (by first | omega | (simp only []; omega)) ?_ (by repeat (first | exact Kp.base | exact Kp.self | refine Kp.cons rfl ?_ | refine Kp.forget rfl ?_)) ?_ (t0_ (t0_ (t0_ (t0_ eR))))
       · omega
       ·
        refine ⟨rfl, ?_, True.intro⟩
        refine (congrArg (fun z => some (Value.bool z)) ?_ : some (Value.bool _) = some (Value.bool _))
        rw [any_step (by omega), ‹(((t.getD i s0).some.take k).any (fun u => decide (u = v))) = false›, Bool.false_or]; exact decU
     ·
      refine CJ_exit <| QJ_then_exit <| QJ_round_exit <| QJ_block_here <| QJ_then <| CJ_seq ?_
      have hk2 : k = (t.getD i s0).some.length := by omega
      refine CJ_region <| oM rfl rfl <| oM rfl rfl <| oM rfl rfl <| oP (P_nilCheckE rfl) rfl <| oP (P_fieldE rfl ⟨_, _, _, Tryz.runUnderlying151, rfl, rfl, Tryz.sizeOf4, rfl⟩) rfl <| oO <| O_storeE (x' := { (SL.hs l).getD i sH0 with known := true }) rfl rfl rfl (by first | omega | (simp only [List.length_set]; omega)) foc3 rfl rfl rfl Tryz.sizeOf4 <| oP (P_nilCheckE rfl) rfl <| oP (P_fieldE rfl ⟨_, _, _, Tryz.runUnderlying151, rfl, rfl, Tryz.sizeOf44, rfl⟩) rfl <| oO <| O_storeE (x' := ⟨((SL.hs l).getD i sH0).some, true, v⟩) rfl rfl rfl (by first | omega | (simp only [List.length_set]; omega)) foc3 rfl rfl (by rw [show List.getD _ _ tySec.dflt = _ from getD_set1 hil]; rfl) Tryz.sizeOf44 <| nT <| CJ_seq <| sR <| oM rfl rfl <| nT ?_
      first | (refine CJ_condD rfl (fun hg6 => ?_) (fun hg6 => ?_)) | (refine CJ_condN rfl (fun hg6 => ?_) (fun hg6 => ?_)) | (refine CJ_cond rfl (fun hg6 => ?_) (fun hg6 => ?_))
      ·
       refine CJ_region <| oM rfl rfl <| oM rfl rfl <| oO <| O_buildSlice rfl (CTrack_bs_43_1_0 _) rfl fun b1 => RJ_ent (Ent.trans (t0_ eR) (sl_of_lit (t := tyU) (m := 1) [v] rfl rfl rfl (by decide))) <| oP (P_nilCheckE rfl) rfl <| oP (P_fieldE rfl ⟨_, _, _, Tryz.runUnderlying151, rfl, rfl, Tryz.sizeOf43, rfl⟩) rfl <| oO <| O_storeE (x' := ⟨⟨some ⟨b1, 0, none⟩, 1, 1⟩, true, v⟩) rfl rfl rfl (by first | omega | (simp only [List.length_set]; omega)) foc4 rfl rfl (by rw [show List.getD _ _ tySec.dflt = _ from getD_set1 (by simpa using hil)]; rfl) Tryz.sizeOf43 <| nT <| sR <| oM rfl rfl <| oA rfl rfl <| nT <| CJ_ret <| QJ_end (res1 Tryz.results100 rfl) ?_
       rw [rdTS, if_pos hR, if_neg hkf, if_pos ‹q = true›]
       refine CSpec.close () ?_ ?_ (Ent.trans (Ent.trans (t0_ (t1_ eR)) (Own_close ownS ((⟨⟨some ⟨b1, 0, none⟩, 1, 1⟩, true, v⟩ : SecH), (⟨[v], true, v⟩ : Sec)) hll)) (Ent.trans (Ent.trans (t2_ (Ent.takeC del2 (congrArg (sl tySec _) (by rw [set3]; simp only [SL.hs, List.map_set])) (t0_ eR))) (Trk_close (hl.set i ((⟨⟨some ⟨b1, 0, none⟩, 1, 1⟩, true, v⟩ : SecH), (⟨[v], true, v⟩ : Sec)) ⟨rfl, rfl⟩))) (t0_ (eD eR))))
       · exact bv (show _ = rdTR t i v by rw [rdTR, if_pos hR, if_neg hkf, hk2, List.take_length]; rfl)
       · trivial
      ·
       refine kT <| sR <| oM rfl rfl <| oA rfl rfl <| nT <| CJ_ret <| QJ_end (res1 Tryz.results100 rfl) ?_
       rw [rdTS, if_pos hR, if_neg hkf, if_neg (by rw [‹q = false›]; decide)]
       refine CSpec.close () ?_ ?_ (Ent.trans (Ent.trans (t0_ (t0_ eR)) (Own_close ownS ((⟨((SL.hs l).getD i sH0).some, true, v⟩ : SecH), (⟨(t.getD i s0).some, true, v⟩ : Sec)) hll)) (Ent.trans (Ent.trans (t1_ (Ent.takeC del1 (congrArg (sl tySec _) (by rw [List.set_set]; simp only [SL.hs, List.map_set])) (t0_ eR))) (Trk_close (hl.set i ((⟨((SL.hs l).getD i sH0).some, true, v⟩ : SecH), (⟨(t.getD i s0).some, true, v⟩ : Sec)) ⟨rfl, rfl⟩))) (t0_ eR)))
       · exact bv (show _ = rdTR t i v by rw [rdTR, if_pos hR, if_neg hkf, hk2, List.take_length]; rfl)
       · trivial
theorem c_Tracked {W : World} {A : HP} {v : Value} {xs : List UInt64} (hA : Reads A tyU v xs) (hl : xs.length ≤ 65536) :
    CSpec Tryz.prog W 47 [v] [A] (fun b : Nat => ptr b 0) (fun _ => True) (fun b F => Trk b (trkT xs) :: A :: F) := by
 refine CSpec.of_body Tryz.func47 rfl Tryz.ntmps47 rfl fun F => ?_
 show CJ _ _ _ _ _ _ (_ :: F)
 refine sR <| oA rfl rfl <| nT <| sR <| oP (P_build rfl (CTrack_bld_56_)) rfl <| oO <| O_box rfl rfl rfl fun b1 => oA rfl rfl <| nT <| CJ_seq <| sR <| oA rfl rfl <| nT <| CJ_block <| CJ_ent (fun h hh => sl_nil (t := tySec) h hh) <| CJ_ent (Own_nil ownS) <| CJ_loopR (X := Nat × Sl3 × SL) [4, 7, 8, 9, 10, 11, 12, 13, 14, 15, 16, 17, 18, 19, 20, 21, 22, 23, 24, 25, 26, 27, 28, 29, 30, 31] (fun ⟨k, sv, l⟩  => ([(4, .int .i64 (k : Nat))] : Slots)) (fun ⟨k, sv, l⟩ R => blk b1 56 [sv.v] :: sl tySec sv.v (SL.hs l) :: VG.Own ownS l :: R) (fun ⟨k, sv, l⟩  => k ≤ xs.length ∧ SOk l (trkT (xs.take k))) (fun ⟨k, sv, l⟩  => xs.length - k) ⟨0, ⟨none, 0, 0⟩, []⟩ ?_ ?_ (t2_ (t1_ (t0_ (t0_ eR)))) ?_
 · exact ⟨Nat.zero_le _, rfl, (fun p hp => by cases hp), Nat.zero_le _⟩
 · exact ⟨rfl, True.intro⟩
 ·
  rintro ⟨k, sv, l⟩ ⟨hk, hs⟩
  show CJ _ _ _ _ _ (([(4, .int .i64 (k : Nat))] : Slots) ++ forget _ _) (blk b1 56 [sv.v] :: sl tySec sv.v (SL.hs l) :: VG.Own ownS l :: _)
  have hlen : (SL.hs l).length = k := by rw [hs.len]; simp [trkT]; omega
  refine CJ_seq <| sR <| oM rfl rfl <| oM rfl rfl <| oV (V_len rfl foc3 hA Tryz.runUnderlying43) rfl <| oP (P_lss rfl rfl) rfl <| nT ?_
  first | (refine CJ_condD rfl (fun hg1 => ?_) (fun hg1 => ?_)) | (refine CJ_condN rfl (fun hg1 => ?_) (fun hg1 => ?_)) | (refine CJ_cond rfl (fun hg1 => ?_) (fun hg1 => ?_))
  ·
   refine kT <| CJ_seq <| CJ_block <| AJ_startH 589824 (by kernel_rfl) rfl <| aN 0 1 rfl rfl (P_move rfl) rfl <| aN 1 3 rfl rfl (P_move rfl) rfl <| aN 2 7 rfl rfl (P_nilCheck rfl) rfl <| aN 3 15 rfl rfl (P_fieldAddr rfl ⟨_, _, _, Tryz.runUnderlying56, rfl, rfl, Tryz.sizeOf54, rfl⟩) rfl <| aV 4 31 rfl rfl (GY_none rfl) (t0_ (t0_ (t0_ (t0_ eR)))) (V_load rfl foc0 rfl Tryz.isAgg54) rfl <| aN 5 63 rfl rfl (P_move rfl) rfl <| aN 6 127 rfl rfl (P_move rfl) rfl ?_
   first | (refine AJ_takeV 7 255 rfl (by kernel_rfl) rfl (by kernel_rfl) (by kernel_rfl) (GY_none rfl) (t0_ (t0_ (t0_ (t0_ eR)))) (V_index rfl rfl rfl (by omega) foc3 hA Tryz.runUnderlying43 Tryz.sizeOf44) rfl (fun _ _ _ _ h => h) ?_) | (refine AJ_takeV 7 255 rfl (by kernel_rfl) rfl (by kernel_rfl) (by kernel_rfl) (GY_none rfl) (t0_ (t0_ (t0_ (t0_ eR)))) (V_index rfl rfl (Int.toNat_of_nonneg (by omega)).symm (by omega) foc3 hA Tryz.runUnderlying43 Tryz.sizeOf44) rfl (fun _ _ _ _ h => h) ?_)
   refine aV 8 511 rfl rfl (GY_none rfl) (t0_ (t0_ (t0_ (t0_ eR)))) (V_loadE rfl rfl (by omega) foc3 hA rfl rfl Tryz.isAgg44) rfl <| aN 10 1535 rfl rfl (P_move rfl) rfl <| aN 11 3583 rfl rfl (P_move rfl) rfl ?_
   first | (refine AJ_takeV 12 7679 rfl (by kernel_rfl) rfl (by kernel_rfl) (by kernel_rfl) (GY_none rfl) (t0_ (t0_ (t0_ (t0_ eR)))) (V_index rfl rfl rfl (by omega) foc3 hA Tryz.runUnderlying43 Tryz.sizeOf44) rfl (fun _ _ _ _ h => h) ?_) | (refine AJ_takeV 12 7679 rfl (by kernel_rfl) rfl (by kernel_rfl) (by kernel_rfl) (GY_none rfl) (t0_ (t0_ (t0_ (t0_ eR)))) (V_index rfl rfl (Int.toNat_of_nonneg (by omega)).symm (by omega) foc3 hA Tryz.runUnderlying43 Tryz.sizeOf44) rfl (fun _ _ _ _ h => h) ?_)
   refine aV 13 15871 rfl rfl (GY_none rfl) (t0_ (t0_ (t0_ (t0_ eR)))) (V_loadE rfl rfl (by omega) foc3 hA rfl rfl Tryz.isAgg44) rfl <| AJ_op 9 16383 rfl (by kernel_rfl) rfl (GY_none rfl) <| O_buildSlice rfl (CTrack_bs_43_1_0 _) rfl fun b2 => ⟨fun _ => (t1_ (t1_ (t1_ (t1_ (eD eR))))), ?_⟩
   refine aN 14 32767 rfl rfl (P_build rfl (CTrack_bld_151_0_1_2 _ _ _ _ _)) rfl <| AJ_op 15 65535 rfl (by kernel_rfl) rfl (GY_none rfl) <| O_buildSlice rfl (CTrack_bs_54_1_0 _ _ _ _ _) rfl fun b3 => ⟨fun _ => (t2_ (t2_ (t2_ (t2_ (eD (eD eR)))))), ?_⟩
   refine AJ_op 16 131071 rfl (by kernel_rfl) rfl (GY_none rfl) <| O_append (t := tySec) (bytes := 40) rfl rfl del3 foc0 (Reads.lit (t := tySec) (ys := [⟨⟨some ⟨b2, 0, none⟩, 1, 1⟩, true, xs.getD k 0⟩]) rfl rfl (by decide) (by decide) rfl) Tryz.underlying54 ok_tySec (by simp only [List.length_append, List.length_cons, List.length_nil, maxLen] at *; omega) (by simp only [List.length_append, List.length_cons, List.length_nil, maxLen] at *; omega) rfl fun p4 c5 => ⟨fun h => absurd h (by decide), ?_⟩
   refine aN 17 262143 rfl rfl (P_nilCheck rfl) rfl <| aN 18 524287 rfl rfl (P_fieldAddr rfl ⟨_, _, _, Tryz.runUnderlying56, rfl, rfl, Tryz.sizeOf54, rfl⟩) rfl <| AJ_op 19 1048575 rfl (by kernel_rfl) rfl (GY_none rfl) <| O_store rfl rfl foc3 rfl rfl Tryz.sizeOf54 <| ⟨fun h => absurd h (by decide), ?_⟩
   refine AJ_done (by kernel_rfl) <| QJ_block_normal <| QJ_then <| CJ_region <| oM rfl rfl <| oP (P_add rfl rfl (by omega)) rfl <| oA rfl rfl <| RJ_nil <| QJ_nextR ⟨k + 1, ⟨p4, _, c5⟩, l ++ [((⟨⟨some ⟨b2, 0, none⟩, 1, 1⟩, true, xs.getD k 0⟩ : SecH), mkSec (xs.getD k 0))]⟩ (by first | omega | (simp only []; omega)) ?_ (by repeat (first | exact Kp.base | exact Kp.self | refine Kp.cons rfl ?_ | refine Kp.forget rfl ?_)) ?_ (Ent.trans (Ent.trans (t2_ eR) (sl_of_lit (t := tyU) (m := 1) [xs.getD k 0] rfl rfl rfl (by decide))) (Ent.trans (Ent.trans (t0_ (t3_ eR)) (Own_push ownS ((⟨⟨some ⟨b2, 0, none⟩, 1, 1⟩, true, xs.getD k 0⟩ : SecH), mkSec (xs.getD k 0)))) (t3_ (Ent.takeC del1 (congrArg (sl tySec _) (SL.snoc l ((⟨⟨some ⟨b2, 0, none⟩, 1, 1⟩, true, xs.getD k 0⟩ : SecH), mkSec (xs.getD k 0))).symm) (t0_ (t1_ (eD eR)))))))
   ·
    refine ⟨by omega, ?_⟩
    rw [takeU xs k (by omega)]
    exact hs.push ((⟨⟨some ⟨b2, 0, none⟩, 1, 1⟩, true, xs.getD k 0⟩ : SecH), mkSec (xs.getD k 0)) ⟨rfl, rfl⟩ (by simp [trkT]; omega)
   · exact ⟨rfl, True.intro⟩
  ·
   refine CJ_exit <| QJ_then_exit <| QJ_round_exit <| QJ_block_here <| QJ_then <| sR <| oM rfl rfl <| oA rfl rfl <| nT <| CJ_ret <| QJ_end (res1 Tryz.results47 rfl) ?_
   obtain rfl : k = xs.length := by omega
   rw [List.take_length] at hs
   refine CSpec.close b1 ?_ ?_ (Ent.trans (Ent.trans (t0_ (t0_ (t0_ eR))) (Trk_close hs)) (t0_ (t0_ eR)))
   · rfl
   · trivial
end Go.Proofs
set_option linter.unusedSimpArgs false
set_option linter.unusedVariables false
set_option maxRecDepth 20000
set_option maxHeartbeats 4000000
namespace Go.Proofs
open Go.VG
theorem bs_139_3_0_1_2 (v0 : Fn) (v1 : (Array Value)) (v2 : (Array Value)) (v3 : Fn) (v4 : (Array Value)) (v5 : (Array Value)) (v6 : Fn) (v7 : (Array Value)) (v8 : (Array Value)) : BuildsSlice Tryz.prog 139 3 [(0, .func v0 v1 v2), (1, .func v3 v4 v5), (2, .func v6 v7 v8)] 77 [.func v0 v1 v2, .func v3 v4 v5, .func v6 v7 v8] := fun w => by kernel_rfl
def parityvol_Volume_Fill_1 (x_0 : Dvc) (p1 : Int) (p2 : UInt64) (p3 : Int) (s : ArrS) : Option (Int × Int × ArrS) :=
  grd (inI64 (((16 : Int) + p1))) <|
  Option.bind (Dvc.wr x_0 s (((16 : Int) + p1)) p2) fun r2 =>
  some (r2.1, r2.1, r2.2)
theorem L_parityvol_Volume_Fill_1 {W : World} {vx_0 : IfH} {bp1 : Nat} {bp2 : Nat} {bp3 : Nat} {bs : Nat} {x_0 : Dvc} {p1 : Int} {p2 : UInt64} {p3 : Int} {s : ArrS} {r : Int × Int × ArrS} (h : parityvol_Volume_Fill_1 x_0 p1 p2 p3 s = some r) :
    CSpec Tryz.prog W 79 [IfH.v vx_0, ptr bp1 0, ptr bp2 0, ptr bp3 0] [DevP bs x_0 vx_0, blk bp1 3 [.int .i64 p1], blk bp2 44 [.int .u64 (p2.toNat : Int)], blk bp3 40 [.int .i64 p3], Arr bs s] (fun x : Unit => .int .i64 r.1) (fun _ => True) (fun x F => DevP bs x_0 vx_0 :: blk bp1 3 [.int .i64 p1] :: blk bp2 44 [.int .u64 (p2.toNat : Int)] :: blk bp3 40 [.int .i64 r.2.1] :: Arr bs r.2.2 :: F) := by
 refine CSpec.of_body Tryz.func79 rfl Tryz.ntmps79 rfl fun F => ?_
 show CJ _ _ _ _ _ _ (_ :: _ :: _ :: _ :: _ :: F)
 unfold parityvol_Volume_Fill_1 at h
 refine sR <| oA rfl rfl <| nT <| sR <| oM rfl rfl <| oV (V_load rfl foc1 rfl Tryz.isAgg3) rfl ?_
 obtain ⟨hg1, h⟩ := grd_Ie h
 refine oP (P_add (a := (16 : Int)) (b := p1) rfl rfl hg1) rfl <| oV (V_load rfl foc2 rfl Tryz.isAgg44) rfl <| RJ_pure (fun h hh => DevP_dep h (stars_perm (del0 (A := DevP bs x_0 vx_0)).out h hh)) fun hdp1 => ?_
 obtain ⟨r2, hr3, h⟩ := bind_e h
 refine oO <| O_callI rfl (dev_Write hr3 hdp1) rfl (Dels.cons del0 (Dels.cons del3 Dels.nil)) rfl fun _ _ => oO <| O_store rfl rfl foc4 rfl rfl Tryz.sizeOf40 <| nT <| sR <| oV (V_load rfl foc4 rfl Tryz.isAgg40) rfl <| oA rfl rfl <| nT <| CJ_ret ?_
 cases h
 exact fE (res1 Tryz.results79 rfl) () (t0_ (t1_ (t1_ (t1_ eR))))
def parityvol_Volume_on__parityvol_Volume_Fill_1 (v : VolS) (i : Int) (f_c0 : Int) (f_c1 : UInt64) (f_c2 : Int) (s : ArrS) : Option (Int × VolS × Int × ArrS) :=
  grd (decide (0 ≤ i ∧ i < (v.legs.length : Int))) <|
  Option.bind (parityvol_Volume_Fill_1 ((v.legs.getD ((i).toNat) prt_x0).dev) f_c0 f_c1 f_c2 s) fun r9 =>
  Option.bind (parityvol_Volume_on_1 r9.1 v i r9.2.2) fun r11 =>
  some (r11.1, r11.2, r9.2.1, r9.2.2)
theorem L_parityvol_Volume_on__parityvol_Volume_Fill_1 {W : World} {bv : Nat} {bf_c0 : Nat} {bf_c1 : Nat} {bf_c2 : Nat} {bs : Nat} {v : VolS} {i : Int} {f_c0 : Int} {f_c1 : UInt64} {f_c2 : Int} {s : ArrS} {r : Int × VolS × Int × ArrS} (h : parityvol_Volume_on__parityvol_Volume_Fill_1 v i f_c0 f_c1 f_c2 s = some r) :
    CSpec Tryz.prog W 78 [ptr bv 0, .int .i64 i, .func (.func 79) #[] #[ptr bf_c0 0, ptr bf_c1 0, ptr bf_c2 0]] [VolP bs bv v, blk bf_c0 3 [.int .i64 f_c0], blk bf_c1 44 [.int .u64 (f_c1.toNat : Int)], blk bf_c2 40 [.int .i64 f_c2], Arr bs s] (fun x : Unit => .int .i64 r.1) (fun _ => True) (fun x F => VolP bs bv r.2.1 :: blk bf_c0 3 [.int .i64 f_c0] :: blk bf_c1 44 [.int .u64 (f_c1.toNat : Int)] :: blk bf_c2 40 [.int .i64 r.2.2.1] :: Arr bs r.2.2.2 :: F) := by
  refine CSpec.of_bodyM Tryz.func78 rfl Tryz.ntmps78 rfl (fun F => ?_)
  show CJ _ _ _ _ _ _ (_ :: _ :: _ :: _ :: _ :: F)
  unfold parityvol_Volume_on__parityvol_Volume_Fill_1 at h
  refine CJ_seq ?_
  refine CJ_region ?_
  refine RJ_op rfl (O_box rfl rfl rfl (fun b1 => ?_))
  refine RJ_op rfl (O_box rfl rfl rfl (fun b2 => ?_))
  refine RJ_op rfl (O_alloc Tryz.zeroValue40 rfl rfl (fun b3 => ?_))
  refine RJ_nil ?_
  refine QJ_then ?_
  refine CJ_seq ?_
  refine CJ_region ?_
  refine RJ_op rfl (OJ_P (P_makeFunc rfl rfl) rfl ?_)
  refine RJ_defer rfl rfl ?_
  refine RJ_nil ?_
  refine QJ_then ?_
  refine CJ_seq ?_
  refine CJ_entX (Ent.transX (Ent.take del3 Ent.refl) (VolP_open (l := v))) (fun oc4 => ?_)
  refine CJ_pure (fun h hh => Rs_len (stars_perm (del2 (A := Rs (DevP bs) (v.legs.map prtS.dev) oc4.2)).out h hh)) (fun hdl6 => ?_)
  refine CJ_pure (len_of (Reads.sl _ _ _) del1) (fun hlen7 => ?_)
  rw [mk_prt_len (by have := hdl6; simpa using this)] at hlen7
  refine AJ_startH 1536 (by kernel_rfl) rfl ?_
  refine AJ_takeP 0 1 rfl (by kernel_rfl) rfl (GY_none rfl) (P_move rfl) rfl (fun _ _ _ _ h => h) ?_
  refine AJ_takeV 1 3 rfl (by kernel_rfl) rfl (by kernel_rfl) (by kernel_rfl) (GY_none rfl) Ent.refl (V_load rfl foc5 rfl Tryz.isAgg65) rfl (fun _ _ _ _ h => h) ?_
  refine AJ_takeP 2 7 rfl (by kernel_rfl) rfl (GY_none rfl) (P_nilCheck rfl) rfl (fun _ _ _ _ h => h) ?_
  refine AJ_takeP 3 15 rfl (by kernel_rfl) rfl (GY_none rfl) (P_fieldAddr rfl ⟨_, _, _, Tryz.runUnderlying123, rfl, rfl, Tryz.sizeOf119, rfl⟩) rfl (fun _ _ _ _ h => h) ?_
  refine AJ_takeV 4 31 rfl (by kernel_rfl) rfl (by kernel_rfl) (by kernel_rfl) (GY_none rfl) Ent.refl (V_load rfl foc0 rfl Tryz.isAgg119) rfl (fun _ _ _ _ h => h) ?_
  refine AJ_takeV 5 63 rfl (by kernel_rfl) rfl (by kernel_rfl) (by kernel_rfl) (GY_none rfl) Ent.refl (V_load rfl foc4 rfl Tryz.isAgg3) rfl (fun _ _ _ _ h => h) ?_
  obtain ⟨hg1, h⟩ := grd_de h
  refine AJ_takeV 6 127 rfl (by kernel_rfl) rfl (by kernel_rfl) (by kernel_rfl) (GY_none rfl) Ent.refl (V_index (i := (i).toNat) rfl rfl (Int.toNat_of_nonneg (hg1.1)).symm (show (i).toNat < (mk_prt v.legs oc4.2).length by rw [mk_prt_len (by have := hdl6; simpa using this)]; exact (by omega)) foc1 (Reads.sl _ _ _) Tryz.runUnderlying119 Tryz.sizeOf126) rfl (fun _ _ _ _ h => h) ?_
  refine AJ_takeP 7 255 rfl (by kernel_rfl) rfl (GY_none rfl) (P_fieldE rfl ⟨_, _, _, Tryz.runUnderlying126, rfl, rfl, Tryz.sizeOf79, rfl⟩) rfl (fun _ _ _ _ h => h) ?_
  refine AJ_ent (Ent.trans (Ent.take del2 Ent.refl) (mk_prt_rs (i := (i).toNat) (by omega))) ?_
  refine AJ_takeV 8 511 rfl (by kernel_rfl) rfl (by kernel_rfl) (by kernel_rfl) (GY_none rfl) (Ent.take del2 (Ent.take del2 (Ent.take del1 (Ent.take del1 (Ent.take del1 (Ent.take del1 (Ent.take del1 (Ent.take del1 (Ent.take del1 (Ent.take del1 (Ent.drop Ent.refl))))))))))) (VJ_eq (V_loadE rfl rfl (show (i).toNat < (mk_prt v.legs oc4.2).length by rw [mk_prt_len (by have := hdl6; simpa using this)]; exact (by omega)) foc1 (Reads.sl _ _ _) rfl rfl Tryz.isAgg79) (show (IfH.v ((oc4.2.getD ((i).toNat) tyDev.dflt)) : Value) = IfH.v ((mk_prt v.legs oc4.2).getD ((i).toNat) prt_h0).dev from by rw [mk_prt_at (by have := hdl6; simpa using this)])) rfl (fun _ _ _ _ h => h) ?_
  obtain ⟨r9, hr10, h⟩ := bind_e h
  refine AJ_op 9 1023 rfl (by kernel_rfl) rfl (GY_none rfl) (O_callV rfl rfl (L_parityvol_Volume_Fill_1 hr10) Tryz.call79 (Dels.cons del0 (Dels.cons del6 (Dels.cons del6 (Dels.cons del6 (Dels.cons del6 Dels.nil))))) rfl (fun _ _ => ?_))
  refine ⟨fun h => absurd h (by decide), ?_⟩
  refine AJ_op 10 2047 rfl (by kernel_rfl) rfl (GY_none rfl) (O_store rfl rfl foc8 rfl rfl Tryz.sizeOf40 ?_)
  refine ⟨fun h => absurd h (by decide), ?_⟩
  refine AJ_done (by kernel_rfl) ?_
  refine QJ_ent (Ent.trans (Ent.take del6 (Ent.take del6 (Ent.take del5 Ent.refl))) (VolP_mk (v0 := v.layout_n) (v1 := v.layout_chunk) (v2 := v.layout_rows) (v3 := v.legs) (v4 := v.last_seq) (v5 := v.last_offset) (v6 := v.last_leg) (v7 := v.last_word) (v8 := v.last_parity) (v9 := v.pending) (v10 := v.filled) (h0 := oc4.1) (h1 := oc4.2))) ?_
  refine QJ_ent (Ent.take del0 (Ent.take del1 (Ent.take del1 (Ent.take del1 (Ent.take del1 (Ent.take del1 (Ent.take del1 (Ent.take del1 (Ent.drop Ent.refl))))))))) ?_
  refine QJ_then ?_
  refine CJ_ret ?_
  obtain ⟨r11, hr12, h⟩ := bind_e h
  have hE := Option.some.inj h
  subst hE
  refine QJ_endD1 (.inl rfl) Tryz.call114 (Ent.take del5 (Ent.take del6 (Ent.take del0 (Ent.take del4 (Ent.take del3 Ent.refl))))) (LD_parityvol_Volume_on_1 hr12) (resA1 Tryz.results78 (RV_cell rfl foc0 rfl Tryz.isAgg40)) ?_
  refine CSpec.close () ?_ ?_ (Ent.take del2 (Ent.take del4 (Ent.take del4 (Ent.take del4 (Ent.take del3 (Ent.drop (Ent.drop (Ent.drop Ent.refl))))))))
  · rfl
  · trivial
def parityvol_Volume_Fill_l2_b (r3 : Int) (x12 : VolS) (rec : ArrS → VolS → Nat → Option ((ArrS × VolS) ⊕ ((VolS × ArrS) ⊕ (Int × Int × VolS × ArrS)))) (x20 : ArrS) (x21 : VolS) (x22 : Nat) : Option ((ArrS × VolS) ⊕ ((VolS × ArrS) ⊕ (Int × Int × VolS × ArrS))) :=
  if (((x22 : Nat) : Int) < x12.layout_chunk) then
    grd (inI64 (x12.filled * x21.layout_chunk)) <|
    grd (inI64 (((x12.filled * x21.layout_chunk) + ((x22 : Nat) : Int)))) <|
    Option.bind (parityvol_Volume_others x21 r3 (((x12.filled * x21.layout_chunk) + ((x22 : Nat) : Int))) true x20) fun r24 =>
    if (r24.2.1 = (0 : Int)) then
      Option.bind (parityvol_Volume_on__parityvol_Volume_Fill_1 r24.2.2 r3 (((x12.filled * x21.layout_chunk) + ((x22 : Nat) : Int))) r24.1 (0 : Int) x20) fun r28 =>
      if ((r28.1 = (0 : Int)) ∧ (r28.2.2.1 ≠ (0 : Int))) then
        some (.inr (.inr (((0 : Int), (0 : Int), r28.2.1, r28.2.2.2))))
      else
        if (r28.1 ≠ (0 : Int)) then
          some (.inr (.inr (((0 : Int), r28.1, r28.2.1, r28.2.2.2))))
        else
          grd (inN64 (x22 + 1)) <|
          rec r28.2.2.2 r28.2.1 (x22 + 1)
    else
      if (r24.2.1 ≠ (0 : Int)) then
        some (.inr (.inr (((0 : Int), r24.2.1, r24.2.2, x20))))
      else
        grd (inN64 (x22 + 1)) <|
        rec x20 r24.2.2 (x22 + 1)
  else
    some (.inl (x20, x21))
def parityvol_Volume_Fill_l2 (r3 : Int) (x12 : VolS) : Nat → ArrS → VolS → Nat → Option ((ArrS × VolS) ⊕ ((VolS × ArrS) ⊕ (Int × Int × VolS × ArrS)))
  | 0, _, _, _ => none
  | n + 1, x20, x21, x22 => parityvol_Volume_Fill_l2_b r3 x12 (parityvol_Volume_Fill_l2 r3 x12 n) x20 x21 x22
def parityvol_Volume_Fill_l1_b (n_1 : Int) (r1 : Int × VolS × ArrS) (r3 : Int) (rec : ArrS → VolS → Nat → Option ((VolS × ArrS) ⊕ (Int × Int × VolS × ArrS))) (x11 : ArrS) (x12 : VolS) (x13 : Nat) : Option ((VolS × ArrS) ⊕ (Int × Int × VolS × ArrS)) :=
  if (((x13 : Nat) : Int) < (min n_1 (r1.2.1.layout_rows - r1.2.1.filled))) then
    seqO (parityvol_Volume_Fill_l2 r3 x12 FUEL x11 x12 0) fun a19 =>
    grd (inI64 ((a19.2.filled + (1 : Int)))) <|
    grd (inN64 (x13 + 1)) <|
    rec a19.1 ({ a19.2 with filled := (a19.2.filled + (1 : Int)) }) (x13 + 1)
  else
    some (.inl (x12, x11))
def parityvol_Volume_Fill_l1 (n_1 : Int) (r1 : Int × VolS × ArrS) (r3 : Int) : Nat → ArrS → VolS → Nat → Option ((VolS × ArrS) ⊕ (Int × Int × VolS × ArrS))
  | 0, _, _, _ => none
  | n + 1, x11, x12, x13 => parityvol_Volume_Fill_l1_b n_1 r1 r3 (parityvol_Volume_Fill_l1 n_1 r1 r3 n) x11 x12 x13
def parityvol_Volume_Fill (v : VolS) (n_1 : Int) (s : ArrS) : Option (Int × Int × VolS × ArrS) :=
  if (n_1 < (0 : Int)) then
    some (((0 : Int), (1 : Int), v, s))
  else
    Option.bind (parityvol_Volume_ready v s) fun r1 =>
    if (r1.1 ≠ (0 : Int)) then
      some (((0 : Int), r1.1, r1.2.1, r1.2.2))
    else
      Option.bind (parityvol_Volume_staleLeg r1.2.1 r1.2.2) fun r3 =>
      if (r3 < (0 : Int)) then
        some (((0 : Int), (20 : Int), r1.2.1, r1.2.2))
      else
        grd (inI64 (r1.2.1.layout_rows - r1.2.1.filled)) <|
        seqO (parityvol_Volume_Fill_l1 n_1 r1 r3 FUEL r1.2.2 r1.2.1 0) fun a10 =>
        some ((a10.1.filled, (0 : Int), a10.1, a10.2))
theorem L_parityvol_Volume_Fill {W : World} {bv : Nat} {bs : Nat} {v : VolS} {n_1 : Int} {s : ArrS} {r : Int × Int × VolS × ArrS} (h : parityvol_Volume_Fill v n_1 s = some r) :
    CSpec Tryz.prog W 29 [ptr bv 0, .int .i64 n_1] [VolP bs bv v, Arr bs s] (fun x : Unit => .tuple #[.int .i64 r.1, .int .i64 r.2.1]) (fun _ => True) (fun x F => VolP bs bv r.2.2.1 :: Arr bs r.2.2.2 :: F) := by
 refine CSpec.of_body Tryz.func29 rfl Tryz.ntmps29 rfl fun F => ?_
 show CJ _ _ _ _ _ _ (_ :: _ :: F)
 unfold parityvol_Volume_Fill at h
 refine sR <| oA rfl rfl <| oA rfl rfl <| nT <| CJ_seq <| sR <| oM rfl rfl <| oP (P_lss (a := n_1) (b := (0 : Int)) rfl rfl) rfl <| nT <| CJ_condP rfl bT_dec (fun hg1 => ?_) (fun hg1 => ?_)
 ·
  replace h := ite_t hg1 h
  refine sR <| oA rfl rfl <| oA rfl rfl <| nT <| CJ_ret <| QJ_then_ret ?_
  cases h
  exact fE (res2 Tryz.results29 rfl rfl) () eR
 ·
  replace h := ite_f hg1 h
  refine kT <| CJ_seq <| sR <| oM rfl rfl ?_
  obtain ⟨r1, hr2, h⟩ := bind_e h
  refine oO <| O_call (L_parityvol_Volume_ready hr2) rfl Tryz.call73 (Dels.cons del0 (Dels.cons del0 Dels.nil)) rfl fun _ _ => oA rfl rfl <| nT <| sR <| oM rfl rfl <| oP (P_neq (a := r1.1) (b := (0 : Int)) rfl rfl) rfl <| nT <| CJ_condP rfl bT_dec (fun hg2 => ?_) (fun hg2 => ?_)
  ·
   replace h := ite_t hg2 h
   refine sR <| oM rfl rfl <| oA rfl rfl <| oA rfl rfl <| nT <| CJ_ret <| QJ_then_ret ?_
   cases h
   exact fE (res2 Tryz.results29 rfl rfl) () eR
  ·
   replace h := ite_f hg2 h
   refine kT <| sR <| oM rfl rfl ?_
   obtain ⟨r3, hr4, h⟩ := bind_e h
   refine oO <| O_call (L_parityvol_Volume_staleLeg hr4) rfl Tryz.call76 (Dels.cons del0 (Dels.cons del0 Dels.nil)) rfl fun _ _ => oA rfl rfl <| nT <| CJ_seq <| sR <| oM rfl rfl <| oP (P_lss (a := r3) (b := (0 : Int)) rfl rfl) rfl <| nT <| CJ_condP rfl bT_dec (fun hg3 => ?_) (fun hg3 => ?_)
   ·
    replace h := ite_t hg3 h
    refine sR <| oA rfl rfl <| oA rfl rfl <| nT <| CJ_ret <| QJ_then_ret ?_
    cases h
    exact fE (res2 Tryz.results29 rfl rfl) () eR
   ·
    replace h := ite_f hg3 h
    refine kT <| CJ_seq <| CJ_seq <| AJ_startH 0 (by kernel_rfl) rfl <| aN 0 1 rfl rfl (P_move rfl) rfl <| aN 1 3 rfl rfl (P_move rfl) rfl <| aN 2 7 rfl rfl (P_nilCheck rfl) rfl <| aN 3 15 rfl rfl (P_fieldAddr rfl ⟨_, _, _, Tryz.runUnderlying123, rfl, rfl, Tryz.sizeOf112, rfl⟩) rfl <| aN 4 31 rfl rfl (P_fieldAddr rfl ⟨_, _, _, Tryz.runUnderlying112, rfl, rfl, Tryz.sizeOf3, rfl⟩) rfl <| aV 5 63 rfl rfl (GY_none rfl) eR (VJ_entX (Ent.transX (t0_ eR) (VolP_open (l := r1.2.1))) (fun _ => V_load rfl foc0 rfl Tryz.isAgg3)) rfl <| aN 6 127 rfl rfl (P_move rfl) rfl <| aN 7 255 rfl rfl (P_nilCheck rfl) rfl <| aN 8 511 rfl rfl (P_fieldAddr rfl ⟨_, _, _, Tryz.runUnderlying123, rfl, rfl, Tryz.sizeOf3, rfl⟩) rfl <| aV 9 1023 rfl rfl (GY_none rfl) eR (VJ_entX (Ent.transX (t0_ eR) (VolP_open (l := r1.2.1))) (fun _ => V_load rfl foc0 rfl Tryz.isAgg3)) rfl ?_
    obtain ⟨hg4, h⟩ := grd_Ie h
    refine aN 10 2047 rfl rfl (P_sub (a := r1.2.1.layout_rows) (b := r1.2.1.filled) rfl rfl hg4) rfl <| aN 11 4095 rfl rfl (P_min (a := n_1) (b := (r1.2.1.layout_rows - r1.2.1.filled)) rfl rfl) rfl <| aN 12 8191 rfl rfl (P_move rfl) rfl <| aD ?_
    obtain ⟨y7, hl5, hK6⟩ := seq_e h
    refine CJ_cutT (X := VolS × ArrS) [4, 5, 8, 9, 10, 11, 12, 13, 37, 38, 39, 40, 41, 42, 43, 44, 45, 46, 47, 48, 49, 50, 51, 52, 53, 54, 55, 56, 57, 58, 59, 60, 61, 62, 63, 64, 65, 66, 67, 68, 69, 70, 71, 72, 73, 74, 75, 76, 77, 78, 79, 80, 81, 82, 83, 84, 85, 86, 87, 88, 89, 90] (fun a10 => ([] : Slots)) (fun a10 R => VolP bs bv a10.1 :: Arr bs a10.2 :: R) (fun a10 => y7 = .inl a10) (Dels.cons del0 (Dels.cons del0 Dels.nil)) ?_ ?_
    ·
     refine CJ_block <| CJ_loopR (X := Nat × ArrS × VolS × Nat) [4, 5, 8, 9, 10, 11, 12, 13, 37, 38, 39, 40, 41, 42, 43, 44, 45, 46, 47, 48, 49, 50, 51, 52, 53, 54, 55, 56, 57, 58, 59, 60, 61, 62, 63, 64, 65, 66, 67, 68, 69, 70, 71, 72, 73, 74, 75, 76, 77, 78, 79, 80, 81, 82, 83, 84, 85, 86, 87, 88, 89, 90] (fun ⟨n, x11, x12, x13⟩ => ([(37, .int .i64 (((x13 : Nat) : Int)))] : Slots)) (fun ⟨n, x11, x12, x13⟩ R => Arr bs x11 :: VolP bs bv x12 :: R) (fun ⟨n, x11, x12, x13⟩ => parityvol_Volume_Fill_l1 n_1 r1 r3 n x11 x12 x13 = some y7) (fun ⟨n, x11, x12, x13⟩ => n) ⟨FUEL, r1.2.2, r1.2.1, 0⟩ ?_ ?_ (t1_ eR) ?_
     · exact hl5
     · exact ⟨rfl, True.intro⟩
     ·
      rintro ⟨n, x11, x12, x13⟩ h
      cases n with
      | zero => exact none_e h
      | succ n => ?_
      replace h : parityvol_Volume_Fill_l1_b n_1 r1 r3 (parityvol_Volume_Fill_l1 n_1 r1 r3 n) x11 x12 x13 = some y7 := h
      unfold parityvol_Volume_Fill_l1_b at h
      show CJ _ _ _ _ _ (([(37, .int .i64 (((x13 : Nat) : Int)))] : Slots) ++ forget _ _) (Arr bs x11 :: VolP bs bv x12 :: _)
      refine sR <| oP (P_lss (a := ((x13 : Nat) : Int)) (b := (min n_1 (r1.2.1.layout_rows - r1.2.1.filled))) rfl rfl) rfl <| nT <| CJ_seq <| CJ_condP rfl bT_dec (fun hg5 => ?_) (fun hg5 => ?_)
      ·
       replace h := ite_t hg5 h
       refine kT <| CJ_seq <| CJ_block <| sR <| oM rfl rfl <| oP (P_nilCheck rfl) rfl <| oP (P_fieldAddr rfl ⟨_, _, _, Tryz.runUnderlying123, rfl, rfl, Tryz.sizeOf3, rfl⟩) rfl <| oV (VJ_entX (Ent.transX (t1_ eR) (VolP_open (l := x12))) (fun _ => V_load rfl foc0 rfl Tryz.isAgg3)) rfl <| oA rfl rfl <| nT <| CJ_seq <| sR <| oM rfl rfl <| oP (P_nilCheck rfl) rfl <| oP (P_fieldAddr rfl ⟨_, _, _, Tryz.runUnderlying123, rfl, rfl, Tryz.sizeOf112, rfl⟩) rfl <| oP (P_fieldAddr rfl ⟨_, _, _, Tryz.runUnderlying112, rfl, rfl, Tryz.sizeOf3, rfl⟩) rfl <| oV (VJ_entX (Ent.transX (t1_ eR) (VolP_open (l := x12))) (fun _ => V_load rfl foc0 rfl Tryz.isAgg3)) rfl <| oM rfl rfl <| nT ?_
       obtain ⟨y16, hl14, hK15⟩ := seq_e h
       refine CJ_cutT (X := ArrS × VolS) [4, 5, 9, 10, 11, 12, 13, 48, 49, 50, 51, 52, 53, 54, 55, 56, 57, 58, 59, 60, 61, 62, 63, 64, 65, 66, 67, 68, 69, 70, 71, 72, 73, 74, 75, 76, 77, 78, 79, 80, 81, 82] (fun a19 => ([] : Slots)) (fun a19 R => Arr bs a19.1 :: VolP bs bv a19.2 :: R) (fun a19 => y16 = .inl a19) (Dels.cons del0 (Dels.cons del0 Dels.nil)) ?_ ?_
       ·
        refine CJ_block <| CJ_loopR (X := Nat × ArrS × VolS × Nat) [4, 5, 9, 10, 11, 12, 13, 48, 49, 50, 51, 52, 53, 54, 55, 56, 57, 58, 59, 60, 61, 62, 63, 64, 65, 66, 67, 68, 69, 70, 71, 72, 73, 74, 75, 76, 77, 78, 79, 80, 81, 82] (fun ⟨n, x20, x21, x22⟩ => ([(48, .int .i64 (((x22 : Nat) : Int)))] : Slots)) (fun ⟨n, x20, x21, x22⟩ R => Arr bs x20 :: VolP bs bv x21 :: R) (fun ⟨n, x20, x21, x22⟩ => parityvol_Volume_Fill_l2 r3 x12 n x20 x21 x22 = some y16) (fun ⟨n, x20, x21, x22⟩ => n) ⟨FUEL, x11, x12, 0⟩ ?_ ?_ eR ?_
        · exact hl14
        · exact ⟨rfl, True.intro⟩
        ·
         rintro ⟨n, x20, x21, x22⟩ h
         cases n with
         | zero => exact none_e h
         | succ n => ?_
         replace h : parityvol_Volume_Fill_l2_b r3 x12 (parityvol_Volume_Fill_l2 r3 x12 n) x20 x21 x22 = some y16 := h
         unfold parityvol_Volume_Fill_l2_b at h
         show CJ _ _ _ _ _ (([(48, .int .i64 (((x22 : Nat) : Int)))] : Slots) ++ forget _ _) (Arr bs x20 :: VolP bs bv x21 :: _)
         refine sR <| oP (P_lss (a := ((x22 : Nat) : Int)) (b := x12.layout_chunk) rfl rfl) rfl <| nT <| CJ_seq <| CJ_condP rfl bT_dec (fun hg6 => ?_) (fun hg6 => ?_)
         ·
          replace h := ite_t hg6 h
          refine kT <| CJ_seq <| CJ_block <| sR <| oM rfl rfl <| oA rfl rfl <| nT <| sR <| oM rfl rfl <| oM rfl rfl <| oP (P_nilCheck rfl) rfl <| oP (P_fieldAddr rfl ⟨_, _, _, Tryz.runUnderlying123, rfl, rfl, Tryz.sizeOf112, rfl⟩) rfl <| oP (P_fieldAddr rfl ⟨_, _, _, Tryz.runUnderlying112, rfl, rfl, Tryz.sizeOf3, rfl⟩) rfl <| oV (VJ_entX (Ent.transX (t1_ eR) (VolP_open (l := x21))) (fun _ => V_load rfl foc0 rfl Tryz.isAgg3)) rfl ?_
          obtain ⟨hg7, h⟩ := grd_Ie h
          refine oP (P_mul (a := x12.filled) (b := x21.layout_chunk) rfl rfl hg7) rfl <| oM rfl rfl ?_
          obtain ⟨hg8, h⟩ := grd_Ie h
          refine oP (P_add (a := (x12.filled * x21.layout_chunk)) (b := ((x22 : Nat) : Int)) rfl rfl hg8) rfl <| oO <| O_alloc Tryz.zeroValue3 rfl rfl fun b23 => oO <| O_store rfl rfl foc0 rfl rfl Tryz.sizeOf3 <| nT <| sR <| oM rfl rfl <| oM rfl rfl <| oV (V_load rfl foc0 rfl Tryz.isAgg3) rfl ?_
          obtain ⟨r24, hr25, h⟩ := bind_e h
          refine oO <| O_call (L_parityvol_Volume_others hr25) rfl Tryz.call77 (Dels.cons del2 (Dels.cons del1 Dels.nil)) rfl fun _ _ => oM rfl rfl <| oP (P_extract rfl rfl) rfl <| oP (P_extract rfl rfl) rfl <| oO <| O_alloc Tryz.zeroValue44 rfl rfl fun b26 => oO <| O_store rfl rfl foc0 rfl rfl Tryz.sizeOf44 <| oA rfl rfl <| nT <| CJ_seq <| sR <| oM rfl rfl <| oP (P_eql (a := r24.2.1) (b := (0 : Int)) rfl rfl) rfl <| nT <| CJ_condP rfl bT_dec (fun hg9 => ?_) (fun hg9 => ?_)
          ·
           replace h := ite_t hg9 h
           refine sR <| oO <| O_alloc Tryz.zeroValue40 rfl rfl fun b27 => oO <| O_store rfl rfl foc0 rfl rfl Tryz.sizeOf40 <| nT <| sR <| oM rfl rfl <| oM rfl rfl <| oP (P_makeFunc rfl rfl) rfl ?_
           obtain ⟨r28, hr29, h⟩ := bind_e h
           refine oO <| O_call (L_parityvol_Volume_on__parityvol_Volume_Fill_1 hr29) rfl Tryz.call78 (Dels.cons del2 (Dels.cons del3 (Dels.cons del1 (Dels.cons del0 (Dels.cons del0 Dels.nil))))) rfl fun _ _ => oA rfl rfl <| nT <| sR <| oM rfl rfl <| oP (P_eql (a := r28.1) (b := (0 : Int)) rfl rfl) rfl <| oM rfl rfl <| RJ_mbT rfl rfl rfl (fun hG30 => have hP31 : (r28.1 = (0 : Int)) := (bT_dec).1 hG30; V_load rfl foc3 rfl Tryz.isAgg40) <| RJ_mbT rfl rfl rfl (fun hG32 => have hP33 : (r28.1 = (0 : Int)) := (bT_dec).1 hG32; VJ_P (P_neq (a := r28.2.2.1) (b := (0 : Int)) (mbx hG32 rfl) rfl)) <| oP (P_pickAnd rfl (fun hh => mbx hh rfl) rfl) rfl <| nT <| CJ_condP rfl (bT_and bT_dec bT_dec) (fun hg10 => ?_) (fun hg10 => ?_)
           ·
            replace h := ite_t hg10 h
            refine sR <| oA rfl rfl <| oA rfl rfl <| nT <| CJ_ret <| QJ_then_ret <| QJ_block_ret <| QJ_then_ret <| QJ_round_ret <| QJ_block_ret <| QJ_then_ret <| QJ_block_ret <| QJ_then_ret <| QJ_round_ret <| QJ_block_ret <| QJ_then_ret ?_
            have hE := Option.some.inj h
            replace hE := seq_inr hK15 hE.symm
            replace hE := seq_inr hK6 hE.symm
            subst hE
            exact fE (res2 Tryz.results29 rfl rfl) () (t0_ (t3_ (eD (eD (eD eR)))))
           ·
            replace h := ite_f hg10 h
            refine kT <| sR <| oM rfl rfl <| oP (P_neq (a := r28.1) (b := (0 : Int)) rfl rfl) rfl <| nT <| CJ_condP rfl bT_dec (fun hg11 => ?_) (fun hg11 => ?_)
            ·
             replace h := ite_t hg11 h
             refine sR <| oM rfl rfl <| oA rfl rfl <| oA rfl rfl <| nT <| CJ_ret <| QJ_block_ret <| QJ_then_ret <| QJ_round_ret <| QJ_block_ret <| QJ_then_ret <| QJ_block_ret <| QJ_then_ret <| QJ_round_ret <| QJ_block_ret <| QJ_then_ret ?_
             have hE := Option.some.inj h
             replace hE := seq_inr hK15 hE.symm
             replace hE := seq_inr hK6 hE.symm
             subst hE
             exact fE (res2 Tryz.results29 rfl rfl) () (t0_ (t3_ (eD (eD (eD eR)))))
            ·
             replace h := ite_f hg11 h
             refine CJ_skip <| QJ_block_normal <| QJ_then <| CJ_region ?_
             obtain ⟨hg12, h⟩ := grd_Ne h
             exact oP (PJ_eq (P_add (a := ((x22 : Nat) : Int)) (b := (1 : Int)) rfl rfl (nat_in hg12)) rfl) rfl <| oM rfl rfl <| RJ_nil <| nR ⟨n, r28.2.2.2, r28.2.1, (x22 + 1)⟩ h ⟨rfl, True.intro⟩ (t4_ (t0_ (eD (eD (eD eR)))))
          ·
           replace h := ite_f hg9 h
           refine kT <| sR <| oM rfl rfl <| oP (P_neq (a := r24.2.1) (b := (0 : Int)) rfl rfl) rfl <| nT <| CJ_condP rfl bT_dec (fun hg13 => ?_) (fun hg13 => ?_)
           ·
            replace h := ite_t hg13 h
            refine sR <| oM rfl rfl <| oA rfl rfl <| oA rfl rfl <| nT <| CJ_ret <| QJ_block_ret <| QJ_then_ret <| QJ_round_ret <| QJ_block_ret <| QJ_then_ret <| QJ_block_ret <| QJ_then_ret <| QJ_round_ret <| QJ_block_ret <| QJ_then_ret ?_
            have hE := Option.some.inj h
            replace hE := seq_inr hK15 hE.symm
            replace hE := seq_inr hK6 hE.symm
            subst hE
            exact fE (res2 Tryz.results29 rfl rfl) () (t1_ (t1_ (eD (eD eR))))
           ·
            replace h := ite_f hg13 h
            refine CJ_skip <| QJ_block_normal <| QJ_then <| CJ_region ?_
            obtain ⟨hg14, h⟩ := grd_Ne h
            exact oP (PJ_eq (P_add (a := ((x22 : Nat) : Int)) (b := (1 : Int)) rfl rfl (nat_in hg14)) rfl) rfl <| oM rfl rfl <| RJ_nil <| nR ⟨n, x20, r24.2.2, (x22 + 1)⟩ h ⟨rfl, True.intro⟩ (t2_ (t1_ (eD (eD eR))))
         ·
          replace h := ite_f hg6 h
          exact CJ_exit <| QJ_then_exit <| QJ_round_exit <| QJ_block_here <| cR (x20, x21) (Option.some.inj h).symm True.intro eR
       ·
        rintro a19 hy34
        replace h := seq_inl hK15 hy34
        show CJ _ _ _ _ _ (([] : Slots) ++ forget _ _) (Arr bs a19.1 :: VolP bs bv a19.2 :: _)
        refine CJ_entX (Ent.transX (t1_ eR) (VolP_open (l := a19.2))) fun oc35 => CJ_pure (fun h hh => Rs_len (stars_perm (del2 (A := Rs (DevP bs) (a19.2.legs.map prtS.dev) oc35.2)).out h hh)) fun hdl37 => lC del1 fun hlen38 => ?_
        rw [mk_prt_len (by have := hdl37; simpa using this)] at hlen38
        refine CJ_region <| oM rfl rfl <| oP (P_nilCheck rfl) rfl <| oP (P_fieldAddr rfl ⟨_, _, _, Tryz.runUnderlying123, rfl, rfl, Tryz.sizeOf3, rfl⟩) rfl <| oV (V_load rfl foc0 rfl Tryz.isAgg3) rfl ?_
        obtain ⟨hg15, h⟩ := grd_Ie h
        refine oP (P_add (a := a19.2.filled) (b := (1 : Int)) rfl rfl hg15) rfl <| oP (P_nilCheck rfl) rfl <| oP (P_fieldAddr rfl ⟨_, _, _, Tryz.runUnderlying123, rfl, rfl, Tryz.sizeOf3, rfl⟩) rfl <| oO <| O_store rfl rfl foc0 rfl rfl Tryz.sizeOf3 <| RJ_nil <| QJ_ent (Ent.trans eR (VolP_mk (v0 := a19.2.layout_n) (v1 := a19.2.layout_chunk) (v2 := a19.2.layout_rows) (v3 := a19.2.legs) (v4 := a19.2.last_seq) (v5 := a19.2.last_offset) (v6 := a19.2.last_leg) (v7 := a19.2.last_word) (v8 := a19.2.last_parity) (v9 := a19.2.pending) (v10 := (a19.2.filled + (1 : Int))) (h0 := oc35.1) (h1 := oc35.2))) <| QJ_block_normal <| QJ_then <| CJ_region ?_
        obtain ⟨hg16, h⟩ := grd_Ne h
        exact oP (PJ_eq (P_add (a := ((x13 : Nat) : Int)) (b := (1 : Int)) rfl rfl (nat_in hg16)) rfl) rfl <| oM rfl rfl <| RJ_nil <| nR ⟨n, a19.1, { a19.2 with filled := (a19.2.filled + (1 : Int)) }, (x13 + 1)⟩ h ⟨rfl, True.intro⟩ (t1_ eR)
      ·
       replace h := ite_f hg5 h
       exact CJ_exit <| QJ_then_exit <| QJ_round_exit <| QJ_block_here <| cR (x12, x11) (Option.some.inj h).symm True.intro (t1_ eR)
    ·
     rintro a10 hy39
     replace h := seq_inl hK6 hy39
     show CJ _ _ _ _ _ (([] : Slots) ++ forget _ _) (VolP bs bv a10.1 :: Arr bs a10.2 :: _)
     refine sR <| oM rfl rfl <| oP (P_nilCheck rfl) rfl <| oP (P_fieldAddr rfl ⟨_, _, _, Tryz.runUnderlying123, rfl, rfl, Tryz.sizeOf3, rfl⟩) rfl <| oV (VJ_entX (Ent.transX (t0_ eR) (VolP_open (l := a10.1))) (fun _ => V_load rfl foc0 rfl Tryz.isAgg3)) rfl <| oA rfl rfl <| oA rfl rfl <| nT <| CJ_ret ?_
     cases h
     exact fE (res2 Tryz.results29 rfl rfl) () eR
def parityvol_Volume_Accept_1 (p0 : Dvc) (p1_v : VolS) (p2 : List UInt64) (s : ArrS) : Option (Int × ArrS) :=
  Option.bind (parityvol_slot p1_v.last_seq) fun r2 =>
  Option.bind (block_WriteAll p0 r2 p2 s) fun r4 =>
  some (r4.1, r4.2)
theorem L_parityvol_Volume_Accept_1 {W : World} {bp0 : Nat} {vp0 : IfH} {bp1 : Nat} {bp1_v : Nat} {bp2 : Nat} {Ap2 : HP} {vp2 : Value} {bs : Nat} {p0 : Dvc} {p1_v : VolS} {p2 : List UInt64} {s : ArrS} {r : Int × ArrS} (rp2 : Reads Ap2 tyU vp2 p2) (h : parityvol_Volume_Accept_1 p0 p1_v p2 s = some r) :
    CSpec Tryz.prog W 84 [ptr bp0 0, ptr bp1 0, ptr bp2 0] [blk bp0 79 [IfH.v vp0], DevP bs p0 vp0, blk bp1 65 [ptr bp1_v 0], VolP bs bp1_v p1_v, blk bp2 43 [vp2], Ap2, Arr bs s] (fun x : Unit => .int .i64 r.1) (fun _ => True) (fun x F => blk bp0 79 [IfH.v vp0] :: DevP bs p0 vp0 :: blk bp1 65 [ptr bp1_v 0] :: VolP bs bp1_v p1_v :: blk bp2 43 [vp2] :: Ap2 :: Arr bs r.2 :: F) := by
 refine CSpec.of_body Tryz.func84 rfl Tryz.ntmps84 rfl fun F => ?_
 show CJ _ _ _ _ _ _ (_ :: _ :: _ :: _ :: _ :: _ :: _ :: F)
 unfold parityvol_Volume_Accept_1 at h
 refine CJ_pure (len_of rp2 del5) fun hlen1 => sR <| oA rfl rfl <| nT <| CJ_seq <| AJ_startH 256 (by kernel_rfl) rfl <| aV 0 1 rfl rfl (GY_none rfl) eR (V_load rfl foc0 rfl Tryz.isAgg79) rfl <| aV 1 3 rfl rfl (GY_none rfl) eR (V_load rfl foc2 rfl Tryz.isAgg65) rfl <| aN 2 7 rfl rfl (P_nilCheck rfl) rfl <| aN 3 15 rfl rfl (P_fieldAddr rfl ⟨_, _, _, Tryz.runUnderlying123, rfl, rfl, Tryz.sizeOf121, rfl⟩) rfl <| aN 4 31 rfl rfl (P_fieldAddr rfl ⟨_, _, _, Tryz.runUnderlying121, rfl, rfl, Tryz.sizeOf44, rfl⟩) rfl <| aV 5 63 rfl rfl (GY_none rfl) eR (VJ_entX (Ent.transX (t3_ eR) (VolP_open (l := p1_v))) (fun _ => V_load rfl foc0 rfl Tryz.isAgg44)) rfl <| aV 7 191 rfl rfl (GY_none rfl) eR (V_load rfl foc4 rfl Tryz.isAgg43) rfl ?_
 obtain ⟨r2, hr3, h⟩ := bind_e h
 refine AJ_op 6 255 rfl (by kernel_rfl) rfl (GY_none rfl) <| O_call (L_parityvol_slot hr3) rfl Tryz.call85 Dels.nil rfl fun _ _ => ⟨fun _ => eR, ?_⟩
 obtain ⟨r4, hr5, h⟩ := bind_e h
 refine AJ_op 8 511 rfl (by kernel_rfl) rfl (GY_none rfl) <| O_call (L_block_WriteAll rp2 hr5) rfl Tryz.call66 (Dels.cons del1 (Dels.cons del4 (Dels.cons del4 Dels.nil))) rfl fun _ _ => ⟨fun h => absurd h (by decide), ?_⟩
 refine aN 9 1023 rfl rfl (P_assign rfl) rfl <| aD <| CJ_ret ?_
 cases h
 exact fE (res1 Tryz.results84 rfl) () (t3_ (t0_ (t2_ (t2_ (t2_ eR)))))
def parityvol_Volume_Accept_2 (p0 : Dvc) (p1_v : VolS) (s : ArrS) : Option (Int × ArrS) :=
  Option.bind (Dvc.wr p0 s (0 : Int) p1_v.last_seq) fun r3 =>
  some (r3.1, r3.2)
theorem L_parityvol_Volume_Accept_2 {W : World} {bp0 : Nat} {vp0 : IfH} {bp1 : Nat} {bp1_v : Nat} {bs : Nat} {p0 : Dvc} {p1_v : VolS} {s : ArrS} {r : Int × ArrS} (h : parityvol_Volume_Accept_2 p0 p1_v s = some r) :
    CSpec Tryz.prog W 86 [ptr bp0 0, ptr bp1 0] [blk bp0 79 [IfH.v vp0], DevP bs p0 vp0, blk bp1 65 [ptr bp1_v 0], VolP bs bp1_v p1_v, Arr bs s] (fun x : Unit => .int .i64 r.1) (fun _ => True) (fun x F => blk bp0 79 [IfH.v vp0] :: DevP bs p0 vp0 :: blk bp1 65 [ptr bp1_v 0] :: VolP bs bp1_v p1_v :: Arr bs r.2 :: F) := by
 refine CSpec.of_body Tryz.func86 rfl Tryz.ntmps86 rfl fun F => ?_
 show CJ _ _ _ _ _ _ (_ :: _ :: _ :: _ :: _ :: F)
 unfold parityvol_Volume_Accept_2 at h
 refine sR <| oA rfl rfl <| nT <| CJ_seq <| AJ_startH 512 (by kernel_rfl) rfl <| aV 0 1 rfl rfl (GY_none rfl) eR (V_load rfl foc0 rfl Tryz.isAgg79) rfl <| aV 1 3 rfl rfl (GY_none rfl) eR (V_load rfl foc2 rfl Tryz.isAgg65) rfl <| aN 2 7 rfl rfl (P_nilCheck rfl) rfl <| aN 3 15 rfl rfl (P_fieldAddr rfl ⟨_, _, _, Tryz.runUnderlying123, rfl, rfl, Tryz.sizeOf121, rfl⟩) rfl <| aN 4 31 rfl rfl (P_fieldAddr rfl ⟨_, _, _, Tryz.runUnderlying121, rfl, rfl, Tryz.sizeOf44, rfl⟩) rfl <| aV 5 63 rfl rfl (GY_none rfl) eR (VJ_entX (Ent.transX (t3_ eR) (VolP_open (l := p1_v))) (fun _ => V_load rfl foc0 rfl Tryz.isAgg44)) rfl <| aN 6 127 rfl rfl (P_makeFunc rfl rfl) rfl <| AJ_pure (fun h hh => DevP_nil h (stars_perm (del1 (A := DevP bs p0 vp0)).out h hh)) fun hnil1 => aN 7 255 rfl rfl (P_nilCheckM hnil1 rfl) rfl <| aN 8 511 rfl rfl (P_move rfl) rfl <| AJ_pure (fun h hh => DevP_dep h (stars_perm (del1 (A := DevP bs p0 vp0)).out h hh)) fun hdp2 => ?_
 obtain ⟨r3, hr4, h⟩ := bind_e h
 refine AJ_op 9 1023 rfl (by kernel_rfl) rfl (GY_none rfl) <| O_callI rfl (dev_Write hr4 hdp2) rfl (Dels.cons del1 (Dels.cons del3 Dels.nil)) rfl fun _ _ => ⟨fun h => absurd h (by decide), ?_⟩
 refine aN 10 2047 rfl rfl (P_assign rfl) rfl <| aD <| CJ_ret ?_
 cases h
 exact fE (res1 Tryz.results86 rfl) () (t2_ (t0_ (t1_ (t1_ eR))))
def parityvol_run_3 (steps_0_c0 : Dvc) (steps_0_c1_v : VolS) (steps_0_c2 : List UInt64) (steps_2 : Dvc) (s : ArrS) : Option (Int × ArrS) :=
  Option.bind (parityvol_Volume_Accept_1 steps_0_c0 steps_0_c1_v steps_0_c2 s) fun r2 =>
  if (r2.1 ≠ (0 : Int)) then
    some (r2.1, r2.2)
  else
    Option.bind (parityvol_Volume_Accept_2 steps_0_c0 steps_0_c1_v r2.2) fun r4 =>
    if (r4.1 ≠ (0 : Int)) then
      some (r4.1, r4.2)
    else
      Option.bind (Dvc.fl steps_2 r4.2) fun r7 =>
      if (r7.1 ≠ (0 : Int)) then
        some (r7.1, r7.2)
      else
        some (((0 : Int), r7.2))
theorem L_parityvol_run_3 {W : World} {bsteps : Nat} {bsteps_0_c0 : Nat} {vsteps_0_c0 : IfH} {bsteps_0_c1 : Nat} {bsteps_0_c1_v : Nat} {bsteps_0_c2 : Nat} {Asteps_0_c2 : HP} {vsteps_0_c2 : Value} {vsteps_2 : IfH} {bs : Nat} {steps_0_c0 : Dvc} {steps_0_c1_v : VolS} {steps_0_c2 : List UInt64} {steps_2 : Dvc} {s : ArrS} {r : Int × ArrS} (rsteps_0_c2 : Reads Asteps_0_c2 tyU vsteps_0_c2 steps_0_c2) (h : parityvol_run_3 steps_0_c0 steps_0_c1_v steps_0_c2 steps_2 s = some r) :
    CSpec Tryz.prog W 87 [.slice (some ⟨bsteps, 0, none⟩) 3 3] [blk bsteps 77 [.func (.func 84) #[] #[ptr bsteps_0_c0 0, ptr bsteps_0_c1 0, ptr bsteps_0_c2 0], .func (.func 86) #[] #[ptr bsteps_0_c0 0, ptr bsteps_0_c1 0], .func (.method "Flush") #[IfH.v vsteps_2] #[]], blk bsteps_0_c0 79 [IfH.v vsteps_0_c0], DevP bs steps_0_c0 vsteps_0_c0, blk bsteps_0_c1 65 [ptr bsteps_0_c1_v 0], VolP bs bsteps_0_c1_v steps_0_c1_v, blk bsteps_0_c2 43 [vsteps_0_c2], Asteps_0_c2, DevP bs steps_2 vsteps_2, Arr bs s] (fun x : Unit => .int .i64 r.1) (fun _ => True) (fun x F => blk bsteps 77 [.func (.func 84) #[] #[ptr bsteps_0_c0 0, ptr bsteps_0_c1 0, ptr bsteps_0_c2 0], .func (.func 86) #[] #[ptr bsteps_0_c0 0, ptr bsteps_0_c1 0], .func (.method "Flush") #[IfH.v vsteps_2] #[]] :: blk bsteps_0_c0 79 [IfH.v vsteps_0_c0] :: DevP bs steps_0_c0 vsteps_0_c0 :: blk bsteps_0_c1 65 [ptr bsteps_0_c1_v 0] :: VolP bs bsteps_0_c1_v steps_0_c1_v :: blk bsteps_0_c2 43 [vsteps_0_c2] :: Asteps_0_c2 :: DevP bs steps_2 vsteps_2 :: Arr bs r.2 :: F) := by
 refine CSpec.of_body Tryz.func87 rfl Tryz.ntmps87 rfl fun F => ?_
 show CJ _ _ _ _ _ _ (_ :: _ :: _ :: _ :: _ :: _ :: _ :: _ :: _ :: F)
 unfold parityvol_run_3 at h
 refine CJ_pure (len_of rsteps_0_c2 del6) fun hlen1 => sR <| oA rfl rfl <| nT <| CJ_seq <| sR <| oM rfl rfl <| oP (P_lenNil rfl Tryz.runUnderlying139) rfl <| oM rfl rfl <| nT <| CJ_block <| CJ_unroll <| sR <| oP (PJ_eq (P_lss (a := (0 : Int)) (b := (3 : Int)) rfl rfl) (by rfl)) rfl <| nT <| CJ_seq <| CJ_condT rfl rfl <| kT <| CJ_seq <| CJ_block <| sR <| oP (P_indexLit (i := 0) rfl rfl rfl Tryz.runUnderlying139 Tryz.sizeOf77) rfl <| oV (V_load rfl foc0 rfl Tryz.isAgg77) rfl <| oA rfl rfl <| nT <| sR <| oM rfl rfl ?_
 obtain ⟨r2, hr3, h⟩ := bind_e h
 refine oO <| O_callV rfl rfl (L_parityvol_Volume_Accept_1 rsteps_0_c2 hr3) Tryz.call84 (Dels.cons del1 (Dels.cons del1 (Dels.cons del1 (Dels.cons del1 (Dels.cons del1 (Dels.cons del1 (Dels.cons del2 Dels.nil))))))) rfl fun _ _ => oA rfl rfl <| nT <| sR <| oM rfl rfl <| oP (P_neq (a := r2.1) (b := (0 : Int)) rfl rfl) rfl <| nT <| CJ_condP rfl bT_dec (fun hg1 => ?_) (fun hg1 => ?_)
 ·
  replace h := ite_t hg1 h
  refine sR <| oM rfl rfl <| oA rfl rfl <| nT <| CJ_ret <| QJ_block_ret <| QJ_then_ret <| QJ_then_ret <| QJ_block_ret <| QJ_then_ret ?_
  cases h
  exact fE (res1 Tryz.results87 rfl) () (t7_ (t0_ (t0_ (t0_ (t0_ (t0_ (t0_ (t1_ eR))))))))
 ·
  replace h := ite_f hg1 h
  refine CJ_skip <| QJ_block_normal <| QJ_then <| CJ_region <| oP (PJ_eq (P_add (a := (0 : Int)) (b := (1 : Int)) rfl rfl (by decide)) (by rfl)) rfl <| oM rfl rfl <| RJ_nil <| QJ_again <| sR <| oP (PJ_eq (P_lss (a := (1 : Int)) (b := (3 : Int)) rfl rfl) (by rfl)) rfl <| nT <| CJ_seq <| CJ_condT rfl rfl <| kT <| CJ_seq <| CJ_block <| sR <| oP (P_indexLit (i := 1) rfl rfl rfl Tryz.runUnderlying139 Tryz.sizeOf77) rfl <| oV (V_load rfl foc7 rfl Tryz.isAgg77) rfl <| oA rfl rfl <| nT <| sR <| oM rfl rfl ?_
  obtain ⟨r4, hr5, h⟩ := bind_e h
  refine oO <| O_callV rfl rfl (L_parityvol_Volume_Accept_2 hr5) Tryz.call86 (Dels.cons del0 (Dels.cons del0 (Dels.cons del0 (Dels.cons del0 (Dels.cons del2 Dels.nil))))) rfl fun _ _ => oA rfl rfl <| nT <| sR <| oM rfl rfl <| oP (P_neq (a := r4.1) (b := (0 : Int)) rfl rfl) rfl <| nT <| CJ_condP rfl bT_dec (fun hg2 => ?_) (fun hg2 => ?_)
  ·
   replace h := ite_t hg2 h
   refine sR <| oM rfl rfl <| oA rfl rfl <| nT <| CJ_ret <| QJ_block_ret <| QJ_then_ret <| QJ_then_ret <| QJ_block_ret <| QJ_then_ret ?_
   cases h
   exact fE (res1 Tryz.results87 rfl) () (t7_ (t0_ (t0_ (t0_ (t0_ (t1_ (t1_ (t1_ eR))))))))
  ·
   replace h := ite_f hg2 h
   refine CJ_skip <| QJ_block_normal <| QJ_then <| CJ_region <| oP (PJ_eq (P_add (a := (1 : Int)) (b := (1 : Int)) rfl rfl (by decide)) (by rfl)) rfl <| oM rfl rfl <| RJ_nil <| QJ_again <| sR <| oP (PJ_eq (P_lss (a := (2 : Int)) (b := (3 : Int)) rfl rfl) (by rfl)) rfl <| nT <| CJ_seq <| CJ_condT rfl rfl <| kT <| CJ_seq <| CJ_block <| sR <| oP (P_indexLit (i := 2) rfl rfl rfl Tryz.runUnderlying139 Tryz.sizeOf77) rfl <| oV (V_load rfl foc7 rfl Tryz.isAgg77) rfl <| oA rfl rfl <| nT <| sR <| oM rfl rfl <| RJ_pure (fun h hh => DevP_dep h (stars_perm (del8 (A := DevP bs steps_2 vsteps_2)).out h hh)) fun hdp6 => ?_
   obtain ⟨r7, hr8, h⟩ := bind_e h
   refine oO <| O_callM rfl (dev_Flush hr8 hdp6) rfl (Dels.cons del8 (Dels.cons del4 Dels.nil)) rfl fun _ _ => oA rfl rfl <| nT <| sR <| oM rfl rfl <| oP (P_neq (a := r7.1) (b := (0 : Int)) rfl rfl) rfl <| nT <| CJ_condP rfl bT_dec (fun hg3 => ?_) (fun hg3 => ?_)
   ·
    replace h := ite_t hg3 h
    refine sR <| oM rfl rfl <| oA rfl rfl <| nT <| CJ_ret <| QJ_block_ret <| QJ_then_ret <| QJ_then_ret <| QJ_block_ret <| QJ_then_ret ?_
    cases h
    exact fE (res1 Tryz.results87 rfl) () (t8_ (t2_ (t2_ (t2_ (t2_ (t2_ (t2_ eR)))))))
   ·
    replace h := ite_f hg3 h
    refine CJ_skip <| QJ_block_normal <| QJ_then <| CJ_region <| oP (PJ_eq (P_add (a := (2 : Int)) (b := (1 : Int)) rfl rfl (by decide)) (by rfl)) rfl <| oM rfl rfl <| RJ_nil <| QJ_again <| sR <| oP (PJ_eq (P_lss (a := (3 : Int)) (b := (3 : Int)) rfl rfl) (by rfl)) rfl <| nT <| CJ_seq <| CJ_condF rfl rfl <| CJ_exit <| QJ_then_exit <| QJ_then_exit <| QJ_block_here <| QJ_then <| sR <| oA rfl rfl <| nT <| CJ_ret ?_
    cases h
    exact fE (res1 Tryz.results87 rfl) () (t8_ (t2_ (t2_ (t2_ (t2_ (t2_ (t2_ eR)))))))
def parityvol_Volume_Accept (v : VolS) (s : ArrS) : Option (Int × VolS × ArrS) :=
  Option.bind (parityvol_Volume_ready v s) fun r2 =>
  if (r2.1 ≠ (0 : Int)) then
    some (r2.1, r2.2.1, r2.2.2)
  else
    Option.bind (parityvol_Volume_staleLeg r2.2.1 r2.2.2) fun r4 =>
    if (r4 < (0 : Int)) then
      some (((20 : Int), r2.2.1, r2.2.2))
    else
      Option.bind (parityvol_Volume_Filled r2.2.1 r2.2.2) fun r6 =>
      if (¬ r6 = true) then
        some (((20 : Int), r2.2.1, r2.2.2))
      else
        Option.bind (parityvol_Volume_flush r2.2.1 r2.2.2) fun r8 =>
        if (r8.1 ≠ (0 : Int)) then
          some (r8.1, r8.2.1, r8.2.2)
        else
          grd (decide (0 ≤ r4 ∧ r4 < (r8.2.1.legs.length : Int))) <|
          Option.bind (parityvol_run_3 ((r8.2.1.legs.getD ((r4).toNat) prt_x0).dev) r8.2.1 ([((shl_u64 (to_u64 r8.2.1.last_offset) 3) ||| (to_u64 r8.2.1.last_leg)), r8.2.1.last_word, r8.2.1.last_parity]) ((r8.2.1.legs.getD ((r4).toNat) prt_x0).dev) r8.2.2) fun r1098 =>
          if (r1098.1 = (0 : Int)) then
            grd (decide (0 ≤ r4 ∧ r4 < (r8.2.1.legs.length : Int))) <|
            some (((0 : Int), { r8.2.1 with legs := (r8.2.1.legs.set ((r4).toNat) { r8.2.1.legs.getD ((r4).toNat) prt_x0 with stale := false }) }, r1098.2))
          else
            if (r1098.1 = (5 : Int)) then
              some (r1098.1, r8.2.1, r1098.2)
            else
              some (((20 : Int), { r8.2.1 with filled := (0 : Int) }, r1098.2))
theorem L_parityvol_Volume_Accept {W : World} {bv : Nat} {bs : Nat} {v : VolS} {s : ArrS} {r : Int × VolS × ArrS} (h : parityvol_Volume_Accept v s = some r) :
    CSpec Tryz.prog W 35 [ptr bv 0] [VolP bs bv v, Arr bs s] (fun x : Unit => .int .i64 r.1) (fun _ => True) (fun x F => VolP bs bv r.2.1 :: Arr bs r.2.2 :: F) := by
 refine CSpec.of_body Tryz.func35 rfl Tryz.ntmps35 rfl fun F => ?_
 show CJ _ _ _ _ _ _ (_ :: _ :: F)
 unfold parityvol_Volume_Accept at h
 refine sR <| oO <| O_box rfl rfl rfl fun b1 => oA rfl rfl <| nT <| CJ_seq <| sR <| oV (V_load rfl foc0 rfl Tryz.isAgg65) rfl ?_
 obtain ⟨r2, hr3, h⟩ := bind_e h
 refine oO <| O_call (L_parityvol_Volume_ready hr3) rfl Tryz.call73 (Dels.cons del1 (Dels.cons del1 Dels.nil)) rfl fun _ _ => oA rfl rfl <| nT <| sR <| oM rfl rfl <| oP (P_neq (a := r2.1) (b := (0 : Int)) rfl rfl) rfl <| nT <| CJ_condP rfl bT_dec (fun hg1 => ?_) (fun hg1 => ?_)
 ·
  replace h := ite_t hg1 h
  refine sR <| oM rfl rfl <| oA rfl rfl <| nT <| CJ_ret <| QJ_then_ret ?_
  cases h
  exact fE (res1 Tryz.results35 rfl) () (t0_ (t0_ (eD eR)))
 ·
  replace h := ite_f hg1 h
  refine kT <| sR <| oV (V_load rfl foc2 rfl Tryz.isAgg65) rfl ?_
  obtain ⟨r4, hr5, h⟩ := bind_e h
  refine oO <| O_call (L_parityvol_Volume_staleLeg hr5) rfl Tryz.call76 (Dels.cons del0 (Dels.cons del0 Dels.nil)) rfl fun _ _ => oA rfl rfl <| nT <| CJ_seq <| sR <| oM rfl rfl <| oP (P_lss (a := r4) (b := (0 : Int)) rfl rfl) rfl <| oM rfl rfl <| RJ_splitP 19 rfl bT_dec (fun hg2B hg2 => ?_) (fun hg2B hg2 => ?_)
  ·
   replace h := ite_t hg2 h
   refine RJ_gn (GY_no rfl rfl rfl hg2B) rfl rfl <| RJ_gn (GY_no rfl rfl rfl hg2B) rfl rfl <| RJ_gn (GY_no rfl rfl rfl hg2B) rfl rfl <| oP (P_pickT rfl hg2B rfl) rfl <| nT <| CJ_condT rfl rfl <| sR <| oA rfl rfl <| nT <| CJ_ret <| QJ_then_ret ?_
   cases h
   exact fE (res1 Tryz.results35 rfl) () (t0_ (t0_ (eD eR)))
  ·
   replace h := ite_f hg2 h
   refine gV (GY_yes rfl rfl rfl hg2B) (V_load rfl foc2 rfl Tryz.isAgg65) rfl ?_
   obtain ⟨r6, hr7, h⟩ := bind_e h
   refine RJ_gy (GY_yes rfl rfl rfl hg2B) <| O_call (L_parityvol_Volume_Filled hr7) rfl Tryz.call36 (Dels.cons del0 (Dels.cons del0 Dels.nil)) rfl fun _ _ => gP (GY_yes rfl rfl rfl hg2B) (P_not rfl) rfl <| oP (P_pickF rfl hg2B rfl) rfl <| nT <| CJ_condP rfl (bT_not Iff.rfl) (fun hg3 => ?_) (fun hg3 => ?_)
   ·
    replace h := ite_t hg3 h
    refine sR <| oA rfl rfl <| nT <| CJ_ret <| QJ_then_ret ?_
    cases h
    exact fE (res1 Tryz.results35 rfl) () (t0_ (t0_ (eD eR)))
   ·
    replace h := ite_f hg3 h
    refine kT <| CJ_seq <| sR <| oV (V_load rfl foc2 rfl Tryz.isAgg65) rfl ?_
    obtain ⟨r8, hr9, h⟩ := bind_e h
    refine oO <| O_call (L_parityvol_Volume_flush hr9) rfl Tryz.call83 (Dels.cons del0 (Dels.cons del0 Dels.nil)) rfl fun _ _ => oA rfl rfl <| nT <| sR <| oM rfl rfl <| oP (P_neq (a := r8.1) (b := (0 : Int)) rfl rfl) rfl <| nT <| CJ_condP rfl bT_dec (fun hg4 => ?_) (fun hg4 => ?_)
    ·
     replace h := ite_t hg4 h
     refine sR <| oM rfl rfl <| oA rfl rfl <| nT <| CJ_ret <| QJ_then_ret ?_
     cases h
     exact fE (res1 Tryz.results35 rfl) () (t0_ (t0_ (eD eR)))
    ·
     replace h := ite_f hg4 h
     refine kT <| CJ_seq <| AJ_startH 83886080 (by kernel_rfl) rfl <| aV 0 1 rfl rfl (GY_none rfl) eR (V_load rfl foc2 rfl Tryz.isAgg65) rfl <| aN 1 3 rfl rfl (P_nilCheck rfl) rfl <| aN 2 7 rfl rfl (P_fieldAddr rfl ⟨_, _, _, Tryz.runUnderlying123, rfl, rfl, Tryz.sizeOf121, rfl⟩) rfl <| aN 3 15 rfl rfl (P_fieldAddr rfl ⟨_, _, _, Tryz.runUnderlying121, rfl, rfl, Tryz.sizeOf3, rfl⟩) rfl <| aV 4 31 rfl rfl (GY_none rfl) eR (VJ_entX (Ent.transX (t0_ eR) (VolP_open (l := r8.2.1))) (fun _ => V_load rfl foc0 rfl Tryz.isAgg3)) rfl <| aN 5 63 rfl rfl (P_conv_u64 (a := r8.2.1.last_offset) rfl Tryz.runUnderlying3 Tryz.runUnderlying44) rfl <| aN 6 127 rfl rfl (P_shl_u64 (a := (to_u64 r8.2.1.last_offset)) (m := 3) rfl rfl rfl) rfl <| aV 7 255 rfl rfl (GY_none rfl) eR (V_load rfl foc2 rfl Tryz.isAgg65) rfl <| aN 8 511 rfl rfl (P_nilCheck rfl) rfl <| aN 9 1023 rfl rfl (P_fieldAddr rfl ⟨_, _, _, Tryz.runUnderlying123, rfl, rfl, Tryz.sizeOf121, rfl⟩) rfl <| aN 10 2047 rfl rfl (P_fieldAddr rfl ⟨_, _, _, Tryz.runUnderlying121, rfl, rfl, Tryz.sizeOf3, rfl⟩) rfl <| aV 11 4095 rfl rfl (GY_none rfl) eR (VJ_entX (Ent.transX (t0_ eR) (VolP_open (l := r8.2.1))) (fun _ => V_load rfl foc0 rfl Tryz.isAgg3)) rfl <| aN 12 8191 rfl rfl (P_conv_u64 (a := r8.2.1.last_leg) rfl Tryz.runUnderlying3 Tryz.runUnderlying44) rfl <| aN 13 16383 rfl rfl (P_or_u64 (a := (shl_u64 (to_u64 r8.2.1.last_offset) 3)) (b := (to_u64 r8.2.1.last_leg)) rfl rfl) rfl ?_
     refine aV 14 32767 rfl rfl (GY_none rfl) eR (V_load rfl foc2 rfl Tryz.isAgg65) rfl <| aN 15 65535 rfl rfl (P_nilCheck rfl) rfl <| aN 16 131071 rfl rfl (P_fieldAddr rfl ⟨_, _, _, Tryz.runUnderlying123, rfl, rfl, Tryz.sizeOf121, rfl⟩) rfl <| aN 17 262143 rfl rfl (P_fieldAddr rfl ⟨_, _, _, Tryz.runUnderlying121, rfl, rfl, Tryz.sizeOf44, rfl⟩) rfl <| aV 18 524287 rfl rfl (GY_none rfl) eR (VJ_entX (Ent.transX (t0_ eR) (VolP_open (l := r8.2.1))) (fun _ => V_load rfl foc0 rfl Tryz.isAgg44)) rfl <| aV 19 1048575 rfl rfl (GY_none rfl) eR (V_load rfl foc2 rfl Tryz.isAgg65) rfl <| aN 20 2097151 rfl rfl (P_nilCheck rfl) rfl <| aN 21 4194303 rfl rfl (P_fieldAddr rfl ⟨_, _, _, Tryz.runUnderlying123, rfl, rfl, Tryz.sizeOf121, rfl⟩) rfl <| aN 22 8388607 rfl rfl (P_fieldAddr rfl ⟨_, _, _, Tryz.runUnderlying121, rfl, rfl, Tryz.sizeOf44, rfl⟩) rfl <| aV 23 16777215 rfl rfl (GY_none rfl) eR (VJ_entX (Ent.transX (t0_ eR) (VolP_open (l := r8.2.1))) (fun _ => V_load rfl foc0 rfl Tryz.isAgg44)) rfl <| AJ_two 24 25 33554431 50331647 rfl rfl (by kernel_rfl) rfl rfl (GY_none rfl) (GY_none rfl) ?_ ?_
     ·
      refine O_buildSlice rfl (bs_43_3_0_1_2 _ _ _) rfl fun b970 => ⟨fun h => absurd h (by decide), ?_⟩
      refine AJ_ent (Ent.trans (t0_ eR) (sl_of_lit (t := tyU) (m := 3) [((shl_u64 (to_u64 r8.2.1.last_offset) 3) ||| (to_u64 r8.2.1.last_leg)), r8.2.1.last_word, r8.2.1.last_parity] rfl rfl rfl (by decide))) <| AJ_op 25 67108863 rfl (by kernel_rfl) rfl (GY_none rfl) <| O_alloc Tryz.zeroValue43 rfl rfl fun b1010 => ⟨fun _ => (t2_ (t2_ (t2_ (eD (eD eR))))), ?_⟩
      refine AJ_op 26 134217727 rfl (by kernel_rfl) rfl (GY_none rfl) <| O_store rfl rfl foc0 rfl rfl Tryz.sizeOf43 <| ⟨fun h => absurd h (by decide), ?_⟩
      refine aD <| CJ_seq <| CJ_entX (Ent.transX (t2_ eR) (VolP_open (l := r8.2.1))) fun oc1090 => CJ_pure (fun h hh => Rs_len (stars_perm (del2 (A := Rs (DevP bs) (r8.2.1.legs.map prtS.dev) oc1090.2)).out h hh)) fun hdl1092 => lC del1 fun hlen1093 => ?_
      rw [mk_prt_len (by have := hdl1092; simpa using this)] at hlen1093
      refine CJ_region <| oV (V_load rfl foc6 rfl Tryz.isAgg65) rfl <| oP (P_nilCheck rfl) rfl <| oP (P_fieldAddr rfl ⟨_, _, _, Tryz.runUnderlying123, rfl, rfl, Tryz.sizeOf119, rfl⟩) rfl <| oV (V_load rfl foc0 rfl Tryz.isAgg119) rfl <| oM rfl rfl ?_
      obtain ⟨hg5, h⟩ := grd_de h
      refine oV (V_index (i := (r4).toNat) rfl rfl (Int.toNat_of_nonneg (hg5.1)).symm (show (r4).toNat < (mk_prt r8.2.1.legs oc1090.2).length by rw [mk_prt_len (by have := hdl1092; simpa using this)]; exact (by omega)) foc1 (Reads.sl _ _ _) Tryz.runUnderlying119 Tryz.sizeOf126) rfl <| oP (P_fieldE rfl ⟨_, _, _, Tryz.runUnderlying126, rfl, rfl, Tryz.sizeOf79, rfl⟩) rfl <| RJ_ent (Ent.trans (t2_ eR) (mk_prt_rs (i := (r4).toNat) (by omega))) <| oV (VJ_eq (V_loadE rfl rfl (show (r4).toNat < (mk_prt r8.2.1.legs oc1090.2).length by rw [mk_prt_len (by have := hdl1092; simpa using this)]; exact (by omega)) foc3 (Reads.sl _ _ _) rfl rfl Tryz.isAgg79) (show (IfH.v ((oc1090.2.getD ((r4).toNat) tyDev.dflt)) : Value) = IfH.v ((mk_prt r8.2.1.legs oc1090.2).getD ((r4).toNat) prt_h0).dev from by rw [mk_prt_at (by have := hdl1092; simpa using this)])) rfl <| oO <| O_alloc Tryz.zeroValue79 rfl rfl fun b1095 => oO <| O_store rfl rfl foc0 rfl rfl Tryz.sizeOf79 <| RJ_nil <| QJ_ent (Ent.trans (t3_ (t3_ (t2_ eR))) (VolP_mk (v0 := r8.2.1.layout_n) (v1 := r8.2.1.layout_chunk) (v2 := r8.2.1.layout_rows) (v3 := r8.2.1.legs) (v4 := r8.2.1.last_seq) (v5 := r8.2.1.last_offset) (v6 := r8.2.1.last_leg) (v7 := r8.2.1.last_word) (v8 := r8.2.1.last_parity) (v9 := r8.2.1.pending) (v10 := r8.2.1.filled) (h0 := oc1090.1) (h1 := oc1090.2))) <| QJ_then <| sR <| oP (P_makeFunc rfl rfl) rfl <| oP (P_makeFunc rfl rfl) rfl <| oV (V_load rfl foc1 rfl Tryz.isAgg79) rfl ?_
      refine oP (P_nilCheckI rfl) rfl <| oP (P_makeFunc rfl rfl) rfl <| oO <| O_buildSlice rfl (bs_139_3_0_1_2 _ _ _ _ _ _ _ _ _) rfl fun b1096 => oA rfl rfl <| nT <| CJ_seq <| sR <| oM rfl rfl <| RJ_ent (Ent.trans (t3_ eR) (fun h hh => stars_dup Dup_DevP hh)) ?_
      obtain ⟨r1098, hr1099, h⟩ := bind_e h
      refine oO <| O_call (L_parityvol_run_3 (Reads.sl _ _ _) hr1099) rfl Tryz.call87 (Dels.cons del2 (Dels.cons del3 (Dels.cons del1 (Dels.cons del5 (Dels.cons del1 (Dels.cons del1 (Dels.cons del1 (Dels.cons del0 (Dels.cons del0 Dels.nil))))))))) rfl fun _ _ => oA rfl rfl <| RJ_nil <| QJ_ent (t3_ (t3_ (t6_ (eD (eD (eD (eD (eD (eD eR))))))))) <| QJ_then <| sR <| oM rfl rfl <| nT <| CJ_block <| sR <| oP (P_eql (a := r1098.1) (b := (0 : Int)) rfl rfl) rfl <| oA rfl rfl <| nT <| CJ_condP rfl bT_dec (fun hg6 => ?_) (fun hg6 => ?_)
      ·
       replace h := ite_t hg6 h
       refine CJ_seq <| CJ_entX (Ent.transX (t1_ eR) (VolP_open (l := r8.2.1))) fun oc1100 => CJ_pure (fun h hh => Rs_len (stars_perm (del2 (A := Rs (DevP bs) (r8.2.1.legs.map prtS.dev) oc1100.2)).out h hh)) fun hdl1102 => lC del1 fun hlen1103 => ?_
       rw [mk_prt_len (by have := hdl1102; simpa using this)] at hlen1103
       refine CJ_region <| oV (V_load rfl foc3 rfl Tryz.isAgg65) rfl <| oP (P_nilCheck rfl) rfl <| oP (P_fieldAddr rfl ⟨_, _, _, Tryz.runUnderlying123, rfl, rfl, Tryz.sizeOf119, rfl⟩) rfl <| oV (V_load rfl foc0 rfl Tryz.isAgg119) rfl <| oM rfl rfl ?_
       obtain ⟨hg7, h⟩ := grd_de h
       refine oV (V_index (i := (r4).toNat) rfl rfl (Int.toNat_of_nonneg (hg7.1)).symm (show (r4).toNat < (mk_prt r8.2.1.legs oc1100.2).length by rw [mk_prt_len (by have := hdl1102; simpa using this)]; exact (by omega)) foc1 (Reads.sl _ _ _) Tryz.runUnderlying119 Tryz.sizeOf126) rfl <| oP (P_fieldE rfl ⟨_, _, _, Tryz.runUnderlying126, rfl, rfl, Tryz.sizeOf4, rfl⟩) rfl <| oO <| O_storeE (x' := { (mk_prt r8.2.1.legs oc1100.2).getD ((r4).toNat) prt_h0 with stale := false }) rfl rfl rfl (show (r4).toNat < (mk_prt r8.2.1.legs oc1100.2).length by rw [mk_prt_len (by have := hdl1102; simpa using this)]; exact (by omega)) foc1 rfl rfl rfl Tryz.sizeOf4 <| RJ_ent (Ent.takeC (A' := sl typrtH (Sl3.v oc1100.1) (mk_prt (r8.2.1.legs.set ((r4).toNat) { r8.2.1.legs.getD ((r4).toNat) prt_x0 with stale := false }) oc1100.2)) del1 (congrArg (sl typrtH (Sl3.v oc1100.1)) (mk_prt_set_stale (by have := hdl1102; simpa using this) (by omega) false)) (Ent.takeC (A' := Rs (DevP bs) (((r8.2.1.legs.set ((r4).toNat) { r8.2.1.legs.getD ((r4).toNat) prt_x0 with stale := false })).map prtS.dev) oc1100.2) del1 (congrArg (fun z => Rs (DevP bs) z oc1100.2) (mk_prt_dev_stale (l := r8.2.1.legs) (i := ((r4).toNat)) false).symm) eR)) <| RJ_pure (fun h hh => Rs_len (stars_perm (del1 (A := Rs (DevP bs) ((((r8.2.1.legs.set ((r4).toNat) { r8.2.1.legs.getD ((r4).toNat) prt_x0 with stale := false })).map prtS.dev)) oc1100.2)).out h hh)) fun hdl1104 => RJ_nil ?_
       refine QJ_ent (Ent.trans (t2_ eR) (VolP_mk (v0 := r8.2.1.layout_n) (v1 := r8.2.1.layout_chunk) (v2 := r8.2.1.layout_rows) (v3 := (r8.2.1.legs.set ((r4).toNat) { r8.2.1.legs.getD ((r4).toNat) prt_x0 with stale := false })) (v4 := r8.2.1.last_seq) (v5 := r8.2.1.last_offset) (v6 := r8.2.1.last_leg) (v7 := r8.2.1.last_word) (v8 := r8.2.1.last_parity) (v9 := r8.2.1.pending) (v10 := r8.2.1.filled) (h0 := oc1100.1) (h1 := oc1100.2))) <| QJ_then <| sR <| oA rfl rfl <| nT <| CJ_ret <| QJ_block_ret <| QJ_then_ret ?_
       cases h
       exact fE (res1 Tryz.results35 rfl) () (t0_ (t1_ (eD eR)))
      ·
       replace h := ite_f hg6 h
       refine sR <| oP (P_eql (a := r1098.1) (b := (5 : Int)) rfl rfl) rfl <| oA rfl rfl <| nT <| CJ_condP rfl bT_dec (fun hg8 => ?_) (fun hg8 => ?_)
       ·
        replace h := ite_t hg8 h
        refine sR <| oM rfl rfl <| oA rfl rfl <| nT <| CJ_ret <| QJ_block_ret <| QJ_then_ret ?_
        cases h
        exact fE (res1 Tryz.results35 rfl) () (t1_ (t1_ (eD eR)))
       ·
        replace h := ite_f hg8 h
        refine CJ_skip <| QJ_block_normal <| QJ_then <| CJ_seq <| CJ_entX (Ent.transX (t1_ eR) (VolP_open (l := r8.2.1))) fun oc1105 => CJ_pure (fun h hh => Rs_len (stars_perm (del2 (A := Rs (DevP bs) (r8.2.1.legs.map prtS.dev) oc1105.2)).out h hh)) fun hdl1107 => lC del1 fun hlen1108 => ?_
        rw [mk_prt_len (by have := hdl1107; simpa using this)] at hlen1108
        refine CJ_region <| oV (V_load rfl foc3 rfl Tryz.isAgg65) rfl <| oP (P_nilCheck rfl) rfl <| oP (P_fieldAddr rfl ⟨_, _, _, Tryz.runUnderlying123, rfl, rfl, Tryz.sizeOf3, rfl⟩) rfl <| oO <| O_store rfl rfl foc0 rfl rfl Tryz.sizeOf3 <| RJ_nil <| QJ_ent (Ent.trans eR (VolP_mk (v0 := r8.2.1.layout_n) (v1 := r8.2.1.layout_chunk) (v2 := r8.2.1.layout_rows) (v3 := r8.2.1.legs) (v4 := r8.2.1.last_seq) (v5 := r8.2.1.last_offset) (v6 := r8.2.1.last_leg) (v7 := r8.2.1.last_word) (v8 := r8.2.1.last_parity) (v9 := r8.2.1.pending) (v10 := (0 : Int)) (h0 := oc1105.1) (h1 := oc1105.2))) <| QJ_then <| sR <| oA rfl rfl <| nT <| CJ_ret ?_
        cases h
        exact fE (res1 Tryz.results35 rfl) () (t0_ (t1_ (eD eR)))
     ·
      refine O_alloc Tryz.zeroValue43 rfl rfl fun b1010 => ⟨fun _ => (t1_ (t1_ (t1_ (eD eR)))), ?_⟩
      refine AJ_op 24 67108863 rfl (by kernel_rfl) rfl (GY_none rfl) <| O_buildSlice rfl (bs_43_3_0_1_2 _ _ _) rfl fun b970 => ⟨fun h => absurd h (by decide), ?_⟩
      refine AJ_ent (Ent.trans (t0_ eR) (sl_of_lit (t := tyU) (m := 3) [((shl_u64 (to_u64 r8.2.1.last_offset) 3) ||| (to_u64 r8.2.1.last_leg)), r8.2.1.last_word, r8.2.1.last_parity] rfl rfl rfl (by decide))) <| AJ_op 26 134217727 rfl (by kernel_rfl) rfl (GY_none rfl) <| O_store rfl rfl foc1 rfl rfl Tryz.sizeOf43 <| ⟨fun h => absurd h (by decide), ?_⟩
      refine aD <| CJ_seq <| CJ_entX (Ent.transX (t2_ eR) (VolP_open (l := r8.2.1))) fun oc1090 => CJ_pure (fun h hh => Rs_len (stars_perm (del2 (A := Rs (DevP bs) (r8.2.1.legs.map prtS.dev) oc1090.2)).out h hh)) fun hdl1092 => lC del1 fun hlen1093 => ?_
      rw [mk_prt_len (by have := hdl1092; simpa using this)] at hlen1093
      refine CJ_region <| oV (V_load rfl foc6 rfl Tryz.isAgg65) rfl <| oP (P_nilCheck rfl) rfl <| oP (P_fieldAddr rfl ⟨_, _, _, Tryz.runUnderlying123, rfl, rfl, Tryz.sizeOf119, rfl⟩) rfl <| oV (V_load rfl foc0 rfl Tryz.isAgg119) rfl <| oM rfl rfl ?_
      obtain ⟨hg5, h⟩ := grd_de h
      refine oV (V_index (i := (r4).toNat) rfl rfl (Int.toNat_of_nonneg (hg5.1)).symm (show (r4).toNat < (mk_prt r8.2.1.legs oc1090.2).length by rw [mk_prt_len (by have := hdl1092; simpa using this)]; exact (by omega)) foc1 (Reads.sl _ _ _) Tryz.runUnderlying119 Tryz.sizeOf126) rfl <| oP (P_fieldE rfl ⟨_, _, _, Tryz.runUnderlying126, rfl, rfl, Tryz.sizeOf79, rfl⟩) rfl <| RJ_ent (Ent.trans (t2_ eR) (mk_prt_rs (i := (r4).toNat) (by omega))) <| oV (VJ_eq (V_loadE rfl rfl (show (r4).toNat < (mk_prt r8.2.1.legs oc1090.2).length by rw [mk_prt_len (by have := hdl1092; simpa using this)]; exact (by omega)) foc3 (Reads.sl _ _ _) rfl rfl Tryz.isAgg79) (show (IfH.v ((oc1090.2.getD ((r4).toNat) tyDev.dflt)) : Value) = IfH.v ((mk_prt r8.2.1.legs oc1090.2).getD ((r4).toNat) prt_h0).dev from by rw [mk_prt_at (by have := hdl1092; simpa using this)])) rfl <| oO <| O_alloc Tryz.zeroValue79 rfl rfl fun b1095 => oO <| O_store rfl rfl foc0 rfl rfl Tryz.sizeOf79 <| RJ_nil <| QJ_ent (Ent.trans (t3_ (t3_ (t2_ eR))) (VolP_mk (v0 := r8.2.1.layout_n) (v1 := r8.2.1.layout_chunk) (v2 := r8.2.1.layout_rows) (v3 := r8.2.1.legs) (v4 := r8.2.1.last_seq) (v5 := r8.2.1.last_offset) (v6 := r8.2.1.last_leg) (v7 := r8.2.1.last_word) (v8 := r8.2.1.last_parity) (v9 := r8.2.1.pending) (v10 := r8.2.1.filled) (h0 := oc1090.1) (h1 := oc1090.2))) <| QJ_then <| sR <| oP (P_makeFunc rfl rfl) rfl <| oP (P_makeFunc rfl rfl) rfl <| oV (V_load rfl foc1 rfl Tryz.isAgg79) rfl ?_
      refine oP (P_nilCheckI rfl) rfl <| oP (P_makeFunc rfl rfl) rfl <| oO <| O_buildSlice rfl (bs_139_3_0_1_2 _ _ _ _ _ _ _ _ _) rfl fun b1096 => oA rfl rfl <| nT <| CJ_seq <| sR <| oM rfl rfl <| RJ_ent (Ent.trans (t3_ eR) (fun h hh => stars_dup Dup_DevP hh)) ?_
      obtain ⟨r1098, hr1099, h⟩ := bind_e h
      refine oO <| O_call (L_parityvol_run_3 (Reads.sl _ _ _) hr1099) rfl Tryz.call87 (Dels.cons del2 (Dels.cons del3 (Dels.cons del1 (Dels.cons del5 (Dels.cons del1 (Dels.cons del2 (Dels.cons del1 (Dels.cons del0 (Dels.cons del0 Dels.nil))))))))) rfl fun _ _ => oA rfl rfl <| RJ_nil <| QJ_ent (t3_ (t3_ (t6_ (eD (eD (eD (eD (eD (eD eR))))))))) <| QJ_then <| sR <| oM rfl rfl <| nT <| CJ_block <| sR <| oP (P_eql (a := r1098.1) (b := (0 : Int)) rfl rfl) rfl <| oA rfl rfl <| nT <| CJ_condP rfl bT_dec (fun hg6 => ?_) (fun hg6 => ?_)
      ·
       replace h := ite_t hg6 h
       refine CJ_seq <| CJ_entX (Ent.transX (t1_ eR) (VolP_open (l := r8.2.1))) fun oc1100 => CJ_pure (fun h hh => Rs_len (stars_perm (del2 (A := Rs (DevP bs) (r8.2.1.legs.map prtS.dev) oc1100.2)).out h hh)) fun hdl1102 => lC del1 fun hlen1103 => ?_
       rw [mk_prt_len (by have := hdl1102; simpa using this)] at hlen1103
       refine CJ_region <| oV (V_load rfl foc3 rfl Tryz.isAgg65) rfl <| oP (P_nilCheck rfl) rfl <| oP (P_fieldAddr rfl ⟨_, _, _, Tryz.runUnderlying123, rfl, rfl, Tryz.sizeOf119, rfl⟩) rfl <| oV (V_load rfl foc0 rfl Tryz.isAgg119) rfl <| oM rfl rfl ?_
       obtain ⟨hg7, h⟩ := grd_de h
       refine oV (V_index (i := (r4).toNat) rfl rfl (Int.toNat_of_nonneg (hg7.1)).symm (show (r4).toNat < (mk_prt r8.2.1.legs oc1100.2).length by rw [mk_prt_len (by have := hdl1102; simpa using this)]; exact (by omega)) foc1 (Reads.sl _ _ _) Tryz.runUnderlying119 Tryz.sizeOf126) rfl <| oP (P_fieldE rfl ⟨_, _, _, Tryz.runUnderlying126, rfl, rfl, Tryz.sizeOf4, rfl⟩) rfl <| oO <| O_storeE (x' := { (mk_prt r8.2.1.legs oc1100.2).getD ((r4).toNat) prt_h0 with stale := false }) rfl rfl rfl (show (r4).toNat < (mk_prt r8.2.1.legs oc1100.2).length by rw [mk_prt_len (by have := hdl1102; simpa using this)]; exact (by omega)) foc1 rfl rfl rfl Tryz.sizeOf4 <| RJ_ent (Ent.takeC (A' := sl typrtH (Sl3.v oc1100.1) (mk_prt (r8.2.1.legs.set ((r4).toNat) { r8.2.1.legs.getD ((r4).toNat) prt_x0 with stale := false }) oc1100.2)) del1 (congrArg (sl typrtH (Sl3.v oc1100.1)) (mk_prt_set_stale (by have := hdl1102; simpa using this) (by omega) false)) (Ent.takeC (A' := Rs (DevP bs) (((r8.2.1.legs.set ((r4).toNat) { r8.2.1.legs.getD ((r4).toNat) prt_x0 with stale := false })).map prtS.dev) oc1100.2) del1 (congrArg (fun z => Rs (DevP bs) z oc1100.2) (mk_prt_dev_stale (l := r8.2.1.legs) (i := ((r4).toNat)) false).symm) eR)) <| RJ_pure (fun h hh => Rs_len (stars_perm (del1 (A := Rs (DevP bs) ((((r8.2.1.legs.set ((r4).toNat) { r8.2.1.legs.getD ((r4).toNat) prt_x0 with stale := false })).map prtS.dev)) oc1100.2)).out h hh)) fun hdl1104 => RJ_nil ?_
       refine QJ_ent (Ent.trans (t2_ eR) (VolP_mk (v0 := r8.2.1.layout_n) (v1 := r8.2.1.layout_chunk) (v2 := r8.2.1.layout_rows) (v3 := (r8.2.1.legs.set ((r4).toNat) { r8.2.1.legs.getD ((r4).toNat) prt_x0 with stale := false })) (v4 := r8.2.1.last_seq) (v5 := r8.2.1.last_offset) (v6 := r8.2.1.last_leg) (v7 := r8.2.1.last_word) (v8 := r8.2.1.last_parity) (v9 := r8.2.1.pending) (v10 := r8.2.1.filled) (h0 := oc1100.1) (h1 := oc1100.2))) <| QJ_then <| sR <| oA rfl rfl <| nT <| CJ_ret <| QJ_block_ret <| QJ_then_ret ?_
       cases h
       exact fE (res1 Tryz.results35 rfl) () (t0_ (t1_ (eD eR)))
      ·
       replace h := ite_f hg6 h
       refine sR <| oP (P_eql (a := r1098.1) (b := (5 : Int)) rfl rfl) rfl <| oA rfl rfl <| nT <| CJ_condP rfl bT_dec (fun hg8 => ?_) (fun hg8 => ?_)
       ·
        replace h := ite_t hg8 h
        refine sR <| oM rfl rfl <| oA rfl rfl <| nT <| CJ_ret <| QJ_block_ret <| QJ_then_ret ?_
        cases h
        exact fE (res1 Tryz.results35 rfl) () (t1_ (t1_ (eD eR)))
       ·
        replace h := ite_f hg8 h
        refine CJ_skip <| QJ_block_normal <| QJ_then <| CJ_seq <| CJ_entX (Ent.transX (t1_ eR) (VolP_open (l := r8.2.1))) fun oc1105 => CJ_pure (fun h hh => Rs_len (stars_perm (del2 (A := Rs (DevP bs) (r8.2.1.legs.map prtS.dev) oc1105.2)).out h hh)) fun hdl1107 => lC del1 fun hlen1108 => ?_
        rw [mk_prt_len (by have := hdl1107; simpa using this)] at hlen1108
        refine CJ_region <| oV (V_load rfl foc3 rfl Tryz.isAgg65) rfl <| oP (P_nilCheck rfl) rfl <| oP (P_fieldAddr rfl ⟨_, _, _, Tryz.runUnderlying123, rfl, rfl, Tryz.sizeOf3, rfl⟩) rfl <| oO <| O_store rfl rfl foc0 rfl rfl Tryz.sizeOf3 <| RJ_nil <| QJ_ent (Ent.trans eR (VolP_mk (v0 := r8.2.1.layout_n) (v1 := r8.2.1.layout_chunk) (v2 := r8.2.1.layout_rows) (v3 := r8.2.1.legs) (v4 := r8.2.1.last_seq) (v5 := r8.2.1.last_offset) (v6 := r8.2.1.last_leg) (v7 := r8.2.1.last_word) (v8 := r8.2.1.last_parity) (v9 := r8.2.1.pending) (v10 := (0 : Int)) (h0 := oc1105.1) (h1 := oc1105.2))) <| QJ_then <| sR <| oA rfl rfl <| nT <| CJ_ret ?_
        cases h
        exact fE (res1 Tryz.results35 rfl) () (t0_ (t1_ (eD eR)))
end Go.Proofs
set_option linter.unusedSimpArgs false
set_option linter.unusedVariables false
set_option maxRecDepth 20000
set_option maxHeartbeats 4000000
namespace Go.Proofs
open Go.VG
def smallT (t : List Sec) : Bool := t.all fun x => Nat.ble x.some.length 100000
theorem smallT_at {t : List Sec} (h : smallT t = true) (i : Nat) : (t.getD i s0).some.length ≤ 100000 := by
  unfold smallT at h
  rw [List.all_eq_true] at h
  rcases Nat.lt_or_ge i t.length with h1 | h1
  · have := h t[i] (List.getElem_mem h1)
    have e : t.getD i s0 = t[i] := by simp [List.getD, h1]
    rw [e]; exact Nat.le_of_ble_eq_true this
  · have e : t.getD i s0 = s0 := by simp [List.getD, List.getElem?_eq_none h1]
    rw [e]; exact Nat.zero_le _
end Go.Proofs
set_option linter.unusedSimpArgs false
set_option linter.unusedVariables false
set_option maxRecDepth 20000
set_option maxHeartbeats 4000000
namespace Go.Proofs
open Go.VG
@[ext] structure volumegroupmake_Step where
  Kind : Int
  At : Int
  Value : UInt64
  Keep : UInt64
  deriving DecidableEq
abbrev tyvolumegroupmake_Step : Ty volumegroupmake_Step := { T := 49, sz := 4, enc := fun x => [.int .i64 x.Kind, .int .i64 x.At, .int .u64 (x.Value.toNat : Int), .int .u64 (x.Keep.toNat : Int)], dflt := ⟨0, 0, 0, 0⟩, len := fun _ => rfl, one := fun _ => rfl, pos := by decide }
def volumegroupmake_Few (l : List volumegroupmake_Step) : Option (Bool) :=
  some ((decide (((l.length : Nat) : Int) ≤ (24 : Int))))
theorem L_volumegroupmake_Few {W : World} {Al : HP} {vl : Value} {l : List volumegroupmake_Step} {r : Bool} (rl : Reads Al tyvolumegroupmake_Step vl l) (h : volumegroupmake_Few l = some r) :
    CSpec Tryz.prog W 10 [vl] [Al] (fun x : Unit => .bool r) (fun _ => True) (fun x F => Al :: F) := by
 refine CSpec.of_body Tryz.func10 rfl Tryz.ntmps10 rfl fun F => ?_
 show CJ _ _ _ _ _ _ (_ :: F)
 unfold volumegroupmake_Few at h
 refine CJ_pure (len_of rl del0) fun hlen1 => sR <| oA rfl rfl <| nT <| sR <| oM rfl rfl <| oV (V_len rfl foc0 rl Tryz.runUnderlying22) rfl <| oP (P_leq (a := ((l.length : Nat) : Int)) (b := (24 : Int)) rfl rfl) rfl <| oA rfl rfl <| nT <| CJ_ret ?_
 cases h
 exact fE (res1 Tryz.results10 rfl) () eR
end Go.Proofs
set_option linter.unusedSimpArgs false
set_option linter.unusedVariables false
set_option maxRecDepth 20000
set_option maxHeartbeats 4000000
namespace Go.Proofs
open Go.VG
structure OwnS where
  Open_1 : Int
  X : Option VolS
  T : List Sec
  Stale : List Int
  Lost : List Int
def OwnP (a b : Nat) (l : OwnS) : HP := ex fun h : Nat × Nat × Nat × Nat × Sl3 × Sl3 => star [blk b 37 [ptr a 0, .func (.func 97) #[] #[ptr h.1 0, ptr h.2.1 0], oifc 65 l.X h.2.2.1, ptr h.2.2.2.1 0, (Sl3.v h.2.2.2.2.1), (Sl3.v h.2.2.2.2.2)], blk h.1 30 [ptr a 0], blk h.2.1 3 [.int .i64 l.Open_1], optP (VolP a h.2.2.1) l.X, Trk h.2.2.2.1 l.T, sl tyI (Sl3.v h.2.2.2.2.1) l.Stale, sl tyI (Sl3.v h.2.2.2.2.2) l.Lost]
theorem OwnP_open {a b : Nat} {l : OwnS} {R : List HP} : EntX (OwnP a b l :: R) fun h : Nat × Nat × Nat × Nat × Sl3 × Sl3 => blk b 37 [ptr a 0, .func (.func 97) #[] #[ptr h.1 0, ptr h.2.1 0], oifc 65 l.X h.2.2.1, ptr h.2.2.2.1 0, (Sl3.v h.2.2.2.2.1), (Sl3.v h.2.2.2.2.2)] :: blk h.1 30 [ptr a 0] :: blk h.2.1 3 [.int .i64 l.Open_1] :: optP (VolP a h.2.2.1) l.X :: Trk h.2.2.2.1 l.T :: sl tyI (Sl3.v h.2.2.2.2.1) l.Stale :: sl tyI (Sl3.v h.2.2.2.2.2) l.Lost :: R :=
  fun _ hh => let ⟨c, hc⟩ := stars_ex.1 hh; ⟨c, stars_star.1 hc⟩
theorem OwnP_mk {a b : Nat} {v0 : Int} {v1 : Option VolS} {v2 : List Sec} {v3 : List Int} {v4 : List Int} {h0 : Nat} {h1 : Nat} {h2 : Nat} {h3 : Nat} {h4 : Sl3} {h5 : Sl3} {R : List HP} : Ent (blk b 37 [ptr a 0, .func (.func 97) #[] #[ptr h0 0, ptr h1 0], oifc 65 v1 h2, ptr h3 0, (Sl3.v h4), (Sl3.v h5)] :: blk h0 30 [ptr a 0] :: blk h1 3 [.int .i64 v0] :: optP (VolP a h2) v1 :: Trk h3 v2 :: sl tyI (Sl3.v h4) v3 :: sl tyI (Sl3.v h5) v4 :: R) (OwnP a b ⟨v0, v1, v2, v3, v4⟩ :: R) :=
  fun _ hh => stars_ex.2 ⟨(h0, h1, h2, h3, h4, h5), stars_star.2 hh⟩
end Go.Proofs
set_option linter.unusedSimpArgs false
set_option linter.unusedVariables false
set_option maxRecDepth 20000
set_option maxHeartbeats 4000000
namespace Go.Proofs
open Go.VG
def volumegroupmake_has_l1_b (l : List Int) (n_1 : Int) (rec : Nat → Option ((Unit) ⊕ Bool)) (x6 : Nat) : Option ((Unit) ⊕ Bool) :=
  if (((x6 : Nat) : Int) < ((l.length : Nat) : Int)) then
    if ((l.getD x6 0) = n_1) then
      some (.inr true)
    else
      rec (x6 + 1)
  else
    some (.inl ())
def volumegroupmake_has_l1 (l : List Int) (n_1 : Int) : Nat → Nat → Option ((Unit) ⊕ Bool)
  | 0, _ => none
  | n + 1, x6 => volumegroupmake_has_l1_b l n_1 (volumegroupmake_has_l1 l n_1 n) x6
def volumegroupmake_has (l : List Int) (n_1 : Int) : Option (Bool) :=
  seqO (volumegroupmake_has_l1 l n_1 FUEL 0) fun a5 =>
  some false
theorem L_volumegroupmake_has {W : World} {Al : HP} {vl : Value} {l : List Int} {n_1 : Int} {r : Bool} (rl : Reads Al tyI vl l) (h : volumegroupmake_has l n_1 = some r) :
    CSpec Tryz.prog W 98 [vl, .int .i64 n_1] [Al] (fun x : Unit => .bool r) (fun _ => True) (fun x F => Al :: F) := by
 refine CSpec.of_body Tryz.func98 rfl Tryz.ntmps98 rfl fun F => ?_
 show CJ _ _ _ _ _ _ (_ :: F)
 unfold volumegroupmake_has at h
 refine CJ_pure (len_of rl del0) fun hlen1 => sR <| oA rfl rfl <| nT <| CJ_seq <| sR <| oA rfl rfl <| nT ?_
 obtain ⟨y4, hl2, hK3⟩ := seq_e h
 refine CJ_cutT (X := Unit) [4, 5, 6, 7, 8, 9, 10, 11, 12, 13, 14, 15, 16, 17] (fun _ => ([] : Slots)) (fun _ R => R) (fun _ => y4 = .inl ()) Dels.nil ?_ ?_
 ·
  refine CJ_block <| CJ_loopR (X := Nat × Nat) [4, 5, 6, 7, 8, 9, 10, 11, 12, 13, 14, 15, 16, 17] (fun ⟨n, x6⟩ => ([(5, .int .i64 (((x6 : Nat) : Int)))] : Slots)) (fun ⟨n, x6⟩ R => R) (fun ⟨n, x6⟩ => volumegroupmake_has_l1 l n_1 n x6 = some y4) (fun ⟨n, x6⟩ => n) ⟨FUEL, 0⟩ ?_ ?_ eR ?_
  · exact hl2
  · exact ⟨rfl, True.intro⟩
  ·
   rintro ⟨n, x6⟩ h
   cases n with
   | zero => exact none_e h
   | succ n => ?_
   replace h : volumegroupmake_has_l1_b l n_1 (volumegroupmake_has_l1 l n_1 n) x6 = some y4 := h
   unfold volumegroupmake_has_l1_b at h
   show CJ _ _ _ _ _ (([(5, .int .i64 (((x6 : Nat) : Int)))] : Slots) ++ forget _ _) (_)
   refine CJ_seq <| sR <| oM rfl rfl <| oM rfl rfl <| oV (V_len rfl foc0 rl Tryz.runUnderlying35) rfl <| oP (P_lss (a := ((x6 : Nat) : Int)) (b := ((l.length : Nat) : Int)) rfl rfl) rfl <| nT <| CJ_condP rfl bT_dec (fun hg1 => ?_) (fun hg1 => ?_)
   ·
    replace h := ite_t hg1 h
    refine kT <| CJ_seq <| CJ_block <| sR <| oM rfl rfl <| oM rfl rfl <| oV (V_index (i := x6) rfl rfl rfl (by omega) foc0 rl Tryz.runUnderlying35 Tryz.sizeOf3) rfl <| oV (V_loadE rfl rfl (by omega) foc0 rl rfl rfl Tryz.isAgg3) rfl <| oM rfl rfl <| oP (P_eql (a := (l.getD x6 0)) (b := n_1) rfl rfl) rfl <| nT <| CJ_condP rfl bT_dec (fun hg2 => ?_) (fun hg2 => ?_)
    ·
     replace h := ite_t hg2 h
     refine sR <| oA rfl rfl <| nT <| CJ_ret <| QJ_block_ret <| QJ_then_ret <| QJ_round_ret <| QJ_block_ret <| QJ_then_ret ?_
     have hE := Option.some.inj h
     replace hE := seq_inr hK3 hE.symm
     subst hE
     exact fE (res1 Tryz.results98 rfl) () eR
    ·
     replace h := ite_f hg2 h
     exact CJ_skip <| QJ_block_normal <| QJ_then <| CJ_region <| oM rfl rfl <| oP (PJ_eq (P_add (a := ((x6 : Nat) : Int)) (b := (1 : Int)) rfl rfl (by omega)) rfl) rfl <| oA rfl rfl <| RJ_nil <| nR ⟨n, (x6 + 1)⟩ h ⟨rfl, True.intro⟩ eR
   ·
    replace h := ite_f hg1 h
    exact CJ_exit <| QJ_then_exit <| QJ_round_exit <| QJ_block_here <| cR () (Option.some.inj h).symm True.intro eR
 ·
  rintro _ hy7
  replace h := seq_inl hK3 hy7
  show CJ _ _ _ _ _ (([] : Slots) ++ forget _ _) (_)
  refine sR <| oA rfl rfl <| nT <| CJ_ret ?_
  cases h
  exact fE (res1 Tryz.results98 rfl) () eR
def volumegroupmake_add_l1_b (l : List Int) (rec : Int → (List Int) → Nat → Option (Int × (List Int))) (x10 : Int) (x11 : List Int) (x13 : Nat) : Option (Int × (List Int)) :=
  if (((x13 : Nat) : Int) < ((l.length : Nat) : Int)) then
    Option.bind ((
      if (((0 : Int) ≤ x10) ∧ (x10 < (l.getD x13 0))) then
        grd (inLen (x11.length + 1)) <|
        some (((-1 : Int), (x11 ++ [x10])))
      else
        some (x10, x11) : Option (Int × (List Int)))) fun a33 =>
    if ((l.getD x13 0) = a33.1) then
      grd (inLen (a33.2.length + 1)) <|
      rec (-1 : Int) ((a33.2 ++ [(l.getD x13 0)])) (x13 + 1)
    else
      grd (inLen (a33.2.length + 1)) <|
      rec a33.1 ((a33.2 ++ [(l.getD x13 0)])) (x13 + 1)
  else
    some (x10, x11)
def volumegroupmake_add_l1 (l : List Int) : Nat → Int → (List Int) → Nat → Option (Int × (List Int))
  | 0, _, _, _ => none
  | n + 1, x10, x11, x13 => volumegroupmake_add_l1_b l (volumegroupmake_add_l1 l n) x10 x11 x13
def volumegroupmake_add (l : List Int) (n_1 : Int) : Option ((List Int)) :=
  Option.bind (volumegroupmake_add_l1 l FUEL n_1 ([]) 0) fun a9 =>
  if ((0 : Int) ≤ a9.1) then
    grd (inLen (a9.2.length + 1)) <|
    some (a9.2 ++ [a9.1])
  else
    some a9.2
theorem L_volumegroupmake_add {W : World} {Al : HP} {vl : Value} {l : List Int} {n_1 : Int} {r : (List Int)} (rl : Reads Al tyI vl l) (h : volumegroupmake_add l n_1 = some r) :
    CSpec Tryz.prog W 58 [vl, .int .i64 n_1] [Al] (fun x : Sl3 => x.v) (fun _ => True) (fun x F => Al :: sl tyI x.v r :: F) := by
 refine CSpec.of_body Tryz.func58 rfl Tryz.ntmps58 rfl fun F => ?_
 show CJ _ _ _ _ _ _ (_ :: F)
 unfold volumegroupmake_add at h
 refine CJ_pure (len_of rl del0) fun hlen1 => sR <| oA rfl rfl <| nT <| sR <| oA rfl rfl <| nT <| CJ_seq <| sR <| oA rfl rfl <| nT <| CJ_ent (fun h hh => sl_nil (t := tyI) h hh) ?_
 obtain ⟨y5, hl3, hK4⟩ := bind_c h
 refine CJ_cutT (X := (Int × (List Int)) × Sl3) [1, 5, 6, 7, 8, 9, 10, 11, 12, 13, 14, 15, 16, 17, 18, 19, 20, 21, 22, 23, 24, 25, 26, 27, 28, 29, 30, 31, 32, 33, 34, 35, 36, 37, 38, 39] (fun ⟨a9, hd8⟩ => ([(1, .int .i64 a9.1), (5, hd8.v)] : Slots)) (fun ⟨a9, hd8⟩ R => sl tyI hd8.v a9.2 :: R) (fun ⟨a9, hd8⟩ => y5 = a9) (Dels.cons del0 Dels.nil) ?_ ?_
 ·
  refine CJ_block <| CJ_loopR (X := Nat × Int × (List Int) × Nat × Sl3) [1, 5, 6, 7, 8, 9, 10, 11, 12, 13, 14, 15, 16, 17, 18, 19, 20, 21, 22, 23, 24, 25, 26, 27, 28, 29, 30, 31, 32, 33, 34, 35, 36, 37, 38, 39] (fun ⟨n, x10, x11, x13, hd12⟩ => ([(1, .int .i64 x10), (5, hd12.v), (6, .int .i64 (((x13 : Nat) : Int)))] : Slots)) (fun ⟨n, x10, x11, x13, hd12⟩ R => sl tyI hd12.v x11 :: R) (fun ⟨n, x10, x11, x13, hd12⟩ => volumegroupmake_add_l1 l n x10 x11 x13 = some y5) (fun ⟨n, x10, x11, x13, hd12⟩ => n) ⟨FUEL, n_1, [], 0, ⟨none, 0, 0⟩⟩ ?_ ?_ eR ?_
  · exact hl3
  · exact ⟨rfl, rfl, rfl, True.intro⟩
  ·
   rintro ⟨n, x10, x11, x13, hd12⟩ h
   cases n with
   | zero => exact none_e h
   | succ n => ?_
   replace h : volumegroupmake_add_l1_b l (volumegroupmake_add_l1 l n) x10 x11 x13 = some y5 := h
   unfold volumegroupmake_add_l1_b at h
   show CJ _ _ _ _ _ (([(1, .int .i64 x10), (5, hd12.v), (6, .int .i64 (((x13 : Nat) : Int)))] : Slots) ++ forget _ _) (sl tyI hd12.v x11 :: _)
   refine lC del0 fun hlen14 => CJ_seq <| sR <| oM rfl rfl <| oM rfl rfl <| oV (V_len rfl foc1 rl Tryz.runUnderlying35) rfl <| oP (P_lss (a := ((x13 : Nat) : Int)) (b := ((l.length : Nat) : Int)) rfl rfl) rfl <| nT <| CJ_condP rfl bT_dec (fun hg1 => ?_) (fun hg1 => ?_)
   ·
    replace h := ite_t hg1 h
    refine kT <| CJ_seq <| CJ_block <| CJ_seq <| sR <| oM rfl rfl <| oP (P_geq (a := x10) (b := (0 : Int)) rfl rfl) rfl <| oM rfl rfl <| RJ_mbT rfl rfl rfl (fun hG15 => have hP16 : ((0 : Int) ≤ x10) := (bT_dec).1 hG15; VJ_P (P_move rfl)) <| RJ_mbT rfl rfl rfl (fun hG17 => have hP18 : ((0 : Int) ≤ x10) := (bT_dec).1 hG17; VJ_P (P_move rfl)) <| RJ_mbT rfl rfl rfl (fun hG19 => have hP20 : ((0 : Int) ≤ x10) := (bT_dec).1 hG19; V_index (i := x13) (mbx hG19 rfl) (mbx hG19 rfl) rfl (by omega) foc1 rl Tryz.runUnderlying35 Tryz.sizeOf3) <| RJ_mbT rfl rfl rfl (fun hG21 => have hP22 : ((0 : Int) ≤ x10) := (bT_dec).1 hG21; V_loadE (mbx hG21 rfl) rfl (by omega) foc1 rl rfl rfl Tryz.isAgg3) <| RJ_mbT rfl rfl rfl (fun hG23 => have hP24 : ((0 : Int) ≤ x10) := (bT_dec).1 hG23; VJ_P (P_move rfl)) <| RJ_mbT rfl rfl rfl (fun hG25 => have hP26 : ((0 : Int) ≤ x10) := (bT_dec).1 hG25; VJ_P (P_gtr (a := (l.getD x13 0)) (b := x10) (mbx hG25 rfl) (mbx hG25 rfl))) <| oP (P_pickAnd rfl (fun hh => mbx hh rfl) rfl) rfl <| nT ?_
    obtain ⟨y29, hl27, hK28⟩ := bind_c h
    refine CJ_cutT (X := (Int × (List Int)) × Sl3) [1, 5, 23, 24, 25, 26] (fun ⟨a33, hd32⟩ => ([(1, .int .i64 a33.1), (5, hd32.v)] : Slots)) (fun ⟨a33, hd32⟩ R => sl tyI hd32.v a33.2 :: R) (fun ⟨a33, hd32⟩ => y29 = a33) (Dels.cons del0 Dels.nil) ?_ ?_
    ·
     have h := hl27
     refine CJ_condP rfl (bT_and bT_dec bT_dec) (fun hg2 => ?_) (fun hg2 => ?_)
     ·
      replace h := ite_t hg2 h
      refine CJ_region <| oM rfl rfl <| oM rfl rfl <| oO <| O_buildSlice rfl (bs_35_1_0 _) rfl fun b34 => ?_
      obtain ⟨hg3, h⟩ := grd_Le h
      exact oO <| O_append (t := tyI) (bytes := 8) rfl rfl del1 foc0 (Reads.lit (t := tyI) (ys := [x10]) rfl rfl (by decide) (by decide) rfl) Tryz.underlying35 ok_tyI (apl (m := 1) (b := 8) hg3 (by decide)).1 (apl (m := 1) (b := 8) hg3 (by decide)).2 rfl fun p36 c37 => oA rfl rfl <| oA rfl rfl <| RJ_nil <| cR ⟨((-1 : Int), (x11 ++ [x10])), ⟨p36, (x11 ++ [x10]).length, c37⟩⟩ (Option.some.inj h).symm ⟨rfl, rfl, True.intro⟩ (t0_ (t1_ (eD eR)))
     ·
      replace h := ite_f hg2 h
      exact CJ_skip <| cR ⟨(x10, x11), hd12⟩ (Option.some.inj h).symm ⟨rfl, rfl, True.intro⟩ eR
    ·
     rintro ⟨a33, hd32⟩ hy38
     replace h := bindK_at hK28 hy38
     show CJ _ _ _ _ _ (([(1, .int .i64 a33.1), (5, hd32.v)] : Slots) ++ forget _ _) (sl tyI hd32.v a33.2 :: _)
     refine CJ_seq <| sR <| oM rfl rfl <| oM rfl rfl <| oV (V_index (i := x13) rfl rfl rfl (by omega) foc1 rl Tryz.runUnderlying35 Tryz.sizeOf3) rfl <| oV (V_loadE rfl rfl (by omega) foc1 rl rfl rfl Tryz.isAgg3) rfl <| oM rfl rfl <| oP (P_eql (a := (l.getD x13 0)) (b := a33.1) rfl rfl) rfl <| nT <| CJ_condP rfl bT_dec (fun hg4 => ?_) (fun hg4 => ?_)
     ·
      replace h := ite_t hg4 h
      refine CJ_region <| oA rfl rfl <| nT <| CJ_region <| oM rfl rfl <| oM rfl rfl <| oM rfl rfl <| oV (V_index (i := x13) rfl rfl rfl (by omega) foc1 rl Tryz.runUnderlying35 Tryz.sizeOf3) rfl <| oV (V_loadE rfl rfl (by omega) foc1 rl rfl rfl Tryz.isAgg3) rfl <| oO <| O_buildSlice rfl (bs_35_1_0 _) rfl fun b39 => ?_
      obtain ⟨hg5, h⟩ := grd_Le h
      exact oO <| O_append (t := tyI) (bytes := 8) rfl rfl del1 foc0 (Reads.lit (t := tyI) (ys := [(l.getD x13 0)]) rfl rfl (by decide) (by decide) rfl) Tryz.underlying35 ok_tyI (apl (m := 1) (b := 8) hg5 (by decide)).1 (apl (m := 1) (b := 8) hg5 (by decide)).2 rfl fun p41 c42 => oA rfl rfl <| RJ_nil <| QJ_block_normal <| QJ_then <| CJ_region <| oM rfl rfl <| oP (PJ_eq (P_add (a := ((x13 : Nat) : Int)) (b := (1 : Int)) rfl rfl (by omega)) rfl) rfl <| oA rfl rfl <| RJ_nil <| nR ⟨n, (-1 : Int), (a33.2 ++ [(l.getD x13 0)]), (x13 + 1), ⟨p41, (a33.2 ++ [(l.getD x13 0)]).length, c42⟩⟩ h ⟨rfl, rfl, rfl, True.intro⟩ (t0_ (t1_ (eD eR)))
     ·
      replace h := ite_f hg4 h
      refine kT <| CJ_region <| oM rfl rfl <| oM rfl rfl <| oM rfl rfl <| oV (V_index (i := x13) rfl rfl rfl (by omega) foc1 rl Tryz.runUnderlying35 Tryz.sizeOf3) rfl <| oV (V_loadE rfl rfl (by omega) foc1 rl rfl rfl Tryz.isAgg3) rfl <| oO <| O_buildSlice rfl (bs_35_1_0 _) rfl fun b43 => ?_
      obtain ⟨hg6, h⟩ := grd_Le h
      exact oO <| O_append (t := tyI) (bytes := 8) rfl rfl del1 foc0 (Reads.lit (t := tyI) (ys := [(l.getD x13 0)]) rfl rfl (by decide) (by decide) rfl) Tryz.underlying35 ok_tyI (apl (m := 1) (b := 8) hg6 (by decide)).1 (apl (m := 1) (b := 8) hg6 (by decide)).2 rfl fun p45 c46 => oA rfl rfl <| RJ_nil <| QJ_block_normal <| QJ_then <| CJ_region <| oM rfl rfl <| oP (PJ_eq (P_add (a := ((x13 : Nat) : Int)) (b := (1 : Int)) rfl rfl (by omega)) rfl) rfl <| oA rfl rfl <| RJ_nil <| nR ⟨n, a33.1, (a33.2 ++ [(l.getD x13 0)]), (x13 + 1), ⟨p45, (a33.2 ++ [(l.getD x13 0)]).length, c46⟩⟩ h ⟨rfl, rfl, rfl, True.intro⟩ (t0_ (t1_ (eD eR)))
   ·
    replace h := ite_f hg1 h
    exact CJ_exit <| QJ_then_exit <| QJ_round_exit <| QJ_block_here <| cR ⟨(x10, x11), hd12⟩ (Option.some.inj h).symm ⟨rfl, rfl, True.intro⟩ eR
 ·
  rintro ⟨a9, hd8⟩ hy47
  replace h := bindK_at hK4 hy47
  show CJ _ _ _ _ _ (([(1, .int .i64 a9.1), (5, hd8.v)] : Slots) ++ forget _ _) (sl tyI hd8.v a9.2 :: _)
  refine lC del0 fun hlen48 => CJ_seq <| sR <| oM rfl rfl <| oP (P_geq (a := a9.1) (b := (0 : Int)) rfl rfl) rfl <| nT <| CJ_condP rfl bT_dec (fun hg7 => ?_) (fun hg7 => ?_)
  ·
   replace h := ite_t hg7 h
   refine CJ_region <| oM rfl rfl <| oM rfl rfl <| oO <| O_buildSlice rfl (bs_35_1_0 _) rfl fun b49 => ?_
   obtain ⟨hg8, h⟩ := grd_Le h
   refine oO <| O_append (t := tyI) (bytes := 8) rfl rfl del1 foc0 (Reads.lit (t := tyI) (ys := [a9.1]) rfl rfl (by decide) (by decide) rfl) Tryz.underlying35 ok_tyI (apl (m := 1) (b := 8) hg8 (by decide)).1 (apl (m := 1) (b := 8) hg8 (by decide)).2 rfl fun p51 c52 => oA rfl rfl <| nT <| sR <| oM rfl rfl <| oA rfl rfl <| nT <| CJ_ret ?_
   cases h
   exact fE (res1 Tryz.results58 rfl) ⟨p51, (a9.2 ++ [a9.1]).length, c52⟩ (t2_ (t0_ (eD eR)))
  ·
   replace h := ite_f hg7 h
   refine kT <| sR <| oM rfl rfl <| oA rfl rfl <| nT <| CJ_ret ?_
   cases h
   exact fE (res1 Tryz.results58 rfl) hd8 (t1_ eR)
def volumegroupmake_Owner_drop_l1_b (s : ArrS) (r7 : (List Int)) (rec : OwnS → Nat → Option ((OwnS) ⊕ (Bool × OwnS))) (x16 : OwnS) (x17 : Nat) : Option ((OwnS) ⊕ (Bool × OwnS)) :=
  if (((x17 : Nat) : Int) < ((r7.length : Nat) : Int)) then
    Option.bind (volumegroupmake_has x16.Lost (r7.getD x17 0)) fun r22 =>
    if (¬ r22 = true) then
      some (.inr (false, x16))
    else
      Option.elim x16.X (
        none) fun o25 =>
      Option.bind (parityvol_Volume_Drop o25 (r7.getD x17 0) s) fun r26 =>
      if (r26.1 ≠ (0 : Int)) then
        some (.inr ((false, { x16 with X := (some r26.2) })))
      else
        Option.bind (volumegroupmake_add x16.Stale (r7.getD x17 0)) fun r32 =>
        grd (inN64 (x17 + 1)) <|
        rec ((⟨x16.Open_1, (some r26.2), x16.T, r32, x16.Lost⟩ : OwnS)) (x17 + 1)
  else
    some (.inl x16)
def volumegroupmake_Owner_drop_l1 (s : ArrS) (r7 : (List Int)) : Nat → OwnS → Nat → Option ((OwnS) ⊕ (Bool × OwnS))
  | 0, _, _ => none
  | n + 1, x16, x17 => volumegroupmake_Owner_drop_l1_b s r7 (volumegroupmake_Owner_drop_l1 s r7 n) x16 x17
def volumegroupmake_Owner_drop (o : OwnS) (s : ArrS) : Option (Bool × OwnS) :=
  Option.elim o.X (
    none) fun o6 =>
  Option.bind (parityvol_Volume_Failed o6 s) fun r7 =>
  seqO (volumegroupmake_Owner_drop_l1 s r7 FUEL ({ o with X := (some o6) }) 0) fun a15 =>
  some (((decide ((0 : Int) < ((r7.length : Nat) : Int))), a15))
theorem L_volumegroupmake_Owner_drop {W : World} {bo : Nat} {bs : Nat} {o : OwnS} {s : ArrS} {r : Bool × OwnS} (h : volumegroupmake_Owner_drop o s = some r) :
    CSpec Tryz.prog W 50 [ptr bo 0] [OwnP bs bo o, Arr bs s] (fun x : Unit => .bool r.1) (fun _ => True) (fun x F => OwnP bs bo r.2 :: Arr bs s :: F) := by
 refine CSpec.of_body Tryz.func50 rfl Tryz.ntmps50 rfl fun F => ?_
 show CJ _ _ _ _ _ _ (_ :: _ :: F)
 unfold volumegroupmake_Owner_drop at h
 refine sR <| oA rfl rfl <| nT <| CJ_seq <| CJ_entX (Ent.transX (t0_ eR) (OwnP_open (l := o))) fun oc1 => lC del5 fun hlen3 => lC del6 fun hlen4 => CJ_region <| oM rfl rfl <| oP (P_nilCheck rfl) rfl <| oP (P_fieldAddr rfl ⟨_, _, _, Tryz.runUnderlying37, rfl, rfl, Tryz.sizeOf33, rfl⟩) rfl <| oV (V_load rfl foc0 rfl Tryz.isAgg33) rfl ?_
 rcases opt_e h with ⟨ht5, h⟩ | ⟨o6, ht5, h⟩
 ·
  rw [ht5]
  exact RJ_ent (t0_ (t0_ (t0_ (t1_ (t1_ (t1_ (t1_ (eD eR)))))))) <| none_e h
 ·
  rw [ht5]
  refine RJ_ent (Ent.takeC (A' := VolP bs oc1.2.2.1 o6) del3 rfl eR) ?_
  obtain ⟨r7, hr8, h⟩ := bind_e h
  refine oO <| O_callI rfl (ICall.of (fun w => by kernel_rfl) Tryz.call34 (L_parityvol_Volume_Failed hr8)) rfl (Dels.cons del0 (Dels.cons del6 Dels.nil)) rfl fun X9 _ => oA rfl rfl <| RJ_nil <| QJ_ent (Ent.trans (t3_ (t3_ (t3_ (t0_ (t2_ (t2_ (t2_ eR))))))) (OwnP_mk (v0 := o.Open_1) (v1 := (some o6)) (v2 := o.T) (v3 := o.Stale) (v4 := o.Lost) (h0 := oc1.1) (h1 := oc1.2.1) (h2 := oc1.2.2.1) (h3 := oc1.2.2.2.1) (h4 := oc1.2.2.2.2.1) (h5 := oc1.2.2.2.2.2))) <| QJ_then <| CJ_seq <| sR <| oA rfl rfl <| nT ?_
  obtain ⟨y13, hl11, hK12⟩ := seq_e h
  refine CJ_cutT (X := OwnS) [2, 4, 10, 11, 12, 13, 14, 15, 16, 17, 18, 19, 20, 21, 22, 23, 24, 25, 26, 27, 28, 29, 30, 31, 32, 33, 34, 35, 36, 37, 38, 39, 40, 41, 42, 43, 44, 45, 46, 47, 48, 49, 50, 51] (fun a15 => ([] : Slots)) (fun a15 R => OwnP bs bo a15 :: R) (fun a15 => y13 = .inl a15) (Dels.cons del0 Dels.nil) ?_ ?_
  ·
   refine CJ_block <| CJ_loopR (X := Nat × OwnS × Nat) [2, 4, 10, 11, 12, 13, 14, 15, 16, 17, 18, 19, 20, 21, 22, 23, 24, 25, 26, 27, 28, 29, 30, 31, 32, 33, 34, 35, 36, 37, 38, 39, 40, 41, 42, 43, 44, 45, 46, 47, 48, 49, 50, 51] (fun ⟨n, x16, x17⟩ => ([(4, .int .i64 (((x17 : Nat) : Int)))] : Slots)) (fun ⟨n, x16, x17⟩ R => OwnP bs bo x16 :: R) (fun ⟨n, x16, x17⟩ => volumegroupmake_Owner_drop_l1 s r7 n x16 x17 = some y13) (fun ⟨n, x16, x17⟩ => n) ⟨FUEL, { o with X := (some o6) }, 0⟩ ?_ ?_ eR ?_
   · exact hl11
   · exact ⟨rfl, True.intro⟩
   ·
    rintro ⟨n, x16, x17⟩ h
    cases n with
    | zero => exact none_e h
    | succ n => ?_
    replace h : volumegroupmake_Owner_drop_l1_b s r7 (volumegroupmake_Owner_drop_l1 s r7 n) x16 x17 = some y13 := h
    unfold volumegroupmake_Owner_drop_l1_b at h
    show CJ _ _ _ _ _ (([(4, .int .i64 (((x17 : Nat) : Int)))] : Slots) ++ forget _ _) (OwnP bs bo x16 :: _)
    refine CJ_seq <| sR <| oM rfl rfl <| oM rfl rfl <| oV (V_len rfl foc2 (Reads.sl _ _ _) Tryz.runUnderlying35) rfl <| oP (P_lss (a := ((x17 : Nat) : Int)) (b := ((r7.length : Nat) : Int)) rfl rfl) rfl <| nT <| CJ_condP rfl bT_dec (fun hg1 => ?_) (fun hg1 => ?_)
    ·
     replace h := ite_t hg1 h
     refine kT <| CJ_seq <| CJ_block <| CJ_seq <| CJ_seq <| CJ_entX (Ent.transX (t0_ eR) (OwnP_open (l := x16))) fun oc18 => lC del5 fun hlen20 => lC del6 fun hlen21 => AJ_startH 2097152 (by kernel_rfl) rfl <| aN 0 1 rfl rfl (P_move rfl) rfl <| aN 1 3 rfl rfl (P_nilCheck rfl) rfl <| aN 2 7 rfl rfl (P_fieldAddr rfl ⟨_, _, _, Tryz.runUnderlying37, rfl, rfl, Tryz.sizeOf35, rfl⟩) rfl <| aV 3 15 rfl rfl (GY_none rfl) eR (V_load rfl foc0 rfl Tryz.isAgg35) rfl <| aN 4 31 rfl rfl (P_move rfl) rfl <| aN 5 63 rfl rfl (P_move rfl) rfl <| aV 6 127 rfl rfl (GY_none rfl) eR (V_index (i := x17) rfl rfl rfl (by omega) foc8 (Reads.sl _ _ _) Tryz.runUnderlying35 Tryz.sizeOf3) rfl <| aV 7 255 rfl rfl (GY_none rfl) eR (V_loadE rfl rfl (by omega) foc8 (Reads.sl _ _ _) rfl rfl Tryz.isAgg3) rfl ?_
     obtain ⟨r22, hr23, h⟩ := bind_e h
     refine AJ_op 8 511 rfl (by kernel_rfl) rfl (GY_none rfl) <| O_call (L_volumegroupmake_has (Reads.sl _ _ _) hr23) rfl Tryz.call98 (Dels.cons del6 Dels.nil) rfl fun _ _ => ⟨fun _ => (t1_ (t1_ (t1_ (t1_ (t1_ (t1_ eR)))))), ?_⟩
     refine aN 9 1023 rfl rfl (P_not rfl) rfl <| aN 10 2047 rfl rfl (P_move rfl) rfl <| AJ_splitP 26 rfl (bT_not Iff.rfl) (fun hg2B hg2 => ?_) (fun hg2B hg2 => ?_)
     ·
      replace h := ite_t hg2 h
      refine aS 11 4095 rfl rfl (GY_no rfl rfl rfl hg2B) rfl <| aS 12 8191 rfl rfl (GY_no rfl rfl rfl hg2B) rfl <| aS 13 16383 rfl rfl (GY_no rfl rfl rfl hg2B) rfl <| aS 14 32767 rfl rfl (GY_no rfl rfl rfl hg2B) rfl <| aS 15 65535 rfl rfl (GY_no rfl rfl rfl hg2B) rfl <| aS 16 131071 rfl rfl (GY_no rfl rfl rfl hg2B) rfl <| aS 17 262143 rfl rfl (GY_no rfl rfl rfl hg2B) rfl <| aS 18 524287 rfl rfl (GY_no rfl rfl rfl hg2B) rfl <| aS 19 1048575 rfl rfl (GY_no rfl rfl rfl hg2B) rfl <| aS 20 2097151 rfl rfl (GY_no rfl rfl rfl hg2B) rfl <| aS 21 4194303 rfl rfl (GY_no rfl rfl rfl hg2B) rfl <| aS 22 8388607 rfl rfl (GY_no rfl rfl rfl hg2B) rfl <| aN 23 16777215 rfl rfl (P_pickT rfl hg2B rfl) rfl <| AJ_done (by kernel_rfl) <| QJ_ent (Ent.trans (t1_ (t1_ (t1_ (t1_ (t1_ (t1_ eR)))))) (OwnP_mk (v0 := x16.Open_1) (v1 := x16.X) (v2 := x16.T) (v3 := x16.Stale) (v4 := x16.Lost) (h0 := oc18.1) (h1 := oc18.2.1) (h2 := oc18.2.2.1) (h3 := oc18.2.2.2.1) (h4 := oc18.2.2.2.2.1) (h5 := oc18.2.2.2.2.2))) <| QJ_then <| CJ_condT rfl rfl <| sR <| oA rfl rfl <| nT <| CJ_ret <| QJ_then_ret <| QJ_block_ret <| QJ_then_ret <| QJ_round_ret <| QJ_block_ret <| QJ_then_ret ?_
      have hE := Option.some.inj h
      replace hE := seq_inr hK12 hE.symm
      subst hE
      exact fE (res1 Tryz.results50 rfl) () (t0_ (t0_ (eD eR)))
     ·
      replace h := ite_f hg2 h
      refine aP 11 4095 rfl rfl (GY_yes rfl rfl rfl hg2B) (P_move rfl) rfl <| aP 12 8191 rfl rfl (GY_yes rfl rfl rfl hg2B) (P_nilCheck rfl) rfl <| aP 13 16383 rfl rfl (GY_yes rfl rfl rfl hg2B) (P_fieldAddr rfl ⟨_, _, _, Tryz.runUnderlying37, rfl, rfl, Tryz.sizeOf33, rfl⟩) rfl <| aV 14 32767 rfl rfl (GY_yes rfl rfl rfl hg2B) (t1_ (t1_ (t1_ (t1_ (t1_ (t1_ eR)))))) (V_load rfl foc0 rfl Tryz.isAgg33) rfl <| aP 15 65535 rfl rfl (GY_yes rfl rfl rfl hg2B) (P_move rfl) rfl <| aP 16 131071 rfl rfl (GY_yes rfl rfl rfl hg2B) (P_move rfl) rfl <| aV 17 262143 rfl rfl (GY_yes rfl rfl rfl hg2B) (t1_ (t1_ (t1_ (t1_ (t1_ (t1_ eR)))))) (V_index (i := x17) rfl rfl rfl (by omega) foc8 (Reads.sl _ _ _) Tryz.runUnderlying35 Tryz.sizeOf3) rfl <| aV 18 524287 rfl rfl (GY_yes rfl rfl rfl hg2B) (t1_ (t1_ (t1_ (t1_ (t1_ (t1_ eR)))))) (V_loadE rfl rfl (by omega) foc8 (Reads.sl _ _ _) rfl rfl Tryz.isAgg3) rfl ?_
      rcases opt_e h with ⟨ht24, h⟩ | ⟨o25, ht24, h⟩
      ·
       rw [ht24]
       exact none_e h
      ·
       rw [ht24]
       refine AJ_ent (Ent.takeC (A' := VolP bs oc18.2.2.1 o25) del4 rfl eR) <| aP 19 1048575 rfl rfl (GY_yes rfl rfl rfl hg2B) (P_nilCheckI rfl) rfl <| aP 20 2097151 rfl rfl (GY_yes rfl rfl rfl hg2B) (P_move rfl) rfl ?_
       obtain ⟨r26, hr27, h⟩ := bind_e h
       refine AJ_op 21 4194303 rfl (by kernel_rfl) rfl (GY_yes rfl rfl rfl hg2B) <| O_callI rfl (ICall.of (fun w => by kernel_rfl) Tryz.call33 (L_parityvol_Volume_Drop hr27)) rfl (Dels.cons del0 (Dels.cons del6 Dels.nil)) rfl fun _ _ => ⟨fun h => absurd h (by decide), ?_⟩
       refine aP 22 8388607 rfl rfl (GY_yes rfl rfl rfl hg2B) (P_neq (a := r26.1) (b := (0 : Int)) rfl rfl) rfl <| aN 23 16777215 rfl rfl (P_pickF rfl hg2B rfl) rfl <| AJ_done (by kernel_rfl) <| QJ_ent (Ent.trans (t3_ (t3_ (t3_ (t0_ (t2_ (t2_ (t1_ eR))))))) (OwnP_mk (v0 := x16.Open_1) (v1 := (some r26.2)) (v2 := x16.T) (v3 := x16.Stale) (v4 := x16.Lost) (h0 := oc18.1) (h1 := oc18.2.1) (h2 := oc18.2.2.1) (h3 := oc18.2.2.2.1) (h4 := oc18.2.2.2.2.1) (h5 := oc18.2.2.2.2.2))) <| QJ_then <| CJ_condP rfl bT_dec (fun hg3 => ?_) (fun hg3 => ?_)
       ·
        replace h := ite_t hg3 h
        refine sR <| oA rfl rfl <| nT <| CJ_ret <| QJ_then_ret <| QJ_block_ret <| QJ_then_ret <| QJ_round_ret <| QJ_block_ret <| QJ_then_ret ?_
        have hE := Option.some.inj h
        replace hE := seq_inr hK12 hE.symm
        subst hE
        exact fE (res1 Tryz.results50 rfl) () (t0_ (t0_ (eD eR)))
       ·
        replace h := ite_f hg3 h
        refine kT <| CJ_entX (Ent.transX (t0_ eR) (OwnP_open (l := { x16 with X := (some r26.2) }))) fun oc28 => lC del5 fun hlen30 => lC del6 fun hlen31 => AJ_startH 4608 (by kernel_rfl) rfl <| aN 0 1 rfl rfl (P_move rfl) rfl <| aN 1 3 rfl rfl (P_move rfl) rfl <| aN 2 7 rfl rfl (P_nilCheck rfl) rfl <| aN 3 15 rfl rfl (P_fieldAddr rfl ⟨_, _, _, Tryz.runUnderlying37, rfl, rfl, Tryz.sizeOf35, rfl⟩) rfl <| aV 4 31 rfl rfl (GY_none rfl) eR (V_load rfl foc0 rfl Tryz.isAgg35) rfl <| aN 5 63 rfl rfl (P_move rfl) rfl <| aN 6 127 rfl rfl (P_move rfl) rfl <| aV 7 255 rfl rfl (GY_none rfl) eR (V_index (i := x17) rfl rfl rfl (by omega) foc8 (Reads.sl _ _ _) Tryz.runUnderlying35 Tryz.sizeOf3) rfl <| aV 8 511 rfl rfl (GY_none rfl) eR (V_loadE rfl rfl (by omega) foc8 (Reads.sl _ _ _) rfl rfl Tryz.isAgg3) rfl ?_
        obtain ⟨r32, hr33, h⟩ := bind_e h
        refine AJ_op 9 1023 rfl (by kernel_rfl) rfl (GY_none rfl) <| O_call (L_volumegroupmake_add (Reads.sl _ _ _) hr33) rfl Tryz.call58 (Dels.cons del5 Dels.nil) rfl fun X34 _ => ⟨fun h => absurd h (by decide), ?_⟩
        refine aN 10 2047 rfl rfl (P_nilCheck rfl) rfl <| aN 11 4095 rfl rfl (P_fieldAddr rfl ⟨_, _, _, Tryz.runUnderlying37, rfl, rfl, Tryz.sizeOf35, rfl⟩) rfl <| AJ_op 12 8191 rfl (by kernel_rfl) rfl (GY_none rfl) <| O_store rfl rfl foc2 rfl rfl Tryz.sizeOf35 <| ⟨fun h => absurd h (by decide), ?_⟩
        refine AJ_done (by kernel_rfl) <| QJ_ent (Ent.trans (t2_ (t2_ (t2_ (t2_ (t2_ (t1_ (t1_ eR))))))) (OwnP_mk (v0 := x16.Open_1) (v1 := (some r26.2)) (v2 := x16.T) (v3 := r32) (v4 := x16.Lost) (h0 := oc28.1) (h1 := oc28.2.1) (h2 := oc28.2.2.1) (h3 := oc28.2.2.2.1) (h4 := X34) (h5 := oc28.2.2.2.2.2))) <| QJ_block_normal <| QJ_then <| CJ_region <| oM rfl rfl ?_
        obtain ⟨hg4, h⟩ := grd_Ne h
        exact oP (PJ_eq (P_add (a := ((x17 : Nat) : Int)) (b := (1 : Int)) rfl rfl (nat_in hg4)) rfl) rfl <| oA rfl rfl <| RJ_nil <| nR ⟨n, (⟨x16.Open_1, (some r26.2), x16.T, r32, x16.Lost⟩ : OwnS), (x17 + 1)⟩ h ⟨rfl, True.intro⟩ (t0_ (t1_ (t1_ (eD eR))))
    ·
     replace h := ite_f hg1 h
     exact CJ_exit <| QJ_then_exit <| QJ_round_exit <| QJ_block_here <| cR x16 (Option.some.inj h).symm True.intro eR
  ·
   rintro a15 hy36
   replace h := seq_inl hK12 hy36
   show CJ _ _ _ _ _ (([] : Slots) ++ forget _ _) (OwnP bs bo a15 :: _)
   refine sR <| oM rfl rfl <| oV (V_len rfl foc2 (Reads.sl _ _ _) Tryz.runUnderlying35) rfl <| oP (P_gtr (a := ((r7.length : Nat) : Int)) (b := (0 : Int)) rfl rfl) rfl <| oA rfl rfl <| nT <| CJ_ret ?_
   cases h
   exact fE (res1 Tryz.results50 rfl) () (t0_ (t0_ (eD eR)))
def volumegrouplaw19_open_1 (stale : List Int) (p1_v : ArrS) (p2 : Int) : Option ((Option VolS) × Int × ArrS) :=
  Option.bind (volumegroupmake_Spans p1_v) fun r2 =>
  Option.bind (parityvol_Open r2 stale p2 p1_v) fun r8 =>
  Option.elim r8.1 (
    if (r8.2.1 = (0 : Int)) then
      some ((none, (20 : Int), r8.2.2))
    else
      some (none, r8.2.1, r8.2.2)) fun o13 =>
  some (((some o13), r8.2.1, r8.2.2))
theorem L_volumegrouplaw19_open_1 {W : World} {Astale : HP} {vstale : Value} {bp1 : Nat} {bp1_v : Nat} {bp2 : Nat} {stale : List Int} {p1_v : ArrS} {p2 : Int} {r : (Option VolS) × Int × ArrS} (rstale : Reads Astale tyI vstale stale) (h : volumegrouplaw19_open_1 stale p1_v p2 = some r) :
    CSpec Tryz.prog W 97 [vstale, ptr bp1 0, ptr bp2 0] [Astale, blk bp1 30 [ptr bp1_v 0], Arr bp1_v p1_v, blk bp2 3 [.int .i64 p2]] (fun x : Nat => .tuple #[oifc 65 r.1 x, .int .i64 r.2.1]) (fun _ => True) (fun x F => Astale :: blk bp1 30 [ptr bp1_v 0] :: Arr bp1_v r.2.2 :: blk bp2 3 [.int .i64 p2] :: optP (VolP bp1_v x) r.1 :: F) := by
 refine CSpec.of_body Tryz.func97 rfl Tryz.ntmps97 rfl fun F => ?_
 show CJ _ _ _ _ _ _ (_ :: _ :: _ :: _ :: F)
 unfold volumegrouplaw19_open_1 at h
 refine CJ_pure (len_of rstale del0) fun hlen1 => sR <| oA rfl rfl <| oA rfl rfl <| nT <| CJ_seq <| AJ_startH 16 (by kernel_rfl) rfl <| aV 0 1 rfl rfl (GY_none rfl) eR (V_load rfl foc1 rfl Tryz.isAgg30) rfl <| aN 2 5 rfl rfl (P_move rfl) rfl <| aV 3 13 rfl rfl (GY_none rfl) eR (V_load rfl foc3 rfl Tryz.isAgg3) rfl ?_
 obtain ⟨r2, hr3, h⟩ := bind_e h
 refine AJ_op 1 15 rfl (by kernel_rfl) rfl (GY_none rfl) <| O_call (L_volumegroupmake_Spans hr3) rfl Tryz.call24 (Dels.cons del2 Dels.nil) rfl fun X4 _ => ⟨fun _ => (t3_ (t3_ (t0_ (t2_ (eD (eD eR)))))), ?_⟩
 refine AJ_pure (fun h hh => Rs_len (stars_perm (del2 (A := Rs (DevP bp1_v) r2 X4.2)).out h hh)) fun hdl7 => ?_
 obtain ⟨r8, hr9, h⟩ := bind_e h
 refine AJ_op 4 31 rfl (by kernel_rfl) rfl (GY_none rfl) <| O_call (L_parityvol_Open (Reads.sl _ _ _) rstale hr9) rfl Tryz.call26 (Dels.cons del1 (Dels.cons del1 (Dels.cons del1 (Dels.cons del0 Dels.nil)))) rfl fun X10 _ => ⟨fun h => absurd h (by decide), ?_⟩
 refine aN 5 63 rfl rfl (P_move rfl) rfl <| aN 6 127 rfl rfl (P_extract rfl rfl) rfl <| aN 7 255 rfl rfl (P_extract rfl rfl) rfl <| aN 8 511 rfl rfl (P_assign rfl) rfl <| aN 9 1023 rfl rfl (P_assign rfl) rfl <| AJ_done (by kernel_rfl) <| QJ_ent (t2_ (t2_ (t2_ (t2_ (t2_ (eD (eD eR))))))) <| QJ_then <| CJ_seq <| sR <| oM rfl rfl ?_
 rcases opt_e h with ⟨ht12, h⟩ | ⟨o13, ht12, h⟩
 ·
  rw [ht12]
  refine RJ_ent (t0_ (t0_ (t1_ (t1_ (eD eR))))) <| oP (P_eqlNN rfl rfl Tryz.underlying65) rfl <| nT <| CJ_condT rfl rfl <| CJ_seq <| sR <| oM rfl rfl <| oP (P_eql (a := r8.2.1) (b := (0 : Int)) rfl rfl) rfl <| nT <| CJ_condP rfl bT_dec (fun hg1 => ?_) (fun hg1 => ?_)
  ·
   replace h := ite_t hg1 h
   refine CJ_region <| oA rfl rfl <| nT <| sR <| oM rfl rfl <| oA rfl rfl <| oA rfl rfl <| nT <| CJ_ret <| QJ_then_ret ?_
   cases h
   exact fE (res2 Tryz.results97 rfl rfl) 0 (t0_ (t1_ (t0_ (t0_ (Ent.trans (fun h hh => optP_none h hh) <| t0_ eR)))))
  ·
   replace h := ite_f hg1 h
   refine kT <| sR <| oM rfl rfl <| oA rfl rfl <| oA rfl rfl <| nT <| CJ_ret <| QJ_then_ret ?_
   cases h
   exact fE (res2 Tryz.results97 rfl rfl) 0 (t0_ (t1_ (t0_ (t0_ (Ent.trans (fun h hh => optP_none h hh) <| t0_ eR)))))
 ·
  rw [ht12]
  refine RJ_ent (Ent.takeC (A' := VolP bp1_v X10 o13) del2 rfl eR) <| oP (P_eqlPN rfl rfl Tryz.underlying65) rfl <| nT <| CJ_condF rfl rfl <| kT <| sR <| oM rfl rfl <| oP (P_makeIface rfl Tryz.runUnderlying65 (by intro ms h; cases h)) rfl <| oM rfl rfl <| oA rfl rfl <| oA rfl rfl <| nT <| CJ_ret ?_
  cases h
  exact fE (res2 Tryz.results97 rfl rfl) X10 (t1_ (t2_ (t1_ (t1_ eR))))
def volumegroupmake_Owner_Begin_l1_b (rec : OwnS → ArrS → (Option VolS) → Int → Nat → Option ((Option VolS) × Int × OwnS × ArrS)) (x18 : OwnS) (x19 : ArrS) (x20 : Option VolS) (x22 : Int) (x23 : Nat) : Option ((Option VolS) × Int × OwnS × ArrS) :=
  if ((((x23 : Nat) : Int) < ((x18.Lost.length : Nat) : Int)) ∧ (x22 = (18 : Int))) then
    Option.bind (volumegroupmake_add x18.Stale (x18.Lost.getD x23 0)) fun r36 =>
    Option.bind (volumegrouplaw19_open_1 r36 x19 x18.Open_1) fun r44 =>
    rec ({ x18 with Stale := r36 }) r44.2.2 r44.1 r44.2.1 (x23 + 1)
  else
    some (x20, x22, x18, x19)
def volumegroupmake_Owner_Begin_l1 : Nat → OwnS → ArrS → (Option VolS) → Int → Nat → Option ((Option VolS) × Int × OwnS × ArrS)
  | 0, _, _, _, _, _ => none
  | n + 1, x18, x19, x20, x22, x23 => volumegroupmake_Owner_Begin_l1_b (volumegroupmake_Owner_Begin_l1 n) x18 x19 x20 x22 x23
def volumegroupmake_Owner_Begin (o : OwnS) (s : ArrS) : Option (Bool × OwnS × ArrS) :=
  Option.bind (volumegrouplaw19_open_1 o.Stale s o.Open_1) fun r5 =>
  Option.bind (volumegroupmake_Owner_Begin_l1 FUEL o r5.2.2 r5.1 r5.2.1 0) fun a17 =>
  if (a17.2.1 = (0 : Int)) then
    Option.elim a17.1 (
      some (false, { a17.2.2.1 with X := none }, a17.2.2.2)) fun o56 =>
    Option.bind (parityvol_Volume_Size o56 a17.2.2.2) fun r57 =>
    some (((decide (r57 = ((a17.2.2.1.T.length : Nat) : Int))), { a17.2.2.1 with X := (some o56) }, a17.2.2.2))
  else
    some (false, { a17.2.2.1 with X := a17.1 }, a17.2.2.2)
theorem L_volumegroupmake_Owner_Begin {W : World} {bo : Nat} {bs : Nat} {o : OwnS} {s : ArrS} {r : Bool × OwnS × ArrS} (h : volumegroupmake_Owner_Begin o s = some r) :
    CSpec Tryz.prog W 18 [ptr bo 0] [OwnP bs bo o, Arr bs s] (fun x : Unit => .bool r.1) (fun _ => True) (fun x F => OwnP bs bo r.2.1 :: Arr bs r.2.2 :: F) := by
 refine CSpec.of_body Tryz.func18 rfl Tryz.ntmps18 rfl fun F => ?_
 show CJ _ _ _ _ _ _ (_ :: _ :: F)
 unfold volumegroupmake_Owner_Begin at h
 refine sR <| oA rfl rfl <| nT <| CJ_seq <| CJ_entX (Ent.transX (t0_ eR) (OwnP_open (l := o))) fun oc1 => lC del5 fun hlen3 => lC del6 fun hlen4 => AJ_startH 256 (by kernel_rfl) rfl <| aN 0 1 rfl rfl (P_move rfl) rfl <| aN 1 3 rfl rfl (P_nilCheck rfl) rfl <| aN 2 7 rfl rfl (P_fieldAddr rfl ⟨_, _, _, Tryz.runUnderlying37, rfl, rfl, Tryz.sizeOf31, rfl⟩) rfl <| aV 3 15 rfl rfl (GY_none rfl) eR (V_load rfl foc0 rfl Tryz.isAgg31) rfl <| aN 4 31 rfl rfl (P_move rfl) rfl <| aN 5 63 rfl rfl (P_nilCheck rfl) rfl <| aN 6 127 rfl rfl (P_fieldAddr rfl ⟨_, _, _, Tryz.runUnderlying37, rfl, rfl, Tryz.sizeOf35, rfl⟩) rfl <| aV 7 255 rfl rfl (GY_none rfl) eR (V_load rfl foc0 rfl Tryz.isAgg35) rfl ?_
 obtain ⟨r5, hr6, h⟩ := bind_e h
 refine AJ_op 8 511 rfl (by kernel_rfl) rfl (GY_none rfl) <| O_callV rfl rfl (L_volumegrouplaw19_open_1 (Reads.sl _ _ _) hr6) Tryz.call97 (Dels.cons del5 (Dels.cons del1 (Dels.cons del5 (Dels.cons del1 Dels.nil)))) rfl fun X7 _ => ⟨fun h => absurd h (by decide), ?_⟩
 refine aN 9 1023 rfl rfl (P_move rfl) rfl <| aN 10 2047 rfl rfl (P_extract rfl rfl) rfl <| aN 11 4095 rfl rfl (P_extract rfl rfl) rfl <| aN 12 8191 rfl rfl (P_assign rfl) rfl <| aN 13 16383 rfl rfl (P_assign rfl) rfl <| AJ_done (by kernel_rfl) <| QJ_ent (Ent.trans (t5_ (t1_ (t2_ (t3_ (t3_ (t0_ (t2_ eR))))))) (OwnP_mk (v0 := o.Open_1) (v1 := o.X) (v2 := o.T) (v3 := o.Stale) (v4 := o.Lost) (h0 := oc1.1) (h1 := oc1.2.1) (h2 := oc1.2.2.1) (h3 := oc1.2.2.2.1) (h4 := oc1.2.2.2.2.1) (h5 := oc1.2.2.2.2.2))) <| QJ_then <| CJ_seq <| sR <| oA rfl rfl <| nT ?_
 obtain ⟨y11, hl9, hK10⟩ := bind_c h
 refine CJ_cutT (X := ((Option VolS) × Int × OwnS × ArrS) × Nat) [3, 4, 5, 18, 19, 20, 21, 22, 23, 24, 25, 26, 27, 28, 29, 30, 31, 32, 33, 34, 35, 36, 37, 38, 39, 40, 41, 42, 43, 44, 45, 46, 47, 48, 49, 50, 51, 52, 53, 54, 55, 56, 57] (fun ⟨a17, pb13⟩ => ([(3, oifc 65 a17.1 pb13), (4, .int .i64 a17.2.1)] : Slots)) (fun ⟨a17, pb13⟩ R => optP (VolP bs pb13) a17.1 :: OwnP bs bo a17.2.2.1 :: Arr bs a17.2.2.2 :: R) (fun ⟨a17, pb13⟩ => y11 = a17) (Dels.cons del2 (Dels.cons del0 (Dels.cons del0 Dels.nil))) ?_ ?_
 ·
  refine CJ_block <| CJ_loopR (X := Nat × OwnS × ArrS × (Option VolS) × Int × Nat × Nat) [3, 4, 5, 18, 19, 20, 21, 22, 23, 24, 25, 26, 27, 28, 29, 30, 31, 32, 33, 34, 35, 36, 37, 38, 39, 40, 41, 42, 43, 44, 45, 46, 47, 48, 49, 50, 51, 52, 53, 54, 55, 56, 57] (fun ⟨n, x18, x19, x20, x22, x23, pb21⟩ => ([(3, oifc 65 x20 pb21), (4, .int .i64 x22), (5, .int .i64 (((x23 : Nat) : Int)))] : Slots)) (fun ⟨n, x18, x19, x20, x22, x23, pb21⟩ R => OwnP bs bo x18 :: Arr bs x19 :: optP (VolP bs pb21) x20 :: R) (fun ⟨n, x18, x19, x20, x22, x23, pb21⟩ => volumegroupmake_Owner_Begin_l1 n x18 x19 x20 x22 x23 = some y11) (fun ⟨n, x18, x19, x20, x22, x23, pb21⟩ => n) ⟨FUEL, o, r5.2.2, r5.1, r5.2.1, 0, X7⟩ ?_ ?_ eR ?_
  · exact hl9
  · exact ⟨rfl, rfl, rfl, True.intro⟩
  ·
   rintro ⟨n, x18, x19, x20, x22, x23, pb21⟩ h
   cases n with
   | zero => exact none_e h
   | succ n => ?_
   replace h : volumegroupmake_Owner_Begin_l1_b (volumegroupmake_Owner_Begin_l1 n) x18 x19 x20 x22 x23 = some y11 := h
   unfold volumegroupmake_Owner_Begin_l1_b at h
   show CJ _ _ _ _ _ (([(3, oifc 65 x20 pb21), (4, .int .i64 x22), (5, .int .i64 (((x23 : Nat) : Int)))] : Slots) ++ forget _ _) (OwnP bs bo x18 :: Arr bs x19 :: optP (VolP bs pb21) x20 :: _)
   refine CJ_seq <| CJ_seq <| CJ_entX (Ent.transX (t0_ eR) (OwnP_open (l := x18))) fun oc24 => lC del5 fun hlen26 => lC del6 fun hlen27 => CJ_region <| oM rfl rfl <| oM rfl rfl <| oP (P_nilCheck rfl) rfl <| oP (P_fieldAddr rfl ⟨_, _, _, Tryz.runUnderlying37, rfl, rfl, Tryz.sizeOf35, rfl⟩) rfl <| oV (V_load rfl foc0 rfl Tryz.isAgg35) rfl <| oV (V_len rfl foc6 (Reads.sl _ _ _) Tryz.runUnderlying35) rfl <| oP (P_lss (a := ((x23 : Nat) : Int)) (b := ((x18.Lost.length : Nat) : Int)) rfl rfl) rfl <| oM rfl rfl <| RJ_mbT rfl rfl rfl (fun hG28 => have hP29 : (((x23 : Nat) : Int) < ((x18.Lost.length : Nat) : Int)) := (bT_dec).1 hG28; VJ_P (P_move rfl)) <| RJ_mbT rfl rfl rfl (fun hG30 => have hP31 : (((x23 : Nat) : Int) < ((x18.Lost.length : Nat) : Int)) := (bT_dec).1 hG30; VJ_P (P_eql (a := x22) (b := (18 : Int)) (mbx hG30 rfl) rfl)) <| oP (P_pickAnd rfl (fun hh => mbx hh rfl) rfl) rfl <| RJ_nil <| QJ_ent (Ent.trans eR (OwnP_mk (v0 := x18.Open_1) (v1 := x18.X) (v2 := x18.T) (v3 := x18.Stale) (v4 := x18.Lost) (h0 := oc24.1) (h1 := oc24.2.1) (h2 := oc24.2.2.1) (h3 := oc24.2.2.2.1) (h4 := oc24.2.2.2.2.1) (h5 := oc24.2.2.2.2.2))) <| QJ_then <| CJ_condP rfl (bT_and bT_dec bT_dec) (fun hg1 => ?_) (fun hg1 => ?_)
   ·
    replace h := ite_t hg1 h
    refine kT <| CJ_seq <| CJ_block <| CJ_seq <| CJ_entX (Ent.transX (t0_ eR) (OwnP_open (l := x18))) fun oc32 => lC del5 fun hlen34 => lC del6 fun hlen35 => AJ_startH 36864 (by kernel_rfl) rfl <| aN 0 1 rfl rfl (P_move rfl) rfl <| aN 1 3 rfl rfl (P_move rfl) rfl <| aN 2 7 rfl rfl (P_nilCheck rfl) rfl <| aN 3 15 rfl rfl (P_fieldAddr rfl ⟨_, _, _, Tryz.runUnderlying37, rfl, rfl, Tryz.sizeOf35, rfl⟩) rfl <| aV 4 31 rfl rfl (GY_none rfl) eR (V_load rfl foc0 rfl Tryz.isAgg35) rfl <| aN 5 63 rfl rfl (P_move rfl) rfl <| aN 6 127 rfl rfl (P_nilCheck rfl) rfl <| aN 7 255 rfl rfl (P_fieldAddr rfl ⟨_, _, _, Tryz.runUnderlying37, rfl, rfl, Tryz.sizeOf35, rfl⟩) rfl <| aV 8 511 rfl rfl (GY_none rfl) eR (V_load rfl foc0 rfl Tryz.isAgg35) rfl <| aN 9 1023 rfl rfl (P_move rfl) rfl <| aV 10 2047 rfl rfl (GY_none rfl) eR (V_index (i := x23) rfl rfl rfl (by omega) foc6 (Reads.sl _ _ _) Tryz.runUnderlying35 Tryz.sizeOf3) rfl <| aV 11 4095 rfl rfl (GY_none rfl) eR (V_loadE rfl rfl (by omega) foc6 (Reads.sl _ _ _) rfl rfl Tryz.isAgg3) rfl ?_
    obtain ⟨r36, hr37, h⟩ := bind_e h
    refine AJ_op 12 8191 rfl (by kernel_rfl) rfl (GY_none rfl) <| O_call (L_volumegroupmake_add (Reads.sl _ _ _) hr37) rfl Tryz.call58 (Dels.cons del5 Dels.nil) rfl fun X38 _ => ⟨fun h => absurd h (by decide), ?_⟩
    refine aN 13 16383 rfl rfl (P_nilCheck rfl) rfl <| aN 14 32767 rfl rfl (P_fieldAddr rfl ⟨_, _, _, Tryz.runUnderlying37, rfl, rfl, Tryz.sizeOf35, rfl⟩) rfl <| AJ_op 15 65535 rfl (by kernel_rfl) rfl (GY_none rfl) <| O_store rfl rfl foc2 rfl rfl Tryz.sizeOf35 <| ⟨fun h => absurd h (by decide), ?_⟩
    refine AJ_done (by kernel_rfl) <| QJ_ent (Ent.trans (t2_ (t2_ (t2_ (t2_ (t2_ (t1_ (t1_ eR))))))) (OwnP_mk (v0 := x18.Open_1) (v1 := x18.X) (v2 := x18.T) (v3 := r36) (v4 := x18.Lost) (h0 := oc32.1) (h1 := oc32.2.1) (h2 := oc32.2.2.1) (h3 := oc32.2.2.2.1) (h4 := X38) (h5 := oc32.2.2.2.2.2))) <| QJ_then <| CJ_entX (Ent.transX (t0_ eR) (OwnP_open (l := { x18 with Stale := r36 }))) fun oc40 => lC del5 fun hlen42 => lC del6 fun hlen43 => AJ_startH 256 (by kernel_rfl) rfl <| aN 0 1 rfl rfl (P_move rfl) rfl <| aN 1 3 rfl rfl (P_nilCheck rfl) rfl <| aN 2 7 rfl rfl (P_fieldAddr rfl ⟨_, _, _, Tryz.runUnderlying37, rfl, rfl, Tryz.sizeOf31, rfl⟩) rfl <| aV 3 15 rfl rfl (GY_none rfl) eR (V_load rfl foc0 rfl Tryz.isAgg31) rfl <| aN 4 31 rfl rfl (P_move rfl) rfl <| aN 5 63 rfl rfl (P_nilCheck rfl) rfl <| aN 6 127 rfl rfl (P_fieldAddr rfl ⟨_, _, _, Tryz.runUnderlying37, rfl, rfl, Tryz.sizeOf35, rfl⟩) rfl <| aV 7 255 rfl rfl (GY_none rfl) eR (V_load rfl foc0 rfl Tryz.isAgg35) rfl ?_
    obtain ⟨r44, hr45, h⟩ := bind_e h
    refine AJ_op 8 511 rfl (by kernel_rfl) rfl (GY_none rfl) <| O_callV rfl rfl (L_volumegrouplaw19_open_1 (Reads.sl _ _ _) hr45) Tryz.call97 (Dels.cons del5 (Dels.cons del1 (Dels.cons del6 (Dels.cons del1 Dels.nil)))) rfl fun X46 _ => ⟨fun h => absurd h (by decide), ?_⟩
    exact aN 9 1023 rfl rfl (P_move rfl) rfl <| aN 10 2047 rfl rfl (P_extract rfl rfl) rfl <| aN 11 4095 rfl rfl (P_extract rfl rfl) rfl <| aN 12 8191 rfl rfl (P_assign rfl) rfl <| aN 13 16383 rfl rfl (P_assign rfl) rfl <| AJ_done (by kernel_rfl) <| QJ_ent (Ent.trans (t5_ (t1_ (t2_ (t3_ (t3_ (t0_ (t2_ eR))))))) (OwnP_mk (v0 := x18.Open_1) (v1 := x18.X) (v2 := x18.T) (v3 := r36) (v4 := x18.Lost) (h0 := oc40.1) (h1 := oc40.2.1) (h2 := oc40.2.2.1) (h3 := oc40.2.2.2.1) (h4 := oc40.2.2.2.2.1) (h5 := oc40.2.2.2.2.2))) <| QJ_block_normal <| QJ_then <| CJ_region <| oM rfl rfl <| oP (PJ_eq (P_add (a := ((x23 : Nat) : Int)) (b := (1 : Int)) rfl rfl (by omega)) rfl) rfl <| oA rfl rfl <| RJ_nil <| nR ⟨n, { x18 with Stale := r36 }, r44.2.2, r44.1, r44.2.1, (x23 + 1), X46⟩ h ⟨rfl, rfl, rfl, True.intro⟩ (t0_ (t0_ (t0_ (eD (eD eR)))))
   ·
    replace h := ite_f hg1 h
    exact CJ_exit <| QJ_then_exit <| QJ_round_exit <| QJ_block_here <| cR ⟨(x20, x22, x18, x19), pb21⟩ (Option.some.inj h).symm ⟨rfl, rfl, True.intro⟩ (t2_ eR)
 ·
  rintro ⟨a17, pb13⟩ hy48
  replace h := bindK_at hK10 hy48
  show CJ _ _ _ _ _ (([(3, oifc 65 a17.1 pb13), (4, .int .i64 a17.2.1)] : Slots) ++ forget _ _) (optP (VolP bs pb13) a17.1 :: OwnP bs bo a17.2.2.1 :: Arr bs a17.2.2.2 :: _)
  refine CJ_seq <| CJ_entX (Ent.transX (t1_ eR) (OwnP_open (l := a17.2.2.1))) fun oc49 => lC del5 fun hlen51 => lC del6 fun hlen52 => CJ_region <| oM rfl rfl <| oM rfl rfl <| oP (P_nilCheck rfl) rfl <| oP (P_fieldAddr rfl ⟨_, _, _, Tryz.runUnderlying37, rfl, rfl, Tryz.sizeOf33, rfl⟩) rfl <| oO <| O_store rfl rfl foc0 rfl oneCell_oifc Tryz.sizeOf33 <| RJ_nil <| QJ_ent (t0_ (t0_ (t0_ (t1_ (t1_ (t1_ (t1_ (t1_ (eD eR))))))))) <| QJ_then <| CJ_seq <| CJ_entX (Ent.transX (t3_ eR) Trk_open) fun tc53 => CJ_pur fun hS54 => AJ_startH 0 (by kernel_rfl) rfl <| aN 0 1 rfl rfl (P_move rfl) rfl <| aN 1 3 rfl rfl (P_eql (a := a17.2.1) (b := (0 : Int)) rfl rfl) rfl <| aN 2 7 rfl rfl (P_move rfl) rfl <| AJ_splitP 64 rfl bT_dec (fun hg2B hg2 => ?_) (fun hg2B hg2 => ?_)
  ·
   replace h := ite_t hg2 h
   refine aP 3 15 rfl rfl (GY_yes rfl rfl rfl hg2B) (P_move rfl) rfl ?_
   rcases opt_e h with ⟨ht55, h⟩ | ⟨o56, ht55, h⟩
   ·
    rw [ht55]
    refine aP 4 31 rfl rfl (GY_yes rfl rfl rfl hg2B) (P_neqIN rfl Tryz.underlying33) rfl <| aN 5 63 rfl rfl (P_pickT rfl hg2B rfl) rfl <| aN 6 127 rfl rfl (P_move rfl) rfl <| aS 7 255 rfl rfl (GY_no rfl rfl rfl rfl) rfl <| aS 9 767 rfl rfl (GY_no rfl rfl rfl rfl) rfl <| aS 10 1791 rfl rfl (GY_no rfl rfl rfl rfl) rfl <| aS 11 3839 rfl rfl (GY_no rfl rfl rfl rfl) rfl <| aS 12 7935 rfl rfl (GY_no rfl rfl rfl rfl) rfl <| aS 13 16127 rfl rfl (GY_no rfl rfl rfl rfl) rfl <| aS 14 32511 rfl rfl (GY_no rfl rfl rfl rfl) rfl <| aS 15 65279 rfl rfl (GY_no rfl rfl rfl rfl) rfl <| aS 16 130815 rfl rfl (GY_no rfl rfl rfl rfl) rfl <| aS 8 131071 rfl rfl (GY_no rfl rfl rfl rfl) rfl <| aS 17 262143 rfl rfl (GY_no rfl rfl rfl rfl) rfl <| aN 18 524287 rfl rfl (P_pickF rfl rfl rfl) rfl <| aN 19 1048575 rfl rfl (P_assign rfl) rfl <| AJ_done (by kernel_rfl) <| QJ_ent (Ent.trans (t0_ (t0_ (t0_ eR))) (Trk_close hS54)) <| QJ_ent (t0_ (t0_ (t0_ (t0_ (t0_ (t0_ (t1_ (eD eR)))))))) <| QJ_then <| CJ_ret <| QJ_ent (Ent.trans (t1_ (t1_ (t1_ (Ent.trans (fun h hh => optP_none h hh) <| t0_ eR)))) (OwnP_mk (v0 := a17.2.2.1.Open_1) (v1 := none) (v2 := a17.2.2.1.T) (v3 := a17.2.2.1.Stale) (v4 := a17.2.2.1.Lost) (h0 := oc49.1) (h1 := oc49.2.1) (h2 := 0) (h3 := oc49.2.2.2.1) (h4 := oc49.2.2.2.2.1) (h5 := oc49.2.2.2.2.2))) ?_
    cases h
    exact fE (res1 Tryz.results18 rfl) () eR
   ·
    rw [ht55]
    refine AJ_ent (Ent.takeC (A' := VolP bs pb13 o56) del8 rfl eR) <| aP 4 31 rfl rfl (GY_yes rfl rfl rfl hg2B) (P_neqIfN rfl rfl Tryz.underlying33) rfl <| aN 5 63 rfl rfl (P_pickT rfl hg2B rfl) rfl <| aN 6 127 rfl rfl (P_move rfl) rfl <| aP 7 255 rfl rfl (GY_yes rfl rfl rfl rfl) (P_move rfl) rfl <| aP 9 767 rfl rfl (GY_yes rfl rfl rfl rfl) (P_move rfl) rfl <| aP 10 1791 rfl rfl (GY_yes rfl rfl rfl rfl) (P_nilCheck rfl) rfl <| aP 11 3839 rfl rfl (GY_yes rfl rfl rfl rfl) (P_fieldAddr rfl ⟨_, _, _, Tryz.runUnderlying37, rfl, rfl, Tryz.sizeOf34, rfl⟩) rfl <| aV 12 7935 rfl rfl (GY_yes rfl rfl rfl rfl) (t1_ (t1_ (t1_ (t1_ (t1_ (t1_ (t1_ (t1_ eR)))))))) (V_load rfl foc3 rfl Tryz.isAgg34) rfl <| aP 13 16127 rfl rfl (GY_yes rfl rfl rfl rfl) (P_nilCheck rfl) rfl <| aP 14 32511 rfl rfl (GY_yes rfl rfl rfl rfl) (P_fieldAddr rfl ⟨_, _, _, Tryz.runUnderlying56, rfl, rfl, Tryz.sizeOf54, rfl⟩) rfl <| aV 15 65279 rfl rfl (GY_yes rfl rfl rfl rfl) (t1_ (t1_ (t1_ (t1_ (t1_ (t1_ (t1_ (t1_ eR)))))))) (V_load rfl foc0 rfl Tryz.isAgg54) rfl ?_
    refine aV 16 130815 rfl rfl (GY_yes rfl rfl rfl rfl) (t1_ (t1_ (t1_ (t1_ (t1_ (t1_ (t1_ (t1_ eR)))))))) (VJ_eq (V_len rfl foc1 (Reads.sl _ _ _) Tryz.runUnderlying54) (congrArg (fun z : Nat => Value.int .i64 (z : Int)) hS54.len.symm)) rfl ?_
    obtain ⟨r57, hr58, h⟩ := bind_e h
    refine AJ_op 8 131071 rfl (by kernel_rfl) rfl (GY_yes rfl rfl rfl rfl) <| O_callI rfl (ICall.of (fun w => by kernel_rfl) Tryz.call31 (L_parityvol_Volume_Size hr58)) rfl (Dels.cons del0 (Dels.cons del8 Dels.nil)) rfl fun _ _ => ⟨fun _ => (t2_ (t2_ (t2_ (t2_ (t2_ (t2_ (t2_ (t2_ eR)))))))), ?_⟩
    refine aP 17 262143 rfl rfl (GY_yes rfl rfl rfl rfl) (P_eql (a := r57) (b := ((a17.2.2.1.T.length : Nat) : Int)) rfl rfl) rfl <| aN 18 524287 rfl rfl (P_pickT rfl rfl rfl) rfl <| aN 19 1048575 rfl rfl (P_assign rfl) rfl <| AJ_done (by kernel_rfl) <| QJ_ent (Ent.trans (t2_ (t2_ (t2_ eR))) (Trk_close hS54)) <| QJ_then <| CJ_ret <| QJ_ent (Ent.trans (t3_ (t3_ (t3_ (t1_ (t0_ (t1_ (t1_ eR))))))) (OwnP_mk (v0 := a17.2.2.1.Open_1) (v1 := (some o56)) (v2 := a17.2.2.1.T) (v3 := a17.2.2.1.Stale) (v4 := a17.2.2.1.Lost) (h0 := oc49.1) (h1 := oc49.2.1) (h2 := pb13) (h3 := oc49.2.2.2.1) (h4 := oc49.2.2.2.2.1) (h5 := oc49.2.2.2.2.2))) ?_
    cases h
    exact fE (res1 Tryz.results18 rfl) () eR
  ·
   replace h := ite_f hg2 h
   refine aS 3 15 rfl rfl (GY_no rfl rfl rfl hg2B) rfl <| aS 4 31 rfl rfl (GY_no rfl rfl rfl hg2B) rfl <| aN 5 63 rfl rfl (P_pickF rfl hg2B rfl) rfl <| aN 6 127 rfl rfl (P_move rfl) rfl <| aS 7 255 rfl rfl (GY_no rfl rfl rfl rfl) rfl <| aS 9 767 rfl rfl (GY_no rfl rfl rfl rfl) rfl <| aS 10 1791 rfl rfl (GY_no rfl rfl rfl rfl) rfl <| aS 11 3839 rfl rfl (GY_no rfl rfl rfl rfl) rfl <| aS 12 7935 rfl rfl (GY_no rfl rfl rfl rfl) rfl <| aS 13 16127 rfl rfl (GY_no rfl rfl rfl rfl) rfl <| aS 14 32511 rfl rfl (GY_no rfl rfl rfl rfl) rfl <| aS 15 65279 rfl rfl (GY_no rfl rfl rfl rfl) rfl <| aS 16 130815 rfl rfl (GY_no rfl rfl rfl rfl) rfl <| aS 8 131071 rfl rfl (GY_no rfl rfl rfl rfl) rfl <| aS 17 262143 rfl rfl (GY_no rfl rfl rfl rfl) rfl <| aN 18 524287 rfl rfl (P_pickF rfl rfl rfl) rfl <| aN 19 1048575 rfl rfl (P_assign rfl) rfl <| AJ_done (by kernel_rfl) <| QJ_ent (Ent.trans (t0_ (t0_ (t0_ eR))) (Trk_close hS54)) <| QJ_then <| CJ_ret <| QJ_ent (Ent.trans (t1_ (t1_ (t1_ (t3_ eR)))) (OwnP_mk (v0 := a17.2.2.1.Open_1) (v1 := a17.1) (v2 := a17.2.2.1.T) (v3 := a17.2.2.1.Stale) (v4 := a17.2.2.1.Lost) (h0 := oc49.1) (h1 := oc49.2.1) (h2 := pb13) (h3 := oc49.2.2.2.1) (h4 := oc49.2.2.2.2.1) (h5 := oc49.2.2.2.2.2))) ?_
   cases h
   exact fE (res1 Tryz.results18 rfl) () eR
def volumegroupmake_Owner_Power (o : OwnS) (keep : UInt64) (s : ArrS) : Option (Bool × OwnS × ArrS) :=
  Option.bind (volumegroupmake_Keep keep) fun r9 =>
  grd (inLen s.writes) <|
  Option.bind (volumegroupmake_Owner_Begin ({ o with T := (failedT o.T) }) (rsS s r9)) fun r13 =>
  some (r13.1, r13.2.1, r13.2.2)
theorem L_volumegroupmake_Owner_Power {W : World} {bo : Nat} {bs : Nat} {o : OwnS} {keep : UInt64} {s : ArrS} {r : Bool × OwnS × ArrS} (h : volumegroupmake_Owner_Power o keep s = some r) :
    CSpec Tryz.prog W 41 [ptr bo 0, .int .u64 (keep.toNat : Int)] [OwnP bs bo o, Arr bs s] (fun x : Unit => .bool r.1) (fun _ => True) (fun x F => OwnP bs bo r.2.1 :: Arr bs r.2.2 :: F) := by
 refine CSpec.of_body Tryz.func41 rfl Tryz.ntmps41 rfl fun F => ?_
 show CJ _ _ _ _ _ _ (_ :: _ :: F)
 unfold volumegroupmake_Owner_Power at h
 refine sR <| oA rfl rfl <| nT <| CJ_seq <| CJ_entX (Ent.transX (t0_ eR) (OwnP_open (l := o))) fun oc1 => lC del5 fun hlen3 => lC del6 fun hlen4 => CJ_region <| oM rfl rfl <| oP (P_nilCheck rfl) rfl <| oP (P_fieldAddr rfl ⟨_, _, _, Tryz.runUnderlying37, rfl, rfl, Tryz.sizeOf34, rfl⟩) rfl <| oV (V_load rfl foc0 rfl Tryz.isAgg34) rfl <| oO <| O_call (c_Failed) rfl Tryz.call91 (Dels.cons del4 Dels.nil) rfl fun _ _ => RJ_nil <| QJ_ent (Ent.trans (t1_ (t1_ (t1_ (t1_ eR)))) (OwnP_mk (v0 := o.Open_1) (v1 := o.X) (v2 := (failedT o.T)) (v3 := o.Stale) (v4 := o.Lost) (h0 := oc1.1) (h1 := oc1.2.1) (h2 := oc1.2.2.1) (h3 := oc1.2.2.2.1) (h4 := oc1.2.2.2.2.1) (h5 := oc1.2.2.2.2.2))) <| QJ_then <| CJ_seq <| CJ_entX (Ent.transX (t0_ eR) (OwnP_open (l := { o with T := (failedT o.T) }))) fun oc5 => lC del5 fun hlen7 => lC del6 fun hlen8 => AJ_startH 64 (by kernel_rfl) rfl <| aN 0 1 rfl rfl (P_move rfl) rfl <| aN 1 3 rfl rfl (P_nilCheck rfl) rfl <| aN 2 7 rfl rfl (P_fieldAddr rfl ⟨_, _, _, Tryz.runUnderlying37, rfl, rfl, Tryz.sizeOf30, rfl⟩) rfl <| aV 3 15 rfl rfl (GY_none rfl) eR (V_load rfl foc0 rfl Tryz.isAgg30) rfl <| aN 4 31 rfl rfl (P_move rfl) rfl ?_
 obtain ⟨r9, hr10, h⟩ := bind_e h
 refine AJ_op 5 63 rfl (by kernel_rfl) rfl (GY_none rfl) <| O_call (L_volumegroupmake_Keep hr10) rfl Tryz.call93 Dels.nil rfl fun X11 _ => ⟨fun _ => (t1_ (t1_ (t1_ (t1_ (t1_ (t1_ (t1_ (t1_ (eD eR))))))))), ?_⟩
 obtain ⟨hg1, h⟩ := grd_Le h
 refine AJ_op 6 127 rfl (by kernel_rfl) rfl (GY_none rfl) <| O_call (c_Restart (Reads.sl _ _ _) hg1) rfl Tryz.call92 (Dels.cons del8 (Dels.cons del0 Dels.nil)) rfl fun _ _ => ⟨fun h => absurd h (by decide), ?_⟩
 refine AJ_done (by kernel_rfl) <| QJ_ent (Ent.trans (t2_ (t2_ (t2_ (t2_ (t2_ (t2_ (t2_ eR))))))) (OwnP_mk (v0 := o.Open_1) (v1 := o.X) (v2 := (failedT o.T)) (v3 := o.Stale) (v4 := o.Lost) (h0 := oc5.1) (h1 := oc5.2.1) (h2 := oc5.2.2.1) (h3 := oc5.2.2.2.1) (h4 := oc5.2.2.2.2.1) (h5 := oc5.2.2.2.2.2))) <| QJ_then <| sR <| oM rfl rfl ?_
 obtain ⟨r13, hr14, h⟩ := bind_e h
 refine oO <| O_call (L_volumegroupmake_Owner_Begin hr14) rfl Tryz.call18 (Dels.cons del0 (Dels.cons del0 Dels.nil)) rfl fun _ _ => oA rfl rfl <| nT <| CJ_ret ?_
 cases h
 exact fE (res1 Tryz.results41 rfl) () (t0_ (t0_ (eD eR)))
def volumegroupmake_Owner_Read_l1_b (at_1 : Int) (rec : OwnS → ArrS → Nat → UInt64 → Int → Option ((UInt64 × Int × OwnS × ArrS) ⊕ (Int × Bool × OwnS × ArrS))) (x17 : OwnS) (x18 : ArrS) (x19 : Nat) (x20 : UInt64) (x21 : Int) : Option ((UInt64 × Int × OwnS × ArrS) ⊕ (Int × Bool × OwnS × ArrS)) :=
  if ((((x19 : Nat) : Int) < (8 : Int)) ∧ (x21 = (18 : Int))) then
    Option.bind (volumegroupmake_Owner_drop x17 x18) fun r26 =>
    if (¬ r26.1 = true) then
      some (.inr (x21, false, r26.2, x18))
    else
      Option.elim r26.2.X (
        none) fun o33 =>
      Option.bind (parityvol_Volume_Read o33 at_1 x18) fun r34 =>
      rec ({ r26.2 with X := (some r34.2.2.1) }) r34.2.2.2 (x19 + 1) r34.1 r34.2.1
  else
    some (.inl (x20, x21, x17, x18))
def volumegroupmake_Owner_Read_l1 (at_1 : Int) : Nat → OwnS → ArrS → Nat → UInt64 → Int → Option ((UInt64 × Int × OwnS × ArrS) ⊕ (Int × Bool × OwnS × ArrS))
  | 0, _, _, _, _, _ => none
  | n + 1, x17, x18, x19, x20, x21 => volumegroupmake_Owner_Read_l1_b at_1 (volumegroupmake_Owner_Read_l1 at_1 n) x17 x18 x19 x20 x21
def volumegroupmake_Owner_Read (o : OwnS) (at_1 : Int) (settled : Bool) (s : ArrS) : Option (Int × Bool × OwnS × ArrS) :=
  Option.elim o.X (
    none) fun o6 =>
  Option.bind (parityvol_Volume_Read o6 at_1 s) fun r7 =>
  seqO (volumegroupmake_Owner_Read_l1 at_1 FUEL ({ o with X := (some r7.2.2.1) }) r7.2.2.2 0 r7.1 r7.2.1) fun a16 =>
  if (a16.2.1 = (5 : Int)) then
    some (a16.2.1, true, a16.2.2.1, a16.2.2.2)
  else
    if (a16.2.1 = (0 : Int)) then
      grd (decide (smallT a16.2.2.1.T = true)) <|
      some ((a16.2.1, (rdTR a16.2.2.1.T at_1 a16.1), { a16.2.2.1 with T := (rdTS a16.2.2.1.T at_1 a16.1 settled) }, a16.2.2.2))
    else
      some (a16.2.1, false, a16.2.2.1, a16.2.2.2)
theorem L_volumegroupmake_Owner_Read {W : World} {bo : Nat} {bs : Nat} {o : OwnS} {at_1 : Int} {settled : Bool} {s : ArrS} {r : Int × Bool × OwnS × ArrS} (h : volumegroupmake_Owner_Read o at_1 settled s = some r) :
    CSpec Tryz.prog W 59 [ptr bo 0, .int .i64 at_1, .bool settled] [OwnP bs bo o, Arr bs s] (fun x : Unit => .tuple #[.int .i64 r.1, .bool r.2.1]) (fun _ => True) (fun x F => OwnP bs bo r.2.2.1 :: Arr bs r.2.2.2 :: F) := by
 refine CSpec.of_body Tryz.func59 rfl Tryz.ntmps59 rfl fun F => ?_
 show CJ _ _ _ _ _ _ (_ :: _ :: F)
 unfold volumegroupmake_Owner_Read at h
 refine sR <| oA rfl rfl <| oA rfl rfl <| nT <| CJ_seq <| CJ_entX (Ent.transX (t0_ eR) (OwnP_open (l := o))) fun oc1 => lC del5 fun hlen3 => lC del6 fun hlen4 => CJ_region <| oM rfl rfl <| oP (P_nilCheck rfl) rfl <| oP (P_fieldAddr rfl ⟨_, _, _, Tryz.runUnderlying37, rfl, rfl, Tryz.sizeOf33, rfl⟩) rfl <| oV (V_load rfl foc0 rfl Tryz.isAgg33) rfl <| oM rfl rfl ?_
 rcases opt_e h with ⟨ht5, h⟩ | ⟨o6, ht5, h⟩
 ·
  rw [ht5]
  exact RJ_ent (t0_ (t0_ (t0_ (t1_ (t1_ (t1_ (t1_ (eD eR)))))))) <| none_e h
 ·
  rw [ht5]
  refine RJ_ent (Ent.takeC (A' := VolP bs oc1.2.2.1 o6) del3 rfl eR) ?_
  obtain ⟨r7, hr8, h⟩ := bind_e h
  refine oO <| O_callI rfl (ICall.of (fun w => by kernel_rfl) Tryz.call28 (L_parityvol_Volume_Read hr8)) rfl (Dels.cons del0 (Dels.cons del6 Dels.nil)) rfl fun _ _ => oM rfl rfl <| oP (P_extract rfl rfl) rfl <| oP (P_extract rfl rfl) rfl <| oA rfl rfl <| oA rfl rfl <| RJ_nil <| QJ_ent (Ent.trans (t2_ (t2_ (t2_ (t0_ (t1_ (t1_ (t1_ eR))))))) (OwnP_mk (v0 := o.Open_1) (v1 := (some r7.2.2.1)) (v2 := o.T) (v3 := o.Stale) (v4 := o.Lost) (h0 := oc1.1) (h1 := oc1.2.1) (h2 := oc1.2.2.1) (h3 := oc1.2.2.2.1) (h4 := oc1.2.2.2.2.1) (h5 := oc1.2.2.2.2.2))) <| QJ_then <| CJ_seq <| sR <| oA rfl rfl <| nT ?_
  obtain ⟨y11, hl9, hK10⟩ := seq_e h
  refine CJ_cutT (X := UInt64 × Int × OwnS × ArrS) [6, 7, 8, 9, 10, 20, 21, 22, 23, 24, 25, 26, 27, 28, 29, 30, 31, 32, 33, 34, 35, 36, 37, 38, 39, 40] (fun a16 => ([(8, .int .u64 (a16.1.toNat : Int)), (9, .int .i64 a16.2.1)] : Slots)) (fun a16 R => OwnP bs bo a16.2.2.1 :: Arr bs a16.2.2.2 :: R) (fun a16 => y11 = .inl a16) (Dels.cons del0 (Dels.cons del0 Dels.nil)) ?_ ?_
  ·
   refine CJ_block <| CJ_loopR (X := Nat × OwnS × ArrS × Nat × UInt64 × Int) [6, 7, 8, 9, 10, 20, 21, 22, 23, 24, 25, 26, 27, 28, 29, 30, 31, 32, 33, 34, 35, 36, 37, 38, 39, 40] (fun ⟨n, x17, x18, x19, x20, x21⟩ => ([(8, .int .u64 (x20.toNat : Int)), (9, .int .i64 x21), (10, .int .i64 (((x19 : Nat) : Int)))] : Slots)) (fun ⟨n, x17, x18, x19, x20, x21⟩ R => OwnP bs bo x17 :: Arr bs x18 :: R) (fun ⟨n, x17, x18, x19, x20, x21⟩ => volumegroupmake_Owner_Read_l1 at_1 n x17 x18 x19 x20 x21 = some y11) (fun ⟨n, x17, x18, x19, x20, x21⟩ => n) ⟨FUEL, { o with X := (some r7.2.2.1) }, r7.2.2.2, 0, r7.1, r7.2.1⟩ ?_ ?_ eR ?_
   · exact hl9
   · exact ⟨rfl, rfl, rfl, True.intro⟩
   ·
    rintro ⟨n, x17, x18, x19, x20, x21⟩ h
    cases n with
    | zero => exact none_e h
    | succ n => ?_
    replace h : volumegroupmake_Owner_Read_l1_b at_1 (volumegroupmake_Owner_Read_l1 at_1 n) x17 x18 x19 x20 x21 = some y11 := h
    unfold volumegroupmake_Owner_Read_l1_b at h
    show CJ _ _ _ _ _ (([(8, .int .u64 (x20.toNat : Int)), (9, .int .i64 x21), (10, .int .i64 (((x19 : Nat) : Int)))] : Slots) ++ forget _ _) (OwnP bs bo x17 :: Arr bs x18 :: _)
    refine CJ_seq <| sR <| oM rfl rfl <| oP (P_lss (a := ((x19 : Nat) : Int)) (b := (8 : Int)) rfl rfl) rfl <| oM rfl rfl <| RJ_mbT rfl rfl rfl (fun hG22 => have hP23 : (((x19 : Nat) : Int) < (8 : Int)) := (bT_dec).1 hG22; VJ_P (P_move rfl)) <| RJ_mbT rfl rfl rfl (fun hG24 => have hP25 : (((x19 : Nat) : Int) < (8 : Int)) := (bT_dec).1 hG24; VJ_P (P_eql (a := x21) (b := (18 : Int)) (mbx hG24 rfl) rfl)) <| oP (P_pickAnd rfl (fun hh => mbx hh rfl) rfl) rfl <| nT <| CJ_condP rfl (bT_and bT_dec bT_dec) (fun hg1 => ?_) (fun hg1 => ?_)
    ·
     replace h := ite_t hg1 h
     refine kT <| CJ_seq <| CJ_block <| CJ_seq <| sR <| oM rfl rfl ?_
     obtain ⟨r26, hr27, h⟩ := bind_e h
     refine oO <| O_call (L_volumegroupmake_Owner_drop hr27) rfl Tryz.call50 (Dels.cons del0 (Dels.cons del0 Dels.nil)) rfl fun _ _ => oP (P_not rfl) rfl <| nT <| CJ_condP rfl (bT_not Iff.rfl) (fun hg2 => ?_) (fun hg2 => ?_)
     ·
      replace h := ite_t hg2 h
      refine sR <| oM rfl rfl <| oA rfl rfl <| oA rfl rfl <| nT <| CJ_ret <| QJ_then_ret <| QJ_block_ret <| QJ_then_ret <| QJ_round_ret <| QJ_block_ret <| QJ_then_ret ?_
      have hE := Option.some.inj h
      replace hE := seq_inr hK10 hE.symm
      subst hE
      exact fE (res2 Tryz.results59 rfl rfl) () eR
     ·
      replace h := ite_f hg2 h
      refine kT <| CJ_entX (Ent.transX (t0_ eR) (OwnP_open (l := r26.2))) fun oc28 => lC del5 fun hlen30 => lC del6 fun hlen31 => CJ_region <| oM rfl rfl <| oP (P_nilCheck rfl) rfl <| oP (P_fieldAddr rfl ⟨_, _, _, Tryz.runUnderlying37, rfl, rfl, Tryz.sizeOf33, rfl⟩) rfl <| oV (V_load rfl foc0 rfl Tryz.isAgg33) rfl <| oM rfl rfl ?_
      rcases opt_e h with ⟨ht32, h⟩ | ⟨o33, ht32, h⟩
      ·
       rw [ht32]
       exact RJ_ent (t0_ (t0_ (t0_ (t1_ (t1_ (t1_ (t1_ (eD eR)))))))) <| none_e h
      ·
       rw [ht32]
       refine RJ_ent (Ent.takeC (A' := VolP bs oc28.2.2.1 o33) del3 rfl eR) ?_
       obtain ⟨r34, hr35, h⟩ := bind_e h
       exact oO <| O_callI rfl (ICall.of (fun w => by kernel_rfl) Tryz.call28 (L_parityvol_Volume_Read hr35)) rfl (Dels.cons del0 (Dels.cons del6 Dels.nil)) rfl fun _ _ => oM rfl rfl <| oP (P_extract rfl rfl) rfl <| oP (P_extract rfl rfl) rfl <| oA rfl rfl <| oA rfl rfl <| RJ_nil <| QJ_ent (Ent.trans (t2_ (t2_ (t2_ (t0_ (t1_ (t1_ (t1_ eR))))))) (OwnP_mk (v0 := r26.2.Open_1) (v1 := (some r34.2.2.1)) (v2 := r26.2.T) (v3 := r26.2.Stale) (v4 := r26.2.Lost) (h0 := oc28.1) (h1 := oc28.2.1) (h2 := oc28.2.2.1) (h3 := oc28.2.2.2.1) (h4 := oc28.2.2.2.2.1) (h5 := oc28.2.2.2.2.2))) <| QJ_block_normal <| QJ_then <| CJ_region <| oM rfl rfl <| oP (PJ_eq (P_add (a := ((x19 : Nat) : Int)) (b := (1 : Int)) rfl rfl (by omega)) rfl) rfl <| oA rfl rfl <| RJ_nil <| nR ⟨n, { r26.2 with X := (some r34.2.2.1) }, r34.2.2.2, (x19 + 1), r34.1, r34.2.1⟩ h ⟨rfl, rfl, rfl, True.intro⟩ eR
    ·
     replace h := ite_f hg1 h
     exact CJ_exit <| QJ_then_exit <| QJ_round_exit <| QJ_block_here <| cR (x20, x21, x17, x18) (Option.some.inj h).symm ⟨rfl, rfl, True.intro⟩ eR
  ·
   rintro a16 hy36
   replace h := seq_inl hK10 hy36
   show CJ _ _ _ _ _ (([(8, .int .u64 (a16.1.toNat : Int)), (9, .int .i64 a16.2.1)] : Slots) ++ forget _ _) (OwnP bs bo a16.2.2.1 :: Arr bs a16.2.2.2 :: _)
   refine CJ_seq <| sR <| oM rfl rfl <| oP (P_eql (a := a16.2.1) (b := (5 : Int)) rfl rfl) rfl <| nT <| CJ_condP rfl bT_dec (fun hg3 => ?_) (fun hg3 => ?_)
   ·
    replace h := ite_t hg3 h
    refine sR <| oM rfl rfl <| oA rfl rfl <| oA rfl rfl <| nT <| CJ_ret <| QJ_then_ret ?_
    cases h
    exact fE (res2 Tryz.results59 rfl rfl) () eR
   ·
    replace h := ite_f hg3 h
    refine kT <| CJ_seq <| CJ_entX (Ent.transX (t0_ eR) (OwnP_open (l := a16.2.2.1))) fun oc37 => lC del5 fun hlen39 => lC del6 fun hlen40 => CJ_region <| oM rfl rfl <| oM rfl rfl <| oP (P_eql (a := a16.2.1) (b := (0 : Int)) rfl rfl) rfl <| oM rfl rfl <| RJ_splitP 47 rfl bT_dec (fun hg4B hg4 => ?_) (fun hg4B hg4 => ?_)
    ·
     replace h := ite_t hg4 h
     refine gP (GY_yes rfl rfl rfl hg4B) (P_move rfl) rfl <| gP (GY_yes rfl rfl rfl hg4B) (P_nilCheck rfl) rfl <| gP (GY_yes rfl rfl rfl hg4B) (P_fieldAddr rfl ⟨_, _, _, Tryz.runUnderlying37, rfl, rfl, Tryz.sizeOf34, rfl⟩) rfl <| gV (GY_yes rfl rfl rfl hg4B) (V_load rfl foc0 rfl Tryz.isAgg34) rfl <| gP (GY_yes rfl rfl rfl hg4B) (P_move rfl) rfl <| gP (GY_yes rfl rfl rfl hg4B) (P_move rfl) rfl <| gP (GY_yes rfl rfl rfl hg4B) (P_move rfl) rfl ?_
     obtain ⟨hg5, h⟩ := grd_de h
     refine RJ_gy (GY_yes rfl rfl rfl hg4B) <| O_call (c_Reads (smallT_at hg5) (v := a16.1)) rfl Tryz.call100 (Dels.cons del4 Dels.nil) rfl fun _ _ => oP (P_pickT rfl hg4B rfl) rfl <| oA rfl rfl <| oA rfl rfl <| RJ_nil <| QJ_ent (Ent.trans (t1_ (t1_ (t1_ (t1_ eR)))) (OwnP_mk (v0 := a16.2.2.1.Open_1) (v1 := a16.2.2.1.X) (v2 := (rdTS a16.2.2.1.T at_1 a16.1 settled)) (v3 := a16.2.2.1.Stale) (v4 := a16.2.2.1.Lost) (h0 := oc37.1) (h1 := oc37.2.1) (h2 := oc37.2.2.1) (h3 := oc37.2.2.2.1) (h4 := oc37.2.2.2.2.1) (h5 := oc37.2.2.2.2.2))) <| QJ_then <| CJ_ret ?_
     cases h
     exact fE (res2 Tryz.results59 rfl rfl) () eR
    ·
     replace h := ite_f hg4 h
     refine RJ_gn (GY_no rfl rfl rfl hg4B) rfl rfl <| RJ_gn (GY_no rfl rfl rfl hg4B) rfl rfl <| RJ_gn (GY_no rfl rfl rfl hg4B) rfl rfl <| RJ_gn (GY_no rfl rfl rfl hg4B) rfl rfl <| RJ_gn (GY_no rfl rfl rfl hg4B) rfl rfl <| RJ_gn (GY_no rfl rfl rfl hg4B) rfl rfl <| RJ_gn (GY_no rfl rfl rfl hg4B) rfl rfl <| RJ_gn (GY_no rfl rfl rfl hg4B) rfl rfl <| oP (P_pickF rfl hg4B rfl) rfl <| oA rfl rfl <| oA rfl rfl <| RJ_nil <| QJ_ent (Ent.trans eR (OwnP_mk (v0 := a16.2.2.1.Open_1) (v1 := a16.2.2.1.X) (v2 := a16.2.2.1.T) (v3 := a16.2.2.1.Stale) (v4 := a16.2.2.1.Lost) (h0 := oc37.1) (h1 := oc37.2.1) (h2 := oc37.2.2.1) (h3 := oc37.2.2.2.1) (h4 := oc37.2.2.2.2.1) (h5 := oc37.2.2.2.2.2))) <| QJ_then <| CJ_ret ?_
     cases h
     exact fE (res2 Tryz.results59 rfl rfl) () eR
def volumegroupmake_Owner_All_l1_b (settled : Bool) (rec : OwnS → ArrS → Nat → Option ((OwnS × ArrS) ⊕ (Bool × OwnS × ArrS))) (x7 : OwnS) (x8 : ArrS) (x9 : Nat) : Option ((OwnS × ArrS) ⊕ (Bool × OwnS × ArrS)) :=
  if (((x9 : Nat) : Int) < ((x7.T.length : Nat) : Int)) then
    Option.bind (volumegroupmake_Owner_Read x7 (((x9 : Nat) : Int)) settled x8) fun r16 =>
    if ((¬ r16.2.1 = true) ∨ (r16.1 ≠ (0 : Int))) then
      some (.inr (false, r16.2.2.1, r16.2.2.2))
    else
      grd (inN64 (x9 + 1)) <|
      rec r16.2.2.1 r16.2.2.2 (x9 + 1)
  else
    some (.inl (x7, x8))
def volumegroupmake_Owner_All_l1 (settled : Bool) : Nat → OwnS → ArrS → Nat → Option ((OwnS × ArrS) ⊕ (Bool × OwnS × ArrS))
  | 0, _, _, _ => none
  | n + 1, x7, x8, x9 => volumegroupmake_Owner_All_l1_b settled (volumegroupmake_Owner_All_l1 settled n) x7 x8 x9
def volumegroupmake_Owner_All (o : OwnS) (settled : Bool) (s : ArrS) : Option (Bool × OwnS × ArrS) :=
  seqO (volumegroupmake_Owner_All_l1 settled FUEL o s 0) fun a6 =>
  some (true, a6.1, a6.2)
theorem L_volumegroupmake_Owner_All {W : World} {bo : Nat} {bs : Nat} {o : OwnS} {settled : Bool} {s : ArrS} {r : Bool × OwnS × ArrS} (h : volumegroupmake_Owner_All o settled s = some r) :
    CSpec Tryz.prog W 21 [ptr bo 0, .bool settled] [OwnP bs bo o, Arr bs s] (fun x : Unit => .bool r.1) (fun _ => True) (fun x F => OwnP bs bo r.2.1 :: Arr bs r.2.2 :: F) := by
 refine CSpec.of_body Tryz.func21 rfl Tryz.ntmps21 rfl fun F => ?_
 show CJ _ _ _ _ _ _ (_ :: _ :: F)
 unfold volumegroupmake_Owner_All at h
 refine sR <| oA rfl rfl <| nT <| CJ_seq <| sR <| oA rfl rfl <| nT ?_
 obtain ⟨y3, hl1, hK2⟩ := seq_e h
 refine CJ_cutT (X := OwnS × ArrS) [4, 5, 6, 7, 8, 9, 10, 11, 12, 13, 14, 15, 16, 17, 18, 19, 20, 21, 22, 23, 24, 25, 26, 27, 28, 29, 30, 31, 32] (fun a6 => ([] : Slots)) (fun a6 R => OwnP bs bo a6.1 :: Arr bs a6.2 :: R) (fun a6 => y3 = .inl a6) (Dels.cons del0 (Dels.cons del0 Dels.nil)) ?_ ?_
 ·
  refine CJ_block <| CJ_loopR (X := Nat × OwnS × ArrS × Nat) [4, 5, 6, 7, 8, 9, 10, 11, 12, 13, 14, 15, 16, 17, 18, 19, 20, 21, 22, 23, 24, 25, 26, 27, 28, 29, 30, 31, 32] (fun ⟨n, x7, x8, x9⟩ => ([(5, .int .i64 (((x9 : Nat) : Int)))] : Slots)) (fun ⟨n, x7, x8, x9⟩ R => OwnP bs bo x7 :: Arr bs x8 :: R) (fun ⟨n, x7, x8, x9⟩ => volumegroupmake_Owner_All_l1 settled n x7 x8 x9 = some y3) (fun ⟨n, x7, x8, x9⟩ => n) ⟨FUEL, o, s, 0⟩ ?_ ?_ eR ?_
  · exact hl1
  · exact ⟨rfl, True.intro⟩
  ·
   rintro ⟨n, x7, x8, x9⟩ h
   cases n with
   | zero => exact none_e h
   | succ n => ?_
   replace h : volumegroupmake_Owner_All_l1_b settled (volumegroupmake_Owner_All_l1 settled n) x7 x8 x9 = some y3 := h
   unfold volumegroupmake_Owner_All_l1_b at h
   show CJ _ _ _ _ _ (([(5, .int .i64 (((x9 : Nat) : Int)))] : Slots) ++ forget _ _) (OwnP bs bo x7 :: Arr bs x8 :: _)
   refine CJ_seq <| CJ_seq <| CJ_entX (Ent.transX (t0_ eR) (OwnP_open (l := x7))) fun oc10 => lC del5 fun hlen12 => lC del6 fun hlen13 => CJ_entX (Ent.transX (t4_ eR) Trk_open) fun tc14 => CJ_pur fun hS15 => CJ_region <| oM rfl rfl <| oM rfl rfl <| oP (P_nilCheck rfl) rfl <| oP (P_fieldAddr rfl ⟨_, _, _, Tryz.runUnderlying37, rfl, rfl, Tryz.sizeOf34, rfl⟩) rfl <| oV (V_load rfl foc3 rfl Tryz.isAgg34) rfl <| oP (P_nilCheck rfl) rfl <| oP (P_fieldAddr rfl ⟨_, _, _, Tryz.runUnderlying56, rfl, rfl, Tryz.sizeOf54, rfl⟩) rfl <| oV (V_load rfl foc0 rfl Tryz.isAgg54) rfl <| oV (VJ_eq (V_len rfl foc1 (Reads.sl _ _ _) Tryz.runUnderlying54) (congrArg (fun z : Nat => Value.int .i64 (z : Int)) hS15.len.symm)) rfl <| oP (P_lss (a := ((x9 : Nat) : Int)) (b := ((x7.T.length : Nat) : Int)) rfl rfl) rfl <| RJ_nil <| QJ_ent (Ent.trans (t0_ (t0_ (t0_ eR))) (Trk_close hS15)) <| QJ_ent (Ent.trans (t1_ (t1_ (t1_ (t1_ eR)))) (OwnP_mk (v0 := x7.Open_1) (v1 := x7.X) (v2 := x7.T) (v3 := x7.Stale) (v4 := x7.Lost) (h0 := oc10.1) (h1 := oc10.2.1) (h2 := oc10.2.2.1) (h3 := oc10.2.2.2.1) (h4 := oc10.2.2.2.2.1) (h5 := oc10.2.2.2.2.2))) <| QJ_then <| CJ_condP rfl bT_dec (fun hg1 => ?_) (fun hg1 => ?_)
   ·
    replace h := ite_t hg1 h
    refine kT <| CJ_seq <| CJ_block <| sR <| oM rfl rfl <| oM rfl rfl <| oM rfl rfl ?_
    obtain ⟨r16, hr17, h⟩ := bind_e h
    refine oO <| O_call (L_volumegroupmake_Owner_Read hr17) rfl Tryz.call59 (Dels.cons del0 (Dels.cons del0 Dels.nil)) rfl fun _ _ => oM rfl rfl <| oP (P_extract rfl rfl) rfl <| oP (P_extract rfl rfl) rfl <| oA rfl rfl <| oA rfl rfl <| nT <| sR <| oM rfl rfl <| oP (P_not rfl) rfl <| oM rfl rfl <| RJ_mbF rfl rfl rfl (fun hG18 => have hP19 : ¬ (¬ r16.2.1 = true) := nP ((bT_not Iff.rfl)) hG18; VJ_P (P_move rfl)) <| RJ_mbF rfl rfl rfl (fun hG20 => have hP21 : ¬ (¬ r16.2.1 = true) := nP ((bT_not Iff.rfl)) hG20; VJ_P (P_neq (a := r16.1) (b := (0 : Int)) (mbx hG20 rfl) rfl)) <| oP (P_pickOr rfl rfl (fun hh => mbx (not_f hh) rfl)) rfl <| nT <| CJ_condP rfl (bT_or (bT_not Iff.rfl) bT_dec) (fun hg2 => ?_) (fun hg2 => ?_)
    ·
     replace h := ite_t hg2 h
     refine sR <| oA rfl rfl <| nT <| CJ_ret <| QJ_block_ret <| QJ_then_ret <| QJ_round_ret <| QJ_block_ret <| QJ_then_ret ?_
     have hE := Option.some.inj h
     replace hE := seq_inr hK2 hE.symm
     subst hE
     exact fE (res1 Tryz.results21 rfl) () eR
    ·
     replace h := ite_f hg2 h
     refine CJ_skip <| QJ_block_normal <| QJ_then <| CJ_region <| oM rfl rfl ?_
     obtain ⟨hg3, h⟩ := grd_Ne h
     exact oP (PJ_eq (P_add (a := ((x9 : Nat) : Int)) (b := (1 : Int)) rfl rfl (nat_in hg3)) rfl) rfl <| oA rfl rfl <| RJ_nil <| nR ⟨n, r16.2.2.1, r16.2.2.2, (x9 + 1)⟩ h ⟨rfl, True.intro⟩ eR
   ·
    replace h := ite_f hg1 h
    exact CJ_exit <| QJ_then_exit <| QJ_round_exit <| QJ_block_here <| cR (x7, x8) (Option.some.inj h).symm True.intro eR
 ·
  rintro a6 hy22
  replace h := seq_inl hK2 hy22
  show CJ _ _ _ _ _ (([] : Slots) ++ forget _ _) (OwnP bs bo a6.1 :: Arr bs a6.2 :: _)
  refine sR <| oA rfl rfl <| nT <| CJ_ret ?_
  cases h
  exact fE (res1 Tryz.results21 rfl) () eR
def volumegroupmake_Owner_Write_l1_b (at_1 : Int) (v : UInt64) (rec : OwnS → ArrS → Int → Nat → Option ((Int × OwnS × ArrS) ⊕ (Int × Bool × OwnS × ArrS))) (x16 : OwnS) (x17 : ArrS) (x18 : Int) (x19 : Nat) : Option ((Int × OwnS × ArrS) ⊕ (Int × Bool × OwnS × ArrS)) :=
  if ((((x19 : Nat) : Int) < (8 : Int)) ∧ (x18 = (18 : Int))) then
    grd (decide (smallT x16.T = true)) <|
    Option.bind (volumegroupmake_Owner_drop ({ x16 with T := (wroteT x16.T at_1 v false) }) x17) fun r28 =>
    if (¬ r28.1 = true) then
      some (.inr (x18, false, r28.2, x17))
    else
      Option.elim r28.2.X (
        none) fun o35 =>
      Option.bind (parityvol_Volume_Write o35 at_1 v x17) fun r36 =>
      rec ({ r28.2 with X := (some r36.2.1) }) r36.2.2 r36.1 (x19 + 1)
  else
    some (.inl (x18, x16, x17))
def volumegroupmake_Owner_Write_l1 (at_1 : Int) (v : UInt64) : Nat → OwnS → ArrS → Int → Nat → Option ((Int × OwnS × ArrS) ⊕ (Int × Bool × OwnS × ArrS))
  | 0, _, _, _, _ => none
  | n + 1, x16, x17, x18, x19 => volumegroupmake_Owner_Write_l1_b at_1 v (volumegroupmake_Owner_Write_l1 at_1 v n) x16 x17 x18 x19
def volumegroupmake_Owner_Write (o : OwnS) (at_1 : Int) (v : UInt64) (s : ArrS) : Option (Int × Bool × OwnS × ArrS) :=
  Option.elim o.X (
    none) fun o6 =>
  Option.bind (parityvol_Volume_Write o6 at_1 v s) fun r7 =>
  seqO (volumegroupmake_Owner_Write_l1 at_1 v FUEL ({ o with X := (some r7.2.1) }) r7.2.2 r7.1 0) fun a15 =>
  grd (decide (smallT a15.2.1.T = true)) <|
  some ((a15.1, ((decide (a15.1 = (0 : Int))) || (decide (a15.1 = (5 : Int)))), { a15.2.1 with T := (wroteT a15.2.1.T at_1 v ((decide (a15.1 = (0 : Int))))) }, a15.2.2))
theorem L_volumegroupmake_Owner_Write {W : World} {bo : Nat} {bs : Nat} {o : OwnS} {at_1 : Int} {v : UInt64} {s : ArrS} {r : Int × Bool × OwnS × ArrS} (h : volumegroupmake_Owner_Write o at_1 v s = some r) :
    CSpec Tryz.prog W 44 [ptr bo 0, .int .i64 at_1, .int .u64 (v.toNat : Int)] [OwnP bs bo o, Arr bs s] (fun x : Unit => .tuple #[.int .i64 r.1, .bool r.2.1]) (fun _ => True) (fun x F => OwnP bs bo r.2.2.1 :: Arr bs r.2.2.2 :: F) := by
 refine CSpec.of_body Tryz.func44 rfl Tryz.ntmps44 rfl fun F => ?_
 show CJ _ _ _ _ _ _ (_ :: _ :: F)
 unfold volumegroupmake_Owner_Write at h
 refine sR <| oA rfl rfl <| oA rfl rfl <| nT <| CJ_seq <| CJ_entX (Ent.transX (t0_ eR) (OwnP_open (l := o))) fun oc1 => lC del5 fun hlen3 => lC del6 fun hlen4 => CJ_region <| oM rfl rfl <| oP (P_nilCheck rfl) rfl <| oP (P_fieldAddr rfl ⟨_, _, _, Tryz.runUnderlying37, rfl, rfl, Tryz.sizeOf33, rfl⟩) rfl <| oV (V_load rfl foc0 rfl Tryz.isAgg33) rfl <| oM rfl rfl <| oM rfl rfl ?_
 rcases opt_e h with ⟨ht5, h⟩ | ⟨o6, ht5, h⟩
 ·
  rw [ht5]
  exact RJ_ent (t0_ (t0_ (t0_ (t1_ (t1_ (t1_ (t1_ (eD eR)))))))) <| none_e h
 ·
  rw [ht5]
  refine RJ_ent (Ent.takeC (A' := VolP bs oc1.2.2.1 o6) del3 rfl eR) ?_
  obtain ⟨r7, hr8, h⟩ := bind_e h
  refine oO <| O_callI rfl (ICall.of (fun w => by kernel_rfl) Tryz.call32 (L_parityvol_Volume_Write hr8)) rfl (Dels.cons del0 (Dels.cons del6 Dels.nil)) rfl fun _ _ => oA rfl rfl <| RJ_nil <| QJ_ent (Ent.trans (t2_ (t2_ (t2_ (t0_ (t1_ (t1_ (t1_ eR))))))) (OwnP_mk (v0 := o.Open_1) (v1 := (some r7.2.1)) (v2 := o.T) (v3 := o.Stale) (v4 := o.Lost) (h0 := oc1.1) (h1 := oc1.2.1) (h2 := oc1.2.2.1) (h3 := oc1.2.2.2.1) (h4 := oc1.2.2.2.2.1) (h5 := oc1.2.2.2.2.2))) <| QJ_then <| CJ_seq <| sR <| oA rfl rfl <| nT ?_
  obtain ⟨y11, hl9, hK10⟩ := seq_e h
  refine CJ_cutT (X := Int × OwnS × ArrS) [6, 7, 8, 9, 17, 18, 19, 20, 21, 22, 23, 24, 25, 26, 27, 28, 29, 30, 31, 32, 33, 34, 35, 36, 37, 38, 39, 40, 41, 42] (fun a15 => ([(8, .int .i64 a15.1)] : Slots)) (fun a15 R => OwnP bs bo a15.2.1 :: Arr bs a15.2.2 :: R) (fun a15 => y11 = .inl a15) (Dels.cons del0 (Dels.cons del0 Dels.nil)) ?_ ?_
  ·
   refine CJ_block <| CJ_loopR (X := Nat × OwnS × ArrS × Int × Nat) [6, 7, 8, 9, 17, 18, 19, 20, 21, 22, 23, 24, 25, 26, 27, 28, 29, 30, 31, 32, 33, 34, 35, 36, 37, 38, 39, 40, 41, 42] (fun ⟨n, x16, x17, x18, x19⟩ => ([(8, .int .i64 x18), (9, .int .i64 (((x19 : Nat) : Int)))] : Slots)) (fun ⟨n, x16, x17, x18, x19⟩ R => OwnP bs bo x16 :: Arr bs x17 :: R) (fun ⟨n, x16, x17, x18, x19⟩ => volumegroupmake_Owner_Write_l1 at_1 v n x16 x17 x18 x19 = some y11) (fun ⟨n, x16, x17, x18, x19⟩ => n) ⟨FUEL, { o with X := (some r7.2.1) }, r7.2.2, r7.1, 0⟩ ?_ ?_ eR ?_
   · exact hl9
   · exact ⟨rfl, rfl, True.intro⟩
   ·
    rintro ⟨n, x16, x17, x18, x19⟩ h
    cases n with
    | zero => exact none_e h
    | succ n => ?_
    replace h : volumegroupmake_Owner_Write_l1_b at_1 v (volumegroupmake_Owner_Write_l1 at_1 v n) x16 x17 x18 x19 = some y11 := h
    unfold volumegroupmake_Owner_Write_l1_b at h
    show CJ _ _ _ _ _ (([(8, .int .i64 x18), (9, .int .i64 (((x19 : Nat) : Int)))] : Slots) ++ forget _ _) (OwnP bs bo x16 :: Arr bs x17 :: _)
    refine CJ_seq <| sR <| oM rfl rfl <| oP (P_lss (a := ((x19 : Nat) : Int)) (b := (8 : Int)) rfl rfl) rfl <| oM rfl rfl <| RJ_mbT rfl rfl rfl (fun hG20 => have hP21 : (((x19 : Nat) : Int) < (8 : Int)) := (bT_dec).1 hG20; VJ_P (P_move rfl)) <| RJ_mbT rfl rfl rfl (fun hG22 => have hP23 : (((x19 : Nat) : Int) < (8 : Int)) := (bT_dec).1 hG22; VJ_P (P_eql (a := x18) (b := (18 : Int)) (mbx hG22 rfl) rfl)) <| oP (P_pickAnd rfl (fun hh => mbx hh rfl) rfl) rfl <| nT <| CJ_condP rfl (bT_and bT_dec bT_dec) (fun hg1 => ?_) (fun hg1 => ?_)
    ·
     replace h := ite_t hg1 h
     refine kT <| CJ_seq <| CJ_block <| CJ_seq <| CJ_entX (Ent.transX (t0_ eR) (OwnP_open (l := x16))) fun oc24 => lC del5 fun hlen26 => lC del6 fun hlen27 => CJ_region <| oM rfl rfl <| oP (P_nilCheck rfl) rfl <| oP (P_fieldAddr rfl ⟨_, _, _, Tryz.runUnderlying37, rfl, rfl, Tryz.sizeOf34, rfl⟩) rfl <| oV (V_load rfl foc0 rfl Tryz.isAgg34) rfl <| oM rfl rfl <| oM rfl rfl ?_
     obtain ⟨hg2, h⟩ := grd_de h
     refine oO <| O_call (c_Wrote (smallT_at hg2) (v := v)) rfl Tryz.call96 (Dels.cons del4 Dels.nil) rfl fun _ _ => RJ_nil <| QJ_ent (Ent.trans (t1_ (t1_ (t1_ (t1_ eR)))) (OwnP_mk (v0 := x16.Open_1) (v1 := x16.X) (v2 := (wroteT x16.T at_1 v false)) (v3 := x16.Stale) (v4 := x16.Lost) (h0 := oc24.1) (h1 := oc24.2.1) (h2 := oc24.2.2.1) (h3 := oc24.2.2.2.1) (h4 := oc24.2.2.2.2.1) (h5 := oc24.2.2.2.2.2))) <| QJ_then <| CJ_seq <| sR <| oM rfl rfl ?_
     obtain ⟨r28, hr29, h⟩ := bind_e h
     refine oO <| O_call (L_volumegroupmake_Owner_drop hr29) rfl Tryz.call50 (Dels.cons del0 (Dels.cons del0 Dels.nil)) rfl fun _ _ => oP (P_not rfl) rfl <| nT <| CJ_condP rfl (bT_not Iff.rfl) (fun hg3 => ?_) (fun hg3 => ?_)
     ·
      replace h := ite_t hg3 h
      refine sR <| oM rfl rfl <| oA rfl rfl <| oA rfl rfl <| nT <| CJ_ret <| QJ_then_ret <| QJ_block_ret <| QJ_then_ret <| QJ_round_ret <| QJ_block_ret <| QJ_then_ret ?_
      have hE := Option.some.inj h
      replace hE := seq_inr hK10 hE.symm
      subst hE
      exact fE (res2 Tryz.results44 rfl rfl) () eR
     ·
      replace h := ite_f hg3 h
      refine kT <| CJ_entX (Ent.transX (t0_ eR) (OwnP_open (l := r28.2))) fun oc30 => lC del5 fun hlen32 => lC del6 fun hlen33 => CJ_region <| oM rfl rfl <| oP (P_nilCheck rfl) rfl <| oP (P_fieldAddr rfl ⟨_, _, _, Tryz.runUnderlying37, rfl, rfl, Tryz.sizeOf33, rfl⟩) rfl <| oV (V_load rfl foc0 rfl Tryz.isAgg33) rfl <| oM rfl rfl <| oM rfl rfl ?_
      rcases opt_e h with ⟨ht34, h⟩ | ⟨o35, ht34, h⟩
      ·
       rw [ht34]
       exact RJ_ent (t0_ (t0_ (t0_ (t1_ (t1_ (t1_ (t1_ (eD eR)))))))) <| none_e h
      ·
       rw [ht34]
       refine RJ_ent (Ent.takeC (A' := VolP bs oc30.2.2.1 o35) del3 rfl eR) ?_
       obtain ⟨r36, hr37, h⟩ := bind_e h
       exact oO <| O_callI rfl (ICall.of (fun w => by kernel_rfl) Tryz.call32 (L_parityvol_Volume_Write hr37)) rfl (Dels.cons del0 (Dels.cons del6 Dels.nil)) rfl fun _ _ => oA rfl rfl <| RJ_nil <| QJ_ent (Ent.trans (t2_ (t2_ (t2_ (t0_ (t1_ (t1_ (t1_ eR))))))) (OwnP_mk (v0 := r28.2.Open_1) (v1 := (some r36.2.1)) (v2 := r28.2.T) (v3 := r28.2.Stale) (v4 := r28.2.Lost) (h0 := oc30.1) (h1 := oc30.2.1) (h2 := oc30.2.2.1) (h3 := oc30.2.2.2.1) (h4 := oc30.2.2.2.2.1) (h5 := oc30.2.2.2.2.2))) <| QJ_block_normal <| QJ_then <| CJ_region <| oM rfl rfl <| oP (PJ_eq (P_add (a := ((x19 : Nat) : Int)) (b := (1 : Int)) rfl rfl (by omega)) rfl) rfl <| oA rfl rfl <| RJ_nil <| nR ⟨n, { r28.2 with X := (some r36.2.1) }, r36.2.2, r36.1, (x19 + 1)⟩ h ⟨rfl, rfl, True.intro⟩ eR
    ·
     replace h := ite_f hg1 h
     exact CJ_exit <| QJ_then_exit <| QJ_round_exit <| QJ_block_here <| cR (x18, x16, x17) (Option.some.inj h).symm ⟨rfl, True.intro⟩ eR
  ·
   rintro a15 hy38
   replace h := seq_inl hK10 hy38
   show CJ _ _ _ _ _ (([(8, .int .i64 a15.1)] : Slots) ++ forget _ _) (OwnP bs bo a15.2.1 :: Arr bs a15.2.2 :: _)
   refine CJ_seq <| CJ_entX (Ent.transX (t0_ eR) (OwnP_open (l := a15.2.1))) fun oc39 => lC del5 fun hlen41 => lC del6 fun hlen42 => CJ_region <| oM rfl rfl <| oP (P_nilCheck rfl) rfl <| oP (P_fieldAddr rfl ⟨_, _, _, Tryz.runUnderlying37, rfl, rfl, Tryz.sizeOf34, rfl⟩) rfl <| oV (V_load rfl foc0 rfl Tryz.isAgg34) rfl <| oM rfl rfl <| oM rfl rfl <| oM rfl rfl <| oP (P_eql (a := a15.1) (b := (0 : Int)) rfl rfl) rfl ?_
   obtain ⟨hg4, h⟩ := grd_de h
   refine oO <| O_call (c_Wrote (smallT_at hg4) (v := v)) rfl Tryz.call96 (Dels.cons del4 Dels.nil) rfl fun _ _ => RJ_nil <| QJ_ent (Ent.trans (t1_ (t1_ (t1_ (t1_ eR)))) (OwnP_mk (v0 := a15.2.1.Open_1) (v1 := a15.2.1.X) (v2 := (wroteT a15.2.1.T at_1 v ((decide (a15.1 = (0 : Int)))))) (v3 := a15.2.1.Stale) (v4 := a15.2.1.Lost) (h0 := oc39.1) (h1 := oc39.2.1) (h2 := oc39.2.2.1) (h3 := oc39.2.2.2.1) (h4 := oc39.2.2.2.2.1) (h5 := oc39.2.2.2.2.2))) <| QJ_then <| sR <| oM rfl rfl <| oM rfl rfl <| oP (P_eql (a := a15.1) (b := (0 : Int)) rfl rfl) rfl <| oM rfl rfl <| RJ_mbF rfl rfl rfl (fun hG43 => have hP44 : ¬ (a15.1 = (0 : Int)) := nP (bT_dec) hG43; VJ_P (P_move rfl)) <| RJ_mbF rfl rfl rfl (fun hG45 => have hP46 : ¬ (a15.1 = (0 : Int)) := nP (bT_dec) hG45; VJ_P (P_eql (a := a15.1) (b := (5 : Int)) (mbx hG45 rfl) rfl)) <| oP (P_pickOr rfl rfl (fun hh => mbx (not_f hh) rfl)) rfl <| oA rfl rfl <| oA rfl rfl <| nT <| CJ_ret ?_
   cases h
   exact fE (res2 Tryz.results44 rfl rfl) () eR
def volumegroupmake_Owner_Flush_l1_b (rec : OwnS → ArrS → Int → Nat → Option ((Int × OwnS × ArrS) ⊕ (Int × Bool × OwnS × ArrS))) (x16 : OwnS) (x17 : ArrS) (x18 : Int) (x19 : Nat) : Option ((Int × OwnS × ArrS) ⊕ (Int × Bool × OwnS × ArrS)) :=
  if ((((x19 : Nat) : Int) < (8 : Int)) ∧ (x18 = (18 : Int))) then
    Option.bind (volumegroupmake_Owner_drop x16 x17) fun r24 =>
    if (¬ r24.1 = true) then
      some (.inr (x18, false, r24.2, x17))
    else
      Option.elim r24.2.X (
        none) fun o31 =>
      Option.bind (parityvol_Volume_Flush o31 x17) fun r32 =>
      rec ({ r24.2 with X := (some r32.2.1) }) r32.2.2 r32.1 (x19 + 1)
  else
    some (.inl (x18, x16, x17))
def volumegroupmake_Owner_Flush_l1 : Nat → OwnS → ArrS → Int → Nat → Option ((Int × OwnS × ArrS) ⊕ (Int × Bool × OwnS × ArrS))
  | 0, _, _, _, _ => none
  | n + 1, x16, x17, x18, x19 => volumegroupmake_Owner_Flush_l1_b (volumegroupmake_Owner_Flush_l1 n) x16 x17 x18 x19
def volumegroupmake_Owner_Flush (o : OwnS) (s : ArrS) : Option (Int × Bool × OwnS × ArrS) :=
  Option.elim o.X (
    none) fun o6 =>
  Option.bind (parityvol_Volume_Flush o6 s) fun r7 =>
  seqO (volumegroupmake_Owner_Flush_l1 FUEL ({ o with X := (some r7.2.1) }) r7.2.2 r7.1 0) fun a15 =>
  if (a15.1 = (0 : Int)) then
    some ((a15.1, ((decide (a15.1 = (0 : Int))) || (decide (a15.1 = (5 : Int)))), { a15.2.1 with T := (flushedT a15.2.1.T) }, a15.2.2))
  else
    some ((a15.1, ((decide (a15.1 = (0 : Int))) || (decide (a15.1 = (5 : Int)))), a15.2.1, a15.2.2))
theorem L_volumegroupmake_Owner_Flush {W : World} {bo : Nat} {bs : Nat} {o : OwnS} {s : ArrS} {r : Int × Bool × OwnS × ArrS} (h : volumegroupmake_Owner_Flush o s = some r) :
    CSpec Tryz.prog W 15 [ptr bo 0] [OwnP bs bo o, Arr bs s] (fun x : Unit => .tuple #[.int .i64 r.1, .bool r.2.1]) (fun _ => True) (fun x F => OwnP bs bo r.2.2.1 :: Arr bs r.2.2.2 :: F) := by
 refine CSpec.of_body Tryz.func15 rfl Tryz.ntmps15 rfl fun F => ?_
 show CJ _ _ _ _ _ _ (_ :: _ :: F)
 unfold volumegroupmake_Owner_Flush at h
 refine sR <| oA rfl rfl <| oA rfl rfl <| nT <| CJ_seq <| CJ_entX (Ent.transX (t0_ eR) (OwnP_open (l := o))) fun oc1 => lC del5 fun hlen3 => lC del6 fun hlen4 => CJ_region <| oM rfl rfl <| oP (P_nilCheck rfl) rfl <| oP (P_fieldAddr rfl ⟨_, _, _, Tryz.runUnderlying37, rfl, rfl, Tryz.sizeOf33, rfl⟩) rfl <| oV (V_load rfl foc0 rfl Tryz.isAgg33) rfl ?_
 rcases opt_e h with ⟨ht5, h⟩ | ⟨o6, ht5, h⟩
 ·
  rw [ht5]
  exact RJ_ent (t0_ (t0_ (t0_ (t1_ (t1_ (t1_ (t1_ (eD eR)))))))) <| none_e h
 ·
  rw [ht5]
  refine RJ_ent (Ent.takeC (A' := VolP bs oc1.2.2.1 o6) del3 rfl eR) ?_
  obtain ⟨r7, hr8, h⟩ := bind_e h
  refine oO <| O_callI rfl (ICall.of (fun w => by kernel_rfl) Tryz.call43 (L_parityvol_Volume_Flush hr8)) rfl (Dels.cons del0 (Dels.cons del6 Dels.nil)) rfl fun _ _ => oA rfl rfl <| RJ_nil <| QJ_ent (Ent.trans (t2_ (t2_ (t2_ (t0_ (t1_ (t1_ (t1_ eR))))))) (OwnP_mk (v0 := o.Open_1) (v1 := (some r7.2.1)) (v2 := o.T) (v3 := o.Stale) (v4 := o.Lost) (h0 := oc1.1) (h1 := oc1.2.1) (h2 := oc1.2.2.1) (h3 := oc1.2.2.2.1) (h4 := oc1.2.2.2.2.1) (h5 := oc1.2.2.2.2.2))) <| QJ_then <| CJ_seq <| sR <| oA rfl rfl <| nT ?_
  obtain ⟨y11, hl9, hK10⟩ := seq_e h
  refine CJ_cutT (X := Int × OwnS × ArrS) [2, 3, 4, 5, 11, 12, 13, 14, 15, 16, 17, 18, 19, 20, 21, 22, 23, 24, 25, 26, 27] (fun a15 => ([(4, .int .i64 a15.1)] : Slots)) (fun a15 R => OwnP bs bo a15.2.1 :: Arr bs a15.2.2 :: R) (fun a15 => y11 = .inl a15) (Dels.cons del0 (Dels.cons del0 Dels.nil)) ?_ ?_
  ·
   refine CJ_block <| CJ_loopR (X := Nat × OwnS × ArrS × Int × Nat) [2, 3, 4, 5, 11, 12, 13, 14, 15, 16, 17, 18, 19, 20, 21, 22, 23, 24, 25, 26, 27] (fun ⟨n, x16, x17, x18, x19⟩ => ([(4, .int .i64 x18), (5, .int .i64 (((x19 : Nat) : Int)))] : Slots)) (fun ⟨n, x16, x17, x18, x19⟩ R => OwnP bs bo x16 :: Arr bs x17 :: R) (fun ⟨n, x16, x17, x18, x19⟩ => volumegroupmake_Owner_Flush_l1 n x16 x17 x18 x19 = some y11) (fun ⟨n, x16, x17, x18, x19⟩ => n) ⟨FUEL, { o with X := (some r7.2.1) }, r7.2.2, r7.1, 0⟩ ?_ ?_ eR ?_
   · exact hl9
   · exact ⟨rfl, rfl, True.intro⟩
   ·
    rintro ⟨n, x16, x17, x18, x19⟩ h
    cases n with
    | zero => exact none_e h
    | succ n => ?_
    replace h : volumegroupmake_Owner_Flush_l1_b (volumegroupmake_Owner_Flush_l1 n) x16 x17 x18 x19 = some y11 := h
    unfold volumegroupmake_Owner_Flush_l1_b at h
    show CJ _ _ _ _ _ (([(4, .int .i64 x18), (5, .int .i64 (((x19 : Nat) : Int)))] : Slots) ++ forget _ _) (OwnP bs bo x16 :: Arr bs x17 :: _)
    refine CJ_seq <| sR <| oM rfl rfl <| oP (P_lss (a := ((x19 : Nat) : Int)) (b := (8 : Int)) rfl rfl) rfl <| oM rfl rfl <| RJ_mbT rfl rfl rfl (fun hG20 => have hP21 : (((x19 : Nat) : Int) < (8 : Int)) := (bT_dec).1 hG20; VJ_P (P_move rfl)) <| RJ_mbT rfl rfl rfl (fun hG22 => have hP23 : (((x19 : Nat) : Int) < (8 : Int)) := (bT_dec).1 hG22; VJ_P (P_eql (a := x18) (b := (18 : Int)) (mbx hG22 rfl) rfl)) <| oP (P_pickAnd rfl (fun hh => mbx hh rfl) rfl) rfl <| nT <| CJ_condP rfl (bT_and bT_dec bT_dec) (fun hg1 => ?_) (fun hg1 => ?_)
    ·
     replace h := ite_t hg1 h
     refine kT <| CJ_seq <| CJ_block <| CJ_seq <| sR <| oM rfl rfl ?_
     obtain ⟨r24, hr25, h⟩ := bind_e h
     refine oO <| O_call (L_volumegroupmake_Owner_drop hr25) rfl Tryz.call50 (Dels.cons del0 (Dels.cons del0 Dels.nil)) rfl fun _ _ => oP (P_not rfl) rfl <| nT <| CJ_condP rfl (bT_not Iff.rfl) (fun hg2 => ?_) (fun hg2 => ?_)
     ·
      replace h := ite_t hg2 h
      refine sR <| oM rfl rfl <| oA rfl rfl <| oA rfl rfl <| nT <| CJ_ret <| QJ_then_ret <| QJ_block_ret <| QJ_then_ret <| QJ_round_ret <| QJ_block_ret <| QJ_then_ret ?_
      have hE := Option.some.inj h
      replace hE := seq_inr hK10 hE.symm
      subst hE
      exact fE (res2 Tryz.results15 rfl rfl) () eR
     ·
      replace h := ite_f hg2 h
      refine kT <| CJ_entX (Ent.transX (t0_ eR) (OwnP_open (l := r24.2))) fun oc26 => lC del5 fun hlen28 => lC del6 fun hlen29 => CJ_region <| oM rfl rfl <| oP (P_nilCheck rfl) rfl <| oP (P_fieldAddr rfl ⟨_, _, _, Tryz.runUnderlying37, rfl, rfl, Tryz.sizeOf33, rfl⟩) rfl <| oV (V_load rfl foc0 rfl Tryz.isAgg33) rfl ?_
      rcases opt_e h with ⟨ht30, h⟩ | ⟨o31, ht30, h⟩
      ·
       rw [ht30]
       exact RJ_ent (t0_ (t0_ (t0_ (t1_ (t1_ (t1_ (t1_ (eD eR)))))))) <| none_e h
      ·
       rw [ht30]
       refine RJ_ent (Ent.takeC (A' := VolP bs oc26.2.2.1 o31) del3 rfl eR) ?_
       obtain ⟨r32, hr33, h⟩ := bind_e h
       exact oO <| O_callI rfl (ICall.of (fun w => by kernel_rfl) Tryz.call43 (L_parityvol_Volume_Flush hr33)) rfl (Dels.cons del0 (Dels.cons del6 Dels.nil)) rfl fun _ _ => oA rfl rfl <| RJ_nil <| QJ_ent (Ent.trans (t2_ (t2_ (t2_ (t0_ (t1_ (t1_ (t1_ eR))))))) (OwnP_mk (v0 := r24.2.Open_1) (v1 := (some r32.2.1)) (v2 := r24.2.T) (v3 := r24.2.Stale) (v4 := r24.2.Lost) (h0 := oc26.1) (h1 := oc26.2.1) (h2 := oc26.2.2.1) (h3 := oc26.2.2.2.1) (h4 := oc26.2.2.2.2.1) (h5 := oc26.2.2.2.2.2))) <| QJ_block_normal <| QJ_then <| CJ_region <| oM rfl rfl <| oP (PJ_eq (P_add (a := ((x19 : Nat) : Int)) (b := (1 : Int)) rfl rfl (by omega)) rfl) rfl <| oA rfl rfl <| RJ_nil <| nR ⟨n, { r24.2 with X := (some r32.2.1) }, r32.2.2, r32.1, (x19 + 1)⟩ h ⟨rfl, rfl, True.intro⟩ eR
    ·
     replace h := ite_f hg1 h
     exact CJ_exit <| QJ_then_exit <| QJ_round_exit <| QJ_block_here <| cR (x18, x16, x17) (Option.some.inj h).symm ⟨rfl, True.intro⟩ eR
  ·
   rintro a15 hy34
   replace h := seq_inl hK10 hy34
   show CJ _ _ _ _ _ (([(4, .int .i64 a15.1)] : Slots) ++ forget _ _) (OwnP bs bo a15.2.1 :: Arr bs a15.2.2 :: _)
   refine CJ_seq <| sR <| oM rfl rfl <| oP (P_eql (a := a15.1) (b := (0 : Int)) rfl rfl) rfl <| nT <| CJ_condP rfl bT_dec (fun hg3 => ?_) (fun hg3 => ?_)
   ·
    replace h := ite_t hg3 h
    refine CJ_entX (Ent.transX (t0_ eR) (OwnP_open (l := a15.2.1))) fun oc35 => lC del5 fun hlen37 => lC del6 fun hlen38 => CJ_region <| oM rfl rfl <| oP (P_nilCheck rfl) rfl <| oP (P_fieldAddr rfl ⟨_, _, _, Tryz.runUnderlying37, rfl, rfl, Tryz.sizeOf34, rfl⟩) rfl <| oV (V_load rfl foc0 rfl Tryz.isAgg34) rfl <| oO <| O_call (c_Flushed) rfl Tryz.call51 (Dels.cons del4 Dels.nil) rfl fun _ _ => RJ_nil <| QJ_ent (Ent.trans (t1_ (t1_ (t1_ (t1_ eR)))) (OwnP_mk (v0 := a15.2.1.Open_1) (v1 := a15.2.1.X) (v2 := (flushedT a15.2.1.T)) (v3 := a15.2.1.Stale) (v4 := a15.2.1.Lost) (h0 := oc35.1) (h1 := oc35.2.1) (h2 := oc35.2.2.1) (h3 := oc35.2.2.2.1) (h4 := oc35.2.2.2.2.1) (h5 := oc35.2.2.2.2.2))) <| QJ_then <| sR <| oM rfl rfl <| oM rfl rfl <| oP (P_eql (a := a15.1) (b := (0 : Int)) rfl rfl) rfl <| oM rfl rfl <| RJ_mbF rfl rfl rfl (fun hG39 => have hP40 : ¬ (a15.1 = (0 : Int)) := nP (bT_dec) hG39; VJ_P (P_move rfl)) <| RJ_mbF rfl rfl rfl (fun hG41 => have hP42 : ¬ (a15.1 = (0 : Int)) := nP (bT_dec) hG41; VJ_P (P_eql (a := a15.1) (b := (5 : Int)) (mbx hG41 rfl) rfl)) <| oP (P_pickOr rfl rfl (fun hh => mbx (not_f hh) rfl)) rfl <| oA rfl rfl <| oA rfl rfl <| nT <| CJ_ret ?_
    cases h
    exact fE (res2 Tryz.results15 rfl rfl) () eR
   ·
    replace h := ite_f hg3 h
    refine kT <| sR <| oM rfl rfl <| oM rfl rfl <| oP (P_eql (a := a15.1) (b := (0 : Int)) rfl rfl) rfl <| oM rfl rfl <| RJ_mbF rfl rfl rfl (fun hG43 => have hP44 : ¬ (a15.1 = (0 : Int)) := nP (bT_dec) hG43; VJ_P (P_move rfl)) <| RJ_mbF rfl rfl rfl (fun hG45 => have hP46 : ¬ (a15.1 = (0 : Int)) := nP (bT_dec) hG45; VJ_P (P_eql (a := a15.1) (b := (5 : Int)) (mbx hG45 rfl) rfl)) <| oP (P_pickOr rfl rfl (fun hh => mbx (not_f hh) rfl)) rfl <| oA rfl rfl <| oA rfl rfl <| nT <| CJ_ret ?_
    cases h
    exact fE (res2 Tryz.results15 rfl rfl) () eR
def volumegroupmake_Owner_Lose (o : OwnS) (disk : Int) (leg : Int) (s : ArrS) : Option (Bool × OwnS × ArrS) :=
  Option.bind (volumegroupmake_add o.Lost leg) fun r5 =>
  some (((decide ((smR s disk) = (0 : Int))), { o with Lost := r5 }, (smS s disk true)))
theorem L_volumegroupmake_Owner_Lose {W : World} {bo : Nat} {bs : Nat} {o : OwnS} {disk : Int} {leg : Int} {s : ArrS} {r : Bool × OwnS × ArrS} (h : volumegroupmake_Owner_Lose o disk leg s = some r) :
    CSpec Tryz.prog W 40 [ptr bo 0, .int .i64 disk, .int .i64 leg] [OwnP bs bo o, Arr bs s] (fun x : Unit => .bool r.1) (fun _ => True) (fun x F => OwnP bs bo r.2.1 :: Arr bs r.2.2 :: F) := by
 refine CSpec.of_body Tryz.func40 rfl Tryz.ntmps40 rfl fun F => ?_
 show CJ _ _ _ _ _ _ (_ :: _ :: F)
 unfold volumegroupmake_Owner_Lose at h
 refine sR <| oA rfl rfl <| nT <| CJ_seq <| CJ_entX (Ent.transX (t0_ eR) (OwnP_open (l := o))) fun oc1 => lC del5 fun hlen3 => lC del6 fun hlen4 => CJ_region <| oM rfl rfl <| oM rfl rfl <| oP (P_nilCheck rfl) rfl <| oP (P_fieldAddr rfl ⟨_, _, _, Tryz.runUnderlying37, rfl, rfl, Tryz.sizeOf35, rfl⟩) rfl <| oV (V_load rfl foc0 rfl Tryz.isAgg35) rfl <| oM rfl rfl ?_
 obtain ⟨r5, hr6, h⟩ := bind_e h
 refine oO <| O_call (L_volumegroupmake_add (Reads.sl _ _ _) hr6) rfl Tryz.call58 (Dels.cons del6 Dels.nil) rfl fun X7 _ => oP (P_nilCheck rfl) rfl <| oP (P_fieldAddr rfl ⟨_, _, _, Tryz.runUnderlying37, rfl, rfl, Tryz.sizeOf35, rfl⟩) rfl <| oO <| O_store rfl rfl foc2 rfl rfl Tryz.sizeOf35 <| RJ_nil <| QJ_ent (Ent.trans (t2_ (t2_ (t2_ (t2_ (t2_ (t2_ (t1_ eR))))))) (OwnP_mk (v0 := o.Open_1) (v1 := o.X) (v2 := o.T) (v3 := o.Stale) (v4 := r5) (h0 := oc1.1) (h1 := oc1.2.1) (h2 := oc1.2.2.1) (h3 := oc1.2.2.2.1) (h4 := oc1.2.2.2.2.1) (h5 := X7))) <| QJ_then <| CJ_seq <| CJ_entX (Ent.transX (t0_ eR) (OwnP_open (l := { o with Lost := r5 }))) fun oc9 => lC del5 fun hlen11 => lC del6 fun hlen12 => CJ_region <| oM rfl rfl <| oP (P_nilCheck rfl) rfl <| oP (P_fieldAddr rfl ⟨_, _, _, Tryz.runUnderlying37, rfl, rfl, Tryz.sizeOf30, rfl⟩) rfl <| oV (V_load rfl foc0 rfl Tryz.isAgg30) rfl <| oM rfl rfl <| oO <| O_call (c_SetMissing) rfl Tryz.call90 (Dels.cons del8 Dels.nil) rfl fun _ _ => oP (P_eql (a := (smR s disk)) (b := (0 : Int)) rfl rfl) rfl <| oA rfl rfl <| RJ_nil <| QJ_ent (Ent.trans (t1_ (t1_ (t1_ (t1_ (t1_ (t1_ (t1_ eR))))))) (OwnP_mk (v0 := o.Open_1) (v1 := o.X) (v2 := o.T) (v3 := o.Stale) (v4 := r5) (h0 := oc9.1) (h1 := oc9.2.1) (h2 := oc9.2.2.1) (h3 := oc9.2.2.2.1) (h4 := oc9.2.2.2.2.1) (h5 := oc9.2.2.2.2.2))) <| QJ_then ?_
 refine CJ_ret ?_
 cases h
 exact fE (res1 Tryz.results40 rfl) () (t0_ (t0_ (eD eR)))
end Go.Proofs
