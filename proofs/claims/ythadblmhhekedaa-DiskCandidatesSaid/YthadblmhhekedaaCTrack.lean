/- YthadblmhhekedaaCTrack: contracts of functions of the program, walked rule by rule; printed by vg.py. -/
import Derived.Test.YthadblmhhekedaaVgS
import Derived.Test.YthadblmhhekedaaVgK
import Derived.Test.YthadblmhhekedaaCDisk0
set_option linter.unusedSimpArgs false
set_option maxRecDepth 20000
namespace Go.Proofs
open Go.VG
theorem CTrack_bs_32_1_0 (v0 : Int) : BuildsSlice Try.prog 32 1 [(0, .int .u64 v0)] 33 [.int .u64 v0] := fun w => by kernel_rfl
theorem CTrack_bld_71_ : ∀ w, (Instr.build 71 (#[] : Array (Nat × Value))).run Try.prog w = .ok (.agg #[.slice none 0 0]) w := fun w => by kernel_rfl
theorem CTrack_bld_73_0_1_2 (v0 : (Option Addr)) (v1 : Nat) (v2 : Nat) (v3 : Bool) (v4 : Int) : ∀ w, (Instr.build 73 (#[(0, .slice v0 v1 v2), (1, .bool v3), (2, .int .u64 v4)] : Array (Nat × Value))).run Try.prog w = .ok (.agg #[.slice v0 v1 v2, .bool v3, .int .u64 v4]) w := fun w => by kernel_rfl
theorem CTrack_bs_69_1_0 (v0 : (Option Addr)) (v1 : Nat) (v2 : Nat) (v3 : Bool) (v4 : Int) : BuildsSlice Try.prog 69 1 [(0, .agg #[.slice v0 v1 v2, .bool v3, .int .u64 v4])] 73 [.slice v0 v1 v2, .bool v3, .int .u64 v4] := fun w => by kernel_rfl

structure SecH where
  some : Sl3
  known : Bool
  value : UInt64
structure Sec where
  some : List UInt64
  known : Bool
  value : UInt64
abbrev sH0 : SecH := ⟨⟨none, 0, 0⟩, false, 0⟩
abbrev s0 : Sec := ⟨[], false, 0⟩
abbrev tySec : Ty SecH := { T := 73, sz := 3, enc := fun x => [x.some.v, .bool x.known, .int .u64 (x.value.toNat : Int)], dflt := sH0, len := fun _ => rfl, one := fun _ => rfl, pos := by decide }
theorem ok_tySec : ElemOk Try.prog tySec 40 := ⟨Try.t73, .agg #[.slice none 0 0, .bool false, .int .u64 0], by kernel_rfl, rfl, rfl, rfl, rfl⟩
abbrev SL := List (SecH × Sec)
def ownS (p : SecH × Sec) : HP := sl tyU p.1.some.v p.2.some
abbrev SL.hs (l : SL) : List SecH := l.map Prod.fst
structure SOk (l : SL) (t : List Sec) : Prop where
  ds : l.map Prod.snd = t
  ag : ∀ p ∈ l, p.1.known = p.2.known ∧ p.1.value = p.2.value
  cnt : t.length ≤ 65536
theorem SOk.len {l : SL} {t : List Sec} (h : SOk l t) : (SL.hs l).length = t.length := by rw [← h.ds]; simp
theorem SOk.at {l : SL} {t : List Sec} (h : SOk l t) {i : Nat} (hi : i < t.length) : ((SL.hs l).getD i sH0).known = (t.getD i s0).known ∧ ((SL.hs l).getD i sH0).value = (t.getD i s0).value := by
  have hi' : i < l.length := by rw [← h.ds] at hi; simpa using hi
  rw [← h.ds]
  show ((l.map Prod.fst).getD i (Prod.fst (sH0, s0))).known = ((l.map Prod.snd).getD i (Prod.snd (sH0, s0))).known ∧ ((l.map Prod.fst).getD i (Prod.fst (sH0, s0))).value = ((l.map Prod.snd).getD i (Prod.snd (sH0, s0))).value
  rw [getD_map, getD_map]
  have : l.getD i (sH0, s0) = l[i] := by simp [List.getD, hi']
  rw [this]
  exact h.ag _ (List.getElem_mem hi')
theorem SOk.set {l : SL} {t : List Sec} (h : SOk l t) (i : Nat) (x : SecH × Sec) (hx : x.1.known = x.2.known ∧ x.1.value = x.2.value) : SOk (l.set i x) (t.set i x.2) where
  ds := by rw [List.map_set, h.ds]
  ag := fun p hp => by
    rcases List.mem_or_eq_of_mem_set hp with hp | rfl
    · exact h.ag p hp
    · exact hx
  cnt := by simpa using h.cnt
/-- What a track is. -/
def Trk (b : Nat) (t : List Sec) : HP := ex fun c : Sl3 × SL => star [pur (SOk c.2 t), blk b 71 [c.1.v], sl tySec c.1.v (SL.hs c.2), Own ownS c.2]
theorem Trk_open {b : Nat} {t : List Sec} {R : List HP} : EntX (Trk b t :: R) fun c : Sl3 × SL => pur (SOk c.2 t) :: blk b 71 [c.1.v] :: sl tySec c.1.v (SL.hs c.2) :: Own ownS c.2 :: R :=
  fun _ hh => let ⟨c, hc⟩ := stars_ex.1 hh; ⟨c, stars_star.1 hc⟩
theorem Trk_close {b : Nat} {t : List Sec} {sv : Sl3} {l : SL} (h : SOk l t) {R : List HP} : Ent (blk b 71 [sv.v] :: sl tySec sv.v (SL.hs l) :: Own ownS l :: R) (Trk b t :: R) :=
  fun _ hh => stars_ex.2 ⟨(sv, l), stars_star.2 (stars_pur.2 ⟨h, hh⟩)⟩
theorem OwnS_open {l : SL} {t : List Sec} (h : SOk l t) (i : Nat) (hi : i < t.length) {R : List HP} : Ent (Own ownS l :: R) (sl tyU ((SL.hs l).getD i sH0).some.v (t.getD i s0).some :: ORest ownS l i :: R) := by
  have hi' : i < l.length := by rw [← h.ds] at hi; simpa using hi
  have := Own_open ownS (R := R) i (sH0, s0) hi'
  rw [← h.ds]
  show Ent _ (sl tyU ((l.map Prod.fst).getD i (Prod.fst (sH0, s0))).some.v ((l.map Prod.snd).getD i (Prod.snd (sH0, s0))).some :: _)
  rw [getD_map, getD_map]; exact this
def upto {α : Type} (g : α → α) (n : Nat) (D : List α) : List α := (D.take n).map g ++ D.drop n
theorem upto_zero {α : Type} (g : α → α) (D : List α) : upto g 0 D = D := by simp [upto]
theorem upto_all {α : Type} (g : α → α) (D : List α) : upto g D.length D = D.map g := by simp [upto]
theorem upto_len {α : Type} (g : α → α) (n : Nat) (D : List α) : (upto g n D).length = D.length := by simp [upto]; omega
theorem upto_at {α : Type} {g : α → α} {n : Nat} {D : List α} {d : α} (hn : n < D.length) : (upto g n D).getD n d = D.getD n d := by
  have : ((D.take n).map g).length = n := by simp; omega
  simp only [upto, List.getD]
  rw [List.getElem?_append_right (by omega), this]; simp
theorem upto_step {α : Type} {g : α → α} {n : Nat} {D : List α} {d : α} (hn : n < D.length) : (upto g n D).set n (g (D.getD n d)) = upto g (n + 1) D := by
  have h1 : ((D.take n).map g).length = n := by simp; omega
  simp only [upto]
  rw [List.set_append, if_neg (by omega), h1, Nat.sub_self, List.drop_eq_getElem_cons hn, List.set_cons_zero, List.take_succ_eq_append_getElem hn, List.map_append, List.append_assoc, show D.getD n d = D[n] by simp [List.getD, hn]]
  rfl
theorem Own_same {l : SL} {t : List Sec} (h : SOk l t) {i : Nat} {x : SecH × Sec} (h1 : x.1.some = ((SL.hs l).getD i sH0).some) (h2 : x.2.some = (t.getD i s0).some) : Own ownS (l.set i x) = Own ownS l := by
  unfold Own
  have e : (l.set i x).map ownS = l.map ownS := by
    apply List.ext_getElem?
    intro j
    simp only [List.getElem?_map, List.getElem?_set]
    by_cases h3 : i = j
    · subst h3
      by_cases h4 : i < l.length
      · rw [← h.ds] at h2
        have a1 : ((l.map Prod.fst).getD i (Prod.fst (sH0, s0))) = (l.getD i (sH0, s0)).1 := getD_map Prod.fst l i (sH0, s0)
        have a2 : ((l.map Prod.snd).getD i (Prod.snd (sH0, s0))) = (l.getD i (sH0, s0)).2 := getD_map Prod.snd l i (sH0, s0)
        have a3 : l.getD i (sH0, s0) = l[i] := by simp [List.getD, h4]
        have b1 : x.1.some = l[i].1.some := h1.trans (by rw [← a3, ← a1])
        have b2 : x.2.some = l[i].2.some := h2.trans (by rw [← a3, ← a2])
        simp [h4, ownS, b1, b2]
      · simp [h4]
    · simp [h3]
  rw [e]
def failX (x : Sec) : Sec := { x with known := false }
def flushX (x : Sec) : Sec := if x.known = true then { x with some := [x.value] } else x
def wroteT (t : List Sec) (d : Int) (v : UInt64) (ok : Bool) : List Sec := if 0 ≤ d ∧ d < t.length then t.set d.toNat ⟨(t.getD d.toNat s0).some ++ [v], ok, v⟩ else t
def flushedT (t : List Sec) : List Sec := t.map flushX
def failedT (t : List Sec) : List Sec := t.map failX
theorem set3 {l : List SecH} {i : Nat} {A B C : SecH} : ((l.set i A).set i B).set i C = l.set i C := by simp [List.set_set]
theorem getD_set1 {l : List SecH} {i : Nat} (hi : i < l.length) {A : SecH} : (l.set i A).getD i sH0 = A := by simp [List.getD, hi]
theorem wroteT_ok {t : List Sec} {i : Nat} {v : UInt64} {ok : Bool} (hi : i < t.length) : wroteT t i v ok = t.set i ⟨(t.getD i s0).some ++ [v], ok, v⟩ := if_pos ⟨Int.natCast_nonneg _, by omega⟩
theorem wroteT_no {t : List Sec} {d : Int} {v : UInt64} {ok : Bool} (h : ¬ (0 ≤ d ∧ d < t.length)) : wroteT t d v ok = t := if_neg h
theorem upto_skip {α : Type} {g : α → α} {n : Nat} {D : List α} {d : α} (hn : n < D.length) (h : g (D.getD n d) = D.getD n d) : upto g n D = upto g (n + 1) D := by
  rw [← upto_step (d := d) hn, h, ← upto_at (g := g) (n := n) (D := D) (d := d) hn]
  have hl := upto_len g n D
  apply List.ext_getElem?
  intro j
  simp only [List.getElem?_set]
  split
  · rename_i h1; subst h1
    have : n < (upto g n D).length := by omega
    rw [if_pos this, List.getElem?_eq_getElem this]; simp [List.getD, this]
  · rfl
theorem flushX_t {x : Sec} (h : x.known = true) : flushX x = { x with some := [x.value] } := if_pos h
theorem flushX_f {x : Sec} (h : x.known = false) : flushX x = x := if_neg (by simp [h])
def rdTS (t : List Sec) (d : Int) (v : UInt64) (q : Bool) : List Sec := if 0 ≤ d ∧ d < t.length then (if (t.getD d.toNat s0).known = true then t else t.set d.toNat ⟨if q = true then [v] else (t.getD d.toNat s0).some, true, v⟩) else t
def rdTR (t : List Sec) (d : Int) (v : UInt64) : Bool := if 0 ≤ d ∧ d < t.length then (if (t.getD d.toNat s0).known = true then decide (v = (t.getD d.toNat s0).value) else (t.getD d.toNat s0).some.any (fun u => decide (u = v))) else false
theorem any_step {xs : List UInt64} {k : Nat} {v : UInt64} (hk : k < xs.length) : (xs.take (k + 1)).any (fun u => decide (u = v)) = ((xs.take k).any (fun u => decide (u = v)) || decide (xs.getD k 0 = v)) := by
  rw [List.take_succ_eq_append_getElem hk, List.any_append]; simp [List.getD, hk]
theorem decU {a b : UInt64} : decide ((a.toNat : Int) = (b.toNat : Int)) = decide (a = b) := decide_eq_decide.2 ⟨fun h => UInt64.toNat_inj.1 (by omega), fun h => by rw [h]⟩
def mkSec (x : UInt64) : Sec := ⟨[x], true, x⟩
def trkT (xs : List UInt64) : List Sec := xs.map mkSec
theorem SL.snoc (l : SL) (x : SecH × Sec) : SL.hs (l ++ [x]) = SL.hs l ++ [x.1] := by simp [SL.hs]
theorem SOk.push {l : SL} {t : List Sec} (h : SOk l t) (x : SecH × Sec) (hx : x.1.known = x.2.known ∧ x.1.value = x.2.value) (hc : t.length + 1 ≤ 65536) : SOk (l ++ [x]) (t ++ [x.2]) where
  ds := by rw [List.map_append, h.ds]; rfl
  ag := fun p hp => by
    rcases List.mem_append.1 hp with hp | hp
    · exact h.ag p hp
    · simp at hp; subst hp; exact hx
  cnt := by simpa using hc
theorem takeU (xs : List UInt64) (k : Nat) (h : k < xs.length) : trkT (xs.take (k + 1)) = trkT (xs.take k) ++ [mkSec (xs.getD k 0)] := by
  rw [List.take_succ_eq_append_getElem h, trkT, trkT, List.map_append]; simp [List.getD, h]

theorem c_Failed {W : World} {b : Nat} {t : List Sec} :
    CSpec Try.prog W 18 [ptr b 0] [Trk b t] (fun _ : Unit => .tuple #[]) (fun _ => True) (fun _ F => Trk b (failedT t) :: F) := by
  refine CSpec.of_body Try.func18 rfl Try.ntmps18 rfl (fun F => ?_)
  show CJ _ _ _ _ _ _ (_ :: F)
  refine CJ_entX (Ent.transX (Ent.take del0 Ent.refl) Trk_open) (fun ⟨sv, l⟩ => ?_)
  refine CJ_pur (fun hX => ?_)
  have hl : SOk l t := hX
  have hn := hl.len
  have hcn := hl.cnt
  show CJ _ _ _ _ _ _ (blk b 71 [Sl3.v sv] :: sl tySec (Sl3.v sv) (SL.hs l) :: Own ownS l :: _)
  refine CJ_seq ?_
  refine CJ_region ?_
  refine RJ_op rfl (OJ_P (P_assign rfl) rfl ?_)
  refine RJ_nil ?_
  refine QJ_then ?_
  refine CJ_block ?_
  refine CJ_loopR (X := Nat × SL) [2, 3, 4, 5, 6, 7, 8, 9, 10, 11, 12, 13, 14, 15, 16, 17, 18] (fun ⟨i, l1⟩  => ([(2, .int .i64 (i : Nat))] : Slots)) (fun ⟨i, l1⟩ R => sl tySec (Sl3.v sv) (SL.hs l1) :: Own ownS l1 :: R) (fun ⟨i, l1⟩  => i ≤ t.length ∧ SOk l1 (upto failX i t)) (fun ⟨i, l1⟩  => t.length - i) ⟨0, l⟩ ?_ ?_ (Ent.take del1 (Ent.take del1 (Ent.take del0 Ent.refl))) ?_
  ·
    refine ⟨Nat.zero_le _, ?_⟩
    rw [upto_zero]; exact hl
  · exact ⟨rfl, True.intro⟩
  ·
    rintro ⟨i, l1⟩ ⟨hi, h1⟩
    show CJ _ _ _ _ _ (([(2, .int .i64 (i : Nat))] : Slots) ++ forget _ _) (sl tySec (Sl3.v sv) (SL.hs l1) :: Own ownS l1 :: _)
    have hn1 := h1.len
    have hul := upto_len failX i t
    refine CJ_seq ?_
    refine CJ_seq ?_
    refine CJ_region ?_
    refine RJ_op rfl (OJ_P (P_move rfl) rfl ?_)
    refine RJ_op rfl (OJ_P (P_move rfl) rfl ?_)
    refine RJ_op rfl (OJ_P (P_nilCheck rfl) rfl ?_)
    refine RJ_op rfl (OJ_P (P_fieldAddr rfl ⟨_, _, _, Try.runUnderlying71, rfl, rfl, Try.sizeOf69, rfl⟩) rfl ?_)
    refine RJ_op rfl (OJ_V (V_load rfl foc2 rfl Try.isAgg69) rfl ?_)
    refine RJ_op rfl (OJ_V (V_len rfl foc0 (Reads.sl _ _ _) Try.runUnderlying69) rfl ?_)
    refine RJ_op rfl (OJ_P (P_lss rfl rfl) rfl ?_)
    refine RJ_nil ?_
    refine QJ_then ?_
    first | (refine CJ_condD rfl (fun hg1 => ?_) (fun hg1 => ?_)) | (refine CJ_condN rfl (fun hg1 => ?_) (fun hg1 => ?_)) | (refine CJ_cond rfl (fun hg1 => ?_) (fun hg1 => ?_))
    ·
      refine CJ_skip ?_
      refine QJ_then ?_
      refine CJ_seq ?_
      refine CJ_block ?_
      refine CJ_region ?_
      refine RJ_op rfl (OJ_P (P_move rfl) rfl ?_)
      refine RJ_op rfl (OJ_P (P_nilCheck rfl) rfl ?_)
      refine RJ_op rfl (OJ_P (P_fieldAddr rfl ⟨_, _, _, Try.runUnderlying71, rfl, rfl, Try.sizeOf69, rfl⟩) rfl ?_)
      refine RJ_op rfl (OJ_V (V_load rfl foc2 rfl Try.isAgg69) rfl ?_)
      refine RJ_op rfl (OJ_P (P_move rfl) rfl ?_)
      first | (refine RJ_op rfl (OJ_V (V_index rfl rfl rfl (by omega) foc0 (Reads.sl _ _ _) Try.runUnderlying69 Try.sizeOf73) rfl ?_)) | (refine RJ_op rfl (OJ_V (V_index rfl rfl (Int.toNat_of_nonneg (by omega)).symm (by omega) foc0 (Reads.sl _ _ _) Try.runUnderlying69 Try.sizeOf73) rfl ?_))
      refine RJ_op rfl (OJ_P (P_fieldE rfl ⟨_, _, _, Try.runUnderlying73, rfl, rfl, Try.sizeOf4, rfl⟩) rfl ?_)
      refine RJ_op rfl (O_storeE (x' := { (SL.hs l1).getD i sH0 with known := false }) rfl rfl rfl (by omega) foc0 rfl rfl rfl Try.sizeOf4 ?_)
      refine RJ_nil ?_
      refine QJ_block_normal ?_
      refine QJ_then ?_
      refine CJ_region ?_
      refine RJ_op rfl (OJ_P (P_move rfl) rfl ?_)
      refine RJ_op rfl (OJ_P (P_add rfl rfl (by omega)) rfl ?_)
      refine RJ_op rfl (OJ_P (P_assign rfl) rfl ?_)
      refine RJ_nil ?_
      refine QJ_nextR ⟨i + 1, l1.set i ({ (SL.hs l1).getD i sH0 with known := false }, failX ((upto failX i t).getD i s0))⟩ (by first | omega | (simp only []; omega)) ?_ (by repeat (first | exact Kp.base | exact Kp.self | refine Kp.cons rfl ?_ | refine Kp.forget rfl ?_)) ?_ (Ent.takeC del0 (congrArg (sl tySec _) (by simp only [SL.hs, List.map_set])) (Ent.takeC del0 (Own_same h1 rfl rfl).symm (Ent.take del0 Ent.refl)))
      ·
        refine ⟨by omega, ?_⟩
        rw [← upto_step (d := s0) (by omega), ← upto_at (g := failX) (n := i) (D := t) (d := s0) (by omega)]
        exact h1.set i ({ (SL.hs l1).getD i sH0 with known := false }, failX ((upto failX i t).getD i s0)) ⟨rfl, (h1.at (by omega)).2⟩
      · exact ⟨rfl, True.intro⟩
    ·
      refine CJ_exit ?_
      refine QJ_then_exit ?_
      refine QJ_round_exit ?_
      refine QJ_block_here ?_
      refine QJ_endN (res0 Try.results18) ?_
      obtain rfl : i = t.length := by omega
      rw [upto_all] at h1
      refine CSpec.close () ?_ ?_ (Ent.trans (Ent.trans (Ent.take del2 (Ent.take del0 (Ent.take del0 Ent.refl))) (Trk_close h1)) (Ent.take del0 Ent.refl))
      · rfl
      · trivial

theorem c_Wrote {W : World} {b : Nat} {t : List Sec} {d : Int} {v : UInt64} {o : Bool} (hs1 : ∀ i, (t.getD i s0).some.length ≤ 100000) :
    CSpec Try.prog W 12 [ptr b 0, .int .i64 d, .int .u64 (v.toNat : Int), .bool o] [Trk b t] (fun _ : Unit => .tuple #[]) (fun _ => True) (fun _ F => Trk b (wroteT t d v o) :: F) := by
  refine CSpec.of_body Try.func12 rfl Try.ntmps12 rfl (fun F => ?_)
  show CJ _ _ _ _ _ _ (_ :: F)
  refine CJ_entX (Ent.transX (Ent.take del0 Ent.refl) Trk_open) (fun ⟨sv, l⟩ => ?_)
  refine CJ_pur (fun hX => ?_)
  have hl : SOk l t := hX
  have hn := hl.len
  have hcn := hl.cnt
  show CJ _ _ _ _ _ _ (blk b 71 [Sl3.v sv] :: sl tySec (Sl3.v sv) (SL.hs l) :: Own ownS l :: _)
  refine CJ_seq ?_
  refine CJ_seq ?_
  refine CJ_region ?_
  refine RJ_op rfl (OJ_P (P_move rfl) rfl ?_)
  refine RJ_op rfl (OJ_P (P_lss rfl rfl) rfl ?_)
  refine RJ_op rfl (OJ_P (P_move rfl) rfl ?_)
  first | (refine RJ_splitD 11 rfl (fun hg1B hg1 => ?_) (fun hg1B hg1 => ?_)) | (refine RJ_splitN 11 rfl (fun hg1B hg1 => ?_) (fun hg1B hg1 => ?_)) | (refine RJ_split 11 rfl (fun hg1B => ?_) (fun hg1B => ?_))
  ·
    refine RJ_gn (GY_no rfl rfl rfl hg1B) rfl rfl ?_
    refine RJ_gn (GY_no rfl rfl rfl hg1B) rfl rfl ?_
    refine RJ_gn (GY_no rfl rfl rfl hg1B) rfl rfl ?_
    refine RJ_gn (GY_no rfl rfl rfl hg1B) rfl rfl ?_
    refine RJ_gn (GY_no rfl rfl rfl hg1B) rfl rfl ?_
    refine RJ_gn (GY_no rfl rfl rfl hg1B) rfl rfl ?_
    refine RJ_gn (GY_no rfl rfl rfl hg1B) rfl rfl ?_
    refine RJ_op rfl (OJ_P (P_pickT rfl hg1B rfl) rfl ?_)
    refine RJ_nil ?_
    refine QJ_then ?_
    refine CJ_condT rfl rfl ?_
    refine CJ_ret ?_
    refine QJ_then_ret ?_
    refine QJ_end (res0 Try.results12) ?_
    rw [wroteT_no (by omega)]
    refine CSpec.close () ?_ ?_ (Ent.trans (Ent.trans (Ent.take del0 (Ent.take del0 (Ent.take del0 Ent.refl))) (Trk_close hl)) (Ent.take del0 Ent.refl))
    · rfl
    · trivial
  ·
    refine RJ_gy (GY_yes rfl rfl rfl hg1B) (OJ_P (P_move rfl) rfl ?_)
    refine RJ_gy (GY_yes rfl rfl rfl hg1B) (OJ_P (P_move rfl) rfl ?_)
    refine RJ_gy (GY_yes rfl rfl rfl hg1B) (OJ_P (P_nilCheck rfl) rfl ?_)
    refine RJ_gy (GY_yes rfl rfl rfl hg1B) (OJ_P (P_fieldAddr rfl ⟨_, _, _, Try.runUnderlying71, rfl, rfl, Try.sizeOf69, rfl⟩) rfl ?_)
    refine RJ_gy (GY_yes rfl rfl rfl hg1B) (OJ_V (V_load rfl foc0 rfl Try.isAgg69) rfl ?_)
    refine RJ_gy (GY_yes rfl rfl rfl hg1B) (OJ_V (V_len rfl foc1 (Reads.sl _ _ _) Try.runUnderlying69) rfl ?_)
    refine RJ_gy (GY_yes rfl rfl rfl hg1B) (OJ_P (P_geq rfl rfl) rfl ?_)
    refine RJ_op rfl (OJ_P (P_pickF rfl hg1B rfl) rfl ?_)
    refine RJ_nil ?_
    refine QJ_then ?_
    first | (refine CJ_condD rfl (fun hg2 => ?_) (fun hg2 => ?_)) | (refine CJ_condN rfl (fun hg2 => ?_) (fun hg2 => ?_)) | (refine CJ_cond rfl (fun hg2 => ?_) (fun hg2 => ?_))
    ·
      refine CJ_ret ?_
      refine QJ_then_ret ?_
      refine QJ_end (res0 Try.results12) ?_
      rw [wroteT_no (by omega)]
      refine CSpec.close () ?_ ?_ (Ent.trans (Ent.trans (Ent.take del0 (Ent.take del0 (Ent.take del0 Ent.refl))) (Trk_close hl)) (Ent.take del0 Ent.refl))
      · rfl
      · trivial
    ·
      obtain ⟨i, rfl⟩ := Int.eq_ofNat_of_zero_le (show 0 ≤ d by omega)
      have hi : i < t.length := by omega
      have hil : i < (SL.hs l).length := by omega
      have hsi := hs1 i
      refine CJ_skip ?_
      refine QJ_then ?_
      refine CJ_seq ?_
      refine CJ_ent (Ent.trans (Ent.take del2 Ent.refl) (OwnS_open hl i (by omega))) ?_
      refine CJ_region ?_
      refine RJ_op rfl (OJ_P (P_move rfl) rfl ?_)
      refine RJ_op rfl (OJ_P (P_nilCheck rfl) rfl ?_)
      refine RJ_op rfl (OJ_P (P_fieldAddr rfl ⟨_, _, _, Try.runUnderlying71, rfl, rfl, Try.sizeOf69, rfl⟩) rfl ?_)
      refine RJ_op rfl (OJ_V (V_load rfl foc2 rfl Try.isAgg69) rfl ?_)
      refine RJ_op rfl (OJ_P (P_move rfl) rfl ?_)
      first | (refine RJ_op rfl (OJ_V (V_index rfl rfl rfl (by first | omega | (simp only [List.length_set]; omega)) foc3 (Reads.sl _ _ _) Try.runUnderlying69 Try.sizeOf73) rfl ?_)) | (refine RJ_op rfl (OJ_V (V_index rfl rfl (Int.toNat_of_nonneg (by first | omega | (simp only [List.length_set]; omega))).symm (by first | omega | (simp only [List.length_set]; omega)) foc3 (Reads.sl _ _ _) Try.runUnderlying69 Try.sizeOf73) rfl ?_))
      refine RJ_op rfl (OJ_P (P_assign rfl) rfl ?_)
      refine RJ_nil ?_
      refine QJ_then ?_
      refine CJ_seq ?_
      refine CJ_region ?_
      refine RJ_op rfl (OJ_P (P_move rfl) rfl ?_)
      refine RJ_op rfl (OJ_P (P_move rfl) rfl ?_)
      refine RJ_op rfl (OJ_P (P_nilCheckE rfl) rfl ?_)
      refine RJ_op rfl (OJ_P (P_fieldE rfl ⟨_, _, _, Try.runUnderlying73, rfl, rfl, Try.sizeOf32, rfl⟩) rfl ?_)
      refine RJ_op rfl (OJ_V (V_loadE rfl rfl (by first | omega | (simp only [List.length_set]; omega)) foc3 (Reads.sl _ _ _) rfl rfl Try.isAgg32) rfl ?_)
      refine RJ_ent (fun h hh => sl_nil (t := tyU) h hh) ?_
      refine RJ_op rfl (O_append (t := tyU) (bytes := 8) rfl rfl del0 foc0 (Reads.sl _ _ _) Try.underlying32 ok_tyU (by simp only [List.length_append, List.length_cons, List.length_nil, maxLen] at *; omega) (by simp only [List.length_append, List.length_cons, List.length_nil, maxLen] at *; omega) rfl (fun p3 c4 => ?_))
      refine RJ_op rfl (OJ_P (P_move rfl) rfl ?_)
      refine RJ_op rfl (O_buildSlice rfl (CTrack_bs_32_1_0 _) rfl (fun b5 => ?_))
      refine RJ_op rfl (O_append (t := tyU) (bytes := 8) rfl rfl del1 foc0 (Reads.lit (t := tyU) (ys := [v]) rfl rfl (by decide) (by decide) rfl) Try.underlying32 ok_tyU (by simp only [List.length_append, List.length_cons, List.length_nil, maxLen] at *; omega) (by simp only [List.length_append, List.length_cons, List.length_nil, maxLen] at *; omega) rfl (fun p6 c7 => ?_))
      refine RJ_op rfl (OJ_P (P_nilCheckE rfl) rfl ?_)
      refine RJ_op rfl (OJ_P (P_fieldE rfl ⟨_, _, _, Try.runUnderlying73, rfl, rfl, Try.sizeOf32, rfl⟩) rfl ?_)
      refine RJ_op rfl (O_storeE (x' := ⟨⟨p6, _, c7⟩, ((SL.hs l).getD i sH0).known, ((SL.hs l).getD i sH0).value⟩) rfl rfl rfl (by first | omega | (simp only [List.length_set]; omega)) foc5 rfl rfl rfl Try.sizeOf32 ?_)
      refine RJ_nil ?_
      refine QJ_then ?_
      refine CJ_region ?_
      refine RJ_op rfl (OJ_P (P_move rfl) rfl ?_)
      refine RJ_op rfl (OJ_P (P_move rfl) rfl ?_)
      refine RJ_op rfl (OJ_P (P_move rfl) rfl ?_)
      refine RJ_op rfl (OJ_P (P_move rfl) rfl ?_)
      refine RJ_op rfl (OJ_P (P_nilCheckE rfl) rfl ?_)
      refine RJ_op rfl (OJ_P (P_fieldE rfl ⟨_, _, _, Try.runUnderlying73, rfl, rfl, Try.sizeOf4, rfl⟩) rfl ?_)
      refine RJ_op rfl (O_storeE (x' := ⟨⟨p6, _, c7⟩, o, ((SL.hs l).getD i sH0).value⟩) rfl rfl rfl (by first | omega | (simp only [List.length_set]; omega)) foc5 rfl rfl (by rw [show List.getD _ _ tySec.dflt = _ from getD_set1 hil]; rfl) Try.sizeOf4 ?_)
      refine RJ_op rfl (OJ_P (P_nilCheckE rfl) rfl ?_)
      refine RJ_op rfl (OJ_P (P_fieldE rfl ⟨_, _, _, Try.runUnderlying73, rfl, rfl, Try.sizeOf33, rfl⟩) rfl ?_)
      refine RJ_op rfl (O_storeE (x' := ⟨⟨p6, _, c7⟩, o, v⟩) rfl rfl rfl (by first | omega | (simp only [List.length_set]; omega)) foc5 rfl rfl (by rw [show List.getD _ _ tySec.dflt = _ from getD_set1 (by simpa using hil)]; rfl) Try.sizeOf33 ?_)
      refine RJ_nil ?_
      refine QJ_endN (res0 Try.results12) ?_
      rw [wroteT_ok (by omega)]
      refine CSpec.close () ?_ ?_ (Ent.trans (Ent.trans (Ent.takeC del0 (show _ = ownS ((⟨⟨p6, _, c7⟩, o, v⟩ : SecH), (⟨(t.getD i s0).some ++ [v], o, v⟩ : Sec)) from rfl) (Ent.take del2 Ent.refl)) (Own_close ownS ((⟨⟨p6, _, c7⟩, o, v⟩ : SecH), (⟨(t.getD i s0).some ++ [v], o, v⟩ : Sec)) (by have := hl.len; simp at this; omega))) (Ent.trans (Ent.trans (Ent.take del3 (Ent.takeC del3 (congrArg (sl tySec _) (by rw [set3]; simp only [SL.hs, List.map_set])) (Ent.take del0 Ent.refl))) (Trk_close (hl.set i ((⟨⟨p6, _, c7⟩, o, v⟩ : SecH), (⟨(t.getD i s0).some ++ [v], o, v⟩ : Sec)) ⟨rfl, rfl⟩))) (Ent.take del0 (Ent.drop (Ent.drop Ent.refl)))))
      · rfl
      · trivial

theorem c_Flushed {W : World} {b : Nat} {t : List Sec} :
    CSpec Try.prog W 15 [ptr b 0] [Trk b t] (fun _ : Unit => .tuple #[]) (fun _ => True) (fun _ F => Trk b (flushedT t) :: F) := by
  refine CSpec.of_body Try.func15 rfl Try.ntmps15 rfl (fun F => ?_)
  show CJ _ _ _ _ _ _ (_ :: F)
  refine CJ_entX (Ent.transX (Ent.take del0 Ent.refl) Trk_open) (fun ⟨sv, l⟩ => ?_)
  refine CJ_pur (fun hX => ?_)
  have hl : SOk l t := hX
  have hn := hl.len
  have hcn := hl.cnt
  show CJ _ _ _ _ _ _ (blk b 71 [Sl3.v sv] :: sl tySec (Sl3.v sv) (SL.hs l) :: Own ownS l :: _)
  refine CJ_seq ?_
  refine CJ_region ?_
  refine RJ_op rfl (OJ_P (P_assign rfl) rfl ?_)
  refine RJ_nil ?_
  refine QJ_then ?_
  refine CJ_block ?_
  refine CJ_loopR (X := Nat × SL) [2, 3, 4, 5, 6, 7, 8, 9, 10, 11, 12, 13, 14, 15, 16, 17, 18, 19, 20, 21, 22, 23, 24, 25, 26, 27, 28, 29, 30] (fun ⟨i, l1⟩  => ([(2, .int .i64 (i : Nat))] : Slots)) (fun ⟨i, l1⟩ R => sl tySec (Sl3.v sv) (SL.hs l1) :: Own ownS l1 :: R) (fun ⟨i, l1⟩  => i ≤ t.length ∧ SOk l1 (upto flushX i t)) (fun ⟨i, l1⟩  => t.length - i) ⟨0, l⟩ ?_ ?_ (Ent.take del1 (Ent.take del1 (Ent.take del0 Ent.refl))) ?_
  ·
    refine ⟨Nat.zero_le _, ?_⟩
    rw [upto_zero]; exact hl
  · exact ⟨rfl, True.intro⟩
  ·
    rintro ⟨i, l1⟩ ⟨hi, h1⟩
    show CJ _ _ _ _ _ (([(2, .int .i64 (i : Nat))] : Slots) ++ forget _ _) (sl tySec (Sl3.v sv) (SL.hs l1) :: Own ownS l1 :: _)
    have hn1 := h1.len
    have hul := upto_len flushX i t
    refine CJ_seq ?_
    refine CJ_seq ?_
    refine CJ_region ?_
    refine RJ_op rfl (OJ_P (P_move rfl) rfl ?_)
    refine RJ_op rfl (OJ_P (P_move rfl) rfl ?_)
    refine RJ_op rfl (OJ_P (P_nilCheck rfl) rfl ?_)
    refine RJ_op rfl (OJ_P (P_fieldAddr rfl ⟨_, _, _, Try.runUnderlying71, rfl, rfl, Try.sizeOf69, rfl⟩) rfl ?_)
    refine RJ_op rfl (OJ_V (V_load rfl foc2 rfl Try.isAgg69) rfl ?_)
    refine RJ_op rfl (OJ_V (V_len rfl foc0 (Reads.sl _ _ _) Try.runUnderlying69) rfl ?_)
    refine RJ_op rfl (OJ_P (P_lss rfl rfl) rfl ?_)
    refine RJ_nil ?_
    refine QJ_then ?_
    first | (refine CJ_condD rfl (fun hg1 => ?_) (fun hg1 => ?_)) | (refine CJ_condN rfl (fun hg1 => ?_) (fun hg1 => ?_)) | (refine CJ_cond rfl (fun hg1 => ?_) (fun hg1 => ?_))
    ·
      refine CJ_skip ?_
      refine QJ_then ?_
      refine CJ_seq ?_
      refine CJ_block ?_
      refine CJ_seq ?_
      refine CJ_region ?_
      refine RJ_op rfl (OJ_P (P_move rfl) rfl ?_)
      refine RJ_op rfl (OJ_P (P_nilCheck rfl) rfl ?_)
      refine RJ_op rfl (OJ_P (P_fieldAddr rfl ⟨_, _, _, Try.runUnderlying71, rfl, rfl, Try.sizeOf69, rfl⟩) rfl ?_)
      refine RJ_op rfl (OJ_V (V_load rfl foc2 rfl Try.isAgg69) rfl ?_)
      refine RJ_op rfl (OJ_P (P_move rfl) rfl ?_)
      first | (refine RJ_op rfl (OJ_V (V_index rfl rfl rfl (by omega) foc0 (Reads.sl _ _ _) Try.runUnderlying69 Try.sizeOf73) rfl ?_)) | (refine RJ_op rfl (OJ_V (V_index rfl rfl (Int.toNat_of_nonneg (by omega)).symm (by omega) foc0 (Reads.sl _ _ _) Try.runUnderlying69 Try.sizeOf73) rfl ?_))
      refine RJ_op rfl (OJ_P (P_assign rfl) rfl ?_)
      refine RJ_nil ?_
      refine QJ_then ?_
      refine CJ_seq ?_
      refine CJ_region ?_
      refine RJ_op rfl (OJ_P (P_move rfl) rfl ?_)
      refine RJ_op rfl (OJ_P (P_nilCheckE rfl) rfl ?_)
      refine RJ_op rfl (OJ_P (P_fieldE rfl ⟨_, _, _, Try.runUnderlying73, rfl, rfl, Try.sizeOf4, rfl⟩) rfl ?_)
      refine RJ_op rfl (OJ_V (V_loadE rfl rfl (by omega) foc0 (Reads.sl _ _ _) rfl rfl Try.isAgg4) rfl ?_)
      refine RJ_nil ?_
      refine QJ_then ?_
      first | (refine CJ_condD rfl (fun hg2 => ?_) (fun hg2 => ?_)) | (refine CJ_condN rfl (fun hg2 => ?_) (fun hg2 => ?_)) | (refine CJ_cond rfl (fun hg2 => ?_) (fun hg2 => ?_))
      ·
        have hkn : ((upto flushX i t).getD i s0).known = true := by rw [← (h1.at (by omega)).1]; assumption
        refine CJ_ent (Ent.trans (Ent.take del1 Ent.refl) (OwnS_open h1 i (by omega))) ?_
        refine CJ_region ?_
        refine RJ_op rfl (OJ_P (P_move rfl) rfl ?_)
        refine RJ_op rfl (OJ_P (P_move rfl) rfl ?_)
        refine RJ_op rfl (OJ_P (P_nilCheckE rfl) rfl ?_)
        refine RJ_op rfl (OJ_P (P_fieldE rfl ⟨_, _, _, Try.runUnderlying73, rfl, rfl, Try.sizeOf33, rfl⟩) rfl ?_)
        refine RJ_op rfl (OJ_V (V_loadE rfl rfl (by omega) foc2 (Reads.sl _ _ _) rfl rfl Try.isAgg33) rfl ?_)
        refine RJ_op rfl (O_buildSlice rfl (CTrack_bs_32_1_0 _) rfl (fun b1 => ?_))
        refine RJ_ent (Ent.trans (Ent.take del0 Ent.refl) (sl_of_lit (t := tyU) (m := 1) [((SL.hs l1).getD i sH0).value] rfl rfl rfl (by decide))) ?_
        refine RJ_op rfl (OJ_P (P_nilCheckE rfl) rfl ?_)
        refine RJ_op rfl (OJ_P (P_fieldE rfl ⟨_, _, _, Try.runUnderlying73, rfl, rfl, Try.sizeOf32, rfl⟩) rfl ?_)
        refine RJ_op rfl (O_storeE (x' := { (SL.hs l1).getD i sH0 with some := ⟨some ⟨b1, 0, none⟩, 1, 1⟩ }) rfl rfl rfl (by omega) foc3 rfl rfl rfl Try.sizeOf32 ?_)
        refine RJ_nil ?_
        refine QJ_block_normal ?_
        refine QJ_then ?_
        refine CJ_region ?_
        refine RJ_op rfl (OJ_P (P_move rfl) rfl ?_)
        refine RJ_op rfl (OJ_P (P_add rfl rfl (by omega)) rfl ?_)
        refine RJ_op rfl (OJ_P (P_assign rfl) rfl ?_)
        refine RJ_nil ?_
        refine QJ_nextR ⟨i + 1, l1.set i ({ (SL.hs l1).getD i sH0 with some := ⟨some ⟨b1, 0, none⟩, 1, 1⟩ }, flushX ((upto flushX i t).getD i s0))⟩ (by first | omega | (simp only []; omega)) ?_ (by repeat (first | exact Kp.base | exact Kp.self | refine Kp.cons rfl ?_ | refine Kp.forget rfl ?_)) ?_ (Ent.trans (Ent.trans (Ent.takeC del0 (show _ = sl tyU _ _ by rw [flushX_t hkn]; exact congrArg (fun z => sl tyU _ [z]) (h1.at (by omega)).2) (Ent.take del1 Ent.refl)) (Own_close ownS ({ (SL.hs l1).getD i sH0 with some := ⟨some ⟨b1, 0, none⟩, 1, 1⟩ }, flushX ((upto flushX i t).getD i s0)) (by have := h1.len; simp at this; omega))) (Ent.takeC del2 (congrArg (sl tySec _) (by simp only [SL.hs, List.map_set])) (Ent.take del0 (Ent.take del1 (Ent.drop Ent.refl)))))
        ·
          refine ⟨by omega, ?_⟩
          rw [← upto_step (d := s0) (by omega), ← upto_at (g := flushX) (n := i) (D := t) (d := s0) (by omega)]
          refine h1.set i ({ (SL.hs l1).getD i sH0 with some := ⟨some ⟨b1, 0, none⟩, 1, 1⟩ }, flushX ((upto flushX i t).getD i s0)) ?_
          rw [flushX_t hkn]; exact h1.at (by omega)
        · exact ⟨rfl, True.intro⟩
      ·
        refine CJ_skip ?_
        refine QJ_block_normal ?_
        refine QJ_then ?_
        refine CJ_region ?_
        refine RJ_op rfl (OJ_P (P_move rfl) rfl ?_)
        refine RJ_op rfl (OJ_P (P_add rfl rfl (by omega)) rfl ?_)
        refine RJ_op rfl (OJ_P (P_assign rfl) rfl ?_)
        refine RJ_nil ?_
        refine QJ_nextR ⟨i + 1, l1⟩ (by first | omega | (simp only []; omega)) ?_ (by repeat (first | exact Kp.base | exact Kp.self | refine Kp.cons rfl ?_ | refine Kp.forget rfl ?_)) ?_ (Ent.take del0 (Ent.take del0 (Ent.take del0 Ent.refl)))
        ·
          refine ⟨by omega, ?_⟩
          rw [← upto_skip (d := s0) (by omega) (flushX_f (by rw [← upto_at (g := flushX) (n := i) (by omega), ← (h1.at (by omega)).1]; assumption))]; exact h1
        · exact ⟨rfl, True.intro⟩
    ·
      refine CJ_exit ?_
      refine QJ_then_exit ?_
      refine QJ_round_exit ?_
      refine QJ_block_here ?_
      refine QJ_endN (res0 Try.results15) ?_
      obtain rfl : i = t.length := by omega
      rw [upto_all] at h1
      refine CSpec.close () ?_ ?_ (Ent.trans (Ent.trans (Ent.take del2 (Ent.take del0 (Ent.take del0 Ent.refl))) (Trk_close h1)) (Ent.take del0 Ent.refl))
      · rfl
      · trivial

theorem c_Reads {W : World} {b : Nat} {t : List Sec} {d : Int} {v : UInt64} {q : Bool} (hs1 : ∀ i, (t.getD i s0).some.length ≤ 100000) :
    CSpec Try.prog W 22 [ptr b 0, .int .i64 d, .int .u64 (v.toNat : Int), .bool q] [Trk b t] (fun _ : Unit => .bool (rdTR t d v)) (fun _ => True) (fun _ F => Trk b (rdTS t d v q) :: F) := by
  refine CSpec.of_body Try.func22 rfl Try.ntmps22 rfl (fun F => ?_)
  show CJ _ _ _ _ _ _ (_ :: F)
  refine CJ_entX (Ent.transX (Ent.take del0 Ent.refl) Trk_open) (fun ⟨sv, l⟩ => ?_)
  refine CJ_pur (fun hX => ?_)
  have hl : SOk l t := hX
  have hn := hl.len
  have hcn := hl.cnt
  show CJ _ _ _ _ _ _ (blk b 71 [Sl3.v sv] :: sl tySec (Sl3.v sv) (SL.hs l) :: Own ownS l :: _)
  refine CJ_seq ?_
  refine CJ_region ?_
  refine RJ_op rfl (OJ_P (P_assign rfl) rfl ?_)
  refine RJ_nil ?_
  refine QJ_then ?_
  refine CJ_seq ?_
  refine CJ_seq ?_
  refine CJ_region ?_
  refine RJ_op rfl (OJ_P (P_move rfl) rfl ?_)
  refine RJ_op rfl (OJ_P (P_lss rfl rfl) rfl ?_)
  refine RJ_op rfl (OJ_P (P_move rfl) rfl ?_)
  first | (refine RJ_splitD 14 rfl (fun hg1B hg1 => ?_) (fun hg1B hg1 => ?_)) | (refine RJ_splitN 14 rfl (fun hg1B hg1 => ?_) (fun hg1B hg1 => ?_)) | (refine RJ_split 14 rfl (fun hg1B => ?_) (fun hg1B => ?_))
  ·
    refine RJ_gn (GY_no rfl rfl rfl hg1B) rfl rfl ?_
    refine RJ_gn (GY_no rfl rfl rfl hg1B) rfl rfl ?_
    refine RJ_gn (GY_no rfl rfl rfl hg1B) rfl rfl ?_
    refine RJ_gn (GY_no rfl rfl rfl hg1B) rfl rfl ?_
    refine RJ_gn (GY_no rfl rfl rfl hg1B) rfl rfl ?_
    refine RJ_gn (GY_no rfl rfl rfl hg1B) rfl rfl ?_
    refine RJ_gn (GY_no rfl rfl rfl hg1B) rfl rfl ?_
    refine RJ_op rfl (OJ_P (P_pickT rfl hg1B rfl) rfl ?_)
    refine RJ_nil ?_
    refine QJ_then ?_
    refine CJ_condT rfl rfl ?_
    refine CJ_seq ?_
    refine CJ_region ?_
    refine RJ_op rfl (OJ_P (P_assign rfl) rfl ?_)
    refine RJ_nil ?_
    refine QJ_then ?_
    refine CJ_ret ?_
    refine QJ_then_ret ?_
    refine QJ_end (res1 Try.results22 rfl) ?_
    have hR : ¬ (0 ≤ d ∧ d < t.length) := by omega
    rw [rdTS, if_neg hR]
    refine CSpec.close () ?_ ?_ (Ent.trans (Ent.trans (Ent.take del0 (Ent.take del0 (Ent.take del0 Ent.refl))) (Trk_close hl)) (Ent.take del0 Ent.refl))
    · exact bv (show _ = rdTR t d v by rw [rdTR, if_neg hR])
    · trivial
  ·
    refine RJ_gy (GY_yes rfl rfl rfl hg1B) (OJ_P (P_move rfl) rfl ?_)
    refine RJ_gy (GY_yes rfl rfl rfl hg1B) (OJ_P (P_move rfl) rfl ?_)
    refine RJ_gy (GY_yes rfl rfl rfl hg1B) (OJ_P (P_nilCheck rfl) rfl ?_)
    refine RJ_gy (GY_yes rfl rfl rfl hg1B) (OJ_P (P_fieldAddr rfl ⟨_, _, _, Try.runUnderlying71, rfl, rfl, Try.sizeOf69, rfl⟩) rfl ?_)
    refine RJ_gy (GY_yes rfl rfl rfl hg1B) (OJ_V (V_load rfl foc0 rfl Try.isAgg69) rfl ?_)
    refine RJ_gy (GY_yes rfl rfl rfl hg1B) (OJ_V (V_len rfl foc1 (Reads.sl _ _ _) Try.runUnderlying69) rfl ?_)
    refine RJ_gy (GY_yes rfl rfl rfl hg1B) (OJ_P (P_geq rfl rfl) rfl ?_)
    refine RJ_op rfl (OJ_P (P_pickF rfl hg1B rfl) rfl ?_)
    refine RJ_nil ?_
    refine QJ_then ?_
    first | (refine CJ_condD rfl (fun hg2 => ?_) (fun hg2 => ?_)) | (refine CJ_condN rfl (fun hg2 => ?_) (fun hg2 => ?_)) | (refine CJ_cond rfl (fun hg2 => ?_) (fun hg2 => ?_))
    ·
      refine CJ_seq ?_
      refine CJ_region ?_
      refine RJ_op rfl (OJ_P (P_assign rfl) rfl ?_)
      refine RJ_nil ?_
      refine QJ_then ?_
      refine CJ_ret ?_
      refine QJ_then_ret ?_
      refine QJ_end (res1 Try.results22 rfl) ?_
      have hR : ¬ (0 ≤ d ∧ d < t.length) := by omega
      rw [rdTS, if_neg hR]
      refine CSpec.close () ?_ ?_ (Ent.trans (Ent.trans (Ent.take del0 (Ent.take del0 (Ent.take del0 Ent.refl))) (Trk_close hl)) (Ent.take del0 Ent.refl))
      · exact bv (show _ = rdTR t d v by rw [rdTR, if_neg hR])
      · trivial
    ·
      obtain ⟨i, rfl⟩ := Int.eq_ofNat_of_zero_le (show 0 ≤ d by omega)
      have hi : i < t.length := by omega
      have hil : i < (SL.hs l).length := by omega
      have hll : i < l.length := by simpa using hil
      have hsi := hs1 i
      have hat := hl.at hi
      have hR : 0 ≤ (i : Int) ∧ (i : Int) < t.length := ⟨by omega, by omega⟩
      refine CJ_skip ?_
      refine QJ_then ?_
      refine CJ_seq ?_
      refine CJ_region ?_
      refine RJ_op rfl (OJ_P (P_move rfl) rfl ?_)
      refine RJ_op rfl (OJ_P (P_nilCheck rfl) rfl ?_)
      refine RJ_op rfl (OJ_P (P_fieldAddr rfl ⟨_, _, _, Try.runUnderlying71, rfl, rfl, Try.sizeOf69, rfl⟩) rfl ?_)
      refine RJ_op rfl (OJ_V (V_load rfl foc0 rfl Try.isAgg69) rfl ?_)
      refine RJ_op rfl (OJ_P (P_move rfl) rfl ?_)
      first | (refine RJ_op rfl (OJ_V (V_index rfl rfl rfl (by first | omega | (simp only [List.length_set]; omega)) foc1 (Reads.sl _ _ _) Try.runUnderlying69 Try.sizeOf73) rfl ?_)) | (refine RJ_op rfl (OJ_V (V_index rfl rfl (Int.toNat_of_nonneg (by first | omega | (simp only [List.length_set]; omega))).symm (by first | omega | (simp only [List.length_set]; omega)) foc1 (Reads.sl _ _ _) Try.runUnderlying69 Try.sizeOf73) rfl ?_))
      refine RJ_op rfl (OJ_P (P_assign rfl) rfl ?_)
      refine RJ_nil ?_
      refine QJ_then ?_
      refine CJ_seq ?_
      refine CJ_seq ?_
      refine CJ_region ?_
      refine RJ_op rfl (OJ_P (P_move rfl) rfl ?_)
      refine RJ_op rfl (OJ_P (P_nilCheckE rfl) rfl ?_)
      refine RJ_op rfl (OJ_P (P_fieldE rfl ⟨_, _, _, Try.runUnderlying73, rfl, rfl, Try.sizeOf4, rfl⟩) rfl ?_)
      refine RJ_op rfl (OJ_V (V_loadE rfl rfl (by first | omega | (simp only [List.length_set]; omega)) foc1 (Reads.sl _ _ _) rfl rfl Try.isAgg4) rfl ?_)
      refine RJ_nil ?_
      refine QJ_then ?_
      first | (refine CJ_condD rfl (fun hg3 => ?_) (fun hg3 => ?_)) | (refine CJ_condN rfl (fun hg3 => ?_) (fun hg3 => ?_)) | (refine CJ_cond rfl (fun hg3 => ?_) (fun hg3 => ?_))
      ·
        have hkn : (t.getD ((i : Int)).toNat s0).known = true := hat.1.symm.trans hg3
        refine CJ_seq ?_
        refine CJ_region ?_
        refine RJ_op rfl (OJ_P (P_move rfl) rfl ?_)
        refine RJ_op rfl (OJ_P (P_move rfl) rfl ?_)
        refine RJ_op rfl (OJ_P (P_nilCheckE rfl) rfl ?_)
        refine RJ_op rfl (OJ_P (P_fieldE rfl ⟨_, _, _, Try.runUnderlying73, rfl, rfl, Try.sizeOf33, rfl⟩) rfl ?_)
        refine RJ_op rfl (OJ_V (V_loadE rfl rfl (by first | omega | (simp only [List.length_set]; omega)) foc1 (Reads.sl _ _ _) rfl rfl Try.isAgg33) rfl ?_)
        refine RJ_op rfl (OJ_P (P_eql rfl rfl) rfl ?_)
        refine RJ_op rfl (OJ_P (P_assign rfl) rfl ?_)
        refine RJ_nil ?_
        refine QJ_then ?_
        refine CJ_ret ?_
        refine QJ_then_ret ?_
        refine QJ_end (res1 Try.results22 rfl) ?_
        rw [rdTS, if_pos hR, if_pos hkn]
        refine CSpec.close () ?_ ?_ (Ent.trans (Ent.trans (Ent.take del0 (Ent.take del0 (Ent.take del0 Ent.refl))) (Trk_close hl)) (Ent.take del0 Ent.refl))
        · exact bv (show _ = rdTR t i v by rw [rdTR, if_pos hR, if_pos hkn, hat.2]; exact decU)
        · trivial
      ·
        have hkf : ¬ (t.getD ((i : Int)).toNat s0).known = true := by
          have h9 : (t.getD i s0).known = false := hat.1.symm.trans hg3
          intro e; exact absurd (show (t.getD i s0).known = true from e) (by rw [h9]; decide)
        refine CJ_skip ?_
        refine QJ_then ?_
        refine CJ_seq ?_
        refine CJ_ent (Ent.trans (Ent.take del2 Ent.refl) (OwnS_open hl i (by omega))) ?_
        refine CJ_region ?_
        refine RJ_op rfl (OJ_P (P_assign rfl) rfl ?_)
        refine RJ_nil ?_
        refine QJ_then ?_
        refine CJ_seq ?_
        refine CJ_seq ?_
        refine CJ_region ?_
        refine RJ_op rfl (OJ_P (P_assign rfl) rfl ?_)
        refine RJ_nil ?_
        refine QJ_then ?_
        refine CJ_block ?_
        refine CJ_loopR (X := Nat) [10, 11, 39, 40, 41, 42, 43, 44, 45, 46, 47, 48, 49, 50, 51, 52, 53, 54, 55, 56, 57, 58, 59] (fun k  => ([(11, .int .i64 (k : Nat)), (10, .bool (((t.getD i s0).some.take k).any (fun u => decide (u = v))))] : Slots)) (fun k R => R) (fun k  => k ≤ (t.getD i s0).some.length) (fun k  => (t.getD i s0).some.length - k) (0) ?_ ?_ (Ent.take del0 (Ent.take del0 (Ent.take del0 (Ent.take del0 Ent.refl)))) ?_
        · omega
        · exact ⟨rfl, rfl, True.intro⟩
        ·
          intro k hk
          show CJ _ _ _ _ _ (([(11, .int .i64 (k : Nat)), (10, .bool (((t.getD i s0).some.take k).any (fun u => decide (u = v))))] : Slots) ++ forget _ _) (_)
          refine CJ_seq ?_
          refine CJ_seq ?_
          refine CJ_region ?_
          refine RJ_op rfl (OJ_P (P_move rfl) rfl ?_)
          refine RJ_op rfl (OJ_P (P_move rfl) rfl ?_)
          refine RJ_op rfl (OJ_P (P_nilCheckE rfl) rfl ?_)
          refine RJ_op rfl (OJ_P (P_fieldE rfl ⟨_, _, _, Try.runUnderlying73, rfl, rfl, Try.sizeOf32, rfl⟩) rfl ?_)
          refine RJ_op rfl (OJ_V (V_loadE rfl rfl (by first | omega | (simp only [List.length_set]; omega)) foc3 (Reads.sl _ _ _) rfl rfl Try.isAgg32) rfl ?_)
          refine RJ_op rfl (OJ_V (V_len rfl foc0 (Reads.sl _ _ _) Try.runUnderlying32) rfl ?_)
          refine RJ_op rfl (OJ_P (P_lss rfl rfl) rfl ?_)
          refine RJ_nil ?_
          refine QJ_then ?_
          first | (refine CJ_condD rfl (fun hg4 => ?_) (fun hg4 => ?_)) | (refine CJ_condN rfl (fun hg4 => ?_) (fun hg4 => ?_)) | (refine CJ_cond rfl (fun hg4 => ?_) (fun hg4 => ?_))
          ·
            refine CJ_skip ?_
            refine QJ_then ?_
            refine CJ_seq ?_
            refine CJ_block ?_
            refine CJ_region ?_
            refine RJ_op rfl (OJ_P (P_move rfl) rfl ?_)
            refine RJ_op rfl (OJ_P (P_move rfl) rfl ?_)
            first | (refine RJ_splitD 49 rfl (fun hg5B hg5 => ?_) (fun hg5B hg5 => ?_)) | (refine RJ_splitN 49 rfl (fun hg5B hg5 => ?_) (fun hg5B hg5 => ?_)) | (refine RJ_split 49 rfl (fun hg5B => ?_) (fun hg5B => ?_))
            ·
              refine RJ_gn (GY_no rfl rfl rfl hg5B) rfl rfl ?_
              refine RJ_gn (GY_no rfl rfl rfl hg5B) rfl rfl ?_
              refine RJ_gn (GY_no rfl rfl rfl hg5B) rfl rfl ?_
              refine RJ_gn (GY_no rfl rfl rfl hg5B) rfl rfl ?_
              refine RJ_gn (GY_no rfl rfl rfl hg5B) rfl rfl ?_
              refine RJ_gn (GY_no rfl rfl rfl hg5B) rfl rfl ?_
              refine RJ_gn (GY_no rfl rfl rfl hg5B) rfl rfl ?_
              refine RJ_gn (GY_no rfl rfl rfl hg5B) rfl rfl ?_
              refine RJ_gn (GY_no rfl rfl rfl hg5B) rfl rfl ?_
              refine RJ_op rfl (OJ_P (P_pickT rfl hg5B rfl) rfl ?_)
              refine RJ_op rfl (OJ_P (P_assign rfl) rfl ?_)
              refine RJ_nil ?_
              refine QJ_block_normal ?_
              refine QJ_then ?_
              refine CJ_region ?_
              refine RJ_op rfl (OJ_P (P_move rfl) rfl ?_)
              refine RJ_op rfl (OJ_P (P_add rfl rfl (by first | omega | (simp only [List.length_set]; omega))) rfl ?_)
              refine RJ_op rfl (OJ_P (P_assign rfl) rfl ?_)
              refine RJ_nil ?_
              refine QJ_nextR (k + 1) (by first | omega | (simp only []; omega)) ?_ (by repeat (first | exact Kp.base | exact Kp.self | refine Kp.cons rfl ?_ | refine Kp.forget rfl ?_)) ?_ (Ent.take del0 (Ent.take del0 (Ent.take del0 (Ent.take del0 Ent.refl))))
              · omega
              ·
                refine ⟨rfl, ?_, True.intro⟩
                refine (congrArg (fun z => some (Value.bool z)) ?_ : some (Value.bool _) = some (Value.bool _))
                rw [any_step (by omega), ‹(((t.getD i s0).some.take k).any (fun u => decide (u = v))) = true›]; rfl
            ·
              refine RJ_gy (GY_yes rfl rfl rfl hg5B) (OJ_P (P_move rfl) rfl ?_)
              refine RJ_gy (GY_yes rfl rfl rfl hg5B) (OJ_P (P_nilCheckE rfl) rfl ?_)
              refine RJ_gy (GY_yes rfl rfl rfl hg5B) (OJ_P (P_fieldE rfl ⟨_, _, _, Try.runUnderlying73, rfl, rfl, Try.sizeOf32, rfl⟩) rfl ?_)
              refine RJ_gy (GY_yes rfl rfl rfl hg5B) (OJ_V (V_loadE rfl rfl (by first | omega | (simp only [List.length_set]; omega)) foc3 (Reads.sl _ _ _) rfl rfl Try.isAgg32) rfl ?_)
              refine RJ_gy (GY_yes rfl rfl rfl hg5B) (OJ_P (P_move rfl) rfl ?_)
              first | (refine RJ_gy (GY_yes rfl rfl rfl hg5B) (OJ_V (V_index rfl rfl rfl (by first | omega | (simp only [List.length_set]; omega)) foc0 (Reads.sl _ _ _) Try.runUnderlying32 Try.sizeOf33) rfl ?_)) | (refine RJ_gy (GY_yes rfl rfl rfl hg5B) (OJ_V (V_index rfl rfl (Int.toNat_of_nonneg (by first | omega | (simp only [List.length_set]; omega))).symm (by first | omega | (simp only [List.length_set]; omega)) foc0 (Reads.sl _ _ _) Try.runUnderlying32 Try.sizeOf33) rfl ?_))
              refine RJ_gy (GY_yes rfl rfl rfl hg5B) (OJ_V (V_loadE rfl rfl (by first | omega | (simp only [List.length_set]; omega)) foc0 (Reads.sl _ _ _) rfl rfl Try.isAgg33) rfl ?_)
              refine RJ_gy (GY_yes rfl rfl rfl hg5B) (OJ_P (P_move rfl) rfl ?_)
              refine RJ_gy (GY_yes rfl rfl rfl hg5B) (OJ_P (P_eql rfl rfl) rfl ?_)
              refine RJ_op rfl (OJ_P (P_pickF rfl hg5B rfl) rfl ?_)
              refine RJ_op rfl (OJ_P (P_assign rfl) rfl ?_)
              refine RJ_nil ?_
              refine QJ_block_normal ?_
              refine QJ_then ?_
              refine CJ_region ?_
              refine RJ_op rfl (OJ_P (P_move rfl) rfl ?_)
              refine RJ_op rfl (OJ_P (P_add rfl rfl (by first | omega | (simp only [List.length_set]; omega))) rfl ?_)
              refine RJ_op rfl (OJ_P (P_assign rfl) rfl ?_)
              refine RJ_nil ?_
              refine QJ_nextR (k + 1) (by first | omega | (simp only []; omega)) ?_ (by repeat (first | exact Kp.base | exact Kp.self | refine Kp.cons rfl ?_ | refine Kp.forget rfl ?_)) ?_ (Ent.take del0 (Ent.take del0 (Ent.take del0 (Ent.take del0 Ent.refl))))
              · omega
              ·
                refine ⟨rfl, ?_, True.intro⟩
                refine (congrArg (fun z => some (Value.bool z)) ?_ : some (Value.bool _) = some (Value.bool _))
                rw [any_step (by omega), ‹(((t.getD i s0).some.take k).any (fun u => decide (u = v))) = false›, Bool.false_or]; exact decU
          ·
            refine CJ_exit ?_
            refine QJ_then_exit ?_
            refine QJ_round_exit ?_
            refine QJ_block_here ?_
            refine QJ_then ?_
            refine CJ_seq ?_
            have hk2 : k = (t.getD i s0).some.length := by omega
            refine CJ_region ?_
            refine RJ_op rfl (OJ_P (P_move rfl) rfl ?_)
            refine RJ_op rfl (OJ_P (P_move rfl) rfl ?_)
            refine RJ_op rfl (OJ_P (P_move rfl) rfl ?_)
            refine RJ_op rfl (OJ_P (P_nilCheckE rfl) rfl ?_)
            refine RJ_op rfl (OJ_P (P_fieldE rfl ⟨_, _, _, Try.runUnderlying73, rfl, rfl, Try.sizeOf4, rfl⟩) rfl ?_)
            refine RJ_op rfl (O_storeE (x' := { (SL.hs l).getD i sH0 with known := true }) rfl rfl rfl (by first | omega | (simp only [List.length_set]; omega)) foc3 rfl rfl rfl Try.sizeOf4 ?_)
            refine RJ_op rfl (OJ_P (P_nilCheckE rfl) rfl ?_)
            refine RJ_op rfl (OJ_P (P_fieldE rfl ⟨_, _, _, Try.runUnderlying73, rfl, rfl, Try.sizeOf33, rfl⟩) rfl ?_)
            refine RJ_op rfl (O_storeE (x' := ⟨((SL.hs l).getD i sH0).some, true, v⟩) rfl rfl rfl (by first | omega | (simp only [List.length_set]; omega)) foc3 rfl rfl (by rw [show List.getD _ _ tySec.dflt = _ from getD_set1 hil]; rfl) Try.sizeOf33 ?_)
            refine RJ_nil ?_
            refine QJ_then ?_
            refine CJ_seq ?_
            refine CJ_seq ?_
            refine CJ_region ?_
            refine RJ_op rfl (OJ_P (P_move rfl) rfl ?_)
            refine RJ_nil ?_
            refine QJ_then ?_
            first | (refine CJ_condD rfl (fun hg6 => ?_) (fun hg6 => ?_)) | (refine CJ_condN rfl (fun hg6 => ?_) (fun hg6 => ?_)) | (refine CJ_cond rfl (fun hg6 => ?_) (fun hg6 => ?_))
            ·
              refine CJ_region ?_
              refine RJ_op rfl (OJ_P (P_move rfl) rfl ?_)
              refine RJ_op rfl (OJ_P (P_move rfl) rfl ?_)
              refine RJ_op rfl (O_buildSlice rfl (CTrack_bs_32_1_0 _) rfl (fun b1 => ?_))
              refine RJ_ent (Ent.trans (Ent.take del0 Ent.refl) (sl_of_lit (t := tyU) (m := 1) [v] rfl rfl rfl (by decide))) ?_
              refine RJ_op rfl (OJ_P (P_nilCheckE rfl) rfl ?_)
              refine RJ_op rfl (OJ_P (P_fieldE rfl ⟨_, _, _, Try.runUnderlying73, rfl, rfl, Try.sizeOf32, rfl⟩) rfl ?_)
              refine RJ_op rfl (O_storeE (x' := ⟨⟨some ⟨b1, 0, none⟩, 1, 1⟩, true, v⟩) rfl rfl rfl (by first | omega | (simp only [List.length_set]; omega)) foc4 rfl rfl (by rw [show List.getD _ _ tySec.dflt = _ from getD_set1 (by simpa using hil)]; rfl) Try.sizeOf32 ?_)
              refine RJ_nil ?_
              refine QJ_then ?_
              refine CJ_seq ?_
              refine CJ_region ?_
              refine RJ_op rfl (OJ_P (P_move rfl) rfl ?_)
              refine RJ_op rfl (OJ_P (P_assign rfl) rfl ?_)
              refine RJ_nil ?_
              refine QJ_then ?_
              refine CJ_ret ?_
              refine QJ_end (res1 Try.results22 rfl) ?_
              rw [rdTS, if_pos hR, if_neg hkf, if_pos ‹q = true›]
              refine CSpec.close () ?_ ?_ (Ent.trans (Ent.trans (Ent.take del0 (Ent.take del1 Ent.refl)) (Own_close ownS ((⟨⟨some ⟨b1, 0, none⟩, 1, 1⟩, true, v⟩ : SecH), (⟨[v], true, v⟩ : Sec)) hll)) (Ent.trans (Ent.trans (Ent.take del2 (Ent.takeC del2 (congrArg (sl tySec _) (by rw [set3]; simp only [SL.hs, List.map_set])) (Ent.take del0 Ent.refl))) (Trk_close (hl.set i ((⟨⟨some ⟨b1, 0, none⟩, 1, 1⟩, true, v⟩ : SecH), (⟨[v], true, v⟩ : Sec)) ⟨rfl, rfl⟩))) (Ent.take del0 (Ent.drop Ent.refl))))
              · exact bv (show _ = rdTR t i v by rw [rdTR, if_pos hR, if_neg hkf, hk2, List.take_length]; rfl)
              · trivial
            ·
              refine CJ_skip ?_
              refine QJ_then ?_
              refine CJ_seq ?_
              refine CJ_region ?_
              refine RJ_op rfl (OJ_P (P_move rfl) rfl ?_)
              refine RJ_op rfl (OJ_P (P_assign rfl) rfl ?_)
              refine RJ_nil ?_
              refine QJ_then ?_
              refine CJ_ret ?_
              refine QJ_end (res1 Try.results22 rfl) ?_
              rw [rdTS, if_pos hR, if_neg hkf, if_neg (by rw [‹q = false›]; decide)]
              refine CSpec.close () ?_ ?_ (Ent.trans (Ent.trans (Ent.take del0 (Ent.take del0 Ent.refl)) (Own_close ownS ((⟨((SL.hs l).getD i sH0).some, true, v⟩ : SecH), (⟨(t.getD i s0).some, true, v⟩ : Sec)) hll)) (Ent.trans (Ent.trans (Ent.take del1 (Ent.takeC del1 (congrArg (sl tySec _) (by rw [List.set_set]; simp only [SL.hs, List.map_set])) (Ent.take del0 Ent.refl))) (Trk_close (hl.set i ((⟨((SL.hs l).getD i sH0).some, true, v⟩ : SecH), (⟨(t.getD i s0).some, true, v⟩ : Sec)) ⟨rfl, rfl⟩))) (Ent.take del0 Ent.refl)))
              · exact bv (show _ = rdTR t i v by rw [rdTR, if_pos hR, if_neg hkf, hk2, List.take_length]; rfl)
              · trivial

theorem c_Tracked {W : World} {A : HP} {v : Value} {xs : List UInt64} (hA : Reads A tyU v xs) (hl : xs.length ≤ 65536) :
    CSpec Try.prog W 11 [v] [A] (fun b : Nat => ptr b 0) (fun _ => True) (fun b F => Trk b (trkT xs) :: A :: F) := by
  refine CSpec.of_body Try.func11 rfl Try.ntmps11 rfl (fun F => ?_)
  show CJ _ _ _ _ _ _ (_ :: F)
  refine CJ_seq ?_
  refine CJ_region ?_
  refine RJ_op rfl (OJ_P (P_assign rfl) rfl ?_)
  refine RJ_nil ?_
  refine QJ_then ?_
  refine CJ_seq ?_
  refine CJ_region ?_
  refine RJ_op rfl (OJ_P (P_build rfl (CTrack_bld_71_)) rfl ?_)
  refine RJ_op rfl (O_box rfl rfl rfl (fun b1 => ?_))
  refine RJ_op rfl (OJ_P (P_assign rfl) rfl ?_)
  refine RJ_nil ?_
  refine QJ_then ?_
  refine CJ_seq ?_
  refine CJ_seq ?_
  refine CJ_region ?_
  refine RJ_op rfl (OJ_P (P_assign rfl) rfl ?_)
  refine RJ_nil ?_
  refine QJ_then ?_
  refine CJ_block ?_
  refine CJ_ent (fun h hh => sl_nil (t := tySec) h hh) ?_
  refine CJ_ent (Own_nil ownS) ?_
  refine CJ_loopR (X := Nat × Sl3 × SL) [4, 7, 8, 9, 10, 11, 12, 13, 14, 15, 16, 17, 18, 19, 20, 21, 22, 23, 24, 25, 26, 27, 28, 29, 30, 31] (fun ⟨k, sv, l⟩  => ([(4, .int .i64 (k : Nat))] : Slots)) (fun ⟨k, sv, l⟩ R => blk b1 71 [sv.v] :: sl tySec sv.v (SL.hs l) :: Own ownS l :: R) (fun ⟨k, sv, l⟩  => k ≤ xs.length ∧ SOk l (trkT (xs.take k))) (fun ⟨k, sv, l⟩  => xs.length - k) ⟨0, ⟨none, 0, 0⟩, []⟩ ?_ ?_ (Ent.take del2 (Ent.take del1 (Ent.take del0 (Ent.take del0 Ent.refl)))) ?_
  · exact ⟨Nat.zero_le _, rfl, (fun p hp => by cases hp), Nat.zero_le _⟩
  · exact ⟨rfl, True.intro⟩
  ·
    rintro ⟨k, sv, l⟩ ⟨hk, hs⟩
    show CJ _ _ _ _ _ (([(4, .int .i64 (k : Nat))] : Slots) ++ forget _ _) (blk b1 71 [sv.v] :: sl tySec sv.v (SL.hs l) :: Own ownS l :: _)
    have hlen : (SL.hs l).length = k := by rw [hs.len]; simp [trkT]; omega
    refine CJ_seq ?_
    refine CJ_seq ?_
    refine CJ_region ?_
    refine RJ_op rfl (OJ_P (P_move rfl) rfl ?_)
    refine RJ_op rfl (OJ_P (P_move rfl) rfl ?_)
    refine RJ_op rfl (OJ_V (V_len rfl foc3 hA Try.runUnderlying32) rfl ?_)
    refine RJ_op rfl (OJ_P (P_lss rfl rfl) rfl ?_)
    refine RJ_nil ?_
    refine QJ_then ?_
    first | (refine CJ_condD rfl (fun hg1 => ?_) (fun hg1 => ?_)) | (refine CJ_condN rfl (fun hg1 => ?_) (fun hg1 => ?_)) | (refine CJ_cond rfl (fun hg1 => ?_) (fun hg1 => ?_))
    ·
      refine CJ_skip ?_
      refine QJ_then ?_
      refine CJ_seq ?_
      refine CJ_block ?_
      refine AJ_startH 589824 (by kernel_rfl) rfl ?_
      refine AJ_takeP 0 1 rfl (by kernel_rfl) rfl (GY_none rfl) (P_move rfl) rfl (fun _ _ _ _ h => h) ?_
      refine AJ_takeP 1 3 rfl (by kernel_rfl) rfl (GY_none rfl) (P_move rfl) rfl (fun _ _ _ _ h => h) ?_
      refine AJ_takeP 2 7 rfl (by kernel_rfl) rfl (GY_none rfl) (P_nilCheck rfl) rfl (fun _ _ _ _ h => h) ?_
      refine AJ_takeP 3 15 rfl (by kernel_rfl) rfl (GY_none rfl) (P_fieldAddr rfl ⟨_, _, _, Try.runUnderlying71, rfl, rfl, Try.sizeOf69, rfl⟩) rfl (fun _ _ _ _ h => h) ?_
      refine AJ_takeV 4 31 rfl (by kernel_rfl) rfl (by kernel_rfl) (by kernel_rfl) (GY_none rfl) (Ent.take del0 (Ent.take del0 (Ent.take del0 (Ent.take del0 Ent.refl)))) (V_load rfl foc0 rfl Try.isAgg69) rfl (fun _ _ _ _ h => h) ?_
      refine AJ_takeP 5 63 rfl (by kernel_rfl) rfl (GY_none rfl) (P_move rfl) rfl (fun _ _ _ _ h => h) ?_
      refine AJ_takeP 6 127 rfl (by kernel_rfl) rfl (GY_none rfl) (P_move rfl) rfl (fun _ _ _ _ h => h) ?_
      first | (refine AJ_takeV 7 255 rfl (by kernel_rfl) rfl (by kernel_rfl) (by kernel_rfl) (GY_none rfl) (Ent.take del0 (Ent.take del0 (Ent.take del0 (Ent.take del0 Ent.refl)))) (V_index rfl rfl rfl (by omega) foc3 hA Try.runUnderlying32 Try.sizeOf33) rfl (fun _ _ _ _ h => h) ?_) | (refine AJ_takeV 7 255 rfl (by kernel_rfl) rfl (by kernel_rfl) (by kernel_rfl) (GY_none rfl) (Ent.take del0 (Ent.take del0 (Ent.take del0 (Ent.take del0 Ent.refl)))) (V_index rfl rfl (Int.toNat_of_nonneg (by omega)).symm (by omega) foc3 hA Try.runUnderlying32 Try.sizeOf33) rfl (fun _ _ _ _ h => h) ?_)
      refine AJ_takeV 8 511 rfl (by kernel_rfl) rfl (by kernel_rfl) (by kernel_rfl) (GY_none rfl) (Ent.take del0 (Ent.take del0 (Ent.take del0 (Ent.take del0 Ent.refl)))) (V_loadE rfl rfl (by omega) foc3 hA rfl rfl Try.isAgg33) rfl (fun _ _ _ _ h => h) ?_
      refine AJ_takeP 10 1535 rfl (by kernel_rfl) rfl (GY_none rfl) (P_move rfl) rfl (fun _ _ _ _ h => h) ?_
      refine AJ_takeP 11 3583 rfl (by kernel_rfl) rfl (GY_none rfl) (P_move rfl) rfl (fun _ _ _ _ h => h) ?_
      first | (refine AJ_takeV 12 7679 rfl (by kernel_rfl) rfl (by kernel_rfl) (by kernel_rfl) (GY_none rfl) (Ent.take del0 (Ent.take del0 (Ent.take del0 (Ent.take del0 Ent.refl)))) (V_index rfl rfl rfl (by omega) foc3 hA Try.runUnderlying32 Try.sizeOf33) rfl (fun _ _ _ _ h => h) ?_) | (refine AJ_takeV 12 7679 rfl (by kernel_rfl) rfl (by kernel_rfl) (by kernel_rfl) (GY_none rfl) (Ent.take del0 (Ent.take del0 (Ent.take del0 (Ent.take del0 Ent.refl)))) (V_index rfl rfl (Int.toNat_of_nonneg (by omega)).symm (by omega) foc3 hA Try.runUnderlying32 Try.sizeOf33) rfl (fun _ _ _ _ h => h) ?_)
      refine AJ_takeV 13 15871 rfl (by kernel_rfl) rfl (by kernel_rfl) (by kernel_rfl) (GY_none rfl) (Ent.take del0 (Ent.take del0 (Ent.take del0 (Ent.take del0 Ent.refl)))) (V_loadE rfl rfl (by omega) foc3 hA rfl rfl Try.isAgg33) rfl (fun _ _ _ _ h => h) ?_
      refine AJ_op 9 16383 rfl (by kernel_rfl) rfl (GY_none rfl) (O_buildSlice rfl (CTrack_bs_32_1_0 _) rfl (fun b2 => ?_))
      refine ⟨fun _ => (Ent.take del1 (Ent.take del1 (Ent.take del1 (Ent.take del1 (Ent.drop Ent.refl))))), ?_⟩
      refine AJ_takeP 14 32767 rfl (by kernel_rfl) rfl (GY_none rfl) (P_build rfl (CTrack_bld_73_0_1_2 _ _ _ _ _)) rfl (fun _ _ _ _ h => h) ?_
      refine AJ_op 15 65535 rfl (by kernel_rfl) rfl (GY_none rfl) (O_buildSlice rfl (CTrack_bs_69_1_0 _ _ _ _ _) rfl (fun b3 => ?_))
      refine ⟨fun _ => (Ent.take del2 (Ent.take del2 (Ent.take del2 (Ent.take del2 (Ent.drop (Ent.drop Ent.refl)))))), ?_⟩
      refine AJ_op 16 131071 rfl (by kernel_rfl) rfl (GY_none rfl) (O_append (t := tySec) (bytes := 40) rfl rfl del3 foc0 (Reads.lit (t := tySec) (ys := [⟨⟨some ⟨b2, 0, none⟩, 1, 1⟩, true, xs.getD k 0⟩]) rfl rfl (by decide) (by decide) rfl) Try.underlying69 ok_tySec (by simp only [List.length_append, List.length_cons, List.length_nil, maxLen] at *; omega) (by simp only [List.length_append, List.length_cons, List.length_nil, maxLen] at *; omega) rfl (fun p4 c5 => ?_))
      refine ⟨fun h => absurd h (by decide), ?_⟩
      refine AJ_takeP 17 262143 rfl (by kernel_rfl) rfl (GY_none rfl) (P_nilCheck rfl) rfl (fun _ _ _ _ h => h) ?_
      refine AJ_takeP 18 524287 rfl (by kernel_rfl) rfl (GY_none rfl) (P_fieldAddr rfl ⟨_, _, _, Try.runUnderlying71, rfl, rfl, Try.sizeOf69, rfl⟩) rfl (fun _ _ _ _ h => h) ?_
      refine AJ_op 19 1048575 rfl (by kernel_rfl) rfl (GY_none rfl) (O_store rfl rfl foc3 rfl rfl Try.sizeOf69 ?_)
      refine ⟨fun h => absurd h (by decide), ?_⟩
      refine AJ_done (by kernel_rfl) ?_
      refine QJ_block_normal ?_
      refine QJ_then ?_
      refine CJ_region ?_
      refine RJ_op rfl (OJ_P (P_move rfl) rfl ?_)
      refine RJ_op rfl (OJ_P (P_add rfl rfl (by omega)) rfl ?_)
      refine RJ_op rfl (OJ_P (P_assign rfl) rfl ?_)
      refine RJ_nil ?_
      refine QJ_nextR ⟨k + 1, ⟨p4, _, c5⟩, l ++ [((⟨⟨some ⟨b2, 0, none⟩, 1, 1⟩, true, xs.getD k 0⟩ : SecH), mkSec (xs.getD k 0))]⟩ (by first | omega | (simp only []; omega)) ?_ (by repeat (first | exact Kp.base | exact Kp.self | refine Kp.cons rfl ?_ | refine Kp.forget rfl ?_)) ?_ (Ent.trans (Ent.trans (Ent.take del2 Ent.refl) (sl_of_lit (t := tyU) (m := 1) [xs.getD k 0] rfl rfl rfl (by decide))) (Ent.trans (Ent.trans (Ent.take del0 (Ent.take del3 Ent.refl)) (Own_push ownS ((⟨⟨some ⟨b2, 0, none⟩, 1, 1⟩, true, xs.getD k 0⟩ : SecH), mkSec (xs.getD k 0)))) (Ent.take del3 (Ent.takeC del1 (congrArg (sl tySec _) (SL.snoc l ((⟨⟨some ⟨b2, 0, none⟩, 1, 1⟩, true, xs.getD k 0⟩ : SecH), mkSec (xs.getD k 0))).symm) (Ent.take del0 (Ent.take del1 (Ent.drop Ent.refl)))))))
      ·
        refine ⟨by omega, ?_⟩
        rw [takeU xs k (by omega)]
        exact hs.push ((⟨⟨some ⟨b2, 0, none⟩, 1, 1⟩, true, xs.getD k 0⟩ : SecH), mkSec (xs.getD k 0)) ⟨rfl, rfl⟩ (by simp [trkT]; omega)
      · exact ⟨rfl, True.intro⟩
    ·
      refine CJ_exit ?_
      refine QJ_then_exit ?_
      refine QJ_round_exit ?_
      refine QJ_block_here ?_
      refine QJ_then ?_
      refine CJ_seq ?_
      refine CJ_region ?_
      refine RJ_op rfl (OJ_P (P_move rfl) rfl ?_)
      refine RJ_op rfl (OJ_P (P_assign rfl) rfl ?_)
      refine RJ_nil ?_
      refine QJ_then ?_
      refine CJ_ret ?_
      refine QJ_end (res1 Try.results11 rfl) ?_
      obtain rfl : k = xs.length := by omega
      rw [List.take_length] at hs
      refine CSpec.close b1 ?_ ?_ (Ent.trans (Ent.trans (Ent.take del0 (Ent.take del0 (Ent.take del0 Ent.refl))) (Trk_close hs)) (Ent.take del0 (Ent.take del0 Ent.refl)))
      · rfl
      · trivial

end Go.Proofs
