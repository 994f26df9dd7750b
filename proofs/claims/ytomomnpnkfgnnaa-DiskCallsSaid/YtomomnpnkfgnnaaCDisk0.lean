/- YtomomnpnkfgnnaaCDisk0: contracts of functions of the program, walked rule by rule; printed by vg.py. -/
import Derived.Test.YtomomnpnkfgnnaaVgT
import Derived.Test.YtomomnpnkfgnnaaVgH
set_option linter.unusedSimpArgs false
set_option maxRecDepth 20000
namespace Go.Proofs
open Go.VG

/-- A slice's three words. -/
structure Sl3 where
  p : Option Addr
  n : Nat
  c : Nat
abbrev Sl3.v (x : Sl3) : Value := .slice x.p x.n x.c
/-- A drive's own cells; a drive as it is; a record of the log. -/
structure DrvH where
  now : Sl3
  dur : Sl3
  miss : Bool
structure Drive where
  now : List UInt64
  dur : List UInt64
  miss : Bool
structure Rec where
  d : Nat
  a : Nat
  v : UInt64
abbrev dH0 : DrvH := ⟨⟨none, 0, 0⟩, ⟨none, 0, 0⟩, false⟩
abbrev d0 : Drive := ⟨[], [], false⟩
abbrev r0 : Rec := ⟨0, 0, 0⟩
abbrev tyDrv : Ty DrvH := { T := 58, sz := 3, enc := fun x => [x.now.v, x.dur.v, .bool x.miss], dflt := dH0, len := fun _ => rfl, one := fun _ => rfl, pos := by decide }
abbrev tyRec : Ty Rec := { T := 64, sz := 3, enc := fun x => [.int .i64 (x.d : Int), .int .i64 (x.a : Int), .int .u64 (x.v.toNat : Int)], dflt := r0, len := fun _ => rfl, one := fun _ => rfl, pos := by decide }
theorem ok_tyDrv : ElemOk Try.prog tyDrv 56 := ⟨Try.t58, .agg #[.slice none 0 0, .slice none 0 0, .bool false], by kernel_rfl, rfl, rfl, rfl, rfl⟩
theorem ok_tyRec : ElemOk Try.prog tyRec 24 := ⟨Try.t64, .agg #[.int .i64 0, .int .i64 0, .int .u64 0], by kernel_rfl, rfl, rfl, rfl, rfl⟩
/-- The set of bad sectors. -/
abbrev mBad : MTy (Int × Int) Unit := { KT := 60, VT := 4, ek := fun k => .agg #[.int .i64 k.1, .int .i64 k.2], ev := fun _ => .bool true }
theorem ok_mBad : MOk Try.prog mBad 51 where
  ty := Try.underlying51
  eq := fun a b w => by
    have e1 : decide (a = b) = (decide (a.1 = b.1) && decide (a.2 = b.2)) := by
      rw [Bool.eq_iff_iff]; simp only [decide_eq_true_eq, Bool.and_eq_true]
      constructor
      · rintro rfl; exact ⟨rfl, rfl⟩
      · rintro ⟨h1, h2⟩; exact Prod.ext h1 h2
    rw [e1]
    exact eq_pair Try.underlying60 (by kernel_rfl) Try.underlying3 Try.underlying3 Try.isAgg3 Try.isAgg3 rfl rfl (by decide) (by decide) _ _ _ _ w
  chk := fun e a w => chk_pair Try.underlying60 Try.underlying3 Try.underlying3 Try.isAgg3 Try.isAgg3 rfl rfl e _ _ w 9998
  same := fun a => by simp [Instr.sameBits]
  kd := ⟨_, Try.underlying60, .inl fun a b => rfl⟩
/-- What an array is. -/
structure ArrS where
  drv : List Drive
  bad : List ((Int × Int) × Unit)
  log : List Rec
  fuse : Nat
  down : Bool
  writes : Nat
def ArrS.size (s : ArrS) (d : Nat) : Nat := (s.drv.getD d d0).now.length
structure ArrWF (s : ArrS) : Prop where
  cnt : s.drv.length ≤ 8
  same : ∀ i, i < s.drv.length → (s.drv.getD i d0).now.length = (s.drv.getD i d0).dur.length ∧ (s.drv.getD i d0).now.length ≤ 65536
  log : ∀ i, i < s.log.length → (s.log.getD i r0).d < s.drv.length ∧ (s.log.getD i r0).a < s.size (s.log.getD i r0).d
  len : s.log.length ≤ s.writes
  fuse : s.fuse ≤ 9223372036854775807
/-- The drives: their cells, and each one's two rows. -/
abbrev DL := List (DrvH × Drive)
def own1 (p : DrvH × Drive) : HP := star [sl tyU p.1.now.v p.2.now, sl tyU p.1.dur.v p.2.dur]
def DRest (l : DL) (i : Nat) : HP := star ((l.take i ++ l.drop (i + 1)).map own1)
def DOwn (l : DL) : HP := star (l.map own1)
abbrev DL.hs (l : DL) : List DrvH := l.map Prod.fst
def Arr (b : Nat) (s : ArrS) : HP := ex fun c : Sl3 × Sl3 × Nat × DL =>
  star [pur (c.2.2.2.map Prod.snd = s.drv ∧ (∀ p ∈ c.2.2.2, p.1.miss = p.2.miss) ∧ ArrWF s), blk b 55 [c.1.v, .map (some c.2.2.1), c.2.1.v, .int .i64 (s.fuse : Int), .bool s.down, .int .i64 (s.writes : Int)],
    sl tyDrv c.1.v (DL.hs c.2.2.2), DOwn c.2.2.2, sl tyRec c.2.1.v s.log, mpc mBad c.2.2.1 s.bad]
theorem Arr_open {b : Nat} {s : ArrS} {R : List HP} : EntX (Arr b s :: R) fun c : Sl3 × Sl3 × Nat × DL =>
    pur (c.2.2.2.map Prod.snd = s.drv ∧ (∀ p ∈ c.2.2.2, p.1.miss = p.2.miss) ∧ ArrWF s) :: blk b 55 [c.1.v, .map (some c.2.2.1), c.2.1.v, .int .i64 (s.fuse : Int), .bool s.down, .int .i64 (s.writes : Int)] ::
    sl tyDrv c.1.v (DL.hs c.2.2.2) :: DOwn c.2.2.2 :: sl tyRec c.2.1.v s.log :: mpc mBad c.2.2.1 s.bad :: R :=
  fun _ hh => let ⟨c, hc⟩ := stars_ex.1 hh; ⟨c, stars_star.1 hc⟩
theorem Arr_close {b r : Nat} {s : ArrS} {dv lv : Sl3} {l : DL} {R : List HP} (h1 : l.map Prod.snd = s.drv) (h2 : ∀ p ∈ l, p.1.miss = p.2.miss) (h3 : ArrWF s) :
    Ent (blk b 55 [dv.v, .map (some r), lv.v, .int .i64 (s.fuse : Int), .bool s.down, .int .i64 (s.writes : Int)] :: sl tyDrv dv.v (DL.hs l) :: DOwn l :: sl tyRec lv.v s.log :: mpc mBad r s.bad :: R) (Arr b s :: R) :=
  fun _ hh => stars_ex.2 ⟨(dv, lv, r, l), stars_star.2 (stars_pur.2 ⟨⟨h1, h2, h3⟩, hh⟩)⟩
theorem map_split (l : DL) (i : Nat) (hi : i < l.length) : (l.map own1).Perm (own1 (l.getD i (dH0, d0)) :: (l.take i ++ l.drop (i + 1)).map own1) := by
  have h1 : l = l.take i ++ l.getD i (dH0, d0) :: l.drop (i + 1) := by
    have := List.take_append_drop i l
    rw [List.drop_eq_getElem_cons hi] at this
    simp [List.getD, hi]
  have h2 : l.map own1 = (l.take i ++ l.getD i (dH0, d0) :: l.drop (i + 1)).map own1 := by rw [← h1]
  rw [h2, List.map_append, List.map_cons, List.map_append]
  exact List.perm_middle
theorem getD_mapf {l : DL} {i : Nat} : (DL.hs l).getD i dH0 = (l.getD i (dH0, d0)).1 := by
  simp only [DL.hs, List.getD, List.getElem?_map]; cases l[i]? <;> rfl
theorem getD_maps {l : DL} {i : Nat} : (l.map Prod.snd).getD i d0 = (l.getD i (dH0, d0)).2 := by
  simp only [List.getD, List.getElem?_map]; cases l[i]? <;> rfl
/-- One drive's rows taken out. -/
theorem DOwn_open {l : DL} {s : ArrS} (i : Nat) (hs : l.map Prod.snd = s.drv) (hi : i < s.drv.length) {R : List HP} :
    Ent (DOwn l :: R) (sl tyU ((DL.hs l).getD i dH0).now.v (s.drv.getD i d0).now :: sl tyU ((DL.hs l).getD i dH0).dur.v (s.drv.getD i d0).dur :: DRest l i :: R) := by
  intro h hh
  rw [← hs, getD_mapf, getD_maps]
  have hi' : i < l.length := by rw [← hs] at hi; simpa using hi
  have h1 := stars_star.1 hh
  have h2 := stars_perm ((map_split l i hi').append_right R) _ h1
  have h3 : stars (own1 (l.getD i (dH0, d0)) :: star ((l.take i ++ l.drop (i + 1)).map own1) :: R) h := by
    simp only [List.cons_append] at h2
    obtain ⟨g1, g2, d, e, ha, hb⟩ := h2
    exact ⟨g1, g2, d, e, ha, stars_star.2 hb⟩
  exact stars_star.1 h3
/-- And put back, written. -/
theorem DOwn_close {l : DL} {i : Nat} (x : DrvH × Drive) (hi : i < l.length) {R : List HP} :
    Ent (sl tyU x.1.now.v x.2.now :: sl tyU x.1.dur.v x.2.dur :: DRest l i :: R) (DOwn (l.set i x) :: R) := by
  intro h hh
  have h1 : stars (own1 x :: DRest l i :: R) h := stars_star.2 hh
  have h3 : stars ((own1 x :: (l.take i ++ l.drop (i + 1)).map own1) ++ R) h := by
    obtain ⟨g1, g2, d, e, ha, hb⟩ := h1
    exact ⟨g1, g2, d, e, ha, stars_star.1 hb⟩
  refine stars_star.2 (stars_perm (List.Perm.append_right R ?_) _ h3)
  have h4 := map_split (l.set i x) i (by simpa using hi)
  have e1 : (l.set i x).getD i (dH0, d0) = x := by simp [List.getD, hi]
  have e2 : (l.set i x).take i = l.take i := by simp [List.take_set_of_le]
  have e3 : (l.set i x).drop (i + 1) = l.drop (i + 1) := by simp [List.drop_set]
  rw [e1, e2, e3] at h4
  exact h4.symm
theorem DOwn_back {l : DL} {s : ArrS} {i : Nat} (hs : l.map Prod.snd = s.drv) (hi : i < s.drv.length) {R : List HP} :
    Ent (sl tyU ((DL.hs l).getD i dH0).now.v (s.drv.getD i d0).now :: sl tyU ((DL.hs l).getD i dH0).dur.v (s.drv.getD i d0).dur :: DRest l i :: R) (DOwn l :: R) := by
  have hi' : i < l.length := by rw [← hs] at hi; simpa using hi
  have := DOwn_close (l := l) (i := i) (l.getD i (dH0, d0)) hi' (R := R)
  rw [show l.set i (l.getD i (dH0, d0)) = l by simp [List.getD, hi']] at this
  rw [← hs, getD_mapf, getD_maps]
  exact this
/-- The codes of the checks. -/
def inR (s : ArrS) (d : Int) : Prop := 0 ≤ d ∧ d < s.drv.length
instance (s : ArrS) (d : Int) : Decidable (inR s d) := by unfold inR; infer_instance
def sizeI (s : ArrS) (d : Int) : Int := if inR s d then (s.size d.toNat : Int) else 0
def isBad (s : ArrS) (d a : Int) : Bool := (lookM s.bad (d, a)).isSome
def missI (s : ArrS) (d : Int) : Bool := (s.drv.getD d.toNat d0).miss
def cPow (s : ArrS) : Int := if s.down then 5 else 0
def cLoc (s : ArrS) (d : Int) : Int := if inR s d then 0 else 1
def cPla (s : ArrS) (d a : Int) : Int := if 0 ≤ a ∧ a < sizeI s d then 0 else 1
def cPre (s : ArrS) (d : Int) : Int := if missI s d then 6 else 0
def cWho (s : ArrS) (d a : Int) : Int := if isBad s d a then 7 else 0
abbrev tyFn : Ty (Nat × Value) := { T := 62, sz := 1, enc := fun x => [.func (.func x.1) #[x.2] #[]], dflt := (0, .bool false), len := fun _ => rfl, one := fun _ => rfl, pos := by decide }
/-- The first code that is not 0. -/
def fz : List Int → Int
  | [] => 0
  | c :: r => if c = 0 then fz r else c
theorem fz_at : ∀ (cs : List Int) (k : Nat), k < cs.length → (∀ j, j < k → cs.getD j 0 = 0) → cs.getD k 0 ≠ 0 → fz cs = cs.getD k 0
  | [], k, h, _, _ => by simp at h
  | c :: r, 0, _, _, hk => by simpa [fz] using fun h => absurd h (by simpa using hk)
  | c :: r, k + 1, h, h0, hk => by
    have hc : c = 0 := by simpa using h0 0 (by omega)
    simp only [fz, hc, if_true]
    have := fz_at r k (by simpa using h) (fun j hj => by simpa using h0 (j + 1) (by omega)) (by simpa using hk)
    simpa using this
theorem fz_all : ∀ (cs : List Int), (∀ j, j < cs.length → cs.getD j 0 = 0) → fz cs = 0
  | [], _ => rfl
  | c :: r, h => by
    have hc : c = 0 := by simpa using h 0 (by simp)
    simp only [fz, hc, if_true]
    exact fz_all r fun j hj => by simpa using h (j + 1) (by simp; omega)
theorem size_of {l : DL} {s : ArrS} (hs : l.map Prod.snd = s.drv) : l.length = s.drv.length := by rw [← hs]; simp
theorem hs_len {l : DL} {s : ArrS} (hs : l.map Prod.snd = s.drv) : (DL.hs l).length = s.drv.length := by rw [← hs]; simp
theorem miss_at {l : DL} {s : ArrS} (hs : l.map Prod.snd = s.drv) (hm : ∀ p ∈ l, p.1.miss = p.2.miss) {i : Nat} (hi : i < s.drv.length) : ((DL.hs l).getD i dH0).miss = (s.drv.getD i d0).miss := by
  rw [← hs, getD_mapf, getD_maps]
  have hi' : i < l.length := by rw [← hs] at hi; simpa using hi
  rw [List.getD, List.getElem?_eq_getElem hi']
  exact hm _ (List.getElem_mem hi')

theorem c_fault {W : World} {t : Bool} {e : Int} :
    CSpec Try.prog W 45 [.bool t, .int .i64 e] [] (fun _ : Unit => .int .i64 (if t then e else 0)) (fun _ => True) (fun _ F => F) := by
  refine CSpec.of_body Try.func45 rfl Try.ntmps45 rfl (fun F => ?_)
  show CJ _ _ _ _ _ _ (F)
  refine CJ_seq ?_
  refine CJ_region ?_
  refine RJ_op rfl (OJ_P (P_assign rfl) rfl ?_)
  refine RJ_nil ?_
  refine QJ_then ?_
  refine CJ_seq ?_
  refine CJ_seq ?_
  refine CJ_region ?_
  refine RJ_op rfl (OJ_P (P_move rfl) rfl ?_)
  refine RJ_nil ?_
  refine QJ_then ?_
  first | (refine CJ_condD rfl (fun hg1 => ?_) (fun hg1 => ?_)) | (refine CJ_condN rfl (fun hg1 => ?_) (fun hg1 => ?_)) | (refine CJ_cond rfl (fun hg1 => ?_) (fun hg1 => ?_))
  ·
    refine CJ_seq ?_
    refine CJ_region ?_
    refine RJ_op rfl (OJ_P (P_move rfl) rfl ?_)
    refine RJ_op rfl (OJ_P (P_assign rfl) rfl ?_)
    refine RJ_nil ?_
    refine QJ_then ?_
    refine CJ_ret ?_
    refine QJ_then_ret ?_
    refine QJ_end (res1 Try.results45 rfl) ?_
    refine CSpec.close () ?_ ?_ Ent.refl
    · simp only [*]; rfl
    · trivial
  ·
    refine CJ_skip ?_
    refine QJ_then ?_
    refine CJ_seq ?_
    refine CJ_region ?_
    refine RJ_op rfl (OJ_P (P_assign rfl) rfl ?_)
    refine RJ_nil ?_
    refine QJ_then ?_
    refine CJ_ret ?_
    refine QJ_end (res1 Try.results45 rfl) ?_
    refine CSpec.close () ?_ ?_ Ent.refl
    · simp only [*]; rfl
    · trivial

theorem c_powered {W : World} {b : Nat} {s : ArrS} {d a : Int} :
    CSpec Try.prog W 16 [ptr b 0, .agg #[.int .i64 d, .int .i64 a]] [Arr b s] (fun _ : Unit => .int .i64 (cPow s)) (fun _ => True) (fun _ F => Arr b s :: F) := by
  refine CSpec.of_body Try.func16 rfl Try.ntmps16 rfl (fun F => ?_)
  show CJ _ _ _ _ _ _ (_ :: F)
  refine CJ_entX (Ent.transX (Ent.take del0 Ent.refl) Arr_open) (fun ⟨dv, lv, mr, l⟩ => ?_)
  refine CJ_pur (fun hX => ?_)
  obtain ⟨hl, hm, hw⟩ : l.map Prod.snd = (s).drv ∧ (∀ p ∈ l, p.1.miss = p.2.miss) ∧ ArrWF (s) := hX
  show CJ _ _ _ _ _ _ (blk b 55 [Sl3.v dv, .map (some mr), Sl3.v lv, _, _, _] :: sl tyDrv (Sl3.v dv) (DL.hs l) :: DOwn l :: sl tyRec (Sl3.v lv) _ :: mpc mBad mr _ :: _)
  have hn := hs_len hl
  have hwF := hw.fuse
  have hwL := hw.len
  have hwC := hw.cnt
  refine CJ_seq ?_
  refine CJ_region ?_
  refine RJ_op rfl (O_box rfl rfl rfl (fun b1 => ?_))
  refine RJ_op rfl (OJ_P (P_assign rfl) rfl ?_)
  refine RJ_nil ?_
  refine QJ_then ?_
  refine CJ_seq ?_
  refine CJ_region ?_
  refine RJ_op rfl (OJ_P (P_move rfl) rfl ?_)
  refine RJ_op rfl (OJ_P (P_nilCheck rfl) rfl ?_)
  refine RJ_op rfl (OJ_P (P_fieldAddr rfl ⟨_, _, _, Try.runUnderlying55, rfl, rfl, Try.sizeOf4, rfl⟩) rfl ?_)
  refine RJ_op rfl (OJ_V (V_load rfl foc1 rfl Try.isAgg4) rfl ?_)
  refine RJ_op rfl (O_call (c_fault) rfl Try.call45 Dels.nil rfl (fun _ hc2 => ?_))
  refine RJ_op rfl (OJ_P (P_assign rfl) rfl ?_)
  refine RJ_nil ?_
  refine QJ_then ?_
  refine CJ_ret ?_
  refine QJ_end (res1 Try.results16 rfl) ?_
  refine CSpec.close () ?_ ?_ (Ent.trans (Ent.trans (Ent.take del1 (Ent.take del1 (Ent.take del1 (Ent.take del1 (Ent.take del1 Ent.refl))))) (Arr_close hl hm hw)) (Ent.take del0 (Ent.drop Ent.refl)))
  · rfl
  · trivial

theorem c_located {W : World} {b : Nat} {s : ArrS} {d a : Int} :
    CSpec Try.prog W 17 [ptr b 0, .agg #[.int .i64 d, .int .i64 a]] [Arr b s] (fun _ : Unit => .int .i64 (cLoc s d)) (fun _ => True) (fun _ F => Arr b s :: F) := by
  refine CSpec.of_body Try.func17 rfl Try.ntmps17 rfl (fun F => ?_)
  show CJ _ _ _ _ _ _ (_ :: F)
  refine CJ_entX (Ent.transX (Ent.take del0 Ent.refl) Arr_open) (fun ⟨dv, lv, mr, l⟩ => ?_)
  refine CJ_pur (fun hX => ?_)
  obtain ⟨hl, hm, hw⟩ : l.map Prod.snd = (s).drv ∧ (∀ p ∈ l, p.1.miss = p.2.miss) ∧ ArrWF (s) := hX
  show CJ _ _ _ _ _ _ (blk b 55 [Sl3.v dv, .map (some mr), Sl3.v lv, _, _, _] :: sl tyDrv (Sl3.v dv) (DL.hs l) :: DOwn l :: sl tyRec (Sl3.v lv) _ :: mpc mBad mr _ :: _)
  have hn := hs_len hl
  have hwF := hw.fuse
  have hwL := hw.len
  have hwC := hw.cnt
  refine CJ_seq ?_
  refine CJ_region ?_
  refine RJ_op rfl (O_box rfl rfl rfl (fun b1 => ?_))
  refine RJ_op rfl (OJ_P (P_assign rfl) rfl ?_)
  refine RJ_nil ?_
  refine QJ_then ?_
  refine CJ_seq ?_
  refine AJ_startH 8192 (by kernel_rfl) rfl ?_
  refine AJ_takeP 0 1 rfl (by kernel_rfl) rfl (GY_none rfl) (P_fieldAddr rfl ⟨_, _, _, Try.runUnderlying60, rfl, rfl, Try.sizeOf3, rfl⟩) rfl (fun _ _ _ _ h => h) ?_
  refine AJ_takeV 1 3 rfl (by kernel_rfl) rfl (by kernel_rfl) (by kernel_rfl) (GY_none rfl) (Ent.take del0 (Ent.take del0 (Ent.take del0 (Ent.take del0 (Ent.take del0 (Ent.take del0 Ent.refl)))))) (V_load rfl foc0 rfl Try.isAgg3) rfl (fun _ _ _ _ h => h) ?_
  refine AJ_takeP 2 7 rfl (by kernel_rfl) rfl (GY_none rfl) (P_lss rfl rfl) rfl (fun _ _ _ _ h => h) ?_
  refine AJ_takeP 3 15 rfl (by kernel_rfl) rfl (GY_none rfl) (P_move rfl) rfl (fun _ _ _ _ h => h) ?_
  first | (refine AJ_splitD 8 rfl (fun hg1B hg1 => ?_) (fun hg1B hg1 => ?_)) | (refine AJ_splitN 8 rfl (fun hg1B hg1 => ?_) (fun hg1B hg1 => ?_)) | (refine AJ_split 8 rfl (fun hg1B => ?_) (fun hg1B => ?_))
  ·
    refine AJ_skip 4 31 rfl (by kernel_rfl) rfl (GY_no rfl rfl rfl hg1B) rfl (fun _ _ _ _ h => h) ?_
    refine AJ_skip 5 63 rfl (by kernel_rfl) rfl (GY_no rfl rfl rfl hg1B) rfl (fun _ _ _ _ h => h) ?_
    refine AJ_skip 6 127 rfl (by kernel_rfl) rfl (GY_no rfl rfl rfl hg1B) rfl (fun _ _ _ _ h => h) ?_
    refine AJ_skip 7 255 rfl (by kernel_rfl) rfl (GY_no rfl rfl rfl hg1B) rfl (fun _ _ _ _ h => h) ?_
    refine AJ_skip 8 511 rfl (by kernel_rfl) rfl (GY_no rfl rfl rfl hg1B) rfl (fun _ _ _ _ h => h) ?_
    refine AJ_skip 9 1023 rfl (by kernel_rfl) rfl (GY_no rfl rfl rfl hg1B) rfl (fun _ _ _ _ h => h) ?_
    refine AJ_skip 10 2047 rfl (by kernel_rfl) rfl (GY_no rfl rfl rfl hg1B) rfl (fun _ _ _ _ h => h) ?_
    refine AJ_skip 11 4095 rfl (by kernel_rfl) rfl (GY_no rfl rfl rfl hg1B) rfl (fun _ _ _ _ h => h) ?_
    refine AJ_takeP 12 8191 rfl (by kernel_rfl) rfl (GY_none rfl) (P_pickT rfl hg1B rfl) rfl (fun _ _ _ _ h => h) ?_
    refine AJ_op 13 16383 rfl (by kernel_rfl) rfl (GY_none rfl) (O_call (c_fault) rfl Try.call45 Dels.nil rfl (fun _ hc2 => ?_))
    refine ⟨fun h => absurd h (by decide), ?_⟩
    refine AJ_takeP 14 32767 rfl (by kernel_rfl) rfl (GY_none rfl) (P_assign rfl) rfl (fun _ _ _ _ h => h) ?_
    refine AJ_done (by kernel_rfl) ?_
    refine QJ_then ?_
    refine CJ_ret ?_
    refine QJ_end (res1 Try.results17 rfl) ?_
    refine CSpec.close () ?_ ?_ (Ent.trans (Ent.trans (Ent.take del1 (Ent.take del1 (Ent.take del1 (Ent.take del1 (Ent.take del1 Ent.refl))))) (Arr_close hl hm hw)) (Ent.take del0 (Ent.drop Ent.refl)))
    · refine iv ?_; unfold cLoc inR; split <;> simp_all <;> omega
    · trivial
  ·
    refine AJ_takeP 4 31 rfl (by kernel_rfl) rfl (GY_yes rfl rfl rfl hg1B) (P_fieldAddr rfl ⟨_, _, _, Try.runUnderlying60, rfl, rfl, Try.sizeOf3, rfl⟩) rfl (fun _ _ _ _ h => h) ?_
    refine AJ_takeV 5 63 rfl (by kernel_rfl) rfl (by kernel_rfl) (by kernel_rfl) (GY_yes rfl rfl rfl hg1B) (Ent.take del0 (Ent.take del0 (Ent.take del0 (Ent.take del0 (Ent.take del0 (Ent.take del0 Ent.refl)))))) (V_load rfl foc0 rfl Try.isAgg3) rfl (fun _ _ _ _ h => h) ?_
    refine AJ_takeP 6 127 rfl (by kernel_rfl) rfl (GY_yes rfl rfl rfl hg1B) (P_move rfl) rfl (fun _ _ _ _ h => h) ?_
    refine AJ_takeP 7 255 rfl (by kernel_rfl) rfl (GY_yes rfl rfl rfl hg1B) (P_nilCheck rfl) rfl (fun _ _ _ _ h => h) ?_
    refine AJ_takeP 8 511 rfl (by kernel_rfl) rfl (GY_yes rfl rfl rfl hg1B) (P_fieldAddr rfl ⟨_, _, _, Try.runUnderlying55, rfl, rfl, Try.sizeOf52, rfl⟩) rfl (fun _ _ _ _ h => h) ?_
    refine AJ_takeV 9 1023 rfl (by kernel_rfl) rfl (by kernel_rfl) (by kernel_rfl) (GY_yes rfl rfl rfl hg1B) (Ent.take del0 (Ent.take del0 (Ent.take del0 (Ent.take del0 (Ent.take del0 (Ent.take del0 Ent.refl)))))) (V_load rfl foc1 rfl Try.isAgg52) rfl (fun _ _ _ _ h => h) ?_
    refine AJ_takeV 10 2047 rfl (by kernel_rfl) rfl (by kernel_rfl) (by kernel_rfl) (GY_yes rfl rfl rfl hg1B) (Ent.take del0 (Ent.take del0 (Ent.take del0 (Ent.take del0 (Ent.take del0 (Ent.take del0 Ent.refl)))))) (V_len rfl foc2 (Reads.sl _ _ _) Try.runUnderlying52) rfl (fun _ _ _ _ h => h) ?_
    refine AJ_takeP 11 4095 rfl (by kernel_rfl) rfl (GY_yes rfl rfl rfl hg1B) (P_geq rfl rfl) rfl (fun _ _ _ _ h => h) ?_
    refine AJ_takeP 12 8191 rfl (by kernel_rfl) rfl (GY_none rfl) (P_pickF rfl hg1B rfl) rfl (fun _ _ _ _ h => h) ?_
    refine AJ_op 13 16383 rfl (by kernel_rfl) rfl (GY_none rfl) (O_call (c_fault) rfl Try.call45 Dels.nil rfl (fun _ hc3 => ?_))
    refine ⟨fun h => absurd h (by decide), ?_⟩
    refine AJ_takeP 14 32767 rfl (by kernel_rfl) rfl (GY_none rfl) (P_assign rfl) rfl (fun _ _ _ _ h => h) ?_
    refine AJ_done (by kernel_rfl) ?_
    refine QJ_then ?_
    refine CJ_ret ?_
    refine QJ_end (res1 Try.results17 rfl) ?_
    refine CSpec.close () ?_ ?_ (Ent.trans (Ent.trans (Ent.take del1 (Ent.take del1 (Ent.take del1 (Ent.take del1 (Ent.take del1 Ent.refl))))) (Arr_close hl hm hw)) (Ent.take del0 (Ent.drop Ent.refl)))
    · refine iv ?_; unfold cLoc inR; split <;> simp_all <;> omega
    · trivial

theorem c_SizeD {W : World} {b : Nat} {s : ArrS} {d : Int} :
    CSpec Try.prog W 43 [ptr b 0, .int .i64 d] [Arr b s] (fun _ : Unit => .int .i64 (sizeI s d)) (fun _ => True) (fun _ F => Arr b s :: F) := by
  refine CSpec.of_body Try.func43 rfl Try.ntmps43 rfl (fun F => ?_)
  show CJ _ _ _ _ _ _ (_ :: F)
  refine CJ_entX (Ent.transX (Ent.take del0 Ent.refl) Arr_open) (fun ⟨dv, lv, mr, l⟩ => ?_)
  refine CJ_pur (fun hX => ?_)
  obtain ⟨hl, hm, hw⟩ : l.map Prod.snd = (s).drv ∧ (∀ p ∈ l, p.1.miss = p.2.miss) ∧ ArrWF (s) := hX
  show CJ _ _ _ _ _ _ (blk b 55 [Sl3.v dv, .map (some mr), Sl3.v lv, _, _, _] :: sl tyDrv (Sl3.v dv) (DL.hs l) :: DOwn l :: sl tyRec (Sl3.v lv) _ :: mpc mBad mr _ :: _)
  have hn := hs_len hl
  have hwF := hw.fuse
  have hwL := hw.len
  have hwC := hw.cnt
  refine CJ_seq ?_
  refine CJ_region ?_
  refine RJ_op rfl (OJ_P (P_assign rfl) rfl ?_)
  refine RJ_nil ?_
  refine QJ_then ?_
  refine CJ_seq ?_
  refine CJ_seq ?_
  refine CJ_region ?_
  refine RJ_op rfl (OJ_P (P_move rfl) rfl ?_)
  refine RJ_op rfl (OJ_P (P_lss rfl rfl) rfl ?_)
  refine RJ_op rfl (OJ_P (P_move rfl) rfl ?_)
  first | (refine RJ_splitD 7 rfl (fun hg1B hg1 => ?_) (fun hg1B hg1 => ?_)) | (refine RJ_splitN 7 rfl (fun hg1B hg1 => ?_) (fun hg1B hg1 => ?_)) | (refine RJ_split 7 rfl (fun hg1B => ?_) (fun hg1B => ?_))
  ·
    refine RJ_gn (GY_no rfl rfl rfl hg1B) rfl rfl ?_
    refine RJ_gn (GY_no rfl rfl rfl hg1B) rfl rfl ?_
    refine RJ_gn (GY_no rfl rfl rfl hg1B) rfl rfl ?_
    refine RJ_gn (GY_no rfl rfl rfl hg1B) rfl rfl ?_
    refine RJ_gn (GY_no rfl rfl rfl hg1B) rfl rfl ?_
    refine RJ_gn (GY_no rfl rfl rfl hg1B) rfl rfl ?_
    refine RJ_gn (GY_no rfl rfl rfl hg1B) rfl rfl ?_
    refine RJ_op rfl (OJ_P (P_pickT rfl hg1B rfl) rfl ?_)
    refine RJ_nil ?_
    refine QJ_then ?_
    refine CJ_condT rfl rfl ?_
    refine CJ_seq ?_
    refine CJ_region ?_
    refine RJ_op rfl (OJ_P (P_assign rfl) rfl ?_)
    refine RJ_nil ?_
    refine QJ_then ?_
    refine CJ_ret ?_
    refine QJ_then_ret ?_
    refine QJ_end (res1 Try.results43 rfl) ?_
    refine CSpec.close () ?_ ?_ (Ent.trans (Ent.trans (Ent.take del0 (Ent.take del0 (Ent.take del0 (Ent.take del0 (Ent.take del0 Ent.refl))))) (Arr_close hl hm hw)) (Ent.take del0 Ent.refl))
    · first | (have hR : inR s d := ⟨by omega, by omega⟩; exact iv (if_pos hR).symm) | exact iv (if_neg (fun h : inR s d => by unfold inR at h; omega)).symm
    · trivial
  ·
    refine RJ_gy (GY_yes rfl rfl rfl hg1B) (OJ_P (P_move rfl) rfl ?_)
    refine RJ_gy (GY_yes rfl rfl rfl hg1B) (OJ_P (P_move rfl) rfl ?_)
    refine RJ_gy (GY_yes rfl rfl rfl hg1B) (OJ_P (P_nilCheck rfl) rfl ?_)
    refine RJ_gy (GY_yes rfl rfl rfl hg1B) (OJ_P (P_fieldAddr rfl ⟨_, _, _, Try.runUnderlying55, rfl, rfl, Try.sizeOf52, rfl⟩) rfl ?_)
    refine RJ_gy (GY_yes rfl rfl rfl hg1B) (OJ_V (V_load rfl foc0 rfl Try.isAgg52) rfl ?_)
    refine RJ_gy (GY_yes rfl rfl rfl hg1B) (OJ_V (V_len rfl foc1 (Reads.sl _ _ _) Try.runUnderlying52) rfl ?_)
    refine RJ_gy (GY_yes rfl rfl rfl hg1B) (OJ_P (P_geq rfl rfl) rfl ?_)
    refine RJ_op rfl (OJ_P (P_pickF rfl hg1B rfl) rfl ?_)
    refine RJ_nil ?_
    refine QJ_then ?_
    first | (refine CJ_condD rfl (fun hg2 => ?_) (fun hg2 => ?_)) | (refine CJ_condN rfl (fun hg2 => ?_) (fun hg2 => ?_)) | (refine CJ_cond rfl (fun hg2 => ?_) (fun hg2 => ?_))
    ·
      refine CJ_seq ?_
      refine CJ_region ?_
      refine RJ_op rfl (OJ_P (P_assign rfl) rfl ?_)
      refine RJ_nil ?_
      refine QJ_then ?_
      refine CJ_ret ?_
      refine QJ_then_ret ?_
      refine QJ_end (res1 Try.results43 rfl) ?_
      refine CSpec.close () ?_ ?_ (Ent.trans (Ent.trans (Ent.take del0 (Ent.take del0 (Ent.take del0 (Ent.take del0 (Ent.take del0 Ent.refl))))) (Arr_close hl hm hw)) (Ent.take del0 Ent.refl))
      · first | (have hR : inR s d := ⟨by omega, by omega⟩; exact iv (if_pos hR).symm) | exact iv (if_neg (fun h : inR s d => by unfold inR at h; omega)).symm
      · trivial
    ·
      refine CJ_skip ?_
      refine QJ_then ?_
      refine CJ_seq ?_
      refine CJ_ent (Ent.trans (Ent.take del2 Ent.refl) (DOwn_open d.toNat hl (by omega))) ?_
      refine CJ_region ?_
      refine RJ_op rfl (OJ_P (P_move rfl) rfl ?_)
      refine RJ_op rfl (OJ_P (P_nilCheck rfl) rfl ?_)
      refine RJ_op rfl (OJ_P (P_fieldAddr rfl ⟨_, _, _, Try.runUnderlying55, rfl, rfl, Try.sizeOf52, rfl⟩) rfl ?_)
      refine RJ_op rfl (OJ_V (V_load rfl foc3 rfl Try.isAgg52) rfl ?_)
      refine RJ_op rfl (OJ_P (P_move rfl) rfl ?_)
      refine RJ_op rfl (OJ_V (V_index rfl rfl (Int.toNat_of_nonneg (by omega)).symm (by omega) foc4 (Reads.sl _ _ _) Try.runUnderlying52 Try.sizeOf58) rfl ?_)
      refine RJ_op rfl (OJ_P (P_fieldE rfl ⟨_, _, _, Try.runUnderlying58, rfl, rfl, Try.sizeOf56, rfl⟩) rfl ?_)
      refine RJ_op rfl (OJ_V (V_loadE rfl rfl (by omega) foc4 (Reads.sl _ _ _) rfl rfl Try.isAgg56) rfl ?_)
      refine RJ_op rfl (OJ_V (V_len rfl foc0 (Reads.sl _ _ _) Try.runUnderlying56) rfl ?_)
      refine RJ_op rfl (OJ_P (P_assign rfl) rfl ?_)
      refine RJ_nil ?_
      refine QJ_then ?_
      refine CJ_ret ?_
      refine QJ_end (res1 Try.results43 rfl) ?_
      refine CSpec.close () ?_ ?_ (Ent.trans (Ent.trans (Ent.take del0 (Ent.take del0 (Ent.take del0 Ent.refl))) (DOwn_back hl (by omega))) (Ent.trans (Ent.trans (Ent.take del1 (Ent.take del1 (Ent.take del0 (Ent.take del0 (Ent.take del0 Ent.refl))))) (Arr_close hl hm hw)) (Ent.take del0 Ent.refl)))
      · first | (have hR : inR s d := ⟨by omega, by omega⟩; exact iv (if_pos hR).symm) | exact iv (if_neg (fun h : inR s d => by unfold inR at h; omega)).symm
      · trivial

theorem c_placed {W : World} {b : Nat} {s : ArrS} {d a : Int} :
    CSpec Try.prog W 18 [ptr b 0, .agg #[.int .i64 d, .int .i64 a]] [Arr b s] (fun _ : Unit => .int .i64 (cPla s d a)) (fun _ => True) (fun _ F => Arr b s :: F) := by
  refine CSpec.of_body Try.func18 rfl Try.ntmps18 rfl (fun F => ?_)
  show CJ _ _ _ _ _ _ (_ :: F)
  refine CJ_seq ?_
  refine CJ_region ?_
  refine RJ_op rfl (O_box rfl rfl rfl (fun b1 => ?_))
  refine RJ_op rfl (OJ_P (P_assign rfl) rfl ?_)
  refine RJ_nil ?_
  refine QJ_then ?_
  refine CJ_seq ?_
  refine AJ_startH 4096 (by kernel_rfl) rfl ?_
  refine AJ_takeP 0 1 rfl (by kernel_rfl) rfl (GY_none rfl) (P_fieldAddr rfl ⟨_, _, _, Try.runUnderlying60, rfl, rfl, Try.sizeOf3, rfl⟩) rfl (fun _ _ _ _ h => h) ?_
  refine AJ_takeV 1 3 rfl (by kernel_rfl) rfl (by kernel_rfl) (by kernel_rfl) (GY_none rfl) (Ent.take del0 (Ent.take del0 Ent.refl)) (V_load rfl foc0 rfl Try.isAgg3) rfl (fun _ _ _ _ h => h) ?_
  refine AJ_takeP 2 7 rfl (by kernel_rfl) rfl (GY_none rfl) (P_lss rfl rfl) rfl (fun _ _ _ _ h => h) ?_
  refine AJ_takeP 3 15 rfl (by kernel_rfl) rfl (GY_none rfl) (P_move rfl) rfl (fun _ _ _ _ h => h) ?_
  first | (refine AJ_splitD 8 rfl (fun hg1B hg1 => ?_) (fun hg1B hg1 => ?_)) | (refine AJ_splitN 8 rfl (fun hg1B hg1 => ?_) (fun hg1B hg1 => ?_)) | (refine AJ_split 8 rfl (fun hg1B => ?_) (fun hg1B => ?_))
  ·
    refine AJ_skip 4 31 rfl (by kernel_rfl) rfl (GY_no rfl rfl rfl hg1B) rfl (fun _ _ _ _ h => h) ?_
    refine AJ_skip 5 63 rfl (by kernel_rfl) rfl (GY_no rfl rfl rfl hg1B) rfl (fun _ _ _ _ h => h) ?_
    refine AJ_skip 6 127 rfl (by kernel_rfl) rfl (GY_no rfl rfl rfl hg1B) rfl (fun _ _ _ _ h => h) ?_
    refine AJ_skip 7 255 rfl (by kernel_rfl) rfl (GY_no rfl rfl rfl hg1B) rfl (fun _ _ _ _ h => h) ?_
    refine AJ_skip 8 511 rfl (by kernel_rfl) rfl (GY_no rfl rfl rfl hg1B) rfl (fun _ _ _ _ h => h) ?_
    refine AJ_skip 9 1023 rfl (by kernel_rfl) rfl (GY_no rfl rfl rfl hg1B) rfl (fun _ _ _ _ h => h) ?_
    refine AJ_skip 10 2047 rfl (by kernel_rfl) rfl (GY_no rfl rfl rfl hg1B) rfl (fun _ _ _ _ h => h) ?_
    refine AJ_takeP 11 4095 rfl (by kernel_rfl) rfl (GY_none rfl) (P_pickT rfl hg1B rfl) rfl (fun _ _ _ _ h => h) ?_
    refine AJ_op 12 8191 rfl (by kernel_rfl) rfl (GY_none rfl) (O_call (c_fault) rfl Try.call45 Dels.nil rfl (fun _ hc2 => ?_))
    refine ⟨fun h => absurd h (by decide), ?_⟩
    refine AJ_takeP 13 16383 rfl (by kernel_rfl) rfl (GY_none rfl) (P_assign rfl) rfl (fun _ _ _ _ h => h) ?_
    refine AJ_done (by kernel_rfl) ?_
    refine QJ_then ?_
    refine CJ_ret ?_
    refine QJ_end (res1 Try.results18 rfl) ?_
    refine CSpec.close () ?_ ?_ (Ent.take del1 (Ent.drop Ent.refl))
    · refine iv ?_; unfold cPla; split <;> simp_all <;> omega
    · trivial
  ·
    refine AJ_takeP 4 31 rfl (by kernel_rfl) rfl (GY_yes rfl rfl rfl hg1B) (P_fieldAddr rfl ⟨_, _, _, Try.runUnderlying60, rfl, rfl, Try.sizeOf3, rfl⟩) rfl (fun _ _ _ _ h => h) ?_
    refine AJ_takeV 5 63 rfl (by kernel_rfl) rfl (by kernel_rfl) (by kernel_rfl) (GY_yes rfl rfl rfl hg1B) (Ent.take del0 (Ent.take del0 Ent.refl)) (V_load rfl foc0 rfl Try.isAgg3) rfl (fun _ _ _ _ h => h) ?_
    refine AJ_takeP 6 127 rfl (by kernel_rfl) rfl (GY_yes rfl rfl rfl hg1B) (P_move rfl) rfl (fun _ _ _ _ h => h) ?_
    refine AJ_takeP 7 255 rfl (by kernel_rfl) rfl (GY_yes rfl rfl rfl hg1B) (P_fieldAddr rfl ⟨_, _, _, Try.runUnderlying60, rfl, rfl, Try.sizeOf3, rfl⟩) rfl (fun _ _ _ _ h => h) ?_
    refine AJ_takeV 8 511 rfl (by kernel_rfl) rfl (by kernel_rfl) (by kernel_rfl) (GY_yes rfl rfl rfl hg1B) (Ent.take del0 (Ent.take del0 Ent.refl)) (V_load rfl foc0 rfl Try.isAgg3) rfl (fun _ _ _ _ h => h) ?_
    refine AJ_op 9 1023 rfl (by kernel_rfl) rfl (GY_yes rfl rfl rfl hg1B) (O_call (c_SizeD) rfl Try.call43 (Dels.cons del1 Dels.nil) rfl (fun _ hc3 => ?_))
    refine ⟨fun _ => (Ent.take del1 (Ent.take del0 Ent.refl)), ?_⟩
    refine AJ_takeP 10 2047 rfl (by kernel_rfl) rfl (GY_yes rfl rfl rfl hg1B) (P_geq rfl rfl) rfl (fun _ _ _ _ h => h) ?_
    refine AJ_takeP 11 4095 rfl (by kernel_rfl) rfl (GY_none rfl) (P_pickF rfl hg1B rfl) rfl (fun _ _ _ _ h => h) ?_
    refine AJ_op 12 8191 rfl (by kernel_rfl) rfl (GY_none rfl) (O_call (c_fault) rfl Try.call45 Dels.nil rfl (fun _ hc4 => ?_))
    refine ⟨fun h => absurd h (by decide), ?_⟩
    refine AJ_takeP 13 16383 rfl (by kernel_rfl) rfl (GY_none rfl) (P_assign rfl) rfl (fun _ _ _ _ h => h) ?_
    refine AJ_done (by kernel_rfl) ?_
    refine QJ_then ?_
    refine CJ_ret ?_
    refine QJ_end (res1 Try.results18 rfl) ?_
    refine CSpec.close () ?_ ?_ (Ent.take del0 (Ent.drop Ent.refl))
    · refine iv ?_; unfold cPla; split <;> simp_all <;> omega
    · trivial

theorem c_present {W : World} {b : Nat} {s : ArrS} {d a : Int} (hR : inR s d) :
    CSpec Try.prog W 19 [ptr b 0, .agg #[.int .i64 d, .int .i64 a]] [Arr b s] (fun _ : Unit => .int .i64 (cPre s d)) (fun _ => True) (fun _ F => Arr b s :: F) := by
  obtain ⟨hR1, hR2⟩ := id hR
  refine CSpec.of_body Try.func19 rfl Try.ntmps19 rfl (fun F => ?_)
  show CJ _ _ _ _ _ _ (_ :: F)
  refine CJ_entX (Ent.transX (Ent.take del0 Ent.refl) Arr_open) (fun ⟨dv, lv, mr, l⟩ => ?_)
  refine CJ_pur (fun hX => ?_)
  obtain ⟨hl, hm, hw⟩ : l.map Prod.snd = (s).drv ∧ (∀ p ∈ l, p.1.miss = p.2.miss) ∧ ArrWF (s) := hX
  show CJ _ _ _ _ _ _ (blk b 55 [Sl3.v dv, .map (some mr), Sl3.v lv, _, _, _] :: sl tyDrv (Sl3.v dv) (DL.hs l) :: DOwn l :: sl tyRec (Sl3.v lv) _ :: mpc mBad mr _ :: _)
  have hn := hs_len hl
  have hwF := hw.fuse
  have hwL := hw.len
  have hwC := hw.cnt
  refine CJ_seq ?_
  refine CJ_region ?_
  refine RJ_op rfl (O_box rfl rfl rfl (fun b1 => ?_))
  refine RJ_op rfl (OJ_P (P_assign rfl) rfl ?_)
  refine RJ_nil ?_
  refine QJ_then ?_
  refine CJ_seq ?_
  refine AJ_startH 512 (by kernel_rfl) rfl ?_
  refine AJ_takeP 0 1 rfl (by kernel_rfl) rfl (GY_none rfl) (P_move rfl) rfl (fun _ _ _ _ h => h) ?_
  refine AJ_takeP 1 3 rfl (by kernel_rfl) rfl (GY_none rfl) (P_nilCheck rfl) rfl (fun _ _ _ _ h => h) ?_
  refine AJ_takeP 2 7 rfl (by kernel_rfl) rfl (GY_none rfl) (P_fieldAddr rfl ⟨_, _, _, Try.runUnderlying55, rfl, rfl, Try.sizeOf52, rfl⟩) rfl (fun _ _ _ _ h => h) ?_
  refine AJ_takeV 3 15 rfl (by kernel_rfl) rfl (by kernel_rfl) (by kernel_rfl) (GY_none rfl) (Ent.take del0 (Ent.take del0 (Ent.take del0 (Ent.take del0 (Ent.take del0 (Ent.take del0 Ent.refl)))))) (V_load rfl foc1 rfl Try.isAgg52) rfl (fun _ _ _ _ h => h) ?_
  refine AJ_takeP 4 31 rfl (by kernel_rfl) rfl (GY_none rfl) (P_fieldAddr rfl ⟨_, _, _, Try.runUnderlying60, rfl, rfl, Try.sizeOf3, rfl⟩) rfl (fun _ _ _ _ h => h) ?_
  refine AJ_takeV 5 63 rfl (by kernel_rfl) rfl (by kernel_rfl) (by kernel_rfl) (GY_none rfl) (Ent.take del0 (Ent.take del0 (Ent.take del0 (Ent.take del0 (Ent.take del0 (Ent.take del0 Ent.refl)))))) (V_load rfl foc0 rfl Try.isAgg3) rfl (fun _ _ _ _ h => h) ?_
  first | (refine AJ_takeV 6 127 rfl (by kernel_rfl) rfl (by kernel_rfl) (by kernel_rfl) (GY_none rfl) (Ent.take del0 (Ent.take del0 (Ent.take del0 (Ent.take del0 (Ent.take del0 (Ent.take del0 Ent.refl)))))) (V_index rfl rfl rfl (by omega) foc2 (Reads.sl _ _ _) Try.runUnderlying52 Try.sizeOf58) rfl (fun _ _ _ _ h => h) ?_) | (refine AJ_takeV 6 127 rfl (by kernel_rfl) rfl (by kernel_rfl) (by kernel_rfl) (GY_none rfl) (Ent.take del0 (Ent.take del0 (Ent.take del0 (Ent.take del0 (Ent.take del0 (Ent.take del0 Ent.refl)))))) (V_index rfl rfl (Int.toNat_of_nonneg (by omega)).symm (by omega) foc2 (Reads.sl _ _ _) Try.runUnderlying52 Try.sizeOf58) rfl (fun _ _ _ _ h => h) ?_)
  refine AJ_takeP 7 255 rfl (by kernel_rfl) rfl (GY_none rfl) (P_fieldE rfl ⟨_, _, _, Try.runUnderlying58, rfl, rfl, Try.sizeOf4, rfl⟩) rfl (fun _ _ _ _ h => h) ?_
  refine AJ_takeV 8 511 rfl (by kernel_rfl) rfl (by kernel_rfl) (by kernel_rfl) (GY_none rfl) (Ent.take del0 (Ent.take del0 (Ent.take del0 (Ent.take del0 (Ent.take del0 (Ent.take del0 Ent.refl)))))) (V_loadE rfl rfl (by omega) foc2 (Reads.sl _ _ _) rfl rfl Try.isAgg4) rfl (fun _ _ _ _ h => h) ?_
  refine AJ_op 9 1023 rfl (by kernel_rfl) rfl (GY_none rfl) (O_call (c_fault) rfl Try.call45 Dels.nil rfl (fun _ hc2 => ?_))
  refine ⟨fun h => absurd h (by decide), ?_⟩
  refine AJ_takeP 10 2047 rfl (by kernel_rfl) rfl (GY_none rfl) (P_assign rfl) rfl (fun _ _ _ _ h => h) ?_
  refine AJ_done (by kernel_rfl) ?_
  refine QJ_then ?_
  refine CJ_ret ?_
  refine QJ_end (res1 Try.results19 rfl) ?_
  refine CSpec.close () ?_ ?_ (Ent.trans (Ent.trans (Ent.take del1 (Ent.take del1 (Ent.take del1 (Ent.take del1 (Ent.take del1 Ent.refl))))) (Arr_close hl hm hw)) (Ent.take del0 (Ent.drop Ent.refl)))
  · have h1 := hR.1; have h2 := hR.2; rw [show cPre s d = if ((DL.hs l).getD d.toNat dH0).miss = true then 6 else 0 by rw [miss_at hl hm (by omega)]; rfl]
  · trivial

theorem c_whole {W : World} {b : Nat} {s : ArrS} {d a : Int} :
    CSpec Try.prog W 20 [ptr b 0, .agg #[.int .i64 d, .int .i64 a]] [Arr b s] (fun _ : Unit => .int .i64 (cWho s d a)) (fun _ => True) (fun _ F => Arr b s :: F) := by
  refine CSpec.of_body Try.func20 rfl Try.ntmps20 rfl (fun F => ?_)
  show CJ _ _ _ _ _ _ (_ :: F)
  refine CJ_entX (Ent.transX (Ent.take del0 Ent.refl) Arr_open) (fun ⟨dv, lv, mr, l⟩ => ?_)
  refine CJ_pur (fun hX => ?_)
  obtain ⟨hl, hm, hw⟩ : l.map Prod.snd = (s).drv ∧ (∀ p ∈ l, p.1.miss = p.2.miss) ∧ ArrWF (s) := hX
  show CJ _ _ _ _ _ _ (blk b 55 [Sl3.v dv, .map (some mr), Sl3.v lv, _, _, _] :: sl tyDrv (Sl3.v dv) (DL.hs l) :: DOwn l :: sl tyRec (Sl3.v lv) _ :: mpc mBad mr _ :: _)
  have hn := hs_len hl
  have hwF := hw.fuse
  have hwL := hw.len
  have hwC := hw.cnt
  refine CJ_seq ?_
  refine CJ_region ?_
  refine RJ_op rfl (O_box rfl rfl rfl (fun b1 => ?_))
  refine RJ_op rfl (OJ_P (P_assign rfl) rfl ?_)
  refine RJ_nil ?_
  refine QJ_then ?_
  refine CJ_seq ?_
  refine AJ_startH 64 (by kernel_rfl) rfl ?_
  refine AJ_takeP 0 1 rfl (by kernel_rfl) rfl (GY_none rfl) (P_move rfl) rfl (fun _ _ _ _ h => h) ?_
  refine AJ_takeP 1 3 rfl (by kernel_rfl) rfl (GY_none rfl) (P_nilCheck rfl) rfl (fun _ _ _ _ h => h) ?_
  refine AJ_takeP 2 7 rfl (by kernel_rfl) rfl (GY_none rfl) (P_fieldAddr rfl ⟨_, _, _, Try.runUnderlying55, rfl, rfl, Try.sizeOf51, rfl⟩) rfl (fun _ _ _ _ h => h) ?_
  refine AJ_takeV 3 15 rfl (by kernel_rfl) rfl (by kernel_rfl) (by kernel_rfl) (GY_none rfl) (Ent.take del0 (Ent.take del0 (Ent.take del0 (Ent.take del0 (Ent.take del0 (Ent.take del0 Ent.refl)))))) (V_load rfl foc1 rfl Try.isAgg51) rfl (fun _ _ _ _ h => h) ?_
  refine AJ_takeV 4 31 rfl (by kernel_rfl) rfl (by kernel_rfl) (by kernel_rfl) (GY_none rfl) (Ent.take del0 (Ent.take del0 (Ent.take del0 (Ent.take del0 (Ent.take del0 (Ent.take del0 Ent.refl)))))) (V_loadN rfl foc0 Try.isAgg60 Try.sizeOf60 rfl rfl) rfl (fun _ _ _ _ h => h) ?_
  refine AJ_takeV 5 63 rfl (by kernel_rfl) rfl (by kernel_rfl) (by kernel_rfl) (GY_none rfl) (Ent.take del0 (Ent.take del0 (Ent.take del0 (Ent.take del0 (Ent.take del0 (Ent.take del0 Ent.refl)))))) (V_lookup (M := mBad) (k := (d, a)) (out := fun o => .bool o.isSome) rfl rfl foc5 ok_mBad Try.zeroValue4 (fun _ => rfl) rfl) rfl (fun _ _ _ _ h => h) ?_
  refine AJ_op 6 127 rfl (by kernel_rfl) rfl (GY_none rfl) (O_call (c_fault) rfl Try.call45 Dels.nil rfl (fun _ hc2 => ?_))
  refine ⟨fun h => absurd h (by decide), ?_⟩
  refine AJ_takeP 7 255 rfl (by kernel_rfl) rfl (GY_none rfl) (P_assign rfl) rfl (fun _ _ _ _ h => h) ?_
  refine AJ_done (by kernel_rfl) ?_
  refine QJ_then ?_
  refine CJ_ret ?_
  refine QJ_end (res1 Try.results20 rfl) ?_
  refine CSpec.close () ?_ ?_ (Ent.trans (Ent.trans (Ent.take del1 (Ent.take del1 (Ent.take del1 (Ent.take del1 (Ent.take del1 Ent.refl))))) (Arr_close hl hm hw)) (Ent.take del0 (Ent.drop Ent.refl)))
  · rfl
  · trivial

theorem c_check {W : World} {A S : HP} {v : Value} {d a : Int} (fs : List (Nat × Value)) (cs : List Int) (hA : Reads S tyFn v fs) (hlen : cs.length = fs.length) (h5 : fs.length ≤ 5)
    (hc : ∀ k, k < fs.length → (∀ j, j < k → cs.getD j 0 = 0) → Enters Try.prog (fs.getD k tyFn.dflt).1 ∧ CSpec Try.prog W (fs.getD k tyFn.dflt).1 ([(fs.getD k tyFn.dflt).2] ++ [.agg #[.int .i64 d, .int .i64 a]] ++ []) [A] (fun _ : Unit => .int .i64 (cs.getD k 0)) (fun _ => True) (fun _ F => A :: F)) :
    CSpec Try.prog W 15 [.agg #[.int .i64 d, .int .i64 a], v] [S, A] (fun _ : Unit => .int .i64 (fz cs)) (fun _ => True) (fun _ F => S :: A :: F) := by
  refine CSpec.of_body Try.func15 rfl Try.ntmps15 rfl (fun F => ?_)
  show CJ _ _ _ _ _ _ (_ :: _ :: F)
  refine CJ_seq ?_
  refine CJ_region ?_
  refine RJ_op rfl (O_box rfl rfl rfl (fun b1 => ?_))
  refine RJ_op rfl (OJ_P (P_assign rfl) rfl ?_)
  refine RJ_nil ?_
  refine QJ_then ?_
  refine CJ_seq ?_
  refine CJ_seq ?_
  refine CJ_region ?_
  refine RJ_op rfl (OJ_P (P_move rfl) rfl ?_)
  refine RJ_op rfl (OJ_V (V_len rfl foc1 hA Try.runUnderlying87) rfl ?_)
  refine RJ_op rfl (OJ_P (P_move rfl) rfl ?_)
  refine RJ_nil ?_
  refine QJ_then ?_
  refine CJ_block ?_
  refine CJ_loopR (X := Nat) [4, 6, 7, 10, 11, 12, 13, 14, 15, 16, 17, 18, 19, 20] (fun k  => ([(10, .int .i64 (k : Nat))] : Slots)) (fun k R => R) (fun k  => k ≤ fs.length ∧ ∀ j, j < k → cs.getD j 0 = 0) (fun k  => fs.length - k) (0) ?_ ?_ (Ent.take del0 (Ent.take del0 (Ent.take del0 Ent.refl))) ?_
  · exact ⟨Nat.zero_le _, fun j hj => by omega⟩
  · exact ⟨rfl, True.intro⟩
  ·
    intro k hpf
    obtain ⟨hk, hz⟩ := hpf
    show CJ _ _ _ _ _ (([(10, .int .i64 (k : Nat))] : Slots) ++ forget _ _) (_)
    refine CJ_seq ?_
    refine CJ_region ?_
    refine RJ_op rfl (OJ_P (P_lss rfl rfl) rfl ?_)
    refine RJ_nil ?_
    refine QJ_then ?_
    refine CJ_seq ?_
    first | (refine CJ_condD rfl (fun hg1 => ?_) (fun hg1 => ?_)) | (refine CJ_condN rfl (fun hg1 => ?_) (fun hg1 => ?_)) | (refine CJ_cond rfl (fun hg1 => ?_) (fun hg1 => ?_))
    ·
      refine CJ_skip ?_
      refine QJ_then ?_
      refine CJ_seq ?_
      refine CJ_block ?_
      refine CJ_seq ?_
      refine CJ_region ?_
      first | (refine RJ_op rfl (OJ_V (V_index rfl rfl rfl (by omega) foc1 hA Try.runUnderlying87 Try.sizeOf62) rfl ?_)) | (refine RJ_op rfl (OJ_V (V_index rfl rfl (Int.toNat_of_nonneg (by omega)).symm (by omega) foc1 hA Try.runUnderlying87 Try.sizeOf62) rfl ?_))
      refine RJ_op rfl (OJ_V (V_loadE rfl rfl (by omega) foc1 hA rfl rfl Try.isAgg62) rfl ?_)
      refine RJ_op rfl (OJ_P (P_assign rfl) rfl ?_)
      refine RJ_nil ?_
      refine QJ_then ?_
      refine CJ_seq ?_
      refine CJ_region ?_
      refine RJ_op rfl (OJ_P (P_move rfl) rfl ?_)
      refine RJ_op rfl (OJ_V (V_loadN rfl foc0 Try.isAgg60 Try.sizeOf60 rfl rfl) rfl ?_)
      refine RJ_op rfl (O_callV (f := (fs.getD k tyFn.dflt).1) (first := [(fs.getD k tyFn.dflt).2]) (captured := []) rfl rfl (hc k (by omega) hz).2 (hc k (by omega) hz).1 (Dels.cons del2 Dels.nil) rfl (fun _ _ => ?_))
      refine RJ_op rfl (OJ_P (P_assign rfl) rfl ?_)
      refine RJ_nil ?_
      refine QJ_then ?_
      refine CJ_seq ?_
      refine CJ_region ?_
      refine RJ_op rfl (OJ_P (P_move rfl) rfl ?_)
      refine RJ_op rfl (OJ_P (P_neq rfl rfl) rfl ?_)
      refine RJ_nil ?_
      refine QJ_then ?_
      first | (refine CJ_condD rfl (fun hg2 => ?_) (fun hg2 => ?_)) | (refine CJ_condN rfl (fun hg2 => ?_) (fun hg2 => ?_)) | (refine CJ_cond rfl (fun hg2 => ?_) (fun hg2 => ?_))
      ·
        refine CJ_seq ?_
        refine CJ_region ?_
        refine RJ_op rfl (OJ_P (P_move rfl) rfl ?_)
        refine RJ_op rfl (OJ_P (P_assign rfl) rfl ?_)
        refine RJ_nil ?_
        refine QJ_then ?_
        refine CJ_ret ?_
        refine QJ_block_ret ?_
        refine QJ_then_ret ?_
        refine QJ_round_ret ?_
        refine QJ_block_ret ?_
        refine QJ_then_ret ?_
        refine QJ_end (res1 Try.results15 rfl) ?_
        refine CSpec.close () ?_ ?_ (Ent.take del2 (Ent.take del0 (Ent.drop Ent.refl)))
        · exact iv (fz_at cs k (by omega) hz hg2).symm
        · trivial
      ·
        refine CJ_skip ?_
        refine QJ_block_normal ?_
        refine QJ_then ?_
        refine CJ_region ?_
        refine RJ_op rfl (OJ_P (P_add rfl rfl (by omega)) rfl ?_)
        refine RJ_op rfl (OJ_P (P_move rfl) rfl ?_)
        refine RJ_nil ?_
        refine QJ_nextR (k + 1) (by first | omega | (simp only []; omega)) ?_ (by repeat (first | exact Kp.base | exact Kp.self | refine Kp.cons rfl ?_ | refine Kp.forget rfl ?_)) ?_ (Ent.take del1 (Ent.take del1 (Ent.take del0 Ent.refl)))
        ·
          refine ⟨by omega, fun j hj => ?_⟩
          rcases Nat.lt_or_ge j k with h | h
          · exact hz j h
          · obtain rfl : j = k := by omega
            exact Decidable.not_not.1 hg2
        · exact ⟨rfl, True.intro⟩
    ·
      refine CJ_exit ?_
      refine QJ_then_exit ?_
      refine QJ_round_exit ?_
      refine QJ_block_here ?_
      refine QJ_then ?_
      refine CJ_seq ?_
      refine CJ_region ?_
      refine RJ_op rfl (OJ_P (P_assign rfl) rfl ?_)
      refine RJ_nil ?_
      refine QJ_then ?_
      refine CJ_ret ?_
      refine QJ_end (res1 Try.results15 rfl) ?_
      refine CSpec.close () ?_ ?_ (Ent.take del1 (Ent.take del1 (Ent.drop Ent.refl)))
      ·
        obtain rfl : k = fs.length := by omega
        exact iv (fz_all cs (fun j hj => hz j (by omega))).symm
      · trivial

end Go.Proofs
