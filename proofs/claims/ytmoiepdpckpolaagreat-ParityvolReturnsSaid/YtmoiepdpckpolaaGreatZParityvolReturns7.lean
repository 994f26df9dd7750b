/- ParityvolReturns, part 7 of the proof: POwnL, PQv6, PQv7, PSmS, PKeep, LOwn2, PQv8, LBeg19, PQv9, PQr0, PQr1, PLoad, PWords, LOwnQ. -/
import Derived.WalkKit
import Derived.Orders
import Derived.RangeFuncLeaves
import Derived.RangeFuncCalls
import Derived.TacticsIn
import Derived.Handy
import Derived.OrdersHeld
import Derived.OrdersIn
import Derived.Below
import Derived.OpenShut
import Derived.Deep.Slices
import Derived.Scope
import Derived.KernelRfl
import Derived.RangeFuncRecord
import Derived.ChangeKeysEq
import Derived.ProofKit
import Derived.ShutString
import Derived.ChangeOld
import Derived.Test.YtmoiepdpckpolaaGreatChecked
import Derived.Test.YtmoiepdpckpolaaGreatRows
import Derived.Test.YtmoiepdpckpolaaGreatZParityvolReturns6
namespace Go.Proofs
open Go.VG
theorem has_l1 {l : List Int} {k : Int} : ∀ (N i : Nat), l.length - i < N → i ≤ l.length → (∀ j, j < i → l.getD j 0 ≠ k) → volumegroupmake_has_l1 l k N i = some (.inl ()) ∧ k ∉ l ∨ volumegroupmake_has_l1 l k N i = some (.inr true) ∧ k ∈ l
  | 0, _, h, _, _ => absurd h (by omega)
  | N + 1, i, h, hi, hn => by
    have hrec := has_l1 (l := l) (k := k) N (i + 1)
    have hu : volumegroupmake_has_l1 l k (N + 1) i = volumegroupmake_has_l1_b l k (volumegroupmake_has_l1 l k N) i := rfl
    rw [hu]
    unfold volumegroupmake_has_l1_b
    by_cases hlt : i < l.length
    · rw [if_pos (by omega)]
      by_cases he : l.getD i 0 = k
      · rw [if_pos he]
        exact .inr ⟨rfl, by rw [← he]; simp [List.getD, hlt]⟩
      · rw [if_neg he]
        exact hrec (by omega) (by omega) (fun j hj => by
          by_cases e : j = i
          · rw [e]; exact he
          · exact hn j (by omega))
    · rw [if_neg (by omega)]
      refine .inl ⟨rfl, fun hk => ?_⟩
      obtain ⟨j, hj, e⟩ := List.mem_iff_getElem.1 hk
      exact hn j (by omega) (by simp [List.getD, hj, e])
theorem has_eq {l : List Int} {k : Int} (hl : l.length ≤ 1000000) : volumegroupmake_has l k = some (decide (k ∈ l)) := by
  unfold volumegroupmake_has
  have hF := fuel_big
  rcases has_l1 (l := l) (k := k) FUEL 0 (by omega) (by omega) (fun j hj => absurd hj (by omega)) with ⟨h1, h2⟩ | ⟨h1, h2⟩
  · rw [h1, seqO_inl, decide_eq_false h2]
  · rw [h1, seqO_inr, decide_eq_true h2]
end Go.Proofs
namespace Go.Proofs
open Go.VG
def stL : Option Nat → List Int
  | none => []
  | some k => [(k : Int)]
section
variable {C : PC} {V V' : Nat → Nat → UInt64} {st fl z : Option Nat} {q q' : UInt64} {e e' : PE} {k i d f o a : Nat} {mz : Nat → Bool} {F : Prop} {K K' : Nat} {s t u : ArrS}
theorem fuelS2 : ∃ N, FUEL = N + 1 + 1 := ⟨FUEL - 2, by have := fuel_big; omega⟩
theorem pcontains_eq {i : Nat} : slices_Contains_int (stL st) (i : Int) = some (decide (st = some i)) := by
  obtain ⟨N, hN⟩ := fuelS2
  unfold slices_Contains_int slices_Index_int
  rw [hN]
  cases st with
  | none =>
    show Option.bind (seqO (slices_Index_int_l1_b [] (i : Int) _ 0) _) _ = _
    unfold slices_Index_int_l1_b
    rw [if_neg (by simp)]; rfl
  | some k =>
    show Option.bind (seqO (slices_Index_int_l1_b [(k : Int)] (i : Int) _ 0) _) _ = _
    unfold slices_Index_int_l1_b
    rw [if_pos (by simp)]
    by_cases h : i = k
    · subst h
      rw [if_pos (show (i : Int) = [(i : Int)].getD 0 0 from rfl), seqO_inr]
      simp
    · rw [if_neg (show ¬ (i : Int) = [(k : Int)].getD 0 0 from fun y => h (Int.ofNat.inj y))]
      show Option.bind (seqO (slices_Index_int_l1_b [(k : Int)] (i : Int) _ 1) _) _ = _
      unfold slices_Index_int_l1_b
      rw [if_neg (by simp), seqO_inl, decide_eq_false (fun y => h (Option.some.inj y).symm)]; rfl
theorem pcontainsF {legs : List Dvc} (hl : legs.length = C.L) (hst : ∀ j, st = some j → j < C.L) : slices_ContainsFunc_int__parityvol_Open_1 (stL st) legs s = some false := by
  obtain ⟨N, hN⟩ := fuelS2
  unfold slices_ContainsFunc_int__parityvol_Open_1 slices_IndexFunc_int__parityvol_Open_1
  rw [hN]
  cases st with
  | none =>
    show Option.bind (seqO (slices_IndexFunc_int__parityvol_Open_1_l1_b [] legs s _ 0) _) _ = _
    unfold slices_IndexFunc_int__parityvol_Open_1_l1_b
    rw [if_neg (by simp)]; rfl
  | some k =>
    have hk := hst k rfl
    show Option.bind (seqO (slices_IndexFunc_int__parityvol_Open_1_l1_b [(k : Int)] legs s _ 0) _) _ = _
    unfold slices_IndexFunc_int__parityvol_Open_1_l1_b parityvol_Open_1
    rw [if_pos (by simp)]; simp only [Option.bind_some]
    rw [if_neg (by rw [hl]; simp [List.getD]; omega)]
    show Option.bind (seqO (slices_IndexFunc_int__parityvol_Open_1_l1_b [(k : Int)] legs s _ 1) _) _ = _
    unfold slices_IndexFunc_int__parityvol_Open_1_l1_b
    rw [if_neg (by simp)]; rfl
theorem pmax_eq {k : Int} : slices_Max_int [k] = some k ∧ slices_Min_int [k] = some k := by
  obtain ⟨N, hN⟩ := fuelS2
  constructor
  · unfold slices_Max_int
    rw [hN, if_neg (by simp)]; simp only [Option.bind_some]
    rw [grd_t (by simp)]
    show Option.bind (slices_Max_int_l2_b [k] _ _ 1) _ = _
    unfold slices_Max_int_l2_b
    rw [if_neg (by simp)]; rfl
  · unfold slices_Min_int
    rw [hN, if_neg (by simp)]; simp only [Option.bind_some]
    rw [grd_t (by simp)]
    show Option.bind (slices_Min_int_l2_b [k] _ _ 1) _ = _
    unfold slices_Min_int_l2_b
    rw [if_neg (by simp)]; rfl
theorem pspans (hok : ArrOk C.ns K s) : volumegroupmake_Spans s = some (spansA s) ∧ (spansA s).length = C.L ∧ ∀ i, i < C.L → (spansA s).getD i dv0 = xL i C.sz := by
  have hL := C.hL
  have hz := @PC.hsz C
  have hcnt : s.drv.length = C.L := by rw [hok.sz.cnt, PC.len]
  have hsize : ∀ i, i < C.L → s.size i = C.sz := fun i hi => by rw [hok.sz.size i (by rw [PC.len]; exact hi), PC.nsz hi]
  exact ⟨spans_eq (by omega) (fun i hi => by rw [hsize i (by omega)]; omega), by rw [spansA_length, hcnt], fun i hi => by rw [spansA_getD (by omega), hsize i hi]; rfl⟩
theorem nlay_l1 {legs : List Dvc} (hl : legs.length = C.L) (hx : ∀ i, i < C.L → legs.getD i dv0 = xL i C.sz) : ∀ (N i : Nat), C.L - i < N → i ≤ C.L → parityvol_newLayout_l1 legs s N i (C.sz : Int) = some (C.sz : Int)
  | 0, _, h, _ => absurd h (by omega)
  | N + 1, i, h, hi => by
    have hu : parityvol_newLayout_l1 legs s (N + 1) i (C.sz : Int) = parityvol_newLayout_l1_b legs s (parityvol_newLayout_l1 legs s N) i (C.sz : Int) := rfl
    rw [hu]
    unfold parityvol_newLayout_l1_b
    rw [hl]
    by_cases hlt : i < C.L
    · rw [if_pos (by omega), hx i hlt, show (xL i C.sz).size s = some (C.sz : Int) from span_size]; simp only [Option.bind_some]
      rw [show min (C.sz : Int) (C.sz : Int) = (C.sz : Int) by omega]
      exact nlay_l1 hl hx N (i + 1) (by omega) (by omega)
    · rw [if_neg (by omega)]
theorem nlay_eq {legs : List Dvc} (hl : legs.length = C.L) (hx : ∀ i, i < C.L → legs.getD i dv0 = xL i C.sz) : parityvol_newLayout legs (C.c : Int) s = some ((⟨(C.L : Int), (C.c : Int), (C.R : Int)⟩ : parityvol_layout), 0) := by
  have hF := fuel_big
  have hL := C.hL
  have hc := C.hc
  have hO := @PC.hO C
  have hR := C.hR
  have hsz : C.sz = 16 + C.O := rfl
  have hcO : C.c ≤ C.O := by unfold PC.O; exact Nat.le_mul_of_pos_left _ (by omega)
  unfold parityvol_newLayout
  rw [hl, if_neg (by omega), hx 0 (by omega), show (xL 0 C.sz).size s = some (C.sz : Int) from span_size]; simp only [Option.bind_some]
  rw [nlay_l1 hl hx FUEL 0 (by omega) (by omega)]; simp only [Option.bind_some]
  have e1 : (C.sz : Int) - 16 = (C.O : Int) := by omega
  have e2 : C.O / C.c = C.R := by unfold PC.O; exact Nat.mul_div_cancel _ (by omega)
  rw [if_neg (by omega), e1, grd_t (inI64_of (by omega)), tdivN, e2, wrapN (by omega)]
def opnB (legs : List Dvc) (stale : List Int) (rec : VolS → Nat → Option (VolS)) (x24 : VolS) (x25 : Nat) : Option (VolS) :=
  if (((x25 : Nat) : Int) < ((legs.length : Nat) : Int)) then
    Option.bind (slices_Contains_int stale (((x25 : Nat) : Int))) fun r31 =>
    grd (inLen (x24.legs.length + 1)) <|
    rec ({ x24 with legs := (x24.legs ++ [(⟨(legs.getD x25 dv0), r31, false⟩ : prtS)]) }) (x25 + 1)
  else
    some x24
theorem opn_rule {g : Nat → VolS → Nat → Option VolS} {legs : List Dvc} (hg : ∀ n v i, g (n + 1) v i = opnB legs (stL st) (g n) v i) (hl : legs.length = C.L) (hx : ∀ i, i < C.L → legs.getD i dv0 = xL i C.sz) (v0 : VolS) : ∀ (N i : Nat), C.L - i < N → i ≤ C.L →
    g N { v0 with legs := (List.range i).map (legP C st none) } i = some { v0 with legs := legsP C st none }
  | 0, _, h, _ => absurd h (by omega)
  | N + 1, i, h, hi => by
    have hL := C.hL
    rw [hg]
    unfold opnB
    rw [hl]
    by_cases hlt : i < C.L
    · rw [if_pos (by omega), pcontains_eq]; simp only [Option.bind_some]
      rw [grd_t (inLen_of (by simp; omega)), hx i hlt]
      have hr := opn_rule hg hl hx v0 N (i + 1) (by omega) (by omega)
      rw [List.range_succ, List.map_append] at hr
      exact hr
    · rw [if_neg (by omega)]
      have : i = C.L := by omega
      rw [this]; rfl
theorem pOpen0 (h2 : (spansA s).length = C.L) (h3 : ∀ i, i < C.L → (spansA s).getD i dv0 = xL i C.sz) (hst : ∀ j, st = some j → j < C.L) {m : VolS} {er : Int} {t : ArrS} (hr : parityvol_Volume_replay (vol C st none 0 ⟨0, 0, 0, 0⟩ false 0) s = some (er, m, t)) : parityvol_Open (spansA s) (stL st) (C.c : Int) s = some (if er ≠ 0 then (none, er, t) else (some m, 0, t)) := by
  have hF := fuel_big
  have hL := C.hL
  unfold parityvol_Open
  rw [nlay_eq h2 h3]; simp only [Option.bind_some]
  rw [if_neg (by simp), pcontainsF h2 hst]; simp only [Option.bind_some]
  rw [if_neg (by simp)]
  have hv : ({ (⟨(C.L : Int), (C.c : Int), (C.R : Int), ([] : List prtS), (0 : UInt64), (0 : Int), (0 : Int), (0 : UInt64), (0 : UInt64), false, (0 : Int)⟩ : VolS) with legs := legsP C st none } : VolS) = vol C st none 0 ⟨0, 0, 0, 0⟩ false 0 := rfl
  cases hs : st with
  | none =>
    rw [hs] at hr hv
    rw [if_neg (by simp [stL])]
    have ho := opn_rule (C := C) (st := none) (g := parityvol_Open_l2 (spansA s) (stL none)) (fun _ _ _ => rfl) h2 h3 ⟨(C.L : Int), (C.c : Int), (C.R : Int), ([] : List prtS), (0 : UInt64), (0 : Int), (0 : Int), (0 : UInt64), (0 : UInt64), false, (0 : Int)⟩ FUEL 0 (by omega) (by omega)
    rw [hv] at ho
    rw [show parityvol_Open_l2 (spansA s) (stL none) FUEL ⟨(C.L : Int), (C.c : Int), (C.R : Int), ([] : List prtS), (0 : UInt64), (0 : Int), (0 : Int), (0 : UInt64), (0 : UInt64), false, (0 : Int)⟩ 0 = some (vol C none none 0 ⟨0, 0, 0, 0⟩ false 0) from ho]; simp only [Option.bind_some]
    rw [hr]; simp only [Option.bind_some]
    by_cases h0 : er = 0
    · rw [if_neg (fun y => y h0), if_neg (fun y => y h0)]
    · rw [if_pos h0, if_pos h0]
  | some k =>
    rw [hs] at hr hv
    rw [if_pos (by simp [stL]), show stL (some k) = [(k : Int)] from rfl, pmax_eq.1]; simp only [Option.bind_some]
    rw [pmax_eq.2]; simp only [Option.bind_some]
    rw [if_neg (fun y => y rfl)]
    have ho := opn_rule (C := C) (st := some k) (g := parityvol_Open_l1 (spansA s) (stL (some k))) (fun _ _ _ => rfl) h2 h3 ⟨(C.L : Int), (C.c : Int), (C.R : Int), ([] : List prtS), (0 : UInt64), (0 : Int), (0 : Int), (0 : UInt64), (0 : UInt64), false, (0 : Int)⟩ FUEL 0 (by omega) (by omega)
    rw [hv] at ho
    rw [show parityvol_Open_l1 (spansA s) [(k : Int)] FUEL ⟨(C.L : Int), (C.c : Int), (C.R : Int), ([] : List prtS), (0 : UInt64), (0 : Int), (0 : Int), (0 : UInt64), (0 : UInt64), false, (0 : Int)⟩ 0 = some (vol C (some k) none 0 ⟨0, 0, 0, 0⟩ false 0) from ho]; simp only [Option.bind_some]
    rw [hr]; simp only [Option.bind_some]
    by_cases h0 : er = 0
    · rw [if_neg (fun y => y h0), if_neg (fun y => y h0)]
    · rw [if_pos h0, if_pos h0]
theorem pOpen_eq (he : PEn C mz False K s) (hK : K ≤ 500000) (hst : ∀ j, st = some j → j < C.L) (hrc : Rc C st V q e s) (hj : JW C V q e) :
    (∃ e1 t, parityvol_Open (spansA s) (stL st) (C.c : Int) s = some (some (vol C st none q e1 false 0), 0, t) ∧ PEn C mz False (K + 18) t ∧ Qs C st V q e1 t ∧ JW C V q e1) ∨
    (∃ j, j < C.L ∧ mz j = true ∧ st ≠ some j ∧ parityvol_Open (spansA s) (stL st) (C.c : Int) s = some (none, 18, s)) := by
  obtain ⟨-, h2, h3⟩ := pspans he.ok
  rcases replay_eq he hK hrc hj with ⟨e1, t, g1, g2, g3, g4⟩ | ⟨j, m, j1, j2, j3, g1⟩
  · refine .inl ⟨e1, t, ?_, g2, g3, g4⟩
    rw [pOpen0 h2 h3 hst g1, if_neg (fun y => y rfl)]
  · refine .inr ⟨j, j1, j2, j3, ?_⟩
    rw [pOpen0 h2 h3 hst g1, if_pos (by decide)]
theorem popen_eq (he : PEn C mz False K s) (hK : K ≤ 500000) (hst : ∀ j, st = some j → j < C.L) (hrc : Rc C st V q e s) (hj : JW C V q e) :
    (∃ e1 t, volumegrouplaw19_open_1 (stL st) s (C.c : Int) = some (some (vol C st none q e1 false 0), 0, t) ∧ PEn C mz False (K + 18) t ∧ Qs C st V q e1 t ∧ JW C V q e1) ∨
    (∃ j, j < C.L ∧ mz j = true ∧ st ≠ some j ∧ volumegrouplaw19_open_1 (stL st) s (C.c : Int) = some (none, 18, s)) := by
  have hF := fuel_big
  have hL := C.hL
  obtain ⟨h1, h2, h3⟩ := pspans he.ok
  unfold volumegrouplaw19_open_1
  rw [h1]; simp only [Option.bind_some]
  have key : ∀ {x : Option VolS × Int × ArrS}, parityvol_Open (spansA s) (stL st) (C.c : Int) s = some x → (Option.bind (parityvol_Open (spansA s) (stL st) (C.c : Int) s) fun r8 => Option.elim r8.1 (if (r8.2.1 = (0 : Int)) then some ((none, (20 : Int), r8.2.2)) else some (none, r8.2.1, r8.2.2)) fun o13 => some (((some o13), r8.2.1, r8.2.2))) = Option.elim x.1 (if (x.2.1 = (0 : Int)) then some ((none, (20 : Int), x.2.2)) else some (none, x.2.1, x.2.2)) fun o13 => some (((some o13), x.2.1, x.2.2)) := fun hx => by rw [hx]; rfl
  rcases pOpen_eq he hK hst hrc hj with ⟨e1, t, g1, g2, g3, g4⟩ | ⟨j, j1, j2, j3, g1⟩
  · rw [key g1]
    exact .inl ⟨e1, t, rfl, g2, g3, g4⟩
  · rw [key g1]
    exact .inr ⟨j, j1, j2, j3, by simp⟩
structure OwI (C : PC) (st z : Option Nat) (mz : Nat → Bool) (o : OwnS) : Prop where
  o1 : o.Open_1 = (C.c : Int)
  stl : o.Stale = stL st
  lost : o.Lost = stL z
  mzz : ∀ i, mz i = true → z = some i
  sz : st = none ∨ st = z
  zl : ∀ j, z = some j → j < C.L
theorem OwI.stl' {x : OwnS} (h : OwI C st z mz x) : ∀ j, st = some j → j < C.L := fun j hj => h.zl j (by rcases h.sz with y | y; rw [y] at hj; cases hj; rw [← y]; exact hj)
theorem OwI.one {x : OwnS} (h : OwI C st z mz x) : ∀ i j, mz i = true → mz j = true → i = j := fun i j hi hj => by
  have a := h.mzz i hi
  rw [h.mzz j hj] at a
  exact (Option.some.inj a).symm
theorem addL_nil {k : Nat} : volumegroupmake_add [] (k : Int) = some [(k : Int)] := by
  obtain ⟨N, hN⟩ := fuelS2
  unfold volumegroupmake_add
  rw [hN]
  show Option.bind (volumegroupmake_add_l1_b [] _ (k : Int) [] 0) _ = _
  unfold volumegroupmake_add_l1_b
  rw [if_neg (by simp)]; simp only [Option.bind_some]
  rw [if_pos (by omega), grd_t (inLen_of (by simp))]; rfl
theorem begin_eq {o : OwnS} {S : (Nat → Nat → UInt64) → UInt64 → Prop} (he : PEn C mz False K s) (hK : K ≤ 400000) (ho : OwI C st z mz o) (hT : o.T.length = C.D) (hrc : ∀ st', st' = st ∨ st' = z → ∃ V q e, Rc C st' V q e s ∧ JV C V q e ∧ S V q) :
    ∃ st' V q e t, volumegroupmake_Owner_Begin o s = some (true, { o with X := some (vol C st' none q e false 0), Stale := stL st' }, t) ∧ OwI C st' z mz { o with X := some (vol C st' none q e false 0), Stale := stL st' } ∧ PEn C mz False (K + 18) t ∧ JV C V q e ∧ Qs C st' V q e t ∧ S V q ∧ (st' = st ∨ st' = z ∧ ∃ j, z = some j ∧ mz j = true) := by
  have hF := fuel_big
  have hD := @PC.hD C
  obtain ⟨N, hN⟩ : ∃ N, FUEL = N + 1 + 1 + 1 := ⟨FUEL - 3, by omega⟩
  obtain ⟨a1, oX, oT, a4, a5⟩ := o
  have E1 : a1 = (C.c : Int) := ho.o1
  have E2 : a4 = stL st := ho.stl
  have E3 : a5 = stL z := ho.lost
  have hT' : oT.length = C.D := hT
  subst E1 E2 E3
  unfold volumegroupmake_Owner_Begin
  have fin : ∀ {st' : Option Nat} {V : Nat → Nat → UInt64} {q : UInt64} {e : PE} {t : ArrS} {n : Nat} {M : Nat}, (Option.bind (volumegroupmake_Owner_Begin_l1 (M + 1) (⟨(C.c : Int), oX, oT, stL st', stL z⟩ : OwnS) t (some (vol C st' none q e false 0)) 0 n) fun a17 =>
      if (a17.2.1 = (0 : Int)) then
        Option.elim a17.1 (some (false, { a17.2.2.1 with X := none }, a17.2.2.2)) fun o56 =>
        Option.bind (parityvol_Volume_Size o56 a17.2.2.2) fun r57 =>
        some (((decide (r57 = ((a17.2.2.1.T.length : Nat) : Int))), { a17.2.2.1 with X := (some o56) }, a17.2.2.2))
      else
        some (false, { a17.2.2.1 with X := a17.1 }, a17.2.2.2)) = some (true, (⟨(C.c : Int), some (vol C st' none q e false 0), oT, stL st', stL z⟩ : OwnS), t) := by
    intro st' V q e t n M
    show Option.bind (volumegroupmake_Owner_Begin_l1_b _ _ t _ 0 n) _ = _
    unfold volumegroupmake_Owner_Begin_l1_b
    rw [if_neg (fun y => absurd y.2 (by decide))]; simp only [Option.bind_some, Option.elim_some]
    rw [if_pos trivial, psize_eq]; simp only [Option.bind_some]
    rw [hT', decide_eq_true rfl]
  obtain ⟨V, q, e, r1, r2, r3⟩ := hrc st (.inl rfl)
  rcases popen_eq he (by omega) ho.stl' r1 r2.jw with ⟨e1, t, g1, g2, g3, g4⟩ | ⟨j, j1, j2, j3, g1⟩
  · simp only
    rw [g1]; simp only [Option.bind_some]
    rw [hN, fin (V := V)]
    exact ⟨st, V, q, e1, t, rfl, ⟨rfl, rfl, rfl, ho.mzz, ho.sz, ho.zl⟩, g2, ⟨r2.even, g4.ev, g4.sm⟩, g3, r3, .inl rfl⟩
  · have hz := ho.mzz j j2
    have hst : st = none := by
      rcases ho.sz with y | y
      · exact y
      · rw [y] at j3; exact absurd hz j3
    simp only
    rw [g1]; simp only [Option.bind_some]
    rw [hN]
    have e1 : ∀ o, volumegroupmake_Owner_Begin_l1 (N + 1 + 1 + 1) o s none 18 0 = volumegroupmake_Owner_Begin_l1_b (volumegroupmake_Owner_Begin_l1 (N + 1 + 1)) o s none 18 0 := fun _ => rfl
    rw [e1]
    unfold volumegroupmake_Owner_Begin_l1_b
    obtain ⟨V2, q2, e2, s1, s2, s3⟩ := hrc z (.inr rfl)
    subst hst
    subst hz
    simp only
    rw [if_pos ⟨by simp [stL], by first | trivial | rfl⟩, show (stL (some j)).getD 0 0 = (j : Int) from rfl, show stL none = [] from rfl, addL_nil]; simp only [Option.bind_some]
    rcases popen_eq he (by omega) (fun i hi => by cases hi; exact j1) s1 s2.jw with ⟨e3, t, k1, k2, k3, k4⟩ | ⟨i, i1, i2, i3, _⟩
    · rw [show [(j : Int)] = stL (some j) from rfl, k1]; simp only [Option.bind_some]
      rw [fin (V := V2) (st' := some j) (M := N + 1)]
      exact ⟨some j, V2, q2, e3, t, rfl, ⟨rfl, rfl, rfl, ho.mzz, .inr rfl, ho.zl⟩, k2, ⟨s2.even, k4.ev, k4.sm⟩, k3, s3, .inr ⟨rfl, j, rfl, j2⟩⟩
    · exact absurd (ho.mzz i i2) i3
end
end Go.Proofs
namespace Go.Proofs
open Go.VG
theorem secSetP {t : List Sec} {i j : Nat} {y : Sec} (h : i < t.length) : (t.set i y).getD j s0 = if j = i then y else t.getD j s0 := by
  simp only [List.getD, List.getElem?_set]
  by_cases e : i = j
  · subst e; simp [h]
  · rw [if_neg e, if_neg (fun x => e x.symm)]
theorem secMapP {t : List Sec} {g : Sec → Sec} {j : Nat} (h : j < t.length) : (t.map g).getD j s0 = g (t.getD j s0) := by
  simp only [List.getD, List.getElem?_map]; rw [List.getElem?_eq_getElem h]; rfl
theorem wroteP_at {t : List Sec} {a b : Nat} {v : UInt64} {q : Bool} (h : a < t.length) : (wroteT t (a : Int) v q).getD b s0 = if b = a then ⟨(t.getD a s0).some ++ [v], q, v⟩ else t.getD b s0 := by
  rw [wroteT_ok h, secSetP h]
theorem wroteP_len {t : List Sec} {a : Nat} {v : UInt64} {q : Bool} (h : a < t.length) : (wroteT t (a : Int) v q).length = t.length := by rw [wroteT_ok h]; simp
theorem smallP_of {t : List Sec} {n : Nat} (h : ∀ a, a < n → (t.getD a s0).some.length ≤ 100000) (hl : t.length = n) : smallT t = true := by
  unfold smallT
  rw [List.all_eq_true]
  intro y hy
  obtain ⟨i, hi, rfl⟩ := List.getElem_of_mem hy
  have := h i (by omega)
  simp only [List.getD, List.getElem?_eq_getElem hi, Option.getD_some] at this
  rw [Nat.ble_eq]; omega
def vlP (C : PC) (V : Nat → Nat → UInt64) (a : Nat) : UInt64 := V (C.leg a) (C.off a)
structure TI (C : PC) (T : List Sec) (V : Nat → Nat → UInt64) : Prop where
  ok : ∀ a, a < C.D → vlP C V a ∈ (T.getD a s0).some
  kn : ∀ a, a < C.D → (T.getD a s0).known = true → (T.getD a s0).value = vlP C V a
structure TL (C : PC) (K : Nat) (T : List Sec) : Prop where
  len : T.length = C.D
  sm : ∀ a, a < C.D → (T.getD a s0).some.length ≤ K + 1
section
variable {C : PC} {V V' V1 : Nat → Nat → UInt64} {st fl z : Option Nat} {q q' q1 : UInt64} {e e' e1 : PE} {k i j d f a b : Nat} {mz : Nat → Bool} {F : Prop} {K K' : Nat} {s t u : ArrS} {v w : UInt64} {T : List Sec} {o : OwnS} {p : Bool}
theorem TL.mono (h : TL C K T) (hK : K ≤ K') : TL C K' T := ⟨h.len, fun a ha => by have := h.sm a ha; omega⟩
theorem TL.small (h : TL C K T) (hK : K ≤ 90000) : smallT T = true := smallP_of (fun a ha => by have := h.sm a ha; omega) h.len
theorem TL.wrote (h : TL C K T) (ha : a < C.D) : TL C (K + 1) (wroteT T (a : Int) w p) := by
  have hlt : a < T.length := by rw [h.len]; exact ha
  refine ⟨by rw [wroteP_len hlt]; exact h.len, fun b hb => ?_⟩
  rw [wroteP_at hlt]
  split
  · have := h.sm a ha
    show ((T.getD a s0).some ++ [w]).length ≤ _
    rw [List.length_append, List.length_singleton]; omega
  · have := h.sm b hb; omega
theorem TI.old (hl : T.length = C.D) (h : TI C T V) (ha : a < C.D) : TI C (wroteT T (a : Int) w false) V := by
  have hlt : a < T.length := by rw [hl]; exact ha
  refine ⟨fun b hb => ?_, fun b hb => ?_⟩
  · rw [wroteP_at hlt]
    split
    · rename_i y; subst y; exact List.mem_append_left _ (h.ok b hb)
    · exact h.ok b hb
  · rw [wroteP_at hlt]
    split
    · intro y; cases y
    · exact h.kn b hb
theorem TI.new (hl : T.length = C.D) (h : TI C T V) (ha : a < C.D) : TI C (wroteT T (a : Int) w p) (wrV C V a w) := by
  have hlt : a < T.length := by rw [hl]; exact ha
  have hv : ∀ b, b < C.D → vlP C (wrV C V a w) b = if b = a then w else vlP C V b := fun b hb => wrV_at ha hb
  refine ⟨fun b hb => ?_, fun b hb => ?_⟩
  · rw [wroteP_at hlt, hv b hb]
    by_cases y : b = a
    · rw [if_pos y, if_pos y]; exact List.mem_append_right _ (List.mem_singleton.2 rfl)
    · rw [if_neg y, if_neg y]; exact h.ok b hb
  · rw [wroteP_at hlt, hv b hb]
    by_cases y : b = a
    · rw [if_pos y, if_pos y]; exact fun _ => rfl
    · rw [if_neg y, if_neg y]; exact h.kn b hb
def Cs (C : PC) (st : Option Nat) (K : Nat) (S : (Nat → Nat → UInt64) → Prop) (s : ArrS) : Prop :=
  (∃ V q e, JV C V q e ∧ q.toNat ≤ K ∧ Qs C st V q e s ∧ S V) ∨ (∃ V q e V' q' e', JV C V q e ∧ q.toNat + 1 ≤ K ∧ Nx C V q V' q' e' ∧ Pe C st V q e V' q' e' s ∧ S V ∧ S V')
structure UPv (C : PC) (st z : Option Nat) (mz : Nat → Bool) (K : Nat) (V : Nat → Nat → UInt64) (q : UInt64) (e : PE) (o : OwnS) (s : ArrS) : Prop where
  x : ∃ k, (st = none ∨ k = 0) ∧ o.X = some (vol C st none q e false k)
  ow : OwI C st z mz o
  en : PEn C mz True K s
  jv : JV C V q e
  qk : q.toNat ≤ K
  qs : Qs C st V q e s
  ti : TI C o.T V
  tl : TL C K o.T
structure DNv (C : PC) (st z : Option Nat) (mz : Nat → Bool) (K : Nat) (o : OwnS) (s : ArrS) : Prop where
  ow : OwI C st z mz o
  gn : Gone C mz True K s
  tl : TL C K o.T
  cr : Cs C st K (fun V => ∀ a, a < C.D → vlP C V a ∈ (o.T.getD a s0).some) s
theorem OwI.set {o' : OwnS} (h : OwI C st z mz o) (h1 : o'.Open_1 = o.Open_1) (h2 : o'.Stale = o.Stale) (h3 : o'.Lost = o.Lost) : OwI C st z mz o' := ⟨h1.trans h.o1, h2.trans h.stl, h3.trans h.lost, h.mzz, h.sz, h.zl⟩
theorem Qs.drop (h : Qs C none V q e s) : Qs C st V q e s := fun d hd _ => h d hd (fun y => by cases y)
theorem Pe.drop (h : Pe C none V q e V' q' e' s) : Pe C st V q e V' q' e' s := h.imp (fun h d hd _ => h d hd (fun y => by cases y)) (fun h d hd _ => h d hd (fun y => by cases y))
theorem odropP (hx : o.X = some (vol C none (some j) q e p k)) (ho : OwI C none (some j) mz o) : volumegroupmake_Owner_drop o s = some (true, { o with X := some (vol C (some j) none q e p 0), Stale := stL (some j) }) ∧ OwI C (some j) (some j) mz { o with X := some (vol C (some j) none q e p 0), Stale := stL (some j) } := by
  have hj := ho.zl j rfl
  have hL := C.hL
  obtain ⟨N, hN⟩ := fuelS2
  refine ⟨?_, ⟨ho.o1, rfl, ho.lost, ho.mzz, .inr rfl, ho.zl⟩⟩
  unfold volumegroupmake_Owner_drop
  rw [hx]; simp only [Option.elim_some]
  rw [pfailed_eq]; simp only [Option.bind_some]
  rw [show flL (some j) C.L = [(j : Int)] from if_pos hj, hN]
  have e1 : ∀ o, volumegroupmake_Owner_drop_l1 s [(j : Int)] (N + 1 + 1) o 0 = volumegroupmake_Owner_drop_l1_b s [(j : Int)] (volumegroupmake_Owner_drop_l1 s [(j : Int)] (N + 1)) o 0 := fun _ => rfl
  have e2 : ∀ o, volumegroupmake_Owner_drop_l1 s [(j : Int)] (N + 1) o (0 + 1) = volumegroupmake_Owner_drop_l1_b s [(j : Int)] (volumegroupmake_Owner_drop_l1 s [(j : Int)] N) o 1 := fun _ => rfl
  rw [e1]
  unfold volumegroupmake_Owner_drop_l1_b
  rw [if_pos (by simp), show ([(j : Int)] : List Int).getD 0 0 = (j : Int) from rfl, show ({ o with X := some (vol C none (some j) q e p k) } : OwnS).Lost = [(j : Int)] from ho.lost, has_eq (by simp)]; simp only [Option.bind_some]
  rw [if_neg (by simp)]; simp only [Option.elim_some]
  rw [drop_eqP hj (.inl rfl) (.inr rfl)]; simp only [Option.bind_some]
  rw [if_neg (by simp), show o.Stale = [] from ho.stl, addL_nil]; simp only [Option.bind_some]
  rw [grd_t (inN64_of (by omega)), e2]
  unfold volumegroupmake_Owner_drop_l1_b
  rw [if_neg (by simp), seqO_inl]
  rw [show decide ((0 : Int) < ((([(j : Int)] : List Int).length : Nat) : Int)) = true from rfl, show ([(j : Int)] : List Int) = stL (some j) from rfl]
theorem pwrite_p (hno : ∀ i, mz i = true → st = some i) (he : PEn C mz F K s) (hK : K ≤ 400000) (hj : JV C V q e) (hqk : q.toNat ≤ 900000) (hx : Nx C V q V' q' e') (hA : Pe C st V q e V' q' e' s) (ha : a < C.D) :
    (∃ t, parityvol_Volume_Write (vol C st none q' e' true 0) (a : Int) w s = some (0, vol C st none (q' + 1) (wrE C V' a w) false 0, t) ∧ PEn C mz F (K + 24) t ∧ Qs C st (wrV C V' a w) (q' + 1) (wrE C V' a w) t) ∨
    (∃ m t, parityvol_Volume_Write (vol C st none q' e' true 0) (a : Int) w s = some (5, m, t) ∧ Gone C mz F (K + 24) t ∧ (Pe C st V q e V' q' e' t ∨ Qs C st V' q' e' t ∨ Pe C st V' q' e' (wrV C V' a w) (q' + 1) (wrE C V' a w) t)) := by
  have hj' := hx.jv (by omega)
  rcases ready_p (.inr rfl) he (by omega) hj hx hA with ⟨t, h1, h2, h3⟩ | ⟨t, h1, h2, h3⟩ | ⟨j, t, j1, j2, j3, _⟩
  · have hw := pwrite_eq (w := w) (.inr rfl) h2 (by omega) hj' h3 ha
    have hcon : parityvol_Volume_Write (vol C st none q' e' true 0) (a : Int) w s = parityvol_Volume_Write (vol C st none q' e' false 0) (a : Int) w t := by
      unfold parityvol_Volume_Write
      rw [if_neg (by omega), if_neg (by omega), psize_eq, psize_eq]; simp only [Option.bind_some]
      rw [if_neg (by omega), if_neg (by omega), h1, ready_0]
    rw [hcon]
    rcases hw with ⟨u, g1, g2, g3⟩ | ⟨m, u, g1, g2, g3⟩ | ⟨j, m, u, j1, j2, j3, _⟩
    · exact .inl ⟨u, g1, g2.mono (by omega), g3⟩
    · exact .inr ⟨m, u, g1, g2.mono (by omega), .inr g3⟩
    · exact absurd (hno j j2) j3
  · refine .inr ⟨vol C st none q' e' true 0, t, ?_, h2.mono (by omega), .inl h3⟩
    unfold parityvol_Volume_Write
    rw [if_neg (by omega), psize_eq]; simp only [Option.bind_some]
    rw [if_neg (by omega), h1]; simp only [Option.bind_some]
    rw [if_pos (by simp)]
  · exact absurd (hno j j2) j3
theorem UPv.none (h : UPv C st z mz K V q e o s) (hj : mz j = true) (hs : st ≠ some j) : st = none ∧ z = some j := by
  have hz := h.ow.mzz j hj
  refine ⟨?_, hz⟩
  rcases h.ow.sz with y | y
  · exact y
  · rw [y] at hs; exact absurd hz hs
theorem OwI.no (h : OwI C (some j) (some j) mz o) : ∀ i, mz i = true → (some j : Option Nat) = some i := fun i hi => h.mzz i hi
theorem owriteP (h : UPv C st z mz K V q e o s) (hK : K ≤ 50000) (ha : a < C.D) :
    (∃ st' V' q' e' o' t, volumegroupmake_Owner_Write o (a : Int) w s = some (0, true, o', t) ∧ UPv C st' z mz (K + 50) V' q' e' o' t ∧ (st' = st ∨ st' = z ∧ ∃ j, z = some j ∧ mz j = true)) ∨
    (∃ st' o' t, volumegroupmake_Owner_Write o (a : Int) w s = some (5, true, o', t) ∧ DNv C st' z mz (K + 50) o' t ∧ (st' = st ∨ st' = z ∧ ∃ j, z = some j ∧ mz j = true)) := by
  obtain ⟨N, hN⟩ := fuelS2
  obtain ⟨k, hk0, hX⟩ := h.x
  unfold volumegroupmake_Owner_Write
  rw [hX, hN]; simp only [Option.elim_some]
  have e1 : ∀ M o t er n, volumegroupmake_Owner_Write_l1 (a : Int) w (M + 1) o t er n = volumegroupmake_Owner_Write_l1_b (a : Int) w (volumegroupmake_Owner_Write_l1 (a : Int) w M) o t er n := fun _ _ _ _ _ => rfl
  have stop : ∀ M o t er n, er ≠ 18 → volumegroupmake_Owner_Write_l1 (a : Int) w (M + 1) o t er n = some (.inl (er, o, t)) := fun M o t er n hne => by
    rw [e1]; unfold volumegroupmake_Owner_Write_l1_b
    rw [if_neg (fun y => hne y.2)]
  have htl := h.tl
  have hsm := htl.small (by omega)
  have hlen := htl.len
  have hj1 := (wr_nx (w := w) ha h.jv).jv (by have := h.qk; omega)
  have hq1 := seq_add h.jv.sm
  rcases pwrite_eq (w := w) hk0 h.en (by omega) h.jv h.qs ha with ⟨t, h1, h2, h3⟩ | ⟨m, t, h1, h2, h3⟩ | ⟨j, m, t, j1, j2, j3, h1, h2, h3⟩
  · rw [h1]; simp only [Option.bind_some]
    rw [stop _ _ _ _ _ (by decide), seqO_inl, grd_t (decide_eq_true hsm)]
    exact .inl ⟨st, _, _, _, _, t, rfl, ⟨⟨k, hk0, rfl⟩, h.ow.set rfl rfl rfl, h2.mono (by omega), hj1, by have := h.qk; omega, h3, h.ti.new hlen ha, (htl.wrote ha).mono (by omega)⟩, .inl rfl⟩
  · rw [h1]; simp only [Option.bind_some]
    rw [stop _ _ _ _ _ (by decide), seqO_inl, grd_t (decide_eq_true hsm)]
    refine .inr ⟨st, _, t, rfl, ⟨h.ow.set rfl rfl rfl, h2.mono (by omega), (htl.wrote ha).mono (by omega), ?_⟩, .inl rfl⟩
    rcases h3 with h3 | h3
    · exact .inl ⟨V, q, e, h.jv, by have := h.qk; omega, h3, (h.ti.old hlen ha).ok⟩
    · exact .inr ⟨V, q, e, _, _, _, h.jv, by have := h.qk; omega, wr_nx ha h.jv, h3, (h.ti.old hlen ha).ok, (h.ti.new hlen ha).ok⟩
  · obtain ⟨hs0, hz0⟩ := h.none j2 j3
    subst hs0
    subst hz0
    have hT1 := htl.wrote (w := w) (p := false) ha
    rw [h1]; simp only [Option.bind_some]
    rw [e1]
    unfold volumegroupmake_Owner_Write_l1_b
    rw [if_pos ⟨by decide, rfl⟩, grd_t (decide_eq_true hsm)]
    rcases h3 with ⟨rfl, h3⟩ | ⟨rfl, h3⟩
    · obtain ⟨d1, d2⟩ := odropP (s := t) (o := { o with X := some (vol C none (some j) q e false k), T := wroteT o.T (a : Int) w false }) rfl (h.ow.set rfl rfl rfl)
      dsimp only
      rw [d1]; simp only [Option.bind_some]
      rw [if_neg (by simp)]; simp only [Option.elim_some]
      rcases pwrite_eq (w := w) (.inr rfl) h2 (by omega) h.jv h3.drop ha with ⟨u, g1, g2, g3⟩ | ⟨m, u, g1, g2, g3⟩ | ⟨i, m, u, i1, i2, i3, _⟩
      · rw [g1]; simp only [Option.bind_some]
        rw [stop _ _ _ _ _ (by decide), seqO_inl, grd_t (decide_eq_true (hT1.small (by omega)))]
        exact .inl ⟨some j, _, _, _, _, u, rfl, ⟨⟨0, .inr rfl, rfl⟩, d2.set rfl rfl rfl, g2.mono (by omega), hj1, by have := h.qk; omega, g3, (h.ti.old hlen ha).new hT1.len ha, (hT1.wrote ha).mono (by omega)⟩, .inr ⟨rfl, j, rfl, j2⟩⟩
      · rw [g1]; simp only [Option.bind_some]
        rw [stop _ _ _ _ _ (by decide), seqO_inl, grd_t (decide_eq_true (hT1.small (by omega)))]
        refine .inr ⟨some j, _, u, rfl, ⟨d2.set rfl rfl rfl, g2.mono (by omega), (hT1.wrote ha).mono (by omega), ?_⟩, .inr ⟨rfl, j, rfl, j2⟩⟩
        rcases g3 with g3 | g3
        · exact .inl ⟨V, q, e, h.jv, by have := h.qk; omega, g3, ((h.ti.old hlen ha).old hT1.len ha).ok⟩
        · exact .inr ⟨V, q, e, _, _, _, h.jv, by have := h.qk; omega, wr_nx ha h.jv, g3, ((h.ti.old hlen ha).old hT1.len ha).ok, ((h.ti.old hlen ha).new hT1.len ha).ok⟩
      · exact absurd (d2.no i i2) i3
    · obtain ⟨d1, d2⟩ := odropP (s := t) (o := { o with X := some (vol C none (some j) (q + 1) (wrE C V a w) true k), T := wroteT o.T (a : Int) w false }) rfl (h.ow.set rfl rfl rfl)
      dsimp only
      rw [d1]; simp only [Option.bind_some]
      rw [if_neg (by simp)]; simp only [Option.elim_some]
      have hj2 := (wr_nx (w := w) ha hj1).jv (by rw [hq1]; have := h.qk; omega)
      have hq2 := seq_add hj1.sm
      have ti1 : TI C (wroteT o.T (a : Int) w false) (wrV C V a w) := h.ti.new hlen ha
      rcases pwrite_p (w := w) d2.no h2 (by omega) h.jv (by have := h.qk; omega) (wr_nx ha h.jv) h3.drop ha with ⟨u, g1, g2, g3⟩ | ⟨m, u, g1, g2, g3⟩
      · rw [g1]; simp only [Option.bind_some]
        rw [stop _ _ _ _ _ (by decide), seqO_inl, grd_t (decide_eq_true (hT1.small (by omega)))]
        exact .inl ⟨some j, _, _, _, _, u, rfl, ⟨⟨0, .inr rfl, rfl⟩, d2.set rfl rfl rfl, g2.mono (by omega), hj2, by have := h.qk; omega, g3, ti1.new hT1.len ha, (hT1.wrote ha).mono (by omega)⟩, .inr ⟨rfl, j, rfl, j2⟩⟩
      · rw [g1]; simp only [Option.bind_some]
        rw [stop _ _ _ _ _ (by decide), seqO_inl, grd_t (decide_eq_true (hT1.small (by omega)))]
        refine .inr ⟨some j, _, u, rfl, ⟨d2.set rfl rfl rfl, g2.mono (by omega), (hT1.wrote ha).mono (by omega), ?_⟩, .inr ⟨rfl, j, rfl, j2⟩⟩
        rcases g3 with g3 | g3 | g3
        · exact .inr ⟨V, q, e, _, _, _, h.jv, by have := h.qk; omega, wr_nx ha h.jv, g3, ((h.ti.old hlen ha).old hT1.len ha).ok, (ti1.old hT1.len ha).ok⟩
        · exact .inl ⟨_, _, _, hj1, by have := h.qk; omega, g3, (ti1.old hT1.len ha).ok⟩
        · exact .inr ⟨_, _, _, _, _, _, hj1, by have := h.qk; omega, wr_nx ha hj1, g3, (ti1.old hT1.len ha).ok, (ti1.new hT1.len ha).ok⟩
theorem TI.read (h : TI C T V) (htl : TL C K T) (ha : a < C.D) {g : Bool} : rdTR T (a : Int) (vlP C V a) = true ∧ TI C (rdTS T (a : Int) (vlP C V a) g) V ∧ TL C K (rdTS T (a : Int) (vlP C V a) g) := by
  have hlt : a < T.length := by rw [htl.len]; exact ha
  have hl : 0 ≤ (a : Int) ∧ (a : Int) < (T.length : Int) := ⟨by omega, by omega⟩
  unfold rdTR rdTS
  rw [if_pos hl, if_pos hl, Int.toNat_natCast]
  by_cases hk : (T.getD a s0).known = true
  · rw [if_pos hk, if_pos hk]
    exact ⟨decide_eq_true (h.kn a ha hk).symm, h, htl⟩
  · rw [if_neg hk, if_neg hk]
    refine ⟨?_, ⟨fun b hb => ?_, fun b hb => ?_⟩, ⟨by rw [List.length_set]; exact htl.len, fun b hb => ?_⟩⟩
    · rw [List.any_eq_true]
      exact ⟨_, h.ok a ha, decide_eq_true rfl⟩
    · rw [secSetP hlt]
      split
      · rename_i y; subst y
        cases g
        · exact h.ok b hb
        · exact List.mem_singleton.2 rfl
      · exact h.ok b hb
    · rw [secSetP hlt]
      split
      · rename_i y; subst y; exact fun _ => rfl
      · exact h.kn b hb
    · rw [secSetP hlt]
      split
      · cases g
        · exact htl.sm a ha
        · simp
      · exact htl.sm b hb
theorem oreadP (h : UPv C st z mz K V q e o s) (hK : K ≤ 50000) (ha : a < C.D) {g : Bool} :
    ∃ st' o', volumegroupmake_Owner_Read o (a : Int) g s = some (0, true, o', s) ∧ UPv C st' z mz K V q e o' s ∧ o'.T = rdTS o.T (a : Int) (vlP C V a) g ∧ (st' = st ∨ st' = z ∧ ∃ j, z = some j ∧ mz j = true) := by
  obtain ⟨N, hN⟩ := fuelS2
  obtain ⟨k, hk0, hX⟩ := h.x
  obtain ⟨t1, t2, t3⟩ := h.ti.read h.tl ha (g := g)
  have hsm := h.tl.small (by omega)
  unfold volumegroupmake_Owner_Read
  rw [hX, hN]; simp only [Option.elim_some]
  have e1 : ∀ M o t n w er, volumegroupmake_Owner_Read_l1 (a : Int) (M + 1) o t n w er = volumegroupmake_Owner_Read_l1_b (a : Int) (volumegroupmake_Owner_Read_l1 (a : Int) M) o t n w er := fun _ _ _ _ _ _ => rfl
  have stop : ∀ M o t n w er, er ≠ 18 → volumegroupmake_Owner_Read_l1 (a : Int) (M + 1) o t n w er = some (.inl (w, er, o, t)) := fun M o t n w er hne => by
    rw [e1]; unfold volumegroupmake_Owner_Read_l1_b
    rw [if_neg (fun y => hne y.2)]
  rcases pread_eq h.en h.jv h.qs ha with h1 | ⟨j, w', j1, j2, j3, h1⟩
  · rw [h1]; simp only [Option.bind_some]
    rw [stop _ _ _ _ _ _ (by decide), seqO_inl, if_neg (by simp), if_pos rfl, grd_t (decide_eq_true hsm)]
    refine ⟨st, { o with X := some (vol C st none q e false k), T := rdTS o.T (a : Int) (vlP C V a) g }, ?_, ⟨?_, h.ow.set rfl rfl rfl, h.en, h.jv, h.qk, h.qs, t2, t3⟩, rfl, .inl rfl⟩
    · show some ((0 : Int), rdTR o.T (a : Int) (vlP C V a), _, s) = _
      rw [t1]; rfl
    · exact ⟨k, hk0, rfl⟩
  · obtain ⟨hs0, hz0⟩ := h.none j2 j3
    subst hs0
    subst hz0
    rw [h1]; simp only [Option.bind_some]
    rw [e1]
    unfold volumegroupmake_Owner_Read_l1_b
    rw [if_pos ⟨by decide, rfl⟩]
    obtain ⟨d1, d2⟩ := odropP (s := s) (o := { o with X := some (vol C none (some j) q e false k) }) rfl (h.ow.set rfl rfl rfl)
    rw [d1]; simp only [Option.bind_some]
    rw [if_neg (by simp)]; simp only [Option.elim_some]
    rcases pread_eq h.en h.jv (h.qs.drop (st := some j)) ha with g1 | ⟨i, w', i1, i2, i3, _⟩
    · rw [g1]; simp only [Option.bind_some]
      rw [stop _ _ _ _ _ _ (by decide), seqO_inl, if_neg (by simp), if_pos rfl, grd_t (decide_eq_true hsm)]
      refine ⟨some j, { o with X := some (vol C (some j) none q e false 0), T := rdTS o.T (a : Int) (vlP C V a) g, Stale := stL (some j) }, ?_, ⟨?_, d2.set rfl rfl rfl, h.en, h.jv, h.qk, h.qs.drop, t2, t3⟩, rfl, .inr ⟨rfl, j, rfl, j2⟩⟩
      · show some ((0 : Int), rdTR o.T (a : Int) (vlP C V a), _, s) = _
        rw [t1]; rfl
      · exact ⟨0, .inr rfl, rfl⟩
    · exact absurd (d2.no i i2) i3
theorem TI.flushed (h : TI C T V) (htl : TL C K T) : TI C (flushedT T) V ∧ TL C K (flushedT T) := by
  have hx : ∀ a, a < C.D → (flushedT T).getD a s0 = flushX (T.getD a s0) := fun a ha => by unfold flushedT; exact secMapP (by rw [htl.len]; exact ha)
  refine ⟨⟨fun a ha => ?_, fun a ha => ?_⟩, ⟨by unfold flushedT; rw [List.length_map]; exact htl.len, fun a ha => ?_⟩⟩
  · rw [hx a ha]; unfold flushX
    split
    · rename_i hk
      rw [h.kn a ha hk]; exact List.mem_singleton.2 rfl
    · exact h.ok a ha
  · rw [hx a ha]; unfold flushX
    split
    · intro hk; exact h.kn a ha hk
    · exact h.kn a ha
  · rw [hx a ha]; unfold flushX
    split
    · simp
    · exact htl.sm a ha
theorem oflushP (h : UPv C st z mz K V q e o s) (hK : K ≤ 50000) :
    ∃ st' o' t, volumegroupmake_Owner_Flush o s = some (0, true, o', t) ∧ UPv C st' z mz K V q e o' t ∧ (st' = st ∨ st' = z ∧ ∃ j, z = some j ∧ mz j = true) := by
  obtain ⟨N, hN⟩ := fuelS2
  obtain ⟨k, hk0, hX⟩ := h.x
  obtain ⟨t2, t3⟩ := h.ti.flushed h.tl
  unfold volumegroupmake_Owner_Flush
  rw [hX, hN]; simp only [Option.elim_some]
  have e1 : ∀ M o t er n, volumegroupmake_Owner_Flush_l1 (M + 1) o t er n = volumegroupmake_Owner_Flush_l1_b (volumegroupmake_Owner_Flush_l1 M) o t er n := fun _ _ _ _ _ => rfl
  have stop : ∀ M o t er n, er ≠ 18 → volumegroupmake_Owner_Flush_l1 (M + 1) o t er n = some (.inl (er, o, t)) := fun M o t er n hne => by
    rw [e1]; unfold volumegroupmake_Owner_Flush_l1_b
    rw [if_neg (fun y => hne y.2)]
  rcases pflush_eq h.ow.one h.en (by omega) h.qs with ⟨t, h1, h2, h3⟩ | ⟨j, t, j1, j2, j3, h1, h2, h3⟩
  · rw [h1]; simp only [Option.bind_some]
    rw [stop _ _ _ _ _ (by decide), seqO_inl, if_pos rfl]
    exact ⟨st, _, t, rfl, ⟨⟨k, hk0, rfl⟩, h.ow.set rfl rfl rfl, h2, h.jv, h.qk, h3, t2, t3⟩, .inl rfl⟩
  · obtain ⟨hs0, hz0⟩ := h.none j2 j3
    subst hs0
    subst hz0
    rw [h1]; simp only [Option.bind_some]
    rw [e1]
    unfold volumegroupmake_Owner_Flush_l1_b
    rw [if_pos ⟨by decide, rfl⟩]
    obtain ⟨d1, d2⟩ := odropP (s := t) (o := { o with X := some (vol C none (some j) q e false k) }) rfl (h.ow.set rfl rfl rfl)
    rw [d1]; simp only [Option.bind_some]
    rw [if_neg (by simp)]; simp only [Option.elim_some]
    rcases pflush_eq (st := some j) d2.one h2 (by omega) h3.drop with ⟨u, g1, g2, g3⟩ | ⟨i, u, i1, i2, i3, _⟩
    · rw [g1]; simp only [Option.bind_some]
      rw [stop _ _ _ _ _ (by decide), seqO_inl, if_pos rfl]
      exact ⟨some j, _, u, rfl, ⟨⟨0, .inr rfl, rfl⟩, d2.set rfl rfl rfl, g2, h.jv, h.qk, g3, t2, t3⟩, .inr ⟨rfl, j, rfl, j2⟩⟩
    · exact absurd (d2.no i i2) i3
end
end Go.Proofs
namespace Go.Proofs
open Go.VG
section
variable {ns : List Nat} {K k : Nat} {s : ArrS}
theorem smS_facts (hok : ArrOk ns K s) (hk : k < ns.length) : smR s k = 0 ∧ ArrOk ns K (smS s k true) ∧ (∀ e, miss (smS s k true) e = if e = k then true else miss s e) ∧ (∀ e b, now (smS s k true) e b = now s e b) ∧ (∀ e b, cand (smS s k true) e b = cand s e b) ∧ (smS s k true).down = s.down ∧ (smS s k true).fuse = s.fuse := by
  have hkl : k < s.drv.length := hok.disk hk
  have hin : inR s (k : Int) := ⟨by omega, by omega⟩
  have hsz : ∀ e, (s.drv.set k { s.drv.getD k d0 with miss := true }).getD e d0 = if e = k then { s.drv.getD k d0 with miss := true } else s.drv.getD e d0 := fun e => drv_set hkl
  have hnow : ∀ e, nowL (smS s k true) e = nowL s e := fun e => by
    rw [smS_ok hin]; unfold nowL
    show ((s.drv.set k { s.drv.getD k d0 with miss := true }).getD e d0).now = _
    rw [hsz]; split
    · rename_i h; rw [h]
    · rfl
  have hdur : ∀ e, durL (smS s k true) e = durL s e := fun e => by
    rw [smS_ok hin]; unfold durL
    show ((s.drv.set k { s.drv.getD k d0 with miss := true }).getD e d0).dur = _
    rw [hsz]; split
    · rename_i h; rw [h]
    · rfl
  have hlog : (smS s k true).log = s.log := by rw [smS_ok hin]
  have hlen : (smS s k true).drv.length = s.drv.length := by rw [smS_ok hin]; simp
  have hsize : ∀ e, (smS s k true).size e = s.size e := fun e => by rw [size_nowL, size_nowL, hnow]
  refine ⟨if_pos hin, ⟨⟨by rw [hlen]; exact hok.sz.cnt, fun d hd => by rw [hsize]; exact hok.sz.size d hd, by rw [smS_ok hin]; exact hok.sz.wr⟩, by rw [smS_ok hin]; exact hok.wr, ⟨fun d => by rw [hnow, hdur]; exact hok.coh.len d, fun d b hb => ?_, fun r hr => ?_⟩, by rw [smS_ok hin]; exact hok.bad⟩, fun e => ?_, fun e b => by unfold now; rw [hnow], fun e b => by show dur _ _ _ :: pendR _ _ _ = dur _ _ _ :: pendR _ _ _; unfold dur; rw [hdur, hlog], by rw [smS_ok hin], by rw [smS_ok hin]⟩
  · rw [hsize] at hb
    have := hok.coh.last d b hb
    show lastD (dur _ _ _) (pendR _ _ _) = now _ _ _
    unfold dur now; rw [hdur, hnow, hlog]; exact this
  · rw [hlog] at hr
    rw [hlen, hsize]; exact hok.coh.log r hr
  · unfold miss
    rw [smS_ok hin]
    show ((s.drv.set k { s.drv.getD k d0 with miss := true }).getD e d0).miss = _
    rw [hsz]; split <;> rfl
end
end Go.Proofs
namespace Go.Proofs
open Go.VG
theorem keep_l1 {w : UInt64} : ∀ (N i : Nat) (acc : List Bool), 192 - i < N → i ≤ 192 → acc.length = i → ∃ ks, volumegroupmake_Keep_l1 w N acc i = some ks
  | 0, _, _, h, _, _ => absurd h (by omega)
  | N + 1, i, acc, h, hi, ha => by
    show ∃ ks, volumegroupmake_Keep_l1_b _ _ _ _ = _
    unfold volumegroupmake_Keep_l1_b
    by_cases hlt : i < 192
    · rw [if_pos (by omega), grd_t (inLen_of (by omega))]
      exact keep_l1 N (i + 1) _ (by omega) (by omega) (by simp [ha])
    · rw [if_neg (by omega)]; exact ⟨_, rfl⟩
theorem keep_ok (w : UInt64) : ∃ ks, volumegroupmake_Keep w = some ks := by
  unfold volumegroupmake_Keep
  have hF := fuel_big
  generalize FUEL = N at hF ⊢
  obtain ⟨ks, h⟩ := keep_l1 (w := w) N 0 [] (by omega) (by omega) rfl
  exact ⟨ks, by rw [h]; rfl⟩
theorem at_ok (a : Int) {n : Nat} (hn : 0 < n) (hb : n ≤ 65536) : ∃ k : Nat, (a.tmod (n : Int) + (n : Int)).tmod (n : Int) = (k : Int) ∧ k < n ∧ -65536 < a.tmod (n : Int) ∧ a.tmod (n : Int) < 65536 := by
  have h1 : -(n : Int) < a.tmod n ∧ a.tmod n < n := by
    have h := Int.natAbs_tmod a n
    have h2 := Nat.mod_lt a.natAbs (show 0 < (n : Int).natAbs by omega)
    omega
  have h2 : 0 ≤ a.tmod n + n := by omega
  have h3 := Int.tmod_nonneg (a := a.tmod n + n) n h2
  have h4 := Int.tmod_lt_of_pos (a.tmod n + n) (show (0 : Int) < n by omega)
  exact ⟨((a.tmod n + n).tmod n).toNat, by omega, by omega, by omega, by omega⟩
end Go.Proofs
set_option linter.unusedSimpArgs false
set_option linter.unusedVariables false
set_option maxRecDepth 20000
set_option maxHeartbeats 4000000
namespace Go.Proofs
open Go.VG
def volumegroupmake_Owner_Settled (o : OwnS) (s : ArrS) : Option (Bool × OwnS × ArrS) :=
  Option.bind (volumegroupmake_Owner_All o true s) fun r1 =>
  some (r1.1, r1.2.1, r1.2.2)
theorem L_volumegroupmake_Owner_Settled {W : World} {bo : Nat} {bs : Nat} {o : OwnS} {s : ArrS} {r : Bool × OwnS × ArrS} (h : volumegroupmake_Owner_Settled o s = some r) :
    CSpec Tryz.prog W 60 [ptr bo 0] [OwnP bs bo o, Arr bs s] (fun x : Unit => .bool r.1) (fun _ => True) (fun x F => OwnP bs bo r.2.1 :: Arr bs r.2.2 :: F) := by
 refine CSpec.of_body Tryz.func60 rfl Tryz.ntmps60 rfl fun F => ?_
 show CJ _ _ _ _ _ _ (_ :: _ :: F)
 unfold volumegroupmake_Owner_Settled at h
 refine sR <| oA rfl rfl <| nT <| sR <| oM rfl rfl ?_
 obtain ⟨r1, hr2, h⟩ := bind_e h
 refine oO <| O_call (L_volumegroupmake_Owner_All hr2) rfl Tryz.call21 (Dels.cons del0 (Dels.cons del0 Dels.nil)) rfl fun _ _ => oA rfl rfl <| nT <| CJ_ret ?_
 cases h
 exact fE (res1 Tryz.results60 rfl) () eR
def volumegroupmake_Owner_Step (o : OwnS) (s_1 : volumegroupmake_Step) (s : ArrS) : Option (Bool × OwnS × ArrS) :=
  grd (decide (¬ ((o.T.length : Nat) : Int) = 0)) <|
  grd (inI64 (((s_1.At.tmod (((o.T.length : Nat) : Int))) + ((o.T.length : Nat) : Int)))) <|
  grd (decide (¬ ((o.T.length : Nat) : Int) = 0)) <|
  lt (((((s_1.At.tmod (((o.T.length : Nat) : Int))) + ((o.T.length : Nat) : Int))).tmod (((o.T.length : Nat) : Int)))) fun w8 =>
  Option.bind ((
    if (s_1.Kind = (0 : Int)) then
      Option.bind (volumegroupmake_Owner_Write o w8 s_1.Value s) fun r17 =>
      some (r17.1, r17.2.1, r17.2.2.1, r17.2.2.2)
    else
      if (s_1.Kind = (1 : Int)) then
        Option.bind (volumegroupmake_Owner_Read o w8 false s) fun r19 =>
        some (r19.1, r19.2.1, r19.2.2.1, r19.2.2.2)
      else
        if (s_1.Kind = (2 : Int)) then
          Option.bind (volumegroupmake_Owner_Flush o s) fun r21 =>
          some (r21.1, r21.2.1, r21.2.2.1, r21.2.2.2)
        else
          if (s_1.Kind = (3 : Int)) then
            some (((5 : Int), true, o, s))
          else
            if (s_1.Kind = (4 : Int)) then
              grd (inI64 (((1 : Int) + w8))) <|
              grd (inI64 (((1 : Int) + w8))) <|
              some (((0 : Int), true, o, { s with fuse := (((1 : Int) + w8)).toNat }))
            else
              some (((0 : Int), true, o, s)) : Option (Int × Bool × OwnS × ArrS))) fun a16 =>
  if (¬ a16.2.1 = true) then
    some (false, a16.2.2.1, a16.2.2.2)
  else
    if (a16.1 ≠ (5 : Int)) then
      some (true, a16.2.2.1, a16.2.2.2)
    else
      Option.bind (volumegroupmake_Owner_Power a16.2.2.1 s_1.Keep a16.2.2.2) fun r28 =>
      if r28.1 = true then
        Option.bind (volumegroupmake_Owner_Settled r28.2.1 r28.2.2) fun r30 =>
        some (r30.1, r30.2.1, r30.2.2)
      else
        some (false, r28.2.1, r28.2.2)
theorem L_volumegroupmake_Owner_Step {W : World} {bo : Nat} {bs : Nat} {o : OwnS} {s_1 : volumegroupmake_Step} {s : ArrS} {r : Bool × OwnS × ArrS} (h : volumegroupmake_Owner_Step o s_1 s = some r) :
    CSpec Tryz.prog W 19 [ptr bo 0, .agg #[.int .i64 s_1.Kind, .int .i64 s_1.At, .int .u64 (s_1.Value.toNat : Int), .int .u64 (s_1.Keep.toNat : Int)]] [OwnP bs bo o, Arr bs s] (fun x : Unit => .bool r.1) (fun _ => True) (fun x F => OwnP bs bo r.2.1 :: Arr bs r.2.2 :: F) := by
 refine CSpec.of_body Tryz.func19 rfl Tryz.ntmps19 rfl fun F => ?_
 show CJ _ _ _ _ _ _ (_ :: _ :: F)
 unfold volumegroupmake_Owner_Step at h
 refine sR <| oO <| O_box rfl rfl rfl fun b1 => oA rfl rfl <| nT <| CJ_seq <| CJ_entX (Ent.transX (t1_ eR) (OwnP_open (l := o))) fun oc2 => lC del5 fun hlen4 => lC del6 fun hlen5 => CJ_entX (Ent.transX (t4_ eR) Trk_open) fun tc6 => CJ_pur fun hS7 => CJ_region <| oM rfl rfl <| oP (P_nilCheck rfl) rfl <| oP (P_fieldAddr rfl ⟨_, _, _, Tryz.runUnderlying37, rfl, rfl, Tryz.sizeOf34, rfl⟩) rfl <| oV (V_load rfl foc3 rfl Tryz.isAgg34) rfl <| oP (P_nilCheck rfl) rfl <| oP (P_fieldAddr rfl ⟨_, _, _, Tryz.runUnderlying56, rfl, rfl, Tryz.sizeOf54, rfl⟩) rfl <| oV (V_load rfl foc0 rfl Tryz.isAgg54) rfl <| oV (VJ_eq (V_len rfl foc1 (Reads.sl _ _ _) Tryz.runUnderlying54) (congrArg (fun z : Nat => Value.int .i64 (z : Int)) hS7.len.symm)) rfl <| oA rfl rfl <| RJ_nil <| QJ_ent (Ent.trans (t0_ (t0_ (t0_ eR))) (Trk_close hS7)) <| QJ_ent (Ent.trans (t1_ (t1_ (t1_ (t1_ eR)))) (OwnP_mk (v0 := o.Open_1) (v1 := o.X) (v2 := o.T) (v3 := o.Stale) (v4 := o.Lost) (h0 := oc2.1) (h1 := oc2.2.1) (h2 := oc2.2.2.1) (h3 := oc2.2.2.2.1) (h4 := oc2.2.2.2.2.1) (h5 := oc2.2.2.2.2.2))) <| QJ_then <| sR <| oP (P_fieldAddr rfl ⟨_, _, _, Tryz.runUnderlying49, rfl, rfl, Tryz.sizeOf3, rfl⟩) rfl <| oV (V_load rfl foc1 rfl Tryz.isAgg3) rfl <| oM rfl rfl ?_
 obtain ⟨hg1, h⟩ := grd_de h
 refine oP (P_remT (a := s_1.At) (b := ((o.T.length : Nat) : Int)) rfl rfl hg1) rfl <| oM rfl rfl ?_
 obtain ⟨hg2, h⟩ := grd_Ie h
 refine oP (P_add (a := (s_1.At.tmod (((o.T.length : Nat) : Int)))) (b := ((o.T.length : Nat) : Int)) rfl rfl hg2) rfl <| oM rfl rfl ?_
 obtain ⟨hg3, h⟩ := grd_de h
 refine oP (P_remT (a := ((s_1.At.tmod (((o.T.length : Nat) : Int))) + ((o.T.length : Nat) : Int))) (b := ((o.T.length : Nat) : Int)) rfl rfl hg3) rfl ?_
 obtain ⟨w8, hw8, h⟩ := lt_e h
 rw [← hw8]
 refine oA rfl rfl <| nT <| sR <| oA rfl rfl <| oA rfl rfl <| nT <| CJ_seq <| sR <| oP (P_fieldAddr rfl ⟨_, _, _, Tryz.runUnderlying49, rfl, rfl, Tryz.sizeOf3, rfl⟩) rfl <| oV (V_load rfl foc1 rfl Tryz.isAgg3) rfl <| nT ?_
 obtain ⟨y11, hl9, hK10⟩ := bind_c h
 refine CJ_cutT (X := Int × Bool × OwnS × ArrS) [7, 8, 27, 28, 29, 30, 31, 32, 33, 34, 35, 36, 37, 38, 39, 40, 41, 42, 43, 44, 45, 46, 47, 48, 49, 50, 51, 52, 53, 54, 55, 56, 57, 58, 59, 60, 61, 62] (fun a16 => ([(7, .int .i64 a16.1), (8, .bool a16.2.1)] : Slots)) (fun a16 R => OwnP bs bo a16.2.2.1 :: Arr bs a16.2.2.2 :: R) (fun a16 => y11 = a16) (Dels.cons del0 (Dels.cons del1 Dels.nil)) ?_ ?_
 ·
  have h := hl9
  refine CJ_block <| sR <| oP (P_eql (a := s_1.Kind) (b := (0 : Int)) rfl rfl) rfl <| oA rfl rfl <| nT <| CJ_condP rfl bT_dec (fun hg4 => ?_) (fun hg4 => ?_)
  ·
   replace h := ite_t hg4 h
   refine CJ_region <| oM rfl rfl <| oM rfl rfl <| oP (P_fieldAddr rfl ⟨_, _, _, Tryz.runUnderlying49, rfl, rfl, Tryz.sizeOf44, rfl⟩) rfl <| oV (V_load rfl foc1 rfl Tryz.isAgg44) rfl ?_
   obtain ⟨r17, hr18, h⟩ := bind_e h
   exact oO <| O_call (L_volumegroupmake_Owner_Write hr18) rfl Tryz.call44 (Dels.cons del0 (Dels.cons del1 Dels.nil)) rfl fun _ _ => oM rfl rfl <| oP (P_extract rfl rfl) rfl <| oP (P_extract rfl rfl) rfl <| oA rfl rfl <| oA rfl rfl <| RJ_nil <| QJ_block_normal <| cR (r17.1, r17.2.1, r17.2.2.1, r17.2.2.2) (Option.some.inj h).symm ⟨rfl, rfl, True.intro⟩ eR
  ·
   replace h := ite_f hg4 h
   refine sR <| oP (P_eql (a := s_1.Kind) (b := (1 : Int)) rfl rfl) rfl <| oA rfl rfl <| nT <| CJ_condP rfl bT_dec (fun hg5 => ?_) (fun hg5 => ?_)
   ·
    replace h := ite_t hg5 h
    refine CJ_region <| oM rfl rfl <| oM rfl rfl ?_
    obtain ⟨r19, hr20, h⟩ := bind_e h
    exact oO <| O_call (L_volumegroupmake_Owner_Read hr20) rfl Tryz.call59 (Dels.cons del0 (Dels.cons del1 Dels.nil)) rfl fun _ _ => oM rfl rfl <| oP (P_extract rfl rfl) rfl <| oP (P_extract rfl rfl) rfl <| oA rfl rfl <| oA rfl rfl <| RJ_nil <| QJ_block_normal <| cR (r19.1, r19.2.1, r19.2.2.1, r19.2.2.2) (Option.some.inj h).symm ⟨rfl, rfl, True.intro⟩ eR
   ·
    replace h := ite_f hg5 h
    refine sR <| oP (P_eql (a := s_1.Kind) (b := (2 : Int)) rfl rfl) rfl <| oA rfl rfl <| nT <| CJ_condP rfl bT_dec (fun hg6 => ?_) (fun hg6 => ?_)
    ·
     replace h := ite_t hg6 h
     refine CJ_region <| oM rfl rfl ?_
     obtain ⟨r21, hr22, h⟩ := bind_e h
     exact oO <| O_call (L_volumegroupmake_Owner_Flush hr22) rfl Tryz.call15 (Dels.cons del0 (Dels.cons del1 Dels.nil)) rfl fun _ _ => oM rfl rfl <| oP (P_extract rfl rfl) rfl <| oP (P_extract rfl rfl) rfl <| oA rfl rfl <| oA rfl rfl <| RJ_nil <| QJ_block_normal <| cR (r21.1, r21.2.1, r21.2.2.1, r21.2.2.2) (Option.some.inj h).symm ⟨rfl, rfl, True.intro⟩ eR
    ·
     replace h := ite_f hg6 h
     refine sR <| oP (P_eql (a := s_1.Kind) (b := (3 : Int)) rfl rfl) rfl <| oA rfl rfl <| nT <| CJ_condP rfl bT_dec (fun hg7 => ?_) (fun hg7 => ?_)
     ·
      replace h := ite_t hg7 h
      exact CJ_region <| oA rfl rfl <| RJ_nil <| QJ_block_normal <| cR ((5 : Int), true, o, s) (Option.some.inj h).symm ⟨rfl, rfl, True.intro⟩ (t0_ (t1_ eR))
     ·
      replace h := ite_f hg7 h
      refine sR <| oP (P_eql (a := s_1.Kind) (b := (4 : Int)) rfl rfl) rfl <| oA rfl rfl <| nT <| CJ_condP rfl bT_dec (fun hg8 => ?_) (fun hg8 => ?_)
      ·
       replace h := ite_t hg8 h
       refine CJ_entX (Ent.transX (t0_ eR) (OwnP_open (l := o))) fun oc23 => lC del5 fun hlen25 => lC del6 fun hlen26 => CJ_region <| oM rfl rfl <| oP (P_nilCheck rfl) rfl <| oP (P_fieldAddr rfl ⟨_, _, _, Tryz.runUnderlying37, rfl, rfl, Tryz.sizeOf30, rfl⟩) rfl <| oV (V_load rfl foc0 rfl Tryz.isAgg30) rfl <| oM rfl rfl ?_
       obtain ⟨hg9, h⟩ := grd_Ie h
       refine oP (P_add (a := (1 : Int)) (b := w8) rfl rfl hg9) rfl ?_
       obtain ⟨hg10, h⟩ := grd_Ie h
       exact oO <| O_call (c_FuseD hg10.2) rfl Tryz.call48 (Dels.cons del8 Dels.nil) rfl fun _ _ => RJ_nil <| QJ_ent (Ent.trans (t1_ (t1_ (t1_ (t1_ (t1_ (t1_ (t1_ eR))))))) (OwnP_mk (v0 := o.Open_1) (v1 := o.X) (v2 := o.T) (v3 := o.Stale) (v4 := o.Lost) (h0 := oc23.1) (h1 := oc23.2.1) (h2 := oc23.2.2.1) (h3 := oc23.2.2.2.1) (h4 := oc23.2.2.2.2.1) (h5 := oc23.2.2.2.2.2))) <| QJ_block_normal <| cR ((0 : Int), true, o, { s with fuse := (((1 : Int) + w8)).toNat }) (Option.some.inj h).symm ⟨rfl, rfl, True.intro⟩ eR
      ·
       replace h := ite_f hg8 h
       exact CJ_skip <| QJ_block_normal <| cR ((0 : Int), true, o, s) (Option.some.inj h).symm ⟨rfl, rfl, True.intro⟩ (t0_ (t1_ eR))
 ·
  rintro a16 hy27
  replace h := bindK_at hK10 hy27
  show CJ _ _ _ _ _ (([(7, .int .i64 a16.1), (8, .bool a16.2.1)] : Slots) ++ forget _ _) (OwnP bs bo a16.2.2.1 :: Arr bs a16.2.2.2 :: _)
  refine CJ_seq <| sR <| oM rfl rfl <| oP (P_not rfl) rfl <| nT <| CJ_condP rfl (bT_not Iff.rfl) (fun hg11 => ?_) (fun hg11 => ?_)
  ·
   replace h := ite_t hg11 h
   refine sR <| oA rfl rfl <| nT <| CJ_ret <| QJ_then_ret ?_
   cases h
   exact fE (res1 Tryz.results19 rfl) () (t0_ (t0_ (eD eR)))
  ·
   replace h := ite_f hg11 h
   refine kT <| sR <| oM rfl rfl <| oP (P_neq (a := a16.1) (b := (5 : Int)) rfl rfl) rfl <| oM rfl rfl <| RJ_splitP 67 rfl bT_dec (fun hg12B hg12 => ?_) (fun hg12B hg12 => ?_)
   ·
    replace h := ite_t hg12 h
    refine RJ_gn (GY_no rfl rfl rfl hg12B) rfl rfl <| RJ_gn (GY_no rfl rfl rfl hg12B) rfl rfl <| RJ_gn (GY_no rfl rfl rfl hg12B) rfl rfl <| RJ_gn (GY_no rfl rfl rfl hg12B) rfl rfl <| RJ_gn (GY_no rfl rfl rfl hg12B) rfl rfl <| RJ_gn (GY_undef rfl rfl rfl) rfl rfl <| RJ_gn (GY_undef rfl rfl rfl) rfl rfl <| RJ_gn (GY_no rfl rfl rfl hg12B) rfl rfl <| oP (P_pickT rfl hg12B rfl) rfl <| oA rfl rfl <| nT <| CJ_ret ?_
    cases h
    exact fE (res1 Tryz.results19 rfl) () (t0_ (t0_ (eD eR)))
   ·
    replace h := ite_f hg12 h
    refine gP (GY_yes rfl rfl rfl hg12B) (P_move rfl) rfl <| gP (GY_yes rfl rfl rfl hg12B) (P_fieldAddr rfl ⟨_, _, _, Tryz.runUnderlying49, rfl, rfl, Tryz.sizeOf44, rfl⟩) rfl <| gV (GY_yes rfl rfl rfl hg12B) (V_load rfl foc2 rfl Tryz.isAgg44) rfl ?_
    obtain ⟨r28, hr29, h⟩ := bind_e h
    refine RJ_gy (GY_yes rfl rfl rfl hg12B) <| O_call (L_volumegroupmake_Owner_Power hr29) rfl Tryz.call41 (Dels.cons del0 (Dels.cons del0 Dels.nil)) rfl fun _ _ => gP (GY_yes rfl rfl rfl hg12B) (P_move rfl) rfl <| RJ_splitP 72 rfl Iff.rfl (fun hg13B hg13 => ?_) (fun hg13B hg13 => ?_)
    ·
     replace h := ite_t hg13 h
     refine gP (GY_yes rfl rfl rfl hg13B) (P_move rfl) rfl ?_
     obtain ⟨r30, hr31, h⟩ := bind_e h
     refine RJ_gy (GY_yes rfl rfl rfl hg13B) <| O_call (L_volumegroupmake_Owner_Settled hr31) rfl Tryz.call60 (Dels.cons del0 (Dels.cons del0 Dels.nil)) rfl fun _ _ => gP (GY_yes rfl rfl rfl hg12B) (P_pickT rfl hg13B rfl) rfl <| oP (P_pickF rfl hg12B rfl) rfl <| oA rfl rfl <| nT <| CJ_ret ?_
     cases h
     exact fE (res1 Tryz.results19 rfl) () (t0_ (t0_ (eD eR)))
    ·
     replace h := ite_f hg13 h
     refine RJ_gn (GY_no rfl rfl rfl hg13B) rfl rfl <| RJ_gn (GY_no rfl rfl rfl hg13B) rfl rfl <| gP (GY_yes rfl rfl rfl hg12B) (P_pickF rfl hg13B rfl) rfl <| oP (P_pickF rfl hg12B rfl) rfl <| oA rfl rfl <| nT <| CJ_ret ?_
     cases h
     exact fE (res1 Tryz.results19 rfl) () (t0_ (t0_ (eD eR)))
def volumegroupmake_Owner_Play_l1_b (l : List volumegroupmake_Step) (lose : Int) (disk : Int) (leg : Int) (rec : OwnS → ArrS → Nat → Option ((OwnS × ArrS) ⊕ (Bool × OwnS × ArrS))) (x46 : OwnS) (x47 : ArrS) (x48 : Nat) : Option ((OwnS × ArrS) ⊕ (Bool × OwnS × ArrS)) :=
  if (((x48 : Nat) : Int) < ((l.length : Nat) : Int)) then
    if (((x48 : Nat) : Int) = lose) then
      Option.bind (volumegroupmake_Owner_Lose x46 disk leg x47) fun r49 =>
      if (¬ r49.1 = true) then
        some (.inr (false, r49.2.1, r49.2.2))
      else
        Option.bind (volumegroupmake_Owner_Step r49.2.1 ((l.getD x48 (⟨0, 0, 0, 0⟩ : volumegroupmake_Step))) r49.2.2) fun r51 =>
        if (¬ r51.1 = true) then
          some (.inr (false, r51.2.1, r51.2.2))
        else
          rec r51.2.1 r51.2.2 (x48 + 1)
    else
      Option.bind (volumegroupmake_Owner_Step x46 ((l.getD x48 (⟨0, 0, 0, 0⟩ : volumegroupmake_Step))) x47) fun r53 =>
      if (¬ r53.1 = true) then
        some (.inr (false, r53.2.1, r53.2.2))
      else
        rec r53.2.1 r53.2.2 (x48 + 1)
  else
    some (.inl (x46, x47))
def volumegroupmake_Owner_Play_l1 (l : List volumegroupmake_Step) (lose : Int) (disk : Int) (leg : Int) : Nat → OwnS → ArrS → Nat → Option ((OwnS × ArrS) ⊕ (Bool × OwnS × ArrS))
  | 0, _, _, _ => none
  | n + 1, x46, x47, x48 => volumegroupmake_Owner_Play_l1_b l lose disk leg (volumegroupmake_Owner_Play_l1 l lose disk leg n) x46 x47 x48
def volumegroupmake_Owner_Play (o : OwnS) (l : List volumegroupmake_Step) (lose : Int) (disk : Int) (leg : Int) (s : ArrS) : Option (Bool × OwnS × ArrS) :=
  Option.bind (volumegroupmake_Owner_Begin o s) fun r8 =>
  if ((¬ r8.1 = true) ∨ (((r8.2.1.T.length : Nat) : Int) = (0 : Int))) then
    some (((decide (((r8.2.1.T.length : Nat) : Int) = (0 : Int))), r8.2.1, r8.2.2))
  else
    seqO (volumegroupmake_Owner_Play_l1 l lose disk leg FUEL r8.2.1 r8.2.2 0) fun a45 =>
    grd (inI64 (0 : Int)) <|
    if ({ a45.2 with fuse := ((0 : Int)).toNat }).down = true then
      Option.bind (volumegroupmake_Owner_Power a45.1 (0 : UInt64) ({ a45.2 with fuse := ((0 : Int)).toNat })) fun r64 =>
      if (¬ r64.1 = true) then
        some (false, r64.2.1, r64.2.2)
      else
        Option.bind (volumegroupmake_Owner_All r64.2.1 false r64.2.2) fun r66 =>
        if r66.1 = true then
          Option.bind (volumegroupmake_Owner_Power r66.2.1 (0 : UInt64) r66.2.2) fun r68 =>
          if r68.1 = true then
            Option.bind (volumegroupmake_Owner_All r68.2.1 true r68.2.2) fun r70 =>
            if r70.1 = true then
              Option.bind (volumegroupmake_Owner_All r70.2.1 true r70.2.2) fun r72 =>
              some (r72.1, r72.2.1, r72.2.2)
            else
              some (false, r70.2.1, r70.2.2)
          else
            some (false, r68.2.1, r68.2.2)
        else
          some (false, r66.2.1, r66.2.2)
    else
      Option.bind (volumegroupmake_Owner_All a45.1 false ({ a45.2 with fuse := ((0 : Int)).toNat })) fun r74 =>
      if r74.1 = true then
        Option.bind (volumegroupmake_Owner_Power r74.2.1 (0 : UInt64) r74.2.2) fun r76 =>
        if r76.1 = true then
          Option.bind (volumegroupmake_Owner_All r76.2.1 true r76.2.2) fun r78 =>
          if r78.1 = true then
            Option.bind (volumegroupmake_Owner_All r78.2.1 true r78.2.2) fun r80 =>
            some (r80.1, r80.2.1, r80.2.2)
          else
            some (false, r78.2.1, r78.2.2)
        else
          some (false, r76.2.1, r76.2.2)
      else
        some (false, r74.2.1, r74.2.2)
theorem L_volumegroupmake_Owner_Play {W : World} {bo : Nat} {Al : HP} {vl : Value} {bs : Nat} {o : OwnS} {l : List volumegroupmake_Step} {lose : Int} {disk : Int} {leg : Int} {s : ArrS} {r : Bool × OwnS × ArrS} (rl : Reads Al tyvolumegroupmake_Step vl l) (h : volumegroupmake_Owner_Play o l lose disk leg s = some r) :
    CSpec Tryz.prog W 14 [ptr bo 0, vl, .int .i64 lose, .int .i64 disk, .int .i64 leg] [OwnP bs bo o, Al, Arr bs s] (fun x : Unit => .bool r.1) (fun _ => True) (fun x F => OwnP bs bo r.2.1 :: Al :: Arr bs r.2.2 :: F) := by
 refine CSpec.of_body Tryz.func14 rfl Tryz.ntmps14 rfl fun F => ?_
 show CJ _ _ _ _ _ _ (_ :: _ :: _ :: F)
 unfold volumegroupmake_Owner_Play at h
 refine CJ_pure (len_of rl del1) fun hlen1 => sR <| oA rfl rfl <| nT <| CJ_seq <| CJ_seq <| CJ_entX (Ent.transX (t0_ eR) (OwnP_open (l := o))) fun oc2 => lC del5 fun hlen4 => lC del6 fun hlen5 => CJ_entX (Ent.transX (t4_ eR) Trk_open) fun tc6 => CJ_pur fun hS7 => CJ_region <| oM rfl rfl <| RJ_ent (Ent.trans (t0_ (t0_ (t0_ eR))) (Trk_close hS7)) <| RJ_ent (Ent.trans (t1_ (t1_ (t1_ (t1_ eR)))) (OwnP_mk (v0 := o.Open_1) (v1 := o.X) (v2 := o.T) (v3 := o.Stale) (v4 := o.Lost) (h0 := oc2.1) (h1 := oc2.2.1) (h2 := oc2.2.2.1) (h3 := oc2.2.2.2.1) (h4 := oc2.2.2.2.2.1) (h5 := oc2.2.2.2.2.2))) ?_
 obtain ⟨r8, hr9, h⟩ := bind_e h
 refine oO <| O_call (L_volumegroupmake_Owner_Begin hr9) rfl Tryz.call18 (Dels.cons del0 (Dels.cons del1 Dels.nil)) rfl fun _ _ => oP (P_not rfl) rfl <| oM rfl rfl <| RJ_mbF rfl rfl rfl (fun hG10 => have hP11 : ¬ (¬ r8.1 = true) := nP ((bT_not Iff.rfl)) hG10; VJ_P (P_move rfl)) <| RJ_mbF rfl rfl rfl (fun hG12 => have hP13 : ¬ (¬ r8.1 = true) := nP ((bT_not Iff.rfl)) hG12; VJ_P (P_nilCheck (mbx hG12 rfl))) <| RJ_mbF rfl rfl rfl (fun hG14 => have hP15 : ¬ (¬ r8.1 = true) := nP ((bT_not Iff.rfl)) hG14; VJ_P (P_fieldAddr (mbx hG14 rfl) ⟨_, _, _, Tryz.runUnderlying37, rfl, rfl, Tryz.sizeOf34, rfl⟩)) <| RJ_entX (Ent.transX (t0_ eR) (OwnP_open (l := r8.2.1))) fun oc18 => RJ_pure (len_of (Reads.sl _ _ _) del5) fun hlen20 => RJ_pure (len_of (Reads.sl _ _ _) del6) fun hlen21 => RJ_mbF rfl rfl rfl (fun hG16 => have hP17 : ¬ (¬ r8.1 = true) := nP ((bT_not Iff.rfl)) hG16; V_load (mbx hG16 rfl) foc0 rfl Tryz.isAgg34) <| RJ_mbF rfl rfl rfl (fun hG22 => have hP23 : ¬ (¬ r8.1 = true) := nP ((bT_not Iff.rfl)) hG22; VJ_P (P_nilCheck (mbx hG22 rfl))) <| RJ_mbF rfl rfl rfl (fun hG24 => have hP25 : ¬ (¬ r8.1 = true) := nP ((bT_not Iff.rfl)) hG24; VJ_P (P_fieldAddr (mbx hG24 rfl) ⟨_, _, _, Tryz.runUnderlying56, rfl, rfl, Tryz.sizeOf54, rfl⟩)) <| RJ_entX (Ent.transX (t4_ eR) Trk_open) fun tc28 => RJ_pur fun hS29 => RJ_mbF rfl rfl rfl (fun hG26 => have hP27 : ¬ (¬ r8.1 = true) := nP ((bT_not Iff.rfl)) hG26; V_load (mbx hG26 rfl) foc0 rfl Tryz.isAgg54) ?_
 refine RJ_mbF rfl rfl rfl (fun hG30 => have hP31 : ¬ (¬ r8.1 = true) := nP ((bT_not Iff.rfl)) hG30; VJ_eq (V_len (mbx hG30 rfl) foc1 (Reads.sl _ _ _) Tryz.runUnderlying54) (congrArg (fun z : Nat => Value.int .i64 (z : Int)) hS29.len.symm)) <| RJ_mbF rfl rfl rfl (fun hG32 => have hP33 : ¬ (¬ r8.1 = true) := nP ((bT_not Iff.rfl)) hG32; VJ_P (P_eql (a := ((r8.2.1.T.length : Nat) : Int)) (b := (0 : Int)) (mbx hG32 rfl) rfl)) <| oP (P_pickOr rfl rfl (fun hh => mbx (not_f hh) rfl)) rfl <| RJ_nil <| QJ_ent (Ent.trans (t0_ (t0_ (t0_ eR))) (Trk_close hS29)) <| QJ_ent (Ent.trans (t1_ (t1_ (t1_ (t1_ eR)))) (OwnP_mk (v0 := r8.2.1.Open_1) (v1 := r8.2.1.X) (v2 := r8.2.1.T) (v3 := r8.2.1.Stale) (v4 := r8.2.1.Lost) (h0 := oc18.1) (h1 := oc18.2.1) (h2 := oc18.2.2.1) (h3 := oc18.2.2.2.1) (h4 := oc18.2.2.2.2.1) (h5 := oc18.2.2.2.2.2))) <| QJ_then <| CJ_condP rfl (bT_or (bT_not Iff.rfl) bT_dec) (fun hg1 => ?_) (fun hg1 => ?_)
 ·
  replace h := ite_t hg1 h
  refine CJ_seq <| CJ_entX (Ent.transX (t0_ eR) (OwnP_open (l := r8.2.1))) fun oc34 => lC del5 fun hlen36 => lC del6 fun hlen37 => CJ_entX (Ent.transX (t4_ eR) Trk_open) fun tc38 => CJ_pur fun hS39 => CJ_region <| oM rfl rfl <| oP (P_nilCheck rfl) rfl <| oP (P_fieldAddr rfl ⟨_, _, _, Tryz.runUnderlying37, rfl, rfl, Tryz.sizeOf34, rfl⟩) rfl <| oV (V_load rfl foc3 rfl Tryz.isAgg34) rfl <| oP (P_nilCheck rfl) rfl <| oP (P_fieldAddr rfl ⟨_, _, _, Tryz.runUnderlying56, rfl, rfl, Tryz.sizeOf54, rfl⟩) rfl <| oV (V_load rfl foc0 rfl Tryz.isAgg54) rfl <| oV (VJ_eq (V_len rfl foc1 (Reads.sl _ _ _) Tryz.runUnderlying54) (congrArg (fun z : Nat => Value.int .i64 (z : Int)) hS39.len.symm)) rfl <| oP (P_eql (a := ((r8.2.1.T.length : Nat) : Int)) (b := (0 : Int)) rfl rfl) rfl <| oA rfl rfl <| RJ_nil <| QJ_ent (Ent.trans (t0_ (t0_ (t0_ eR))) (Trk_close hS39)) <| QJ_ent (Ent.trans (t1_ (t1_ (t1_ (t1_ eR)))) (OwnP_mk (v0 := r8.2.1.Open_1) (v1 := r8.2.1.X) (v2 := r8.2.1.T) (v3 := r8.2.1.Stale) (v4 := r8.2.1.Lost) (h0 := oc34.1) (h1 := oc34.2.1) (h2 := oc34.2.2.1) (h3 := oc34.2.2.2.1) (h4 := oc34.2.2.2.2.1) (h5 := oc34.2.2.2.2.2))) <| QJ_then <| CJ_ret <| QJ_then_ret ?_
  cases h
  exact fE (res1 Tryz.results14 rfl) () (t0_ (t1_ eR))
 ·
  replace h := ite_f hg1 h
  refine kT <| CJ_seq <| sR <| oA rfl rfl <| nT ?_
  obtain ⟨y42, hl40, hK41⟩ := seq_e h
  refine CJ_cutT (X := OwnS × ArrS) [10, 11, 35, 36, 37, 38, 39, 40, 41, 42, 43, 44, 45, 46, 47, 48, 49, 50, 51, 52, 53, 54, 55, 56, 57, 58, 59] (fun a45 => ([] : Slots)) (fun a45 R => OwnP bs bo a45.1 :: Arr bs a45.2 :: R) (fun a45 => y42 = .inl a45) (Dels.cons del0 (Dels.cons del0 Dels.nil)) ?_ ?_
  ·
   refine CJ_block <| CJ_loopR (X := Nat × OwnS × ArrS × Nat) [10, 11, 35, 36, 37, 38, 39, 40, 41, 42, 43, 44, 45, 46, 47, 48, 49, 50, 51, 52, 53, 54, 55, 56, 57, 58, 59] (fun ⟨n, x46, x47, x48⟩ => ([(11, .int .i64 (((x48 : Nat) : Int)))] : Slots)) (fun ⟨n, x46, x47, x48⟩ R => OwnP bs bo x46 :: Arr bs x47 :: R) (fun ⟨n, x46, x47, x48⟩ => volumegroupmake_Owner_Play_l1 l lose disk leg n x46 x47 x48 = some y42) (fun ⟨n, x46, x47, x48⟩ => n) ⟨FUEL, r8.2.1, r8.2.2, 0⟩ ?_ ?_ eR ?_
   · exact hl40
   · exact ⟨rfl, True.intro⟩
   ·
    rintro ⟨n, x46, x47, x48⟩ h
    cases n with
    | zero => exact none_e h
    | succ n => ?_
    replace h : volumegroupmake_Owner_Play_l1_b l lose disk leg (volumegroupmake_Owner_Play_l1 l lose disk leg n) x46 x47 x48 = some y42 := h
    unfold volumegroupmake_Owner_Play_l1_b at h
    show CJ _ _ _ _ _ (([(11, .int .i64 (((x48 : Nat) : Int)))] : Slots) ++ forget _ _) (OwnP bs bo x46 :: Arr bs x47 :: _)
    refine CJ_seq <| sR <| oM rfl rfl <| oM rfl rfl <| oV (V_len rfl foc2 rl Tryz.runUnderlying22) rfl <| oP (P_lss (a := ((x48 : Nat) : Int)) (b := ((l.length : Nat) : Int)) rfl rfl) rfl <| nT <| CJ_condP rfl bT_dec (fun hg2 => ?_) (fun hg2 => ?_)
    ·
     replace h := ite_t hg2 h
     refine kT <| CJ_seq <| CJ_block <| sR <| oM rfl rfl <| oM rfl rfl <| oP (P_eql (a := ((x48 : Nat) : Int)) (b := lose) rfl rfl) rfl <| oM rfl rfl <| RJ_splitP 44 rfl bT_dec (fun hg3B hg3 => ?_) (fun hg3B hg3 => ?_)
     ·
      replace h := ite_t hg3 h
      refine gP (GY_yes rfl rfl rfl hg3B) (P_move rfl) rfl <| gP (GY_yes rfl rfl rfl hg3B) (P_move rfl) rfl <| gP (GY_yes rfl rfl rfl hg3B) (P_move rfl) rfl ?_
      obtain ⟨r49, hr50, h⟩ := bind_e h
      refine RJ_gy (GY_yes rfl rfl rfl hg3B) <| O_call (L_volumegroupmake_Owner_Lose hr50) rfl Tryz.call40 (Dels.cons del0 (Dels.cons del0 Dels.nil)) rfl fun _ _ => gP (GY_yes rfl rfl rfl hg3B) (P_not rfl) rfl <| oP (P_pickT rfl hg3B rfl) rfl <| oM rfl rfl <| RJ_splitP 51 rfl (bT_not Iff.rfl) (fun hg4B hg4 => ?_) (fun hg4B hg4 => ?_)
      ·
       replace h := ite_t hg4 h
       refine RJ_gn (GY_no rfl rfl rfl hg4B) rfl rfl <| RJ_gn (GY_no rfl rfl rfl hg4B) rfl rfl <| RJ_gn (GY_no rfl rfl rfl hg4B) rfl rfl <| RJ_gn (GY_no rfl rfl rfl hg4B) rfl rfl <| RJ_gn (GY_no rfl rfl rfl hg4B) rfl rfl <| RJ_gn (GY_no rfl rfl rfl hg4B) rfl rfl <| RJ_gn (GY_no rfl rfl rfl hg4B) rfl rfl <| oP (P_pickT rfl hg4B rfl) rfl <| nT <| CJ_condT rfl rfl <| sR <| oA rfl rfl <| nT <| CJ_ret <| QJ_block_ret <| QJ_then_ret <| QJ_round_ret <| QJ_block_ret <| QJ_then_ret ?_
       have hE := Option.some.inj h
       replace hE := seq_inr hK41 hE.symm
       subst hE
       exact fE (res1 Tryz.results14 rfl) () (t0_ (t1_ eR))
      ·
       replace h := ite_f hg4 h
       refine gP (GY_yes rfl rfl rfl hg4B) (P_move rfl) rfl <| gP (GY_yes rfl rfl rfl hg4B) (P_move rfl) rfl <| gP (GY_yes rfl rfl rfl hg4B) (P_move rfl) rfl <| gV (GY_yes rfl rfl rfl hg4B) (V_index (i := x48) rfl rfl rfl (by omega) foc2 rl Tryz.runUnderlying22 Tryz.sizeOf49) rfl <| gV (GY_yes rfl rfl rfl hg4B) (V_loadEN rfl rfl (by omega) foc2 rl rfl rfl Tryz.isAgg49 Tryz.sizeOf49) rfl ?_
       obtain ⟨r51, hr52, h⟩ := bind_e h
       refine RJ_gy (GY_yes rfl rfl rfl hg4B) <| O_call (L_volumegroupmake_Owner_Step hr52) rfl Tryz.call19 (Dels.cons del0 (Dels.cons del0 Dels.nil)) rfl fun _ _ => gP (GY_yes rfl rfl rfl hg4B) (P_not rfl) rfl <| oP (P_pickF rfl hg4B rfl) rfl <| nT <| CJ_condP rfl (bT_not Iff.rfl) (fun hg5 => ?_) (fun hg5 => ?_)
       ·
        replace h := ite_t hg5 h
        refine sR <| oA rfl rfl <| nT <| CJ_ret <| QJ_block_ret <| QJ_then_ret <| QJ_round_ret <| QJ_block_ret <| QJ_then_ret ?_
        have hE := Option.some.inj h
        replace hE := seq_inr hK41 hE.symm
        subst hE
        exact fE (res1 Tryz.results14 rfl) () (t0_ (t1_ eR))
       ·
        replace h := ite_f hg5 h
        exact CJ_skip <| QJ_block_normal <| QJ_then <| CJ_region <| oM rfl rfl <| oP (PJ_eq (P_add (a := ((x48 : Nat) : Int)) (b := (1 : Int)) rfl rfl (by omega)) rfl) rfl <| oA rfl rfl <| RJ_nil <| nR ⟨n, r51.2.1, r51.2.2, (x48 + 1)⟩ h ⟨rfl, True.intro⟩ eR
     ·
      replace h := ite_f hg3 h
      refine RJ_gn (GY_no rfl rfl rfl hg3B) rfl rfl <| RJ_gn (GY_no rfl rfl rfl hg3B) rfl rfl <| RJ_gn (GY_no rfl rfl rfl hg3B) rfl rfl <| RJ_gn (GY_no rfl rfl rfl hg3B) rfl rfl <| RJ_gn (GY_no rfl rfl rfl hg3B) rfl rfl <| oP (P_pickF rfl hg3B rfl) rfl <| oM rfl rfl <| gP (GY_yes rfl rfl rfl rfl) (P_move rfl) rfl <| gP (GY_yes rfl rfl rfl rfl) (P_move rfl) rfl <| gP (GY_yes rfl rfl rfl rfl) (P_move rfl) rfl <| gV (GY_yes rfl rfl rfl rfl) (V_index (i := x48) rfl rfl rfl (by omega) foc2 rl Tryz.runUnderlying22 Tryz.sizeOf49) rfl <| gV (GY_yes rfl rfl rfl rfl) (V_loadEN rfl rfl (by omega) foc2 rl rfl rfl Tryz.isAgg49 Tryz.sizeOf49) rfl ?_
      obtain ⟨r53, hr54, h⟩ := bind_e h
      refine RJ_gy (GY_yes rfl rfl rfl rfl) <| O_call (L_volumegroupmake_Owner_Step hr54) rfl Tryz.call19 (Dels.cons del0 (Dels.cons del0 Dels.nil)) rfl fun _ _ => gP (GY_yes rfl rfl rfl rfl) (P_not rfl) rfl <| oP (P_pickF rfl rfl rfl) rfl <| nT <| CJ_condP rfl (bT_not Iff.rfl) (fun hg6 => ?_) (fun hg6 => ?_)
      ·
       replace h := ite_t hg6 h
       refine sR <| oA rfl rfl <| nT <| CJ_ret <| QJ_block_ret <| QJ_then_ret <| QJ_round_ret <| QJ_block_ret <| QJ_then_ret ?_
       have hE := Option.some.inj h
       replace hE := seq_inr hK41 hE.symm
       subst hE
       exact fE (res1 Tryz.results14 rfl) () (t0_ (t1_ eR))
      ·
       replace h := ite_f hg6 h
       exact CJ_skip <| QJ_block_normal <| QJ_then <| CJ_region <| oM rfl rfl <| oP (PJ_eq (P_add (a := ((x48 : Nat) : Int)) (b := (1 : Int)) rfl rfl (by omega)) rfl) rfl <| oA rfl rfl <| RJ_nil <| nR ⟨n, r53.2.1, r53.2.2, (x48 + 1)⟩ h ⟨rfl, True.intro⟩ eR
    ·
     replace h := ite_f hg2 h
     exact CJ_exit <| QJ_then_exit <| QJ_round_exit <| QJ_block_here <| cR (x46, x47) (Option.some.inj h).symm True.intro eR
  ·
   rintro a45 hy55
   replace h := seq_inl hK41 hy55
   show CJ _ _ _ _ _ (([] : Slots) ++ forget _ _) (OwnP bs bo a45.1 :: Arr bs a45.2 :: _)
   refine CJ_seq <| CJ_entX (Ent.transX (t0_ eR) (OwnP_open (l := a45.1))) fun oc56 => lC del5 fun hlen58 => lC del6 fun hlen59 => CJ_region <| oM rfl rfl <| oP (P_nilCheck rfl) rfl <| oP (P_fieldAddr rfl ⟨_, _, _, Tryz.runUnderlying37, rfl, rfl, Tryz.sizeOf30, rfl⟩) rfl <| oV (V_load rfl foc0 rfl Tryz.isAgg30) rfl ?_
   obtain ⟨hg7, h⟩ := grd_Ie h
   refine oO <| O_call (c_FuseD hg7.2) rfl Tryz.call48 (Dels.cons del7 Dels.nil) rfl fun _ _ => RJ_nil <| QJ_ent (Ent.trans (t1_ (t1_ (t1_ (t1_ (t1_ (t1_ (t1_ eR))))))) (OwnP_mk (v0 := a45.1.Open_1) (v1 := a45.1.X) (v2 := a45.1.T) (v3 := a45.1.Stale) (v4 := a45.1.Lost) (h0 := oc56.1) (h1 := oc56.2.1) (h2 := oc56.2.2.1) (h3 := oc56.2.2.2.1) (h4 := oc56.2.2.2.2.1) (h5 := oc56.2.2.2.2.2))) <| QJ_then <| CJ_seq <| CJ_seq <| CJ_entX (Ent.transX (t0_ eR) (OwnP_open (l := a45.1))) fun oc60 => lC del5 fun hlen62 => lC del6 fun hlen63 => CJ_region <| oM rfl rfl <| oP (P_nilCheck rfl) rfl <| oP (P_fieldAddr rfl ⟨_, _, _, Tryz.runUnderlying37, rfl, rfl, Tryz.sizeOf30, rfl⟩) rfl <| oV (V_load rfl foc0 rfl Tryz.isAgg30) rfl <| oO <| O_call (c_Down) rfl Tryz.call49 (Dels.cons del7 Dels.nil) rfl fun _ _ => oM rfl rfl <| RJ_splitP 70 rfl Iff.rfl (fun hg8B hg8 => ?_) (fun hg8B hg8 => ?_)
   ·
    replace h := ite_t hg8 h
    refine gP (GY_yes rfl rfl rfl hg8B) (P_move rfl) rfl <| RJ_ent (Ent.trans (t1_ (t1_ (t1_ (t1_ (t1_ (t1_ (t1_ eR))))))) (OwnP_mk (v0 := a45.1.Open_1) (v1 := a45.1.X) (v2 := a45.1.T) (v3 := a45.1.Stale) (v4 := a45.1.Lost) (h0 := oc60.1) (h1 := oc60.2.1) (h2 := oc60.2.2.1) (h3 := oc60.2.2.2.1) (h4 := oc60.2.2.2.2.1) (h5 := oc60.2.2.2.2.2))) ?_
    obtain ⟨r64, hr65, h⟩ := bind_e h
    refine RJ_gy (GY_yes rfl rfl rfl hg8B) <| O_call (L_volumegroupmake_Owner_Power hr65) rfl Tryz.call41 (Dels.cons del0 (Dels.cons del0 Dels.nil)) rfl fun _ _ => gP (GY_yes rfl rfl rfl hg8B) (P_not rfl) rfl <| oP (P_pickT rfl hg8B rfl) rfl <| nT <| CJ_condP rfl (bT_not Iff.rfl) (fun hg9 => ?_) (fun hg9 => ?_)
    ·
     replace h := ite_t hg9 h
     refine sR <| oA rfl rfl <| nT <| CJ_ret <| QJ_then_ret ?_
     cases h
     exact fE (res1 Tryz.results14 rfl) () (t0_ (t1_ eR))
    ·
     replace h := ite_f hg9 h
     refine kT <| sR <| oM rfl rfl ?_
     obtain ⟨r66, hr67, h⟩ := bind_e h
     refine oO <| O_call (L_volumegroupmake_Owner_All hr67) rfl Tryz.call21 (Dels.cons del0 (Dels.cons del0 Dels.nil)) rfl fun _ _ => oM rfl rfl <| RJ_splitP 77 rfl Iff.rfl (fun hg10B hg10 => ?_) (fun hg10B hg10 => ?_)
     ·
      replace h := ite_t hg10 h
      refine gP (GY_yes rfl rfl rfl hg10B) (P_move rfl) rfl ?_
      obtain ⟨r68, hr69, h⟩ := bind_e h
      refine RJ_gy (GY_yes rfl rfl rfl hg10B) <| O_call (L_volumegroupmake_Owner_Power hr69) rfl Tryz.call41 (Dels.cons del0 (Dels.cons del0 Dels.nil)) rfl fun _ _ => oP (P_pickT rfl hg10B rfl) rfl <| oM rfl rfl <| RJ_splitP 81 rfl Iff.rfl (fun hg11B hg11 => ?_) (fun hg11B hg11 => ?_)
      ·
       replace h := ite_t hg11 h
       refine gP (GY_yes rfl rfl rfl hg11B) (P_move rfl) rfl ?_
       obtain ⟨r70, hr71, h⟩ := bind_e h
       refine RJ_gy (GY_yes rfl rfl rfl hg11B) <| O_call (L_volumegroupmake_Owner_All hr71) rfl Tryz.call21 (Dels.cons del0 (Dels.cons del0 Dels.nil)) rfl fun _ _ => oP (P_pickT rfl hg11B rfl) rfl <| oM rfl rfl <| RJ_splitP 85 rfl Iff.rfl (fun hg12B hg12 => ?_) (fun hg12B hg12 => ?_)
       ·
        replace h := ite_t hg12 h
        refine gP (GY_yes rfl rfl rfl hg12B) (P_move rfl) rfl ?_
        obtain ⟨r72, hr73, h⟩ := bind_e h
        refine RJ_gy (GY_yes rfl rfl rfl hg12B) <| O_call (L_volumegroupmake_Owner_All hr73) rfl Tryz.call21 (Dels.cons del0 (Dels.cons del0 Dels.nil)) rfl fun _ _ => oP (P_pickT rfl hg12B rfl) rfl <| oA rfl rfl <| nT <| CJ_ret ?_
        cases h
        exact fE (res1 Tryz.results14 rfl) () (t0_ (t1_ eR))
       ·
        replace h := ite_f hg12 h
        refine RJ_gn (GY_no rfl rfl rfl hg12B) rfl rfl <| RJ_gn (GY_no rfl rfl rfl hg12B) rfl rfl <| oP (P_pickF rfl hg12B rfl) rfl <| oA rfl rfl <| nT <| CJ_ret ?_
        cases h
        exact fE (res1 Tryz.results14 rfl) () (t0_ (t1_ eR))
      ·
       replace h := ite_f hg11 h
       refine RJ_gn (GY_no rfl rfl rfl hg11B) rfl rfl <| RJ_gn (GY_no rfl rfl rfl hg11B) rfl rfl <| oP (P_pickF rfl hg11B rfl) rfl <| oM rfl rfl <| RJ_gn (GY_no rfl rfl rfl rfl) rfl rfl <| RJ_gn (GY_no rfl rfl rfl rfl) rfl rfl <| oP (P_pickF rfl rfl rfl) rfl <| oA rfl rfl <| nT <| CJ_ret ?_
       cases h
       exact fE (res1 Tryz.results14 rfl) () (t0_ (t1_ eR))
     ·
      replace h := ite_f hg10 h
      refine RJ_gn (GY_no rfl rfl rfl hg10B) rfl rfl <| RJ_gn (GY_no rfl rfl rfl hg10B) rfl rfl <| oP (P_pickF rfl hg10B rfl) rfl <| oM rfl rfl <| RJ_gn (GY_no rfl rfl rfl rfl) rfl rfl <| RJ_gn (GY_no rfl rfl rfl rfl) rfl rfl <| oP (P_pickF rfl rfl rfl) rfl <| oM rfl rfl <| RJ_gn (GY_no rfl rfl rfl rfl) rfl rfl <| RJ_gn (GY_no rfl rfl rfl rfl) rfl rfl <| oP (P_pickF rfl rfl rfl) rfl <| oA rfl rfl <| nT <| CJ_ret ?_
      cases h
      exact fE (res1 Tryz.results14 rfl) () (t0_ (t1_ eR))
   ·
    replace h := ite_f hg8 h
    refine RJ_gn (GY_no rfl rfl rfl hg8B) rfl rfl <| RJ_gn (GY_no rfl rfl rfl hg8B) rfl rfl <| RJ_gn (GY_no rfl rfl rfl hg8B) rfl rfl <| oP (P_pickF rfl hg8B rfl) rfl <| RJ_nil <| QJ_ent (Ent.trans (t1_ (t1_ (t1_ (t1_ (t1_ (t1_ (t1_ eR))))))) (OwnP_mk (v0 := a45.1.Open_1) (v1 := a45.1.X) (v2 := a45.1.T) (v3 := a45.1.Stale) (v4 := a45.1.Lost) (h0 := oc60.1) (h1 := oc60.2.1) (h2 := oc60.2.2.1) (h3 := oc60.2.2.2.1) (h4 := oc60.2.2.2.2.1) (h5 := oc60.2.2.2.2.2))) <| QJ_then <| CJ_condF rfl rfl <| kT <| sR <| oM rfl rfl ?_
    obtain ⟨r74, hr75, h⟩ := bind_e h
    refine oO <| O_call (L_volumegroupmake_Owner_All hr75) rfl Tryz.call21 (Dels.cons del0 (Dels.cons del0 Dels.nil)) rfl fun _ _ => oM rfl rfl <| RJ_splitP 77 rfl Iff.rfl (fun hg13B hg13 => ?_) (fun hg13B hg13 => ?_)
    ·
     replace h := ite_t hg13 h
     refine gP (GY_yes rfl rfl rfl hg13B) (P_move rfl) rfl ?_
     obtain ⟨r76, hr77, h⟩ := bind_e h
     refine RJ_gy (GY_yes rfl rfl rfl hg13B) <| O_call (L_volumegroupmake_Owner_Power hr77) rfl Tryz.call41 (Dels.cons del0 (Dels.cons del0 Dels.nil)) rfl fun _ _ => oP (P_pickT rfl hg13B rfl) rfl <| oM rfl rfl <| RJ_splitP 81 rfl Iff.rfl (fun hg14B hg14 => ?_) (fun hg14B hg14 => ?_)
     ·
      replace h := ite_t hg14 h
      refine gP (GY_yes rfl rfl rfl hg14B) (P_move rfl) rfl ?_
      obtain ⟨r78, hr79, h⟩ := bind_e h
      refine RJ_gy (GY_yes rfl rfl rfl hg14B) <| O_call (L_volumegroupmake_Owner_All hr79) rfl Tryz.call21 (Dels.cons del0 (Dels.cons del0 Dels.nil)) rfl fun _ _ => oP (P_pickT rfl hg14B rfl) rfl <| oM rfl rfl <| RJ_splitP 85 rfl Iff.rfl (fun hg15B hg15 => ?_) (fun hg15B hg15 => ?_)
      ·
       replace h := ite_t hg15 h
       refine gP (GY_yes rfl rfl rfl hg15B) (P_move rfl) rfl ?_
       obtain ⟨r80, hr81, h⟩ := bind_e h
       refine RJ_gy (GY_yes rfl rfl rfl hg15B) <| O_call (L_volumegroupmake_Owner_All hr81) rfl Tryz.call21 (Dels.cons del0 (Dels.cons del0 Dels.nil)) rfl fun _ _ => oP (P_pickT rfl hg15B rfl) rfl <| oA rfl rfl <| nT <| CJ_ret ?_
       cases h
       exact fE (res1 Tryz.results14 rfl) () (t0_ (t1_ eR))
      ·
       replace h := ite_f hg15 h
       refine RJ_gn (GY_no rfl rfl rfl hg15B) rfl rfl <| RJ_gn (GY_no rfl rfl rfl hg15B) rfl rfl <| oP (P_pickF rfl hg15B rfl) rfl <| oA rfl rfl <| nT <| CJ_ret ?_
       cases h
       exact fE (res1 Tryz.results14 rfl) () (t0_ (t1_ eR))
     ·
      replace h := ite_f hg14 h
      refine RJ_gn (GY_no rfl rfl rfl hg14B) rfl rfl <| RJ_gn (GY_no rfl rfl rfl hg14B) rfl rfl <| oP (P_pickF rfl hg14B rfl) rfl <| oM rfl rfl <| RJ_gn (GY_no rfl rfl rfl rfl) rfl rfl <| RJ_gn (GY_no rfl rfl rfl rfl) rfl rfl <| oP (P_pickF rfl rfl rfl) rfl <| oA rfl rfl <| nT <| CJ_ret ?_
      cases h
      exact fE (res1 Tryz.results14 rfl) () (t0_ (t1_ eR))
    ·
     replace h := ite_f hg13 h
     refine RJ_gn (GY_no rfl rfl rfl hg13B) rfl rfl <| RJ_gn (GY_no rfl rfl rfl hg13B) rfl rfl <| oP (P_pickF rfl hg13B rfl) rfl <| oM rfl rfl <| RJ_gn (GY_no rfl rfl rfl rfl) rfl rfl <| RJ_gn (GY_no rfl rfl rfl rfl) rfl rfl <| oP (P_pickF rfl rfl rfl) rfl <| oM rfl rfl <| RJ_gn (GY_no rfl rfl rfl rfl) rfl rfl <| RJ_gn (GY_no rfl rfl rfl rfl) rfl rfl <| oP (P_pickF rfl rfl rfl) rfl <| oA rfl rfl <| nT <| CJ_ret ?_
     cases h
     exact fE (res1 Tryz.results14 rfl) () (t0_ (t1_ eR))
end Go.Proofs
namespace Go.Proofs
open Go.VG
section
variable {C : PC} {V V' V1 : Nat → Nat → UInt64} {st fl z : Option Nat} {q q' q1 : UInt64} {e e' e1 : PE} {k i j d f a b : Nat} {mz : Nat → Bool} {F : Prop} {K K' : Nat} {s t u : ArrS} {v w : UInt64} {T : List Sec} {o : OwnS} {p : Bool}
theorem UPv.mono (h : UPv C st z mz K V q e o s) (hK : K ≤ K') : UPv C st z mz K' V q e o s := ⟨h.x, h.ow, h.en.mono hK, h.jv, by have := h.qk; omega, h.qs, h.ti, h.tl.mono hK⟩
theorem oallP_l1 {g : Bool} : ∀ (N a : Nat) (o : OwnS) (st : Option Nat), C.D - a < N → a ≤ C.D → UPv C st z mz K V q e o s → K ≤ 50000 →
    ∃ st' o', volumegroupmake_Owner_All_l1 g N o s a = some (.inl (o', s)) ∧ UPv C st' z mz K V q e o' s
  | 0, _, _, _, h, _, _, _ => absurd h (by omega)
  | N + 1, a, o, st, h, ha, hu, hK => by
    have hD := @PC.hD C
    have hun : volumegroupmake_Owner_All_l1 g (N + 1) o s a = volumegroupmake_Owner_All_l1_b g (volumegroupmake_Owner_All_l1 g N) o s a := rfl
    rw [hun]
    unfold volumegroupmake_Owner_All_l1_b
    rw [hu.tl.len]
    by_cases hlt : a < C.D
    · obtain ⟨st', o', h1, h2, -, -⟩ := oreadP hu hK hlt (g := g)
      rw [if_pos (by omega), h1]; simp only [Option.bind_some]
      rw [if_neg (by simp), grd_t (inN64_of (by omega))]
      exact oallP_l1 N (a + 1) o' st' (by omega) (by omega) h2 hK
    · rw [if_neg (by omega)]
      exact ⟨st, o, rfl, hu⟩
theorem oallP (h : UPv C st z mz K V q e o s) (hK : K ≤ 50000) {g : Bool} : ∃ st' o', volumegroupmake_Owner_All o g s = some (true, o', s) ∧ UPv C st' z mz K V q e o' s := by
  have hF := fuel_big
  have hD := @PC.hD C
  unfold volumegroupmake_Owner_All
  obtain ⟨st', o', h1, h2⟩ := oallP_l1 (g := g) FUEL 0 o st (by omega) (by omega) h hK
  rw [h1, seqO_inl]
  exact ⟨st', o', rfl, h2⟩
theorem UPv.dnv (h : UPv C st z mz K V q e o s) : DNv C st z mz K o s := ⟨h.ow, ⟨h.en.ok, h.en.ms, trivial⟩, h.tl, .inl ⟨V, q, e, h.jv, h.qk, h.qs, h.ti.ok⟩⟩
theorem Cs.drop {S : (Nat → Nat → UInt64) → Prop} (h : Cs C none K S s) : Cs C st K S s := h.imp (fun ⟨V, q, e, h1, h2, h3, h4⟩ => ⟨V, q, e, h1, h2, h3.drop, h4⟩) (fun ⟨V, q, e, V', q', e', h1, h2, h3, h4, h5⟩ => ⟨V, q, e, V', q', e', h1, h2, h3, h4.drop, h5⟩)
theorem Cs.rc {S : (Nat → Nat → UInt64) → Prop} (hK : K ≤ 900000) (h : Cs C st K S s) (hr : Restarted C.ns K' s t) : ∃ V q e, Rc C st V q e t ∧ JV C V q e ∧ q.toNat ≤ K ∧ S V := by
  rcases h with ⟨V, q, e, h1, h2, h3, h4⟩ | ⟨V, q, e, V', q', e', h1, h2, h3, h4, h5, h6⟩
  · exact ⟨V, q, e, (Rr.of_Q h3 hr).rc, h1, h2, h4⟩
  · have hq := seq_add h1.sm
    have hq' : q'.toNat ≤ K := by rw [h3.q, hq]; exact h2
    rcases h4 with h4 | h4
    · rcases Rr.of_Hf h1 h3 h4 hr with y | y
      · exact ⟨V, q, e, y.rc, h1, by omega, h5⟩
      · exact ⟨V', q', e', y.rc, h3.jv (by omega), hq', h6⟩
    · exact ⟨V', q', e', (Rr.of_Fu (h3.ne h1.sm) h4 hr).rc, h3.jv (by omega), hq', h6⟩
theorem TI.failed (htl : TL C K T) (h : ∀ a, a < C.D → vlP C V a ∈ (T.getD a s0).some) : TI C (failedT T) V ∧ TL C K (failedT T) := by
  have hx : ∀ a, a < C.D → (failedT T).getD a s0 = failX (T.getD a s0) := fun a ha => by unfold failedT; exact secMapP (by rw [htl.len]; exact ha)
  refine ⟨⟨fun a ha => by rw [hx a ha]; exact h a ha, fun a ha => by rw [hx a ha]; intro y; cases y⟩, ⟨by unfold failedT; rw [List.length_map]; exact htl.len, fun a ha => by rw [hx a ha]; exact htl.sm a ha⟩⟩
theorem PEn.any (h : PEn C mz False K s) : PEn C mz True K s := ⟨h.ok, h.dn, h.ms, fun y => absurd trivial y⟩
theorem opowerP (h : DNv C st z mz K o s) (hK : K ≤ 50000) (keep : UInt64) :
    ∃ st' V q e o' t, volumegroupmake_Owner_Power o keep s = some (true, o', t) ∧ UPv C st' z mz (K + 50) V q e o' t ∧ PEn C mz False (K + 50) t := by
  obtain ⟨ks, hks⟩ := keep_ok keep
  have hr := h.gn.ok.rs ks
  unfold volumegroupmake_Owner_Power
  rw [hks]; simp only [Option.bind_some]
  rw [grd_t (inLen_of (by have := h.gn.ok.wr; omega))]
  have he : PEn C mz False K (rsS s ks) := ⟨hr.ok, hr.dn, fun e => by rw [hr.miss]; exact h.gn.ms e, fun _ => hr.fuse⟩
  obtain ⟨st', V, q, e, t, h1, h2, h3, h4, h5, h6, -⟩ := begin_eq (o := { o with T := failedT o.T }) (S := fun V q => q.toNat ≤ K ∧ ∀ a, a < C.D → vlP C V a ∈ (o.T.getD a s0).some) he (by omega) (h.ow.set rfl rfl rfl) (by show (failedT o.T).length = _; unfold failedT; rw [List.length_map]; exact h.tl.len) (fun st' hst' => by
    have hc : Cs C st' K (fun V => ∀ a, a < C.D → vlP C V a ∈ (o.T.getD a s0).some) s := by
      rcases hst' with rfl | rfl
      · exact h.cr
      · rcases h.ow.sz with y | y
        · have := h.cr
          rw [y] at this; exact this.drop
        · have := h.cr
          rw [y] at this; exact this
    obtain ⟨V, q, e, r1, r2, r3, r4⟩ := hc.rc (by omega) hr
    exact ⟨V, q, e, r1, r2, r3, r4⟩)
  rw [h1]
  obtain ⟨t1, t2⟩ := TI.failed h.tl h6.2
  exact ⟨st', V, q, e, _, t, rfl, ⟨⟨0, .inr rfl, rfl⟩, h2, (h3.any).mono (by omega), h4, by have := h6.1; omega, h5, t1, t2.mono (by omega)⟩, h3.mono (by omega)⟩
theorem oloseP (h : UPv C st none mz K V q e o s) (hk : k < C.L) : ∃ o', volumegroupmake_Owner_Lose o (k : Int) (k : Int) s = some (true, o', smS s k true) ∧ UPv C none (some k) (fun e => if e = k then true else mz e) K V q e o' (smS s k true) := by
  have hst : st = none := h.ow.sz.elim id id
  subst hst
  have hmz : ∀ i, mz i = false := fun i => by
    cases hm : mz i
    · rfl
    · exact absurd (h.ow.mzz i hm) (by simp)
  obtain ⟨f1, f2, f3, f4, f5, f6, f7⟩ := smS_facts h.en.ok (k := k) (by rw [PC.len]; exact hk)
  unfold volumegroupmake_Owner_Lose
  rw [show o.Lost = [] from h.ow.lost, addL_nil]; simp only [Option.bind_some]
  rw [f1, decide_eq_true rfl]
  refine ⟨_, rfl, ⟨h.x, ⟨h.ow.o1, h.ow.stl, rfl, fun i hi => ?_, .inl rfl, fun j hj => ?_⟩, ⟨f2, by rw [f6]; exact h.en.dn, fun e => by rw [f3, h.en.ms e], fun y => absurd trivial y⟩, h.jv, h.qk, fun d hd hds => (h.qs d hd hds).sam ⟨f4, f5⟩, h.ti, h.tl⟩⟩
  · by_cases y : i = k
    · rw [y]
    · rw [if_neg y, hmz] at hi; cases hi
  · cases hj; exact hk
theorem UPv.fuse (h : UPv C st z mz K V q e o s) {n : Nat} : UPv C st z mz K V q e o { s with fuse := n } := ⟨h.x, h.ow, ⟨h.en.ok.fuse, h.en.dn, h.en.ms, fun y => absurd trivial y⟩, h.jv, h.qk, fun d hd hds => (h.qs d hd hds).frame (fun _ => rfl) (fun _ _ => rfl), h.ti, h.tl⟩
theorem ostepP (h : UPv C st z mz K V q e o s) (hK : K ≤ 40000) (x : volumegroupmake_Step) :
    ∃ st' V' q' e' o' t, volumegroupmake_Owner_Step o x s = some (true, o', t) ∧ UPv C st' z mz (K + 100) V' q' e' o' t := by
  have hD := @PC.hD C
  obtain ⟨a, a1, a2, a3, a4⟩ := at_ok x.At (n := C.D) (by omega) (by omega)
  unfold volumegroupmake_Owner_Step
  rw [h.tl.len, grd_t (decide_eq_true (by omega)), grd_t (inI64_of (by omega)), grd_t (decide_eq_true (by omega)), a1]
  unfold lt
  simp only []
  -- what the request leads to
  have key : ∃ er o1 s1 , ((
    if (x.Kind = (0 : Int)) then
      Option.bind (volumegroupmake_Owner_Write o (a : Int) x.Value s) fun r17 =>
      some (r17.1, r17.2.1, r17.2.2.1, r17.2.2.2)
    else
      if (x.Kind = (1 : Int)) then
        Option.bind (volumegroupmake_Owner_Read o (a : Int) false s) fun r19 =>
        some (r19.1, r19.2.1, r19.2.2.1, r19.2.2.2)
      else
        if (x.Kind = (2 : Int)) then
          Option.bind (volumegroupmake_Owner_Flush o s) fun r21 =>
          some (r21.1, r21.2.1, r21.2.2.1, r21.2.2.2)
        else
          if (x.Kind = (3 : Int)) then
            some (((5 : Int), true, o, s))
          else
            if (x.Kind = (4 : Int)) then
              grd (inI64 (((1 : Int) + (a : Int)))) <|
              grd (inI64 (((1 : Int) + (a : Int)))) <|
              some (((0 : Int), true, o, { s with fuse := (((1 : Int) + (a : Int))).toNat }))
            else
              some (((0 : Int), true, o, s)) : Option (Int × Bool × OwnS × ArrS))) = some (er, true, o1, s1) ∧ (er = 0 ∧ (∃ st' V' q' e', UPv C st' z mz (K + 50) V' q' e' o1 s1) ∨ er = 5 ∧ ∃ st', DNv C st' z mz (K + 50) o1 s1) := by
    by_cases k0 : x.Kind = 0
    · rw [if_pos k0]
      rcases owriteP (w := x.Value) h (by omega) a2 with ⟨st', V', q', e', o', t, h1, h2, -⟩ | ⟨st', o', t, h1, h2, -⟩
      · rw [h1]; exact ⟨_, _, _, rfl, .inl ⟨rfl, st', V', q', e', h2⟩⟩
      · rw [h1]; exact ⟨_, _, _, rfl, .inr ⟨rfl, st', h2⟩⟩
    · rw [if_neg k0]
      by_cases k1 : x.Kind = 1
      · rw [if_pos k1]
        obtain ⟨st', o', h1, h2, -, -⟩ := oreadP h (by omega) a2 (g := false)
        rw [h1]; exact ⟨_, _, _, rfl, .inl ⟨rfl, st', V, q, e, h2.mono (by omega)⟩⟩
      · rw [if_neg k1]
        by_cases k2 : x.Kind = 2
        · rw [if_pos k2]
          obtain ⟨st', o', t, h1, h2, -⟩ := oflushP h (by omega)
          rw [h1]; exact ⟨_, _, _, rfl, .inl ⟨rfl, st', V, q, e, h2.mono (by omega)⟩⟩
        · rw [if_neg k2]
          by_cases k3 : x.Kind = 3
          · rw [if_pos k3]
            exact ⟨_, _, _, rfl, .inr ⟨rfl, st, (h.mono (by omega)).dnv⟩⟩
          · rw [if_neg k3]
            by_cases k4 : x.Kind = 4
            · rw [if_pos k4, grd_t (inI64_of (by omega)), grd_t (inI64_of (by omega))]
              exact ⟨_, _, _, rfl, .inl ⟨rfl, st, V, q, e, (h.mono (by omega)).fuse⟩⟩
            · rw [if_neg k4]
              exact ⟨_, _, _, rfl, .inl ⟨rfl, st, V, q, e, h.mono (by omega)⟩⟩
  obtain ⟨er, o1, s1, h1, h2⟩ := key
  rw [h1]; simp only [Option.bind_some]
  rw [if_neg (by simp)]
  rcases h2 with ⟨rfl, st', V', q', e', h2⟩ | ⟨rfl, st', h2⟩
  · rw [if_pos (by decide)]
    exact ⟨st', V', q', e', o1, s1, rfl, h2.mono (by omega)⟩
  · rw [if_neg (by decide)]
    obtain ⟨st2, V2, q2, e2, o2, s2, g1, g2, -⟩ := opowerP h2 (by omega) x.Keep
    rw [g1]; simp only [Option.bind_some]
    rw [if_pos trivial]
    unfold volumegroupmake_Owner_Settled
    obtain ⟨st3, o3, g3, g4⟩ := oallP g2 (by omega) (g := true)
    rw [g3]; simp only [Option.bind_some]
    exact ⟨st3, V2, q2, e2, o3, s2, rfl, g4.mono (by omega)⟩
theorem oplay_l1 {l : List volumegroupmake_Step} {lose : Int} (hk : k < C.L) (hl : l.length ≤ 24) : ∀ (N i : Nat) (o : OwnS) (s : ArrS) (st z : Option Nat) (mz : Nat → Bool) (V : Nat → Nat → UInt64) (q : UInt64) (e : PE), l.length - i < N → i ≤ l.length → UPv C st z mz (1000 + 200 * i) V q e o s → (lose < 0 ∨ z = none ∨ z = some k ∧ lose < (i : Int) ∧ 0 ≤ lose) →
    ∃ o' t st' z' mz' V' q' e', volumegroupmake_Owner_Play_l1 l lose (k : Int) (k : Int) N o s i = some (.inl (o', t)) ∧ UPv C st' z' mz' (1000 + 200 * 24) V' q' e' o' t ∧ (z' = z ∧ mz' = mz ∨ z' = some k ∧ 0 ≤ lose)
  | 0, _, _, _, _, _, _, _, _, _, h, _, _, _ => absurd h (by omega)
  | N + 1, i, o, s, st, z, mz, V, q, e, h, hi, hu, hz => by
    have hun : volumegroupmake_Owner_Play_l1 l lose (k : Int) (k : Int) (N + 1) o s i = volumegroupmake_Owner_Play_l1_b l lose (k : Int) (k : Int) (volumegroupmake_Owner_Play_l1 l lose (k : Int) (k : Int) N) o s i := rfl
    rw [hun]
    unfold volumegroupmake_Owner_Play_l1_b
    by_cases hlt : i < l.length
    · rw [if_pos (by omega)]
      by_cases hlo : (i : Int) = lose
      · have hz0 : z = none := by
          rcases hz with y | y | y
          · omega
          · exact y
          · omega
        subst hz0
        obtain ⟨o1, h1, h2⟩ := oloseP hu hk
        rw [if_pos hlo, h1]; simp only [Option.bind_some]
        rw [if_neg (by simp)]
        obtain ⟨st', V', q', e', o2, t, g1, g2⟩ := ostepP h2 (by omega) (l.getD i (⟨0, 0, 0, 0⟩ : volumegroupmake_Step))
        rw [g1]; simp only [Option.bind_some]
        rw [if_neg (by simp)]
        obtain ⟨o3, t3, st3, z3, mz3, V3, q3, e3, k1, k2, k3⟩ := oplay_l1 (lose := lose) hk hl N (i + 1) o2 t _ _ _ _ _ _ (by omega) (by omega) (g2.mono (by omega)) (.inr (.inr ⟨rfl, by omega, by omega⟩))
        exact ⟨o3, t3, st3, z3, mz3, V3, q3, e3, k1, k2, .inr ⟨k3.elim (fun y => y.1) (fun y => y.1), by omega⟩⟩
      · rw [if_neg hlo]
        obtain ⟨st', V', q', e', o2, t, g1, g2⟩ := ostepP hu (by omega) (l.getD i (⟨0, 0, 0, 0⟩ : volumegroupmake_Step))
        rw [g1]; simp only [Option.bind_some]
        rw [if_neg (by simp)]
        exact oplay_l1 hk hl N (i + 1) o2 t _ _ _ _ _ _ (by omega) (by omega) (g2.mono (by omega)) (hz.imp id (fun y => y.imp id (fun y => ⟨y.1, by omega, y.2.2⟩)))
    · rw [if_neg (by omega)]
      exact ⟨o, s, st, z, mz, V, q, e, rfl, hu.mono (by omega), .inl ⟨rfl, rfl⟩⟩
theorem oplayP {l : List volumegroupmake_Step} {lose : Int} (hk : k < C.L) (hl : l.length ≤ 24) (ho : OwI C z z mz o) (hz : lose < 0 ∨ z = none) (he : PEn C mz False 500 s) (hT : TL C 500 o.T) (hrc : Rc C z V q e s) (hj : JV C V q e) (hqk : q.toNat ≤ 500) (hti : TI C o.T V) :
    ∃ o' t st' z' mz' V' q' e', volumegroupmake_Owner_Play o l lose (k : Int) (k : Int) s = some (true, o', t) ∧ UPv C st' z' mz' 20000 V' q' e' o' t ∧ PEn C mz' False 20000 t ∧ (z' = z ∧ mz' = mz ∨ z' = some k ∧ 0 ≤ lose) := by
  have hF := fuel_big
  have hD := @PC.hD C
  obtain ⟨st', V1, q1, e1, t, h1, h2, h3, h4, h5, ⟨rfl, rfl⟩, -⟩ := begin_eq (S := fun V' q' => V' = V ∧ q' = q) he (by omega) ho hT.len (fun st' hst' => by
    have : st' = z := hst'.elim id id
    subst this
    exact ⟨V, q, e, hrc, hj, rfl, rfl⟩)
  have hu : UPv C st' z mz (1000 + 200 * 0) V1 q1 e1 { o with X := some (vol C st' none q1 e1 false 0), Stale := stL st' } t := ⟨⟨0, .inr rfl, rfl⟩, h2, h3.any.mono (by omega), h4, by omega, h5, hti, hT.mono (by omega)⟩
  unfold volumegroupmake_Owner_Play
  rw [h1]; simp only [Option.bind_some]
  rw [if_neg (by rw [show ({ o with X := some (vol C st' none q1 e1 false 0), Stale := stL st' } : OwnS).T = o.T from rfl, hT.len]; simp; omega)]
  obtain ⟨o2, t2, st2, z2, mz2, V2, q2, e2, g1, g2, g3⟩ := oplay_l1 (lose := lose) hk hl FUEL 0 _ t _ _ _ _ _ _ (by omega) (by omega) hu (hz.imp id .inl)
  rw [g1, seqO_inl, grd_t (inI64_of (by omega))]
  have g4 : UPv C st2 z2 mz2 (1000 + 200 * 24) V2 q2 e2 o2 { t2 with fuse := (0 : Int).toNat } := g2.fuse
  rw [if_neg (show ¬ ({ t2 with fuse := (0 : Int).toNat } : ArrS).down = true by rw [g4.en.dn]; simp)]
  obtain ⟨st3, o3, k1, k2⟩ := oallP g4 (by omega) (g := false)
  rw [k1]; simp only [Option.bind_some]
  rw [if_pos trivial]
  obtain ⟨st4, V4, q4, e4, o4, t4, k3, k4, k9⟩ := opowerP k2.dnv (by omega) 0
  rw [k3]; simp only [Option.bind_some]
  rw [if_pos trivial]
  obtain ⟨st5, o5, k5, k6⟩ := oallP k4 (by omega) (g := true)
  rw [k5]; simp only [Option.bind_some]
  rw [if_pos trivial]
  obtain ⟨st6, o6, k7, k8⟩ := oallP k6 (by omega) (g := true)
  rw [k7]
  exact ⟨o6, t4, st6, z2, mz2, V4, q4, e4, rfl, k8.mono (by omega), k9.mono (by omega), g3⟩
end
end Go.Proofs
set_option linter.unusedSimpArgs false
set_option linter.unusedVariables false
set_option maxRecDepth 20000
set_option maxHeartbeats 4000000
namespace Go.Proofs
open Go.VG
theorem bld_37_0_1_3 (v0 : (Option Addr)) (v1 : Fn) (v2 : (Array Value)) (v3 : (Array Value)) (v4 : (Option Addr)) : ∀ w, (Instr.build 37 (#[(0, .pointer v0), (1, .func v1 v2 v3), (3, .pointer v4)] : Array (Nat × Value))).run Tryz.prog w = .ok (.agg #[.pointer v0, .func v1 v2 v3, .nilIface, .pointer v4, .slice none 0 0, .slice none 0 0]) w := fun w => by kernel_rfl
def volumegrouplaw19_open (a : ArrS) (chunk : Int) : Option (Int) :=
  some chunk
def volumegrouplaw19_open_v (a : ArrS) (chunk : Int) : Int := chunk
theorem L_volumegrouplaw19_open {W : World} {ba : Nat} {a : ArrS} {chunk : Int} {r : Int} (h : volumegrouplaw19_open a chunk = some r) :
    CSpec Tryz.prog W 46 [ptr ba 0, .int .i64 chunk] [Arr ba a] (fun x : Nat × Nat => .func (.func 97) #[] #[ptr x.1 0, ptr x.2 0]) (fun _ => True) (fun x F => Arr ba a :: blk x.1 30 [ptr ba 0] :: blk x.2 3 [.int .i64 r] :: F) := by
 refine CSpec.of_body Tryz.func46 rfl Tryz.ntmps46 rfl fun F => ?_
 show CJ _ _ _ _ _ _ (_ :: F)
 unfold volumegrouplaw19_open at h
 refine sR <| oO <| O_box rfl rfl rfl fun b1 => oO <| O_box rfl rfl rfl fun b2 => oA rfl rfl <| nT <| sR <| oP (P_makeFunc rfl rfl) rfl <| oA rfl rfl <| nT <| CJ_ret ?_
 cases h
 exact fE (res1 Tryz.results46 rfl) ⟨b1, b2⟩ (t2_ (t1_ eR))
def volumegrouplaw19_begun_l1_b (legs : Int) (rows : Int) (chunk : Int) (rec : (List Int) → Nat → Option ((List Int))) (x8 : List Int) (x10 : Nat) : Option ((List Int)) :=
  if (((x10 : Nat) : Int) < legs) then
    grd (inI64 (rows * chunk)) <|
    grd (inI64 (((16 : Int) + (rows * chunk)))) <|
    grd (inLen (x8.length + 1)) <|
    grd (inN64 (x10 + 1)) <|
    rec ((x8 ++ [((16 : Int) + (rows * chunk))])) (x10 + 1)
  else
    some x8
def volumegrouplaw19_begun_l1 (legs : Int) (rows : Int) (chunk : Int) : Nat → (List Int) → Nat → Option ((List Int))
  | 0, _, _ => none
  | n + 1, x8, x10 => volumegrouplaw19_begun_l1_b legs rows chunk (volumegrouplaw19_begun_l1 legs rows chunk n) x8 x10
def volumegrouplaw19_begun (legs : Int) (rows : Int) (chunk : Int) : Option ((Option OwnS) × (Option ArrS)) :=
  Option.bind (volumegrouplaw19_begun_l1 legs rows chunk FUEL ([]) 0) fun a7 =>
  grd (inLen a7.length) <|
  if ((newC a7) ≠ (0 : Int)) then
    some (none, none)
  else
    Option.elim (newO a7) (
      some (none, none)) fun o25 =>
    Option.bind (volumegroupmake_Spans o25) fun r26 =>
    Option.bind (parityvol_Format r26 chunk o25) fun r32 =>
    if (r32.1 ≠ (0 : Int)) then
      some (none, none)
    else
      if (((r32.2.log.length : Nat) : Int) ≠ (0 : Int)) then
        some (none, none)
      else
        grd (inI64 ((legs - (1 : Int)))) <|
        grd (inI64 (((legs - (1 : Int)) * rows))) <|
        grd (inI64 ((((legs - (1 : Int)) * rows) * chunk))) <|
        grd (decide (0 ≤ (((legs - (1 : Int)) * rows) * chunk) ∧ (((legs - (1 : Int)) * rows) * chunk) ≤ 1000000000)) <|
        grd (decide (((List.replicate (((((legs - (1 : Int)) * rows) * chunk)).toNat) (0 : UInt64))).length ≤ 65536)) <|
        some (((some ((⟨(volumegrouplaw19_open_v r32.2 chunk), none, (trkT ((List.replicate (((((legs - (1 : Int)) * rows) * chunk)).toNat) (0 : UInt64)))), [], []⟩ : OwnS))), (some r32.2)))
theorem L_volumegrouplaw19_begun {W : World} {legs : Int} {rows : Int} {chunk : Int} {r : (Option OwnS) × (Option ArrS)} (h : volumegrouplaw19_begun legs rows chunk = some r) :
    CSpec Tryz.prog W 13 [.int .i64 legs, .int .i64 rows, .int .i64 chunk] [] (fun x : Nat × Nat => oval r.1 x.1) (fun _ => True) (fun x F => optP (OwnP x.2 x.1) r.1 :: optP (Arr x.2) r.2 :: F) := by
 refine CSpec.of_body Tryz.func13 rfl Tryz.ntmps13 rfl fun F => ?_
 show CJ _ _ _ _ _ _ (F)
 unfold volumegrouplaw19_begun at h
 refine sR <| oA rfl rfl <| nT <| sR <| oA rfl rfl <| nT <| CJ_seq <| sR <| oA rfl rfl <| nT <| CJ_ent (fun h hh => sl_nil (t := tyI) h hh) ?_
 obtain ⟨y4, hl2, hK3⟩ := bind_c h
 refine CJ_cutT (X := (List Int) × Sl3) [7, 8, 11, 12, 13, 14, 15, 16, 17, 18, 19, 20, 21, 22] (fun ⟨a7, hd6⟩ => ([(7, hd6.v)] : Slots)) (fun ⟨a7, hd6⟩ R => sl tyI hd6.v a7 :: R) (fun ⟨a7, hd6⟩ => y4 = a7) (Dels.cons del0 Dels.nil) ?_ ?_
 ·
  refine CJ_block <| CJ_loopR (X := Nat × (List Int) × Nat × Sl3) [7, 8, 11, 12, 13, 14, 15, 16, 17, 18, 19, 20, 21, 22] (fun ⟨n, x8, x10, hd9⟩ => ([(7, hd9.v), (8, .int .i64 (((x10 : Nat) : Int)))] : Slots)) (fun ⟨n, x8, x10, hd9⟩ R => sl tyI hd9.v x8 :: R) (fun ⟨n, x8, x10, hd9⟩ => volumegrouplaw19_begun_l1 legs rows chunk n x8 x10 = some y4) (fun ⟨n, x8, x10, hd9⟩ => n) ⟨FUEL, [], 0, ⟨none, 0, 0⟩⟩ ?_ ?_ eR ?_
  · exact hl2
  · exact ⟨rfl, rfl, True.intro⟩
  ·
   rintro ⟨n, x8, x10, hd9⟩ h
   cases n with
   | zero => exact none_e h
   | succ n => ?_
   replace h : volumegrouplaw19_begun_l1_b legs rows chunk (volumegrouplaw19_begun_l1 legs rows chunk n) x8 x10 = some y4 := h
   unfold volumegrouplaw19_begun_l1_b at h
   show CJ _ _ _ _ _ (([(7, hd9.v), (8, .int .i64 (((x10 : Nat) : Int)))] : Slots) ++ forget _ _) (sl tyI hd9.v x8 :: _)
   refine lC del0 fun hlen11 => CJ_seq <| sR <| oM rfl rfl <| oM rfl rfl <| oP (P_lss (a := ((x10 : Nat) : Int)) (b := legs) rfl rfl) rfl <| nT <| CJ_condP rfl bT_dec (fun hg1 => ?_) (fun hg1 => ?_)
   ·
    replace h := ite_t hg1 h
    refine kT <| CJ_seq <| CJ_block <| CJ_region <| oM rfl rfl <| oM rfl rfl <| oM rfl rfl ?_
    obtain ⟨hg2, h⟩ := grd_Ie h
    refine oP (P_mul (a := rows) (b := chunk) rfl rfl hg2) rfl ?_
    obtain ⟨hg3, h⟩ := grd_Ie h
    refine oP (P_add (a := (16 : Int)) (b := (rows * chunk)) rfl rfl hg3) rfl <| oO <| O_buildSlice rfl (bs_35_1_0 _) rfl fun b12 => ?_
    obtain ⟨hg4, h⟩ := grd_Le h
    refine oO <| O_append (t := tyI) (bytes := 8) rfl rfl del1 foc0 (Reads.lit (t := tyI) (ys := [((16 : Int) + (rows * chunk))]) rfl rfl (by decide) (by decide) rfl) Tryz.underlying35 ok_tyI (apl (m := 1) (b := 8) hg4 (by decide)).1 (apl (m := 1) (b := 8) hg4 (by decide)).2 rfl fun p14 c15 => oA rfl rfl <| RJ_nil <| QJ_block_normal <| QJ_then <| CJ_region <| oM rfl rfl ?_
    obtain ⟨hg5, h⟩ := grd_Ne h
    exact oP (PJ_eq (P_add (a := ((x10 : Nat) : Int)) (b := (1 : Int)) rfl rfl (nat_in hg5)) rfl) rfl <| oA rfl rfl <| RJ_nil <| nR ⟨n, (x8 ++ [((16 : Int) + (rows * chunk))]), (x10 + 1), ⟨p14, (x8 ++ [((16 : Int) + (rows * chunk))]).length, c15⟩⟩ h ⟨rfl, rfl, True.intro⟩ (t0_ (eD eR))
   ·
    replace h := ite_f hg1 h
    exact CJ_exit <| QJ_then_exit <| QJ_round_exit <| QJ_block_here <| cR ⟨x8, hd9⟩ (Option.some.inj h).symm ⟨rfl, True.intro⟩ eR
 ·
  rintro ⟨a7, hd6⟩ hy16
  replace h := bindK_at hK3 hy16
  show CJ _ _ _ _ _ (([(7, hd6.v)] : Slots) ++ forget _ _) (sl tyI hd6.v a7 :: _)
  refine lC del0 fun hlen17 => sR <| oM rfl rfl ?_
  obtain ⟨hg6, h⟩ := grd_Le h
  refine oO <| O_call (c_NewO (Reads.sl _ _ _) hg6) rfl Tryz.call23 (Dels.cons del0 Dels.nil) rfl fun X18 _ => oM rfl rfl <| oP (P_extract rfl rfl) rfl <| oP (P_extract rfl rfl) rfl <| oA rfl rfl <| oA rfl rfl <| nT <| CJ_seq <| sR <| oM rfl rfl <| oP (P_neq (a := (newC a7)) (b := (0 : Int)) rfl rfl) rfl <| oM rfl rfl <| RJ_mbF rfl rfl rfl (fun hG20 => have hP21 : ¬ ((newC a7) ≠ (0 : Int)) := nP (bT_dec) hG20; VJ_P (P_move rfl)) <| RJ_splitP 30 rfl bT_dec (fun hg7B hg7 => ?_) (fun hg7B hg7 => ?_)
  ·
   replace h := ite_t hg7 h
   refine RJ_gn (GY_no rfl rfl rfl hg7B) rfl rfl <| oP (P_pickT rfl hg7B rfl) rfl <| oM rfl rfl <| RJ_gn (GY_no rfl rfl rfl rfl) rfl rfl <| RJ_gn (GY_no rfl rfl rfl rfl) rfl rfl <| RJ_gn (GY_no rfl rfl rfl rfl) rfl rfl <| RJ_gn (GY_no rfl rfl rfl rfl) rfl rfl <| RJ_gn (GY_no rfl rfl rfl rfl) rfl rfl <| oP (P_pickT rfl rfl rfl) rfl <| oM rfl rfl <| RJ_gn (GY_no rfl rfl rfl rfl) rfl rfl <| RJ_gn (GY_no rfl rfl rfl rfl) rfl rfl <| RJ_gn (GY_no rfl rfl rfl rfl) rfl rfl <| oP (P_pickT rfl rfl rfl) rfl <| nT <| CJ_condT rfl rfl <| sR <| oA rfl rfl <| nT <| CJ_ret <| QJ_then_ret ?_
   cases h
   exact fE (res1 Tryz.results13 rfl) ⟨0, 0⟩ (Ent.trans (fun h hh => optP_none h hh) <| t0_ (Ent.trans (fun h hh => optP_none h hh) <| t0_ (eD (eD eR))))
  ·
   replace h := ite_f hg7 h
   rcases opt_e h with ⟨ht24, h⟩ | ⟨o25, ht24, h⟩
   ·
    rw [ht24]
    refine RJ_ent (t1_ (eD eR)) <| gP (GY_yes rfl rfl rfl hg7B) (P_eqlNN (mbx (not_f hg7B) rfl) rfl Tryz.underlying30) rfl <| oP (P_pickF rfl hg7B rfl) rfl <| oM rfl rfl <| RJ_gn (GY_no rfl rfl rfl rfl) rfl rfl <| RJ_gn (GY_no rfl rfl rfl rfl) rfl rfl <| RJ_gn (GY_no rfl rfl rfl rfl) rfl rfl <| RJ_gn (GY_no rfl rfl rfl rfl) rfl rfl <| RJ_gn (GY_no rfl rfl rfl rfl) rfl rfl <| oP (P_pickT rfl rfl rfl) rfl <| oM rfl rfl <| RJ_gn (GY_no rfl rfl rfl rfl) rfl rfl <| RJ_gn (GY_no rfl rfl rfl rfl) rfl rfl <| RJ_gn (GY_no rfl rfl rfl rfl) rfl rfl <| oP (P_pickT rfl rfl rfl) rfl <| nT <| CJ_condT rfl rfl <| sR <| oA rfl rfl <| nT <| CJ_ret <| QJ_then_ret ?_
    cases h
    exact fE (res1 Tryz.results13 rfl) ⟨0, 0⟩ (Ent.trans (fun h hh => optP_none h hh) <| t0_ (Ent.trans (fun h hh => optP_none h hh) <| t0_ (eD eR)))
   ·
    rw [ht24]
    refine RJ_ent (Ent.takeC (A' := Arr X18 o25) del0 rfl eR) <| gP (GY_yes rfl rfl rfl hg7B) (P_eqlPN (mbx (not_f hg7B) rfl) rfl Tryz.underlying30) rfl <| oP (P_pickF rfl hg7B rfl) rfl <| oM rfl rfl <| gP (GY_yes rfl rfl rfl rfl) (P_move rfl) rfl ?_
    obtain ⟨r26, hr27, h⟩ := bind_e h
    refine RJ_gy (GY_yes rfl rfl rfl rfl) <| O_call (L_volumegroupmake_Spans hr27) rfl Tryz.call24 (Dels.cons del0 Dels.nil) rfl fun X28 _ => RJ_pure (fun h hh => Rs_len (stars_perm (del2 (A := Rs (DevP X18) r26 X28.2)).out h hh)) fun hdl31 => gP (GY_yes rfl rfl rfl rfl) (P_move rfl) rfl ?_
    obtain ⟨r32, hr33, h⟩ := bind_e h
    refine RJ_gy (GY_yes rfl rfl rfl rfl) <| O_call (L_parityvol_Format (Reads.sl _ _ _) hr33) rfl Tryz.call25 (Dels.cons del1 (Dels.cons del1 (Dels.cons del0 Dels.nil))) rfl fun _ _ => gP (GY_yes rfl rfl rfl rfl) (P_neq (a := r32.1) (b := (0 : Int)) rfl rfl) rfl <| oP (P_pickF rfl rfl rfl) rfl <| oM rfl rfl <| RJ_splitP 41 rfl bT_dec (fun hg8B hg8 => ?_) (fun hg8B hg8 => ?_)
    ·
     replace h := ite_t hg8 h
     refine RJ_gn (GY_no rfl rfl rfl hg8B) rfl rfl <| RJ_gn (GY_no rfl rfl rfl hg8B) rfl rfl <| RJ_gn (GY_no rfl rfl rfl hg8B) rfl rfl <| oP (P_pickT rfl hg8B rfl) rfl <| nT <| CJ_condT rfl rfl <| sR <| oA rfl rfl <| nT <| CJ_ret <| QJ_then_ret ?_
     cases h
     exact fE (res1 Tryz.results13 rfl) ⟨0, 0⟩ (Ent.trans (fun h hh => optP_none h hh) <| t0_ (Ent.trans (fun h hh => optP_none h hh) <| t0_ (eD (eD (eD (eD eR))))))
    ·
     replace h := ite_f hg8 h
     refine gP (GY_yes rfl rfl rfl hg8B) (P_move rfl) rfl <| RJ_gy (GY_yes rfl rfl rfl hg8B) <| O_call (c_Unflushed) rfl Tryz.call45 (Dels.cons del2 Dels.nil) rfl fun _ _ => gP (GY_yes rfl rfl rfl hg8B) (P_neq (a := ((r32.2.log.length : Nat) : Int)) (b := (0 : Int)) rfl rfl) rfl <| oP (P_pickF rfl hg8B rfl) rfl <| nT <| CJ_condP rfl bT_dec (fun hg9 => ?_) (fun hg9 => ?_)
     ·
      replace h := ite_t hg9 h
      refine sR <| oA rfl rfl <| nT <| CJ_ret <| QJ_then_ret ?_
      cases h
      exact fE (res1 Tryz.results13 rfl) ⟨0, 0⟩ (Ent.trans (fun h hh => optP_none h hh) <| t0_ (Ent.trans (fun h hh => optP_none h hh) <| t0_ (eD (eD (eD (eD eR))))))
     ·
      replace h := ite_f hg9 h
      refine kT <| CJ_seq <| AJ_startH 11272 (by kernel_rfl) rfl <| aN 0 1 rfl rfl (P_move rfl) rfl <| aN 1 3 rfl rfl (P_move rfl) rfl <| aN 2 7 rfl rfl (P_move rfl) rfl <| aN 4 23 rfl rfl (P_move rfl) rfl ?_
      obtain ⟨hg10, h⟩ := grd_Ie h
      refine aN 5 55 rfl rfl (P_sub (a := legs) (b := (1 : Int)) rfl rfl hg10) rfl <| aN 6 119 rfl rfl (P_move rfl) rfl ?_
      obtain ⟨hg11, h⟩ := grd_Ie h
      refine aN 7 247 rfl rfl (P_mul (a := (legs - (1 : Int))) (b := rows) rfl rfl hg11) rfl <| aN 8 503 rfl rfl (P_move rfl) rfl ?_
      obtain ⟨hg12, h⟩ := grd_Ie h
      refine aN 9 1015 rfl rfl (P_mul (a := ((legs - (1 : Int)) * rows)) (b := chunk) rfl rfl hg12) rfl <| AJ_two 3 10 1023 2039 rfl rfl (by kernel_rfl) rfl rfl (GY_none rfl) (GY_none rfl) ?_ ?_
      ·
       refine O_call (L_volumegrouplaw19_open (rfl : volumegrouplaw19_open r32.2 chunk = some (volumegrouplaw19_open_v r32.2 chunk))) rfl Tryz.call46 (Dels.cons del0 Dels.nil) rfl fun X154 _ => ⟨fun h => absurd h (by decide), ?_⟩
       obtain ⟨hg13, h⟩ := grd_de h
       refine AJ_op 10 2047 rfl (by kernel_rfl) rfl (GY_none rfl) <| O_make (t := tyU) (m := ((((legs - (1 : Int)) * rows) * chunk)).toNat) (x0 := 0) (z := _) (bytes := _) rfl rfl (Int.toNat_of_nonneg (hg13.1)).symm (Int.toNat_of_nonneg (hg13.1)).symm Tryz.underlying43 ⟨Tryz.t44, by kernel_rfl, rfl, rfl, rfl⟩ rfl (by omega) (by decide) rfl fun b434 => ⟨fun h => absurd h (by decide), ?_⟩
       obtain ⟨hg14, h⟩ := grd_de h
       refine AJ_op 11 4095 rfl (by kernel_rfl) rfl (GY_none rfl) <| O_call (c_Tracked (Reads.sl _ _ _) hg14) rfl Tryz.call47 (Dels.cons del0 Dels.nil) rfl fun X474 _ => ⟨fun h => absurd h (by decide), ?_⟩
       refine aN 12 8191 rfl rfl (P_build rfl (bld_37_0_1_3 _ _ _ _ _)) rfl <| AJ_op 13 16383 rfl (by kernel_rfl) rfl (GY_none rfl) <| O_box rfl rfl rfl fun b554 => ⟨fun h => absurd h (by decide), ?_⟩
       refine aN 14 32767 rfl rfl (P_assign rfl) rfl <| AJ_done (by kernel_rfl) <| QJ_ent (t0_ (t0_ (t1_ (t1_ (t1_ (eD (eD (eD (eD eR))))))))) <| QJ_then <| CJ_ret <| QJ_ent (fun h hh => sl_nil (t := tyI) h hh) <| QJ_ent (fun h hh => sl_nil (t := tyI) h hh) <| QJ_ent (Ent.trans (t2_ (t4_ (t4_ (Ent.trans (fun h hh => optP_none h hh) <| t0_ (t2_ (t1_ eR)))))) (OwnP_mk (v0 := (volumegrouplaw19_open_v r32.2 chunk)) (v1 := none) (v2 := (trkT ((List.replicate (((((legs - (1 : Int)) * rows) * chunk)).toNat) (0 : UInt64))))) (v3 := []) (v4 := []) (h0 := X154.1) (h1 := X154.2) (h2 := 0) (h3 := X474) (h4 := ⟨none, 0, 0⟩) (h5 := ⟨none, 0, 0⟩))) ?_
       cases h
       exact fE (res1 Tryz.results13 rfl) ⟨b554, X18⟩ eR
      ·
       obtain ⟨hg13, h⟩ := grd_de h
       refine O_make (t := tyU) (m := ((((legs - (1 : Int)) * rows) * chunk)).toNat) (x0 := 0) (z := _) (bytes := _) rfl rfl (Int.toNat_of_nonneg (hg13.1)).symm (Int.toNat_of_nonneg (hg13.1)).symm Tryz.underlying43 ⟨Tryz.t44, by kernel_rfl, rfl, rfl, rfl⟩ rfl (by omega) (by decide) rfl fun b434 => ⟨fun h => absurd h (by decide), ?_⟩
       refine AJ_op 3 2047 rfl (by kernel_rfl) rfl (GY_none rfl) <| O_call (L_volumegrouplaw19_open (rfl : volumegrouplaw19_open r32.2 chunk = some (volumegrouplaw19_open_v r32.2 chunk))) rfl Tryz.call46 (Dels.cons del1 Dels.nil) rfl fun X154 _ => ⟨fun h => absurd h (by decide), ?_⟩
       obtain ⟨hg14, h⟩ := grd_de h
       refine AJ_op 11 4095 rfl (by kernel_rfl) rfl (GY_none rfl) <| O_call (c_Tracked (Reads.sl _ _ _) hg14) rfl Tryz.call47 (Dels.cons del3 Dels.nil) rfl fun X474 _ => ⟨fun h => absurd h (by decide), ?_⟩
       refine aN 12 8191 rfl rfl (P_build rfl (bld_37_0_1_3 _ _ _ _ _)) rfl <| AJ_op 13 16383 rfl (by kernel_rfl) rfl (GY_none rfl) <| O_box rfl rfl rfl fun b554 => ⟨fun h => absurd h (by decide), ?_⟩
       refine aN 14 32767 rfl rfl (P_assign rfl) rfl <| AJ_done (by kernel_rfl) <| QJ_ent (t0_ (t0_ (t1_ (t1_ (t1_ (eD (eD (eD (eD eR))))))))) <| QJ_then <| CJ_ret <| QJ_ent (fun h hh => sl_nil (t := tyI) h hh) <| QJ_ent (fun h hh => sl_nil (t := tyI) h hh) <| QJ_ent (Ent.trans (t2_ (t4_ (t4_ (Ent.trans (fun h hh => optP_none h hh) <| t0_ (t2_ (t1_ eR)))))) (OwnP_mk (v0 := (volumegrouplaw19_open_v r32.2 chunk)) (v1 := none) (v2 := (trkT ((List.replicate (((((legs - (1 : Int)) * rows) * chunk)).toNat) (0 : UInt64))))) (v3 := []) (v4 := []) (h0 := X154.1) (h1 := X154.2) (h2 := 0) (h3 := X474) (h4 := ⟨none, 0, 0⟩) (h5 := ⟨none, 0, 0⟩))) ?_
       cases h
       exact fE (res1 Tryz.results13 rfl) ⟨b554, X18⟩ eR
def volumegrouplaw19_awake : Option (Bool) :=
  Option.bind (volumegrouplaw19_begun (3 : Int) (2 : Int) (1 : Int)) fun r1 =>
  Option.elim r1.1 (
    some false) fun o7 =>
  Option.elim r1.2 (
    none) fun o9 =>
  Option.bind (volumegroupmake_Owner_Begin o7 o9) fun r10 =>
  if (¬ r10.1 = true) then
    some false
  else
    Option.bind (volumegroupmake_Owner_Write r10.2.1 (1 : Int) (77 : UInt64) r10.2.2) fun r12 =>
    if ((r12.1 ≠ (0 : Int)) ∨ (¬ r12.2.1 = true)) then
      some false
    else
      Option.bind (volumegroupmake_Owner_Flush r12.2.2.1 r12.2.2.2) fun r18 =>
      if ((r18.1 ≠ (0 : Int)) ∨ (¬ r18.2.1 = true)) then
        some false
      else
        Option.bind (volumegroupmake_Spans r18.2.2.2) fun r28 =>
        Option.bind (parityvol_Open r28 ([(1 : Int)]) (1 : Int) r18.2.2.2) fun r35 =>
        if (r35.2.1 ≠ (0 : Int)) then
          some false
        else
          Option.elim r35.1 (
            some false) fun o44 =>
          Option.bind (parityvol_Volume_Read o44 (1 : Int) r35.2.2) fun r45 =>
          if ((r45.2.1 = (0 : Int)) ∧ (r45.1 = (77 : UInt64))) then
            Option.bind (parityvol_Volume_Size r45.2.2.1 r45.2.2.2) fun r51 =>
            if (r51 = (4 : Int)) then
              Option.bind (parityvol_Volume_Stale r45.2.2.1 r45.2.2.2) fun r53 =>
              some ((decide (((r53.length : Nat) : Int) = (1 : Int))))
            else
              some false
          else
            some false
theorem L_volumegrouplaw19_awake {W : World} {r : Bool} (h : volumegrouplaw19_awake = some r) :
    CSpec Tryz.prog W 11 [] [] (fun x : Unit => .bool r) (fun _ => True) (fun x F => F) := by
 refine CSpec.of_body Tryz.func11 rfl Tryz.ntmps11 rfl fun F => ?_
 show CJ _ _ _ _ _ _ (F)
 unfold volumegrouplaw19_awake at h
 refine sR <| oA rfl rfl <| nT <| sR ?_
 obtain ⟨r1, hr2, h⟩ := bind_e h
 refine oO <| O_call (L_volumegrouplaw19_begun hr2) rfl Tryz.call13 Dels.nil rfl fun X3 _ => oA rfl rfl <| nT <| CJ_seq <| sR <| oM rfl rfl ?_
 rcases opt_e h with ⟨ht6, h⟩ | ⟨o7, ht6, h⟩
 ·
  rw [ht6]
  refine RJ_ent (t1_ (eD eR)) <| oP (P_eqlNN rfl rfl Tryz.underlying27) rfl <| oM rfl rfl <| RJ_gn (GY_no rfl rfl rfl rfl) rfl rfl <| RJ_gn (GY_no rfl rfl rfl rfl) rfl rfl <| RJ_gn (GY_no rfl rfl rfl rfl) rfl rfl <| oP (P_pickT rfl rfl rfl) rfl <| nT <| CJ_condT rfl rfl <| sR <| oA rfl rfl <| nT <| CJ_ret <| QJ_then_ret ?_
  cases h
  exact fE (res1 Tryz.results11 rfl) () (eD eR)
 ·
  rw [ht6]
  refine RJ_ent (Ent.takeC (A' := OwnP X3.2 X3.1 o7) del0 rfl eR) <| oP (P_eqlPN rfl rfl Tryz.underlying27) rfl <| oM rfl rfl <| gP (GY_yes rfl rfl rfl rfl) (P_move rfl) rfl ?_
  rcases opt_e h with ⟨ht8, h⟩ | ⟨o9, ht8, h⟩
  ·
   rw [ht8]
   exact RJ_ent (t0_ (eD eR)) <| none_e h
  ·
   rw [ht8]
   refine RJ_ent (Ent.takeC (A' := Arr X3.2 o9) del1 rfl eR) ?_
   obtain ⟨r10, hr11, h⟩ := bind_e h
   refine RJ_gy (GY_yes rfl rfl rfl rfl) <| O_call (L_volumegroupmake_Owner_Begin hr11) rfl Tryz.call18 (Dels.cons del1 (Dels.cons del0 Dels.nil)) rfl fun _ _ => gP (GY_yes rfl rfl rfl rfl) (P_not rfl) rfl <| oP (P_pickF rfl rfl rfl) rfl <| nT <| CJ_condP rfl (bT_not Iff.rfl) (fun hg1 => ?_) (fun hg1 => ?_)
   ·
    replace h := ite_t hg1 h
    refine sR <| oA rfl rfl <| nT <| CJ_ret <| QJ_then_ret ?_
    cases h
    exact fE (res1 Tryz.results11 rfl) () (eD (eD eR))
   ·
    replace h := ite_f hg1 h
    refine kT <| CJ_seq <| sR <| oM rfl rfl ?_
    obtain ⟨r12, hr13, h⟩ := bind_e h
    refine oO <| O_call (L_volumegroupmake_Owner_Write hr13) rfl Tryz.call44 (Dels.cons del0 (Dels.cons del0 Dels.nil)) rfl fun _ _ => oM rfl rfl <| oP (P_extract rfl rfl) rfl <| oP (P_extract rfl rfl) rfl <| oA rfl rfl <| oA rfl rfl <| nT <| sR <| oM rfl rfl <| oP (P_neq (a := r12.1) (b := (0 : Int)) rfl rfl) rfl <| oM rfl rfl <| RJ_mbF rfl rfl rfl (fun hG14 => have hP15 : ¬ (r12.1 ≠ (0 : Int)) := nP (bT_dec) hG14; VJ_P (P_move rfl)) <| RJ_mbF rfl rfl rfl (fun hG16 => have hP17 : ¬ (r12.1 ≠ (0 : Int)) := nP (bT_dec) hG16; VJ_P (P_not (mbx hG16 rfl))) <| oP (P_pickOr rfl rfl (fun hh => mbx (not_f hh) rfl)) rfl <| nT <| CJ_condP rfl (bT_or bT_dec (bT_not Iff.rfl)) (fun hg2 => ?_) (fun hg2 => ?_)
    ·
     replace h := ite_t hg2 h
     refine sR <| oA rfl rfl <| nT <| CJ_ret <| QJ_then_ret ?_
     cases h
     exact fE (res1 Tryz.results11 rfl) () (eD (eD eR))
    ·
     replace h := ite_f hg2 h
     refine kT <| CJ_seq <| sR <| oM rfl rfl ?_
     obtain ⟨r18, hr19, h⟩ := bind_e h
     refine oO <| O_call (L_volumegroupmake_Owner_Flush hr19) rfl Tryz.call15 (Dels.cons del0 (Dels.cons del0 Dels.nil)) rfl fun _ _ => oM rfl rfl <| oP (P_extract rfl rfl) rfl <| oP (P_extract rfl rfl) rfl <| oA rfl rfl <| oA rfl rfl <| nT <| sR <| oM rfl rfl <| oP (P_neq (a := r18.1) (b := (0 : Int)) rfl rfl) rfl <| oM rfl rfl <| RJ_mbF rfl rfl rfl (fun hG20 => have hP21 : ¬ (r18.1 ≠ (0 : Int)) := nP (bT_dec) hG20; VJ_P (P_move rfl)) <| RJ_mbF rfl rfl rfl (fun hG22 => have hP23 : ¬ (r18.1 ≠ (0 : Int)) := nP (bT_dec) hG22; VJ_P (P_not (mbx hG22 rfl))) <| oP (P_pickOr rfl rfl (fun hh => mbx (not_f hh) rfl)) rfl <| nT <| CJ_condP rfl (bT_or bT_dec (bT_not Iff.rfl)) (fun hg3 => ?_) (fun hg3 => ?_)
     ·
      replace h := ite_t hg3 h
      refine sR <| oA rfl rfl <| nT <| CJ_ret <| QJ_then_ret ?_
      cases h
      exact fE (res1 Tryz.results11 rfl) () (eD (eD eR))
     ·
      replace h := ite_f hg3 h
      refine kT <| CJ_seq <| CJ_entX (Ent.transX (t0_ eR) (OwnP_open (l := r18.2.2.1))) fun oc24 => lC del5 fun hlen26 => lC del6 fun hlen27 => CJ_region <| oM rfl rfl <| oP (P_nilCheck rfl) rfl <| oP (P_fieldAddr rfl ⟨_, _, _, Tryz.runUnderlying37, rfl, rfl, Tryz.sizeOf30, rfl⟩) rfl <| oV (V_load rfl foc0 rfl Tryz.isAgg30) rfl ?_
      obtain ⟨r28, hr29, h⟩ := bind_e h
      refine oO <| O_call (L_volumegroupmake_Spans hr29) rfl Tryz.call24 (Dels.cons del7 Dels.nil) rfl fun X30 _ => RJ_pure (fun h hh => Rs_len (stars_perm (del2 (A := Rs (DevP X3.2) r28 X30.2)).out h hh)) fun hdl33 => oO <| O_buildSlice rfl (bs_35_1_0 _) rfl fun b34 => RJ_ent (Ent.trans (t0_ eR) (sl_of_lit (t := tyI) (m := 1) [(1 : Int)] rfl rfl rfl (by decide))) ?_
      obtain ⟨r35, hr36, h⟩ := bind_e h
      refine oO <| O_call (L_parityvol_Open (Reads.sl _ _ _) (Reads.sl _ _ _) hr36) rfl Tryz.call26 (Dels.cons del2 (Dels.cons del2 (Dels.cons del0 (Dels.cons del0 Dels.nil)))) rfl fun X37 _ => oM rfl rfl <| oP (P_extract rfl rfl) rfl <| oP (P_extract rfl rfl) rfl <| oA rfl rfl <| oA rfl rfl <| RJ_nil <| QJ_ent (Ent.trans (t5_ (t5_ (t5_ (t5_ (t5_ (t5_ (t5_ eR))))))) (OwnP_mk (v0 := r18.2.2.1.Open_1) (v1 := r18.2.2.1.X) (v2 := r18.2.2.1.T) (v3 := r18.2.2.1.Stale) (v4 := r18.2.2.1.Lost) (h0 := oc24.1) (h1 := oc24.2.1) (h2 := oc24.2.2.1) (h3 := oc24.2.2.2.1) (h4 := oc24.2.2.2.2.1) (h5 := oc24.2.2.2.2.2))) <| QJ_then <| CJ_seq <| sR <| oM rfl rfl <| oP (P_neq (a := r35.2.1) (b := (0 : Int)) rfl rfl) rfl <| oM rfl rfl <| RJ_mbF rfl rfl rfl (fun hG39 => have hP40 : ¬ (r35.2.1 ≠ (0 : Int)) := nP (bT_dec) hG39; VJ_P (P_move rfl)) <| RJ_splitP 51 rfl bT_dec (fun hg4B hg4 => ?_) (fun hg4B hg4 => ?_)
      ·
       replace h := ite_t hg4 h
       refine RJ_gn (GY_no rfl rfl rfl hg4B) rfl rfl <| oP (P_pickT rfl hg4B rfl) rfl <| nT <| CJ_condT rfl rfl <| sR <| oA rfl rfl <| nT <| CJ_ret <| QJ_then_ret ?_
       cases h
       exact fE (res1 Tryz.results11 rfl) () (eD (eD (eD (eD (eD (eD eR))))))
      ·
       replace h := ite_f hg4 h
       rcases opt_e h with ⟨ht43, h⟩ | ⟨o44, ht43, h⟩
       ·
        rw [ht43]
        refine RJ_ent (t0_ (t0_ (t0_ (t0_ (t0_ (eD eR)))))) <| gP (GY_yes rfl rfl rfl hg4B) (P_eqlNN (mbx (not_f hg4B) rfl) rfl Tryz.underlying65) rfl <| oP (P_pickF rfl hg4B rfl) rfl <| nT <| CJ_condT rfl rfl <| sR <| oA rfl rfl <| nT <| CJ_ret <| QJ_then_ret ?_
        cases h
        exact fE (res1 Tryz.results11 rfl) () (eD (eD (eD (eD (eD eR)))))
       ·
        rw [ht43]
        refine RJ_ent (Ent.takeC (A' := VolP X3.2 X37 o44) del5 rfl eR) <| gP (GY_yes rfl rfl rfl hg4B) (P_eqlPN (mbx (not_f hg4B) rfl) rfl Tryz.underlying65) rfl <| oP (P_pickF rfl hg4B rfl) rfl <| nT <| CJ_condF rfl rfl <| kT <| sR <| oM rfl rfl ?_
        obtain ⟨r45, hr46, h⟩ := bind_e h
        refine oO <| O_call (L_parityvol_Volume_Read hr46) rfl Tryz.call28 (Dels.cons del0 (Dels.cons del4 Dels.nil)) rfl fun _ _ => oM rfl rfl <| oP (P_extract rfl rfl) rfl <| oP (P_extract rfl rfl) rfl <| oA rfl rfl <| oA rfl rfl <| nT <| sR <| oM rfl rfl <| oP (P_eql (a := r45.2.1) (b := (0 : Int)) rfl rfl) rfl <| oM rfl rfl <| RJ_mbT rfl rfl rfl (fun hG47 => have hP48 : (r45.2.1 = (0 : Int)) := (bT_dec).1 hG47; VJ_P (P_move rfl)) <| RJ_mbT rfl rfl rfl (fun hG49 => have hP50 : (r45.2.1 = (0 : Int)) := (bT_dec).1 hG49; VJ_P (P_eq_u64 (a := r45.1) (b := (77 : UInt64)) (mbx hG49 rfl) rfl)) <| oP (P_pickAnd rfl (fun hh => mbx hh rfl) rfl) rfl <| oM rfl rfl <| RJ_splitP 66 rfl (bT_and bT_dec bT_dec) (fun hg5B hg5 => ?_) (fun hg5B hg5 => ?_)
        ·
         replace h := ite_t hg5 h
         refine gP (GY_yes rfl rfl rfl hg5B) (P_move rfl) rfl ?_
         obtain ⟨r51, hr52, h⟩ := bind_e h
         refine RJ_gy (GY_yes rfl rfl rfl hg5B) <| O_call (L_parityvol_Volume_Size hr52) rfl Tryz.call31 (Dels.cons del0 (Dels.cons del0 Dels.nil)) rfl fun _ _ => gP (GY_yes rfl rfl rfl hg5B) (P_eql (a := r51) (b := (4 : Int)) rfl rfl) rfl <| oP (P_pickT rfl hg5B rfl) rfl <| oM rfl rfl <| RJ_splitP 71 rfl bT_dec (fun hg6B hg6 => ?_) (fun hg6B hg6 => ?_)
         ·
          replace h := ite_t hg6 h
          refine gP (GY_yes rfl rfl rfl hg6B) (P_move rfl) rfl ?_
          obtain ⟨r53, hr54, h⟩ := bind_e h
          refine RJ_gy (GY_yes rfl rfl rfl hg6B) <| O_call (L_parityvol_Volume_Stale hr54) rfl Tryz.call39 (Dels.cons del0 (Dels.cons del0 Dels.nil)) rfl fun X55 _ => gV (GY_yes rfl rfl rfl hg6B) (V_len rfl foc2 (Reads.sl _ _ _) Tryz.runUnderlying35) rfl <| gP (GY_yes rfl rfl rfl hg6B) (P_eql (a := ((r53.length : Nat) : Int)) (b := (1 : Int)) rfl rfl) rfl <| oP (P_pickT rfl hg6B rfl) rfl <| oA rfl rfl <| RJ_nil <| QJ_ent (t1_ (eD (eD (eD (eD (eD (eD eR))))))) <| QJ_then <| CJ_ret ?_
          cases h
          exact fE (res1 Tryz.results11 rfl) () (eD eR)
         ·
          replace h := ite_f hg6 h
          refine RJ_gn (GY_no rfl rfl rfl hg6B) rfl rfl <| RJ_gn (GY_no rfl rfl rfl hg6B) rfl rfl <| RJ_gn (GY_no rfl rfl rfl hg6B) rfl rfl <| RJ_gn (GY_no rfl rfl rfl hg6B) rfl rfl <| oP (P_pickF rfl hg6B rfl) rfl <| oA rfl rfl <| nT <| CJ_ret ?_
          cases h
          exact fE (res1 Tryz.results11 rfl) () (eD (eD (eD (eD (eD (eD eR))))))
        ·
         replace h := ite_f hg5 h
         refine RJ_gn (GY_no rfl rfl rfl hg5B) rfl rfl <| RJ_gn (GY_no rfl rfl rfl hg5B) rfl rfl <| RJ_gn (GY_no rfl rfl rfl hg5B) rfl rfl <| oP (P_pickF rfl hg5B rfl) rfl <| oM rfl rfl <| RJ_gn (GY_no rfl rfl rfl rfl) rfl rfl <| RJ_gn (GY_no rfl rfl rfl rfl) rfl rfl <| RJ_gn (GY_no rfl rfl rfl rfl) rfl rfl <| RJ_gn (GY_no rfl rfl rfl rfl) rfl rfl <| oP (P_pickF rfl rfl rfl) rfl <| oA rfl rfl <| nT <| CJ_ret ?_
         cases h
         exact fE (res1 Tryz.results11 rfl) () (eD (eD (eD (eD (eD (eD eR))))))
end Go.Proofs
namespace Go.Proofs
open Go.VG
theorem awake19 : volumegrouplaw19_awake = some true := by kernel_rfl
def stN (L R c : Nat) : ArrS := ⟨List.replicate L ⟨List.replicate (16 + R * c) 0, List.replicate (16 + R * c) 0, false⟩, [], [], 0, false, L * (16 + R * c)⟩
def owN (L R c : Nat) : OwnS := ⟨(c : Int), none, trkT (List.replicate ((L - 1) * R * c) 0), [], []⟩
theorem bg311 : volumegrouplaw19_begun 3 1 1 = some (some (owN 3 1 1), some (stN 3 1 1)) := by kernel_rfl
theorem bg312 : volumegrouplaw19_begun 3 1 2 = some (some (owN 3 1 2), some (stN 3 1 2)) := by kernel_rfl
theorem bg321 : volumegrouplaw19_begun 3 2 1 = some (some (owN 3 2 1), some (stN 3 2 1)) := by kernel_rfl
theorem bg322 : volumegrouplaw19_begun 3 2 2 = some (some (owN 3 2 2), some (stN 3 2 2)) := by kernel_rfl
theorem bg331 : volumegrouplaw19_begun 3 3 1 = some (some (owN 3 3 1), some (stN 3 3 1)) := by kernel_rfl
theorem bg332 : volumegrouplaw19_begun 3 3 2 = some (some (owN 3 3 2), some (stN 3 3 2)) := by kernel_rfl
theorem bg411 : volumegrouplaw19_begun 4 1 1 = some (some (owN 4 1 1), some (stN 4 1 1)) := by kernel_rfl
theorem bg412 : volumegrouplaw19_begun 4 1 2 = some (some (owN 4 1 2), some (stN 4 1 2)) := by kernel_rfl
theorem bg421 : volumegrouplaw19_begun 4 2 1 = some (some (owN 4 2 1), some (stN 4 2 1)) := by kernel_rfl
theorem bg422 : volumegrouplaw19_begun 4 2 2 = some (some (owN 4 2 2), some (stN 4 2 2)) := by kernel_rfl
theorem bg431 : volumegrouplaw19_begun 4 3 1 = some (some (owN 4 3 1), some (stN 4 3 1)) := by kernel_rfl
theorem bg432 : volumegrouplaw19_begun 4 3 2 = some (some (owN 4 3 2), some (stN 4 3 2)) := by kernel_rfl
def stB (C : PC) : ArrS := ⟨List.replicate C.L ⟨List.replicate C.sz 0, List.replicate C.sz 0, false⟩, [], [], 0, false, C.L * C.sz⟩
def owB (C : PC) : OwnS := ⟨(C.c : Int), none, trkT (List.replicate C.D 0), [], []⟩
theorem begunP_eq (C : PC) : volumegrouplaw19_begun (C.L : Int) (C.R : Int) (C.c : Int) = some (some (owB C), some (stB C)) := by
  have h1 := C.hL
  have h2 := C.hR
  have h6 := C.hc
  have e1 : owB C = owN C.L C.R C.c := rfl
  have e2 : stB C = stN C.L C.R C.c := rfl
  have h3 : C.R = 1 ∨ C.R = 2 ∨ C.R = 3 := by omega
  have h4 : C.c = 1 ∨ C.c = 2 := by omega
  have h5 : C.L = 3 ∨ C.L = 4 := by omega
  rw [e1, e2]
  rcases h3 with h3 | h3 | h3 <;> rcases h4 with h4 | h4 <;> rcases h5 with h5 | h5 <;> rw [h3, h4, h5]
  · exact bg311
  · exact bg411
  · exact bg312
  · exact bg412
  · exact bg321
  · exact bg421
  · exact bg322
  · exact bg422
  · exact bg331
  · exact bg431
  · exact bg332
  · exact bg432
section
variable {C : PC} {a d b : Nat}
theorem nowB : now (stB C) d b = 0 := by
  show (((stB C).drv.getD d d0).now).getD b 0 = 0
  unfold stB
  simp only [List.getD, List.getElem?_replicate]
  split <;> simp [d0, List.getElem?_replicate]
  split <;> rfl
theorem durB : dur (stB C) d b = 0 := by
  show (((stB C).drv.getD d d0).dur).getD b 0 = 0
  unfold stB
  simp only [List.getD, List.getElem?_replicate]
  split <;> simp [d0, List.getElem?_replicate]
  split <;> rfl
theorem candB : cand (stB C) d b = [0] := by
  show dur (stB C) d b :: pendR [] d b = _
  rw [durB]; rfl
theorem arrB : ArrOk C.ns 500 (stB C) := by
  have hz := @PC.hsz C
  have hL := C.hL
  have hims : (List.replicate C.L (List.replicate C.sz (0 : UInt64))).map (fun im => (⟨im, im, false⟩ : Drive)) = List.replicate C.L ⟨List.replicate C.sz 0, List.replicate C.sz 0, false⟩ := by rw [List.map_replicate]
  have hs : stB C = { mkS (List.replicate C.L (List.replicate C.sz 0)) with writes := C.L * C.sz } := by
    unfold stB mkS; rw [hims]
  have hns : lensN (List.replicate C.L (List.replicate C.sz (0 : UInt64))) = C.ns := by
    unfold lensN PC.ns; rw [List.map_replicate, List.length_replicate]
  have h1 := inSz_mkS (ims := List.replicate C.L (List.replicate C.sz (0 : UInt64)))
  rw [hns] at h1
  have hc := coh_mkS (ims := List.replicate C.L (List.replicate C.sz (0 : UInt64)))
  have hw : C.L * C.sz ≤ 4 * 22 := Nat.mul_le_mul hL.2 hz.2
  rw [hs]
  exact ⟨⟨h1.cnt, h1.size, by show C.L * C.sz ≤ _; omega⟩, by show C.L * C.sz ≤ _; omega, ⟨hc.len, hc.last, hc.log⟩, rfl⟩
theorem missB {e : Nat} : miss (stB C) e = false := by
  show ((stB C).drv.getD e d0).miss = false
  unfold stB
  simp only [List.getD, List.getElem?_replicate]
  split <;> rfl
theorem xr_zero : ∀ {n : Nat}, xr (fun _ => 0) n = 0
  | 0 => rfl
  | n + 1 => by
    show xr (fun _ => 0) n ^^^ 0 = 0
    rw [xr_zero, UInt64.xor_zero]
theorem jvB : JV C (fun _ _ => 0) 0 ⟨0, 0, 0, 0⟩ := ⟨fun _ _ => xr_zero, fun h => absurd rfl h, by decide⟩
theorem trkB (h : a < C.D) : (owB C).T.getD a s0 = mkSec 0 := by
  show (trkT (List.replicate C.D 0)).getD a s0 = _
  unfold trkT
  rw [List.map_replicate]
  simp [List.getD, List.getElem?_replicate, h]
theorem tiB : TI C (owB C).T (fun _ _ => 0) := ⟨fun a ha => by rw [trkB ha]; exact List.mem_singleton.2 rfl, fun a ha _ => by rw [trkB ha]; rfl⟩
theorem tlB : TL C 500 (owB C).T := ⟨by show (trkT (List.replicate C.D 0)).length = _; unfold trkT; simp, fun a ha => by rw [trkB ha]; simp [mkSec]⟩
end
theorem u8modP {n k : UInt8} (hk : 0 < k.toNat) : (n % k).toNat < k.toNat := by rw [UInt8.toNat_mod]; exact Nat.mod_lt _ hk
def CP (n : UInt8) : PC where
  L := 3 + (n % 2).toNat
  R := 1 + ((n / 2) % 3).toNat
  c := 1 + ((n / 8) % 2).toNat
  hL := by have := @u8modP n 2 (by decide); have e : (2 : UInt8).toNat = 2 := rfl; omega
  hR := by have := @u8modP (n / 2) 3 (by decide); have e : (3 : UInt8).toNat = 3 := rfl; omega
  hc := by have := @u8modP (n / 8) 2 (by decide); have e : (2 : UInt8).toNat = 2 := rfl; omega
end Go.Proofs
namespace Go.Proofs
open Go.VG
def Fr (st : Option Nat) (s t : ArrS) : Prop := ∀ d, st = some d → ∀ b, now t d b = now s d b
def Fi (C : PC) (st : Option Nat) (k : Nat) (V : Nat → Nat → UInt64) (s : ArrS) : Prop := ∀ d, st = some d → ∀ o, o < C.O → o / C.c < k → now s d (16 + o) = V d o
section
variable {C : PC} {V V' : Nat → Nat → UInt64} {st fl : Option Nat} {qo q q' : UInt64} {e e' : PE} {hp hn hp' hn' : UInt64 → Prop} {x x' : Nat → Nat → Prop} {nwP nwP' bc bc' : Prop} {bn bn' k i d f o a : Nat} {mz : Nat → Bool} {K K' : Nat} {r s t u : ArrS} {v w : UInt64} {p : Bool}
theorem Fr.refl : Fr st s s := fun _ _ _ => rfl
theorem Fr.trans (h : Fr st s t) (h1 : Fr st t u) : Fr st s u := fun d hd b => (h1 d hd b).trans (h d hd b)
theorem Fr.upd (hu : Upd s t i a v) (hi : st ≠ some i) : Fr st s t := fun d hd b => by rw [hu.now, if_neg (fun z => hi (by rw [hd, z.1]))]
theorem Fr.fls (hu : Fls C s t i) : Fr st s t := fun d _ b => hu.now d b
theorem Fi.fr (h : Fi C st k V s) (hf : Fr st s t) : Fi C st k V t := fun d hd o ho hk => by rw [hf d hd]; exact h d hd o ho hk
theorem PEn.wrR (hm : ∀ i, mz i = false) (h : PEn C mz False K s) (hK : K ≤ 900000) (hd : d < C.L) (ha : a < C.sz) : ∃ t, (xL d C.sz).wr s (a : Int) v = some (0, t) ∧ PEn C mz False (K + 1) t ∧ Upd s t d a v := by
  rcases h.wr (v := v) hK hd ha (hm d) with y | ⟨t, -, y, -⟩
  · exact y
  · exact y.f.elim
theorem all_ruleR {on : VolS → Int → ArrS → Option (Int × VolS × ArrS)} {g : Nat → ArrS → VolS → Nat → Option ((VolS × ArrS) ⊕ (Int × VolS × ArrS))} (hf : ∀ n s v i, g (n + 1) s v i = allB (vol C st none q e p k) on (g n) s v i) {I : Nat → ArrS → Prop}
    (hstep : ∀ i s, i < C.L → st ≠ some i → I i s → ∃ t, on (vol C st none q e p k) (i : Int) s = some (0, vol C st none q e p k, t) ∧ I (i + 1) t) (hskip : ∀ i s, i < C.L → st = some i → I i s → I (i + 1) s) (h0 : I 0 s) : ∃ t, g FUEL s (vol C st none q e p k) 0 = some (.inl (vol C st none q e p k, t)) ∧ I C.L t := by
  have hF := fuel_big
  have hL := C.hL
  rcases all_rule (mz := fun _ => false) (G := fun _ => False) hf (fun i s h1 h2 h3 => .inl (hstep i s h1 h2 h3)) hskip FUEL 0 s (by omega) (by omega) h0 with y | ⟨_, _, y⟩ | ⟨j, _, _, y, _⟩
  · exact y
  · exact y.elim
  · cases y
theorem bodiesR (hm : ∀ i, mz i = false) (he : PEn C mz False K s) (hK : K ≤ 800000) (hsl : qo ≠ 0 → slq qo ≠ slq q) (hA : Ls C st fun d => Lg C V qo e q e' hp hn x nwP 0 False s d) :
    ∃ t, parityvol_Volume_bodies (vol C st none q e' p k) s = some (0, vol C st none q e' p k, t) ∧ PEn C mz False (K + 12) t ∧ (Ls C st fun d => Lg C V qo e q e' hp hn x nwP 3 False t d) ∧ Fr st s t := by
  have hF := fuel_big
  have hL := C.hL
  have hz := @PC.hsz C
  have s2 := @sl_le q
  have hll : (vol C st none q e' p k).legs = legsP C st none := rfl
  let I : Nat → ArrS → Prop := fun i t => PEn C mz False (K + 3 * i) t ∧ (Ls C st fun d => Lg C V qo e q e' hp hn x nwP (if d < i then 3 else 0) False t d) ∧ Fr st s t
  have hr := all_ruleR (C := C) (st := st) (q := q) (e := e') (p := p) (k := k) (on := fun v i s => parityvol_Volume_on__parityvol_Volume_bodies_1 v i [hdW e'.off e'.leg, e'.w, e'.p] s) (g := parityvol_Volume_all__parityvol_Volume_bodies_1_l1 (vol C st none q e' p k) [hdW e'.off e'.leg, e'.w, e'.p]) (fun _ _ _ _ => rfl) (I := I) (s := s) (fun i u hi hs hI => by
    obtain ⟨h1, h2, h4⟩ := hI
    unfold parityvol_Volume_on__parityvol_Volume_bodies_1 parityvol_Volume_bodies_1
    rw [hll, legsP_len, Int.toNat_natCast, grd_t (decide_eq_true ⟨by omega, by omega⟩), legsP_at hi, show (vol C st none q e' p k).last_seq = q from rfl, slot_eq, show (legP C st none i).dev = xL i C.sz from rfl]; simp only [Option.bind_some]
    have hsz : ∀ u, (xL i C.sz).size u = some (C.sz : Int) := fun _ => span_size
    rcases writeAllR (x := xL i C.sz) (l := [hdW e'.off e'.leg, e'.w, e'.p]) (at_ := ((slq q : Nat) : Int)) (m := (C.sz : Int)) (s := u) (I := fun j t => PEn C mz False (K + 3 * i + j) t ∧ (Ls C st fun d => Lg C V qo e q e' hp hn x nwP (if d < i then 3 else if d = i then j else 0) False t d) ∧ Fr st s t) (E := fun _ _ => False) (hsz u) (by omega) ⟨by omega, by simp; omega⟩ (fun j t hj hI' => by
        obtain ⟨g1, g2, g4⟩ := hI'
        have hj3 : j < 3 := hj
        have e1 : ((slq q : Nat) : Int) + (j : Int) = ((slq q + j : Nat) : Int) := by push_cast; rfl
        have e2 : [hdW e'.off e'.leg, e'.w, e'.p].getD j 0 = bodyW e' j := by
          have : j = 0 ∨ j = 1 ∨ j = 2 := by omega
          rcases this with rfl | rfl | rfl <;> rfl
        rw [e1, e2]
        obtain ⟨t', w1, w2, w3⟩ := g1.wrR hm (v := bodyW e' j) (a := slq q + j) (by omega) hi (by omega)
        refine .inl ⟨t', w1, w2, fun d hd hds => ?_, g4.trans (Fr.upd w3 hs)⟩
        have g3 : Lg C V qo e q e' hp hn x nwP _ False t d := g2 d hd hds
        show Lg C V qo e q e' hp hn x nwP _ False t' d
        by_cases hdi : d = i
        · subst hdi
          rw [if_neg (by omega), if_pos rfl] at g3 ⊢
          exact g3.body hsl hj3 w3
        · have g5 := g3.oth w3 (fun z => hdi z.symm)
          rw [if_neg hdi] at g5 ⊢; exact g5) ⟨h1, fun d hd hds => by
            have g3 : Lg C V qo e q e' hp hn x nwP _ False u d := h2 d hd hds
            show Lg C V qo e q e' hp hn x nwP _ False u d
            by_cases hdi : d < i
            · rw [if_pos hdi] at g3 ⊢; exact g3
            · rw [if_neg hdi] at g3 ⊢
              split <;> exact g3, h4⟩ with ⟨t, g1, g2, g3, g4⟩ | ⟨er, t, g0, g1, g2⟩
    · rw [g1]; simp only [Option.bind_some]
      rw [on1_ok (.inl rfl)]; simp only [Option.bind_some]
      refine ⟨t, rfl, g2.mono (by simp; omega), fun d hd hds => ?_, g4⟩
      have g5 : Lg C V qo e q e' hp hn x nwP _ False t d := g3 d hd hds
      show Lg C V qo e q e' hp hn x nwP _ False t d
      by_cases hdi : d < i
      · rw [if_pos hdi] at g5; rw [if_pos (by omega)]; exact g5
      · rw [if_neg hdi] at g5
        by_cases hde : d = i
        · rw [if_pos hde] at g5; rw [if_pos (by omega)]; exact g5
        · rw [if_neg hde] at g5; rw [if_neg (by omega)]; exact g5
    · exact g2.elim) (fun i u hi hs hI => by
    obtain ⟨h1, h2, h4⟩ := hI
    refine ⟨h1.mono (by omega), fun d hd hds => ?_, h4⟩
    have g : Lg C V qo e q e' hp hn x nwP _ False u d := h2 d hd hds
    show Lg C V qo e q e' hp hn x nwP _ False u d
    have : d ≠ i := fun z => hds (by rw [hs, z])
    by_cases hdi : d < i
    · rw [if_pos hdi] at g; rw [if_pos (by omega)]; exact g
    · rw [if_neg hdi] at g; rw [if_neg (by omega)]; exact g) ⟨he, fun d hd hds => by
      show Lg C V qo e q e' hp hn x nwP _ False s d
      rw [if_neg (by omega)]; exact hA d hd hds, Fr.refl⟩
  unfold parityvol_Volume_bodies parityvol_Volume_all__parityvol_Volume_bodies_1
  rw [show [((shl_u64 (to_u64 (vol C st none q e' p k).last_offset) 3) ||| (to_u64 (vol C st none q e' p k).last_leg)), (vol C st none q e' p k).last_word, (vol C st none q e' p k).last_parity] = [hdW e'.off e'.leg, e'.w, e'.p] from rfl]
  obtain ⟨t, h1, h2, h3, h4⟩ := hr
  rw [h1, seqO_inl]
  exact ⟨t, rfl, h2.mono (by omega), fun d hd hds => by
    have g : Lg C V qo e q e' hp hn x nwP _ False t d := h3 d hd hds
    rw [if_pos hd] at g; exact g, h4⟩
theorem flushR (hm : ∀ i, mz i = false) (he : PEn C mz False K s) (hK : K ≤ 800000) (hb : 3 ≤ bn ∨ bc) (hA : Ls C st fun d => Lg C V qo e q e' hp hn x nwP bn bc s d) :
    ∃ t, parityvol_Volume_flush (vol C st none q e' p k) s = some (0, vol C st none q e' p k, t) ∧ PEn C mz False K t ∧ (Ls C st fun d => Lg C V qo e q e' (fun c => hn c ∧ hp c) (fun c => hn c ∧ hp c) (fun d o => x d o ∧ ¬ nwP) nwP bn True t d) ∧ Fr st s t := by
  have hF := fuel_big
  have hL := C.hL
  have hll : (vol C st none q e' p k).legs = legsP C st none := rfl
  let I : Nat → ArrS → Prop := fun i t => PEn C mz False K t ∧ (Ls C st fun d => Lg C V qo e q e' hp hn x nwP bn bc t d ∧ (d < i → Lg C V qo e q e' (fun c => hn c ∧ hp c) (fun c => hn c ∧ hp c) (fun d o => x d o ∧ ¬ nwP) nwP bn True t d)) ∧ Fr st s t
  have hr := all_ruleR (C := C) (st := st) (q := q) (e := e') (p := p) (k := k) (on := fun v i s => parityvol_Volume_on__parityvol_Volume_flush_1 v i s) (g := parityvol_Volume_all__parityvol_Volume_flush_1_l1 (vol C st none q e' p k)) (fun _ _ _ _ => rfl) (I := I) (s := s) (fun i u hi hs hI => by
    obtain ⟨h1, h2, h4⟩ := hI
    unfold parityvol_Volume_on__parityvol_Volume_flush_1 parityvol_Volume_flush_1
    rw [hll, legsP_len, Int.toNat_natCast, grd_t (decide_eq_true ⟨by omega, by omega⟩), legsP_at hi, show (legP C st none i).dev = xL i C.sz from rfl]
    obtain ⟨t, w1, w2, w3⟩ := h1.fl (by omega) hi (hm i)
    rw [w1]; simp only [Option.bind_some]
    rw [on1_ok (.inl rfl)]; simp only [Option.bind_some]
    refine ⟨t, rfl, w2, fun d hd hds => ?_, h4.trans (Fr.fls w3)⟩
    obtain ⟨g1, g2⟩ := h2 d hd hds
    by_cases hdi : d = i
    · subst hdi
      have g3 := g1.flush h1 hd w3 hb
      refine ⟨?_, fun _ => g3⟩
      exact g3.weaken (fun _ z => z.2) (fun _ z => z.1) (fun _ z => z.1) id (Nat.le_refl _) (fun _ => trivial)
    · exact ⟨g1.othF w3 hd (fun z => hdi z.symm), fun z => (g2 (by omega)).othF w3 hd (fun z => hdi z.symm)⟩) (fun i u hi hs hI => ⟨hI.1, fun d hd hds => ⟨(hI.2.1 d hd hds).1, fun z => (hI.2.1 d hd hds).2 (by have : d ≠ i := fun y => hds (by rw [hs, y]); omega)⟩, hI.2.2⟩) ⟨he, fun d hd hds => ⟨hA d hd hds, fun z => absurd z (by omega)⟩, Fr.refl⟩
  unfold parityvol_Volume_flush parityvol_Volume_all__parityvol_Volume_flush_1
  obtain ⟨t, h1, h2, h3, h4⟩ := hr
  rw [h1, seqO_inl]
  exact ⟨t, rfl, h2, fun d hd hds => (h3 d hd hds).2 hd, h4⟩
theorem headsR (hm : ∀ i, mz i = false) (he : PEn C mz False K s) (hK : K ≤ 800000) (hA : Ls C st fun d => Lg C V qo e q e' hp hn x nwP bn bc s d) :
    ∃ t, parityvol_Volume_heads (vol C st none q e' p k) s = some (0, vol C st none q e' true k, t) ∧ PEn C mz False (K + 4) t ∧ (Ls C st fun d => Lg C V qo e q e' (fun c => hp c ∨ c = q) (· = q) x nwP bn bc t d) ∧ Fr st s t := by
  have hF := fuel_big
  have hL := C.hL
  have hz := @PC.hsz C
  have hll : (vol C st none q e' true k).legs = legsP C st none := rfl
  let I : Nat → ArrS → Prop := fun i t => PEn C mz False (K + i) t ∧ (Ls C st fun d => Lg C V qo e q e' (fun c => hp c ∨ c = q) (fun _ => True) x nwP bn bc t d ∧ (d < i → Lg C V qo e q e' (fun c => hp c ∨ c = q) (· = q) x nwP bn bc t d)) ∧ Fr st s t
  have hr := all_ruleR (C := C) (st := st) (q := q) (e := e') (p := true) (k := k) (on := fun v i s => parityvol_Volume_on__parityvol_Volume_heads_1 v i s) (g := parityvol_Volume_all__parityvol_Volume_heads_1_l1 (vol C st none q e' true k)) (fun _ _ _ _ => rfl) (I := I) (s := s) (fun i u hi hs hI => by
    obtain ⟨h1, h2, h4⟩ := hI
    unfold parityvol_Volume_on__parityvol_Volume_heads_1 parityvol_Volume_heads_1
    rw [hll, legsP_len, Int.toNat_natCast, grd_t (decide_eq_true ⟨by omega, by omega⟩), legsP_at hi, show (legP C st none i).dev = xL i C.sz from rfl, show (vol C st none q e' true k).last_seq = q from rfl]
    obtain ⟨t, w1, w2, w3⟩ := h1.wrR hm (v := q) (a := 0) (by omega) hi (by omega)
    rw [show (xL i C.sz).wr u (0 : Int) q = some (0, t) from w1]; simp only [Option.bind_some]
    rw [on1_ok (.inl rfl)]; simp only [Option.bind_some]
    refine ⟨t, rfl, w2, fun d hd hds => ?_, h4.trans (Fr.upd w3 hs)⟩
    obtain ⟨g1, g2⟩ := h2 d hd hds
    by_cases hdi : d = i
    · subst hdi
      have g3 := g1.head w3
      exact ⟨g3.weaken (fun _ z => z.elim id .inr) (fun _ _ => trivial) (fun _ z => z) id (Nat.le_refl _) id, fun _ => g3.weaken (fun _ z => z.elim id .inr) (fun _ z => z) (fun _ z => z) id (Nat.le_refl _) id⟩
    · exact ⟨g1.oth w3 (fun z => hdi z.symm), fun z => (g2 (by omega)).oth w3 (fun z => hdi z.symm)⟩) (fun i u hi hs hI => ⟨hI.1.mono (by omega), fun d hd hds => ⟨(hI.2.1 d hd hds).1, fun z => (hI.2.1 d hd hds).2 (by have : d ≠ i := fun y => hds (by rw [hs, y]); omega)⟩, hI.2.2⟩) ⟨he, fun d hd hds => ⟨(hA d hd hds).weaken (fun _ z => .inl z) (fun _ _ => trivial) (fun _ z => z) id (Nat.le_refl _) id, fun z => absurd z (by omega)⟩, Fr.refl⟩
  unfold parityvol_Volume_heads parityvol_Volume_all__parityvol_Volume_heads_1
  rw [show ({ vol C st none q e' p k with pending := true } : VolS) = vol C st none q e' true k from rfl]
  obtain ⟨t, h1, h2, h3, h4⟩ := hr
  rw [h1, seqO_inl]
  exact ⟨t, rfl, h2.mono (by omega), fun d hd hds => (h3 d hd hds).2 hd, h4⟩
theorem storeR (hm : ∀ i, mz i = false) (he : PEn C mz False K s) (hK : K ≤ 800000) (hd : d < C.L) (ho : e'.off < C.O) (hx : ∀ d, d = e'.leg ∨ d = C.par e'.off → x d e'.off) (hde : d = e'.leg ∨ d = C.par e'.off) (hbn : bn ≤ 3) (hA : Ls C st fun d => Lg C V qo e q e' hp hn x False bn bc s d) {w : UInt64} :
    ∃ t, parityvol_Volume_store (vol C st none q e' p k) (d : Int) w s = some (0, vol C st none q e' p k, t) ∧ PEn C mz False (K + 1) t ∧ (Ls C st fun d => Lg C V qo e q e' hp hn x False bn bc t d) ∧ ((st ≠ some d ∨ e'.off / C.c < k) → now t d (16 + e'.off) = w) ∧ ∀ f b, f ≠ d ∨ b ≠ 16 + e'.off → now t f b = now s f b := by
  have hO := @PC.hO C
  have hL := C.hL
  have hc := C.hc
  have hsz : C.sz = 16 + C.O := rfl
  have hll : (vol C st none q e' p k).legs = legsP C st none := rfl
  have e16 : (16 : Int) + (vol C st none q e' p k).last_offset = ((16 + e'.off : Nat) : Int) := by
    show (16 : Int) + (e'.off : Int) = _
    push_cast; rfl
  have key : ∃ t, parityvol_Volume_on__parityvol_Volume_store_1 (vol C st none q e' p k) (d : Int) w s = some (0, vol C st none q e' p k, t) ∧ PEn C mz False (K + 1) t ∧ (Ls C st fun d => Lg C V qo e q e' hp hn x False bn bc t d) ∧ now t d (16 + e'.off) = w ∧ ∀ f b, f ≠ d ∨ b ≠ 16 + e'.off → now t f b = now s f b := by
    unfold parityvol_Volume_on__parityvol_Volume_store_1 parityvol_Volume_store_1
    rw [hll, legsP_len, Int.toNat_natCast, grd_t (decide_eq_true ⟨by omega, by omega⟩), e16, grd_t (inI64_of (by omega)), legsP_at hd, show (legP C st none d).dev = xL d C.sz from rfl]
    obtain ⟨t, w1, w2, w3⟩ := he.wrR hm (v := w) (a := 16 + e'.off) (by omega) hd (by omega)
    rw [w1]; simp only [Option.bind_some]
    rw [on1_ok (.inl rfl)]; simp only [Option.bind_some]
    refine ⟨t, rfl, w2, fun f hf hfs => ?_, by rw [w3.now, if_pos ⟨rfl, rfl⟩], fun f b hf => by rw [w3.now, if_neg (fun z => hf.elim (fun y => y z.1.symm) (fun y => y z.2.symm))]⟩
    by_cases hfd : f = d
    · subst hfd
      exact (hA f hf hfs).word hbn (hx f hde) w3
    · exact (hA f hf hfs).oth w3 (fun z => hfd z.symm)
  obtain ⟨t, k1, k2, k3, k4, k5⟩ := key
  unfold parityvol_Volume_store
  rw [hll, legsP_len, Int.toNat_natCast, grd_t (decide_eq_true ⟨by omega, by omega⟩), legsP_at hd]
  by_cases hs : st = some d
  · have hdv : e'.off / C.c ≤ e'.off := Nat.div_le_self _ _
    rw [if_pos (by simp [legP, hs]), show (vol C st none q e' p k).layout_chunk = (C.c : Int) from rfl, grd_t (decide_eq_true (by omega)), show (vol C st none q e' p k).filled = (k : Int) from rfl, show (vol C st none q e' p k).last_offset = (e'.off : Int) from rfl, tdivN, wrapN (by omega)]
    by_cases hk : k ≤ e'.off / C.c
    · rw [if_pos (Int.ofNat_le.2 hk)]
      exact ⟨s, rfl, he.mono (by omega), hA, fun z => z.elim (fun y => absurd hs y) (fun y => absurd y (by omega)), fun _ _ _ => rfl⟩
    · rw [if_neg (fun y => hk (Int.ofNat_le.1 y)), k1]
      exact ⟨t, rfl, k2, k3, fun _ => k4, k5⟩
  · rw [if_neg (by simp [legP, hs]), k1]
    exact ⟨t, rfl, k2, k3, fun _ => k4, k5⟩
theorem applyR (hm : ∀ i, mz i = false) (he : PEn C mz False K s) (hK : K ≤ 700000) (hev : EV C V e') (hx : ∀ d, d = e'.leg ∨ d = C.par e'.off → x d e'.off) (hbn : bn ≤ 3) (hA : Ls C st fun d => Lg C V qo e q e' hp hn x False bn bc s d) (hfi : ∀ d, st = some d → ∀ o, o < C.O → o / C.c < k → ¬ exE C e' d o → now s d (16 + o) = V d o) :
    ∃ t, parityvol_Volume_apply (vol C st none q e' p k) s = some (0, vol C st none q e' false k, t) ∧ PEn C mz False (K + 2) t ∧ (Ls C st fun d => Lg C V qo e q e' hp hn x False bn bc t d ∧ ∀ o, exE C e' d o → now t d (16 + o) = V d o) ∧ Fi C st k V t := by
  have hpar := PC.parL hev.off
  have hp0 : ({ vol C st none q e' p k with pending := (vol C st none q e' p k).pending && decide ((0 : Int) ≠ 0) } : VolS) = vol C st none q e' false k := by cases p <;> rfl
  unfold parityvol_Volume_apply
  rw [show (⟨(vol C st none q e' p k).layout_n, (vol C st none q e' p k).layout_chunk, (vol C st none q e' p k).layout_rows⟩ : parityvol_layout) = ⟨(C.L : Int), (C.c : Int), (C.R : Int)⟩ from rfl, show (vol C st none q e' p k).last_offset = (e'.off : Int) from rfl, parityOf_eq hev.off, show (vol C st none q e' p k).last_leg = (e'.leg : Int) from rfl, show (vol C st none q e' p k).last_word = e'.w from rfl]; simp only [Option.bind_some]
  obtain ⟨t, h1, h2, h3, h4, h5⟩ := storeR (d := e'.leg) (w := e'.w) (p := p) (k := k) hm he (by omega) hev.leg hev.off hx (.inl rfl) hbn hA
  rw [h1]; simp only [Option.bind_some]
  rw [if_pos trivial, show (vol C st none q e' p k).last_parity = e'.p from rfl]
  obtain ⟨t2, g1, g2, g3, g4, g5⟩ := storeR (d := C.par e'.off) (w := e'.p) (p := p) (k := k) hm h2 (by omega) hpar hev.off hx (.inr rfl) hbn h3
  rw [g1]; simp only [Option.bind_some]
  rw [hp0]
  have hat : ∀ d o, exE C e' d o → (st ≠ some d ∨ o / C.c < k) → now t2 d (16 + o) = V d o := fun d o ho hk => by
    obtain ⟨rfl, ho⟩ := ho
    by_cases hdp : d = C.par e'.off
    · subst hdp; rw [g4 hk, hev.p]
    · rcases ho with rfl | ho
      · rw [g5 _ _ (.inl hdp), h4 hk, hev.w]
      · exact absurd ho hdp
  refine ⟨t2, rfl, g2, fun d hd hds => ⟨g3 d hd hds, fun o ho => hat d o ho (.inl hds)⟩, fun d hd o ho hk => ?_⟩
  by_cases z : exE C e' d o
  · exact hat d o z (.inr hk)
  · have n1 : ∀ c, c = e'.leg ∨ c = C.par e'.off → d ≠ c ∨ 16 + o ≠ 16 + e'.off := fun c hc => by
      by_cases y : o = e'.off
      · refine .inl (fun u => z ⟨y, ?_⟩)
        rw [u]; exact hc
      · exact .inr (by omega)
    rw [g5 _ _ (n1 _ (.inr rfl)), h5 _ _ (n1 _ (.inl rfl))]
    exact hfi d hd o ho hk z
theorem putR (hm : ∀ i, mz i = false) (he : PEn C mz False K s) (hK : K ≤ 500000) (hj : JW C V q e) (hx : Ny C V q V' q' e') (hA : Qs C st V q e s) (hfi : Fi C st k V s) :
    ∃ t, parityvol_Volume_put (vol C st none q e false k) (⟨0, e'.off, e'.leg, e'.w, e'.p⟩ : parityvol_entry) s = some (0, vol C st none q' e' false k, t) ∧ PEn C mz False (K + 18) t ∧ Qs C st V' q' e' t ∧ Fi C st k V' t := by
  have hqq := hx.q
  subst hqq
  have hq := seq_ne hj.sm
  unfold parityvol_Volume_put
  rw [show ({ vol C st none q e false k with last_seq := (vol C st none q e false k).last_seq + (1 : UInt64), last_offset := ((⟨0, e'.off, e'.leg, e'.w, e'.p⟩ : parityvol_entry)).offset, last_leg := ((⟨0, e'.off, e'.leg, e'.w, e'.p⟩ : parityvol_entry)).leg, last_word := ((⟨0, e'.off, e'.leg, e'.w, e'.p⟩ : parityvol_entry)).word, last_parity := ((⟨0, e'.off, e'.leg, e'.w, e'.p⟩ : parityvol_entry)).parity } : VolS) = vol C st none (q + 1) e' false k from rfl]
  unfold parityvol_Volume_commit parityvol_Volume_steps parityvol_run
  simp only [Option.bind_some]
  obtain ⟨t1, a1, a2, a3, a4⟩ := bodiesR (p := false) (k := k) hm he (by omega) (fun _ => seq_sl hj.sm) (hA.imp fun d _ _ h => Q0.start (q' := q + 1) (e' := e') h)
  rw [a1]; simp only [Option.bind_some]
  rw [if_neg (by simp)]
  obtain ⟨t2, b1, b2, b3, b4⟩ := flushR (p := false) (k := k) hm a2 (by omega) (.inl (Nat.le_refl 3)) a3
  rw [b1]; simp only [Option.bind_some]
  rw [if_neg (by simp)]
  obtain ⟨t3, c1, c2, c3, c4⟩ := headsR (p := false) (k := k) hm b2 (by omega) b3
  rw [c1]; simp only [Option.bind_some]
  rw [if_neg (by simp)]
  obtain ⟨t4, d1, d2, d3, d4⟩ := flushR (p := true) (k := k) hm c2 (by omega) (.inr trivial) c3
  rw [d1]; simp only [Option.bind_some]
  rw [if_neg (by simp)]
  have hB : Ls C st fun d => Lg C V' 0 e' (q + 1) e' (· = q + 1) (· = q + 1) (exE C e') False 0 True t4 d := d3.imp fun d _ _ h =>
    ((h.reV (V' := V') (fun o _ z => z.1.2 trivial) (hx.old d)).weaken (fun _ z => z.1) (fun _ z => z.1) (fun _ z => z) id (Nat.zero_le _) id)
  have hfr := ((a4.trans b4).trans c4).trans d4
  obtain ⟨t5, f1, f2, f3, f4⟩ := applyR (p := true) (bn := 0) (k := k) hm d2 (by omega) hx.ev (fun d hd => ⟨rfl, hd⟩) (by omega) hB (fun d hd o ho hk hne => by rw [hfr d hd, hx.old d o hne]; exact hfi d hd o ho hk)
  rw [f1]; simp only [Option.bind_some]
  rw [if_neg (by simp)]; simp only [Option.bind_some]
  rw [if_neg (fun z => absurd z.1 (by simp))]
  exact ⟨t5, rfl, f2.mono (by omega), fun d hd hds => Fu.done f2 hd hq (f3 d hd hds).1 (f3 d hd hds).2, f4⟩
theorem wordR (hm : ∀ i, mz i = false) (he : PEn C mz False K s) (hd : d < C.L) (ho : o < C.O) (hv : Row C st s V o) : parityvol_Volume_word (vol C st none q e p k) (d : Int) (o : Int) s = some (V d o, false, 0, vol C st none q e p k) := by
  rcases word_eq (q := q) (e := e) (p := p) (k := k) he hd ho hv with y | ⟨_, j, _, y, _⟩
  · exact y
  · rw [hm j] at y; cases y
theorem pwriteR (hm : ∀ i, mz i = false) (he : PEn C mz False K s) (hK : K ≤ 500000) (hj : JV C V q e) (hA : Qs C st V q e s) (hfi : Fi C st k V s) (ha : a < C.D) :
    ∃ t, parityvol_Volume_Write (vol C st none q e false k) (a : Int) w s = some (0, vol C st none (q + 1) (wrE C V a w) false k, t) ∧ PEn C mz False (K + 18) t ∧ Qs C st (wrV C V a w) (q + 1) (wrE C V a w) t ∧ Fi C st k (wrV C V a w) t := by
  obtain ⟨p1, p2, p3, -⟩ := PC.plc ha
  have p4 := PC.parL p2
  unfold parityvol_Volume_Write
  rw [if_neg (by omega), psize_eq]; simp only [Option.bind_some]
  rw [if_neg (by omega), ready_0]; simp only [Option.bind_some]
  rw [if_neg (by simp), show (⟨(vol C st none q e false k).layout_n, (vol C st none q e false k).layout_chunk, (vol C st none q e false k).layout_rows⟩ : parityvol_layout) = ⟨(C.L : Int), (C.c : Int), (C.R : Int)⟩ from rfl, place_eq ha]; simp only [Option.bind_some]
  rw [wordR hm he p1 p2 (hA.row hj p2)]; simp only [Option.bind_some]
  rw [if_neg (by simp), wordR hm he p4 p2 (hA.row hj p2)]; simp only [Option.bind_some]
  unfold parity_Update
  rw [if_neg (by simp)]; simp only [Option.bind_some]
  obtain ⟨t, k1, k2, k3, k4⟩ := putR (e' := wrE C V a w) hm he hK hj.jw (wr_nx (w := w) ha hj).ny hA hfi
  rw [show (⟨0, ((wrE C V a w).off : Int), ((wrE C V a w).leg : Int), (wrE C V a w).w, (wrE C V a w).p⟩ : parityvol_entry) = ⟨(0 : UInt64), (C.off a : Int), (C.leg a : Int), w, V (C.leg a) (C.off a) ^^^ w ^^^ V (C.par (C.off a)) (C.off a)⟩ from rfl] at k1
  rw [k1]
  exact ⟨t, rfl, k2, k3, k4⟩
theorem preadR (hm : ∀ i, mz i = false) (he : PEn C mz False K s) (hj : JV C V q e) (hA : Qs C st V q e s) (ha : a < C.D) : parityvol_Volume_Read (vol C st none q e false k) (a : Int) s = some (V (C.leg a) (C.off a), 0, vol C st none q e false k, s) := by
  rcases pread_eq (k := k) he hj hA ha with y | ⟨j, _, _, y, _⟩
  · exact y
  · rw [hm j] at y; cases y
theorem pflushR_l1 (hm : ∀ i, mz i = false) {r1 : Int × VolS × ArrS} (hr1 : r1.2.1.legs.length = C.L) : ∀ (N i : Nat) (u : ArrS), C.L - i < N → i ≤ C.L → PEn C mz False K u → K ≤ 800000 → Qs C st V q e u → Fr st s u →
    ∃ t, parityvol_Volume_Flush_l1 r1 N u (vol C st none q e false k) i 0 = some (.inl (0, vol C st none q e false k, t)) ∧ PEn C mz False K t ∧ Qs C st V q e t ∧ Fr st s t
  | 0, _, _, h, _, _, _, _, _ => absurd h (by omega)
  | N + 1, i, u, h, hi, he, hK, hA, hf => by
    have hL := C.hL
    have hll : (vol C st none q e false k).legs = legsP C st none := rfl
    have hu : parityvol_Volume_Flush_l1 r1 (N + 1) u (vol C st none q e false k) i 0 = parityvol_Volume_Flush_l1_b r1 (parityvol_Volume_Flush_l1 r1 N) u (vol C st none q e false k) i 0 := rfl
    rw [hu]
    unfold parityvol_Volume_Flush_l1_b
    rw [hr1, hll, legsP_len]
    by_cases hlt : i < C.L
    · rw [if_pos (by omega), grd_t (decide_eq_true hlt), legsP_at hlt]
      by_cases hs : st = some i
      · rw [if_pos (by simp [legP, hs])]
        exact pflushR_l1 hm hr1 N (i + 1) u (by omega) (by omega) he hK hA hf
      · rw [if_neg (by simp [legP, hs])]
        unfold parityvol_Volume_on__parityvol_Volume_Flush_1 parityvol_Volume_Flush_1
        rw [hll, legsP_len, Int.toNat_natCast, grd_t (decide_eq_true ⟨by omega, by omega⟩), legsP_at hlt, show (legP C st none i).dev = xL i C.sz from rfl]
        obtain ⟨t, w1, w2, w3⟩ := he.fl (by omega) hlt (hm i)
        rw [w1]; simp only [Option.bind_some]
        rw [on1_ok (.inl rfl)]; simp only [Option.bind_some]
        have hA' : Qs C st V q e t := fun d hd hds => by
          by_cases hdi : d = i
          · subst hdi; exact (hA d hd hds).flush he hd w3
          · exact (hA d hd hds).othF w3 hd (fun z => hdi z.symm)
        rw [if_neg (by simp), if_pos trivial]
        exact pflushR_l1 hm hr1 N (i + 1) t (by omega) (by omega) w2 hK hA' (hf.trans (Fr.fls w3))
    · rw [if_neg (by omega)]
      have : i = C.L := by omega
      subst this
      exact ⟨u, rfl, he, hA, hf⟩
theorem pflushR (hm : ∀ i, mz i = false) (he : PEn C mz False K s) (hK : K ≤ 800000) (hA : Qs C st V q e s) :
    ∃ t, parityvol_Volume_Flush (vol C st none q e false k) s = some (0, vol C st none q e false k, t) ∧ PEn C mz False K t ∧ Qs C st V q e t ∧ Fr st s t := by
  have hF := fuel_big
  have hL := C.hL
  unfold parityvol_Volume_Flush
  rw [ready_0]; simp only [Option.bind_some]
  rw [if_neg (by simp)]
  obtain ⟨t, h1, h2, h3, h4⟩ := pflushR_l1 (s := s) (k := k) hm (r1 := (0, vol C st none q e false k, s)) legsP_len FUEL 0 s (by omega) (by omega) he hK hA Fr.refl
  rw [h1, seqO_inl]
  exact ⟨t, rfl, h2, h3, h4⟩
end
end Go.Proofs
namespace Go.Proofs
open Go.VG
section
variable {C : PC} {V V' : Nat → Nat → UInt64} {st fl : Option Nat} {q q' : UInt64} {e e' : PE} {k n i j d f o a : Nat} {mz : Nat → Bool} {K K' : Nat} {s t u : ArrS} {v w : UInt64} {p : Bool}
theorem fill_l2 (hm : ∀ i, mz i = false) (hd : d < C.L) (hf : f < C.R) (hjv : JV C V q e) : ∀ (N j : Nat) (u : ArrS) (K : Nat), C.c - j < N → j ≤ C.c → K + (C.c - j) ≤ 400000 → PEn C mz False K u → Qs C (some d) V q e u → (∀ o, o < C.O → (o / C.c < f ∨ ∃ i, i < j ∧ o = f * C.c + i) → now u d (16 + o) = V d o) →
    ∃ t, parityvol_Volume_Fill_l2 (d : Int) (vol C (some d) none q e false f) N u (vol C (some d) none q e false f) j = some (.inl (t, vol C (some d) none q e false f)) ∧ PEn C mz False (K + (C.c - j)) t ∧ Qs C (some d) V q e t ∧ Fi C (some d) (f + 1) V t
  | 0, _, _, _, h, _, _, _, _, _ => absurd h (by omega)
  | N + 1, j, u, K, h, hj, hK, he, hQ, hI => by
    have hL := C.hL
    have hc := C.hc
    have hR := C.hR
    have hO := @PC.hO C
    have hsz : C.sz = 16 + C.O := rfl
    have hll : (vol C (some d) none q e false f).legs = legsP C (some d) none := rfl
    have hu : parityvol_Volume_Fill_l2 (d : Int) (vol C (some d) none q e false f) (N + 1) u (vol C (some d) none q e false f) j = parityvol_Volume_Fill_l2_b (d : Int) (vol C (some d) none q e false f) (parityvol_Volume_Fill_l2 (d : Int) (vol C (some d) none q e false f) N) u (vol C (some d) none q e false f) j := rfl
    rw [hu]
    unfold parityvol_Volume_Fill_l2_b
    rw [show (vol C (some d) none q e false f).layout_chunk = (C.c : Int) from rfl, show (vol C (some d) none q e false f).filled = (f : Int) from rfl]
    by_cases hlt : j < C.c
    · have ho : f * C.c + j < C.O := by
        unfold PC.O
        have h1 : (f + 1) * C.c ≤ C.R * C.c := Nat.mul_le_mul_right _ hf
        rw [Nat.succ_mul] at h1; omega
      have e0 : (f : Int) * (C.c : Int) = ((f * C.c : Nat) : Int) := by push_cast; rfl
      have e1 : ((f * C.c : Nat) : Int) + (j : Int) = ((f * C.c + j : Nat) : Int) := by push_cast; rfl
      rw [if_pos (by omega), e0, grd_t (inI64_of (by omega)), e1, grd_t (inI64_of (by omega))]
      obtain ⟨o, hoo⟩ : ∃ o, o = f * C.c + j := ⟨_, rfl⟩
      rw [← hoo]
      have ho' : o < C.O := by rw [hoo]; exact ho
      rcases others_eq (q := q) (e := e) (p := false) (k := f) he hd ho' (hQ.row hjv ho') with hot | ⟨jj, _, y, _⟩
      · rw [hot]; simp only [Option.bind_some]
        rw [if_pos trivial]
        have e16 : (16 : Int) + (o : Int) = ((16 + o : Nat) : Int) := by push_cast; rfl
        unfold parityvol_Volume_on__parityvol_Volume_Fill_1 parityvol_Volume_Fill_1
        rw [hll, legsP_len, Int.toNat_natCast, grd_t (decide_eq_true ⟨by omega, by omega⟩), e16, grd_t (inI64_of (by omega)), legsP_at hd, show (legP C (some d) none d).dev = xL d C.sz from rfl]
        obtain ⟨t, w1, w2, w3⟩ := he.wrR hm (v := V d o) (a := 16 + o) (by omega) hd (by omega)
        rw [w1]; simp only [Option.bind_some]
        rw [on1_ok (.inl rfl)]; simp only [Option.bind_some]
        rw [if_neg (fun z => z.2 rfl), if_neg (by simp), grd_t (inN64_of (by omega))]
        obtain ⟨t', k1, k2, k3, k4⟩ := fill_l2 hm hd hf hjv N (j + 1) t (K + 1) (by omega) (by omega) (by omega) w2 (fun b hb hbs => (hQ b hb hbs).oth w3 (fun z => hbs (by rw [z]))) (fun b hb hx => by
          rw [w3.now]
          by_cases z : b = o
          · rw [if_pos ⟨rfl, by rw [z]⟩, z]
          · rw [if_neg (by omega)]
            refine hI b hb (hx.imp id (fun ⟨i, i1, i2⟩ => ⟨i, ?_, i2⟩))
            have : i ≠ j := fun y => z (by rw [i2, y, hoo])
            omega)
        exact ⟨t', k1, k2.mono (by omega), k3, k4⟩
      · rw [hm jj] at y; cases y
    · rw [if_neg (by omega)]
      refine ⟨u, rfl, he.mono (by omega), hQ, fun d' hd' o ho hk => ?_⟩
      cases hd'
      refine hI o ho ?_
      by_cases z : o / C.c < f
      · exact .inl z
      · have z' : o / C.c = f := by omega
        have hmod := Nat.mod_lt o (show C.c > 0 by omega)
        refine .inr ⟨o % C.c, by omega, ?_⟩
        rw [← z', Nat.mul_comm]; exact (Nat.div_add_mod o C.c).symm
theorem fill_l1 (hm : ∀ i, mz i = false) (hd : d < C.L) {f0 : Nat} {s0 : ArrS} (hf0 : f0 ≤ C.R) (hn : n ≤ 1000) (hjv : JV C V q e) : ∀ (N i : Nat) (u : ArrS) (K : Nat), C.R - (f0 + i) < N → f0 + i ≤ C.R → i ≤ n → K + 2 * (C.R - (f0 + i)) ≤ 400000 → PEn C mz False K u → Qs C (some d) V q e u → Fi C (some d) (f0 + i) V u →
    ∃ t, parityvol_Volume_Fill_l1 (n : Int) (0, vol C (some d) none q e false f0, s0) (d : Int) N u (vol C (some d) none q e false (f0 + i)) i = some (.inl (vol C (some d) none q e false (min C.R (f0 + n)), t)) ∧ PEn C mz False (K + 2 * (C.R - (f0 + i))) t ∧ Qs C (some d) V q e t ∧ Fi C (some d) (min C.R (f0 + n)) V t
  | 0, _, _, _, h, _, _, _, _, _, _ => absurd h (by omega)
  | N + 1, i, u, K, h, hfi, hin, hK, he, hQ, hI => by
    have hF := fuel_big
    have hR := C.hR
    have hc := C.hc
    have hu : parityvol_Volume_Fill_l1 (n : Int) (0, vol C (some d) none q e false f0, s0) (d : Int) (N + 1) u (vol C (some d) none q e false (f0 + i)) i = parityvol_Volume_Fill_l1_b (n : Int) (0, vol C (some d) none q e false f0, s0) (d : Int) (parityvol_Volume_Fill_l1 (n : Int) (0, vol C (some d) none q e false f0, s0) (d : Int) N) u (vol C (some d) none q e false (f0 + i)) i := rfl
    rw [hu]
    unfold parityvol_Volume_Fill_l1_b
    simp only
    rw [show (vol C (some d) none q e false f0).layout_rows = (C.R : Int) from rfl, show (vol C (some d) none q e false f0).filled = (f0 : Int) from rfl]
    by_cases hlt : i < n ∧ f0 + i < C.R
    · obtain ⟨t, k1, k2, k3, k4⟩ := fill_l2 hm hd (f := f0 + i) hlt.2 hjv FUEL 0 u K (by omega) (by omega) (by omega) he hQ (fun o ho hx => hI d rfl o ho (hx.elim id (fun ⟨_, y, _⟩ => absurd y (by omega))))
      rw [if_pos (by omega), k1, seqO_inl]
      rw [show (vol C (some d) none q e false (f0 + i)).filled = ((f0 + i : Nat) : Int) from rfl, grd_t (inI64_of (by omega)), grd_t (inN64_of (by omega))]
      rw [show ({ vol C (some d) none q e false (f0 + i) with filled := ((f0 + i : Nat) : Int) + (1 : Int) } : VolS) = vol C (some d) none q e false (f0 + (i + 1)) from rfl]
      obtain ⟨t', g1, g2, g3, g4⟩ := fill_l1 hm hd hf0 hn hjv N (i + 1) t (K + 2) (by omega) (by omega) (by omega) (by omega) (k2.mono (by omega)) k3 k4
      exact ⟨t', g1, g2.mono (by omega), g3, g4⟩
    · rw [if_neg (by omega)]
      have e1 : min C.R (f0 + n) = f0 + i := by omega
      rw [e1]
      exact ⟨u, rfl, he.mono (by omega), hQ, hI⟩
theorem fill_eq (hm : ∀ i, mz i = false) (hd : d < C.L) (hf : f ≤ C.R) (hn : n ≤ 1000) (he : PEn C mz False K s) (hK : K ≤ 300000) (hjv : JV C V q e) (hQ : Qs C (some d) V q e s) (hI : Fi C (some d) f V s) :
    ∃ t, parityvol_Volume_Fill (vol C (some d) none q e false f) (n : Int) s = some (((min C.R (f + n) : Nat) : Int), 0, vol C (some d) none q e false (min C.R (f + n)), t) ∧ PEn C mz False (K + 6) t ∧ Qs C (some d) V q e t ∧ Fi C (some d) (min C.R (f + n)) V t := by
  have hF := fuel_big
  have hR := C.hR
  unfold parityvol_Volume_Fill
  rw [if_neg (by omega), ready_0]; simp only [Option.bind_some]
  rw [if_neg (by simp), staleLeg_eq (fun j hj => by cases hj; exact hd)]; simp only [Option.bind_some]
  rw [if_neg (show ¬ stI (some d) < (0 : Int) from by show ¬ (d : Int) < 0; omega), show (vol C (some d) none q e false f).layout_rows = (C.R : Int) from rfl, show (vol C (some d) none q e false f).filled = (f : Int) from rfl, grd_t (inI64_of (by omega))]
  obtain ⟨t, h1, h2, h3, h4⟩ := fill_l1 (f0 := f) (s0 := s) (n := n) hm hd hf hn hjv FUEL 0 s K (by omega) (by omega) (by omega) (by omega) he hQ hI
  rw [show stI (some d) = (d : Int) from rfl, show parityvol_Volume_Fill_l1 (n : Int) (0, vol C (some d) none q e false f, s) (d : Int) FUEL s (vol C (some d) none q e false f) 0 = _ from h1, seqO_inl]
  exact ⟨t, rfl, h2.mono (by omega), h3, h4⟩
theorem filled_eq (hd : d < C.L) : parityvol_Volume_Filled (vol C (some d) none q e p f) s = some (decide (f = C.R)) := by
  unfold parityvol_Volume_Filled
  rw [staleLeg_eq (fun j hj => by cases hj; exact hd)]; simp only [Option.bind_some]
  rw [if_pos (show (0 : Int) ≤ stI (some d) from by show (0 : Int) ≤ (d : Int); omega), show (vol C (some d) none q e p f).layout_rows = (C.R : Int) from rfl, show (vol C (some d) none q e p f).filled = (f : Int) from rfl]
  by_cases h : f = C.R
  · rw [decide_eq_true h, decide_eq_true (by omega)]
  · rw [decide_eq_false h, decide_eq_false (by omega)]
theorem pstale_eq : parityvol_Volume_Stale (vol C none none q e p f) s = some [] := by
  unfold parityvol_Volume_Stale
  rw [staleLeg_eq (fun j hj => by cases hj)]; simp only [Option.bind_some]
  rw [if_neg (by simp [stI])]
theorem accept_no (hd : d < C.L) (hf : f ≠ C.R) : parityvol_Volume_Accept (vol C (some d) none q e false f) s = some (20, vol C (some d) none q e false f, s) := by
  unfold parityvol_Volume_Accept
  rw [ready_0]; simp only [Option.bind_some]
  rw [if_neg (by simp), staleLeg_eq (fun j hj => by cases hj; exact hd)]; simp only [Option.bind_some]
  rw [if_neg (show ¬ stI (some d) < (0 : Int) from by show ¬ (d : Int) < 0; omega), filled_eq hd]; simp only [Option.bind_some]
  rw [decide_eq_false hf, if_pos (by simp)]
theorem flushQ (hm : ∀ i, mz i = false) (he : PEn C mz False K s) (hK : K ≤ 800000) (hA : Qs C st V q e s) :
    ∃ t, parityvol_Volume_flush (vol C st none q e p k) s = some (0, vol C st none q e p k, t) ∧ PEn C mz False K t ∧ Qs C st V q e t ∧ Fr st s t := by
  have hF := fuel_big
  have hL := C.hL
  have hll : (vol C st none q e p k).legs = legsP C st none := rfl
  let I : Nat → ArrS → Prop := fun i t => PEn C mz False K t ∧ Qs C st V q e t ∧ Fr st s t
  have hr := all_ruleR (C := C) (st := st) (q := q) (e := e) (p := p) (k := k) (on := fun v i s => parityvol_Volume_on__parityvol_Volume_flush_1 v i s) (g := parityvol_Volume_all__parityvol_Volume_flush_1_l1 (vol C st none q e p k)) (fun _ _ _ _ => rfl) (I := I) (s := s) (fun i u hi hs hI => by
    obtain ⟨h1, h2, h4⟩ := hI
    unfold parityvol_Volume_on__parityvol_Volume_flush_1 parityvol_Volume_flush_1
    rw [hll, legsP_len, Int.toNat_natCast, grd_t (decide_eq_true ⟨by omega, by omega⟩), legsP_at hi, show (legP C st none i).dev = xL i C.sz from rfl]
    obtain ⟨t, w1, w2, w3⟩ := h1.fl (by omega) hi (hm i)
    rw [w1]; simp only [Option.bind_some]
    rw [on1_ok (.inl rfl)]; simp only [Option.bind_some]
    refine ⟨t, rfl, w2, fun d hd hds => ?_, h4.trans (Fr.fls w3)⟩
    by_cases hdi : d = i
    · subst hdi; exact (h2 d hd hds).flush h1 hd w3
    · exact (h2 d hd hds).othF w3 hd (fun z => hdi z.symm)) (fun i u hi hs hI => hI) ⟨he, hA, Fr.refl⟩
  unfold parityvol_Volume_flush parityvol_Volume_all__parityvol_Volume_flush_1
  obtain ⟨t, h1, h2, h3, h4⟩ := hr
  rw [h1, seqO_inl]
  exact ⟨t, rfl, h2, h3, h4⟩
theorem legsP_ok : (legsP C (some i) none).set i ⟨xL i C.sz, false, (legP C (some i) none i).failed⟩ = legsP C none none := by
  apply List.ext_getElem (by simp)
  intro j h1 h2
  rw [List.getElem_set]
  simp only [legsP, List.getElem_map, List.getElem_range]
  split
  · rename_i z; subst z; simp [legP]
  · rename_i z
    have z' : ¬ some i = some j := fun x => z (Option.some.inj x)
    unfold legP
    rw [decide_eq_false z', decide_eq_false (show ¬ (none : Option Nat) = some j by simp)]
theorem accept_eq (hm : ∀ i, mz i = false) (hd : d < C.L) (he : PEn C mz False K s) (hK : K ≤ 300000) (hQ : Qs C (some d) V q e s) (hI : Fi C (some d) C.R V s) :
    ∃ t, parityvol_Volume_Accept (vol C (some d) none q e false C.R) s = some (0, vol C none none q e false C.R, t) ∧ PEn C mz False (K + 4) t ∧ Qs C none V q e t := by
  have hL := C.hL
  have hO := @PC.hO C
  have hc := C.hc
  have hsz : C.sz = 16 + C.O := rfl
  have s2 := @sl_le q
  have hll : (vol C (some d) none q e false C.R).legs = legsP C (some d) none := rfl
  unfold parityvol_Volume_Accept
  rw [ready_0]; simp only [Option.bind_some]
  rw [if_neg (by simp), staleLeg_eq (fun j hj => by cases hj; exact hd)]; simp only [Option.bind_some]
  rw [if_neg (show ¬ stI (some d) < (0 : Int) from by show ¬ (d : Int) < 0; omega), filled_eq hd]; simp only [Option.bind_some]
  rw [if_neg (by simp)]
  obtain ⟨t1, a1, a2, a3, a4⟩ := flushQ (p := false) (k := C.R) hm he (by omega) hQ
  rw [a1]; simp only [Option.bind_some]
  have hdat : ∀ o, o < C.O → now t1 d (16 + o) = V d o := fun o ho => by
    rw [a4 d rfl]
    exact hI d rfl o ho ((Nat.div_lt_iff_lt_mul (by omega)).2 ho)
  rw [if_neg (by simp), show stI (some d) = (d : Int) from rfl, hll, legsP_len, Int.toNat_natCast, grd_t (decide_eq_true ⟨by omega, by omega⟩), legsP_at hd, show (legP C (some d) none d).dev = xL d C.sz from rfl]
  unfold parityvol_run_3 parityvol_Volume_Accept_1 parityvol_Volume_Accept_2
  rw [show (vol C (some d) none q e false C.R).last_seq = q from rfl, slot_eq]; simp only [Option.bind_some]
  rw [show [((shl_u64 (to_u64 (vol C (some d) none q e false C.R).last_offset) 3) ||| (to_u64 (vol C (some d) none q e false C.R).last_leg)), (vol C (some d) none q e false C.R).last_word, (vol C (some d) none q e false C.R).last_parity] = [hdW e.off e.leg, e.w, e.p] from rfl]
  rcases writeAllR (x := xL d C.sz) (l := [hdW e.off e.leg, e.w, e.p]) (at_ := ((slq q : Nat) : Int)) (m := (C.sz : Int)) (s := t1) (I := fun j t => PEn C mz False (K + j) t ∧ Qs C (some d) V q e t ∧ (∀ i, i < j → now t d (slq q + i) = bodyW e i) ∧ ∀ o, o < C.O → now t d (16 + o) = V d o) (E := fun _ _ => False) span_size (by omega) ⟨by omega, by simp; omega⟩ (fun j t hj hI' => by
      obtain ⟨g1, g2, g3, g4⟩ := hI'
      have hj3 : j < 3 := hj
      have e1 : ((slq q : Nat) : Int) + (j : Int) = ((slq q + j : Nat) : Int) := by push_cast; rfl
      have e2 : [hdW e.off e.leg, e.w, e.p].getD j 0 = bodyW e j := by
        have : j = 0 ∨ j = 1 ∨ j = 2 := by omega
        rcases this with rfl | rfl | rfl <;> rfl
      rw [e1, e2]
      obtain ⟨t', w1, w2, w3⟩ := g1.wrR hm (v := bodyW e j) (a := slq q + j) (by omega) hd (by omega)
      refine .inl ⟨t', w1, w2, fun b hb hbs => (g2 b hb hbs).oth w3 (fun z => hbs (by rw [z])), fun i hi => ?_, fun o ho => ?_⟩
      · rw [w3.now]
        by_cases z : i = j
        · rw [if_pos ⟨rfl, by rw [z]⟩, z]
        · rw [if_neg (by omega)]; exact g3 i (by omega)
      · rw [w3.now, if_neg (by omega)]; exact g4 o ho) ⟨a2, a3, fun i hi => absurd hi (by omega), hdat⟩ with ⟨t2, b1, b2, b3, b4, b5⟩ | ⟨_, _, _, _, y⟩
  · rw [b1]; simp only [Option.bind_some]
    rw [if_neg (by simp)]
    obtain ⟨t3, w1, w2, w3⟩ := b2.wrR hm (v := q) (a := 0) (by simp; omega) hd (by omega)
    rw [show (xL d C.sz).wr t2 (0 : Int) q = some (0, t3) from w1]; simp only [Option.bind_some]
    rw [if_neg (by simp)]
    obtain ⟨t4, x1, x2, x3⟩ := w2.fl (by simp; omega) hd (hm d)
    rw [x1]; simp only [Option.bind_some]
    rw [if_neg (by simp)]; simp only [Option.bind_some]
    rw [if_pos trivial, grd_t (decide_eq_true ⟨by omega, by omega⟩), legsP_ok]
    refine ⟨t4, rfl, x2.mono (by simp), fun b hb _ => ?_⟩
    by_cases hbd : b = d
    · subst hbd
      have n0 : now t4 b 0 = q := by rw [x3.now, w3.now, if_pos ⟨rfl, rfl⟩]
      have nb : ∀ i, i < 3 → now t4 b (slq q + i) = bodyW e i := fun i hi => by rw [x3.now, w3.now, if_neg (by omega)]; exact b4 i hi
      have nd : ∀ o, o < C.O → now t4 b (16 + o) = V b o := fun o ho => by rw [x3.now, w3.now, if_neg (by omega)]; exact b5 o ho
      have hc1 : ∀ a, a < C.sz → ∀ c, c ∈ cand t4 b a → c = now t4 b a := fun a ha c hc => by rw [x3.cand b a hb ha, if_pos rfl, List.mem_singleton] at hc; rw [hc, x3.now]
      exact ⟨fun c hc => by rw [hc1 0 (by omega) c hc, n0], n0, fun _ i hi c hc => by rw [hc1 _ (by omega) c hc]; exact nb i hi, fun o ho _ c hc => by rw [hc1 _ (by omega) c hc]; exact nd o ho, fun _ o ho => nd o ho, fun i hi => absurd hi (by omega), fun y => y.elim⟩
    · have hbs : (some d : Option Nat) ≠ some b := fun y => hbd (Option.some.inj y).symm
      exact (((b3 b hb hbs).oth w3 (fun z => hbd z.symm))).othF x3 hb (fun z => hbd z.symm)
  · exact y.elim
structure FUv (C : PC) (d : Nat) (mz : Nat → Bool) (K : Nat) (V : Nat → Nat → UInt64) (q : UInt64) (e : PE) (f : Nat) (o : OwnS) (s : ArrS) : Prop where
  x : o.X = some (vol C (some d) none q e false f)
  en : PEn C mz False K s
  jv : JV C V q e
  qk : q.toNat ≤ K
  qs : Qs C (some d) V q e s
  fi : Fi C (some d) f V s
  ti : TI C o.T V
  tl : TL C K o.T
  o1 : o.Open_1 = (C.c : Int)
  lost : o.Lost = []
theorem fwrite {o : OwnS} (hm : ∀ i, mz i = false) (h : FUv C d mz K V q e f o s) (hK : K ≤ 50000) (ha : a < C.D) :
    ∃ V' q' e' o' t, volumegroupmake_Owner_Write o (a : Int) w s = some (0, true, o', t) ∧ FUv C d mz (K + 50) V' q' e' f o' t := by
  obtain ⟨N, hN⟩ := fuelS2
  unfold volumegroupmake_Owner_Write
  rw [h.x, hN]; simp only [Option.elim_some]
  have stop : ∀ M o t er n, er ≠ 18 → volumegroupmake_Owner_Write_l1 (a : Int) w (M + 1) o t er n = some (.inl (er, o, t)) := fun M o t er n hne => by
    show volumegroupmake_Owner_Write_l1_b (a : Int) w (volumegroupmake_Owner_Write_l1 (a : Int) w M) o t er n = _
    unfold volumegroupmake_Owner_Write_l1_b
    rw [if_neg (fun y => hne y.2)]
  have hsm := h.tl.small (by omega)
  have hq1 := seq_add h.jv.sm
  obtain ⟨t, h1, h2, h3, h4⟩ := pwriteR (w := w) hm h.en (by omega) h.jv h.qs h.fi ha
  rw [h1]; simp only [Option.bind_some]
  rw [stop _ _ _ _ _ (by decide), seqO_inl, grd_t (decide_eq_true hsm)]
  exact ⟨_, _, _, _, t, rfl, ⟨rfl, h2.mono (by omega), (wr_nx (w := w) ha h.jv).jv (by have := h.qk; omega), by have := h.qk; omega, h3, h4, h.ti.new h.tl.len ha, (h.tl.wrote ha).mono (by omega), h.o1, h.lost⟩⟩
theorem fread {o : OwnS} {g : Bool} (hm : ∀ i, mz i = false) (h : FUv C d mz K V q e f o s) (hK : K ≤ 50000) (ha : a < C.D) :
    ∃ o', volumegroupmake_Owner_Read o (a : Int) g s = some (0, true, o', s) ∧ FUv C d mz K V q e f o' s := by
  obtain ⟨N, hN⟩ := fuelS2
  obtain ⟨t1, t2, t3⟩ := h.ti.read h.tl ha (g := g)
  have hsm := h.tl.small (by omega)
  unfold volumegroupmake_Owner_Read
  rw [h.x, hN]; simp only [Option.elim_some]
  have stop : ∀ M o t n w er, er ≠ 18 → volumegroupmake_Owner_Read_l1 (a : Int) (M + 1) o t n w er = some (.inl (w, er, o, t)) := fun M o t n w er hne => by
    show volumegroupmake_Owner_Read_l1_b (a : Int) (volumegroupmake_Owner_Read_l1 (a : Int) M) o t n w er = _
    unfold volumegroupmake_Owner_Read_l1_b
    rw [if_neg (fun y => hne y.2)]
  rw [preadR hm h.en h.jv h.qs ha]; simp only [Option.bind_some]
  rw [stop _ _ _ _ _ _ (by decide), seqO_inl, if_neg (by simp), if_pos rfl, grd_t (decide_eq_true hsm)]
  refine ⟨{ o with X := some (vol C (some d) none q e false f), T := rdTS o.T (a : Int) (vlP C V a) g }, ?_, ⟨rfl, h.en, h.jv, h.qk, h.qs, h.fi, t2, t3, h.o1, h.lost⟩⟩
  show some ((0 : Int), rdTR o.T (a : Int) (vlP C V a), _, s) = _
  rw [t1]; rfl
theorem fflush {o : OwnS} (hm : ∀ i, mz i = false) (h : FUv C d mz K V q e f o s) (hK : K ≤ 50000) :
    ∃ o' t, volumegroupmake_Owner_Flush o s = some (0, true, o', t) ∧ FUv C d mz K V q e f o' t := by
  obtain ⟨N, hN⟩ := fuelS2
  obtain ⟨t2, t3⟩ := h.ti.flushed h.tl
  unfold volumegroupmake_Owner_Flush
  rw [h.x, hN]; simp only [Option.elim_some]
  have stop : ∀ M o t er n, er ≠ 18 → volumegroupmake_Owner_Flush_l1 (M + 1) o t er n = some (.inl (er, o, t)) := fun M o t er n hne => by
    show volumegroupmake_Owner_Flush_l1_b (volumegroupmake_Owner_Flush_l1 M) o t er n = _
    unfold volumegroupmake_Owner_Flush_l1_b
    rw [if_neg (fun y => hne y.2)]
  obtain ⟨t, h1, h2, h3, h4⟩ := pflushR (k := f) hm h.en (by omega) h.qs
  rw [h1]; simp only [Option.bind_some]
  rw [stop _ _ _ _ _ (by decide), seqO_inl, if_pos rfl]
  exact ⟨_, t, rfl, ⟨rfl, h2, h.jv, h.qk, h3, h.fi.fr h4, t2, t3, h.o1, h.lost⟩⟩
theorem FUv.mono {o : OwnS} (h : FUv C d mz K V q e f o s) (hK : K ≤ K') : FUv C d mz K' V q e f o s := ⟨h.x, h.en.mono hK, h.jv, by have := h.qk; omega, h.qs, h.fi, h.ti, h.tl.mono hK, h.o1, h.lost⟩
end
end Go.Proofs
namespace Go.Proofs
open Go.VG
section
variable {s t : ArrS} {K k d : Nat}
structure Ld (ns : List Nat) (K : Nat) (s : ArrS) (d : Nat) (im : List UInt64) (t : ArrS) : Prop where
  ok : ArrOk ns K t
  dn : t.down = s.down
  fuse : t.fuse = s.fuse
  miss : ∀ e, Go.Proofs.miss t e = Go.Proofs.miss s e
  oth : ∀ i a, i ≠ d → Go.Proofs.now t i a = Go.Proofs.now s i a ∧ cand t i a = cand s i a
  own : ∀ a, Go.Proofs.now t d a = im.getD a 0 ∧ cand t d a = [im.getD a 0]
theorem drvSet {l : List Drive} {i j : Nat} {x : Drive} (h : i < l.length) : (l.set i x).getD j d0 = if j = i then x else l.getD j d0 := by
  simp only [List.getD, List.getElem?_set]
  by_cases e : i = j
  · subst e; simp [h]
  · rw [if_neg e, if_neg (fun x => e x.symm)]
theorem delUp_nil {n : Nat} : delUpTo [] ((d : Nat) : Int) n = [] := by
  unfold delUpTo
  generalize List.range n = l
  induction l with
  | nil => rfl
  | cons x l ih => rw [List.foldl_cons, show delM [] (((d : Nat) : Int), ((x : Nat) : Int)) = [] from rfl]; exact ih
theorem load_eq {ns : List Nat} {im : List UInt64} (h : ArrOk ns K s) (hd : d < ns.length) (hl : im.length = ns.getD d 0) : ldC s ((d : Nat) : Int) im = 0 ∧ Ld ns K s d im (ldS s ((d : Nat) : Int) im) := by
  have hdd := h.disk hd
  have hsz : (s.drv.getD d d0).now.length = ns.getD d 0 := by rw [← h.sz.size d hd, size_nowL]; rfl
  have hc : ldC s ((d : Nat) : Int) im = 0 := by
    unfold ldC
    rw [if_pos (show inR s ((d : Nat) : Int) from ⟨by omega, by omega⟩), Int.toNat_natCast, hsz, if_pos hl]
  have hdrv : (ldS s ((d : Nat) : Int) im).drv = s.drv.set d ⟨im, im, (s.drv.getD d d0).miss⟩ := by unfold ldS; rw [if_pos hc, Int.toNat_natCast]
  have hlog : (ldS s ((d : Nat) : Int) im).log = s.log.filter (fun r => !decide ((r.d : Int) = ((d : Nat) : Int))) := by unfold ldS; rw [if_pos hc]
  have hbad : (ldS s ((d : Nat) : Int) im).bad = [] := by unfold ldS; rw [if_pos hc, h.bad]; exact delUp_nil
  have hdn : (ldS s ((d : Nat) : Int) im).down = s.down := by unfold ldS; rw [if_pos hc]
  have hfu : (ldS s ((d : Nat) : Int) im).fuse = s.fuse := by unfold ldS; rw [if_pos hc]
  have hwr : (ldS s ((d : Nat) : Int) im).writes = s.writes := by unfold ldS; rw [if_pos hc]
  generalize ldS s ((d : Nat) : Int) im = t at hdrv hlog hbad hdn hfu hwr
  have hnow : ∀ e, nowL t e = if e = d then im else nowL s e := fun e => by
    unfold nowL; rw [hdrv, drvSet hdd]; split <;> rfl
  have hdur : ∀ e, durL t e = if e = d then im else durL s e := fun e => by
    unfold durL; rw [hdrv, drvSet hdd]; split <;> rfl
  have hpe : ∀ e a, pend t e a = if e = d then [] else pend s e a := fun e a => by
    show pendR t.log e a = _
    unfold pend pendR
    rw [hlog, List.filter_filter]
    split
    · rename_i z; subst z
      rw [List.filter_eq_nil_iff.2 (fun r _ => by simp; omega)]; rfl
    · rename_i z
      congr 2
      funext r
      by_cases y : r.d = e
      · have : ¬ ((r.d : Int) = ((d : Nat) : Int)) := by omega
        simp [this]
      · simp [y]
  have hsize : ∀ e, t.size e = if e = d then ns.getD d 0 else s.size e := fun e => by
    rw [size_nowL, hnow]; split
    · exact hl
    · rw [size_nowL]
  refine ⟨hc, ⟨⟨by rw [hdrv, List.length_set]; exact h.sz.cnt, fun e he => ?_, by rw [hwr]; exact h.sz.wr⟩, by rw [hwr]; exact h.wr, ⟨fun e => ?_, fun e a ha => ?_, fun r hr => ?_⟩, hbad⟩, hdn, hfu, fun e => ?_, fun i a hi => ?_, fun a => ?_⟩
  · rw [hsize]; split
    · rename_i z; rw [z]
    · exact h.sz.size e he
  · rw [hnow, hdur]; split
    · rfl
    · exact h.coh.len e
  · rw [hpe]; show lastD ((durL t e).getD a 0) _ = (nowL t e).getD a 0
    rw [hdur, hnow]
    rw [hsize] at ha
    split
    · rfl
    · rename_i z; rw [if_neg z] at ha; exact h.coh.last e a ha
  · rw [hlog] at hr
    have h1 := List.mem_filter.1 hr
    have h2 := h.coh.log r h1.1
    have h3 : r.d ≠ d := fun z => by have := h1.2; rw [z] at this; simp at this
    rw [hdrv, List.length_set, hsize, if_neg h3]
    exact h2
  · show (t.drv.getD e d0).miss = _
    rw [hdrv, drvSet hdd]; split
    · rename_i z; rw [z]; rfl
    · rfl
  · refine ⟨?_, ?_⟩
    · show (nowL t i).getD a 0 = _
      rw [hnow, if_neg hi]; rfl
    · show (durL t i).getD a 0 :: pend t i a = _
      rw [hdur, hpe, if_neg hi, if_neg hi]; rfl
  · refine ⟨?_, ?_⟩
    · show (nowL t d).getD a 0 = _
      rw [hnow, if_pos rfl]
    · show (durL t d).getD a 0 :: pend t d a = _
      rw [hdur, hpe, if_pos rfl, if_pos rfl]
end
end Go.Proofs
namespace Go.Proofs
open Go.VG
def wordsL (n : Nat) (seed : UInt64) : List UInt64 := (List.range n).map fun j => seed + to_u64 ((j : Nat) : Int) * (11400714819323198485 : UInt64)
@[simp] theorem wordsL_length {n : Nat} {seed : UInt64} : (wordsL n seed).length = n := by simp [wordsL]
theorem words_l1 {n : Nat} {seed : UInt64} (hn : n ≤ 1000000) : ∀ (N i : Nat) (acc : List UInt64), n - i < N → i ≤ n → acc = wordsL i seed →
    volumegroupmake_Words_l1 (n : Int) seed N acc i = some (wordsL n seed)
  | 0, _, _, h, _, _ => absurd h (by omega)
  | N + 1, i, acc, h, hi, ha => by
    show volumegroupmake_Words_l1_b _ _ _ _ _ = _
    unfold volumegroupmake_Words_l1_b
    subst ha
    by_cases hlt : i < n
    · rw [if_pos (by omega), grd_t (inLen_of (by simp; omega)), grd_t (inN64_of (by omega))]
      refine words_l1 hn N (i + 1) _ (by omega) (by omega) ?_
      simp [wordsL, List.range_succ]
    · rw [if_neg (by omega)]
      have : i = n := by omega
      rw [this]
theorem words_eq {n : Nat} {seed : UInt64} (hn : n ≤ 1000000) : volumegroupmake_Words (n : Int) seed = some (wordsL n seed) := by
  unfold volumegroupmake_Words
  have hF := fuel_big
  generalize FUEL = N at hF ⊢
  rw [words_l1 hn N 0 [] (by omega) (by omega) (by simp [wordsL])]; rfl
end Go.Proofs
set_option linter.unusedSimpArgs false
set_option linter.unusedVariables false
set_option maxRecDepth 20000
set_option maxHeartbeats 4000000
namespace Go.Proofs
open Go.VG
def OwnQ (a : Nat) (vl : Nat) (b : Nat) (l : OwnS) : HP := ex fun h : Nat × Nat × Nat × Sl3 × Sl3 => star [blk b 37 [ptr a 0, .func (.func 97) #[] #[ptr h.1 0, ptr h.2.1 0], oifc 65 l.X vl, ptr h.2.2.1 0, (Sl3.v h.2.2.2.1), (Sl3.v h.2.2.2.2)], blk h.1 30 [ptr a 0], blk h.2.1 3 [.int .i64 l.Open_1], optP (VolP a vl) l.X, Trk h.2.2.1 l.T, sl tyI (Sl3.v h.2.2.2.1) l.Stale, sl tyI (Sl3.v h.2.2.2.2) l.Lost]
theorem OwnQ_open {a b : Nat} {vl : Nat} {l : OwnS} {R : List HP} : EntX (OwnQ a vl b l :: R) fun h : Nat × Nat × Nat × Sl3 × Sl3 => blk b 37 [ptr a 0, .func (.func 97) #[] #[ptr h.1 0, ptr h.2.1 0], oifc 65 l.X vl, ptr h.2.2.1 0, (Sl3.v h.2.2.2.1), (Sl3.v h.2.2.2.2)] :: blk h.1 30 [ptr a 0] :: blk h.2.1 3 [.int .i64 l.Open_1] :: optP (VolP a vl) l.X :: Trk h.2.2.1 l.T :: sl tyI (Sl3.v h.2.2.2.1) l.Stale :: sl tyI (Sl3.v h.2.2.2.2) l.Lost :: R :=
  fun _ hh => let ⟨c, hc⟩ := stars_ex.1 hh; ⟨c, stars_star.1 hc⟩
theorem OwnQ_mk {a b : Nat} {vl : Nat} {v0 : Int} {v1 : Option VolS} {v2 : List Sec} {v3 : List Int} {v4 : List Int} {h0 : Nat} {h1 : Nat} {h2 : Nat} {h3 : Sl3} {h4 : Sl3} {R : List HP} : Ent (blk b 37 [ptr a 0, .func (.func 97) #[] #[ptr h0 0, ptr h1 0], oifc 65 v1 vl, ptr h2 0, (Sl3.v h3), (Sl3.v h4)] :: blk h0 30 [ptr a 0] :: blk h1 3 [.int .i64 v0] :: optP (VolP a vl) v1 :: Trk h2 v2 :: sl tyI (Sl3.v h3) v3 :: sl tyI (Sl3.v h4) v4 :: R) (OwnQ a vl b ⟨v0, v1, v2, v3, v4⟩ :: R) :=
  fun _ hh => stars_ex.2 ⟨(h0, h1, h2, h3, h4), stars_star.2 hh⟩
end Go.Proofs
