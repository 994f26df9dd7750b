/- MirrorErrors, part 3 of the proof: LDev, LSpan, LMake, PMake, PSpans, LCopy, LPack, PBits, PGood, PGood2, PArr, PMapD, PFls, PUp, PAll, PFlat0, LLogC, LLog, PLog, PLogOps, LRef20, LMirC. -/
import Derived.WalkKit
import Derived.Orders
import Derived.RangeFuncLeaves
import Derived.RangeFuncCalls
import Derived.TacticsIn
import Derived.Handy
import Derived.OrdersHeld
import Derived.OrdersIn
import Derived.Below
import Derived.OpenShut
import Derived.Deep.Slices
import Derived.Scope
import Derived.KernelRfl
import Derived.RangeFuncRecord
import Derived.ChangeKeysEq
import Derived.ProofKit
import Derived.ShutString
import Derived.ChangeOld
import Derived.Test.YtdogahpihjefgaaChecked
import Derived.Test.YtdogahpihjefgaaRows
import Derived.Test.YtdogahpihjefgaaZMirrorErrors2
set_option linter.unusedSimpArgs false
set_option linter.unusedVariables false
set_option maxRecDepth 20000
set_option maxHeartbeats 4000000
namespace Go.Proofs
open Go.VG
abbrev tyDev : Ty IfH := { T := 57, sz := 1, enc := fun x => [.iface x.t x.u], dflt := ⟨0, .bool false⟩, len := fun _ => rfl, one := fun _ => rfl, pos := by decide }
theorem ok_tyDev : ElemOk Try.prog tyDev 16 := ⟨Try.t57, .nilIface, by kernel_rfl, rfl, rfl, rfl, rfl⟩
structure Dvc where
  dep : Nat
  size : ArrS → Option Int
  rd : ArrS → Int → Option (UInt64 × Int)
  wr : ArrS → Int → UInt64 → Option (Int × ArrS)
  fl : ArrS → Option (Int × ArrS)
abbrev dv0 : Dvc := ⟨0, fun _ => none, fun _ _ => none, fun _ _ _ => none, fun _ => none⟩
structure DevOk (a : Nat) (x : Dvc) (h : IfH) (R : HP) : Prop where
  dup : Dup R
  dep : x.dep ≤ 60
  nil : ∀ n, 1 ≤ n → ∀ w, (nilAhead n h.t h.u "Write").run Try.prog w = .ok (some false) w
  size : ∀ {W s r}, x.size s = some r → IOk Try.prog W x.dep h "Size" [] [R, Arr a s] (fun _ : Unit => .int .i64 r) (fun _ => True) (fun _ F => R :: Arr a s :: F)
  rd : ∀ {W s k r}, x.rd s k = some r → IOk Try.prog W x.dep h "Read" [.int .i64 k] [R, Arr a s] (fun _ : Unit => .tuple #[.int .u64 (r.1.toNat : Int), .int .i64 r.2]) (fun _ => True) (fun _ F => R :: Arr a s :: F)
  wr : ∀ {W s k v r}, x.wr s k v = some r → IOk Try.prog W x.dep h "Write" [.int .i64 k, .int .u64 (v.toNat : Int)] [R, Arr a s] (fun _ : Unit => .int .i64 r.1) (fun _ => True) (fun _ F => R :: Arr a r.2 :: F)
  fl : ∀ {W s r}, x.fl s = some r → IOk Try.prog W x.dep h "Flush" [] [R, Arr a s] (fun _ : Unit => .int .i64 r.1) (fun _ => True) (fun _ F => R :: Arr a r.2 :: F)
def DevP (a : Nat) (x : Dvc) (h : IfH) : HP := ex fun R : HP => starX [emp (DevOk a x h R), R]
theorem DevP_mk {a : Nat} {x : Dvc} {h : IfH} {l : List HP} {R : List HP} (hk : DevOk a x h (starX l)) : Ent (l ++ R) (DevP a x h :: R) :=
  fun g hg => stars_ex.2 ⟨starX l, stars_starX.2 (stars_emp.2 ⟨hk, stars_starX.2 hg⟩)⟩
theorem Dup_DevP {a : Nat} {x : Dvc} {h : IfH} : Dup (DevP a x h) := by
  intro g ⟨R, h1, h2, hd, he, ⟨hk, hn⟩, h3, h4, hd2, he2, hR, h5⟩ k
  exact (Dup.starX (Hs := [emp (DevOk a x h R), R]) (by intro A hA; simp only [List.mem_cons, List.not_mem_nil, or_false] at hA; rcases hA with rfl | rfl; exact Dup.emp; exact hk.dup)) g ⟨h1, h2, hd, he, ⟨hk, hn⟩, h3, h4, hd2, he2, hR, h5⟩ k
theorem DevP_dep {a : Nat} {x : Dvc} {h : IfH} {R : List HP} (g : PH) (hg : stars (DevP a x h :: R) g) : x.dep ≤ 60 := by
  obtain ⟨R', hg⟩ := stars_ex.1 hg
  exact (stars_emp.1 (stars_starX.1 hg)).1.dep
theorem DevP_E {P : Program} {a : Nat} {x : Dvc} {h : IfH} {W : World} {k : Nat} {g : IfH} {name : String} {args : List Value} {pre : List HP} {X : Type} {res : X → Value} {pf : X → Prop} {post : X → List HP → List HP}
    (hm : ∀ R, DevOk a x h R → IOk P W k g name args (R :: pre) res pf (fun y F => R :: post y F)) : IOk P W k g name args (DevP a x h :: pre) res pf (fun y F => DevP a x h :: post y F) := by
  refine IOk.exI fun R => IOk.starI (IOk.empI fun hk => ?_)
  refine (hm R hk).post0 fun y F => ?_
  exact fun g hg => stars_ex.2 ⟨R, stars_starX.2 (stars_emp.2 ⟨hk, hg⟩)⟩
theorem dev_Size {W : World} {a : Nat} {x : Dvc} {h : IfH} {s : ArrS} {r : Int} (e : x.size s = some r) (hd : x.dep ≤ 60) : ICall Try.prog W h.v "Size" [] [DevP a x h, Arr a s] (fun _ : Unit => .int .i64 r) (fun _ => True) (fun _ F => DevP a x h :: Arr a s :: F) := (DevP_E fun _ hk => hk.size e).call (by omega)
theorem dev_Read {W : World} {a : Nat} {x : Dvc} {h : IfH} {s : ArrS} {k : Int} {r : UInt64 × Int} (e : x.rd s k = some r) (hd : x.dep ≤ 60) : ICall Try.prog W h.v "Read" [.int .i64 k] [DevP a x h, Arr a s] (fun _ : Unit => .tuple #[.int .u64 (r.1.toNat : Int), .int .i64 r.2]) (fun _ => True) (fun _ F => DevP a x h :: Arr a s :: F) := (DevP_E fun _ hk => hk.rd e).call (by omega)
theorem dev_Write {W : World} {a : Nat} {x : Dvc} {h : IfH} {s : ArrS} {k : Int} {v : UInt64} {r : Int × ArrS} (e : x.wr s k v = some r) (hd : x.dep ≤ 60) : ICall Try.prog W h.v "Write" [.int .i64 k, .int .u64 (v.toNat : Int)] [DevP a x h, Arr a s] (fun _ : Unit => .int .i64 r.1) (fun _ => True) (fun _ F => DevP a x h :: Arr a r.2 :: F) := (DevP_E fun _ hk => hk.wr e).call (by omega)
theorem dev_Flush {W : World} {a : Nat} {x : Dvc} {h : IfH} {s : ArrS} {r : Int × ArrS} (e : x.fl s = some r) (hd : x.dep ≤ 60) : ICall Try.prog W h.v "Flush" [] [DevP a x h, Arr a s] (fun _ : Unit => .int .i64 r.1) (fun _ => True) (fun _ F => DevP a x h :: Arr a r.2 :: F) := (DevP_E fun _ hk => hk.fl e).call (by omega)
abbrev tyRow : Ty Sl3 := { T := 27, sz := 1, enc := fun x => [x.v], dflt := ⟨none, 0, 0⟩, len := fun _ => rfl, one := fun _ => rfl, pos := by decide }
theorem ok_tyRow : ElemOk Try.prog tyRow 24 := ⟨Try.t27, .slice none 0 0, by kernel_rfl, rfl, rfl, rfl, rfl⟩
def Sl3.sub (sz : Nat) (x : Sl3) (l h : Nat) : Sl3 := ⟨if x.c = l then x.p else x.p.map (·.add (l * sz)), h - l, x.c - l⟩
def RowP (x : List UInt64) (h : Sl3) : HP := fun g => ∃ A : HP, Dup A ∧ Reads A tyU h.v x ∧ A g
theorem Dup_RowP (x : List UInt64) (h : Sl3) : Dup (RowP x h) := fun g ⟨_, hd, _, hA⟩ => hd g hA
theorem RowP_of {A : HP} {x : List UInt64} {h : Sl3} (hd : Dup A) (hr : Reads A tyU h.v x) : ∀ g, A g → RowP x h g := fun _ hA => ⟨A, hd, hr, hA⟩
theorem Reads.rowP {x : List UInt64} {h : Sl3} : Reads (RowP x h) tyU h.v x := fun g ⟨_, _, hr, hA⟩ => hr g hA
def RowsR (B : HP) (l : List (List UInt64)) (hs : List Sl3) : Prop := hs.length = l.length ∧ ∀ i, i < l.length → Reads B tyU (Sl3.v (hs.getD i tyRow.dflt)) (l.getD i [])
theorem RowsR.nil {B : HP} : RowsR B [] [] := ⟨rfl, fun i h => absurd h (by simp)⟩
theorem RowsR.cons {A : HP} {As : List HP} {x : List UInt64} {g : Sl3} {l : List (List UInt64)} {hs : List Sl3} (h : Reads A tyU (Sl3.v g) x) (hr : RowsR (starX As) l hs) : RowsR (starX (A :: As)) (x :: l) (g :: hs) :=
  ⟨by simp [hr.1], fun i hi => by
    cases i with
    | zero => exact Reads.hd h
    | succ i => exact Reads.tl (hr.2 i (by simpa using hi))⟩
theorem RowsR.rs {l : List (List UInt64)} {hs : List Sl3} (hl : hs.length = l.length) : RowsR (Rs RowP l hs) l hs :=
  ⟨hl, fun _ hi => Reads.of_ent (Rs_at0 hi) Reads.rowP⟩
theorem reads_sl3 {α : Type} {t : Ty α} {A : HP} {v : Value} {xs : List α} {H R : List HP} (hr : Reads A t v xs) (hd : Del H A R) : ∀ h, stars H h → ∃ x : Sl3, v = Sl3.v x := by
  intro h hh
  obtain ⟨h1, h2, _, _, hA, _⟩ := stars_perm hd.out h hh
  rcases hr h1 hA with ⟨e, _⟩ | ⟨a, c, e, _⟩
  · exact ⟨⟨none, 0, 0⟩, e⟩
  · exact ⟨⟨some a, _, c⟩, e⟩
def newB (zs : List Int) : Bool := Nat.ble zs.length 8 && zs.all (fun z => decide (1 ≤ z) && decide (z ≤ 65536))
theorem newB_iff {zs : List Int} : newB zs = true ↔ NewOk zs := by
  unfold newB NewOk
  rw [Bool.and_eq_true, Nat.ble_eq, List.all_eq_true]
  refine and_congr Iff.rfl ⟨fun h k hk => ?_, fun h z hz => ?_⟩
  · have h1 := h zs[k] (List.getElem_mem hk)
    have : zs.getD k 0 = zs[k] := by simp [List.getD, hk]
    rw [this]; simpa using h1
  · obtain ⟨k, hk, rfl⟩ := List.getElem_of_mem hz
    have h1 := h k hk
    have : zs.getD k 0 = zs[k] := by simp [List.getD, hk]
    rw [this] at h1; simpa using h1
def newO (zs : List Int) : Option ArrS := if newB zs then some (newS zs) else none
def newC (zs : List Int) : Int := if newB zs then 0 else if Nat.blt 8 zs.length then 4 else 1
theorem c_NewO {W : World} {A : HP} {v : Value} {zs : List Int} (hA : Reads A tyI v zs) (hl : zs.length ≤ 1000000000) :
    CSpec Try.prog W 50 [v] [A] (fun b : Nat => .tuple #[oval (newO zs) b, .int .i64 (newC zs)]) (fun _ => True) (fun b F => optP (Arr b) (newO zs) :: A :: F) := by
  intro F w hs
  by_cases h : newB zs = true
  · have h2 := newB_iff.1 h
    unfold newO newC; rw [if_pos h, if_pos h]
    exact c_New hA h2 F w hs
  · have h2 : ¬ NewOk zs := fun e => h (newB_iff.2 e)
    unfold newO newC; rw [if_neg h, if_neg h]
    refine (c_NewBad hA h2 (by omega) F w hs).mono fun e w' ⟨x, hx, hp, hs'⟩ => ⟨0, ?_, trivial, hs'.imp (fun g hg => optP_none g hg)⟩
    rw [hx]
    by_cases h3 : 8 < zs.length
    · rw [if_pos h3, if_pos (by simpa [Nat.blt_eq] using h3)]; rfl
    · rw [if_neg h3, if_neg (by simpa [Nat.blt_eq] using h3)]; rfl
theorem reads_slice {α : Type} {t : Ty α} {A : HP} {v : Value} {xs : List α} (hA : Reads A t v xs) {h : PH} (hh : A h) : ∃ x : Sl3, v = x.v := by
  rcases hA h hh with ⟨e, _⟩ | ⟨a, c, e, _⟩
  · exact ⟨⟨none, 0, 0⟩, e⟩
  · exact ⟨⟨some a, _, c⟩, e⟩
end Go.Proofs
set_option linter.unusedSimpArgs false
set_option linter.unusedVariables false
set_option maxRecDepth 20000
set_option maxHeartbeats 4000000
namespace Go.Proofs
open Go.VG
def dvc_span_Size (x_0_a : ArrS) (x_0_d : Int) (x_0_start : Int) (x_0_length : Int) : Option (Int) :=
  some x_0_length
theorem L_dvc_span_Size {W : World} {bx_0 : Nat} {bx_0_a : Nat} {x_0_a : ArrS} {x_0_d : Int} {x_0_start : Int} {x_0_length : Int} {r : Int} (h : dvc_span_Size x_0_a x_0_d x_0_start x_0_length = some r) :
    CSpec Try.prog W 106 [ptr bx_0 0] [blkR bx_0 113 [ptr bx_0_a 0, .int .i64 x_0_d, .int .i64 x_0_start, .int .i64 x_0_length], Arr bx_0_a x_0_a] (fun x : Unit => .int .i64 r) (fun _ => True) (fun x F => blkR bx_0 113 [ptr bx_0_a 0, .int .i64 x_0_d, .int .i64 x_0_start, .int .i64 x_0_length] :: Arr bx_0_a x_0_a :: F) := by
 refine CSpec.of_body Try.func106 rfl Try.ntmps106 rfl fun F => ?_
 show CJ _ _ _ _ _ _ (_ :: _ :: F)
 unfold dvc_span_Size at h
 refine sR <| oA rfl rfl <| nT <| sR <| oM rfl rfl <| oP (P_nilCheck rfl) rfl <| oP (P_fieldAddr rfl ⟨_, _, _, Try.runUnderlying113, rfl, rfl, Try.sizeOf3, rfl⟩) rfl <| oV (V_loadR rfl foc0 rfl Try.isAgg3) rfl <| oA rfl rfl <| nT <| CJ_ret ?_
 cases h
 exact fE (res1 Try.results106 rfl) () eR
def block_inside (size : Int) (at_1 : Int) (n_2 : Int) : Option (Bool) :=
  some (((((decide ((0 : Int) ≤ at_1)) && (decide (at_1 ≤ size))) && (decide ((0 : Int) ≤ n_2))) && (decide (n_2 ≤ (IntKind.i64.wrap (size - at_1))))))
theorem L_block_inside {W : World} {size : Int} {at_1 : Int} {n_2 : Int} {r : Bool} (h : block_inside size at_1 n_2 = some r) :
    CSpec Try.prog W 75 [.int .i64 size, .int .i64 at_1, .int .i64 n_2] [] (fun x : Unit => .bool r) (fun _ => True) (fun x F => F) := by
 refine CSpec.of_body Try.func75 rfl Try.ntmps75 rfl fun F => ?_
 show CJ _ _ _ _ _ _ (F)
 unfold block_inside at h
 refine sR <| oA rfl rfl <| nT <| sR <| oM rfl rfl <| oP (P_geq (a := at_1) (b := (0 : Int)) rfl rfl) rfl <| oM rfl rfl <| RJ_mbT rfl rfl rfl (fun hG1 => have hP2 : ((0 : Int) ≤ at_1) := (bT_dec).1 hG1; VJ_P (P_move rfl)) <| RJ_mbT rfl rfl rfl (fun hG3 => have hP4 : ((0 : Int) ≤ at_1) := (bT_dec).1 hG3; VJ_P (P_move rfl)) <| RJ_mbT rfl rfl rfl (fun hG5 => have hP6 : ((0 : Int) ≤ at_1) := (bT_dec).1 hG5; VJ_P (P_leq (a := at_1) (b := size) (mbx hG5 rfl) (mbx hG5 rfl))) <| oP (P_pickAnd rfl (fun hh => mbx hh rfl) rfl) rfl <| oM rfl rfl <| RJ_mbT rfl rfl rfl (fun hG7 => have hP8 : (((0 : Int) ≤ at_1) ∧ (at_1 ≤ size)) := ((bT_and bT_dec bT_dec)).1 hG7; VJ_P (P_move rfl)) <| RJ_mbT rfl rfl rfl (fun hG9 => have hP10 : (((0 : Int) ≤ at_1) ∧ (at_1 ≤ size)) := ((bT_and bT_dec bT_dec)).1 hG9; VJ_P (P_geq (a := n_2) (b := (0 : Int)) (mbx hG9 rfl) rfl)) <| oP (P_pickAnd rfl (fun hh => mbx hh rfl) rfl) rfl <| oM rfl rfl <| RJ_mbT rfl rfl rfl (fun hG11 => have hP12 : ((((0 : Int) ≤ at_1) ∧ (at_1 ≤ size)) ∧ ((0 : Int) ≤ n_2)) := ((bT_and (bT_and bT_dec bT_dec) bT_dec)).1 hG11; VJ_P (P_move rfl)) <| RJ_mbT rfl rfl rfl (fun hG13 => have hP14 : ((((0 : Int) ≤ at_1) ∧ (at_1 ≤ size)) ∧ ((0 : Int) ≤ n_2)) := ((bT_and (bT_and bT_dec bT_dec) bT_dec)).1 hG13; VJ_P (P_move rfl)) <| RJ_mbT rfl rfl rfl (fun hG15 => have hP16 : ((((0 : Int) ≤ at_1) ∧ (at_1 ≤ size)) ∧ ((0 : Int) ≤ n_2)) := ((bT_and (bT_and bT_dec bT_dec) bT_dec)).1 hG15; VJ_P (P_move rfl)) ?_
 refine RJ_mbT rfl rfl rfl (fun hG17 => have hP18 : ((((0 : Int) ≤ at_1) ∧ (at_1 ≤ size)) ∧ ((0 : Int) ≤ n_2)) := ((bT_and (bT_and bT_dec bT_dec) bT_dec)).1 hG17; VJ_P (P_subW (a := size) (b := at_1) (mbx hG17 rfl) (mbx hG17 rfl))) <| RJ_mbT rfl rfl rfl (fun hG19 => have hP20 : ((((0 : Int) ≤ at_1) ∧ (at_1 ≤ size)) ∧ ((0 : Int) ≤ n_2)) := ((bT_and (bT_and bT_dec bT_dec) bT_dec)).1 hG19; VJ_P (P_leq (a := n_2) (b := (IntKind.i64.wrap (size - at_1))) (mbx hG19 rfl) (mbx hG19 rfl))) <| oP (P_pickAnd rfl (fun hh => mbx hh rfl) rfl) rfl <| oA rfl rfl <| nT <| CJ_ret ?_
 cases h
 exact fE (res1 Try.results75 rfl) () eR
def dvc_span_Read (x_0_a : ArrS) (x_0_d : Int) (x_0_start : Int) (x_0_length : Int) (at_1 : Int) : Option (UInt64 × Int) :=
  Option.bind (block_inside x_0_length at_1 (1 : Int)) fun r1 =>
  if (¬ r1 = true) then
    some (((0 : UInt64), (1 : Int)))
  else
    grd (inI64 (x_0_start + at_1)) <|
    some (((rdV x_0_a x_0_d (x_0_start + at_1)), (rdC x_0_a x_0_d (x_0_start + at_1))))
theorem L_dvc_span_Read {W : World} {bx_0 : Nat} {bx_0_a : Nat} {x_0_a : ArrS} {x_0_d : Int} {x_0_start : Int} {x_0_length : Int} {at_1 : Int} {r : UInt64 × Int} (h : dvc_span_Read x_0_a x_0_d x_0_start x_0_length at_1 = some r) :
    CSpec Try.prog W 105 [ptr bx_0 0, .int .i64 at_1] [blkR bx_0 113 [ptr bx_0_a 0, .int .i64 x_0_d, .int .i64 x_0_start, .int .i64 x_0_length], Arr bx_0_a x_0_a] (fun x : Unit => .tuple #[.int .u64 (r.1.toNat : Int), .int .i64 r.2]) (fun _ => True) (fun x F => blkR bx_0 113 [ptr bx_0_a 0, .int .i64 x_0_d, .int .i64 x_0_start, .int .i64 x_0_length] :: Arr bx_0_a x_0_a :: F) := by
 refine CSpec.of_body Try.func105 rfl Try.ntmps105 rfl fun F => ?_
 show CJ _ _ _ _ _ _ (_ :: _ :: F)
 unfold dvc_span_Read at h
 refine sR <| oA rfl rfl <| oA rfl rfl <| nT <| CJ_seq <| sR <| oM rfl rfl <| oP (P_nilCheck rfl) rfl <| oP (P_fieldAddr rfl ⟨_, _, _, Try.runUnderlying113, rfl, rfl, Try.sizeOf3, rfl⟩) rfl <| oV (V_loadR rfl foc0 rfl Try.isAgg3) rfl <| oM rfl rfl ?_
 obtain ⟨r1, hr2, h⟩ := bind_e h
 refine oO <| O_call (L_block_inside hr2) rfl Try.call75 Dels.nil rfl fun _ _ => oP (P_not rfl) rfl <| nT <| CJ_condP rfl (bT_not Iff.rfl) (fun hg1 => ?_) (fun hg1 => ?_)
 ·
  replace h := ite_t hg1 h
  refine sR <| oA rfl rfl <| oA rfl rfl <| nT <| CJ_ret <| QJ_then_ret ?_
  cases h
  exact fE (res2 Try.results105 rfl rfl) () eR
 ·
  replace h := ite_f hg1 h
  refine kT <| CJ_seq <| AJ_startH 16384 (by kernel_rfl) rfl <| aN 0 1 rfl rfl (P_move rfl) rfl <| aN 1 3 rfl rfl (P_nilCheck rfl) rfl <| aN 2 7 rfl rfl (P_fieldAddr rfl ⟨_, _, _, Try.runUnderlying113, rfl, rfl, Try.sizeOf24, rfl⟩) rfl <| aV 3 15 rfl rfl (GY_none rfl) eR (V_loadR rfl foc0 rfl Try.isAgg24) rfl <| aN 4 31 rfl rfl (P_move rfl) rfl <| aN 5 63 rfl rfl (P_nilCheck rfl) rfl <| aN 6 127 rfl rfl (P_fieldAddr rfl ⟨_, _, _, Try.runUnderlying113, rfl, rfl, Try.sizeOf3, rfl⟩) rfl <| aV 7 255 rfl rfl (GY_none rfl) eR (V_loadR rfl foc0 rfl Try.isAgg3) rfl <| aN 8 511 rfl rfl (P_move rfl) rfl <| aN 9 1023 rfl rfl (P_nilCheck rfl) rfl <| aN 10 2047 rfl rfl (P_fieldAddr rfl ⟨_, _, _, Try.runUnderlying113, rfl, rfl, Try.sizeOf3, rfl⟩) rfl <| aV 11 4095 rfl rfl (GY_none rfl) eR (V_loadR rfl foc0 rfl Try.isAgg3) rfl <| aN 12 8191 rfl rfl (P_move rfl) rfl ?_
  obtain ⟨hg2, h⟩ := grd_Ie h
  refine aN 13 16383 rfl rfl (P_add (a := x_0_start) (b := at_1) rfl rfl hg2) rfl <| AJ_op 14 32767 rfl (by kernel_rfl) rfl (GY_none rfl) <| O_call (c_Read) rfl Try.call7 (Dels.cons del1 Dels.nil) rfl fun _ _ => ⟨fun h => absurd h (by decide), ?_⟩
  refine aN 15 65535 rfl rfl (P_extract rfl rfl) rfl <| aN 16 131071 rfl rfl (P_extract rfl rfl) rfl <| aN 17 262143 rfl rfl (P_assign rfl) rfl <| aN 18 524287 rfl rfl (P_assign rfl) rfl <| aD <| CJ_ret ?_
  cases h
  exact fE (res2 Try.results105 rfl rfl) () (t1_ eR)
def dvc_span_Write (x_0_a : ArrS) (x_0_d : Int) (x_0_start : Int) (x_0_length : Int) (at_1 : Int) (v : UInt64) : Option (Int × ArrS) :=
  Option.bind (block_inside x_0_length at_1 (1 : Int)) fun r1 =>
  if (¬ r1 = true) then
    some (((1 : Int), x_0_a))
  else
    grd (inI64 (x_0_start + at_1)) <|
    grd (inLen x_0_a.writes) <|
    some (((wrR x_0_a x_0_d (x_0_start + at_1)), (wrS x_0_a x_0_d (x_0_start + at_1) v)))
theorem L_dvc_span_Write {W : World} {bx_0 : Nat} {bx_0_a : Nat} {x_0_a : ArrS} {x_0_d : Int} {x_0_start : Int} {x_0_length : Int} {at_1 : Int} {v : UInt64} {r : Int × ArrS} (h : dvc_span_Write x_0_a x_0_d x_0_start x_0_length at_1 v = some r) :
    CSpec Try.prog W 107 [ptr bx_0 0, .int .i64 at_1, .int .u64 (v.toNat : Int)] [blkR bx_0 113 [ptr bx_0_a 0, .int .i64 x_0_d, .int .i64 x_0_start, .int .i64 x_0_length], Arr bx_0_a x_0_a] (fun x : Unit => .int .i64 r.1) (fun _ => True) (fun x F => blkR bx_0 113 [ptr bx_0_a 0, .int .i64 x_0_d, .int .i64 x_0_start, .int .i64 x_0_length] :: Arr bx_0_a r.2 :: F) := by
 refine CSpec.of_body Try.func107 rfl Try.ntmps107 rfl fun F => ?_
 show CJ _ _ _ _ _ _ (_ :: _ :: F)
 unfold dvc_span_Write at h
 refine sR <| oA rfl rfl <| nT <| CJ_seq <| sR <| oM rfl rfl <| oP (P_nilCheck rfl) rfl <| oP (P_fieldAddr rfl ⟨_, _, _, Try.runUnderlying113, rfl, rfl, Try.sizeOf3, rfl⟩) rfl <| oV (V_loadR rfl foc0 rfl Try.isAgg3) rfl <| oM rfl rfl ?_
 obtain ⟨r1, hr2, h⟩ := bind_e h
 refine oO <| O_call (L_block_inside hr2) rfl Try.call75 Dels.nil rfl fun _ _ => oP (P_not rfl) rfl <| nT <| CJ_condP rfl (bT_not Iff.rfl) (fun hg1 => ?_) (fun hg1 => ?_)
 ·
  replace h := ite_t hg1 h
  refine sR <| oA rfl rfl <| nT <| CJ_ret <| QJ_then_ret ?_
  cases h
  exact fE (res1 Try.results107 rfl) () eR
 ·
  replace h := ite_f hg1 h
  refine kT <| CJ_seq <| AJ_startH 32768 (by kernel_rfl) rfl <| aN 0 1 rfl rfl (P_move rfl) rfl <| aN 1 3 rfl rfl (P_nilCheck rfl) rfl <| aN 2 7 rfl rfl (P_fieldAddr rfl ⟨_, _, _, Try.runUnderlying113, rfl, rfl, Try.sizeOf24, rfl⟩) rfl <| aV 3 15 rfl rfl (GY_none rfl) eR (V_loadR rfl foc0 rfl Try.isAgg24) rfl <| aN 4 31 rfl rfl (P_move rfl) rfl <| aN 5 63 rfl rfl (P_nilCheck rfl) rfl <| aN 6 127 rfl rfl (P_fieldAddr rfl ⟨_, _, _, Try.runUnderlying113, rfl, rfl, Try.sizeOf3, rfl⟩) rfl <| aV 7 255 rfl rfl (GY_none rfl) eR (V_loadR rfl foc0 rfl Try.isAgg3) rfl <| aN 8 511 rfl rfl (P_move rfl) rfl <| aN 9 1023 rfl rfl (P_nilCheck rfl) rfl <| aN 10 2047 rfl rfl (P_fieldAddr rfl ⟨_, _, _, Try.runUnderlying113, rfl, rfl, Try.sizeOf3, rfl⟩) rfl <| aV 11 4095 rfl rfl (GY_none rfl) eR (V_loadR rfl foc0 rfl Try.isAgg3) rfl <| aN 12 8191 rfl rfl (P_move rfl) rfl ?_
  obtain ⟨hg2, h⟩ := grd_Ie h
  refine aN 13 16383 rfl rfl (P_add (a := x_0_start) (b := at_1) rfl rfl hg2) rfl <| aN 14 32767 rfl rfl (P_move rfl) rfl ?_
  obtain ⟨hg3, h⟩ := grd_Le h
  refine AJ_op 15 65535 rfl (by kernel_rfl) rfl (GY_none rfl) <| O_call (c_Write hg3 (v := v)) rfl Try.call100 (Dels.cons del1 Dels.nil) rfl fun _ _ => ⟨fun h => absurd h (by decide), ?_⟩
  refine aN 16 131071 rfl rfl (P_assign rfl) rfl <| aD <| CJ_ret ?_
  cases h
  exact fE (res1 Try.results107 rfl) () (t1_ eR)
def dvc_span_Flush (x_0_a : ArrS) (x_0_d : Int) (x_0_start : Int) (x_0_length : Int) : Option (Int × ArrS) :=
  grd (inLen x_0_a.writes) <|
  some (((flC x_0_a x_0_d), (flS x_0_a x_0_d)))
theorem L_dvc_span_Flush {W : World} {bx_0 : Nat} {bx_0_a : Nat} {x_0_a : ArrS} {x_0_d : Int} {x_0_start : Int} {x_0_length : Int} {r : Int × ArrS} (h : dvc_span_Flush x_0_a x_0_d x_0_start x_0_length = some r) :
    CSpec Try.prog W 104 [ptr bx_0 0] [blkR bx_0 113 [ptr bx_0_a 0, .int .i64 x_0_d, .int .i64 x_0_start, .int .i64 x_0_length], Arr bx_0_a x_0_a] (fun x : Unit => .int .i64 r.1) (fun _ => True) (fun x F => blkR bx_0 113 [ptr bx_0_a 0, .int .i64 x_0_d, .int .i64 x_0_start, .int .i64 x_0_length] :: Arr bx_0_a r.2 :: F) := by
 refine CSpec.of_body Try.func104 rfl Try.ntmps104 rfl fun F => ?_
 show CJ _ _ _ _ _ _ (_ :: _ :: F)
 unfold dvc_span_Flush at h
 refine sR <| oA rfl rfl <| nT <| CJ_seq <| AJ_startH 256 (by kernel_rfl) rfl <| aN 0 1 rfl rfl (P_move rfl) rfl <| aN 1 3 rfl rfl (P_nilCheck rfl) rfl <| aN 2 7 rfl rfl (P_fieldAddr rfl ⟨_, _, _, Try.runUnderlying113, rfl, rfl, Try.sizeOf24, rfl⟩) rfl <| aV 3 15 rfl rfl (GY_none rfl) eR (V_loadR rfl foc0 rfl Try.isAgg24) rfl <| aN 4 31 rfl rfl (P_move rfl) rfl <| aN 5 63 rfl rfl (P_nilCheck rfl) rfl <| aN 6 127 rfl rfl (P_fieldAddr rfl ⟨_, _, _, Try.runUnderlying113, rfl, rfl, Try.sizeOf3, rfl⟩) rfl <| aV 7 255 rfl rfl (GY_none rfl) eR (V_loadR rfl foc0 rfl Try.isAgg3) rfl ?_
 obtain ⟨hg1, h⟩ := grd_Le h
 refine AJ_op 8 511 rfl (by kernel_rfl) rfl (GY_none rfl) <| O_call (c_FlushD hg1) rfl Try.call99 (Dels.cons del1 Dels.nil) rfl fun _ _ => ⟨fun h => absurd h (by decide), ?_⟩
 refine aN 9 1023 rfl rfl (P_assign rfl) rfl <| aD <| CJ_ret ?_
 cases h
 exact fE (res1 Try.results104 rfl) () (t1_ eR)
def Dvc.span (x_d : Int) (x_start : Int) (x_length : Int) : Dvc := { dep := 1, size := fun s => dvc_span_Size s x_d x_start x_length, rd := fun s k => dvc_span_Read s x_d x_start x_length k, wr := fun s k v => dvc_span_Write s x_d x_start x_length k v, fl := fun s => dvc_span_Flush s x_d x_start x_length }
theorem ok_Dvc_span {a : Nat} {bx : Nat} {x_d : Int} {x_start : Int} {x_length : Int} : DevOk a (Dvc.span x_d x_start x_length) ⟨111, ptr bx 0⟩ (starX [blkR bx 113 [ptr a 0, .int .i64 x_d, .int .i64 x_start, .int .i64 x_length]]) where
  dup := Dup.starX (by intro A hA; simp only [List.mem_cons, List.not_mem_nil, or_false] at hA; subst hA; exact Dup.blkR)
  dep := by simp [Dvc.span]
  nil := fun n hn w => by
    obtain ⟨m, rfl⟩ : ∃ m, n = m + 1 := ⟨n - 1, by omega⟩
    kernel_rfl
  size := fun {W s r} e => IOk.conseq (G := []) (IOk.of (fun n w => by kernel_rfl) Try.call106 (L_dvc_span_Size e)) (fun F => Ent.starE (Ent.take del0 (Ent.take del0 Ent.refl))) (fun _ F => Ent.starI (Ent.take del0 (Ent.take del0 Ent.refl)))
  rd := fun {W s k r} e => IOk.conseq (G := []) (IOk.of (fun n w => by kernel_rfl) Try.call105 (L_dvc_span_Read e)) (fun F => Ent.starE (Ent.take del0 (Ent.take del0 Ent.refl))) (fun _ F => Ent.starI (Ent.take del0 (Ent.take del0 Ent.refl)))
  wr := fun {W s k v r} e => IOk.conseq (G := []) (IOk.of (fun n w => by kernel_rfl) Try.call107 (L_dvc_span_Write e)) (fun F => Ent.starE (Ent.take del0 (Ent.take del0 Ent.refl))) (fun _ F => Ent.starI (Ent.take del0 (Ent.take del0 Ent.refl)))
  fl := fun {W s r} e => IOk.conseq (G := []) (IOk.of (fun n w => by kernel_rfl) Try.call104 (L_dvc_span_Flush e)) (fun F => Ent.starE (Ent.take del0 (Ent.take del0 Ent.refl))) (fun _ F => Ent.starI (Ent.take del0 (Ent.take del0 Ent.refl)))
end Go.Proofs
set_option linter.unusedSimpArgs false
set_option linter.unusedVariables false
set_option maxRecDepth 20000
set_option maxHeartbeats 4000000
namespace Go.Proofs
open Go.VG
theorem bs_27_1_0 (v0 : Int) : BuildsSlice Try.prog 27 1 [(0, .int .u64 v0)] 33 [.int .u64 v0] := fun w => by kernel_rfl
theorem bs_22_1_0 (v0 : Int) : BuildsSlice Try.prog 22 1 [(0, .int .i64 v0)] 3 [.int .i64 v0] := fun w => by kernel_rfl
theorem bld_113_0_1_2_3 (v0 : (Option Addr)) (v1 : Int) (v2 : Int) (v3 : Int) : ∀ w, (Instr.build 113 (#[(0, .pointer v0), (1, .int .i64 v1), (2, .int .i64 v2), (3, .int .i64 v3)] : Array (Nat × Value))).run Try.prog w = .ok (.agg #[.pointer v0, .int .i64 v1, .int .i64 v2, .int .i64 v3]) w := fun w => by kernel_rfl
theorem bs_53_1_0 (v0 : TypeId) (v1 : Value) : BuildsSlice Try.prog 53 1 [(0, .iface v0 v1)] 57 [.iface v0 v1] := fun w => by kernel_rfl
def volumegroupmake_Words_l1_b (n_0 : Int) (seed : UInt64) (rec : (List UInt64) → Nat → Option ((List UInt64))) (x8 : List UInt64) (x10 : Nat) : Option ((List UInt64)) :=
  if (((x10 : Nat) : Int) < n_0) then
    grd (inLen (x8.length + 1)) <|
    grd (inN64 (x10 + 1)) <|
    rec ((x8 ++ [(seed + ((to_u64 (((x10 : Nat) : Int))) * (11400714819323198485 : UInt64)))])) (x10 + 1)
  else
    some x8
def volumegroupmake_Words_l1 (n_0 : Int) (seed : UInt64) : Nat → (List UInt64) → Nat → Option ((List UInt64))
  | 0, _, _ => none
  | n + 1, x8, x10 => volumegroupmake_Words_l1_b n_0 seed (volumegroupmake_Words_l1 n_0 seed n) x8 x10
def volumegroupmake_Words (n_0 : Int) (seed : UInt64) : Option ((List UInt64)) :=
  Option.bind (volumegroupmake_Words_l1 n_0 seed FUEL ([]) 0) fun a7 =>
  some a7
theorem L_volumegroupmake_Words {W : World} {n_0 : Int} {seed : UInt64} {r : (List UInt64)} (h : volumegroupmake_Words n_0 seed = some r) :
    CSpec Try.prog W 20 [.int .i64 n_0, .int .u64 (seed.toNat : Int)] [] (fun x : Sl3 => x.v) (fun _ => True) (fun x F => sl tyU x.v r :: F) := by
 refine CSpec.of_body Try.func20 rfl Try.ntmps20 rfl fun F => ?_
 show CJ _ _ _ _ _ _ (F)
 unfold volumegroupmake_Words at h
 refine sR <| oA rfl rfl <| nT <| sR <| oA rfl rfl <| nT <| CJ_seq <| sR <| oA rfl rfl <| nT <| CJ_ent (fun h hh => sl_nil (t := tyU) h hh) ?_
 obtain ⟨y4, hl2, hK3⟩ := bind_c h
 refine CJ_cutT (X := (List UInt64) × Sl3) [5, 6, 7, 8, 9, 10, 11, 12, 13, 14, 15, 16, 17, 18, 19] (fun ⟨a7, hd6⟩ => ([(5, hd6.v)] : Slots)) (fun ⟨a7, hd6⟩ R => sl tyU hd6.v a7 :: R) (fun ⟨a7, hd6⟩ => y4 = a7) (Dels.cons del0 Dels.nil) ?_ ?_
 ·
  refine CJ_block <| CJ_loopR (X := Nat × (List UInt64) × Nat × Sl3) [5, 6, 7, 8, 9, 10, 11, 12, 13, 14, 15, 16, 17, 18, 19] (fun ⟨n, x8, x10, hd9⟩ => ([(5, hd9.v), (6, .int .i64 (((x10 : Nat) : Int)))] : Slots)) (fun ⟨n, x8, x10, hd9⟩ R => sl tyU hd9.v x8 :: R) (fun ⟨n, x8, x10, hd9⟩ => volumegroupmake_Words_l1 n_0 seed n x8 x10 = some y4) (fun ⟨n, x8, x10, hd9⟩ => n) ⟨FUEL, [], 0, ⟨none, 0, 0⟩⟩ ?_ ?_ eR ?_
  · exact hl2
  · exact ⟨rfl, rfl, True.intro⟩
  ·
   rintro ⟨n, x8, x10, hd9⟩ h
   cases n with
   | zero => exact none_e h
   | succ n => ?_
   replace h : volumegroupmake_Words_l1_b n_0 seed (volumegroupmake_Words_l1 n_0 seed n) x8 x10 = some y4 := h
   unfold volumegroupmake_Words_l1_b at h
   show CJ _ _ _ _ _ (([(5, hd9.v), (6, .int .i64 (((x10 : Nat) : Int)))] : Slots) ++ forget _ _) (sl tyU hd9.v x8 :: _)
   refine lC del0 fun hlen11 => CJ_seq <| sR <| oM rfl rfl <| oM rfl rfl <| oP (P_lss (a := ((x10 : Nat) : Int)) (b := n_0) rfl rfl) rfl <| nT <| CJ_condP rfl bT_dec (fun hg1 => ?_) (fun hg1 => ?_)
   ·
    replace h := ite_t hg1 h
    refine kT <| CJ_seq <| CJ_block <| CJ_region <| oM rfl rfl <| oM rfl rfl <| oM rfl rfl <| oP (P_conv_u64 (a := ((x10 : Nat) : Int)) rfl Try.runUnderlying3 Try.runUnderlying33) rfl <| oP (P_mul_u64 (a := (to_u64 (((x10 : Nat) : Int)))) (b := (11400714819323198485 : UInt64)) rfl rfl) rfl <| oP (P_add_u64 (a := seed) (b := ((to_u64 (((x10 : Nat) : Int))) * (11400714819323198485 : UInt64))) rfl rfl) rfl <| oO <| O_buildSlice rfl (bs_27_1_0 _) rfl fun b12 => ?_
    obtain ⟨hg2, h⟩ := grd_Le h
    refine oO <| O_append (t := tyU) (bytes := 8) rfl rfl del1 foc0 (Reads.lit (t := tyU) (ys := [(seed + ((to_u64 (((x10 : Nat) : Int))) * (11400714819323198485 : UInt64)))]) rfl rfl (by decide) (by decide) rfl) Try.underlying27 ok_tyU (apl (m := 1) (b := 8) hg2 (by decide)).1 (apl (m := 1) (b := 8) hg2 (by decide)).2 rfl fun p14 c15 => oA rfl rfl <| RJ_nil <| QJ_block_normal <| QJ_then <| CJ_region <| oM rfl rfl ?_
    obtain ⟨hg3, h⟩ := grd_Ne h
    exact oP (PJ_eq (P_add (a := ((x10 : Nat) : Int)) (b := (1 : Int)) rfl rfl (nat_in hg3)) rfl) rfl <| oA rfl rfl <| RJ_nil <| nR ⟨n, (x8 ++ [(seed + ((to_u64 (((x10 : Nat) : Int))) * (11400714819323198485 : UInt64)))]), (x10 + 1), ⟨p14, (x8 ++ [(seed + ((to_u64 (((x10 : Nat) : Int))) * (11400714819323198485 : UInt64)))]).length, c15⟩⟩ h ⟨rfl, rfl, True.intro⟩ (t0_ (eD eR))
   ·
    replace h := ite_f hg1 h
    exact CJ_exit <| QJ_then_exit <| QJ_round_exit <| QJ_block_here <| cR ⟨x8, hd9⟩ (Option.some.inj h).symm ⟨rfl, True.intro⟩ eR
 ·
  rintro ⟨a7, hd6⟩ hy16
  replace h := bindK_at hK3 hy16
  show CJ _ _ _ _ _ (([(5, hd6.v)] : Slots) ++ forget _ _) (sl tyU hd6.v a7 :: _)
  refine lC del0 fun hlen17 => sR <| oM rfl rfl <| oA rfl rfl <| nT <| CJ_ret ?_
  cases h
  exact fE (res1 Try.results20 rfl) hd6 eR
def volumegroupmake_Loaded_l1_b (l : List (List UInt64)) (rec : (List Int) → Nat → Option ((List Int))) (x9 : List Int) (x11 : Nat) : Option ((List Int)) :=
  if (((x11 : Nat) : Int) < ((l.length : Nat) : Int)) then
    grd (inLen (x9.length + 1)) <|
    grd (inN64 (x11 + 1)) <|
    rec ((x9 ++ [(((l.getD x11 []).length : Nat) : Int)])) (x11 + 1)
  else
    some x9
def volumegroupmake_Loaded_l1 (l : List (List UInt64)) : Nat → (List Int) → Nat → Option ((List Int))
  | 0, _, _ => none
  | n + 1, x9, x11 => volumegroupmake_Loaded_l1_b l (volumegroupmake_Loaded_l1 l n) x9 x11
def volumegroupmake_Loaded_l2_b (l : List (List UInt64)) (rec : ArrS → Nat → Option ((ArrS) ⊕ (Option ArrS))) (x32 : ArrS) (x33 : Nat) : Option ((ArrS) ⊕ (Option ArrS)) :=
  if (((x33 : Nat) : Int) < ((l.length : Nat) : Int)) then
    grd (inLen x32.writes) <|
    if ((ldC x32 (((x33 : Nat) : Int)) (l.getD x33 [])) ≠ (0 : Int)) then
      some (.inr none)
    else
      grd (inN64 (x33 + 1)) <|
      rec ((ldS x32 (((x33 : Nat) : Int)) (l.getD x33 []))) (x33 + 1)
  else
    some (.inl x32)
def volumegroupmake_Loaded_l2 (l : List (List UInt64)) : Nat → ArrS → Nat → Option ((ArrS) ⊕ (Option ArrS))
  | 0, _, _ => none
  | n + 1, x32, x33 => volumegroupmake_Loaded_l2_b l (volumegroupmake_Loaded_l2 l n) x32 x33
def volumegroupmake_Loaded (l : List (List UInt64)) : Option ((Option ArrS)) :=
  Option.bind (volumegroupmake_Loaded_l1 l FUEL ([]) 0) fun a8 =>
  grd (inLen a8.length) <|
  if ((newC a8) ≠ (0 : Int)) then
    some none
  else
    Option.elim (newO a8) (
      some none) fun o26 =>
    seqO (volumegroupmake_Loaded_l2 l FUEL o26 0) fun a31 =>
    some (some a31)
theorem L_volumegroupmake_Loaded {W : World} {Al : HP} {vl : Value} {hsl : List Sl3} {Bl : HP} {l : List (List UInt64)} {r : (Option ArrS)} (rl : Reads Al tyRow vl hsl) (ql : RowsR Bl l hsl) (h : volumegroupmake_Loaded l = some r) :
    CSpec Try.prog W 21 [vl] [Al, Bl] (fun x : Nat => oval r x) (fun _ => True) (fun x F => Al :: Bl :: optP (Arr x) r :: F) := by
 refine CSpec.of_body Try.func21 rfl Try.ntmps21 rfl fun F => ?_
 show CJ _ _ _ _ _ _ (_ :: _ :: F)
 unfold volumegroupmake_Loaded at h
 refine CJ_pure (len_of rl del0) fun hlen1 => sR <| oA rfl rfl <| nT <| sR <| oA rfl rfl <| nT <| CJ_seq <| sR <| oA rfl rfl <| nT <| CJ_ent (fun h hh => sl_nil (t := tyI) h hh) ?_
 obtain ⟨y5, hl3, hK4⟩ := bind_c h
 refine CJ_cutT (X := (List Int) × Sl3) [3, 4, 8, 9, 10, 11, 12, 13, 14, 15, 16, 17, 18, 19, 20, 21] (fun ⟨a8, hd7⟩ => ([(3, hd7.v)] : Slots)) (fun ⟨a8, hd7⟩ R => sl tyI hd7.v a8 :: R) (fun ⟨a8, hd7⟩ => y5 = a8) (Dels.cons del0 Dels.nil) ?_ ?_
 ·
  refine CJ_block <| CJ_loopR (X := Nat × (List Int) × Nat × Sl3) [3, 4, 8, 9, 10, 11, 12, 13, 14, 15, 16, 17, 18, 19, 20, 21] (fun ⟨n, x9, x11, hd10⟩ => ([(3, hd10.v), (4, .int .i64 (((x11 : Nat) : Int)))] : Slots)) (fun ⟨n, x9, x11, hd10⟩ R => sl tyI hd10.v x9 :: R) (fun ⟨n, x9, x11, hd10⟩ => volumegroupmake_Loaded_l1 l n x9 x11 = some y5) (fun ⟨n, x9, x11, hd10⟩ => n) ⟨FUEL, [], 0, ⟨none, 0, 0⟩⟩ ?_ ?_ eR ?_
  · exact hl3
  · exact ⟨rfl, rfl, True.intro⟩
  ·
   rintro ⟨n, x9, x11, hd10⟩ h
   cases n with
   | zero => exact none_e h
   | succ n => ?_
   replace h : volumegroupmake_Loaded_l1_b l (volumegroupmake_Loaded_l1 l n) x9 x11 = some y5 := h
   unfold volumegroupmake_Loaded_l1_b at h
   show CJ _ _ _ _ _ (([(3, hd10.v), (4, .int .i64 (((x11 : Nat) : Int)))] : Slots) ++ forget _ _) (sl tyI hd10.v x9 :: _)
   refine lC del0 fun hlen12 => CJ_seq <| sR <| oM rfl rfl <| oM rfl rfl <| oV (VJ_eq (V_len rfl foc1 rl Try.runUnderlying51) (congrArg (fun z : Nat => Value.int .i64 (z : Int)) (ql.1).symm)) rfl <| oP (P_lss (a := ((x11 : Nat) : Int)) (b := ((l.length : Nat) : Int)) rfl rfl) rfl <| nT <| CJ_condP rfl bT_dec (fun hg1 => ?_) (fun hg1 => ?_)
   ·
    replace h := ite_t hg1 h
    refine kT <| CJ_seq <| CJ_block <| CJ_region <| oM rfl rfl <| oM rfl rfl <| oM rfl rfl <| oV (V_index (i := x11) rfl rfl rfl (by have hz : x11 < l.length := (by omega); have hy := ql.1; omega) foc1 rl Try.runUnderlying51 Try.sizeOf27) rfl <| oV (V_loadE rfl rfl (by have hz : x11 < l.length := (by omega); have hy := ql.1; omega) foc1 rl rfl rfl Try.isAgg27) rfl <| oV (V_len rfl foc2 (ql.2 _ (by omega)) Try.runUnderlying27) rfl <| oO <| O_buildSlice rfl (bs_22_1_0 _) rfl fun b13 => ?_
    obtain ⟨hg2, h⟩ := grd_Le h
    refine oO <| O_append (t := tyI) (bytes := 8) rfl rfl del1 foc0 (Reads.lit (t := tyI) (ys := [(((l.getD x11 []).length : Nat) : Int)]) rfl rfl (by decide) (by decide) rfl) Try.underlying22 ok_tyI (apl (m := 1) (b := 8) hg2 (by decide)).1 (apl (m := 1) (b := 8) hg2 (by decide)).2 rfl fun p15 c16 => oA rfl rfl <| RJ_nil <| QJ_block_normal <| QJ_then <| CJ_region <| oM rfl rfl ?_
    obtain ⟨hg3, h⟩ := grd_Ne h
    exact oP (PJ_eq (P_add (a := ((x11 : Nat) : Int)) (b := (1 : Int)) rfl rfl (nat_in hg3)) rfl) rfl <| oA rfl rfl <| RJ_nil <| nR ⟨n, (x9 ++ [(((l.getD x11 []).length : Nat) : Int)]), (x11 + 1), ⟨p15, (x9 ++ [(((l.getD x11 []).length : Nat) : Int)]).length, c16⟩⟩ h ⟨rfl, rfl, True.intro⟩ (t0_ (t1_ (t1_ (eD eR))))
   ·
    replace h := ite_f hg1 h
    exact CJ_exit <| QJ_then_exit <| QJ_round_exit <| QJ_block_here <| cR ⟨x9, hd10⟩ (Option.some.inj h).symm ⟨rfl, True.intro⟩ eR
 ·
  rintro ⟨a8, hd7⟩ hy17
  replace h := bindK_at hK4 hy17
  show CJ _ _ _ _ _ (([(3, hd7.v)] : Slots) ++ forget _ _) (sl tyI hd7.v a8 :: _)
  refine lC del0 fun hlen18 => sR <| oM rfl rfl ?_
  obtain ⟨hg4, h⟩ := grd_Le h
  refine oO <| O_call (c_NewO (Reads.sl _ _ _) hg4) rfl Try.call50 (Dels.cons del0 Dels.nil) rfl fun X19 _ => oM rfl rfl <| oP (P_extract rfl rfl) rfl <| oP (P_extract rfl rfl) rfl <| oA rfl rfl <| oA rfl rfl <| nT <| CJ_seq <| sR <| oM rfl rfl <| oP (P_neq (a := (newC a8)) (b := (0 : Int)) rfl rfl) rfl <| oM rfl rfl <| RJ_mbF rfl rfl rfl (fun hG21 => have hP22 : ¬ ((newC a8) ≠ (0 : Int)) := nP (bT_dec) hG21; VJ_P (P_move rfl)) <| RJ_splitP 29 rfl bT_dec (fun hg5B hg5 => ?_) (fun hg5B hg5 => ?_)
  ·
   replace h := ite_t hg5 h
   refine RJ_gn (GY_no rfl rfl rfl hg5B) rfl rfl <| oP (P_pickT rfl hg5B rfl) rfl <| nT <| CJ_condT rfl rfl <| sR <| oA rfl rfl <| nT <| CJ_ret <| QJ_then_ret ?_
   cases h
   exact fE (res1 Try.results21 rfl) 0 (t2_ (t2_ (Ent.trans (fun h hh => optP_none h hh) <| t0_ (eD (eD eR)))))
  ·
   replace h := ite_f hg5 h
   rcases opt_e h with ⟨ht25, h⟩ | ⟨o26, ht25, h⟩
   ·
    rw [ht25]
    refine RJ_ent (t1_ (t1_ (t1_ (eD eR)))) <| gP (GY_yes rfl rfl rfl hg5B) (P_eqlNN (mbx (not_f hg5B) rfl) rfl Try.underlying24) rfl <| oP (P_pickF rfl hg5B rfl) rfl <| nT <| CJ_condT rfl rfl <| sR <| oA rfl rfl <| nT <| CJ_ret <| QJ_then_ret ?_
    cases h
    exact fE (res1 Try.results21 rfl) 0 (t1_ (t1_ (Ent.trans (fun h hh => optP_none h hh) <| t0_ (eD eR))))
   ·
    rw [ht25]
    refine RJ_ent (Ent.takeC (A' := Arr X19 o26) del0 rfl eR) <| gP (GY_yes rfl rfl rfl hg5B) (P_eqlPN (mbx (not_f hg5B) rfl) rfl Try.underlying24) rfl <| oP (P_pickF rfl hg5B rfl) rfl <| nT <| CJ_condF rfl rfl <| kT <| CJ_seq <| sR <| oA rfl rfl <| nT ?_
    obtain ⟨y29, hl27, hK28⟩ := seq_e h
    refine CJ_cutT (X := ArrS) [2, 7, 33, 34, 35, 36, 37, 38, 39, 40, 41, 42, 43, 44, 45, 46] (fun a31 => ([] : Slots)) (fun a31 R => Arr X19 a31 :: R) (fun a31 => y29 = .inl a31) (Dels.cons del0 Dels.nil) ?_ ?_
    ·
     refine CJ_block <| CJ_loopR (X := Nat × ArrS × Nat) [2, 7, 33, 34, 35, 36, 37, 38, 39, 40, 41, 42, 43, 44, 45, 46] (fun ⟨n, x32, x33⟩ => ([(7, .int .i64 (((x33 : Nat) : Int)))] : Slots)) (fun ⟨n, x32, x33⟩ R => Arr X19 x32 :: R) (fun ⟨n, x32, x33⟩ => volumegroupmake_Loaded_l2 l n x32 x33 = some y29) (fun ⟨n, x32, x33⟩ => n) ⟨FUEL, o26, 0⟩ ?_ ?_ eR ?_
     · exact hl27
     · exact ⟨rfl, True.intro⟩
     ·
      rintro ⟨n, x32, x33⟩ h
      cases n with
      | zero => exact none_e h
      | succ n => ?_
      replace h : volumegroupmake_Loaded_l2_b l (volumegroupmake_Loaded_l2 l n) x32 x33 = some y29 := h
      unfold volumegroupmake_Loaded_l2_b at h
      show CJ _ _ _ _ _ (([(7, .int .i64 (((x33 : Nat) : Int)))] : Slots) ++ forget _ _) (Arr X19 x32 :: _)
      refine CJ_seq <| sR <| oM rfl rfl <| oM rfl rfl <| oV (VJ_eq (V_len rfl foc2 rl Try.runUnderlying51) (congrArg (fun z : Nat => Value.int .i64 (z : Int)) (ql.1).symm)) rfl <| oP (P_lss (a := ((x33 : Nat) : Int)) (b := ((l.length : Nat) : Int)) rfl rfl) rfl <| nT <| CJ_condP rfl bT_dec (fun hg6 => ?_) (fun hg6 => ?_)
      ·
       replace h := ite_t hg6 h
       refine kT <| CJ_seq <| CJ_block <| sR <| oM rfl rfl <| oM rfl rfl <| oM rfl rfl <| oM rfl rfl <| oV (V_index (i := x33) rfl rfl rfl (by have hz : x33 < l.length := (by omega); have hy := ql.1; omega) foc2 rl Try.runUnderlying51 Try.sizeOf27) rfl <| oV (V_loadE rfl rfl (by have hz : x33 < l.length := (by omega); have hy := ql.1; omega) foc2 rl rfl rfl Try.isAgg27) rfl ?_
       obtain ⟨hg7, h⟩ := grd_Le h
       refine oO <| O_call (c_LoadD (ql.2 _ (by omega)) hg7) rfl Try.call51 (Dels.cons del0 (Dels.cons del2 Dels.nil)) rfl fun _ _ => oP (P_neq (a := (ldC x32 (((x33 : Nat) : Int)) (l.getD x33 []))) (b := (0 : Int)) rfl rfl) rfl <| nT <| CJ_condP rfl bT_dec (fun hg8 => ?_) (fun hg8 => ?_)
       ·
        replace h := ite_t hg8 h
        refine sR <| oA rfl rfl <| nT <| CJ_ret <| QJ_block_ret <| QJ_then_ret <| QJ_round_ret <| QJ_block_ret <| QJ_then_ret ?_
        have hE := Option.some.inj h
        replace hE := seq_inr hK28 hE.symm
        subst hE
        exact fE (res1 Try.results21 rfl) 0 (t3_ (t1_ (Ent.trans (fun h hh => optP_none h hh) <| t0_ (eD (eD eR)))))
       ·
        replace h := ite_f hg8 h
        refine CJ_skip <| QJ_block_normal <| QJ_then <| CJ_region <| oM rfl rfl ?_
        obtain ⟨hg9, h⟩ := grd_Ne h
        exact oP (PJ_eq (P_add (a := ((x33 : Nat) : Int)) (b := (1 : Int)) rfl rfl (nat_in hg9)) rfl) rfl <| oA rfl rfl <| RJ_nil <| nR ⟨n, (ldS x32 (((x33 : Nat) : Int)) (l.getD x33 [])), (x33 + 1)⟩ h ⟨rfl, True.intro⟩ (t0_ (t1_ (t1_ eR)))
      ·
       replace h := ite_f hg6 h
       exact CJ_exit <| QJ_then_exit <| QJ_round_exit <| QJ_block_here <| cR x32 (Option.some.inj h).symm True.intro eR
    ·
     rintro a31 hy34
     replace h := seq_inl hK28 hy34
     show CJ _ _ _ _ _ (([] : Slots) ++ forget _ _) (Arr X19 a31 :: _)
     refine sR <| oM rfl rfl <| oA rfl rfl <| nT <| CJ_ret ?_
     cases h
     exact fE (res1 Try.results21 rfl) X19 (t2_ (t2_ (t0_ (eD eR))))
def block_Span (a : ArrS) (d : Int) (start : Int) (length : Int) : Option ((Option Dvc) × Int) :=
  if (length < (1 : Int)) then
    some ((none, (1 : Int)))
  else
    Option.bind (block_inside (sizeI a d) start length) fun r1 =>
    if (¬ r1 = true) then
      some ((none, (1 : Int)))
    else
      some (((some (Dvc.span d start length)), (0 : Int)))
theorem L_block_Span {W : World} {ba : Nat} {a : ArrS} {d : Int} {start : Int} {length : Int} {r : (Option Dvc) × Int} (h : block_Span a d start length = some r) :
    CSpec Try.prog W 53 [ptr ba 0, .int .i64 d, .int .i64 start, .int .i64 length] [Arr ba a] (fun x : IfH => .tuple #[oif r.1 x, .int .i64 r.2]) (fun _ => True) (fun x F => Arr ba a :: optP (DevP ba · x) r.1 :: F) := by
 refine CSpec.of_body Try.func53 rfl Try.ntmps53 rfl fun F => ?_
 show CJ _ _ _ _ _ _ (_ :: F)
 unfold block_Span at h
 refine sR <| oA rfl rfl <| oA rfl rfl <| nT <| CJ_seq <| sR <| oM rfl rfl <| oP (P_lss (a := length) (b := (1 : Int)) rfl rfl) rfl <| oM rfl rfl <| RJ_splitP 12 rfl bT_dec (fun hg1B hg1 => ?_) (fun hg1B hg1 => ?_)
 ·
  replace h := ite_t hg1 h
  refine RJ_gn (GY_no rfl rfl rfl hg1B) rfl rfl <| RJ_gn (GY_no rfl rfl rfl hg1B) rfl rfl <| RJ_gn (GY_no rfl rfl rfl hg1B) rfl rfl <| RJ_gn (GY_no rfl rfl rfl hg1B) rfl rfl <| RJ_gn (GY_no rfl rfl rfl hg1B) rfl rfl <| RJ_gn (GY_no rfl rfl rfl hg1B) rfl rfl <| RJ_gn (GY_no rfl rfl rfl hg1B) rfl rfl <| oP (P_pickT rfl hg1B rfl) rfl <| nT <| CJ_condT rfl rfl <| sR <| oA rfl rfl <| oA rfl rfl <| nT <| CJ_ret <| QJ_then_ret ?_
  cases h
  exact fE (res2 Try.results53 rfl rfl) ⟨0, .bool false⟩ (t0_ (Ent.trans (fun h hh => optP_none h hh) <| t0_ eR))
 ·
  replace h := ite_f hg1 h
  refine gP (GY_yes rfl rfl rfl hg1B) (P_move rfl) rfl <| gP (GY_yes rfl rfl rfl hg1B) (P_move rfl) rfl <| RJ_gy (GY_yes rfl rfl rfl hg1B) <| O_call (c_SizeD) rfl Try.call54 (Dels.cons del0 Dels.nil) rfl fun _ _ => gP (GY_yes rfl rfl rfl hg1B) (P_move rfl) rfl <| gP (GY_yes rfl rfl rfl hg1B) (P_move rfl) rfl ?_
  obtain ⟨r1, hr2, h⟩ := bind_e h
  refine RJ_gy (GY_yes rfl rfl rfl hg1B) <| O_call (L_block_inside hr2) rfl Try.call75 Dels.nil rfl fun _ _ => gP (GY_yes rfl rfl rfl hg1B) (P_not rfl) rfl <| oP (P_pickF rfl hg1B rfl) rfl <| nT <| CJ_condP rfl (bT_not Iff.rfl) (fun hg2 => ?_) (fun hg2 => ?_)
  ·
   replace h := ite_t hg2 h
   refine sR <| oA rfl rfl <| oA rfl rfl <| nT <| CJ_ret <| QJ_then_ret ?_
   cases h
   exact fE (res2 Try.results53 rfl rfl) ⟨0, .bool false⟩ (t0_ (Ent.trans (fun h hh => optP_none h hh) <| t0_ eR))
  ·
   replace h := ite_f hg2 h
   refine kT <| sR <| oM rfl rfl <| oM rfl rfl <| oM rfl rfl <| oM rfl rfl <| oP (P_build rfl (bld_113_0_1_2_3 _ _ _ _)) rfl <| oO <| O_box rfl rfl rfl fun b3 => RJ_share del0 <| oP (P_makeIface rfl Try.runUnderlying111 (by intro ms h; cases h)) rfl <| RJ_ent (Ent.trans (t0_ eR) (DevP_mk (a := ba) (x := (Dvc.span d start length)) (h := (⟨111, ptr b3 0⟩ : IfH)) (ok_Dvc_span))) <| oA rfl rfl <| oA rfl rfl <| nT <| CJ_ret ?_
   cases h
   exact fE (res2 Try.results53 rfl rfl) ((⟨111, ptr b3 0⟩ : IfH)) (t1_ eR)
def volumegroupmake_Spans_l1_b (a : ArrS) (rec : (List Dvc) → Nat → Option (((List Dvc)) ⊕ (List Dvc))) (x10 : List Dvc) (x13 : Nat) : Option (((List Dvc)) ⊕ (List Dvc)) :=
  if (((x13 : Nat) : Int) < ((a.drv.length : Nat) : Int)) then
    Option.bind (block_Span a (((x13 : Nat) : Int)) (0 : Int) ((sizeI a (((x13 : Nat) : Int))))) fun r16 =>
    if (r16.2 ≠ (0 : Int)) then
      some (.inr ([] : List Dvc))
    else
      Option.elim r16.1 (
        some (.inr ([] : List Dvc))) fun o27 =>
      grd (inLen (x10.length + 1)) <|
      grd (inN64 (x13 + 1)) <|
      rec (x10 ++ [o27]) (x13 + 1)
  else
    some (.inl x10)
def volumegroupmake_Spans_l1 (a : ArrS) : Nat → (List Dvc) → Nat → Option (((List Dvc)) ⊕ (List Dvc))
  | 0, _, _ => none
  | n + 1, x10, x13 => volumegroupmake_Spans_l1_b a (volumegroupmake_Spans_l1 a n) x10 x13
def volumegroupmake_Spans (a : ArrS) : Option ((List Dvc)) :=
  seqO (volumegroupmake_Spans_l1 a FUEL ([] : List Dvc) 0) fun a9 =>
  some a9
theorem L_volumegroupmake_Spans {W : World} {ba : Nat} {a : ArrS} {r : (List Dvc)} (h : volumegroupmake_Spans a = some r) :
    CSpec Try.prog W 22 [ptr ba 0] [Arr ba a] (fun x : (Sl3 × List IfH) => x.1.v) (fun _ => True) (fun x F => Arr ba a :: sl tyDev x.1.v x.2 :: Rs (DevP ba) r x.2 :: F) := by
 refine CSpec.of_body Try.func22 rfl Try.ntmps22 rfl fun F => ?_
 show CJ _ _ _ _ _ _ (_ :: F)
 unfold volumegroupmake_Spans at h
 refine sR <| oA rfl rfl <| nT <| sR <| oA rfl rfl <| nT <| CJ_seq <| sR <| oA rfl rfl <| nT <| CJ_ent (fun h hh => sl_nil (t := tyDev) h (rs_nil (RP := DevP ba) h hh)) ?_
 obtain ⟨y5, hl3, hK4⟩ := seq_e h
 refine CJ_cutT (X := (List Dvc) × Sl3 × (List IfH)) [2, 3, 4, 5, 6, 7, 8, 9, 10, 11, 12, 13, 14, 15, 16, 17, 18, 19, 20, 21, 22, 23, 24, 25, 26, 27, 28, 29, 30, 31] (fun ⟨a9, hd7, hs8⟩ => ([(3, hd7.v)] : Slots)) (fun ⟨a9, hd7, hs8⟩ R => sl tyDev hd7.v hs8 :: Rs (DevP ba) a9 hs8 :: R) (fun ⟨a9, hd7, hs8⟩ => y5 = .inl a9) (Dels.cons del0 (Dels.cons del0 Dels.nil)) ?_ ?_
 ·
  refine CJ_block <| CJ_loopR (X := Nat × (List Dvc) × Nat × Sl3 × (List IfH)) [2, 3, 4, 5, 6, 7, 8, 9, 10, 11, 12, 13, 14, 15, 16, 17, 18, 19, 20, 21, 22, 23, 24, 25, 26, 27, 28, 29, 30, 31] (fun ⟨n, x10, x13, hd11, hs12⟩ => ([(3, hd11.v), (4, .int .i64 (((x13 : Nat) : Int)))] : Slots)) (fun ⟨n, x10, x13, hd11, hs12⟩ R => sl tyDev hd11.v hs12 :: Rs (DevP ba) x10 hs12 :: R) (fun ⟨n, x10, x13, hd11, hs12⟩ => volumegroupmake_Spans_l1 a n x10 x13 = some y5) (fun ⟨n, x10, x13, hd11, hs12⟩ => n) ⟨FUEL, ([] : List Dvc), 0, ⟨none, 0, 0⟩, ([] : List IfH)⟩ ?_ ?_ eR ?_
  · exact hl3
  · exact ⟨rfl, rfl, True.intro⟩
  ·
   rintro ⟨n, x10, x13, hd11, hs12⟩ h
   cases n with
   | zero => exact none_e h
   | succ n => ?_
   replace h : volumegroupmake_Spans_l1_b a (volumegroupmake_Spans_l1 a n) x10 x13 = some y5 := h
   unfold volumegroupmake_Spans_l1_b at h
   show CJ _ _ _ _ _ (([(3, hd11.v), (4, .int .i64 (((x13 : Nat) : Int)))] : Slots) ++ forget _ _) (sl tyDev hd11.v hs12 :: Rs (DevP ba) x10 hs12 :: _)
   refine lC del0 fun hlen14 => CJ_pure (fun h hh => Rs_len (stars_perm (del1 (A := Rs (DevP ba) x10 hs12)).out h hh)) fun hdl15 => CJ_seq <| sR <| oM rfl rfl <| oM rfl rfl <| oO <| O_call (c_CountD) rfl Try.call52 (Dels.cons del2 Dels.nil) rfl fun _ _ => oP (P_lss (a := ((x13 : Nat) : Int)) (b := ((a.drv.length : Nat) : Int)) rfl rfl) rfl <| nT <| CJ_condP rfl bT_dec (fun hg1 => ?_) (fun hg1 => ?_)
   ·
    replace h := ite_t hg1 h
    refine kT <| CJ_seq <| CJ_block <| sR <| oM rfl rfl <| oM rfl rfl <| oM rfl rfl <| oM rfl rfl <| oO <| O_call (c_SizeD) rfl Try.call54 (Dels.cons del0 Dels.nil) rfl fun _ _ => ?_
    obtain ⟨r16, hr17, h⟩ := bind_e h
    refine oO <| O_call (L_block_Span hr17) rfl Try.call53 (Dels.cons del0 Dels.nil) rfl fun X18 _ => oM rfl rfl <| oP (P_extract rfl rfl) rfl <| oP (P_extract rfl rfl) rfl <| oA rfl rfl <| oA rfl rfl <| nT <| CJ_seq <| sR <| oM rfl rfl <| oP (P_neq (a := r16.2) (b := (0 : Int)) rfl rfl) rfl <| oM rfl rfl <| RJ_mbF rfl rfl rfl (fun hG20 => have hP21 : ¬ (r16.2 ≠ (0 : Int)) := nP (bT_dec) hG20; VJ_P (P_move rfl)) <| RJ_splitP 24 rfl bT_dec (fun hg2B hg2 => ?_) (fun hg2B hg2 => ?_)
    ·
     replace h := ite_t hg2 h
     refine RJ_gn (GY_no rfl rfl rfl hg2B) rfl rfl <| oP (P_pickT rfl hg2B rfl) rfl <| nT <| CJ_condT rfl rfl <| sR <| oA rfl rfl <| nT <| CJ_ret <| QJ_then_ret <| QJ_block_ret <| QJ_then_ret <| QJ_round_ret <| QJ_block_ret <| QJ_then_ret <| QJ_ent (fun h hh => sl_nil (t := tyDev) h (rs_nil (RP := DevP ba) h hh)) ?_
     have hE := Option.some.inj h
     replace hE := seq_inr hK4 hE.symm
     subst hE
     exact fE (res1 Try.results22 rfl) ((⟨none, 0, 0⟩, ([] : List IfH))) (t2_ (t0_ (t0_ (eD (eD (eD eR))))))
    ·
     replace h := ite_f hg2 h
     rcases opt_e h with ⟨ht26, h⟩ | ⟨o27, ht26, h⟩
     ·
      rw [ht26]
      refine RJ_ent (t0_ (t1_ (t1_ (eD eR)))) <| gP (GY_yes rfl rfl rfl hg2B) (P_eqlIN (mbx (not_f hg2B) rfl) Try.underlying57) rfl <| oP (P_pickF rfl hg2B rfl) rfl <| nT <| CJ_condT rfl rfl <| sR <| oA rfl rfl <| nT <| CJ_ret <| QJ_then_ret <| QJ_block_ret <| QJ_then_ret <| QJ_round_ret <| QJ_block_ret <| QJ_then_ret <| QJ_ent (fun h hh => sl_nil (t := tyDev) h (rs_nil (RP := DevP ba) h hh)) ?_
      have hE := Option.some.inj h
      replace hE := seq_inr hK4 hE.symm
      subst hE
      exact fE (res1 Try.results22 rfl) ((⟨none, 0, 0⟩, ([] : List IfH))) (t2_ (t0_ (t0_ (eD (eD eR)))))
     ·
      rw [ht26]
      refine RJ_ent (Ent.takeC (A' := DevP ba o27 X18) del1 rfl eR) <| gP (GY_yes rfl rfl rfl hg2B) (P_eqlIfN (mbx (not_f hg2B) rfl) rfl Try.underlying57) rfl <| oP (P_pickF rfl hg2B rfl) rfl <| nT <| CJ_condF rfl rfl <| kT <| CJ_region <| oM rfl rfl <| oM rfl rfl <| oO <| O_buildSlice rfl (bs_53_1_0 _ _) rfl fun b30 => ?_
      obtain ⟨hg3, h⟩ := grd_Le h
      refine oO <| O_append (t := tyDev) (bytes := 16) rfl rfl del3 foc0 (Reads.lit (t := tyDev) (ys := [X18]) rfl rfl (by decide) (by decide) rfl) Try.underlying53 ok_tyDev (apl (m := 1) (b := 16) (by have hz : _ ≤ 1000000000 := hg3; have := hdl15; omega) (by decide)).1 (apl (m := 1) (b := 16) (by have hz : _ ≤ 1000000000 := hg3; have := hdl15; omega) (by decide)).2 rfl fun p32 c33 => RJ_ent (Ent.trans (t4_ (t2_ eR)) (Rs_push (x := o27) (g := X18) (fun _ _ => Dup_DevP))) <| RJ_pure (fun h hh => Rs_len (stars_perm (del0 (A := Rs (DevP ba) (x10 ++ [o27]) (hs12 ++ [X18]))).out h hh)) fun hdl34 => oA rfl rfl <| RJ_nil <| QJ_block_normal <| QJ_then <| CJ_region <| oM rfl rfl ?_
      obtain ⟨hg4, h⟩ := grd_Ne h
      exact oP (PJ_eq (P_add (a := ((x13 : Nat) : Int)) (b := (1 : Int)) rfl rfl (nat_in hg4)) rfl) rfl <| oA rfl rfl <| RJ_nil <| nR ⟨n, (x10 ++ [o27]), (x13 + 1), ⟨p32, (hs12 ++ [X18]).length, c33⟩, (hs12 ++ [X18])⟩ h ⟨rfl, rfl, True.intro⟩ (t2_ (t0_ (t2_ (eD (eD eR)))))
   ·
    replace h := ite_f hg1 h
    exact CJ_exit <| QJ_then_exit <| QJ_round_exit <| QJ_block_here <| cR ⟨x10, hd11, hs12⟩ (Option.some.inj h).symm ⟨rfl, True.intro⟩ (t1_ (t1_ eR))
 ·
  rintro ⟨a9, hd7, hs8⟩ hy35
  replace h := seq_inl hK4 hy35
  show CJ _ _ _ _ _ (([(3, hd7.v)] : Slots) ++ forget _ _) (sl tyDev hd7.v hs8 :: Rs (DevP ba) a9 hs8 :: _)
  refine lC del0 fun hlen36 => CJ_pure (fun h hh => Rs_len (stars_perm (del1 (A := Rs (DevP ba) a9 hs8)).out h hh)) fun hdl37 => sR <| oM rfl rfl <| oA rfl rfl <| nT <| CJ_ret ?_
  cases h
  exact fE (res1 Try.results22 rfl) (hd7, hs8) (t2_ eR)
end Go.Proofs
namespace Go.Proofs
open Go.VG
def mkS (ims : List (List UInt64)) : ArrS := ⟨ims.map (fun im => ⟨im, im, false⟩), [], [], 0, false, 0⟩
theorem inLen_of {n : Nat} (h : n ≤ 1000000000) : inLen n = true := inLen_iff.2 h
theorem inN64_of {n : Nat} (h : n ≤ 9000000000000000000) : inN64 n = true := inN64_iff.2 (by omega)
theorem grd_t {α : Type} {b : Bool} {o : Option α} (h : b = true) : grd b o = o := by rw [h]; rfl
theorem seqO_inl {α ρ : Type} {a : α} {k : α → Option ρ} : seqO (some (.inl a)) k = k a := rfl
theorem seqO_inr {α ρ : Type} {a : ρ} {k : α → Option ρ} : seqO (some (.inr a)) k = some a := rfl
def lensI (l : List (List UInt64)) : List Int := l.map fun im => (im.length : Int)
theorem getD_take_snoc {α : Type} {l : List α} {i : Nat} {d : α} (h : i < l.length) : l.take (i + 1) = l.take i ++ [l.getD i d] := by
  rw [List.take_succ_eq_append_getElem h]; simp [List.getD, h]
theorem loaded_l1 {l : List (List UInt64)} (h8 : l.length ≤ 1000) : ∀ (N i : Nat) (acc : List Int), l.length - i < N → i ≤ l.length → acc = lensI (l.take i) →
    volumegroupmake_Loaded_l1 l N acc i = some (lensI l)
  | 0, _, _, h, _, _ => absurd h (by omega)
  | N + 1, i, acc, h, hi, ha => by
    show volumegroupmake_Loaded_l1_b _ _ _ _ = _
    unfold volumegroupmake_Loaded_l1_b
    subst ha
    by_cases hlt : i < l.length
    · rw [if_pos (by omega), grd_t (inLen_of (by simp [lensI]; omega)), grd_t (inN64_of (by omega))]
      refine loaded_l1 h8 N (i + 1) _ (by omega) (by omega) ?_
      rw [getD_take_snoc (d := []) hlt]; simp [lensI]
    · rw [if_neg (by omega)]
      have : i = l.length := by omega
      rw [this, List.take_length]
def ldDrv (l : List (List UInt64)) (i : Nat) : List Drive := (l.take i).map (fun im => ⟨im, im, false⟩) ++ (lensI (l.drop i)).map mkD
theorem loaded_l2 {l : List (List UInt64)} (h8 : l.length ≤ 8) (hz : ∀ im ∈ l, 1 ≤ im.length ∧ im.length ≤ 65536) : ∀ (N i : Nat) (x : ArrS), l.length - i < N → i ≤ l.length → x = ⟨ldDrv l i, [], [], 0, false, 0⟩ →
    volumegroupmake_Loaded_l2 l N x i = some (.inl (mkS l))
  | 0, _, _, h, _, _ => absurd h (by omega)
  | N + 1, i, x, h, hi, hx => by
    show volumegroupmake_Loaded_l2_b _ _ _ _ = _
    unfold volumegroupmake_Loaded_l2_b
    subst hx
    by_cases hlt : i < l.length
    · have hlen : (ldDrv l i).length = l.length := by simp [ldDrv, lensI]; omega
      have hin : inR ⟨ldDrv l i, [], [], 0, false, 0⟩ (i : Int) := by unfold inR; simp only [hlen]; omega
      have hg : (ldDrv l i).getD i d0 = mkD ((l.getD i []).length : Int) := by
        unfold ldDrv
        have e1 : ((l.take i).map (fun im => (⟨im, im, false⟩ : Drive))).length = i := by simp; omega
        simp only [List.getD]
        rw [List.getElem?_append_right (by omega), e1, Nat.sub_self, List.drop_eq_getElem_cons hlt]; simp [lensI, hlt]
      have hc : ldC ⟨ldDrv l i, [], [], 0, false, 0⟩ (i : Int) (l.getD i []) = 0 := by
        unfold ldC; rw [if_pos hin]; simp only [Int.toNat_natCast, hg]
        rw [if_pos (by simp [mkD])]
      rw [if_pos (by omega), grd_t (inLen_of (by simp)), if_neg (by rw [hc]; simp), grd_t (inN64_of (by omega))]
      refine loaded_l2 h8 hz N (i + 1) _ (by omega) (by omega) ?_
      have hC : ldS ⟨ldDrv l i, [], [], 0, false, 0⟩ (i : Int) (l.getD i []) = ⟨ldDrv l (i + 1), [], [], 0, false, 0⟩ := by
        unfold ldS; rw [if_pos hc]
        have hd : ∀ n, delUpTo [] (i : Int) n = [] := fun n => by
          induction n with
          | zero => rfl
          | succ n ih => rw [← delUpTo_step, ih]; rfl
        simp only [Int.toNat_natCast, hg, hd, List.filter_nil]
        congr 1
        unfold ldDrv
        rw [getD_take_snoc (d := []) hlt, List.drop_eq_getElem_cons hlt]
        have e1 : ((l.take i).map (fun im => (⟨im, im, false⟩ : Drive))).length = i := by simp; omega
        rw [List.set_append_right _ _ (by omega), e1, Nat.sub_self]
        simp only [lensI, List.map_cons, List.set_cons_zero, List.map_append, List.map_nil, List.append_assoc, List.cons_append, List.nil_append]
        rfl
      exact hC
    · rw [if_neg (by omega)]
      have : i = l.length := by omega
      rw [this]; simp [ldDrv, mkS, lensI]
theorem loaded_eq {l : List (List UInt64)} (h8 : l.length ≤ 8) (hz : ∀ im ∈ l, 1 ≤ im.length ∧ im.length ≤ 65536) : volumegroupmake_Loaded l = some (some (mkS l)) := by
  unfold volumegroupmake_Loaded
  have hF := fuel_big
  generalize FUEL = N at hF ⊢
  rw [loaded_l1 (by omega) N 0 [] (by omega) (by omega) (by simp [lensI])]
  have hN : newB (lensI l) = true := by
    unfold newB
    rw [Bool.and_eq_true, Nat.ble_eq, List.all_eq_true]
    refine ⟨by simpa [lensI] using h8, fun z hz' => ?_⟩
    obtain ⟨im, him, rfl⟩ := List.mem_map.1 hz'
    have := hz im him
    simp; omega
  simp only [Option.bind_some]
  rw [grd_t (inLen_of (by simp [lensI]; omega))]
  have hnc : newC (lensI l) = 0 := by unfold newC; rw [if_pos hN]
  have hno : newO (lensI l) = some (newS (lensI l)) := by unfold newO; rw [if_pos hN]
  rw [if_neg (by rw [hnc]; simp), hno]
  simp only [Option.elim]
  rw [loaded_l2 h8 hz N 0 _ (by omega) (by omega) (by simp [newS, ldDrv])]
  rfl
end Go.Proofs
namespace Go.Proofs
open Go.VG
theorem insideB {n k m : Int} (hn : 0 ≤ n ∧ n ≤ 4611686018427387904) : block_inside n k m = some (decide (0 ≤ k ∧ k ≤ n ∧ 0 ≤ m ∧ m ≤ n - k)) := by
  unfold block_inside
  refine congrArg some ?_
  rw [Bool.eq_iff_iff]
  by_cases h : 0 ≤ k ∧ k ≤ n
  · rw [wrap64_in (by omega) (by omega)]; simp; omega
  · simp; omega
theorem inside1 {n k : Int} (hn : 0 ≤ n ∧ n ≤ 4611686018427387904) : block_inside n k 1 = some (decide (0 ≤ k ∧ k < n)) := by
  rw [insideB hn]; exact congrArg some (decide_eq_decide.2 (by omega))
theorem inI64_of {n : Int} (h : -4611686018427387904 ≤ n ∧ n ≤ 4611686018427387904) : inI64 n = true := inI64_iff.2 (by omega)
def spansA (s : ArrS) : List Dvc := (List.range s.drv.length).map fun i => Dvc.span ((i : Nat) : Int) 0 ((s.size i : Nat) : Int)
@[simp] theorem spansA_length {s : ArrS} : (spansA s).length = s.drv.length := by simp [spansA]
theorem spansA_getD {s : ArrS} {i : Nat} (h : i < s.drv.length) : (spansA s).getD i dv0 = Dvc.span ((i : Nat) : Int) 0 ((s.size i : Nat) : Int) := by
  simp [spansA, List.getD, h]
theorem sizeI_of {s : ArrS} {i : Nat} (h : i < s.drv.length) : sizeI s (i : Int) = ((s.size i : Nat) : Int) := by
  rw [sizeI, if_pos (show inR s (i : Int) from ⟨by omega, by omega⟩)]; simp
theorem span_mk {s : ArrS} {d st n : Int} (h1 : 1 ≤ n) (h2 : 0 ≤ st) (h3 : st + n ≤ sizeI s d) (h4 : sizeI s d ≤ 1000000000) : block_Span s d st n = some (some (Dvc.span d st n), 0) := by
  unfold block_Span
  rw [if_neg (by omega), insideB (by omega)]
  simp only [Option.bind_some]
  rw [if_neg (by simp; omega)]
theorem span_size {s : ArrS} {d st n : Int} : (Dvc.span d st n).size s = some n := rfl
theorem span_rd {s : ArrS} {d st n k : Int} (hn : 0 ≤ n ∧ n ≤ 1000000000) (hs : 0 ≤ st ∧ st ≤ 1000000000) : (Dvc.span d st n).rd s k = some (if 0 ≤ k ∧ k < n then (rdV s d (st + k), rdC s d (st + k)) else (0, 1)) := by
  show dvc_span_Read _ _ _ _ _ = _
  unfold dvc_span_Read
  rw [inside1 (by omega)]; simp only [Option.bind_some]
  by_cases h : 0 ≤ k ∧ k < n
  · rw [if_neg (by simp [h]), grd_t (inI64_of (by omega)), if_pos h]
  · rw [if_pos (by simpa using h), if_neg h]
theorem span_wr {s : ArrS} {d st n k : Int} {v : UInt64} (hn : 0 ≤ n ∧ n ≤ 1000000000) (hs : 0 ≤ st ∧ st ≤ 1000000000) (hw : s.writes ≤ 1000000000) : (Dvc.span d st n).wr s k v = some (if 0 ≤ k ∧ k < n then (wrR s d (st + k), wrS s d (st + k) v) else (1, s)) := by
  show dvc_span_Write _ _ _ _ _ _ = _
  unfold dvc_span_Write
  rw [inside1 (by omega)]; simp only [Option.bind_some]
  by_cases h : 0 ≤ k ∧ k < n
  · rw [if_neg (by simp [h]), grd_t (inI64_of (by omega)), grd_t (inLen_of hw), if_pos h]
  · rw [if_pos (by simpa using h), if_neg h]
theorem span_fl {s : ArrS} {d st n : Int} (hw : s.writes ≤ 1000000000) : (Dvc.span d st n).fl s = some (flC s d, flS s d) := by
  show dvc_span_Flush s d st n = _
  unfold dvc_span_Flush
  rw [grd_t (inLen_of hw)]
theorem inside_t {n k m : Int} (hn : n ≤ 1000000000) (h : 0 ≤ k ∧ 0 ≤ m ∧ k + m ≤ n) : block_inside n k m = some true := by
  rw [insideB (by omega)]; exact congrArg some (decide_eq_true (by omega))
end Go.Proofs
set_option linter.unusedSimpArgs false
set_option linter.unusedVariables false
set_option maxRecDepth 20000
set_option maxHeartbeats 4000000
namespace Go.Proofs
open Go.VG
def block_ReadAll_l1_b (x_0 : Dvc) (at_1 : Int) (n_2 : Int) (s : ArrS) (rec : Nat → (List UInt64) → Option (((List UInt64)) ⊕ ((List UInt64) × Int))) (x14 : Nat) (x15 : List UInt64) : Option (((List UInt64)) ⊕ ((List UInt64) × Int)) :=
  if (((x14 : Nat) : Int) < n_2) then
    grd (inI64 ((at_1 + ((x14 : Nat) : Int)))) <|
    Option.bind (Dvc.rd x_0 s ((at_1 + ((x14 : Nat) : Int)))) fun r19 =>
    if (r19.2 ≠ (0 : Int)) then
      some (.inr ([], r19.2))
    else
      grd (inLen (x15.length + 1)) <|
      grd (inN64 (x14 + 1)) <|
      rec (x14 + 1) (x15 ++ [r19.1])
  else
    some (.inl x15)
def block_ReadAll_l1 (x_0 : Dvc) (at_1 : Int) (n_2 : Int) (s : ArrS) : Nat → Nat → (List UInt64) → Option (((List UInt64)) ⊕ ((List UInt64) × Int))
  | 0, _, _ => none
  | n + 1, x14, x15 => block_ReadAll_l1_b x_0 at_1 n_2 s (block_ReadAll_l1 x_0 at_1 n_2 s n) x14 x15
def block_ReadAll (x_0 : Dvc) (at_1 : Int) (n_2 : Int) (s : ArrS) : Option ((List UInt64) × Int) :=
  Option.bind (Dvc.size x_0 s) fun r2 =>
  Option.bind (block_inside r2 at_1 n_2) fun r4 =>
  if (¬ r4 = true) then
    some (([], (1 : Int)))
  else
    seqO (block_ReadAll_l1 x_0 at_1 n_2 s FUEL 0 ([])) fun a13 =>
    some ((a13, (0 : Int)))
theorem L_block_ReadAll {W : World} {vx_0 : IfH} {bs : Nat} {x_0 : Dvc} {at_1 : Int} {n_2 : Int} {s : ArrS} {r : (List UInt64) × Int} (h : block_ReadAll x_0 at_1 n_2 s = some r) :
    CSpec Try.prog W 77 [IfH.v vx_0, .int .i64 at_1, .int .i64 n_2] [DevP bs x_0 vx_0, Arr bs s] (fun x : Sl3 => .tuple #[x.v, .int .i64 r.2]) (fun _ => True) (fun x F => DevP bs x_0 vx_0 :: Arr bs s :: sl tyU x.v r.1 :: F) := by
 refine CSpec.of_body Try.func77 rfl Try.ntmps77 rfl fun F => ?_
 show CJ _ _ _ _ _ _ (_ :: _ :: F)
 unfold block_ReadAll at h
 refine sR <| oA rfl rfl <| oA rfl rfl <| nT <| CJ_seq <| sR <| oM rfl rfl <| RJ_pure (fun h hh => DevP_dep h (stars_perm (del0 (A := DevP bs x_0 vx_0)).out h hh)) fun hdp1 => ?_
 obtain ⟨r2, hr3, h⟩ := bind_e h
 refine oO <| O_callI rfl (dev_Size hr3 hdp1) rfl (Dels.cons del0 (Dels.cons del0 Dels.nil)) rfl fun _ _ => oM rfl rfl <| oM rfl rfl ?_
 obtain ⟨r4, hr5, h⟩ := bind_e h
 refine oO <| O_call (L_block_inside hr5) rfl Try.call75 Dels.nil rfl fun _ _ => oP (P_not rfl) rfl <| nT <| CJ_condP rfl (bT_not Iff.rfl) (fun hg1 => ?_) (fun hg1 => ?_)
 ·
  replace h := ite_t hg1 h
  refine sR <| oA rfl rfl <| oA rfl rfl <| nT <| CJ_ret <| QJ_then_ret <| QJ_ent (fun h hh => sl_nil (t := tyU) h hh) ?_
  cases h
  exact fE (res2 Try.results77 rfl rfl) ⟨none, 0, 0⟩ (t1_ (t1_ eR))
 ·
  replace h := ite_f hg1 h
  refine kT <| sR <| oA rfl rfl <| nT <| CJ_seq <| sR <| oM rfl rfl <| oM rfl rfl <| nT <| CJ_ent (fun h hh => sl_nil (t := tyU) h hh) ?_
  obtain ⟨y10, hl8, hK9⟩ := seq_e h
  refine CJ_cutT (X := (List UInt64) × Sl3) [6, 7, 8, 9, 10, 11, 19, 20, 21, 22, 23, 24, 25, 26, 27, 28, 29, 30, 31, 32, 33, 34, 35, 36, 37] (fun ⟨a13, hd12⟩ => ([(8, hd12.v)] : Slots)) (fun ⟨a13, hd12⟩ R => sl tyU hd12.v a13 :: R) (fun ⟨a13, hd12⟩ => y10 = .inl a13) (Dels.cons del0 Dels.nil) ?_ ?_
  ·
   refine CJ_block <| CJ_loopR (X := Nat × Nat × (List UInt64) × Sl3) [6, 7, 8, 9, 10, 11, 19, 20, 21, 22, 23, 24, 25, 26, 27, 28, 29, 30, 31, 32, 33, 34, 35, 36, 37] (fun ⟨n, x14, x15, hd16⟩ => ([(8, hd16.v), (19, .int .i64 (((x14 : Nat) : Int)))] : Slots)) (fun ⟨n, x14, x15, hd16⟩ R => sl tyU hd16.v x15 :: R) (fun ⟨n, x14, x15, hd16⟩ => block_ReadAll_l1 x_0 at_1 n_2 s n x14 x15 = some y10) (fun ⟨n, x14, x15, hd16⟩ => n) ⟨FUEL, 0, [], ⟨none, 0, 0⟩⟩ ?_ ?_ eR ?_
   · exact hl8
   · exact ⟨rfl, rfl, True.intro⟩
   ·
    rintro ⟨n, x14, x15, hd16⟩ h
    cases n with
    | zero => exact none_e h
    | succ n => ?_
    replace h : block_ReadAll_l1_b x_0 at_1 n_2 s (block_ReadAll_l1 x_0 at_1 n_2 s n) x14 x15 = some y10 := h
    unfold block_ReadAll_l1_b at h
    show CJ _ _ _ _ _ (([(8, hd16.v), (19, .int .i64 (((x14 : Nat) : Int)))] : Slots) ++ forget _ _) (sl tyU hd16.v x15 :: _)
    refine lC del0 fun hlen17 => sR <| oP (P_lss (a := ((x14 : Nat) : Int)) (b := n_2) rfl rfl) rfl <| nT <| CJ_seq <| CJ_condP rfl bT_dec (fun hg2 => ?_) (fun hg2 => ?_)
    ·
     replace h := ite_t hg2 h
     refine kT <| CJ_seq <| CJ_block <| sR <| oM rfl rfl <| oA rfl rfl <| nT <| sR <| oM rfl rfl <| oM rfl rfl <| oM rfl rfl ?_
     obtain ⟨hg3, h⟩ := grd_Ie h
     refine oP (P_add (a := at_1) (b := ((x14 : Nat) : Int)) rfl rfl hg3) rfl <| RJ_pure (fun h hh => DevP_dep h (stars_perm (del1 (A := DevP bs x_0 vx_0)).out h hh)) fun hdp18 => ?_
     obtain ⟨r19, hr20, h⟩ := bind_e h
     refine oO <| O_callI rfl (dev_Read hr20 hdp18) rfl (Dels.cons del1 (Dels.cons del1 Dels.nil)) rfl fun _ _ => oM rfl rfl <| oP (P_extract rfl rfl) rfl <| oP (P_extract rfl rfl) rfl <| oA rfl rfl <| oA rfl rfl <| nT <| CJ_seq <| sR <| oM rfl rfl <| oP (P_neq (a := r19.2) (b := (0 : Int)) rfl rfl) rfl <| nT <| CJ_condP rfl bT_dec (fun hg4 => ?_) (fun hg4 => ?_)
     ·
      replace h := ite_t hg4 h
      refine sR <| oM rfl rfl <| oA rfl rfl <| oA rfl rfl <| nT <| CJ_ret <| QJ_then_ret <| QJ_block_ret <| QJ_then_ret <| QJ_round_ret <| QJ_block_ret <| QJ_then_ret <| QJ_ent (fun h hh => sl_nil (t := tyU) h hh) ?_
      have hE := Option.some.inj h
      replace hE := seq_inr hK9 hE.symm
      subst hE
      exact fE (res2 Try.results77 rfl rfl) ⟨none, 0, 0⟩ (t1_ (t1_ (t0_ (eD eR))))
     ·
      replace h := ite_f hg4 h
      refine kT <| CJ_region <| oM rfl rfl <| oM rfl rfl <| oO <| O_buildSlice rfl (bs_27_1_0 _) rfl fun b22 => ?_
      obtain ⟨hg5, h⟩ := grd_Le h
      refine oO <| O_append (t := tyU) (bytes := 8) rfl rfl del3 foc0 (Reads.lit (t := tyU) (ys := [r19.1]) rfl rfl (by decide) (by decide) rfl) Try.underlying27 ok_tyU (apl (m := 1) (b := 8) hg5 (by decide)).1 (apl (m := 1) (b := 8) hg5 (by decide)).2 rfl fun p24 c25 => oA rfl rfl <| RJ_nil <| QJ_block_normal <| QJ_then <| CJ_region ?_
      obtain ⟨hg6, h⟩ := grd_Ne h
      exact oP (PJ_eq (P_add (a := ((x14 : Nat) : Int)) (b := (1 : Int)) rfl rfl (nat_in hg6)) rfl) rfl <| oM rfl rfl <| RJ_nil <| nR ⟨n, (x14 + 1), (x15 ++ [r19.1]), ⟨p24, (x15 ++ [r19.1]).length, c25⟩⟩ h ⟨rfl, rfl, True.intro⟩ (t0_ (t1_ (t1_ (eD eR))))
    ·
     replace h := ite_f hg2 h
     exact CJ_exit <| QJ_then_exit <| QJ_round_exit <| QJ_block_here <| cR ⟨x15, hd16⟩ (Option.some.inj h).symm ⟨rfl, True.intro⟩ eR
  ·
   rintro ⟨a13, hd12⟩ hy26
   replace h := seq_inl hK9 hy26
   show CJ _ _ _ _ _ (([(8, hd12.v)] : Slots) ++ forget _ _) (sl tyU hd12.v a13 :: _)
   refine lC del0 fun hlen27 => sR <| oM rfl rfl <| oA rfl rfl <| oA rfl rfl <| nT <| CJ_ret ?_
   cases h
   exact fE (res2 Try.results77 rfl rfl) hd12 (t1_ (t1_ eR))
def block_WriteAll_l1_b (x_0 : Dvc) (at_1 : Int) (l : List UInt64) (rec : ArrS → Nat → Option ((ArrS) ⊕ (Int × ArrS))) (x12 : ArrS) (x13 : Nat) : Option ((ArrS) ⊕ (Int × ArrS)) :=
  if (((x13 : Nat) : Int) < ((l.length : Nat) : Int)) then
    grd (inI64 ((at_1 + ((x13 : Nat) : Int)))) <|
    Option.bind (Dvc.wr x_0 x12 ((at_1 + ((x13 : Nat) : Int))) (l.getD x13 0)) fun r15 =>
    if (r15.1 ≠ (0 : Int)) then
      some (.inr (r15.1, r15.2))
    else
      rec r15.2 (x13 + 1)
  else
    some (.inl x12)
def block_WriteAll_l1 (x_0 : Dvc) (at_1 : Int) (l : List UInt64) : Nat → ArrS → Nat → Option ((ArrS) ⊕ (Int × ArrS))
  | 0, _, _ => none
  | n + 1, x12, x13 => block_WriteAll_l1_b x_0 at_1 l (block_WriteAll_l1 x_0 at_1 l n) x12 x13
def block_WriteAll (x_0 : Dvc) (at_1 : Int) (l : List UInt64) (s : ArrS) : Option (Int × ArrS) :=
  Option.bind (Dvc.size x_0 s) fun r3 =>
  Option.bind (block_inside r3 at_1 (((l.length : Nat) : Int))) fun r5 =>
  if (¬ r5 = true) then
    some (((1 : Int), s))
  else
    seqO (block_WriteAll_l1 x_0 at_1 l FUEL s 0) fun a11 =>
    some (((0 : Int), a11))
theorem L_block_WriteAll {W : World} {vx_0 : IfH} {Al : HP} {vl : Value} {bs : Nat} {x_0 : Dvc} {at_1 : Int} {l : List UInt64} {s : ArrS} {r : Int × ArrS} (rl : Reads Al tyU vl l) (h : block_WriteAll x_0 at_1 l s = some r) :
    CSpec Try.prog W 56 [IfH.v vx_0, .int .i64 at_1, vl] [DevP bs x_0 vx_0, Al, Arr bs s] (fun x : Unit => .int .i64 r.1) (fun _ => True) (fun x F => DevP bs x_0 vx_0 :: Al :: Arr bs r.2 :: F) := by
 refine CSpec.of_body Try.func56 rfl Try.ntmps56 rfl fun F => ?_
 show CJ _ _ _ _ _ _ (_ :: _ :: _ :: F)
 unfold block_WriteAll at h
 refine CJ_pure (len_of rl del1) fun hlen1 => sR <| oA rfl rfl <| nT <| CJ_seq <| sR <| oM rfl rfl <| RJ_pure (fun h hh => DevP_dep h (stars_perm (del0 (A := DevP bs x_0 vx_0)).out h hh)) fun hdp2 => ?_
 obtain ⟨r3, hr4, h⟩ := bind_e h
 refine oO <| O_callI rfl (dev_Size hr4 hdp2) rfl (Dels.cons del0 (Dels.cons del1 Dels.nil)) rfl fun _ _ => oM rfl rfl <| oM rfl rfl <| oV (V_len rfl foc2 rl Try.runUnderlying27) rfl ?_
 obtain ⟨r5, hr6, h⟩ := bind_e h
 refine oO <| O_call (L_block_inside hr6) rfl Try.call75 Dels.nil rfl fun _ _ => oP (P_not rfl) rfl <| nT <| CJ_condP rfl (bT_not Iff.rfl) (fun hg1 => ?_) (fun hg1 => ?_)
 ·
  replace h := ite_t hg1 h
  refine sR <| oA rfl rfl <| nT <| CJ_ret <| QJ_then_ret ?_
  cases h
  exact fE (res1 Try.results56 rfl) () (t0_ (t1_ eR))
 ·
  replace h := ite_f hg1 h
  refine kT <| CJ_seq <| sR <| oM rfl rfl <| oV (V_len rfl foc2 rl Try.runUnderlying27) rfl <| oM rfl rfl <| nT ?_
  obtain ⟨y9, hl7, hK8⟩ := seq_e h
  refine CJ_cutT (X := ArrS) [6, 7, 8, 9, 19, 20, 21, 22, 23, 24, 25, 26, 27, 28, 29, 30, 31, 32, 33] (fun a11 => ([] : Slots)) (fun a11 R => Arr bs a11 :: R) (fun a11 => y9 = .inl a11) (Dels.cons del1 Dels.nil) ?_ ?_
  ·
   refine CJ_block <| CJ_loopR (X := Nat × ArrS × Nat) [6, 7, 8, 9, 19, 20, 21, 22, 23, 24, 25, 26, 27, 28, 29, 30, 31, 32, 33] (fun ⟨n, x12, x13⟩ => ([(19, .int .i64 (((x13 : Nat) : Int)))] : Slots)) (fun ⟨n, x12, x13⟩ R => Arr bs x12 :: R) (fun ⟨n, x12, x13⟩ => block_WriteAll_l1 x_0 at_1 l n x12 x13 = some y9) (fun ⟨n, x12, x13⟩ => n) ⟨FUEL, s, 0⟩ ?_ ?_ (t1_ eR) ?_
   · exact hl7
   · exact ⟨rfl, True.intro⟩
   ·
    rintro ⟨n, x12, x13⟩ h
    cases n with
    | zero => exact none_e h
    | succ n => ?_
    replace h : block_WriteAll_l1_b x_0 at_1 l (block_WriteAll_l1 x_0 at_1 l n) x12 x13 = some y9 := h
    unfold block_WriteAll_l1_b at h
    show CJ _ _ _ _ _ (([(19, .int .i64 (((x13 : Nat) : Int)))] : Slots) ++ forget _ _) (Arr bs x12 :: _)
    refine sR <| oP (P_lss (a := ((x13 : Nat) : Int)) (b := ((l.length : Nat) : Int)) rfl rfl) rfl <| nT <| CJ_seq <| CJ_condP rfl bT_dec (fun hg2 => ?_) (fun hg2 => ?_)
    ·
     replace h := ite_t hg2 h
     refine kT <| CJ_seq <| CJ_block <| sR <| oM rfl rfl <| oV (V_index (i := x13) rfl rfl rfl (by omega) foc2 rl Try.runUnderlying27 Try.sizeOf33) rfl <| oV (V_loadE rfl rfl (by omega) foc2 rl rfl rfl Try.isAgg33) rfl <| oA rfl rfl <| oA rfl rfl <| nT <| sR <| oM rfl rfl <| oM rfl rfl <| oM rfl rfl ?_
     obtain ⟨hg3, h⟩ := grd_Ie h
     refine oP (P_add (a := at_1) (b := ((x13 : Nat) : Int)) rfl rfl hg3) rfl <| oM rfl rfl <| RJ_pure (fun h hh => DevP_dep h (stars_perm (del1 (A := DevP bs x_0 vx_0)).out h hh)) fun hdp14 => ?_
     obtain ⟨r15, hr16, h⟩ := bind_e h
     refine oO <| O_callI rfl (dev_Write hr16 hdp14) rfl (Dels.cons del1 (Dels.cons del0 Dels.nil)) rfl fun _ _ => oA rfl rfl <| nT <| sR <| oM rfl rfl <| oP (P_neq (a := r15.1) (b := (0 : Int)) rfl rfl) rfl <| nT <| CJ_condP rfl bT_dec (fun hg4 => ?_) (fun hg4 => ?_)
     ·
      replace h := ite_t hg4 h
      refine sR <| oM rfl rfl <| oA rfl rfl <| nT <| CJ_ret <| QJ_block_ret <| QJ_then_ret <| QJ_round_ret <| QJ_block_ret <| QJ_then_ret ?_
      have hE := Option.some.inj h
      replace hE := seq_inr hK8 hE.symm
      subst hE
      exact fE (res1 Try.results56 rfl) () (t0_ (t1_ eR))
     ·
      replace h := ite_f hg4 h
      exact CJ_skip <| QJ_block_normal <| QJ_then <| CJ_region <| oP (PJ_eq (P_add (a := ((x13 : Nat) : Int)) (b := (1 : Int)) rfl rfl (by omega)) rfl) rfl <| oM rfl rfl <| RJ_nil <| nR ⟨n, r15.2, (x13 + 1)⟩ h ⟨rfl, True.intro⟩ (t1_ eR)
    ·
     replace h := ite_f hg2 h
     exact CJ_exit <| QJ_then_exit <| QJ_round_exit <| QJ_block_here <| cR x12 (Option.some.inj h).symm True.intro eR
  ·
   rintro a11 hy17
   replace h := seq_inl hK8 hy17
   show CJ _ _ _ _ _ (([] : Slots) ++ forget _ _) (Arr bs a11 :: _)
   refine sR <| oA rfl rfl <| nT <| CJ_ret ?_
   cases h
   exact fE (res1 Try.results56 rfl) () (t1_ (t1_ eR))
end Go.Proofs
set_option linter.unusedSimpArgs false
set_option linter.unusedVariables false
set_option maxRecDepth 20000
set_option maxHeartbeats 4000000
namespace Go.Proofs
open Go.VG
theorem bs_27_0 : BuildsSlice Try.prog 27 0 [] 33 [] := fun w => by kernel_rfl
theorem c_Clone_82_0 {W : World} {A : HP} {v : Sl3} {xs : List (UInt64)} (hA : Reads A tyU v.v xs) (hl : xs.length ≤ 1000000000) :
    CSpec Try.prog W 82 [v.v] [A] (fun x : Sl3 => x.v) (fun _ => True) (fun x F => sl tyU x.v xs :: A :: F) := by
 refine CSpec.of_body Try.func82 rfl Try.ntmps82 rfl fun F => ?_
 show CJ _ _ _ _ _ _ (_ :: F)
 have hll := hl
 refine CJ_seq <| CJ_region <| RJ_op rfl <| OJ_P (P_assign rfl) rfl <| RJ_nil <| QJ_then <| CJ_seq <| CJ_seq <| CJ_region <| RJ_op rfl <| OJ_P (P_move rfl) rfl <| RJ_op rfl <| OJ_P (P_eqlSN rfl rfl Try.underlying27) rfl <| RJ_nil <| QJ_then ?_
 first | (refine CJ_condD rfl (fun hg1 => ?_) (fun hg1 => ?_)) | (refine CJ_condN rfl (fun hg1 => ?_) (fun hg1 => ?_)) | (refine CJ_cond rfl (fun hg1 => ?_) (fun hg1 => ?_))
 ·
  refine CJ_seq <| CJ_region <| RJ_op rfl <| OJ_P (P_assign rfl) rfl <| RJ_nil <| QJ_then <| CJ_ret <| QJ_then_ret <| QJ_end (res1 Try.results82 rfl) ?_
  obtain ⟨vp, vn, vc⟩ := v
  obtain rfl : vp = none := by simpa using hg1
  refine fun w hs => ?_
  obtain rfl := reads_none hA _ hs.heap.choose_spec
  revert w hs
  show ∀ w, St W w _ → _
  refine CSpec.close ⟨none, 0, 0⟩ ?_ ?_ (Ent.trans (fun h hh => sl_nil (t := tyU) h hh) eR)
  · rfl
  · trivial
 ·
  refine CJ_skip <| QJ_then <| CJ_seq <| CJ_region <| RJ_op rfl <| O_buildSlice rfl (bs_27_0) rfl fun b1 => RJ_ent (Ent.trans (t0_ eR) (sl_of_lit (t := tyU) (m := 0) [] rfl rfl rfl (by decide))) <| oM rfl rfl <| oO <| O_append (t := tyU) (bytes := 8) rfl rfl del0 foc0 hA Try.underlying27 ok_tyU (apl (m := xs.length) (b := 8) (by simpa using hll) (by decide)).1 (apl (m := xs.length) (b := 8) (by simpa using hll) (by decide)).2 rfl fun p2 c3 => oO <| OJ_P (P_assign rfl) rfl <| RJ_nil <| QJ_then <| CJ_ret <| QJ_end (res1 Try.results82 rfl) <| CSpec.close ⟨p2, _, c3⟩ ?_ ?_ (t0_ (t0_ eR))
  · rfl
  · trivial
theorem c_Clone_82 {W : World} {A : HP} {v : Value} {xs : List (UInt64)} (hA : Reads A tyU v xs) (hl : xs.length ≤ 1000000000) :
    CSpec Try.prog W 82 [v] [A] (fun x : Sl3 => x.v) (fun _ => True) (fun x F => sl tyU x.v xs :: A :: F) := by
  intro F w hs
  obtain ⟨h, hh⟩ := hs.heap
  obtain ⟨h1, h2, _, _, hh1, _⟩ := hh
  obtain ⟨x, rfl⟩ := reads_slice hA hh1
  exact c_Clone_82_0 hA hl F w hs
def pack_Bit (l : List UInt64) (n_1 : Int) : Option (Bool × Int) :=
  if ((n_1 < (0 : Int)) ∨ (((l.length : Nat) : Int) ≤ (IntKind.i64.wrap (n_1.tdiv (64 : Int))))) then
    some ((false, (1 : Int)))
  else
    grd (decide (0 ≤ (IntKind.i64.wrap (n_1.tdiv (64 : Int))) ∧ (IntKind.i64.wrap (n_1.tdiv (64 : Int))) < (l.length : Int))) <|
    lt ((shr_u64 ((l.getD (((IntKind.i64.wrap (n_1.tdiv (64 : Int)))).toNat) 0)) (((n_1 % (64 : Int))).toNat))) fun w12 =>
    some (((decide ((w12 &&& (1 : UInt64)) = (1 : UInt64))), (0 : Int)))
theorem L_pack_Bit {W : World} {Al : HP} {vl : Value} {l : List UInt64} {n_1 : Int} {r : Bool × Int} (rl : Reads Al tyU vl l) (h : pack_Bit l n_1 = some r) :
    CSpec Try.prog W 81 [vl, .int .i64 n_1] [Al] (fun x : Unit => .tuple #[.bool r.1, .int .i64 r.2]) (fun _ => True) (fun x F => Al :: F) := by
 refine CSpec.of_body Try.func81 rfl Try.ntmps81 rfl fun F => ?_
 show CJ _ _ _ _ _ _ (_ :: F)
 unfold pack_Bit at h
 refine CJ_pure (len_of rl del0) fun hlen1 => sR <| oA rfl rfl <| oA rfl rfl <| nT <| CJ_seq <| sR <| oM rfl rfl <| oP (P_lss (a := n_1) (b := (0 : Int)) rfl rfl) rfl <| oM rfl rfl <| RJ_mbF rfl rfl rfl (fun hG2 => have hP3 : ¬ (n_1 < (0 : Int)) := nP (bT_dec) hG2; VJ_P (P_move rfl)) <| RJ_mbF rfl rfl rfl (fun hG4 => have hP5 : ¬ (n_1 < (0 : Int)) := nP (bT_dec) hG4; VJ_P (P_quoT (a := n_1) (b := (64 : Int)) (mbx hG4 rfl) rfl (by decide))) <| RJ_mbF rfl rfl rfl (fun hG6 => have hP7 : ¬ (n_1 < (0 : Int)) := nP (bT_dec) hG6; VJ_P (P_move rfl)) <| RJ_mbF rfl rfl rfl (fun hG8 => have hP9 : ¬ (n_1 < (0 : Int)) := nP (bT_dec) hG8; V_len (mbx hG8 rfl) foc0 rl Try.runUnderlying27) <| RJ_mbF rfl rfl rfl (fun hG10 => have hP11 : ¬ (n_1 < (0 : Int)) := nP (bT_dec) hG10; VJ_P (P_geq (a := (IntKind.i64.wrap (n_1.tdiv (64 : Int)))) (b := ((l.length : Nat) : Int)) (mbx hG10 rfl) (mbx hG10 rfl))) <| oP (P_pickOr rfl rfl (fun hh => mbx (not_f hh) rfl)) rfl <| nT <| CJ_condP rfl (bT_or bT_dec bT_dec) (fun hg1 => ?_) (fun hg1 => ?_)
 ·
  replace h := ite_t hg1 h
  refine sR <| oA rfl rfl <| oA rfl rfl <| nT <| CJ_ret <| QJ_then_ret ?_
  cases h
  exact fE (res2 Try.results81 rfl rfl) () eR
 ·
  replace h := ite_f hg1 h
  refine kT <| sR <| oM rfl rfl <| oM rfl rfl <| oP (P_quoT (a := n_1) (b := (64 : Int)) rfl rfl (by decide)) rfl ?_
  obtain ⟨hg2, h⟩ := grd_de h
  refine oV (V_index (i := ((IntKind.i64.wrap (n_1.tdiv (64 : Int)))).toNat) rfl rfl (Int.toNat_of_nonneg (hg2.1)).symm (by omega) foc0 rl Try.runUnderlying27 Try.sizeOf33) rfl <| oV (V_loadE rfl rfl (by omega) foc0 rl rfl rfl Try.isAgg33) rfl <| oM rfl rfl <| oP (P_rem (a := n_1) (b := (64 : Int)) rfl rfl (by omega)) rfl <| oP (P_shr_u64 (a := (l.getD (((IntKind.i64.wrap (n_1.tdiv (64 : Int)))).toNat) 0)) (m := ((n_1 % (64 : Int))).toNat) rfl rfl (Int.toNat_of_nonneg (by omega)).symm) rfl ?_
  obtain ⟨w12, hw12, h⟩ := lt_e h
  rw [← hw12]
  refine oP (P_and_u64 (a := w12) (b := (1 : UInt64)) rfl rfl) rfl <| oP (P_eq_u64 (a := (w12 &&& (1 : UInt64))) (b := (1 : UInt64)) rfl rfl) rfl <| oA rfl rfl <| oA rfl rfl <| nT <| CJ_ret ?_
  cases h
  exact fE (res2 Try.results81 rfl rfl) () eR
def pack_SetBit (l : List UInt64) (n_1 : Int) (is : Bool) : Option ((List UInt64) × Int) :=
  if ((n_1 < (0 : Int)) ∨ (((l.length : Nat) : Int) ≤ (IntKind.i64.wrap (n_1.tdiv (64 : Int))))) then
    some (([], (1 : Int)))
  else
    grd (inLen l.length) <|
    if is = true then
      grd (decide (0 ≤ (IntKind.i64.wrap (n_1.tdiv (64 : Int))) ∧ (IntKind.i64.wrap (n_1.tdiv (64 : Int))) < (l.length : Int))) <|
      lt (((l.getD (((IntKind.i64.wrap (n_1.tdiv (64 : Int)))).toNat) 0) ||| (shl_u64 (1 : UInt64) (((n_1 % (64 : Int))).toNat)))) fun w16 =>
      grd (decide (0 ≤ (IntKind.i64.wrap (n_1.tdiv (64 : Int))) ∧ (IntKind.i64.wrap (n_1.tdiv (64 : Int))) < (l.length : Int))) <|
      some (((l.set (((IntKind.i64.wrap (n_1.tdiv (64 : Int)))).toNat) w16), (0 : Int)))
    else
      grd (decide (0 ≤ (IntKind.i64.wrap (n_1.tdiv (64 : Int))) ∧ (IntKind.i64.wrap (n_1.tdiv (64 : Int))) < (l.length : Int))) <|
      lt (((l.getD (((IntKind.i64.wrap (n_1.tdiv (64 : Int)))).toNat) 0) &&& ~~~(shl_u64 (1 : UInt64) (((n_1 % (64 : Int))).toNat)))) fun w17 =>
      grd (decide (0 ≤ (IntKind.i64.wrap (n_1.tdiv (64 : Int))) ∧ (IntKind.i64.wrap (n_1.tdiv (64 : Int))) < (l.length : Int))) <|
      some (((l.set (((IntKind.i64.wrap (n_1.tdiv (64 : Int)))).toNat) w17), (0 : Int)))
theorem L_pack_SetBit {W : World} {Al : HP} {vl : Value} {l : List UInt64} {n_1 : Int} {is : Bool} {r : (List UInt64) × Int} (rl : Reads Al tyU vl l) (h : pack_SetBit l n_1 is = some r) :
    CSpec Try.prog W 79 [vl, .int .i64 n_1, .bool is] [Al] (fun x : Sl3 => .tuple #[x.v, .int .i64 r.2]) (fun _ => True) (fun x F => Al :: sl tyU x.v r.1 :: F) := by
 refine CSpec.of_body Try.func79 rfl Try.ntmps79 rfl fun F => ?_
 show CJ _ _ _ _ _ _ (_ :: F)
 unfold pack_SetBit at h
 refine CJ_pure (len_of rl del0) fun hlen1 => sR <| oA rfl rfl <| oA rfl rfl <| nT <| CJ_seq <| sR <| oM rfl rfl <| oP (P_lss (a := n_1) (b := (0 : Int)) rfl rfl) rfl <| oM rfl rfl <| RJ_mbF rfl rfl rfl (fun hG2 => have hP3 : ¬ (n_1 < (0 : Int)) := nP (bT_dec) hG2; VJ_P (P_move rfl)) <| RJ_mbF rfl rfl rfl (fun hG4 => have hP5 : ¬ (n_1 < (0 : Int)) := nP (bT_dec) hG4; VJ_P (P_quoT (a := n_1) (b := (64 : Int)) (mbx hG4 rfl) rfl (by decide))) <| RJ_mbF rfl rfl rfl (fun hG6 => have hP7 : ¬ (n_1 < (0 : Int)) := nP (bT_dec) hG6; VJ_P (P_move rfl)) <| RJ_mbF rfl rfl rfl (fun hG8 => have hP9 : ¬ (n_1 < (0 : Int)) := nP (bT_dec) hG8; V_len (mbx hG8 rfl) foc0 rl Try.runUnderlying27) <| RJ_mbF rfl rfl rfl (fun hG10 => have hP11 : ¬ (n_1 < (0 : Int)) := nP (bT_dec) hG10; VJ_P (P_geq (a := (IntKind.i64.wrap (n_1.tdiv (64 : Int)))) (b := ((l.length : Nat) : Int)) (mbx hG10 rfl) (mbx hG10 rfl))) <| oP (P_pickOr rfl rfl (fun hh => mbx (not_f hh) rfl)) rfl <| nT <| CJ_condP rfl (bT_or bT_dec bT_dec) (fun hg1 => ?_) (fun hg1 => ?_)
 ·
  replace h := ite_t hg1 h
  refine sR <| oA rfl rfl <| oA rfl rfl <| nT <| CJ_ret <| QJ_then_ret <| QJ_ent (fun h hh => sl_nil (t := tyU) h hh) ?_
  cases h
  exact fE (res2 Try.results79 rfl rfl) ⟨none, 0, 0⟩ (t1_ eR)
 ·
  replace h := ite_f hg1 h
  refine kT <| sR <| oM rfl rfl ?_
  obtain ⟨hg2, h⟩ := grd_Le h
  refine oO <| O_call (c_Clone_82 rl hg2) rfl Try.call82 (Dels.cons del0 Dels.nil) rfl fun X13 _ => RJ_pure (len_of (Reads.sl _ _ _) del0) fun hlen15 => oA rfl rfl <| nT <| CJ_seq <| sR <| oM rfl rfl <| nT <| CJ_condP rfl Iff.rfl (fun hg3 => ?_) (fun hg3 => ?_)
  ·
   replace h := ite_t hg3 h
   refine AJ_startH 1024 (by kernel_rfl) rfl <| aN 0 1 rfl rfl (P_move rfl) rfl <| aN 1 3 rfl rfl (P_move rfl) rfl <| aN 2 7 rfl rfl (P_quoT (a := n_1) (b := (64 : Int)) rfl rfl (by decide)) rfl ?_
   obtain ⟨hg4, h⟩ := grd_de h
   refine aV 3 15 rfl rfl (GY_none rfl) eR (V_index (i := ((IntKind.i64.wrap (n_1.tdiv (64 : Int)))).toNat) rfl rfl (Int.toNat_of_nonneg (hg4.1)).symm (by omega) foc0 (Reads.sl _ _ _) Try.runUnderlying27 Try.sizeOf33) rfl <| aV 4 31 rfl rfl (GY_none rfl) eR (V_loadE rfl rfl (by omega) foc0 (Reads.sl _ _ _) rfl rfl Try.isAgg33) rfl <| aN 5 63 rfl rfl (P_move rfl) rfl <| aN 6 127 rfl rfl (P_rem (a := n_1) (b := (64 : Int)) rfl rfl (by omega)) rfl <| aN 7 255 rfl rfl (P_shl_u64 (a := (1 : UInt64)) (m := ((n_1 % (64 : Int))).toNat) rfl rfl (Int.toNat_of_nonneg (by omega)).symm) rfl <| aN 8 511 rfl rfl (P_or_u64 (a := (l.getD (((IntKind.i64.wrap (n_1.tdiv (64 : Int)))).toNat) 0)) (b := (shl_u64 (1 : UInt64) (((n_1 % (64 : Int))).toNat))) rfl rfl) rfl ?_
   obtain ⟨w16, hw16, h⟩ := lt_e h
   rw [← hw16]
   obtain ⟨hg5, h⟩ := grd_de h
   refine aV 9 1023 rfl rfl (GY_none rfl) eR (V_index (i := ((IntKind.i64.wrap (n_1.tdiv (64 : Int)))).toNat) rfl rfl (Int.toNat_of_nonneg (hg5.1)).symm (by omega) foc0 (Reads.sl _ _ _) Try.runUnderlying27 Try.sizeOf33) rfl <| AJ_op 10 2047 rfl (by kernel_rfl) rfl (GY_none rfl) <| O_storeE (x' := w16) rfl rfl rfl (by omega) foc0 rfl rfl rfl Try.sizeOf33 <| ⟨fun h => absurd h (by decide), ?_⟩
   refine aD <| sR <| oM rfl rfl <| oA rfl rfl <| oA rfl rfl <| nT <| CJ_ret ?_
   cases h
   exact fE (res2 Try.results79 rfl rfl) X13 (t1_ eR)
  ·
   replace h := ite_f hg3 h
   refine AJ_startH 1024 (by kernel_rfl) rfl <| aN 0 1 rfl rfl (P_move rfl) rfl <| aN 1 3 rfl rfl (P_move rfl) rfl <| aN 2 7 rfl rfl (P_quoT (a := n_1) (b := (64 : Int)) rfl rfl (by decide)) rfl ?_
   obtain ⟨hg6, h⟩ := grd_de h
   refine aV 3 15 rfl rfl (GY_none rfl) eR (V_index (i := ((IntKind.i64.wrap (n_1.tdiv (64 : Int)))).toNat) rfl rfl (Int.toNat_of_nonneg (hg6.1)).symm (by omega) foc0 (Reads.sl _ _ _) Try.runUnderlying27 Try.sizeOf33) rfl <| aV 4 31 rfl rfl (GY_none rfl) eR (V_loadE rfl rfl (by omega) foc0 (Reads.sl _ _ _) rfl rfl Try.isAgg33) rfl <| aN 5 63 rfl rfl (P_move rfl) rfl <| aN 6 127 rfl rfl (P_rem (a := n_1) (b := (64 : Int)) rfl rfl (by omega)) rfl <| aN 7 255 rfl rfl (P_shl_u64 (a := (1 : UInt64)) (m := ((n_1 % (64 : Int))).toNat) rfl rfl (Int.toNat_of_nonneg (by omega)).symm) rfl <| aN 8 511 rfl rfl (P_andNot_u64 (a := (l.getD (((IntKind.i64.wrap (n_1.tdiv (64 : Int)))).toNat) 0)) (b := (shl_u64 (1 : UInt64) (((n_1 % (64 : Int))).toNat))) rfl rfl) rfl ?_
   obtain ⟨w17, hw17, h⟩ := lt_e h
   rw [← hw17]
   obtain ⟨hg7, h⟩ := grd_de h
   refine aV 9 1023 rfl rfl (GY_none rfl) eR (V_index (i := ((IntKind.i64.wrap (n_1.tdiv (64 : Int)))).toNat) rfl rfl (Int.toNat_of_nonneg (hg7.1)).symm (by omega) foc0 (Reads.sl _ _ _) Try.runUnderlying27 Try.sizeOf33) rfl <| AJ_op 10 2047 rfl (by kernel_rfl) rfl (GY_none rfl) <| O_storeE (x' := w17) rfl rfl rfl (by omega) foc0 rfl rfl rfl Try.sizeOf33 <| ⟨fun h => absurd h (by decide), ?_⟩
   refine aD <| sR <| oM rfl rfl <| oA rfl rfl <| oA rfl rfl <| nT <| CJ_ret ?_
   cases h
   exact fE (res2 Try.results79 rfl rfl) X13 (t1_ eR)
end Go.Proofs
namespace Go.Proofs
open Go.VG
def tb (a : UInt64) (k : Nat) : Bool := a.toNat.testBit k
theorem tb_ext {a b : UInt64} (h : ∀ k, tb a k = tb b k) : a = b := UInt64.toNat_inj.1 (Nat.eq_of_testBit_eq h)
theorem tb_and {a b : UInt64} {k : Nat} : tb (a &&& b) k = (tb a k && tb b k) := by unfold tb; rw [UInt64.toNat_and, Nat.testBit_and]
theorem shr_toNat {a : UInt64} {m : Nat} (hm : m < 64) : (shr_u64 a m).toNat = a.toNat / 2 ^ m := by
  unfold shr_u64
  rw [show min m 64 = m by omega, UInt64.toNat_ofNat', Nat.mod_eq_of_lt (Nat.lt_of_le_of_lt (Nat.div_le_self _ _) a.toNat_lt)]
theorem tb_shr {a : UInt64} {m k : Nat} (hm : m < 64) : tb (shr_u64 a m) k = tb a (m + k) := by
  unfold tb; rw [shr_toNat hm, Nat.testBit_div_two_pow, Nat.add_comm]
theorem tb_one {k : Nat} : tb 1 k = decide (k = 0) := by
  unfold tb
  show Nat.testBit 1 k = _
  cases k with
  | zero => rfl
  | succ k => rw [Nat.testBit_succ]; simp
theorem bit_iff {a : UInt64} {m : Nat} (hm : m < 64) : (shr_u64 a m) &&& 1 = 1 ↔ tb a m = true := by
  constructor
  · intro h
    have := congrArg (fun x => tb x 0) h
    simp only [tb_and, tb_shr hm, tb_one, Nat.add_zero] at this
    simpa using this
  · intro h
    apply tb_ext
    intro k
    rw [tb_and, tb_shr hm, tb_one]
    by_cases hk : k = 0
    · subst hk; simpa using h
    · simp [hk]
def bitR (l : List UInt64) (r : Nat) : Bool := tb (l.getD (r / 64) 0) (r % 64)
theorem div64 {r : Nat} (hr : r ≤ 1000000000000) : IntKind.i64.wrap ((r : Int).tdiv (64 : Int)) = ((r / 64 : Nat) : Int) := by
  have : (r : Int).tdiv (64 : Int) = ((r / 64 : Nat) : Int) := (Int.ofNat_tdiv r 64).symm
  rw [this]; exact wrap64_in (by omega) (by omega)
theorem mod64 {r : Nat} : ((r : Int) % (64 : Int)).toNat = r % 64 := by omega
theorem packBit {l : List UInt64} {r : Nat} (h : r / 64 < l.length) (hr : r ≤ 1000000000000) : pack_Bit l (r : Int) = some (bitR l r, 0) := by
  unfold pack_Bit
  rw [div64 hr, if_neg (by omega), grd_t (decide_eq_true ⟨by omega, by omega⟩), mod64, Int.toNat_natCast]
  simp only [lt]
  congr 2
  unfold bitR
  by_cases hb : tb (l.getD (r / 64) 0) (r % 64) = true
  · rw [hb]; exact decide_eq_true ((bit_iff (Nat.mod_lt _ (by decide))).2 hb)
  · rw [Bool.not_eq_true] at hb
    rw [hb]; exact decide_eq_false (fun e => by rw [(bit_iff (Nat.mod_lt _ (by decide))).1 e] at hb; cases hb)
end Go.Proofs
namespace Go.Proofs
open Go.VG
def nowL (s : ArrS) (d : Nat) : List UInt64 := (s.drv.getD d d0).now
theorem size_nowL {s : ArrS} {d : Nat} : s.size d = (nowL s d).length := rfl
structure Good (s : ArrS) : Prop where
  down : s.down = false
  fuse : s.fuse = 0
  bad : s.bad = []
  miss : ∀ d, (s.drv.getD d d0).miss = false
theorem good_mkS {ims : List (List UInt64)} : Good (mkS ims) where
  down := rfl
  fuse := rfl
  bad := rfl
  miss d := by
    simp only [mkS, List.getD, List.getElem?_map]
    cases ims[d]? <;> rfl
theorem nowL_mkS {ims : List (List UInt64)} {d : Nat} : nowL (mkS ims) d = ims.getD d [] := by
  simp only [nowL, mkS, List.getD, List.getElem?_map]
  cases ims[d]? <;> rfl
@[simp] theorem drv_mkS {ims : List (List UInt64)} : (mkS ims).drv.length = ims.length := by simp [mkS]
theorem Good.chk {s : ArrS} (hg : Good s) {d a : Nat} (hd : d < s.drv.length) (ha : a < s.size d) : cPow s = 0 ∧ cLoc s d = 0 ∧ cPla s d a = 0 ∧ cPre s d = 0 ∧ cWho s d a = 0 := by
  refine ⟨by simp [cPow, hg.down], ?_, ?_, by simp only [cPre, missI, Int.toNat_natCast, hg.miss d]; rfl, by simp [cWho, isBad, hg.bad, lookM]⟩
  · rw [cLoc, if_pos (show inR s (d : Int) from ⟨by omega, by omega⟩)]
  · rw [cPla, sizeI_of hd, if_pos (by omega)]
theorem Good.rdC {s : ArrS} (hg : Good s) {d a : Nat} (hd : d < s.drv.length) (ha : a < s.size d) : rdC s d a = 0 := by
  obtain ⟨h1, h2, h3, h4, h5⟩ := hg.chk hd ha
  simp [Go.Proofs.rdC, fz, h1, h2, h3, h4, h5]
theorem Good.rdV {s : ArrS} (hg : Good s) {d a : Nat} (hd : d < s.drv.length) (ha : a < s.size d) : rdV s d a = (nowL s d).getD a 0 := by
  rw [Go.Proofs.rdV, if_pos (hg.rdC hd ha)]; rfl
def wr1 (s : ArrS) (d a : Nat) (v : UInt64) : ArrS := { s with drv := setNow s d a v, log := s.log ++ [⟨d, a, v⟩], writes := s.writes + 1 }
theorem Good.wr {s : ArrS} (hg : Good s) {d a : Nat} {v : UInt64} (hd : d < s.drv.length) (ha : a < s.size d) : wrR s d a = 0 ∧ wrS s d a v = wr1 s d a v := by
  obtain ⟨h1, h2, h3, h4, h5⟩ := hg.chk hd ha
  have hc : wrC s d a = 0 := by simp [wrC, fz, h1, h2, h3, h4]
  refine ⟨by rw [wrR, if_neg (by simp [hc]), if_neg (by rw [hg.fuse]; decide)], ?_⟩
  rw [wrS, if_neg (by simp [hc]), if_neg (by rw [hg.fuse]; decide)]
  have hdel : delM ([] : List ((Int × Int) × Unit)) ((d : Int), (a : Int)) = [] := rfl
  simp only [wr1, Int.toNat_natCast, hg.bad, hg.fuse, hdel]
theorem nowL_wr1 {s : ArrS} {d a e : Nat} {v : UInt64} (hd : d < s.drv.length) : nowL (wr1 s d a v) e = if e = d then (nowL s d).set a v else nowL s e := by
  unfold nowL wr1 setNow
  simp only [List.getD, List.getElem?_set]
  by_cases h : d = e
  · subst h; simp [hd]
  · rw [if_neg h, if_neg (fun x => h x.symm)]
@[simp] theorem drv_wr1 {s : ArrS} {d a : Nat} {v : UInt64} : (wr1 s d a v).drv.length = s.drv.length := by simp [wr1, setNow]
@[simp] theorem writes_wr1 {s : ArrS} {d a : Nat} {v : UInt64} : (wr1 s d a v).writes = s.writes + 1 := rfl
theorem size_wr1 {s : ArrS} {d a e : Nat} {v : UInt64} (hd : d < s.drv.length) : (wr1 s d a v).size e = s.size e := by
  rw [size_nowL, size_nowL, nowL_wr1 hd]; split
  · rename_i h; rw [List.length_set, h]
  · rfl
theorem Good.wr1 {s : ArrS} (hg : Good s) {d a : Nat} {v : UInt64} : Good (wr1 s d a v) where
  down := hg.down
  fuse := hg.fuse
  bad := hg.bad
  miss e := by
    have h0 := hg.miss e
    simp only [Go.Proofs.wr1, setNow, List.getD, List.getElem?_set] at h0 ⊢
    by_cases h : d = e
    · subst h
      by_cases hl : d < s.drv.length
      · have h1 := hg.miss d
        simp [hl, List.getD] at h1 ⊢
        exact h1
      · simp [hl]
    · rw [if_neg h]; exact h0
end Go.Proofs
namespace Go.Proofs
open Go.VG
theorem Good.span_rd {s : ArrS} (hg : Good s) {d st n k : Nat} (hd : d < s.drv.length) (hk : k < n) (hn : st + n ≤ s.size d) (hb : s.size d ≤ 1000000000) : (Dvc.span (d : Int) (st : Int) (n : Int)).rd s (k : Int) = some ((nowL s d).getD (st + k) 0, 0) := by
  rw [Go.Proofs.span_rd (by omega) (by omega), if_pos (by omega)]
  have e : (st : Int) + (k : Int) = ((st + k : Nat) : Int) := by omega
  rw [e, hg.rdC hd (by omega), hg.rdV hd (by omega)]
theorem Good.span_wr {s : ArrS} (hg : Good s) {d st n k : Nat} {v : UInt64} (hd : d < s.drv.length) (hk : k < n) (hn : st + n ≤ s.size d) (hb : s.size d ≤ 1000000000) (hw : s.writes ≤ 1000000000) : (Dvc.span (d : Int) (st : Int) (n : Int)).wr s (k : Int) v = some (0, Go.Proofs.wr1 s d (st + k) v) := by
  rw [Go.Proofs.span_wr (by omega) (by omega) hw, if_pos (by omega)]
  have e : (st : Int) + (k : Int) = ((st + k : Nat) : Int) := by omega
  rw [e, (hg.wr (v := v) hd (by omega)).1, (hg.wr hd (by omega)).2]
def wrN (s : ArrS) (d a : Nat) (f : Nat → UInt64) : Nat → ArrS
  | 0 => s
  | n + 1 => wr1 (wrN s d a f n) d (a + n) (f n)
theorem Good.wrN {s : ArrS} (hg : Good s) {d a : Nat} {f : Nat → UInt64} : ∀ n, Good (wrN s d a f n)
  | 0 => hg
  | n + 1 => (Good.wrN hg n).wr1
@[simp] theorem drv_wrN {s : ArrS} {d a : Nat} {f : Nat → UInt64} : ∀ {n}, (wrN s d a f n).drv.length = s.drv.length
  | 0 => rfl
  | n + 1 => by rw [wrN, drv_wr1, drv_wrN]
@[simp] theorem writes_wrN {s : ArrS} {d a : Nat} {f : Nat → UInt64} : ∀ {n}, (wrN s d a f n).writes = s.writes + n
  | 0 => rfl
  | n + 1 => by rw [wrN, writes_wr1, writes_wrN]; omega
theorem getD_set_ne {l : List UInt64} {i j : Nat} {v : UInt64} (h : i ≠ j) : (l.set i v).getD j 0 = l.getD j 0 := by
  simp [List.getD, List.getElem?_set, h]
theorem getD_set_eq {l : List UInt64} {i : Nat} {v : UInt64} (h : i < l.length) : (l.set i v).getD i 0 = v := by
  simp [List.getD, List.getElem?_set, h]
end Go.Proofs
namespace Go.Proofs
open Go.VG
def durL (s : ArrS) (d : Nat) : List UInt64 := (s.drv.getD d d0).dur
def pendR (log : List Rec) (d a : Nat) : List UInt64 := (log.filter fun r => decide (r.d = d ∧ r.a = a)).map Rec.v
abbrev pend (s : ArrS) (d a : Nat) : List UInt64 := pendR s.log d a
def now (s : ArrS) (d a : Nat) : UInt64 := (nowL s d).getD a 0
def dur (s : ArrS) (d a : Nat) : UInt64 := (durL s d).getD a 0
abbrev cand (s : ArrS) (d a : Nat) : List UInt64 := dur s d a :: pend s d a
theorem pendR_nil {d a : Nat} : pendR [] d a = [] := rfl
theorem pendR_append {l l' : List Rec} {d a : Nat} : pendR (l ++ l') d a = pendR l d a ++ pendR l' d a := by simp [pendR]
theorem pendR_one {r : Rec} {d a : Nat} : pendR [r] d a = if r.d = d ∧ r.a = a then [r.v] else [] := by
  by_cases h : r.d = d ∧ r.a = a
  · simp [pendR, h]
  · simp [pendR, h]
theorem pendR_cons {r : Rec} {l : List Rec} {d a : Nat} : pendR (r :: l) d a = if r.d = d ∧ r.a = a then r.v :: pendR l d a else pendR l d a := by
  rw [show r :: l = [r] ++ l from rfl, pendR_append, pendR_one]; split <;> rfl
theorem pendR_others {l : List Rec} {d e a : Nat} : pendR (others e l) d a = if d = e then [] else pendR l d a := by
  unfold pendR others
  rw [List.filter_filter]
  by_cases h : d = e
  · subst h
    rw [if_pos rfl, List.filter_eq_nil_iff.2]; · rfl
    intro r _ hr; simp at hr; exact hr.2 hr.1.1
  · rw [if_neg h]
    congr 1; apply List.filter_congr; intro r _
    by_cases h2 : r.d = d ∧ r.a = a
    · simp [h2, h]
    · simp [h2]
def lastD : UInt64 → List UInt64 → UInt64
  | d, [] => d
  | _, x :: l => lastD x l
theorem lastD_snoc {v : UInt64} : ∀ {l : List UInt64} {d : UInt64}, lastD d (l ++ [v]) = v
  | [], _ => rfl
  | x :: l, _ => lastD_snoc (l := l) (d := x)
theorem lastD_mem : ∀ {l : List UInt64} {d : UInt64}, lastD d l ∈ d :: l
  | [], _ => List.mem_cons_self
  | x :: l, _ => List.mem_cons_of_mem _ (lastD_mem (l := l) (d := x))
structure Coh (s : ArrS) : Prop where
  len : ∀ d, (durL s d).length = (nowL s d).length
  last : ∀ d a, a < s.size d → lastD (dur s d a) (pend s d a) = now s d a
  log : ∀ r ∈ s.log, r.d < s.drv.length ∧ r.a < s.size r.d
theorem coh_mkS {ims : List (List UInt64)} : Coh (mkS ims) where
  len d := by simp only [durL, nowL, mkS, List.getD, List.getElem?_map]; cases ims[d]? <;> rfl
  last d a _ := by
    show dur (mkS ims) d a = _
    simp only [dur, now, durL, nowL, mkS, List.getD, List.getElem?_map]
    cases ims[d]? <;> rfl
  log r h := by cases h
theorem getD_set {l : List UInt64} {i j : Nat} {v : UInt64} (h : i < l.length) : (l.set i v).getD j 0 = if j = i then v else l.getD j 0 := by
  by_cases e : j = i
  · subst e; rw [if_pos rfl, getD_set_eq h]
  · rw [if_neg e, getD_set_ne (fun x => e x.symm)]
theorem drv_set {l : List Drive} {i j : Nat} {x : Drive} (h : i < l.length) : (l.set i x).getD j d0 = if j = i then x else l.getD j d0 := by
  simp only [List.getD, List.getElem?_set]
  by_cases e : i = j
  · subst e; simp [h]
  · rw [if_neg e, if_neg (fun x => e x.symm)]
section
variable {s : ArrS} {d a : Nat} {v : UInt64}
theorem durL_wr1 {e : Nat} (hd : d < s.drv.length) : durL (wr1 s d a v) e = durL s e := by
  unfold durL wr1 setNow
  rw [drv_set hd]; split
  · rename_i h; subst h; rfl
  · rfl
theorem pend_wr1 {e b : Nat} : pend (wr1 s d a v) e b = if d = e ∧ a = b then pend s e b ++ [v] else pend s e b := by
  show pendR (s.log ++ [⟨d, a, v⟩]) e b = _
  rw [pendR_append, pendR_one]; split <;> simp_all
theorem now_wr1 {e b : Nat} (hd : d < s.drv.length) (ha : a < s.size d) : now (wr1 s d a v) e b = if d = e ∧ a = b then v else now s e b := by
  unfold now
  rw [nowL_wr1 hd]
  by_cases h : e = d
  · subst h; rw [if_pos rfl, getD_set (show a < (nowL s e).length from ha)]
    by_cases h2 : b = a
    · subst h2; simp
    · rw [if_neg h2, if_neg (fun x => h2 x.2.symm)]
  · rw [if_neg h, if_neg (fun x => h x.1.symm)]
theorem dur_wr1 {e b : Nat} (hd : d < s.drv.length) : dur (wr1 s d a v) e b = dur s e b := by unfold dur; rw [durL_wr1 hd]
theorem Coh.wr1 (hc : Coh s) (hd : d < s.drv.length) (ha : a < s.size d) : Coh (wr1 s d a v) where
  len e := by rw [durL_wr1 hd, nowL_wr1 hd]; split
              · rename_i h; subst h; rw [List.length_set]; exact hc.len _
              · exact hc.len e
  last e b hb := by
    rw [size_wr1 hd] at hb
    have h1 := hc.last e b hb
    rw [dur_wr1 hd, pend_wr1, now_wr1 hd ha]
    by_cases h : d = e ∧ a = b
    · rw [if_pos h, if_pos h, lastD_snoc]
    · rw [if_neg h, if_neg h]; exact h1
  log r hr := by
    rw [drv_wr1, size_wr1 hd]
    rcases List.mem_append.1 (show r ∈ s.log ++ [⟨d, a, v⟩] from hr) with h | h
    · exact hc.log r h
    · rw [List.mem_singleton.1 h]; exact ⟨hd, ha⟩
end
def fl1 (s : ArrS) (d : Nat) : ArrS := { s with drv := s.drv.set d { s.drv.getD d d0 with dur := flDur (s.drv.getD d d0).now d s.log (s.drv.getD d d0).dur }, log := others d s.log }
theorem flDur_at {nw : List UInt64} {i a : Nat} : ∀ {log : List Rec} {du : List UInt64}, a < du.length → (flDur nw i log du).getD a 0 = if pendR log i a = [] then du.getD a 0 else nw.getD a 0
  | [], du, _ => by rw [pendR_nil, if_pos rfl]; rfl
  | r :: log, du, h => by
    show (flDur nw i log (if r.d = i then du.set r.a (nw.getD r.a 0) else du)).getD a 0 = _
    rw [flDur_at (by split <;> simpa using h), pendR_cons]
    by_cases hr : r.d = i
    · rw [if_pos hr]
      by_cases ha : r.a = a
      · rw [show (if r.d = i ∧ r.a = a then r.v :: pendR log i a else pendR log i a) = r.v :: pendR log i a from if_pos ⟨hr, ha⟩, if_neg (show ¬ r.v :: pendR log i a = [] by simp)]
        subst ha
        split
        · rw [getD_set_eq h]
        · rfl
      · rw [show (if r.d = i ∧ r.a = a then r.v :: pendR log i a else pendR log i a) = pendR log i a from if_neg (fun x => ha x.2), getD_set_ne ha]
    · rw [if_neg hr, show (if r.d = i ∧ r.a = a then r.v :: pendR log i a else pendR log i a) = pendR log i a from if_neg (fun x => hr x.1)]
section
variable {s : ArrS} {d : Nat}
@[simp] theorem drv_fl1 : (fl1 s d).drv.length = s.drv.length := by simp [fl1]
theorem nowL_fl1 {e : Nat} (hd : d < s.drv.length) : nowL (fl1 s d) e = nowL s e := by
  unfold nowL fl1
  rw [drv_set hd]; split
  · rename_i h; subst h; rfl
  · rfl
theorem size_fl1 {e : Nat} (hd : d < s.drv.length) : (fl1 s d).size e = s.size e := by rw [size_nowL, size_nowL, nowL_fl1 hd]
theorem pend_fl1 {e b : Nat} : pend (fl1 s d) e b = if e = d then [] else pend s e b := pendR_others
theorem dur_fl1 {e b : Nat} (hc : Coh s) (hd : d < s.drv.length) (hb : b < s.size e) : dur (fl1 s d) e b = if e = d then now s e b else dur s e b := by
  unfold dur durL fl1
  rw [drv_set hd]
  by_cases h : e = d
  · subst h
    rw [if_pos rfl, if_pos rfl]
    have hl := hc.last e b hb
    rw [flDur_at (by have := hc.len e; unfold durL at this; rw [this]; exact hb)]
    by_cases hp : pendR s.log e b = []
    · rw [if_pos hp]
      have : pend s e b = [] := hp
      rw [this] at hl
      exact hl
    · rw [if_neg hp]; rfl
  · rw [if_neg h, if_neg h]
theorem now_fl1 {e b : Nat} (hd : d < s.drv.length) : now (fl1 s d) e b = now s e b := by unfold now; rw [nowL_fl1 hd]
theorem Coh.fl1 (hc : Coh s) (hd : d < s.drv.length) : Coh (fl1 s d) where
  len e := by
    rw [nowL_fl1 hd]
    unfold durL Go.Proofs.fl1
    rw [drv_set hd]; split
    · rename_i h; subst h; rw [flDur_len]; exact hc.len _
    · exact hc.len e
  last e b hb := by
    rw [size_fl1 hd] at hb
    have h1 := hc.last e b hb
    rw [dur_fl1 hc hd hb, pend_fl1, now_fl1 hd]
    by_cases h : e = d
    · rw [if_pos h, if_pos h]; rfl
    · rw [if_neg h, if_neg h]; exact h1
  log r hr := by
    rw [drv_fl1, size_fl1 hd]
    exact hc.log r (List.mem_filter.1 (show r ∈ others d s.log from hr)).1
theorem miss_fl1 {e : Nat} (hd : d < s.drv.length) : ((fl1 s d).drv.getD e d0).miss = (s.drv.getD e d0).miss := by
  unfold fl1
  rw [drv_set hd]; split
  · rename_i h; subst h; rfl
  · rfl
theorem Good.fl1 (hg : Good s) (hd : d < s.drv.length) : Good (fl1 s d) where
  down := hg.down
  fuse := hg.fuse
  bad := hg.bad
  miss e := by rw [miss_fl1 hd]; exact hg.miss e
theorem flC_of (hdn : s.down = false) (hd : d < s.drv.length) : flC s d = if (s.drv.getD d d0).miss then 6 else 0 := by
  have h1 : cPow s = 0 := by simp [cPow, hdn]
  have h2 : cLoc s d = 0 := by rw [cLoc, if_pos (show inR s (d : Int) from ⟨by omega, by omega⟩)]
  simp only [flC, fz, h1, h2, cPre, missI, Int.toNat_natCast]
  by_cases hm : (s.drv.getD d d0).miss = true
  · simp [hm]
  · simp [hm]
theorem flS_of (h : flC s d = 0) : flS s d = fl1 s d := flS_ok h
end
theorem rsGo_dur {ks : List Bool} {d a : Nat} : ∀ {log : List Rec} {n : Nat} {ds : List Drive}, d < ds.length → a < (ds.getD d d0).dur.length →
    (((rsGo ks n log ds).getD d d0).dur.getD a 0) ∈ ((ds.getD d d0).dur.getD a 0) :: pendR log d a
  | [], _, _, _, _ => List.mem_cons_self
  | r :: log, n, ds, hd, ha => by
    show ((rsGo ks (n + 1) log (if ks.getD n false = true then putD ds r else ds)).getD d d0).dur.getD a 0 ∈ _
    have hk := putD_keep ds r d
    by_cases h : ks.getD n false = true
    · rw [if_pos h]
      have := rsGo_dur (ks := ks) (d := d) (a := a) (log := log) (n := n + 1) (ds := putD ds r) (by rw [hk.1]; exact hd) (by rw [hk.2.2.1]; exact ha)
      rw [pendR_cons]
      by_cases hr : r.d = d
      · have e1 : (putD ds r).getD d d0 = { ds.getD d d0 with dur := (ds.getD d d0).dur.set r.a r.v } := by
          unfold putD; rw [drv_set (by omega), if_pos hr.symm, hr]
        rw [e1] at this
        by_cases hra : r.a = a
        · rw [if_pos ⟨hr, hra⟩]
          rw [hra, getD_set_eq ha] at this
          exact List.mem_cons_of_mem _ this
        · rw [if_neg (fun x => hra x.2)]
          rw [getD_set_ne hra] at this
          exact this
      · have e1 : (putD ds r).getD d d0 = ds.getD d d0 := by
          unfold putD
          by_cases hl : r.d < ds.length
          · rw [drv_set hl, if_neg (fun x => hr x.symm)]
          · rw [List.set_eq_of_length_le (by omega)]
        rw [e1] at this
        rw [if_neg (fun x => hr x.1)]; exact this
    · rw [if_neg h, pendR_cons]
      have := rsGo_dur (ks := ks) (d := d) (a := a) (log := log) (n := n + 1) (ds := ds) hd ha
      split
      · rcases List.mem_cons.1 this with e | e
        · rw [e]; exact List.mem_cons_self
        · exact List.mem_cons_of_mem _ (List.mem_cons_of_mem _ e)
      · exact this
section
variable {s : ArrS} {ks : List Bool}
@[simp] theorem drv_rs : (rsS s ks).drv.length = s.drv.length := by simp [rsS, (rsGo_keep ks s.log 0 s.drv 0).1]
theorem nowL_rs {d : Nat} : nowL (rsS s ks) d = durL (rsS s ks) d := by unfold nowL durL; rw [rs_at]; rfl
theorem durL_rs_len {d : Nat} : (durL (rsS s ks) d).length = (durL s d).length := by
  unfold durL; rw [rs_at]; exact (rsGo_keep ks s.log 0 s.drv d).2.2.1
theorem size_rs {d : Nat} (hc : Coh s) : (rsS s ks).size d = s.size d := by rw [size_nowL, nowL_rs, durL_rs_len, hc.len]; rfl
theorem now_rs {d a : Nat} : now (rsS s ks) d a = dur (rsS s ks) d a := by unfold now dur; rw [nowL_rs]
theorem dur_rs {d a : Nat} (hc : Coh s) (hd : d < s.drv.length) (ha : a < s.size d) : dur (rsS s ks) d a ∈ cand s d a := by
  unfold dur durL; rw [rs_at]
  exact rsGo_dur hd (by have := hc.len d; unfold durL at this; rw [this]; exact ha)
theorem Coh.rs (hc : Coh s) : Coh (rsS s ks) where
  len d := by rw [nowL_rs]
  last d a _ := by show dur (rsS s ks) d a = _; rw [now_rs]
  log r h := by cases h
theorem miss_rs {d : Nat} : ((rsS s ks).drv.getD d d0).miss = (s.drv.getD d d0).miss := by rw [rs_at]; exact (rsGo_keep ks s.log 0 s.drv d).2.2.2
end
end Go.Proofs
namespace Go.Proofs
open Go.VG
structure InSz (ns : List Nat) (s : ArrS) : Prop where
  cnt : s.drv.length = ns.length
  size : ∀ d, d < ns.length → s.size d = ns.getD d 0
  wr : s.writes ≤ 1000000000
theorem flS_drv {s : ArrS} {d : Nat} : (flS s d).drv.length = s.drv.length := by unfold flS; split <;> simp
theorem flS_writes {s : ArrS} {d : Int} : (flS s d).writes = s.writes := by unfold flS; split <;> rfl
theorem flS_size {s : ArrS} {d e : Nat} : (flS s d).size e = s.size e := by
  unfold flS; split
  · rfl
  · rename_i h
    have hd : d < s.drv.length := by
      rcases Nat.lt_or_ge d s.drv.length with h' | h'
      · exact h'
      · exfalso; apply h
        have : cLoc s (d : Int) = 1 := by rw [cLoc, if_neg (fun x : inR s (d : Int) => by have := x.2; omega)]
        intro h0
        have h1 := h0
        unfold flC fz at h1
        by_cases hp : cPow s = 0
        · simp [hp, fz, this] at h1
        · simp [hp] at h1
    exact size_fl1 (s := s) hd
theorem InSz.flS {ns : List Nat} {s : ArrS} (h : InSz ns s) (d : Nat) : InSz ns (flS s d) := ⟨by rw [flS_drv]; exact h.cnt, fun e he => by rw [flS_size]; exact h.size e he, by rw [flS_writes]; exact h.wr⟩
def flsS : ArrS → List Nat → ArrS
  | s, [] => s
  | s, d :: ds => flsS (flS s d) ds
def flsC : ArrS → List Nat → Int
  | _, [] => 0
  | s, d :: ds => if flC s d = 0 then flsC (flS s d) ds else flC s d
theorem InSz.flsS {ns : List Nat} : ∀ {ds : List Nat} {s : ArrS}, InSz ns s → InSz ns (flsS s ds)
  | [], _, h => h
  | d :: ds, s, h => show InSz ns (Go.Proofs.flsS (Go.Proofs.flS s d) ds) from InSz.flsS (h.flS d)
structure MapD (ns : List Nat) (x : Dvc) (n : Nat) (f : Nat → Nat × Nat) (ds : List Nat) : Prop where
  small : n ≤ 1000000000
  at_ : ∀ k, k < n → (f k).1 < ns.length ∧ (f k).2 < ns.getD (f k).1 0 ∧ (f k).1 ∈ ds
  size : ∀ s, InSz ns s → x.size s = some (n : Int)
  rd : ∀ s (k : Nat), InSz ns s → k < n → x.rd s (k : Int) = some (rdV s (f k).1 (f k).2, rdC s (f k).1 (f k).2)
  rdo : ∀ s (k : Int), InSz ns s → ¬ (0 ≤ k ∧ k < n) → x.rd s k = some (0, 1)
  wr : ∀ s (k : Nat) v, InSz ns s → k < n → x.wr s (k : Int) v = some (wrR s (f k).1 (f k).2, wrS s (f k).1 (f k).2 v)
  wro : ∀ s (k : Int) v, InSz ns s → ¬ (0 ≤ k ∧ k < n) → x.wr s k v = some (1, s)
  fl : ∀ s, InSz ns s → x.fl s = some (flsC s ds, flsS s ds)
theorem MapD.span {ns : List Nat} {d st n : Nat} (hd : d < ns.length) (hn : st + n ≤ ns.getD d 0) (hb : ns.getD d 0 ≤ 1000000000) : MapD ns (Dvc.span (d : Int) (st : Int) (n : Int)) n (fun k => (d, st + k)) [d] where
  small := by omega
  at_ k hk := ⟨hd, by show st + k < ns.getD d 0; omega, List.mem_singleton.2 rfl⟩
  size s h := rfl
  rd s k h hk := by
    rw [span_rd (by omega) (by omega), if_pos (by omega)]
    have e : (st : Int) + (k : Int) = ((st + k : Nat) : Int) := by omega
    rw [e]
  rdo s k h hk := by rw [span_rd (by omega) (by omega), if_neg hk]
  wr s k v h hk := by
    rw [span_wr (by omega) (by omega) h.wr, if_pos (by omega)]
    have e : (st : Int) + (k : Int) = ((st + k : Nat) : Int) := by omega
    rw [e]
  wro s k v h hk := by rw [span_wr (by omega) (by omega) h.wr, if_neg hk]
  fl s h := by
    rw [span_fl h.wr]
    show _ = some ((if flC s d = 0 then (0 : Int) else flC s d), flS s d)
    by_cases e : flC s d = 0
    · rw [if_pos e, e]
    · rw [if_neg e]
end Go.Proofs
namespace Go.Proofs
open Go.VG
def miss (s : ArrS) (d : Nat) : Bool := (s.drv.getD d d0).miss
structure Flushed (s : ArrS) (ds : List Nat) (t : ArrS) : Prop where
  drv : t.drv.length = s.drv.length
  now : ∀ d, nowL t d = nowL s d
  dur : ∀ d a, a < s.size d → dur t d a = if d ∈ ds ∧ miss s d = false then Go.Proofs.now s d a else Go.Proofs.dur s d a
  pend : ∀ d a, pend t d a = if d ∈ ds ∧ miss s d = false then [] else Go.Proofs.pend s d a
  miss : ∀ d, miss t d = Go.Proofs.miss s d
  down : t.down = s.down
  fuse : t.fuse = s.fuse
  bad : t.bad = s.bad
  wr : t.writes = s.writes
  coh : Coh t
theorem Flushed.none {s : ArrS} (h : Coh s) : Flushed s [] s where
  drv := rfl
  now _ := rfl
  dur _ _ _ := by simp
  pend _ _ := by simp
  miss _ := rfl
  down := rfl
  fuse := rfl
  bad := rfl
  wr := rfl
  coh := h
theorem flC_miss {s : ArrS} {d : Nat} (hdn : s.down = false) (hd : d < s.drv.length) : flC s d = if miss s d then 6 else 0 := flC_of hdn hd
theorem flS_miss {s : ArrS} {d : Nat} (hdn : s.down = false) (hd : d < s.drv.length) : flS s d = if miss s d then s else fl1 s d := by
  have h := flC_miss hdn hd
  by_cases hm : miss s d = true
  · rw [if_pos hm] at h; rw [if_pos hm]
    unfold flS; rw [if_pos (by rw [h]; decide)]
  · rw [if_neg hm] at h; rw [if_neg hm]; exact flS_of h
theorem flushed : ∀ {ds : List Nat} {s : ArrS}, Coh s → s.down = false → (∀ d ∈ ds, d < s.drv.length) → Flushed s ds (flsS s ds) ∧ flsC s ds = if ds.any (fun d => miss s d) then 6 else 0
  | [], s, hc, _, _ => ⟨Flushed.none hc, rfl⟩
  | d :: ds, s, hc, hdn, hds => by
    have hd := hds d List.mem_cons_self
    have hC := flC_miss hdn hd
    have hS := flS_miss hdn hd
    show Flushed s (d :: ds) (flsS (flS s d) ds) ∧ (if flC s d = 0 then flsC (flS s d) ds else flC s d) = _
    by_cases hm : miss s d = true
    · rw [if_pos hm] at hC hS
      rw [hS, hC]
      obtain ⟨h1, -⟩ := flushed (ds := ds) hc hdn (fun e he => hds e (List.mem_cons_of_mem _ he))
      refine ⟨{ h1 with dur := fun e a ha => ?_, pend := fun e a => ?_ }, by simp [hm]⟩
      · rw [h1.dur e a ha]
        by_cases he : e = d
        · subst he; rw [if_neg (by simp [hm]), if_neg (by simp [hm])]
        · simp [he]
      · rw [h1.pend e a]
        by_cases he : e = d
        · subst he; rw [if_neg (by simp [hm]), if_neg (by simp [hm])]
        · simp [he]
    · have hm' : miss s d = false := by simpa using hm
      rw [if_neg hm] at hC hS
      rw [hS, hC]
      have hmm : ∀ e, miss (fl1 s d) e = miss s e := fun e => miss_fl1 hd
      obtain ⟨h1, h2⟩ := flushed (ds := ds) (s := fl1 s d) (hc.fl1 hd) hdn (fun e he => by rw [drv_fl1]; exact hds e (List.mem_cons_of_mem _ he))
      refine ⟨⟨by rw [h1.drv, drv_fl1], fun e => by rw [h1.now, nowL_fl1 hd], fun e a ha => ?_, fun e a => ?_, fun e => by rw [h1.miss, hmm], h1.down, h1.fuse, h1.bad, h1.wr, h1.coh⟩, ?_⟩
      · rw [h1.dur e a (by rw [size_fl1 hd]; exact ha), hmm, now_fl1 hd, dur_fl1 hc hd ha]
        by_cases he : e = d
        · subst he; simp [hm']
        · simp [he]
      · rw [h1.pend e a, hmm, pend_fl1]
        by_cases he : e = d
        · subst he; simp [hm']
        · simp [he]
      · rw [if_pos rfl, h2, List.any_cons, hm', Bool.false_or]
        congr 1
        simp only [hmm]
theorem Flushed.size {s t : ArrS} {ds : List Nat} (h : Flushed s ds t) {d : Nat} : t.size d = s.size d := by rw [size_nowL, size_nowL, h.now]
theorem Flushed.inSz {ns : List Nat} {s t : ArrS} {ds : List Nat} (h : Flushed s ds t) (hs : InSz ns s) : InSz ns t := ⟨by rw [h.drv]; exact hs.cnt, fun d hd => by rw [h.size]; exact hs.size d hd, by rw [h.wr]; exact hs.wr⟩
theorem Flushed.nowAt {s t : ArrS} {ds : List Nat} (h : Flushed s ds t) {d a : Nat} : Go.Proofs.now t d a = Go.Proofs.now s d a := by unfold Go.Proofs.now; rw [h.now]
structure Missed (s : ArrS) (p : Nat → Bool) (t : ArrS) : Prop where
  drv : t.drv.length = s.drv.length
  now : ∀ d, nowL t d = nowL s d
  dur : ∀ d, durL t d = durL s d
  log : t.log = s.log
  miss : ∀ d, d < s.drv.length → miss t d = p d
  down : t.down = s.down
  fuse : t.fuse = s.fuse
  bad : t.bad = s.bad
  wr : t.writes = s.writes
theorem Missed.coh {s t : ArrS} {p : Nat → Bool} (h : Missed s p t) (hc : Coh s) : Coh t where
  len d := by rw [h.now, h.dur]; exact hc.len d
  last d a ha := by
    have h1 := hc.last d a (by rw [size_nowL] at ha ⊢; rw [← h.now]; exact ha)
    unfold Go.Proofs.now Go.Proofs.dur pend at h1 ⊢
    rw [h.now, h.dur, h.log]; exact h1
  log r hr := by
    rw [h.log] at hr
    have := hc.log r hr
    rw [h.drv, size_nowL, h.now]; exact this
theorem Missed.size {s t : ArrS} {p : Nat → Bool} (h : Missed s p t) {d : Nat} : t.size d = s.size d := by rw [size_nowL, size_nowL, h.now]
theorem Missed.inSz {ns : List Nat} {s t : ArrS} {p : Nat → Bool} (h : Missed s p t) (hs : InSz ns s) : InSz ns t := ⟨by rw [h.drv]; exact hs.cnt, fun d hd => by rw [h.size]; exact hs.size d hd, by rw [h.wr]; exact hs.wr⟩
theorem Missed.self {s : ArrS} : Missed s (Go.Proofs.miss s) s := ⟨rfl, fun _ => rfl, fun _ => rfl, rfl, fun _ _ => rfl, rfl, rfl, rfl, rfl⟩
theorem smS_of {s : ArrS} {d : Nat} {b : Bool} (hd : d < s.drv.length) : smS s d b = { s with drv := s.drv.set d { s.drv.getD d d0 with miss := b } } := by
  rw [smS, if_pos (show inR s (d : Int) from ⟨by omega, by omega⟩)]; rfl
theorem Missed.set {s t : ArrS} {p : Nat → Bool} (h : Missed s p t) {d : Nat} {b : Bool} (hd : d < s.drv.length) : Missed s (fun e => if e = d then b else p e) (smS t d b) := by
  have hd' : d < t.drv.length := by rw [h.drv]; exact hd
  rw [smS_of hd']
  refine ⟨by simpa using h.drv, fun e => ?_, fun e => ?_, h.log, fun e he => ?_, h.down, h.fuse, h.bad, h.wr⟩
  · rw [← h.now]; unfold nowL; rw [drv_set hd']; split
    · rename_i x; subst x; rfl
    · rfl
  · rw [← h.dur]; unfold durL; rw [drv_set hd']; split
    · rename_i x; subst x; rfl
    · rfl
  · unfold Go.Proofs.miss; rw [drv_set hd']; split
    · rfl
    · exact h.miss e he
end Go.Proofs
namespace Go.Proofs
open Go.VG
structure ArrOk (ns : List Nat) (K : Nat) (s : ArrS) : Prop where
  sz : InSz ns s
  wr : s.writes ≤ K
  coh : Coh s
  bad : s.bad = []
section
variable {ns : List Nat} {K d a : Nat} {s : ArrS} {v : UInt64}
theorem ArrOk.mono {K' : Nat} (h : ArrOk ns K s) (hK : K ≤ K') : ArrOk ns K' s := { h with wr := Nat.le_trans h.wr hK }
theorem ArrOk.disk (h : ArrOk ns K s) (hd : d < ns.length) : d < s.drv.length := by rw [h.sz.cnt]; exact hd
theorem ArrOk.sect (h : ArrOk ns K s) (hd : d < ns.length) (ha : a < ns.getD d 0) : a < s.size d := by rw [h.sz.size d hd]; exact ha
theorem ArrOk.now_cand (h : ArrOk ns K s) (hd : d < ns.length) (ha : a < ns.getD d 0) : now s d a ∈ cand s d a := by
  rw [← h.coh.last d a (h.sect hd ha)]; exact lastD_mem
theorem ArrOk.chk (h : ArrOk ns K s) (hdn : s.down = false) (hd : d < ns.length) (ha : a < ns.getD d 0) : cPow s = 0 ∧ cLoc s d = 0 ∧ cPla s d a = 0 ∧ cPre s d = (if miss s d then 6 else 0) ∧ cWho s d a = 0 := by
  have hdd := h.disk hd
  have haa := h.sect hd ha
  refine ⟨by simp [cPow, hdn], ?_, ?_, ?_, by simp [cWho, isBad, h.bad, lookM]⟩
  · rw [cLoc, if_pos (show inR s (d : Int) from ⟨by omega, by omega⟩)]
  · rw [cPla, sizeI_of hdd, if_pos (by omega)]
  · simp only [cPre, missI, Int.toNat_natCast, miss]; by_cases hh : (s.drv.getD d d0).miss = true <;> simp [hh]
theorem ArrOk.rdA (h : ArrOk ns K s) (hdn : s.down = false) (hd : d < ns.length) (ha : a < ns.getD d 0) (hm : miss s d = false) : rdV s d a = now s d a ∧ rdC s d a = 0 := by
  obtain ⟨h1, h2, h3, h4, h5⟩ := h.chk hdn hd ha
  rw [hm] at h4
  have hC : rdC s d a = 0 := by simp [rdC, fz, h1, h2, h3, h4, h5]
  exact ⟨by rw [rdV, if_pos hC]; rfl, hC⟩
theorem ArrOk.rdM (h : ArrOk ns K s) (hdn : s.down = false) (hd : d < ns.length) (ha : a < ns.getD d 0) (hm : miss s d = true) : rdC s d a = 6 := by
  obtain ⟨h1, h2, h3, h4, h5⟩ := h.chk hdn hd ha
  rw [hm] at h4
  simp [rdC, fz, h1, h2, h3, h4]
structure Wrote (ns : List Nat) (K : Nat) (s : ArrS) (d a : Nat) (v : UInt64) (t : ArrS) : Prop where
  ok : ArrOk ns (K + 1) t
  dn : t.down = false
  fuse : t.fuse = s.fuse - 1
  miss : ∀ e, Go.Proofs.miss t e = Go.Proofs.miss s e
  now : ∀ e b, Go.Proofs.now t e b = if d = e ∧ a = b then v else Go.Proofs.now s e b
  cand : ∀ e b, Go.Proofs.cand t e b = if d = e ∧ a = b then Go.Proofs.cand s e b ++ [v] else Go.Proofs.cand s e b
structure Fell (ns : List Nat) (K : Nat) (s t : ArrS) : Prop where
  ok : ArrOk ns K t
  dn : t.down = true
  miss : ∀ e, Go.Proofs.miss t e = Go.Proofs.miss s e
  now : ∀ e b, Go.Proofs.now t e b = Go.Proofs.now s e b
  cand : ∀ e b, Go.Proofs.cand t e b = Go.Proofs.cand s e b
theorem ArrOk.wrA (h : ArrOk ns K s) (hK : K ≤ 1000000) (hdn : s.down = false) (hd : d < ns.length) (ha : a < ns.getD d 0) (hm : miss s d = false) :
    (s.fuse ≠ 1 ∧ wrR s d a = 0 ∧ Wrote ns K s d a v (wrS s d a v)) ∨ (s.fuse = 1 ∧ wrR s d a = 5 ∧ Fell ns K s (wrS s d a v)) := by
  obtain ⟨h1, h2, h3, h4, h5⟩ := h.chk hdn hd ha
  rw [hm] at h4
  have hdd := h.disk hd
  have haa := h.sect hd ha
  have hC : wrC s d a = 0 := by simp [wrC, fz, h1, h2, h3, h4]
  have hC' : ¬ wrC s d a ≠ 0 := fun x => x hC
  by_cases hf : s.fuse = 1
  · refine .inr ⟨hf, by rw [wrR, if_neg hC', if_pos hf], ?_⟩
    rw [wrS, if_neg hC', if_pos hf]
    exact ⟨⟨⟨h.sz.cnt, h.sz.size, h.sz.wr⟩, h.wr, ⟨h.coh.len, h.coh.last, h.coh.log⟩, h.bad⟩, rfl, fun _ => rfl, fun _ _ => rfl, fun _ _ => rfl⟩
  · refine .inl ⟨hf, by rw [wrR, if_neg hC', if_neg hf], ?_⟩
    rw [wrS, if_neg hC', if_neg hf]
    have hbad : delM s.bad ((d : Int), (a : Int)) = [] := by rw [h.bad]; rfl
    have hs' : ({ s with drv := setNow s (d : Int).toNat (a : Int).toNat v, bad := delM s.bad ((d : Int), (a : Int)), log := s.log ++ [⟨(d : Int).toNat, (a : Int).toNat, v⟩], fuse := s.fuse - 1, writes := s.writes + 1 } : ArrS) = { wr1 s d a v with bad := [], fuse := s.fuse - 1 } := by
      simp only [wr1, Int.toNat_natCast, hbad]
    rw [hs']
    have hcoh := h.coh.wr1 (v := v) hdd haa
    refine ⟨⟨⟨by show (wr1 s _ _ _).drv.length = _; rw [drv_wr1]; exact h.sz.cnt, fun e he => by show (wr1 s _ _ _).size e = _; rw [size_wr1 hdd]; exact h.sz.size e he, by show s.writes + 1 ≤ _; have := h.wr; omega⟩, by show s.writes + 1 ≤ _; have := h.wr; omega, ⟨hcoh.len, hcoh.last, hcoh.log⟩, rfl⟩, hdn, rfl, fun e => ?_, fun e b => now_wr1 hdd haa, fun e b => ?_⟩
    · show (((setNow s d a v).getD e d0)).miss = _
      unfold setNow Go.Proofs.miss; rw [drv_set hdd]; split
      · rename_i x; subst x; rfl
      · rfl
    · show dur (wr1 s d a v) e b :: pend (wr1 s d a v) e b = _
      rw [dur_wr1 hdd, pend_wr1]; split <;> rfl
structure Flushed1 (ns : List Nat) (K : Nat) (s : ArrS) (d : Nat) (t : ArrS) : Prop where
  ok : ArrOk ns K t
  dn : t.down = false
  fuse : t.fuse = s.fuse
  miss : ∀ e, Go.Proofs.miss t e = Go.Proofs.miss s e
  now : ∀ e b, Go.Proofs.now t e b = Go.Proofs.now s e b
  cand : ∀ e b, e < ns.length → b < ns.getD e 0 → Go.Proofs.cand t e b = if d = e then [Go.Proofs.now s e b] else Go.Proofs.cand s e b
theorem ArrOk.flA (h : ArrOk ns K s) (hdn : s.down = false) (hd : d < ns.length) (hm : miss s d = false) : flC s d = 0 ∧ Flushed1 ns K s d (flS s d) := by
  have hdd := h.disk hd
  obtain ⟨h1, h2⟩ := flushed (ds := [d]) h.coh hdn (fun e he => by rw [List.mem_singleton.1 he]; exact hdd)
  have hany : [d].any (fun d => Go.Proofs.miss s d) = false := by simp [hm]
  rw [hany] at h2
  have h3 : flC s d = 0 := by
    have h4 : (if flC s d = 0 then (0 : Int) else flC s d) = 0 := h2
    by_cases h5 : flC s d = 0
    · exact h5
    · rwa [if_neg h5] at h4
  have h6 : flsS s [d] = flS s d := rfl
  rw [h6] at h1
  refine ⟨h3, ⟨⟨h1.inSz h.sz, by rw [h1.wr]; exact h.wr, h1.coh, by rw [h1.bad]; exact h.bad⟩, by rw [h1.down]; exact hdn, h1.fuse, h1.miss, fun e b => h1.nowAt, fun e b he hb => ?_⟩⟩
  show Go.Proofs.dur _ _ _ :: Go.Proofs.pend _ _ _ = _
  rw [h1.dur _ _ (h.sect he hb), h1.pend]
  by_cases e1 : d = e
  · subst e1; rw [if_pos ⟨List.mem_singleton.2 rfl, hm⟩, if_pos ⟨List.mem_singleton.2 rfl, hm⟩, if_pos rfl]
  · rw [if_neg (fun x => e1 (List.mem_singleton.1 x.1).symm), if_neg (fun x => e1 (List.mem_singleton.1 x.1).symm), if_neg e1]
structure Restarted (ns : List Nat) (K : Nat) (s t : ArrS) : Prop where
  ok : ArrOk ns K t
  dn : t.down = false
  fuse : t.fuse = 0
  miss : ∀ e, Go.Proofs.miss t e = Go.Proofs.miss s e
  now : ∀ e b, e < ns.length → b < ns.getD e 0 → Go.Proofs.now t e b ∈ Go.Proofs.cand s e b
  cand : ∀ e b, Go.Proofs.cand t e b = [Go.Proofs.now t e b]
  unfl : t.log = []
theorem ArrOk.rs (h : ArrOk ns K s) (ks : List Bool) : Restarted ns K s (rsS s ks) where
  ok := ⟨⟨by rw [drv_rs]; exact h.sz.cnt, fun d hd => by rw [size_rs h.coh]; exact h.sz.size d hd, h.sz.wr⟩, h.wr, h.coh.rs, h.bad⟩
  dn := rfl
  fuse := rfl
  miss e := by unfold Go.Proofs.miss; rw [miss_rs]
  now e b he hb := by rw [now_rs]; exact dur_rs h.coh (h.disk he) (h.sect he hb)
  cand e b := by
    show [dur (rsS s ks) e b] = _
    rw [now_rs]
  unfl := rfl
theorem ArrOk.fuse (h : ArrOk ns K s) {m : Nat} : ArrOk ns K { s with fuse := m } := ⟨⟨h.sz.cnt, h.sz.size, h.sz.wr⟩, h.wr, ⟨h.coh.len, h.coh.last, h.coh.log⟩, h.bad⟩
end
end Go.Proofs
namespace Go.Proofs
open Go.VG
section
variable {x y : Dvc} {s : ArrS} {at_ : Int} {n : Nat}
theorem readAll_l1 {f : Nat → UInt64} (ha : 0 ≤ at_ ∧ at_ + n ≤ 1000000000) (hr : ∀ i, i < n → x.rd s (at_ + i) = some (f i, 0)) : ∀ (N i : Nat) (acc : List UInt64), n - i < N → i ≤ n → acc = (List.range i).map f →
    block_ReadAll_l1 x at_ (n : Int) s N i acc = some (.inl ((List.range n).map f))
  | 0, _, _, h, _, _ => absurd h (by omega)
  | N + 1, i, acc, h, hi, he => by
    show block_ReadAll_l1_b _ _ _ _ _ _ _ = _
    unfold block_ReadAll_l1_b
    subst he
    by_cases hlt : i < n
    · rw [if_pos (by omega), grd_t (inI64_of (by omega)), hr i hlt]
      simp only [Option.bind_some]
      rw [if_neg (by simp), grd_t (inLen_of (by simp; omega)), grd_t (inN64_of (by omega))]
      exact readAll_l1 ha hr N (i + 1) _ (by omega) (by omega) (by simp [List.range_succ])
    · rw [if_neg (by omega)]
      have : i = n := by omega
      rw [this]
theorem readAll_eq {m : Int} {f : Nat → UInt64} (hs : x.size s = some m) (hm : m ≤ 1000000000) (ha : 0 ≤ at_ ∧ at_ + n ≤ m) (hr : ∀ i, i < n → x.rd s (at_ + i) = some (f i, 0)) : block_ReadAll x at_ (n : Int) s = some ((List.range n).map f, 0) := by
  unfold block_ReadAll
  have hF := fuel_big
  generalize FUEL = N at hF ⊢
  rw [hs]; simp only [Option.bind_some]
  rw [inside_t hm (by omega)]; simp only [Option.bind_some]
  rw [if_neg (by simp), readAll_l1 (by omega) hr N 0 [] (by omega) (by omega) (by simp)]; rfl
theorem writeAll_l1 {l : List UInt64} {st : Nat → ArrS} (ha : 0 ≤ at_ ∧ at_ + l.length ≤ 1000000000) (hw : ∀ i, i < l.length → x.wr (st i) (at_ + i) (l.getD i 0) = some (0, st (i + 1))) : ∀ (N i : Nat), l.length - i < N → i ≤ l.length →
    block_WriteAll_l1 x at_ l N (st i) i = some (.inl (st l.length))
  | 0, _, h, _ => absurd h (by omega)
  | N + 1, i, h, hi => by
    show block_WriteAll_l1_b _ _ _ _ _ _ = _
    unfold block_WriteAll_l1_b
    by_cases hlt : i < l.length
    · rw [if_pos (by omega), grd_t (inI64_of (by omega)), hw i hlt]
      simp only [Option.bind_some]
      rw [if_neg (by simp)]
      exact writeAll_l1 ha hw N (i + 1) (by omega) (by omega)
    · rw [if_neg (by omega)]
      have : i = l.length := by omega
      rw [this]
theorem writeAll_eq {m : Int} {l : List UInt64} {st : Nat → ArrS} (hs : x.size (st 0) = some m) (hm : m ≤ 1000000000) (ha : 0 ≤ at_ ∧ at_ + l.length ≤ m) (hw : ∀ i, i < l.length → x.wr (st i) (at_ + i) (l.getD i 0) = some (0, st (i + 1))) :
    block_WriteAll x at_ l (st 0) = some (0, st l.length) := by
  unfold block_WriteAll
  have hF := fuel_big
  generalize FUEL = N at hF ⊢
  rw [hs]; simp only [Option.bind_some]
  rw [inside_t hm (by omega)]; simp only [Option.bind_some]
  rw [if_neg (by simp), writeAll_l1 (by omega) hw N 0 (by omega) (by omega)]; rfl
end
end Go.Proofs
namespace Go.Proofs
open Go.VG
theorem getD_map_range {α : Type} {f : Nat → α} {n i : Nat} {d : α} (h : i < n) : ((List.range n).map f).getD i d = f i := by simp [List.getD, h]
def lensN (ims : List (List UInt64)) : List Nat := ims.map List.length
theorem lensN_getD {ims : List (List UInt64)} {i : Nat} : (lensN ims).getD i 0 = (ims.getD i []).length := by
  simp only [lensN, List.getD, List.getElem?_map]; cases ims[i]? <;> rfl
@[simp] theorem lensN_length {ims : List (List UInt64)} : (lensN ims).length = ims.length := by simp [lensN]
theorem inSz_mkS {ims : List (List UInt64)} : InSz (lensN ims) (mkS ims) := ⟨by simp, fun d _ => by rw [size_nowL, nowL_mkS, lensN_getD], Nat.zero_le _⟩
end Go.Proofs
set_option linter.unusedSimpArgs false
set_option linter.unusedVariables false
set_option maxRecDepth 20000
set_option maxHeartbeats 4000000
namespace Go.Proofs
open Go.VG
abbrev mp100 : MTy Int Unit := { KT := 3, VT := 103, ek := fun k => .int .i64 k, ev := fun _ => .agg #[] }
theorem ok_mp100 : MOk Try.prog mp100 100 where
  ty := Try.underlying100
  eq := fun a b w => eq_int Try.underlying3 a b w
  chk := fun e a w => chk_int Try.underlying3 e a w 9999
  same := fun a => by simp [Instr.sameBits]
  kd := ⟨_, Try.underlying3, .inr fun a b => by simp only [Instr.sameNow, if_true]; rfl⟩
structure LogS where
  x : Dvc
  regions : Int
  bits : List UInt64
  durable : List (Int × Unit)
def LogP (a b : Nat) (l : LogS) : HP := ex fun h : IfH × Sl3 × Nat => star [blk b 102 [IfH.v h.1, .int .i64 l.regions, (Sl3.v h.2.1), .map (some h.2.2)], DevP a l.x h.1, RdP tyU (Sl3.v h.2.1) l.bits, mpc mp100 h.2.2 l.durable]
theorem LogP_open {a b : Nat} {l : LogS} {R : List HP} : EntX (LogP a b l :: R) fun h : IfH × Sl3 × Nat => blk b 102 [IfH.v h.1, .int .i64 l.regions, (Sl3.v h.2.1), .map (some h.2.2)] :: DevP a l.x h.1 :: RdP tyU (Sl3.v h.2.1) l.bits :: mpc mp100 h.2.2 l.durable :: R :=
  fun _ hh => let ⟨c, hc⟩ := stars_ex.1 hh; ⟨c, stars_star.1 hc⟩
theorem LogP_mk {a b : Nat} {v0 : Dvc} {v1 : Int} {v2 : List UInt64} {v3 : List (Int × Unit)} {h0 : IfH} {h1 : Sl3} {h2 : Nat} {R : List HP} : Ent (blk b 102 [IfH.v h0, .int .i64 v1, (Sl3.v h1), .map (some h2)] :: DevP a v0 h0 :: RdP tyU (Sl3.v h1) v2 :: mpc mp100 h2 v3 :: R) (LogP a b ⟨v0, v1, v2, v3⟩ :: R) :=
  fun _ hh => stars_ex.2 ⟨(h0, h1, h2), stars_star.2 hh⟩
end Go.Proofs
set_option linter.unusedSimpArgs false
set_option linter.unusedVariables false
set_option maxRecDepth 20000
set_option maxHeartbeats 4000000
namespace Go.Proofs
open Go.VG
theorem bld_102_0_1_2_3 (v0 : TypeId) (v1 : Value) (v2 : Int) (v3 : (Option Addr)) (v4 : Nat) (v5 : Nat) (v6 : (Option Nat)) : ∀ w, (Instr.build 102 (#[(0, .iface v0 v1), (1, .int .i64 v2), (2, .slice v3 v4 v5), (3, .map v6)] : Array (Nat × Value))).run Try.prog w = .ok (.agg #[.iface v0 v1, .int .i64 v2, .slice v3 v4 v5, .map v6]) w := fun w => by kernel_rfl
theorem bld_103 : ∀ w, (Instr.build 103 (#[] : Array (Nat × Value))).run Try.prog w = .ok (.agg #[]) w := fun w => by kernel_rfl
def regionlog_Words (regions : Int) : Option (Int) :=
  if ((regions < (1 : Int)) ∨ ((1048576 : Int) < regions)) then
    some (0 : Int)
  else
    some (((1 : Int) + ((regions + (63 : Int)) / (64 : Int))))
theorem L_regionlog_Words {W : World} {regions : Int} {r : Int} (h : regionlog_Words regions = some r) :
    CSpec Try.prog W 57 [.int .i64 regions] [] (fun x : Unit => .int .i64 r) (fun _ => True) (fun x F => F) := by
 refine CSpec.of_body Try.func57 rfl Try.ntmps57 rfl fun F => ?_
 show CJ _ _ _ _ _ _ (F)
 unfold regionlog_Words at h
 refine sR <| oA rfl rfl <| nT <| CJ_seq <| sR <| oM rfl rfl <| oP (P_lss (a := regions) (b := (1 : Int)) rfl rfl) rfl <| oM rfl rfl <| RJ_mbF rfl rfl rfl (fun hG1 => have hP2 : ¬ (regions < (1 : Int)) := nP (bT_dec) hG1; VJ_P (P_move rfl)) <| RJ_mbF rfl rfl rfl (fun hG3 => have hP4 : ¬ (regions < (1 : Int)) := nP (bT_dec) hG3; VJ_P (P_gtr (a := regions) (b := (1048576 : Int)) (mbx hG3 rfl) rfl)) <| oP (P_pickOr rfl rfl (fun hh => mbx (not_f hh) rfl)) rfl <| nT <| CJ_condP rfl (bT_or bT_dec bT_dec) (fun hg1 => ?_) (fun hg1 => ?_)
 ·
  replace h := ite_t hg1 h
  refine sR <| oA rfl rfl <| nT <| CJ_ret <| QJ_then_ret ?_
  cases h
  exact fE (res1 Try.results57 rfl) () eR
 ·
  replace h := ite_f hg1 h
  refine kT <| sR <| oM rfl rfl <| oP (P_add (a := regions) (b := (63 : Int)) rfl rfl (by omega)) rfl <| oP (P_quo (a := (regions + (63 : Int))) (b := (64 : Int)) rfl rfl (by omega)) rfl <| oP (P_add (a := (1 : Int)) (b := ((regions + (63 : Int)) / (64 : Int))) rfl rfl (by omega)) rfl <| oA rfl rfl <| nT <| CJ_ret ?_
  cases h
  exact fE (res1 Try.results57 rfl) () eR
def regionlog_check (x_0 : Dvc) (regions : Int) (s : ArrS) : Option (Int) :=
  Option.bind (regionlog_Words regions) fun r1 =>
  if (r1 = (0 : Int)) then
    some (1 : Int)
  else
    Option.bind (Dvc.size x_0 s) fun r4 =>
    if (r4 < r1) then
      some (3 : Int)
    else
      some (0 : Int)
theorem L_regionlog_check {W : World} {vx_0 : IfH} {bs : Nat} {x_0 : Dvc} {regions : Int} {s : ArrS} {r : Int} (h : regionlog_check x_0 regions s = some r) :
    CSpec Try.prog W 55 [IfH.v vx_0, .int .i64 regions] [DevP bs x_0 vx_0, Arr bs s] (fun x : Unit => .int .i64 r) (fun _ => True) (fun x F => DevP bs x_0 vx_0 :: Arr bs s :: F) := by
 refine CSpec.of_body Try.func55 rfl Try.ntmps55 rfl fun F => ?_
 show CJ _ _ _ _ _ _ (_ :: _ :: F)
 unfold regionlog_check at h
 refine sR <| oA rfl rfl <| nT <| CJ_seq <| sR <| oM rfl rfl ?_
 obtain ⟨r1, hr2, h⟩ := bind_e h
 refine oO <| O_call (L_regionlog_Words hr2) rfl Try.call57 Dels.nil rfl fun _ _ => oA rfl rfl <| nT <| CJ_block <| sR <| oM rfl rfl <| oP (P_eql (a := r1) (b := (0 : Int)) rfl rfl) rfl <| oA rfl rfl <| nT <| CJ_condP rfl bT_dec (fun hg1 => ?_) (fun hg1 => ?_)
 ·
  replace h := ite_t hg1 h
  refine sR <| oA rfl rfl <| nT <| CJ_ret <| QJ_block_ret <| QJ_then_ret ?_
  cases h
  exact fE (res1 Try.results55 rfl) () eR
 ·
  replace h := ite_f hg1 h
  refine sR <| oM rfl rfl <| RJ_pure (fun h hh => DevP_dep h (stars_perm (del0 (A := DevP bs x_0 vx_0)).out h hh)) fun hdp3 => ?_
  obtain ⟨r4, hr5, h⟩ := bind_e h
  refine oO <| O_callI rfl (dev_Size hr5 hdp3) rfl (Dels.cons del0 (Dels.cons del0 Dels.nil)) rfl fun _ _ => oM rfl rfl <| oP (P_lss (a := r4) (b := r1) rfl rfl) rfl <| oA rfl rfl <| nT <| CJ_condP rfl bT_dec (fun hg2 => ?_) (fun hg2 => ?_)
  ·
   replace h := ite_t hg2 h
   refine sR <| oA rfl rfl <| nT <| CJ_ret <| QJ_block_ret <| QJ_then_ret ?_
   cases h
   exact fE (res1 Try.results55 rfl) () eR
  ·
   replace h := ite_f hg2 h
   refine CJ_skip <| QJ_block_normal <| QJ_then <| sR <| oA rfl rfl <| nT <| CJ_ret ?_
   cases h
   exact fE (res1 Try.results55 rfl) () eR
def regionlog_Format (x_0 : Dvc) (regions : Int) (s : ArrS) : Option (Int × ArrS) :=
  Option.bind (regionlog_check x_0 regions s) fun r1 =>
  if (r1 ≠ (0 : Int)) then
    some (r1, s)
  else
    Option.bind (regionlog_Words regions) fun r3 =>
    grd (inI64 ((r3 - (1 : Int)))) <|
    grd (decide (0 ≤ (r3 - (1 : Int)) ∧ (r3 - (1 : Int)) ≤ 1000000000)) <|
    Option.bind (block_WriteAll x_0 (1 : Int) ((List.replicate (((r3 - (1 : Int))).toNat) (0 : UInt64))) s) fun r6 =>
    if (r6.1 ≠ (0 : Int)) then
      some (r6.1, r6.2)
    else
      Option.bind (Dvc.fl x_0 r6.2) fun r9 =>
      if (r9.1 ≠ (0 : Int)) then
        some (r9.1, r9.2)
      else
        Option.bind (Dvc.wr x_0 r9.2 (0 : Int) (((5498691735368237056 : UInt64) + (to_u64 regions)))) fun r12 =>
        if (r12.1 ≠ (0 : Int)) then
          some (r12.1, r12.2)
        else
          Option.bind (Dvc.fl x_0 r12.2) fun r15 =>
          some (r15.1, r15.2)
theorem L_regionlog_Format {W : World} {vx_0 : IfH} {bs : Nat} {x_0 : Dvc} {regions : Int} {s : ArrS} {r : Int × ArrS} (h : regionlog_Format x_0 regions s = some r) :
    CSpec Try.prog W 23 [IfH.v vx_0, .int .i64 regions] [DevP bs x_0 vx_0, Arr bs s] (fun x : Unit => .int .i64 r.1) (fun _ => True) (fun x F => DevP bs x_0 vx_0 :: Arr bs r.2 :: F) := by
 refine CSpec.of_body Try.func23 rfl Try.ntmps23 rfl fun F => ?_
 show CJ _ _ _ _ _ _ (_ :: _ :: F)
 unfold regionlog_Format at h
 refine sR <| oA rfl rfl <| nT <| CJ_seq <| sR <| oM rfl rfl <| oM rfl rfl ?_
 obtain ⟨r1, hr2, h⟩ := bind_e h
 refine oO <| O_call (L_regionlog_check hr2) rfl Try.call55 (Dels.cons del0 (Dels.cons del0 Dels.nil)) rfl fun _ _ => oA rfl rfl <| nT <| sR <| oM rfl rfl <| oP (P_neq (a := r1) (b := (0 : Int)) rfl rfl) rfl <| nT <| CJ_condP rfl bT_dec (fun hg1 => ?_) (fun hg1 => ?_)
 ·
  replace h := ite_t hg1 h
  refine sR <| oM rfl rfl <| oA rfl rfl <| nT <| CJ_ret <| QJ_then_ret ?_
  cases h
  exact fE (res1 Try.results23 rfl) () eR
 ·
  replace h := ite_f hg1 h
  refine kT <| CJ_seq <| sR <| oM rfl rfl <| oM rfl rfl ?_
  obtain ⟨r3, hr4, h⟩ := bind_e h
  refine oO <| O_call (L_regionlog_Words hr4) rfl Try.call57 Dels.nil rfl fun _ _ => ?_
  obtain ⟨hg2, h⟩ := grd_Ie h
  refine oP (P_sub (a := r3) (b := (1 : Int)) rfl rfl hg2) rfl ?_
  obtain ⟨hg3, h⟩ := grd_de h
  refine oO <| O_make (t := tyU) (m := ((r3 - (1 : Int))).toNat) (x0 := 0) (z := _) (bytes := _) rfl rfl (Int.toNat_of_nonneg (hg3.1)).symm (Int.toNat_of_nonneg (hg3.1)).symm Try.underlying27 ⟨Try.t33, by kernel_rfl, rfl, rfl, rfl⟩ rfl (by omega) (by decide) rfl fun b5 => ?_
  obtain ⟨r6, hr7, h⟩ := bind_e h
  refine oO <| O_call (L_block_WriteAll (Reads.sl _ _ _) hr7) rfl Try.call56 (Dels.cons del1 (Dels.cons del0 (Dels.cons del0 Dels.nil))) rfl fun _ _ => oA rfl rfl <| nT <| sR <| oM rfl rfl <| oP (P_neq (a := r6.1) (b := (0 : Int)) rfl rfl) rfl <| nT <| CJ_condP rfl bT_dec (fun hg4 => ?_) (fun hg4 => ?_)
  ·
   replace h := ite_t hg4 h
   refine sR <| oM rfl rfl <| oA rfl rfl <| nT <| CJ_ret <| QJ_then_ret ?_
   cases h
   exact fE (res1 Try.results23 rfl) () (t0_ (t1_ (eD eR)))
  ·
   replace h := ite_f hg4 h
   refine kT <| CJ_seq <| sR <| oM rfl rfl <| RJ_pure (fun h hh => DevP_dep h (stars_perm (del0 (A := DevP bs x_0 vx_0)).out h hh)) fun hdp8 => ?_
   obtain ⟨r9, hr10, h⟩ := bind_e h
   refine oO <| O_callI rfl (dev_Flush hr10 hdp8) rfl (Dels.cons del0 (Dels.cons del1 Dels.nil)) rfl fun _ _ => oA rfl rfl <| nT <| sR <| oM rfl rfl <| oP (P_neq (a := r9.1) (b := (0 : Int)) rfl rfl) rfl <| nT <| CJ_condP rfl bT_dec (fun hg5 => ?_) (fun hg5 => ?_)
   ·
    replace h := ite_t hg5 h
    refine sR <| oM rfl rfl <| oA rfl rfl <| nT <| CJ_ret <| QJ_then_ret ?_
    cases h
    exact fE (res1 Try.results23 rfl) () (t0_ (t0_ (eD eR)))
   ·
    replace h := ite_f hg5 h
    refine kT <| CJ_seq <| sR <| oM rfl rfl <| oM rfl rfl <| oP (P_conv_u64 (a := regions) rfl Try.runUnderlying3 Try.runUnderlying33) rfl <| oP (P_add_u64 (a := (5498691735368237056 : UInt64)) (b := (to_u64 regions)) rfl rfl) rfl <| RJ_pure (fun h hh => DevP_dep h (stars_perm (del0 (A := DevP bs x_0 vx_0)).out h hh)) fun hdp11 => ?_
    obtain ⟨r12, hr13, h⟩ := bind_e h
    refine oO <| O_callI rfl (dev_Write hr13 hdp11) rfl (Dels.cons del0 (Dels.cons del0 Dels.nil)) rfl fun _ _ => oA rfl rfl <| nT <| sR <| oM rfl rfl <| oP (P_neq (a := r12.1) (b := (0 : Int)) rfl rfl) rfl <| nT <| CJ_condP rfl bT_dec (fun hg6 => ?_) (fun hg6 => ?_)
    ·
     replace h := ite_t hg6 h
     refine sR <| oM rfl rfl <| oA rfl rfl <| nT <| CJ_ret <| QJ_then_ret ?_
     cases h
     exact fE (res1 Try.results23 rfl) () (t0_ (t0_ (eD eR)))
    ·
     replace h := ite_f hg6 h
     refine kT <| sR <| oM rfl rfl <| RJ_pure (fun h hh => DevP_dep h (stars_perm (del0 (A := DevP bs x_0 vx_0)).out h hh)) fun hdp14 => ?_
     obtain ⟨r15, hr16, h⟩ := bind_e h
     refine oO <| O_callI rfl (dev_Flush hr16 hdp14) rfl (Dels.cons del0 (Dels.cons del0 Dels.nil)) rfl fun _ _ => oA rfl rfl <| nT <| CJ_ret ?_
     cases h
     exact fE (res1 Try.results23 rfl) () (t0_ (t0_ (eD eR)))
def regionlog_Open (x_0 : Dvc) (regions : Int) (s : ArrS) : Option ((Option LogS) × Int) :=
  Option.bind (regionlog_check x_0 regions s) fun r1 =>
  if (r1 ≠ (0 : Int)) then
    some (none, r1)
  else
    Option.bind (regionlog_Words regions) fun r3 =>
    Option.bind (block_ReadAll x_0 (0 : Int) r3 s) fun r5 =>
    if (r5.2 ≠ (0 : Int)) then
      some (none, r5.2)
    else
      grd (decide (0 < r5.1.length)) <|
      if ((r5.1.getD 0 0) ≠ ((5498691735368237056 : UInt64) + (to_u64 regions))) then
        some ((none, (2 : Int)))
      else
        grd (decide (1 ≤ r5.1.length ∧ r5.1.length ≤ r5.1.length)) <|
        some (((some ((⟨x_0, regions, ((r5.1.take r5.1.length).drop 1), []⟩ : LogS))), (0 : Int)))
theorem L_regionlog_Open {W : World} {vx_0 : IfH} {bs : Nat} {x_0 : Dvc} {regions : Int} {s : ArrS} {r : (Option LogS) × Int} (h : regionlog_Open x_0 regions s = some r) :
    CSpec Try.prog W 61 [IfH.v vx_0, .int .i64 regions] [DevP bs x_0 vx_0, Arr bs s] (fun x : Nat => .tuple #[oval r.1 x, .int .i64 r.2]) (fun _ => True) (fun x F => DevP bs x_0 vx_0 :: Arr bs s :: optP (LogP bs x) r.1 :: F) := by
 refine CSpec.of_body Try.func61 rfl Try.ntmps61 rfl fun F => ?_
 show CJ _ _ _ _ _ _ (_ :: _ :: F)
 unfold regionlog_Open at h
 refine sR <| oA rfl rfl <| oA rfl rfl <| nT <| CJ_seq <| sR <| oM rfl rfl <| oM rfl rfl ?_
 obtain ⟨r1, hr2, h⟩ := bind_e h
 refine oO <| O_call (L_regionlog_check hr2) rfl Try.call55 (Dels.cons del0 (Dels.cons del0 Dels.nil)) rfl fun _ _ => oA rfl rfl <| nT <| sR <| oM rfl rfl <| oP (P_neq (a := r1) (b := (0 : Int)) rfl rfl) rfl <| nT <| CJ_condP rfl bT_dec (fun hg1 => ?_) (fun hg1 => ?_)
 ·
  replace h := ite_t hg1 h
  refine sR <| oM rfl rfl <| oA rfl rfl <| oA rfl rfl <| nT <| CJ_ret <| QJ_then_ret ?_
  cases h
  exact fE (res2 Try.results61 rfl rfl) 0 (t0_ (t0_ (Ent.trans (fun h hh => optP_none h hh) <| t0_ eR)))
 ·
  replace h := ite_f hg1 h
  refine kT <| sR <| oM rfl rfl <| oM rfl rfl ?_
  obtain ⟨r3, hr4, h⟩ := bind_e h
  refine oO <| O_call (L_regionlog_Words hr4) rfl Try.call57 Dels.nil rfl fun _ _ => ?_
  obtain ⟨r5, hr6, h⟩ := bind_e h
  refine oO <| O_call (L_block_ReadAll hr6) rfl Try.call77 (Dels.cons del0 (Dels.cons del0 Dels.nil)) rfl fun X7 _ => oM rfl rfl <| oP (P_extract (v := X7.v) rfl rfl) rfl <| oP (P_extract rfl rfl) rfl <| oA rfl rfl <| oA rfl rfl <| nT <| CJ_seq <| sR <| oM rfl rfl <| oP (P_neq (a := r5.2) (b := (0 : Int)) rfl rfl) rfl <| nT <| CJ_condP rfl bT_dec (fun hg2 => ?_) (fun hg2 => ?_)
  ·
   replace h := ite_t hg2 h
   refine sR <| oM rfl rfl <| oA rfl rfl <| oA rfl rfl <| nT <| CJ_ret <| QJ_then_ret ?_
   cases h
   exact fE (res2 Try.results61 rfl rfl) 0 (t0_ (t0_ (Ent.trans (fun h hh => optP_none h hh) <| t0_ (eD eR))))
  ·
   replace h := ite_f hg2 h
   refine kT <| CJ_seq <| sR <| oM rfl rfl ?_
   obtain ⟨hg3, h⟩ := grd_de h
   refine oV (V_index (i := 0) rfl rfl rfl hg3 foc2 (Reads.sl _ _ _) Try.runUnderlying27 Try.sizeOf33) rfl <| oV (V_loadE rfl rfl hg3 foc2 (Reads.sl _ _ _) rfl rfl Try.isAgg33) rfl <| oM rfl rfl <| oP (P_conv_u64 (a := regions) rfl Try.runUnderlying3 Try.runUnderlying33) rfl <| oP (P_add_u64 (a := (5498691735368237056 : UInt64)) (b := (to_u64 regions)) rfl rfl) rfl <| oP (P_ne_u64 (a := (r5.1.getD 0 0)) (b := ((5498691735368237056 : UInt64) + (to_u64 regions))) rfl rfl) rfl <| nT <| CJ_condP rfl bT_dec (fun hg4 => ?_) (fun hg4 => ?_)
   ·
    replace h := ite_t hg4 h
    refine sR <| oA rfl rfl <| oA rfl rfl <| nT <| CJ_ret <| QJ_then_ret ?_
    cases h
    exact fE (res2 Try.results61 rfl rfl) 0 (t0_ (t0_ (Ent.trans (fun h hh => optP_none h hh) <| t0_ (eD eR))))
   ·
    replace h := ite_f hg4 h
    refine kT <| sR <| oM rfl rfl <| oM rfl rfl <| oM rfl rfl ?_
    obtain ⟨hg5, h⟩ := grd_de h
    refine oV (V_slice (l := 1) (h := r5.1.length) rfl foc2 (Reads.sl _ _ _) ⟨_, rfl⟩ rfl (by omega) (by omega) Try.underlying27 Try.sizeOf33) rfl <| oO <| O_makeMap mp100 rfl fun mp9 => oP (P_build rfl (bld_102_0_1_2_3 _ _ _ _ _ _ _)) rfl <| oO <| O_box rfl rfl rfl fun b10 => oA rfl rfl <| oA rfl rfl <| nT <| CJ_ret <| QJ_ent (Ent.trans (t2_ eR) (fun h hh => stars_dup Dup_DevP hh)) <| QJ_pure (reads_sl3 (Reads.sliceV (l := 1) (h := r5.1.length) (Reads.sl _ _ _) (by omega) (by omega)) del5) fun hsv13 => ?_
    obtain ⟨sv12, hsv13⟩ := hsv13
    refine QJ_ent (Ent.trans (t5_ eR) (RdP_mk (t := tyU) (v := Sl3.v sv12) (xs := ((r5.1.take r5.1.length).drop 1)) (hsv13 ▸ (Reads.sliceV (l := 1) (h := r5.1.length) (Reads.sl _ _ _) (by omega) (by omega))))) <| QJ_ent (Ent.trans (Ent.takeC del3 (congrArg (fun z => blk b10 102 [IfH.v vx_0, .int .i64 regions, z, .map (some mp9)]) hsv13) (t1_ (t0_ (t1_ eR)))) (LogP_mk (v0 := x_0) (v1 := regions) (v2 := ((r5.1.take r5.1.length).drop 1)) (v3 := []) (h0 := vx_0) (h1 := sv12) (h2 := mp9))) ?_
    cases h
    exact fE (res2 Try.results61 rfl rfl) b10 (t1_ (t1_ eR))
def regionlog_Log_set (l : LogS) (region : Int) (is : Bool) (keep : Bool) (s : ArrS) : Option (Int × LogS × ArrS) :=
  Option.bind (pack_SetBit l.bits region is) fun r4 =>
  if (r4.2 ≠ (0 : Int)) then
    some (r4.2, l, s)
  else
    grd (inI64 (((1 : Int) + (IntKind.i64.wrap (region.tdiv (64 : Int)))))) <|
    grd (decide (0 ≤ (IntKind.i64.wrap (region.tdiv (64 : Int))) ∧ (IntKind.i64.wrap (region.tdiv (64 : Int))) < (r4.1.length : Int))) <|
    Option.bind (Dvc.wr l.x s (((1 : Int) + (IntKind.i64.wrap (region.tdiv (64 : Int))))) ((r4.1.getD (((IntKind.i64.wrap (region.tdiv (64 : Int)))).toNat) 0))) fun r12 =>
    if ((r12.1 = (0 : Int)) ∨ keep = true) then
      some (r12.1, { l with bits := r4.1 }, r12.2)
    else
      some (r12.1, l, r12.2)
theorem L_regionlog_Log_set {W : World} {bl : Nat} {bs : Nat} {l : LogS} {region : Int} {is : Bool} {keep : Bool} {s : ArrS} {r : Int × LogS × ArrS} (h : regionlog_Log_set l region is keep s = some r) :
    CSpec Try.prog W 71 [ptr bl 0, .int .i64 region, .bool is, .bool keep] [LogP bs bl l, Arr bs s] (fun x : Unit => .int .i64 r.1) (fun _ => True) (fun x F => LogP bs bl r.2.1 :: Arr bs r.2.2 :: F) := by
 refine CSpec.of_body Try.func71 rfl Try.ntmps71 rfl fun F => ?_
 show CJ _ _ _ _ _ _ (_ :: _ :: F)
 unfold regionlog_Log_set at h
 refine sR <| oA rfl rfl <| nT <| CJ_seq <| CJ_entX (Ent.transX (t0_ eR) (LogP_open (l := l))) fun oc1 => CJ_pure (len_of (Reads.rdp _ _ _) del2) fun hlen3 => CJ_region <| oM rfl rfl <| oP (P_nilCheck rfl) rfl <| oP (P_fieldAddr rfl ⟨_, _, _, Try.runUnderlying102, rfl, rfl, Try.sizeOf27, rfl⟩) rfl <| oV (V_load rfl foc0 rfl Try.isAgg27) rfl <| oM rfl rfl <| oM rfl rfl ?_
 obtain ⟨r4, hr5, h⟩ := bind_e h
 refine oO <| O_call (L_pack_SetBit (Reads.rdp _ _ _) hr5) rfl Try.call79 (Dels.cons del2 Dels.nil) rfl fun X6 _ => oM rfl rfl <| oP (P_extract (v := X6.v) rfl rfl) rfl <| oP (P_extract rfl rfl) rfl <| oA rfl rfl <| oA rfl rfl <| RJ_nil <| QJ_ent (Ent.trans (t2_ (t2_ (t0_ (t1_ eR)))) (LogP_mk (v0 := l.x) (v1 := l.regions) (v2 := l.bits) (v3 := l.durable) (h0 := oc1.1) (h1 := oc1.2.1) (h2 := oc1.2.2))) <| QJ_then <| CJ_seq <| sR <| oM rfl rfl <| oP (P_neq (a := r4.2) (b := (0 : Int)) rfl rfl) rfl <| nT <| CJ_condP rfl bT_dec (fun hg1 => ?_) (fun hg1 => ?_)
 ·
  replace h := ite_t hg1 h
  refine sR <| oM rfl rfl <| oA rfl rfl <| nT <| CJ_ret <| QJ_then_ret ?_
  cases h
  exact fE (res1 Try.results71 rfl) () (t0_ (t1_ (eD eR)))
 ·
  replace h := ite_f hg1 h
  refine kT <| CJ_seq <| CJ_entX (Ent.transX (t0_ eR) (LogP_open (l := l))) fun oc8 => CJ_pure (len_of (Reads.rdp _ _ _) del2) fun hlen10 => AJ_startH 16384 (by kernel_rfl) rfl <| aN 0 1 rfl rfl (P_move rfl) rfl <| aN 1 3 rfl rfl (P_nilCheck rfl) rfl <| aN 2 7 rfl rfl (P_fieldAddr rfl ⟨_, _, _, Try.runUnderlying102, rfl, rfl, Try.sizeOf57, rfl⟩) rfl <| aV 3 15 rfl rfl (GY_none rfl) eR (V_load rfl foc0 rfl Try.isAgg57) rfl <| aN 4 31 rfl rfl (P_move rfl) rfl <| aN 5 63 rfl rfl (P_quoT (a := region) (b := (64 : Int)) rfl rfl (by decide)) rfl ?_
  obtain ⟨hg2, h⟩ := grd_Ie h
  refine aN 6 127 rfl rfl (P_add (a := (1 : Int)) (b := (IntKind.i64.wrap (region.tdiv (64 : Int)))) rfl rfl hg2) rfl <| aN 7 255 rfl rfl (P_move rfl) rfl <| aN 8 511 rfl rfl (P_move rfl) rfl <| aN 9 1023 rfl rfl (P_quoT (a := region) (b := (64 : Int)) rfl rfl (by decide)) rfl ?_
  obtain ⟨hg3, h⟩ := grd_de h
  refine aV 10 2047 rfl rfl (GY_none rfl) eR (V_index (i := ((IntKind.i64.wrap (region.tdiv (64 : Int)))).toNat) rfl rfl (Int.toNat_of_nonneg (hg3.1)).symm (by omega) foc4 (Reads.sl _ _ _) Try.runUnderlying27 Try.sizeOf33) rfl <| aV 11 4095 rfl rfl (GY_none rfl) eR (V_loadE rfl rfl (by omega) foc4 (Reads.sl _ _ _) rfl rfl Try.isAgg33) rfl <| aN 12 8191 rfl rfl (P_nilCheckI rfl) rfl <| aN 13 16383 rfl rfl (P_move rfl) rfl <| AJ_pure (fun h hh => DevP_dep h (stars_perm (del1 (A := DevP bs l.x oc8.1)).out h hh)) fun hdp11 => ?_
  obtain ⟨r12, hr13, h⟩ := bind_e h
  refine AJ_op 14 32767 rfl (by kernel_rfl) rfl (GY_none rfl) <| O_callI rfl (dev_Write hr13 hdp11) rfl (Dels.cons del1 (Dels.cons del4 Dels.nil)) rfl fun _ _ => ⟨fun h => absurd h (by decide), ?_⟩
  refine aN 15 65535 rfl rfl (P_assign rfl) rfl <| AJ_done (by kernel_rfl) <| QJ_ent (Ent.trans (t0_ eR) (fun h hh => stars_dup Dup_DevP hh)) <| QJ_ent (Ent.trans (t3_ (t0_ (t2_ (t2_ eR)))) (LogP_mk (v0 := l.x) (v1 := l.regions) (v2 := l.bits) (v3 := l.durable) (h0 := oc8.1) (h1 := oc8.2.1) (h2 := oc8.2.2))) <| QJ_then <| CJ_seq <| sR <| oM rfl rfl <| oP (P_eql (a := r12.1) (b := (0 : Int)) rfl rfl) rfl <| oM rfl rfl <| RJ_mbF rfl rfl rfl (fun hG15 => have hP16 : ¬ (r12.1 = (0 : Int)) := nP (bT_dec) hG15; VJ_P (P_move rfl)) <| oP (P_pickOr rfl rfl (fun hh => mbx (not_f hh) rfl)) rfl <| nT <| CJ_condP rfl (bT_or bT_dec Iff.rfl) (fun hg4 => ?_) (fun hg4 => ?_)
  ·
   replace h := ite_t hg4 h
   refine CJ_entX (Ent.transX (t0_ eR) (LogP_open (l := l))) fun oc17 => CJ_pure (len_of (Reads.rdp _ _ _) del2) fun hlen19 => CJ_region <| oM rfl rfl <| oM rfl rfl <| oP (P_nilCheck rfl) rfl <| oP (P_fieldAddr rfl ⟨_, _, _, Try.runUnderlying102, rfl, rfl, Try.sizeOf27, rfl⟩) rfl <| oO <| O_store rfl rfl foc0 rfl rfl Try.sizeOf27 <| RJ_nil <| QJ_pure (reads_sl3 (Reads.sl _ _ _) del6) fun hsv21 => ?_
   obtain ⟨sv20, hsv21⟩ := hsv21
   refine QJ_ent (Ent.trans (t6_ eR) (RdP_mk (t := tyU) (v := Sl3.v sv20) (xs := r4.1) (hsv21 ▸ (Reads.sl _ _ _)))) <| QJ_ent (Ent.trans (Ent.takeC del1 (congrArg (fun z => blk bl 102 [IfH.v oc17.1, .int .i64 l.regions, z, .map (some oc17.2.2)]) hsv21) (t1_ (t0_ (t1_ eR)))) (LogP_mk (v0 := l.x) (v1 := l.regions) (v2 := r4.1) (v3 := l.durable) (h0 := oc17.1) (h1 := sv20) (h2 := oc17.2.2))) <| QJ_then <| sR <| oM rfl rfl <| oA rfl rfl <| nT <| CJ_ret ?_
   cases h
   exact fE (res1 Try.results71 rfl) () (t0_ (t2_ (eD (eD eR))))
  ·
   replace h := ite_f hg4 h
   refine kT <| sR <| oM rfl rfl <| oA rfl rfl <| nT <| CJ_ret ?_
   cases h
   exact fE (res1 Try.results71 rfl) () (t0_ (t1_ (eD (eD eR))))
def regionlog_Log_Mark (l : LogS) (region : Int) (s : ArrS) : Option (Int × LogS × ArrS) :=
  if ((region < (0 : Int)) ∨ (l.regions ≤ region)) then
    some (((1 : Int), l, s))
  else
    if ((lookM l.durable region)).isSome = true then
      some (((0 : Int), l, s))
    else
      Option.bind (regionlog_Log_set l region true true s) fun r17 =>
      if (r17.1 ≠ (0 : Int)) then
        some (r17.1, r17.2.1, r17.2.2)
      else
        Option.bind (Dvc.fl r17.2.1.x r17.2.2) fun r23 =>
        if (r23.1 ≠ (0 : Int)) then
          some (r23.1, r17.2.1, r23.2)
        else
          some (((0 : Int), { r17.2.1 with durable := (setM r17.2.1.durable region ()) }, r23.2))
theorem L_regionlog_Log_Mark {W : World} {bl : Nat} {bs : Nat} {l : LogS} {region : Int} {s : ArrS} {r : Int × LogS × ArrS} (h : regionlog_Log_Mark l region s = some r) :
    CSpec Try.prog W 45 [ptr bl 0, .int .i64 region] [LogP bs bl l, Arr bs s] (fun x : Unit => .int .i64 r.1) (fun _ => True) (fun x F => LogP bs bl r.2.1 :: Arr bs r.2.2 :: F) := by
 refine CSpec.of_body Try.func45 rfl Try.ntmps45 rfl fun F => ?_
 show CJ _ _ _ _ _ _ (_ :: _ :: F)
 unfold regionlog_Log_Mark at h
 refine sR <| oA rfl rfl <| nT <| CJ_seq <| sR <| oM rfl rfl <| oP (P_lss (a := region) (b := (0 : Int)) rfl rfl) rfl <| oM rfl rfl <| RJ_mbF rfl rfl rfl (fun hG1 => have hP2 : ¬ (region < (0 : Int)) := nP (bT_dec) hG1; VJ_P (P_move rfl)) <| RJ_mbF rfl rfl rfl (fun hG3 => have hP4 : ¬ (region < (0 : Int)) := nP (bT_dec) hG3; VJ_P (P_move rfl)) <| RJ_mbF rfl rfl rfl (fun hG5 => have hP6 : ¬ (region < (0 : Int)) := nP (bT_dec) hG5; VJ_P (P_nilCheck (mbx hG5 rfl))) <| RJ_mbF rfl rfl rfl (fun hG7 => have hP8 : ¬ (region < (0 : Int)) := nP (bT_dec) hG7; VJ_P (P_fieldAddr (mbx hG7 rfl) ⟨_, _, _, Try.runUnderlying102, rfl, rfl, Try.sizeOf3, rfl⟩)) <| RJ_mbF rfl rfl rfl (fun hG9 => have hP10 : ¬ (region < (0 : Int)) := nP (bT_dec) hG9; VJ_entX (Ent.transX (t0_ eR) (LogP_open (l := l))) (fun _ => V_load (mbx hG9 rfl) foc0 rfl Try.isAgg3)) <| RJ_mbF rfl rfl rfl (fun hG11 => have hP12 : ¬ (region < (0 : Int)) := nP (bT_dec) hG11; VJ_P (P_geq (a := region) (b := l.regions) (mbx hG11 rfl) (mbx hG11 rfl))) <| oP (P_pickOr rfl rfl (fun hh => mbx (not_f hh) rfl)) rfl <| nT <| CJ_condP rfl (bT_or bT_dec bT_dec) (fun hg1 => ?_) (fun hg1 => ?_)
 ·
  replace h := ite_t hg1 h
  refine sR <| oA rfl rfl <| nT <| CJ_ret <| QJ_then_ret ?_
  cases h
  exact fE (res1 Try.results45 rfl) () eR
 ·
  replace h := ite_f hg1 h
  refine kT <| CJ_seq <| CJ_seq <| CJ_entX (Ent.transX (t0_ eR) (LogP_open (l := l))) fun oc13 => CJ_pure (len_of (Reads.rdp _ _ _) del2) fun hlen15 => CJ_region <| oM rfl rfl <| oP (P_nilCheck rfl) rfl <| oP (P_fieldAddr rfl ⟨_, _, _, Try.runUnderlying102, rfl, rfl, Try.sizeOf100, rfl⟩) rfl <| oV (V_load rfl foc0 rfl Try.isAgg100) rfl <| oM rfl rfl <| oV (V_lookup2 (M := mp100) (k := region) (z := .agg #[]) (out := fun o => .agg #[]) rfl rfl foc3 ok_mp100 Try.zeroValue103 (fun _ => rfl) rfl) rfl <| oM rfl rfl <| oP (P_extract rfl rfl) rfl <| oP (P_extract rfl rfl) rfl <| oO <| O_alloc Try.zeroValue103 rfl rfl fun b16 => oO <| O_storeN rfl rfl foc0 Try.sizeOf103 rfl rfl rfl <| oA rfl rfl <| RJ_nil <| QJ_ent (Ent.trans (t1_ (t1_ (t1_ (t1_ eR)))) (LogP_mk (v0 := l.x) (v1 := l.regions) (v2 := l.bits) (v3 := l.durable) (h0 := oc13.1) (h1 := oc13.2.1) (h2 := oc13.2.2))) <| QJ_then <| sR <| oM rfl rfl <| nT <| CJ_condP rfl Iff.rfl (fun hg2 => ?_) (fun hg2 => ?_)
  ·
   replace h := ite_t hg2 h
   refine sR <| oA rfl rfl <| nT <| CJ_ret <| QJ_then_ret ?_
   cases h
   exact fE (res1 Try.results45 rfl) () (t0_ (t1_ (eD eR)))
  ·
   replace h := ite_f hg2 h
   refine kT <| CJ_seq <| sR <| oM rfl rfl <| oM rfl rfl ?_
   obtain ⟨r17, hr18, h⟩ := bind_e h
   refine oO <| O_call (L_regionlog_Log_set hr18) rfl Try.call71 (Dels.cons del0 (Dels.cons del1 Dels.nil)) rfl fun _ _ => oA rfl rfl <| nT <| sR <| oM rfl rfl <| oP (P_neq (a := r17.1) (b := (0 : Int)) rfl rfl) rfl <| nT <| CJ_condP rfl bT_dec (fun hg3 => ?_) (fun hg3 => ?_)
   ·
    replace h := ite_t hg3 h
    refine sR <| oM rfl rfl <| oA rfl rfl <| nT <| CJ_ret <| QJ_then_ret ?_
    cases h
    exact fE (res1 Try.results45 rfl) () (t0_ (t0_ (eD eR)))
   ·
    replace h := ite_f hg3 h
    refine kT <| CJ_seq <| CJ_seq <| CJ_entX (Ent.transX (t0_ eR) (LogP_open (l := r17.2.1))) fun oc19 => CJ_pure (len_of (Reads.rdp _ _ _) del2) fun hlen21 => CJ_region <| oM rfl rfl <| oP (P_nilCheck rfl) rfl <| oP (P_fieldAddr rfl ⟨_, _, _, Try.runUnderlying102, rfl, rfl, Try.sizeOf57, rfl⟩) rfl <| oV (V_load rfl foc0 rfl Try.isAgg57) rfl <| RJ_pure (fun h hh => DevP_dep h (stars_perm (del1 (A := DevP bs r17.2.1.x oc19.1)).out h hh)) fun hdp22 => ?_
    obtain ⟨r23, hr24, h⟩ := bind_e h
    refine oO <| O_callI rfl (dev_Flush hr24 hdp22) rfl (Dels.cons del1 (Dels.cons del3 Dels.nil)) rfl fun _ _ => oA rfl rfl <| RJ_nil <| QJ_ent (Ent.trans (t0_ eR) (fun h hh => stars_dup Dup_DevP hh)) <| QJ_ent (Ent.trans (t3_ (t0_ (t2_ (t2_ eR)))) (LogP_mk (v0 := r17.2.1.x) (v1 := r17.2.1.regions) (v2 := r17.2.1.bits) (v3 := r17.2.1.durable) (h0 := oc19.1) (h1 := oc19.2.1) (h2 := oc19.2.2))) <| QJ_then <| sR <| oM rfl rfl <| oP (P_neq (a := r23.1) (b := (0 : Int)) rfl rfl) rfl <| nT <| CJ_condP rfl bT_dec (fun hg4 => ?_) (fun hg4 => ?_)
    ·
     replace h := ite_t hg4 h
     refine sR <| oM rfl rfl <| oA rfl rfl <| nT <| CJ_ret <| QJ_then_ret ?_
     cases h
     exact fE (res1 Try.results45 rfl) () (t0_ (t1_ (eD (eD eR))))
    ·
     replace h := ite_f hg4 h
     refine kT <| CJ_seq <| CJ_entX (Ent.transX (t0_ eR) (LogP_open (l := r17.2.1))) fun oc26 => CJ_pure (len_of (Reads.rdp _ _ _) del2) fun hlen28 => CJ_region <| oM rfl rfl <| oP (P_nilCheck rfl) rfl <| oP (P_fieldAddr rfl ⟨_, _, _, Try.runUnderlying102, rfl, rfl, Try.sizeOf100, rfl⟩) rfl <| oV (V_load rfl foc0 rfl Try.isAgg100) rfl <| oM rfl rfl <| oP (P_build rfl (bld_103)) rfl <| oO <| O_mapUpdate (M := mp100) (k := region) (v := ()) rfl rfl rfl foc3 ok_mp100 <| RJ_nil <| QJ_ent (Ent.trans eR (LogP_mk (v0 := r17.2.1.x) (v1 := r17.2.1.regions) (v2 := r17.2.1.bits) (v3 := (setM r17.2.1.durable region ())) (h0 := oc26.1) (h1 := oc26.2.1) (h2 := oc26.2.2))) <| QJ_then <| sR <| oA rfl rfl <| nT <| CJ_ret ?_
     cases h
     exact fE (res1 Try.results45 rfl) () (t0_ (t1_ (eD (eD eR))))
def regionlog_Log_IsDirty (l : LogS) (region : Int) (s : ArrS) : Option (Bool) :=
  if ((region < (0 : Int)) ∨ (l.regions ≤ region)) then
    some false
  else
    Option.bind (pack_Bit l.bits region) fun r16 =>
    some r16.1
theorem L_regionlog_Log_IsDirty {W : World} {bl : Nat} {bs : Nat} {l : LogS} {region : Int} {s : ArrS} {r : Bool} (h : regionlog_Log_IsDirty l region s = some r) :
    CSpec Try.prog W 78 [ptr bl 0, .int .i64 region] [LogP bs bl l, Arr bs s] (fun x : Unit => .bool r) (fun _ => True) (fun x F => LogP bs bl l :: Arr bs s :: F) := by
 refine CSpec.of_body Try.func78 rfl Try.ntmps78 rfl fun F => ?_
 show CJ _ _ _ _ _ _ (_ :: _ :: F)
 unfold regionlog_Log_IsDirty at h
 refine sR <| oA rfl rfl <| nT <| CJ_seq <| sR <| oM rfl rfl <| oP (P_lss (a := region) (b := (0 : Int)) rfl rfl) rfl <| oM rfl rfl <| RJ_mbF rfl rfl rfl (fun hG1 => have hP2 : ¬ (region < (0 : Int)) := nP (bT_dec) hG1; VJ_P (P_move rfl)) <| RJ_mbF rfl rfl rfl (fun hG3 => have hP4 : ¬ (region < (0 : Int)) := nP (bT_dec) hG3; VJ_P (P_move rfl)) <| RJ_mbF rfl rfl rfl (fun hG5 => have hP6 : ¬ (region < (0 : Int)) := nP (bT_dec) hG5; VJ_P (P_nilCheck (mbx hG5 rfl))) <| RJ_mbF rfl rfl rfl (fun hG7 => have hP8 : ¬ (region < (0 : Int)) := nP (bT_dec) hG7; VJ_P (P_fieldAddr (mbx hG7 rfl) ⟨_, _, _, Try.runUnderlying102, rfl, rfl, Try.sizeOf3, rfl⟩)) <| RJ_mbF rfl rfl rfl (fun hG9 => have hP10 : ¬ (region < (0 : Int)) := nP (bT_dec) hG9; VJ_entX (Ent.transX (t0_ eR) (LogP_open (l := l))) (fun _ => V_load (mbx hG9 rfl) foc0 rfl Try.isAgg3)) <| RJ_mbF rfl rfl rfl (fun hG11 => have hP12 : ¬ (region < (0 : Int)) := nP (bT_dec) hG11; VJ_P (P_geq (a := region) (b := l.regions) (mbx hG11 rfl) (mbx hG11 rfl))) <| oP (P_pickOr rfl rfl (fun hh => mbx (not_f hh) rfl)) rfl <| nT <| CJ_condP rfl (bT_or bT_dec bT_dec) (fun hg1 => ?_) (fun hg1 => ?_)
 ·
  replace h := ite_t hg1 h
  refine sR <| oA rfl rfl <| nT <| CJ_ret <| QJ_then_ret ?_
  cases h
  exact fE (res1 Try.results78 rfl) () eR
 ·
  replace h := ite_f hg1 h
  refine kT <| CJ_seq <| CJ_entX (Ent.transX (t0_ eR) (LogP_open (l := l))) fun oc13 => CJ_pure (len_of (Reads.rdp _ _ _) del2) fun hlen15 => CJ_region <| oM rfl rfl <| oP (P_nilCheck rfl) rfl <| oP (P_fieldAddr rfl ⟨_, _, _, Try.runUnderlying102, rfl, rfl, Try.sizeOf27, rfl⟩) rfl <| oV (V_load rfl foc0 rfl Try.isAgg27) rfl <| oM rfl rfl ?_
  obtain ⟨r16, hr17, h⟩ := bind_e h
  refine oO <| O_call (L_pack_Bit (Reads.rdp _ _ _) hr17) rfl Try.call81 (Dels.cons del2 Dels.nil) rfl fun _ _ => oM rfl rfl <| oP (P_extract rfl rfl) rfl <| oP (P_extract rfl rfl) rfl <| oA rfl rfl <| oA rfl rfl <| RJ_nil <| QJ_ent (Ent.trans (t1_ (t1_ eR)) (LogP_mk (v0 := l.x) (v1 := l.regions) (v2 := l.bits) (v3 := l.durable) (h0 := oc13.1) (h1 := oc13.2.1) (h2 := oc13.2.2))) <| QJ_then <| sR <| oM rfl rfl <| oA rfl rfl <| nT <| CJ_ret ?_
  cases h
  exact fE (res1 Try.results78 rfl) () eR
def regionlog_Log_Dirty_l1_b (l : LogS) (s : ArrS) (rec : (List Int) → Nat → Option ((List Int))) (x8 : List Int) (x10 : Nat) : Option ((List Int)) :=
  if (((x10 : Nat) : Int) < l.regions) then
    Option.bind (regionlog_Log_IsDirty l (((x10 : Nat) : Int)) s) fun r12 =>
    if r12 = true then
      grd (inLen (x8.length + 1)) <|
      grd (inN64 (x10 + 1)) <|
      rec ((x8 ++ [((x10 : Nat) : Int)])) (x10 + 1)
    else
      grd (inN64 (x10 + 1)) <|
      rec x8 (x10 + 1)
  else
    some x8
def regionlog_Log_Dirty_l1 (l : LogS) (s : ArrS) : Nat → (List Int) → Nat → Option ((List Int))
  | 0, _, _ => none
  | n + 1, x8, x10 => regionlog_Log_Dirty_l1_b l s (regionlog_Log_Dirty_l1 l s n) x8 x10
def regionlog_Log_Dirty (l : LogS) (s : ArrS) : Option ((List Int)) :=
  Option.bind (regionlog_Log_Dirty_l1 l s FUEL ([]) 0) fun a7 =>
  some a7
theorem L_regionlog_Log_Dirty {W : World} {bl : Nat} {bs : Nat} {l : LogS} {s : ArrS} {r : (List Int)} (h : regionlog_Log_Dirty l s = some r) :
    CSpec Try.prog W 62 [ptr bl 0] [LogP bs bl l, Arr bs s] (fun x : Sl3 => x.v) (fun _ => True) (fun x F => LogP bs bl l :: Arr bs s :: sl tyI x.v r :: F) := by
 refine CSpec.of_body Try.func62 rfl Try.ntmps62 rfl fun F => ?_
 show CJ _ _ _ _ _ _ (_ :: _ :: F)
 unfold regionlog_Log_Dirty at h
 refine sR <| oA rfl rfl <| nT <| sR <| oA rfl rfl <| nT <| CJ_seq <| sR <| oM rfl rfl <| oP (P_nilCheck rfl) rfl <| oP (P_fieldAddr rfl ⟨_, _, _, Try.runUnderlying102, rfl, rfl, Try.sizeOf3, rfl⟩) rfl <| oV (VJ_entX (Ent.transX (t0_ eR) (LogP_open (l := l))) (fun _ => V_load rfl foc0 rfl Try.isAgg3)) rfl <| oM rfl rfl <| nT <| CJ_ent (fun h hh => sl_nil (t := tyI) h hh) ?_
 obtain ⟨y4, hl2, hK3⟩ := bind_c h
 refine CJ_cutT (X := (List Int) × Sl3) [3, 4, 9, 10, 11, 12, 13, 14, 15, 16, 17, 18, 19] (fun ⟨a7, hd6⟩ => ([(3, hd6.v)] : Slots)) (fun ⟨a7, hd6⟩ R => sl tyI hd6.v a7 :: R) (fun ⟨a7, hd6⟩ => y4 = a7) (Dels.cons del0 Dels.nil) ?_ ?_
 ·
  refine CJ_block <| CJ_loopR (X := Nat × (List Int) × Nat × Sl3) [3, 4, 9, 10, 11, 12, 13, 14, 15, 16, 17, 18, 19] (fun ⟨n, x8, x10, hd9⟩ => ([(3, hd9.v), (9, .int .i64 (((x10 : Nat) : Int)))] : Slots)) (fun ⟨n, x8, x10, hd9⟩ R => sl tyI hd9.v x8 :: R) (fun ⟨n, x8, x10, hd9⟩ => regionlog_Log_Dirty_l1 l s n x8 x10 = some y4) (fun ⟨n, x8, x10, hd9⟩ => n) ⟨FUEL, [], 0, ⟨none, 0, 0⟩⟩ ?_ ?_ eR ?_
  · exact hl2
  · exact ⟨rfl, rfl, True.intro⟩
  ·
   rintro ⟨n, x8, x10, hd9⟩ h
   cases n with
   | zero => exact none_e h
   | succ n => ?_
   replace h : regionlog_Log_Dirty_l1_b l s (regionlog_Log_Dirty_l1 l s n) x8 x10 = some y4 := h
   unfold regionlog_Log_Dirty_l1_b at h
   show CJ _ _ _ _ _ (([(3, hd9.v), (9, .int .i64 (((x10 : Nat) : Int)))] : Slots) ++ forget _ _) (sl tyI hd9.v x8 :: _)
   refine lC del0 fun hlen11 => sR <| oP (P_lss (a := ((x10 : Nat) : Int)) (b := l.regions) rfl rfl) rfl <| nT <| CJ_seq <| CJ_condP rfl bT_dec (fun hg1 => ?_) (fun hg1 => ?_)
   ·
    replace h := ite_t hg1 h
    refine kT <| CJ_seq <| CJ_block <| sR <| oM rfl rfl <| oA rfl rfl <| nT <| sR <| oM rfl rfl <| oM rfl rfl ?_
    obtain ⟨r12, hr13, h⟩ := bind_e h
    refine oO <| O_call (L_regionlog_Log_IsDirty hr13) rfl Try.call78 (Dels.cons del1 (Dels.cons del1 Dels.nil)) rfl fun _ _ => nT <| CJ_condP rfl Iff.rfl (fun hg2 => ?_) (fun hg2 => ?_)
    ·
     replace h := ite_t hg2 h
     refine CJ_region <| oM rfl rfl <| oM rfl rfl <| oO <| O_buildSlice rfl (bs_22_1_0 _) rfl fun b14 => ?_
     obtain ⟨hg3, h⟩ := grd_Le h
     refine oO <| O_append (t := tyI) (bytes := 8) rfl rfl del3 foc0 (Reads.lit (t := tyI) (ys := [((x10 : Nat) : Int)]) rfl rfl (by decide) (by decide) rfl) Try.underlying22 ok_tyI (apl (m := 1) (b := 8) hg3 (by decide)).1 (apl (m := 1) (b := 8) hg3 (by decide)).2 rfl fun p16 c17 => oA rfl rfl <| RJ_nil <| QJ_block_normal <| QJ_then <| CJ_region ?_
     obtain ⟨hg4, h⟩ := grd_Ne h
     exact oP (PJ_eq (P_add (a := ((x10 : Nat) : Int)) (b := (1 : Int)) rfl rfl (nat_in hg4)) rfl) rfl <| oM rfl rfl <| RJ_nil <| nR ⟨n, (x8 ++ [((x10 : Nat) : Int)]), (x10 + 1), ⟨p16, (x8 ++ [((x10 : Nat) : Int)]).length, c17⟩⟩ h ⟨rfl, rfl, True.intro⟩ (t0_ (t1_ (t1_ (eD eR))))
    ·
     replace h := ite_f hg2 h
     refine CJ_skip <| QJ_block_normal <| QJ_then <| CJ_region ?_
     obtain ⟨hg5, h⟩ := grd_Ne h
     exact oP (PJ_eq (P_add (a := ((x10 : Nat) : Int)) (b := (1 : Int)) rfl rfl (nat_in hg5)) rfl) rfl <| oM rfl rfl <| RJ_nil <| nR ⟨n, x8, (x10 + 1), hd9⟩ h ⟨rfl, rfl, True.intro⟩ (t2_ eR)
   ·
    replace h := ite_f hg1 h
    exact CJ_exit <| QJ_then_exit <| QJ_round_exit <| QJ_block_here <| cR ⟨x8, hd9⟩ (Option.some.inj h).symm ⟨rfl, True.intro⟩ eR
 ·
  rintro ⟨a7, hd6⟩ hy18
  replace h := bindK_at hK3 hy18
  show CJ _ _ _ _ _ (([(3, hd6.v)] : Slots) ++ forget _ _) (sl tyI hd6.v a7 :: _)
  refine lC del0 fun hlen19 => sR <| oM rfl rfl <| oA rfl rfl <| nT <| CJ_ret ?_
  cases h
  exact fE (res1 Try.results62 rfl) hd6 (t1_ (t1_ eR))
end Go.Proofs
namespace Go.Proofs
open Go.VG
abbrev xL (d m : Nat) : Dvc := Dvc.span (d : Int) ((0 : Nat) : Int) (m : Int)
def headL (R : Nat) : UInt64 := (5498691735368237056 : UInt64) + to_u64 (R : Int)
def nW (R : Nat) : Nat := (R + 63) / 64
theorem wordsI {r : Int} : regionlog_Words r = some (if r < 1 ∨ 1048576 < r then 0 else 1 + (r + 63) / 64) := by unfold regionlog_Words; split <;> rfl
theorem wordsN {R : Nat} (hR : 1 ≤ R ∧ R ≤ 1048576) : regionlog_Words (R : Int) = some (((1 + nW R : Nat) : Int)) := by
  rw [wordsI, if_neg (by omega)]; exact congrArg some (by unfold nW; omega)
section
variable {ns : List Nat} {K d m : Nat} {s : ArrS}
theorem log_rd (hd : d < ns.length) (hm : ns.getD d 0 = m) (hb : m ≤ 1000000) (h : ArrOk ns K s) (hdn : s.down = false) (hms : miss s d = false) {k : Nat} (hk : k < m) : (xL d m).rd s (k : Int) = some (now s d k, 0) := by
  obtain ⟨h1, h2⟩ := h.rdA hdn hd (a := k) (by rw [hm]; exact hk) hms
  rw [span_rd (by omega) (by omega), if_pos (by omega)]
  have e : ((0 : Nat) : Int) + (k : Int) = ((k : Nat) : Int) := by omega
  rw [e, h1, h2]
theorem log_wr (hd : d < ns.length) (hm : ns.getD d 0 = m) (hb : m ≤ 1000000) (h : ArrOk ns K s) (hK : K ≤ 1000000) {k : Nat} {v : UInt64} (hk : k < m) : (xL d m).wr s (k : Int) v = some (wrR s d k, wrS s d k v) := by
  rw [span_wr (by omega) (by omega) (by have := h.wr; omega), if_pos (by omega)]
  have e : ((0 : Nat) : Int) + (k : Int) = ((k : Nat) : Int) := by omega
  rw [e]
theorem log_fl (hd : d < ns.length) (hm : ns.getD d 0 = m) (hb : m ≤ 1000000) (h : ArrOk ns K s) (hK : K ≤ 1000000) : (xL d m).fl s = some (flC s d, flS s d) := span_fl (by have := h.wr; omega)
def zs (d : Nat) (s : ArrS) : Nat → ArrS
  | 0 => s
  | i + 1 => wrS (zs d s i) d ((1 + i : Nat) : Int) 0
structure Zd (ns : List Nat) (K d : Nat) (s : ArrS) (i : Nat) (t : ArrS) : Prop where
  ok : ArrOk ns (K + i) t
  dn : t.down = false
  fuse : t.fuse = 0
  miss : ∀ e, Go.Proofs.miss t e = Go.Proofs.miss s e
  now : ∀ e b, Go.Proofs.now t e b = if e = d ∧ 1 ≤ b ∧ b < 1 + i then 0 else Go.Proofs.now s e b
  other : ∀ e b, e ≠ d → cand t e b = cand s e b
theorem zs_ok (hd : d < ns.length) (hm : ns.getD d 0 = m) (hb : m ≤ 1000000) (h : ArrOk ns K s) (hdn : s.down = false) (hms : miss s d = false) (hf : s.fuse = 0) : ∀ {i : Nat}, 1 + i ≤ m → K + i ≤ 1000000 → Zd ns K d s i (zs d s i)
  | 0, _, _ => ⟨h, hdn, hf, fun _ => rfl, fun e b => by rw [if_neg (by omega)]; rfl, fun _ _ _ => rfl⟩
  | i + 1, hi, hK => by
    have hz := zs_ok hd hm hb h hdn hms hf (i := i) (by omega) (by omega)
    rcases hz.ok.wrA (d := d) (a := 1 + i) (v := 0) (by omega) hz.dn hd (by rw [hm]; omega) (by rw [hz.miss]; exact hms) with ⟨h1, h2, h3⟩ | ⟨h1, -⟩
    · refine ⟨h3.ok, h3.dn, by show (wrS _ _ _ _).fuse = 0; rw [h3.fuse, hz.fuse], fun e => by show miss (wrS _ _ _ _) e = _; rw [h3.miss, hz.miss], fun e b => ?_, fun e b he => ?_⟩
      · show now (wrS _ _ _ _) e b = _
        rw [h3.now, hz.now]
        by_cases h4 : d = e ∧ 1 + i = b
        · rw [if_pos h4, if_pos (by omega)]
        · rw [if_neg h4]
          by_cases h5 : e = d ∧ 1 ≤ b ∧ b < 1 + i
          · rw [if_pos h5, if_pos (by omega)]
          · rw [if_neg h5, if_neg (by omega)]
      · show cand (wrS _ _ _ _) e b = _
        rw [h3.cand, if_neg (fun x => he x.1.symm), hz.other e b he]
    · rw [hz.fuse] at h1; cases h1
structure Fresh (ns : List Nat) (K d m R : Nat) (s t : ArrS) : Prop where
  ok : ArrOk ns K t
  dn : t.down = false
  fuse : t.fuse = 0
  miss : ∀ e, Go.Proofs.miss t e = Go.Proofs.miss s e
  now : ∀ b, b < m → Go.Proofs.now t d b = if b = 0 then headL R else if b < 1 + nW R then 0 else Go.Proofs.now s d b
  cand : ∀ b, b < m → Go.Proofs.cand t d b = [Go.Proofs.now t d b]
  other : ∀ e b, e ≠ d → e < ns.length → b < ns.getD e 0 → Go.Proofs.now t e b = Go.Proofs.now s e b ∧ Go.Proofs.cand t e b = Go.Proofs.cand s e b
  last : ∃ u, Coh u ∧ u.drv.length = ns.length ∧ flC u d = 0 ∧ t = flS u d
theorem checkN (hd : d < ns.length) (hm : ns.getD d 0 = m) (hb : m ≤ 1000000) {R : Nat} (hR : 1 ≤ R ∧ R ≤ 1048576) : regionlog_check (xL d m) (R : Int) s = some (if m < 1 + nW R then 3 else 0) := by
  unfold regionlog_check
  rw [wordsN hR]; simp only [Option.bind_some]
  rw [if_neg (by omega), span_size]; simp only [Option.bind_some]
  by_cases h : m < 1 + nW R
  · rw [if_pos (by omega), if_pos h]
  · rw [if_neg (by omega), if_neg h]
theorem format_eq (hd : d < ns.length) (hm : ns.getD d 0 = m) (hb : m ≤ 1000000) (h : ArrOk ns K s) (hdn : s.down = false) (hms : miss s d = false) (hf : s.fuse = 0) {R : Nat} (hR : 1 ≤ R ∧ R ≤ 1048576) (hW : 1 + nW R ≤ m) (hK : K + m ≤ 1000000) :
    ∃ t, regionlog_Format (xL d m) (R : Int) s = some (0, t) ∧ Fresh ns (K + nW R + 1) d m R s t := by
  unfold regionlog_Format
  rw [checkN hd hm hb hR, if_neg (by omega)]; simp only [Option.bind_some]
  rw [if_neg (by decide), wordsN hR]; simp only [Option.bind_some]
  have hn16 : nW R ≤ 16384 := by unfold nW; omega
  have e1 : ((1 + nW R : Nat) : Int) - 1 = ((nW R : Nat) : Int) := by omega
  rw [e1, grd_t (inI64_of (by omega)), grd_t (decide_eq_true ⟨by omega, by omega⟩), Int.toNat_natCast]
  have hz := fun i (hi : i ≤ nW R) => zs_ok hd hm hb h hdn hms hf (i := i) (by omega) (by omega)
  have hwa := writeAll_eq (x := xL d m) (at_ := 1) (m := (m : Int)) (l := List.replicate (nW R) 0) (st := zs d s) rfl (by omega) ⟨by omega, by rw [List.length_replicate]; omega⟩ (fun i hi => by
    rw [List.length_replicate] at hi
    have e2 : (1 : Int) + (i : Int) = ((1 + i : Nat) : Int) := by omega
    have hzi := hz i (by omega)
    rw [e2, log_wr hd hm hb hzi.ok (by omega) (by omega)]
    have e3 : (List.replicate (nW R) (0 : UInt64)).getD i 0 = 0 := by simp [List.getD, hi]
    rw [e3]
    rcases hzi.ok.wrA (d := d) (a := 1 + i) (v := 0) (by omega) hzi.dn hd (by rw [hm]; omega) (by rw [hzi.miss]; exact hms) with ⟨-, h2, -⟩ | ⟨h1, -⟩
    · rw [h2]; rfl
    · rw [hzi.fuse] at h1; cases h1)
  rw [List.length_replicate] at hwa
  have hz0 : zs d s 0 = s := rfl
  rw [hz0] at hwa
  rw [hwa]; simp only [Option.bind_some]
  have hzn := hz (nW R) (Nat.le_refl _)
  rw [if_neg (by decide), log_fl hd hm hb hzn.ok (by omega)]; simp only [Option.bind_some]
  obtain ⟨f1, f2⟩ := hzn.ok.flA (d := d) hzn.dn hd (by rw [hzn.miss]; exact hms)
  rw [if_neg (by rw [f1]; decide)]
  have e0 : (0 : Int) = ((0 : Nat) : Int) := rfl
  rw [e0, log_wr hd hm hb f2.ok (by omega) (by omega)]; simp only [Option.bind_some]
  rcases f2.ok.wrA (d := d) (a := 0) (v := (5498691735368237056 : UInt64) + to_u64 (R : Int)) (by omega) f2.dn hd (by rw [hm]; omega) (by rw [f2.miss, hzn.miss]; exact hms) with ⟨-, g2, g3⟩ | ⟨g1, -⟩
  · rw [g2, if_neg (by decide), log_fl hd hm hb g3.ok (by omega)]; simp only [Option.bind_some]
    obtain ⟨k1, k2⟩ := g3.ok.flA (d := d) g3.dn hd (by rw [g3.miss, f2.miss, hzn.miss]; exact hms)
    rw [k1]
    refine ⟨_, rfl, k2.ok, k2.dn, by rw [k2.fuse, g3.fuse, f2.fuse, hzn.fuse], fun e => by rw [k2.miss, g3.miss, f2.miss, hzn.miss], fun b hbm => ?_, fun b hbm => ?_, fun e b he hel hbl => ?_, _, g3.ok.coh, g3.ok.sz.cnt, k1, rfl⟩
    · rw [k2.now, g3.now, f2.now, hzn.now]
      by_cases b0 : b = 0
      · subst b0; rw [if_pos ⟨rfl, rfl⟩, if_pos rfl]; rfl
      · rw [if_neg (fun x => b0 x.2.symm), if_neg b0]
        by_cases b1 : b < 1 + nW R
        · rw [if_pos ⟨rfl, by omega, b1⟩, if_pos b1]
        · rw [if_neg (fun x => b1 x.2.2), if_neg b1]
    · rw [k2.cand d b hd (by rw [hm]; exact hbm), if_pos rfl, k2.now]
    · refine ⟨?_, ?_⟩
      · rw [k2.now, g3.now, f2.now, hzn.now, if_neg (fun x => he x.1.symm), if_neg (fun x => he x.1)]
      · rw [k2.cand e b hel hbl, if_neg (fun x => he x.symm), g3.cand, if_neg (fun x => he x.1.symm), f2.cand e b hel hbl, if_neg (fun x => he x.symm), hzn.other e b he]
  · rw [f2.fuse, hzn.fuse] at g1; cases g1
def openL (x : Dvc) (R : Nat) (f : Nat → UInt64) : LogS := ⟨x, (R : Int), (List.range (nW R)).map fun i => f (1 + i), []⟩
theorem open_eq (hd : d < ns.length) (hm : ns.getD d 0 = m) (hb : m ≤ 1000000) (h : ArrOk ns K s) (hdn : s.down = false) (hms : miss s d = false) {R : Nat} (hR : 1 ≤ R ∧ R ≤ 1048576) (hW : 1 + nW R ≤ m) :
    regionlog_Open (xL d m) (R : Int) s = some (if now s d 0 = headL R then (some (openL (xL d m) R (now s d)), 0) else (none, 2)) := by
  unfold regionlog_Open
  rw [checkN hd hm hb hR, if_neg (by omega)]; simp only [Option.bind_some]
  rw [if_neg (by decide), wordsN hR]; simp only [Option.bind_some]
  rw [readAll_eq (x := xL d m) (at_ := 0) (m := (m : Int)) (f := now s d) rfl (by omega) ⟨by omega, by omega⟩ (fun i hi => by
    have e : (0 : Int) + (i : Int) = ((i : Nat) : Int) := by omega
    rw [e, log_rd hd hm hb h hdn hms (by omega)])]
  simp only [Option.bind_some]
  have hl : ((List.range (1 + nW R)).map (now s d)).length = 1 + nW R := by simp
  have e0 : ((List.range (1 + nW R)).map (now s d)).getD 0 0 = now s d 0 := getD_map_range (by omega)
  rw [if_neg (by decide), grd_t (decide_eq_true (by rw [hl]; omega)), e0]
  by_cases hh : now s d 0 = headL R
  · rw [if_neg (fun x => x hh), if_pos hh, grd_t (decide_eq_true ⟨by rw [hl]; omega, Nat.le_refl _⟩), List.take_length]
    have e2 : ((List.range (1 + nW R)).map (now s d)).drop 1 = (List.range (nW R)).map fun i => now s d (1 + i) := by
      apply List.ext_getElem (by simp)
      intro i h1 h2
      simp [Nat.add_comm]
    rw [e2]; rfl
  · rw [if_pos (show now s d 0 ≠ (5498691735368237056 : UInt64) + to_u64 (R : Int) from hh), if_neg hh]
end
def dirtyL (l : List UInt64) (n : Nat) : List Int := ((List.range n).filter fun r => bitR l r).map fun r => ((r : Nat) : Int)
theorem dirtyL_succ {l : List UInt64} {n : Nat} : dirtyL l (n + 1) = dirtyL l n ++ if bitR l n then [((n : Nat) : Int)] else [] := by
  unfold dirtyL
  rw [List.range_succ, List.filter_append, List.map_append]
  congr 1
  by_cases h : bitR l n = true <;> simp [h]
theorem dirtyL_le {l : List UInt64} {n : Nat} : (dirtyL l n).length ≤ n := by
  unfold dirtyL
  rw [List.length_map]
  exact Nat.le_trans (List.length_filter_le _ _) (by simp)
theorem isDirty_eq {l : LogS} {R : Nat} {s : ArrS} {r : Int} (hl : l.regions = (R : Int)) (hn : R ≤ 64 * l.bits.length) (hR : R ≤ 1048576) : regionlog_Log_IsDirty l r s = some (decide (0 ≤ r ∧ r < (R : Int)) && bitR l.bits r.toNat) := by
  unfold regionlog_Log_IsDirty
  rw [hl]
  by_cases h : 0 ≤ r ∧ r < (R : Int)
  · obtain ⟨k, rfl⟩ := Int.eq_ofNat_of_zero_le h.1
    rw [if_neg (by omega), packBit (by omega) (by omega)]
    simp only [Option.bind_some]
    rw [decide_eq_true h, Bool.true_and, Int.toNat_natCast]
  · rw [if_pos (by omega), decide_eq_false h, Bool.false_and]
theorem dirty_l1 {l : LogS} {R : Nat} {s : ArrS} (hl : l.regions = (R : Int)) (hn : R ≤ 64 * l.bits.length) (hR : R ≤ 1048576) : ∀ (N i : Nat), R - i < N → i ≤ R → regionlog_Log_Dirty_l1 l s N (dirtyL l.bits i) i = some (dirtyL l.bits R)
  | 0, _, h, _ => absurd h (by omega)
  | N + 1, i, h, hi => by
    show regionlog_Log_Dirty_l1_b _ _ _ _ _ = _
    unfold regionlog_Log_Dirty_l1_b
    rw [hl]
    by_cases hlt : i < R
    · have hrec := dirty_l1 hl hn hR (s := s) N (i + 1) (by omega) (by omega)
      rw [dirtyL_succ] at hrec
      rw [if_pos (by omega), isDirty_eq hl hn hR]; simp only [Option.bind_some]
      rw [decide_eq_true (⟨by omega, by omega⟩ : 0 ≤ (i : Int) ∧ (i : Int) < (R : Int)), Bool.true_and, Int.toNat_natCast]
      have hle := @dirtyL_le l.bits i
      by_cases hb : bitR l.bits i = true
      · rw [if_pos hb] at hrec
        rw [if_pos hb, grd_t (inLen_of (by omega)), grd_t (inN64_of (by omega)), hrec]
      · rw [if_neg hb, List.append_nil] at hrec
        rw [if_neg hb, grd_t (inN64_of (by omega)), hrec]
    · rw [if_neg (by omega)]
      have : i = R := by omega
      rw [this]
theorem dirty_eq {l : LogS} {R : Nat} {s : ArrS} (hl : l.regions = (R : Int)) (hn : R ≤ 64 * l.bits.length) (hR : R ≤ 1048576) : regionlog_Log_Dirty l s = some (dirtyL l.bits R) := by
  unfold regionlog_Log_Dirty
  have hF := fuel_big
  have h := dirty_l1 hl hn hR (s := s) FUEL 0 (by omega) (by omega)
  have e : dirtyL l.bits 0 = [] := rfl
  rw [e] at h
  rw [h]; rfl
end Go.Proofs
namespace Go.Proofs
open Go.VG
structure LogOk (d m R : Nat) (l : LogS) : Prop where
  x : l.x = xL d m
  reg : l.regions = (R : Int)
  len : l.bits.length = nW R
  nd : (l.durable.map (·.1)).Nodup
end Go.Proofs
set_option linter.unusedSimpArgs false
set_option linter.unusedVariables false
set_option maxRecDepth 20000
set_option maxHeartbeats 4000000
namespace Go.Proofs
open Go.VG
def volumegroupref20_Head (regions : Int) : Option (UInt64) :=
  some (((5498691735368237056 : UInt64) + (to_u64 regions)))
theorem L_volumegroupref20_Head {W : World} {regions : Int} {r : UInt64} (h : volumegroupref20_Head regions = some r) :
    CSpec Try.prog W 9 [.int .i64 regions] [] (fun x : Unit => .int .u64 (r.toNat : Int)) (fun _ => True) (fun x F => F) := by
 refine CSpec.of_body Try.func9 rfl Try.ntmps9 rfl fun F => ?_
 show CJ _ _ _ _ _ _ (F)
 unfold volumegroupref20_Head at h
 refine sR <| oA rfl rfl <| nT <| sR <| oM rfl rfl <| oP (P_conv_u64 (a := regions) rfl Try.runUnderlying3 Try.runUnderlying33) rfl <| oP (P_add_u64 (a := (5498691735368237056 : UInt64)) (b := (to_u64 regions)) rfl rfl) rfl <| oA rfl rfl <| nT <| CJ_ret ?_
 cases h
 exact fE (res1 Try.results9 rfl) () eR
def volumegroupref20_Words (regions : Int) : Option (Int) :=
  if ((regions < (1 : Int)) ∨ ((1048576 : Int) < regions)) then
    some (0 : Int)
  else
    some (((1 : Int) + ((regions + (63 : Int)) / (64 : Int))))
theorem L_volumegroupref20_Words {W : World} {regions : Int} {r : Int} (h : volumegroupref20_Words regions = some r) :
    CSpec Try.prog W 8 [.int .i64 regions] [] (fun x : Unit => .int .i64 r) (fun _ => True) (fun x F => F) := by
 refine CSpec.of_body Try.func8 rfl Try.ntmps8 rfl fun F => ?_
 show CJ _ _ _ _ _ _ (F)
 unfold volumegroupref20_Words at h
 refine sR <| oA rfl rfl <| nT <| CJ_seq <| sR <| oM rfl rfl <| oP (P_lss (a := regions) (b := (1 : Int)) rfl rfl) rfl <| oM rfl rfl <| RJ_mbF rfl rfl rfl (fun hG1 => have hP2 : ¬ (regions < (1 : Int)) := nP (bT_dec) hG1; VJ_P (P_move rfl)) <| RJ_mbF rfl rfl rfl (fun hG3 => have hP4 : ¬ (regions < (1 : Int)) := nP (bT_dec) hG3; VJ_P (P_gtr (a := regions) (b := (1048576 : Int)) (mbx hG3 rfl) rfl)) <| oP (P_pickOr rfl rfl (fun hh => mbx (not_f hh) rfl)) rfl <| nT <| CJ_condP rfl (bT_or bT_dec bT_dec) (fun hg1 => ?_) (fun hg1 => ?_)
 ·
  replace h := ite_t hg1 h
  refine sR <| oA rfl rfl <| nT <| CJ_ret <| QJ_then_ret ?_
  cases h
  exact fE (res1 Try.results8 rfl) () eR
 ·
  replace h := ite_f hg1 h
  refine kT <| sR <| oM rfl rfl <| oP (P_add (a := regions) (b := (63 : Int)) rfl rfl (by omega)) rfl <| oP (P_quo (a := (regions + (63 : Int))) (b := (64 : Int)) rfl rfl (by omega)) rfl <| oP (P_add (a := (1 : Int)) (b := ((regions + (63 : Int)) / (64 : Int))) rfl rfl (by omega)) rfl <| oA rfl rfl <| nT <| CJ_ret ?_
  cases h
  exact fE (res1 Try.results8 rfl) () eR
end Go.Proofs
set_option linter.unusedSimpArgs false
set_option linter.unusedVariables false
set_option maxRecDepth 20000
set_option maxHeartbeats 4000000
namespace Go.Proofs
open Go.VG
structure mlegS where
  dev : Dvc
  state : Int
  copied : Int
structure mlegH where
  dev : IfH
  state : Int
  copied : Int
abbrev mleg_x0 : mlegS := ⟨dv0, 0, 0⟩
abbrev mleg_h0 : mlegH := ⟨tyDev.dflt, 0, 0⟩
abbrev tymlegH : Ty mlegH := { T := 83, sz := 3, enc := fun x => [x.dev.v, .int .i64 x.state, .int .i64 x.copied], dflt := mleg_h0, len := fun _ => rfl, one := fun _ => rfl, pos := by decide }
theorem ok_tymlegH : ElemOk Try.prog tymlegH 32 := ⟨Try.t83, .agg #[.nilIface, .int .i64 0, .int .i64 0], by kernel_rfl, rfl, rfl, rfl, rfl⟩
def mk_mleg (l : List mlegS) (hs : List IfH) : List mlegH := List.zipWith (fun x h => ⟨h, x.state, x.copied⟩) l hs
theorem mk_mleg_len {l : List mlegS} {hs : List IfH} (hl : hs.length = l.length) : (mk_mleg l hs).length = l.length := by simp [mk_mleg, hl]
theorem mk_mleg_at {l : List mlegS} {hs : List IfH} (hl : hs.length = l.length) (i : Nat) : (mk_mleg l hs).getD i mleg_h0 = ⟨hs.getD i tyDev.dflt, (l.getD i mleg_x0).state, (l.getD i mleg_x0).copied⟩ := by
  by_cases h : i < l.length
  · have h2 : i < hs.length := by omega
    have h4 : i < (mk_mleg l hs).length := by rw [mk_mleg_len hl]; exact h
    simp only [List.getD, List.getElem?_eq_getElem h, List.getElem?_eq_getElem h2, List.getElem?_eq_getElem h4, Option.getD_some]
    simp [mk_mleg]
  · have h2 : ¬ i < hs.length := by omega
    have h3 : (mk_mleg l hs).length = l.length := mk_mleg_len hl
    simp only [List.getD]
    rw [List.getElem?_eq_none (by omega), List.getElem?_eq_none (by omega), List.getElem?_eq_none (by omega)]; rfl
theorem mk_mleg_set {l : List mlegS} {hs : List IfH} (hl : hs.length = l.length) {i : Nat} (hi : i < l.length) (y : mlegS) : (mk_mleg l hs).set i ⟨hs.getD i tyDev.dflt, y.state, y.copied⟩ = mk_mleg (l.set i y) hs := by
  apply List.ext_getElem (by simp [mk_mleg])
  intro j h1 h2
  rw [List.getElem_set]
  simp only [mk_mleg, List.getElem_zipWith, List.getElem_set]
  by_cases e : i = j
  · subst e; simp [List.getD, show i < hs.length by omega]
  · simp [e]
theorem mk_mleg_set_state {l : List mlegS} {hs : List IfH} (hl : hs.length = l.length) {i : Nat} (hi : i < l.length) (v : Int) : (mk_mleg l hs).set i { (mk_mleg l hs).getD i mleg_h0 with state := v } = mk_mleg (l.set i { l.getD i mleg_x0 with state := v }) hs := by
  rw [mk_mleg_at hl, ← mk_mleg_set hl hi]
theorem mk_mleg_dev_state {l : List mlegS} {i : Nat} (v : Int) : (l.set i { l.getD i mleg_x0 with state := v }).map mlegS.dev = l.map mlegS.dev := by
  apply List.ext_getElem (by simp)
  intro j h1 h2
  simp only [List.getElem_map, List.getElem_set]
  split
  · rename_i e; subst e; simp at h2; simp [List.getD, h2]
  · rfl
theorem mk_mleg_set_copied {l : List mlegS} {hs : List IfH} (hl : hs.length = l.length) {i : Nat} (hi : i < l.length) (v : Int) : (mk_mleg l hs).set i { (mk_mleg l hs).getD i mleg_h0 with copied := v } = mk_mleg (l.set i { l.getD i mleg_x0 with copied := v }) hs := by
  rw [mk_mleg_at hl, ← mk_mleg_set hl hi]
theorem mk_mleg_dev_copied {l : List mlegS} {i : Nat} (v : Int) : (l.set i { l.getD i mleg_x0 with copied := v }).map mlegS.dev = l.map mlegS.dev := by
  apply List.ext_getElem (by simp)
  intro j h1 h2
  simp only [List.getElem_map, List.getElem_set]
  split
  · rename_i e; subst e; simp at h2; simp [List.getD, h2]
  · rfl
theorem mk_mleg_snoc {l : List mlegS} {hs : List IfH} (hl : hs.length = l.length) (x : mlegS) (h : IfH) : mk_mleg l hs ++ [⟨h, x.state, x.copied⟩] = mk_mleg (l ++ [x]) (hs ++ [h]) := by
  simp only [mk_mleg]; rw [List.zipWith_append hl.symm]; rfl
theorem mk_mleg_rs {a : Nat} {l : List mlegS} {hs : List IfH} {i : Nat} {R : List HP} (hi : i < l.length) : Ent (Rs (DevP a) (l.map mlegS.dev) hs :: R) (DevP a (l.getD i mleg_x0).dev (hs.getD i tyDev.dflt) :: Rs (DevP a) (l.map mlegS.dev) hs :: R) := by
  have h := Rs_at (RP := DevP a) (fun _ _ => Dup_DevP) (dx := dv0) (dh := tyDev.dflt) (l := l.map mlegS.dev) (hs := hs) (i := i) (R := R) (by simpa using hi)
  have e : (l.map mlegS.dev).getD i dv0 = (l.getD i mleg_x0).dev := by simp [List.getD, hi]
  rwa [e] at h
structure MirS where
  legs : List mlegS
  log : Option LogS
  hasLog : Bool
  logState : Int
  size : Int
  region : Int
  dirty : List Bool
  copied : Int
def MirP (a b : Nat) (l : MirS) : HP := ex fun h : Sl3 × (List IfH) × Nat × Sl3 => star [blk b 74 [(Sl3.v h.1), oval l.log h.2.2.1, .bool l.hasLog, .int .i64 l.logState, .int .i64 l.size, .int .i64 l.region, (Sl3.v h.2.2.2), .int .i64 l.copied], sl tymlegH (Sl3.v h.1) (mk_mleg l.legs h.2.1), Rs (DevP a) (l.legs.map mlegS.dev) h.2.1, optP (LogP a h.2.2.1) l.log, sl tyB (Sl3.v h.2.2.2) l.dirty]
theorem MirP_open {a b : Nat} {l : MirS} {R : List HP} : EntX (MirP a b l :: R) fun h : Sl3 × (List IfH) × Nat × Sl3 => blk b 74 [(Sl3.v h.1), oval l.log h.2.2.1, .bool l.hasLog, .int .i64 l.logState, .int .i64 l.size, .int .i64 l.region, (Sl3.v h.2.2.2), .int .i64 l.copied] :: sl tymlegH (Sl3.v h.1) (mk_mleg l.legs h.2.1) :: Rs (DevP a) (l.legs.map mlegS.dev) h.2.1 :: optP (LogP a h.2.2.1) l.log :: sl tyB (Sl3.v h.2.2.2) l.dirty :: R :=
  fun _ hh => let ⟨c, hc⟩ := stars_ex.1 hh; ⟨c, stars_star.1 hc⟩
theorem MirP_mk {a b : Nat} {v0 : List mlegS} {v1 : Option LogS} {v2 : Bool} {v3 : Int} {v4 : Int} {v5 : Int} {v6 : List Bool} {v7 : Int} {h0 : Sl3} {h1 : List IfH} {h2 : Nat} {h3 : Sl3} {R : List HP} : Ent (blk b 74 [(Sl3.v h0), oval v1 h2, .bool v2, .int .i64 v3, .int .i64 v4, .int .i64 v5, (Sl3.v h3), .int .i64 v7] :: sl tymlegH (Sl3.v h0) (mk_mleg v0 h1) :: Rs (DevP a) (v0.map mlegS.dev) h1 :: optP (LogP a h2) v1 :: sl tyB (Sl3.v h3) v6 :: R) (MirP a b ⟨v0, v1, v2, v3, v4, v5, v6, v7⟩ :: R) :=
  fun _ hh => stars_ex.2 ⟨(h0, h1, h2, h3), stars_star.2 hh⟩
end Go.Proofs
