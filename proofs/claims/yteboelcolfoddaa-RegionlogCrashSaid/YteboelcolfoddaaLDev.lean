/- YteboelcolfoddaaLDev: lifted functions of the program; printed by lift.py. -/
import Derived.Test.YteboelcolfoddaaVgN
import Derived.Test.YteboelcolfoddaaVgQ
import Derived.Test.YteboelcolfoddaaCDisk1
import Derived.Test.YteboelcolfoddaaCDiskI
import Derived.Test.YteboelcolfoddaaCLoad
set_option linter.unusedSimpArgs false
set_option linter.unusedVariables false
set_option maxRecDepth 20000
set_option maxHeartbeats 4000000
namespace Go.Proofs
open Go.VG
abbrev tyDev : Ty IfH := { T := 38, sz := 1, enc := fun x => [.iface x.t x.u], dflt := ⟨0, .bool false⟩, len := fun _ => rfl, one := fun _ => rfl, pos := by decide }
theorem ok_tyDev : ElemOk Try.prog tyDev 16 := ⟨Try.t38, .nilIface, by kernel_rfl, rfl, rfl, rfl, rfl⟩
/-- What a device does: at most 'dep' steps lead to its methods. -/
structure Dvc where
  dep : Nat
  size : ArrS → Option Int
  rd : ArrS → Int → Option (UInt64 × Int)
  wr : ArrS → Int → UInt64 → Option (Int × ArrS)
  fl : ArrS → Option (Int × ArrS)
abbrev dv0 : Dvc := ⟨0, fun _ => none, fun _ _ => none, fun _ _ _ => none, fun _ => none⟩
structure DevOk (a : Nat) (x : Dvc) (h : IfH) (R : HP) : Prop where
  dup : Dup R
  dep : x.dep ≤ 60
  nil : ∀ n, 1 ≤ n → ∀ w, (nilAhead n h.t h.u "Write").run Try.prog w = .ok (some false) w
  size : ∀ {W s r}, x.size s = some r → IOk Try.prog W x.dep h "Size" [] [R, Arr a s] (fun _ : Unit => .int .i64 r) (fun _ => True) (fun _ F => R :: Arr a s :: F)
  rd : ∀ {W s k r}, x.rd s k = some r → IOk Try.prog W x.dep h "Read" [.int .i64 k] [R, Arr a s] (fun _ : Unit => .tuple #[.int .u64 (r.1.toNat : Int), .int .i64 r.2]) (fun _ => True) (fun _ F => R :: Arr a s :: F)
  wr : ∀ {W s k v r}, x.wr s k v = some r → IOk Try.prog W x.dep h "Write" [.int .i64 k, .int .u64 (v.toNat : Int)] [R, Arr a s] (fun _ : Unit => .int .i64 r.1) (fun _ => True) (fun _ F => R :: Arr a r.2 :: F)
  fl : ∀ {W s r}, x.fl s = some r → IOk Try.prog W x.dep h "Flush" [] [R, Arr a s] (fun _ : Unit => .int .i64 r.1) (fun _ => True) (fun _ F => R :: Arr a r.2 :: F)
def DevP (a : Nat) (x : Dvc) (h : IfH) : HP := ex fun R : HP => starX [emp (DevOk a x h R), R]
theorem DevP_mk {a : Nat} {x : Dvc} {h : IfH} {l : List HP} {R : List HP} (hk : DevOk a x h (starX l)) : Ent (l ++ R) (DevP a x h :: R) :=
  fun g hg => stars_ex.2 ⟨starX l, stars_starX.2 (stars_emp.2 ⟨hk, stars_starX.2 hg⟩)⟩
theorem Dup_DevP {a : Nat} {x : Dvc} {h : IfH} : Dup (DevP a x h) := by
  intro g ⟨R, h1, h2, hd, he, ⟨hk, hn⟩, h3, h4, hd2, he2, hR, h5⟩ k
  exact (Dup.starX (Hs := [emp (DevOk a x h R), R]) (by intro A hA; simp only [List.mem_cons, List.not_mem_nil, or_false] at hA; rcases hA with rfl | rfl; exact Dup.emp; exact hk.dup)) g ⟨h1, h2, hd, he, ⟨hk, hn⟩, h3, h4, hd2, he2, hR, h5⟩ k
theorem Dup_optDev {a : Nat} {x : Option Dvc} {h : IfH} : Dup (optP (DevP a · h) x) := by
  cases x with
  | none => exact Dup.emp
  | some x => exact Dup_DevP
theorem DevP_dep {a : Nat} {x : Dvc} {h : IfH} {R : List HP} (g : PH) (hg : stars (DevP a x h :: R) g) : x.dep ≤ 60 := by
  obtain ⟨R', hg⟩ := stars_ex.1 hg
  exact (stars_emp.1 (stars_starX.1 hg)).1.dep
theorem DevP_nil {a : Nat} {x : Dvc} {h : IfH} {R : List HP} (g : PH) (hg : stars (DevP a x h :: R) g) : ∀ n, 100 ≤ n → ∀ w, (nilAhead n h.t h.u "Write").run Try.prog w = .ok (some false) w := by
  obtain ⟨R', hg⟩ := stars_ex.1 hg
  exact fun n hn => (stars_emp.1 (stars_starX.1 hg)).1.nil n (by omega)
theorem DevP_E {P : Program} {a : Nat} {x : Dvc} {h : IfH} {W : World} {k : Nat} {g : IfH} {name : String} {args : List Value} {pre : List HP} {X : Type} {res : X → Value} {pf : X → Prop} {post : X → List HP → List HP}
    (hm : ∀ R, DevOk a x h R → IOk P W k g name args (R :: pre) res pf (fun y F => R :: post y F)) : IOk P W k g name args (DevP a x h :: pre) res pf (fun y F => DevP a x h :: post y F) := by
  refine IOk.exI fun R => IOk.starI (IOk.empI fun hk => ?_)
  refine (hm R hk).post0 fun y F => ?_
  exact fun g hg => stars_ex.2 ⟨R, stars_starX.2 (stars_emp.2 ⟨hk, hg⟩)⟩
theorem dev_Size {W : World} {a : Nat} {x : Dvc} {h : IfH} {s : ArrS} {r : Int} (e : x.size s = some r) (hd : x.dep ≤ 60) : ICall Try.prog W h.v "Size" [] [DevP a x h, Arr a s] (fun _ : Unit => .int .i64 r) (fun _ => True) (fun _ F => DevP a x h :: Arr a s :: F) := (DevP_E fun _ hk => hk.size e).call (by omega)
theorem dev_Read {W : World} {a : Nat} {x : Dvc} {h : IfH} {s : ArrS} {k : Int} {r : UInt64 × Int} (e : x.rd s k = some r) (hd : x.dep ≤ 60) : ICall Try.prog W h.v "Read" [.int .i64 k] [DevP a x h, Arr a s] (fun _ : Unit => .tuple #[.int .u64 (r.1.toNat : Int), .int .i64 r.2]) (fun _ => True) (fun _ F => DevP a x h :: Arr a s :: F) := (DevP_E fun _ hk => hk.rd e).call (by omega)
theorem dev_Write {W : World} {a : Nat} {x : Dvc} {h : IfH} {s : ArrS} {k : Int} {v : UInt64} {r : Int × ArrS} (e : x.wr s k v = some r) (hd : x.dep ≤ 60) : ICall Try.prog W h.v "Write" [.int .i64 k, .int .u64 (v.toNat : Int)] [DevP a x h, Arr a s] (fun _ : Unit => .int .i64 r.1) (fun _ => True) (fun _ F => DevP a x h :: Arr a r.2 :: F) := (DevP_E fun _ hk => hk.wr e).call (by omega)
theorem dev_Flush {W : World} {a : Nat} {x : Dvc} {h : IfH} {s : ArrS} {r : Int × ArrS} (e : x.fl s = some r) (hd : x.dep ≤ 60) : ICall Try.prog W h.v "Flush" [] [DevP a x h, Arr a s] (fun _ : Unit => .int .i64 r.1) (fun _ => True) (fun _ F => DevP a x h :: Arr a r.2 :: F) := (DevP_E fun _ hk => hk.fl e).call (by omega)
theorem optP_dev {a : Nat} {x : Dvc} {v : IfH} {R : List HP} : Ent (DevP a x v :: R) (optP (DevP a · v) (some x) :: R) := Ent.refl
abbrev tyRow : Ty Sl3 := { T := 22, sz := 1, enc := fun x => [x.v], dflt := ⟨none, 0, 0⟩, len := fun _ => rfl, one := fun _ => rfl, pos := by decide }
theorem ok_tyRow : ElemOk Try.prog tyRow 24 := ⟨Try.t22, .slice none 0 0, by kernel_rfl, rfl, rfl, rfl, rfl⟩
abbrev RowP (x : List UInt64) (h : Sl3) : HP := slR tyU h.v x
theorem Dup_RowP (x : List UInt64) (h : Sl3) : Dup (RowP x h) := Dup.slR
/-- Under B the heads read as rows. -/
def RowsR (B : HP) (l : List (List UInt64)) (hs : List Sl3) : Prop := hs.length = l.length ∧ ∀ i, i < l.length → Reads B tyU (Sl3.v (hs.getD i tyRow.dflt)) (l.getD i [])
theorem RowsR.nil {B : HP} : RowsR B [] [] := ⟨rfl, fun i h => absurd h (by simp)⟩
theorem RowsR.cons {A : HP} {As : List HP} {x : List UInt64} {g : Sl3} {l : List (List UInt64)} {hs : List Sl3} (h : Reads A tyU (Sl3.v g) x) (hr : RowsR (starX As) l hs) : RowsR (starX (A :: As)) (x :: l) (g :: hs) :=
  ⟨by simp [hr.1], fun i hi => by
    cases i with
    | zero => exact Reads.hd h
    | succ i => exact Reads.tl (hr.2 i (by simpa using hi))⟩
theorem RowsR.rs {l : List (List UInt64)} {hs : List Sl3} (hl : hs.length = l.length) : RowsR (Rs RowP l hs) l hs :=
  ⟨hl, fun _ hi => Reads.of_ent (Rs_at0 hi) (Reads.slR _ _ _)⟩
theorem reads_sl3 {α : Type} {t : Ty α} {A : HP} {v : Value} {xs : List α} {H R : List HP} (hr : Reads A t v xs) (hd : Del H A R) : ∀ h, stars H h → ∃ x : Sl3, v = Sl3.v x := by
  intro h hh
  obtain ⟨h1, h2, _, _, hA, _⟩ := stars_perm hd.out h hh
  rcases hr h1 hA with ⟨e, _⟩ | ⟨a, c, e, _⟩
  · exact ⟨⟨none, 0, 0⟩, e⟩
  · exact ⟨⟨some a, _, c⟩, e⟩
def newB (zs : List Int) : Bool := Nat.ble zs.length 8 && zs.all (fun z => decide (1 ≤ z) && decide (z ≤ 65536))
theorem newB_iff {zs : List Int} : newB zs = true ↔ NewOk zs := by
  unfold newB NewOk
  rw [Bool.and_eq_true, Nat.ble_eq, List.all_eq_true]
  refine and_congr Iff.rfl ⟨fun h k hk => ?_, fun h z hz => ?_⟩
  · have h1 := h zs[k] (List.getElem_mem hk)
    have : zs.getD k 0 = zs[k] := by simp [List.getD, hk]
    rw [this]; simpa using h1
  · obtain ⟨k, hk, rfl⟩ := List.getElem_of_mem hz
    have h1 := h k hk
    have : zs.getD k 0 = zs[k] := by simp [List.getD, hk]
    rw [this] at h1; simpa using h1
def newO (zs : List Int) : Option ArrS := if newB zs then some (newS zs) else none
def newC (zs : List Int) : Int := if newB zs then 0 else if Nat.blt 8 zs.length then 4 else 1
theorem c_NewO {W : World} {A : HP} {v : Value} {zs : List Int} (hA : Reads A tyI v zs) (hl : zs.length ≤ 1000000000) :
    CSpec Try.prog W 25 [v] [A] (fun b : Nat => .tuple #[oval (newO zs) b, .int .i64 (newC zs)]) (fun _ => True) (fun b F => optP (Arr b) (newO zs) :: A :: F) := by
  intro F w hs
  by_cases h : newB zs = true
  · have h2 := newB_iff.1 h
    unfold newO newC; rw [if_pos h, if_pos h]
    exact c_New hA h2 F w hs
  · have h2 : ¬ NewOk zs := fun e => h (newB_iff.2 e)
    unfold newO newC; rw [if_neg h, if_neg h]
    refine (c_NewBad hA h2 (by omega) F w hs).mono fun e w' ⟨x, hx, hp, hs'⟩ => ⟨0, ?_, trivial, hs'.imp (fun g hg => optP_none g hg)⟩
    rw [hx]
    by_cases h3 : 8 < zs.length
    · rw [if_pos h3, if_pos (by simpa [Nat.blt_eq] using h3)]; rfl
    · rw [if_neg h3, if_neg (by simpa [Nat.blt_eq] using h3)]; rfl
theorem reads_slice {α : Type} {t : Ty α} {A : HP} {v : Value} {xs : List α} (hA : Reads A t v xs) {h : PH} (hh : A h) : ∃ x : Sl3, v = x.v := by
  rcases hA h hh with ⟨e, _⟩ | ⟨a, c, e, _⟩
  · exact ⟨⟨none, 0, 0⟩, e⟩
  · exact ⟨⟨some a, _, c⟩, e⟩

end Go.Proofs
