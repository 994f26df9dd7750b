/- MapperDevices, part 4 of the proof: CMap1, PMapQ, CMap2, CMap3, CMap4, CMap5, PMapY, CMap6, PMapV, CMap7, CMap8, CMap9, PMapU, CMap10, CMap11, PMapD2. -/
import Derived.WalkKit
import Derived.Orders
import Derived.RangeFuncLeaves
import Derived.RangeFuncCalls
import Derived.TacticsIn
import Derived.Handy
import Derived.OrdersHeld
import Derived.OrdersIn
import Derived.Below
import Derived.OpenShut
import Derived.Deep.Slices
import Derived.Scope
import Derived.RangeFuncRecord
import Derived.ChangeKeysEq
import Derived.Laws.BytesArg
import Derived.KernelRfl
import Derived.Maps.RangeRun
import Derived.LaidEql
import Derived.ProofKit
import Derived.ShutString
import Derived.ChangeOld
import Derived.Test.YtbmipeiphoghcaaGreatChecked
import Derived.Test.YtbmipeiphoghcaaGreatRows
import Derived.Test.YtbmipeiphoghcaaGreatZMapperDevices3
set_option linter.unusedSimpArgs false
set_option maxRecDepth 20000
namespace Go.Proofs
open Go.VG
theorem zkn (v0 : (Option Addr)) (v1 : Nat) (v2 : Nat) (v3 : (Option Addr)) (v4 : Nat) (v5 : Nat) : zby Tryz.prog 119 2 [(0, .slice v0 v1 v2), (1, .slice v3 v4 v5)] 30 [.slice v0 v1 v2, .slice v3 v4 v5] := fun w => by kernel_rfl
theorem zl7 (v0 : (Option Addr)) : zby Tryz.prog 113 1 [(0, .pointer v0)] 85 [.pointer v0] := fun w => by kernel_rfl
section
variable {P : Program} {n : Env} {W : World} {o : Oper} {s : Slots} {H H' : List HP}
theorem zbu {v : Value} (he : Ent H H') (h : VJ P n W o s H' v) : VJ P n W o s H v := fun a w hf hs => h a w hf (hs.imp he)
theorem zel {α : Type} {t : Ty α} {A : HP} {v : Value} {xs : List α} {R : List HP} (he : Ent [A] (sl t v xs :: R)) : Reads A t v xs := fun h hA => by
  obtain ⟨h1, h2, hd, e, hs, _⟩ := he h ⟨h, fun _ => none, fun _ => .inr (.inl rfl), by funext k; simp [PH.uni], hA, trivial⟩
  rw [e]
  exact (Reads.sl t v xs h1 hs).mono hd
end
section
variable {X : HP} {c : MH} {m : Md} {k : Nat} {R : List HP}
theorem zcc (hk : m.isD k) : Reads (MapRG X c m) tyapi_Target (c.hd k).lv.v (m.at k).live := zel (R := blk (c.bs k) 111 (zfg (c.hd k) (m.at k)) :: sl tyapi_Target (c.hd k).nw.v (m.at k).new :: sl tyErr (c.hd k).wt.v ((m.at k).wait.map (wC c.bs)) :: [MRest X c m k]) (Ent.trans (za8 hk) (Ent.take del1 Ent.refl))
theorem rdNew (hk : m.isD k) : Reads (MapRG X c m) tyapi_Target (c.hd k).nw.v (m.at k).new := zel (Ent.trans (za8 hk) (Ent.take del2 Ent.refl))
theorem zg8 : Ent (MapR c m :: R) (mpc mBas c.bm c.bl :: mpc mDev c.dm c.dl :: sl tyS c.ov.v m.names :: sl zau c.tv.v m.told :: Go.VG.Own (DevC c.a c.bs) c.l :: Arr c.a c.s :: R) := fun _h hh => (stars_pur.1 (stars_star.1 hh)).2
theorem rdOrd : Reads (MapR c m) tyS c.ov.v m.names := zel (Ent.trans zg8 (Ent.take del2 Ent.refl))
end
def pdv (c : MH) (o : Option Nat) : Value := match o with | some k => ptr (c.bs k) 0 | none => .pointer none
namespace Md
theorem find_lt {m : Md} {n : ByteArray} {k : Nat} (h : m.find n = some k) : k < m.dv.length ∧ (m.at k).gone = false ∧ (m.at k).name = n := by
  obtain ⟨h1, h2, _⟩ := List.findIdx?_eq_some_iff_getElem.1 h
  have e : m.at k = m.dv[k] := by simp [Md.at, List.getD, h1]
  simp only [isN, Bool.and_eq_true, Bool.not_eq_true', decide_eq_true_eq] at h2
  exact ⟨h1, by rw [e]; exact h2.1, by rw [e]; exact h2.2⟩
theorem dev_is {m : Md} {n : ByteArray} {k : Nat} (h : m.dev n = some k) : m.isD k ∧ m.find n = some k := by
  unfold dev at h
  cases hf : m.find n with
  | none => rw [hf] at h; cases h
  | some i =>
    rw [hf] at h
    obtain ⟨h1, h2, h3⟩ := find_lt hf
    cases hb : (m.at i).isB with
    | true => simp [hb] at h
    | false =>
      simp [hb] at h; subst h
      exact ⟨⟨h1, h2, hb⟩, rfl⟩
theorem bas_is {m : Md} {n : ByteArray} {k : Nat} (h : m.bas n = some k) : m.isBs k ∧ m.find n = some k := by
  unfold bas at h
  cases hf : m.find n with
  | none => rw [hf] at h; cases h
  | some i =>
    rw [hf] at h
    obtain ⟨h1, h2, h3⟩ := find_lt hf
    cases hb : (m.at i).isB with
    | false => simp [hb] at h
    | true =>
      simp [hb] at h; subst h
      exact ⟨⟨h1, h2, hb⟩, rfl⟩
theorem names_mem {m : Md} {n : ByteArray} : n ∈ m.names ↔ (m.find n).isSome := by
  unfold names find
  rw [List.findIdx?_isSome, List.any_eq_true, List.mem_map]
  constructor
  · rintro ⟨d, h1, h2⟩
    obtain ⟨h3, h4⟩ := List.mem_filter.1 h1
    exact ⟨d, h3, by unfold isN; rw [h4, h2]; simp⟩
  · rintro ⟨d, h1, h2⟩
    simp only [isN, Bool.and_eq_true, decide_eq_true_eq] at h2
    exact ⟨d, List.mem_filter.2 ⟨h1, h2.1⟩, h2.2⟩
theorem memS_find {m : Md} {n : ByteArray} : memS m.names n = (m.find n).isSome := by rw [Bool.eq_iff_iff, mem_memS, names_mem]
theorem names_len {m : Md} : m.names.length ≤ m.dv.length := by unfold names; rw [List.length_map]; exact List.length_filter_le _ _
end Md
section
variable {P : Program} {n : Env} {W : World} {s : Slots} {H : List HP} {K : Slots → List HP → Prop} {d : Nat} {dst : Option Tmp} {ty : TypeId} {pos : String} {after : Array Edge} {g : Option (Nat × Bool)} {c : MH} {m : Md} {nm : ByteArray} {C : HP → List HP}
theorem zqs {A : HP} (hf : Foc H A C) : ∃ F, Ent H (A :: F) := let ⟨F, hp, _⟩ := hf.focus; ⟨F, zbr hp⟩
theorem zea {x y : Operand} (hx : ev s x = some (.map (some c.dm))) (hy : ev s y = some (.string nm)) (hf : Foc H (MapR c m) C) (hd : Nat.blt d n.n = true)
    (h0 : m.dev nm = none → K ((d, .pointer none) :: s) H) (h1 : ∀ k, m.dev nm = some k → K ((d, ptr (c.bs k) 0) :: s) H) : OJ Tryz.prog n W ⟨some d, .lookup 82 x y false, ty, pos, after, g⟩ s H K := by
  intro a w hfit hs
  have hW := zb3 hf _ hs.heap.choose_spec
  obtain ⟨F, hE⟩ := zqs hf
  have hl := hW.dl nm
  have hv : VJ Tryz.prog n W ⟨some d, .lookup 82 x y false, ty, pos, after, g⟩ s H (pdv c (m.dev nm)) := by
    refine zbu (Ent.trans hE zg8) (VJ_eq (zh8 (M := mDev) (k := nm) (out := fun o => match o with | some b => ptr b 0 | none => .pointer none) hx hy foc1 zqp Tryz.zeroValue85 (fun _ => rfl) rfl) ?_)
    rw [hl]; cases m.dev nm <;> rfl
  cases hm : m.dev nm with
  | none => rw [hm] at hv; exact OJ_V hv hd (h0 hm) a w hfit hs
  | some k => rw [hm] at hv; exact OJ_V hv hd (h1 k hm) a w hfit hs
theorem zk5 {x y : Operand} (hx : ev s x = some (.map (some c.bm))) (hy : ev s y = some (.string nm)) (hf : Foc H (MapR c m) C) (hd : Nat.blt d n.n = true)
    (h0 : m.bas nm = none → K ((d, .tuple #[.nilIface, .bool false]) :: s) H) (h1 : ∀ k, m.bas nm = some k → K ((d, .tuple #[.iface 159 (ptr (c.bs k) 0), .bool true]) :: s) H) : OJ Tryz.prog n W ⟨some d, .lookup 81 x y true, ty, pos, after, g⟩ s H K := by
  intro a w hfit hs
  have hW := zb3 hf _ hs.heap.choose_spec
  obtain ⟨F, hE⟩ := zqs hf
  have hl := hW.bl nm
  have hv : VJ Tryz.prog n W ⟨some d, .lookup 81 x y true, ty, pos, after, g⟩ s H (.tuple #[(match m.bas nm with | some k => .iface 159 (ptr (c.bs k) 0) | none => .nilIface), .bool (m.bas nm).isSome]) := by
    refine zbu (Ent.trans hE zg8) (VJ_eq (zj5 (M := mBas) (k := nm) (out := fun o => match o with | some b => .iface 159 (ptr b 0) | none => .nilIface) hx hy foc0 zqq Tryz.zeroValue39 (fun _ => rfl) rfl) ?_)
    rw [hl]; cases m.bas nm <;> rfl
  cases hm : m.bas nm with
  | none => rw [hm] at hv; exact OJ_V hv hd (h0 hm) a w hfit hs
  | some k => rw [hm] at hv; exact OJ_V hv hd (h1 k hm) a w hfit hs
end
theorem zm5 {n : ByteArray} : ∀ (l : List api_Target) (o : List ByteArray), memS (zek l o) n = (memS o n || nam l n)
  | [], o => by simp [zek, nam]
  | t :: l, o => by
    simp only [zek]
    rw [zm5 l]
    unfold nam
    rw [List.any_cons, Bool.eq_iff_iff]
    split
    · rename_i h
      simp only [Bool.or_eq_true, decide_eq_true_eq]
      constructor
      · rintro (h1 | h1)
        · exact .inl h1
        · exact .inr (.inr h1)
      · rintro (h1 | ⟨rfl, h2⟩ | h1)
        · exact .inl h1
        · rcases h with h | h
          · exact absurd h h2
          · exact .inl h
        · exact .inr h1
    · rename_i h
      have e : memS (o ++ [t.On]) n = (memS o n || decide (t.On = n)) := by simp [memS]
      rw [e]
      simp only [Bool.or_eq_true, decide_eq_true_eq]
      constructor
      · rintro ((h1 | h1) | h1)
        · exact .inl h1
        · refine .inr (.inl ⟨h1, fun h2 => h (.inl (h1.trans h2))⟩)
        · exact .inr (.inr h1)
      · rintro (h1 | ⟨h1, _⟩ | h1)
        · exact .inl (.inl h1)
        · exact .inl (.inr h1)
        · exact .inr h1
theorem zko {l : List api_Target} {n : ByteArray} : memS (tuses l) n = nam l n := by unfold tuses; rw [zm5]; simp [memS]
theorem zd6 (l : List api_Target) : (tuses l).length ≤ l.length := by have := zmz l []; unfold tuses; simpa using this
namespace Md
def usersN (m : Md) (n : ByteArray) : List Nat := (m.names.filterMap m.dev).filter fun k => usesD (m.at k) n
def usersT (m : Md) (n : ByteArray) (i : Nat) : List Nat := ((m.names.take i).filterMap m.dev).filter fun k => usesD (m.at k) n
theorem usersT_len (m : Md) (n : ByteArray) (i : Nat) : (m.usersT n i).length ≤ i := by
  unfold usersT
  refine Nat.le_trans (List.length_filter_le _ _) (Nat.le_trans (List.length_filterMap_le _ _) ?_)
  rw [List.length_take]; omega
theorem usersT_none {m : Md} {n : ByteArray} {i : Nat} (hi : i < m.names.length) (h : m.dev (m.names.getD i ByteArray.empty) = none) : m.usersT n (i + 1) = m.usersT n i := by
  unfold usersT; rw [takeD ByteArray.empty hi, List.filterMap_append, List.filterMap_cons_none h, List.filterMap_nil, List.append_nil]
theorem usersT_no {m : Md} {n : ByteArray} {i k : Nat} (hi : i < m.names.length) (h : m.dev (m.names.getD i ByteArray.empty) = some k) (h2 : usesD (m.at k) n = false) : m.usersT n (i + 1) = m.usersT n i := by
  unfold usersT; rw [takeD ByteArray.empty hi, List.filterMap_append, List.filter_append, List.filterMap_cons_some h, List.filterMap_nil, List.filter_cons_of_neg (by simp [h2]), List.filter_nil, List.append_nil]
theorem usersT_yes {m : Md} {n : ByteArray} {i k : Nat} (hi : i < m.names.length) (h : m.dev (m.names.getD i ByteArray.empty) = some k) (h2 : usesD (m.at k) n = true) : m.usersT n (i + 1) = m.usersT n i ++ [k] := by
  unfold usersT; rw [takeD ByteArray.empty hi, List.filterMap_append, List.filter_append, List.filterMap_cons_some h, List.filterMap_nil, List.filter_cons_of_pos (p := fun k => usesD (m.at k) n) h2, List.filter_nil]
theorem usesD_of {m : Md} {k : Nat} {n : ByteArray} (hk : m.isD k) : usesD (m.at k) n = (nam (m.at k).live n || nam (m.at k).new n) := by unfold usesD; rw [hk.2.1]; rfl
end Md
theorem ut_yes {c : MH} {m : Md} {n : ByteArray} {i k : Nat} (hi : i < m.names.length) (h : m.dev (m.names.getD i ByteArray.empty) = some k) (h2 : Md.usesD (m.at k) n = true) : (m.usersT n i).map c.bs ++ [c.bs k] = (m.usersT n (i + 1)).map c.bs := by
  rw [Md.usersT_yes hi h h2, List.map_append]; rfl
theorem zl8 {W : World} {c : MH} {m : Md} {k : Nat} (hk : m.isD k) :
    CSpec Tryz.prog W 63 [ptr (c.bs k) 0] [MapR c m] (fun x : Sl3 => x.v) (fun _ => True) (fun x F => sl tyTs x.v [(c.hd k).lv, (c.hd k).nw] :: MapR c m :: F) := by
 refine CSpec.of_body Tryz.func63 rfl Tryz.ntmps63 rfl fun F => ?_
 show CJ _ _ _ _ _ _ (_ :: F)
 refine sR <| oA rfl rfl <| nT <| zaf <| za0 256 (by kernel_rfl) rfl <| aN 0 1 rfl rfl (zag rfl) rfl <| aN 1 3 rfl rfl (zae rfl) rfl <| aN 2 7 rfl rfl (zaa rfl ⟨_, _, _, Tryz.runUnderlying111, rfl, rfl, Tryz.sizeOf30, rfl⟩) rfl <| aV 3 15 rfl rfl (zac rfl) (t0_ eR) (zbu (Ent.trans (t0_ eR) (za8 hk)) (zah rfl foc0 rfl Tryz.isAgg30)) rfl <| aN 4 31 rfl rfl (zag rfl) rfl <| aN 5 63 rfl rfl (zae rfl) rfl <| aN 6 127 rfl rfl (zaa rfl ⟨_, _, _, Tryz.runUnderlying111, rfl, rfl, Tryz.sizeOf30, rfl⟩) rfl <| aV 7 255 rfl rfl (zac rfl) (t0_ eR) (zbu (Ent.trans (t0_ eR) (za8 hk)) (zah rfl foc0 rfl Tryz.isAgg30)) rfl <| AJ_op 8 511 rfl (by kernel_rfl) rfl (zac rfl) <| zbe rfl (zkn _ _ _ _ _ _) rfl fun b1 => ⟨fun h => absurd h (by decide), ?_⟩
 refine aN 9 1023 rfl rfl (zbc rfl) rfl <| aD <| zai <| zam (res1 Tryz.results63 rfl) <| CSpec.close ⟨some ⟨b1, 0, none⟩, 2, 2⟩ ?_ ?_ (Ent.trans (Ent.trans (t0_ eR) (zdk (t := tyTs) (m := 2) [(c.hd k).lv, (c.hd k).nw] rfl rfl rfl (by decide))) (t0_ (t0_ eR)))
 · rfl
 · trivial
theorem zv9 {W : World} {A : HP} {v : Value} {xs : List api_Target} {nb : Nat} {n : ByteArray} (hA : Reads A tyapi_Target v xs) (hl : xs.length ≤ 1000000) :
    CSpec Tryz.prog W 108 [v, ptr nb 0] [A, blk nb 9 [.string n]] (fun _ : Unit => .bool (nam xs n)) (fun _ => True) (fun _ F => A :: blk nb 9 [.string n] :: F) := by
 refine CSpec.of_body Tryz.func108 rfl Tryz.ntmps108 rfl fun F => ?_
 show CJ _ _ _ _ _ _ (_ :: _ :: F)
 have htl := zd6 xs
 refine sR <| oA rfl rfl <| nT <| zaf <| za0 8 (by kernel_rfl) rfl <| aN 0 1 rfl rfl (zag rfl) rfl <| aV 2 5 rfl rfl (zac rfl) (t0_ (t0_ eR)) (zah rfl foc1 rfl Tryz.isAgg9) rfl <| AJ_op 1 7 rfl (by kernel_rfl) rfl (zac rfl) <| zaq (zfq hA (zi1 (by first | assumption | omega))) rfl Tryz.call69 (Dels.cons del0 Dels.nil) rfl fun _ hc2 => ⟨fun _ => (t0_ (t1_ (eD eR))), ?_⟩
 refine AJ_op 3 15 rfl (by kernel_rfl) rfl (zac rfl) <| zaq (zch (Reads.sl _ _ _) (zfl (by first | assumption | omega))) rfl Tryz.call56 (Dels.cons del1 Dels.nil) rfl fun _ hc3 => ⟨fun h => absurd h (by decide), ?_⟩
 refine aN 4 31 rfl rfl (zbc rfl) rfl <| aD <| zai <| zam (res1 Tryz.results108 rfl) <| CSpec.close () ?_ ?_ (t1_ (t1_ (eD eR)))
 · exact bv zko
 · trivial
theorem c_idxT {W : World} {A B : HP} {v : Value} {hs : List Sl3} {xs : List (List api_Target)} {nb : Nat} {n : ByteArray} (hB : Reads B tyTs v hs) (hA : ∀ i, i < hs.length → Reads A tyapi_Target (hs.getD i s3z).v (xs.getD i []) ∧ (xs.getD i []).length ≤ 1000000) (hl : hs.length = xs.length) (hl2 : xs.length ≤ 1000000) :
    CSpec Tryz.prog W 112 [v, .func (.func 108) #[] #[ptr nb 0]] [B, A, blk nb 9 [.string n]] (fun r : Int => .int .i64 r) (fun r => (0 ≤ r ↔ (xs.any fun x => nam x n) = true)) (fun _ F => B :: A :: blk nb 9 [.string n] :: F) := by
 refine CSpec.of_body Tryz.func112 rfl Tryz.ntmps112 rfl fun F => ?_
 show CJ _ _ _ _ _ _ (_ :: _ :: _ :: F)
 refine sR <| oA rfl rfl <| nT <| zaf <| sR <| oM rfl rfl <| oV (V_len rfl foc0 hB Tryz.runUnderlying119) rfl <| oM rfl rfl <| nT <| zat <| zbs (X := Nat) [4, 5, 8, 9, 10, 11, 12, 13, 14, 15, 16, 17, 18] (fun i  => ([(8, .int .i64 (i : Nat))] : Slots)) (fun i R => R) (fun i  => i ≤ hs.length ∧ ((xs.take i).any fun x => nam x n) = false) (fun i  => hs.length - i) (0) ?_ ?_ (t0_ (t0_ (t0_ eR))) ?_
 · exact ⟨Nat.zero_le _, by simp⟩
 · exact ⟨rfl, True.intro⟩
 ·
  intro i hpf
  obtain ⟨hi, hno⟩ := hpf
  show CJ _ _ _ _ _ (([(8, .int .i64 (i : Nat))] : Slots) ++ forget _ _) (_)
  refine sR <| oP (P_lss rfl rfl) rfl <| nT <| zaf ?_
  first | (refine zao rfl (fun hg1 => ?_) (fun hg1 => ?_)) | (refine zap rfl (fun hg1 => ?_) (fun hg1 => ?_)) | (refine zar rfl (fun hg1 => ?_) (fun hg1 => ?_))
  ·
   refine kT <| zaf <| zat <| sR <| oM rfl rfl <| oA rfl rfl <| nT <| sR <| oM rfl rfl <| oM rfl rfl <| oM rfl rfl ?_
   first | (refine RJ_op rfl (OJ_V (zan rfl rfl rfl (by omega) foc0 hB Tryz.runUnderlying119 Tryz.sizeOf30) rfl ?_)) | (refine RJ_op rfl (OJ_V (zan rfl rfl (Int.toNat_of_nonneg (by omega)).symm (by omega) foc0 hB Tryz.runUnderlying119 Tryz.sizeOf30) rfl ?_))
   refine oV (za3 rfl rfl (by omega) foc0 hB rfl rfl Tryz.isAgg30) rfl <| oO <| zdv rfl rfl (zv9 (hA i (by omega)).1 (hA i (by omega)).2) Tryz.call108 (Dels.cons del1 (Dels.cons del1 Dels.nil)) rfl fun _ hc1 => nT ?_
   first | (refine zao rfl (fun hg2 => ?_) (fun hg2 => ?_)) | (refine zap rfl (fun hg2 => ?_) (fun hg2 => ?_)) | (refine zar rfl (fun hg2 => ?_) (fun hg2 => ?_))
   ·
    refine sR <| oM rfl rfl <| oA rfl rfl <| nT <| zai <| zaj <| zad <| zbd <| zaj <| zad <| zam (res1 Tryz.results112 rfl) <| CSpec.close (i : Int) ?_ ?_ (t2_ (t0_ (t0_ eR)))
    · rfl
    ·
     refine ⟨fun _ => ?_, fun _ => by omega⟩
     rw [List.any_eq_true]
     exact ⟨xs.getD i [], by rw [List.getD_eq_getElem?_getD, List.getElem?_eq_getElem (by omega), Option.getD_some]; exact List.getElem_mem _, hg2⟩
   ·
    refine zbk <| zal <| zav <| zak <| oP (P_add rfl rfl (by omega)) rfl <| oM rfl rfl <| za9 <| zbg (i + 1) (by first | omega | (simp only []; omega)) ?_ (by repeat (first | exact Kp.base | exact Kp.self | refine Kp.cons rfl ?_ | refine Kp.forget rfl ?_)) ?_ (t2_ (t0_ (t0_ eR)))
    · exact ⟨by omega, by rw [takeD [] (by omega), List.any_append, hno, List.any_cons, hg2]; rfl⟩
    · exact ⟨rfl, True.intro⟩
  ·
   refine zbt <| za6 <| za7 <| za1 <| zav <| sR <| oA rfl rfl <| nT <| zai <| zam (res1 Tryz.results112 rfl) <| CSpec.close (-1) ?_ ?_ (t0_ (t0_ (t0_ eR)))
   · rfl
   ·
    obtain rfl : i = hs.length := by omega
    rw [hl, List.take_length] at hno
    rw [hno]; simp
theorem c_conT {W : World} {A B : HP} {v : Value} {hs : List Sl3} {xs : List (List api_Target)} {nb : Nat} {n : ByteArray} (hB : Reads B tyTs v hs) (hA : ∀ i, i < hs.length → Reads A tyapi_Target (hs.getD i s3z).v (xs.getD i []) ∧ (xs.getD i []).length ≤ 1000000) (hl : hs.length = xs.length) (hl2 : xs.length ≤ 1000000) :
    CSpec Tryz.prog W 107 [v, .func (.func 108) #[] #[ptr nb 0]] [B, A, blk nb 9 [.string n]] (fun _ : Unit => .bool (xs.any fun x => nam x n)) (fun _ => True) (fun _ F => B :: A :: blk nb 9 [.string n] :: F) := by
 refine CSpec.of_body Tryz.func107 rfl Tryz.ntmps107 rfl fun F => ?_
 show CJ _ _ _ _ _ _ (_ :: _ :: _ :: F)
 refine sR <| oA rfl rfl <| nT <| sR <| oM rfl rfl <| oM rfl rfl <| oO <| zaq (c_idxT hB hA hl hl2) rfl Tryz.call112 (Dels.cons del0 (Dels.cons del0 (Dels.cons del0 Dels.nil))) rfl fun r hr => oP (P_geq rfl rfl) rfl <| oA rfl rfl <| nT <| zai <| zam (res1 Tryz.results107 rfl) <| CSpec.close () ?_ ?_ (t0_ (t0_ (t0_ eR)))
 · exact bv (by rw [Bool.eq_iff_iff, decide_eq_true_iff]; exact hr)
 · trivial
theorem c_uses {W : World} {c : MH} {m : Md} {k : Nat} {n : ByteArray} (hk : m.isD k) :
    CSpec Tryz.prog W 93 [ptr (c.bs k) 0, .string n] [MapR c m] (fun _ : Unit => .bool (nam (m.at k).live n || nam (m.at k).new n)) (fun _ => True) (fun _ F => MapR c m :: F) := by
 refine CSpec.of_body Tryz.func93 rfl Tryz.ntmps93 rfl fun F => ?_
 show CJ _ _ _ _ _ _ (_ :: F)
 refine zbl (zb3 foc0) fun hW => ?_
 have hO := hW.ok
 have hlen := hW.big.len
 have hns := Md.names_len (m := m)
 have hlv := (zb0 (hO.chk k).1).1
 have hnw := (zb0 (hO.chk k).2).1
 refine sR <| oO <| O_box rfl rfl rfl fun b1 => oA rfl rfl <| nT <| sR <| oM rfl rfl <| oO <| zaq (zl8 hk) rfl Tryz.call63 (Dels.cons del1 Dels.nil) rfl fun _ hc3 => oP (zb4 rfl rfl) rfl <| RJ_op rfl (zaq (c_conT (xs := [(m.at k).live, (m.at k).new]) (Reads.sl _ _ _) (fun i hi => by
   match i, hi with
   | 0, _ => exact ⟨zcc hk, by show (m.at k).live.length ≤ 1000000; omega⟩
   | 1, _ => exact ⟨rdNew hk, by show (m.at k).new.length ≤ 1000000; omega⟩) rfl (by show 2 ≤ 1000000; decide)) rfl Tryz.call107 (Dels.cons del0 (Dels.cons del0 (Dels.cons del0 Dels.nil))) rfl (fun _ hc4 => ?_))
 refine oA rfl rfl <| nT <| zai <| zam (res1 Tryz.results93 rfl) <| CSpec.close () ?_ ?_ (t1_ (eD (eD eR)))
 · exact bv (by simp)
 · trivial
theorem zwa {W : World} {b : Nat} {c : MH} {m : Md} {n : ByteArray} :
    CSpec Tryz.prog W 57 [ptr b 0, .string n] [blk b 84 (zax c m), MapR c m] (fun x : Sl3 => x.v) (fun _ => True) (fun x F => sl tyPD x.v ((m.usersN n).map c.bs) :: blk b 84 (zax c m) :: MapR c m :: F) := by
 refine CSpec.of_body Tryz.func57 rfl Tryz.ntmps57 rfl fun F => ?_
 show CJ _ _ _ _ _ _ (_ :: _ :: F)
 refine zbl (zb3 foc1) fun hW => ?_
 have hO := hW.ok
 have hlen := hW.big.len
 have hns := Md.names_len (m := m)
 refine sR <| oA rfl rfl <| nT <| sR <| oA rfl rfl <| nT <| zaf <| sR <| oM rfl rfl <| oP (zae rfl) rfl <| oP (zaa rfl ⟨_, _, _, Tryz.runUnderlying84, rfl, rfl, Tryz.sizeOf59, rfl⟩) rfl <| oV (zah rfl foc0 rfl Tryz.isAgg59) rfl <| oV (V_len rfl foc1 rdOrd Tryz.runUnderlying59) rfl <| oM rfl rfl <| nT <| zat <| zbf (fun h hh => zb2 (t := tyPD) h hh) <| zbs (X := Nat × Sl3) [5, 7, 8, 14, 15, 16, 17, 18, 19, 20, 21, 22, 23, 24, 25, 26, 27, 28, 29, 30, 31, 32, 33, 34, 35] (fun ⟨i, rv⟩  => ([(14, .int .i64 (i : Nat)), (5, rv.v)] : Slots)) (fun ⟨i, rv⟩ R => sl tyPD rv.v ((m.usersT n i).map c.bs) :: R) (fun ⟨i, rv⟩  => i ≤ m.names.length) (fun ⟨i, rv⟩  => m.names.length - i) ⟨0, ⟨none, 0, 0⟩⟩ ?_ ?_ (t0_ (t0_ (t0_ eR))) ?_
 · exact Nat.zero_le _
 · exact ⟨rfl, rfl, True.intro⟩
 ·
  rintro ⟨i, rv⟩ hi
  show CJ _ _ _ _ _ (([(14, .int .i64 (i : Nat)), (5, rv.v)] : Slots) ++ forget _ _) (sl tyPD rv.v ((m.usersT n i).map c.bs) :: _)
  have hut := Md.usersT_len m n i
  have hum : ((m.usersT n i).map c.bs).length = (m.usersT n i).length := by simp
  refine sR <| oP (P_lss rfl rfl) rfl <| nT <| zaf ?_
  first | (refine zao rfl (fun hg1 => ?_) (fun hg1 => ?_)) | (refine zap rfl (fun hg1 => ?_) (fun hg1 => ?_)) | (refine zar rfl (fun hg1 => ?_) (fun hg1 => ?_))
  ·
   refine kT <| zaf <| zat <| sR ?_
   first | (refine RJ_op rfl (OJ_V (zan rfl rfl rfl (by omega) foc2 rdOrd Tryz.runUnderlying59 Tryz.sizeOf9) rfl ?_)) | (refine RJ_op rfl (OJ_V (zan rfl rfl (Int.toNat_of_nonneg (by omega)).symm (by omega) foc2 rdOrd Tryz.runUnderlying59 Tryz.sizeOf9) rfl ?_))
   refine oV (za3 rfl rfl (by omega) foc2 rdOrd rfl rfl Tryz.isAgg9) rfl <| oA rfl rfl <| nT <| sR <| oM rfl rfl <| oP (zae rfl) rfl <| oP (zaa rfl ⟨_, _, _, Tryz.runUnderlying84, rfl, rfl, Tryz.sizeOf82, rfl⟩) rfl <| oV (zah rfl foc1 rfl Tryz.isAgg82) rfl <| oM rfl rfl <| oO (zea rfl rfl foc2 rfl (fun hd2 => ?_) (fun k1 hd2 => ?_))
   ·
    refine oA rfl rfl <| nT <| sR <| oM rfl rfl <| oP (zhy rfl rfl Tryz.underlying85) rfl <| oM rfl rfl <| RJ_gn (GY_no rfl rfl rfl rfl) rfl rfl <| RJ_gn (GY_no rfl rfl rfl rfl) rfl rfl <| RJ_gn (GY_no rfl rfl rfl rfl) rfl rfl <| oP (zay rfl rfl rfl) rfl <| nT <| za5 rfl rfl <| zbk <| zal <| zav <| zak <| oP (P_add rfl rfl (by omega)) rfl <| oM rfl rfl <| za9 <| zbg ⟨i + 1, rv⟩ (by first | omega | (simp only []; omega)) ?_ (by repeat (first | exact Kp.base | exact Kp.self | refine Kp.cons rfl ?_ | refine Kp.forget rfl ?_)) ?_ (Ent.takeC del0 (congrArg (fun z : List Nat => sl tyPD rv.v (z.map c.bs)) (Md.usersT_none (by omega) hd2).symm) (t0_ (t0_ eR)))
    · omega
    · exact ⟨rfl, rfl, True.intro⟩
   ·
    refine oA rfl rfl <| nT <| sR <| oM rfl rfl <| oP (zgr rfl rfl Tryz.underlying85) rfl <| oM rfl rfl <| gP (zab rfl rfl rfl rfl) (zag rfl) rfl <| gP (zab rfl rfl rfl rfl) (zag rfl) rfl <| RJ_gy (zab rfl rfl rfl rfl) <| zaq (c_uses (Md.dev_is hd2).1) rfl Tryz.call93 (Dels.cons del2 Dels.nil) rfl fun _ hc3 => oP (zas rfl rfl rfl) rfl <| nT ?_
    first | (refine zao rfl (fun hg2 => ?_) (fun hg2 => ?_)) | (refine zap rfl (fun hg2 => ?_) (fun hg2 => ?_)) | (refine zar rfl (fun hg2 => ?_) (fun hg2 => ?_))
    ·
     refine zak <| oM rfl rfl <| oM rfl rfl <| oO <| zbe rfl (zl7 _) rfl fun b4 => oO <| zbv (t := tyPD) (bytes := 8) rfl rfl del2 foc0 (Reads.lit (t := tyPD) (ys := [c.bs k1]) rfl rfl (by decide) (by decide) rfl) Tryz.underlying113 zv8 (by simp only [List.length_append, List.length_cons, List.length_nil, maxLen] at *; omega) (by simp only [List.length_append, List.length_cons, List.length_nil, maxLen] at *; omega) rfl fun p5 c6 => oA rfl rfl <| za9 <| zal <| zav <| zak <| oP (P_add rfl rfl (by omega)) rfl <| oM rfl rfl <| za9 <| zbg ⟨i + 1, ⟨p5, _, c6⟩⟩ (by first | omega | (simp only []; omega)) ?_ (by repeat (first | exact Kp.base | exact Kp.self | refine Kp.cons rfl ?_ | refine Kp.forget rfl ?_)) ?_ (Ent.takeC del0 (congrArg (sl tyPD _) (ut_yes (by omega) hd2 (by rw [Md.usesD_of (Md.dev_is hd2).1]; simpa using hg2))) (t2_ (t1_ (eD eR))))
     · omega
     · exact ⟨rfl, rfl, True.intro⟩
    ·
     refine zbk <| zal <| zav <| zak <| oP (P_add rfl rfl (by omega)) rfl <| oM rfl rfl <| za9 <| zbg ⟨i + 1, rv⟩ (by first | omega | (simp only []; omega)) ?_ (by repeat (first | exact Kp.base | exact Kp.self | refine Kp.cons rfl ?_ | refine Kp.forget rfl ?_)) ?_ (Ent.takeC del1 (congrArg (fun z : List Nat => sl tyPD rv.v (z.map c.bs)) (Md.usersT_no (by omega) hd2 (by rw [Md.usesD_of (Md.dev_is hd2).1]; simpa using hg2)).symm) (t1_ (t0_ eR)))
     · omega
     · exact ⟨rfl, rfl, True.intro⟩
  ·
   refine zbt <| za6 <| za7 <| za1 <| zav <| sR <| oM rfl rfl <| oA rfl rfl <| nT <| zai <| zam (res1 Tryz.results57 rfl) ?_
   obtain rfl : i = m.names.length := by omega
   refine CSpec.close rv ?_ ?_ (Ent.takeC del0 (congrArg (sl tyPD _) (by unfold Md.usersT Md.usersN; rw [List.take_length])) (t0_ (t0_ eR)))
   · rfl
   · trivial
end Go.Proofs
namespace Go.Proofs
namespace Md
def key (d : Dv) : Bool × ByteArray := (d.gone, d.name)
section
variable {m m' : Md} {n : ByteArray} {k i : Nat} {d' : Dv}
theorem find_key (h : m'.dv.map key = m.dv.map key) : m'.find n = m.find n := by
  have e : ∀ x : Md, x.find n = (x.dv.map key).findIdx? (fun p => !p.1 && decide (p.2 = n)) := fun x => by
    rw [List.findIdx?_map]; rfl
  rw [e, e, h]
theorem names_key (h : m'.dv.map key = m.dv.map key) : m'.names = m.names := by
  have e : ∀ x : Md, x.names = ((x.dv.map key).filter fun p => !p.1).map (·.2) := fun x => by
    unfold names; rw [List.filter_map, List.map_map]; rfl
  rw [e, e, h]
theorem at_set (hk : k < m.dv.length) : (m.set k d').at i = if i = k then d' else m.at i := by
  show (m.dv.set k d').getD i Dv.z = _
  split
  · rename_i e; subst e; simp [List.getD, hk]
  · rename_i e; simp [List.getD, List.getElem?_set, Ne.symm e, Md.at]
theorem set_key (h : key d' = key (m.at k)) : (m.set k d').dv.map key = m.dv.map key := by
  show (m.dv.set k d').map key = _
  rw [List.map_set, h]
  by_cases hk : k < m.dv.length
  · have : key (m.at k) = (m.dv.map key)[k]'(by simpa using hk) := by simp [Md.at, List.getD, hk]
    rw [this, List.set_getElem_self]
  · rw [List.set_eq_of_length_le (by simpa using hk)]
theorem at_out (h : ¬ k < m.dv.length) : m.at k = Dv.z := by simp [Md.at, List.getD, List.getElem?_eq_none (Nat.le_of_not_lt h)]
end
structure Alike (d d' : Dv) : Prop where
  gone : d'.gone = d.gone
  isB : d'.isB = d.isB
  name : d'.name = d.name
  live : d'.live = d.live
  new : d'.new = d.new
  hl : d'.hl = d.hl
  hn : d'.hn = d.hn
  susp : d'.susp = d.susp
theorem Alike.rfl {d : Dv} : Alike d d := ⟨by rfl, by rfl, by rfl, by rfl, by rfl, by rfl, by rfl, by rfl⟩
theorem Alike.key {d d' : Dv} (h : Alike d d') : key d' = key d := by unfold Md.key; rw [h.gone, h.name]
structure Like (m m' : Md) : Prop where
  len : m'.dv.length = m.dv.length
  at_ : ∀ i, Alike (m.at i) (m'.at i)
theorem Like.keys {m m' : Md} (h : Like m m') : m'.dv.map key = m.dv.map key := by
  refine List.ext_getElem (by simp [h.len]) fun i h1 h2 => ?_
  have := (h.at_ i).key
  simp only [List.length_map] at h1 h2
  simpa [Md.at, List.getD, h1, h2] using this
theorem Like.find {m m' : Md} (h : Like m m') (n : ByteArray) : m'.find n = m.find n := find_key h.keys
theorem Like.names {m m' : Md} (h : Like m m') : m'.names = m.names := names_key h.keys
theorem Like.dev {m m' : Md} (h : Like m m') (n : ByteArray) : m'.dev n = m.dev n := by
  unfold Md.dev; rw [h.find]; congr 1; funext k; rw [(h.at_ k).isB]
theorem Like.refl {m : Md} : Like m m := ⟨rfl, fun _ => .rfl⟩
theorem Like.trans {a b c : Md} (h : Like a b) (g : Like b c) : Like a c := ⟨g.len.trans h.len, fun i => by
  have h1 := h.at_ i; have h2 := g.at_ i
  exact ⟨h2.gone.trans h1.gone, h2.isB.trans h1.isB, h2.name.trans h1.name, h2.live.trans h1.live, h2.new.trans h1.new, h2.hl.trans h1.hl, h2.hn.trans h1.hn, h2.susp.trans h1.susp⟩⟩
theorem Like.set {m : Md} {k : Nat} {d' : Dv} (h : Alike (m.at k) d') : Like m (m.set k d') := by
  refine ⟨by show (m.dv.set k d').length = _; simp, fun i => ?_⟩
  by_cases hk : k < m.dv.length
  · rw [at_set hk]; split
    · rename_i e; rw [e]; exact h
    · exact .rfl
  · have : (m.set k d').at i = m.at i := by
      show (m.dv.set k d').getD i Dv.z = _
      rw [List.set_eq_of_length_le (by omega)]; rfl
    rw [this]; exact .rfl
theorem Like.ok {m m' : Md} (h : Like m m') (hO : MdOk m) (hb : ∀ i, (m.at i).isB = true → (m'.at i).wait = [] ∧ (m'.at i).base.length ≤ 65536)
    (hw : ∀ i, i < m.dv.length → ∀ w ∈ (m'.at i).wait, (m.at i).gone = false ∧ w.gv < m.dv.length ∧ (m.at w.gv).gone = false ∧ (m.at w.gv).isB = false ∧ 1 ≤ w.t.Kind ∧ w.t.Kind ≤ 3 ∧ inT w.t) : MdOk m' where
  uniq := fun i j => by rw [h.len, (h.at_ i).gone, (h.at_ j).gone, (h.at_ i).name, (h.at_ j).name]; exact hO.uniq i j
  nm := fun i => by rw [h.len, (h.at_ i).gone, (h.at_ i).name]; exact hO.nm i
  chk := fun i => by rw [(h.at_ i).live, (h.at_ i).new]; exact hO.chk i
  nam := fun i => by unfold Md.tbl; rw [h.len, (h.at_ i).gone, (h.at_ i).live, (h.at_ i).new]; intro a b t ht hne; rw [h.find]; exact hO.nam i a b t ht hne
  acy := by
    obtain ⟨rk, hr⟩ := hO.acy
    refine ⟨rk, fun i => ?_⟩
    unfold Md.tbl; rw [h.len, (h.at_ i).gone, (h.at_ i).live, (h.at_ i).new]; intro a b t ht j hj; rw [h.find] at hj; exact hr i a b t ht j hj
  bas := fun i hi => by
    rw [(h.at_ i).isB] at hi
    obtain ⟨h1, h2, h3, h4, h5, h6, h7⟩ := hO.bas i hi
    obtain ⟨g1, g2⟩ := hb i hi
    exact ⟨(h.at_ i).live.trans h1, (h.at_ i).new.trans h2, g1, (h.at_ i).hl.trans h4, (h.at_ i).hn.trans h5, (h.at_ i).susp.trans h6, g2⟩
  hl := fun i => by rw [(h.at_ i).hl, (h.at_ i).live]; exact hO.hl i
  hn := fun i => by rw [(h.at_ i).hn, (h.at_ i).new]; exact hO.hn i
  org := fun i hi w hw' => by
    rw [h.len] at hi
    obtain ⟨h1, h2, h3, h4, h5⟩ := hw i hi w hw'
    exact ⟨(h.at_ i).gone.trans h1, by rw [h.len]; exact h2, (h.at_ _).gone.trans h3, (h.at_ _).isB.trans h4, h5⟩
end Md
end Go.Proofs
set_option linter.unusedSimpArgs false
set_option maxRecDepth 20000
namespace Go.Proofs
open Go.VG
section
variable {W : World} {c : MH} {m m' : Md} {k : Nat} {R : List HP}
theorem zpo (h1 : m'.dv.map Md.key = m.dv.map Md.key) (h2 : ∀ i, (m'.at i).isB = (m.at i).isB) (n : ByteArray) : m'.dev n = m.dev n ∧ m'.bas n = m.bas n := by
  unfold Md.dev Md.bas; rw [Md.find_key h1]
  constructor <;> (congr 1; funext k; rw [h2 k])
theorem hd_set {l : List (DH × Dv)} {h' : DH} {d' : Dv} {s' : ArrS} {i : Nat} (hk : k < c.l.length) (hl : l = c.l.set k (h', d')) : ({ c with l := l, s := s' } : MH).hd i = if i = k then h' else c.hd i := by
  subst hl
  unfold MH.hd
  show ((c.l.set k (h', d')).getD i (dh0, Dv.z)).1 = _
  split
  · rename_i e; subst e; simp [List.getD, hk]
  · rename_i e; simp [List.getD, List.getElem?_set, Ne.symm e]
theorem MapWF.upd {h' : DH} {d' : Dv} {s' : ArrS} (hW : MapWF c m) (hk : k < m.dv.length) (hd : m'.dv = m.dv.set k d') (hkey : Md.key d' = Md.key (m.at k)) (hB : d'.isB = (m.at k).isB) (hb : h'.b = c.bs k) (hdn : h'.dn = (c.hd k).dn)
    (ok : MdOk m') (big : MdBig m') (good : Good s') (hdl : s'.drv.length = c.s.drv.length) (hnow : ∀ i, m.isBs i → nowL s' (c.hd i).dn = (m'.at i).base ∧ (m'.at i).base.length ≤ 65536) (hwr : s'.writes ≤ m'.wr) : MapWF { c with l := c.l.set k (h', d'), s := s' } m' := by
  obtain ⟨g1, g2⟩ := hW.at hk
  have hat : ∀ i, m'.at i = if i = k then d' else m.at i := fun i => by
    have e : m'.at i = (m.set k d').at i := by unfold Md.at; rw [hd]; rfl
    rw [e]; exact Md.at_set hk
  have hkeys : m'.dv.map Md.key = m.dv.map Md.key := by rw [hd]; exact Md.set_key hkey
  have hBs : ∀ i, (m'.at i).isB = (m.at i).isB := fun i => by rw [hat]; split; · rename_i e; rw [e]; exact hB
                                                              · rfl
  have hgo : ∀ i, (m'.at i).gone = (m.at i).gone := fun i => by
    rw [hat]; split
    · rename_i e; rw [e]; exact (Prod.mk.inj hkey).1
    · rfl
  have hlen : m'.dv.length = m.dv.length := by rw [hd]; simp
  have hbs : ({ c with l := c.l.set k (h', d'), s := s' } : MH).bs = c.bs := zif g1 hb rfl
  have hD : ∀ i, m'.isD i ↔ m.isD i := fun i => by unfold Md.isD; rw [hlen, hgo, hBs]
  have hBb : ∀ i, m'.isBs i ↔ m.isBs i := fun i => by unfold Md.isBs; rw [hlen, hgo, hBs]
  have hdn' : ∀ i, (({ c with l := c.l.set k (h', d'), s := s' } : MH).hd i).dn = (c.hd i).dn := fun i => by
    rw [hd_set g1 rfl]; split
    · rename_i e; rw [e]; exact hdn
    · rfl
  refine ⟨?_, ok, big, fun n => ?_, fun n => ?_, fun i j hi hj he => ?_, good, fun i hi => ?_, fun i j hi hj he => ?_, hwr⟩
  · show (c.l.set k (h', d')).map Prod.snd = _
    rw [List.map_set, hW.dv, hd]
  · rw [(zpo hkeys hBs n).1, hbs]; exact hW.dl n
  · rw [(zpo hkeys hBs n).2, hbs]; exact hW.bl n
  · rw [hbs] at he; exact hW.inj i j ((hD i).1 hi) ((hD j).1 hj) he
  · obtain ⟨q1, q2, q3⟩ := hW.dsk i ((hBb i).1 hi)
    obtain ⟨q4, q5⟩ := hnow i ((hBb i).1 hi)
    rw [hdn']
    exact ⟨by rw [show ({ c with l := c.l.set k (h', d'), s := s' } : MH).s = s' from rfl, hdl]; exact q1, q4, q5⟩
  · rw [hdn', hdn'] at he; exact hW.dsj i j ((hBb i).1 hi) ((hBb j).1 hj) he
theorem ICall.conseq {P : Program} {v : Value} {name : String} {args : List Value} {pre pre' : List HP} {X : Type} {res : X → Value} {pf : X → Prop} {post post' : X → List HP → List HP} {G : List HP} (h : ICall P W v name args pre res pf post) (h1 : ∀ F, Ent (pre' ++ F) (pre ++ (G ++ F))) (h2 : ∀ x, pf x → ∀ F, Ent (post x (G ++ F)) (post' x F)) : ICall P W v name args pre' res pf post' := by
  intro F w hs
  obtain ⟨f, zs, g1, g2⟩ := h (G ++ F) w (hs.imp (h1 F))
  refine ⟨f, zs, g1, g2.mono ?_⟩
  rintro e w' ⟨x, q1, q2, q3⟩
  exact ⟨x, q1, q2, q3.imp (h2 x q2 F)⟩
def MH.wrB (c : MH) (m : Md) (k : Nat) (a : Int) (v : UInt64) : MH := if 0 ≤ a ∧ a < ((m.at k).base.length : Int) then { c with l := c.l.set k (c.hd k, { m.at k with base := (m.at k).base.set a.toNat v }), s := wr1 c.s (c.hd k).dn a.toNat v } else c
def Md.wrB (m : Md) (k : Nat) (a : Int) (v : UInt64) : Md := if 0 ≤ a ∧ a < ((m.at k).base.length : Int) then { m.set k { m.at k with base := (m.at k).base.set a.toNat v } with wr := m.wr + 1 } else m
theorem zqt {len a : Int} (h : 0 ≤ len ∧ len ≤ 65536) (ha : -9223372036854775808 ≤ a ∧ a ≤ 9223372036854775807) : zdh len a 1 = some (decide (0 ≤ a ∧ a < len)) := by
  unfold zdh
  refine congrArg some ?_
  rw [Bool.eq_iff_iff]
  simp only [Bool.and_eq_true, decide_eq_true_eq]
  by_cases h1 : 0 ≤ a ∧ a ≤ len
  · rw [zg5 (by omega) (by omega)]; omega
  · constructor <;> intro h2 <;> omega
theorem zro (hk : m.isBs k) : ICall Tryz.prog W (.iface 159 (ptr (c.bs k) 0)) "Size" [] [MapR c m] (fun _ : Unit => .int .i64 ((m.at k).base.length : Int)) (fun _ => True) (fun _ F => MapR c m :: F) :=
  ICall.conseq (G := [zie (mpc mDev c.dm c.dl) c m k]) (ICall.of (fun w => by kernel_rfl) Tryz.call148 (zm0 rfl)) (fun F => zjm hk) (fun _ _ F => zjn hk)
theorem zrp {a : Int} (hW : MapWF c m) (hk : m.isBs k) (ha : -9223372036854775808 ≤ a ∧ a ≤ 9223372036854775807) : ICall Tryz.prog W (.iface 159 (ptr (c.bs k) 0)) "Read" [.int .i64 a] [MapR c m] (fun _ : Unit => .tuple #[.int .u64 ((if 0 ≤ a ∧ a < ((m.at k).base.length : Int) then (m.at k).base.getD a.toNat 0 else 0 : UInt64).toNat : Int), .int .i64 (if 0 ≤ a ∧ a < ((m.at k).base.length : Int) then 0 else 1)]) (fun _ => True) (fun _ F => MapR c m :: F) := by
  obtain ⟨q1, q2, q3⟩ := hW.dsk k hk
  have e : zff c.s ((c.hd k).dn : Int) 0 ((m.at k).base.length : Int) a = some ((if 0 ≤ a ∧ a < ((m.at k).base.length : Int) then (m.at k).base.getD a.toNat 0 else 0 : UInt64), (if 0 ≤ a ∧ a < ((m.at k).base.length : Int) then 0 else 1 : Int)) := by
    unfold zff
    rw [zqt ⟨by omega, by omega⟩ ha, Option.bind_some]
    by_cases h : 0 ≤ a ∧ a < ((m.at k).base.length : Int)
    · rw [if_neg (by simp [h]), if_pos h, if_pos h, in64 (by omega)]
      obtain ⟨x, rfl⟩ := Int.eq_ofNat_of_zero_le h.1
      have hx : x < c.s.size (c.hd k).dn := by rw [zgc, q2]; omega
      simp only [Int.zero_add, Int.toNat_natCast]
      rw [hW.good.rdV q1 hx, hW.good.rdC q1 hx, q2]; rfl
    · rw [if_pos (by simpa using h), if_neg h, if_neg h]
  exact ICall.conseq (G := [zie (mpc mDev c.dm c.dl) c m k]) (ICall.of (fun w => by kernel_rfl) Tryz.call147 (zm1 e)) (fun F => zjm hk) (fun _ _ F => zjn hk)
theorem MdBig.wr1 (h : MdBig m) (hw : m.wr < 100000000) {k : Nat} {b : List UInt64} : MdBig { m.set k { m.at k with base := b } with wr := m.wr + 1 } := by
  refine ⟨by show (m.dv.set k _).length ≤ _; rw [List.length_set]; exact h.len, fun i => ?_, h.tks, h.told, hw⟩
  have e : ({ m.set k { m.at k with base := b } with wr := m.wr + 1 } : Md).at i = (m.set k { m.at k with base := b }).at i := rfl
  rw [e]
  by_cases hk : k < m.dv.length
  · rw [Md.at_set hk]; split
    · exact h.wl k
    · exact h.wl i
  · have : (m.set k { m.at k with base := b }).at i = m.at i := by
      show (m.dv.set k _).getD i Dv.z = _
      rw [List.set_eq_of_length_le (by omega)]; rfl
    rw [this]; exact h.wl i
theorem MapWF.wrB {a : Int} {v : UInt64} (hW : MapWF c m) (hk : m.isBs k) (hw : m.wr < 100000000) : MapWF (c.wrB m k a v) (m.wrB k a v) := by
  unfold MH.wrB Md.wrB
  by_cases h : 0 ≤ a ∧ a < ((m.at k).base.length : Int)
  · rw [if_pos h, if_pos h]
    obtain ⟨q1, q2, q3⟩ := hW.dsk k hk
    have hlike : Md.Like m { m.set k { m.at k with base := (m.at k).base.set a.toNat v } with wr := m.wr + 1 } := ⟨by show (m.dv.set k _).length = _; simp, fun i => (Md.Like.set (m := m) (k := k) (d' := { m.at k with base := (m.at k).base.set a.toNat v }) ⟨rfl, rfl, rfl, rfl, rfl, rfl, rfl, rfl⟩).at_ i⟩
    have hat : ∀ i, ({ m.set k { m.at k with base := (m.at k).base.set a.toNat v } with wr := m.wr + 1 } : Md).at i = if i = k then { m.at k with base := (m.at k).base.set a.toNat v } else m.at i := fun i => Md.at_set (m := m) hk.1
    refine hW.upd hk.1 rfl rfl rfl rfl rfl (hlike.ok hW.ok (fun i hi => ?_) (fun i hi w hw' => ?_)) (hW.big.wr1 hw) hW.good.wr1 zn0 (fun i hi => ?_) (by rw [zm2]; exact Nat.succ_le_succ hW.wr)
    · rw [hat]
      obtain ⟨_, _, g3, _, _, _, g4⟩ := hW.ok.bas i hi
      split
      · rename_i e; subst e; exact ⟨g3, by rw [List.length_set]; exact g4⟩
      · exact ⟨g3, g4⟩
    · rw [hat] at hw'
      refine hW.ok.org i hi w ?_
      split at hw'
      · rename_i e; subst e; exact hw'
      · exact hw'
    · obtain ⟨p1, p2, p3⟩ := hW.dsk i hi
      rw [zjj q1, hat]
      by_cases e : i = k
      · subst e; rw [if_pos rfl, if_pos rfl, q2]; exact ⟨rfl, by rw [List.length_set]; exact q3⟩
      · rw [if_neg e, if_neg (fun he => e (hW.dsj i k hi hk he))]; exact ⟨p2, p3⟩
  · rw [if_neg h, if_neg h]; exact hW
theorem zqc {a : Int} {v : UInt64} (hW : MapWF c m) (hk : m.isBs k) (ha : -9223372036854775808 ≤ a ∧ a ≤ 9223372036854775807) (hw : m.wr < 100000000) : ICall Tryz.prog W (.iface 159 (ptr (c.bs k) 0)) "Write" [.int .i64 a, .int .u64 (v.toNat : Int)] [MapR c m] (fun _ : Unit => .int .i64 (if 0 ≤ a ∧ a < ((m.at k).base.length : Int) then 0 else 1)) (fun _ => True) (fun _ F => MapR (c.wrB m k a v) (m.wrB k a v) :: F) := by
  obtain ⟨q1, q2, q3⟩ := hW.dsk k hk
  have hwf := hW.wrB (a := a) (v := v) hk hw
  have e : ze0 c.s ((c.hd k).dn : Int) 0 ((m.at k).base.length : Int) a v = some ((if 0 ≤ a ∧ a < ((m.at k).base.length : Int) then 0 else 1 : Int), if 0 ≤ a ∧ a < ((m.at k).base.length : Int) then wr1 c.s (c.hd k).dn a.toNat v else c.s) := by
    unfold ze0
    rw [zqt ⟨by omega, by omega⟩ ha, Option.bind_some]
    by_cases h : 0 ≤ a ∧ a < ((m.at k).base.length : Int)
    · have hl : inLen c.s.writes = true := zjh (by have := hW.wr; omega)
      rw [if_neg (by simp [h]), if_pos h, if_pos h, in64 (by omega), hl]
      obtain ⟨x, rfl⟩ := Int.eq_ofNat_of_zero_le h.1
      have hx : x < c.s.size (c.hd k).dn := by rw [zgc, q2]; omega
      simp only [Int.zero_add, Int.toNat_natCast]
      obtain ⟨g1, g2⟩ := hW.good.wr (v := v) q1 hx
      rw [g1, g2]; rfl
    · rw [if_pos (by simpa using h), if_neg h, if_neg h]
  obtain ⟨g1, g2⟩ := hW.at hk.1
  refine ICall.conseq (G := [zie (mpc mDev c.dm c.dl) c m k]) (ICall.of (fun w => by kernel_rfl) Tryz.call149 (zl3 e)) (fun F => zjm hk) (fun _ _ F => ?_)
  unfold MH.wrB Md.wrB at hwf ⊢
  by_cases h : 0 ≤ a ∧ a < ((m.at k).base.length : Int)
  · simp only [if_pos h] at hwf ⊢
    exact zkm (d' := { m.at k with base := (m.at k).base.set a.toNat v }) g1 hk.2.1 hk.2.2 (by simp) rfl (Md.names_key (Md.set_key (m := m) (k := k) (d' := { m.at k with base := (m.at k).base.set a.toNat v }) rfl)) rfl (zif g1 rfl rfl) hwf
  · simp only [if_neg h] at hwf ⊢
    exact zjn hk
def MH.flB (c : MH) (m : Md) (k : Nat) : MH := { c with l := c.l.set k (c.hd k, m.at k), s := fl1 c.s (c.hd k).dn }
theorem MapWF.flB (hW : MapWF c m) (hk : m.isBs k) : MapWF (c.flB m k) m := by
  obtain ⟨q1, q2, q3⟩ := hW.dsk k hk
  have hd : m.dv = m.dv.set k (m.at k) := by
    have : m.at k = m.dv[k]'hk.1 := by simp [Md.at, List.getD, hk.1]
    rw [this, List.set_getElem_self]
  exact hW.upd hk.1 hd rfl rfl rfl rfl hW.ok hW.big (hW.good.fl1 q1) (by show (c.s.drv.set _ _).length = _; simp) (fun i hi => by
    obtain ⟨p1, p2, p3⟩ := hW.dsk i hi
    exact ⟨(zjk q1).trans p2, p3⟩) hW.wr
theorem zqd (hW : MapWF c m) (hk : m.isBs k) : ICall Tryz.prog W (.iface 159 (ptr (c.bs k) 0)) "Flush" [] [MapR c m] (fun _ : Unit => .int .i64 0) (fun _ => True) (fun _ F => MapR (c.flB m k) m :: F) := by
  obtain ⟨q1, q2, q3⟩ := hW.dsk k hk
  have hc : flC c.s ((c.hd k).dn : Int) = 0 := by rw [flC_of hW.good.down q1, hW.good.miss]; rfl
  have e : ze1 c.s ((c.hd k).dn : Int) 0 ((m.at k).base.length : Int) = some ((0 : Int), fl1 c.s (c.hd k).dn) := by
    unfold ze1
    have hl : inLen c.s.writes = true := zjh (by have := hW.wr; have := hW.big.wr; omega)
    rw [hl, hc, flS_of hc]; rfl
  obtain ⟨g1, g2⟩ := hW.at hk.1
  exact ICall.conseq (G := [zie (mpc mDev c.dm c.dl) c m k]) (ICall.of (fun w => by kernel_rfl) Tryz.call146 (zl4 e)) (fun F => zjm hk) (fun _ _ F => zkm (d' := m.at k) g1 hk.2.1 hk.2.2 rfl rfl rfl rfl (zif g1 rfl rfl) (hW.flB hk))
end
theorem zpp {m : Md} {n : ByteArray} (h : m.bas n = none) : m.find n = m.dev n := by
  unfold Md.dev
  unfold Md.bas at h
  cases hf : m.find n with
  | none => rfl
  | some k =>
    rw [hf] at h
    cases hb : (m.at k).isB with
    | true => simp [hb] at h
    | false => simp [hb]
theorem zs2 {m : Md} {n : ByteArray} {k : Nat} (h : m.bas n = some k) : m.sizeN n = ((m.at k).base.length : Int) := by
  obtain ⟨h1, h2⟩ := Md.bas_is h
  unfold Md.sizeN; rw [h2]; show m.size k = _; unfold Md.size; rw [if_pos h1.2.2]
theorem zs3 {m : Md} {n : ByteArray} {k : Nat} (h : m.dev n = some k) : m.sizeN n = tsize (m.at k).live := by
  obtain ⟨h1, h2⟩ := Md.dev_is h
  unfold Md.sizeN; rw [h2]; show m.size k = _; unfold Md.size; rw [if_neg (by simp [h1.2.2])]
theorem c_size {W : World} {b : Nat} {c : MH} {m : Md} {n : ByteArray} (hn : (m.find n).isSome = true) :
    CSpec Tryz.prog W 99 [ptr b 0, .string n] [blk b 84 (zax c m), MapR c m] (fun _ : Unit => .int .i64 (m.sizeN n)) (fun _ => True) (fun _ F => blk b 84 (zax c m) :: MapR c m :: F) := by
 refine CSpec.of_body Tryz.func99 rfl Tryz.ntmps99 rfl fun F => ?_
 show CJ _ _ _ _ _ _ (_ :: _ :: F)
 refine zbl (zb3 foc1) fun hW => ?_
 have hO := hW.ok
 have hlen := hW.big.len
 have hns := Md.names_len (m := m)
 refine sR <| oA rfl rfl <| nT <| zaf <| sR <| oM rfl rfl <| oP (zae rfl) rfl <| oP (zaa rfl ⟨_, _, _, Tryz.runUnderlying84, rfl, rfl, Tryz.sizeOf81, rfl⟩) rfl <| oV (zah rfl foc0 rfl Tryz.isAgg81) rfl <| oM rfl rfl <| oO (zk5 rfl rfl foc1 rfl (fun hd2 => ?_) (fun k1 hd2 => ?_))
 ·
  refine oM rfl rfl <| oP (zaw rfl rfl) rfl <| oP (zaw rfl rfl) rfl <| oA rfl rfl <| oA rfl rfl <| nT <| sR <| oM rfl rfl <| nT <| za5 rfl rfl <| kT <| sR <| oM rfl rfl <| oP (zae rfl) rfl <| oP (zaa rfl ⟨_, _, _, Tryz.runUnderlying84, rfl, rfl, Tryz.sizeOf82, rfl⟩) rfl <| oV (zah rfl foc0 rfl Tryz.isAgg82) rfl <| oM rfl rfl <| oO (zea rfl rfl foc1 rfl (fun hd4 => ?_) (fun k3 hd4 => ?_))
  ·
   exfalso; rw [zpp hd2, hd4] at hn; cases hn
  ·
   refine oP (zae rfl) rfl <| oP (zaa rfl ⟨_, _, _, Tryz.runUnderlying111, rfl, rfl, Tryz.sizeOf30, rfl⟩) rfl <| oV (zbu (Ent.trans (t1_ eR) (za8 (Md.dev_is hd4).1)) (zah rfl foc0 rfl Tryz.isAgg30)) rfl <| oO <| zaq (zey (zcc (Md.dev_is hd4).1) zh1) rfl Tryz.call81 (Dels.cons del1 Dels.nil) rfl fun _ hc5 => oA rfl rfl <| nT <| zai <| zam (res1 Tryz.results99 rfl) <| CSpec.close () ?_ ?_ (t1_ (t0_ eR))
   · exact iv (zs3 hd4).symm
   · trivial
 ·
  refine oM rfl rfl <| oP (zaw rfl rfl) rfl <| oP (zaw rfl rfl) rfl <| oA rfl rfl <| oA rfl rfl <| nT <| sR <| oM rfl rfl <| nT <| za4 rfl rfl <| sR <| oM rfl rfl <| oO <| zeg rfl (zro (Md.bas_is hd2).1) rfl (Dels.cons del1 Dels.nil) rfl fun _ hc6 => oA rfl rfl <| nT <| zai <| zad <| zam (res1 Tryz.results99 rfl) <| CSpec.close () ?_ ?_ (t1_ (t0_ eR))
  · exact iv (zs2 hd2).symm
  · trivial
end Go.Proofs
set_option linter.unusedSimpArgs false
set_option maxRecDepth 20000
namespace Go.Proofs
open Go.VG
section
variable {c : MH} {m : Md} {k : Nat}
theorem zdi {x : api_Target} {l : List api_Target} (h : chk l = 0) (hx : x ∈ l) : 0 ≤ x.Offset ∧ x.Offset ≤ 16777216 ∧ 1 ≤ x.Length ∧ x.Length ≤ 16777216 := by
  obtain ⟨i, hi, e⟩ := List.getElem_of_mem hx
  obtain ⟨_, h1, h2, h3, h4⟩ := zgh l 0 (zb0 h).2 i hi
  have e2 : l.getD i tgt0 = x := by simp [List.getD, hi, e]
  rw [e2] at h1 h2 h3 h4; omega
theorem zb9 {α : Type} {l : List α} {i : Nat} (d : α) (h : i < l.length) : l.getD i d ∈ l := by simp [List.getD, h]
theorem zqe (hW : MapWF c m) (n : ByteArray) : 0 ≤ m.sizeN n ∧ m.sizeN n ≤ 1073741824 := by
  unfold Md.sizeN
  cases m.find n with
  | none => simp
  | some k =>
    show 0 ≤ m.size k ∧ m.size k ≤ 1073741824
    unfold Md.size
    split
    · rename_i h; have := (hW.ok.bas k h).2.2.2.2.2.2; omega
    · unfold tsize; split
      · rename_i h; exact zk4 h
      · omega
@[irreducible] def fitT (m : Md) (x : api_Target) : Bool := decide (x.On ≠ noN ∧ m.sizeN x.On < x.Offset + x.Length)
theorem zpq {l : List api_Target} : (!l.any fun x => fitT m x) = m.fits l := by
  unfold Md.fits
  rw [List.not_any_eq_all_not]
  congr 1; funext x
  unfold fitT
  rw [Bool.eq_iff_iff]
  simp only [Bool.not_eq_true', decide_eq_false_iff_not, decide_eq_true_eq]
  constructor
  · intro h
    by_cases h1 : x.On = noN
    · exact .inl h1
    · exact .inr (Int.not_lt.1 fun h2 => h ⟨h1, h2⟩)
  · rintro (h | h) ⟨h1, h2⟩
    · exact h1 h
    · omega
end
theorem zqu {W : World} {b q : Nat} {c : MH} {m : Md} {x : api_Target} (h : (x.On ≠ noN → (m.find x.On).isSome = true) ∧ 0 ≤ x.Offset ∧ x.Offset ≤ 16777216 ∧ 1 ≤ x.Length ∧ x.Length ≤ 16777216) :
    CSpec Tryz.prog W 98 [.agg #[.int .i64 x.Start, .int .i64 x.Length, .string x.On, .int .i64 x.Offset, .bool x.Fail], ptr q 0] [blk q 25 [ptr b 0], blk b 84 (zax c m), MapR c m] (fun _ : Unit => .bool (fitT m x)) (fun _ => True) (fun _ F => blk q 25 [ptr b 0] :: blk b 84 (zax c m) :: MapR c m :: F) := by
 obtain ⟨hn, hb⟩ := h
 refine CSpec.of_body Tryz.func98 rfl Tryz.ntmps98 rfl fun F => ?_
 show CJ _ _ _ _ _ _ (_ :: _ :: _ :: F)
 refine zbl (zb3 foc2) fun hW => ?_
 have hO := hW.ok
 have hlen := hW.big.len
 have hns := Md.names_len (m := m)
 have hsz := zqe hW x.On
 refine sR <| oO <| O_box rfl rfl rfl fun b1 => oA rfl rfl <| nT <| zaf <| za0 0 (by kernel_rfl) rfl <| aN 0 1 rfl rfl (zaa rfl ⟨_, _, _, Tryz.runUnderlying37, rfl, rfl, Tryz.sizeOf9, rfl⟩) rfl <| aV 1 3 rfl rfl (zac rfl) (t0_ (t0_ (t0_ (t0_ eR)))) (zah rfl foc0 rfl Tryz.isAgg9) rfl <| aN 2 7 rfl rfl (ze8 rfl rfl Tryz.underlying9) rfl <| aN 3 15 rfl rfl (zag rfl) rfl ?_
 first | (refine zc0 7 rfl (fun hg1B hg1 => ?_) (fun hg1B hg1 => ?_)) | (refine zc1 7 rfl (fun hg1B hg1 => ?_) (fun hg1B hg1 => ?_)) | (refine zdf 7 rfl (fun hg1B => ?_) (fun hg1B => ?_))
 ·
  refine aP 4 31 rfl rfl (zab rfl rfl rfl hg1B) (zaa rfl ⟨_, _, _, Tryz.runUnderlying37, rfl, rfl, Tryz.sizeOf3, rfl⟩) rfl <| aV 5 63 rfl rfl (zab rfl rfl rfl hg1B) (t0_ (t0_ (t0_ (t0_ eR)))) (zah rfl foc0 rfl Tryz.isAgg3) rfl <| aP 6 127 rfl rfl (zab rfl rfl rfl hg1B) (zaa rfl ⟨_, _, _, Tryz.runUnderlying37, rfl, rfl, Tryz.sizeOf3, rfl⟩) rfl <| aV 7 255 rfl rfl (zab rfl rfl rfl hg1B) (t0_ (t0_ (t0_ (t0_ eR)))) (zah rfl foc0 rfl Tryz.isAgg3) rfl <| aP 8 511 rfl rfl (zab rfl rfl rfl hg1B) (P_add rfl rfl (by omega)) rfl <| aV 9 1023 rfl rfl (zab rfl rfl rfl hg1B) (t0_ (t0_ (t0_ (t0_ eR)))) (zah rfl foc1 rfl Tryz.isAgg25) rfl <| aP 10 2047 rfl rfl (zab rfl rfl rfl hg1B) (zaa rfl ⟨_, _, _, Tryz.runUnderlying37, rfl, rfl, Tryz.sizeOf9, rfl⟩) rfl <| aV 11 4095 rfl rfl (zab rfl rfl rfl hg1B) (t0_ (t0_ (t0_ (t0_ eR)))) (zah rfl foc0 rfl Tryz.isAgg9) rfl <| AJ_op 12 8191 rfl (by kernel_rfl) rfl (zab rfl rfl rfl hg1B) <| zaq (c_size (hn (by first | assumption | simpa using ‹_›))) rfl Tryz.call99 (Dels.cons del2 (Dels.cons del2 Dels.nil)) rfl fun _ hc2 => ⟨fun _ => (t2_ (t2_ (t0_ (t0_ eR)))), ?_⟩
  refine aP 13 16383 rfl rfl (zab rfl rfl rfl hg1B) (P_gtr rfl rfl) rfl <| aN 14 32767 rfl rfl (zas rfl hg1B rfl) rfl <| aN 15 65535 rfl rfl (zbc rfl) rfl <| aD <| zai <| zam (res1 Tryz.results98 rfl) <| CSpec.close () ?_ ?_ (t3_ (t0_ (t0_ (eD eR))))
  · exact bv (by unfold fitT; rw [Bool.eq_iff_iff]; simp_all)
  · trivial
 ·
  refine aS 4 31 rfl rfl (GY_no rfl rfl rfl hg1B) rfl <| aS 5 63 rfl rfl (GY_no rfl rfl rfl hg1B) rfl <| aS 6 127 rfl rfl (GY_no rfl rfl rfl hg1B) rfl <| aS 7 255 rfl rfl (GY_no rfl rfl rfl hg1B) rfl <| aS 8 511 rfl rfl (GY_no rfl rfl rfl hg1B) rfl <| aS 9 1023 rfl rfl (GY_no rfl rfl rfl hg1B) rfl <| aS 10 2047 rfl rfl (GY_no rfl rfl rfl hg1B) rfl <| aS 11 4095 rfl rfl (GY_no rfl rfl rfl hg1B) rfl <| aS 12 8191 rfl rfl (GY_no rfl rfl rfl hg1B) rfl <| aS 13 16383 rfl rfl (GY_no rfl rfl rfl hg1B) rfl <| aN 14 32767 rfl rfl (zay rfl hg1B rfl) rfl <| aN 15 65535 rfl rfl (zbc rfl) rfl <| aD <| zai <| zam (res1 Tryz.results98 rfl) <| CSpec.close () ?_ ?_ (t1_ (t1_ (t1_ (eD eR))))
  · exact bv (by unfold fitT; rw [Bool.eq_iff_iff]; simp_all)
  · trivial
theorem zus {W : World} {b q : Nat} {c : MH} {m : Md} {v : Value} {xs : List api_Target} {RA : HP} (hR : Reads RA tyapi_Target v xs) (hl : xs.length ≤ 100000000) (hp : ∀ x ∈ xs, (x.On ≠ noN → (m.find x.On).isSome = true) ∧ 0 ≤ x.Offset ∧ x.Offset ≤ 16777216 ∧ 1 ≤ x.Length ∧ x.Length ≤ 16777216) :
    CSpec Tryz.prog W 110 [v, .func (.func 98) #[] #[ptr q 0]] [RA, blk q 25 [ptr b 0], blk b 84 (zax c m), MapR c m] (fun r : Int => .int .i64 r) (fun r => (0 ≤ r ↔ (xs.any fun x => fitT m x) = true)) (fun _ F => RA :: blk q 25 [ptr b 0] :: blk b 84 (zax c m) :: MapR c m :: F) := by
 refine CSpec.of_body Tryz.func110 rfl Tryz.ntmps110 rfl fun F => ?_
 show CJ _ _ _ _ _ _ (_ :: _ :: _ :: _ :: F)
 refine sR <| oA rfl rfl <| nT <| zaf <| sR <| oM rfl rfl <| oV (V_len rfl foc0 hR Tryz.runUnderlying30) rfl <| oM rfl rfl <| nT <| zat <| zbs (X := Nat) [4, 5, 8, 9, 10, 11, 12, 13, 14, 15, 16, 17, 18] (fun i  => ([(8, .int .i64 (i : Nat))] : Slots)) (fun i R => R) (fun i  => i ≤ xs.length ∧ ((xs.take i).any fun x => fitT m x) = false) (fun i  => xs.length - i) (0) ?_ ?_ (t0_ (t0_ (t0_ (t0_ eR)))) ?_
 · exact ⟨Nat.zero_le _, by simp⟩
 · exact ⟨rfl, True.intro⟩
 ·
  intro i hpf
  obtain ⟨hi, hno⟩ := hpf
  show CJ _ _ _ _ _ (([(8, .int .i64 (i : Nat))] : Slots) ++ forget _ _) (_)
  have hmem : i < xs.length → xs.getD i tyapi_Target.dflt ∈ xs := fun h => zb9 _ h
  refine sR <| oP (P_lss rfl rfl) rfl <| nT <| zaf ?_
  first | (refine zao rfl (fun hg1 => ?_) (fun hg1 => ?_)) | (refine zap rfl (fun hg1 => ?_) (fun hg1 => ?_)) | (refine zar rfl (fun hg1 => ?_) (fun hg1 => ?_))
  ·
   refine kT <| zaf <| zat <| sR <| oM rfl rfl <| oA rfl rfl <| nT <| sR <| oM rfl rfl <| oM rfl rfl <| oM rfl rfl ?_
   first | (refine RJ_op rfl (OJ_V (zan rfl rfl rfl (by omega) foc0 hR Tryz.runUnderlying30 Tryz.sizeOf37) rfl ?_)) | (refine RJ_op rfl (OJ_V (zan rfl rfl (Int.toNat_of_nonneg (by omega)).symm (by omega) foc0 hR Tryz.runUnderlying30 Tryz.sizeOf37) rfl ?_))
   refine oV (zcd rfl rfl (by omega) foc0 hR rfl rfl Tryz.isAgg37 Tryz.sizeOf37) rfl <| oO <| zdv rfl rfl (zqu (hp (xs.getD i tyapi_Target.dflt) (hmem (by omega)))) Tryz.call98 (Dels.cons del1 (Dels.cons del1 (Dels.cons del1 Dels.nil))) rfl fun _ hc1 => nT ?_
   first | (refine zao rfl (fun hg2 => ?_) (fun hg2 => ?_)) | (refine zap rfl (fun hg2 => ?_) (fun hg2 => ?_)) | (refine zar rfl (fun hg2 => ?_) (fun hg2 => ?_))
   ·
    refine sR <| oM rfl rfl <| oA rfl rfl <| nT <| zai <| zaj <| zad <| zbd <| zaj <| zad <| zam (res1 Tryz.results110 rfl) <| CSpec.close (i : Int) ?_ ?_ (t3_ (t0_ (t0_ (t0_ eR))))
    · rfl
    · exact ⟨fun _ => List.any_eq_true.2 ⟨_, hmem (by omega), by assumption⟩, fun _ => by omega⟩
   ·
    refine zbk <| zal <| zav <| zak <| oP (P_add rfl rfl (by omega)) rfl <| oM rfl rfl <| za9 <| zbg (i + 1) (by first | omega | (simp only []; omega)) ?_ (by repeat (first | exact Kp.base | exact Kp.self | refine Kp.cons rfl ?_ | refine Kp.forget rfl ?_)) ?_ (t3_ (t0_ (t0_ (t0_ eR))))
    ·
     refine ⟨by omega, ?_⟩
     rw [takeD tyapi_Target.dflt (by omega), List.any_append, hno, List.any_cons, List.any_nil, Bool.or_false, Bool.false_or]
     show fitT m (xs.getD i tyapi_Target.dflt) = false
     assumption
    · exact ⟨rfl, True.intro⟩
  ·
   refine zbt <| za6 <| za7 <| za1 <| zav <| sR <| oA rfl rfl <| nT <| zai <| zam (res1 Tryz.results110 rfl) <| CSpec.close (-1) ?_ ?_ (t0_ (t0_ (t0_ (t0_ eR))))
   · rfl
   ·
    obtain rfl : i = xs.length := by omega
    rw [List.take_length] at hno
    rw [hno]; simp
theorem zut {W : World} {b q : Nat} {c : MH} {m : Md} {v : Value} {xs : List api_Target} {RA : HP} (hR : Reads RA tyapi_Target v xs) (hl : xs.length ≤ 100000000) (hp : ∀ x ∈ xs, (x.On ≠ noN → (m.find x.On).isSome = true) ∧ 0 ≤ x.Offset ∧ x.Offset ≤ 16777216 ∧ 1 ≤ x.Length ∧ x.Length ≤ 16777216) :
    CSpec Tryz.prog W 97 [v, .func (.func 98) #[] #[ptr q 0]] [RA, blk q 25 [ptr b 0], blk b 84 (zax c m), MapR c m] (fun _ : Unit =>   .bool (xs.any fun x => fitT m x)) (fun _ => True) (fun _ F => RA :: blk q 25 [ptr b 0] :: blk b 84 (zax c m) :: MapR c m :: F) := by
 refine CSpec.of_body Tryz.func97 rfl Tryz.ntmps97 rfl fun F => ?_
 show CJ _ _ _ _ _ _ (_ :: _ :: _ :: _ :: F)
 refine sR <| oA rfl rfl <| nT <| sR <| oM rfl rfl <| oM rfl rfl <| oO <| zaq (zus hR hl hp) rfl Tryz.call110 (Dels.cons del0 (Dels.cons del0 (Dels.cons del0 (Dels.cons del0 Dels.nil)))) rfl fun r hr => oP (P_geq rfl rfl) rfl <| oA rfl rfl <| nT <| zai <| zam (res1 Tryz.results97 rfl) <| CSpec.close () ?_ ?_ (t0_ (t0_ (t0_ (t0_ eR))))
 · exact bv (by rw [Bool.eq_iff_iff, decide_eq_true_iff]; exact hr)
 · trivial
theorem c_fits {W : World} {b : Nat} {c : MH} {m : Md} {v : Value} {xs : List api_Target} {RA : HP} (hR : Reads RA tyapi_Target v xs) (hl : xs.length ≤ 100000000) (hp : ∀ x ∈ xs, (x.On ≠ noN → (m.find x.On).isSome = true) ∧ 0 ≤ x.Offset ∧ x.Offset ≤ 16777216 ∧ 1 ≤ x.Length ∧ x.Length ≤ 16777216) :
    CSpec Tryz.prog W 73 [ptr b 0, v] [RA, blk b 84 (zax c m), MapR c m] (fun _ : Unit => .bool (m.fits xs)) (fun _ => True) (fun _ F => RA :: blk b 84 (zax c m) :: MapR c m :: F) := by
 refine CSpec.of_body Tryz.func73 rfl Tryz.ntmps73 rfl fun F => ?_
 show CJ _ _ _ _ _ _ (_ :: _ :: _ :: F)
 refine sR <| oO <| O_box rfl rfl rfl fun b1 => oA rfl rfl <| nT <| sR <| oM rfl rfl <| oP (zb4 rfl rfl) rfl <| oO <| zaq (zut hR hl hp) rfl Tryz.call97 (Dels.cons del1 (Dels.cons del0 (Dels.cons del0 (Dels.cons del0 Dels.nil)))) rfl fun _ hc2 => oP (P_not rfl) rfl <| oA rfl rfl <| nT <| zai <| zam (res1 Tryz.results73 rfl) <| CSpec.close () ?_ ?_ (t0_ (t1_ (t1_ (eD eR))))
 · exact bv zpq
 · trivial
theorem zs4 {W : World} {b q : Nat} {c : MH} {m : Md} {v : Value} {xs : List api_Target} (hR : Reads (MapR c m) tyapi_Target v xs) (hl : xs.length ≤ 100000000) (hp : ∀ x ∈ xs, (x.On ≠ noN → (m.find x.On).isSome = true) ∧ 0 ≤ x.Offset ∧ x.Offset ≤ 16777216 ∧ 1 ≤ x.Length ∧ x.Length ≤ 16777216) :
    CSpec Tryz.prog W 110 [v, .func (.func 98) #[] #[ptr q 0]] [blk q 25 [ptr b 0], blk b 84 (zax c m), MapR c m] (fun r : Int => .int .i64 r) (fun r => (0 ≤ r ↔ (xs.any fun x => fitT m x) = true)) (fun _ F => blk q 25 [ptr b 0] :: blk b 84 (zax c m) :: MapR c m :: F) := by
 refine CSpec.of_body Tryz.func110 rfl Tryz.ntmps110 rfl fun F => ?_
 show CJ _ _ _ _ _ _ (_ :: _ :: _ :: F)
 refine sR <| oA rfl rfl <| nT <| zaf <| sR <| oM rfl rfl <| oV (V_len rfl foc2 hR Tryz.runUnderlying30) rfl <| oM rfl rfl <| nT <| zat <| zbs (X := Nat) [4, 5, 8, 9, 10, 11, 12, 13, 14, 15, 16, 17, 18] (fun i  => ([(8, .int .i64 (i : Nat))] : Slots)) (fun i R => R) (fun i  => i ≤ xs.length ∧ ((xs.take i).any fun x => fitT m x) = false) (fun i  => xs.length - i) (0) ?_ ?_ (t0_ (t0_ (t0_ eR))) ?_
 · exact ⟨Nat.zero_le _, by simp⟩
 · exact ⟨rfl, True.intro⟩
 ·
  intro i hpf
  obtain ⟨hi, hno⟩ := hpf
  show CJ _ _ _ _ _ (([(8, .int .i64 (i : Nat))] : Slots) ++ forget _ _) (_)
  have hmem : i < xs.length → xs.getD i tyapi_Target.dflt ∈ xs := fun h => zb9 _ h
  refine sR <| oP (P_lss rfl rfl) rfl <| nT <| zaf ?_
  first | (refine zao rfl (fun hg1 => ?_) (fun hg1 => ?_)) | (refine zap rfl (fun hg1 => ?_) (fun hg1 => ?_)) | (refine zar rfl (fun hg1 => ?_) (fun hg1 => ?_))
  ·
   refine kT <| zaf <| zat <| sR <| oM rfl rfl <| oA rfl rfl <| nT <| sR <| oM rfl rfl <| oM rfl rfl <| oM rfl rfl ?_
   first | (refine RJ_op rfl (OJ_V (zan rfl rfl rfl (by omega) foc2 hR Tryz.runUnderlying30 Tryz.sizeOf37) rfl ?_)) | (refine RJ_op rfl (OJ_V (zan rfl rfl (Int.toNat_of_nonneg (by omega)).symm (by omega) foc2 hR Tryz.runUnderlying30 Tryz.sizeOf37) rfl ?_))
   refine oV (zcd rfl rfl (by omega) foc2 hR rfl rfl Tryz.isAgg37 Tryz.sizeOf37) rfl <| oO <| zdv rfl rfl (zqu (hp (xs.getD i tyapi_Target.dflt) (hmem (by omega)))) Tryz.call98 (Dels.cons del0 (Dels.cons del0 (Dels.cons del0 Dels.nil))) rfl fun _ hc1 => nT ?_
   first | (refine zao rfl (fun hg2 => ?_) (fun hg2 => ?_)) | (refine zap rfl (fun hg2 => ?_) (fun hg2 => ?_)) | (refine zar rfl (fun hg2 => ?_) (fun hg2 => ?_))
   ·
    refine sR <| oM rfl rfl <| oA rfl rfl <| nT <| zai <| zaj <| zad <| zbd <| zaj <| zad <| zam (res1 Tryz.results110 rfl) <| CSpec.close (i : Int) ?_ ?_ (t0_ (t0_ (t0_ eR)))
    · rfl
    · exact ⟨fun _ => List.any_eq_true.2 ⟨_, hmem (by omega), by assumption⟩, fun _ => by omega⟩
   ·
    refine zbk <| zal <| zav <| zak <| oP (P_add rfl rfl (by omega)) rfl <| oM rfl rfl <| za9 <| zbg (i + 1) (by first | omega | (simp only []; omega)) ?_ (by repeat (first | exact Kp.base | exact Kp.self | refine Kp.cons rfl ?_ | refine Kp.forget rfl ?_)) ?_ (t0_ (t0_ (t0_ eR)))
    ·
     refine ⟨by omega, ?_⟩
     rw [takeD tyapi_Target.dflt (by omega), List.any_append, hno, List.any_cons, List.any_nil, Bool.or_false, Bool.false_or]
     show fitT m (xs.getD i tyapi_Target.dflt) = false
     assumption
    · exact ⟨rfl, True.intro⟩
  ·
   refine zbt <| za6 <| za7 <| za1 <| zav <| sR <| oA rfl rfl <| nT <| zai <| zam (res1 Tryz.results110 rfl) <| CSpec.close (-1) ?_ ?_ (t0_ (t0_ (t0_ eR)))
   · rfl
   ·
    obtain rfl : i = xs.length := by omega
    rw [List.take_length] at hno
    rw [hno]; simp
theorem zs5 {W : World} {b q : Nat} {c : MH} {m : Md} {v : Value} {xs : List api_Target} (hR : Reads (MapR c m) tyapi_Target v xs) (hl : xs.length ≤ 100000000) (hp : ∀ x ∈ xs, (x.On ≠ noN → (m.find x.On).isSome = true) ∧ 0 ≤ x.Offset ∧ x.Offset ≤ 16777216 ∧ 1 ≤ x.Length ∧ x.Length ≤ 16777216) :
    CSpec Tryz.prog W 97 [v, .func (.func 98) #[] #[ptr q 0]] [blk q 25 [ptr b 0], blk b 84 (zax c m), MapR c m] (fun _ : Unit =>   .bool (xs.any fun x => fitT m x)) (fun _ => True) (fun _ F => blk q 25 [ptr b 0] :: blk b 84 (zax c m) :: MapR c m :: F) := by
 refine CSpec.of_body Tryz.func97 rfl Tryz.ntmps97 rfl fun F => ?_
 show CJ _ _ _ _ _ _ (_ :: _ :: _ :: F)
 refine sR <| oA rfl rfl <| nT <| sR <| oM rfl rfl <| oM rfl rfl <| oO <| zaq (zs4 hR hl hp) rfl Tryz.call110 (Dels.cons del0 (Dels.cons del0 (Dels.cons del0 Dels.nil))) rfl fun r hr => oP (P_geq rfl rfl) rfl <| oA rfl rfl <| nT <| zai <| zam (res1 Tryz.results97 rfl) <| CSpec.close () ?_ ?_ (t0_ (t0_ (t0_ eR)))
 · exact bv (by rw [Bool.eq_iff_iff, decide_eq_true_iff]; exact hr)
 · trivial
theorem zk6 {W : World} {b : Nat} {c : MH} {m : Md} {v : Value} {xs : List api_Target} (hR : Reads (MapR c m) tyapi_Target v xs) (hl : xs.length ≤ 100000000) (hp : ∀ x ∈ xs, (x.On ≠ noN → (m.find x.On).isSome = true) ∧ 0 ≤ x.Offset ∧ x.Offset ≤ 16777216 ∧ 1 ≤ x.Length ∧ x.Length ≤ 16777216) :
    CSpec Tryz.prog W 73 [ptr b 0, v] [blk b 84 (zax c m), MapR c m] (fun _ : Unit => .bool (m.fits xs)) (fun _ => True) (fun _ F => blk b 84 (zax c m) :: MapR c m :: F) := by
 refine CSpec.of_body Tryz.func73 rfl Tryz.ntmps73 rfl fun F => ?_
 show CJ _ _ _ _ _ _ (_ :: _ :: F)
 refine sR <| oO <| O_box rfl rfl rfl fun b1 => oA rfl rfl <| nT <| sR <| oM rfl rfl <| oP (zb4 rfl rfl) rfl <| oO <| zaq (zs5 hR hl hp) rfl Tryz.call97 (Dels.cons del0 (Dels.cons del0 (Dels.cons del0 Dels.nil))) rfl fun _ hc2 => oP (P_not rfl) rfl <| oA rfl rfl <| nT <| zai <| zam (res1 Tryz.results73 rfl) <| CSpec.close () ?_ ?_ (t1_ (t1_ (eD eR)))
 · exact bv zpq
 · trivial
end Go.Proofs
set_option linter.unusedSimpArgs false
set_option maxRecDepth 20000
namespace Go.Proofs
open Go.VG
@[irreducible] def enT (m : Md) (k : Nat) (z : Int) (x : api_Target) : Bool := decide (x.On = (m.at k).name ∧ z < x.Offset + x.Length)
@[irreducible] def ldT (m : Md) (x : ByteArray) : Bool := !memS m.names x
namespace Md
theorem usersN_len (m : Md) (n : ByteArray) : (m.usersN n).length ≤ m.names.length := by
  unfold usersN
  exact Nat.le_trans (List.length_filter_le _ _) (List.length_filterMap_le _ _)
theorem usersN_is {m : Md} {n : ByteArray} {j : Nat} (h : j ∈ m.usersN n) : m.isD j ∧ usesD (m.at j) n = true := by
  unfold usersN at h
  obtain ⟨h1, h2⟩ := List.mem_filter.1 h
  obtain ⟨x, _, h3⟩ := List.mem_filterMap.1 h1
  exact ⟨(dev_is h3).1, h2⟩
theorem at_find {m : Md} (hO : MdOk m) {j : Nat} (hj : j < m.dv.length) (hg : (m.at j).gone = false) : m.find (m.at j).name = some j := by
  cases hf : m.find (m.at j).name with
  | none =>
    have h := List.findIdx?_eq_none_iff.1 hf (m.at j) (by simp [Md.at, List.getD, hj])
    simp [isN, hg] at h
  | some i =>
    obtain ⟨h1, h2, h3⟩ := find_lt hf
    rw [hO.uniq i j h1 hj h2 hg h3]
theorem dev_at {m : Md} (hO : MdOk m) {j : Nat} (hj : m.isD j) : m.dev (m.at j).name = some j := by
  unfold dev; rw [at_find hO hj.1 hj.2.1]; simp [hj.2.2]
theorem zrq {m : Md} (hO : MdOk m) {n : ByteArray} {j : Nat} (hj : m.isD j) (h : usesD (m.at j) n = true) : j ∈ m.usersN n := by
  unfold usersN
  refine List.mem_filter.2 ⟨List.mem_filterMap.2 ⟨(m.at j).name, names_mem.2 (by rw [at_find hO hj.1 hj.2.1]; rfl), dev_at hO hj⟩, h⟩
theorem zqv {l : List api_Target} {n : ByteArray} (hn : n ≠ noN) : nam l n = true ↔ ∃ t ∈ l, t.On = n := by
  unfold nam
  rw [List.any_eq_true]
  constructor
  · rintro ⟨t, h1, h2⟩; exact ⟨t, h1, (by simpa using h2 : t.On = n ∧ n ≠ noN).1⟩
  · rintro ⟨t, h1, h2⟩; exact ⟨t, h1, by simp [h2, hn]⟩
theorem needs_false {m : Md} {k j : Nat} {z : Int} {t : api_Target} (hj : m.isD j) (ht : t ∈ tbl (m.at j)) (h : enT m k z t = true) : m.needs k z = false := by
  unfold enT at h
  have h := of_decide_eq_true h
  unfold needs
  rw [Bool.eq_false_iff]; intro h2
  have h3 := List.all_eq_true.1 h2 (m.at j) (by simp [Md.at, List.getD, hj.1])
  rw [hj.2.1, Bool.false_or] at h3
  have h4 := of_decide_eq_true (List.all_eq_true.1 h3 t ht)
  rcases h4 with h4 | h4
  · exact h4 h.1
  · omega
theorem needs_true {m : Md} (hO : MdOk m) {k : Nat} {z : Int} (hk : m.isD k) (h : ∀ j ∈ m.usersN (m.at k).name, ∀ t ∈ tbl (m.at j), enT m k z t = false) : m.needs k z = true := by
  unfold needs
  rw [List.all_eq_true]
  intro d hd
  obtain ⟨j, hj, rfl⟩ := List.getElem_of_mem hd
  have e : m.dv[j] = m.at j := by simp [Md.at, List.getD, hj]
  rw [e]
  cases hg : (m.at j).gone with
  | true => rfl
  | false =>
    rw [Bool.false_or, List.all_eq_true]
    intro t ht
    refine decide_eq_true ?_
    by_cases h1 : t.On = (m.at k).name
    · right
      have hne := hO.nm k hk.1 hk.2.1
      have hB : (m.at j).isB = false := by
        cases hb : (m.at j).isB with
        | false => rfl
        | true =>
          obtain ⟨g1, g2, _⟩ := hO.bas j hb
          rw [g1, g2] at ht; cases ht
      have hu : usesD (m.at j) (m.at k).name = true := by
        unfold usesD; rw [hg]
        rcases List.mem_append.1 ht with h2 | h2
        · rw [(zqv hne).2 ⟨t, h2, h1⟩]; rfl
        · rw [(zqv hne).2 ⟨t, h2, h1⟩]; simp
      have h3 := h j (zrq hO ⟨hj, hg, hB⟩ hu) t ht
      unfold enT at h3
      have h4 := of_decide_eq_false h3
      exact Int.not_lt.1 fun h5 => h4 ⟨h1, h5⟩
    · exact .inl h1
end Md
theorem tbl_rd {X : HP} {c : MH} {m : Md} {j : Nat} (hj : m.isD j) : ∀ i, i < 2 → Reads (MapRG X c m) tyapi_Target (([(c.hd j).lv, (c.hd j).nw] : List Sl3).getD i s3z).v (([(m.at j).live, (m.at j).new] : List (List api_Target)).getD i [])
  | 0, _ => zcc hj
  | 1, _ => rdNew hj
theorem tbl_in {m : Md} {j : Nat} : ∀ i, i < 2 → ∀ t ∈ (([(m.at j).live, (m.at j).new] : List (List api_Target)).getD i []), t ∈ Md.tbl (m.at j)
  | 0, _, _, h => List.mem_append.2 (.inl h)
  | 1, _, _, h => List.mem_append.2 (.inr h)
theorem zwb {m : Md} {j : Nat} {p : api_Target → Bool} (h : ∀ i, i < 2 → ((([(m.at j).live, (m.at j).new] : List (List api_Target)).getD i []).any p) = false) : ∀ t ∈ Md.tbl (m.at j), p t = false := fun t ht => by
  rcases List.mem_append.1 ht with h1 | h1
  · have := h 0 (by decide); rw [Bool.eq_false_iff] at this ⊢; exact fun h2 => this (List.any_eq_true.2 ⟨t, h1, h2⟩)
  · have := h 1 (by decide); rw [Bool.eq_false_iff] at this ⊢; exact fun h2 => this (List.any_eq_true.2 ⟨t, h1, h2⟩)
theorem zqw {m : Md} (hO : MdOk m) {j : Nat} : ∀ i, i < 2 → chk (([(m.at j).live, (m.at j).new] : List (List api_Target)).getD i []) = 0
  | 0, _ => (hO.chk j).1
  | 1, _ => (hO.chk j).2
theorem bs_map {c : MH} {l : List Nat} {i : Nat} (hi : i < l.length) : ptr (c.bs (l.getD i 0)) 0 = ptr ((l.map c.bs).getD i 0) 0 := by
  simp [List.getD, hi]
theorem zs6 {W : World} {q q2 : Nat} {c : MH} {m : Md} {k : Nat} {z : Int} {x : api_Target} (hk : m.isD k) (hb : 0 ≤ x.Offset ∧ x.Offset ≤ 16777216 ∧ 1 ≤ x.Length ∧ x.Length ≤ 16777216) :
    CSpec Tryz.prog W 102 [.agg #[.int .i64 x.Start, .int .i64 x.Length, .string x.On, .int .i64 x.Offset, .bool x.Fail], ptr q 0, ptr q2 0] [blk q 85 [ptr (c.bs k) 0], blk q2 3 [.int .i64 z], MapR c m] (fun _ : Unit => .bool (enT m k z x)) (fun _ => True) (fun _ F => blk q 85 [ptr (c.bs k) 0] :: blk q2 3 [.int .i64 z] :: MapR c m :: F) := by
 refine CSpec.of_body Tryz.func102 rfl Tryz.ntmps102 rfl fun F => ?_
 show CJ _ _ _ _ _ _ (_ :: _ :: _ :: F)
 refine sR <| oO <| O_box rfl rfl rfl fun b1 => oA rfl rfl <| nT <| zaf <| za0 0 (by kernel_rfl) rfl <| aN 0 1 rfl rfl (zaa rfl ⟨_, _, _, Tryz.runUnderlying37, rfl, rfl, Tryz.sizeOf9, rfl⟩) rfl <| aV 1 3 rfl rfl (zac rfl) (t0_ (t0_ (t0_ (t0_ eR)))) (zah rfl foc0 rfl Tryz.isAgg9) rfl <| aV 2 7 rfl rfl (zac rfl) (t0_ (t0_ (t0_ (t0_ eR)))) (zah rfl foc1 rfl Tryz.isAgg85) rfl <| aN 3 15 rfl rfl (zae rfl) rfl <| aN 4 31 rfl rfl (zaa rfl ⟨_, _, _, Tryz.runUnderlying111, rfl, rfl, Tryz.sizeOf9, rfl⟩) rfl <| aV 5 63 rfl rfl (zac rfl) (t0_ (t0_ (t0_ (t0_ eR)))) (zbu (Ent.trans (t3_ eR) (za8 hk)) (zah rfl foc0 rfl Tryz.isAgg9)) rfl <| aN 6 127 rfl rfl (zcx rfl rfl Tryz.underlying9) rfl <| aN 7 255 rfl rfl (zag rfl) rfl ?_
 first | (refine zc0 12 rfl (fun hg1B hg1 => ?_) (fun hg1B hg1 => ?_)) | (refine zc1 12 rfl (fun hg1B hg1 => ?_) (fun hg1B hg1 => ?_)) | (refine zdf 12 rfl (fun hg1B => ?_) (fun hg1B => ?_))
 ·
  refine aP 8 511 rfl rfl (zab rfl rfl rfl hg1B) (zaa rfl ⟨_, _, _, Tryz.runUnderlying37, rfl, rfl, Tryz.sizeOf3, rfl⟩) rfl <| aV 9 1023 rfl rfl (zab rfl rfl rfl hg1B) (t0_ (t0_ (t0_ (t0_ eR)))) (zah rfl foc0 rfl Tryz.isAgg3) rfl <| aP 10 2047 rfl rfl (zab rfl rfl rfl hg1B) (zaa rfl ⟨_, _, _, Tryz.runUnderlying37, rfl, rfl, Tryz.sizeOf3, rfl⟩) rfl <| aV 11 4095 rfl rfl (zab rfl rfl rfl hg1B) (t0_ (t0_ (t0_ (t0_ eR)))) (zah rfl foc0 rfl Tryz.isAgg3) rfl <| aP 12 8191 rfl rfl (zab rfl rfl rfl hg1B) (P_add rfl rfl (by omega)) rfl <| aV 13 16383 rfl rfl (zab rfl rfl rfl hg1B) (t0_ (t0_ (t0_ (t0_ eR)))) (zah rfl foc2 rfl Tryz.isAgg3) rfl <| aP 14 32767 rfl rfl (zab rfl rfl rfl hg1B) (P_gtr rfl rfl) rfl <| aN 15 65535 rfl rfl (zas rfl hg1B rfl) rfl <| aN 16 131071 rfl rfl (zbc rfl) rfl <| aD <| zai <| zam (res1 Tryz.results102 rfl) <| CSpec.close () ?_ ?_ (t1_ (t1_ (t1_ (eD eR))))
  · exact bv (by unfold enT; rw [Bool.eq_iff_iff]; simp_all)
  · trivial
 ·
  refine aS 8 511 rfl rfl (GY_no rfl rfl rfl hg1B) rfl <| aS 9 1023 rfl rfl (GY_no rfl rfl rfl hg1B) rfl <| aS 10 2047 rfl rfl (GY_no rfl rfl rfl hg1B) rfl <| aS 11 4095 rfl rfl (GY_no rfl rfl rfl hg1B) rfl <| aS 12 8191 rfl rfl (GY_no rfl rfl rfl hg1B) rfl <| aS 13 16383 rfl rfl (GY_no rfl rfl rfl hg1B) rfl <| aS 14 32767 rfl rfl (GY_no rfl rfl rfl hg1B) rfl <| aN 15 65535 rfl rfl (zay rfl hg1B rfl) rfl <| aN 16 131071 rfl rfl (zbc rfl) rfl <| aD <| zai <| zam (res1 Tryz.results102 rfl) <| CSpec.close () ?_ ?_ (t1_ (t1_ (t1_ (eD eR))))
  · exact bv (by unfold enT; rw [Bool.eq_iff_iff]; simp_all)
  · trivial
theorem zwc {W : World} {q q2 : Nat} {c : MH} {m : Md} {k : Nat} {z : Int} {v : Value} {xs : List api_Target} (hR : Reads (MapR c m) tyapi_Target v xs) (hl : xs.length ≤ 100000000) (hk : m.isD k) (hp : ∀ x ∈ xs, 0 ≤ x.Offset ∧ x.Offset ≤ 16777216 ∧ 1 ≤ x.Length ∧ x.Length ≤ 16777216) :
    CSpec Tryz.prog W 110 [v, .func (.func 102) #[] #[ptr q 0, ptr q2 0]] [blk q 85 [ptr (c.bs k) 0], blk q2 3 [.int .i64 z], MapR c m] (fun r : Int => .int .i64 r) (fun r => (0 ≤ r ↔ (xs.any fun x => enT m k z x) = true)) (fun _ F => blk q 85 [ptr (c.bs k) 0] :: blk q2 3 [.int .i64 z] :: MapR c m :: F) := by
 refine CSpec.of_body Tryz.func110 rfl Tryz.ntmps110 rfl fun F => ?_
 show CJ _ _ _ _ _ _ (_ :: _ :: _ :: F)
 refine sR <| oA rfl rfl <| nT <| zaf <| sR <| oM rfl rfl <| oV (V_len rfl foc2 hR Tryz.runUnderlying30) rfl <| oM rfl rfl <| nT <| zat <| zbs (X := Nat) [4, 5, 8, 9, 10, 11, 12, 13, 14, 15, 16, 17, 18] (fun i  => ([(8, .int .i64 (i : Nat))] : Slots)) (fun i R => R) (fun i  => i ≤ xs.length ∧ ((xs.take i).any fun x => enT m k z x) = false) (fun i  => xs.length - i) (0) ?_ ?_ (t0_ (t0_ (t0_ eR))) ?_
 · exact ⟨Nat.zero_le _, by simp⟩
 · exact ⟨rfl, True.intro⟩
 ·
  intro i hpf
  obtain ⟨hi, hno⟩ := hpf
  show CJ _ _ _ _ _ (([(8, .int .i64 (i : Nat))] : Slots) ++ forget _ _) (_)
  have hmem : i < xs.length → xs.getD i tyapi_Target.dflt ∈ xs := fun h => zb9 _ h
  refine sR <| oP (P_lss rfl rfl) rfl <| nT <| zaf ?_
  first | (refine zao rfl (fun hg1 => ?_) (fun hg1 => ?_)) | (refine zap rfl (fun hg1 => ?_) (fun hg1 => ?_)) | (refine zar rfl (fun hg1 => ?_) (fun hg1 => ?_))
  ·
   refine kT <| zaf <| zat <| sR <| oM rfl rfl <| oA rfl rfl <| nT <| sR <| oM rfl rfl <| oM rfl rfl <| oM rfl rfl ?_
   first | (refine RJ_op rfl (OJ_V (zan rfl rfl rfl (by omega) foc2 hR Tryz.runUnderlying30 Tryz.sizeOf37) rfl ?_)) | (refine RJ_op rfl (OJ_V (zan rfl rfl (Int.toNat_of_nonneg (by omega)).symm (by omega) foc2 hR Tryz.runUnderlying30 Tryz.sizeOf37) rfl ?_))
   refine oV (zcd rfl rfl (by omega) foc2 hR rfl rfl Tryz.isAgg37 Tryz.sizeOf37) rfl <| oO <| zdv rfl rfl (zs6 hk (hp (xs.getD i tyapi_Target.dflt) (hmem (by omega)))) Tryz.call102 (Dels.cons del0 (Dels.cons del0 (Dels.cons del0 Dels.nil))) rfl fun _ hc1 => nT ?_
   first | (refine zao rfl (fun hg2 => ?_) (fun hg2 => ?_)) | (refine zap rfl (fun hg2 => ?_) (fun hg2 => ?_)) | (refine zar rfl (fun hg2 => ?_) (fun hg2 => ?_))
   ·
    refine sR <| oM rfl rfl <| oA rfl rfl <| nT <| zai <| zaj <| zad <| zbd <| zaj <| zad <| zam (res1 Tryz.results110 rfl) <| CSpec.close (i : Int) ?_ ?_ (t0_ (t0_ (t0_ eR)))
    · rfl
    · exact ⟨fun _ => List.any_eq_true.2 ⟨_, hmem (by omega), by assumption⟩, fun _ => by omega⟩
   ·
    refine zbk <| zal <| zav <| zak <| oP (P_add rfl rfl (by omega)) rfl <| oM rfl rfl <| za9 <| zbg (i + 1) (by first | omega | (simp only []; omega)) ?_ (by repeat (first | exact Kp.base | exact Kp.self | refine Kp.cons rfl ?_ | refine Kp.forget rfl ?_)) ?_ (t0_ (t0_ (t0_ eR)))
    ·
     refine ⟨by omega, ?_⟩
     rw [takeD tyapi_Target.dflt (by omega), List.any_append, hno, List.any_cons, List.any_nil, Bool.or_false, Bool.false_or]
     show enT m k z (xs.getD i tyapi_Target.dflt) = false
     assumption
    · exact ⟨rfl, True.intro⟩
  ·
   refine zbt <| za6 <| za7 <| za1 <| zav <| sR <| oA rfl rfl <| nT <| zai <| zam (res1 Tryz.results110 rfl) <| CSpec.close (-1) ?_ ?_ (t0_ (t0_ (t0_ eR)))
   · rfl
   ·
    obtain rfl : i = xs.length := by omega
    rw [List.take_length] at hno
    rw [hno]; simp
theorem zwd {W : World} {q q2 : Nat} {c : MH} {m : Md} {k : Nat} {z : Int} {v : Value} {xs : List api_Target} (hR : Reads (MapR c m) tyapi_Target v xs) (hl : xs.length ≤ 100000000) (hk : m.isD k) (hp : ∀ x ∈ xs, 0 ≤ x.Offset ∧ x.Offset ≤ 16777216 ∧ 1 ≤ x.Length ∧ x.Length ≤ 16777216) :
    CSpec Tryz.prog W 97 [v, .func (.func 102) #[] #[ptr q 0, ptr q2 0]] [blk q 85 [ptr (c.bs k) 0], blk q2 3 [.int .i64 z], MapR c m] (fun _ : Unit =>   .bool (xs.any fun x => enT m k z x)) (fun _ => True) (fun _ F => blk q 85 [ptr (c.bs k) 0] :: blk q2 3 [.int .i64 z] :: MapR c m :: F) := by
 refine CSpec.of_body Tryz.func97 rfl Tryz.ntmps97 rfl fun F => ?_
 show CJ _ _ _ _ _ _ (_ :: _ :: _ :: F)
 refine sR <| oA rfl rfl <| nT <| sR <| oM rfl rfl <| oM rfl rfl <| oO <| zaq (zwc hR hl hk hp) rfl Tryz.call110 (Dels.cons del0 (Dels.cons del0 (Dels.cons del0 Dels.nil))) rfl fun r hr => oP (P_geq rfl rfl) rfl <| oA rfl rfl <| nT <| zai <| zam (res1 Tryz.results97 rfl) <| CSpec.close () ?_ ?_ (t0_ (t0_ (t0_ eR)))
 · exact bv (by rw [Bool.eq_iff_iff, decide_eq_true_iff]; exact hr)
 · trivial
theorem zjo {W : World} {b : Nat} {c : MH} {m : Md} {k : Nat} {z : Int} (hk : m.isD k) :
    CSpec Tryz.prog W 80 [ptr b 0, ptr (c.bs k) 0, .int .i64 z] [blk b 84 (zax c m), MapR c m] (fun _ : Unit => .bool (m.needs k z)) (fun _ => True) (fun _ F => blk b 84 (zax c m) :: MapR c m :: F) := by
 refine CSpec.of_body Tryz.func80 rfl Tryz.ntmps80 rfl fun F => ?_
 show CJ _ _ _ _ _ _ (_ :: _ :: F)
 refine zbl (zb3 foc1) fun hW => ?_
 have hO := hW.ok
 have hlen := hW.big.len
 have hns := Md.names_len (m := m)
 refine sR <| oO <| O_box rfl rfl rfl fun b1 => oO <| O_box rfl rfl rfl fun b2 => oA rfl rfl <| nT <| zaf <| sR <| oM rfl rfl <| oV (zah rfl foc1 rfl Tryz.isAgg85) rfl <| oP (zae rfl) rfl <| oP (zaa rfl ⟨_, _, _, Tryz.runUnderlying111, rfl, rfl, Tryz.sizeOf9, rfl⟩) rfl <| oV (zbu (Ent.trans (t3_ eR) (za8 hk)) (zah rfl foc0 rfl Tryz.isAgg9)) rfl <| oO <| zaq (zwa) rfl Tryz.call57 (Dels.cons del2 (Dels.cons del2 Dels.nil)) rfl fun _ hc4 => oV (V_len rfl foc0 (Reads.sl _ _ _) Tryz.runUnderlying113) rfl <| oM rfl rfl <| nT <| zat <| zbs (X := Nat) [6, 8, 10, 18, 19, 20, 21, 22, 23, 24, 25, 26, 27, 28, 29, 30, 31, 32, 33] (fun i  => ([(18, .int .i64 (i : Nat))] : Slots)) (fun i R => R) (fun i  => i ≤ (m.usersN (m.at k).name).length ∧ ∀ j ∈ (m.usersN (m.at k).name).take i, ∀ t ∈ Md.tbl (m.at j), enT m k z t = false) (fun i  => (m.usersN (m.at k).name).length - i) (0) ?_ ?_ (t0_ (t0_ (t0_ (t0_ (t0_ eR))))) ?_
 · exact ⟨Nat.zero_le _, fun j hj => by simp at hj⟩
 · exact ⟨rfl, True.intro⟩
 ·
  intro i hpf
  obtain ⟨hi, hall⟩ := hpf
  show CJ _ _ _ _ _ (([(18, .int .i64 (i : Nat))] : Slots) ++ forget _ _) (_)
  have hul := Md.usersN_len m (m.at k).name
  have hum : ((m.usersN (m.at k).name).map c.bs).length = (m.usersN (m.at k).name).length := by simp
  have hj0 : i < (m.usersN (m.at k).name).length → m.isD ((m.usersN (m.at k).name).getD i 0) := fun h => (Md.usersN_is (zb9 0 h)).1
  refine sR <| oP (P_lss rfl rfl) rfl <| nT <| zaf ?_
  first | (refine zao rfl (fun hg1 => ?_) (fun hg1 => ?_)) | (refine zap rfl (fun hg1 => ?_) (fun hg1 => ?_)) | (refine zar rfl (fun hg1 => ?_) (fun hg1 => ?_))
  ·
   refine kT <| zaf <| zat <| zaf ?_
   have hj := hj0 (by omega)
   refine zak ?_
   first | (refine RJ_op rfl (OJ_V (zan rfl rfl rfl (by omega) foc0 (Reads.sl _ _ _) Tryz.runUnderlying113 Tryz.sizeOf85) rfl ?_)) | (refine RJ_op rfl (OJ_V (zan rfl rfl (Int.toNat_of_nonneg (by omega)).symm (by omega) foc0 (Reads.sl _ _ _) Tryz.runUnderlying113 Tryz.sizeOf85) rfl ?_))
   refine oV (VJ_eq (za3 rfl rfl (by omega) foc0 (Reads.sl _ _ _) rfl rfl Tryz.isAgg85) (bs_map (by omega))) rfl <| oA rfl rfl <| nT <| sR <| oM rfl rfl <| oO <| zaq (zl8 hj) rfl Tryz.call63 (Dels.cons del2 Dels.nil) rfl fun _ hc6 => oV (V_len rfl foc0 (Reads.sl _ _ _) Tryz.runUnderlying119) rfl <| oM rfl rfl <| nT <| zat <| zbs (X := Nat) [6, 10, 25, 26, 27, 28, 29, 30, 31, 32] (fun i2  => ([(25, .int .i64 (i2 : Nat))] : Slots)) (fun i2 R => R) (fun i2  => i2 ≤ 2 ∧ ∀ i9, i9 < i2 → ((([(m.at ((m.usersN (m.at k).name).getD i 0)).live, (m.at ((m.usersN (m.at k).name).getD i 0)).new] : List (List api_Target)).getD i9 []).any fun x => enT m k z x) = false) (fun i2  => 2 - i2) (0) ?_ ?_ (t0_ (t0_ (t0_ (t0_ (t0_ (t0_ eR)))))) ?_
   · exact ⟨by omega, fun i9 h => by omega⟩
   · exact ⟨rfl, True.intro⟩
   ·
    intro i2 hpf
    obtain ⟨hi2, hno⟩ := hpf
    show CJ _ _ _ _ _ (([(25, .int .i64 (i2 : Nat))] : Slots) ++ forget _ _) (_)
    have h2l : ([(c.hd ((m.usersN (m.at k).name).getD i 0)).lv, (c.hd ((m.usersN (m.at k).name).getD i 0)).nw] : List Sl3).length = 2 := rfl
    refine sR <| oP (P_lss rfl rfl) rfl <| nT <| zaf ?_
    first | (refine zao rfl (fun hg2 => ?_) (fun hg2 => ?_)) | (refine zap rfl (fun hg2 => ?_) (fun hg2 => ?_)) | (refine zar rfl (fun hg2 => ?_) (fun hg2 => ?_))
    ·
     refine kT <| zaf <| zat <| sR ?_
     first | (refine RJ_op rfl (OJ_V (zan rfl rfl rfl (by omega) foc0 (Reads.sl _ _ _) Tryz.runUnderlying119 Tryz.sizeOf30) rfl ?_)) | (refine RJ_op rfl (OJ_V (zan rfl rfl (Int.toNat_of_nonneg (by omega)).symm (by omega) foc0 (Reads.sl _ _ _) Tryz.runUnderlying119 Tryz.sizeOf30) rfl ?_))
     refine oV (za3 rfl rfl (by omega) foc0 (Reads.sl _ _ _) rfl rfl Tryz.isAgg30) rfl <| oA rfl rfl <| nT <| sR <| oM rfl rfl <| oP (zb4 rfl rfl) rfl <| oO <| zaq (zwd (xs := (([(m.at ((m.usersN (m.at k).name).getD i 0)).live, (m.at ((m.usersN (m.at k).name).getD i 0)).new] : List (List api_Target)).getD i2 [])) (tbl_rd hj i2 (by omega)) (Nat.le_trans (zb0 (zqw hO i2 (by omega))).1 (by decide)) hk (fun x hx => zdi (zqw hO i2 (by omega)) hx)) rfl Tryz.call97 (Dels.cons del5 (Dels.cons del4 (Dels.cons del1 Dels.nil))) rfl fun _ hc7 => nT ?_
     first | (refine zao rfl (fun hg3 => ?_) (fun hg3 => ?_)) | (refine zap rfl (fun hg3 => ?_) (fun hg3 => ?_)) | (refine zar rfl (fun hg3 => ?_) (fun hg3 => ?_))
     ·
      refine sR <| oA rfl rfl <| nT <| zai <| zaj <| zad <| zbd <| zaj <| zaj <| zad <| zbd <| zaj <| zad <| zam (res1 Tryz.results80 rfl) <| CSpec.close () ?_ ?_ (t5_ (t2_ (eD (eD (eD (eD eR))))))
      ·
       obtain ⟨t, ht1, ht2⟩ := List.any_eq_true.1 (show ((([(m.at ((m.usersN (m.at k).name).getD i 0)).live, (m.at ((m.usersN (m.at k).name).getD i 0)).new] : List (List api_Target)).getD i2 []).any fun x => enT m k z x) = true by assumption)
       exact bv (Md.needs_false hj (tbl_in i2 (by omega) t ht1) ht2).symm
      · trivial
     ·
      refine zbk <| zal <| zav <| zak <| oP (P_add rfl rfl (by omega)) rfl <| oM rfl rfl <| za9 <| zbg (i2 + 1) (by first | omega | (simp only []; omega)) ?_ (by repeat (first | exact Kp.base | exact Kp.self | refine Kp.cons rfl ?_ | refine Kp.forget rfl ?_)) ?_ (t3_ (t2_ (t2_ (t2_ (t1_ (t0_ eR))))))
      ·
       refine ⟨by omega, fun i9 h9 => ?_⟩
       rcases Nat.lt_or_ge i9 i2 with h | h
       · exact hno i9 h
       · obtain rfl : i9 = i2 := by omega
         assumption
      · exact ⟨rfl, True.intro⟩
    ·
     refine zbt <| za6 <| za7 <| za1 <| zal <| zav <| zak <| oP (P_add rfl rfl (by omega)) rfl <| oM rfl rfl <| za9 <| zbg (i + 1) (by first | omega | (simp only []; omega)) ?_ (by repeat (first | exact Kp.base | exact Kp.self | refine Kp.cons rfl ?_ | refine Kp.forget rfl ?_)) ?_ (t2_ (t2_ (t1_ (t1_ (t1_ (eD eR))))))
     ·
      refine ⟨by omega, fun j hj2 => ?_⟩
      rw [takeD 0 (by omega)] at hj2
      rcases List.mem_append.1 hj2 with h | h
      · exact hall j h
      · rw [List.mem_singleton] at h; subst h
        obtain rfl : i2 = 2 := by omega
        exact zwb hno
     · exact ⟨rfl, True.intro⟩
  ·
   refine zbt <| za6 <| za7 <| za1 <| zav <| sR <| oA rfl rfl <| nT <| zai <| zam (res1 Tryz.results80 rfl) <| CSpec.close () ?_ ?_ (t1_ (t1_ (eD (eD (eD eR)))))
   ·
    obtain rfl : i = (m.usersN (m.at k).name).length := by omega
    rw [List.take_length] at hall
    exact bv (Md.needs_true hO hk hall).symm
   · trivial
end Go.Proofs
set_option linter.unusedSimpArgs false
set_option maxRecDepth 20000
namespace Go.Proofs
open Go.VG
theorem is_lt {is : List Nat} {i n : Nat} (hn : is.Nodup) (hl : ∀ j ∈ is, j < n) (h : i ∉ is) (hi : i < n) : is.length < n := by
  have h2 : (i :: is).Nodup := List.nodup_cons.2 ⟨h, hn⟩
  have h3 : (i :: is).Perm ((List.range n).filter (fun j => decide (j ∈ i :: is))) := (List.perm_ext_iff_of_nodup h2 (List.nodup_range.filter _)).2 fun j => by
    rw [List.mem_filter, List.mem_range]
    constructor
    · intro hj
      refine ⟨?_, by simpa using hj⟩
      rcases List.mem_cons.1 hj with h4 | h4
      · omega
      · exact hl j h4
    · rintro ⟨_, h4⟩; simpa using h4
  have h4 := h3.length_eq
  have h5 := List.length_filter_le (fun j => decide (j ∈ i :: is)) (List.range n)
  rw [List.length_range] at h5; rw [List.length_cons] at h4; omega
theorem zqx {κ ν : Type} [DecidableEq κ] : ∀ {l : List (κ × ν)} {i : Nat} {p : κ × ν}, (l.map (·.1)).Nodup → l[i]? = some p → lookM l p.1 = some p.2
  | [], _, _, _, h => by simp at h
  | (a, v) :: l, 0, p, _, h => by simp at h; subst h; simp [lookM]
  | (a, v) :: l, i + 1, p, hn, h => by
    rw [List.map_cons, List.nodup_cons] at hn
    have h1 : l[i]? = some p := by simpa using h
    have h2 : ¬ p.1 = a := fun e => hn.1 (e ▸ List.mem_map.2 ⟨p, List.mem_of_getElem? h1, rfl⟩)
    simp only [lookM, if_neg h2]
    exact zqx hn.2 h1
theorem zl9 {κ ν : Type} [DecidableEq κ] : ∀ {l : List (κ × ν)} {k : κ} {v : ν}, lookM l k = some v → ∃ i : Nat, l[i]? = some (k, v)
  | [], _, _, h => by simp [lookM] at h
  | (a, u) :: l, k, v, h => by
    simp only [lookM] at h
    split at h
    · rename_i e; subst e; exact ⟨0, by simp at h; simp [h]⟩
    · obtain ⟨i, hi⟩ := zl9 h; exact ⟨i + 1, by simpa using hi⟩
end Go.Proofs
namespace Go.Proofs
namespace Md
def Rank (m : Md) (rk : Nat → Nat) : Prop := ∀ i, i < m.dv.length → (m.at i).gone = false → ∀ t ∈ tbl (m.at i), ∀ j, m.find t.On = some j → rk j < rk i
theorem zoj {p q : Nat → Bool} : ∀ {l : List Nat} {a : Nat}, a ∈ l → p a = false → q a = true → (∀ x, p x = true → q x = true) → l.countP p < l.countP q
  | b :: l, a, h, hp, hq, hpq => by
    rw [List.countP_cons, List.countP_cons]
    rcases List.mem_cons.1 h with rfl | h
    · rw [hp, hq]
      have : l.countP p ≤ l.countP q := List.countP_mono_left fun x _ => hpq x
      simp; omega
    · have := zoj h hp hq hpq
      have h2 : (if p b = true then 1 else 0) ≤ (if q b = true then 1 else 0) := by
        by_cases h3 : p b = true
        · rw [if_pos h3, if_pos (hpq b h3)]; exact Nat.le_refl _
        · rw [if_neg h3]; exact Nat.zero_le _
      omega
theorem rank_bd {m : Md} (h : ∃ rk, m.Rank rk) : ∃ rk, m.Rank rk ∧ ∀ i, rk i ≤ m.dv.length := by
  obtain ⟨rk, h⟩ := h
  refine ⟨fun i => (List.range m.dv.length).countP fun x => decide (rk x < rk i), fun i hi hg t ht j hj => ?_, fun i => ?_⟩
  · have h1 := h i hi hg t ht j hj
    have hjl : j < m.dv.length := (List.findIdx?_eq_some_iff_getElem.1 hj).1
    exact zoj (List.mem_range.2 hjl) (by simp) (by simpa using h1) fun x hx => by simp at hx ⊢; omega
  · have := List.countP_le_length (p := fun x => decide (rk x < rk i)) (l := List.range m.dv.length)
    rw [List.length_range] at this; exact this
def wayN (m : Md) (f : Nat) (n : ByteArray) (t : api_Task) : Option Nat := (m.find n).bind fun j => m.way f j t
section
variable {m : Md} {n : ByteArray} {t : api_Task} {k r : Nat} {a : Int}
theorem way_base (h : (m.at k).isB = true) : m.way r k t = none := by cases r with
  | zero => rfl
  | succ r => unfold way; rw [if_pos h]
theorem wayN_none (h : m.dev n = none) : m.wayN r n t = none := by
  unfold wayN
  unfold dev at h
  cases hf : m.find n with
  | none => rfl
  | some j =>
    rw [hf] at h
    cases hb : (m.at j).isB with
    | true => exact way_base hb
    | false => simp [hb] at h
theorem wayN_dev (h : m.find n = some k) : m.wayN r n t = m.way r k t := by unfold wayN; rw [h]; rfl
theorem way_susp (hb : (m.at k).isB = false) (hs : (m.at k).susp = true) : m.way (r + 1) k t = some k := by
  unfold way; rw [if_neg (by simp [hb]), if_pos hs]
theorem way_flush (hb : (m.at k).isB = false) (hs : (m.at k).susp = false) (hk : t.Kind = 3) : m.way (r + 1) k t = (tuses (m.at k).live).findSome? fun n => m.wayN r n t := by
  rw [way, if_neg (by simp [hb]), if_neg (by simp [hs]), if_pos hk]; rfl
theorem way_out (hb : (m.at k).isB = false) (hs : (m.at k).susp = false) (hk : t.Kind ≠ 3) (hf : tfind (m.at k).live t.At = none) : m.way (r + 1) k t = none := by
  rw [way, if_neg (by simp [hb]), if_neg (by simp [hs]), if_neg hk, hf]
theorem way_in {i : Nat} {o : Int} (hb : (m.at k).isB = false) (hs : (m.at k).susp = false) (hk : t.Kind ≠ 3) (hf : tfind (m.at k).live t.At = some (i, o)) :
    m.way (r + 1) k t = if ((m.at k).live.getD i tgt0).On = noN then none else m.wayN r ((m.at k).live.getD i tgt0).On { t with At := ((m.at k).live.getD i tgt0).Offset + o } := by
  rw [way, if_neg (by simp [hb]), if_neg (by simp [hs]), if_neg hk, hf]; rfl
theorem zs7 (hk : t.Kind = 3) : ∀ r k, m.way r k { t with At := a } = m.way r k t
  | 0, _ => rfl
  | r + 1, k => by
    have ih := zs7 hk r
    have hk' : ({ t with At := a } : api_Task).Kind = 3 := hk
    cases hb : (m.at k).isB with
    | true => rw [way_base hb, way_base hb]
    | false =>
      cases hs : (m.at k).susp with
      | true => rw [way_susp hb hs, way_susp hb hs]
      | false =>
        rw [way_flush hb hs hk, way_flush hb hs hk']
        congr 1; funext n
        unfold wayN
        cases m.find n with
        | none => rfl
        | some j => exact ih j
theorem wayN_at (hk : t.Kind = 3) : m.wayN r n { t with At := a } = m.wayN r n t := by
  unfold wayN
  cases m.find n with
  | none => rfl
  | some j => exact zs7 hk r j
theorem way_is (hO : MdOk m) : ∀ (r k : Nat) (t : api_Task) (j : Nat), k < m.dv.length → (m.at k).gone = false → m.way r k t = some j → j < m.dv.length ∧ (m.at j).gone = false ∧ (m.at j).isB = false ∧ (m.at j).susp = true
  | 0, _, _, _, _, _, h => by cases h
  | r + 1, k, t, j, hk, hg, h => by
    have hN : ∀ n t, m.wayN r n t = some j → j < m.dv.length ∧ (m.at j).gone = false ∧ (m.at j).isB = false ∧ (m.at j).susp = true := fun n t h2 => by
      unfold wayN at h2
      cases hf : m.find n with
      | none => rw [hf] at h2; cases h2
      | some i =>
        rw [hf] at h2
        obtain ⟨h3, h4, _⟩ := List.findIdx?_eq_some_iff_getElem.1 hf
        have e : m.at i = m.dv[i] := by simp [Md.at, List.getD, h3]
        simp only [isN, Bool.and_eq_true, Bool.not_eq_true', decide_eq_true_eq] at h4
        exact way_is hO r i t j h3 (by rw [e]; exact h4.1) h2
    cases hb : (m.at k).isB with
    | true => rw [way_base hb] at h; cases h
    | false =>
      cases hs : (m.at k).susp with
      | true => rw [way_susp hb hs] at h; cases h; exact ⟨hk, hg, hb, hs⟩
      | false =>
        by_cases h3 : t.Kind = 3
        · rw [way_flush hb hs h3] at h
          obtain ⟨n, _, h4⟩ := List.exists_of_findSome?_eq_some h
          exact hN n t h4
        · cases hf : tfind (m.at k).live t.At with
          | none => rw [way_out hb hs h3 hf] at h; cases h
          | some p =>
            rw [way_in (i := p.1) (o := p.2) hb hs h3 hf] at h
            split at h
            · cases h
            · exact hN _ _ h
end
theorem tfind_ok {l : List api_Target} {a : Int} (h : (zez (tfind l a)).2.2 = true) (hc : chk l = 0) : ∃ (i : Nat) (o : Int), tfind l a = some (i, o) ∧ i < l.length ∧ 0 ≤ o ∧ o ≤ 1073741824 := by
  cases hf : tfind l a with
  | none => rw [hf] at h; cases h
  | some p =>
    by_cases ha : 0 ≤ a
    · rcases zhv hc ha with ⟨_, g2⟩ | ⟨r, g1, g2, g3, g4, g5⟩
      · rw [g2] at hf; cases hf
      · rw [g5] at hf; cases hf
        have := zgh l 0 (zb0 hc).2 r g1
        have h2 := zft (zb0 hc).2 r (by omega)
        have h3 := zk4 hc
        refine ⟨r, _, rfl, g1, ?_, by omega⟩
        rcases Nat.eq_zero_or_pos r with rfl | hr
        · have : (l.getD 0 tgt0).Start = 0 := by rw [this.1]; simp [tsum]
          omega
        · have h4 := g2 (r - 1) (by omega)
          unfold tend at h4
          rw [show r - 1 + 1 = r by omega] at h4
          have := this.1; omega
    · have : tfind l a = none := by unfold tfind; rw [if_pos (.inr (by omega))]
      rw [this] at hf; cases hf
theorem tfind_no {l : List api_Target} {a : Int} (h : (zez (tfind l a)).2.2 = false) : tfind l a = none := by
  cases hf : tfind l a with
  | none => rfl
  | some p => rw [hf] at h; cases h
end Md
end Go.Proofs
set_option linter.unusedSimpArgs false
set_option maxRecDepth 20000
namespace Go.Proofs
open Go.VG
section
variable {P : Program} {n : Env} {s : Slots} {dst : Option Tmp} {ty : TypeId} {pos : String} {after : Array Edge} {g : Option (Nat × Bool)} {x y : Operand} {t t' : TypeId} {c : MH} {oo : Option Nat}
theorem zfu {T : TypeId} (hx : ev s x = some (pdv c oo)) (hy : ev s y = some (.pointer none)) (hu : P.underlying t = some (.pointer T)) : PJ P n ⟨dst, .binOp .neq t x y t', ty, pos, after, g⟩ s (.bool oo.isSome) := by
  cases oo with
  | none => exact zhy hx hy hu
  | some k => exact zgr hx hy hu
end
theorem zqy {l : List ByteArray} {f : ByteArray → Option Nat} {i : Nat} (hi : i < l.length) (h : ∀ j, j < i → f (l.getD j ByteArray.empty) = none) (hs : (f (l.getD i ByteArray.empty)).isSome = true) : l.findSome? f = f (l.getD i ByteArray.empty) := by
  have e : l = l.take i ++ l.getD i ByteArray.empty :: l.drop (i + 1) := by rw [← dropD ByteArray.empty hi]; exact (List.take_append_drop i l).symm
  have h1 : (l.take i).findSome? f = none := by
    rw [List.findSome?_eq_none_iff]
    intro x hx
    obtain ⟨j, hj, rfl⟩ := List.getElem_of_mem hx
    rw [List.length_take] at hj
    have := h j (by omega)
    rw [List.getElem_take]
    simpa [List.getD, show j < l.length by omega] using this
  rw [e, List.findSome?_append, h1, ← e]
  obtain ⟨v, hv⟩ := Option.isSome_iff_exists.1 hs
  simp only [List.findSome?_cons, hv, Option.none_or]
theorem zqz {l : List ByteArray} {f : ByteArray → Option Nat} (h : ∀ j, j < l.length → f (l.getD j ByteArray.empty) = none) : l.findSome? f = none := by
  rw [List.findSome?_eq_none_iff]
  intro x hx
  obtain ⟨j, hj, rfl⟩ := List.getElem_of_mem hx
  simpa [List.getD, hj] using h j hj
theorem zfa {m : Md} {rk : Nat → Nat} {k r : Nat} {n : ByteArray} (h : m.Rank rk) (hk : m.isD k) (hkr : rk k < r + 1) (hn : ∃ t ∈ Md.tbl (m.at k), t.On = n) : ∀ j, m.find n = some j → rk j < r := fun j hj => by
  obtain ⟨t, h1, h2⟩ := hn
  have := h k hk.1 hk.2.1 t h1 j (h2 ▸ hj)
  omega
theorem zma {m : Md} {k i : Nat} (hi : i < (tuses (m.at k).live).length) : ∃ t ∈ Md.tbl (m.at k), t.On = (tuses (m.at k).live).getD i ByteArray.empty := by
  have h1 : memS (tuses (m.at k).live) ((tuses (m.at k).live).getD i ByteArray.empty) = true := mem_memS.2 (zb9 _ hi)
  rw [zko] at h1
  unfold nam at h1
  obtain ⟨t, h2, h3⟩ := List.any_eq_true.1 h1
  exact ⟨t, List.mem_append.2 (.inl h2), (of_decide_eq_true h3).1⟩
theorem zkp {l : List api_Target} {a : Int} (h : (!(zez (tfind l a)).2.2) = false) (hc : chk l = 0) : ∃ (i : Nat) (o : Int), tfind l a = some (i, o) ∧ i < l.length ∧ 0 ≤ o ∧ o ≤ 1073741824 := Md.tfind_ok (by simpa using h) hc
theorem zm6 {W : World} {b q1 q2 q3 : Nat} {c : MH} {m : Md} {t : api_Task} {rk : Nat → Nat} {r : Nat} {nm : ByteArray} {a : Int} (hrk : m.Rank rk) (ih : ∀ r2, r2 + 1 = r → ∀ (nm : ByteArray) (a : Int), (∀ j, m.find nm = some j → rk j < r2) → CSpec Tryz.prog W 100 [.string nm, .int .i64 a, ptr q1 0, ptr q2 0, ptr q3 0] [blk q1 25 [ptr b 0], blk q2 33 [.int .i64 t.Kind, .int .i64 t.At, .int .u64 (t.Value.toNat : Int)], blk q3 168 [.func (.func 100) #[] #[ptr q1 0, ptr q2 0, ptr q3 0]], blk b 84 (zax c m), MapR c m] (fun _ : Unit => pdv c (m.wayN r2 nm { t with At := a })) (fun _ => True) (fun _ F => blk q1 25 [ptr b 0] :: blk q2 33 [.int .i64 t.Kind, .int .i64 t.At, .int .u64 (t.Value.toNat : Int)] :: blk q3 168 [.func (.func 100) #[] #[ptr q1 0, ptr q2 0, ptr q3 0]] :: blk b 84 (zax c m) :: MapR c m :: F)) (hn : ∀ j, m.find nm = some j → rk j < r) :
    CSpec Tryz.prog W 100 [.string nm, .int .i64 a, ptr q1 0, ptr q2 0, ptr q3 0] [blk q1 25 [ptr b 0], blk q2 33 [.int .i64 t.Kind, .int .i64 t.At, .int .u64 (t.Value.toNat : Int)], blk q3 168 [.func (.func 100) #[] #[ptr q1 0, ptr q2 0, ptr q3 0]], blk b 84 (zax c m), MapR c m] (fun _ : Unit => pdv c (m.wayN r nm { t with At := a })) (fun _ => True) (fun _ F => blk q1 25 [ptr b 0] :: blk q2 33 [.int .i64 t.Kind, .int .i64 t.At, .int .u64 (t.Value.toNat : Int)] :: blk q3 168 [.func (.func 100) #[] #[ptr q1 0, ptr q2 0, ptr q3 0]] :: blk b 84 (zax c m) :: MapR c m :: F) := by
 refine CSpec.of_body Tryz.func100 rfl Tryz.ntmps100 rfl fun F => ?_
 show CJ _ _ _ _ _ _ (_ :: _ :: _ :: _ :: _ :: F)
 refine zbl (zb3 foc4) fun hW => ?_
 have hO := hW.ok
 refine sR <| oA rfl rfl <| nT <| sR <| oV (zah rfl foc0 rfl Tryz.isAgg25) rfl <| oP (zae rfl) rfl <| oP (zaa rfl ⟨_, _, _, Tryz.runUnderlying84, rfl, rfl, Tryz.sizeOf82, rfl⟩) rfl <| oV (zah rfl foc3 rfl Tryz.isAgg82) rfl <| oM rfl rfl <| oO (zea rfl rfl foc4 rfl (fun hd2 => ?_) (fun k1 hd2 => ?_))
 ·
  refine oA rfl rfl <| nT <| zaf <| sR <| oM rfl rfl <| oP (zgs rfl rfl Tryz.underlying85) rfl <| oM rfl rfl <| RJ_gn (GY_no rfl rfl rfl rfl) rfl rfl <| RJ_gn (GY_no rfl rfl rfl rfl) rfl rfl <| RJ_gn (GY_no rfl rfl rfl rfl) rfl rfl <| RJ_gn (GY_no rfl rfl rfl rfl) rfl rfl <| oP (zas rfl rfl rfl) rfl <| nT <| za4 rfl rfl <| sR <| oM rfl rfl <| oA rfl rfl <| nT <| zai <| zad <| zam (res1 Tryz.results100 rfl) <| CSpec.close () ?_ ?_ (t0_ (t0_ (t0_ (t0_ (t0_ eR)))))
  · exact congrArg (pdv c) (Md.wayN_none hd2).symm
  · trivial
 ·
  refine oA rfl rfl <| nT <| zaf <| sR <| oM rfl rfl <| oP (zd7 rfl rfl Tryz.underlying85) rfl <| oM rfl rfl <| gP (zab rfl rfl rfl rfl) (zag rfl) rfl <| gP (zab rfl rfl rfl rfl) (zae rfl) rfl <| gP (zab rfl rfl rfl rfl) (zaa rfl ⟨_, _, _, Tryz.runUnderlying111, rfl, rfl, Tryz.sizeOf4, rfl⟩) rfl <| gV (zab rfl rfl rfl rfl) (zbu (Ent.trans (t4_ eR) (za8 (Md.dev_is hd2).1)) (zah rfl foc0 rfl Tryz.isAgg4)) rfl <| oP (zay rfl rfl rfl) rfl <| nT ?_
  first | (refine zao rfl (fun hg1 => ?_) (fun hg1 => ?_)) | (refine zap rfl (fun hg1 => ?_) (fun hg1 => ?_)) | (refine zar rfl (fun hg1 => ?_) (fun hg1 => ?_))
  ·
   refine sR <| oM rfl rfl <| oA rfl rfl <| nT <| zai <| zad <| zam (res1 Tryz.results100 rfl) ?_
   obtain ⟨r2, rfl⟩ : ∃ r2, r = r2 + 1 := ⟨r - 1, by have := hn _ (Md.dev_is hd2).2; omega⟩
   refine CSpec.close () ?_ ?_ (t0_ (t0_ (t0_ (t0_ (t0_ eR)))))
   · exact congrArg (pdv c) ((Md.wayN_dev (Md.dev_is hd2).2).trans (Md.way_susp (Md.dev_is hd2).1.2.2 (by assumption))).symm
   · trivial
  ·
   refine kT <| zaf <| zaf ?_
   have hdk := Md.dev_is hd2
   have hkr := hn _ hdk.2
   obtain ⟨r2, rfl⟩ : ∃ r2, r = r2 + 1 := ⟨r - 1, by omega⟩
   have hch := zb0 (hO.chk k1).1
   have hul := zd6 (m.at k1).live
   have hsf : (m.at k1).susp = false := by simp_all
   refine zak <| oP (zaa rfl ⟨_, _, _, Tryz.runUnderlying33, rfl, rfl, Tryz.sizeOf3, rfl⟩) rfl <| oV (zah rfl foc1 rfl Tryz.isAgg3) rfl <| oP (P_eql rfl rfl) rfl <| nT ?_
   first | (refine zao rfl (fun hg2 => ?_) (fun hg2 => ?_)) | (refine zap rfl (fun hg2 => ?_) (fun hg2 => ?_)) | (refine zar rfl (fun hg2 => ?_) (fun hg2 => ?_))
   ·
    refine zaf <| zaf ?_
    have hk3 : t.Kind = 3 := by assumption
    refine zak <| oM rfl rfl <| oP (zae rfl) rfl <| oP (zaa rfl ⟨_, _, _, Tryz.runUnderlying111, rfl, rfl, Tryz.sizeOf30, rfl⟩) rfl <| oV (zbu (Ent.trans (t4_ eR) (za8 (Md.dev_is hd2).1)) (zah rfl foc0 rfl Tryz.isAgg30)) rfl <| oO <| zaq (zfq (zcc (Md.dev_is hd2).1) (zi1 (by first | assumption | omega))) rfl Tryz.call69 (Dels.cons del4 Dels.nil) rfl fun _ hc4 => oV (V_len rfl foc1 (Reads.sl _ _ _) Tryz.runUnderlying59) rfl <| oM rfl rfl <| nT <| zat <| zbs (X := Nat) [7, 10, 11, 39, 40, 41, 42, 43, 44, 45, 46, 47, 48, 49] (fun i  => ([(39, .int .i64 (i : Nat))] : Slots)) (fun i R => R) (fun i  => i ≤ (tuses (m.at k1).live).length ∧ ∀ j, j < i → m.wayN r2 ((tuses (m.at k1).live).getD j ByteArray.empty) { t with At := a } = none) (fun i  => (tuses (m.at k1).live).length - i) (0) ?_ ?_ (t0_ (t0_ (t0_ (t0_ (t0_ (t0_ eR)))))) ?_
    · exact ⟨Nat.zero_le _, fun j h => by omega⟩
    · exact ⟨rfl, True.intro⟩
    ·
     intro i hpf
     obtain ⟨hi, hno⟩ := hpf
     show CJ _ _ _ _ _ (([(39, .int .i64 (i : Nat))] : Slots) ++ forget _ _) (_)
     refine sR <| oP (P_lss rfl rfl) rfl <| nT <| zaf ?_
     first | (refine zao rfl (fun hg3 => ?_) (fun hg3 => ?_)) | (refine zap rfl (fun hg3 => ?_) (fun hg3 => ?_)) | (refine zar rfl (fun hg3 => ?_) (fun hg3 => ?_))
     ·
      refine kT <| zaf <| zat <| sR ?_
      first | (refine RJ_op rfl (OJ_V (zan rfl rfl rfl (by omega) foc1 (Reads.sl _ _ _) Tryz.runUnderlying59 Tryz.sizeOf9) rfl ?_)) | (refine RJ_op rfl (OJ_V (zan rfl rfl (Int.toNat_of_nonneg (by omega)).symm (by omega) foc1 (Reads.sl _ _ _) Tryz.runUnderlying59 Tryz.sizeOf9) rfl ?_))
      refine oV (za3 rfl rfl (by omega) foc1 (Reads.sl _ _ _) rfl rfl Tryz.isAgg9) rfl <| oA rfl rfl <| nT <| sR <| oV (zah rfl foc4 rfl Tryz.isAgg168) rfl <| oM rfl rfl <| oO <| zdv rfl rfl ((ih r2 rfl ((tuses (m.at k1).live).getD i ByteArray.empty) 0 (zfa hrk hdk.1 hkr (zma (by omega))))) Tryz.call100 (Dels.cons del2 (Dels.cons del2 (Dels.cons del2 (Dels.cons del2 (Dels.cons del0 Dels.nil))))) rfl fun _ hc5 => oA rfl rfl <| nT <| sR <| oM rfl rfl <| oP (zfu rfl rfl Tryz.underlying85) rfl <| nT ?_
      first | (refine zao rfl (fun hg4 => ?_) (fun hg4 => ?_)) | (refine zap rfl (fun hg4 => ?_) (fun hg4 => ?_)) | (refine zar rfl (fun hg4 => ?_) (fun hg4 => ?_))
      ·
       refine zaf ?_
       have hyi : i < (tuses (m.at k1).live).length := by omega
       have hsome : (m.wayN r2 ((tuses (m.at k1).live).getD i ByteArray.empty) { t with At := a }).isSome = true := by
         rw [Md.wayN_at hk3, ← Md.wayN_at (a := 0) hk3]; assumption
       refine zak <| oM rfl rfl <| oA rfl rfl <| nT <| zai <| zaj <| zad <| zbd <| zaj <| zad <| zad <| zam (res1 Tryz.results100 rfl) <| CSpec.close () ?_ ?_ (t0_ (t0_ (t0_ (t0_ (t0_ (eD eR))))))
       ·
        refine congrArg (pdv c) ?_
        rw [Md.wayN_dev hdk.2, Md.way_flush (t := { t with At := a }) hdk.1.2.2 hsf hk3, zqy hyi hno hsome]
        exact (Md.wayN_at hk3).trans (Md.wayN_at hk3).symm
       · trivial
      ·
       refine zbk <| zal <| zav <| zak <| oP (P_add rfl rfl (by omega)) rfl <| oM rfl rfl <| za9 <| zbg (i + 1) (by first | omega | (simp only []; omega)) ?_ (by repeat (first | exact Kp.base | exact Kp.self | refine Kp.cons rfl ?_ | refine Kp.forget rfl ?_)) ?_ (t4_ (t4_ (t0_ (t0_ (t0_ (t0_ eR))))))
       ·
        refine ⟨by omega, fun j hj => ?_⟩
        rcases Nat.lt_or_ge j i with h | h
        · exact hno j h
        · obtain rfl : j = i := by omega
          have h9 : (m.wayN r2 ((tuses (m.at k1).live).getD j ByteArray.empty) { t with At := 0 }).isSome = false := by simp_all
          rw [Md.wayN_at hk3] at h9 ⊢
          simpa using h9
       · exact ⟨rfl, True.intro⟩
     ·
      refine zbt <| za6 <| za7 <| za1 <| zav <| sR <| oA rfl rfl <| nT <| zai <| zad <| zam (res1 Tryz.results100 rfl) <| CSpec.close () ?_ ?_ (t2_ (t2_ (t2_ (t2_ (t0_ (eD eR))))))
      ·
       refine congrArg (pdv c) (?_ : none = _)
       obtain rfl : i = (tuses (m.at k1).live).length := by omega
       rw [Md.wayN_dev hdk.2, Md.way_flush (t := { t with At := a }) hdk.1.2.2 hsf hk3, zqz hno]
      · trivial
   ·
    refine kT <| zaf ?_
    have hk3 : t.Kind ≠ 3 := by assumption
    refine zak <| oM rfl rfl <| oP (zae rfl) rfl <| oP (zaa rfl ⟨_, _, _, Tryz.runUnderlying111, rfl, rfl, Tryz.sizeOf30, rfl⟩) rfl <| oV (zbu (Ent.trans (t4_ eR) (za8 (Md.dev_is hd2).1)) (zah rfl foc0 rfl Tryz.isAgg30)) rfl <| oM rfl rfl <| oO <| zaq (zki (zcc (Md.dev_is hd2).1) zqn) rfl Tryz.call101 (Dels.cons del4 Dels.nil) rfl fun _ hc6 => oM rfl rfl <| oP (zaw rfl rfl) rfl <| oP (zaw rfl rfl) rfl <| oP (zaw rfl rfl) rfl <| oA rfl rfl <| oA rfl rfl <| oA rfl rfl <| nT <| zaf <| sR <| oM rfl rfl <| oP (P_not rfl) rfl <| oM rfl rfl ?_
    first | (refine zba 62 rfl (fun hg5B hg5 => ?_) (fun hg5B hg5 => ?_)) | (refine zbb 62 rfl (fun hg5B hg5 => ?_) (fun hg5B hg5 => ?_)) | (refine zbi 62 rfl (fun hg5B => ?_) (fun hg5B => ?_))
    ·
     refine RJ_gn (GY_no rfl rfl rfl hg5B) rfl rfl <| RJ_gn (GY_no rfl rfl rfl hg5B) rfl rfl <| RJ_gn (GY_no rfl rfl rfl hg5B) rfl rfl <| RJ_gn (GY_no rfl rfl rfl hg5B) rfl rfl <| RJ_gn (GY_no rfl rfl rfl hg5B) rfl rfl <| RJ_gn (GY_no rfl rfl rfl hg5B) rfl rfl <| RJ_gn (GY_no rfl rfl rfl hg5B) rfl rfl <| RJ_gn (GY_no rfl rfl rfl hg5B) rfl rfl <| RJ_gn (GY_no rfl rfl rfl hg5B) rfl rfl <| oP (zas rfl hg5B rfl) rfl <| nT <| za4 rfl rfl <| sR <| oA rfl rfl <| nT <| zai <| zad <| zam (res1 Tryz.results100 rfl) <| CSpec.close () ?_ ?_ (t1_ (t1_ (t1_ (t1_ (t0_ eR)))))
     ·
      refine congrArg (pdv c) (?_ : none = _)
      rw [Md.wayN_dev hdk.2]
      exact (Md.way_out (t := { t with At := a }) hdk.1.2.2 hsf hk3 (Md.tfind_no (by simpa using hg5B))).symm
     · trivial
    ·
     obtain ⟨i, o, hf, hi, ho1, ho2⟩ := zkp (hg5B) (hO.chk _).1
     have hfb := zdi (hO.chk _).1 (zb9 tgt0 hi)
     refine gP (zab rfl rfl rfl hg5B) (zag rfl) rfl <| gP (zab rfl rfl rfl hg5B) (zae rfl) rfl <| gP (zab rfl rfl rfl hg5B) (zaa rfl ⟨_, _, _, Tryz.runUnderlying111, rfl, rfl, Tryz.sizeOf30, rfl⟩) rfl <| gV (zab rfl rfl rfl hg5B) (zbu (Ent.trans (t0_ eR) (za8 (Md.dev_is hd2).1)) (zah rfl foc0 rfl Tryz.isAgg30)) rfl <| gP (zab rfl rfl rfl hg5B) (zag rfl) rfl <| gV (zab rfl rfl rfl hg5B) (zan rfl rfl (by rw [hf]; rfl) (by exact hi) foc0 (zcc (Md.dev_is hd2).1) Tryz.runUnderlying30 Tryz.sizeOf37) rfl <| gP (zab rfl rfl rfl hg5B) (za2 rfl ⟨_, _, _, Tryz.runUnderlying37, rfl, rfl, Tryz.sizeOf9, rfl⟩) rfl <| gV (zab rfl rfl rfl hg5B) (za3 rfl rfl (by omega) foc0 (zcc (Md.dev_is hd2).1) rfl rfl Tryz.isAgg9) rfl <| gP (zab rfl rfl rfl hg5B) (zcx rfl rfl Tryz.underlying9) rfl <| oP (zay rfl hg5B rfl) rfl <| nT ?_
     first | (refine zao rfl (fun hg6 => ?_) (fun hg6 => ?_)) | (refine zap rfl (fun hg6 => ?_) (fun hg6 => ?_)) | (refine zar rfl (fun hg6 => ?_) (fun hg6 => ?_))
     ·
      refine sR <| oA rfl rfl <| nT <| zai <| zad <| zam (res1 Tryz.results100 rfl) <| CSpec.close () ?_ ?_ (t1_ (t1_ (t1_ (t1_ (t0_ eR)))))
      ·
       refine congrArg (pdv c) (?_ : none = _)
       rw [Md.wayN_dev hdk.2, Md.way_in (t := { t with At := a }) hdk.1.2.2 hsf hk3 hf, if_pos (by assumption)]
      · trivial
     ·
      refine kT <| zaf <| za0 524288 (by kernel_rfl) rfl <| aV 0 1 rfl rfl (zac rfl) (t0_ (t0_ (t0_ (t0_ (t0_ eR))))) (zah rfl foc3 rfl Tryz.isAgg168) rfl <| aN 1 3 rfl rfl (zag rfl) rfl <| aN 2 7 rfl rfl (zae rfl) rfl <| aN 3 15 rfl rfl (zaa rfl ⟨_, _, _, Tryz.runUnderlying111, rfl, rfl, Tryz.sizeOf30, rfl⟩) rfl <| aV 4 31 rfl rfl (zac rfl) (t0_ (t0_ (t0_ (t0_ (t0_ eR))))) (zbu (Ent.trans (t0_ eR) (za8 (Md.dev_is hd2).1)) (zah rfl foc0 rfl Tryz.isAgg30)) rfl <| aN 5 63 rfl rfl (zag rfl) rfl <| aV 6 127 rfl rfl (zac rfl) (t0_ (t0_ (t0_ (t0_ (t0_ eR))))) (zan rfl rfl (by rw [hf]; rfl) (by exact hi) foc0 (zcc (Md.dev_is hd2).1) Tryz.runUnderlying30 Tryz.sizeOf37) rfl <| aN 7 255 rfl rfl (za2 rfl ⟨_, _, _, Tryz.runUnderlying37, rfl, rfl, Tryz.sizeOf9, rfl⟩) rfl <| aV 8 511 rfl rfl (zac rfl) (t0_ (t0_ (t0_ (t0_ (t0_ eR))))) (za3 rfl rfl (by omega) foc0 (zcc (Md.dev_is hd2).1) rfl rfl Tryz.isAgg9) rfl <| aN 9 1023 rfl rfl (zag rfl) rfl <| aN 10 2047 rfl rfl (zae rfl) rfl <| aN 11 4095 rfl rfl (zaa rfl ⟨_, _, _, Tryz.runUnderlying111, rfl, rfl, Tryz.sizeOf30, rfl⟩) rfl ?_
      refine aV 12 8191 rfl rfl (zac rfl) (t0_ (t0_ (t0_ (t0_ (t0_ eR))))) (zbu (Ent.trans (t0_ eR) (za8 (Md.dev_is hd2).1)) (zah rfl foc0 rfl Tryz.isAgg30)) rfl <| aN 13 16383 rfl rfl (zag rfl) rfl <| aV 14 32767 rfl rfl (zac rfl) (t0_ (t0_ (t0_ (t0_ (t0_ eR))))) (zan rfl rfl (by rw [hf]; rfl) (by exact hi) foc0 (zcc (Md.dev_is hd2).1) Tryz.runUnderlying30 Tryz.sizeOf37) rfl <| aN 15 65535 rfl rfl (za2 rfl ⟨_, _, _, Tryz.runUnderlying37, rfl, rfl, Tryz.sizeOf3, rfl⟩) rfl <| aV 16 131071 rfl rfl (zac rfl) (t0_ (t0_ (t0_ (t0_ (t0_ eR))))) (za3 rfl rfl (by omega) foc0 (zcc (Md.dev_is hd2).1) rfl rfl Tryz.isAgg3) rfl <| aN 17 262143 rfl rfl (zag rfl) rfl <| aN 18 524287 rfl rfl (P_add rfl rfl (by rw [hf]; show -9223372036854775808 ≤ ((m.at _).live.getD i tgt0).Offset + o ∧ ((m.at _).live.getD i tgt0).Offset + o ≤ 9223372036854775807; omega)) rfl <| AJ_op 19 1048575 rfl (by kernel_rfl) rfl (zac rfl) <| zdv rfl rfl ((ih r2 rfl _ _ (zfa hrk hdk.1 hkr ⟨_, List.mem_append.2 (.inl (zb9 tgt0 hi)), rfl⟩))) Tryz.call100 (Dels.cons del1 (Dels.cons del1 (Dels.cons del1 (Dels.cons del1 (Dels.cons del0 Dels.nil))))) rfl fun _ hc7 => ⟨fun h => absurd h (by decide), ?_⟩
      refine aN 20 2097151 rfl rfl (zbc rfl) rfl <| aD <| zai <| zam (res1 Tryz.results100 rfl) <| CSpec.close () ?_ ?_ (t0_ (t0_ (t0_ (t0_ (t0_ eR)))))
      ·
       refine congrArg (pdv c) ?_
       rw [Md.wayN_dev hdk.2, Md.way_in (t := { t with At := a }) hdk.1.2.2 hsf hk3 hf, if_neg (by assumption)]
       rw [hf]; rfl
      · trivial
end Go.Proofs
namespace Go.Proofs
namespace Md
def carryN (m : Md) (f : Nat) (n : ByteArray) (t : api_Task) : (UInt64 × Int) × Md := match m.find n with
  | none => ((0, 1), m)
  | some j => m.carry f j t
section
variable {m : Md} {n : ByteArray} {t : api_Task} {k r : Nat}
theorem carryN_dev (h : m.find n = some k) : m.carryN r n t = m.carry r k t := by unfold carryN; rw [h]
theorem carry_baseR (hb : (m.at k).isB = true) (h3 : t.Kind ≠ 3) (h2 : t.Kind ≠ 2) : m.carry (r + 1) k t = ((if 0 ≤ t.At ∧ t.At < ((m.at k).base.length : Int) then (m.at k).base.getD t.At.toNat 0 else 0, if 0 ≤ t.At ∧ t.At < ((m.at k).base.length : Int) then 0 else 1), m) := by
  unfold carry
  rw [if_neg h3]
  have hs : m.size k = ((m.at k).base.length : Int) := by unfold Md.size; rw [if_pos hb]
  rw [hs]
  by_cases h : 0 ≤ t.At ∧ t.At < ((m.at k).base.length : Int)
  · rw [if_neg (by omega), if_pos hb, if_neg h2, if_pos h, if_pos h]
  · rw [if_pos (by omega), if_neg h, if_neg h]
theorem carry_baseW (hb : (m.at k).isB = true) (h2 : t.Kind = 2) : m.carry (r + 1) k t = if 0 ≤ t.At ∧ t.At < ((m.at k).base.length : Int) then ((0, 0), { m.set k { m.at k with base := (m.at k).base.set t.At.toNat t.Value } with wr := m.wr + 1 }) else ((0, 1), m) := by
  unfold carry
  rw [if_neg (by omega)]
  have hs : m.size k = ((m.at k).base.length : Int) := by unfold Md.size; rw [if_pos hb]
  rw [hs]
  by_cases h : 0 ≤ t.At ∧ t.At < ((m.at k).base.length : Int)
  · rw [if_neg (by omega), if_pos hb, if_pos h2, if_pos h]
  · rw [if_pos (by omega), if_neg h]
theorem carry_dev (hc : chk (m.at k).live = 0) (hb : (m.at k).isB = false) (h3 : t.Kind ≠ 3) : m.carry (r + 1) k t = match tfind (m.at k).live t.At with
    | none => ((0, 1), m)
    | some (i, o) =>
      if ((m.at k).live.getD i tgt0).Fail then ((0, 7), m)
      else if ((m.at k).live.getD i tgt0).On = noN then ((0, if t.Kind = 2 then 22 else 0), m)
      else m.carryN r ((m.at k).live.getD i tgt0).On { t with At := ((m.at k).live.getD i tgt0).Offset + o } := by
  have hs : m.size k = tsum (m.at k).live := by unfold Md.size tsize; rw [if_neg (by simp [hb]), if_pos hc]
  rw [carry, if_neg h3, hs]
  by_cases ha : 0 ≤ t.At
  · rcases zhv hc ha with ⟨g1, g2⟩ | ⟨q, g1, g2, g3, g4, g5⟩
    · rw [if_pos (.inr g1), g2]
    · rw [if_neg (by omega), if_neg (by simp [hb]), g5]; rfl
  · have : tfind (m.at k).live t.At = none := by unfold tfind; rw [if_pos (.inr (by omega))]
    rw [if_pos (.inl (by omega)), this]
structure Kept (m m' : Md) : Prop where
  like : Like m m'
  wait : ∀ i, (m'.at i).wait = (m.at i).wait
  tks : m'.tks = m.tks
  told : m'.told = m.told
  cl : m'.cl = m.cl
  wr1 : m.wr ≤ m'.wr
  wr : m'.wr ≤ m.wr + 1
theorem Kept.refl : Kept m m := ⟨.refl, fun _ => rfl, rfl, rfl, rfl, Nat.le_refl _, Nat.le_succ _⟩
theorem carry_kept : ∀ (r k : Nat) (t : api_Task), Kept m (m.carry r k t).2
  | 0, _, _ => .refl
  | r + 1, k, t => by
    unfold carry
    split
    · exact .refl
    · split
      · exact .refl
      · split
        · split
          · refine ⟨⟨by show (m.dv.set k _).length = _; simp, fun i => ?_⟩, fun i => ?_, rfl, rfl, rfl, Nat.le_succ _, Nat.le_refl _⟩
            · exact (Like.set (m := m) (k := k) (d' := { m.at k with base := (m.at k).base.set t.At.toNat t.Value }) ⟨rfl, rfl, rfl, rfl, rfl, rfl, rfl, rfl⟩).at_ i
            · show ((m.set k { m.at k with base := (m.at k).base.set t.At.toNat t.Value }).at i).wait = _
              by_cases hk : k < m.dv.length
              · rw [at_set hk]; split
                · rename_i e; rw [e]
                · rfl
              · have : (m.set k { m.at k with base := (m.at k).base.set t.At.toNat t.Value }).at i = m.at i := by
                  show (m.dv.set k _).getD i Dv.z = _
                  rw [List.set_eq_of_length_le (by omega)]; rfl
                rw [this]
          · exact .refl
        · split
          · exact .refl
          · dsimp only
            split
            · exact .refl
            · split
              · exact .refl
              · split
                · exact .refl
                · exact carry_kept r _ _
end
end Md
end Go.Proofs
set_option linter.unusedSimpArgs false
set_option maxRecDepth 20000
namespace Go.Proofs
open Go.VG
theorem zkq {P : Program} {n : Env} {W : World} {s : Slots} {H : List HP} {K : Slots → List HP → Prop} {T : TypeId} {x y u : Operand} {ty : TypeId} {pos : String} {after : Array Edge} {g : Option (Nat × Bool)} (h : OJ P n W ⟨none, .mapUpdate T x y u, ty, pos, after, g⟩ s H K) : OJ P n W ⟨none, .insert T x y u, ty, pos, after, g⟩ s H K := by
  intro a w hf hs next Q hn
  obtain ⟨h1, _⟩ := h a w hf hs next Q hn
  refine ⟨?_, fun c e => by cases e⟩
  unfold Oper.wp at h1 ⊢
  exact h1
theorem c_way {W : World} {b q1 q2 q3 : Nat} {c : MH} {m : Md} {t : api_Task} {rk : Nat → Nat} (hrk : m.Rank rk) : ∀ (r : Nat) (nm : ByteArray) (a : Int), (∀ j, m.find nm = some j → rk j < r) → CSpec Tryz.prog W 100 [.string nm, .int .i64 a, ptr q1 0, ptr q2 0, ptr q3 0] [blk q1 25 [ptr b 0], blk q2 33 [.int .i64 t.Kind, .int .i64 t.At, .int .u64 (t.Value.toNat : Int)], blk q3 168 [.func (.func 100) #[] #[ptr q1 0, ptr q2 0, ptr q3 0]], blk b 84 (zax c m), MapR c m] (fun _ : Unit => pdv c (m.wayN r nm { t with At := a })) (fun _ => True) (fun _ F => blk q1 25 [ptr b 0] :: blk q2 33 [.int .i64 t.Kind, .int .i64 t.At, .int .u64 (t.Value.toNat : Int)] :: blk q3 168 [.func (.func 100) #[] #[ptr q1 0, ptr q2 0, ptr q3 0]] :: blk b 84 (zax c m) :: MapR c m :: F)
  | 0, _, _, hn => zm6 hrk (fun r2 h => by omega) hn
  | r + 1, _, _, hn => zm6 hrk (fun r2 h => by obtain rfl : r2 = r := (by omega); exact c_way hrk r2) hn
theorem zwe {c : MH} {m : Md} {k : Nat} {t : api_Task} (hO : MdOk m) (hk : m.isD k) : pdv c (m.wayN (m.dv.length + 1) (m.at k).name { t with At := t.At }) = pdv c (m.wayk k t) := by
  rw [Md.wayN_dev (Md.at_find hO hk.1 hk.2.1)]; rfl
theorem zs8 {c : MH} {m m' : Md} {k : Nat} {a : Int} {v : UInt64} (h : m'.tks = m.tks) : zax (c.wrB m k a v) m' = zax c m := by
  unfold MH.wrB zax; rw [h]; split <;> rfl
theorem wrB_bs {c : MH} {m : Md} {k : Nat} {a : Int} {v : UInt64} (hW : MapWF c m) (hk : m.isBs k) : (c.wrB m k a v).bs = c.bs := by
  unfold MH.wrB
  split
  · exact zif (hW.at hk.1).1 rfl rfl
  · rfl
theorem flB_bs {c : MH} {m : Md} {k : Nat} (hW : MapWF c m) (hk : m.isBs k) : (c.flB m k).bs = c.bs := zif (hW.at hk.1).1 rfl rfl
theorem zkr {m : Md} {k r : Nat} {n : ByteArray} {t : api_Task} (h : m.find n = some k) (hb : (m.at k).isB = true) (h2 : t.Kind = 2) : m.wrB k t.At t.Value = (m.carryN (r + 1) n t).2 ∧ (m.carryN (r + 1) n t).1 = ((0, if 0 ≤ t.At ∧ t.At < ((m.at k).base.length : Int) then 0 else 1) : UInt64 × Int) := by
  rw [Md.carryN_dev h, Md.carry_baseW hb h2]; unfold Md.wrB
  split <;> exact ⟨rfl, rfl⟩
theorem zpr {m : Md} {n : ByteArray} (h1 : m.bas n = none) (h2 : m.dev n = none) (h : (m.find n).isSome = true) : False := by
  rw [zpp h1, h2] at h; cases h
theorem zps {m : Md} : ∀ (r k : Nat) (t : api_Task), (m.carry r k t).1.2 ≠ 0 → (m.carry r k t).1.1 = 0
  | 0, _, _ => fun h => absurd rfl h
  | r + 1, k, t => by
    unfold Md.carry
    split
    · exact fun _ => rfl
    · split
      · exact fun _ => rfl
      · split
        · split
          · exact fun _ => rfl
          · exact fun h => absurd rfl h
        · split
          · exact fun _ => rfl
          · dsimp only
            split
            · exact fun _ => rfl
            · split
              · exact fun _ => rfl
              · split
                · exact fun _ => rfl
                · exact zps r _ _
theorem zf5 {W : World} {b : Nat} {c : MH} {m : Md} {k : Nat} {t : api_Task} (hk : m.isD k) :
    CSpec Tryz.prog W 78 [ptr b 0, ptr (c.bs k) 0, .agg #[.int .i64 t.Kind, .int .i64 t.At, .int .u64 (t.Value.toNat : Int)]] [blk b 84 (zax c m), MapR c m] (fun _ : Unit => pdv c (m.wayk k t)) (fun _ => True) (fun _ F => blk b 84 (zax c m) :: MapR c m :: F) := by
 refine CSpec.of_body Tryz.func78 rfl Tryz.ntmps78 rfl fun F => ?_
 show CJ _ _ _ _ _ _ (_ :: _ :: F)
 refine zbl (zb3 foc1) fun hW => ?_
 have hO := hW.ok
 have hbwr := hW.big.wr
 obtain ⟨rk, hrk, hrb⟩ := Md.rank_bd hO.acy
 refine sR <| oO <| O_box rfl rfl rfl fun b1 => oO <| O_box rfl rfl rfl fun b2 => oA rfl rfl <| nT <| sR <| oO <| zb1 Tryz.zeroValue168 rfl rfl fun b3 => nT <| sR <| oP (zb4 rfl rfl) rfl <| oO <| zbj rfl rfl foc0 rfl rfl Tryz.sizeOf168 <| nT <| zaf <| za0 128 (by kernel_rfl) rfl <| aV 0 1 rfl rfl (zac rfl) (t0_ (t0_ (t0_ (t0_ (t0_ eR))))) (zah rfl foc0 rfl Tryz.isAgg168) rfl <| aN 1 3 rfl rfl (zag rfl) rfl <| aN 2 7 rfl rfl (zae rfl) rfl <| aN 3 15 rfl rfl (zaa rfl ⟨_, _, _, Tryz.runUnderlying111, rfl, rfl, Tryz.sizeOf9, rfl⟩) rfl <| aV 4 31 rfl rfl (zac rfl) (t0_ (t0_ (t0_ (t0_ (t0_ eR))))) (zbu (Ent.trans (t4_ eR) (za8 hk)) (zah rfl foc0 rfl Tryz.isAgg9)) rfl <| aN 5 63 rfl rfl (zaa rfl ⟨_, _, _, Tryz.runUnderlying33, rfl, rfl, Tryz.sizeOf3, rfl⟩) rfl <| aV 6 127 rfl rfl (zac rfl) (t0_ (t0_ (t0_ (t0_ (t0_ eR))))) (zah rfl foc1 rfl Tryz.isAgg3) rfl <| AJ_op 7 255 rfl (by kernel_rfl) rfl (zac rfl) <| zdv rfl rfl ((c_way (t := t) hrk (m.dv.length + 1) _ _ (fun j _ => Nat.lt_succ_of_le (hrb j)))) Tryz.call100 (Dels.cons del2 (Dels.cons del1 (Dels.cons del0 (Dels.cons del0 (Dels.cons del0 Dels.nil))))) rfl fun _ hc4 => ⟨fun h => absurd h (by decide), ?_⟩
 refine aN 8 511 rfl rfl (zbc rfl) rfl <| aD <| zai <| zam (res1 Tryz.results78 rfl) <| CSpec.close () ?_ ?_ (t3_ (t3_ (eD (eD (eD eR)))))
 · exact zwe hO hk
 · trivial
theorem zju {W : World} {b : Nat} {c : MH} {m : Md} {rk : Nat → Nat} {r : Nat} {nm : ByteArray} {t : api_Task} (hrk : m.Rank rk) (hwr : m.wr < 100000000) (ih : ∀ r2, r2 + 1 = r → ∀ {nm : ByteArray} {t : api_Task}, (-9223372036854775808 ≤ t.At ∧ t.At ≤ 9223372036854775807) → t.Kind ≠ 3 → (m.find nm).isSome = true → (∀ j, m.find nm = some j → rk j < r2) → CSpec Tryz.prog W 104 [ptr b 0, .string nm, .agg #[.int .i64 t.Kind, .int .i64 t.At, .int .u64 (t.Value.toNat : Int)]] [blk b 84 (zax c m), MapR c m] (fun _ : MH => .tuple #[.int .u64 ((m.carryN r2 nm t).1.1.toNat : Int), .int .i64 (m.carryN r2 nm t).1.2]) (fun c2 => zax c2 (m.carryN r2 nm t).2 = zax c m ∧ c2.bs = c.bs) (fun c2 F => blk b 84 (zax c m) :: MapR c2 (m.carryN r2 nm t).2 :: F)) (hb : -9223372036854775808 ≤ t.At ∧ t.At ≤ 9223372036854775807) (h3 : t.Kind ≠ 3) (hs : (m.find nm).isSome = true) (hn : ∀ j, m.find nm = some j → rk j < r) :
    CSpec Tryz.prog W 104 [ptr b 0, .string nm, .agg #[.int .i64 t.Kind, .int .i64 t.At, .int .u64 (t.Value.toNat : Int)]] [blk b 84 (zax c m), MapR c m] (fun _ : MH => .tuple #[.int .u64 ((m.carryN r nm t).1.1.toNat : Int), .int .i64 (m.carryN r nm t).1.2]) (fun c2 => zax c2 (m.carryN r nm t).2 = zax c m ∧ c2.bs = c.bs) (fun c2 F => blk b 84 (zax c m) :: MapR c2 (m.carryN r nm t).2 :: F) := by
 refine CSpec.of_body Tryz.func104 rfl Tryz.ntmps104 rfl fun F => ?_
 show CJ _ _ _ _ _ _ (_ :: _ :: F)
 refine zbl (zb3 foc1) fun hW => ?_
 have hO := hW.ok
 have hbwr := hW.big.wr
 refine sR <| oO <| O_box rfl rfl rfl fun b1 => oA rfl rfl <| oA rfl rfl <| nT <| zaf <| sR <| oM rfl rfl <| oP (zae rfl) rfl <| oP (zaa rfl ⟨_, _, _, Tryz.runUnderlying84, rfl, rfl, Tryz.sizeOf81, rfl⟩) rfl <| oV (zah rfl foc1 rfl Tryz.isAgg81) rfl <| oM rfl rfl <| oO (zk5 rfl rfl foc2 rfl (fun hd3 => ?_) (fun k2 hd3 => ?_))
 ·
  refine oM rfl rfl <| oP (zaw rfl rfl) rfl <| oP (zaw rfl rfl) rfl <| oA rfl rfl <| oA rfl rfl <| nT <| sR <| oM rfl rfl <| nT <| za5 rfl rfl <| kT <| sR <| oM rfl rfl <| oP (zae rfl) rfl <| oP (zaa rfl ⟨_, _, _, Tryz.runUnderlying84, rfl, rfl, Tryz.sizeOf82, rfl⟩) rfl <| oV (zah rfl foc1 rfl Tryz.isAgg82) rfl <| oM rfl rfl <| oO (zea rfl rfl foc2 rfl (fun hd5 => ?_) (fun k4 hd5 => ?_))
  ·
   exact (zpr hd3 hd5 hs).elim
  ·
   refine oA rfl rfl <| nT <| zaf ?_
   have hdk := Md.dev_is hd5
   have hkr := hn _ hdk.2
   obtain ⟨r2, rfl⟩ : ∃ r2, r = r2 + 1 := ⟨r - 1, by omega⟩
   have hch := hO.chk k4
   refine za0 64 (by kernel_rfl) rfl <| aN 0 1 rfl rfl (zag rfl) rfl <| aN 1 3 rfl rfl (zae rfl) rfl <| aN 2 7 rfl rfl (zaa rfl ⟨_, _, _, Tryz.runUnderlying111, rfl, rfl, Tryz.sizeOf30, rfl⟩) rfl <| aV 3 15 rfl rfl (zac rfl) (t0_ (t0_ (t0_ eR))) (zbu (Ent.trans (t2_ eR) (za8 (Md.dev_is hd5).1)) (zah rfl foc0 rfl Tryz.isAgg30)) rfl <| aN 4 31 rfl rfl (zaa rfl ⟨_, _, _, Tryz.runUnderlying33, rfl, rfl, Tryz.sizeOf3, rfl⟩) rfl <| aV 5 63 rfl rfl (zac rfl) (t0_ (t0_ (t0_ eR))) (zah rfl foc0 rfl Tryz.isAgg3) rfl <| AJ_op 6 127 rfl (by kernel_rfl) rfl (zac rfl) <| zaq (zki (zcc (Md.dev_is hd5).1) zqn) rfl Tryz.call101 (Dels.cons del2 Dels.nil) rfl fun _ hc6 => ⟨fun h => absurd h (by decide), ?_⟩
   refine aN 7 255 rfl rfl (zag rfl) rfl <| aN 8 511 rfl rfl (zaw rfl rfl) rfl <| aN 9 1023 rfl rfl (zaw rfl rfl) rfl <| aN 10 2047 rfl rfl (zaw rfl rfl) rfl <| aN 11 4095 rfl rfl (zbc rfl) rfl <| aN 12 8191 rfl rfl (zbc rfl) rfl <| aN 13 16383 rfl rfl (zbc rfl) rfl <| aD <| zaf <| zat <| sR <| oM rfl rfl <| oP (P_not rfl) rfl <| oA rfl rfl <| nT ?_
   first | (refine zao rfl (fun hg1 => ?_) (fun hg1 => ?_)) | (refine zap rfl (fun hg1 => ?_) (fun hg1 => ?_)) | (refine zar rfl (fun hg1 => ?_) (fun hg1 => ?_))
   ·
    refine sR <| oA rfl rfl <| oA rfl rfl <| nT <| zai <| zaj <| zad <| zam (res2 Tryz.results104 rfl rfl) ?_
    have e9 : m.carryN (r2 + 1) nm t = ((0, 1), m) := by
      rw [Md.carryN_dev hdk.2, Md.carry_dev hch.1 hdk.1.2.2 h3, Md.tfind_no (by simp_all)]
    refine CSpec.close c ?_ ?_ (t2_ (Ent.takeC del0 (by rw [e9]) (eD eR)))
    · rw [e9]; rfl
    · rw [e9]; exact ⟨rfl, rfl⟩
   ·
    obtain ⟨i, o, hf, hi, ho1, ho2⟩ := zkp hg1 hch.1
    have hfb := zdi hch.1 (zb9 tgt0 hi)
    refine sR <| oM rfl rfl <| oP (zae rfl) rfl <| oP (zaa rfl ⟨_, _, _, Tryz.runUnderlying111, rfl, rfl, Tryz.sizeOf30, rfl⟩) rfl <| oV (zbu (Ent.trans (t0_ eR) (za8 (Md.dev_is hd5).1)) (zah rfl foc0 rfl Tryz.isAgg30)) rfl <| oM rfl rfl <| oV (zan rfl rfl (by rw [hf]; rfl) (by exact hi) foc0 (zcc (Md.dev_is hd5).1) Tryz.runUnderlying30 Tryz.sizeOf37) rfl <| oP (za2 rfl ⟨_, _, _, Tryz.runUnderlying37, rfl, rfl, Tryz.sizeOf4, rfl⟩) rfl <| oV (za3 rfl rfl (by omega) foc0 (zcc (Md.dev_is hd5).1) rfl rfl Tryz.isAgg4) rfl <| oA rfl rfl <| nT ?_
    first | (refine zao rfl (fun hg2 => ?_) (fun hg2 => ?_)) | (refine zap rfl (fun hg2 => ?_) (fun hg2 => ?_)) | (refine zar rfl (fun hg2 => ?_) (fun hg2 => ?_))
    ·
     refine sR <| oA rfl rfl <| oA rfl rfl <| nT <| zai <| zaj <| zad <| zam (res2 Tryz.results104 rfl rfl) ?_
     have e9 : m.carryN (r2 + 1) nm t = ((0, 7), m) := by
       rw [Md.carryN_dev hdk.2, Md.carry_dev hch.1 hdk.1.2.2 h3, hf]
       show (if _ then _ else _) = _
       rw [if_pos (by assumption)]
     refine CSpec.close c ?_ ?_ (t2_ (Ent.takeC del0 (by rw [e9]) (eD eR)))
     · rw [e9]; rfl
     · rw [e9]; exact ⟨rfl, rfl⟩
    ·
     refine sR <| oM rfl rfl <| oP (zae rfl) rfl <| oP (zaa rfl ⟨_, _, _, Tryz.runUnderlying111, rfl, rfl, Tryz.sizeOf30, rfl⟩) rfl <| oV (zbu (Ent.trans (t0_ eR) (za8 (Md.dev_is hd5).1)) (zah rfl foc0 rfl Tryz.isAgg30)) rfl <| oM rfl rfl <| oV (zan rfl rfl (by rw [hf]; rfl) (by exact hi) foc0 (zcc (Md.dev_is hd5).1) Tryz.runUnderlying30 Tryz.sizeOf37) rfl <| oP (za2 rfl ⟨_, _, _, Tryz.runUnderlying37, rfl, rfl, Tryz.sizeOf9, rfl⟩) rfl <| oV (za3 rfl rfl (by omega) foc0 (zcc (Md.dev_is hd5).1) rfl rfl Tryz.isAgg9) rfl <| oP (zcx rfl rfl Tryz.underlying9) rfl <| oM rfl rfl ?_
     first | (refine zba 78 rfl (fun hg3B hg3 => ?_) (fun hg3B hg3 => ?_)) | (refine zbb 78 rfl (fun hg3B hg3 => ?_) (fun hg3B hg3 => ?_)) | (refine zbi 78 rfl (fun hg3B => ?_) (fun hg3B => ?_))
     ·
      refine gP (zab rfl rfl rfl hg3B) (zaa rfl ⟨_, _, _, Tryz.runUnderlying33, rfl, rfl, Tryz.sizeOf3, rfl⟩) rfl <| gV (zab rfl rfl rfl hg3B) (zah rfl foc1 rfl Tryz.isAgg3) rfl <| gP (zab rfl rfl rfl hg3B) (P_eql rfl rfl) rfl <| oP (zas rfl hg3B rfl) rfl <| oA rfl rfl <| nT ?_
      first | (refine zao rfl (fun hg4 => ?_) (fun hg4 => ?_)) | (refine zap rfl (fun hg4 => ?_) (fun hg4 => ?_)) | (refine zar rfl (fun hg4 => ?_) (fun hg4 => ?_))
      ·
       refine sR <| oA rfl rfl <| oA rfl rfl <| nT <| zai <| zaj <| zad <| zam (res2 Tryz.results104 rfl rfl) ?_
       have e9 : m.carryN (r2 + 1) nm t = ((0, 22), m) := by
         rw [Md.carryN_dev hdk.2, Md.carry_dev hch.1 hdk.1.2.2 h3, hf]
         show (if _ then _ else if _ then _ else _) = _
         rw [if_neg (by simp_all), if_pos (by simp_all), if_pos (by simp_all)]
       refine CSpec.close c ?_ ?_ (t2_ (Ent.takeC del0 (by rw [e9]) (eD eR)))
       · rw [e9]; rfl
       · rw [e9]; exact ⟨rfl, rfl⟩
      ·
       refine sR <| oM rfl rfl <| oP (zae rfl) rfl <| oP (zaa rfl ⟨_, _, _, Tryz.runUnderlying111, rfl, rfl, Tryz.sizeOf30, rfl⟩) rfl <| oV (zbu (Ent.trans (t0_ eR) (za8 (Md.dev_is hd5).1)) (zah rfl foc0 rfl Tryz.isAgg30)) rfl <| oM rfl rfl <| oV (zan rfl rfl (by rw [hf]; rfl) (by exact hi) foc0 (zcc (Md.dev_is hd5).1) Tryz.runUnderlying30 Tryz.sizeOf37) rfl <| oP (za2 rfl ⟨_, _, _, Tryz.runUnderlying37, rfl, rfl, Tryz.sizeOf9, rfl⟩) rfl <| oV (za3 rfl rfl (by omega) foc0 (zcc (Md.dev_is hd5).1) rfl rfl Tryz.isAgg9) rfl <| oP (zcx rfl rfl Tryz.underlying9) rfl <| oA rfl rfl <| nT ?_
       first | (refine zao rfl (fun hg5 => ?_) (fun hg5 => ?_)) | (refine zap rfl (fun hg5 => ?_) (fun hg5 => ?_)) | (refine zar rfl (fun hg5 => ?_) (fun hg5 => ?_))
       ·
        refine sR <| oA rfl rfl <| oA rfl rfl <| nT <| zai <| zaj <| zad <| zam (res2 Tryz.results104 rfl rfl) ?_
        have e9 : m.carryN (r2 + 1) nm t = ((0, 0), m) := by
          rw [Md.carryN_dev hdk.2, Md.carry_dev hch.1 hdk.1.2.2 h3, hf]
          show (if _ then _ else if _ then _ else _) = _
          rw [if_neg (by simp_all), if_pos (by simp_all), if_neg (by simp_all)]
        refine CSpec.close c ?_ ?_ (t2_ (Ent.takeC del0 (by rw [e9]) (eD eR)))
        · rw [e9]; rfl
        · rw [e9]; exact ⟨rfl, rfl⟩
       ·
        refine zbk <| zal <| zav <| zaf ?_
        have hne : ((m.at k4).live.getD i tgt0).On ≠ noN := by simp_all
        have ha9 : -9223372036854775808 ≤ ((m.at k4).live.getD i tgt0).Offset + (zez (tfind (m.at k4).live t.At)).2.1 ∧ ((m.at k4).live.getD i tgt0).Offset + (zez (tfind (m.at k4).live t.At)).2.1 ≤ 9223372036854775807 := by rw [hf]; show -9223372036854775808 ≤ ((m.at k4).live.getD i tgt0).Offset + o ∧ ((m.at k4).live.getD i tgt0).Offset + o ≤ 9223372036854775807; omega
        refine zak <| oM rfl rfl <| oP (zae rfl) rfl <| oP (zaa rfl ⟨_, _, _, Tryz.runUnderlying111, rfl, rfl, Tryz.sizeOf30, rfl⟩) rfl <| oV (zbu (Ent.trans (t0_ eR) (za8 (Md.dev_is hd5).1)) (zah rfl foc0 rfl Tryz.isAgg30)) rfl <| oM rfl rfl <| oV (zan rfl rfl (by rw [hf]; rfl) (by exact hi) foc0 (zcc (Md.dev_is hd5).1) Tryz.runUnderlying30 Tryz.sizeOf37) rfl <| oP (za2 rfl ⟨_, _, _, Tryz.runUnderlying37, rfl, rfl, Tryz.sizeOf3, rfl⟩) rfl <| oV (za3 rfl rfl (by omega) foc0 (zcc (Md.dev_is hd5).1) rfl rfl Tryz.isAgg3) rfl <| oM rfl rfl <| oP (P_add rfl rfl (by exact ha9)) rfl <| oP (zaa rfl ⟨_, _, _, Tryz.runUnderlying33, rfl, rfl, Tryz.sizeOf3, rfl⟩) rfl <| oO <| zbj rfl rfl foc1 rfl rfl Tryz.sizeOf3 <| nT <| zaf <| za0 1024 (by kernel_rfl) rfl <| aN 0 1 rfl rfl (zag rfl) rfl <| aN 1 3 rfl rfl (zag rfl) rfl <| aN 2 7 rfl rfl (zae rfl) rfl <| aN 3 15 rfl rfl (zaa rfl ⟨_, _, _, Tryz.runUnderlying111, rfl, rfl, Tryz.sizeOf30, rfl⟩) rfl <| aV 4 31 rfl rfl (zac rfl) (t0_ (t0_ (t0_ eR))) (zbu (Ent.trans (t0_ eR) (za8 (Md.dev_is hd5).1)) (zah rfl foc0 rfl Tryz.isAgg30)) rfl <| aN 5 63 rfl rfl (zag rfl) rfl <| aV 6 127 rfl rfl (zac rfl) (t0_ (t0_ (t0_ eR))) (zan rfl rfl (by rw [hf]; rfl) (by exact hi) foc0 (zcc (Md.dev_is hd5).1) Tryz.runUnderlying30 Tryz.sizeOf37) rfl ?_
        refine aN 7 255 rfl rfl (za2 rfl ⟨_, _, _, Tryz.runUnderlying37, rfl, rfl, Tryz.sizeOf9, rfl⟩) rfl <| aV 8 511 rfl rfl (zac rfl) (t0_ (t0_ (t0_ eR))) (za3 rfl rfl (by omega) foc0 (zcc (Md.dev_is hd5).1) rfl rfl Tryz.isAgg9) rfl <| aV 9 1023 rfl rfl (zac rfl) (t0_ (t0_ (t0_ eR))) (zbh rfl foc1 Tryz.isAgg33 Tryz.sizeOf33 rfl rfl) rfl <| AJ_op 10 2047 rfl (by kernel_rfl) rfl (zac rfl) <| zaq ((ih r2 rfl (nm := ((m.at k4).live.getD i tgt0).On) (t := { t with At := ((m.at k4).live.getD i tgt0).Offset + (zez (tfind (m.at k4).live t.At)).2.1 }) ha9 h3 (hO.nam _ hdk.1.1 hdk.1.2.1 _ (List.mem_append.2 (.inl (zb9 tgt0 hi))) hne) (zfa hrk hdk.1 hkr ⟨_, List.mem_append.2 (.inl (zb9 tgt0 hi)), rfl⟩))) rfl Tryz.call104 (Dels.cons del2 (Dels.cons del0 Dels.nil)) rfl fun c9 h9 => ⟨fun h => absurd h (by decide), ?_⟩
        refine aN 11 4095 rfl rfl (zaw rfl rfl) rfl <| aN 12 8191 rfl rfl (zaw rfl rfl) rfl <| aN 13 16383 rfl rfl (zbc rfl) rfl <| aN 14 32767 rfl rfl (zbc rfl) rfl <| aD <| zai <| zam (res2 Tryz.results104 rfl rfl) ?_
        have e9 : m.carryN (r2 + 1) nm t = m.carryN r2 ((m.at k4).live.getD i tgt0).On { t with At := ((m.at k4).live.getD i tgt0).Offset + (zez (tfind (m.at k4).live t.At)).2.1 } := by
          rw [Md.carryN_dev hdk.2, Md.carry_dev hch.1 hdk.1.2.2 h3, hf]
          show (if _ then _ else if _ then _ else _) = _
          rw [if_neg (by simp_all), if_neg hne]; rfl
        refine CSpec.close c9 ?_ ?_ (t0_ (Ent.takeC del0 (by rw [e9]) (eD eR)))
        · rw [e9]; rfl
        · rw [e9]; exact h9
     ·
      refine RJ_gn (GY_no rfl rfl rfl hg3B) rfl rfl <| RJ_gn (GY_no rfl rfl rfl hg3B) rfl rfl <| RJ_gn (GY_no rfl rfl rfl hg3B) rfl rfl <| oP (zay rfl hg3B rfl) rfl <| oA rfl rfl <| nT <| za5 rfl rfl <| sR <| oM rfl rfl <| oP (zae rfl) rfl <| oP (zaa rfl ⟨_, _, _, Tryz.runUnderlying111, rfl, rfl, Tryz.sizeOf30, rfl⟩) rfl <| oV (zbu (Ent.trans (t0_ eR) (za8 (Md.dev_is hd5).1)) (zah rfl foc0 rfl Tryz.isAgg30)) rfl <| oM rfl rfl <| oV (zan rfl rfl (by rw [hf]; rfl) (by exact hi) foc0 (zcc (Md.dev_is hd5).1) Tryz.runUnderlying30 Tryz.sizeOf37) rfl <| oP (za2 rfl ⟨_, _, _, Tryz.runUnderlying37, rfl, rfl, Tryz.sizeOf9, rfl⟩) rfl <| oV (za3 rfl rfl (by omega) foc0 (zcc (Md.dev_is hd5).1) rfl rfl Tryz.isAgg9) rfl <| oP (zcx rfl rfl Tryz.underlying9) rfl <| oA rfl rfl <| nT ?_
      first | (refine zao rfl (fun hg6 => ?_) (fun hg6 => ?_)) | (refine zap rfl (fun hg6 => ?_) (fun hg6 => ?_)) | (refine zar rfl (fun hg6 => ?_) (fun hg6 => ?_))
      ·
       refine sR <| oA rfl rfl <| oA rfl rfl <| nT <| zai <| zaj <| zad <| zam (res2 Tryz.results104 rfl rfl) ?_
       have e9 : m.carryN (r2 + 1) nm t = ((0, 0), m) := by
         rw [Md.carryN_dev hdk.2, Md.carry_dev hch.1 hdk.1.2.2 h3, hf]
         show (if _ then _ else if _ then _ else _) = _
         rw [if_neg (by simp_all), if_pos (by simp_all), if_neg (by simp_all)]
       refine CSpec.close c ?_ ?_ (t2_ (Ent.takeC del0 (by rw [e9]) (eD eR)))
       · rw [e9]; rfl
       · rw [e9]; exact ⟨rfl, rfl⟩
      ·
       refine zbk <| zal <| zav <| zaf ?_
       have hne : ((m.at k4).live.getD i tgt0).On ≠ noN := by simp_all
       have ha9 : -9223372036854775808 ≤ ((m.at k4).live.getD i tgt0).Offset + (zez (tfind (m.at k4).live t.At)).2.1 ∧ ((m.at k4).live.getD i tgt0).Offset + (zez (tfind (m.at k4).live t.At)).2.1 ≤ 9223372036854775807 := by rw [hf]; show -9223372036854775808 ≤ ((m.at k4).live.getD i tgt0).Offset + o ∧ ((m.at k4).live.getD i tgt0).Offset + o ≤ 9223372036854775807; omega
       refine zak <| oM rfl rfl <| oP (zae rfl) rfl <| oP (zaa rfl ⟨_, _, _, Tryz.runUnderlying111, rfl, rfl, Tryz.sizeOf30, rfl⟩) rfl <| oV (zbu (Ent.trans (t0_ eR) (za8 (Md.dev_is hd5).1)) (zah rfl foc0 rfl Tryz.isAgg30)) rfl <| oM rfl rfl <| oV (zan rfl rfl (by rw [hf]; rfl) (by exact hi) foc0 (zcc (Md.dev_is hd5).1) Tryz.runUnderlying30 Tryz.sizeOf37) rfl <| oP (za2 rfl ⟨_, _, _, Tryz.runUnderlying37, rfl, rfl, Tryz.sizeOf3, rfl⟩) rfl <| oV (za3 rfl rfl (by omega) foc0 (zcc (Md.dev_is hd5).1) rfl rfl Tryz.isAgg3) rfl <| oM rfl rfl <| oP (P_add rfl rfl (by exact ha9)) rfl <| oP (zaa rfl ⟨_, _, _, Tryz.runUnderlying33, rfl, rfl, Tryz.sizeOf3, rfl⟩) rfl <| oO <| zbj rfl rfl foc1 rfl rfl Tryz.sizeOf3 <| nT <| zaf <| za0 1024 (by kernel_rfl) rfl <| aN 0 1 rfl rfl (zag rfl) rfl <| aN 1 3 rfl rfl (zag rfl) rfl <| aN 2 7 rfl rfl (zae rfl) rfl <| aN 3 15 rfl rfl (zaa rfl ⟨_, _, _, Tryz.runUnderlying111, rfl, rfl, Tryz.sizeOf30, rfl⟩) rfl <| aV 4 31 rfl rfl (zac rfl) (t0_ (t0_ (t0_ eR))) (zbu (Ent.trans (t0_ eR) (za8 (Md.dev_is hd5).1)) (zah rfl foc0 rfl Tryz.isAgg30)) rfl <| aN 5 63 rfl rfl (zag rfl) rfl <| aV 6 127 rfl rfl (zac rfl) (t0_ (t0_ (t0_ eR))) (zan rfl rfl (by rw [hf]; rfl) (by exact hi) foc0 (zcc (Md.dev_is hd5).1) Tryz.runUnderlying30 Tryz.sizeOf37) rfl ?_
       refine aN 7 255 rfl rfl (za2 rfl ⟨_, _, _, Tryz.runUnderlying37, rfl, rfl, Tryz.sizeOf9, rfl⟩) rfl <| aV 8 511 rfl rfl (zac rfl) (t0_ (t0_ (t0_ eR))) (za3 rfl rfl (by omega) foc0 (zcc (Md.dev_is hd5).1) rfl rfl Tryz.isAgg9) rfl <| aV 9 1023 rfl rfl (zac rfl) (t0_ (t0_ (t0_ eR))) (zbh rfl foc1 Tryz.isAgg33 Tryz.sizeOf33 rfl rfl) rfl <| AJ_op 10 2047 rfl (by kernel_rfl) rfl (zac rfl) <| zaq ((ih r2 rfl (nm := ((m.at k4).live.getD i tgt0).On) (t := { t with At := ((m.at k4).live.getD i tgt0).Offset + (zez (tfind (m.at k4).live t.At)).2.1 }) ha9 h3 (hO.nam _ hdk.1.1 hdk.1.2.1 _ (List.mem_append.2 (.inl (zb9 tgt0 hi))) hne) (zfa hrk hdk.1 hkr ⟨_, List.mem_append.2 (.inl (zb9 tgt0 hi)), rfl⟩))) rfl Tryz.call104 (Dels.cons del2 (Dels.cons del0 Dels.nil)) rfl fun c9 h9 => ⟨fun h => absurd h (by decide), ?_⟩
       refine aN 11 4095 rfl rfl (zaw rfl rfl) rfl <| aN 12 8191 rfl rfl (zaw rfl rfl) rfl <| aN 13 16383 rfl rfl (zbc rfl) rfl <| aN 14 32767 rfl rfl (zbc rfl) rfl <| aD <| zai <| zam (res2 Tryz.results104 rfl rfl) ?_
       have e9 : m.carryN (r2 + 1) nm t = m.carryN r2 ((m.at k4).live.getD i tgt0).On { t with At := ((m.at k4).live.getD i tgt0).Offset + (zez (tfind (m.at k4).live t.At)).2.1 } := by
         rw [Md.carryN_dev hdk.2, Md.carry_dev hch.1 hdk.1.2.2 h3, hf]
         show (if _ then _ else if _ then _ else _) = _
         rw [if_neg (by simp_all), if_neg hne]; rfl
       refine CSpec.close c9 ?_ ?_ (t0_ (Ent.takeC del0 (by rw [e9]) (eD eR)))
       · rw [e9]; rfl
       · rw [e9]; exact h9
 ·
  refine oM rfl rfl <| oP (zaw rfl rfl) rfl <| oP (zaw rfl rfl) rfl <| oA rfl rfl <| oA rfl rfl <| nT <| sR <| oM rfl rfl <| nT <| za4 rfl rfl <| zaf <| zaf ?_
  have hdk := Md.bas_is hd3
  have hkr := hn _ hdk.2
  obtain ⟨r2, rfl⟩ : ∃ r2, r = r2 + 1 := ⟨r - 1, by omega⟩
  refine zak <| oP (zaa rfl ⟨_, _, _, Tryz.runUnderlying33, rfl, rfl, Tryz.sizeOf3, rfl⟩) rfl <| oV (zah rfl foc0 rfl Tryz.isAgg3) rfl <| oP (P_eql rfl rfl) rfl <| nT ?_
  first | (refine zao rfl (fun hg7 => ?_) (fun hg7 => ?_)) | (refine zap rfl (fun hg7 => ?_) (fun hg7 => ?_)) | (refine zar rfl (fun hg7 => ?_) (fun hg7 => ?_))
  ·
   refine sR <| oM rfl rfl <| oP (zaa rfl ⟨_, _, _, Tryz.runUnderlying33, rfl, rfl, Tryz.sizeOf3, rfl⟩) rfl <| oV (zah rfl foc0 rfl Tryz.isAgg3) rfl <| oP (zaa rfl ⟨_, _, _, Tryz.runUnderlying33, rfl, rfl, Tryz.sizeOf31, rfl⟩) rfl <| oV (zah rfl foc0 rfl Tryz.isAgg31) rfl <| oO <| zeg rfl (zqc hW (Md.bas_is hd3).1 hb (by omega)) rfl (Dels.cons del2 Dels.nil) rfl fun _ hc9 => oA rfl rfl <| oA rfl rfl <| nT <| zai <| zad <| zad <| zam (res2 Tryz.results104 rfl rfl) <| CSpec.close (c.wrB m k2 t.At t.Value) ?_ ?_ (t2_ (Ent.takeC del0 (congrArg (MapR _) (zkr hdk.2 hdk.1.2.2 (by assumption)).1) (eD eR)))
   · rw [(zkr hdk.2 hdk.1.2.2 (by assumption)).2]; rfl
   · exact ⟨zs8 (by rw [← (zkr hdk.2 hdk.1.2.2 (by assumption)).1]; unfold Md.wrB; split <;> rfl), wrB_bs hW hdk.1⟩
  ·
   refine kT <| sR <| oM rfl rfl <| oP (zaa rfl ⟨_, _, _, Tryz.runUnderlying33, rfl, rfl, Tryz.sizeOf3, rfl⟩) rfl <| oV (zah rfl foc0 rfl Tryz.isAgg3) rfl <| oO <| zeg rfl (zrp hW (Md.bas_is hd3).1 hb) rfl (Dels.cons del2 Dels.nil) rfl fun _ hc10 => oP (zaw rfl rfl) rfl <| oP (zaw rfl rfl) rfl <| oA rfl rfl <| oA rfl rfl <| nT <| zai <| zad <| zam (res2 Tryz.results104 rfl rfl) ?_
   have e9 := (Md.carryN_dev (r := r2 + 1) (t := t) hdk.2).trans (Md.carry_baseR (r := r2) hdk.1.2.2 h3 (by assumption))
   refine CSpec.close c ?_ ?_ (t2_ (Ent.takeC del0 (by rw [e9]) (eD eR)))
   · rw [e9]; rfl
   · rw [e9]; exact ⟨rfl, rfl⟩
end Go.Proofs
set_option linter.unusedSimpArgs false
set_option maxRecDepth 20000
namespace Go.Proofs
open Go.VG
theorem zks {W : World} {b : Nat} {m : Md} {rk : Nat → Nat} {c : MH} (hrk : m.Rank rk) (hwr : m.wr < 100000000) : ∀ (r : Nat) {nm : ByteArray} {t : api_Task} (_hb : -9223372036854775808 ≤ t.At ∧ t.At ≤ 9223372036854775807) (_h3 : t.Kind ≠ 3) (_hs : (m.find nm).isSome = true) (_hn : ∀ j, m.find nm = some j → rk j < r), CSpec Tryz.prog W 104 [ptr b 0, .string nm, .agg #[.int .i64 t.Kind, .int .i64 t.At, .int .u64 (t.Value.toNat : Int)]] [blk b 84 (zax c m), MapR c m] (fun _ : MH => .tuple #[.int .u64 ((m.carryN r nm t).1.1.toNat : Int), .int .i64 (m.carryN r nm t).1.2]) (fun c2 => zax c2 (m.carryN r nm t).2 = zax c m ∧ c2.bs = c.bs) (fun c2 F => blk b 84 (zax c m) :: MapR c2 (m.carryN r nm t).2 :: F)
  | 0, _, _, hb, h3, hs, hn => zju hrk hwr (fun r2 h => by omega) hb h3 hs hn
  | r + 1, _, _, hb, h3, hs, hn => zju hrk hwr (fun r2 h => by obtain rfl : r2 = r := (by omega); exact fun h1 h2 h4 h5 => zks hrk hwr r2 h1 h2 h4 h5) hb h3 hs hn
abbrev mKin (b : Nat) : MTy Int Nat := { KT := 3, VT := 131, ek := fun k => .int .i64 k, ev := fun f => .func (.func f) #[ptr b 0] #[] }
theorem zgw {b : Nat} : MOk Tryz.prog (mKin b) 139 where
  ty := Tryz.underlying139
  eq := fun a b w => eq_int Tryz.underlying3 a b w
  chk := fun e a w => znr Tryz.underlying3 e a w 9999
  same := fun a => by simp [Instr.sameBits]
  kd := ⟨_, Tryz.underlying3, .inr fun a b => by simp only [Instr.sameNow, if_true]; rfl⟩
abbrev kinL : List (Int × Nat) := [(1, 104), (2, 104), (3, 105)]
theorem zmb {k : Int} : lookM kinL k = if k = 1 then some 104 else if k = 2 then some 104 else if k = 3 then some 105 else none := by
  simp only [kinL, lookM]
theorem zs9 {m : Md} {k i : Nat} (hO : MdOk m) (hk : m.isD k) (hi : i < (tuses (m.at k).live).length) : (m.find ((tuses (m.at k).live).getD i ByteArray.empty)).isSome = true := by
  have h1 : memS (tuses (m.at k).live) ((tuses (m.at k).live).getD i ByteArray.empty) = true := mem_memS.2 (zb9 _ hi)
  rw [zko] at h1
  unfold nam at h1
  obtain ⟨t, h2, h3⟩ := List.any_eq_true.1 h1
  have h4 := of_decide_eq_true h3
  have := hO.nam k hk.1 hk.2.1 t (List.mem_append.2 (.inl h2)) (h4.1 ▸ h4.2)
  rwa [h4.1] at this
theorem zkt {W : World} {b : Nat} {m : Md} {rk : Nat → Nat} {r : Nat} {nm : ByteArray} {t : api_Task} {c : MH} (hrk : m.Rank rk) (ih : ∀ r2, r2 + 1 = r → ∀ {nm : ByteArray} {c : MH}, (m.find nm).isSome = true → (∀ j, m.find nm = some j → rk j < r2) → CSpec Tryz.prog W 105 [ptr b 0, .string nm, .agg #[.int .i64 t.Kind, .int .i64 t.At, .int .u64 (t.Value.toNat : Int)]] [blk b 84 (zax c m), MapR c m] (fun _ : MH => .tuple #[.int .u64 0, .int .i64 0]) (fun c2 => zax c2 m = zax c m ∧ c2.bs = MH.bs c) (fun c2 F => blk b 84 (zax c m) :: MapR c2 m :: F)) (hs : (m.find nm).isSome = true) (hn : ∀ j, m.find nm = some j → rk j < r) :
    CSpec Tryz.prog W 105 [ptr b 0, .string nm, .agg #[.int .i64 t.Kind, .int .i64 t.At, .int .u64 (t.Value.toNat : Int)]] [blk b 84 (zax c m), MapR c m] (fun _ : MH => .tuple #[.int .u64 0, .int .i64 0]) (fun c2 => zax c2 m = zax c m ∧ c2.bs = c.bs) (fun c2 F => blk b 84 (zax c m) :: MapR c2 m :: F) := by
 refine CSpec.of_body Tryz.func105 rfl Tryz.ntmps105 rfl fun F => ?_
 show CJ _ _ _ _ _ _ (_ :: _ :: F)
 refine zbl (zb3 foc1) fun hW => ?_
 have hO := hW.ok
 have hbwr := hW.big.wr
 refine sR <| oO <| O_box rfl rfl rfl fun b1 => oA rfl rfl <| oA rfl rfl <| nT <| zaf <| sR <| oM rfl rfl <| oP (zae rfl) rfl <| oP (zaa rfl ⟨_, _, _, Tryz.runUnderlying84, rfl, rfl, Tryz.sizeOf81, rfl⟩) rfl <| oV (zah rfl foc1 rfl Tryz.isAgg81) rfl <| oM rfl rfl <| oO (zk5 rfl rfl foc2 rfl (fun hd3 => ?_) (fun k2 hd3 => ?_))
 ·
  refine oM rfl rfl <| oP (zaw rfl rfl) rfl <| oP (zaw rfl rfl) rfl <| oA rfl rfl <| oA rfl rfl <| nT <| sR <| oM rfl rfl <| nT <| za5 rfl rfl <| kT <| sR <| oA rfl rfl <| nT <| zaf <| sR <| oM rfl rfl <| oP (zae rfl) rfl <| oP (zaa rfl ⟨_, _, _, Tryz.runUnderlying84, rfl, rfl, Tryz.sizeOf82, rfl⟩) rfl <| oV (zah rfl foc1 rfl Tryz.isAgg82) rfl <| oM rfl rfl <| oO (zea rfl rfl foc2 rfl (fun hd5 => ?_) (fun k4 hd5 => ?_))
  ·
   exact (zpr hd3 hd5 hs).elim
  ·
   have hdk := Md.dev_is hd5
   have hkr := hn _ hdk.2
   obtain ⟨r2, rfl⟩ : ∃ r2, r = r2 + 1 := ⟨r - 1, by omega⟩
   have hch := zb0 (hO.chk k4).1
   have hul := zd6 (m.at k4).live
   refine oP (zae rfl) rfl <| oP (zaa rfl ⟨_, _, _, Tryz.runUnderlying111, rfl, rfl, Tryz.sizeOf30, rfl⟩) rfl <| oV (zbu (Ent.trans (t2_ eR) (za8 (Md.dev_is hd5).1)) (zah rfl foc0 rfl Tryz.isAgg30)) rfl <| oO <| zaq (zfq (zcc (Md.dev_is hd5).1) (zi1 (by first | assumption | omega))) rfl Tryz.call69 (Dels.cons del2 Dels.nil) rfl fun _ hc7 => oV (V_len rfl foc1 (Reads.sl _ _ _) Tryz.runUnderlying59) rfl <| oM rfl rfl <| nT <| zat <| zbs (X := Nat × MH) [10, 12, 13, 14, 38, 39, 40, 41, 42, 43, 44, 45, 46, 47, 48, 49, 50, 51, 52] (fun ⟨i, c2⟩  => ([(38, .int .i64 (i : Nat)), (10, .int .i64 0)] : Slots)) (fun ⟨i, c2⟩ R => MapR c2 m :: R) (fun ⟨i, c2⟩  => i ≤ (tuses (m.at k4).live).length ∧ zax c2 m = zax c m ∧ c2.bs = c.bs) (fun ⟨i, c2⟩  => (tuses (m.at k4).live).length - i) ⟨0, c⟩ ?_ ?_ (t0_ (t0_ (t0_ (t0_ eR)))) ?_
   · exact ⟨Nat.zero_le _, rfl, rfl⟩
   · exact ⟨rfl, rfl, True.intro⟩
   ·
    rintro ⟨i, c2⟩ ⟨hi, hc2, hc2b⟩
    show CJ _ _ _ _ _ (([(38, .int .i64 (i : Nat)), (10, .int .i64 0)] : Slots) ++ forget _ _) (MapR c2 m :: _)
    refine sR <| oP (P_lss rfl rfl) rfl <| nT <| zaf ?_
    first | (refine zao rfl (fun hg1 => ?_) (fun hg1 => ?_)) | (refine zap rfl (fun hg1 => ?_) (fun hg1 => ?_)) | (refine zar rfl (fun hg1 => ?_) (fun hg1 => ?_))
    ·
     refine kT <| zaf <| zat <| sR ?_
     first | (refine RJ_op rfl (OJ_V (zan rfl rfl rfl (by omega) foc1 (Reads.sl _ _ _) Tryz.runUnderlying59 Tryz.sizeOf9) rfl ?_)) | (refine RJ_op rfl (OJ_V (zan rfl rfl (Int.toNat_of_nonneg (by omega)).symm (by omega) foc1 (Reads.sl _ _ _) Tryz.runUnderlying59 Tryz.sizeOf9) rfl ?_))
     refine oV (za3 rfl rfl (by omega) foc1 (Reads.sl _ _ _) rfl rfl Tryz.isAgg9) rfl <| oA rfl rfl <| nT <| sR <| oM rfl rfl <| oM rfl rfl <| oV (zbh rfl foc2 Tryz.isAgg33 Tryz.sizeOf33 rfl rfl) rfl <| zei (t0_ (t0_ (t0_ (Ent.takeC del0 (congrArg (blk b 84) hc2.symm) eR)))) <| oO <| zaq ((ih r2 rfl (nm := (tuses (m.at k4).live).getD i ByteArray.empty) (c := c2) (zs9 hO hdk.1 (by omega)) (zfa hrk hdk.1 hkr (zma (by omega))))) rfl Tryz.call105 (Dels.cons del3 (Dels.cons del0 Dels.nil)) rfl fun c9 h9 => oM rfl rfl <| oP (zaw rfl rfl) rfl <| oP (zaw rfl rfl) rfl <| oA rfl rfl <| oA rfl rfl <| nT <| zaf <| zbf (Ent.takeC del0 (congrArg (blk b 84) hc2) (t0_ (t0_ (t0_ eR)))) <| zak <| oM rfl rfl <| oP (P_eql rfl rfl) rfl <| nT ?_
     first | (refine za4 rfl (decide_eq_true (by rfl)) ?_) | (refine za4 rfl (by rfl) ?_)
     refine zak <| oM rfl rfl <| oA rfl rfl <| za9 <| zal <| zav <| zak <| oP (P_add rfl rfl (by omega)) rfl <| oM rfl rfl <| za9 <| zbg ⟨i + 1, c9⟩ (by first | omega | (simp only []; omega)) ?_ (by repeat (first | exact Kp.base | exact Kp.self | refine Kp.cons rfl ?_ | refine Kp.forget rfl ?_)) ?_ (t1_ (t1_ (t1_ (t0_ eR))))
     · exact ⟨by omega, h9.1.trans hc2, h9.2.trans hc2b⟩
     · exact ⟨rfl, rfl, True.intro⟩
    ·
     refine zbt <| za6 <| za7 <| za1 <| zav <| sR <| oM rfl rfl <| oA rfl rfl <| oA rfl rfl <| nT <| zai <| zam (res2 Tryz.results105 rfl rfl) <| CSpec.close c2 ?_ ?_ (t3_ (t0_ (eD (eD eR))))
     · rfl
     · exact ⟨hc2, hc2b⟩
 ·
  refine oM rfl rfl <| oP (zaw rfl rfl) rfl <| oP (zaw rfl rfl) rfl <| oA rfl rfl <| oA rfl rfl <| nT <| sR <| oM rfl rfl <| nT <| za4 rfl rfl <| zaf ?_
  have hdk := Md.bas_is hd3
  have hkr := hn _ hdk.2
  obtain ⟨r2, rfl⟩ : ∃ r2, r = r2 + 1 := ⟨r - 1, by omega⟩
  refine zak <| oM rfl rfl <| oO <| zeg rfl (zqd hW (Md.bas_is hd3).1) rfl (Dels.cons del2 Dels.nil) rfl fun _ hc9 => oA rfl rfl <| oA rfl rfl <| nT <| zai <| zad <| zam (res2 Tryz.results105 rfl rfl) <| CSpec.close (c.flB m k2) ?_ ?_ (t2_ (t0_ (eD eR)))
  · rfl
  · exact ⟨rfl, flB_bs hW hdk.1⟩
end Go.Proofs
set_option linter.unusedSimpArgs false
set_option maxRecDepth 20000
namespace Go.Proofs
open Go.VG
theorem zlv {W : World} {b : Nat} {m : Md} {rk : Nat → Nat} {t : api_Task} (hrk : m.Rank rk) : ∀ (r : Nat) {nm : ByteArray} {c : MH}, (m.find nm).isSome = true → (∀ j, m.find nm = some j → rk j < r) → CSpec Tryz.prog W 105 [ptr b 0, .string nm, .agg #[.int .i64 t.Kind, .int .i64 t.At, .int .u64 (t.Value.toNat : Int)]] [blk b 84 (zax c m), MapR c m] (fun _ : MH => .tuple #[.int .u64 0, .int .i64 0]) (fun c2 => zax c2 m = zax c m ∧ c2.bs = c.bs) (fun c2 F => blk b 84 (zax c m) :: MapR c2 m :: F)
  | 0, _, _, hs, hn => zkt hrk (fun r2 h => by omega) hs hn
  | r + 1, _, _, hs, hn => zkt hrk (fun r2 h => by obtain rfl : r2 = r := (by omega); exact fun h1 h2 => zlv hrk r2 h1 h2) hs hn
theorem zok {m : Md} {r : Nat} {n : ByteArray} {t : api_Task} (h : (m.carryN r n t).1.2 ≠ 0) : (m.carryN r n t).1.1 = 0 := by
  unfold Md.carryN at h ⊢
  cases hf : m.find n with
  | none => rfl
  | some j => rw [hf] at h; exact zps r j t h
theorem zpt {m : Md} {r : Nat} {n : ByteArray} {t : api_Task} (h : t.Kind = 3) (hs : (m.find n).isSome = true) : m.carryN (r + 1) n t = ((0, 0), m) := by
  unfold Md.carryN
  cases hf : m.find n with
  | none => rw [hf] at hs; cases hs
  | some j => show m.carry (r + 1) j t = _; rw [Md.carry, if_pos h]
theorem zk7 {W : World} {b : Nat} :
    CSpec Tryz.prog W 85 [ptr b 0] [] (fun x : Nat => .map (some x)) (fun _ => True) (fun x F => mpc (mKin b) x kinL :: F) := by
 refine CSpec.of_body Tryz.func85 rfl Tryz.ntmps85 rfl fun F => ?_
 show CJ _ _ _ _ _ _ (F)
 refine sR <| oA rfl rfl <| nT <| sR <| oO <| zf9 (mKin b) rfl fun b1 => oM rfl rfl <| oP (zb4 rfl rfl) rfl <| oO <| zkq <| zfj (M := (mKin b)) (k := 1) (v := 104) rfl rfl rfl foc0 zgw <| oM rfl rfl <| oP (zb4 rfl rfl) rfl <| oO <| zkq <| zfj (M := (mKin b)) (k := 2) (v := 104) rfl rfl rfl foc0 zgw <| oM rfl rfl <| oP (zb4 rfl rfl) rfl <| oO <| zkq <| zfj (M := (mKin b)) (k := 3) (v := 105) rfl rfl rfl foc0 zgw <| oM rfl rfl <| oA rfl rfl <| nT <| zai <| zam (res1 Tryz.results85 rfl) <| CSpec.close b1 ?_ ?_ (t0_ eR)
 · rfl
 · trivial
theorem zuu {W : World} {b : Nat} {c : MH} {m : Md} {nm : ByteArray} {t : api_Task} (hw : m.wr < 100000000) (hb : -9223372036854775808 ≤ t.At ∧ t.At ≤ 9223372036854775807) (hs : (m.find nm).isSome = true) (hk : t.Kind = 1 ∨ t.Kind = 2) :
    CSpec Tryz.prog W 79 [ptr b 0, .string nm, .agg #[.int .i64 t.Kind, .int .i64 t.At, .int .u64 (t.Value.toNat : Int)]] [blk b 84 (zax c m), MapR c m] (fun _ : MH => .tuple #[.int .u64 ((m.carryN (m.dv.length + 1) nm t).1.1.toNat : Int), .int .i64 (m.carryN (m.dv.length + 1) nm t).1.2]) (fun c2 => zax c2 (m.carryN (m.dv.length + 1) nm t).2 = zax c m ∧ c2.bs = c.bs) (fun c2 F => blk b 84 (zax c m) :: MapR c2 (m.carryN (m.dv.length + 1) nm t).2 :: F) := by
 refine CSpec.of_body Tryz.func79 rfl Tryz.ntmps79 rfl fun F => ?_
 show CJ _ _ _ _ _ _ (_ :: _ :: F)
 refine zbl (zb3 foc1) fun hW => ?_
 have hO := hW.ok
 have hbwr := hW.big.wr
 have hns := Md.names_len (m := m)
 have hln := hW.big.len
 obtain ⟨rk, hrk, hrb⟩ := Md.rank_bd hO.acy
 refine sR <| oO <| O_box rfl rfl rfl fun b1 => oA rfl rfl <| oA rfl rfl <| nT <| zaf <| za0 128 (by kernel_rfl) rfl <| aN 0 1 rfl rfl (zag rfl) rfl <| aN 2 5 rfl rfl (zaa rfl ⟨_, _, _, Tryz.runUnderlying33, rfl, rfl, Tryz.sizeOf3, rfl⟩) rfl <| aV 3 13 rfl rfl (zac rfl) (t0_ (t0_ (t0_ eR))) (zah rfl foc0 rfl Tryz.isAgg3) rfl <| aN 5 45 rfl rfl (zag rfl) rfl <| aV 6 109 rfl rfl (zac rfl) (t0_ (t0_ (t0_ eR))) (zbh rfl foc0 Tryz.isAgg33 Tryz.sizeOf33 rfl rfl) rfl <| AJ_op 1 111 rfl (by kernel_rfl) rfl (zac rfl) <| zaq (zk7) rfl Tryz.call85 Dels.nil rfl fun _ hc3 => ⟨fun _ => (t1_ (t1_ (t1_ (eD eR)))), ?_⟩
 refine AJ_op 4 127 rfl (by kernel_rfl) rfl (zac rfl) <| OJ_V (VJ_eq (zh8 (M := mKin b) (k := t.Kind) (out := (fun o => match o with | some f => .func (.func f) #[ptr b 0] #[] | none => .nilFunc)) rfl rfl foc0 zgw Tryz.zeroValue131 (fun _ => rfl) rfl) (show Value.func (.func 104) #[ptr b 0] #[] = (fun o => match o with | some f => .func (.func f) #[ptr b 0] #[] | none => .nilFunc) (lookM kinL t.Kind) by rw [zmb]; rcases hk with h | h <;> rw [h] <;> rfl)) rfl <| ⟨fun _ => (t1_ (t1_ (t1_ (eD eR)))), ?_⟩
 refine AJ_op 7 255 rfl (by kernel_rfl) rfl (zac rfl) <| zdv rfl rfl ((zks hrk hw (m.dv.length + 1) (nm := nm) (t := t) hb (by rcases hk with h | h <;> omega) hs (fun j _ => Nat.lt_succ_of_le (hrb j)))) Tryz.call104 (Dels.cons del2 (Dels.cons del2 Dels.nil)) rfl fun c9 h9 => ⟨fun h => absurd h (by decide), ?_⟩
 refine aN 8 511 rfl rfl (zaw rfl rfl) rfl <| aN 9 1023 rfl rfl (zaw rfl rfl) rfl <| aN 10 2047 rfl rfl (zbc rfl) rfl <| aN 11 4095 rfl rfl (zbc rfl) rfl <| aD <| zai <| zam (res2 Tryz.results79 rfl rfl) <| CSpec.close c9 ?_ ?_ (t0_ (t0_ (eD (eD eR))))
 · rfl
 · exact h9
theorem zmc {W : World} {b : Nat} {c : MH} {m : Md} {nm : ByteArray} {t : api_Task} (hs : (m.find nm).isSome = true) (hk : t.Kind = 3) :
    CSpec Tryz.prog W 79 [ptr b 0, .string nm, .agg #[.int .i64 t.Kind, .int .i64 t.At, .int .u64 (t.Value.toNat : Int)]] [blk b 84 (zax c m), MapR c m] (fun _ : MH => .tuple #[.int .u64 0, .int .i64 0]) (fun c2 => zax c2 m = zax c m ∧ c2.bs = c.bs) (fun c2 F => blk b 84 (zax c m) :: MapR c2 m :: F) := by
 refine CSpec.of_body Tryz.func79 rfl Tryz.ntmps79 rfl fun F => ?_
 show CJ _ _ _ _ _ _ (_ :: _ :: F)
 refine zbl (zb3 foc1) fun hW => ?_
 have hO := hW.ok
 have hbwr := hW.big.wr
 have hns := Md.names_len (m := m)
 have hln := hW.big.len
 obtain ⟨rk, hrk, hrb⟩ := Md.rank_bd hO.acy
 refine sR <| oO <| O_box rfl rfl rfl fun b1 => oA rfl rfl <| oA rfl rfl <| nT <| zaf <| za0 128 (by kernel_rfl) rfl <| aN 0 1 rfl rfl (zag rfl) rfl <| aN 2 5 rfl rfl (zaa rfl ⟨_, _, _, Tryz.runUnderlying33, rfl, rfl, Tryz.sizeOf3, rfl⟩) rfl <| aV 3 13 rfl rfl (zac rfl) (t0_ (t0_ (t0_ eR))) (zah rfl foc0 rfl Tryz.isAgg3) rfl <| aN 5 45 rfl rfl (zag rfl) rfl <| aV 6 109 rfl rfl (zac rfl) (t0_ (t0_ (t0_ eR))) (zbh rfl foc0 Tryz.isAgg33 Tryz.sizeOf33 rfl rfl) rfl <| AJ_op 1 111 rfl (by kernel_rfl) rfl (zac rfl) <| zaq (zk7) rfl Tryz.call85 Dels.nil rfl fun _ hc3 => ⟨fun _ => (t1_ (t1_ (t1_ (eD eR)))), ?_⟩
 refine AJ_op 4 127 rfl (by kernel_rfl) rfl (zac rfl) <| OJ_V (VJ_eq (zh8 (M := mKin b) (k := t.Kind) (out := (fun o => match o with | some f => .func (.func f) #[ptr b 0] #[] | none => .nilFunc)) rfl rfl foc0 zgw Tryz.zeroValue131 (fun _ => rfl) rfl) (show Value.func (.func 105) #[ptr b 0] #[] = (fun o => match o with | some f => .func (.func f) #[ptr b 0] #[] | none => .nilFunc) (lookM kinL t.Kind) by rw [zmb, hk]; rfl)) rfl <| ⟨fun _ => (t1_ (t1_ (t1_ (eD eR)))), ?_⟩
 refine AJ_op 7 255 rfl (by kernel_rfl) rfl (zac rfl) <| zdv rfl rfl ((zlv hrk (m.dv.length + 1) (nm := nm) (t := t) hs (fun j _ => Nat.lt_succ_of_le (hrb j)))) Tryz.call105 (Dels.cons del2 (Dels.cons del2 Dels.nil)) rfl fun c9 h9 => ⟨fun h => absurd h (by decide), ?_⟩
 refine aN 8 511 rfl rfl (zaw rfl rfl) rfl <| aN 9 1023 rfl rfl (zaw rfl rfl) rfl <| aN 10 2047 rfl rfl (zbc rfl) rfl <| aN 11 4095 rfl rfl (zbc rfl) rfl <| aD <| zai <| zam (res2 Tryz.results79 rfl rfl) <| CSpec.close c9 ?_ ?_ (t0_ (t0_ (eD (eD eR))))
 · rfl
 · exact h9
end Go.Proofs
namespace Go.Proofs
namespace Md
def isDx (m : Md) (k : Nat) : Prop := k < m.dv.length ∧ (m.at k).gone = false ∧ (m.at k).isB = false
theorem at_of {m m' : Md} {k i : Nat} {d' : Dv} (hk : k < m.dv.length) (hd : m'.dv = m.dv.set k d') : m'.at i = if i = k then d' else m.at i := by
  have e : m'.at i = (m.set k d').at i := by unfold Md.at; rw [hd]; rfl
  rw [e]; exact at_set hk
theorem keys_of {m m' : Md} {k : Nat} {d' : Dv} (hd : m'.dv = m.dv.set k d') (hkey : key d' = key (m.at k)) : m'.dv.map key = m.dv.map key := by rw [hd]; exact set_key hkey
theorem zmd {m m' : Md} {k : Nat} {d' : Dv} {rk : Nat → Nat} (hk : k < m.dv.length) (hd : m'.dv = m.dv.set k d') (hkey : key d' = key (m.at k)) (hsub : ∀ t ∈ tbl d', t ∈ tbl (m.at k)) (h : m.Rank rk) : m'.Rank rk := by
  intro i hi hg t ht j hj
  rw [find_key (keys_of hd hkey)] at hj
  rw [at_of hk hd] at hg ht
  have hl : m'.dv.length = m.dv.length := by rw [hd]; simp
  by_cases e : i = k
  · subst e; rw [if_pos rfl] at hg ht
    exact h i hk ((Prod.mk.inj hkey).1 ▸ hg) t (hsub t ht) j hj
  · rw [if_neg e] at hg ht
    exact h i (by omega) hg t ht j hj
end Md
open Md in
theorem MdOk.set {m m' : Md} {k : Nat} {d' : Dv} (hO : MdOk m) (hk : m.isDx k) (hd : m'.dv = m.dv.set k d') (hkey : key d' = key (m.at k)) (hB : d'.isB = false) (hc : Go.Proofs.chk d'.live = 0 ∧ Go.Proofs.chk d'.new = 0)
    (hnam : ∀ t ∈ tbl d', t.On ≠ noN → (m.find t.On).isSome) (hacy : ∃ rk, m'.Rank rk) (hhl : d'.hl = false → d'.live = []) (hhn : d'.hn = false → d'.new = [])
    (hw : ∀ w ∈ d'.wait, w.gv < m.dv.length ∧ (m.at w.gv).gone = false ∧ (m.at w.gv).isB = false ∧ 1 ≤ w.t.Kind ∧ w.t.Kind ≤ 3 ∧ inT w.t) : MdOk m' := by
  obtain ⟨hk1, hk2, hk3⟩ := hk
  have hat := fun i => at_of (i := i) hk1 hd
  have hg' : d'.gone = (m.at k).gone := (Prod.mk.inj hkey).1
  have hn' : d'.name = (m.at k).name := (Prod.mk.inj hkey).2
  have hgo : ∀ i, (m'.at i).gone = (m.at i).gone := fun i => by
    rw [hat]
    split
    · rename_i e
      rw [e]; exact hg'
    · rfl
  have hna : ∀ i, (m'.at i).name = (m.at i).name := fun i => by
    rw [hat]
    split
    · rename_i e
      rw [e]; exact hn'
    · rfl
  have hiB : ∀ i, (m'.at i).isB = (m.at i).isB := fun i => by
    rw [hat]
    split
    · rename_i e
      rw [e, hB, hk3]
    · rfl
  have hl : m'.dv.length = m.dv.length := by rw [hd]; simp
  have hf : ∀ n, m'.find n = m.find n := fun n => find_key (keys_of hd hkey)
  refine ⟨fun i j => ?_, fun i => ?_, fun i => ?_, fun i hi hg t ht hne => ?_, hacy, fun i hi => ?_, fun i => ?_, fun i => ?_, fun i hi w hw' => ?_⟩
  · rw [hl, hgo, hgo, hna, hna]; exact hO.uniq i j
  · rw [hl, hgo, hna]; exact hO.nm i
  · rw [hat]; split
    · exact hc
    · exact hO.chk i
  · rw [hf]
    rw [hl] at hi; rw [hgo] at hg
    rw [hat] at ht
    split at ht
    · exact hnam t ht hne
    · exact hO.nam i hi hg t ht hne
  · rw [hiB] at hi
    have e : i ≠ k := fun e => by rw [e, hk3] at hi; cases hi
    rw [hat, if_neg e]; exact hO.bas i hi
  · rw [hat]; split
    · exact hhl
    · exact hO.hl i
  · rw [hat]; split
    · exact hhn
    · exact hO.hn i
  · rw [hl] at hi; rw [hgo, hl, hgo, hiB]
    rw [hat] at hw'
    split at hw'
    · rename_i e; subst e; exact ⟨hk2, hw w hw'⟩
    · exact hO.org i hi w hw'
theorem MdBig.set {m m' : Md} {k : Nat} {d' : Dv} (h : MdBig m) (hk : k < m.dv.length) (hd : m'.dv = m.dv.set k d') (hw : d'.wait.length ≤ 100000) (ht : m'.tks ≤ 100000) (hto : m'.told.length ≤ 100000000) (hwr : m'.wr ≤ 100000000) : MdBig m' :=
  ⟨by rw [hd, List.length_set]; exact h.len, fun i => by
    rw [Md.at_of hk hd]
    split
    · exact hw
    · exact h.wl i, ht, hto, hwr⟩
theorem MdBd.set {m m' : Md} {k : Nat} {d' : Dv} (h : MdBd m) (hk : k < m.dv.length) (hd : m'.dv = m.dv.set k d') (hw : d'.wait.length + m.tks ≤ (m.at k).wait.length + m'.tks) (ht : m'.tks ≤ m'.cl) (hto : m'.told.length ≤ 4000 * m'.cl) (hwr : m'.wr ≤ 4000 * m'.cl) (hcl : m.cl ≤ m'.cl) (hc : m'.cl ≤ 4000) : MdBd m' :=
  ⟨by
    have h1 := zib m.dv k d' hk
    have h2 := h.wl
    unfold Md.wsum at h2 ⊢
    rw [hd]
    have e : (m.dv.getD k Dv.z).wait.length = (m.at k).wait.length := rfl
    omega, ht, hto, hwr, by rw [hd, List.length_set]; exact Nat.le_trans h.len (by omega), hc⟩
namespace Md
def tick (m : Md) : Md := { m with cl := m.cl + 1 }
theorem tick_ok {m : Md} (h : MdOk m) : MdOk m.tick := ⟨h.uniq, h.nm, h.chk, h.nam, h.acy, h.bas, h.hl, h.hn, h.org⟩
theorem tick_big {m : Md} (h : MdBig m) : MdBig m.tick := ⟨h.len, h.wl, h.tks, h.told, h.wr⟩
theorem tick_bd {m : Md} (h : MdBd m) (hc : m.cl < 4000) : MdBd m.tick := by
  have h1 := h.tks; have h2 := h.told; have h3 := h.wr; have h4 := h.len
  exact ⟨h.wl, Nat.le_succ_of_le h1, Nat.le_trans h2 (by show _ ≤ 4000 * (m.cl + 1); omega), Nat.le_trans h3 (by show _ ≤ 4000 * (m.cl + 1); omega), by show _ ≤ m.cl + 1 + 2; have : m.tick.dv.length = m.dv.length := rfl; omega, hc⟩
section
variable {m : Md} {k : Nat}
theorem ok_susp (hO : MdOk m) (hk : m.isDx k) {b : Bool} : MdOk (m.set k { m.at k with susp := b }) := by
  obtain ⟨rk, hr⟩ := hO.acy
  exact hO.set hk rfl rfl hk.2.2 (hO.chk k) (fun t ht hne => hO.nam k hk.1 hk.2.1 t ht hne) ⟨rk, zmd hk.1 (d' := { m.at k with susp := b }) rfl rfl (fun t ht => ht) hr⟩ (hO.hl k) (hO.hn k) (fun w hw => (hO.org k hk.1 w hw).2)
theorem ok_addW (hO : MdOk m) (hk : m.isDx k) {w : Wt} {n : Nat} (hw : w.gv < m.dv.length ∧ (m.at w.gv).gone = false ∧ (m.at w.gv).isB = false ∧ 1 ≤ w.t.Kind ∧ w.t.Kind ≤ 3 ∧ inT w.t) : MdOk { m.set k { m.at k with wait := (m.at k).wait ++ [w] } with tks := n } := by
  obtain ⟨rk, hr⟩ := hO.acy
  refine hO.set (d' := { m.at k with wait := (m.at k).wait ++ [w] }) hk rfl rfl hk.2.2 (hO.chk k) (fun t ht hne => hO.nam k hk.1 hk.2.1 t ht hne) ⟨rk, zmd hk.1 (d' := { m.at k with wait := (m.at k).wait ++ [w] }) rfl rfl (fun t ht => ht) hr⟩ (hO.hl k) (hO.hn k) (fun x hx => ?_)
  rcases List.mem_append.1 hx with h | h
  · exact (hO.org k hk.1 x h).2
  · rw [List.mem_singleton] at h; subst h; exact hw
end
end Md
end Go.Proofs
set_option linter.unusedSimpArgs false
set_option maxRecDepth 20000
namespace Go.Proofs
open Go.VG
theorem zm7 : zby Tryz.prog 59 0 [] 9 [] := fun w => by kernel_rfl
theorem zm8 : zby Tryz.prog 30 0 [] 37 [] := fun w => by kernel_rfl
theorem MapWF.tick {c : MH} {m : Md} (h : MapWF c m) : MapWF c m.tick := ⟨h.dv, Md.tick_ok h.ok, Md.tick_big h.big, h.dl, h.bl, h.inj, h.good, h.dsk, h.dsj, h.wr⟩
theorem zio {c : MH} {m : Md} {R : List HP} : Ent (MapR c m :: R) (MapR c m.tick :: R) := fun h hh => by
  obtain ⟨h1, h2⟩ := stars_pur.1 (stars_star.1 hh)
  exact stars_star.2 (stars_pur.2 ⟨h1.tick, h2⟩)
section
variable {X : HP} {c : MH} {m m' : Md} {k : Nat} {h' : DH} {d' : Dv} {R : List HP}
def MH.put (c : MH) (k : Nat) (h' : DH) (d' : Dv) : MH := { c with l := c.l.set k (h', d') }
theorem put_wf (hW : MapWF c m) (hk : m.isD k) (hkey : Md.key d' = Md.key (m.at k)) (hB : d'.isB = false) (hb : h'.b = c.bs k) (hdn : h'.dn = (c.hd k).dn) (hd : m'.dv = m.dv.set k d') (ok : MdOk m') (big : MdBig m') (hwr : m'.wr = m.wr) : MapWF (c.put k h' d') m' :=
  hW.upd hk.1 hd hkey (hB.trans hk.2.2.symm) hb hdn ok big hW.good rfl (fun i hi => by
    obtain ⟨_, q2, q3⟩ := hW.dsk i hi
    have e : i ≠ k := fun e => by have h1 := hi.2.2; rw [e, hk.2.2] at h1; cases h1
    rw [Md.at_of hk.1 hd, if_neg e]; exact ⟨q2, q3⟩) (by rw [hwr]; exact hW.wr)
theorem zcy (hW : MapWF c m) (hk : m.isD k) (hkey : Md.key d' = Md.key (m.at k)) (hB : d'.isB = false) (hb : h'.b = c.bs k) (hdn : h'.dn = (c.hd k).dn) (hd : m'.dv = m.dv.set k d') (ok : MdOk m') (big : MdBig m') (hwr : m'.wr = m.wr) (ht : m'.told = m.told) :
    Ent (blk (c.bs k) 111 (zfg h' d') :: sl tyapi_Target h'.lv.v d'.live :: sl tyapi_Target h'.nw.v d'.new :: sl tyErr h'.wt.v (d'.wait.map (wC c.bs)) :: MRest X c m k :: R) (MapRG X (c.put k h' d') m' :: R) := by
  obtain ⟨g1, g2⟩ := hW.at hk.1
  have h := zur (X := X) (R := R) (c := c) (m := m) (k := k) (c' := c.put k h' d') (m' := m') (h' := h') (d' := d') g1 ((Prod.mk.inj hkey).1.trans hk.2.1) hB rfl (Md.names_key (Md.keys_of hd hkey)) ht (zif g1 hb rfl) (put_wf hW hk hkey hB hb hdn hd ok big hwr)
  rwa [hb] at h
theorem zds (hW : MapWF c m) (hk : m.isD k) (hb : h'.b = c.bs k) : (c.put k h' d').bs = c.bs := zif (hW.at hk.1).1 hb rfl
theorem zem : Ent (MapR c m :: R) (sl zau c.tv.v m.told :: MapR { c with tv := s3z } { m with told := [] } :: R) := fun h hh => by
  obtain ⟨hw, h1⟩ := stars_pur.1 (stars_star.1 hh)
  have hw2 : MapWF { c with tv := s3z } { m with told := [] } := ⟨hw.dv, ⟨hw.ok.uniq, hw.ok.nm, hw.ok.chk, hw.ok.nam, hw.ok.acy, hw.ok.bas, hw.ok.hl, hw.ok.hn, hw.ok.org⟩, ⟨hw.big.len, hw.big.wl, hw.big.tks, Nat.zero_le _, hw.big.wr⟩, hw.dl, hw.bl, hw.inj, hw.good, hw.dsk, hw.dsj, hw.wr⟩
  have h2 := zbr (List.perm_middle (l₁ := [mpc mBas c.bm c.bl, mpc mDev c.dm c.dl, sl tyS c.ov.v m.names]) (a := sl zau c.tv.v m.told) (l₂ := [Go.VG.Own (DevC c.a c.bs) c.l, Arr c.a c.s] ++ R)) _ h1
  obtain ⟨a1, a2, d1, e1, p1, q1⟩ := h2
  refine ⟨a1, a2, d1, e1, p1, stars_star.2 (stars_pur.2 ⟨hw2, ?_⟩)⟩
  have q2 : stars (sl zau (Sl3.v s3z) [] :: ([mpc mBas c.bm c.bl, mpc mDev c.dm c.dl, sl tyS c.ov.v m.names] ++ ([Go.VG.Own (DevC c.a c.bs) c.l, Arr c.a c.s] ++ R))) a2 := zb2 (t := zau) _ q1
  exact zbr (List.perm_middle (l₁ := [mpc mBas c.bm c.bl, mpc mDev c.dm c.dl, sl tyS c.ov.v m.names]) (a := sl zau (Sl3.v s3z) [])).symm _ q2
theorem ze4 {tv : Sl3} {l : List api_Answer} (hl : l.length ≤ 100000000) : Ent (sl zau tv.v l :: MapR c m :: R) (MapR { c with tv := tv } { m with told := l } :: R) := fun h hh => by
  obtain ⟨a1, a2, d1, e1, p1, q1⟩ := hh
  obtain ⟨hw, h1⟩ := stars_pur.1 (stars_star.1 q1)
  have hw2 : MapWF { c with tv := tv } { m with told := l } := ⟨hw.dv, ⟨hw.ok.uniq, hw.ok.nm, hw.ok.chk, hw.ok.nam, hw.ok.acy, hw.ok.bas, hw.ok.hl, hw.ok.hn, hw.ok.org⟩, ⟨hw.big.len, hw.big.wl, hw.big.tks, hl, hw.big.wr⟩, hw.dl, hw.bl, hw.inj, hw.good, hw.dsk, hw.dsj, hw.wr⟩
  have h2 := zbr (List.perm_middle (l₁ := [mpc mBas c.bm c.bl, mpc mDev c.dm c.dl, sl tyS c.ov.v m.names]) (a := sl zau c.tv.v m.told) (l₂ := [Go.VG.Own (DevC c.a c.bs) c.l, Arr c.a c.s] ++ R)) _ h1
  have h3 : stars (sl zau tv.v l :: ([mpc mBas c.bm c.bl, mpc mDev c.dm c.dl, sl tyS c.ov.v m.names] ++ ([Go.VG.Own (DevC c.a c.bs) c.l, Arr c.a c.s] ++ R))) h := ⟨a1, a2, d1, e1, p1, ze6 h2⟩
  exact stars_star.2 (stars_pur.2 ⟨hw2, zbr (List.perm_middle (l₁ := [mpc mBas c.bm c.bl, mpc mDev c.dm c.dl, sl tyS c.ov.v m.names]) (a := sl zau tv.v l)).symm _ h3⟩)
end
theorem zuv {W : World} {A : HP} {v : Sl3} {xs : List ByteArray} (hA : Reads A tyS v.v xs) (hl : xs.length ≤ 100000000) :
    CSpec Tryz.prog W 89 [v.v] [A] (fun x : Sl3 => x.v) (fun _ => True) (fun x F => sl tyS x.v xs :: A :: F) := by
 refine CSpec.of_body Tryz.func89 rfl Tryz.ntmps89 rfl fun F => ?_
 show CJ _ _ _ _ _ _ (_ :: F)
 refine sR <| oA rfl rfl <| nT <| zaf <| sR <| oM rfl rfl <| oP (zqi rfl rfl Tryz.underlying59) rfl <| nT ?_
 first | (refine zao rfl (fun hg1 => ?_) (fun hg1 => ?_)) | (refine zap rfl (fun hg1 => ?_) (fun hg1 => ?_)) | (refine zar rfl (fun hg1 => ?_) (fun hg1 => ?_))
 ·
  refine sR <| oA rfl rfl <| nT <| zai <| zad <| zam (res1 Tryz.results89 rfl) ?_
  obtain ⟨vp, vn, vc⟩ := v
  obtain rfl : vp = none := by simpa using hg1
  refine fun w hs => ?_
  obtain rfl := zmx hA _ hs.heap.choose_spec
  revert w hs
  show ∀ w, St W w _ → _
  refine CSpec.close ⟨none, 0, 0⟩ ?_ ?_ (Ent.trans (fun h hh => zb2 (t := tyS) h hh) eR)
  · rfl
  · trivial
 ·
  refine kT <| sR <| oO <| zbe rfl (zm7) rfl fun b1 => zei (Ent.trans (t0_ eR) (zdk (t := tyS) (m := 0) [] rfl rfl rfl (by decide))) <| oM rfl rfl <| oO <| zbv (t := tyS) (bytes := 16) rfl rfl del0 foc0 hA Tryz.underlying59 ziz (by simp only [List.length_append, List.length_cons, List.length_nil, maxLen] at *; omega) (by simp only [List.length_append, List.length_cons, List.length_nil, maxLen] at *; omega) rfl fun p2 c3 => oA rfl rfl <| nT <| zai <| zam (res1 Tryz.results89 rfl) <| CSpec.close ⟨p2, _, c3⟩ ?_ ?_ (t0_ (t0_ eR))
  · rfl
  · trivial
theorem zuw {W : World} {A : HP} {v : Sl3} {xs : List api_Target} (hA : Reads A tyapi_Target v.v xs) (hl : xs.length ≤ 100000000) :
    CSpec Tryz.prog W 74 [v.v] [A] (fun x : Sl3 => x.v) (fun _ => True) (fun x F => sl tyapi_Target x.v xs :: A :: F) := by
 refine CSpec.of_body Tryz.func74 rfl Tryz.ntmps74 rfl fun F => ?_
 show CJ _ _ _ _ _ _ (_ :: F)
 refine sR <| oA rfl rfl <| nT <| zaf <| sR <| oM rfl rfl <| oP (zqi rfl rfl Tryz.underlying30) rfl <| nT ?_
 first | (refine zao rfl (fun hg1 => ?_) (fun hg1 => ?_)) | (refine zap rfl (fun hg1 => ?_) (fun hg1 => ?_)) | (refine zar rfl (fun hg1 => ?_) (fun hg1 => ?_))
 ·
  refine sR <| oA rfl rfl <| nT <| zai <| zad <| zam (res1 Tryz.results74 rfl) ?_
  obtain ⟨vp, vn, vc⟩ := v
  obtain rfl : vp = none := by simpa using hg1
  refine fun w hs => ?_
  obtain rfl := zmx hA _ hs.heap.choose_spec
  revert w hs
  show ∀ w, St W w _ → _
  refine CSpec.close ⟨none, 0, 0⟩ ?_ ?_ (Ent.trans (fun h hh => zb2 (t := tyapi_Target) h hh) eR)
  · rfl
  · trivial
 ·
  refine kT <| sR <| oO <| zbe rfl (zm8) rfl fun b1 => zei (Ent.trans (t0_ eR) (zdk (t := tyapi_Target) (m := 0) [] rfl rfl rfl (by decide))) <| oM rfl rfl <| oO <| zbv (t := tyapi_Target) (bytes := 48) rfl rfl del0 foc0 hA Tryz.underlying30 zdw (by simp only [List.length_append, List.length_cons, List.length_nil, maxLen] at *; omega) (by simp only [List.length_append, List.length_cons, List.length_nil, maxLen] at *; omega) rfl fun p2 c3 => oA rfl rfl <| nT <| zai <| zam (res1 Tryz.results74 rfl) <| CSpec.close ⟨p2, _, c3⟩ ?_ ?_ (t0_ (t0_ eR))
  · rfl
  · trivial
theorem zta {W : World} {b : Nat} {c : MH} {m : Md} :
    CSpec Tryz.prog W 13 [ptr b 0] [blk b 84 (zax c m), MapR c m] (fun _ : Unit => c.tv.v) (fun _ => True) (fun _ F => sl zau c.tv.v m.told :: blk b 84 (zax { c with tv := s3z } { m with told := [] }) :: MapR { c with tv := s3z } { m with told := [] } :: F) := by
 refine CSpec.of_body Tryz.func13 rfl Tryz.ntmps13 rfl fun F => ?_
 show CJ _ _ _ _ _ _ (_ :: _ :: F)
 refine zbf (Ent.trans (t1_ eR) zem) <| sR <| oA rfl rfl <| nT <| sR <| oM rfl rfl <| oP (zae rfl) rfl <| oP (zaa rfl ⟨_, _, _, Tryz.runUnderlying84, rfl, rfl, Tryz.sizeOf54, rfl⟩) rfl <| oV (zah rfl foc2 rfl Tryz.isAgg54) rfl <| oA rfl rfl <| nT <| sR <| oM rfl rfl <| oP (zae rfl) rfl <| oP (zaa rfl ⟨_, _, _, Tryz.runUnderlying84, rfl, rfl, Tryz.sizeOf54, rfl⟩) rfl <| oO <| zbj rfl rfl foc2 rfl rfl Tryz.sizeOf54 <| nT <| sR <| oM rfl rfl <| oA rfl rfl <| nT <| zai <| zam (res1 Tryz.results13 rfl) <| CSpec.close () ?_ ?_ (t0_ (t1_ (t0_ eR)))
 · rfl
 · trivial
end Go.Proofs
set_option linter.unusedSimpArgs false
set_option maxRecDepth 20000
namespace Go.Proofs
open Go.VG
theorem zgn (v0 : Bool) (v1 : Int) (v2 : Int) : ∀ w, (Instr.build 51 (#[(0, .bool v0), (2, .int .u64 v1), (3, .int .i64 v2)] : Array (Nat × Value))).run Tryz.prog w = .ok (.agg #[.bool v0, .int .i64 0, .int .u64 v1, .int .i64 v2]) w := fun w => by kernel_rfl
theorem zm9 (v0 : Int) : ∀ w, (Instr.build 33 (#[(0, .int .i64 v0)] : Array (Nat × Value))).run Tryz.prog w = .ok (.agg #[.int .i64 v0, .int .i64 0, .int .u64 0]) w := fun w => by kernel_rfl
theorem zwf {W : World} {b : Nat} {c : MH} {m : Md} {nm : ByteArray} {t : api_Task} (hw : m.wr < 100000000) (hb : -9223372036854775808 ≤ t.At ∧ t.At ≤ 9223372036854775807) (hs : (m.find nm).isSome = true) (hk : 1 ≤ t.Kind ∧ t.Kind ≤ 3) :
    CSpec Tryz.prog W 79 [ptr b 0, .string nm, .agg #[.int .i64 t.Kind, .int .i64 t.At, .int .u64 (t.Value.toNat : Int)]] [blk b 84 (zax c m), MapR c m] (fun _ : MH => .tuple #[.int .u64 ((m.carryN (m.dv.length + 1) nm t).1.1.toNat : Int), .int .i64 (m.carryN (m.dv.length + 1) nm t).1.2]) (fun c2 => zax c2 (m.carryN (m.dv.length + 1) nm t).2 = zax c m ∧ c2.bs = c.bs) (fun c2 F => blk b 84 (zax c m) :: MapR c2 (m.carryN (m.dv.length + 1) nm t).2 :: F) := by
  by_cases h3 : t.Kind = 3
  · rw [zpt h3 hs]; exact zmc hs h3
  · exact zuu hw hb hs (by omega)
theorem zb7 {m : Md} {k : Nat} {t : api_Task} (hO : MdOk m) (hk : k < m.dv.length) (hg : (m.at k).gone = false) : m.carryN (m.dv.length + 1) (m.at k).name t = m.carryk k t := Md.carryN_dev (Md.at_find hO hk hg)
def ansN (m : Md) (nm : ByteArray) (t : api_Task) : api_Answer := ⟨true, 0, (m.carryN (m.dv.length + 1) nm t).1.1, (m.carryN (m.dv.length + 1) nm t).1.2⟩
theorem zc9 {W : World} {b : Nat} {c : MH} {m : Md} {nm : ByteArray} {t : api_Task} (hw : m.wr < 100000000) (hb : -9223372036854775808 ≤ t.At ∧ t.At ≤ 9223372036854775807) (hs : (m.find nm).isSome = true) (hk : 1 ≤ t.Kind ∧ t.Kind ≤ 3) :
    CSpec Tryz.prog W 82 [ptr b 0, .string nm, .agg #[.int .i64 t.Kind, .int .i64 t.At, .int .u64 (t.Value.toNat : Int)]] [blk b 84 (zax c m), MapR c m] (fun _ : MH => .agg #[.bool (ansN m nm t).Done, .int .i64 (ansN m nm t).Ticket, .int .u64 ((ansN m nm t).Value.toNat : Int), .int .i64 (ansN m nm t).Error]) (fun c2 => zax c2 (m.carryN (m.dv.length + 1) nm t).2 = zax c m ∧ c2.bs = c.bs) (fun c2 F => blk b 84 (zax c m) :: MapR c2 (m.carryN (m.dv.length + 1) nm t).2 :: F) := by
 refine CSpec.of_body Tryz.func82 rfl Tryz.ntmps82 rfl fun F => ?_
 show CJ _ _ _ _ _ _ (_ :: _ :: F)
 refine sR <| oO <| O_box rfl rfl rfl fun b1 => oO <| zb1 Tryz.zeroValue51 rfl rfl fun b2 => nT <| sR <| oM rfl rfl <| oM rfl rfl <| oV (zbh rfl foc1 Tryz.isAgg33 Tryz.sizeOf33 rfl rfl) rfl <| oO <| zaq ((zwf (t := t) hw hb hs hk)) rfl Tryz.call79 (Dels.cons del2 (Dels.cons del2 Dels.nil)) rfl fun c9 h9 => oM rfl rfl <| oP (zaw rfl rfl) rfl <| oP (zaw rfl rfl) rfl <| oA rfl rfl <| oA rfl rfl <| nT <| zaf <| sR <| oM rfl rfl <| oP (P_neq rfl rfl) rfl <| nT ?_
 first | (refine zao rfl (fun hg1 => ?_) (fun hg1 => ?_)) | (refine zap rfl (fun hg1 => ?_) (fun hg1 => ?_)) | (refine zar rfl (fun hg1 => ?_) (fun hg1 => ?_))
 ·
  refine zak <| oA rfl rfl <| nT <| sR <| oM rfl rfl <| oM rfl rfl <| oP (zbm rfl (zgn _ _ _)) rfl <| oO <| zbn rfl rfl foc2 Tryz.sizeOf51 rfl rfl rfl <| nT <| zai <| zam (resA1 Tryz.results82 (zce rfl foc2 Tryz.isAgg51 Tryz.sizeOf51 rfl rfl)) <| CSpec.close c9 ?_ ?_ (t0_ (t0_ (eD (eD eR))))
  · first | rfl | (show Value.agg #[.bool true, .int .i64 0, .int .u64 0, _] = Value.agg #[.bool true, .int .i64 0, .int .u64 _, _]; rw [show (ansN m nm t).Value = 0 from zok (by assumption)]; rfl)
  · exact h9
 ·
  refine kT <| sR <| oM rfl rfl <| oM rfl rfl <| oP (zbm rfl (zgn _ _ _)) rfl <| oO <| zbn rfl rfl foc2 Tryz.sizeOf51 rfl rfl rfl <| nT <| zai <| zam (resA1 Tryz.results82 (zce rfl foc2 Tryz.isAgg51 Tryz.sizeOf51 rfl rfl)) <| CSpec.close c9 ?_ ?_ (t0_ (t0_ (eD (eD eR))))
  · first | rfl | (show Value.agg #[.bool true, .int .i64 0, .int .u64 0, _] = Value.agg #[.bool true, .int .i64 0, .int .u64 _, _]; rw [show (ansN m nm t).Value = 0 from zok (by assumption)]; rfl)
  · exact h9
theorem ztb {W : World} {b : Nat} {c : MH} {m : Md} {n : ByteArray} :
    CSpec Tryz.prog W 32 [ptr b 0, .string n] [blk b 84 (zax c m), MapR c m] (fun _ : MH => .int .i64 (m.suE n)) (fun _ => True) (fun c2 F => blk b 84 (zax c2 (m.suS n)) :: MapR c2 (m.suS n) :: F) := by
 refine CSpec.of_body Tryz.func32 rfl Tryz.ntmps32 rfl fun F => ?_
 show CJ _ _ _ _ _ _ (_ :: _ :: F)
 refine zbl (zb3 foc1) fun hW => ?_
 have hO := hW.ok
 have hns := Md.names_len (m := m)
 have hln := hW.big.len
 refine sR <| oA rfl rfl <| nT <| sR <| oM rfl rfl <| oP (zae rfl) rfl <| oP (zaa rfl ⟨_, _, _, Tryz.runUnderlying84, rfl, rfl, Tryz.sizeOf82, rfl⟩) rfl <| oV (zah rfl foc0 rfl Tryz.isAgg82) rfl <| oM rfl rfl <| oO (zea rfl rfl foc1 rfl (fun hd2 => ?_) (fun k1 hd2 => ?_))
 ·
  refine oA rfl rfl <| nT <| zaf <| zat <| sR <| oM rfl rfl <| oP (zgs rfl rfl Tryz.underlying85) rfl <| oA rfl rfl <| nT <| za4 rfl rfl <| sR <| oA rfl rfl <| nT <| zai <| zaj <| zad <| zam (res1 Tryz.results32 rfl) ?_
  have e1 : m.suE n = 12 ∧ m.suS n = m := by
    have e2 : m.suE n = 12 := by unfold Md.suE; rw [hd2]
    exact ⟨e2, by unfold Md.suS; rw [hd2]⟩
  refine CSpec.close c ?_ ?_ (Ent.takeC del0 (by rw [e1.2]) (Ent.takeC del0 (by rw [e1.2]) eR))
  · rw [e1.1]
  · trivial
 ·
  refine oA rfl rfl <| nT <| zaf <| zat <| sR <| oM rfl rfl <| oP (zd7 rfl rfl Tryz.underlying85) rfl <| oA rfl rfl <| nT <| za5 rfl rfl <| sR <| oM rfl rfl <| oP (zae rfl) rfl <| oP (zaa rfl ⟨_, _, _, Tryz.runUnderlying111, rfl, rfl, Tryz.sizeOf4, rfl⟩) rfl <| oV (zbu (Ent.trans (t1_ eR) (za8 (Md.dev_is hd2).1)) (zah rfl foc0 rfl Tryz.isAgg4)) rfl <| oA rfl rfl <| nT ?_
  first | (refine zao rfl (fun hg1 => ?_) (fun hg1 => ?_)) | (refine zap rfl (fun hg1 => ?_) (fun hg1 => ?_)) | (refine zar rfl (fun hg1 => ?_) (fun hg1 => ?_))
  ·
   refine sR <| oA rfl rfl <| nT <| zai <| zaj <| zad <| zam (res1 Tryz.results32 rfl) ?_
   have e1 : m.suE n = 20 ∧ m.suS n = m := by
     have e2 : m.suE n = 20 := by unfold Md.suE; rw [hd2]; show (if _ then _ else _) = _; exact if_pos (.inl (by assumption))
     exact ⟨e2, by unfold Md.suS; rw [hd2]; show (if m.suE n = 0 then _ else _) = _; rw [if_neg (by rw [e2]; decide)]⟩
   refine CSpec.close c ?_ ?_ (Ent.takeC del0 (by rw [e1.2]) (Ent.takeC del0 (by rw [e1.2]) eR))
   · rw [e1.1]
   · trivial
  ·
   refine zbk <| zal <| zav <| zaf <| zaf ?_
   have hdk := Md.dev_is hd2
   have hsf : (m.at k1).susp = false := by assumption
   refine zak <| oM rfl rfl <| oP (zae rfl) rfl <| oP (zaa rfl ⟨_, _, _, Tryz.runUnderlying111, rfl, rfl, Tryz.sizeOf4, rfl⟩) rfl <| oV (zbu (Ent.trans (t1_ eR) (za8 (Md.dev_is hd2).1)) (zah rfl foc0 rfl Tryz.isAgg4)) rfl <| nT ?_
   first | (refine zao rfl (fun hg2 => ?_) (fun hg2 => ?_)) | (refine zap rfl (fun hg2 => ?_) (fun hg2 => ?_)) | (refine zar rfl (fun hg2 => ?_) (fun hg2 => ?_))
   ·
    refine sR <| oP (zbm rfl (zm9 _)) rfl <| oO <| zb1 Tryz.zeroValue33 rfl rfl fun b3 => oO <| zbn rfl rfl foc0 Tryz.sizeOf33 rfl rfl rfl <| nT <| zaf <| sR <| oM rfl rfl <| oM rfl rfl <| oV (zbh rfl foc0 Tryz.isAgg33 Tryz.sizeOf33 rfl rfl) rfl <| oO <| zaq (zf5 (t := ⟨3, 0, 0⟩) (Md.dev_is hd2).1) rfl Tryz.call78 (Dels.cons del1 (Dels.cons del1 Dels.nil)) rfl fun _ hc4 => oP (zfu rfl rfl Tryz.underlying85) rfl <| nT ?_
    first | (refine zao rfl (fun hg3 => ?_) (fun hg3 => ?_)) | (refine zap rfl (fun hg3 => ?_) (fun hg3 => ?_)) | (refine zar rfl (fun hg3 => ?_) (fun hg3 => ?_))
    ·
     refine sR <| oA rfl rfl <| nT <| zai <| zad <| zad <| zam (res1 Tryz.results32 rfl) ?_
     have e1 : m.suE n = 20 ∧ m.suS n = m := by
       have e2 : m.suE n = 20 := by unfold Md.suE; rw [hd2]; show (if _ then _ else _) = _; exact if_pos (.inr (by assumption))
       exact ⟨e2, by unfold Md.suS; rw [hd2]; show (if m.suE n = 0 then _ else _) = _; rw [if_neg (by rw [e2]; decide)]⟩
     refine CSpec.close c ?_ ?_ (Ent.takeC del0 (by rw [e1.2]) (Ent.takeC del0 (by rw [e1.2]) (eD eR)))
     · rw [e1.1]
     · trivial
    ·
     refine kT <| zaf ?_
     have hst9 : (m.wayk k1 ⟨3, 0, 0⟩).isSome = false := by assumption
     refine zak <| oM rfl rfl <| oM rfl rfl <| oV (zbh rfl foc2 Tryz.isAgg33 Tryz.sizeOf33 rfl rfl) rfl <| oO <| zaq ((zmc (t := ⟨3, 0, 0⟩) (by rw [hdk.2]; rfl) rfl)) rfl Tryz.call79 (Dels.cons del0 (Dels.cons del0 Dels.nil)) rfl fun c9 h9 => oM rfl rfl <| oP (zaw rfl rfl) rfl <| oP (zaw rfl rfl) rfl <| oA rfl rfl <| oA rfl rfl <| nT <| sR <| oM rfl rfl <| oP (P_neq rfl rfl) rfl <| nT ?_
     first | (refine za5 rfl (decide_eq_false (by exact fun h => h rfl)) ?_) | (refine za5 rfl (by exact fun h => h rfl) ?_)
     refine kT <| zaf ?_
     have hw9 : m.wayk k1 ⟨3, 0, 0⟩ = none := by simpa using hst9
     refine zbl (zb3 foc1) fun hW9 => zbf (Ent.takeC del0 (congrArg (blk b 84) h9.1.symm) (t0_ (t0_ eR))) ?_
     rw [← h9.2]
     refine zbf (Ent.trans (t1_ eR) (za8 hdk.1)) <| zak <| oM rfl rfl <| oP (zae rfl) rfl <| oP (zaa rfl ⟨_, _, _, Tryz.runUnderlying111, rfl, rfl, Tryz.sizeOf4, rfl⟩) rfl <| oO <| zbj rfl rfl foc0 rfl rfl Tryz.sizeOf4 <| nT <| sR <| oA rfl rfl <| nT <| zai <| zam (res1 Tryz.results32 rfl) ?_
     have e0 : m.wayk k1 ⟨3, 0, 0⟩ = none := by rw [hw9]
     have e2 : m.suE n = 0 := by unfold Md.suE; rw [hd2]; show (if _ then _ else _) = _; exact if_neg (by rw [hsf, e0]; simp)
     have e1 : m.suS n = m.set k1 { m.at k1 with susp := true } := by unfold Md.suS; rw [hd2]; show (if m.suE n = 0 then _ else _) = _; rw [if_pos e2]
     rw [e1]
     refine CSpec.close (c9.put k1 (c9.hd k1) { m.at k1 with susp := true }) ?_ ?_ (Ent.trans (Ent.trans (t0_ (t0_ (t0_ (t0_ (t0_ eR))))) (zcy (h' := (c9.hd k1)) (d' := { m.at k1 with susp := true }) (m' := (m.set k1 { m.at k1 with susp := true })) hW9 hdk.1 rfl hdk.1.2.2 rfl rfl rfl (Md.ok_susp hO hdk.1) (hW.big.set hdk.1.1 rfl (hW.big.wl _) hW.big.tks hW.big.told hW.big.wr) rfl rfl)) (t1_ (t0_ (eD eR))))
     · rw [e2]
     · trivial
   ·
    refine kT <| zaf ?_
    have hW9 := hW
    have hhl : (m.at k1).hl = false := by assumption
    refine zbf (Ent.trans (t1_ eR) (za8 hdk.1)) <| zak <| oM rfl rfl <| oP (zae rfl) rfl <| oP (zaa rfl ⟨_, _, _, Tryz.runUnderlying111, rfl, rfl, Tryz.sizeOf4, rfl⟩) rfl <| oO <| zbj rfl rfl foc0 rfl rfl Tryz.sizeOf4 <| nT <| sR <| oA rfl rfl <| nT <| zai <| zam (res1 Tryz.results32 rfl) ?_
    have e0 : m.wayk k1 ⟨3, 0, 0⟩ = none := by unfold Md.wayk; rw [Md.way_flush hdk.1.2.2 hsf rfl, hO.hl _ hhl]; rfl
    have e2 : m.suE n = 0 := by unfold Md.suE; rw [hd2]; show (if _ then _ else _) = _; exact if_neg (by rw [hsf, e0]; simp)
    have e1 : m.suS n = m.set k1 { m.at k1 with susp := true } := by unfold Md.suS; rw [hd2]; show (if m.suE n = 0 then _ else _) = _; rw [if_pos e2]
    rw [e1]
    refine CSpec.close (c.put k1 (c.hd k1) { m.at k1 with susp := true }) ?_ ?_ (Ent.trans (Ent.trans (t0_ (t0_ (t0_ (t0_ (t0_ eR))))) (zcy (h' := (c.hd k1)) (d' := { m.at k1 with susp := true }) (m' := (m.set k1 { m.at k1 with susp := true })) hW9 hdk.1 rfl hdk.1.2.2 rfl rfl rfl (Md.ok_susp hO hdk.1) (hW.big.set hdk.1.1 rfl (hW.big.wl _) hW.big.tks hW.big.told hW.big.wr) rfl rfl)) (t1_ (t0_ eR)))
    · rw [e2]
    · trivial
end Go.Proofs
namespace Go.Proofs
namespace Md
section
variable {m : Md} {n : ByteArray} {t : api_Task} {k w : Nat}
theorem do_none (h : m.find n = none) : m.doE n t = 12 ∧ m.doA n t = ans0 ∧ m.doS n t = m := by
  have e : m.doE n t = 12 := by unfold doE; rw [h]
  exact ⟨e, by unfold doA; rw [if_pos (by rw [e]; decide)], by unfold doS; rw [if_pos (by rw [e]; decide)]⟩
theorem do_kind (h : m.find n = some k) (hk : t.Kind < 1 ∨ 3 < t.Kind) : m.doE n t = 17 ∧ m.doA n t = ans0 ∧ m.doS n t = m := by
  have e : m.doE n t = 17 := by unfold doE; rw [h]; show (if _ then _ else _) = _; rw [if_pos hk]
  exact ⟨e, by unfold doA; rw [if_pos (by rw [e]; decide)], by unfold doS; rw [if_pos (by rw [e]; decide)]⟩
theorem do_state (h : m.find n = some k) (hk : ¬ (t.Kind < 1 ∨ 3 < t.Kind)) (hs : (m.at k).isB = false ∧ (m.at k).hl = false ∧ (m.at k).susp = false) : m.doE n t = 20 ∧ m.doA n t = ans0 ∧ m.doS n t = m := by
  have e : m.doE n t = 20 := by unfold doE; rw [h]; show (if _ then _ else if _ then _ else _) = _; rw [if_neg hk, if_pos hs]
  exact ⟨e, by unfold doA; rw [if_pos (by rw [e]; decide)], by unfold doS; rw [if_pos (by rw [e]; decide)]⟩
theorem do_wait (h : m.find n = some k) (hk : ¬ (t.Kind < 1 ∨ 3 < t.Kind)) (hs : ¬ ((m.at k).isB = false ∧ (m.at k).hl = false ∧ (m.at k).susp = false)) (hw : m.wayk k t = some w) :
    m.doE n t = 0 ∧ m.doA n t = ⟨false, ((m.tks + 1 : Nat) : Int), 0, 0⟩ ∧ m.doS n t = { m with tks := m.tks + 1 }.addW w ⟨m.tks + 1, k, t⟩ := by
  have e : m.doE n t = 0 := by unfold doE; rw [h]; show (if _ then _ else if _ then _ else _) = _; rw [if_neg hk, if_neg hs]
  refine ⟨e, ?_, ?_⟩
  · unfold doA; rw [if_neg (by rw [e]; decide), h]; show (match m.wayk k t with | some _ => _ | none => _) = _; rw [hw]
  · unfold doS; rw [if_neg (by rw [e]; decide), h]; show (match m.wayk k t with | some w => _ | none => _) = _; rw [hw]
theorem do_go (h : m.find n = some k) (hk : ¬ (t.Kind < 1 ∨ 3 < t.Kind)) (hs : ¬ ((m.at k).isB = false ∧ (m.at k).hl = false ∧ (m.at k).susp = false)) (hw : m.wayk k t = none) :
    m.doE n t = 0 ∧ m.doA n t = ⟨true, 0, (m.carryk k t).1.1, (m.carryk k t).1.2⟩ ∧ m.doS n t = (m.carryk k t).2 := by
  have e : m.doE n t = 0 := by unfold doE; rw [h]; show (if _ then _ else if _ then _ else _) = _; rw [if_neg hk, if_neg hs]
  refine ⟨e, ?_, ?_⟩
  · unfold doA; rw [if_neg (by rw [e]; decide), h]; show (match m.wayk k t with | some _ => _ | none => _) = _; rw [hw]
  · unfold doS; rw [if_neg (by rw [e]; decide), h]; show (match m.wayk k t with | some w => _ | none => _) = _; rw [hw]
end
end Md
end Go.Proofs
