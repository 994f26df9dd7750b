/- MirrorBad, part 8 of the proof: PMirO2, PKeep, POwn1, POwn2, POwn3, POwn4, POwn5, POwn6, POwn7, POwn8, PWords, PMirB, POwn9, PSim, PMirD, PMirS, PBadM, LMirrorBad, PMirrorBad. -/
import Derived.WalkKit
import Derived.Orders
import Derived.Handy
import Derived.OrdersHeld
import Derived.Below
import Derived.OpenShut
import Derived.Deep.Slices
import Derived.Scope
import Derived.KernelRfl
import Derived.ProofKit
import Derived.ShutString
import Derived.ChangeOld
import Derived.Test.YtcfnikegnhlghaaGreatChecked
import Derived.Test.YtcfnikegnhlghaaGreatRows
import Derived.Test.YtcfnikegnhlghaaGreatZMirrorBad7
namespace Go.Proofs
open Go.VG
section
variable {C : MC} {K a i r : Nat} {s t u y : ArrS} {lv : LV} {m m' x : MirS} {w v : UInt64} {st : List Int} {legs : List Dvc}
theorem open_miss {R : Nat} (hR : 1 ≤ R ∧ R ≤ 12) (hok : ArrOk C.ns K s) (hdn : s.down = false) (hm : miss s C.L = true) : regionlog_Open (xL C.L 3) (R : Int) s = some (none, 6) := by
  have hnW : nW R = 1 := by unfold nW; omega
  have hF := fuel_big
  have hns : C.ns.getD C.L 0 = 3 := MC.log
  unfold regionlog_Open
  rw [checkN logL hns (by decide) ⟨hR.1, by omega⟩, if_neg (by rw [hnW]; omega)]; simp only [Option.bind_some]
  rw [if_neg (by simp), wordsN ⟨hR.1, by omega⟩, hnW]; simp only [Option.bind_some]
  have hrd : ∃ w, (xL C.L 3).rd s (0 : Int) = some (w, 6) := by
    have h1 := hok.rdM (d := C.L) (a := 0) hdn logL (by rw [hns]; decide) hm
    rw [span_rd (by omega) (by omega), if_pos (by omega)]
    have e : ((0 : Nat) : Int) + (0 : Int) = ((0 : Nat) : Int) := by omega
    rw [e, h1]; exact ⟨_, rfl⟩
  obtain ⟨w, hrd⟩ := hrd
  have hra : block_ReadAll (xL C.L 3) (0 : Int) ((1 + 1 : Nat) : Int) s = some ([], 6) := by
    unfold block_ReadAll
    have hsz : (xL C.L 3).size s = some ((3 : Nat) : Int) := span_size
    rw [hsz]; simp only [Option.bind_some]
    rw [inside_t (by omega) (by omega)]; simp only [Option.bind_some]
    rw [if_neg (by simp)]
    obtain ⟨N, hN⟩ : ∃ N, FUEL = N + 1 := ⟨FUEL - 1, by omega⟩
    have hu : block_ReadAll_l1 (xL C.L 3) (0 : Int) ((1 + 1 : Nat) : Int) s (N + 1) 0 [] = block_ReadAll_l1_b (xL C.L 3) (0 : Int) ((1 + 1 : Nat) : Int) s (block_ReadAll_l1 (xL C.L 3) (0 : Int) ((1 + 1 : Nat) : Int) s N) 0 [] := rfl
    rw [hN, hu]
    unfold block_ReadAll_l1_b
    have e : (0 : Int) + ((0 : Nat) : Int) = 0 := rfl
    rw [if_pos (by omega), e, grd_t (inI64_of (by omega)), hrd]; simp only [Option.bind_some]
    rw [if_pos (by simp), seqO_inr]
  rw [hra]; simp only [Option.bind_some]
  rw [if_pos (by simp)]
structure OpH (C : MC) (s : ArrS) (legs : List Dvc) (st : List Int) : Prop where
  ll : legs.length = C.L
  lx : ∀ i, i < C.L → legs.getD i dv0 = xL i C.sz
  rg : ∀ k ∈ st, 0 ≤ k ∧ k ≤ (C.L : Int)
  sl : st.length ≤ 1000000
  ex : ∃ j, j < C.L ∧ (j : Int) ∉ st
theorem OpH.guard (h : OpH C s legs st) : ¬ ((((((legs.length : Nat) : Int) < (2 : Int)) ∨ ((6 : Int) < ((legs.length : Nat) : Int))) ∨ ((C.rg : Int) < (1 : Int))) ∨ ((65536 : Int) < (C.rg : Int))) := by
  have h1 := C.hL
  have h2 := C.hr
  rw [h.ll]; omega
theorem open2_eq' {R : Nat} (hR : 1 ≤ R ∧ R ≤ 12) (hreg : mirror_Regions (C.sz : Int) (C.rg : Int) = some (R : Int)) (h : OpH C s legs st) : ∃ d : List Bool, d.length = R ∧ (∀ r, r < R → d.getD r false = true) ∧ mirror_Open_2 legs st (C.rg : Int) s = some (some ⟨legsM C st C.L, none, false, 2, (C.sz : Int), (C.rg : Int), d, 0⟩, 0) := by
  have hL := C.hL
  have hnW : nW R = 1 := by unfold nW; omega
  have hF := fuel_big
  unfold mirror_Open_2
  generalize FUEL = N at hF ⊢
  rw [if_neg h.guard, containsF (by rw [h.ll]; exact h.rg) h.sl]; simp only [Option.bind_some]
  have hsz : Dvc.size (legs.getD 0 dv0) s = some (C.sz : Int) := by rw [h.lx 0 (by omega)]; exact span_size
  rw [if_neg (by simp), hsz]; simp only [Option.bind_some]
  obtain ⟨q, q1, q2⟩ := open_rule (f := mirror_Open_2_l1 legs st (C.rg : Int) s) (s := s) (fun _ _ _ _ => rfl) h.ll h.lx h.sl (lg := false) (reg := (C.rg : Int)) N 0 0 (by omega) (by omega) (by omega) (fun ⟨j, hj, _⟩ => absurd hj (by omega))
  have e0 : legsM C st 0 = [] := rfl
  rw [e0] at q2
  rw [q2]; simp only [Option.bind_some]
  have := q1 h.ex
  rw [if_neg (by omega), hreg]; simp only [Option.bind_some]
  rw [grd_t (decide_eq_true ⟨by omega, by omega⟩), contains_eq h.sl]; simp only [Option.bind_some]
  rw [if_pos (by simp)]
  obtain ⟨d, d1, d2, d3⟩ := all_rule (f := mirror_Open_2_l3 (R : Int)) (R := R) (by omega) (fun _ _ _ => rfl) N 0 ⟨legsM C st C.L, none, false, 2, (C.sz : Int), (C.rg : Int), List.replicate ((R : Int)).toNat false, 0⟩ (by omega) (by omega) (by simp) (fun r hr => absurd hr (by omega))
  rw [d3]
  exact ⟨d, d1, d2, rfl⟩
theorem open1_eq' {R : Nat} (hR : 1 ≤ R ∧ R ≤ 12) (hreg : mirror_Regions (C.sz : Int) (C.rg : Int) = some (R : Int)) (h : OpH C s legs st) (hok : ArrOk C.ns K s) (hdn : s.down = false) :
    ((C.L : Int) ∈ st → ∃ d : List Bool, d.length = R ∧ (∀ r, r < R → d.getD r false = true) ∧ mirror_Open legs st (xL C.L 3) (C.rg : Int) s = some (some ⟨legsM C st C.L, none, true, 2, (C.sz : Int), (C.rg : Int), d, 0⟩, 0)) ∧
    ((C.L : Int) ∉ st → miss s C.L = true → mirror_Open legs st (xL C.L 3) (C.rg : Int) s = some (none, 18)) ∧
    ((C.L : Int) ∉ st → miss s C.L = false → now s C.L 0 = headL R → ∃ d : List Bool, d.length = R ∧ (∀ r, r < R → (d.getD r false = true ↔ tb (now s C.L 1) r = true)) ∧ mirror_Open legs st (xL C.L 3) (C.rg : Int) s = some (some ⟨legsM C st C.L, some (openL (xL C.L 3) R (now s C.L)), true, 0, (C.sz : Int), (C.rg : Int), d, 0⟩, 0)) := by
  have hL := C.hL
  have hnW : nW R = 1 := by unfold nW; omega
  have hF := fuel_big
  have hsz : Dvc.size (legs.getD 0 dv0) s = some (C.sz : Int) := by rw [h.lx 0 (by omega)]; exact span_size
  have e0 : legsM C st 0 = [] := rfl
  have hlen : ((((List.replicate ((R : Int)).toNat false)).length : Nat) : Int) = (R : Int) := by simp
  refine ⟨fun h1 => ?_, fun h1 h2 => ?_, fun h1 h2 h3 => ?_⟩
  · unfold mirror_Open
    generalize FUEL = N at hF ⊢
    obtain ⟨q, q1, q2⟩ := open_rule (f := mirror_Open_l1 legs st (xL C.L 3) (C.rg : Int) s) (s := s) (fun _ _ _ _ => rfl) h.ll h.lx h.sl (lg := true) (reg := (C.rg : Int)) N 0 0 (by omega) (by omega) (by omega) (fun ⟨j, hj, _⟩ => absurd hj (by omega))
    rw [e0] at q2
    have hq := q1 h.ex
    rw [if_neg h.guard, containsF (by rw [h.ll]; exact h.rg) h.sl]; simp only [Option.bind_some]
    rw [if_neg (by simp), hsz]; simp only [Option.bind_some]
    rw [q2]; simp only [Option.bind_some]
    rw [if_neg (by omega), hreg]; simp only [Option.bind_some]
    rw [grd_t (decide_eq_true ⟨by omega, by omega⟩), contains_eq h.sl]; simp only [Option.bind_some]
    rw [if_pos (.inl (by rw [h.ll]; exact decide_eq_true h1))]
    obtain ⟨d, d1, d2, d3⟩ := all_rule (f := mirror_Open_l3 (R : Int)) (R := R) (by omega) (fun _ _ _ => rfl) N 0 ⟨legsM C st C.L, none, true, 2, (C.sz : Int), (C.rg : Int), List.replicate ((R : Int)).toNat false, 0⟩ (by omega) (by omega) (by simp) (fun r hr => absurd hr (by omega))
    rw [d3]
    exact ⟨d, d1, d2, rfl⟩
  · unfold mirror_Open
    generalize FUEL = N at hF ⊢
    obtain ⟨q, q1, q2⟩ := open_rule (f := mirror_Open_l1 legs st (xL C.L 3) (C.rg : Int) s) (s := s) (fun _ _ _ _ => rfl) h.ll h.lx h.sl (lg := true) (reg := (C.rg : Int)) N 0 0 (by omega) (by omega) (by omega) (fun ⟨j, hj, _⟩ => absurd hj (by omega))
    rw [e0] at q2
    have hq := q1 h.ex
    rw [if_neg h.guard, containsF (by rw [h.ll]; exact h.rg) h.sl]; simp only [Option.bind_some]
    rw [if_neg (by simp), hsz]; simp only [Option.bind_some]
    rw [q2]; simp only [Option.bind_some]
    rw [if_neg (by omega), hreg]; simp only [Option.bind_some]
    rw [grd_t (decide_eq_true ⟨by omega, by omega⟩), contains_eq h.sl]; simp only [Option.bind_some]
    rw [if_neg (by rintro (x | x); rw [h.ll] at x; exact h1 (of_decide_eq_true x); exact x trivial), hlen, open_miss hR hok hdn h2]; simp only [Option.bind_some]
    rw [if_pos ⟨by decide, by decide⟩]
  · unfold mirror_Open
    generalize FUEL = N at hF ⊢
    obtain ⟨q, q1, q2⟩ := open_rule (f := mirror_Open_l1 legs st (xL C.L 3) (C.rg : Int) s) (s := s) (fun _ _ _ _ => rfl) h.ll h.lx h.sl (lg := true) (reg := (C.rg : Int)) N 0 0 (by omega) (by omega) (by omega) (fun ⟨j, hj, _⟩ => absurd hj (by omega))
    rw [e0] at q2
    have hq := q1 h.ex
    rw [if_neg h.guard, containsF (by rw [h.ll]; exact h.rg) h.sl]; simp only [Option.bind_some]
    rw [if_neg (by simp), hsz]; simp only [Option.bind_some]
    rw [q2]; simp only [Option.bind_some]
    rw [if_neg (by omega), hreg]; simp only [Option.bind_some]
    rw [grd_t (decide_eq_true ⟨by omega, by omega⟩), contains_eq h.sl]; simp only [Option.bind_some]
    rw [if_neg (by rintro (x | x); rw [h.ll] at x; exact h1 (of_decide_eq_true x); exact x trivial), hlen, open_eq logL MC.log (by decide) hok hdn h2 ⟨hR.1, by omega⟩ (by rw [hnW]; omega), if_pos h3]; simp only [Option.bind_some]
    rw [if_neg (by simp), if_neg (by simp)]; simp only [Option.elim_some]
    have hregs : (openL (xL C.L 3) R (now s C.L)).regions = (R : Int) := rfl
    have hbl : (openL (xL C.L 3) R (now s C.L)).bits.length = nW R := by simp [openL]
    rw [dirty_eq hregs (by rw [hbl, hnW]; omega) (by omega)]; simp only [Option.bind_some]
    have hle := @dirtyL_le (openL (xL C.L 3) R (now s C.L)).bits R
    obtain ⟨d, d1, d2, d3⟩ := some_l4 (l := dirtyL (openL (xL C.L 3) R (now s C.L)).bits R) (R := R) (fun k hk => dirtyL_mem hk) (by omega) N 0 ⟨legsM C st C.L, some (openL (xL C.L 3) R (now s C.L)), true, 0, (C.sz : Int), (C.rg : Int), List.replicate ((R : Int)).toNat false, 0⟩ (by omega) (by omega) (by simp)
    rw [d3]
    refine ⟨d, d1, fun r hr => ?_, rfl⟩
    have hb0 : ∀ l : List UInt64, bitR l r = tb (l.getD 0 0) r := fun l => by unfold bitR; rw [show r / 64 = 0 by omega, show r % 64 = r by omega]
    rw [d2 r hr, dirtyL_has hr, hb0]
    have e1 : (openL (xL C.L 3) R (now s C.L)).bits.getD 0 0 = now s C.L 1 := by
      have : (openL (xL C.L 3) R (now s C.L)).bits = (List.range (nW R)).map fun i => now s C.L (1 + i) := rfl
      rw [this, getD_map_range (by rw [hnW]; decide)]
    rw [e1]
    have e2 : (List.replicate ((R : Int)).toNat false).getD r false = false := by
      simp only [List.getD, List.getElem?_replicate]; split <;> rfl
    show (List.replicate ((R : Int)).toNat false).getD r false = true ∨ _ ↔ _
    rw [e2]
    exact ⟨fun hx => hx.elim (fun hy => (by cases hy)) id, .inr⟩
theorem open2_eq (h : OpH C s legs st) : ∃ d : List Bool, d.length = C.R ∧ (∀ r, r < C.R → d.getD r false = true) ∧ mirror_Open_2 legs st (C.rg : Int) s = some (some ⟨legsM C st C.L, none, false, 2, (C.sz : Int), (C.rg : Int), d, 0⟩, 0) :=
  open2_eq' C.hR regions_eq h
theorem open1_eq (h : OpH C s legs st) (hok : ArrOk C.ns K s) (hdn : s.down = false) :
    ((C.L : Int) ∈ st → ∃ d : List Bool, d.length = C.R ∧ (∀ r, r < C.R → d.getD r false = true) ∧ mirror_Open legs st (xL C.L 3) (C.rg : Int) s = some (some ⟨legsM C st C.L, none, true, 2, (C.sz : Int), (C.rg : Int), d, 0⟩, 0)) ∧
    ((C.L : Int) ∉ st → miss s C.L = true → mirror_Open legs st (xL C.L 3) (C.rg : Int) s = some (none, 18)) ∧
    ((C.L : Int) ∉ st → miss s C.L = false → now s C.L 0 = headL C.R → ∃ d : List Bool, d.length = C.R ∧ (∀ r, r < C.R → (d.getD r false = true ↔ tb (now s C.L 1) r = true)) ∧ mirror_Open legs st (xL C.L 3) (C.rg : Int) s = some (some ⟨legsM C st C.L, some (openL (xL C.L 3) C.R (now s C.L)), true, 0, (C.sz : Int), (C.rg : Int), d, 0⟩, 0)) :=
  open1_eq' C.hR regions_eq h hok hdn
theorem opener_eq (hok : ArrOk C.ns K s) (hdn : s.down = false) (hst : ∀ k ∈ st, 0 ≤ k ∧ k ≤ (C.L : Int)) (hsl : st.length ≤ 1000000) (hex : ∃ j, j < C.L ∧ (j : Int) ∉ st) (hh : C.lg = true → (C.L : Int) ∉ st → miss s C.L = false → now s C.L 0 = headL C.R) :
    (¬ (C.lg = true ∧ (C.L : Int) ∉ st) → ∃ d : List Bool, d.length = C.R ∧ (∀ r, r < C.R → d.getD r false = true) ∧ volumegrouplaw21_setting_owner_1 st s (C.L : Int) (C.sz : Int) (C.rg : Int) C.lg = some (some ⟨legsM C st C.L, none, C.lg, 2, (C.sz : Int), (C.rg : Int), d, 0⟩, 0)) ∧
    (C.lg = true → (C.L : Int) ∉ st → miss s C.L = true → volumegrouplaw21_setting_owner_1 st s (C.L : Int) (C.sz : Int) (C.rg : Int) C.lg = some (none, 18)) ∧
    (C.lg = true → (C.L : Int) ∉ st → miss s C.L = false → ∃ d : List Bool, d.length = C.R ∧ (∀ r, r < C.R → (d.getD r false = true ↔ tb (now s C.L 1) r = true)) ∧ volumegrouplaw21_setting_owner_1 st s (C.L : Int) (C.sz : Int) (C.rg : Int) C.lg = some (some ⟨legsM C st C.L, some (openL (xL C.L 3) C.R (now s C.L)), true, 0, (C.sz : Int), (C.rg : Int), d, 0⟩, 0)) := by
  have hL := C.hL
  have hs := C.hs
  have hcnt : s.drv.length = C.L + 1 := by rw [hok.sz.cnt]; exact MC.len
  have hsize : ∀ i, i < C.L → s.size i = C.sz := fun i hi => by rw [hok.sz.size i (by rw [MC.len]; omega), MC.leg hi]
  have hsizeL : s.size C.L = 3 := by rw [hok.sz.size C.L logL, MC.log]
  have hsp : volumegroupmake_Spans s = some (spansA s) := spans_eq (by omega) (fun i hi => by
    rcases Nat.lt_or_ge i C.L with x | x
    · rw [hsize i x]; omega
    · have : i = C.L := by omega
      subst this; rw [hsizeL]; omega)
  have hop : OpH C s ((spansA s).take C.L) st := by
    refine ⟨by rw [List.length_take, spansA_length]; omega, fun i hi => ?_, hst, hsl, hex⟩
    have h1 : ((spansA s).take C.L).getD i dv0 = (spansA s).getD i dv0 := by simp [List.getD, hi]
    rw [h1, spansA_getD (by omega), hsize i hi]; rfl
  have hlogd : (spansA s).getD C.L dv0 = xL C.L 3 := by rw [spansA_getD (by omega), hsizeL]; rfl
  have hopen : ∀ {o : Option MirS} {e : Int}, (C.lg = false → mirror_Open_2 ((spansA s).take C.L) st (C.rg : Int) s = some (o, e)) → (C.lg = true → mirror_Open ((spansA s).take C.L) st (xL C.L 3) (C.rg : Int) s = some (o, e)) → volumegrouplaw21_setting_open s (C.L : Int) (C.sz : Int) (C.rg : Int) C.lg st = some (o, e) := by
    intro o e h1 h2
    unfold volumegrouplaw21_setting_open
    rw [hsp]; simp only [Option.bind_some, spansA_length, hcnt, Int.toNat_natCast]
    rw [if_neg (by omega)]
    cases hlg : C.lg
    · rw [if_neg (by simp)]; simp only [Option.bind_some]
      rw [grd_t (decide_eq_true ⟨by omega, by omega⟩)]; simp only [Option.elim_none]
      rw [h1 hlg]; rfl
    · rw [if_pos ⟨rfl, by omega⟩, grd_t (decide_eq_true ⟨by omega, by omega⟩), hlogd]; simp only [Option.bind_some]
      rw [grd_t (decide_eq_true ⟨by omega, by omega⟩)]; simp only [Option.elim_some]
      rw [h2 hlg]; rfl
  have hown : ∀ {o : MirS}, volumegrouplaw21_setting_open s (C.L : Int) (C.sz : Int) (C.rg : Int) C.lg st = some (some o, 0) → volumegrouplaw21_setting_owner_1 st s (C.L : Int) (C.sz : Int) (C.rg : Int) C.lg = some (some o, 0) := by
    intro o h1
    unfold volumegrouplaw21_setting_owner_1
    rw [h1]; rfl
  obtain ⟨o1, o2, o3⟩ := open1_eq hop hok hdn
  refine ⟨fun h1 => ?_, fun h1 h2 h3 => ?_, fun h1 h2 h3 => ?_⟩
  · cases hlg : C.lg
    · obtain ⟨d, d1, d2, d3⟩ := open2_eq hop
      have := hown (hopen (fun _ => d3) (fun hx => by rw [hlg] at hx; cases hx))
      rw [hlg] at this
      exact ⟨d, d1, d2, this⟩
    · have hin : (C.L : Int) ∈ st := Classical.byContradiction fun hx => h1 ⟨hlg, hx⟩
      obtain ⟨d, d1, d2, d3⟩ := o1 hin
      have := hown (hopen (fun hx => by rw [hlg] at hx; cases hx) (fun _ => d3))
      rw [hlg] at this
      exact ⟨d, d1, d2, this⟩
  · have h4 := hopen (fun hx => by rw [h1] at hx; cases hx) (fun _ => o2 h2 h3)
    unfold volumegrouplaw21_setting_owner_1
    rw [h4]; rfl
  · obtain ⟨d, d1, d2, d3⟩ := o3 h2 h3 (hh h1 h2 h3)
    exact ⟨d, d1, d2, hown (hopen (fun hx => by rw [h1] at hx; cases hx) (fun _ => d3))⟩
end
end Go.Proofs
namespace Go.Proofs
open Go.VG
theorem at_ok (a : Int) {n : Nat} (hn : 0 < n) (hb : n ≤ 65536) : ∃ k : Nat, (a.tmod (n : Int) + (n : Int)).tmod (n : Int) = (k : Int) ∧ k < n ∧ -65536 < a.tmod (n : Int) ∧ a.tmod (n : Int) < 65536 := by
  have h1 : -(n : Int) < a.tmod n ∧ a.tmod n < n := by
    have h := Int.natAbs_tmod a n
    have h2 := Nat.mod_lt a.natAbs (show 0 < (n : Int).natAbs by omega)
    omega
  have h2 : 0 ≤ a.tmod n + n := by omega
  have h3 := Int.tmod_nonneg (a := a.tmod n + n) n h2
  have h4 := Int.tmod_lt_of_pos (a.tmod n + n) (show (0 : Int) < n by omega)
  exact ⟨((a.tmod n + n).tmod n).toNat, by omega, by omega, by omega, by omega⟩
end Go.Proofs
namespace Go.Proofs
open Go.VG
theorem add_l1 {l : List Int} {n : Int} (h0 : 0 ≤ n) (hl : ∀ k ∈ l, 0 ≤ k) (hlen : l.length ≤ 1000000) : ∀ (N i : Nat) (x : Int) (acc : List Int), l.length - i < N → i ≤ l.length → (x = n ∧ acc.length = i ∧ (∀ z, z ∈ acc ↔ z ∈ l.take i) ∨ x = -1 ∧ acc.length ≤ i + 1 ∧ (∀ z, z ∈ acc ↔ z ∈ l.take i ∨ z = n)) →
    ∃ x' acc', volumegroupmake_add_l1 l N x acc i = some (x', acc') ∧ (x' = n ∧ acc'.length = l.length ∧ (∀ z, z ∈ acc' ↔ z ∈ l) ∨ x' = -1 ∧ acc'.length ≤ l.length + 1 ∧ (∀ z, z ∈ acc' ↔ z ∈ l ∨ z = n))
  | 0, _, _, _, h, _, _ => absurd h (by omega)
  | N + 1, i, x, acc, h, hi, hx => by
    have hrec := add_l1 h0 hl hlen N (i + 1)
    have hu : volumegroupmake_add_l1 l (N + 1) x acc i = volumegroupmake_add_l1_b l (volumegroupmake_add_l1 l N) x acc i := rfl
    rw [hu]
    unfold volumegroupmake_add_l1_b
    by_cases hlt : i < l.length
    · have hk := hl (l.getD i 0) (by simp [List.getD, hlt])
      have hsn : ∀ z, z ∈ l.take (i + 1) ↔ z ∈ l.take i ∨ z = l.getD i 0 := fun z => by rw [getD_take_snoc (d := 0) hlt, List.mem_append, List.mem_singleton]
      rw [if_pos (by omega)]
      generalize l.getD i 0 = g at hk hsn ⊢
      rcases hx with ⟨rfl, h1, h2⟩ | ⟨rfl, h1, h2⟩
      · by_cases hc : (0 : Int) ≤ x ∧ x < g
        · rw [if_pos hc, grd_t (inLen_of (by omega))]; simp only [Option.bind_some]
          rw [if_neg (by omega), grd_t (inLen_of (by simp; omega))]
          refine hrec _ _ (by omega) (by omega) (.inr ⟨rfl, by simp; omega, fun z => ?_⟩)
          rw [List.mem_append, List.mem_append, List.mem_singleton, List.mem_singleton, h2, hsn]
          constructor
          · rintro ((a | a) | a)
            · exact .inl (.inl a)
            · exact .inr a
            · exact .inl (.inr a)
          · rintro ((a | a) | a)
            · exact .inl (.inl a)
            · exact .inr a
            · exact .inl (.inr a)
        · rw [if_neg hc]; simp only [Option.bind_some]
          by_cases he : g = x
          · rw [if_pos he, grd_t (inLen_of (by omega))]
            refine hrec _ _ (by omega) (by omega) (.inr ⟨rfl, by simp; omega, fun z => ?_⟩)
            rw [List.mem_append, List.mem_singleton, h2, hsn, he]
            exact ⟨fun a => .inl a, fun a => a.elim id .inr⟩
          · rw [if_neg he, grd_t (inLen_of (by omega))]
            refine hrec _ _ (by omega) (by omega) (.inl ⟨rfl, by simp; omega, fun z => ?_⟩)
            rw [List.mem_append, List.mem_singleton, h2, hsn]
      · rw [if_neg (by omega)]; simp only [Option.bind_some]
        rw [if_neg (by omega), grd_t (inLen_of (by omega))]
        refine hrec _ _ (by omega) (by omega) (.inr ⟨rfl, by simp; omega, fun z => ?_⟩)
        rw [List.mem_append, List.mem_singleton, h2, hsn]
        constructor
        · rintro ((a | a) | a)
          · exact .inl (.inl a)
          · exact .inr a
          · exact .inl (.inr a)
        · rintro ((a | a) | a)
          · exact .inl (.inl a)
          · exact .inr a
          · exact .inl (.inr a)
    · rw [if_neg (by omega)]
      have e : l.take i = l := List.take_of_length_le (by omega)
      have e2 : i = l.length := by omega
      rw [e] at hx
      subst e2
      exact ⟨_, _, rfl, hx⟩
theorem add_eq {l : List Int} {n : Int} (h0 : 0 ≤ n) (hl : ∀ k ∈ l, 0 ≤ k) (hlen : l.length ≤ 1000000) : ∃ l', volumegroupmake_add l n = some l' ∧ l'.length ≤ l.length + 1 ∧ ∀ z, z ∈ l' ↔ z ∈ l ∨ z = n := by
  unfold volumegroupmake_add
  have hF := fuel_big
  obtain ⟨x', acc', h1, h2⟩ := add_l1 h0 hl hlen FUEL 0 n [] (by omega) (by omega) (.inl ⟨rfl, rfl, fun z => by simp⟩)
  rw [h1]; simp only [Option.bind_some]
  rcases h2 with ⟨rfl, h2, h3⟩ | ⟨rfl, h2, h3⟩
  · rw [if_pos h0, grd_t (inLen_of (by omega))]
    exact ⟨_, rfl, by simp [h2], fun z => by rw [List.mem_append, List.mem_singleton, h3]⟩
  · rw [if_neg (by omega)]
    exact ⟨_, rfl, h2, h3⟩
section
variable {C : MC} {K a i k : Nat} {s t u y : ArrS} {lv : LV} {m m' x : MirS} {w v : UInt64}
def gB (C : MC) (m : MirS) (i : Nat) : Nat := if i < C.L ∧ stM m i ≠ 2 then 1 else 0
def gM (C : MC) (m : MirS) : Nat := gB C m 0 + gB C m 1 + gB C m 2 + if m.logState = 2 then 0 else 1
theorem Mk.g (h : Mk m m') (hl : m.legs.length = C.L) : gM C m' = gM C m := by
  have hb : ∀ i, gB C m' i = gB C m i := fun i => by
    unfold gB
    by_cases hi : i < C.L
    · have := h.st i (by rw [hl]; exact hi)
      by_cases h2 : stM m i = 2
      · rw [if_neg (fun x => x.2 (this.2 h2)), if_neg (fun x => x.2 h2)]
      · rw [if_pos ⟨hi, fun x => h2 (this.1 x)⟩, if_pos ⟨hi, h2⟩]
    · rw [if_neg (fun x => hi x.1), if_neg (fun x => hi x.1)]
  unfold gM
  rw [hb, hb, hb]
  congr 1
  by_cases h2 : m.logState = 2
  · rw [if_pos h2, if_pos (h.lst.2 h2)]
  · rw [if_neg h2, if_neg (fun x => h2 (h.lst.1 x))]
structure Sh (C : MC) (m m' : MirS) : Prop where
  leg : ∀ i, i < C.L → stM m i = 2 → stM m' i = 2
  log : m.logState = 2 → m'.logState = 2
theorem Sh.le (h : Sh C m m') (i : Nat) : gB C m' i ≤ gB C m i := by
  unfold gB
  by_cases h1 : i < C.L ∧ stM m i ≠ 2
  · rw [if_pos h1]; split <;> omega
  · rw [if_neg h1, if_neg]
    · omega
    · rintro ⟨h2, h3⟩
      exact h1 ⟨h2, fun x => h3 (h.leg i h2 x)⟩
theorem Sh.lt (h : Sh C m m') (hx : (∃ i, i < C.L ∧ stM m i ≠ 2 ∧ stM m' i = 2) ∨ m.logState ≠ 2 ∧ m'.logState = 2) : gM C m' < gM C m := by
  have h0 := h.le 0
  have h1 := h.le 1
  have h2 := h.le 2
  have hL := C.hL
  have hlog : (if m'.logState = 2 then 0 else 1) ≤ (if m.logState = 2 then 0 else 1) := by
    by_cases e : m.logState = 2
    · rw [if_pos e, if_pos (h.log e)]; omega
    · rw [if_neg e]; split <;> omega
  unfold gM
  rcases hx with ⟨i, i1, i2, i3⟩ | ⟨i1, i2⟩
  · have hs : gB C m' i < gB C m i := by
      have e1 : gB C m i = 1 := if_pos ⟨i1, i2⟩
      have e2 : gB C m' i = 0 := if_neg (fun x => x.2 i3)
      omega
    have : i = 0 ∨ i = 1 ∨ i = 2 := by omega
    rcases this with rfl | rfl | rfl <;> omega
  · rw [if_pos i2, if_neg i1]; omega
end
end Go.Proofs
namespace Go.Proofs
open Go.VG
structure OI (C : MC) (K : Nat) (lv : LV) (s : ArrS) (o : OwnS) : Prop where
  o1 : o.Open_1 = (C.L : Int)
  o2 : o.Open_2 = (C.sz : Int)
  o3 : o.Open_3 = (C.rg : Int)
  o4 : o.Open_4 = C.lg
  st : ∀ k ∈ o.Stale, ∃ i : Nat, i ≤ C.L ∧ k = i ∧ lv i = false
  sl : o.Stale.length ≤ K
  nl : ∀ i, i ≤ C.L → lv i = false → (i : Int) ∈ o.Stale ∨ miss s i = true ∨ i = C.L ∧ C.lg = false
  lo : ∀ i, i ≤ C.L → miss s i = true → (i : Int) ∈ o.Lost
  lr : ∀ k ∈ o.Lost, ∃ i : Nat, i ≤ C.L ∧ k = i ∧ lv i = false
  ll : o.Lost = lv.lost ∧ lv.lost.length ≤ 10
section
variable {C : MC} {K a i k : Nat} {s t u y : ArrS} {lv : LV} {m m' x : MirS} {w v : UInt64} {o : OwnS}
theorem OI.mono {K' : Nat} (h : OI C K lv s o) (hK : K ≤ K') : OI C K' lv s o := { h with sl := Nat.le_trans h.sl hK }
theorem OI.arr (h : OI C K lv s o) (hm : ∀ e, miss t e = miss s e) : OI C K lv t o := { h with nl := fun i hi hl => by rw [hm]; exact h.nl i hi hl, lo := fun i hi hx => h.lo i hi (by rw [← hm]; exact hx) }
theorem OI.set {o' : OwnS} (h : OI C K lv s o) (e1 : o'.Open_1 = o.Open_1) (e2 : o'.Open_2 = o.Open_2) (e3 : o'.Open_3 = o.Open_3) (e4 : o'.Open_4 = o.Open_4) (e5 : o'.Stale = o.Stale) (e6 : o'.Lost = o.Lost) : OI C K lv s o' :=
  ⟨e1.trans h.o1, e2.trans h.o2, e3.trans h.o3, e4.trans h.o4, by rw [e5]; exact h.st, by rw [e5]; exact h.sl, by rw [e5]; exact h.nl, by rw [e6]; exact h.lo, by rw [e6]; exact h.lr, by rw [e6]; exact h.ll⟩
theorem OI.stale {o' : OwnS} {l : List Int} (h : OI C K lv s o) (hk : k ≤ C.L) (hl : lv k = false) (h1 : l.length ≤ o.Stale.length + 1) (h2 : ∀ z, z ∈ l ↔ z ∈ o.Stale ∨ z = (k : Int)) (e1 : o'.Open_1 = o.Open_1) (e2 : o'.Open_2 = o.Open_2) (e3 : o'.Open_3 = o.Open_3) (e4 : o'.Open_4 = o.Open_4) (e5 : o'.Stale = l) (e6 : o'.Lost = o.Lost) : OI C (K + 1) lv s o' :=
  ⟨e1.trans h.o1, e2.trans h.o2, e3.trans h.o3, e4.trans h.o4, by
    rw [e5]; intro z hz
    rcases (h2 z).1 hz with x | x
    · exact h.st z x
    · exact ⟨k, hk, x, hl⟩, by rw [e5]; have := h.sl; omega, by
    rw [e5]; intro i hi hli
    rcases h.nl i hi hli with x | x
    · exact .inl ((h2 _).2 (.inl x))
    · exact .inr x, by rw [e6]; exact h.lo, by rw [e6]; exact h.lr, by rw [e6]; exact h.ll⟩
end
end Go.Proofs
namespace Go.Proofs
open Go.VG
theorem secSet {t : List Sec} {i j : Nat} {y : Sec} (h : i < t.length) : (t.set i y).getD j s0 = if j = i then y else t.getD j s0 := by
  simp only [List.getD, List.getElem?_set]
  by_cases e : i = j
  · subst e; simp [h]
  · rw [if_neg e, if_neg (fun x => e x.symm)]
theorem secMap {t : List Sec} {g : Sec → Sec} {j : Nat} (h : j < t.length) : (t.map g).getD j s0 = g (t.getD j s0) := by
  simp only [List.getD, List.getElem?_map]; rw [List.getElem?_eq_getElem h]; rfl
theorem wroteT_at {t : List Sec} {a b : Nat} {v : UInt64} {q : Bool} (h : a < t.length) : (wroteT t (a : Int) v q).getD b s0 = if b = a then ⟨(t.getD a s0).some ++ [v], q, v⟩ else t.getD b s0 := by
  rw [wroteT_ok h, secSet h]
theorem wroteT_len {t : List Sec} {a : Nat} {v : UInt64} {q : Bool} (h : a < t.length) : (wroteT t (a : Int) v q).length = t.length := by rw [wroteT_ok h]; simp
theorem smallT_of {t : List Sec} {n : Nat} (h : ∀ a, a < n → (t.getD a s0).some.length ≤ 100000) (hl : t.length = n) : smallT t = true := by
  unfold smallT
  rw [List.all_eq_true]
  intro y hy
  obtain ⟨i, hi, rfl⟩ := List.getElem_of_mem hy
  have := h i (by omega)
  simp only [List.getD, List.getElem?_eq_getElem hi, Option.getD_some] at this
  rw [Nat.ble_eq]; omega
structure UP (C : MC) (K : Nat) (lv : LV) (s : ArrS) (o : OwnS) (m : MirS) (ex : Nat → Prop) : Prop where
  x : o.X = some m
  oi : OI C K lv s o
  di : DI C K s o.T lv
  mi : MI C s lv m
  kn : ∀ a, a < C.sz → ¬ ex a → (o.T.getD a s0).known = true ∧ ∀ j, j < C.L → lv j = true → now s j a = (o.T.getD a s0).value
  sm : ∀ a, a < C.sz → (o.T.getD a s0).some.length ≤ K + 1
  dn : s.down = false
structure DN (C : MC) (K : Nat) (lv : LV) (s : ArrS) (o : OwnS) : Prop where
  oi : OI C K lv s o
  di : DI C K s o.T lv
  sm : ∀ a, a < C.sz → (o.T.getD a s0).some.length ≤ K + 1
section
variable {C : MC} {K K' a i k : Nat} {s t u y : ArrS} {lv : LV} {m m' x : MirS} {w v : UInt64} {o : OwnS} {ex : Nat → Prop} {T : List Sec}
theorem DI.mono (h : DI C K s T lv) (hK : K ≤ K') : DI C K' s T lv := { h with ok := h.ok.mono hK }
theorem UP.mono (h : UP C K lv s o m ex) (hK : K ≤ K') : UP C K' lv s o m ex := { h with oi := h.oi.mono hK, di := h.di.mono hK, sm := fun a ha => Nat.le_trans (h.sm a ha) (by omega) }
theorem DN.mono (h : DN C K lv s o) (hK : K ≤ K') : DN C K' lv s o := { h with oi := h.oi.mono hK, di := h.di.mono hK, sm := fun a ha => Nat.le_trans (h.sm a ha) (by omega) }
theorem UP.small (h : UP C K lv s o m ex) (hK : K ≤ 90000) : smallT o.T = true := smallT_of (fun a ha => Nat.le_trans (h.sm a ha) (by omega)) h.di.tl
theorem UP.tl (h : UP C K lv s o m ex) (ha : a < C.sz) : a < o.T.length := by rw [h.di.tl]; exact ha
theorem setX (hx : o.X = some m) : ({ o with X := some m } : OwnS) = o := by cases o; cases hx; rfl
theorem UP.fd (h : UP C K lv s o m ex) (hf : Fd s m m' 0) : UP C K lv s { o with X := some m' } m' ex :=
  ⟨rfl, h.oi.set rfl rfl rfl rfl rfl rfl, h.di, h.mi.fd hf, h.kn, h.sm, h.dn⟩
theorem wr_di {q : Bool} (h : DI C K s T lv) (hw : WrD C K' s lv a v t) (ha : a < C.sz) : DI C K' t (wroteT T (a : Int) v q) lv := by
  have hlt : a < T.length := by rw [h.tl]; exact ha
  refine ⟨hw.ok, by rw [wroteT_len hlt]; exact h.tl, h.ex, fun i hi hl => by rw [hw.miss]; exact h.miss i hi hl, h.lgl, fun b hb j hj hl c hc => ?_, fun hl c hc => hw.head c hc hl, fun hl r hr => ?_⟩
  · rw [wroteT_at hlt]
    rcases hw.cnd j hj hl b hb c hc with x | ⟨x1, x2⟩
    · have := h.cnd b hb j hj hl c x
      split
      · rename_i e; subst e; exact List.mem_append_left _ this
      · exact this
    · rw [if_pos x1, x2]; exact List.mem_append_right _ (List.mem_singleton.2 rfl)
  · rcases h.c hl r hr with x | ⟨f, x⟩
    · exact .inl (hw.set r hr hl x)
    · by_cases e : r = a / C.rg
      · rcases hw.reg hl with z | z
        · rw [e]; exact .inl z
        · exact .inr ⟨f, fun b hb hbr j hj hlj c hc => x b hb hbr j hj hlj c (by rw [z j hj hlj b hb] at hc; exact hc)⟩
      · refine .inr ⟨f, fun b hb hbr j hj hlj c hc => ?_⟩
        rcases hw.cnd j hj hlj b hb c hc with z | ⟨z, -⟩
        · exact x b hb hbr j hj hlj c z
        · exact absurd (by rw [← hbr, z]) e
theorem wr_sm {q : Bool} (h : ∀ b, b < C.sz → (T.getD b s0).some.length ≤ K + 1) (htl : T.length = C.sz) (ha : a < C.sz) : ∀ b, b < C.sz → ((wroteT T (a : Int) v q).getD b s0).some.length ≤ (K + 1) + 1 := fun b hb => by
  rw [wroteT_at (by rw [htl]; exact ha)]
  split
  · simp; exact h a ha
  · have := h b hb; omega
theorem owrite1 (hu : UP C K lv s o m ex) (hex : ∀ b, ex b → b = a) (hnf : NF m) (ha : a < C.sz) (hK : K ≤ 80000) :
    ∃ e m' s', mirror_Mirror_Write m (a : Int) v s = some (e, m', s') ∧
      (e = 0 ∧ NF m' ∧ UP C (K + 8) lv s' { o with X := some m', T := wroteT o.T (a : Int) v true } m' (fun _ => False) ∧ Mk m m' ∧ Wr C (K + 8) s lv a v s' ∨
       e = 18 ∧ ¬ NF m' ∧ UP C (K + 8) lv s' { o with X := some m', T := wroteT o.T (a : Int) v false } m' (fun b => b = a) ∧ Mk m m' ∧ Wr C (K + 8) s lv a v s' ∨
       e = 5 ∧ s.fuse ≠ 0 ∧ DN C (K + 8) lv s' { o with X := some m', T := wroteT o.T (a : Int) v false } ∧ WrD C (K + 8) s lv a v s') := by
  have hlt : a < o.T.length := hu.tl ha
  obtain ⟨e, m', s', h1, h2⟩ := write_eq (v := v) hu.mi hnf hu.di.ok hu.dn (by omega) ha
  refine ⟨e, m', s', h1, ?_⟩
  have hoi : ∀ {q : Bool}, WrD C (K + 8) s lv a v s' → OI C (K + 8) lv s' { o with X := some m', T := wroteT o.T (a : Int) v q } := fun {q} hw => by
    have h9 : OI C K lv s { o with X := some m', T := wroteT o.T (a : Int) v q } := hu.oi.set rfl rfl rfl rfl rfl rfl
    exact (h9.arr hw.miss).mono (by omega)
  have hsm : ∀ {q : Bool}, ∀ b, b < C.sz → ((wroteT o.T (a : Int) v q).getD b s0).some.length ≤ K + 8 + 1 := fun b hb => Nat.le_trans (wr_sm hu.sm hu.di.tl ha b hb) (by omega)
  have hoth : ∀ {q : Bool}, Wr C (K + 8) s lv a v s' → ∀ b, b < C.sz → b ≠ a → ((wroteT o.T (a : Int) v q).getD b s0).known = true ∧ ∀ j, j < C.L → lv j = true → now s' j b = ((wroteT o.T (a : Int) v q).getD b s0).value := fun hw b hb hba => by
    rw [wroteT_at hlt, if_neg hba]
    obtain ⟨k1, k2⟩ := hu.kn b hb (fun x => hba (hex b x))
    exact ⟨k1, fun j hj hl => by rw [hw.now j hj hl b hb hba]; exact k2 j hj hl⟩
  rcases h2 with ⟨rfl, g1, g2, g3, g4, g5⟩ | ⟨rfl, g1, g2, g3, g4⟩ | ⟨rfl, g1, g2⟩
  · refine .inl ⟨rfl, g1, ⟨rfl, hoi g4.toWrD, wr_di hu.di g4.toWrD ha, g2, fun b hb _ => ?_, hsm, g4.dn⟩, g3, g4⟩
    by_cases e : b = a
    · subst e
      show ((wroteT o.T (b : Int) v true).getD b s0).known = true ∧ ∀ j, j < C.L → lv j = true → now s' j b = ((wroteT o.T (b : Int) v true).getD b s0).value
      rw [wroteT_at hlt, if_pos rfl]
      exact ⟨rfl, g5⟩
    · exact hoth g4 b hb e
  · exact .inr (.inl ⟨rfl, g1, ⟨rfl, hoi g4.toWrD, wr_di hu.di g4.toWrD ha, g2, fun b hb hba => hoth g4 b hb hba, hsm, g4.dn⟩, g3, g4⟩)
  · exact .inr (.inr ⟨rfl, g1, ⟨hoi g2, wr_di hu.di g2 ha, hsm⟩, g2⟩)
end
end Go.Proofs
namespace Go.Proofs
open Go.VG
structure Ev (C : MC) (lv : LV) (s t : ArrS) (p : Nat → Prop) : Prop where
  miss : ∀ e, Go.Proofs.miss t e = Go.Proofs.miss s e
  dead : ∀ j, j < C.L → lv j = false → ∀ b, b < C.sz → now t j b = now s j b
  bit : lv C.L = true → ∀ c ∈ cand t C.L 1, ∀ r, r < C.R → tb c r = true → p r ∨ ∃ c' ∈ cand s C.L 1, tb c' r = true
section
variable {C : MC} {K K' a i k : Nat} {s t u y : ArrS} {lv : LV} {m m' x : MirS} {w v : UInt64} {o : OwnS} {ex p : Nat → Prop} {T : List Sec}
theorem Ev.refl : Ev C lv s s p := ⟨fun _ => rfl, fun _ _ _ _ _ => rfl, fun _ c hc _ _ hb => .inr ⟨c, hc, hb⟩⟩
theorem Ev.trans (h : Ev C lv s t p) (h' : Ev C lv t u p) : Ev C lv s u p :=
  ⟨fun e => (h'.miss e).trans (h.miss e), fun j hj hl b hb => (h'.dead j hj hl b hb).trans (h.dead j hj hl b hb), fun hl c hc r hr hb => by
    rcases h'.bit hl c hc r hr hb with x | ⟨c', x, x2⟩
    · exact .inl x
    · exact h.bit hl c' x r hr x2⟩
theorem WrD.ev (h : WrD C K s lv a v t) : Ev C lv s t (fun r => r = a / C.rg) := ⟨h.miss, h.dead, h.bit⟩
theorem FlD.ev (h : FlD C K s lv t) : Ev C lv s t p := ⟨h.miss, fun j hj _ b hb => h.now j b hj hb, fun hl c hc r hr hb => .inr (h.bit hl c hc r hr hb)⟩
end
end Go.Proofs
namespace Go.Proofs
open Go.VG
section
variable {C : MC} {K K' a i k : Nat} {s t u y : ArrS} {lv : LV} {m m' x : MirS} {w v : UInt64} {o : OwnS} {ex p : Nat → Prop} {T : List Sec}
theorem fl_di (h : DI C K s T lv) (hk : ∀ a, a < C.sz → ∀ j, j < C.L → lv j = true → now s j a = (T.getD a s0).value) (hf : FlD C K' s lv t) : DI C K' t T lv := by
  refine ⟨hf.ok, h.tl, h.ex, fun i hi hl => by rw [hf.miss]; exact h.miss i hi hl, h.lgl, fun b hb j hj hl c hc => h.cnd b hb j hj hl c (hf.sub j hj hl b hb c hc), hf.head, fun hl r hr => ?_⟩
  rcases hf.c hl with z | z
  · rcases h.c hl r hr with x | ⟨f, x⟩
    · exact .inl (z r hr x)
    · exact .inr ⟨f, fun b hb hbr j hj hlj c hc => x b hb hbr j hj hlj c (hf.sub j hj hlj b hb c hc)⟩
  · refine .inr ⟨fun b => (T.getD b s0).value, fun b hb _ j hj hlj c hc => ?_⟩
    rw [z j hj hlj b hb, List.mem_singleton] at hc
    rw [hc]; exact hk b hb j hj hlj
theorem flT_at (htl : T.length = C.sz) (ha : a < C.sz) : (flushedT T).getD a s0 = flushX (T.getD a s0) := by
  unfold flushedT; exact secMap (by omega)
theorem fl_di2 (h : DI C K t T lv) (hk : ∀ a, a < C.sz → (T.getD a s0).known = true ∧ ∀ j, j < C.L → lv j = true → now t j a = (T.getD a s0).value) (hc1 : ∀ j, j < C.L → lv j = true → ∀ b, b < C.sz → cand t j b = [now t j b]) : DI C K t (flushedT T) lv := by
  refine ⟨h.ok, by unfold flushedT; simp; exact h.tl, h.ex, h.miss, h.lgl, fun b hb j hj hl c hc => ?_, h.head, h.c⟩
  rw [flT_at h.tl hb]
  obtain ⟨k1, k2⟩ := hk b hb
  unfold flushX
  rw [if_pos k1]
  rw [hc1 j hj hl b hb, List.mem_singleton] at hc
  rw [hc, k2 j hj hl]; exact List.mem_singleton.2 rfl
theorem oflush1 (hu : UP C K lv s o m (fun _ => False)) (hnf : NF m) (hK : K ≤ 80000) :
    ∃ e m' s', mirror_Mirror_Flush m s = some (e, m', s') ∧ Ev C lv s s' p ∧
      (e = 0 ∧ NF m' ∧ UP C (K + 12) lv s' { o with X := some m' } m' (fun _ => False) ∧ Mk m m' ∧ (s.fuse = 0 → s'.fuse = 0) ∧ (∀ j, j < C.L → lv j = true → ∀ b, b < C.sz → cand s' j b = [now s' j b]) ∨
       e = 18 ∧ ¬ NF m' ∧ UP C (K + 12) lv s' { o with X := some m' } m' (fun _ => False) ∧ Mk m m' ∧ (s.fuse = 0 → s'.fuse = 0) ∨
       e = 5 ∧ s.fuse ≠ 0 ∧ DN C (K + 12) lv s' { o with X := some m' }) := by
  obtain ⟨e, m', s', h1, h2⟩ := flush_eq hu.mi hnf hu.di.ok hu.dn (by omega)
  have hk : ∀ a, a < C.sz → ∀ j, j < C.L → lv j = true → now s j a = (o.T.getD a s0).value := fun a ha => (hu.kn a ha (fun x => x)).2
  have hoi : FlD C (K + 12) s lv s' → OI C (K + 12) lv s' { o with X := some m' } := fun hf => by
    have h9 : OI C K lv s { o with X := some m' } := hu.oi.set rfl rfl rfl rfl rfl rfl
    exact (h9.arr hf.miss).mono (by omega)
  have hsm : ∀ a, a < C.sz → (o.T.getD a s0).some.length ≤ K + 12 + 1 := fun a ha => Nat.le_trans (hu.sm a ha) (by omega)
  have hkn : FlD C (K + 12) s lv s' → ∀ a, a < C.sz → ¬ False → (o.T.getD a s0).known = true ∧ ∀ j, j < C.L → lv j = true → now s' j a = (o.T.getD a s0).value := fun hf a ha _ => by
    obtain ⟨k1, k2⟩ := hu.kn a ha (fun x => x)
    exact ⟨k1, fun j hj hl => by rw [hf.now j a hj ha]; exact k2 j hj hl⟩
  rcases h2 with ⟨rfl, g1, g2, g3, g4, g5⟩ | ⟨rfl, g1, g2, g3, g4⟩ | ⟨rfl, g1, g2⟩
  · exact ⟨_, m', s', h1, g4.toFlD.ev, .inl ⟨rfl, g1, ⟨rfl, hoi g4.toFlD, fl_di hu.di hk g4.toFlD, g2, hkn g4.toFlD, hsm, g4.dn⟩, g3, g4.fz, fun j hj hl b hb => by rw [g5 j hj hl b hb, g4.now j b hj hb]⟩⟩
  · exact ⟨_, m', s', h1, g4.toFlD.ev, .inr (.inl ⟨rfl, g1, ⟨rfl, hoi g4.toFlD, fl_di hu.di hk g4.toFlD, g2, hkn g4.toFlD, hsm, g4.dn⟩, g3, g4.fz⟩)⟩
  · exact ⟨_, m', s', h1, g2.ev, .inr (.inr ⟨rfl, g1, ⟨hoi g2, fl_di hu.di hk g2, hsm⟩⟩)⟩
end
end Go.Proofs
namespace Go.Proofs
open Go.VG
structure SP (C : MC) (K : Nat) (lv : LV) (s : ArrS) (o : OwnS) (m : MirS) (i : Nat) : Prop where
  x : o.X = some m
  oi : OI C K lv s o
  di : DI C K s o.T lv
  mi : MI C s lv m
  sm : ∀ a, a < C.sz → (o.T.getD a s0).some.length ≤ K + 1
  dn : s.down = false
  fz : s.fuse = 0
  one : ∀ j, j < C.L → lv j = true → ∀ b, b < C.sz → cand s j b = [now s j b]
  kn : ∀ a, a < C.sz → a < i → (o.T.getD a s0).known = true ∧ ∀ j, j < C.L → lv j = true → now s j a = (o.T.getD a s0).value
  un : ∀ a, a < C.sz → i ≤ a → (o.T.getD a s0).known = false ∧ (m.dirty.getD (a / C.rg) false = false → ∀ j k, j < C.L → lv j = true → k < C.L → lv k = true → now s j a = now s k a)
section
variable {C : MC} {K K' a i k : Nat} {s t u y : ArrS} {lv : LV} {m m' x : MirS} {w v : UInt64} {o : OwnS} {ex p : Nat → Prop} {T : List Sec}
theorem SP.mono (h : SP C K lv s o m i) (hK : K ≤ K') : SP C K' lv s o m i := { h with oi := h.oi.mono hK, di := h.di.mono hK, sm := fun a ha => Nat.le_trans (h.sm a ha) (by omega) }
theorem SP.up (h : SP C K lv s o m C.sz) : UP C K lv s o m (fun _ => False) := ⟨h.x, h.oi, h.di, h.mi, fun a ha _ => h.kn a ha ha, h.sm, h.dn⟩
theorem SP.fd (h : SP C K lv s o m i) (hf : Fd s m m' 0) : SP C K lv s { o with X := some m' } m' i := by
  have e : m'.dirty = m.dirty := by rw [hf.oth]
  exact ⟨rfl, h.oi.set rfl rfl rfl rfl rfl rfl, h.di, h.mi.fd hf, h.sm, h.dn, h.fz, h.one, h.kn, by rw [e]; exact h.un⟩
theorem rd_di (h : DI C K s T lv) (hm : MI C s lv m) (ha : a < C.sz) (h1 : ∀ j, j < C.L → lv j = true → ∀ b, b < C.sz → cand s j b = [now s j b]) (hd : m.dirty.getD (a / C.rg) false = true) (hr : Rd C K' s lv a t) : DI C K' t T lv := by
  refine ⟨hr.ok, h.tl, h.ex, fun i hi hl => by rw [hr.miss]; exact h.miss i hi hl, h.lgl, fun b hb j hj hl c hc => ?_, fun hl c hc => h.head hl c (by rw [(hr.log 0 (by decide)).2] at hc; exact hc), fun hl r hrr => ?_⟩
  · rw [hr.one j hj hl b hb, List.mem_singleton] at hc
    subst hc
    by_cases e : b = a
    · subst e
      obtain ⟨f, f1, f2, f3⟩ := hr.at_ j hj hl
      rw [f3]
      exact h.cnd b hb f f1 f2 _ (by rw [h1 f f1 f2 b hb]; exact List.mem_singleton.2 rfl)
    · rw [hr.oth j hj hl b hb e]
      exact h.cnd b hb j hj hl _ (by rw [h1 j hj hl b hb]; exact List.mem_singleton.2 rfl)
  · have hs : SetB C s r → SetB C t r := fun hx c hc => hx c (by rw [(hr.log 1 (by decide)).2] at hc; exact hc)
    by_cases e : r = a / C.rg
    · exact .inl (hs (hm.d hl r hrr (by rw [e]; exact hd)))
    · rcases h.c hl r hrr with x | ⟨f, x⟩
      · exact .inl (hs x)
      · refine .inr ⟨f, fun b hb hbr j hj hlj c hc => x b hb hbr j hj hlj c ?_⟩
        have hba : b ≠ a := fun z => e (by rw [← hbr, z])
        rw [hr.one j hj hlj b hb, hr.oth j hj hlj b hb hba] at hc
        rw [h1 j hj hlj b hb]; exact hc
theorem SP.rd (h : SP C K lv s o m i) (hi : i < C.sz) (hd : m.dirty.getD (i / C.rg) false = true) (hf : Fd s m m' 0) (hr : Rd C K' s lv i t) (hK : K ≤ K') : SP C K' lv t { o with X := some m' } m' i := by
  have e : m'.dirty = m.dirty := by rw [hf.oth]
  have h9 : OI C K lv s { o with X := some m' } := h.oi.set rfl rfl rfl rfl rfl rfl
  refine ⟨rfl, (h9.arr hr.miss).mono hK, rd_di h.di h.mi hi h.one hd hr, (h.mi.fd hf).arr hr.miss hr.log, fun a ha => Nat.le_trans (h.sm a ha) (by omega), hr.dn, hr.fz, hr.one, fun a ha hai => ?_, fun a ha hai => ?_⟩
  · obtain ⟨k1, k2⟩ := h.kn a ha hai
    exact ⟨k1, fun j hj hl => by rw [hr.oth j hj hl a ha (by omega)]; exact k2 j hj hl⟩
  · obtain ⟨k1, k2⟩ := h.un a ha hai
    refine ⟨k1, fun hx j k hj hl hk hlk => ?_⟩
    rw [e] at hx
    by_cases ea : a = i
    · subst ea; rw [hd] at hx; cases hx
    · rw [hr.oth j hj hl a ha ea, hr.oth k hk hlk a ha ea]; exact k2 hx j k hj hl hk hlk
end
end Go.Proofs
namespace Go.Proofs
open Go.VG
section
variable {C : MC} {K K' a i k : Nat} {s t u y : ArrS} {lv : LV} {m m' x : MirS} {w v : UInt64} {o : OwnS} {ex p : Nat → Prop} {T : List Sec}
theorem OI.rg (h : OI C K lv s o) : ∀ k ∈ o.Stale, 0 ≤ k ∧ k ≤ (C.L : Int) := fun k hk => by
  obtain ⟨i, hi, rfl, -⟩ := h.st k hk; omega
theorem OI.notin (h : OI C K lv s o) {i : Nat} (hl : lv i = true) : (i : Int) ∉ o.Stale := fun hi => by
  obtain ⟨j, -, e, hj⟩ := h.st _ hi
  have : j = i := by omega
  subst this; rw [hl] at hj; cases hj
theorem legs_mi (hoi : OI C K lv s o) (hms : ∀ i, i ≤ C.L → lv i = true → miss s i = false) {d : List Bool} (hd : d.length = C.R) {lg : Option LogS} {ls : Int} (hlog : lv C.L = true ∧ ls = 0 ∧ (∃ g, lg = some g ∧ LI C s g) ∧ (∀ r, r < C.R → d.getD r false = true → SetB C s r) ∨ lv C.L = false ∧ lg = none ∧ ls = 2) :
    MI C s lv ⟨legsM C o.Stale C.L, lg, C.lg, ls, (C.sz : Int), (C.rg : Int), d, 0⟩ ∧ NF ⟨legsM C o.Stale C.L, lg, C.lg, ls, (C.sz : Int), (C.rg : Int), d, 0⟩ := by
  have hat : ∀ i, i < C.L → (legsM C o.Stale C.L).getD i mleg_x0 = legM C o.Stale i := fun i hi => legsM_at hi
  refine ⟨⟨legsM_len, fun i hi => ?_, rfl, rfl, rfl, hd, ?_, fun hl r hr hdr => ?_⟩, ⟨fun i hi hs => ?_, fun hs => ?_⟩⟩
  · unfold stM
    rw [hat i hi]
    refine ⟨rfl, rfl, ?_⟩
    unfold legM
    cases hl : lv i
    · refine .inr ⟨rfl, ?_⟩
      by_cases hin : (i : Int) ∈ o.Stale
      · rw [if_pos hin]; exact .inl rfl
      · rw [if_neg hin]
        rcases hoi.nl i (by omega) hl with z | z | ⟨z, -⟩
        · exact absurd z hin
        · exact .inr ⟨z, .inl rfl⟩
        · omega
    · rw [if_neg (hoi.notin hl)]
      exact .inl ⟨rfl, rfl, hms i (by omega) hl⟩
  · rcases hlog with ⟨h1, h2, ⟨g, h3, h4⟩, -⟩ | ⟨h1, h2, h3⟩
    · exact .inl ⟨h1, h2, hms _ (Nat.le_refl _) h1, g, h3, h4⟩
    · exact .inr ⟨h1, .inl ⟨h2, h3⟩⟩
  · rcases hlog with ⟨-, -, -, h4⟩ | ⟨h1, -⟩
    · exact h4 r hr hdr
    · rw [h1] at hl; cases hl
  · have hi' : i < C.L := by have h9 := @legsM_len C o.Stale C.L; exact h9 ▸ hi
    unfold stM at hs
    rw [hat i hi'] at hs
    unfold legM at hs
    split at hs <;> cases hs
  · rcases hlog with ⟨-, h2, -⟩ | ⟨-, -, h2⟩
    · rw [h2] at hs; cases hs.2
    · rw [h2] at hs; cases hs.2
structure Op (C : MC) (K : Nat) (lv : LV) (s : ArrS) (o o' : OwnS) (m : MirS) : Prop where
  oi : OI C K lv s o'
  T : o'.T = o.T
  mi : MI C s lv m
  nf : NF m
  copied : m.copied = 0
  dirty : ∀ r, r < C.R → (m.dirty.getD r false = true ↔ (lv C.L = true → tb (now s C.L 1) r = true))
theorem open_a (hoi : OI C K lv s o) (hms : ∀ i, i ≤ C.L → lv i = true → miss s i = false) (hok : ArrOk C.ns K s) (hdn : s.down = false) (hex : ∃ i, i < C.L ∧ lv i = true) (hlgl : lv C.L = true → C.lg = true) (hK : K ≤ 90000)
    (hh : lv C.L = true → ∀ c ∈ cand s C.L 0, c = headL C.R) (h1 : lv C.L = true → cand s C.L 1 = [now s C.L 1]) :
    (∃ m, volumegrouplaw21_setting_owner_1 o.Stale s (C.L : Int) (C.sz : Int) (C.rg : Int) C.lg = some (some m, 0) ∧ Op C K lv s o o m) ∨
    (volumegrouplaw21_setting_owner_1 o.Stale s (C.L : Int) (C.sz : Int) (C.rg : Int) C.lg = some (none, 18) ∧ C.lg = true ∧ (C.L : Int) ∉ o.Stale ∧ miss s C.L = true ∧ lv C.L = false) := by
  obtain ⟨j0, hj0, hl0⟩ := hex
  have hhead : lv C.L = true → now s C.L 0 = headL C.R := fun hl => hh hl _ (hok.now_cand logL (by rw [MC.log]; decide))
  cases hl : lv C.L
  · by_cases hc : C.lg = true ∧ (C.L : Int) ∉ o.Stale
    · have hm : miss s C.L = true := by
        rcases hoi.nl C.L (Nat.le_refl _) hl with z | z | ⟨-, z⟩
        · exact absurd z hc.2
        · exact z
        · rw [hc.1] at z; cases z
      obtain ⟨-, o2, -⟩ := opener_eq hok hdn hoi.rg (by have := hoi.sl; omega) ⟨j0, hj0, hoi.notin hl0⟩ (fun _ _ hx => by rw [hm] at hx; cases hx)
      exact .inr ⟨o2 hc.1 hc.2 hm, hc.1, hc.2, hm, rfl⟩
    · obtain ⟨o1, -, -⟩ := opener_eq hok hdn hoi.rg (by have := hoi.sl; omega) ⟨j0, hj0, hoi.notin hl0⟩ (fun z1 z2 _ => absurd ⟨z1, z2⟩ hc)
      obtain ⟨d, d1, d2, d3⟩ := o1 hc
      obtain ⟨g1, g2⟩ := legs_mi hoi hms d1 (lg := none) (ls := 2) (.inr ⟨hl, rfl, rfl⟩)
      exact .inl ⟨_, d3, hoi, rfl, g1, g2, rfl, fun r hr => ⟨fun _ hx => (by rw [hl] at hx; cases hx), fun _ => d2 r hr⟩⟩
  · have hlg := hlgl hl
    obtain ⟨-, -, o3⟩ := opener_eq hok hdn hoi.rg (by have := hoi.sl; omega) ⟨j0, hj0, hoi.notin hl0⟩ (fun _ _ _ => hhead hl)
    obtain ⟨d, d1, d2, d3⟩ := o3 hlg (hoi.notin hl) (hms _ (Nat.le_refl _) hl)
    have hset : ∀ r, r < C.R → d.getD r false = true → SetB C s r := fun r hr hd c hc => by
      rw [h1 hl, List.mem_singleton] at hc
      rw [hc]; exact (d2 r hr).1 hd
    have hbl : (openL (xL C.L 3) C.R (now s C.L)).bits.getD 0 0 = now s C.L 1 := by
      have : (openL (xL C.L 3) C.R (now s C.L)).bits = (List.range (nW C.R)).map fun i => now s C.L (1 + i) := rfl
      rw [this, getD_map_range (by rw [MC.nW1]; decide)]
    have hli : LI C s (openL (xL C.L 3) C.R (now s C.L)) := ⟨⟨rfl, rfl, by simp [openL], List.nodup_nil⟩, hh hl, hbl.symm, fun r hr hd => by simp [openL, lookM] at hd⟩
    obtain ⟨g1, g2⟩ := legs_mi hoi hms d1 (lg := some (openL (xL C.L 3) C.R (now s C.L))) (ls := 0) (.inl ⟨hl, rfl, ⟨_, rfl, hli⟩, hset⟩)
    rw [hlg] at g1 g2
    rw [hlg] at d3 ⊢
    exact .inl ⟨_, d3, hoi, rfl, g1, g2, rfl, fun r hr => ⟨fun hx _ => (d2 r hr).1 hx, fun hx => (d2 r hr).2 (hx hl)⟩⟩
theorem obegin_l1 (hms : ∀ i, i ≤ C.L → lv i = true → miss s i = false) (hok : ArrOk C.ns K s) (hdn : s.down = false) (hex : ∃ i, i < C.L ∧ lv i = true) (hlgl : lv C.L = true → C.lg = true) (hK : K ≤ 80000)
    (hh : lv C.L = true → ∀ c ∈ cand s C.L 0, c = headL C.R) (h1 : lv C.L = true → cand s C.L 1 = [now s C.L 1]) : ∀ (N i : Nat) (o : OwnS) (X : Option MirS) (e : Int), o.Lost.length - i < N → i ≤ o.Lost.length → OI C (K + i) lv s o → (e = 0 ∧ (∃ m, X = some m ∧ Op C (K + i) lv s o o m) ∨ e = 18 ∧ C.lg = true ∧ (C.L : Int) ∉ o.Stale ∧ miss s C.L = true ∧ lv C.L = false ∧ ∃ j, i ≤ j ∧ j < o.Lost.length ∧ o.Lost.getD j 0 = (C.L : Int)) →
    ∃ o' m, volumegroupmake_Owner_Begin_l1 s N o X e i = some (some m, 0, o') ∧ Op C (K + o.Lost.length) lv s o o' m
  | 0, _, _, _, _, h, _, _, _ => absurd h (by omega)
  | N + 1, i, o, X, e, h, hi, hoi, he => by
    have hun : volumegroupmake_Owner_Begin_l1 s (N + 1) o X e i = volumegroupmake_Owner_Begin_l1_b s (volumegroupmake_Owner_Begin_l1 s N) o X e i := rfl
    rw [hun]
    unfold volumegroupmake_Owner_Begin_l1_b
    have hll : o.Lost.length ≤ 10 := by rw [hoi.ll.1]; exact hoi.ll.2
    rcases he with ⟨rfl, m, rfl, h2⟩ | ⟨rfl, h2, h3, h4, h5, j, j1, j2, j3⟩
    · rw [if_neg (fun x => absurd x.2 (by decide))]
      exact ⟨o, m, rfl, ⟨h2.oi.mono (by omega), rfl, h2.mi, h2.nf, h2.copied, h2.dirty⟩⟩
    · rw [if_pos ⟨by omega, rfl⟩]
      have hlt : i < o.Lost.length := by omega
      obtain ⟨k, k1, k2, k3⟩ := hoi.lr (o.Lost.getD i 0) (by simp [List.getD, hlt])
      rw [k2]
      obtain ⟨l', l1, l2, l3⟩ := add_eq (l := o.Stale) (n := (k : Int)) (by omega) (fun z hz => (hoi.rg z hz).1) (by have := hoi.sl; omega)
      rw [l1]; simp only [Option.bind_some]
      have hoi2 : OI C (K + (i + 1)) lv s { o with Stale := l' } := hoi.stale k1 k3 l2 l3 rfl rfl rfl rfl rfl rfl
      have hop := open_a (o := { o with Stale := l' }) hoi2 hms (hok.mono (by omega)) hdn hex hlgl (by omega) hh h1
      have hargs : volumegrouplaw21_setting_owner_1 l' s o.Open_1 o.Open_2 o.Open_3 o.Open_4 = volumegrouplaw21_setting_owner_1 l' s (C.L : Int) (C.sz : Int) (C.rg : Int) C.lg := by rw [hoi.o1, hoi.o2, hoi.o3, hoi.o4]
      rw [hargs]
      have fin : ∀ {X : Option MirS} {e : Int}, volumegrouplaw21_setting_owner_1 l' s (C.L : Int) (C.sz : Int) (C.rg : Int) C.lg = some (X, e) → (e = 0 ∧ (∃ m, X = some m ∧ Op C (K + (i + 1)) lv s { o with Stale := l' } { o with Stale := l' } m) ∨ e = 18 ∧ C.lg = true ∧ (C.L : Int) ∉ l' ∧ miss s C.L = true ∧ lv C.L = false ∧ ∃ j, i + 1 ≤ j ∧ j < o.Lost.length ∧ o.Lost.getD j 0 = (C.L : Int)) →
          ∃ o' m, (Option.bind (volumegrouplaw21_setting_owner_1 l' s (C.L : Int) (C.sz : Int) (C.rg : Int) C.lg) fun r42 => volumegroupmake_Owner_Begin_l1 s N ({ o with Stale := l' }) r42.1 r42.2 (i + 1)) = some (some m, 0, o') ∧ Op C (K + o.Lost.length) lv s o o' m := by
        intro X e e1 e2
        rw [e1]; simp only [Option.bind_some]
        obtain ⟨o', m, q1, q2⟩ := obegin_l1 hms hok hdn hex hlgl hK hh h1 N (i + 1) { o with Stale := l' } X e (by show o.Lost.length - (i + 1) < N; omega) (by show i + 1 ≤ o.Lost.length; omega) hoi2 e2
        exact ⟨o', m, q1, ⟨q2.oi, q2.T, q2.mi, q2.nf, q2.copied, q2.dirty⟩⟩
      rcases hop with ⟨m, q1, q2⟩ | ⟨q1, q2, q3, q4, q5⟩
      · exact fin q1 (.inl ⟨rfl, m, rfl, q2⟩)
      · refine fin q1 (.inr ⟨rfl, q2, q3, q4, q5, j, ?_, j2, j3⟩)
        rcases Nat.lt_or_ge i j with z | z
        · exact z
        · have : j = i := by omega
          subst this
          rw [k2] at j3
          exact absurd ((l3 _).2 (.inr (by omega))) q3
theorem obegin (hoi : OI C K lv s o) (hms : ∀ i, i ≤ C.L → lv i = true → miss s i = false) (hok : ArrOk C.ns K s) (hdn : s.down = false) (hex : ∃ i, i < C.L ∧ lv i = true) (hlgl : lv C.L = true → C.lg = true) (hK : K ≤ 80000)
    (hh : lv C.L = true → ∀ c ∈ cand s C.L 0, c = headL C.R) (h1 : lv C.L = true → cand s C.L 1 = [now s C.L 1]) (htl : o.T.length = C.sz) :
    ∃ o' m, volumegroupmake_Owner_Begin o s = some (true, o') ∧ o'.X = some m ∧ Op C (K + 10) lv s o o' m := by
  have hF := fuel_big
  have hll : o.Lost.length ≤ 10 := by rw [hoi.ll.1]; exact hoi.ll.2
  unfold volumegroupmake_Owner_Begin
  have hop := open_a hoi hms hok hdn hex hlgl (by omega) hh h1
  have hargs : volumegrouplaw21_setting_owner_1 o.Stale s o.Open_1 o.Open_2 o.Open_3 o.Open_4 = volumegrouplaw21_setting_owner_1 o.Stale s (C.L : Int) (C.sz : Int) (C.rg : Int) C.lg := by rw [hoi.o1, hoi.o2, hoi.o3, hoi.o4]
  rw [hargs]
  have fin : ∀ {X : Option MirS} {e : Int}, volumegrouplaw21_setting_owner_1 o.Stale s (C.L : Int) (C.sz : Int) (C.rg : Int) C.lg = some (X, e) → (e = 0 ∧ (∃ m, X = some m ∧ Op C (K + 0) lv s o o m) ∨ e = 18 ∧ C.lg = true ∧ (C.L : Int) ∉ o.Stale ∧ miss s C.L = true ∧ lv C.L = false ∧ ∃ j, 0 ≤ j ∧ j < o.Lost.length ∧ o.Lost.getD j 0 = (C.L : Int)) →
      ∃ o' m, (Option.bind (volumegrouplaw21_setting_owner_1 o.Stale s (C.L : Int) (C.sz : Int) (C.rg : Int) C.lg) fun r5 =>
        Option.bind (volumegroupmake_Owner_Begin_l1 s FUEL o r5.1 r5.2 0) fun a16 =>
        if (a16.2.1 = (0 : Int)) then
          Option.elim a16.1 (
            if false = true then
              none
            else
              some (false, { a16.2.2 with X := none })) fun o54 =>
          if true = true then
            Option.bind (mirror_Mirror_Size o54 s) fun r55 =>
            some (((decide (r55 = ((a16.2.2.T.length : Nat) : Int))), { a16.2.2 with X := (some o54) }))
          else
            some ((false, { a16.2.2 with X := (some o54) }))
        else
          if false = true then
            Option.elim a16.1 (
              none) fun o58 =>
            Option.bind (mirror_Mirror_Size o58 s) fun r59 =>
            some (((decide (r59 = ((a16.2.2.T.length : Nat) : Int))), { a16.2.2 with X := (some o58) }))
          else
            some (false, { a16.2.2 with X := a16.1 })) = some (true, o') ∧ o'.X = some m ∧ Op C (K + 10) lv s o o' m := by
    intro X e e1 e2
    rw [e1]; simp only [Option.bind_some]
    obtain ⟨o', m, q1, q2⟩ := obegin_l1 hms hok hdn hex hlgl hK hh h1 FUEL 0 o X e (by omega) (by omega) (hoi.mono (by omega)) e2
    rw [q1]; simp only [Option.bind_some, Option.elim_some]
    rw [if_pos trivial, if_pos trivial]
    unfold mirror_Mirror_Size
    simp only [Option.bind_some]
    have hdec : decide (m.size = ((o'.T.length : Nat) : Int)) = true := by rw [q2.mi.size, q2.T, htl]; exact decide_eq_true rfl
    rw [hdec]
    have h9 : OI C (K + o.Lost.length) lv s { o' with X := some m } := q2.oi.set rfl rfl rfl rfl rfl rfl
    exact ⟨_, m, rfl, rfl, ⟨h9.mono (by omega), q2.T, q2.mi, q2.nf, q2.copied, q2.dirty⟩⟩
  rcases hop with ⟨m, q1, q2⟩ | ⟨q1, q2, q3, q4, q5⟩
  · exact fin q1 (.inl ⟨rfl, m, rfl, q2⟩)
  · obtain ⟨j, hj, e⟩ := List.mem_iff_getElem.1 (hoi.lo C.L (Nat.le_refl _) q4)
    exact fin q1 (.inr ⟨rfl, q2, q3, q4, q5, j, by omega, hj, by simp [List.getD, hj, e]⟩)
end
end Go.Proofs
namespace Go.Proofs
open Go.VG
section
variable {C : MC} {K K' a i k : Nat} {s t u y : ArrS} {lv : LV} {m m' x : MirS} {w v : UInt64} {o : OwnS} {ex p : Nat → Prop} {T : List Sec}
theorem UP.fuse (h : UP C K lv s o m ex) {n : Nat} : UP C K lv { s with fuse := n } o m ex :=
  ⟨h.x, h.oi.arr (fun _ => rfl), ⟨h.di.ok.fuse, h.di.tl, h.di.ex, h.di.miss, h.di.lgl, h.di.cnd, h.di.head, h.di.c⟩, h.mi.arr (fun _ => rfl) (fun _ _ => ⟨rfl, rfl⟩), h.kn, h.sm, h.dn⟩
end
end Go.Proofs
namespace Go.Proofs
open Go.VG
def wordsL (n : Nat) (seed : UInt64) : List UInt64 := (List.range n).map fun j => seed + to_u64 ((j : Nat) : Int) * (11400714819323198485 : UInt64)
@[simp] theorem wordsL_length {n : Nat} {seed : UInt64} : (wordsL n seed).length = n := by simp [wordsL]
theorem words_l1 {n : Nat} {seed : UInt64} (hn : n ≤ 1000000) : ∀ (N i : Nat) (acc : List UInt64), n - i < N → i ≤ n → acc = wordsL i seed →
    volumegroupmake_Words_l1 (n : Int) seed N acc i = some (wordsL n seed)
  | 0, _, _, h, _, _ => absurd h (by omega)
  | N + 1, i, acc, h, hi, ha => by
    show volumegroupmake_Words_l1_b _ _ _ _ _ = _
    unfold volumegroupmake_Words_l1_b
    subst ha
    by_cases hlt : i < n
    · rw [if_pos (by omega), grd_t (inLen_of (by simp; omega)), grd_t (inN64_of (by omega))]
      refine words_l1 hn N (i + 1) _ (by omega) (by omega) ?_
      simp [wordsL, List.range_succ]
    · rw [if_neg (by omega)]
      have : i = n := by omega
      rw [this]
theorem words_eq {n : Nat} {seed : UInt64} (hn : n ≤ 1000000) : volumegroupmake_Words (n : Int) seed = some (wordsL n seed) := by
  unfold volumegroupmake_Words
  have hF := fuel_big
  generalize FUEL = N at hF ⊢
  rw [words_l1 hn N 0 [] (by omega) (by omega) (by simp [wordsL])]; rfl
end Go.Proofs
namespace Go.Proofs
open Go.VG
theorem awake21 : volumegrouplaw21_awake = some true := by kernel_rfl
theorem u8mod {n k : UInt8} (hk : 0 < k.toNat) : (n % k).toNat < k.toNat := by rw [UInt8.toNat_mod]; exact Nat.mod_lt _ hk
def CM (n : UInt8) : MC where
  L := 2 + (n % 2).toNat
  sz := 1 + ((n / 2) % 12).toNat
  rg := 1 + ((n / 24) % 4).toNat
  lg := decide (((128 : UInt8).toNat : Int) ≤ (n.toNat : Int))
  hL := by have := @u8mod n 2 (by decide); have e : (2 : UInt8).toNat = 2 := rfl; omega
  hs := by have := @u8mod (n / 2) 12 (by decide); have e : (12 : UInt8).toNat = 12 := rfl; omega
  hr := by have := @u8mod (n / 24) 4 (by decide); have e : (4 : UInt8).toNat = 4 := rfl; omega
structure St0 (C : MC) (ws : List UInt64) (s : ArrS) : Prop where
  ok : ArrOk C.ns 10 s
  dn : s.down = false
  fuse : s.fuse = 0
  miss : ∀ e, miss s e = false
  wl : ws.length = C.sz
  now : ∀ i a, i < C.L → a < C.sz → now s i a = ws.getD a 0
  cand : ∀ i a, i ≤ C.L → a < C.ns.getD i 0 → cand s i a = [Go.Proofs.now s i a]
  head : Go.Proofs.now s C.L 0 = headL C.R
  bits : Go.Proofs.now s C.L 1 = 0
def imsM (C : MC) (ws : List UInt64) : List (List UInt64) := List.replicate C.L ws ++ [List.replicate 3 0]
section
variable {C : MC} {ws : List UInt64}
theorem lens_imsM (hw : ws.length = C.sz) : lensN (imsM C ws) = C.ns := by
  unfold lensN imsM MC.ns
  rw [List.map_append, List.map_replicate, hw]; rfl
theorem imsM_leg {i : Nat} (h : i < C.L) : (imsM C ws).getD i [] = ws := by
  unfold imsM
  simp only [List.getD, List.getElem?_append, List.length_replicate, h, if_true, List.getElem?_replicate]; rfl
theorem now_mkS {ims : List (List UInt64)} {i a : Nat} : now (mkS ims) i a = (ims.getD i []).getD a 0 ∧ cand (mkS ims) i a = [(ims.getD i []).getD a 0] := by
  constructor
  · simp only [now, nowL, mkS, List.getD, List.getElem?_map]; cases ims[i]? <;> rfl
  · show dur (mkS ims) i a :: pendR [] i a = _
    rw [pendR_nil]
    congr 1
    simp only [dur, durL, mkS, List.getD, List.getElem?_map]; cases ims[i]? <;> rfl
theorem begun_l1 {n : UInt8} (hC : C.L = 2 + (n % 2).toNat) : ∀ (N i : Nat), C.L - i < N → i ≤ C.L → volumegrouplaw21_begun_l1 n ws N (List.replicate i ws) i = some (List.replicate C.L ws)
  | 0, _, h, _ => absurd h (by omega)
  | N + 1, i, h, hi => by
    have hu : volumegrouplaw21_begun_l1 n ws (N + 1) (List.replicate i ws) i = volumegrouplaw21_begun_l1_b n ws (volumegrouplaw21_begun_l1 n ws N) (List.replicate i ws) i := rfl
    have hL := C.hL
    rw [hu]
    unfold volumegrouplaw21_begun_l1_b
    rw [← hC]
    by_cases hlt : i < C.L
    · rw [if_pos (by omega), grd_t (inLen_of (by simp; omega)), grd_t (inN64_of (by omega))]
      have e : List.replicate i ws ++ [ws] = List.replicate (i + 1) ws := by rw [List.replicate_succ']
      rw [e]
      exact begun_l1 hC N (i + 1) (by omega) (by omega)
    · rw [if_neg (by omega)]
      have : i = C.L := by omega
      rw [this]
theorem start0 (hw : ws.length = C.sz) : ∃ t, regionlog_Format (xL C.L 3) (C.R : Int) (mkS (imsM C ws)) = some (0, t) ∧ St0 C ws t := by
  have hR := C.hR
  have hsz : InSz C.ns (mkS (imsM C ws)) := by rw [← lens_imsM hw]; exact inSz_mkS
  have hok : ArrOk C.ns 0 (mkS (imsM C ws)) := ⟨hsz, Nat.le_refl _, coh_mkS, rfl⟩
  have hgood : Good (mkS (imsM C ws)) := good_mkS
  obtain ⟨t, h1, h2⟩ := format_eq (d := C.L) (m := 3) logL MC.log (by decide) hok rfl (hgood.miss C.L) rfl (R := C.R) ⟨hR.1, by omega⟩ (by rw [MC.nW1]; omega) (by decide)
  refine ⟨t, h1, ⟨h2.ok.mono (by rw [MC.nW1]; omega), h2.dn, h2.fuse, fun e => by rw [h2.miss]; exact hgood.miss e, hw, fun i a hi ha => ?_, fun i a hi ha => ?_, ?_, ?_⟩⟩
  · rw [(h2.other i a (by omega) (by rw [MC.len]; omega) (by rw [MC.leg hi]; exact ha)).1, now_mkS.1, imsM_leg hi]
  · by_cases e : i = C.L
    · subst e
      exact h2.cand a (by rw [← MC.log (C := C)]; exact ha)
    · have hi' : i < C.L := by omega
      rw [MC.leg hi'] at ha
      obtain ⟨g1, g2⟩ := h2.other i a e (by rw [MC.len]; omega) (by rw [MC.leg hi']; exact ha)
      rw [g2, g1, now_mkS.1, now_mkS.2]
  · rw [h2.now 0 (by decide), if_pos rfl]
  · rw [h2.now 1 (by decide), if_neg (by decide), if_pos (by rw [MC.nW1]; decide)]
theorem begun_eq (n : UInt8) : ∃ a, volumegrouplaw21_begun n = some (some a, (CM n).L, (CM n).sz, (CM n).rg, (CM n).lg, wordsL (CM n).sz 5) ∧ St0 (CM n) (wordsL (CM n).sz 5) a := by
  have hL := (CM n).hL
  have hs := (CM n).hs
  have hr := (CM n).hr
  have hR := (CM n).hR
  have e1 : 2 + (n % 2).toNat = (CM n).L := rfl
  have e2 : 1 + ((n / 2) % 12).toNat = (CM n).sz := rfl
  have e3 : 1 + ((n / 24) % 4).toNat = (CM n).rg := rfl
  have e4 : decide (((128 : UInt8).toNat : Int) ≤ (n.toNat : Int)) = (CM n).lg := rfl
  unfold volumegrouplaw21_begun
  rw [e1, e2, e3, e4, grd_t (inN64_of (by omega)), grd_t (inN64_of (by omega)), grd_t (inN64_of (by omega)), words_eq (by omega)]; simp only [Option.bind_some]
  have hbl : volumegrouplaw21_begun_l1 n (wordsL (CM n).sz 5) FUEL [] 0 = some (List.replicate (CM n).L (wordsL (CM n).sz 5)) := by
    have hF := fuel_big
    exact begun_l1 (C := CM n) rfl FUEL 0 (by omega) (by omega)
  rw [hbl]; simp only [Option.bind_some]
  generalize hC : CM n = C at hL hs hr hR ⊢
  have him : List.replicate C.L (wordsL C.sz 5) ++ [List.replicate 3 0] = imsM C (wordsL C.sz 5) := rfl
  have hlen : (imsM C (wordsL C.sz 5)).length = C.L + 1 := by simp [imsM]
  rw [grd_t (inLen_of (by simp; omega)), him, loaded_eq (by omega) (fun im hm => by
    unfold imsM at hm
    rcases List.mem_append.1 hm with hm | hm
    · rw [(List.mem_replicate.1 hm).2, wordsL_length]; omega
    · rw [List.mem_singleton.1 hm]; simp)]; simp only [Option.bind_some, Option.elim_some]
  have hsz : InSz C.ns (mkS (imsM C (wordsL C.sz 5))) := by rw [← lens_imsM (C := C) (ws := wordsL C.sz 5) wordsL_length]; exact inSz_mkS
  have hcnt : (mkS (imsM C (wordsL C.sz 5))).drv.length = C.L + 1 := by rw [hsz.cnt]; exact MC.len
  have hsL : (mkS (imsM C (wordsL C.sz 5))).size C.L = 3 := by rw [hsz.size C.L logL, MC.log]
  rw [spans_eq (by omega) (fun i hi => by
    rcases Nat.lt_or_ge i C.L with x | x
    · rw [hsz.size i (by rw [MC.len]; omega), MC.leg x]; omega
    · have : i = C.L := by omega
      subst this; rw [hsL]; omega)]; simp only [Option.bind_some, spansA_length, hcnt]
  rw [grd_t (inN64_of (by omega)), if_neg (by simp), refRegions_eq]; simp only [Option.bind_some]
  have hx : (spansA (mkS (imsM C (wordsL C.sz 5)))).getD C.L dv0 = xL C.L 3 := by rw [spansA_getD (by omega), hsL]; rfl
  obtain ⟨t, t1, t2⟩ := start0 (C := C) (ws := wordsL C.sz 5) wordsL_length
  rw [hx, t1]; simp only [Option.bind_some]
  rw [if_neg (by simp)]
  exact ⟨t, rfl, t2⟩
def lvA (C : MC) : LV := ⟨fun i => decide (i < C.L) || (decide (i = C.L) && C.lg), []⟩
theorem lvA_leg {i : Nat} (h : i < C.L) : (lvA C) i = true := by show (decide (i < C.L) || _) = true; rw [decide_eq_true h]; rfl
theorem lvA_log : (lvA C) C.L = C.lg := by show (decide (C.L < C.L) || (decide (C.L = C.L) && C.lg)) = C.lg; rw [decide_eq_false (Nat.lt_irrefl _), decide_eq_true rfl]; cases C.lg <;> rfl
def own0 (C : MC) (ws : List UInt64) : OwnS := ⟨(C.L : Int), (C.sz : Int), (C.rg : Int), C.lg, none, trkT ws, [], []⟩
theorem trkT_at {a : Nat} (h : a < ws.length) : (trkT ws).getD a s0 = mkSec (ws.getD a 0) := by
  unfold trkT
  simp only [List.getD, List.getElem?_map, List.getElem?_eq_getElem h]; rfl
theorem St0.di {s : ArrS} {lv : LV} (h : St0 C ws s) (hex : ∃ i, i < C.L ∧ lv i = true) (hlg : lv C.L = true → C.lg = true) : DI C 10 s (trkT ws) lv := by
  refine ⟨h.ok, by unfold trkT; simp [h.wl], hex, fun i _ _ => h.miss i, hlg, fun a ha i hi _ c hc => ?_, fun _ c hc => ?_, fun _ r _ => .inr ⟨fun b => ws.getD b 0, fun b hb _ i hi _ c hc => ?_⟩⟩
  · rw [h.cand i a (by omega) (by rw [MC.leg hi]; exact ha), List.mem_singleton, h.now i a hi ha] at hc
    rw [trkT_at (by rw [h.wl]; exact ha), hc]; exact List.mem_singleton.2 rfl
  · rw [h.cand C.L 0 (Nat.le_refl _) (by rw [MC.log]; decide), List.mem_singleton, h.head] at hc
    exact hc
  · rw [h.cand i b (by omega) (by rw [MC.leg hi]; exact hb), List.mem_singleton, h.now i b hi hb] at hc
    exact hc
theorem St0.begin {s : ArrS} {lv : LV} {o : OwnS} (h : St0 C ws s) (hoi : OI C 10 lv s o) (hT : o.T = trkT ws) (hex : ∃ i, i < C.L ∧ lv i = true) (hlg : lv C.L = true → C.lg = true) :
    ∃ o' m, volumegroupmake_Owner_Begin o s = some (true, o') ∧ UP C 1000 lv s o' m (fun _ => False) ∧ NF m ∧ m.copied = 0 ∧ o'.T = trkT ws ∧ ∀ r, r < C.R → (m.dirty.getD r false = true ↔ (lv C.L = true → tb (Go.Proofs.now s C.L 1) r = true)) := by
  have hdi := h.di hex hlg
  obtain ⟨o', m, b1, b2, b3⟩ := obegin hoi hdi.miss hdi.ok h.dn hex hlg (by omega) hdi.head (fun _ => h.cand C.L 1 (Nat.le_refl _) (by rw [MC.log]; decide)) (by rw [hT]; exact hdi.tl)
  have hT' : o'.T = trkT ws := b3.T.trans hT
  have hs := C.hs
  refine ⟨o', m, b1, ⟨b2, b3.oi.mono (by omega), by rw [hT']; exact hdi.mono (by omega), b3.mi, fun a ha _ => ?_, fun a ha => ?_, h.dn⟩, b3.nf, b3.copied, hT', b3.dirty⟩
  · rw [hT', trkT_at (by rw [h.wl]; exact ha)]
    exact ⟨rfl, fun j hj _ => h.now j a hj ha⟩
  · rw [hT', trkT_at (by rw [h.wl]; exact ha)]
    show ([_] : List UInt64).length ≤ _
    simp
theorem St0.oi {s : ArrS} (h : St0 C ws s) : OI C 10 (lvA C) s (own0 C ws) :=
  ⟨rfl, rfl, rfl, rfl, fun k hk => (by cases hk), by simp [own0], fun i hi hl => by
    rcases Nat.lt_or_ge i C.L with x | x
    · rw [lvA_leg x] at hl; cases hl
    · have : i = C.L := by omega
      subst this
      rw [lvA_log] at hl
      exact .inr (.inr ⟨rfl, hl⟩), fun i _ hm => (by rw [h.miss] at hm; cases hm), fun k hk => (by cases hk), ⟨rfl, by simp [lvA]⟩⟩
theorem few_eq {l : List volumegroupmake_Step} : volumegroupmake_Few l = some (decide (l.length ≤ 24)) := by
  unfold volumegroupmake_Few
  congr 1
  exact decide_eq_decide.2 (by omega)
end
end Go.Proofs
namespace Go.Proofs
open Go.VG
section
variable {C : MC} {K K' a i k : Nat} {s t u y : ArrS} {lv : LV} {m m' x : MirS} {w v : UInt64} {o : OwnS} {ex p : Nat → Prop} {T : List Sec}
theorem Ev.mono {q : Nat → Prop} (h : Ev C lv s t p) (hpq : ∀ r, p r → q r) : Ev C lv s t q := ⟨h.miss, h.dead, fun hl c hc r hr hb => (h.bit hl c hc r hr hb).imp (hpq r) id⟩
end
end Go.Proofs
namespace Go.Proofs
open Go.VG
def RO {α β : Type} (P : α → β → Prop) (x : Option α) (y : Option β) : Prop := ∀ b, y = some b → ∃ a, x = some a ∧ P a b
def SS {α β ρ σ : Type} (P : α → β → Prop) (Q : ρ → σ → Prop) : α ⊕ ρ → β ⊕ σ → Prop
  | .inl a, .inl b => P a b
  | .inr a, .inr b => Q a b
  | _, _ => False
section
variable {α β ρ σ : Type}
theorem RO.pure {P : α → β → Prop} {a : α} {b : β} (h : P a b) : RO P (some a) (some b) := fun b' e => by cases e; exact ⟨a, rfl, h⟩
theorem RO.bind {P : α → β → Prop} {Q : ρ → σ → Prop} {x : Option α} {y : Option β} {f : α → Option ρ} {g : β → Option σ} (h : RO P x y) (hf : ∀ a b, P a b → RO Q (f a) (g b)) : RO Q (Option.bind x f) (Option.bind y g) := fun c e => by
  cases hy : y with
  | none => rw [hy] at e; cases e
  | some b =>
    rw [hy] at e
    obtain ⟨a, ha, hp⟩ := h b hy
    obtain ⟨d, hd, hq⟩ := hf a b hp c e
    exact ⟨d, by rw [ha]; exact hd, hq⟩
theorem RO.same {Q : ρ → σ → Prop} {x : Option α} {f : α → Option ρ} {g : α → Option σ} (hf : ∀ a, x = some a → RO Q (f a) (g a)) : RO Q (Option.bind x f) (Option.bind x g) := fun c e => by
  cases hy : x with
  | none => rw [hy] at e; cases e
  | some b =>
    rw [hy] at e
    exact hf b hy c e
theorem RO.ite {P : α → β → Prop} {c : Prop} [Decidable c] {x x' : Option α} {y y' : Option β} (h : RO P x y) (h' : RO P x' y') : RO P (if c then x else x') (if c then y else y') := by
  split
  · exact h
  · exact h'
theorem grd_some {b : Bool} {x : Option α} {a : α} (h : grd b x = some a) : b = true ∧ x = some a := by
  cases b with
  | false => cases h
  | true => exact ⟨rfl, h⟩
theorem RO.grd {P : α → β → Prop} {c : Bool} {x : Option α} {y : Option β} (h : c = true → RO P x y) : RO P (Go.VG.grd c x) (Go.VG.grd c y) := fun b e => by
  obtain ⟨e1, e2⟩ := grd_some e
  rw [grd_t e1]
  exact h e1 b e2
theorem RO.seq {ρ' σ' : Type} {P : α → β → Prop} {Q : ρ' → σ' → Prop} {x : Option (α ⊕ ρ')} {y : Option (β ⊕ σ')} {f : α → Option ρ'} {g : β → Option σ'} (h : RO (SS P Q) x y) (hf : ∀ a b, P a b → RO Q (f a) (g b)) : RO Q (seqO x f) (seqO y g) := fun c e => by
  cases hy : y with
  | none => rw [hy] at e; cases e
  | some b =>
    rw [hy] at e
    obtain ⟨a, ha, hp⟩ := h b hy
    rw [ha]
    cases a with
    | inl a =>
      cases b with
      | inl b => exact hf a b hp c e
      | inr b => exact hp.elim
    | inr a =>
      cases b with
      | inl b => exact hp.elim
      | inr b =>
        have e1 : some b = some c := e
        cases e1
        exact ⟨a, rfl, hp⟩
end
def nb (s : ArrS) : ArrS := { s with bad := [] }
structure Sm (B : Int → Int → Bool) (s u : ArrS) : Prop where
  eq : u = nb s
  nd : (s.bad.map (·.1)).Nodup
  sub : ∀ d a, isBad s d a = true → B d a = true
def IsSp (x : Dvc) : Prop := ∃ d st n, x = Dvc.span d st n
structure DV (m : MirS) : Prop where
  leg : ∀ i, i < m.legs.length → IsSp (m.legs.getD i mleg_x0).dev
  log : ∀ g, m.log = some g → IsSp g.x
section
variable {B : Int → Int → Bool} {s u : ArrS} {m : MirS} {x : Dvc} {k d a e : Int} {v : UInt64}
def S1 (B : Int → Int → Bool) (p q : MirS × ArrS) : Prop := p.1 = q.1 ∧ DV p.1 ∧ Sm B p.2 q.2
def S2 (B : Int → Int → Bool) (p q : Int × MirS × ArrS) : Prop := p.1 = q.1 ∧ S1 B p.2 q.2
def S0 (B : Int → Int → Bool) (p q : Int × ArrS) : Prop := p.1 = q.1 ∧ Sm B p.2 q.2
def SLg (B : Int → Int → Bool) (p q : Int × LogS × ArrS) : Prop := p.1 = q.1 ∧ p.2.1 = q.2.1 ∧ IsSp p.2.1.x ∧ Sm B p.2.2 q.2.2
theorem sm_wrS (h : Sm B s u) : wrR s d a = wrR u d a ∧ Sm B (wrS s d a v) (wrS u d a v) := by
  obtain ⟨rfl, h2, h3⟩ := h
  have e1 : wrC (nb s) d a = wrC s d a := rfl
  have e2 : (nb s).fuse = s.fuse := rfl
  refine ⟨rfl, ?_⟩
  unfold wrS
  rw [e1, e2]
  by_cases hc : wrC s d a ≠ 0
  · rw [if_pos hc, if_pos hc]; exact ⟨rfl, h2, h3⟩
  · rw [if_neg hc, if_neg hc]
    by_cases hf : s.fuse = 1
    · rw [if_pos hf, if_pos hf]; exact ⟨rfl, h2, h3⟩
    · rw [if_neg hf, if_neg hf]
      refine ⟨rfl, nodup_delM _ _ h2, fun e b hb => ?_⟩
      have hb2 : (lookM (delM s.bad (d, a)) (e, b)).isSome = true := hb
      rw [lookM_delM _ _ _ h2] at hb2
      split at hb2
      · cases hb2
      · exact h3 e b hb2
theorem sm_flS (h : Sm B s u) : flC s d = flC u d ∧ Sm B (flS s d) (flS u d) := by
  obtain ⟨rfl, h2, h3⟩ := h
  have e1 : flC (nb s) d = flC s d := rfl
  refine ⟨rfl, ?_⟩
  unfold flS
  rw [e1]
  by_cases hc : flC s d ≠ 0
  · rw [if_pos hc, if_pos hc]; exact ⟨rfl, h2, h3⟩
  · rw [if_neg hc, if_neg hc]; exact ⟨rfl, h2, h3⟩
theorem sm_wr (hx : IsSp x) (h : Sm B s u) : RO (S0 B) (x.wr s k v) (x.wr u k v) := by
  obtain ⟨d, st, n, rfl⟩ := hx
  show RO (S0 B) (dvc_span_Write s d st n k v) (dvc_span_Write u d st n k v)
  unfold dvc_span_Write
  refine RO.same fun r _ => RO.ite (RO.pure ⟨rfl, h⟩) (RO.grd fun _ => ?_)
  have e : u.writes = s.writes := by rw [h.eq]; rfl
  rw [e]
  exact RO.grd fun _ => RO.pure (sm_wrS h)
theorem sm_fl (hx : IsSp x) (h : Sm B s u) : RO (S0 B) (x.fl s) (x.fl u) := by
  obtain ⟨d, st, n, rfl⟩ := hx
  show RO (S0 B) (dvc_span_Flush s d st n) (dvc_span_Flush u d st n)
  unfold dvc_span_Flush
  have e : u.writes = s.writes := by rw [h.eq]; rfl
  rw [e]
  exact RO.grd fun _ => RO.pure (sm_flS h)
theorem DV.upd {n : Nat} {y : mlegS} (h : DV m) (hy : IsSp y.dev) : DV { m with legs := m.legs.set n y } := by
  refine ⟨fun i hi => ?_, h.log⟩
  have hi2 : i < m.legs.length := by simpa using hi
  show IsSp ((m.legs.set n y).getD i mleg_x0).dev
  by_cases hn : n < m.legs.length
  · rw [getD_setM hn]; split
    · exact hy
    · exact h.leg i hi2
  · rw [List.set_eq_of_length_le (by omega)]; exact h.leg i hi2
theorem note_dv (h : DV m) {b : Int × MirS} (hb : mirror_Mirror_note m k e s = some b) : DV b.2 := by
  unfold mirror_Mirror_note at hb
  split at hb
  · cases hb; exact h
  · split at hb
    · cases hb; exact ⟨h.leg, h.log⟩
    · obtain ⟨g1, hb⟩ := grd_some hb
      have g2 := of_decide_eq_true g1
      have hl : IsSp (m.legs.getD k.toNat mleg_x0).dev := h.leg _ (by omega)
      split at hb
      · obtain ⟨-, hb⟩ := grd_some hb
        cases hb; exact h.upd hl
      · obtain ⟨-, hb⟩ := grd_some hb
        cases hb; exact h.upd hl
theorem sm_note (h : DV m) : RO (fun p q => p = q ∧ DV p.2) (mirror_Mirror_note m k e s) (mirror_Mirror_note m k e u) := fun b hb => ⟨b, hb, rfl, note_dv h hb⟩
theorem each_sim {L : Nat} {ch : Nat → Option Bool} {act : Nat → MirS → ArrS → Option (Int × ArrS)} {f : Nat → MirS → ArrS → Nat → Option ((MirS × ArrS) ⊕ (Int × MirS × ArrS))} (hf : ∀ n x y i, f (n + 1) x y i = eachB L ch act (f n) x y i) (h0 : ∀ x y i, f 0 x y i = none)
    (hact : ∀ i x y z, i < x.legs.length → DV x → Sm B y z → RO (S0 B) (act i x y) (act i x z)) : ∀ (N : Nat) (x : MirS) (y z : ArrS) (i : Nat), DV x → Sm B y z → RO (SS (S1 B) (S2 B)) (f N x y i) (f N x z i)
  | 0, x, y, z, i, _, _ => fun b e => by rw [h0] at e; cases e
  | N + 1, x, y, z, i, hd, h => by
    have hrec := each_sim hf h0 hact N
    rw [hf, hf]
    unfold eachB
    refine RO.ite (RO.grd fun g => ?_) (RO.pure ⟨rfl, hd, h⟩)
    have hi := of_decide_eq_true g
    refine RO.ite (RO.same fun r _ => RO.ite (RO.bind (hact i x y z hi hd h) ?_) (hrec x y z (i + 1) hd h)) (hrec x y z (i + 1) hd h)
    rintro ⟨e, s'⟩ ⟨e', u'⟩ ⟨rfl, h1⟩
    refine RO.bind (sm_note hd) ?_
    rintro p q ⟨rfl, h2⟩
    exact RO.ite (RO.pure ⟨rfl, rfl, h2, h1⟩) (hrec _ _ _ (i + 1) h2 h1)
theorem sm_every (hd : DV m) (h : Sm B s u) : RO (S2 B) (mirror_Mirror_each__mirror_every m a v s) (mirror_Mirror_each__mirror_every m a v u) := by
  unfold mirror_Mirror_each__mirror_every
  refine RO.seq (each_sim (L := m.legs.length) (ch := fun i => mirror_every ((i : Nat) : Int)) (act := fun i x y => mirror_Mirror_Write_1 ((i : Nat) : Int) x a v y) (f := mirror_Mirror_each__mirror_every_l1 m a v) (fun _ _ _ _ => rfl) (fun _ _ _ => rfl) (fun i x y z hi hx hs => ?_) _ _ _ _ _ hd h) ?_
  · show RO (S0 B) (mirror_Mirror_Write_1 ((i : Nat) : Int) x a v y) (mirror_Mirror_Write_1 ((i : Nat) : Int) x a v z)
    unfold mirror_Mirror_Write_1
    refine RO.grd fun _ => RO.bind (sm_wr (hx.leg _ (by rw [Int.toNat_natCast]; exact hi)) hs) ?_
    rintro ⟨e, s'⟩ ⟨e', u'⟩ ⟨h1, h2⟩
    exact RO.pure ⟨h1, h2⟩
  · rintro ⟨x, y⟩ ⟨x', z⟩ ⟨rfl, h1, h2⟩
    exact RO.same (x := mirror_Mirror_result x z) (f := fun r27 => some (r27, x, y)) fun r _ => RO.pure ⟨rfl, rfl, h1, h2⟩
theorem sm_every2 (hd : DV m) (h : Sm B s u) : RO (S2 B) (mirror_Mirror_each__mirror_every_2 m s) (mirror_Mirror_each__mirror_every_2 m u) := by
  unfold mirror_Mirror_each__mirror_every_2
  refine RO.seq (each_sim (L := m.legs.length) (ch := fun i => mirror_every ((i : Nat) : Int)) (act := fun i x y => mirror_Mirror_flush_1 ((i : Nat) : Int) x y) (f := mirror_Mirror_each__mirror_every_2_l1 m) (fun _ _ _ _ => rfl) (fun _ _ _ => rfl) (fun i x y z hi hx hs => ?_) _ _ _ _ _ hd h) ?_
  · show RO (S0 B) (mirror_Mirror_flush_1 ((i : Nat) : Int) x y) (mirror_Mirror_flush_1 ((i : Nat) : Int) x z)
    unfold mirror_Mirror_flush_1
    refine RO.grd fun _ => RO.bind (sm_fl (hx.leg _ (by rw [Int.toNat_natCast]; exact hi)) hs) ?_
    rintro ⟨e, s'⟩ ⟨e', u'⟩ ⟨h1, h2⟩
    exact RO.pure ⟨h1, h2⟩
  · rintro ⟨x, y⟩ ⟨x', z⟩ ⟨rfl, h1, h2⟩
    exact RO.same (x := mirror_Mirror_result x z) (f := fun r27 => some (r27, x, y)) fun r _ => RO.pure ⟨rfl, rfl, h1, h2⟩
theorem sm_follow_l1 : ∀ (N : Nat) (x : MirS) (y z : ArrS) (i : Nat), DV x → Sm B y z → RO (SS (S1 B) (S2 B)) (mirror_Mirror_follow_l1 m a v N x y i) (mirror_Mirror_follow_l1 m a v N x z i)
  | 0, x, y, z, i, _, _ => fun b e => by cases e
  | N + 1, x, y, z, i, hd, h => by
    have hrec := sm_follow_l1 N
    show RO _ (mirror_Mirror_follow_l1_b m a v (mirror_Mirror_follow_l1 m a v N) x y i) (mirror_Mirror_follow_l1_b m a v (mirror_Mirror_follow_l1 m a v N) x z i)
    unfold mirror_Mirror_follow_l1_b
    refine RO.ite (RO.grd fun g => RO.grd fun _ => RO.ite (RO.grd fun _ => RO.bind (sm_wr (hd.leg i (of_decide_eq_true g)) h) ?_) (hrec x y z (i + 1) hd h)) (RO.pure ⟨rfl, hd, h⟩)
    rintro ⟨e, s'⟩ ⟨e', u'⟩ ⟨rfl, h1⟩
    refine RO.bind (sm_note hd) ?_
    rintro p q ⟨rfl, h2⟩
    exact RO.ite (RO.pure ⟨rfl, rfl, h2, h1⟩) (hrec _ _ _ (i + 1) h2 h1)
theorem sm_follow (hd : DV m) (h : Sm B s u) : RO (S2 B) (mirror_Mirror_follow m a v s) (mirror_Mirror_follow m a v u) := by
  unfold mirror_Mirror_follow
  refine RO.seq (sm_follow_l1 _ _ _ _ _ hd h) ?_
  rintro ⟨x, y⟩ ⟨x', z⟩ ⟨rfl, h1, h2⟩
  exact RO.pure ⟨rfl, rfl, h1, h2⟩
theorem sm_set {l : LogS} {r : Int} {is keep : Bool} (hx : IsSp l.x) (h : Sm B s u) : RO (SLg B) (regionlog_Log_set l r is keep s) (regionlog_Log_set l r is keep u) := by
  unfold regionlog_Log_set
  refine RO.same fun r4 _ => RO.ite (RO.pure ⟨rfl, rfl, hx, h⟩) (RO.grd fun _ => RO.grd fun _ => RO.bind (sm_wr hx h) ?_)
  rintro ⟨e, s'⟩ ⟨e', u'⟩ ⟨rfl, h1⟩
  exact RO.ite (RO.pure ⟨rfl, rfl, hx, h1⟩) (RO.pure ⟨rfl, rfl, hx, h1⟩)
theorem sm_mark {l : LogS} {r : Int} (hx : IsSp l.x) (h : Sm B s u) : RO (SLg B) (regionlog_Log_Mark l r s) (regionlog_Log_Mark l r u) := by
  unfold regionlog_Log_Mark
  refine RO.ite (RO.pure ⟨rfl, rfl, hx, h⟩) (RO.ite (RO.pure ⟨rfl, rfl, hx, h⟩) (RO.bind (sm_set hx h) ?_))
  rintro ⟨e, l', s'⟩ ⟨e', l'', u'⟩ ⟨rfl, h0, h2, h1⟩
  have h0' : l' = l'' := h0
  subst h0'
  refine RO.ite (RO.pure ⟨rfl, rfl, h2, h1⟩) (RO.bind (sm_fl h2 h1) ?_)
  rintro ⟨e2, s2⟩ ⟨e3, u2⟩ ⟨rfl, h3⟩
  exact RO.ite (RO.pure ⟨rfl, rfl, h2, h3⟩) (RO.pure ⟨rfl, rfl, h2, h3⟩)
theorem sm_clear {l : LogS} {r : Int} (hx : IsSp l.x) (h : Sm B s u) : RO (SLg B) (regionlog_Log_Clear l r s) (regionlog_Log_Clear l r u) := by
  unfold regionlog_Log_Clear
  refine RO.ite (RO.pure ⟨rfl, rfl, hx, h⟩) (RO.bind (sm_set hx h) ?_)
  rintro ⟨e, l', s'⟩ ⟨e', l'', u'⟩ ⟨rfl, h0, h2, h1⟩
  have h0' : l' = l'' := h0
  subst h0'
  exact RO.pure ⟨rfl, rfl, h2, h1⟩
theorem DV.lg {g : LogS} (h : DV m) (hx : IsSp g.x) : DV { m with log := some g } := ⟨h.leg, fun g' e => by
  have e1 : some g = some g' := e
  cases e1; exact hx⟩
theorem sm_write (hd : DV m) (h : Sm B s u) : RO (S2 B) (mirror_Mirror_Write m a v s) (mirror_Mirror_Write m a v u) := by
  unfold mirror_Mirror_Write
  have tl : ∀ {x : MirS} {y z : ArrS}, DV x → Sm B y z → RO (S2 B) (Option.bind (mirror_Mirror_each__mirror_every x a v y) fun r13 => if (r13.1 = (5 : Int)) then some (r13.1, r13.2.1, r13.2.2) else Option.bind (mirror_Mirror_follow r13.2.1 a v r13.2.2) fun r15 => if (r15.1 ≠ (0 : Int)) then some (r15.1, r15.2.1, r15.2.2) else some (r13.1, r15.2.1, r15.2.2)) (Option.bind (mirror_Mirror_each__mirror_every x a v z) fun r13 => if (r13.1 = (5 : Int)) then some (r13.1, r13.2.1, r13.2.2) else Option.bind (mirror_Mirror_follow r13.2.1 a v r13.2.2) fun r15 => if (r15.1 ≠ (0 : Int)) then some (r15.1, r15.2.1, r15.2.2) else some (r13.1, r15.2.1, r15.2.2)) := by
    intro x y z hx hy
    refine RO.bind (sm_every hx hy) ?_
    rintro ⟨e, p, s'⟩ ⟨e', q, u'⟩ ⟨rfl, h0, h2, h1⟩
    have h0' : p = q := h0
    subst h0'
    refine RO.ite (RO.pure ⟨rfl, rfl, h2, h1⟩) (RO.bind (sm_follow h2 h1) ?_)
    rintro ⟨e2, p2, s2⟩ ⟨e3, q2, u2⟩ ⟨rfl, h3, h4, h5⟩
    have h3' : p2 = q2 := h3
    subst h3'
    exact RO.ite (RO.pure ⟨rfl, rfl, h4, h5⟩) (RO.pure ⟨rfl, rfl, h4, h5⟩)
  refine RO.ite (RO.pure ⟨rfl, rfl, hd, h⟩) (RO.ite (RO.pure ⟨rfl, rfl, hd, h⟩) ?_)
  refine RO.same (x := mirror_Mirror_result m u) fun r4 _ => RO.ite (RO.pure ⟨rfl, rfl, hd, h⟩) ?_
  cases hlog : m.log with
  | none => exact tl ⟨hd.leg, fun g e => by cases e⟩ h
  | some g =>
    simp only [Option.elim_some]
    refine RO.grd fun _ => RO.bind (sm_mark (hd.log g hlog) h) ?_
    rintro ⟨e, l', s'⟩ ⟨e', l'', u'⟩ ⟨rfl, h0, h2, h1⟩
    have h0' : l' = l'' := h0
    subst h0'
    refine RO.bind (sm_note (hd.lg h2)) ?_
    rintro p q ⟨rfl, h3⟩
    refine RO.ite (RO.pure ⟨rfl, rfl, h3, h1⟩) (RO.same (x := mirror_Mirror_result p.2 u') fun r _ => RO.ite (RO.pure ⟨rfl, rfl, h3, h1⟩) (tl h3 h1))
theorem dirtyS_l1 {l : LogS} {s u : ArrS} : ∀ (N : Nat) (x : List Int) (i : Nat), regionlog_Log_Dirty_l1 l s N x i = regionlog_Log_Dirty_l1 l u N x i
  | 0, _, _ => rfl
  | N + 1, x, i => by
    have hrec := dirtyS_l1 (l := l) (s := s) (u := u) N
    show regionlog_Log_Dirty_l1_b l s (regionlog_Log_Dirty_l1 l s N) x i = regionlog_Log_Dirty_l1_b l u (regionlog_Log_Dirty_l1 l u N) x i
    unfold regionlog_Log_Dirty_l1_b
    simp only [hrec]
    rfl
theorem dirtyS {l : LogS} {s u : ArrS} : regionlog_Log_Dirty l s = regionlog_Log_Dirty l u := by
  unfold regionlog_Log_Dirty
  rw [dirtyS_l1]
theorem sm_flush_l1 {l : List Int} : ∀ (N : Nat) (x : MirS) (y z : ArrS) (i : Nat), DV x → Sm B y z → RO (SS (S1 B) (S2 B)) (mirror_Mirror_Flush_l1 l N x y i) (mirror_Mirror_Flush_l1 l N x z i)
  | 0, x, y, z, i, _, _ => fun b e => by cases e
  | N + 1, x, y, z, i, hd, h => by
    have hrec := sm_flush_l1 (l := l) N
    show RO _ (mirror_Mirror_Flush_l1_b l (mirror_Mirror_Flush_l1 l N) x y i) (mirror_Mirror_Flush_l1_b l (mirror_Mirror_Flush_l1 l N) x z i)
    unfold mirror_Mirror_Flush_l1_b
    refine RO.ite (RO.grd fun _ => RO.ite (RO.grd fun _ => hrec x y z (i + 1) hd h) ?_) (RO.pure ⟨rfl, hd, h⟩)
    cases hlog : x.log with
    | none =>
      refine RO.same fun r _ => RO.bind (sm_note ⟨hd.leg, fun g e => by cases e⟩) ?_
      rintro p q ⟨rfl, h3⟩
      exact RO.ite (RO.pure ⟨rfl, rfl, h3, h⟩) (RO.same (x := mirror_Mirror_result p.2 z) fun r _ => RO.ite (RO.pure ⟨rfl, rfl, h3, h⟩) (RO.grd fun _ => hrec _ _ _ (i + 1) h3 h))
    | some g =>
      refine RO.bind (sm_clear (hd.log g hlog) h) ?_
      rintro ⟨e, l', s'⟩ ⟨e', l'', u'⟩ ⟨rfl, h0, h2, h1⟩
      have h0' : l' = l'' := h0
      subst h0'
      refine RO.bind (sm_note (hd.lg h2)) ?_
      rintro p q ⟨rfl, h3⟩
      exact RO.ite (RO.pure ⟨rfl, rfl, h3, h1⟩) (RO.same (x := mirror_Mirror_result p.2 u') fun r _ => RO.ite (RO.pure ⟨rfl, rfl, h3, h1⟩) (RO.grd fun _ => hrec _ _ _ (i + 1) h3 h1))
theorem sm_flush (hd : DV m) (h : Sm B s u) : RO (S2 B) (mirror_Mirror_Flush m s) (mirror_Mirror_Flush m u) := by
  unfold mirror_Mirror_Flush mirror_Mirror_flush
  refine RO.same (x := mirror_Mirror_result m u) fun r4 _ => RO.ite (RO.pure ⟨rfl, rfl, hd, h⟩) (RO.bind (P := S2 B) (RO.bind (sm_every2 hd h) ?_) ?_)
  · rintro ⟨e, p, s'⟩ ⟨e', q, u'⟩ ⟨rfl, h0, h2, h1⟩
    have h0' : p = q := h0
    subst h0'
    exact RO.pure ⟨rfl, rfl, h2, h1⟩
  · rintro ⟨e, p, s'⟩ ⟨e', q, u'⟩ ⟨rfl, h0, h2, h1⟩
    have h0' : p = q := h0
    subst h0'
    refine RO.ite (RO.pure ⟨rfl, rfl, h2, h1⟩) ?_
    cases hlog : p.log with
    | none => exact RO.pure ⟨rfl, rfl, ⟨h2.leg, fun g e => by cases e⟩, h1⟩
    | some g =>
      simp only [Option.elim_some]
      rw [show regionlog_Log_Dirty g s' = regionlog_Log_Dirty g u' from dirtyS]
      refine RO.same (x := regionlog_Log_Dirty g u') fun l _ => RO.seq (sm_flush_l1 _ _ _ _ _ (h2.lg (h2.log g hlog)) h1) ?_
      rintro ⟨x, y⟩ ⟨x', z⟩ ⟨h3, h4, h5⟩
      have h3' : x = x' := h3
      subst h3'
      exact RO.pure ⟨rfl, rfl, h4, h5⟩
end
end Go.Proofs
namespace Go.Proofs
open Go.VG
end Go.Proofs
namespace Go.Proofs
open Go.VG
structure Qt (C : MC) (K : Nat) (s : ArrS) (lv : LV) (t : ArrS) : Prop where
  ok : ArrOk C.ns K t
  dn : t.down = false
  fz : t.fuse = 0
  miss : ∀ e, Go.Proofs.miss t e = Go.Proofs.miss s e
  now : ∀ e b, e < C.L → b < C.sz → Go.Proofs.now t e b = Go.Proofs.now s e b
  sub : ∀ j, j < C.L → lv j = true → ∀ b, b < C.sz → ∀ c ∈ cand t j b, c ∈ cand s j b
  log : ∀ b, b < 3 → Go.Proofs.now t C.L b = Go.Proofs.now s C.L b ∧ cand t C.L b = cand s C.L b
section
variable {C : MC} {K K' a i k : Nat} {s t u y : ArrS} {lv : LV} {m m' x : MirS} {w v : UInt64} {o : OwnS} {ex p : Nat → Prop} {T : List Sec}
theorem Qt.refl (hok : ArrOk C.ns K s) (hdn : s.down = false) (hf : s.fuse = 0) : Qt C K s lv s := ⟨hok, hdn, hf, fun _ => rfl, fun _ _ _ _ => rfl, fun _ _ _ _ _ _ h => h, fun _ _ => ⟨rfl, rfl⟩⟩
theorem Qt.trans (h : Qt C K s lv t) (h' : Qt C K' t lv u) : Qt C K' s lv u := ⟨h'.ok, h'.dn, h'.fz, fun e => (h'.miss e).trans (h.miss e), fun e b he hb => (h'.now e b he hb).trans (h.now e b he hb), fun j hj hl b hb c hc => h.sub j hj hl b hb c (h'.sub j hj hl b hb c hc), fun b hb => ⟨(h'.log b hb).1.trans (h.log b hb).1, (h'.log b hb).2.trans (h.log b hb).2⟩⟩
theorem Qt.mono (h : Qt C K s lv t) (hK : K ≤ K') : Qt C K' s lv t := { h with ok := h.ok.mono hK }
theorem Qt.put (h : Qt C K s lv t) (hi : i < C.L) (ha : a < C.sz) (hw : w = Go.Proofs.now s i a) (h1 : Wrote C.ns K t i a w u) : Qt C (K + 1) s lv u := by
  have hn : ∀ e b, e < C.L → b < C.sz → Go.Proofs.now u e b = Go.Proofs.now s e b := fun e b he hb => by
    rw [h1.now]; split
    · rename_i z; obtain ⟨rfl, rfl⟩ := z; exact hw
    · exact h.now e b he hb
  refine ⟨h1.ok, h1.dn, by rw [h1.fuse, h.fz], fun e => by rw [h1.miss, h.miss], hn, fun j hj hl b hb c hc => ?_, fun b hb => ?_⟩
  · rw [h1.cand] at hc
    split at hc
    · rename_i z; obtain ⟨rfl, rfl⟩ := z
      rcases List.mem_append.1 hc with hc | hc
      · exact h.sub _ hj hl _ hb c hc
      · rw [List.mem_singleton.1 hc, hw, ← h.now i a hi ha]
        exact h.sub _ hj hl _ hb _ (h.ok.now_cand (by rw [MC.len]; omega) (by rw [MC.leg hi]; exact ha))
    · exact h.sub j hj hl b hb c hc
  · rw [h1.now, h1.cand, if_neg (fun z => by omega), if_neg (fun z => by omega)]; exact h.log b hb
theorem Qt.fl (h : Qt C K s lv t) (hi : i < C.L) (h1 : Flushed1 C.ns K t i u) : Qt C K s lv u := by
  refine ⟨h1.ok, h1.dn, by rw [h1.fuse, h.fz], fun e => by rw [h1.miss, h.miss], fun e b he hb => by rw [h1.now]; exact h.now e b he hb, fun j hj hl b hb c hc => ?_, fun b hb => ?_⟩
  · rw [h1.cand j b (by rw [MC.len]; omega) (by rw [MC.leg hj]; exact hb)] at hc
    split at hc
    · rw [List.mem_singleton.1 hc]
      exact h.sub j hj hl b hb _ (h.ok.now_cand (by rw [MC.len]; omega) (by rw [MC.leg hj]; exact hb))
    · exact h.sub j hj hl b hb c hc
  · rw [h1.now, h1.cand C.L b logL (by rw [MC.log]; exact hb), if_neg (by omega)]; exact h.log b hb
def Val (C : MC) (lv : LV) (s : ArrS) (f : Nat → UInt64) : Prop := ∀ a, a < C.sz → ∀ j, j < C.L → lv j = true → Go.Proofs.now s j a = f a
theorem Qt.mi (h : Qt C K s lv t) (hm : MI C s lv m) : MI C t lv m := hm.arr h.miss h.log
theorem Qt.val {f : Nat → UInt64} (h : Qt C K s lv t) (hv : Val C lv s f) : Val C lv t f := fun a ha j hj hl => by rw [h.now j a hj ha]; exact hv a ha j hj hl
theorem UP.qt (h : UP C K lv s o m (fun _ => False)) (hq : Qt C K' s lv t) (hK : K ≤ K') (hm : MI C t lv m') : UP C K' lv t { o with X := some m' } m' (fun _ => False) := by
  have h9 : OI C K lv s { o with X := some m' } := h.oi.set rfl rfl rfl rfl rfl rfl
  refine ⟨rfl, (h9.arr hq.miss).mono hK, ⟨hq.ok, h.di.tl, h.di.ex, fun i hi hl => by rw [hq.miss]; exact h.di.miss i hi hl, h.di.lgl, fun a ha i hi hl c hc => h.di.cnd a ha i hi hl c (hq.sub i hi hl a ha c hc), fun hl c hc => h.di.head hl c (by rw [← (hq.log 0 (by decide)).2]; exact hc), fun hl r hr => ?_⟩, hm, fun a ha _ => ?_, fun a ha => Nat.le_trans (h.sm a ha) (by omega), hq.dn⟩
  · rcases h.di.c hl r hr with z | ⟨f, z⟩
    · exact .inl (fun c hc => z c (by rw [← (hq.log 1 (by decide)).2]; exact hc))
    · exact .inr ⟨f, fun a ha har i hi hli c hc => z a ha har i hi hli c (hq.sub i hi hli a ha c hc)⟩
  · obtain ⟨k1, k2⟩ := h.kn a ha (fun x => x)
    exact ⟨k1, fun j hj hl => by rw [hq.now j a hj ha]; exact k2 j hj hl⟩
theorem nf_live (h : MI C s lv m) (hall : ∀ i, i < C.L → lv i = true) (hlg : lv C.L = C.lg) : NF m := by
  refine ⟨fun i hi => ?_, ?_⟩
  · rw [h.len] at hi
    rcases (h.leg i hi).2.2 with z | z
    · rw [z.2.1]; decide
    · rw [hall i hi] at z; cases z.1
  · rcases h.log with z | z
    · rintro ⟨-, y⟩; rw [z.2.1] at y; cases y
    · rintro ⟨y, -⟩
      rw [h.hasLog, ← hlg, z.1] at y; cases y
end
end Go.Proofs
namespace Go.Proofs
open Go.VG
def Bk (k : Nat) (d _ : Int) : Bool := decide (d = ((k : Nat) : Int))
structure Qb (C : MC) (K k : Nat) (s : ArrS) (lv : LV) (t : ArrS) : Prop where
  q : Qt C K (nb s) lv (nb t)
  sm : Sm (Bk k) t (nb t)
  sub : ∀ d a, isBad t d a = true → isBad s d a = true
section
variable {C : MC} {K K' a i k : Nat} {s t u y : ArrS} {lv : LV} {m m' x : MirS} {w v : UInt64} {o : OwnS}
theorem isBad_wrS {d a' : Int} (h : Sm (Bk k) s u) (hc : wrR s d a' = 0) {d' b : Int} : isBad (wrS s d a' v) d' b = if (d', b) = (d, a') then false else isBad s d' b := by
  unfold wrR at hc
  unfold wrS
  by_cases h1 : wrC s d a' ≠ 0
  · rw [if_pos h1] at hc; exact absurd hc h1
  · rw [if_neg h1] at hc ⊢
    by_cases h2 : s.fuse = 1
    · rw [if_pos h2] at hc; cases hc
    · rw [if_neg h2]
      show (lookM (delM s.bad (d, a')) (d', b)).isSome = _
      rw [lookM_delM _ _ _ h.nd]; split <;> rfl
theorem isBad_flS {d d' b : Int} : isBad (flS s d) d' b = isBad s d' b := by unfold flS; split <;> rfl
theorem Qb.refl (hok : ArrOk C.ns K (nb s)) (hdn : s.down = false) (hf : s.fuse = 0) (hs : Sm (Bk k) s (nb s)) : Qb C K k s lv s := ⟨Qt.refl hok hdn hf, hs, fun _ _ h => h⟩
theorem Qb.mono (h : Qb C K k s lv t) (hK : K ≤ K') : Qb C K' k s lv t := ⟨h.q.mono hK, h.sm, h.sub⟩
theorem Qb.trans (h : Qb C K k s lv t) (h' : Qb C K' k t lv u) : Qb C K' k s lv u := ⟨h.q.trans h'.q, h'.sm, fun d a hb => h.sub d a (h'.sub d a hb)⟩
theorem Qb.put (h : Qb C K k s lv t) (hK : K ≤ 1000000) (hi : i < C.L) (ha : a < C.sz) (hm : miss s i = false) (hw : w = now s i a) : wrR t i a = 0 ∧ Qb C (K + 1) k s lv (wrS t i a w) ∧ isBad (wrS t i a w) i a = false ∧ ∀ d b, isBad (wrS t i a w) d b = true → isBad t d b = true := by
  have hin : i < C.ns.length := by rw [MC.len]; omega
  have hms : miss (nb t) i = false := by rw [h.q.miss]; exact hm
  rcases h.q.ok.wrA (v := w) hK h.q.dn hin (by rw [MC.leg hi]; exact ha) hms with ⟨-, w2, w3⟩ | ⟨w1, -⟩
  · obtain ⟨e1, e2⟩ := sm_wrS (d := (i : Int)) (a := (a : Int)) (v := w) h.sm
    have e3 : wrR t i a = 0 := e1.trans w2
    have hrel : ∀ d b, isBad (wrS t i a w) d b = true → isBad t d b = true := fun d b hb => by
      rw [isBad_wrS h.sm e3] at hb
      split at hb
      · cases hb
      · exact hb
    refine ⟨e3, ⟨?_, ⟨rfl, e2.nd, e2.sub⟩, fun d b hb => h.sub d b (hrel d b hb)⟩, ?_, hrel⟩
    · rw [← e2.eq]; exact h.q.put hi ha hw w3
    · rw [isBad_wrS h.sm e3, if_pos rfl]
  · rw [h.q.fz] at w1; cases w1
theorem Qb.fl (h : Qb C K k s lv t) (hi : i < C.L) (hm : miss s i = false) : flC t i = 0 ∧ Qb C K k s lv (flS t i) := by
  have hin : i < C.ns.length := by rw [MC.len]; omega
  have hms : miss (nb t) i = false := by rw [h.q.miss]; exact hm
  obtain ⟨k1, k2⟩ := h.q.ok.flA (d := i) h.q.dn hin hms
  obtain ⟨e1, e2⟩ := sm_flS (d := (i : Int)) h.sm
  refine ⟨e1.trans k1, ⟨?_, ⟨rfl, e2.nd, e2.sub⟩, fun d b hb => ?_⟩⟩
  · rw [← e2.eq]; exact h.q.fl hi k2
  · rw [isBad_flS] at hb; exact h.sub d b hb
theorem leg_rdB (h : ArrOk C.ns K (nb s)) (hdn : s.down = false) (hi : i < C.L) (ha : a < C.sz) (hm : miss s i = false) : ∃ w e, (xL i C.sz).rd s (a : Int) = some (w, e) ∧ (isBad s i a = false → e = 0 ∧ w = now s i a) ∧ (isBad s i a = true → e = 7) := by
  have h2 := C.hs
  have hms : miss (nb s) i = false := hm
  obtain ⟨h3, h4, h5, h6, -⟩ := h.chk hdn (by rw [MC.len]; omega : i < C.ns.length) (by rw [MC.leg hi]; exact ha)
  rw [hms] at h6
  have h3' : cPow s = 0 := h3
  have h4' : cLoc s i = 0 := h4
  have h5' : cPla s i a = 0 := h5
  have h6' : cPre s i = 0 := h6
  rw [span_rd (by omega) (by omega), if_pos (by omega)]
  have e : ((0 : Nat) : Int) + (a : Int) = ((a : Nat) : Int) := by omega
  rw [e]
  refine ⟨_, _, rfl, fun hb => ?_, fun hb => ?_⟩
  · have h7 : cWho s i a = 0 := by simp [cWho, hb]
    have hC : rdC s i a = 0 := by simp [rdC, fz, h3', h4', h5', h6', h7]
    exact ⟨hC, by rw [rdV, if_pos hC]; rfl⟩
  · have h7 : cWho s i a = 7 := by simp [cWho, hb]
    simp [rdC, fz, h3', h4', h5', h6', h7]
theorem rdC_b (h : ArrOk C.ns K (nb s)) (hdn : s.down = false) (hi : i < C.L) (ha : a < C.sz) (hm : miss s i = false) (hb : isBad s i a = false) : rdC s i a = 0 := by
  have hms : miss (nb s) i = false := hm
  obtain ⟨h3, h4, h5, h6, -⟩ := h.chk hdn (by rw [MC.len]; omega : i < C.ns.length) (by rw [MC.leg hi]; exact ha)
  rw [hms] at h6
  have h3' : cPow s = 0 := h3
  have h4' : cLoc s i = 0 := h4
  have h5' : cPla s i a = 0 := h5
  have h6' : cPre s i = 0 := h6
  have h7 : cWho s i a = 0 := by simp [cWho, hb]
  simp [rdC, fz, h3', h4', h5', h6', h7]
theorem Sm.off (h : Sm (Bk k) s u) {j : Nat} (hj : j ≠ k) {b : Int} : isBad s ((j : Nat) : Int) b = false := by
  cases hb : isBad s ((j : Nat) : Int) b with
  | false => rfl
  | true =>
    have h1 := of_decide_eq_true (h.sub _ _ hb)
    omega
theorem fetch_b (h : MI C (nb s) lv m) (hall : ∀ i, i < C.L → lv i = true) (hok : ArrOk C.ns K (nb s)) (hdn : s.down = false) (hs : Sm (Bk k) s (nb s)) (ha : a < C.sz) (hw : ∀ j, j < C.L → now s j a = w) :
    isBad s 0 a = false ∧ mirror_Mirror_fetch m (a : Int) s = some (w, ((0 : Nat) : Int), [], 0, m) ∨ k = 0 ∧ isBad s 0 a = true ∧ mirror_Mirror_fetch m (a : Int) s = some (w, ((1 : Nat) : Int), [0], 0, m) := by
  have hL := C.hL
  have hF := fuel_big
  have hst : ∀ i, i < C.L → stM m i = 0 := fun i hi => (h.live hi (hall i hi)).1
  have hms : ∀ i, i < C.L → miss s i = false := fun i hi => (h.live hi (hall i hi)).2
  obtain ⟨N, hN⟩ : ∃ N, FUEL = N + 1 + 1 := ⟨FUEL - 2, by omega⟩
  unfold mirror_Mirror_fetch
  rw [hN]
  have hu : mirror_Mirror_fetch_l1 m (a : Int) s (N + 1 + 1) 0 [] = mirror_Mirror_fetch_l1_b m (a : Int) s (mirror_Mirror_fetch_l1 m (a : Int) s (N + 1)) 0 [] := rfl
  rw [hu]
  unfold mirror_Mirror_fetch_l1_b
  obtain ⟨w0, e0, r0, r1, r2⟩ := leg_rdB hok hdn (by omega : 0 < C.L) ha (hms 0 (by omega))
  have hst0 := hst 0 (by omega)
  unfold stM at hst0
  rw [if_pos (by rw [h.len]; omega), if_neg (fun x => x hst0), h.dev (by omega : 0 < C.L), r0]; simp only [Option.bind_some]
  have e00 : (((0 : Nat)) : Int) = 0 := rfl
  rw [e00] at r1 r2
  cases hb : isBad s 0 a with
  | false =>
    obtain ⟨rfl, rfl⟩ := r1 hb
    rw [if_pos (by omega), seqO_inr, hw 0 (by omega)]
    exact .inl ⟨rfl, rfl⟩
  | true =>
    obtain rfl := r2 hb
    have hk : k = 0 := by
      by_cases z : k = 0
      · exact z
      · have := hs.off (j := 0) (fun y => z y.symm) (b := (a : Int))
        rw [e00, hb] at this; cases this
    subst hk
    rw [if_neg (by decide), if_pos (by omega), grd_t (inLen_of (by simp))]
    have hu2 : mirror_Mirror_fetch_l1 m (a : Int) s (N + 1) (0 + 1) ([] ++ [((0 : Nat) : Int)]) = mirror_Mirror_fetch_l1_b m (a : Int) s (mirror_Mirror_fetch_l1 m (a : Int) s N) 1 [0] := rfl
    rw [hu2]
    unfold mirror_Mirror_fetch_l1_b
    obtain ⟨w1, e1, q0, q1, q2⟩ := leg_rdB hok hdn (by omega : 1 < C.L) ha (hms 1 (by omega))
    have hst1 := hst 1 (by omega)
    unfold stM at hst1
    obtain ⟨rfl, rfl⟩ := q1 (hs.off (by decide))
    rw [if_pos (by rw [h.len]; omega), if_neg (fun x => x hst1), h.dev (by omega : 1 < C.L), q0]; simp only [Option.bind_some]
    rw [if_pos (by trivial), seqO_inr, hw 1 (by omega)]
    exact .inr ⟨by trivial, by trivial, rfl⟩
theorem spread2_b {bl : List Int} (hbl : bl.length ≤ 3) (h : MI C (nb s) lv x) (hall : ∀ i, i < C.L → lv i = true) (hq : Qb C K k s lv y) (hK : K < 1000000) (ha : a < C.sz) (hi : i < C.L) (hw : now s i a = w) :
    ∃ t, mirror_Mirror_spread_2 ((i : Nat) : Int) bl x (a : Int) w y = some (0, t) ∧ Qb C (K + 1) k s lv t ∧ isBad t i a = false ∧ ∀ d b, isBad t d b = true → isBad y d b = true := by
  have hms : miss s i = false := (h.live hi (hall i hi)).2
  have wrfl : ∃ t, (grd (decide (0 ≤ ((i : Nat) : Int) ∧ ((i : Nat) : Int) < (x.legs.length : Int))) <|
      Option.bind (Dvc.wr ((x.legs.getD (((i : Nat) : Int)).toNat mleg_x0).dev) y (a : Int) w) fun r45 =>
      if (r45.1 ≠ (0 : Int)) then
        some (r45.1, r45.2)
      else
        grd (decide (0 ≤ ((i : Nat) : Int) ∧ ((i : Nat) : Int) < (x.legs.length : Int))) <|
        Option.bind (Dvc.fl ((x.legs.getD (((i : Nat) : Int)).toNat mleg_x0).dev) r45.2) fun r54 =>
        some (r54.1, r54.2)) = some (0, t) ∧ Qb C (K + 1) k s lv t ∧ isBad t i a = false ∧ ∀ d b, isBad t d b = true → isBad y d b = true := by
    obtain ⟨p1, p2, p3, p4⟩ := hq.put (by omega) hi ha hms hw.symm
    obtain ⟨f1, f2⟩ := p2.fl hi hms
    have hs := C.hs
    have hwr : y.writes ≤ 1000000000 := by have h1 : (nb y).writes ≤ K := hq.q.ok.wr; have h2 : y.writes ≤ K := h1; omega
    have hwr2 : (wrS y i a w).writes ≤ 1000000000 := by have h1 : (nb (wrS y i a w)).writes ≤ K + 1 := p2.q.ok.wr; have h2 : (wrS y i a w).writes ≤ K + 1 := h1; omega
    rw [h.gI hi, Int.toNat_natCast, h.dev hi, span_wr (by omega) (by omega) hwr, if_pos (by omega)]; simp only [Option.bind_some]
    have e : ((0 : Nat) : Int) + (a : Int) = ((a : Nat) : Int) := by omega
    rw [e, p1, if_neg (by decide), h.gI hi, span_fl hwr2, f1]; simp only [Option.bind_some]
    exact ⟨_, rfl, f2, by rw [isBad_flS]; exact p3, fun d b hb => p4 d b (by rw [isBad_flS] at hb; exact hb)⟩
  unfold mirror_Mirror_spread_2
  rw [contains_eq (by omega)]; simp only [Option.bind_some]
  by_cases hc : ((i : Nat) : Int) ∈ bl
  · rw [decide_eq_true hc, if_neg (by simp), seqO_inl]; exact wrfl
  · rw [decide_eq_false hc, if_pos (by simp), h.gI hi, Int.toNat_natCast, h.dev hi]
    obtain ⟨w1, e1, q0, q1, q2⟩ := leg_rdB hq.q.ok hq.q.dn hi ha (by rw [show miss y i = miss (nb y) i from rfl, hq.q.miss]; exact hms)
    rw [q0]; simp only [Option.bind_some]
    cases hby : isBad y i a with
    | false =>
      obtain ⟨rfl, rfl⟩ := q1 hby
      have hn : now y i a = w := by rw [← hw]; exact hq.q.now i a hi ha
      rw [if_pos (.inl ⟨by trivial, hn⟩), seqO_inr]
      exact ⟨y, rfl, hq.mono (by omega), hby, fun _ _ h => h⟩
    | true =>
      obtain rfl := q2 hby
      rw [if_neg (by rintro (z | z); exact absurd z.1 (by decide); exact z.2 (by trivial)), seqO_inl]
      rw [Int.toNat_natCast, h.dev hi] at wrfl
      exact wrfl
theorem read_b (h : MI C (nb s) lv m) (hnf : NF m) (hall : ∀ i, i < C.L → lv i = true) (hok : ArrOk C.ns K (nb s)) (hdn : s.down = false) (hf : s.fuse = 0) (hs : Sm (Bk k) s (nb s)) (hK : K + 8 ≤ 1000000) (ha : a < C.sz) (hw : ∀ j, j < C.L → now s j a = w) :
    ∃ t, mirror_Mirror_Read m (a : Int) s = some (w, 0, m, t) ∧ Qb C (K + 8) k s lv t ∧ isBad t 0 a = false := by
  have hF := fuel_big
  have hL := C.hL
  have hr := MC.reg ha
  unfold mirror_Mirror_Read
  rw [if_neg (by omega), if_neg (by rw [h.size]; omega), (result_eq h.l6).1 hnf]; simp only [Option.bind_some]
  rw [if_neg (by simp)]
  have fin : ∀ {f : Nat} {bl : List Int}, bl.length ≤ 3 → isBad s ((f : Nat) : Int) a = false → (isBad s 0 a = true → (0 : Int) ∈ bl ∧ f ≠ 0) → mirror_Mirror_fetch m (a : Int) s = some (w, ((f : Nat) : Int), bl, 0, m) →
      ∃ t, (Option.bind (mirror_Mirror_fetch m (a : Int) s) fun r5 =>
        if (r5.2.2.2.1 ≠ (0 : Int)) then
          some (((0 : UInt64), r5.2.2.2.1, r5.2.2.2.2, s))
        else
          grd (decide (¬ r5.2.2.2.2.region = 0)) <|
          grd (decide (0 ≤ (IntKind.i64.wrap ((a : Int).tdiv r5.2.2.2.2.region)) ∧ (IntKind.i64.wrap ((a : Int).tdiv r5.2.2.2.2.region)) < (r5.2.2.2.2.dirty.length : Int))) <|
          if (r5.2.2.2.2.dirty.getD (((IntKind.i64.wrap ((a : Int).tdiv r5.2.2.2.2.region))).toNat) false) = true then
            Option.bind (mirror_Mirror_spread r5.2.2.2.2 (a : Int) r5.1 r5.2.1 r5.2.2.1 s) fun r16 =>
            if (r16.1 ≠ (0 : Int)) then
              some (((0 : UInt64), r16.1, r16.2.1, r16.2.2))
            else
              some ((r5.1, (0 : Int), r16.2.1, r16.2.2))
          else
            Option.bind (mirror_Mirror_each__mirror_Mirror_Read_1 r5.2.2.2.2 r5.2.2.1 (a : Int) r5.1 s) fun r18 =>
            if (r18.1 ≠ (0 : Int)) then
              some (((0 : UInt64), r18.1, r18.2.1, r18.2.2))
            else
              some ((r5.1, (0 : Int), r18.2.1, r18.2.2))) = some (w, 0, m, t) ∧ Qb C (K + 8) k s lv t ∧ isBad t 0 a = false := by
    intro f bl hbl hbf hb0 hft
    rw [hft]; simp only [Option.bind_some]
    rw [if_neg (by simp), h.region, grd_t (decide_eq_true (by have := C.hr; omega)), MC.divI ha, grd_t (decide_eq_true ⟨Int.natCast_nonneg _, by rw [h.dl]; exact Int.ofNat_lt.2 hr⟩), Int.toNat_natCast]
    by_cases hd : m.dirty.getD (a / C.rg) false = true
    · rw [if_pos hd]
      unfold mirror_Mirror_spread
      obtain ⟨e, x', y', e1, e2⟩ := each_end (r := mirror_Mirror_each__mirror_Mirror_spread_1 m ((f : Nat) : Int) bl (a : Int) w s) rfl (P := fun x y => x = m ∧ Qb C (K + m.legs.length) k s lv y ∧ (0 < m.legs.length → f ≠ 0 → isBad y 0 a = false)) (Q := fun _ _ => False) (fun x y hp => by rw [hp.1]; exact h.l6)
        (each_rule (L := m.legs.length) (f := mirror_Mirror_each__mirror_Mirror_spread_1_l1 m ((f : Nat) : Int) bl (a : Int) w) (ch := fun i => mirror_Mirror_spread_1 ((i : Nat) : Int) ((f : Nat) : Int)) (act := fun i x y => mirror_Mirror_spread_2 ((i : Nat) : Int) bl x (a : Int) w y) (fun _ _ _ _ => rfl)
          (c := fun i => decide (((i : Nat) : Int) ≠ ((f : Nat) : Int))) (fun i _ => rfl) (fun i x y => x = m ∧ Qb C (K + i) k s lv y ∧ (0 < i → f ≠ 0 → isBad y 0 a = false)) (fun _ _ => False) (fun i x y hp => by rw [hp.1])
          (fun i x y hi hp hst _ => by
            obtain ⟨rfl, hq, hz⟩ := hp
            rw [h.len] at hi
            obtain ⟨t, t1, t2, t3, t4⟩ := spread2_b hbl h hall hq (by omega) ha hi (hw i hi)
            rw [t1]
            refine ⟨0, _, rfl, .inl ⟨rfl, rfl, t2, fun _ hf0 => ?_⟩⟩
            by_cases hi0 : i = 0
            · subst hi0; exact t3
            · cases hbt : isBad t 0 a with
              | false => rfl
              | true =>
                have h3 : isBad y 0 a = false := hz (by omega) hf0
                rw [t4 _ _ hbt] at h3; cases h3)
          (fun i x y hi hp hc => ⟨hp.1, hp.2.1.mono (by omega), fun h1 h2 => by
            by_cases hi0 : i = 0
            · subst hi0
              rcases hc with hc | hc
              · exact absurd ((h.live (by omega) (hall 0 (by omega))).1) (by rw [← hp.1]; exact hc)
              · have h3 := of_decide_eq_false hc
                exact absurd (by omega) h3
            · exact hp.2.2 (by omega) h2⟩) FUEL 0 m s (by have := h.l6; omega) (by omega) ⟨rfl, Qb.refl hok hdn hf hs, fun h1 => absurd h1 (by omega)⟩)
      rw [e1]; simp only [Option.bind_some]
      rcases e2 with ⟨rfl, e2, rfl, e3, e4⟩ | ⟨rfl, e2, rfl, e3, e4⟩ | ⟨-, e2⟩
      · rw [if_neg (by simp), follow_eq h]; simp only [Option.bind_some]
        rw [if_neg (by simp)]
        refine ⟨y', rfl, e3.mono (by have := h.l6; omega), ?_⟩
        cases hbt : isBad y' 0 a with
        | false => rfl
        | true =>
          have h1 := e4 (by rw [h.len]; omega) (hb0 (e3.sub _ _ hbt)).2
          rw [hbt] at h1; cases h1
      · exact absurd hnf e2
      · exact e2.elim
    · rw [if_neg hd]
      obtain ⟨e, x', y', e1, e2⟩ := each_end (r := mirror_Mirror_each__mirror_Mirror_Read_1 m bl (a : Int) w s) rfl (P := fun x y => x = m ∧ Qb C (K + m.legs.length) k s lv y ∧ (0 < m.legs.length → (0 : Int) ∈ bl → isBad y 0 a = false)) (Q := fun _ _ => False) (fun x y hp => by rw [hp.1]; exact h.l6)
        (each_rule (L := m.legs.length) (f := mirror_Mirror_each__mirror_Mirror_Read_1_l1 m bl (a : Int) w) (ch := fun i => mirror_Mirror_Read_1 ((i : Nat) : Int) bl) (act := fun i x y => mirror_Mirror_Read_2 ((i : Nat) : Int) x (a : Int) w y) (fun _ _ _ _ => rfl)
          (c := fun i => decide (((i : Nat) : Int) ∈ bl)) (fun i _ => by unfold mirror_Mirror_Read_1; rw [contains_eq (by omega)]; rfl) (fun i x y => x = m ∧ Qb C (K + i) k s lv y ∧ (0 < i → (0 : Int) ∈ bl → isBad y 0 a = false)) (fun _ _ => False) (fun i x y hp => by rw [hp.1])
          (fun i x y hi hp hst _ => by
            obtain ⟨rfl, hq, hz⟩ := hp
            rw [h.len] at hi
            have hms : miss s i = false := (h.live hi (hall i hi)).2
            obtain ⟨p1, p2, p3, p4⟩ := hq.put (w := w) (by omega) hi ha hms (hw i hi).symm
            have hsz := C.hs
            have hwr : y.writes ≤ 1000000000 := by have h1 : (nb y).writes ≤ K + i := hq.q.ok.wr; have h2 : y.writes ≤ K + i := h1; omega
            have hact : mirror_Mirror_Read_2 ((i : Nat) : Int) x (a : Int) w y = some (0, wrS y i a w) := by
              unfold mirror_Mirror_Read_2
              rw [h.gI hi, Int.toNat_natCast, h.dev hi, span_wr (by omega) (by omega) hwr, if_pos (by omega)]; simp only [Option.bind_some]
              have e : ((0 : Nat) : Int) + (a : Int) = ((a : Nat) : Int) := by omega
              rw [e, p1]
            rw [hact]
            refine ⟨0, _, rfl, .inl ⟨rfl, rfl, p2, fun _ hf0 => ?_⟩⟩
            by_cases hi0 : i = 0
            · subst hi0; exact p3
            · cases hbt : isBad (wrS y i a w) 0 a with
              | false => rfl
              | true =>
                have h3 : isBad y 0 a = false := hz (by omega) hf0
                rw [p4 _ _ hbt] at h3; cases h3)
          (fun i x y hi hp hc => ⟨hp.1, hp.2.1.mono (by omega), fun h1 h2 => by
            by_cases hi0 : i = 0
            · subst hi0
              rcases hc with hc | hc
              · exact absurd ((h.live (by omega) (hall 0 (by omega))).1) (by rw [← hp.1]; exact hc)
              · exact absurd h2 (of_decide_eq_false hc)
            · exact hp.2.2 (by omega) h2⟩) FUEL 0 m s (by have := h.l6; omega) (by omega) ⟨rfl, Qb.refl hok hdn hf hs, fun h1 => absurd h1 (by omega)⟩)
      rw [e1]; simp only [Option.bind_some]
      rcases e2 with ⟨rfl, e2, rfl, e3, e4⟩ | ⟨rfl, e2, rfl, e3, e4⟩ | ⟨-, e2⟩
      · rw [if_neg (by simp)]
        refine ⟨y', rfl, e3.mono (by have := h.l6; omega), ?_⟩
        cases hbt : isBad y' 0 a with
        | false => rfl
        | true =>
          have h1 := e4 (by rw [h.len]; omega) (hb0 (e3.sub _ _ hbt)).1
          rw [hbt] at h1; cases h1
      · exact absurd hnf e2
      · exact e2.elim
  rcases fetch_b h hall hok hdn hs ha hw with ⟨h1, h2⟩ | ⟨rfl, h1, h2⟩
  · exact fin (by simp) h1 (fun z => by rw [h1] at z; cases z) h2
  · exact fin (by simp) (hs.off (by decide)) (fun _ => ⟨by simp, by decide⟩) h2
end
end Go.Proofs
set_option linter.unusedSimpArgs false
set_option linter.unusedVariables false
set_option maxRecDepth 20000
set_option maxHeartbeats 4000000
namespace Go.Proofs
open Go.VG
theorem bld_60_0_1_3 (v0 : (Option Addr)) (v1 : Fn) (v2 : (Array Value)) (v3 : (Array Value)) (v4 : (Option Addr)) : ∀ w, (Instr.build 60 (#[(0, .pointer v0), (1, .func v1 v2 v3), (3, .pointer v4)] : Array (Nat × Value))).run Tryz.prog w = .ok (.agg #[.pointer v0, .func v1 v2 v3, .nilIface, .pointer v4, .slice none 0 0, .slice none 0 0]) w := fun w => by kernel_rfl
def volumegrouplaw21_setting_owner (s_0_a : ArrS) (s_0_legs : Int) (s_0_size : Int) (s_0_region : Int) (s_0_log : Bool) (words : List UInt64) : Option (OwnS) :=
  grd (decide (words.length ≤ 65536)) <|
  some ((⟨s_0_legs, s_0_size, s_0_region, s_0_log, none, (trkT words), [], []⟩ : OwnS))
theorem L_volumegrouplaw21_setting_owner {W : World} {bs_0_a : Nat} {Awords : HP} {vwords : Value} {s_0_a : ArrS} {s_0_legs : Int} {s_0_size : Int} {s_0_region : Int} {s_0_log : Bool} {words : List UInt64} {r : OwnS} (rwords : Reads Awords tyU vwords words) (h : volumegrouplaw21_setting_owner s_0_a s_0_legs s_0_size s_0_region s_0_log words = some r) :
    CSpec Tryz.prog W 15 [.agg #[ptr bs_0_a 0, .int .i64 s_0_legs, .int .i64 s_0_size, .int .i64 s_0_region, .bool s_0_log], vwords] [Arr bs_0_a s_0_a, Awords] (fun x : Nat => ptr x 0) (fun _ => True) (fun x F => Arr bs_0_a s_0_a :: Awords :: OwnP bs_0_a x r :: F) := by
 refine CSpec.of_body Tryz.func15 rfl Tryz.ntmps15 rfl fun F => ?_
 show CJ _ _ _ _ _ _ (_ :: _ :: F)
 unfold volumegrouplaw21_setting_owner at h
 refine CJ_pure (len_of rwords del1) fun hlen1 => sR <| oO <| O_box rfl rfl rfl fun b2 => oA rfl rfl <| nT <| sR <| oP (P_makeFunc rfl rfl) rfl <| oA rfl rfl <| nT <| CJ_seq <| AJ_startH 64 (by kernel_rfl) rfl <| aN 0 1 rfl rfl (P_fieldAddr rfl ⟨_, _, _, Tryz.runUnderlying28, rfl, rfl, Tryz.sizeOf26, rfl⟩) rfl <| aV 1 3 rfl rfl (GY_none rfl) eR (V_load rfl foc0 rfl Tryz.isAgg26) rfl <| aN 2 7 rfl rfl (P_move rfl) rfl <| aN 3 15 rfl rfl (P_move rfl) rfl ?_
 obtain ⟨hg1, h⟩ := grd_de h
 refine AJ_op 4 31 rfl (by kernel_rfl) rfl (GY_none rfl) <| O_call (c_Tracked rwords hg1) rfl Tryz.call47 (Dels.cons del2 Dels.nil) rfl fun X3 _ => ⟨fun _ => (t2_ (t2_ (t1_ (eD eR)))), ?_⟩
 refine aN 5 63 rfl rfl (P_build rfl (bld_60_0_1_3 _ _ _ _ _)) rfl <| AJ_op 6 127 rfl (by kernel_rfl) rfl (GY_none rfl) <| O_box rfl rfl rfl fun b5 => ⟨fun h => absurd h (by decide), ?_⟩
 refine aN 7 255 rfl rfl (P_assign rfl) rfl <| aD <| CJ_ret <| QJ_ent (fun h hh => sl_nil (t := tyI) h hh) <| QJ_ent (fun h hh => sl_nil (t := tyI) h hh) <| QJ_ent (Ent.trans (t2_ (t4_ (Ent.trans (fun h hh => optP_none h hh) <| t0_ (t2_ (t1_ eR))))) (OwnP_mk (v0 := s_0_legs) (v1 := s_0_size) (v2 := s_0_region) (v3 := s_0_log) (v4 := none) (v5 := (trkT words)) (v6 := []) (v7 := []) (h0 := b2) (h1 := 0) (h2 := X3) (h3 := ⟨none, 0, 0⟩) (h4 := ⟨none, 0, 0⟩))) ?_
 cases h
 exact fE (res1 Tryz.results15 rfl) b5 (t2_ (t1_ eR))
def volumegrouplaw21_MirrorBad_l1_b (leg : UInt8) (at_2 : List UInt8) (l : List volumegroupmake_Step) (r13 : (Option ArrS) × Nat × Nat × Nat × Bool × (List UInt64)) (rec : ArrS → OwnS → Nat → Option ((OwnS × ArrS) ⊕ Bool)) (x33 : ArrS) (x34 : OwnS) (x35 : Nat) : Option ((OwnS × ArrS) ⊕ Bool) :=
  if (((x35 : Nat) : Int) < ((l.length : Nat) : Int)) then
    if (((l.getD x35 (⟨0, 0, 0, 0⟩ : volumegroupmake_Step))).Kind < (3 : Int)) then
      Option.bind (volumegroupmake_Owner_Step x34 ((l.getD x35 (⟨0, 0, 0, 0⟩ : volumegroupmake_Step))) x33) fun r36 =>
      if (¬ r36.1 = true) then
        some (.inr false)
      else
        if (((x35 : Nat) : Int) < ((at_2.length : Nat) : Int)) then
          grd (decide (¬ ((r13.2.2.1 : Nat) : Int) = 0)) <|
          lt ((sbC r36.2.2 (((((leg.toNat : Nat) : Int)).tmod (((r13.2.1 : Nat) : Int)))) ((((((at_2.getD x35 0).toNat : Nat) : Int)).tmod (((r13.2.2.1 : Nat) : Int)))))) fun w38 =>
          if (w38 ≠ (0 : Int)) then
            some (.inr false)
          else
            rec ((sbS r36.2.2 (((((leg.toNat : Nat) : Int)).tmod (((r13.2.1 : Nat) : Int)))) ((((((at_2.getD x35 0).toNat : Nat) : Int)).tmod (((r13.2.2.1 : Nat) : Int)))) true)) r36.2.1 (x35 + 1)
        else
          rec r36.2.2 r36.2.1 (x35 + 1)
    else
      if (((x35 : Nat) : Int) < ((at_2.length : Nat) : Int)) then
        grd (decide (¬ ((r13.2.2.1 : Nat) : Int) = 0)) <|
        lt ((sbC x33 (((((leg.toNat : Nat) : Int)).tmod (((r13.2.1 : Nat) : Int)))) ((((((at_2.getD x35 0).toNat : Nat) : Int)).tmod (((r13.2.2.1 : Nat) : Int)))))) fun w39 =>
        if (w39 ≠ (0 : Int)) then
          some (.inr false)
        else
          rec ((sbS x33 (((((leg.toNat : Nat) : Int)).tmod (((r13.2.1 : Nat) : Int)))) ((((((at_2.getD x35 0).toNat : Nat) : Int)).tmod (((r13.2.2.1 : Nat) : Int)))) true)) x34 (x35 + 1)
      else
        rec x33 x34 (x35 + 1)
  else
    some (.inl (x34, x33))
def volumegrouplaw21_MirrorBad_l1 (leg : UInt8) (at_2 : List UInt8) (l : List volumegroupmake_Step) (r13 : (Option ArrS) × Nat × Nat × Nat × Bool × (List UInt64)) : Nat → ArrS → OwnS → Nat → Option ((OwnS × ArrS) ⊕ Bool)
  | 0, _, _, _ => none
  | n + 1, x33, x34, x35 => volumegrouplaw21_MirrorBad_l1_b leg at_2 l r13 (volumegrouplaw21_MirrorBad_l1 leg at_2 l r13 n) x33 x34 x35
def volumegrouplaw21_MirrorBad_l2_b (leg : UInt8) (r13 : (Option ArrS) × Nat × Nat × Nat × Bool × (List UInt64)) (r45 : Bool × OwnS × ArrS) (rec : Nat → Option ((Unit) ⊕ Bool)) (x61 : Nat) : Option ((Unit) ⊕ Bool) :=
  if ((((x61 : Nat) : Int) < ((r13.2.2.1 : Nat) : Int)) ∧ (((((leg.toNat : Nat) : Int)).tmod (((r13.2.1 : Nat) : Int))) = (0 : Int))) then
    if ((rdC r45.2.2 (0 : Int) (((x61 : Nat) : Int))) ≠ (0 : Int)) then
      some (.inr false)
    else
      grd (inN64 (x61 + 1)) <|
      rec (x61 + 1)
  else
    some (.inl ())
def volumegrouplaw21_MirrorBad_l2 (leg : UInt8) (r13 : (Option ArrS) × Nat × Nat × Nat × Bool × (List UInt64)) (r45 : Bool × OwnS × ArrS) : Nat → Nat → Option ((Unit) ⊕ Bool)
  | 0, _ => none
  | n + 1, x61 => volumegrouplaw21_MirrorBad_l2_b leg r13 r45 (volumegrouplaw21_MirrorBad_l2 leg r13 r45 n) x61
def volumegrouplaw21_MirrorBad (n_0 : UInt8) (leg : UInt8) (at_2 : List UInt8) (l : List volumegroupmake_Step) : Option (Bool) :=
  Option.bind (volumegroupmake_Few l) fun r3 =>
  if ((¬ r3 = true) ∨ ((20 : Int) < ((at_2.length : Nat) : Int))) then
    Option.bind (volumegrouplaw21_awake) fun r11 =>
    some r11
  else
    Option.bind (volumegrouplaw21_begun n_0) fun r13 =>
    Option.elim r13.1 (
      some false) fun o20 =>
    Option.bind (volumegrouplaw21_setting_owner o20 (((r13.2.1 : Nat) : Int)) (((r13.2.2.1 : Nat) : Int)) (((r13.2.2.2.1 : Nat) : Int)) r13.2.2.2.2.1 r13.2.2.2.2.2) fun r21 =>
    grd (decide (¬ ((r13.2.1 : Nat) : Int) = 0)) <|
    Option.bind (volumegroupmake_Owner_Begin r21 o20) fun r25 =>
    if (¬ r25.1 = true) then
      some false
    else
      seqO (volumegrouplaw21_MirrorBad_l1 leg at_2 l r13 FUEL o20 r25.2 0) fun a32 =>
      Option.bind (volumegroupmake_Owner_All a32.1 false a32.2) fun r45 =>
      if (¬ r45.1 = true) then
        some false
      else
        Option.elim r45.2.1.X (
          none) fun o52 =>
        Option.bind (mirror_Mirror_Failed o52 r45.2.2) fun r53 =>
        if (((r53.length : Nat) : Int) ≠ (0 : Int)) then
          some false
        else
          seqO (volumegrouplaw21_MirrorBad_l2 leg r13 r45 FUEL 0) fun a60 =>
          Option.bind (volumegrouplaw21_awake) fun r67 =>
          some r67
theorem L_volumegrouplaw21_MirrorBad {W : World} {Aat_2 : HP} {vat_2 : Value} {Al : HP} {vl : Value} {n_0 : UInt8} {leg : UInt8} {at_2 : List UInt8} {l : List volumegroupmake_Step} {r : Bool} (rat_2 : Reads Aat_2 tyU8 vat_2 at_2) (rl : Reads Al tyvolumegroupmake_Step vl l) (h : volumegrouplaw21_MirrorBad n_0 leg at_2 l = some r) :
    CSpec Tryz.prog W 9 [.int .u8 (n_0.toNat : Int), .int .u8 (leg.toNat : Int), vat_2, vl] [Aat_2, Al] (fun x : Unit => .bool r) (fun _ => True) (fun x F => Aat_2 :: Al :: F) := by
 refine CSpec.of_body Tryz.func9 rfl Tryz.ntmps9 rfl fun F => ?_
 show CJ _ _ _ _ _ _ (_ :: _ :: F)
 unfold volumegrouplaw21_MirrorBad at h
 refine CJ_pure (len_of rat_2 del0) fun hlen1 => CJ_pure (len_of rl del1) fun hlen2 => sR <| oA rfl rfl <| nT <| CJ_seq <| sR <| oM rfl rfl ?_
 obtain ⟨r3, hr4, h⟩ := bind_e h
 refine oO <| O_call (L_volumegroupmake_Few rl hr4) rfl Tryz.call12 (Dels.cons del1 Dels.nil) rfl fun _ _ => oP (P_not rfl) rfl <| oM rfl rfl <| RJ_mbF rfl rfl rfl (fun hG5 => have hP6 : ¬ (¬ r3 = true) := nP ((bT_not Iff.rfl)) hG5; VJ_P (P_move rfl)) <| RJ_mbF rfl rfl rfl (fun hG7 => have hP8 : ¬ (¬ r3 = true) := nP ((bT_not Iff.rfl)) hG7; V_len (mbx hG7 rfl) foc1 rat_2 Tryz.runUnderlying79) <| RJ_mbF rfl rfl rfl (fun hG9 => have hP10 : ¬ (¬ r3 = true) := nP ((bT_not Iff.rfl)) hG9; VJ_P (P_gtr (a := ((at_2.length : Nat) : Int)) (b := (20 : Int)) (mbx hG9 rfl) rfl)) <| oP (P_pickOr rfl rfl (fun hh => mbx (not_f hh) rfl)) rfl <| nT <| CJ_condP rfl (bT_or (bT_not Iff.rfl) bT_dec) (fun hg1 => ?_) (fun hg1 => ?_)
 ·
  replace h := ite_t hg1 h
  refine sR ?_
  obtain ⟨r11, hr12, h⟩ := bind_e h
  refine oO <| O_call (L_volumegrouplaw21_awake hr12) rfl Tryz.call13 Dels.nil rfl fun _ _ => oA rfl rfl <| nT <| CJ_ret <| QJ_then_ret ?_
  cases h
  exact fE (res1 Tryz.results9 rfl) () (t1_ eR)
 ·
  replace h := ite_f hg1 h
  refine kT <| sR <| oM rfl rfl ?_
  obtain ⟨r13, hr14, h⟩ := bind_e h
  refine oO <| O_call (L_volumegrouplaw21_begun hr14) rfl Tryz.call14 Dels.nil rfl fun X15 _ => oM rfl rfl <| oP (P_extract rfl rfl) rfl <| oP (P_extract rfl rfl) rfl <| oO <| O_alloc Tryz.zeroValue28 rfl rfl fun b18 => oO <| O_storeN rfl rfl foc0 Tryz.sizeOf28 rfl rfl (by simp only [allOne, oneCell_oval, oneCell_oif, oneCell_oifc, Bool.true_and]; rfl) <| oA rfl rfl <| nT <| CJ_seq <| sR <| oP (P_fieldAddr rfl ⟨_, _, _, Tryz.runUnderlying28, rfl, rfl, Tryz.sizeOf26, rfl⟩) rfl <| oV (V_load rfl foc0 rfl Tryz.isAgg26) rfl ?_
  rcases opt_e h with ⟨ht19, h⟩ | ⟨o20, ht19, h⟩
  ·
   rw [ht19]
   refine RJ_ent (t0_ (t1_ (t1_ (t1_ (eD eR))))) <| oP (P_eqlNN rfl rfl Tryz.underlying26) rfl <| nT <| CJ_condT rfl rfl <| sR <| oA rfl rfl <| nT <| CJ_ret <| QJ_then_ret ?_
   cases h
   exact fE (res1 Tryz.results9 rfl) () (t3_ (t2_ (eD (eD eR))))
  ·
   rw [ht19]
   refine RJ_ent (Ent.takeC (A' := Arr X15.1 o20) del1 rfl eR) <| oP (P_eqlPN rfl rfl Tryz.underlying26) rfl <| nT <| CJ_condF rfl rfl <| kT <| sR <| oV (V_loadN rfl foc1 Tryz.isAgg28 Tryz.sizeOf28 rfl rfl) rfl <| oM rfl rfl ?_
   obtain ⟨r21, hr22, h⟩ := bind_e h
   refine oO <| O_call (L_volumegrouplaw21_setting_owner (Reads.rdp _ _ _) hr22) rfl Tryz.call15 (Dels.cons del0 (Dels.cons del1 Dels.nil)) rfl fun X23 _ => oA rfl rfl <| nT <| sR <| oM rfl rfl <| oP (P_convSame rfl Tryz.runUnderlying5 Tryz.runUnderlying3 (wrap64_u _ (by have h9 := leg.toNat_lt; exact (by omega : leg.toNat < 9223372036854775808)))) rfl <| oP (P_fieldAddr rfl ⟨_, _, _, Tryz.runUnderlying28, rfl, rfl, Tryz.sizeOf3, rfl⟩) rfl <| oV (V_load rfl foc3 rfl Tryz.isAgg3) rfl ?_
   obtain ⟨hg2, h⟩ := grd_de h
   refine oP (P_remT (a := ((leg.toNat : Nat) : Int)) (b := ((r13.2.1 : Nat) : Int)) rfl rfl hg2) rfl <| oA rfl rfl <| nT <| CJ_seq <| sR <| oM rfl rfl ?_
   obtain ⟨r25, hr26, h⟩ := bind_e h
   refine oO <| O_call (L_volumegroupmake_Owner_Begin hr26) rfl Tryz.call16 (Dels.cons del2 (Dels.cons del0 Dels.nil)) rfl fun _ _ => oP (P_not rfl) rfl <| nT <| CJ_condP rfl (bT_not Iff.rfl) (fun hg3 => ?_) (fun hg3 => ?_)
   ·
    replace h := ite_t hg3 h
    refine sR <| oA rfl rfl <| nT <| CJ_ret <| QJ_then_ret ?_
    cases h
    exact fE (res1 Tryz.results9 rfl) () (t5_ (t4_ (eD (eD (eD (eD eR))))))
   ·
    replace h := ite_f hg3 h
    refine kT <| CJ_seq <| sR <| oA rfl rfl <| nT ?_
    obtain ⟨y29, hl27, hK28⟩ := seq_e h
    refine CJ_cutT (X := OwnS × ArrS) [8, 13, 45, 46, 47, 48, 49, 50, 51, 52, 53, 54, 55, 56, 57, 58, 59, 60, 61, 62, 63, 64, 65, 66, 67, 68, 69, 70, 71, 72, 73, 74, 75, 76, 77, 78, 79, 80, 81, 82, 83, 84] (fun a32 => ([] : Slots)) (fun a32 R => OwnP X15.1 X23 a32.1 :: Arr X15.1 a32.2 :: R) (fun a32 => y29 = .inl a32) (Dels.cons del0 (Dels.cons del0 Dels.nil)) ?_ ?_
    ·
     refine CJ_block <| CJ_loopR (X := Nat × ArrS × OwnS × Nat) [8, 13, 45, 46, 47, 48, 49, 50, 51, 52, 53, 54, 55, 56, 57, 58, 59, 60, 61, 62, 63, 64, 65, 66, 67, 68, 69, 70, 71, 72, 73, 74, 75, 76, 77, 78, 79, 80, 81, 82, 83, 84] (fun ⟨n, x33, x34, x35⟩ => ([(13, .int .i64 (((x35 : Nat) : Int)))] : Slots)) (fun ⟨n, x33, x34, x35⟩ R => Arr X15.1 x33 :: OwnP X15.1 X23 x34 :: R) (fun ⟨n, x33, x34, x35⟩ => volumegrouplaw21_MirrorBad_l1 leg at_2 l r13 n x33 x34 x35 = some y29) (fun ⟨n, x33, x34, x35⟩ => n) ⟨FUEL, o20, r25.2, 0⟩ ?_ ?_ (t1_ eR) ?_
     · exact hl27
     · exact ⟨rfl, True.intro⟩
     ·
      rintro ⟨n, x33, x34, x35⟩ h
      cases n with
      | zero => exact none_e h
      | succ n => ?_
      replace h : volumegrouplaw21_MirrorBad_l1_b leg at_2 l r13 (volumegrouplaw21_MirrorBad_l1 leg at_2 l r13 n) x33 x34 x35 = some y29 := h
      unfold volumegrouplaw21_MirrorBad_l1_b at h
      show CJ _ _ _ _ _ (([(13, .int .i64 (((x35 : Nat) : Int)))] : Slots) ++ forget _ _) (Arr X15.1 x33 :: OwnP X15.1 X23 x34 :: _)
      refine CJ_seq <| sR <| oM rfl rfl <| oM rfl rfl <| oV (V_len rfl foc4 rl Tryz.runUnderlying22) rfl <| oP (P_lss (a := ((x35 : Nat) : Int)) (b := ((l.length : Nat) : Int)) rfl rfl) rfl <| nT <| CJ_condP rfl bT_dec (fun hg4 => ?_) (fun hg4 => ?_)
      ·
       replace h := ite_t hg4 h
       refine kT <| CJ_seq <| CJ_block <| CJ_seq <| sR <| oM rfl rfl <| oM rfl rfl <| oV (V_index (i := x35) rfl rfl rfl (by omega) foc4 rl Tryz.runUnderlying22 Tryz.sizeOf37) rfl <| oP (P_fieldE rfl ⟨_, _, _, Tryz.runUnderlying37, rfl, rfl, Tryz.sizeOf3, rfl⟩) rfl <| oV (V_loadE rfl rfl (by omega) foc4 rl rfl rfl Tryz.isAgg3) rfl <| oP (P_lss (a := ((l.getD x35 (⟨0, 0, 0, 0⟩ : volumegroupmake_Step))).Kind) (b := (3 : Int)) rfl rfl) rfl <| oM rfl rfl <| RJ_splitP 57 rfl bT_dec (fun hg5B hg5 => ?_) (fun hg5B hg5 => ?_)
       ·
        replace h := ite_t hg5 h
        refine gP (GY_yes rfl rfl rfl hg5B) (P_move rfl) rfl <| gP (GY_yes rfl rfl rfl hg5B) (P_move rfl) rfl <| gP (GY_yes rfl rfl rfl hg5B) (P_move rfl) rfl <| gV (GY_yes rfl rfl rfl hg5B) (V_index (i := x35) rfl rfl rfl (by omega) foc4 rl Tryz.runUnderlying22 Tryz.sizeOf37) rfl <| gV (GY_yes rfl rfl rfl hg5B) (V_loadEN rfl rfl (by omega) foc4 rl rfl rfl Tryz.isAgg37 Tryz.sizeOf37) rfl ?_
        obtain ⟨r36, hr37, h⟩ := bind_e h
        refine RJ_gy (GY_yes rfl rfl rfl hg5B) <| O_call (L_volumegroupmake_Owner_Step hr37) rfl Tryz.call18 (Dels.cons del1 (Dels.cons del0 Dels.nil)) rfl fun _ _ => gP (GY_yes rfl rfl rfl hg5B) (P_not rfl) rfl <| oP (P_pickT rfl hg5B rfl) rfl <| nT <| CJ_condP rfl (bT_not Iff.rfl) (fun hg6 => ?_) (fun hg6 => ?_)
        ·
         replace h := ite_t hg6 h
         refine sR <| oA rfl rfl <| nT <| CJ_ret <| QJ_then_ret <| QJ_block_ret <| QJ_then_ret <| QJ_round_ret <| QJ_block_ret <| QJ_then_ret ?_
         have hE := Option.some.inj h
         replace hE := seq_inr hK28 hE.symm
         subst hE
         exact fE (res1 Tryz.results9 rfl) () (t5_ (t4_ (eD (eD (eD (eD eR))))))
        ·
         replace h := ite_f hg6 h
         refine kT <| CJ_seq <| AJ_startH 65536 (by kernel_rfl) rfl <| aN 0 1 rfl rfl (P_move rfl) rfl <| aN 1 3 rfl rfl (P_move rfl) rfl <| aV 2 7 rfl rfl (GY_none rfl) eR (V_len rfl foc5 rat_2 Tryz.runUnderlying79) rfl <| aN 3 15 rfl rfl (P_lss (a := ((x35 : Nat) : Int)) (b := ((at_2.length : Nat) : Int)) rfl rfl) rfl <| aN 4 31 rfl rfl (P_move rfl) rfl <| AJ_splitP 70 rfl bT_dec (fun hg7B hg7 => ?_) (fun hg7B hg7 => ?_)
         ·
          replace h := ite_t hg7 h
          refine aP 5 63 rfl rfl (GY_yes rfl rfl rfl hg7B) (P_fieldAddr rfl ⟨_, _, _, Tryz.runUnderlying28, rfl, rfl, Tryz.sizeOf26, rfl⟩) rfl <| aV 6 127 rfl rfl (GY_yes rfl rfl rfl hg7B) eR (V_load rfl foc3 rfl Tryz.isAgg26) rfl <| aP 7 255 rfl rfl (GY_yes rfl rfl rfl hg7B) (P_move rfl) rfl <| aP 8 511 rfl rfl (GY_yes rfl rfl rfl hg7B) (P_move rfl) rfl <| aP 9 1023 rfl rfl (GY_yes rfl rfl rfl hg7B) (P_move rfl) rfl <| aV 10 2047 rfl rfl (GY_yes rfl rfl rfl hg7B) eR (V_index (i := x35) rfl rfl rfl (by omega) foc5 rat_2 Tryz.runUnderlying79 Tryz.sizeOf5) rfl <| aV 11 4095 rfl rfl (GY_yes rfl rfl rfl hg7B) eR (V_loadE rfl rfl (by omega) foc5 rat_2 rfl rfl Tryz.isAgg5) rfl <| aP 12 8191 rfl rfl (GY_yes rfl rfl rfl hg7B) (P_convSame rfl Tryz.runUnderlying5 Tryz.runUnderlying3 (wrap64_u _ (by have h9 := (at_2.getD x35 0).toNat_lt; exact (by omega : (at_2.getD x35 0).toNat < 9223372036854775808)))) rfl <| aP 13 16383 rfl rfl (GY_yes rfl rfl rfl hg7B) (P_fieldAddr rfl ⟨_, _, _, Tryz.runUnderlying28, rfl, rfl, Tryz.sizeOf3, rfl⟩) rfl <| aV 14 32767 rfl rfl (GY_yes rfl rfl rfl hg7B) eR (V_load rfl foc3 rfl Tryz.isAgg3) rfl ?_
          obtain ⟨hg8, h⟩ := grd_de h
          refine aP 15 65535 rfl rfl (GY_yes rfl rfl rfl hg7B) (P_remT (a := (((at_2.getD x35 0).toNat : Nat) : Int)) (b := ((r13.2.2.1 : Nat) : Int)) rfl rfl hg8) rfl <| AJ_op 16 131071 rfl (by kernel_rfl) rfl (GY_yes rfl rfl rfl hg7B) <| O_call (c_SetBad) rfl Tryz.call35 (Dels.cons del1 Dels.nil) rfl fun _ _ => ⟨fun h => absurd h (by decide), ?_⟩
          obtain ⟨w38, hw38, h⟩ := lt_e h
          rw [← hw38]
          refine aP 17 262143 rfl rfl (GY_yes rfl rfl rfl hg7B) (P_neq (a := w38) (b := (0 : Int)) rfl rfl) rfl <| aN 18 524287 rfl rfl (P_pickT rfl hg7B rfl) rfl <| aD <| CJ_condP rfl bT_dec (fun hg9 => ?_) (fun hg9 => ?_)
          ·
           replace h := ite_t hg9 h
           refine sR <| oA rfl rfl <| nT <| CJ_ret <| QJ_block_ret <| QJ_then_ret <| QJ_round_ret <| QJ_block_ret <| QJ_then_ret ?_
           have hE := Option.some.inj h
           replace hE := seq_inr hK28 hE.symm
           subst hE
           exact fE (res1 Tryz.results9 rfl) () (t5_ (t4_ (eD (eD (eD (eD eR))))))
          ·
           replace h := ite_f hg9 h
           exact CJ_skip <| QJ_block_normal <| QJ_then <| CJ_region <| oM rfl rfl <| oP (PJ_eq (P_add (a := ((x35 : Nat) : Int)) (b := (1 : Int)) rfl rfl (by omega)) rfl) rfl <| oA rfl rfl <| RJ_nil <| nR ⟨n, (sbS r36.2.2 (((((leg.toNat : Nat) : Int)).tmod (((r13.2.1 : Nat) : Int)))) ((((((at_2.getD x35 0).toNat : Nat) : Int)).tmod (((r13.2.2.1 : Nat) : Int)))) true), r36.2.1, (x35 + 1)⟩ h ⟨rfl, True.intro⟩ eR
         ·
          replace h := ite_f hg7 h
          exact aS 5 63 rfl rfl (GY_no rfl rfl rfl hg7B) rfl <| aS 6 127 rfl rfl (GY_no rfl rfl rfl hg7B) rfl <| aS 7 255 rfl rfl (GY_no rfl rfl rfl hg7B) rfl <| aS 8 511 rfl rfl (GY_no rfl rfl rfl hg7B) rfl <| aS 9 1023 rfl rfl (GY_no rfl rfl rfl hg7B) rfl <| aS 10 2047 rfl rfl (GY_no rfl rfl rfl hg7B) rfl <| aS 11 4095 rfl rfl (GY_no rfl rfl rfl hg7B) rfl <| aS 12 8191 rfl rfl (GY_no rfl rfl rfl hg7B) rfl <| aS 13 16383 rfl rfl (GY_no rfl rfl rfl hg7B) rfl <| aS 14 32767 rfl rfl (GY_no rfl rfl rfl hg7B) rfl <| aS 15 65535 rfl rfl (GY_no rfl rfl rfl hg7B) rfl <| aS 16 131071 rfl rfl (GY_no rfl rfl rfl hg7B) rfl <| aS 17 262143 rfl rfl (GY_no rfl rfl rfl hg7B) rfl <| aN 18 524287 rfl rfl (P_pickF rfl hg7B rfl) rfl <| aD <| CJ_condF rfl rfl <| CJ_skip <| QJ_block_normal <| QJ_then <| CJ_region <| oM rfl rfl <| oP (PJ_eq (P_add (a := ((x35 : Nat) : Int)) (b := (1 : Int)) rfl rfl (by omega)) rfl) rfl <| oA rfl rfl <| RJ_nil <| nR ⟨n, r36.2.2, r36.2.1, (x35 + 1)⟩ h ⟨rfl, True.intro⟩ (t1_ eR)
       ·
        replace h := ite_f hg5 h
        refine RJ_gn (GY_no rfl rfl rfl hg5B) rfl rfl <| RJ_gn (GY_no rfl rfl rfl hg5B) rfl rfl <| RJ_gn (GY_no rfl rfl rfl hg5B) rfl rfl <| RJ_gn (GY_no rfl rfl rfl hg5B) rfl rfl <| RJ_gn (GY_no rfl rfl rfl hg5B) rfl rfl <| RJ_gn (GY_no rfl rfl rfl hg5B) rfl rfl <| RJ_gn (GY_no rfl rfl rfl hg5B) rfl rfl <| oP (P_pickF rfl hg5B rfl) rfl <| nT <| CJ_condF rfl rfl <| kT <| CJ_seq <| AJ_startH 65536 (by kernel_rfl) rfl <| aN 0 1 rfl rfl (P_move rfl) rfl <| aN 1 3 rfl rfl (P_move rfl) rfl <| aV 2 7 rfl rfl (GY_none rfl) eR (V_len rfl foc5 rat_2 Tryz.runUnderlying79) rfl <| aN 3 15 rfl rfl (P_lss (a := ((x35 : Nat) : Int)) (b := ((at_2.length : Nat) : Int)) rfl rfl) rfl <| aN 4 31 rfl rfl (P_move rfl) rfl <| AJ_splitP 70 rfl bT_dec (fun hg10B hg10 => ?_) (fun hg10B hg10 => ?_)
        ·
         replace h := ite_t hg10 h
         refine aP 5 63 rfl rfl (GY_yes rfl rfl rfl hg10B) (P_fieldAddr rfl ⟨_, _, _, Tryz.runUnderlying28, rfl, rfl, Tryz.sizeOf26, rfl⟩) rfl <| aV 6 127 rfl rfl (GY_yes rfl rfl rfl hg10B) eR (V_load rfl foc3 rfl Tryz.isAgg26) rfl <| aP 7 255 rfl rfl (GY_yes rfl rfl rfl hg10B) (P_move rfl) rfl <| aP 8 511 rfl rfl (GY_yes rfl rfl rfl hg10B) (P_move rfl) rfl <| aP 9 1023 rfl rfl (GY_yes rfl rfl rfl hg10B) (P_move rfl) rfl <| aV 10 2047 rfl rfl (GY_yes rfl rfl rfl hg10B) eR (V_index (i := x35) rfl rfl rfl (by omega) foc5 rat_2 Tryz.runUnderlying79 Tryz.sizeOf5) rfl <| aV 11 4095 rfl rfl (GY_yes rfl rfl rfl hg10B) eR (V_loadE rfl rfl (by omega) foc5 rat_2 rfl rfl Tryz.isAgg5) rfl <| aP 12 8191 rfl rfl (GY_yes rfl rfl rfl hg10B) (P_convSame rfl Tryz.runUnderlying5 Tryz.runUnderlying3 (wrap64_u _ (by have h9 := (at_2.getD x35 0).toNat_lt; exact (by omega : (at_2.getD x35 0).toNat < 9223372036854775808)))) rfl <| aP 13 16383 rfl rfl (GY_yes rfl rfl rfl hg10B) (P_fieldAddr rfl ⟨_, _, _, Tryz.runUnderlying28, rfl, rfl, Tryz.sizeOf3, rfl⟩) rfl <| aV 14 32767 rfl rfl (GY_yes rfl rfl rfl hg10B) eR (V_load rfl foc3 rfl Tryz.isAgg3) rfl ?_
         obtain ⟨hg11, h⟩ := grd_de h
         refine aP 15 65535 rfl rfl (GY_yes rfl rfl rfl hg10B) (P_remT (a := (((at_2.getD x35 0).toNat : Nat) : Int)) (b := ((r13.2.2.1 : Nat) : Int)) rfl rfl hg11) rfl <| AJ_op 16 131071 rfl (by kernel_rfl) rfl (GY_yes rfl rfl rfl hg10B) <| O_call (c_SetBad) rfl Tryz.call35 (Dels.cons del0 Dels.nil) rfl fun _ _ => ⟨fun h => absurd h (by decide), ?_⟩
         obtain ⟨w39, hw39, h⟩ := lt_e h
         rw [← hw39]
         refine aP 17 262143 rfl rfl (GY_yes rfl rfl rfl hg10B) (P_neq (a := w39) (b := (0 : Int)) rfl rfl) rfl <| aN 18 524287 rfl rfl (P_pickT rfl hg10B rfl) rfl <| aD <| CJ_condP rfl bT_dec (fun hg12 => ?_) (fun hg12 => ?_)
         ·
          replace h := ite_t hg12 h
          refine sR <| oA rfl rfl <| nT <| CJ_ret <| QJ_block_ret <| QJ_then_ret <| QJ_round_ret <| QJ_block_ret <| QJ_then_ret ?_
          have hE := Option.some.inj h
          replace hE := seq_inr hK28 hE.symm
          subst hE
          exact fE (res1 Tryz.results9 rfl) () (t5_ (t4_ (eD (eD (eD (eD eR))))))
         ·
          replace h := ite_f hg12 h
          exact CJ_skip <| QJ_block_normal <| QJ_then <| CJ_region <| oM rfl rfl <| oP (PJ_eq (P_add (a := ((x35 : Nat) : Int)) (b := (1 : Int)) rfl rfl (by omega)) rfl) rfl <| oA rfl rfl <| RJ_nil <| nR ⟨n, (sbS x33 (((((leg.toNat : Nat) : Int)).tmod (((r13.2.1 : Nat) : Int)))) ((((((at_2.getD x35 0).toNat : Nat) : Int)).tmod (((r13.2.2.1 : Nat) : Int)))) true), x34, (x35 + 1)⟩ h ⟨rfl, True.intro⟩ eR
        ·
         replace h := ite_f hg10 h
         exact aS 5 63 rfl rfl (GY_no rfl rfl rfl hg10B) rfl <| aS 6 127 rfl rfl (GY_no rfl rfl rfl hg10B) rfl <| aS 7 255 rfl rfl (GY_no rfl rfl rfl hg10B) rfl <| aS 8 511 rfl rfl (GY_no rfl rfl rfl hg10B) rfl <| aS 9 1023 rfl rfl (GY_no rfl rfl rfl hg10B) rfl <| aS 10 2047 rfl rfl (GY_no rfl rfl rfl hg10B) rfl <| aS 11 4095 rfl rfl (GY_no rfl rfl rfl hg10B) rfl <| aS 12 8191 rfl rfl (GY_no rfl rfl rfl hg10B) rfl <| aS 13 16383 rfl rfl (GY_no rfl rfl rfl hg10B) rfl <| aS 14 32767 rfl rfl (GY_no rfl rfl rfl hg10B) rfl <| aS 15 65535 rfl rfl (GY_no rfl rfl rfl hg10B) rfl <| aS 16 131071 rfl rfl (GY_no rfl rfl rfl hg10B) rfl <| aS 17 262143 rfl rfl (GY_no rfl rfl rfl hg10B) rfl <| aN 18 524287 rfl rfl (P_pickF rfl hg10B rfl) rfl <| aD <| CJ_condF rfl rfl <| CJ_skip <| QJ_block_normal <| QJ_then <| CJ_region <| oM rfl rfl <| oP (PJ_eq (P_add (a := ((x35 : Nat) : Int)) (b := (1 : Int)) rfl rfl (by omega)) rfl) rfl <| oA rfl rfl <| RJ_nil <| nR ⟨n, x33, x34, (x35 + 1)⟩ h ⟨rfl, True.intro⟩ eR
      ·
       replace h := ite_f hg4 h
       exact CJ_exit <| QJ_then_exit <| QJ_round_exit <| QJ_block_here <| cR (x34, x33) (Option.some.inj h).symm True.intro (t1_ eR)
    ·
     rintro a32 hy40
     replace h := seq_inl hK28 hy40
     show CJ _ _ _ _ _ (([] : Slots) ++ forget _ _) (OwnP X15.1 X23 a32.1 :: Arr X15.1 a32.2 :: _)
     refine CJ_seq <| CJ_seq <| CJ_entX (Ent.transX (t0_ eR) (OwnP_open (l := a32.1))) fun oc41 => lC del4 fun hlen43 => lC del5 fun hlen44 => CJ_region <| oM rfl rfl <| RJ_ent (Ent.trans eR (OwnP_mk (v0 := a32.1.Open_1) (v1 := a32.1.Open_2) (v2 := a32.1.Open_3) (v3 := a32.1.Open_4) (v4 := a32.1.X) (v5 := a32.1.T) (v6 := a32.1.Stale) (v7 := a32.1.Lost) (h0 := oc41.1) (h1 := oc41.2.1) (h2 := oc41.2.2.1) (h3 := oc41.2.2.2.1) (h4 := oc41.2.2.2.2))) ?_
     obtain ⟨r45, hr46, h⟩ := bind_e h
     refine oO <| O_call (L_volumegroupmake_Owner_All hr46) rfl Tryz.call34 (Dels.cons del0 (Dels.cons del0 Dels.nil)) rfl fun _ _ => oP (P_not rfl) rfl <| oM rfl rfl <| RJ_splitP 88 rfl (bT_not Iff.rfl) (fun hg13B hg13 => ?_) (fun hg13B hg13 => ?_)
     ·
      replace h := ite_t hg13 h
      refine RJ_gn (GY_no rfl rfl rfl hg13B) rfl rfl <| RJ_gn (GY_no rfl rfl rfl hg13B) rfl rfl <| RJ_gn (GY_no rfl rfl rfl hg13B) rfl rfl <| RJ_gn (GY_no rfl rfl rfl hg13B) rfl rfl <| RJ_gn (GY_no rfl rfl rfl hg13B) rfl rfl <| RJ_gn (GY_no rfl rfl rfl hg13B) rfl rfl <| RJ_gn (GY_no rfl rfl rfl hg13B) rfl rfl <| oP (P_pickT rfl hg13B rfl) rfl <| nT <| CJ_condT rfl rfl <| sR <| oA rfl rfl <| nT <| CJ_ret <| QJ_then_ret ?_
      cases h
      exact fE (res1 Tryz.results9 rfl) () (t5_ (t4_ (eD (eD (eD (eD eR))))))
     ·
      replace h := ite_f hg13 h
      refine gP (GY_yes rfl rfl rfl hg13B) (P_move rfl) rfl <| gP (GY_yes rfl rfl rfl hg13B) (P_nilCheck rfl) rfl <| gP (GY_yes rfl rfl rfl hg13B) (P_fieldAddr rfl ⟨_, _, _, Tryz.runUnderlying60, rfl, rfl, Tryz.sizeOf57, rfl⟩) rfl <| RJ_entX (Ent.transX (t0_ eR) (OwnP_open (l := r45.2.1))) fun oc47 => RJ_pure (len_of (Reads.sl _ _ _) del4) fun hlen49 => RJ_pure (len_of (Reads.sl _ _ _) del5) fun hlen50 => gV (GY_yes rfl rfl rfl hg13B) (V_load rfl foc0 rfl Tryz.isAgg57) rfl ?_
      rcases opt_e h with ⟨ht51, h⟩ | ⟨o52, ht51, h⟩
      ·
       rw [ht51]
       exact RJ_ent (t0_ (t0_ (t1_ (t1_ (t1_ (t1_ (t1_ (t1_ (t1_ (t1_ (eD eR))))))))))) <| none_e h
      ·
       rw [ht51]
       refine RJ_ent (Ent.takeC (A' := MirP X15.1 oc47.2.1 o52) del2 rfl eR) ?_
       obtain ⟨r53, hr54, h⟩ := bind_e h
       refine RJ_gy (GY_yes rfl rfl rfl hg13B) <| O_callI rfl (ICall.of (fun w => by kernel_rfl) Tryz.call97 (L_mirror_Mirror_Failed hr54)) rfl (Dels.cons del0 (Dels.cons del5 Dels.nil)) rfl fun X55 _ => gV (GY_yes rfl rfl rfl hg13B) (V_len rfl foc2 (Reads.sl _ _ _) Tryz.runUnderlying45) rfl <| gP (GY_yes rfl rfl rfl hg13B) (P_neq (a := ((r53.length : Nat) : Int)) (b := (0 : Int)) rfl rfl) rfl <| oP (P_pickF rfl hg13B rfl) rfl <| RJ_nil <| QJ_ent (Ent.trans (t3_ (t3_ (t0_ (t2_ (t2_ (t2_ eR)))))) (OwnP_mk (v0 := r45.2.1.Open_1) (v1 := r45.2.1.Open_2) (v2 := r45.2.1.Open_3) (v3 := r45.2.1.Open_4) (v4 := (some o52)) (v5 := r45.2.1.T) (v6 := r45.2.1.Stale) (v7 := r45.2.1.Lost) (h0 := oc47.1) (h1 := oc47.2.1) (h2 := oc47.2.2.1) (h3 := oc47.2.2.2.1) (h4 := oc47.2.2.2.2))) <| QJ_ent (t1_ (t3_ (t3_ (t3_ (eD (eD (eD eR))))))) <| QJ_then <| CJ_condP rfl bT_dec (fun hg14 => ?_) (fun hg14 => ?_)
       ·
        replace h := ite_t hg14 h
        refine sR <| oA rfl rfl <| nT <| CJ_ret <| QJ_then_ret ?_
        cases h
        exact fE (res1 Tryz.results9 rfl) () (t3_ (t2_ (eD (eD eR))))
       ·
        replace h := ite_f hg14 h
        refine kT <| CJ_seq <| sR <| oA rfl rfl <| nT ?_
        obtain ⟨y59, hl57, hK58⟩ := seq_e h
        refine CJ_cutT (X := Unit) [8, 14, 15, 16, 97, 98, 99, 100, 101, 102, 103, 104, 105, 106, 107, 108, 109, 110, 111, 112, 113, 114, 115] (fun _ => ([] : Slots)) (fun _ R => R) (fun _ => y59 = .inl ()) Dels.nil ?_ ?_
        ·
         refine CJ_block <| CJ_loopR (X := Nat × Nat) [8, 14, 15, 16, 97, 98, 99, 100, 101, 102, 103, 104, 105, 106, 107, 108, 109, 110, 111, 112, 113, 114, 115] (fun ⟨n, x61⟩ => ([(14, .int .i64 (((x61 : Nat) : Int)))] : Slots)) (fun ⟨n, x61⟩ R => R) (fun ⟨n, x61⟩ => volumegrouplaw21_MirrorBad_l2 leg r13 r45 n x61 = some y59) (fun ⟨n, x61⟩ => n) ⟨FUEL, 0⟩ ?_ ?_ eR ?_
         · exact hl57
         · exact ⟨rfl, True.intro⟩
         ·
          rintro ⟨n, x61⟩ h
          cases n with
          | zero => exact none_e h
          | succ n => ?_
          replace h : volumegrouplaw21_MirrorBad_l2_b leg r13 r45 (volumegrouplaw21_MirrorBad_l2 leg r13 r45 n) x61 = some y59 := h
          unfold volumegrouplaw21_MirrorBad_l2_b at h
          show CJ _ _ _ _ _ (([(14, .int .i64 (((x61 : Nat) : Int)))] : Slots) ++ forget _ _) (_)
          refine CJ_seq <| sR <| oM rfl rfl <| oP (P_fieldAddr rfl ⟨_, _, _, Tryz.runUnderlying28, rfl, rfl, Tryz.sizeOf3, rfl⟩) rfl <| oV (V_load rfl foc1 rfl Tryz.isAgg3) rfl <| oP (P_lss (a := ((x61 : Nat) : Int)) (b := ((r13.2.2.1 : Nat) : Int)) rfl rfl) rfl <| oM rfl rfl <| RJ_mbT rfl rfl rfl (fun hG62 => have hP63 : (((x61 : Nat) : Int) < ((r13.2.2.1 : Nat) : Int)) := (bT_dec).1 hG62; VJ_P (P_move rfl)) <| RJ_mbT rfl rfl rfl (fun hG64 => have hP65 : (((x61 : Nat) : Int) < ((r13.2.2.1 : Nat) : Int)) := (bT_dec).1 hG64; VJ_P (P_eql (a := ((((leg.toNat : Nat) : Int)).tmod (((r13.2.1 : Nat) : Int)))) (b := (0 : Int)) (mbx hG64 rfl) rfl)) <| oP (P_pickAnd rfl (fun hh => mbx hh rfl) rfl) rfl <| nT <| CJ_condP rfl (bT_and bT_dec bT_dec) (fun hg15 => ?_) (fun hg15 => ?_)
          ·
           replace h := ite_t hg15 h
           refine kT <| CJ_seq <| CJ_block <| sR <| oP (P_fieldAddr rfl ⟨_, _, _, Tryz.runUnderlying28, rfl, rfl, Tryz.sizeOf26, rfl⟩) rfl <| oV (V_load rfl foc1 rfl Tryz.isAgg26) rfl <| oM rfl rfl <| oO <| O_call (c_Read) rfl Tryz.call36 (Dels.cons del0 Dels.nil) rfl fun _ _ => oM rfl rfl <| oP (P_extract rfl rfl) rfl <| oP (P_extract rfl rfl) rfl <| oA rfl rfl <| oA rfl rfl <| nT <| sR <| oM rfl rfl <| oP (P_neq (a := (rdC r45.2.2 (0 : Int) (((x61 : Nat) : Int)))) (b := (0 : Int)) rfl rfl) rfl <| nT <| CJ_condP rfl bT_dec (fun hg16 => ?_) (fun hg16 => ?_)
           ·
            replace h := ite_t hg16 h
            refine sR <| oA rfl rfl <| nT <| CJ_ret <| QJ_block_ret <| QJ_then_ret <| QJ_round_ret <| QJ_block_ret <| QJ_then_ret ?_
            have hE := Option.some.inj h
            replace hE := seq_inr hK58 hE.symm
            subst hE
            exact fE (res1 Tryz.results9 rfl) () (t3_ (t2_ (eD (eD eR))))
           ·
            replace h := ite_f hg16 h
            refine CJ_skip <| QJ_block_normal <| QJ_then <| CJ_region <| oM rfl rfl ?_
            obtain ⟨hg17, h⟩ := grd_Ne h
            exact oP (PJ_eq (P_add (a := ((x61 : Nat) : Int)) (b := (1 : Int)) rfl rfl (nat_in hg17)) rfl) rfl <| oA rfl rfl <| RJ_nil <| nR ⟨n, (x61 + 1)⟩ h ⟨rfl, True.intro⟩ eR
          ·
           replace h := ite_f hg15 h
           exact CJ_exit <| QJ_then_exit <| QJ_round_exit <| QJ_block_here <| cR () (Option.some.inj h).symm True.intro eR
        ·
         rintro _ hy66
         replace h := seq_inl hK58 hy66
         show CJ _ _ _ _ _ (([] : Slots) ++ forget _ _) (_)
         refine sR ?_
         obtain ⟨r67, hr68, h⟩ := bind_e h
         refine oO <| O_call (L_volumegrouplaw21_awake hr68) rfl Tryz.call13 Dels.nil rfl fun _ _ => oA rfl rfl <| nT <| CJ_ret ?_
         cases h
         exact fE (res1 Tryz.results9 rfl) () (t3_ (t2_ (eD (eD eR))))
end Go.Proofs
namespace Go.Proofs
open Go.VG
section
variable {C : MC} {K K' a i k : Nat} {s t u y : ArrS} {lv : LV} {m m' x : MirS} {w v : UInt64} {o : OwnS} {ws : List UInt64}
theorem owner_eq {s : ArrS} (hw : ws.length = C.sz) : volumegrouplaw21_setting_owner s (C.L : Int) (C.sz : Int) (C.rg : Int) C.lg ws = some (own0 C ws) := by
  have := C.hs
  unfold volumegrouplaw21_setting_owner
  rw [grd_t (decide_eq_true (by omega))]; rfl
theorem MI.dv (h : MI C s lv m) : DV m := by
  refine ⟨fun i hi => ?_, fun g hg => ?_⟩
  · rw [h.len] at hi
    rw [(h.leg i hi).1]; exact ⟨_, _, _, rfl⟩
  · rcases h.log with ⟨-, -, -, g', q1, q2⟩ | ⟨-, ⟨q1, -⟩ | ⟨-, -, -, g', q1, q2⟩⟩
    · rw [hg] at q1; cases q1; rw [q2.lok.x]; exact ⟨_, _, _, rfl⟩
    · rw [hg] at q1; cases q1
    · rw [hg] at q1; cases q1; rw [q2.x]; exact ⟨_, _, _, rfl⟩
structure UB (C : MC) (K k : Nat) (lv : LV) (s : ArrS) (o : OwnS) (m : MirS) : Prop where
  up : UP C K lv (nb s) o m (fun _ => False)
  nf : NF m
  fz : s.fuse = 0
  sm : Sm (Bk k) s (nb s)
theorem UB.mono (h : UB C K k lv s o m) (hK : K ≤ K') : UB C K' k lv s o m := ⟨h.up.mono hK, h.nf, h.fz, h.sm⟩
theorem owrite_b (h : UB C K k lv s o m) (hall : ∀ i, i < C.L → lv i = true) (hlg : lv C.L = C.lg) (ha : a < C.sz) (hK : K ≤ 50000) :
    ∃ o' m' t, volumegroupmake_Owner_Write o (a : Int) v s = some (0, true, o', t) ∧ UB C (K + 80) k lv t o' m' := by
  have hF := fuel_big
  unfold volumegroupmake_Owner_Write
  rw [h.up.x]; simp only [Option.elim_some]
  obtain ⟨e, m2, u, w1, w2⟩ := owrite1 (v := v) h.up (fun b hb => hb.elim) h.nf ha (by omega)
  obtain ⟨⟨e', m', t⟩, q1, q2, q3, q4, q5⟩ := sm_write h.up.mi.dv h.sm _ w1
  have q2' : e' = e := q2
  have q3' : m' = m2 := q3
  have q6 : u = nb t := q5.eq
  have q5' : Sm (Bk k) t u := q5
  subst q2' q3' q6
  rw [q1]; simp only [Option.bind_some]
  rcases w2 with ⟨rfl, g1, g2, g3, g4⟩ | ⟨-, z, g2, -⟩ | ⟨-, z, -⟩
  · obtain ⟨N, hN⟩ : ∃ N, FUEL = N + 1 := ⟨FUEL - 1, by omega⟩
    have hl : volumegroupmake_Owner_Write_l1 (a : Int) v FUEL { o with X := some m' } t 0 0 = some (.inl (0, { o with X := some m' }, t)) := by
      rw [hN]
      show volumegroupmake_Owner_Write_l1_b (a : Int) v (volumegroupmake_Owner_Write_l1 (a : Int) v N) { o with X := some m' } t 0 0 = _
      unfold volumegroupmake_Owner_Write_l1_b
      rw [if_neg (fun x => absurd x.2 (by decide))]
    have hsm := h.up.small (by omega)
    rw [hl, seqO_inl, grd_t (decide_eq_true hsm)]
    exact ⟨_, m', t, rfl, ⟨g2.mono (by omega), g1, g4.fz h.fz, q5'⟩⟩
  · exact absurd (nf_live g2.mi hall hlg) z
  · exact absurd h.fz z
theorem oflush_b (h : UB C K k lv s o m) (hall : ∀ i, i < C.L → lv i = true) (hlg : lv C.L = C.lg) (hK : K ≤ 50000) :
    ∃ o' m' t, volumegroupmake_Owner_Flush o s = some (0, true, o', t) ∧ UB C (K + 80) k lv t o' m' := by
  have hF := fuel_big
  unfold volumegroupmake_Owner_Flush
  rw [h.up.x]; simp only [Option.elim_some]
  obtain ⟨e, m2, u, w1, -, w2⟩ := oflush1 (p := fun _ => False) h.up h.nf (by omega)
  obtain ⟨⟨e', m', t⟩, q1, q2, q3, q4, q5⟩ := sm_flush h.up.mi.dv h.sm _ w1
  have q2' : e' = e := q2
  have q3' : m' = m2 := q3
  have q6 : u = nb t := q5.eq
  have q5' : Sm (Bk k) t u := q5
  subst q2' q3' q6
  rw [q1]; simp only [Option.bind_some]
  rcases w2 with ⟨rfl, g1, g2, g3, g4, g5⟩ | ⟨-, z, g2, -⟩ | ⟨-, z, -⟩
  · obtain ⟨N, hN⟩ : ∃ N, FUEL = N + 1 := ⟨FUEL - 1, by omega⟩
    have hl : volumegroupmake_Owner_Flush_l1 FUEL { o with X := some m' } t 0 0 = some (.inl (0, { o with X := some m' }, t)) := by
      rw [hN]
      show volumegroupmake_Owner_Flush_l1_b (volumegroupmake_Owner_Flush_l1 N) { o with X := some m' } t 0 0 = _
      unfold volumegroupmake_Owner_Flush_l1_b
      rw [if_neg (fun x => absurd x.2 (by decide))]
    rw [hl, seqO_inl, if_pos (by simp)]
    have hkn : ∀ a, a < C.sz → (o.T.getD a s0).known = true ∧ ∀ j, j < C.L → lv j = true → now (nb t) j a = (o.T.getD a s0).value := fun a ha => g2.kn a ha (fun x => x)
    refine ⟨_, m', t, rfl, ⟨⟨rfl, ?_, (fl_di2 g2.di hkn g5).mono (by omega), g2.mi, fun a ha _ => ?_, fun a ha => ?_, g2.dn⟩, g1, g4 h.fz, q5'⟩⟩
    · have h9 : OI C (K + 12) lv (nb t) { o with X := some m', T := flushedT o.T } := g2.oi.set rfl rfl rfl rfl rfl rfl
      exact h9.mono (by omega)
    · show ((flushedT o.T).getD a s0).known = true ∧ ∀ j, j < C.L → lv j = true → now (nb t) j a = ((flushedT o.T).getD a s0).value
      have htl : o.T.length = C.sz := h.up.di.tl
      rw [flT_at htl ha]
      obtain ⟨k1, k2⟩ := hkn a ha
      unfold flushX
      rw [if_pos k1]
      exact ⟨k1, k2⟩
    · show ((flushedT o.T).getD a s0).some.length ≤ _
      have htl : o.T.length = C.sz := h.up.di.tl
      rw [flT_at htl ha]
      unfold flushX
      rw [if_pos (hkn a ha).1]
      simp
  · exact absurd (nf_live g2.mi hall hlg) z
  · exact absurd h.fz z
theorem oread_b (h : UB C K k lv s o m) (hall : ∀ i, i < C.L → lv i = true) (ha : a < C.sz) (hK : K ≤ 50000) {q : Bool} :
    ∃ o' t, volumegroupmake_Owner_Read o (a : Int) q s = some (0, true, o', t) ∧ UB C (K + 8) k lv t o' m ∧ isBad t 0 a = false ∧ ∀ d b, isBad t d b = true → isBad s d b = true := by
  have hF := fuel_big
  unfold volumegroupmake_Owner_Read
  rw [h.up.x]; simp only [Option.elim_some]
  obtain ⟨k1, k2⟩ := h.up.kn a ha (fun x => x)
  obtain ⟨t, t1, t2, t3⟩ := read_b (w := (o.T.getD a s0).value) h.up.mi h.nf hall h.up.di.ok h.up.dn h.fz h.sm (by omega) ha (fun j hj => k2 j hj (hall j hj))
  rw [t1]; simp only [Option.bind_some]
  rw [setX h.up.x]
  obtain ⟨N, hN⟩ : ∃ N, FUEL = N + 1 := ⟨FUEL - 1, by omega⟩
  have hl : volumegroupmake_Owner_Read_l1 (a : Int) FUEL o t 0 (o.T.getD a s0).value 0 = some (.inl ((o.T.getD a s0).value, 0, o, t)) := by
    rw [hN]
    show volumegroupmake_Owner_Read_l1_b (a : Int) (volumegroupmake_Owner_Read_l1 (a : Int) N) o t 0 (o.T.getD a s0).value 0 = _
    unfold volumegroupmake_Owner_Read_l1_b
    rw [if_neg (fun x => absurd x.2 (by decide))]
  have hlr : 0 ≤ (a : Int) ∧ (a : Int) < (o.T.length : Int) := ⟨by omega, by have := h.up.tl ha; omega⟩
  rw [hl, seqO_inl, if_neg (by simp), if_pos rfl, grd_t (decide_eq_true (h.up.small (by omega)))]
  have e2 : rdTR o.T (a : Int) (o.T.getD a s0).value = true := by
    unfold rdTR
    rw [if_pos hlr, Int.toNat_natCast, if_pos k1, decide_eq_true rfl]
  have e3 : rdTS o.T (a : Int) (o.T.getD a s0).value q = o.T := by
    unfold rdTS
    rw [if_pos hlr, Int.toNat_natCast, if_pos k1]
  rw [e2, e3]
  have e4 : ({ o with T := o.T } : OwnS) = o := rfl
  have hq := h.up.qt t2.q (by omega) (t2.q.mi h.up.mi)
  rw [setX h.up.x] at hq
  rw [e4]
  exact ⟨o, t, rfl, ⟨hq, h.nf, t2.q.fz, t2.sm⟩, t3, t2.sub⟩
theorem ostep_b (h : UB C K k lv s o m) (hall : ∀ i, i < C.L → lv i = true) (hlg : lv C.L = C.lg) (hK : K ≤ 35000) (S : volumegroupmake_Step) (hk : S.Kind < 3) :
    ∃ o' m' t, volumegroupmake_Owner_Step o S s = some (true, o', t) ∧ UB C (K + 80) k lv t o' m' := by
  have hs := C.hs
  obtain ⟨a, ha1, ha, hlo, hhi⟩ := at_ok S.At (n := C.sz) (by omega) (by omega)
  unfold volumegroupmake_Owner_Step
  rw [h.up.di.tl, grd_t (decide_eq_true (by omega)), grd_t (inI64_of (by omega)), grd_t (decide_eq_true (by omega)), ha1]
  simp only [lt]
  by_cases k0 : S.Kind = 0
  · rw [if_pos k0]
    obtain ⟨o1, m1, t, w1, w2⟩ := owrite_b (v := S.Value) h hall hlg ha (by omega)
    rw [w1]; simp only [Option.bind_some]
    rw [if_neg (by simp), if_pos (by simp)]
    exact ⟨o1, m1, t, rfl, w2⟩
  · rw [if_neg k0]
    by_cases k1 : S.Kind = 1
    · rw [if_pos k1]
      obtain ⟨o1, t, w1, w2, -⟩ := oread_b (q := false) h hall ha (by omega)
      rw [w1]; simp only [Option.bind_some]
      rw [if_neg (by simp), if_pos (by simp)]
      exact ⟨o1, m, t, rfl, w2.mono (by omega)⟩
    · rw [if_neg k1]
      by_cases k2 : S.Kind = 2
      · rw [if_pos k2]
        obtain ⟨o1, m1, t, w1, w2⟩ := oflush_b h hall hlg (by omega)
        rw [w1]; simp only [Option.bind_some]
        rw [if_neg (by simp), if_pos (by simp)]
        exact ⟨o1, m1, t, rfl, w2⟩
      · rw [if_neg k2, if_neg (by omega), if_neg (by omega)]; simp only [Option.bind_some]
        rw [if_neg (by simp), if_pos (by simp)]
        exact ⟨o, m, s, rfl, h.mono (by omega)⟩
theorem UB.sb (h : UB C K k lv s o m) (hk : k < C.L) (ha : a < C.sz) : sbC s ((k : Nat) : Int) ((a : Nat) : Int) = 0 ∧ UB C K k lv (sbS s ((k : Nat) : Int) ((a : Nat) : Int) true) o m := by
  obtain ⟨-, h4, h5, -⟩ := h.up.di.ok.chk h.up.dn (by rw [MC.len]; omega : k < C.ns.length) (by rw [MC.leg hk]; exact ha)
  have h4' : cLoc s k = 0 := h4
  have h5' : cPla s k a = 0 := h5
  have hc : sbC s ((k : Nat) : Int) ((a : Nat) : Int) = 0 := by simp [sbC, Go.Proofs.fz, h4', h5']
  have hS : sbS s ((k : Nat) : Int) ((a : Nat) : Int) true = { s with bad := setM s.bad (((k : Nat) : Int), ((a : Nat) : Int)) () } := by
    unfold sbS; rw [if_neg (by simp [hc])]; rfl
  refine ⟨hc, ?_⟩
  rw [hS]
  refine ⟨h.up, h.nf, h.fz, ⟨rfl, nodup_setM _ _ _ h.sm.nd, fun d b hb => ?_⟩⟩
  have hb2 : (lookM (setM s.bad (((k : Nat) : Int), ((a : Nat) : Int)) ()) (d, b)).isSome = true := hb
  rw [lookM_setM] at hb2
  split at hb2
  · rename_i z
    exact decide_eq_true (Prod.mk.inj z).1
  · exact h.sm.sub d b hb2
theorem oall_b_l1 (hall : ∀ i, i < C.L → lv i = true) : ∀ (N i K : Nat) (o : OwnS) (s : ArrS), C.sz - i < N → i ≤ C.sz → K + 8 * (C.sz - i) ≤ 50000 → UB C K k lv s o m → (∀ b, b < i → isBad s 0 ((b : Nat) : Int) = false) →
    ∃ o' t, volumegroupmake_Owner_All_l1 false N o s i = some (.inl (o', t)) ∧ UB C 50000 k lv t o' m ∧ ∀ b, b < C.sz → isBad t 0 ((b : Nat) : Int) = false
  | 0, _, _, _, _, h, _, _, _, _ => absurd h (by omega)
  | N + 1, i, K, o, s, h, hi, hK, hp, hb => by
    have hs := C.hs
    have hun : volumegroupmake_Owner_All_l1 false (N + 1) o s i = volumegroupmake_Owner_All_l1_b false (volumegroupmake_Owner_All_l1 false N) o s i := rfl
    rw [hun]
    unfold volumegroupmake_Owner_All_l1_b
    by_cases hlt : i < C.sz
    · rw [if_pos (by rw [hp.up.di.tl]; omega)]
      obtain ⟨o', t, r1, r2, r3, r4⟩ := oread_b (q := false) hp hall hlt (by omega)
      rw [r1]; simp only [Option.bind_some]
      rw [if_neg (by simp), grd_t (inN64_of (by omega))]
      exact oall_b_l1 hall N (i + 1) (K + 8) o' t (by omega) (by omega) (by omega) r2 (fun b hbi => by
        by_cases e : b = i
        · subst e; exact r3
        · cases hbt : isBad t 0 ((b : Nat) : Int) with
          | false => rfl
          | true =>
            have h1 := hb b (by omega)
            rw [r4 _ _ hbt] at h1; cases h1)
    · rw [if_neg (by rw [hp.up.di.tl]; omega)]
      exact ⟨o, s, rfl, hp.mono (by omega), fun b hbs => hb b (by omega)⟩
theorem bad_l1 {leg : UInt8} {at_2 : List UInt8} {l : List volumegroupmake_Step} {r13 : (Option ArrS) × Nat × Nat × Nat × Bool × (List UInt64)} (hall : ∀ i, i < C.L → lv i = true) (hlg : lv C.L = C.lg) (hL : r13.2.1 = C.L) (hz : r13.2.2.1 = C.sz) (hk : leg.toNat % C.L = k) (hl : l.length ≤ 24) : ∀ (N i : Nat) (s : ArrS) (o : OwnS) (m : MirS), l.length - i < N → i ≤ l.length → UB C (1000 + 80 * i) k lv s o m →
    ∃ o' m' t, volumegrouplaw21_MirrorBad_l1 leg at_2 l r13 N s o i = some (.inl (o', t)) ∧ UB C 5000 k lv t o' m'
  | 0, _, _, _, _, h, _, _ => absurd h (by omega)
  | N + 1, i, s, o, m, h, hi, hu => by
    have hs := C.hs
    have hCL := C.hL
    have hun : volumegrouplaw21_MirrorBad_l1 leg at_2 l r13 (N + 1) s o i = volumegrouplaw21_MirrorBad_l1_b leg at_2 l r13 (volumegrouplaw21_MirrorBad_l1 leg at_2 l r13 N) s o i := rfl
    rw [hun]
    unfold volumegrouplaw21_MirrorBad_l1_b
    have e : ((leg.toNat : Nat) : Int).tmod ((C.L : Nat) : Int) = ((k : Nat) : Int) := by rw [← hk]; exact (Int.ofNat_tmod _ _).symm
    have hkL : k < C.L := by rw [← hk]; exact Nat.mod_lt _ (by omega)
    have e2 : (((at_2.getD i 0).toNat : Nat) : Int).tmod ((C.sz : Nat) : Int) = (((at_2.getD i 0).toNat % C.sz : Nat) : Int) := (Int.ofNat_tmod _ _).symm
    have hb : (at_2.getD i 0).toNat % C.sz < C.sz := Nat.mod_lt _ (by omega)
    rw [hL, hz, e, e2]
    generalize (at_2.getD i 0).toNat % C.sz = b at hb
    by_cases hlt : i < l.length
    · rw [if_pos (by omega)]
      by_cases hkd : (l.getD i ⟨0, 0, 0, 0⟩).Kind < 3
      · rw [if_pos hkd]
        obtain ⟨o', m', t, h1, h2⟩ := ostep_b hu hall hlg (by omega) _ hkd
        rw [h1]; simp only [Option.bind_some]
        rw [if_neg (by simp)]
        by_cases ha : ((i : Nat) : Int) < ((at_2.length : Nat) : Int)
        · obtain ⟨c1, c2⟩ := h2.sb hkL hb
          rw [if_pos ha, grd_t (decide_eq_true (by omega))]
          simp only [lt]
          rw [c1, if_neg (by simp)]
          exact bad_l1 hall hlg hL hz hk hl N (i + 1) _ o' m' (by omega) (by omega) (c2.mono (by omega))
        · rw [if_neg ha]
          exact bad_l1 hall hlg hL hz hk hl N (i + 1) t o' m' (by omega) (by omega) (h2.mono (by omega))
      · rw [if_neg hkd]
        by_cases ha : ((i : Nat) : Int) < ((at_2.length : Nat) : Int)
        · obtain ⟨c1, c2⟩ := hu.sb hkL hb
          rw [if_pos ha, grd_t (decide_eq_true (by omega))]
          simp only [lt]
          rw [c1, if_neg (by simp)]
          exact bad_l1 hall hlg hL hz hk hl N (i + 1) _ o m (by omega) (by omega) (c2.mono (by omega))
        · rw [if_neg ha]
          exact bad_l1 hall hlg hL hz hk hl N (i + 1) s o m (by omega) (by omega) (hu.mono (by omega))
    · rw [if_neg (by omega)]
      exact ⟨o, m, s, rfl, hu.mono (by omega)⟩
theorem bad_l2 {leg : UInt8} {r13 : (Option ArrS) × Nat × Nat × Nat × Bool × (List UInt64)} {r45 : Bool × OwnS × ArrS} (hz : r13.2.2.1 = C.sz) (hr : ∀ b, b < C.sz → rdC r45.2.2 (0 : Int) ((b : Nat) : Int) = 0) : ∀ (N i : Nat), C.sz - i < N → i ≤ C.sz → volumegrouplaw21_MirrorBad_l2 leg r13 r45 N i = some (.inl ())
  | 0, _, h, _ => absurd h (by omega)
  | N + 1, i, h, hi => by
    have hs := C.hs
    have hun : volumegrouplaw21_MirrorBad_l2 leg r13 r45 (N + 1) i = volumegrouplaw21_MirrorBad_l2_b leg r13 r45 (volumegrouplaw21_MirrorBad_l2 leg r13 r45 N) i := rfl
    rw [hun]
    unfold volumegrouplaw21_MirrorBad_l2_b
    rw [hz]
    by_cases hlt : i < C.sz
    · by_cases hc : (((leg.toNat : Nat) : Int).tmod ((r13.2.1 : Nat) : Int)) = (0 : Int)
      · rw [if_pos ⟨by omega, hc⟩, if_neg (fun x => x (hr i hlt)), grd_t (inN64_of (by omega))]
        exact bad_l2 hz hr N (i + 1) (by omega) (by omega)
      · rw [if_neg (fun x => hc x.2)]
    · rw [if_neg (fun x => hlt (by omega))]
end
theorem mirrorBad (n_0 : UInt8) (leg : UInt8) (at_2 : List UInt8) (l : List volumegroupmake_Step) : volumegrouplaw21_MirrorBad n_0 leg at_2 l = some true := by
  unfold volumegrouplaw21_MirrorBad
  rw [few_eq]; simp only [Option.bind_some]
  by_cases hl : (¬ decide (l.length ≤ 24) = true) ∨ ((20 : Int) < ((at_2.length : Nat) : Int))
  · rw [if_pos hl, awake21]; rfl
  · rw [if_neg hl]
    have hl' : l.length ≤ 24 := by
      by_cases z : l.length ≤ 24
      · exact z
      · exact absurd (.inl (by simpa using z)) hl
    obtain ⟨a, b1, b2⟩ := begun_eq n_0
    rw [b1]; simp only [Option.bind_some, Option.elim_some]
    generalize CM n_0 = C at b2 ⊢
    have hL := C.hL
    have hs := C.hs
    have hF := fuel_big
    rw [owner_eq b2.wl]; simp only [Option.bind_some]
    rw [grd_t (decide_eq_true (by omega))]
    have hex : ∃ i, i < C.L ∧ (lvA C) i = true := ⟨0, by omega, lvA_leg (by omega)⟩
    have hall : ∀ i, i < C.L → (lvA C) i = true := fun i hi => lvA_leg hi
    obtain ⟨o', m, g1, g2, g3, -⟩ := b2.begin b2.oi rfl hex (fun h => by rw [← lvA_log]; exact h)
    rw [g1]; simp only [Option.bind_some]
    rw [if_neg (by simp)]
    have hnb : nb a = a := by
      have h1 := b2.ok.bad
      cases a
      cases h1
      rfl
    have hu : UB C (1000 + 80 * 0) (leg.toNat % C.L) (lvA C) a o' m := ⟨by rw [hnb]; exact g2, g3, b2.fuse, ⟨rfl, by rw [b2.ok.bad]; exact List.nodup_nil, fun d b hb => by
      have h1 : (lookM a.bad (d, b)).isSome = true := hb
      rw [b2.ok.bad] at h1; cases h1⟩⟩
    obtain ⟨o1, m1, t, p1, p2⟩ := bad_l1 (leg := leg) (at_2 := at_2) (l := l) (r13 := (some a, C.L, C.sz, C.rg, C.lg, wordsL C.sz 5)) hall lvA_log rfl rfl rfl hl' FUEL 0 a o' m (by omega) (by omega) hu
    rw [p1, seqO_inl]
    unfold volumegroupmake_Owner_All
    obtain ⟨o2, t2, q1, q2, q3⟩ := oall_b_l1 hall FUEL 0 5000 o1 t (by omega) (by omega) (by omega) p2 (fun b hb => absurd hb (by omega))
    rw [q1, seqO_inl]; simp only [Option.bind_some]
    rw [if_neg (by simp), q2.up.x]; simp only [Option.elim_some]
    rw [failed_eq q2.up.mi.l6, nf_iff.2 q2.nf]; simp only [Option.bind_some]
    rw [if_neg (by simp)]
    have hrd : ∀ b, b < C.sz → rdC t2 (0 : Int) ((b : Nat) : Int) = 0 := fun b hb => rdC_b q2.up.di.ok q2.up.dn (by omega : 0 < C.L) hb ((q2.up.mi.live (by omega) (hall 0 (by omega))).2) (q3 b hb)
    rw [bad_l2 (C := C) (r45 := (true, o2, t2)) rfl hrd FUEL 0 (by omega) (by omega), seqO_inl, awake21]; rfl
end Go.Proofs
