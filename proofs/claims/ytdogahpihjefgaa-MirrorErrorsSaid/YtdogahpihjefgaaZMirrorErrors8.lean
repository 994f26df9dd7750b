/- MirrorErrors, part 8 of the proof: PErr, PErr2, LMirrorErrors, PMirrorErrors. -/
import Derived.WalkKit
import Derived.Orders
import Derived.RangeFuncLeaves
import Derived.RangeFuncCalls
import Derived.TacticsIn
import Derived.Handy
import Derived.OrdersHeld
import Derived.OrdersIn
import Derived.Below
import Derived.OpenShut
import Derived.Deep.Slices
import Derived.Scope
import Derived.KernelRfl
import Derived.RangeFuncRecord
import Derived.ChangeKeysEq
import Derived.ProofKit
import Derived.ShutString
import Derived.ChangeOld
import Derived.Test.YtdogahpihjefgaaChecked
import Derived.Test.YtdogahpihjefgaaRows
import Derived.Test.YtdogahpihjefgaaZMirrorErrors7
namespace Go.Proofs
open Go.VG
section
variable {C : MC} {K a i k n : Nat} {s t u y : ArrS} {lv : LV} {m m' x : MirS} {w v : UInt64} {st : List Int} {legs : List Dvc} {ws : List UInt64}
theorem idxF_bad {n : Int} : ∀ (l : List Int) (N i : Nat), l.length - i < N → i ≤ l.length → (∃ q, i ≤ q ∧ q < l.length ∧ (l.getD q 0 < 0 ∨ n < l.getD q 0)) → ∃ j : Nat, slices_IndexFunc_int__mirror_Open_1_l1 l n N i = some (.inr (j : Int))
  | _, 0, _, h, _, _ => absurd h (by omega)
  | l, N + 1, i, h, hi, ⟨q, q1, q2, q3⟩ => by
    have hu : slices_IndexFunc_int__mirror_Open_1_l1 l n (N + 1) i = slices_IndexFunc_int__mirror_Open_1_l1_b l n (slices_IndexFunc_int__mirror_Open_1_l1 l n N) i := rfl
    rw [hu]
    unfold slices_IndexFunc_int__mirror_Open_1_l1_b
    rw [if_pos (by omega)]
    unfold mirror_Open_1
    simp only [Option.bind_some]
    by_cases hk : l.getD i 0 < 0 ∨ n < l.getD i 0
    · rw [if_pos (by rw [Bool.or_eq_true, decide_eq_true_iff, decide_eq_true_iff]; exact hk)]
      exact ⟨i, rfl⟩
    · rw [if_neg (by rw [Bool.or_eq_true, decide_eq_true_iff, decide_eq_true_iff]; exact hk)]
      refine idxF_bad l N (i + 1) (by omega) (by omega) ⟨q, ?_, q2, q3⟩
      rcases Nat.lt_or_ge i q with z | z
      · exact z
      · have : q = i := by omega
        subst this
        exact absurd q3 hk
theorem containsF_bad {n : Int} {l : List Int} (hl : ∃ q, q < l.length ∧ (l.getD q 0 < 0 ∨ n < l.getD q 0)) (hlen : l.length ≤ 1000000) : slices_ContainsFunc_int__mirror_Open_1 l n = some true := by
  unfold slices_ContainsFunc_int__mirror_Open_1 slices_IndexFunc_int__mirror_Open_1
  have hF := fuel_big
  obtain ⟨q, q1, q2⟩ := hl
  obtain ⟨j, hj⟩ := idxF_bad (n := n) l FUEL 0 (by omega) (by omega) ⟨q, by omega, q1, q2⟩
  rw [hj, seqO_inr]; simp only [Option.bind_some]
  rw [decide_eq_true (Int.natCast_nonneg j)]
theorem open_rule0 {f : Nat → MirS → Nat → Nat → Option (Nat × MirS)} {legs : List Dvc} (hf : ∀ n x p i, f (n + 1) x p i = openB legs st s (f n) x p i) (hll : legs.length = C.L) (hlx : ∀ i, i < C.L → legs.getD i dv0 = xL i C.sz) (hst : st.length ≤ 1000000) (hall : ∀ j, j < C.L → (j : Int) ∈ st) {lg : Bool} {reg : Int} :
    ∀ (N i : Nat), C.L - i < N → i ≤ C.L → ∃ x, f N ⟨legsM C st i, none, lg, 0, (C.sz : Int), reg, [], 0⟩ 0 i = some (0, x)
  | 0, _, h, _ => absurd h (by omega)
  | N + 1, i, hN, hi => by
    have hL := C.hL
    rw [hf]
    unfold openB
    by_cases hlt : i < C.L
    · have hsz : Dvc.size (xL i C.sz) s = some (C.sz : Int) := span_size
      rw [if_pos (by rw [hll]; omega), contains_eq hst, hlx i hlt, hsz]; simp only [Option.bind_some, legsM_len]
      have hmin : min (C.sz : Int) (C.sz : Int) = C.sz := by omega
      have hm := hall i hlt
      rw [if_pos (by simpa using hm)]; simp only [Option.bind_some]
      rw [grd_t (inLen_of (by omega)), hmin]
      have e : legsM C st i ++ [(⟨xL i C.sz, ((2 : Nat) : Int), 0⟩ : mlegS)] = legsM C st (i + 1) := by rw [legsM_succ]; unfold legM; rw [if_pos hm]; rfl
      rw [e]
      exact open_rule0 hf hll hlx hst hall N (i + 1) (by omega) (by omega)
    · rw [if_neg (by rw [hll]; omega)]
      exact ⟨_, rfl⟩
theorem legs_of (hok : ArrOk C.ns K s) : volumegroupmake_Spans s = some (spansA s) ∧ s.drv.length = C.L + 1 ∧ ((spansA s).take C.L).length = C.L ∧ (∀ i, i < C.L → ((spansA s).take C.L).getD i dv0 = xL i C.sz) ∧ (spansA s).getD C.L dv0 = xL C.L 3 := by
  have hL := C.hL
  have hs := C.hs
  have hcnt : s.drv.length = C.L + 1 := by rw [hok.sz.cnt]; exact MC.len
  have hsize : ∀ i, i < C.L → s.size i = C.sz := fun i hi => by rw [hok.sz.size i (by rw [MC.len]; omega), MC.leg hi]
  have hsizeL : s.size C.L = 3 := by rw [hok.sz.size C.L logL, MC.log]
  refine ⟨spans_eq (by omega) (fun i hi => ?_), hcnt, by rw [List.length_take, spansA_length]; omega, fun i hi => ?_, ?_⟩
  · rcases Nat.lt_or_ge i C.L with x | x
    · rw [hsize i x]; omega
    · have : i = C.L := by omega
      subst this; rw [hsizeL]; omega
  · have h1 : ((spansA s).take C.L).getD i dv0 = (spansA s).getD i dv0 := by simp [List.getD, hi]
    rw [h1, spansA_getD (by omega), hsize i hi]; rfl
  · rw [spansA_getD (by omega), hsizeL]; rfl
theorem setopen_eq (hok : ArrOk C.ns K s) {reg : Int} {o : Option MirS} {e : Int} (h1 : C.lg = false → mirror_Open_2 ((spansA s).take C.L) st reg s = some (o, e)) (h2 : C.lg = true → mirror_Open ((spansA s).take C.L) st (xL C.L 3) reg s = some (o, e)) : volumegrouplaw21_setting_open s (C.L : Int) (C.sz : Int) reg C.lg st = some (o, e) := by
  have hL := C.hL
  obtain ⟨hsp, hcnt, -, -, hlogd⟩ := legs_of hok
  unfold volumegrouplaw21_setting_open
  rw [hsp]; simp only [Option.bind_some, spansA_length, hcnt, Int.toNat_natCast]
  rw [if_neg (by omega)]
  cases hlg : C.lg
  · rw [if_neg (by simp)]; simp only [Option.bind_some]
    rw [grd_t (decide_eq_true ⟨by omega, by omega⟩)]; simp only [Option.elim_none]
    rw [h1 hlg]; rfl
  · rw [if_pos ⟨rfl, by omega⟩, grd_t (decide_eq_true ⟨by omega, by omega⟩), hlogd]; simp only [Option.bind_some]
    rw [grd_t (decide_eq_true ⟨by omega, by omega⟩)]; simp only [Option.elim_some]
    rw [h2 hlg]; rfl
theorem setopen_range (hok : ArrOk C.ns K s) {reg : Int} (hst : st.length ≤ 1000000) (h : (reg < 1 ∨ 65536 < reg) ∨ ∃ q, q < st.length ∧ (st.getD q 0 < 0 ∨ (C.L : Int) < st.getD q 0)) : volumegrouplaw21_setting_open s (C.L : Int) (C.sz : Int) reg C.lg st = some (none, 1) := by
  have hL := C.hL
  obtain ⟨-, -, hll, -, -⟩ := legs_of hok
  refine setopen_eq hok (fun _ => ?_) (fun _ => ?_)
  · unfold mirror_Open_2
    rw [hll]
    by_cases hr : reg < 1 ∨ 65536 < reg
    · rw [if_pos (by omega)]
    · rw [if_neg (by omega), containsF_bad (h.resolve_left hr) hst]; simp only [Option.bind_some]
      rw [if_pos trivial]
  · unfold mirror_Open
    rw [hll]
    by_cases hr : reg < 1 ∨ 65536 < reg
    · rw [if_pos (by omega)]
    · rw [if_neg (by omega), containsF_bad (h.resolve_left hr) hst]; simp only [Option.bind_some]
      rw [if_pos trivial]
theorem setopen_stale (hok : ArrOk C.ns K s) (hsl : st.length ≤ 1000000) (hst : ∀ k ∈ st, 0 ≤ k ∧ k ≤ (C.L : Int)) (hall : ∀ j, j < C.L → (j : Int) ∈ st) : volumegrouplaw21_setting_open s (C.L : Int) (C.sz : Int) (C.rg : Int) C.lg st = some (none, 19) := by
  have hL := C.hL
  have hr := C.hr
  have hF := fuel_big
  obtain ⟨-, -, hll, hlx, -⟩ := legs_of hok
  have hsz : Dvc.size (((spansA s).take C.L).getD 0 dv0) s = some (C.sz : Int) := by rw [hlx 0 (by omega)]; exact span_size
  have e0 : legsM C st 0 = [] := rfl
  refine setopen_eq hok (fun _ => ?_) (fun _ => ?_)
  · unfold mirror_Open_2
    generalize FUEL = N at hF ⊢
    obtain ⟨x, hx⟩ := open_rule0 (f := mirror_Open_2_l1 ((spansA s).take C.L) st (C.rg : Int) s) (s := s) (fun _ _ _ _ => rfl) hll hlx hsl hall (lg := false) (reg := (C.rg : Int)) N 0 (by omega) (by omega)
    rw [e0] at hx
    rw [if_neg (by rw [hll]; omega), containsF (by rw [hll]; exact hst) hsl]; simp only [Option.bind_some]
    rw [if_neg (by simp), hsz]; simp only [Option.bind_some]
    rw [hx]; rfl
  · unfold mirror_Open
    generalize FUEL = N at hF ⊢
    obtain ⟨x, hx⟩ := open_rule0 (f := mirror_Open_l1 ((spansA s).take C.L) st (xL C.L 3) (C.rg : Int) s) (s := s) (fun _ _ _ _ => rfl) hll hlx hsl hall (lg := true) (reg := (C.rg : Int)) N 0 (by omega) (by omega)
    rw [e0] at hx
    rw [if_neg (by rw [hll]; omega), containsF (by rw [hll]; exact hst) hsl]; simp only [Option.bind_some]
    rw [if_neg (by simp), hsz]; simp only [Option.bind_some]
    rw [hx]; rfl
theorem setopen_head {R : Nat} (hR : 1 ≤ R ∧ R ≤ 12) (hreg : mirror_Regions (C.sz : Int) (C.rg : Int) = some (R : Int)) (hok : ArrOk C.ns K s) (hdn : s.down = false) (hsl : st.length ≤ 1000000) (hst : ∀ k ∈ st, 0 ≤ k ∧ k ≤ (C.L : Int)) (hex : ∃ j, j < C.L ∧ (j : Int) ∉ st) (hlg : C.lg = true) (hnl : (C.L : Int) ∉ st) (hm : miss s C.L = false) (hh : now s C.L 0 ≠ headL R) : volumegrouplaw21_setting_open s (C.L : Int) (C.sz : Int) (C.rg : Int) C.lg st = some (none, 18) := by
  have hL := C.hL
  have hr := C.hr
  have hnW : nW R = 1 := by unfold nW; omega
  have hF := fuel_big
  obtain ⟨-, -, hll, hlx, -⟩ := legs_of hok
  have hsz : Dvc.size (((spansA s).take C.L).getD 0 dv0) s = some (C.sz : Int) := by rw [hlx 0 (by omega)]; exact span_size
  have e0 : legsM C st 0 = [] := rfl
  have hlen : ((((List.replicate ((R : Int)).toNat false)).length : Nat) : Int) = (R : Int) := by simp
  refine setopen_eq hok (fun z => by rw [hlg] at z; cases z) (fun _ => ?_)
  unfold mirror_Open
  generalize FUEL = N at hF ⊢
  obtain ⟨q, q1, q2⟩ := open_rule (f := mirror_Open_l1 ((spansA s).take C.L) st (xL C.L 3) (C.rg : Int) s) (s := s) (fun _ _ _ _ => rfl) hll hlx hsl (lg := true) (reg := (C.rg : Int)) N 0 0 (by omega) (by omega) (by omega) (fun ⟨j, hj, _⟩ => absurd hj (by omega))
  rw [e0] at q2
  have hq := q1 hex
  rw [if_neg (by rw [hll]; omega), containsF (by rw [hll]; exact hst) hsl]; simp only [Option.bind_some]
  rw [if_neg (by simp), hsz]; simp only [Option.bind_some]
  rw [q2]; simp only [Option.bind_some]
  rw [if_neg (by omega), hreg]; simp only [Option.bind_some]
  rw [grd_t (decide_eq_true ⟨by omega, by omega⟩), contains_eq hsl]; simp only [Option.bind_some]
  rw [if_neg (by rintro (x | x); rw [hll] at x; exact hnl (of_decide_eq_true x); exact x trivial), hlen, open_eq logL MC.log (by decide) hok hdn hm ⟨hR.1, by omega⟩ (by rw [hnW]; omega), if_neg hh]; simp only [Option.bind_some]
  rw [if_pos ⟨by decide, by decide⟩]
structure H0 (C : MC) (ws : List UInt64) (K : Nat) (s : ArrS) : Prop where
  ok : ArrOk C.ns K s
  dn : s.down = false
  fuse : s.fuse = 0
  miss : ∀ e, Go.Proofs.miss s e = false
  now : ∀ i a, i < C.L → a < C.sz → Go.Proofs.now s i a = ws.getD a 0
def lvE (C : MC) (st : List Int) : LV := ⟨fun i => decide ((i : Int) ∉ st) && (decide (i < C.L) || C.lg), [], fun _ => 0, fun _ => false⟩
theorem lvE_leg (h : i < C.L) : (lvE C st) i = decide ((i : Int) ∉ st) := by show (decide _ && (decide (i < C.L) || _)) = _; rw [decide_eq_true h]; simp
theorem lvE_log : (lvE C st) C.L = (decide ((C.L : Int) ∉ st) && C.lg) := by show (decide _ && (decide (C.L < C.L) || _)) = _; rw [decide_eq_false (Nat.lt_irrefl _)]; simp
theorem legsE_mi (hms : ∀ e, miss s e = false) {d : List Bool} (hd : d.length = C.R) {lg : Option LogS} {ls : Int} (hlog : (lvE C st) C.L = true ∧ ls = 0 ∧ (∃ g, lg = some g ∧ LI C s g) ∧ (∀ r, r < C.R → d.getD r false = true → SetB C s r) ∨ (lvE C st) C.L = false ∧ lg = none ∧ ls = 2) : MI C s (lvE C st) ⟨legsM C st C.L, lg, C.lg, ls, (C.sz : Int), (C.rg : Int), d, 0⟩ := by
  refine ⟨legsM_len, fun i hi => ?_, rfl, rfl, rfl, hd, ?_, fun hl r hr hdr => ?_⟩
  · have hat : (legsM C st C.L).getD i mleg_x0 = legM C st i := legsM_at hi
    unfold stM
    rw [hat]
    unfold legM
    refine ⟨rfl, .inl rfl, ?_⟩
    rw [lvE_leg hi]
    by_cases hin : (i : Int) ∈ st
    · rw [if_pos hin]; exact .inr ⟨decide_eq_false (fun z => z hin), .inl rfl⟩
    · rw [if_neg hin]; exact .inl ⟨decide_eq_true hin, rfl, hms i⟩
  · rcases hlog with ⟨h1, h2, ⟨g, h3, h4⟩, -⟩ | ⟨h1, h2, h3⟩
    · exact .inl ⟨h1, h2, hms _, g, h3, h4⟩
    · exact .inr ⟨h1, .inl ⟨h2, h3⟩⟩
  · rcases hlog with ⟨-, -, -, h4⟩ | ⟨h1, -⟩
    · exact h4 r hr hdr
    · rw [h1] at hl; cases hl
theorem setopen_ok (h : H0 C ws K s) (hsl : st.length ≤ 1000000) (hst : ∀ k ∈ st, 0 ≤ k ∧ k ≤ (C.L : Int)) (hex : ∃ j, j < C.L ∧ (j : Int) ∉ st) (hc : ∀ b, b < 3 → cand s C.L b = [now s C.L b]) (hh : C.lg = true → (C.L : Int) ∉ st → now s C.L 0 = headL C.R) :
    ∃ m, volumegrouplaw21_setting_open s (C.L : Int) (C.sz : Int) (C.rg : Int) C.lg st = some (some m, 0) ∧ MI C s (lvE C st) m := by
  obtain ⟨-, -, hll, hlx, -⟩ := legs_of h.ok
  have hop : OpH C s ((spansA s).take C.L) st := ⟨hll, hlx, hst, hsl, hex⟩
  obtain ⟨o1, -, o3⟩ := open1_eq hop h.ok h.dn
  cases hlg : C.lg
  · obtain ⟨d, d1, -, d3⟩ := open2_eq hop
    have := setopen_eq h.ok (st := st) (fun _ => d3) (fun z => by rw [hlg] at z; cases z)
    rw [hlg] at this
    refine ⟨_, this, ?_⟩
    have hmi := legsE_mi (st := st) h.miss d1 (lg := none) (ls := 2) (.inr ⟨by rw [lvE_log, hlg]; simp, rfl, rfl⟩)
    rw [hlg] at hmi
    exact hmi
  · by_cases hin : (C.L : Int) ∈ st
    · obtain ⟨d, d1, -, d3⟩ := o1 hin
      have := setopen_eq h.ok (st := st) (fun z => by rw [hlg] at z; cases z) (fun _ => d3)
      rw [hlg] at this
      refine ⟨_, this, ?_⟩
      have hmi := legsE_mi (st := st) h.miss d1 (lg := none) (ls := 2) (.inr ⟨by rw [lvE_log]; simp [hin], rfl, rfl⟩)
      rw [hlg] at hmi
      exact hmi
    · obtain ⟨d, d1, d2, d3⟩ := o3 hin (h.miss _) (hh hlg hin)
      have := setopen_eq h.ok (st := st) (fun z => by rw [hlg] at z; cases z) (fun _ => d3)
      rw [hlg] at this
      refine ⟨_, this, ?_⟩
      have hset : ∀ r, r < C.R → d.getD r false = true → SetB C s r := fun r hr hd c hcc => by
        rw [hc 1 (by decide), List.mem_singleton] at hcc
        rw [hcc]; exact (d2 r hr).1 hd
      have hbl : (openL (xL C.L 3) C.R (now s C.L)).bits.getD 0 0 = now s C.L 1 := by
        have : (openL (xL C.L 3) C.R (now s C.L)).bits = (List.range (nW C.R)).map fun i => now s C.L (1 + i) := rfl
        rw [this, getD_map_range (by rw [MC.nW1]; decide)]
      have hli : LI C s (openL (xL C.L 3) C.R (now s C.L)) := ⟨⟨rfl, rfl, by simp [openL], List.nodup_nil⟩, fun c hcc => by
        rw [hc 0 (by decide), List.mem_singleton] at hcc
        rw [hcc]; exact hh hlg hin, hbl.symm, fun r hr hd => by simp [openL, lookM] at hd⟩
      have hmi := legsE_mi (st := st) h.miss d1 (lg := some (openL (xL C.L 3) C.R (now s C.L))) (ls := 0) (.inl ⟨by rw [lvE_log, hlg]; simp [hin], rfl, ⟨_, rfl, hli⟩, hset⟩)
      rw [hlg] at hmi
      exact hmi
theorem mi_nf (h : MI C s lv m) (hms : ∀ e, miss s e = false) : NF m := by
  refine ⟨fun i hi hs => ?_, ?_⟩
  · rcases (h.leg i (by rw [← h.len]; exact hi)).2.2 with ⟨-, z, -⟩ | ⟨-, z | ⟨z, -⟩⟩
    · rw [z] at hs; cases hs
    · rw [z] at hs; cases hs
    · rw [hms] at z; cases z
  · rcases h.log with ⟨-, z, -⟩ | ⟨-, ⟨-, z⟩ | ⟨-, z, -⟩⟩
    · rintro ⟨-, q⟩; rw [z] at q; cases q
    · rintro ⟨-, q⟩; rw [z] at q; cases q
    · rw [hms] at z; cases z
theorem mi_st (h : MI C s lv m) (hms : ∀ e, miss s e = false) (hi : i < C.L) : stM m i = 2 ↔ lv i = false := by
  rcases (h.leg i hi).2.2 with ⟨z1, z2, -⟩ | ⟨z1, z2 | ⟨z2, -⟩⟩
  · rw [z1, z2]; constructor <;> intro q <;> cases q
  · rw [z1, z2]; exact ⟨fun _ => rfl, fun _ => rfl⟩
  · rw [hms] at z2; cases z2
theorem read_any (h : MI C s lv m) (h0 : H0 C ws K s) (hcp : ∀ i, i < C.L → lv.cp i = 0) (hex : ∃ j, j < C.L ∧ lv j = true) (at_ : Int) :
    ∃ w e m', mirror_Mirror_Read m at_ s = some (w, e, m', s) ∧ (e = 1 ↔ (at_ < 0 ∨ (C.sz : Int) ≤ at_)) ∧ (¬ (at_ < 0 ∨ (C.sz : Int) ≤ at_) → e = 0) ∧ MI C s lv m' := by
  by_cases hb : at_ < 0 ∨ (C.sz : Int) ≤ at_
  · refine ⟨0, 1, m, ?_, ⟨fun _ => hb, fun _ => rfl⟩, fun z => absurd hb z, h⟩
    unfold mirror_Mirror_Read
    by_cases h1 : at_ < 0
    · rw [if_pos h1]
    · rw [if_neg h1, if_pos (by rw [h.size]; omega)]
  · obtain ⟨a, rfl⟩ : ∃ a : Nat, at_ = (a : Int) := ⟨at_.toNat, by omega⟩
    obtain ⟨m', f1, f2⟩ := read_u h hcp (mi_nf h h0.miss) h0.ok h0.dn (a := a) (w := ws.getD a 0) (by omega) hex (fun j hj _ => h0.now j a hj (by omega))
    have hm' := h.fd f1
    rcases f2 with ⟨f2, -⟩ | ⟨-, f2⟩
    · exact ⟨_, _, m', f2, ⟨fun z => (by cases z), fun z => absurd z hb⟩, fun _ => rfl, hm'⟩
    · exact absurd (mi_nf hm' h0.miss) f2
theorem resync_neg : mirror_Mirror_Resync m (-1) s = some (0, 1, m, s) := by unfold mirror_Mirror_Resync; rw [if_pos (by decide)]
theorem filling_neg : mirror_Mirror_filling m (-1) s = some 1 := by unfold mirror_Mirror_filling; rw [if_pos (.inl (.inl (by decide)))]
theorem fill_neg : mirror_Mirror_Fill m (-1) 0 s = some (0, 1, m, s) := by
  unfold mirror_Mirror_Fill
  rw [if_neg (by decide), filling_neg]; rfl
theorem accept_neg : mirror_Mirror_Accept m (-1) s = some (1, m, s) := by
  unfold mirror_Mirror_Accept
  rw [filling_neg]; rfl
theorem drop_neg (h : m.legs.length ≤ 6) : mirror_Mirror_Drop m (-1) s = some (1, m) := by
  unfold mirror_Mirror_Drop
  rw [if_neg (by rintro ⟨z, -⟩; omega), if_pos (by omega)]
theorem write_out (h : MI C s lv m) {at_ : Int} (hb : at_ < 0 ∨ (C.sz : Int) ≤ at_) : mirror_Mirror_Write m at_ v t = some (1, m, t) := by
  unfold mirror_Mirror_Write
  by_cases h1 : at_ < 0
  · rw [if_pos h1]
  · rw [if_neg h1, if_pos (by rw [h.size]; omega)]
theorem filling_0 (h : MI C s lv m) (hms : ∀ e, miss s e = false) : mirror_Mirror_filling m 0 s = some (if lv 0 = true then 20 else 0) := by
  have hL := C.hL
  have h2 := mi_st h hms (i := 0) (by omega)
  unfold mirror_Mirror_filling
  rw [if_neg (by rw [h.len]; omega), (result_eq h.l6).1 (mi_nf h hms)]; simp only [Option.bind_some]
  rw [if_neg (by simp)]
  unfold stM at h2
  cases hl : lv 0
  · rw [hl] at h2
    have h3 := h2.2 rfl
    rw [if_neg (by rintro (z | z); rw [h.len] at z; omega; exact z h3)]; rfl
  · rw [if_pos (.inr (fun z => by rw [h2.1 z] at hl; cases hl)), if_pos rfl]
def lv1 (lv : LV) : LV := ⟨lv.f, lv.lost, fun i => if i = 0 then 1 else 0, lv.ms⟩
theorem fill_one (h : MI C s lv m) (h0 : H0 C ws K s) (hK : K + 8 ≤ 1000) (hcp : ∀ i, i < C.L → lv.cp i = 0) (hex : ∃ j, j < C.L ∧ lv j = true) :
    ∃ w e m' t lv', mirror_Mirror_Fill m 0 1 s = some (w, e, m', t) ∧ (e = 20 ↔ lv 0 = true) ∧ MI C t lv' m' ∧ lv'.f = lv.f ∧ H0 C ws (K + 1) t ∧ (lv 0 = false → (m'.legs.getD 0 mleg_x0).copied = 1) := by
  have hL := C.hL
  have hs := C.hs
  unfold mirror_Mirror_Fill
  rw [if_neg (by decide), filling_0 h h0.miss]; simp only [Option.bind_some]
  cases hl : lv 0
  rotate_left
  · rw [if_pos rfl, if_pos (by decide)]
    exact ⟨_, _, _, _, lv, rfl, ⟨fun _ => rfl, fun _ => rfl⟩, h, rfl, ⟨h0.ok.mono (by omega), h0.dn, h0.fuse, h0.miss, h0.now⟩, fun z => by cases z⟩
  · have hlen : 0 < m.legs.length := by rw [h.len]; omega
    rw [if_neg (by simp), grd_t (decide_eq_true ⟨by omega, by omega⟩)]
    have hc0 : (m.legs.getD 0 mleg_x0).copied = 0 := by
      rcases (h.leg 0 (by omega)).2.1 with z | z
      · rw [z]; exact hcp 0 (by omega)
      · exact absurd ((mi_st h h0.miss (i := 0) (by omega)).2 hl) z
    obtain ⟨w, e, m1, r1, -, r2, r3⟩ := read_any h h0 hcp hex (0 : Int)
    have he : e = 0 := r2 (by omega)
    subst he
    have hlen1 : 0 < m1.legs.length := by rw [r3.len]; omega
    have hc1 : (m1.legs.getD 0 mleg_x0).copied = 0 := by
      rcases (r3.leg 0 (by omega)).2.1 with z | z
      · rw [z]; exact hcp 0 (by omega)
      · exact absurd ((mi_st r3 h0.miss (i := 0) (by omega)).2 hl) z
    obtain ⟨-, w2, w3⟩ | ⟨w1, -, -⟩ := h0.ok.wrA (v := w) (d := 0) (a := 0) (by omega) h0.dn (by rw [MC.len]; omega) (by rw [MC.leg (by omega)]; omega) (h0.miss 0)
    rotate_left
    · rw [h0.fuse] at w1; cases w1
    have hwr : Dvc.wr (xL 0 C.sz) s (0 : Int) w = some (0, wrS s 0 0 w) := by
      have := leg_wr (C := C) (v := w) h0.ok (by omega) (i := 0) (a := 0) (by omega) (by omega)
      rw [w2] at this
      exact this
    generalize wrS s 0 0 w = t at hwr w3
    obtain ⟨N, hN⟩ : ∃ N, FUEL = N + 1 + 1 := ⟨FUEL - 2, by have := fuel_big; omega⟩
    have hloop : mirror_Mirror_Fill_l1 0 FUEL m s 1 = some (.inl ({ m1 with legs := m1.legs.set 0 { m1.legs.getD 0 mleg_x0 with copied := 1 } }, t)) := by
      rw [hN]
      have hu : mirror_Mirror_Fill_l1 0 (N + 1 + 1) m s 1 = mirror_Mirror_Fill_l1_b 0 (mirror_Mirror_Fill_l1 0 (N + 1)) m s 1 := rfl
      rw [hu]
      unfold mirror_Mirror_Fill_l1_b
      have z0 : (0 : Int).toNat = 0 := rfl
      rw [if_pos (by decide), z0, grd_t (decide_eq_true hlen), hc0, if_pos (by rw [h.size]; omega), grd_t (decide_eq_true hlen), r1]; simp only [Option.bind_some]
      rw [if_neg (by simp), grd_t (decide_eq_true hlen1), grd_t (decide_eq_true hlen1), hc1, r3.dev (by omega), hwr]; simp only [Option.bind_some]
      rw [if_neg (by simp), grd_t (decide_eq_true hlen1), grd_t (inI64_of (by omega)), grd_t (decide_eq_true hlen1), grd_t (inI64_of (by omega))]
      have hu2 : ∀ x y z, mirror_Mirror_Fill_l1 0 (N + 1) x y z = mirror_Mirror_Fill_l1_b 0 (mirror_Mirror_Fill_l1 0 N) x y z := fun _ _ _ => rfl
      rw [hu2]
      unfold mirror_Mirror_Fill_l1_b
      rw [if_neg (by decide)]; rfl
    rw [hloop, seqO_inl, grd_t (decide_eq_true (by simp; omega))]
    have hat : ∀ j, (m1.legs.set 0 { m1.legs.getD 0 mleg_x0 with copied := 1 }).getD j mleg_x0 = if j = 0 then { m1.legs.getD 0 mleg_x0 with copied := 1 } else m1.legs.getD j mleg_x0 := fun j => getD_setM hlen1
    have hlogc : ∀ b, b < 3 → now t C.L b = now s C.L b ∧ cand t C.L b = cand s C.L b := fun b hb => by
      refine ⟨by rw [w3.now, if_neg (by omega)], ?_⟩
      rw [w3.cand, if_neg (by omega)]
    have hmt : MI C t lv m1 := r3.arr w3.miss hlogc
    refine ⟨_, _, _, t, lv1 lv, rfl, ⟨fun z => (by cases z), fun z => (by cases z)⟩, ⟨by simp [r3.len], fun i hi => ?_, hmt.size, hmt.region, hmt.hasLog, hmt.dl, hmt.log, hmt.d⟩, rfl, ⟨w3.ok, w3.dn, by rw [w3.fuse, h0.fuse], fun e => by rw [w3.miss]; exact h0.miss e, fun i a hi ha => ?_⟩, fun _ => by
      show ((m1.legs.set 0 _).getD 0 mleg_x0).copied = 1
      rw [hat]; rfl⟩
    · obtain ⟨g1, g2, g3⟩ := hmt.leg i hi
      unfold stM at g2 g3 ⊢
      show ((m1.legs.set 0 _).getD i mleg_x0).dev = _ ∧ (((m1.legs.set 0 _).getD i mleg_x0).copied = _ ∨ ((m1.legs.set 0 _).getD i mleg_x0).state ≠ 2) ∧ ((lv1 lv) i = true ∧ ((m1.legs.set 0 _).getD i mleg_x0).state = 0 ∧ _ ∨ (lv1 lv) i = false ∧ (((m1.legs.set 0 _).getD i mleg_x0).state = 2 ∨ _ ∧ (((m1.legs.set 0 _).getD i mleg_x0).state = 0 ∨ ((m1.legs.set 0 _).getD i mleg_x0).state = 1)))
      rw [hat]
      by_cases e : i = 0
      · subst e
        rw [if_pos rfl]
        exact ⟨g1, .inl rfl, g3⟩
      · rw [if_neg e]
        refine ⟨g1, ?_, g3⟩
        rcases g2 with z | z
        · exact .inl (z.trans ((hcp i hi).trans (if_neg e).symm))
        · exact .inr z
    · rw [w3.now]
      split
      · rename_i e
        obtain ⟨rfl, rfl⟩ := e
        obtain ⟨j, hj, hlj⟩ := hex
        obtain ⟨m9, f1, f2⟩ := read_u h hcp (mi_nf h h0.miss) h0.ok h0.dn (a := 0) (w := ws.getD 0 0) (by omega) ⟨j, hj, hlj⟩ (fun j hj _ => h0.now j 0 hj (by omega))
        rcases f2 with ⟨f2, -⟩ | ⟨-, f2⟩
        · have f3 : mirror_Mirror_Read m (0 : Int) s = some (ws.getD 0 0, 0, m9, s) := f2
          rw [r1] at f3
          have hE := Option.some.inj f3
          simp only [Prod.mk.injEq] at hE
          exact hE.1
        · exact absurd (mi_nf (h.fd f1) h0.miss) f2
      · exact h0.now i a hi ha
end
end Go.Proofs
namespace Go.Proofs
open Go.VG
def dropE (m : MirS) (k : Nat) : MirS := { m with legs := m.legs.set k ⟨(m.legs.getD k mleg_x0).dev, 2, 0⟩ }
section
variable {C : MC} {K a i k n : Nat} {s t u y : ArrS} {lv : LV} {m m' x : MirS} {w v : UInt64} {st : List Int} {ws : List UInt64}
theorem dropE_at (h : i < m.legs.length) {j : Nat} : stM (dropE m i) j = if j = i then 2 else stM m j := by
  unfold stM dropE
  show ((m.legs.set i _).getD j mleg_x0).state = _
  rw [getD_setM h]
  split <;> rfl
theorem dropE_l1 (hl : m.legs.length ≤ 6) : ∀ (N i c : Nat), m.legs.length - i < N → i ≤ m.legs.length → c ≤ i → ∃ c', mirror_Mirror_Drop_l1 m ((k : Nat) : Int) N i c = some c' ∧ (0 < c' ↔ (∃ j, i ≤ j ∧ j < m.legs.length ∧ j ≠ k ∧ stM m j ≠ 2) ∨ 0 < c)
  | 0, _, _, h, _, _ => absurd h (by omega)
  | N + 1, i, c, h, hi, hc => by
    have hu : mirror_Mirror_Drop_l1 m ((k : Nat) : Int) (N + 1) i c = mirror_Mirror_Drop_l1_b m ((k : Nat) : Int) (mirror_Mirror_Drop_l1 m ((k : Nat) : Int) N) i c := rfl
    rw [hu]
    unfold mirror_Mirror_Drop_l1_b
    by_cases hlt : i < m.legs.length
    · rw [if_pos (by omega)]
      by_cases h1 : (((i : Nat) : Int) ≠ ((k : Nat) : Int)) ∧ (m.legs.getD i mleg_x0).state ≠ 2
      · rw [if_pos h1, grd_t (inN64_of (by omega))]
        obtain ⟨c', k1, k2⟩ := dropE_l1 hl N (i + 1) (c + 1) (by omega) (by omega) (by omega)
        exact ⟨c', k1, ⟨fun _ => .inl ⟨i, Nat.le_refl _, hlt, fun e => h1.1 (by rw [e]), h1.2⟩, fun _ => k2.2 (.inr (by omega))⟩⟩
      · rw [if_neg h1]
        obtain ⟨c', k1, k2⟩ := dropE_l1 hl N (i + 1) c (by omega) (by omega) (by omega)
        refine ⟨c', k1, k2.trans (or_congr ⟨fun ⟨j, j1, j2, j3, j4⟩ => ⟨j, by omega, j2, j3, j4⟩, fun ⟨j, j1, j2, j3, j4⟩ => ⟨j, ?_, j2, j3, j4⟩⟩ Iff.rfl)⟩
        rcases Nat.lt_or_ge i j with z | z
        · exact z
        · have : j = i := by omega
          subst this
          exact absurd ⟨fun e => j3 (Int.ofNat.inj e), j4⟩ h1
    · rw [if_neg (by omega)]
      exact ⟨c, rfl, ⟨fun z => .inr z, fun z => z.elim (fun ⟨j, j1, j2, _⟩ => absurd (Nat.lt_of_le_of_lt j1 j2) hlt) id⟩⟩
theorem dropE_eq (hl : m.legs.length ≤ 6) (hk : k < m.legs.length) : ∃ e m', mirror_Mirror_Drop m ((k : Nat) : Int) s = some (e, m') ∧ ((∃ j, j < m.legs.length ∧ j ≠ k ∧ stM m j ≠ 2) ∧ e = 0 ∧ m' = dropE m k ∨ (¬ ∃ j, j < m.legs.length ∧ j ≠ k ∧ stM m j ≠ 2) ∧ e = 19 ∧ m' = m) := by
  have hF := fuel_big
  unfold mirror_Mirror_Drop
  rw [if_neg (by rintro ⟨x, -⟩; omega), if_neg (by omega)]
  obtain ⟨c', c1, c2⟩ := dropE_l1 (k := k) hl FUEL 0 0 (by omega) (by omega) (by omega)
  rw [c1]; simp only [Option.bind_some]
  have hiff : (0 < c') ↔ ∃ j, j < m.legs.length ∧ j ≠ k ∧ stM m j ≠ 2 := c2.trans ⟨fun z => z.elim (fun ⟨j, _, j2, j3, j4⟩ => ⟨j, j2, j3, j4⟩) (fun z => absurd z (by omega)), fun ⟨j, j2, j3, j4⟩ => .inl ⟨j, by omega, j2, j3, j4⟩⟩
  by_cases hc : 0 < c'
  · rw [if_neg (by omega), Int.toNat_natCast, grd_t (decide_eq_true ⟨by omega, by simp; omega⟩)]
    refine ⟨_, _, rfl, .inl ⟨hiff.1 hc, rfl, ?_⟩⟩
    have e : ((m.legs.set k { m.legs.getD k mleg_x0 with state := 2 }).set k { (m.legs.set k { m.legs.getD k mleg_x0 with state := 2 }).getD k mleg_x0 with copied := 0 }) = m.legs.set k ⟨(m.legs.getD k mleg_x0).dev, 2, 0⟩ := by
      rw [List.set_set, getD_setM hk, if_pos rfl]
    rw [e]; rfl
  · rw [if_pos (by omega)]
    exact ⟨_, _, rfl, .inr ⟨fun z => hc (hiff.2 z), rfl, rfl⟩⟩
theorem accept_0 (h : MI C s lv m) (h0 : H0 C ws K s) (hK : K ≤ 1000) (hc : lv 0 = false → (m.legs.getD 0 mleg_x0).copied = 1) :
    ∃ e m' t, mirror_Mirror_Accept m 0 s = some (e, m', t) ∧ (e = 0 → C.sz ≤ 1) ∧ m'.legs.length = C.L ∧ (∀ j, j < C.L → j ≠ 0 → (stM m' j = 2 ↔ lv j = false)) ∧ (lv 0 = true → stM m' 0 ≠ 2) := by
  have hL := C.hL
  have hs := C.hs
  have hR := C.hR
  have hst : ∀ j, j < C.L → (stM m j = 2 ↔ lv j = false) := fun j hj => mi_st h h0.miss hj
  have hlen : 0 < m.legs.length := by rw [h.len]; omega
  have same : ∀ {e : Int}, e ≠ 0 → ∃ e' m' t, some (e, m, s) = some (e', m', t) ∧ (e' = 0 → C.sz ≤ 1) ∧ m'.legs.length = C.L ∧ (∀ j, j < C.L → j ≠ 0 → (stM m' j = 2 ↔ lv j = false)) ∧ (lv 0 = true → stM m' 0 ≠ 2) := fun {e} he =>
    ⟨e, m, s, rfl, fun z => absurd z he, h.len, fun j hj _ => hst j hj, fun hl z => by rw [(hst 0 (by omega)).1 z] at hl; cases hl⟩
  unfold mirror_Mirror_Accept
  rw [filling_0 h h0.miss]; simp only [Option.bind_some]
  cases hl : lv 0
  rotate_left
  · rw [hl] at same
    rw [if_pos rfl, if_pos (by decide)]; exact same (by decide)
  · rw [hl] at same
    rw [if_neg (by simp), grd_t (decide_eq_true ⟨by omega, by omega⟩)]
    have z0 : (0 : Int).toNat = 0 := rfl
    rw [z0, hc hl, h.size]
    by_cases h1 : 1 < C.sz
    · rw [if_pos (by omega)]; exact same (by decide)
    · rw [if_neg (by omega), mdirty_eq (by rw [h.dl]; omega)]; simp only [Option.bind_some]
      split
      · exact same (by decide)
      · obtain ⟨e, m1, t, f1, f2, f3, f4⟩ := flush_legs h h0.ok h0.dn (by omega)
        have hm1 : MI C t lv m1 := (h.fd f2).arr f3.miss f3.log
        have hmst : ∀ e, miss t e = false := fun e => by rw [f3.miss]; exact h0.miss e
        rcases f4 with ⟨rfl, -⟩ | ⟨-, f4⟩
        rotate_left
        · exact absurd (mi_nf hm1 hmst) f4
        rw [f1]; simp only [Option.bind_some]
        obtain ⟨k1, k2⟩ := f3.ok.flA (d := 0) f3.dn (by rw [MC.len]; omega) (hmst 0)
        have hk1 : 0 < m1.legs.length := by rw [hm1.len]; omega
        have hfl : Dvc.fl (xL 0 C.sz) t = some (flC t 0, flS t 0) := leg_fl (C := C) f3.ok (by omega) (by omega)
        rw [if_neg (by simp), grd_t (decide_eq_true ⟨by omega, by omega⟩), hm1.dev (by omega), hfl, show flC t 0 = 0 from k1]; simp only [Option.bind_some]
        rw [if_neg (by simp), grd_t (decide_eq_true ⟨by omega, by omega⟩)]
        refine ⟨_, _, _, rfl, fun _ => by omega, by simp [hm1.len], fun j hj hj0 => ?_, fun z => by cases z⟩
        unfold stM
        show ((m1.legs.set 0 _).getD j mleg_x0).state = 2 ↔ _
        rw [getD_setM hk1, if_neg hj0]
        exact mi_st hm1 hmst hj
def othB (L : Nat) (g : List Bool) (k : Nat) (rec : Bool → Nat → Option (Bool)) (x154 : Bool) (x155 : Nat) : Option (Bool) :=
  if (((x155 : Nat) : Int) < ((L : Nat) : Int)) then
    grd (decide ((¬ x154 = true) → (((x155 : Nat) : Int) ≠ ((k : Nat) : Int)) → x155 < g.length)) <|
    grd (decide ((¬ x154 = true) → (((x155 : Nat) : Int) ≠ ((k : Nat) : Int)) → x155 < g.length)) <|
    grd (inN64 (x155 + 1)) <|
    rec ((x154 || ((decide (((x155 : Nat) : Int) ≠ ((k : Nat) : Int))) && (!(g.getD x155 false))))) (x155 + 1)
  else
    some x154
theorem oth_rule {L : Nat} {g : List Bool} {f : Nat → Bool → Nat → Option Bool} (hf : ∀ n b j, f (n + 1) b j = othB L g k (f n) b j) (hg : g.length = L + 1) (hL : L ≤ 6) : ∀ (N j : Nat) (b : Bool), L - j < N → j ≤ L → ∃ b', f N b j = some b' ∧ (b' = true ↔ b = true ∨ ∃ q, j ≤ q ∧ q < L ∧ q ≠ k ∧ g.getD q false = false)
  | 0, _, _, h, _ => absurd h (by omega)
  | N + 1, j, b, h, hj => by
    rw [hf]
    unfold othB
    by_cases hlt : j < L
    · rw [if_pos (by omega), grd_t (decide_eq_true (fun _ _ => by omega)), grd_t (decide_eq_true (fun _ _ => by omega)), grd_t (inN64_of (by omega))]
      obtain ⟨b', k1, k2⟩ := oth_rule hf hg hL N (j + 1) (b || (decide (((j : Nat) : Int) ≠ ((k : Nat) : Int)) && !(g.getD j false))) (by omega) (by omega)
      refine ⟨b', k1, k2.trans ?_⟩
      rw [Bool.or_eq_true, Bool.and_eq_true, decide_eq_true_iff, Bool.not_eq_true']
      constructor
      · rintro ((z | ⟨z1, z2⟩) | ⟨q, q1, q2⟩)
        · exact .inl z
        · exact .inr ⟨j, Nat.le_refl _, hlt, fun e => z1 (by rw [e]), z2⟩
        · exact .inr ⟨q, by omega, q2⟩
      · rintro (z | ⟨q, q1, q2, q3, q4⟩)
        · exact .inl (.inl z)
        · rcases Nat.lt_or_ge j q with z | z
          · exact .inr ⟨q, z, q2, q3, q4⟩
          · have : q = j := by omega
            subst this
            exact .inl (.inr ⟨by omega, q4⟩)
    · rw [if_neg (by omega)]
      exact ⟨b, rfl, ⟨fun z => .inl z, fun z => z.elim id (fun ⟨q, q1, q2, _⟩ => absurd (Nat.lt_of_le_of_lt q1 q2) hlt)⟩⟩
def drpB (L : Nat) (oth : List Bool → Nat → Nat → Bool → Nat → Option Bool) (y : ArrS) (rec : MirS → (List Bool) → Nat → Option ((MirS × (List Bool)) ⊕ Bool)) (x145 : MirS) (x146 : List Bool) (x147 : Nat) : Option ((MirS × (List Bool)) ⊕ Bool) :=
  if (((x147 : Nat) : Int) < ((L : Nat) : Int)) then
    Option.bind (oth x146 x147 FUEL false 0) fun a153 =>
    Option.bind (mirror_Mirror_Drop x145 (((x147 : Nat) : Int)) y) fun r182 =>
    if ((a153 = true ∧ (r182.1 ≠ (0 : Int))) ∨ ((¬ a153 = true) ∧ (r182.1 ≠ (19 : Int)))) then
      some (.inr false)
    else
      grd (decide (x147 < x146.length)) <|
      grd (decide (x147 < x146.length)) <|
      grd (inN64 (x147 + 1)) <|
      rec r182.2 ((x146.set x147 (((x146.getD x147 false) || a153)))) (x147 + 1)
  else
    some (.inl (x145, x146))
theorem bset {l : List Bool} {i j : Nat} {v : Bool} (h : i < l.length) : (l.set i v).getD j false = if j = i then v else l.getD j false := by
  simp only [List.getD, List.getElem?_set]
  by_cases e : i = j
  · subst e; simp [h]
  · rw [if_neg e, if_neg (fun x => e x.symm)]
structure Dl (L : Nat) (k : Nat) (m : MirS) (g : List Bool) : Prop where
  len : m.legs.length = L
  gl : g.length = L + 1
  leg : ∀ j, j < L → (j ≠ 0 ∨ 0 < k) → (stM m j = 2 ↔ g.getD j false = true)
  l0 : (stM m 0 = 2 ↔ g.getD 0 false = true) ∨ k = 0 ∧ ∃ j, j < L ∧ j ≠ 0 ∧ g.getD j false = false
theorem drop_rule {L : Nat} (hL : 0 < L ∧ L ≤ 6) {oth : List Bool → Nat → Nat → Bool → Nat → Option Bool} {y : ArrS} {f : Nat → MirS → (List Bool) → Nat → Option ((MirS × (List Bool)) ⊕ Bool)} (hf : ∀ n x g k, f (n + 1) x g k = drpB L oth y (f n) x g k) (ho : ∀ g k n b j, oth g k (n + 1) b j = othB L g k (oth g k n) b j) :
    ∀ (N k : Nat) (m : MirS) (g : List Bool), L - k < N → k ≤ L → Dl L k m g → ∃ z, f N m g k = some (.inl z)
  | 0, _, _, _, h, _, _ => absurd h (by omega)
  | N + 1, k, m, g, h, hk, hd => by
    have hF := fuel_big
    rw [hf]
    unfold drpB
    by_cases hlt : k < L
    · have n1 : L - (k + 1) < N := by omega
      have n2 : k + 1 ≤ L := by omega
      have n3 : inN64 (k + 1) = true := inN64_of (by omega)
      have n4 : ∀ j, j ≠ k → 0 < k + 1 → j ≠ 0 ∨ 0 < k := fun j _ _ => by omega
      obtain ⟨b, b1, b2⟩ := oth_rule (f := oth g k) (ho g k) hd.gl hL.2 FUEL 0 false (by omega) (by omega)
      obtain ⟨e, m', d1, d2⟩ := dropE_eq (m := m) (s := y) (k := k) (by rw [hd.len]; exact hL.2) (by rw [hd.len]; exact hlt)
      rw [if_pos (by omega), b1, d1]; simp only [Option.bind_some]
      have hiff : (∃ j, j < m.legs.length ∧ j ≠ k ∧ stM m j ≠ 2) ↔ b = true := by
        rw [b2, hd.len]
        have hj : ∀ j, j < L → j ≠ k → (stM m j ≠ 2 ↔ g.getD j false = false) := fun j hj hjk => by
          rw [← Bool.not_eq_true]
          exact not_congr (hd.leg j hj (by omega))
        constructor
        · rintro ⟨j, j1, j2, j3⟩
          exact .inr ⟨j, by omega, j1, j2, (hj j j1 j2).1 j3⟩
        · rintro (z | ⟨j, -, j1, j2, j3⟩)
          · cases z
          · exact ⟨j, j1, j2, (hj j j1 j2).2 j3⟩
      have hkg : k < g.length := by rw [hd.gl]; omega
      rcases d2 with ⟨d2, rfl, rfl⟩ | ⟨d2, rfl, rfl⟩
      · have hb := hiff.1 d2
        rw [if_neg (by rintro (⟨-, z⟩ | ⟨z, -⟩); exact z rfl; exact z hb), grd_t (decide_eq_true hkg), grd_t (decide_eq_true hkg), grd_t n3, hb, Bool.or_true]
        have hkm : k < m.legs.length := by rw [hd.len]; exact hlt
        refine drop_rule hL hf ho N (k + 1) _ _ n1 n2 ⟨by simp [dropE, hd.len], by simp [hd.gl], fun j hj _ => ?_, .inl ?_⟩
        · rw [dropE_at hkm, bset hkg]
          by_cases e : j = k
          · rw [if_pos e, if_pos e]; exact ⟨fun _ => rfl, fun _ => rfl⟩
          · rw [if_neg e, if_neg e]; exact hd.leg j hj (by omega)
        · rw [dropE_at hkm, bset hkg]
          by_cases e : 0 = k
          · rw [if_pos e, if_pos e]; exact ⟨fun _ => rfl, fun _ => rfl⟩
          · rw [if_neg e, if_neg e]; exact hd.leg 0 hL.1 (by omega)
      · have hb : b = false := by rw [← Bool.not_eq_true]; exact fun z => d2 (hiff.2 z)
        have h0 : stM m' 0 = 2 ↔ g.getD 0 false = true := by
          rcases hd.l0 with z | ⟨rfl, j, j1, j2, j3⟩
          · exact z
          · have := b2.2 (.inr ⟨j, by omega, j1, j2, j3⟩)
            rw [hb] at this; cases this
        rw [if_neg (by rintro (⟨z, -⟩ | ⟨-, z⟩); rw [hb] at z; cases z; exact z rfl), grd_t (decide_eq_true hkg), grd_t (decide_eq_true hkg), grd_t n3, hb, Bool.or_false]
        have hgs : ∀ j, (g.set k (g.getD k false)).getD j false = g.getD j false := fun j => by
          rw [bset hkg]
          split
          · rename_i e; rw [e]
          · rfl
        refine drop_rule hL hf ho N (k + 1) _ _ n1 n2 ⟨hd.len, by simp [hd.gl], fun j hj _ => ?_, .inl (by rw [hgs]; exact h0)⟩
        rw [hgs]
        by_cases e : j = 0
        · rw [e]; exact h0
        · exact hd.leg j hj (.inl e)
    · rw [if_neg (by omega)]
      exact ⟨_, rfl⟩
def stlB (L : Nat) (stale : List Int) (rec : (List Bool) → Nat → Nat → Option (Nat × (List Bool))) (x29 : List Bool) (x30 : Nat) (x31 : Nat) : Option (Nat × (List Bool)) :=
  if (((x31 : Nat) : Int) < ((stale.length : Nat) : Int)) then
    if ((stale.getD x31 0) < (0 : Int)) then
      rec x29 1 (x31 + 1)
    else
      if (((L : Nat) : Int) < (stale.getD x31 0)) then
        rec x29 1 (x31 + 1)
      else
        grd (decide (0 ≤ (stale.getD x31 0) ∧ (stale.getD x31 0) < (x29.length : Int))) <|
        rec ((x29.set (((stale.getD x31 0)).toNat) true)) x30 (x31 + 1)
  else
    some (x30, x29)
theorem stl_rule {L : Nat} {f : Nat → List Bool → Nat → Nat → Option (Nat × List Bool)} (hf : ∀ n x p i, f (n + 1) x p i = stlB L st (f n) x p i) : ∀ (N i p : Nat) (g : List Bool), st.length - i < N → i ≤ st.length → g.length = L + 1 →
    ∃ p' g', f N g p i = some (p', g') ∧ g'.length = L + 1 ∧ (p' = p ∧ (∀ q, i ≤ q → q < st.length → 0 ≤ st.getD q 0 ∧ st.getD q 0 ≤ (L : Int)) ∨ p' = 1 ∧ ∃ q, i ≤ q ∧ q < st.length ∧ (st.getD q 0 < 0 ∨ (L : Int) < st.getD q 0)) ∧ ∀ r : Nat, r ≤ L → (g'.getD r false = true ↔ g.getD r false = true ∨ ∃ q, i ≤ q ∧ q < st.length ∧ st.getD q 0 = (r : Int))
  | 0, _, _, _, h, _, _ => absurd h (by omega)
  | N + 1, i, p, g, h, hi, hg => by
    rw [hf]
    unfold stlB
    by_cases hlt : i < st.length
    · rw [if_pos (by omega)]
      have bad : (st.getD i 0 < 0 ∨ (L : Int) < st.getD i 0) → ∃ p' g', f N g 1 (i + 1) = some (p', g') ∧ g'.length = L + 1 ∧ (p' = p ∧ (∀ q, i ≤ q → q < st.length → 0 ≤ st.getD q 0 ∧ st.getD q 0 ≤ (L : Int)) ∨ p' = 1 ∧ ∃ q, i ≤ q ∧ q < st.length ∧ (st.getD q 0 < 0 ∨ (L : Int) < st.getD q 0)) ∧ ∀ r : Nat, r ≤ L → (g'.getD r false = true ↔ g.getD r false = true ∨ ∃ q, i ≤ q ∧ q < st.length ∧ st.getD q 0 = (r : Int)) := fun hb => by
        obtain ⟨p', g', k1, k2, k3, k4⟩ := stl_rule hf N (i + 1) 1 g (by omega) (by omega) hg
        refine ⟨p', g', k1, k2, .inr ⟨?_, i, Nat.le_refl _, hlt, hb⟩, fun r hr => (k4 r hr).trans (or_congr Iff.rfl ⟨fun ⟨q, q1, q2⟩ => ⟨q, by omega, q2⟩, fun ⟨q, q1, q2, q3⟩ => ⟨q, ?_, q2, q3⟩⟩)⟩
        · rcases k3 with ⟨z, -⟩ | ⟨z, -⟩ <;> exact z
        · rcases Nat.lt_or_ge i q with z | z
          · exact z
          · have : q = i := by omega
            subst this
            omega
      by_cases h1 : st.getD i 0 < 0
      · rw [if_pos h1]; exact bad (.inl h1)
      · rw [if_neg h1]
        by_cases h2 : (L : Int) < st.getD i 0
        · rw [if_pos h2]; exact bad (.inr h2)
        · rw [if_neg h2, grd_t (decide_eq_true ⟨by omega, by rw [hg]; omega⟩)]
          obtain ⟨d, hd⟩ : ∃ d : Nat, st.getD i 0 = (d : Int) := ⟨(st.getD i 0).toNat, by omega⟩
          rw [hd, Int.toNat_natCast]
          have hdl : d < g.length := by rw [hg]; omega
          obtain ⟨p', g', k1, k2, k3, k4⟩ := stl_rule hf N (i + 1) p (g.set d true) (by omega) (by omega) (by simp [hg])
          refine ⟨p', g', k1, k2, ?_, fun r hr => (k4 r hr).trans ?_⟩
          · rcases k3 with ⟨z1, z2⟩ | ⟨z1, q, q1, q2⟩
            · refine .inl ⟨z1, fun q hq1 hq2 => ?_⟩
              rcases Nat.lt_or_ge i q with z | z
              · exact z2 q z hq2
              · have : q = i := by omega
                subst this
                omega
            · exact .inr ⟨z1, q, by omega, q2⟩
          · rw [bset hdl]
            by_cases e : r = d
            · subst e
              rw [if_pos rfl]
              exact ⟨fun _ => .inr ⟨i, Nat.le_refl _, hlt, hd⟩, fun _ => .inl rfl⟩
            · rw [if_neg e]
              refine or_congr Iff.rfl ⟨fun ⟨q, q1, q2⟩ => ⟨q, by omega, q2⟩, fun ⟨q, q1, q2, q3⟩ => ⟨q, ?_, q2, q3⟩⟩
              rcases Nat.lt_or_ge i q with z | z
              · exact z
              · have : q = i := by omega
                subst this
                exact absurd (Int.ofNat.inj (hd.symm.trans q3)).symm e
    · rw [if_neg (by omega)]
      exact ⟨p, g, rfl, hg, .inl ⟨rfl, fun q h1 h2 => by omega⟩, fun r _ => ⟨fun z => .inl z, fun z => z.elim id (fun ⟨q, q1, q2, _⟩ => absurd (Nat.lt_of_le_of_lt q1 q2) hlt)⟩⟩
def allB (L : Nat) (g : List Bool) (rec : Bool → Nat → Option (Bool)) (x40 : Bool) (x41 : Nat) : Option (Bool) :=
  if (((x41 : Nat) : Int) < ((L : Nat) : Int)) then
    grd (decide (x40 = true → x41 < g.length)) <|
    grd (decide (x40 = true → x41 < g.length)) <|
    grd (inN64 (x41 + 1)) <|
    rec ((x40 && (g.getD x41 false))) (x41 + 1)
  else
    some x40
theorem allS_rule {L : Nat} {g : List Bool} {f : Nat → Bool → Nat → Option Bool} (hf : ∀ n b j, f (n + 1) b j = allB L g (f n) b j) (hg : g.length = L + 1) (hL : L ≤ 6) : ∀ (N j : Nat) (b : Bool), L - j < N → j ≤ L → ∃ b', f N b j = some b' ∧ (b' = true ↔ b = true ∧ ∀ q, j ≤ q → q < L → g.getD q false = true)
  | 0, _, _, h, _ => absurd h (by omega)
  | N + 1, j, b, h, hj => by
    rw [hf]
    unfold allB
    by_cases hlt : j < L
    · rw [if_pos (by omega), grd_t (decide_eq_true (fun _ => by omega)), grd_t (decide_eq_true (fun _ => by omega)), grd_t (inN64_of (by omega))]
      obtain ⟨b', k1, k2⟩ := allS_rule hf hg hL N (j + 1) (b && g.getD j false) (by omega) (by omega)
      refine ⟨b', k1, k2.trans ?_⟩
      rw [Bool.and_eq_true]
      constructor
      · rintro ⟨⟨z1, z2⟩, z3⟩
        refine ⟨z1, fun q q1 q2 => ?_⟩
        rcases Nat.lt_or_ge j q with z | z
        · exact z3 q z q2
        · have : q = j := by omega
          subst this; exact z2
      · rintro ⟨z1, z2⟩
        exact ⟨⟨z1, z2 j (Nat.le_refl _) hlt⟩, fun q q1 q2 => z2 q (by omega) q2⟩
    · rw [if_neg (by omega)]
      exact ⟨b, rfl, ⟨fun z => ⟨z, fun q q1 q2 => by omega⟩, fun z => z.1⟩⟩
def tailE (F : (Bool × MirS × ArrS) → MirS → List Bool → Nat → Option ((MirS × List Bool) ⊕ Bool)) (m : MirS) (s : ArrS) (at_3 : Int) (sz : Nat) (g : List Bool) : Option Bool :=
  Option.bind (mirror_Mirror_Read m at_3 s) fun r127 =>
  Option.bind (mirror_Mirror_Resync r127.2.2.1 (-1 : Int) r127.2.2.2) fun r137 =>
  Option.bind (mirror_Mirror_Fill r137.2.2.1 (-1 : Int) (0 : Int) r137.2.2.2) fun r139 =>
  Option.bind (mirror_Mirror_Fill r139.2.2.1 (0 : Int) (1 : Int) r139.2.2.2) fun r141 =>
  Option.bind ((
    Option.bind (mirror_Mirror_Size r141.2.2.1 r141.2.2.2) fun r150 =>
    if (r150 ≠ ((sz : Nat) : Int)) then
      some (true, r141.2.2.1, r141.2.2.2)
    else
      if (¬ (((at_3 < (0 : Int)) ∨ (((sz : Nat) : Int) ≤ at_3)) ↔ (r127.2.1 = (1 : Int)))) then
        some (true, r141.2.2.1, r141.2.2.2)
      else
        if ((at_3 < (0 : Int)) ∨ (((sz : Nat) : Int) ≤ at_3)) then
          Option.bind (mirror_Mirror_Write r141.2.2.1 at_3 (1 : UInt64) r141.2.2.2) fun r152 =>
          if (r152.1 ≠ (1 : Int)) then
            some (true, r152.2.1, r152.2.2)
          else
            if (r137.2.1 ≠ (1 : Int)) then
              some (true, r152.2.1, r152.2.2)
            else
              if (r139.2.1 ≠ (1 : Int)) then
                some (true, r152.2.1, r152.2.2)
              else
                grd (decide (0 < g.length)) <|
                if (¬ ((r141.2.1 = (20 : Int)) ↔ (¬ (g.getD 0 false) = true))) then
                  some (true, r152.2.1, r152.2.2)
                else
                  Option.bind (mirror_Mirror_Drop r152.2.1 (-1 : Int) r152.2.2) fun r154 =>
                  if (r154.1 ≠ (1 : Int)) then
                    some (true, r154.2, r152.2.2)
                  else
                    Option.bind (mirror_Mirror_Accept r154.2 (-1 : Int) r152.2.2) fun r156 =>
                    if (r156.1 ≠ (1 : Int)) then
                      some (true, r156.2.1, r156.2.2)
                    else
                      Option.bind (mirror_Mirror_Accept r156.2.1 (0 : Int) r156.2.2) fun r158 =>
                      if (r158.1 = (0 : Int)) then
                        some (((decide ((1 : Int) < ((sz : Nat) : Int))), r158.2.1, r158.2.2))
                      else
                        some (false, r158.2.1, r158.2.2)
        else
          if (r137.2.1 ≠ (1 : Int)) then
            some (true, r141.2.2.1, r141.2.2.2)
          else
            if (r139.2.1 ≠ (1 : Int)) then
              some (true, r141.2.2.1, r141.2.2.2)
            else
              grd (decide (0 < g.length)) <|
              if (¬ ((r141.2.1 = (20 : Int)) ↔ (¬ (g.getD 0 false) = true))) then
                some (true, r141.2.2.1, r141.2.2.2)
              else
                Option.bind (mirror_Mirror_Drop r141.2.2.1 (-1 : Int) r141.2.2.2) fun r160 =>
                if (r160.1 ≠ (1 : Int)) then
                  some (true, r160.2, r141.2.2.2)
                else
                  Option.bind (mirror_Mirror_Accept r160.2 (-1 : Int) r141.2.2.2) fun r162 =>
                  if (r162.1 ≠ (1 : Int)) then
                    some (true, r162.2.1, r162.2.2)
                  else
                    Option.bind (mirror_Mirror_Accept r162.2.1 (0 : Int) r162.2.2) fun r164 =>
                    if (r164.1 = (0 : Int)) then
                      some (((decide ((1 : Int) < ((sz : Nat) : Int))), r164.2.1, r164.2.2))
                    else
                      some (false, r164.2.1, r164.2.2) : Option (Bool × MirS × ArrS))) fun a149 =>
  if a149.1 = true then
    some false
  else
    seqO (F a149 a149.2.1 g 0) fun _a172 =>
    Option.bind (volumegrouplaw21_awake) fun r234 =>
    some r234
def DropOk (L : Nat) (F : (Bool × MirS × ArrS) → MirS → List Bool → Nat → Option ((MirS × List Bool) ⊕ Bool)) : Prop := ∀ r m g, Dl L 0 m g → ∃ z, F r m g 0 = some (.inl z)
theorem tailE_eq {F : (Bool × MirS × ArrS) → MirS → List Bool → Nat → Option ((MirS × List Bool) ⊕ Bool)} (h1 : DropOk C.L F) (h : MI C s (lvE C st) m) (h0 : H0 C ws K s) (hK : K ≤ 900) (hex : ∃ j, j < C.L ∧ (j : Int) ∉ st) {g : List Bool} (hg : g.length = C.L + 1) (hgs : ∀ r : Nat, r ≤ C.L → (g.getD r false = true ↔ (r : Int) ∈ st)) {at_ : Int} :
    tailE F m s at_ C.sz g = some true := by
  have hL := C.hL
  have hs := C.hs
  have hcp : ∀ i, i < C.L → (lvE C st).cp i = 0 := fun _ _ => rfl
  have hex' : ∃ j, j < C.L ∧ (lvE C st) j = true := by
    obtain ⟨j, j1, j2⟩ := hex
    exact ⟨j, j1, by rw [lvE_leg j1]; exact decide_eq_true j2⟩
  have hlg : ∀ j, j < C.L → ((lvE C st) j = true ↔ g.getD j false = false) := fun j hj => by
    rw [lvE_leg hj, decide_eq_true_iff, ← Bool.not_eq_true]
    exact not_congr (hgs j (by omega)).symm
  obtain ⟨w, e, m1, r1, r2, -, r3⟩ := read_any h h0 hcp hex' at_
  obtain ⟨w2, e2, m2, t, lv', f1, f2, f3, f4, f5, f6⟩ := fill_one r3 h0 (by omega) hcp hex'
  have hlv : ∀ j, lv' j = (lvE C st) j := fun j => congrFun f4 j
  obtain ⟨e3, m3, t3, a1, a2, a3, a4, a5⟩ := accept_0 f3 f5 (by omega) (fun z => f6 (by rw [hlv] at z; exact z))
  have hl6 : m2.legs.length ≤ 6 := f3.l6
  have h20 : e2 = 20 ↔ ¬ g.getD 0 false = true := by rw [f2, hlg 0 (by omega), Bool.not_eq_true]
  have hdl : Dl C.L 0 m3 g := by
    have hj : ∀ j, j < C.L → j ≠ 0 → (stM m3 j = 2 ↔ g.getD j false = true) := fun j hj hj0 => by
      rw [a4 j hj hj0, hlv, ← Bool.not_eq_true, hlg j hj, Bool.not_eq_false]
    refine ⟨a3, hg, fun j hj1 hj0 => hj j hj1 (by omega), ?_⟩
    by_cases ho : ∃ j, j < C.L ∧ j ≠ 0 ∧ g.getD j false = false
    · exact .inr ⟨rfl, ho⟩
    · refine .inl ?_
      have hl0 : (lvE C st) 0 = true := by
        obtain ⟨j, j1, j2⟩ := hex'
        by_cases e : j = 0
        · rw [← e]; exact j2
        · exact absurd ⟨j, j1, e, (hlg j j1).1 j2⟩ ho
      have g0 := (hlg 0 (by omega)).1 hl0
      rw [g0]
      exact ⟨fun z => absurd z (a5 (by rw [hlv]; exact hl0)), fun z => by cases z⟩
  have hg0 : 0 < g.length := by omega
  obtain ⟨z, hz⟩ := h1 (false, m3, t3) m3 g hdl
  unfold tailE
  rw [r1]; simp only [Option.bind_some]
  rw [resync_neg]; simp only [Option.bind_some]
  rw [fill_neg]; simp only [Option.bind_some]
  rw [f1]; simp only [Option.bind_some]
  unfold mirror_Mirror_Size
  simp only [Option.bind_some]
  rw [if_neg (fun z => z f3.size), if_neg (fun z => z r2.symm)]
  by_cases hb : at_ < 0 ∨ (C.sz : Int) ≤ at_
  · rw [if_pos hb, write_out f3 hb]; simp only [Option.bind_some]
    rw [if_neg (by simp), if_neg (by simp), if_neg (by simp), grd_t (decide_eq_true hg0), if_neg (fun z => z h20), drop_neg hl6]; simp only [Option.bind_some]
    rw [if_neg (by simp), accept_neg]; simp only [Option.bind_some]
    rw [if_neg (by simp), a1]; simp only [Option.bind_some]
    by_cases he : e3 = 0
    · rw [if_pos he, decide_eq_false (show ¬ (1 : Int) < (C.sz : Int) by have := a2 he; omega)]; simp only [Option.bind_some]
      rw [if_neg (by simp), hz, seqO_inl, awake21]; rfl
    · rw [if_neg he]; simp only [Option.bind_some]
      rw [if_neg (by simp), hz, seqO_inl, awake21]; rfl
  · rw [if_neg hb, if_neg (by simp), if_neg (by simp), grd_t (decide_eq_true hg0), if_neg (fun z => z h20), drop_neg hl6]; simp only [Option.bind_some]
    rw [if_neg (by simp), accept_neg]; simp only [Option.bind_some]
    rw [if_neg (by simp), a1]; simp only [Option.bind_some]
    by_cases he : e3 = 0
    · rw [if_pos he, decide_eq_false (show ¬ (1 : Int) < (C.sz : Int) by have := a2 he; omega)]; simp only [Option.bind_some]
      rw [if_neg (by simp), hz, seqO_inl, awake21]; rfl
    · rw [if_neg he]; simp only [Option.bind_some]
      rw [if_neg (by simp), hz, seqO_inl, awake21]; rfl
end
end Go.Proofs
set_option linter.unusedSimpArgs false
set_option linter.unusedVariables false
set_option maxRecDepth 20000
set_option maxHeartbeats 4000000
namespace Go.Proofs
open Go.VG
def mirror_Mirror_Read_3 (at_1 : Int) : Option (UInt64 × Int) :=
  if (at_1 < (0 : Int)) then
    some (((0 : UInt64), (1 : Int)))
  else
    none
theorem L_mirror_Mirror_Read_3 {W : World} {at_1 : Int} {r : UInt64 × Int} (h : mirror_Mirror_Read_3 at_1 = some r) :
    CSpec Try.prog W 12 [.pointer none, .int .i64 at_1] [] (fun x : Unit => .tuple #[.int .u64 (r.1.toNat : Int), .int .i64 r.2]) (fun _ => True) (fun x F => F) := by
 refine CSpec.of_body Try.func12 rfl Try.ntmps12 rfl fun F => ?_
 show CJ _ _ _ _ _ _ (F)
 unfold mirror_Mirror_Read_3 at h
 refine sR <| oO <| O_box rfl rfl rfl fun b1 => oO <| O_box rfl rfl rfl fun b2 => oA rfl rfl <| oA rfl rfl <| nT <| CJ_seq <| CJ_seq <| AJ_startH 0 (by kernel_rfl) rfl <| aV 0 1 rfl rfl (GY_none rfl) eR (V_load rfl foc0 rfl Try.isAgg3) rfl <| aN 1 3 rfl rfl (P_lss (a := at_1) (b := (0 : Int)) rfl rfl) rfl <| aN 2 7 rfl rfl (P_move rfl) rfl <| AJ_splitP 13 rfl bT_dec (fun hg1B hg1 => ?_) (fun hg1B hg1 => ?_)
 ·
  replace h := ite_t hg1 h
  refine aS 3 15 rfl rfl (GY_no rfl rfl rfl hg1B) rfl <| aS 4 31 rfl rfl (GY_no rfl rfl rfl hg1B) rfl <| aS 5 63 rfl rfl (GY_no rfl rfl rfl hg1B) rfl <| aS 6 127 rfl rfl (GY_no rfl rfl rfl hg1B) rfl <| aS 7 255 rfl rfl (GY_no rfl rfl rfl hg1B) rfl <| aS 8 511 rfl rfl (GY_no rfl rfl rfl hg1B) rfl <| aN 9 1023 rfl rfl (P_pickT rfl hg1B rfl) rfl <| aD <| CJ_condT rfl rfl <| sR <| oA rfl rfl <| oA rfl rfl <| nT <| CJ_ret <| QJ_then_ret ?_
  cases h
  exact fE (res2 Try.results12 rfl rfl) () (eD (eD eR))
 ·
  replace h := ite_f hg1 h
  exact aV 3 15 rfl rfl (GY_yes rfl rfl rfl hg1B) eR (V_load rfl foc0 rfl Try.isAgg3) rfl <| aV 4 31 rfl rfl (GY_yes rfl rfl rfl hg1B) eR (V_load rfl foc1 rfl Try.isAgg38) rfl <| none_e h
def mirror_Mirror_Resync_3 (n_1 : Int) : Option (Int × Int) :=
  if (n_1 < (0 : Int)) then
    some (((0 : Int), (1 : Int)))
  else
    none
theorem L_mirror_Mirror_Resync_3 {W : World} {n_1 : Int} {r : Int × Int} (h : mirror_Mirror_Resync_3 n_1 = some r) :
    CSpec Try.prog W 13 [.pointer none, .int .i64 n_1] [] (fun x : Unit => .tuple #[.int .i64 r.1, .int .i64 r.2]) (fun _ => True) (fun x F => F) := by
 refine CSpec.of_body Try.func13 rfl Try.ntmps13 rfl fun F => ?_
 show CJ _ _ _ _ _ _ (F)
 unfold mirror_Mirror_Resync_3 at h
 refine sR <| oO <| O_box rfl rfl rfl fun b1 => oA rfl rfl <| oA rfl rfl <| nT <| CJ_scope <| CJ_seq <| sR <| oM rfl rfl <| oP (P_lss (a := n_1) (b := (0 : Int)) rfl rfl) rfl <| nT <| CJ_condP rfl bT_dec (fun hg1 => ?_) (fun hg1 => ?_)
 ·
  replace h := ite_t hg1 h
  refine sR <| oA rfl rfl <| oA rfl rfl <| nT <| CJ_ret <| QJ_then_ret <| QJ_scope_ret ?_
  cases h
  exact fE (res2 Try.results13 rfl rfl) () (eD eR)
 ·
  replace h := ite_f hg1 h
  exact kT <| CJ_seq <| sR <| oV (V_load rfl foc0 rfl Try.isAgg38) rfl <| none_e h
def mirror_Mirror_filling_2 (k : Int) : Option (Int) :=
  if (k < (0 : Int)) then
    some (1 : Int)
  else
    none
theorem L_mirror_Mirror_filling_2 {W : World} {k : Int} {r : Int} (h : mirror_Mirror_filling_2 k = some r) :
    CSpec Try.prog W 43 [.pointer none, .int .i64 k] [] (fun x : Unit => .int .i64 r) (fun _ => True) (fun x F => F) := by
 refine CSpec.of_body Try.func43 rfl Try.ntmps43 rfl fun F => ?_
 show CJ _ _ _ _ _ _ (F)
 unfold mirror_Mirror_filling_2 at h
 refine sR <| oA rfl rfl <| nT <| CJ_seq <| CJ_block <| sR <| oM rfl rfl <| oP (P_lss (a := k) (b := (0 : Int)) rfl rfl) rfl <| oM rfl rfl <| RJ_mbF rfl rfl rfl (fun hG1 => have hP2 : ¬ (k < (0 : Int)) := nP (bT_dec) hG1; VJ_P (P_move rfl)) <| RJ_mbF rfl rfl rfl (fun hG3 => have hP4 : ¬ (k < (0 : Int)) := nP (bT_dec) hG3; VJ_P (P_move rfl)) <| RJ_splitP 8 rfl bT_dec (fun hg1B hg1 => ?_) (fun hg1B hg1 => ?_)
 ·
  replace h := ite_t hg1 h
  refine RJ_gn (GY_no rfl rfl rfl hg1B) rfl rfl <| RJ_gn (GY_no rfl rfl rfl hg1B) rfl rfl <| RJ_gn (GY_no rfl rfl rfl hg1B) rfl rfl <| RJ_gn (GY_no rfl rfl rfl hg1B) rfl rfl <| RJ_gn (GY_no rfl rfl rfl hg1B) rfl rfl <| oP (P_pickT rfl hg1B rfl) rfl <| oM rfl rfl <| RJ_gn (GY_no rfl rfl rfl rfl) rfl rfl <| RJ_gn (GY_no rfl rfl rfl rfl) rfl rfl <| RJ_gn (GY_no rfl rfl rfl rfl) rfl rfl <| RJ_gn (GY_no rfl rfl rfl rfl) rfl rfl <| RJ_gn (GY_no rfl rfl rfl rfl) rfl rfl <| RJ_gn (GY_no rfl rfl rfl rfl) rfl rfl <| RJ_gn (GY_no rfl rfl rfl rfl) rfl rfl <| RJ_gn (GY_no rfl rfl rfl rfl) rfl rfl <| RJ_gn (GY_undef rfl rfl rfl) rfl rfl <| RJ_gn (GY_undef rfl rfl rfl) rfl rfl <| RJ_gn (GY_undef rfl rfl rfl) rfl rfl <| RJ_gn (GY_undef rfl rfl rfl) rfl rfl <| RJ_gn (GY_undef rfl rfl rfl) rfl rfl <| RJ_gn (GY_no rfl rfl rfl rfl) rfl rfl <| oP (P_pickT rfl rfl rfl) rfl <| oA rfl rfl <| nT <| CJ_condT rfl rfl <| sR <| oA rfl rfl <| nT <| CJ_ret <| QJ_block_ret <| QJ_then_ret ?_
  cases h
  exact fE (res1 Try.results43 rfl) () eR
 ·
  replace h := ite_f hg1 h
  exact none_e h
def mirror_Mirror_Fill_2 (k : Int) (n_2 : Int) : Option (Int × Int) :=
  if (n_2 < (0 : Int)) then
    some (((0 : Int), (1 : Int)))
  else
    Option.bind (mirror_Mirror_filling_2 k) fun r1 =>
    if (r1 ≠ (0 : Int)) then
      some (((0 : Int), r1))
    else
      none
theorem L_mirror_Mirror_Fill_2 {W : World} {k : Int} {n_2 : Int} {r : Int × Int} (h : mirror_Mirror_Fill_2 k n_2 = some r) :
    CSpec Try.prog W 14 [.pointer none, .int .i64 k, .int .i64 n_2] [] (fun x : Unit => .tuple #[.int .i64 r.1, .int .i64 r.2]) (fun _ => True) (fun x F => F) := by
 refine CSpec.of_body Try.func14 rfl Try.ntmps14 rfl fun F => ?_
 show CJ _ _ _ _ _ _ (F)
 unfold mirror_Mirror_Fill_2 at h
 refine sR <| oA rfl rfl <| oA rfl rfl <| nT <| CJ_seq <| sR <| oM rfl rfl <| oP (P_lss (a := n_2) (b := (0 : Int)) rfl rfl) rfl <| nT <| CJ_condP rfl bT_dec (fun hg1 => ?_) (fun hg1 => ?_)
 ·
  replace h := ite_t hg1 h
  refine sR <| oA rfl rfl <| oA rfl rfl <| nT <| CJ_ret <| QJ_then_ret ?_
  cases h
  exact fE (res2 Try.results14 rfl rfl) () eR
 ·
  replace h := ite_f hg1 h
  refine kT <| CJ_seq <| sR <| oM rfl rfl <| oM rfl rfl ?_
  obtain ⟨r1, hr2, h⟩ := bind_e h
  refine oO <| O_call (L_mirror_Mirror_filling_2 hr2) rfl Try.call43 Dels.nil rfl fun _ _ => oA rfl rfl <| nT <| sR <| oM rfl rfl <| oP (P_neq (a := r1) (b := (0 : Int)) rfl rfl) rfl <| nT <| CJ_condP rfl bT_dec (fun hg2 => ?_) (fun hg2 => ?_)
  ·
   replace h := ite_t hg2 h
   refine sR <| oM rfl rfl <| oA rfl rfl <| oA rfl rfl <| nT <| CJ_ret <| QJ_then_ret ?_
   cases h
   exact fE (res2 Try.results14 rfl rfl) () eR
  ·
   replace h := ite_f hg2 h
   exact kT <| sR <| oM rfl rfl <| none_e h
def volumegrouplaw21_MirrorErrors_l2_b (stale : List Int) (r4 : (Option ArrS) × Nat × Nat × Nat × Bool × (List UInt64)) (rec : (List Bool) → Nat → Nat → Option (Nat × (List Bool))) (x29 : List Bool) (x30 : Nat) (x31 : Nat) : Option (Nat × (List Bool)) :=
  if (((x31 : Nat) : Int) < ((stale.length : Nat) : Int)) then
    if ((stale.getD x31 0) < (0 : Int)) then
      rec x29 1 (x31 + 1)
    else
      if (((r4.2.1 : Nat) : Int) < (stale.getD x31 0)) then
        rec x29 1 (x31 + 1)
      else
        grd (decide (0 ≤ (stale.getD x31 0) ∧ (stale.getD x31 0) < (x29.length : Int))) <|
        rec ((x29.set (((stale.getD x31 0)).toNat) true)) x30 (x31 + 1)
  else
    some (x30, x29)
def volumegrouplaw21_MirrorErrors_l2 (stale : List Int) (r4 : (Option ArrS) × Nat × Nat × Nat × Bool × (List UInt64)) : Nat → (List Bool) → Nat → Nat → Option (Nat × (List Bool))
  | 0, _, _, _ => none
  | n + 1, x29, x30, x31 => volumegrouplaw21_MirrorErrors_l2_b stale r4 (volumegrouplaw21_MirrorErrors_l2 stale r4 n) x29 x30 x31
def volumegrouplaw21_MirrorErrors_l3_b (r4 : (Option ArrS) × Nat × Nat × Nat × Bool × (List UInt64)) (a28 : Nat × (List Bool)) (rec : Bool → Nat → Option (Bool)) (x40 : Bool) (x41 : Nat) : Option (Bool) :=
  if (((x41 : Nat) : Int) < ((r4.2.1 : Nat) : Int)) then
    grd (decide (x40 = true → x41 < a28.2.length)) <|
    grd (decide (x40 = true → x41 < a28.2.length)) <|
    grd (inN64 (x41 + 1)) <|
    rec ((x40 && (a28.2.getD x41 false))) (x41 + 1)
  else
    some x40
def volumegrouplaw21_MirrorErrors_l3 (r4 : (Option ArrS) × Nat × Nat × Nat × Bool × (List UInt64)) (a28 : Nat × (List Bool)) : Nat → Bool → Nat → Option (Bool)
  | 0, _, _ => none
  | n + 1, x40, x41 => volumegrouplaw21_MirrorErrors_l3_b r4 a28 (volumegrouplaw21_MirrorErrors_l3 r4 a28 n) x40 x41
def volumegrouplaw21_MirrorErrors_l11_b (r4 : (Option ArrS) × Nat × Nat × Nat × Bool × (List UInt64)) (x174 : List Bool) (x175 : Nat) (rec : Bool → Nat → Option (Bool)) (x182 : Bool) (x183 : Nat) : Option (Bool) :=
  if (((x183 : Nat) : Int) < ((r4.2.1 : Nat) : Int)) then
    grd (decide ((¬ x182 = true) → (((x183 : Nat) : Int) ≠ ((x175 : Nat) : Int)) → x183 < x174.length)) <|
    grd (decide ((¬ x182 = true) → (((x183 : Nat) : Int) ≠ ((x175 : Nat) : Int)) → x183 < x174.length)) <|
    grd (inN64 (x183 + 1)) <|
    rec ((x182 || ((decide (((x183 : Nat) : Int) ≠ ((x175 : Nat) : Int))) && (!(x174.getD x183 false))))) (x183 + 1)
  else
    some x182
def volumegrouplaw21_MirrorErrors_l11 (r4 : (Option ArrS) × Nat × Nat × Nat × Bool × (List UInt64)) (x174 : List Bool) (x175 : Nat) : Nat → Bool → Nat → Option (Bool)
  | 0, _, _ => none
  | n + 1, x182, x183 => volumegrouplaw21_MirrorErrors_l11_b r4 x174 x175 (volumegrouplaw21_MirrorErrors_l11 r4 x174 x175 n) x182 x183
def volumegrouplaw21_MirrorErrors_l10_b (r4 : (Option ArrS) × Nat × Nat × Nat × Bool × (List UInt64)) (a149 : Bool × MirS × ArrS) (rec : MirS → (List Bool) → Nat → Option ((MirS × (List Bool)) ⊕ Bool)) (x173 : MirS) (x174 : List Bool) (x175 : Nat) : Option ((MirS × (List Bool)) ⊕ Bool) :=
  if (((x175 : Nat) : Int) < ((r4.2.1 : Nat) : Int)) then
    Option.bind (volumegrouplaw21_MirrorErrors_l11 r4 x174 x175 FUEL false 0) fun a181 =>
    Option.bind (mirror_Mirror_Drop x173 (((x175 : Nat) : Int)) a149.2.2) fun r210 =>
    if ((a181 = true ∧ (r210.1 ≠ (0 : Int))) ∨ ((¬ a181 = true) ∧ (r210.1 ≠ (19 : Int)))) then
      some (.inr false)
    else
      grd (decide (x175 < x174.length)) <|
      grd (decide (x175 < x174.length)) <|
      grd (inN64 (x175 + 1)) <|
      rec r210.2 ((x174.set x175 (((x174.getD x175 false) || a181)))) (x175 + 1)
  else
    some (.inl (x173, x174))
def volumegrouplaw21_MirrorErrors_l10 (r4 : (Option ArrS) × Nat × Nat × Nat × Bool × (List UInt64)) (a149 : Bool × MirS × ArrS) : Nat → MirS → (List Bool) → Nat → Option ((MirS × (List Bool)) ⊕ Bool)
  | 0, _, _, _ => none
  | n + 1, x173, x174, x175 => volumegrouplaw21_MirrorErrors_l10_b r4 a149 (volumegrouplaw21_MirrorErrors_l10 r4 a149 n) x173 x174 x175
def volumegrouplaw21_MirrorErrors (n_0 : UInt8) (stale : List Int) (region : Int) (at_3 : Int) : Option (Bool) :=
  if ((6 : Int) < ((stale.length : Nat) : Int)) then
    Option.bind (volumegrouplaw21_awake) fun r2 =>
    some r2
  else
    Option.bind (volumegrouplaw21_begun n_0) fun r4 =>
    Option.elim r4.1 (
      some false) fun o11 =>
    Option.bind ((
      if ((region < (1 : Int)) ∨ ((65536 : Int) < region)) then
        some 1
      else
        some 0 : Option (Nat))) fun a20 =>
    grd (inN64 (r4.2.1 + 1)) <|
    grd (inLen (r4.2.1 + 1)) <|
    Option.bind (volumegrouplaw21_MirrorErrors_l2 stale r4 FUEL ((List.replicate (r4.2.1 + 1) false)) a20 0) fun a28 =>
    Option.bind (volumegrouplaw21_MirrorErrors_l3 r4 a28 FUEL true 0) fun a39 =>
    Option.bind ((
      if ((((a28.1 : Nat) : Int) = (0 : Int)) ∧ a39 = true) then
        some 19
      else
        some a28.1 : Option (Nat))) fun a57 =>
    Option.bind (volumegroupref21_Regions (((r4.2.2.1 : Nat) : Int)) region) fun r59 =>
    Option.bind ((
      grd (decide (((((a57 : Nat) : Int) = (0 : Int)) ∧ r4.2.2.2.2.1 = true) → r4.2.1 < a28.2.length)) <|
      grd (decide (((((a57 : Nat) : Int) = (0 : Int)) ∧ r4.2.2.2.2.1 = true) → r4.2.1 < a28.2.length)) <|
      if (((((a57 : Nat) : Int) = (0 : Int)) ∧ r4.2.2.2.2.1 = true) ∧ (¬ (a28.2.getD r4.2.1 false) = true)) then
        Option.bind (volumegroupref20_Words r59) fun r82 =>
        if ((3 : Int) < r82) then
          some true
        else
          Option.bind (volumegroupref20_Head r59) fun r84 =>
          some ((decide ((rdV o11 (((r4.2.1 : Nat) : Int)) (0 : Int)) ≠ r84)))
      else
        some false : Option (Bool))) fun a65 =>
    Option.bind ((
      if a65 = true then
        some 18
      else
        some a57 : Option (Nat))) fun a91 =>
    Option.bind (volumegrouplaw21_setting_open o11 (((r4.2.1 : Nat) : Int)) (((r4.2.2.1 : Nat) : Int)) region r4.2.2.2.2.1 stale) fun r93 =>
    if (r93.2 ≠ ((a91 : Nat) : Int)) then
      some false
    else
      Option.elim r93.1 (
        if (¬ (true = true ↔ (r93.2 ≠ (0 : Int)))) then
          some false
        else
          Option.bind (mirror_Regions (((r4.2.2.1 : Nat) : Int)) region) fun r103 =>
          if (r103 ≠ r59) then
            some false
          else
            if (r93.2 ≠ (0 : Int)) then
              Option.bind (volumegrouplaw21_awake) fun r105 =>
              some r105
            else
              Option.bind (mirror_Mirror_Read_3 at_3) fun r107 =>
              Option.bind (mirror_Mirror_Resync_3 (-1 : Int)) fun r117 =>
              Option.bind (mirror_Mirror_Fill_2 (-1 : Int) (0 : Int)) fun r119 =>
              Option.bind (mirror_Mirror_Fill_2 (0 : Int) (1 : Int)) fun r121 =>
              none) fun o102 =>
      if (¬ (false = true ↔ (r93.2 ≠ (0 : Int)))) then
        some false
      else
        Option.bind (mirror_Regions (((r4.2.2.1 : Nat) : Int)) region) fun r123 =>
        if (r123 ≠ r59) then
          some false
        else
          if (r93.2 ≠ (0 : Int)) then
            Option.bind (volumegrouplaw21_awake) fun r125 =>
            some r125
          else
            Option.bind (mirror_Mirror_Read o102 at_3 o11) fun r127 =>
            Option.bind (mirror_Mirror_Resync r127.2.2.1 (-1 : Int) r127.2.2.2) fun r137 =>
            Option.bind (mirror_Mirror_Fill r137.2.2.1 (-1 : Int) (0 : Int) r137.2.2.2) fun r139 =>
            Option.bind (mirror_Mirror_Fill r139.2.2.1 (0 : Int) (1 : Int) r139.2.2.2) fun r141 =>
            Option.bind ((
              Option.bind (mirror_Mirror_Size r141.2.2.1 r141.2.2.2) fun r150 =>
              if (r150 ≠ ((r4.2.2.1 : Nat) : Int)) then
                some (true, r141.2.2.1, r141.2.2.2)
              else
                if (¬ (((at_3 < (0 : Int)) ∨ (((r4.2.2.1 : Nat) : Int) ≤ at_3)) ↔ (r127.2.1 = (1 : Int)))) then
                  some (true, r141.2.2.1, r141.2.2.2)
                else
                  if ((at_3 < (0 : Int)) ∨ (((r4.2.2.1 : Nat) : Int) ≤ at_3)) then
                    Option.bind (mirror_Mirror_Write r141.2.2.1 at_3 (1 : UInt64) r141.2.2.2) fun r152 =>
                    if (r152.1 ≠ (1 : Int)) then
                      some (true, r152.2.1, r152.2.2)
                    else
                      if (r137.2.1 ≠ (1 : Int)) then
                        some (true, r152.2.1, r152.2.2)
                      else
                        if (r139.2.1 ≠ (1 : Int)) then
                          some (true, r152.2.1, r152.2.2)
                        else
                          grd (decide (0 < a28.2.length)) <|
                          if (¬ ((r141.2.1 = (20 : Int)) ↔ (¬ (a28.2.getD 0 false) = true))) then
                            some (true, r152.2.1, r152.2.2)
                          else
                            Option.bind (mirror_Mirror_Drop r152.2.1 (-1 : Int) r152.2.2) fun r154 =>
                            if (r154.1 ≠ (1 : Int)) then
                              some (true, r154.2, r152.2.2)
                            else
                              Option.bind (mirror_Mirror_Accept r154.2 (-1 : Int) r152.2.2) fun r156 =>
                              if (r156.1 ≠ (1 : Int)) then
                                some (true, r156.2.1, r156.2.2)
                              else
                                Option.bind (mirror_Mirror_Accept r156.2.1 (0 : Int) r156.2.2) fun r158 =>
                                if (r158.1 = (0 : Int)) then
                                  some (((decide ((1 : Int) < ((r4.2.2.1 : Nat) : Int))), r158.2.1, r158.2.2))
                                else
                                  some (false, r158.2.1, r158.2.2)
                  else
                    if (r137.2.1 ≠ (1 : Int)) then
                      some (true, r141.2.2.1, r141.2.2.2)
                    else
                      if (r139.2.1 ≠ (1 : Int)) then
                        some (true, r141.2.2.1, r141.2.2.2)
                      else
                        grd (decide (0 < a28.2.length)) <|
                        if (¬ ((r141.2.1 = (20 : Int)) ↔ (¬ (a28.2.getD 0 false) = true))) then
                          some (true, r141.2.2.1, r141.2.2.2)
                        else
                          Option.bind (mirror_Mirror_Drop r141.2.2.1 (-1 : Int) r141.2.2.2) fun r160 =>
                          if (r160.1 ≠ (1 : Int)) then
                            some (true, r160.2, r141.2.2.2)
                          else
                            Option.bind (mirror_Mirror_Accept r160.2 (-1 : Int) r141.2.2.2) fun r162 =>
                            if (r162.1 ≠ (1 : Int)) then
                              some (true, r162.2.1, r162.2.2)
                            else
                              Option.bind (mirror_Mirror_Accept r162.2.1 (0 : Int) r162.2.2) fun r164 =>
                              if (r164.1 = (0 : Int)) then
                                some (((decide ((1 : Int) < ((r4.2.2.1 : Nat) : Int))), r164.2.1, r164.2.2))
                              else
                                some (false, r164.2.1, r164.2.2) : Option (Bool × MirS × ArrS))) fun a149 =>
            if a149.1 = true then
              some false
            else
              seqO (volumegrouplaw21_MirrorErrors_l10 r4 a149 FUEL a149.2.1 a28.2 0) fun a172 =>
              Option.bind (volumegrouplaw21_awake) fun r234 =>
              some r234
theorem L_volumegrouplaw21_MirrorErrors {W : World} {Astale : HP} {vstale : Value} {n_0 : UInt8} {stale : List Int} {region : Int} {at_3 : Int} {r : Bool} (rstale : Reads Astale tyI vstale stale) (h : volumegrouplaw21_MirrorErrors n_0 stale region at_3 = some r) :
    CSpec Try.prog W 3 [.int .u8 (n_0.toNat : Int), vstale, .int .i64 region, .int .i64 at_3] [Astale] (fun x : Unit => .bool r) (fun _ => True) (fun x F => Astale :: F) := by
 refine CSpec.of_body Try.func3 rfl Try.ntmps3 rfl fun F => ?_
 show CJ _ _ _ _ _ _ (_ :: F)
 unfold volumegrouplaw21_MirrorErrors at h
 refine CJ_pure (len_of rstale del0) fun hlen1 => sR <| oA rfl rfl <| nT <| CJ_seq <| sR <| oM rfl rfl <| oV (V_len rfl foc0 rstale Try.runUnderlying22) rfl <| oP (P_gtr (a := ((stale.length : Nat) : Int)) (b := (6 : Int)) rfl rfl) rfl <| nT <| CJ_condP rfl bT_dec (fun hg1 => ?_) (fun hg1 => ?_)
 ·
  replace h := ite_t hg1 h
  refine sR ?_
  obtain ⟨r2, hr3, h⟩ := bind_e h
  refine oO <| O_call (L_volumegrouplaw21_awake hr3) rfl Try.call4 Dels.nil rfl fun _ _ => oA rfl rfl <| nT <| CJ_ret <| QJ_then_ret ?_
  cases h
  exact fE (res1 Try.results3 rfl) () eR
 ·
  replace h := ite_f hg1 h
  refine kT <| sR <| oM rfl rfl ?_
  obtain ⟨r4, hr5, h⟩ := bind_e h
  refine oO <| O_call (L_volumegrouplaw21_begun hr5) rfl Try.call5 Dels.nil rfl fun X6 _ => oM rfl rfl <| oP (P_extract rfl rfl) rfl <| oP (P_extract (v := X6.2) rfl rfl) rfl <| oO <| O_alloc Try.zeroValue26 rfl rfl fun b9 => oO <| O_storeN rfl rfl foc0 Try.sizeOf26 rfl rfl (by simp only [allOne, oneCell_oval, oneCell_oif, oneCell_oifc, Bool.true_and]; rfl) <| oA rfl rfl <| nT <| CJ_seq <| sR <| oP (P_fieldAddr rfl ⟨_, _, _, Try.runUnderlying26, rfl, rfl, Try.sizeOf24, rfl⟩) rfl <| oV (V_load rfl foc0 rfl Try.isAgg24) rfl ?_
  rcases opt_e h with ⟨ht10, h⟩ | ⟨o11, ht10, h⟩
  ·
   rw [ht10]
   refine RJ_ent (t0_ (t1_ (t1_ (eD eR)))) <| oP (P_eqlNN rfl rfl Try.underlying24) rfl <| nT <| CJ_condT rfl rfl <| sR <| oA rfl rfl <| nT <| CJ_ret <| QJ_then_ret ?_
   cases h
   exact fE (res1 Try.results3 rfl) () (t2_ (eD (eD eR)))
  ·
   rw [ht10]
   refine RJ_ent (Ent.takeC (A' := Arr X6.1 o11) del1 rfl eR) <| oP (P_eqlPN rfl rfl Try.underlying24) rfl <| nT <| CJ_condF rfl rfl <| kT <| sR <| oM rfl rfl <| oP (P_fieldAddr rfl ⟨_, _, _, Try.runUnderlying26, rfl, rfl, Try.sizeOf3, rfl⟩) rfl <| oO <| O_store rfl rfl foc1 rfl rfl Try.sizeOf3 <| nT <| sR <| oA rfl rfl <| nT <| CJ_seq <| sR <| oM rfl rfl <| oP (P_lss (a := region) (b := (1 : Int)) rfl rfl) rfl <| oM rfl rfl <| RJ_mbF rfl rfl rfl (fun hG12 => have hP13 : ¬ (region < (1 : Int)) := nP (bT_dec) hG12; VJ_P (P_move rfl)) <| RJ_mbF rfl rfl rfl (fun hG14 => have hP15 : ¬ (region < (1 : Int)) := nP (bT_dec) hG14; VJ_P (P_gtr (a := region) (b := (65536 : Int)) (mbx hG14 rfl) rfl)) <| oP (P_pickOr rfl rfl (fun hh => mbx (not_f hh) rfl)) rfl <| nT ?_
   obtain ⟨y18, hl16, hK17⟩ := bind_c h
   refine CJ_cutT (X := Nat) [11] (fun a20 => ([(11, .int .i64 (((a20 : Nat) : Int)))] : Slots)) (fun a20 R => R) (fun a20 => y18 = a20) Dels.nil ?_ ?_
   ·
    have h := hl16
    refine CJ_condP rfl (bT_or bT_dec bT_dec) (fun hg2 => ?_) (fun hg2 => ?_)
    ·
     replace h := ite_t hg2 h
     exact CJ_region <| oA rfl rfl <| RJ_nil <| cR 1 (Option.some.inj h).symm ⟨rfl, True.intro⟩ eR
    ·
     replace h := ite_f hg2 h
     exact CJ_skip <| cR 0 (Option.some.inj h).symm ⟨rfl, True.intro⟩ eR
   ·
    rintro a20 hy21
    replace h := bindK_at hK17 hy21
    show CJ _ _ _ _ _ (([(11, .int .i64 (((a20 : Nat) : Int)))] : Slots) ++ forget _ _) (_)
    refine sR <| oP (P_fieldAddr rfl ⟨_, _, _, Try.runUnderlying26, rfl, rfl, Try.sizeOf3, rfl⟩) rfl <| oV (V_load rfl foc1 rfl Try.isAgg3) rfl ?_
    obtain ⟨hg3, h⟩ := grd_Ne h
    refine oP (PJ_eq (P_add (a := ((r4.2.1 : Nat) : Int)) (b := (1 : Int)) rfl rfl (nat_in hg3)) rfl) rfl ?_
    obtain ⟨hg4, h⟩ := grd_Le h
    refine oO <| O_make (t := tyB) (m := (r4.2.1 + 1)) (x0 := false) (z := _) (bytes := _) rfl rfl rfl rfl Try.underlying31 ⟨Try.t4, by kernel_rfl, rfl, rfl, rfl⟩ rfl hg4 (by decide) rfl fun b22 => oA rfl rfl <| nT <| CJ_seq <| sR <| oA rfl rfl <| nT ?_
    obtain ⟨y25, hl23, hK24⟩ := bind_c h
    refine CJ_cutT (X := Nat × (List Bool)) [11, 13, 58, 59, 60, 61, 62, 63, 64, 65, 66, 67, 68, 69, 70, 71, 72, 73, 74, 75, 76, 77, 78, 79, 80, 81, 82, 83] (fun a28 => ([(11, .int .i64 (((a28.1 : Nat) : Int)))] : Slots)) (fun a28 R => sl tyB (.slice (some ⟨b22, 0, none⟩) (r4.2.1 + 1) (r4.2.1 + 1)) a28.2 :: R) (fun a28 => y25 = a28) (Dels.cons del0 Dels.nil) ?_ ?_
    ·
     refine CJ_block <| CJ_loopR (X := Nat × (List Bool) × Nat × Nat) [11, 13, 58, 59, 60, 61, 62, 63, 64, 65, 66, 67, 68, 69, 70, 71, 72, 73, 74, 75, 76, 77, 78, 79, 80, 81, 82, 83] (fun ⟨n, x29, x30, x31⟩ => ([(11, .int .i64 (((x30 : Nat) : Int))), (13, .int .i64 (((x31 : Nat) : Int)))] : Slots)) (fun ⟨n, x29, x30, x31⟩ R => sl tyB (.slice (some ⟨b22, 0, none⟩) (r4.2.1 + 1) (r4.2.1 + 1)) x29 :: R) (fun ⟨n, x29, x30, x31⟩ => volumegrouplaw21_MirrorErrors_l2 stale r4 n x29 x30 x31 = some y25) (fun ⟨n, x29, x30, x31⟩ => n) ⟨FUEL, (List.replicate (r4.2.1 + 1) false), a20, 0⟩ ?_ ?_ eR ?_
     · exact hl23
     · exact ⟨rfl, rfl, True.intro⟩
     ·
      rintro ⟨n, x29, x30, x31⟩ h
      cases n with
      | zero => exact none_e h
      | succ n => ?_
      replace h : volumegrouplaw21_MirrorErrors_l2_b stale r4 (volumegrouplaw21_MirrorErrors_l2 stale r4 n) x29 x30 x31 = some y25 := h
      unfold volumegrouplaw21_MirrorErrors_l2_b at h
      show CJ _ _ _ _ _ (([(11, .int .i64 (((x30 : Nat) : Int))), (13, .int .i64 (((x31 : Nat) : Int)))] : Slots) ++ forget _ _) (sl tyB (.slice (some ⟨b22, 0, none⟩) (r4.2.1 + 1) (r4.2.1 + 1)) x29 :: _)
      refine lC del0 fun hlen32 => CJ_seq <| sR <| oM rfl rfl <| oM rfl rfl <| oV (V_len rfl foc4 rstale Try.runUnderlying22) rfl <| oP (P_lss (a := ((x31 : Nat) : Int)) (b := ((stale.length : Nat) : Int)) rfl rfl) rfl <| nT <| CJ_condP rfl bT_dec (fun hg5 => ?_) (fun hg5 => ?_)
      ·
       replace h := ite_t hg5 h
       refine kT <| CJ_seq <| CJ_block <| CJ_seq <| AJ_startH 0 (by kernel_rfl) rfl <| aN 0 1 rfl rfl (P_move rfl) rfl <| aN 1 3 rfl rfl (P_move rfl) rfl <| aV 2 7 rfl rfl (GY_none rfl) eR (V_index (i := x31) rfl rfl rfl (by omega) foc4 rstale Try.runUnderlying22 Try.sizeOf3) rfl <| aV 3 15 rfl rfl (GY_none rfl) eR (V_loadE rfl rfl (by omega) foc4 rstale rfl rfl Try.isAgg3) rfl <| aN 4 31 rfl rfl (P_lss (a := (stale.getD x31 0)) (b := (0 : Int)) rfl rfl) rfl <| aN 5 63 rfl rfl (P_move rfl) rfl <| AJ_splitP 69 rfl bT_dec (fun hg6B hg6 => ?_) (fun hg6B hg6 => ?_)
       ·
        replace h := ite_t hg6 h
        exact aS 6 127 rfl rfl (GY_no rfl rfl rfl hg6B) rfl <| aS 7 255 rfl rfl (GY_no rfl rfl rfl hg6B) rfl <| aS 8 511 rfl rfl (GY_no rfl rfl rfl hg6B) rfl <| aS 9 1023 rfl rfl (GY_no rfl rfl rfl hg6B) rfl <| aS 10 2047 rfl rfl (GY_no rfl rfl rfl hg6B) rfl <| aS 11 4095 rfl rfl (GY_no rfl rfl rfl hg6B) rfl <| aS 12 8191 rfl rfl (GY_no rfl rfl rfl hg6B) rfl <| aN 13 16383 rfl rfl (P_pickT rfl hg6B rfl) rfl <| aD <| CJ_condT rfl rfl <| CJ_region <| oA rfl rfl <| RJ_nil <| QJ_block_normal <| QJ_then <| CJ_region <| oM rfl rfl <| oP (PJ_eq (P_add (a := ((x31 : Nat) : Int)) (b := (1 : Int)) rfl rfl (by omega)) rfl) rfl <| oA rfl rfl <| RJ_nil <| nR ⟨n, x29, 1, (x31 + 1)⟩ h ⟨rfl, rfl, True.intro⟩ eR
       ·
        replace h := ite_f hg6 h
        refine aP 6 127 rfl rfl (GY_yes rfl rfl rfl hg6B) (P_move rfl) rfl <| aP 7 255 rfl rfl (GY_yes rfl rfl rfl hg6B) (P_move rfl) rfl <| aV 8 511 rfl rfl (GY_yes rfl rfl rfl hg6B) eR (V_index (i := x31) rfl rfl rfl (by omega) foc4 rstale Try.runUnderlying22 Try.sizeOf3) rfl <| aV 9 1023 rfl rfl (GY_yes rfl rfl rfl hg6B) eR (V_loadE rfl rfl (by omega) foc4 rstale rfl rfl Try.isAgg3) rfl <| aP 10 2047 rfl rfl (GY_yes rfl rfl rfl hg6B) (P_fieldAddr rfl ⟨_, _, _, Try.runUnderlying26, rfl, rfl, Try.sizeOf3, rfl⟩) rfl <| aV 11 4095 rfl rfl (GY_yes rfl rfl rfl hg6B) eR (V_load rfl foc2 rfl Try.isAgg3) rfl <| aP 12 8191 rfl rfl (GY_yes rfl rfl rfl hg6B) (P_gtr (a := (stale.getD x31 0)) (b := ((r4.2.1 : Nat) : Int)) rfl rfl) rfl <| aN 13 16383 rfl rfl (P_pickF rfl hg6B rfl) rfl <| aD <| CJ_condP rfl bT_dec (fun hg7 => ?_) (fun hg7 => ?_)
        ·
         replace h := ite_t hg7 h
         exact CJ_region <| oA rfl rfl <| RJ_nil <| QJ_block_normal <| QJ_then <| CJ_region <| oM rfl rfl <| oP (PJ_eq (P_add (a := ((x31 : Nat) : Int)) (b := (1 : Int)) rfl rfl (by omega)) rfl) rfl <| oA rfl rfl <| RJ_nil <| nR ⟨n, x29, 1, (x31 + 1)⟩ h ⟨rfl, rfl, True.intro⟩ eR
        ·
         replace h := ite_f hg7 h
         refine CJ_region <| oM rfl rfl <| oM rfl rfl <| oM rfl rfl <| oV (V_index (i := x31) rfl rfl rfl (by omega) foc4 rstale Try.runUnderlying22 Try.sizeOf3) rfl <| oV (V_loadE rfl rfl (by omega) foc4 rstale rfl rfl Try.isAgg3) rfl ?_
         obtain ⟨hg8, h⟩ := grd_de h
         exact oV (V_index (i := ((stale.getD x31 0)).toNat) rfl rfl (Int.toNat_of_nonneg (hg8.1)).symm (by omega) foc0 (Reads.sl _ _ _) Try.runUnderlying31 Try.sizeOf4) rfl <| oO <| O_storeE (x' := true) rfl rfl rfl (by omega) foc0 rfl rfl rfl Try.sizeOf4 <| RJ_nil <| QJ_block_normal <| QJ_then <| CJ_region <| oM rfl rfl <| oP (PJ_eq (P_add (a := ((x31 : Nat) : Int)) (b := (1 : Int)) rfl rfl (by omega)) rfl) rfl <| oA rfl rfl <| RJ_nil <| nR ⟨n, (x29.set (((stale.getD x31 0)).toNat) true), x30, (x31 + 1)⟩ h ⟨rfl, rfl, True.intro⟩ eR
      ·
       replace h := ite_f hg5 h
       exact CJ_exit <| QJ_then_exit <| QJ_round_exit <| QJ_block_here <| cR (x30, x29) (Option.some.inj h).symm ⟨rfl, True.intro⟩ eR
    ·
     rintro a28 hy33
     replace h := bindK_at hK24 hy33
     show CJ _ _ _ _ _ (([(11, .int .i64 (((a28.1 : Nat) : Int)))] : Slots) ++ forget _ _) (sl tyB (.slice (some ⟨b22, 0, none⟩) (r4.2.1 + 1) (r4.2.1 + 1)) a28.2 :: _)
     refine lC del0 fun hlen34 => sR <| oA rfl rfl <| nT <| CJ_seq <| sR <| oA rfl rfl <| nT ?_
     obtain ⟨y37, hl35, hK36⟩ := bind_c h
     refine CJ_cutT (X := Bool) [14, 15, 84, 85, 86, 87, 88, 89, 90, 91, 92, 93, 94, 95, 96] (fun a39 => ([(14, .bool a39)] : Slots)) (fun a39 R => R) (fun a39 => y37 = a39) Dels.nil ?_ ?_
     ·
      refine CJ_block <| CJ_loopR (X := Nat × Bool × Nat) [14, 15, 84, 85, 86, 87, 88, 89, 90, 91, 92, 93, 94, 95, 96] (fun ⟨n, x40, x41⟩ => ([(14, .bool x40), (15, .int .i64 (((x41 : Nat) : Int)))] : Slots)) (fun ⟨n, x40, x41⟩ R => R) (fun ⟨n, x40, x41⟩ => volumegrouplaw21_MirrorErrors_l3 r4 a28 n x40 x41 = some y37) (fun ⟨n, x40, x41⟩ => n) ⟨FUEL, true, 0⟩ ?_ ?_ eR ?_
      · exact hl35
      · exact ⟨rfl, rfl, True.intro⟩
      ·
       rintro ⟨n, x40, x41⟩ h
       cases n with
       | zero => exact none_e h
       | succ n => ?_
       replace h : volumegrouplaw21_MirrorErrors_l3_b r4 a28 (volumegrouplaw21_MirrorErrors_l3 r4 a28 n) x40 x41 = some y37 := h
       unfold volumegrouplaw21_MirrorErrors_l3_b at h
       show CJ _ _ _ _ _ (([(14, .bool x40), (15, .int .i64 (((x41 : Nat) : Int)))] : Slots) ++ forget _ _) (_)
       refine CJ_seq <| sR <| oM rfl rfl <| oP (P_fieldAddr rfl ⟨_, _, _, Try.runUnderlying26, rfl, rfl, Try.sizeOf3, rfl⟩) rfl <| oV (V_load rfl foc2 rfl Try.isAgg3) rfl <| oP (P_lss (a := ((x41 : Nat) : Int)) (b := ((r4.2.1 : Nat) : Int)) rfl rfl) rfl <| nT <| CJ_condP rfl bT_dec (fun hg9 => ?_) (fun hg9 => ?_)
       ·
        replace h := ite_t hg9 h
        refine kT <| CJ_seq <| CJ_block <| CJ_region <| oM rfl rfl <| oM rfl rfl <| RJ_mbT rfl rfl rfl (fun hG42 => have hP43 : x40 = true := (Iff.rfl).1 hG42; VJ_P (P_move rfl)) <| RJ_mbT rfl rfl rfl (fun hG44 => have hP45 : x40 = true := (Iff.rfl).1 hG44; VJ_P (P_move rfl)) ?_
        obtain ⟨hg10, h⟩ := grd_de h
        refine RJ_mbT rfl rfl rfl (fun hG46 => have hP47 : x40 = true := (Iff.rfl).1 hG46; V_index (i := x41) (mbx hG46 rfl) (mbx hG46 rfl) rfl (hg10 hP47) foc0 (Reads.sl _ _ _) Try.runUnderlying31 Try.sizeOf4) ?_
        obtain ⟨hg11, h⟩ := grd_de h
        refine RJ_mbT rfl rfl rfl (fun hG48 => have hP49 : x40 = true := (Iff.rfl).1 hG48; V_loadE (mbx hG48 rfl) rfl (hg11 hP49) foc0 (Reads.sl _ _ _) rfl rfl Try.isAgg4) <| oP (P_pickAnd rfl (fun hh => mbx hh rfl) rfl) rfl <| oA rfl rfl <| RJ_nil <| QJ_block_normal <| QJ_then <| CJ_region <| oM rfl rfl ?_
        obtain ⟨hg12, h⟩ := grd_Ne h
        exact oP (PJ_eq (P_add (a := ((x41 : Nat) : Int)) (b := (1 : Int)) rfl rfl (nat_in hg12)) rfl) rfl <| oA rfl rfl <| RJ_nil <| nR ⟨n, (x40 && (a28.2.getD x41 false)), (x41 + 1)⟩ h ⟨rfl, rfl, True.intro⟩ eR
       ·
        replace h := ite_f hg9 h
        exact CJ_exit <| QJ_then_exit <| QJ_round_exit <| QJ_block_here <| cR x40 (Option.some.inj h).symm ⟨rfl, True.intro⟩ eR
     ·
      rintro a39 hy50
      replace h := bindK_at hK36 hy50
      show CJ _ _ _ _ _ (([(14, .bool a39)] : Slots) ++ forget _ _) (_)
      refine CJ_seq <| sR <| oM rfl rfl <| oP (P_eql (a := ((a28.1 : Nat) : Int)) (b := (0 : Int)) rfl rfl) rfl <| oM rfl rfl <| RJ_mbT rfl rfl rfl (fun hG51 => have hP52 : (((a28.1 : Nat) : Int) = (0 : Int)) := (bT_dec).1 hG51; VJ_P (P_move rfl)) <| oP (P_pickAnd rfl (fun hh => mbx hh rfl) rfl) rfl <| nT ?_
      obtain ⟨y55, hl53, hK54⟩ := bind_c h
      refine CJ_cutT (X := Nat) [11] (fun a57 => ([(11, .int .i64 (((a57 : Nat) : Int)))] : Slots)) (fun a57 R => R) (fun a57 => y55 = a57) Dels.nil ?_ ?_
      ·
       have h := hl53
       refine CJ_condP rfl (bT_and bT_dec Iff.rfl) (fun hg13 => ?_) (fun hg13 => ?_)
       ·
        replace h := ite_t hg13 h
        exact CJ_region <| oA rfl rfl <| RJ_nil <| cR 19 (Option.some.inj h).symm ⟨rfl, True.intro⟩ eR
       ·
        replace h := ite_f hg13 h
        exact CJ_skip <| cR a28.1 (Option.some.inj h).symm ⟨rfl, True.intro⟩ eR
      ·
       rintro a57 hy58
       replace h := bindK_at hK54 hy58
       show CJ _ _ _ _ _ (([(11, .int .i64 (((a57 : Nat) : Int)))] : Slots) ++ forget _ _) (_)
       refine sR <| oP (P_fieldAddr rfl ⟨_, _, _, Try.runUnderlying26, rfl, rfl, Try.sizeOf3, rfl⟩) rfl <| oV (V_load rfl foc2 rfl Try.isAgg3) rfl <| oM rfl rfl ?_
       obtain ⟨r59, hr60, h⟩ := bind_e h
       refine oO <| O_call (L_volumegroupref21_Regions hr60) rfl Try.call6 Dels.nil rfl fun _ _ => oA rfl rfl <| nT <| sR <| oP (P_fieldAddr rfl ⟨_, _, _, Try.runUnderlying26, rfl, rfl, Try.sizeOf24, rfl⟩) rfl <| oV (V_load rfl foc2 rfl Try.isAgg24) rfl <| oP (P_fieldAddr rfl ⟨_, _, _, Try.runUnderlying26, rfl, rfl, Try.sizeOf3, rfl⟩) rfl <| oV (V_load rfl foc2 rfl Try.isAgg3) rfl <| oO <| O_call (c_Read) rfl Try.call7 (Dels.cons del1 Dels.nil) rfl fun _ _ => oM rfl rfl <| oP (P_extract rfl rfl) rfl <| oP (P_extract rfl rfl) rfl <| oA rfl rfl <| oA rfl rfl <| nT <| CJ_seq <| CJ_seq ?_
       obtain ⟨y63, hl61, hK62⟩ := bind_c h
       refine CJ_cutT (X := Bool) [114, 115, 116, 117, 118, 119, 120, 121, 122, 123, 124, 125, 126, 127, 128, 129, 130, 131, 132, 133, 134, 135, 136, 137, 138] (fun a65 => ([(138, .bool a65)] : Slots)) (fun a65 R => R) (fun a65 => y63 = a65) Dels.nil ?_ ?_
       ·
        have h := hl61
        refine CJ_region <| oM rfl rfl <| oP (P_eql (a := ((a57 : Nat) : Int)) (b := (0 : Int)) rfl rfl) rfl <| oM rfl rfl <| RJ_mbT rfl rfl rfl (fun hG66 => have hP67 : (((a57 : Nat) : Int) = (0 : Int)) := (bT_dec).1 hG66; VJ_P (P_fieldAddr rfl ⟨_, _, _, Try.runUnderlying26, rfl, rfl, Try.sizeOf4, rfl⟩)) <| RJ_mbT rfl rfl rfl (fun hG68 => have hP69 : (((a57 : Nat) : Int) = (0 : Int)) := (bT_dec).1 hG68; V_load (mbx hG68 rfl) foc2 rfl Try.isAgg4) <| oP (P_pickAnd rfl (fun hh => mbx hh rfl) rfl) rfl <| oM rfl rfl <| RJ_mbT rfl rfl rfl (fun hG70 => have hP71 : ((((a57 : Nat) : Int) = (0 : Int)) ∧ r4.2.2.2.2.1 = true) := ((bT_and bT_dec Iff.rfl)).1 hG70; VJ_P (P_move rfl)) <| RJ_mbT rfl rfl rfl (fun hG72 => have hP73 : ((((a57 : Nat) : Int) = (0 : Int)) ∧ r4.2.2.2.2.1 = true) := ((bT_and bT_dec Iff.rfl)).1 hG72; VJ_P (P_fieldAddr rfl ⟨_, _, _, Try.runUnderlying26, rfl, rfl, Try.sizeOf3, rfl⟩)) <| RJ_mbT rfl rfl rfl (fun hG74 => have hP75 : ((((a57 : Nat) : Int) = (0 : Int)) ∧ r4.2.2.2.2.1 = true) := ((bT_and bT_dec Iff.rfl)).1 hG74; V_load (mbx hG74 rfl) foc2 rfl Try.isAgg3) ?_
        obtain ⟨hg14, h⟩ := grd_de h
        refine RJ_mbT rfl rfl rfl (fun hG76 => have hP77 : ((((a57 : Nat) : Int) = (0 : Int)) ∧ r4.2.2.2.2.1 = true) := ((bT_and bT_dec Iff.rfl)).1 hG76; V_index (i := r4.2.1) (mbx hG76 rfl) (mbx hG76 rfl) rfl (hg14 hP77) foc1 (Reads.sl _ _ _) Try.runUnderlying31 Try.sizeOf4) ?_
        obtain ⟨hg15, h⟩ := grd_de h
        refine RJ_mbT rfl rfl rfl (fun hG78 => have hP79 : ((((a57 : Nat) : Int) = (0 : Int)) ∧ r4.2.2.2.2.1 = true) := ((bT_and bT_dec Iff.rfl)).1 hG78; V_loadE (mbx hG78 rfl) rfl (hg15 hP79) foc1 (Reads.sl _ _ _) rfl rfl Try.isAgg4) <| RJ_mbT rfl rfl rfl (fun hG80 => have hP81 : ((((a57 : Nat) : Int) = (0 : Int)) ∧ r4.2.2.2.2.1 = true) := ((bT_and bT_dec Iff.rfl)).1 hG80; VJ_P (P_not (mbx hG80 rfl))) <| oP (P_pickAnd rfl (fun hh => mbx hh rfl) rfl) rfl <| oM rfl rfl <| RJ_splitP 128 rfl (bT_and (bT_and bT_dec Iff.rfl) (bT_not Iff.rfl)) (fun hg16B hg16 => ?_) (fun hg16B hg16 => ?_)
        ·
         replace h := ite_t hg16 h
         refine gP (GY_yes rfl rfl rfl hg16B) (P_move rfl) rfl ?_
         obtain ⟨r82, hr83, h⟩ := bind_e h
         refine RJ_gy (GY_yes rfl rfl rfl hg16B) <| O_call (L_volumegroupref20_Words hr83) rfl Try.call8 Dels.nil rfl fun _ _ => gP (GY_yes rfl rfl rfl hg16B) (P_gtr (a := r82) (b := (3 : Int)) rfl rfl) rfl <| gP (GY_yes rfl rfl rfl hg16B) (P_move rfl) rfl <| RJ_splitP 132 rfl bT_dec (fun hg17B hg17 => ?_) (fun hg17B hg17 => ?_)
         ·
          replace h := ite_t hg17 h
          exact RJ_gn (GY_no rfl rfl rfl hg17B) rfl rfl <| RJ_gn (GY_no rfl rfl rfl hg17B) rfl rfl <| RJ_gn (GY_no rfl rfl rfl hg17B) rfl rfl <| RJ_gn (GY_no rfl rfl rfl hg17B) rfl rfl <| gP (GY_yes rfl rfl rfl hg16B) (P_pickT rfl hg17B rfl) rfl <| oP (P_pickT rfl hg16B rfl) rfl <| RJ_nil <| cR true (Option.some.inj h).symm ⟨rfl, True.intro⟩ eR
         ·
          replace h := ite_f hg17 h
          refine gP (GY_yes rfl rfl rfl hg17B) (P_move rfl) rfl <| gP (GY_yes rfl rfl rfl hg17B) (P_move rfl) rfl ?_
          obtain ⟨r84, hr85, h⟩ := bind_e h
          exact RJ_gy (GY_yes rfl rfl rfl hg17B) <| O_call (L_volumegroupref20_Head hr85) rfl Try.call9 Dels.nil rfl fun _ _ => gP (GY_yes rfl rfl rfl hg17B) (P_ne_u64 (a := (rdV o11 (((r4.2.1 : Nat) : Int)) (0 : Int))) (b := r84) rfl rfl) rfl <| gP (GY_yes rfl rfl rfl hg16B) (P_pickF rfl hg17B rfl) rfl <| oP (P_pickT rfl hg16B rfl) rfl <| RJ_nil <| cR (decide ((rdV o11 (((r4.2.1 : Nat) : Int)) (0 : Int)) ≠ r84)) (Option.some.inj h).symm ⟨rfl, True.intro⟩ eR
        ·
         replace h := ite_f hg16 h
         exact RJ_gn (GY_no rfl rfl rfl hg16B) rfl rfl <| RJ_gn (GY_no rfl rfl rfl hg16B) rfl rfl <| RJ_gn (GY_no rfl rfl rfl hg16B) rfl rfl <| RJ_gn (GY_no rfl rfl rfl hg16B) rfl rfl <| RJ_gn (GY_undef rfl rfl rfl) rfl rfl <| RJ_gn (GY_undef rfl rfl rfl) rfl rfl <| RJ_gn (GY_undef rfl rfl rfl) rfl rfl <| RJ_gn (GY_undef rfl rfl rfl) rfl rfl <| RJ_gn (GY_no rfl rfl rfl hg16B) rfl rfl <| oP (P_pickF rfl hg16B rfl) rfl <| RJ_nil <| cR false (Option.some.inj h).symm ⟨rfl, True.intro⟩ eR
       ·
        rintro a65 hy86
        replace h := bindK_at hK62 hy86
        show CJ _ _ _ _ _ (([(138, .bool a65)] : Slots) ++ forget _ _) (_)
        obtain ⟨y89, hl87, hK88⟩ := bind_c h
        refine CJ_cutT (X := Nat) [11] (fun a91 => ([(11, .int .i64 (((a91 : Nat) : Int)))] : Slots)) (fun a91 R => R) (fun a91 => y89 = a91) Dels.nil ?_ ?_
        ·
         have h := hl87
         refine CJ_condP rfl Iff.rfl (fun hg18 => ?_) (fun hg18 => ?_)
         ·
          replace h := ite_t hg18 h
          exact CJ_region <| oA rfl rfl <| RJ_nil <| cR 18 (Option.some.inj h).symm ⟨rfl, True.intro⟩ eR
         ·
          replace h := ite_f hg18 h
          exact CJ_skip <| cR a57 (Option.some.inj h).symm ⟨rfl, True.intro⟩ eR
        ·
         rintro a91 hy92
         replace h := bindK_at hK88 hy92
         show CJ _ _ _ _ _ (([(11, .int .i64 (((a91 : Nat) : Int)))] : Slots) ++ forget _ _) (_)
         refine sR <| oV (V_loadN rfl foc2 Try.isAgg26 Try.sizeOf26 rfl rfl) rfl <| oM rfl rfl ?_
         obtain ⟨r93, hr94, h⟩ := bind_e h
         refine oO <| O_call (L_volumegrouplaw21_setting_open rstale hr94) rfl Try.call10 (Dels.cons del0 (Dels.cons del3 Dels.nil)) rfl fun X95 _ => oM rfl rfl <| oP (P_extract rfl rfl) rfl <| oP (P_extract rfl rfl) rfl <| oA rfl rfl <| oA rfl rfl <| nT <| CJ_seq <| sR <| oM rfl rfl <| oM rfl rfl <| oP (P_neq (a := r93.2) (b := ((a91 : Nat) : Int)) rfl rfl) rfl <| oM rfl rfl <| RJ_mbF rfl rfl rfl (fun hG97 => have hP98 : ¬ (r93.2 ≠ ((a91 : Nat) : Int)) := nP (bT_dec) hG97; VJ_P (P_move rfl)) <| RJ_splitP 148 rfl bT_dec (fun hg19B hg19 => ?_) (fun hg19B hg19 => ?_)
         ·
          replace h := ite_t hg19 h
          refine RJ_gn (GY_no rfl rfl rfl hg19B) rfl rfl <| RJ_gn (GY_no rfl rfl rfl hg19B) rfl rfl <| RJ_gn (GY_no rfl rfl rfl hg19B) rfl rfl <| RJ_gn (GY_no rfl rfl rfl hg19B) rfl rfl <| oP (P_pickT rfl hg19B rfl) rfl <| oM rfl rfl <| RJ_gn (GY_no rfl rfl rfl rfl) rfl rfl <| RJ_gn (GY_no rfl rfl rfl rfl) rfl rfl <| RJ_gn (GY_no rfl rfl rfl rfl) rfl rfl <| RJ_gn (GY_no rfl rfl rfl rfl) rfl rfl <| RJ_gn (GY_no rfl rfl rfl rfl) rfl rfl <| RJ_gn (GY_no rfl rfl rfl rfl) rfl rfl <| oP (P_pickT rfl rfl rfl) rfl <| nT <| CJ_condT rfl rfl <| sR <| oA rfl rfl <| nT <| CJ_ret <| QJ_then_ret ?_
          cases h
          exact fE (res1 Try.results3 rfl) () (t1_ (eD (eD (eD (eD (eD eR))))))
         ·
          replace h := ite_f hg19 h
          rcases opt_e h with ⟨ht101, h⟩ | ⟨o102, ht101, h⟩
          ·
           rw [ht101]
           refine RJ_ent (t0_ (t0_ (t1_ (t1_ (t1_ (eD eR)))))) <| gP (GY_yes rfl rfl rfl hg19B) (P_eqlNN (mbx (not_f hg19B) rfl) rfl Try.underlying38) rfl <| gP (GY_yes rfl rfl rfl hg19B) (P_move rfl) rfl <| gP (GY_yes rfl rfl rfl hg19B) (P_neq (a := r93.2) (b := (0 : Int)) rfl rfl) rfl <| gP (GY_yes rfl rfl rfl hg19B) (P_neqB rfl rfl Try.underlying4) rfl <| oP (P_pickF rfl hg19B rfl) rfl <| oM rfl rfl <| RJ_splitP 155 rfl (bT_not (bT_beq Iff.rfl bT_dec)) (fun hg20B hg20 => ?_) (fun hg20B hg20 => ?_)
           ·
            replace h := ite_t hg20 h
            refine RJ_gn (GY_no rfl rfl rfl hg20B) rfl rfl <| RJ_gn (GY_no rfl rfl rfl hg20B) rfl rfl <| RJ_gn (GY_no rfl rfl rfl hg20B) rfl rfl <| RJ_gn (GY_no rfl rfl rfl hg20B) rfl rfl <| RJ_gn (GY_no rfl rfl rfl hg20B) rfl rfl <| RJ_gn (GY_no rfl rfl rfl hg20B) rfl rfl <| oP (P_pickT rfl hg20B rfl) rfl <| nT <| CJ_condT rfl rfl <| sR <| oA rfl rfl <| nT <| CJ_ret <| QJ_then_ret ?_
            cases h
            exact fE (res1 Try.results3 rfl) () (t1_ (eD (eD (eD (eD eR)))))
           ·
            replace h := ite_f hg20 h
            refine gP (GY_yes rfl rfl rfl hg20B) (P_fieldAddr rfl ⟨_, _, _, Try.runUnderlying26, rfl, rfl, Try.sizeOf3, rfl⟩) rfl <| gV (GY_yes rfl rfl rfl hg20B) (V_load rfl foc3 rfl Try.isAgg3) rfl <| gP (GY_yes rfl rfl rfl hg20B) (P_move rfl) rfl ?_
            obtain ⟨r103, hr104, h⟩ := bind_e h
            refine RJ_gy (GY_yes rfl rfl rfl hg20B) <| O_call (L_mirror_Regions hr104) rfl Try.call11 Dels.nil rfl fun _ _ => gP (GY_yes rfl rfl rfl hg20B) (P_move rfl) rfl <| gP (GY_yes rfl rfl rfl hg20B) (P_neq (a := r103) (b := r59) rfl rfl) rfl <| oP (P_pickF rfl hg20B rfl) rfl <| nT <| CJ_condP rfl bT_dec (fun hg21 => ?_) (fun hg21 => ?_)
            ·
             replace h := ite_t hg21 h
             refine sR <| oA rfl rfl <| nT <| CJ_ret <| QJ_then_ret ?_
             cases h
             exact fE (res1 Try.results3 rfl) () (t1_ (eD (eD (eD (eD eR)))))
            ·
             replace h := ite_f hg21 h
             refine kT <| CJ_seq <| sR <| oM rfl rfl <| oP (P_neq (a := r93.2) (b := (0 : Int)) rfl rfl) rfl <| nT <| CJ_condP rfl bT_dec (fun hg22 => ?_) (fun hg22 => ?_)
             ·
              replace h := ite_t hg22 h
              refine sR ?_
              obtain ⟨r105, hr106, h⟩ := bind_e h
              refine oO <| O_call (L_volumegrouplaw21_awake hr106) rfl Try.call4 Dels.nil rfl fun _ _ => oA rfl rfl <| nT <| CJ_ret <| QJ_then_ret ?_
              cases h
              exact fE (res1 Try.results3 rfl) () (t1_ (eD (eD (eD (eD eR)))))
             ·
              replace h := ite_f hg22 h
              refine kT <| sR <| oM rfl rfl <| oM rfl rfl ?_
              obtain ⟨r107, hr108, h⟩ := bind_e h
              refine oO <| O_call (L_mirror_Mirror_Read_3 hr108) rfl Try.call12 Dels.nil rfl fun _ _ => oM rfl rfl <| oP (P_extract rfl rfl) rfl <| oP (P_extract rfl rfl) rfl <| oA rfl rfl <| oA rfl rfl <| nT <| sR <| oM rfl rfl <| oP (P_lss (a := at_3) (b := (0 : Int)) rfl rfl) rfl <| oM rfl rfl <| RJ_mbF rfl rfl rfl (fun hG109 => have hP110 : ¬ (at_3 < (0 : Int)) := nP (bT_dec) hG109; VJ_P (P_move rfl)) <| RJ_mbF rfl rfl rfl (fun hG111 => have hP112 : ¬ (at_3 < (0 : Int)) := nP (bT_dec) hG111; VJ_P (P_fieldAddr rfl ⟨_, _, _, Try.runUnderlying26, rfl, rfl, Try.sizeOf3, rfl⟩)) <| RJ_mbF rfl rfl rfl (fun hG113 => have hP114 : ¬ (at_3 < (0 : Int)) := nP (bT_dec) hG113; V_load (mbx hG113 rfl) foc3 rfl Try.isAgg3) <| RJ_mbF rfl rfl rfl (fun hG115 => have hP116 : ¬ (at_3 < (0 : Int)) := nP (bT_dec) hG115; VJ_P (P_geq (a := at_3) (b := ((r4.2.2.1 : Nat) : Int)) (mbx hG115 rfl) (mbx hG115 rfl))) <| oP (P_pickOr rfl rfl (fun hh => mbx (not_f hh) rfl)) rfl <| oA rfl rfl <| nT <| sR <| oM rfl rfl ?_
              obtain ⟨r117, hr118, h⟩ := bind_e h
              refine oO <| O_call (L_mirror_Mirror_Resync_3 hr118) rfl Try.call13 Dels.nil rfl fun _ _ => oM rfl rfl <| oP (P_extract rfl rfl) rfl <| oP (P_extract rfl rfl) rfl <| oA rfl rfl <| oA rfl rfl <| nT <| sR <| oM rfl rfl ?_
              obtain ⟨r119, hr120, h⟩ := bind_e h
              refine oO <| O_call (L_mirror_Mirror_Fill_2 hr120) rfl Try.call14 Dels.nil rfl fun _ _ => oM rfl rfl <| oP (P_extract rfl rfl) rfl <| oP (P_extract rfl rfl) rfl <| oA rfl rfl <| oA rfl rfl <| nT <| sR <| oM rfl rfl ?_
              obtain ⟨r121, hr122, h⟩ := bind_e h
              exact oO <| O_call (L_mirror_Mirror_Fill_2 hr122) rfl Try.call14 Dels.nil rfl fun _ _ => oM rfl rfl <| oP (P_extract rfl rfl) rfl <| oP (P_extract rfl rfl) rfl <| oA rfl rfl <| oA rfl rfl <| nT <| CJ_seq <| CJ_seq <| AJ_startH 0 (by kernel_rfl) rfl <| aN 0 1 rfl rfl (P_move rfl) rfl <| aN 2 5 rfl rfl (P_fieldAddr rfl ⟨_, _, _, Try.runUnderlying26, rfl, rfl, Try.sizeOf3, rfl⟩) rfl <| aV 3 13 rfl rfl (GY_none rfl) eR (V_load rfl foc3 rfl Try.isAgg3) rfl <| none_e h
          ·
           rw [ht101]
           refine RJ_ent (Ent.takeC (A' := MirP X6.1 X95 o102) del2 rfl eR) <| gP (GY_yes rfl rfl rfl hg19B) (P_eqlPN (mbx (not_f hg19B) rfl) rfl Try.underlying38) rfl <| gP (GY_yes rfl rfl rfl hg19B) (P_move rfl) rfl <| gP (GY_yes rfl rfl rfl hg19B) (P_neq (a := r93.2) (b := (0 : Int)) rfl rfl) rfl <| gP (GY_yes rfl rfl rfl hg19B) (P_neqB rfl rfl Try.underlying4) rfl <| oP (P_pickF rfl hg19B rfl) rfl <| oM rfl rfl <| RJ_splitP 155 rfl (bT_not (bT_beq Iff.rfl bT_dec)) (fun hg23B hg23 => ?_) (fun hg23B hg23 => ?_)
           ·
            replace h := ite_t hg23 h
            refine RJ_gn (GY_no rfl rfl rfl hg23B) rfl rfl <| RJ_gn (GY_no rfl rfl rfl hg23B) rfl rfl <| RJ_gn (GY_no rfl rfl rfl hg23B) rfl rfl <| RJ_gn (GY_no rfl rfl rfl hg23B) rfl rfl <| RJ_gn (GY_no rfl rfl rfl hg23B) rfl rfl <| RJ_gn (GY_no rfl rfl rfl hg23B) rfl rfl <| oP (P_pickT rfl hg23B rfl) rfl <| nT <| CJ_condT rfl rfl <| sR <| oA rfl rfl <| nT <| CJ_ret <| QJ_then_ret ?_
            cases h
            exact fE (res1 Try.results3 rfl) () (t2_ (eD (eD (eD (eD (eD eR))))))
           ·
            replace h := ite_f hg23 h
            refine gP (GY_yes rfl rfl rfl hg23B) (P_fieldAddr rfl ⟨_, _, _, Try.runUnderlying26, rfl, rfl, Try.sizeOf3, rfl⟩) rfl <| gV (GY_yes rfl rfl rfl hg23B) (V_load rfl foc4 rfl Try.isAgg3) rfl <| gP (GY_yes rfl rfl rfl hg23B) (P_move rfl) rfl ?_
            obtain ⟨r123, hr124, h⟩ := bind_e h
            refine RJ_gy (GY_yes rfl rfl rfl hg23B) <| O_call (L_mirror_Regions hr124) rfl Try.call11 Dels.nil rfl fun _ _ => gP (GY_yes rfl rfl rfl hg23B) (P_move rfl) rfl <| gP (GY_yes rfl rfl rfl hg23B) (P_neq (a := r123) (b := r59) rfl rfl) rfl <| oP (P_pickF rfl hg23B rfl) rfl <| nT <| CJ_condP rfl bT_dec (fun hg24 => ?_) (fun hg24 => ?_)
            ·
             replace h := ite_t hg24 h
             refine sR <| oA rfl rfl <| nT <| CJ_ret <| QJ_then_ret ?_
             cases h
             exact fE (res1 Try.results3 rfl) () (t2_ (eD (eD (eD (eD (eD eR))))))
            ·
             replace h := ite_f hg24 h
             refine kT <| CJ_seq <| sR <| oM rfl rfl <| oP (P_neq (a := r93.2) (b := (0 : Int)) rfl rfl) rfl <| nT <| CJ_condP rfl bT_dec (fun hg25 => ?_) (fun hg25 => ?_)
             ·
              replace h := ite_t hg25 h
              refine sR ?_
              obtain ⟨r125, hr126, h⟩ := bind_e h
              refine oO <| O_call (L_volumegrouplaw21_awake hr126) rfl Try.call4 Dels.nil rfl fun _ _ => oA rfl rfl <| nT <| CJ_ret <| QJ_then_ret ?_
              cases h
              exact fE (res1 Try.results3 rfl) () (t2_ (eD (eD (eD (eD (eD eR))))))
             ·
              replace h := ite_f hg25 h
              refine kT <| sR <| oM rfl rfl <| oM rfl rfl ?_
              obtain ⟨r127, hr128, h⟩ := bind_e h
              refine oO <| O_call (L_mirror_Mirror_Read hr128) rfl Try.call12 (Dels.cons del0 (Dels.cons del0 Dels.nil)) rfl fun _ _ => oM rfl rfl <| oP (P_extract rfl rfl) rfl <| oP (P_extract rfl rfl) rfl <| oA rfl rfl <| oA rfl rfl <| nT <| sR <| oM rfl rfl <| oP (P_lss (a := at_3) (b := (0 : Int)) rfl rfl) rfl <| oM rfl rfl <| RJ_mbF rfl rfl rfl (fun hG129 => have hP130 : ¬ (at_3 < (0 : Int)) := nP (bT_dec) hG129; VJ_P (P_move rfl)) <| RJ_mbF rfl rfl rfl (fun hG131 => have hP132 : ¬ (at_3 < (0 : Int)) := nP (bT_dec) hG131; VJ_P (P_fieldAddr rfl ⟨_, _, _, Try.runUnderlying26, rfl, rfl, Try.sizeOf3, rfl⟩)) <| RJ_mbF rfl rfl rfl (fun hG133 => have hP134 : ¬ (at_3 < (0 : Int)) := nP (bT_dec) hG133; V_load (mbx hG133 rfl) foc4 rfl Try.isAgg3) <| RJ_mbF rfl rfl rfl (fun hG135 => have hP136 : ¬ (at_3 < (0 : Int)) := nP (bT_dec) hG135; VJ_P (P_geq (a := at_3) (b := ((r4.2.2.1 : Nat) : Int)) (mbx hG135 rfl) (mbx hG135 rfl))) <| oP (P_pickOr rfl rfl (fun hh => mbx (not_f hh) rfl)) rfl <| oA rfl rfl <| nT <| sR <| oM rfl rfl ?_
              obtain ⟨r137, hr138, h⟩ := bind_e h
              refine oO <| O_call (L_mirror_Mirror_Resync hr138) rfl Try.call13 (Dels.cons del0 (Dels.cons del0 Dels.nil)) rfl fun _ _ => oM rfl rfl <| oP (P_extract rfl rfl) rfl <| oP (P_extract rfl rfl) rfl <| oA rfl rfl <| oA rfl rfl <| nT <| sR <| oM rfl rfl ?_
              obtain ⟨r139, hr140, h⟩ := bind_e h
              refine oO <| O_call (L_mirror_Mirror_Fill hr140) rfl Try.call14 (Dels.cons del0 (Dels.cons del0 Dels.nil)) rfl fun _ _ => oM rfl rfl <| oP (P_extract rfl rfl) rfl <| oP (P_extract rfl rfl) rfl <| oA rfl rfl <| oA rfl rfl <| nT <| sR <| oM rfl rfl ?_
              obtain ⟨r141, hr142, h⟩ := bind_e h
              refine oO <| O_call (L_mirror_Mirror_Fill hr142) rfl Try.call14 (Dels.cons del0 (Dels.cons del0 Dels.nil)) rfl fun _ _ => oM rfl rfl <| oP (P_extract rfl rfl) rfl <| oP (P_extract rfl rfl) rfl <| oA rfl rfl <| oA rfl rfl <| nT <| CJ_seq <| CJ_seq ?_
              obtain ⟨y145, hl143, hK144⟩ := bind_c h
              refine CJ_cutT (X := Bool × MirS × ArrS) [195, 196, 197, 198, 199, 200, 201, 202, 203, 204, 205, 206, 207, 208, 209, 210, 211, 212, 213, 214, 215, 216, 217, 218, 219, 220, 221, 222, 223, 224, 225, 226, 227, 228, 229, 230, 231, 232, 233, 234, 235, 236, 237, 238, 239, 240, 241, 242, 243, 244, 245, 246, 247, 248, 249, 250, 251] (fun a149 => ([(251, .bool a149.1)] : Slots)) (fun a149 R => MirP X6.1 X95 a149.2.1 :: Arr X6.1 a149.2.2 :: R) (fun a149 => y145 = a149) (Dels.cons del0 (Dels.cons del0 Dels.nil)) ?_ ?_
              ·
               have h := hl143
               refine AJ_start [Astale, sl tyB (.slice (some ⟨b22, 0, none⟩) (r4.2.1 + 1) (r4.2.1 + 1)) a28.2, blk b9 26 [ptr X6.1 0, .int .i64 (((r4.2.1 : Nat) : Int)), .int .i64 (((r4.2.2.1 : Nat) : Int)), .int .i64 region, .bool r4.2.2.2.2.1], RdP tyU X6.2 r4.2.2.2.2.2] 0 (by kernel_rfl) rfl <| aN 0 1 rfl rfl (P_move rfl) rfl <| aN 2 5 rfl rfl (P_fieldAddr rfl ⟨_, _, _, Try.runUnderlying26, rfl, rfl, Try.sizeOf3, rfl⟩) rfl <| aV 3 13 rfl rfl (GY_none rfl) (t2_ (t2_ (t2_ (t2_ Ent.done)))) (V_load rfl foc2 rfl Try.isAgg3) rfl ?_
               obtain ⟨r150, hr151, h⟩ := bind_e h
               refine AJ_op 1 15 rfl (by kernel_rfl) rfl (GY_none rfl) <| O_call (L_mirror_Mirror_Size hr151) rfl Try.call15 (Dels.cons del0 (Dels.cons del0 Dels.nil)) rfl fun _ _ => ⟨fun _ => (t2_ (t2_ (t2_ (t2_ Ent.done)))), ?_⟩
               refine aN 4 31 rfl rfl (P_neq (a := r150) (b := ((r4.2.2.1 : Nat) : Int)) rfl rfl) rfl <| aN 5 63 rfl rfl (P_move rfl) rfl <| AJ_splitP 200 rfl bT_dec (fun hg26B hg26 => ?_) (fun hg26B hg26 => ?_)
               ·
                replace h := ite_t hg26 h
                refine aS 6 127 rfl rfl (GY_no rfl rfl rfl hg26B) rfl <| aS 7 255 rfl rfl (GY_no rfl rfl rfl hg26B) rfl <| aS 8 511 rfl rfl (GY_no rfl rfl rfl hg26B) rfl <| aS 9 1023 rfl rfl (GY_no rfl rfl rfl hg26B) rfl <| aN 10 2047 rfl rfl (P_pickT rfl hg26B rfl) rfl <| aN 11 4095 rfl rfl (P_move rfl) rfl <| aS 12 8191 rfl rfl (GY_no rfl rfl rfl rfl) rfl <| aS 13 16383 rfl rfl (GY_no rfl rfl rfl rfl) rfl <| aS 14 32767 rfl rfl (GY_undef rfl rfl rfl) rfl <| aS 15 65535 rfl rfl (GY_undef rfl rfl rfl) rfl <| aS 16 131071 rfl rfl (GY_undef rfl rfl rfl) rfl <| aS 17 262143 rfl rfl (GY_undef rfl rfl rfl) rfl <| aS 18 524287 rfl rfl (GY_no rfl rfl rfl rfl) rfl <| aN 19 1048575 rfl rfl (P_pickT rfl rfl rfl) rfl <| aN 20 2097151 rfl rfl (P_move rfl) rfl <| aS 21 4194303 rfl rfl (GY_no rfl rfl rfl rfl) rfl <| aS 22 8388607 rfl rfl (GY_no rfl rfl rfl rfl) rfl <| aN 23 16777215 rfl rfl (P_pickT rfl rfl rfl) rfl <| aN 24 33554431 rfl rfl (P_move rfl) rfl <| aS 25 67108863 rfl rfl (GY_no rfl rfl rfl rfl) rfl <| aS 26 134217727 rfl rfl (GY_no rfl rfl rfl rfl) rfl <| aN 27 268435455 rfl rfl (P_pickT rfl rfl rfl) rfl <| aN 28 536870911 rfl rfl (P_move rfl) rfl <| aS 29 1073741823 rfl rfl (GY_no rfl rfl rfl rfl) rfl <| aS 30 2147483647 rfl rfl (GY_no rfl rfl rfl rfl) rfl <| aS 31 4294967295 rfl rfl (GY_no rfl rfl rfl rfl) rfl <| aS 32 8589934591 rfl rfl (GY_no rfl rfl rfl rfl) rfl <| aS 33 17179869183 rfl rfl (GY_no rfl rfl rfl rfl) rfl <| aS 34 34359738367 rfl rfl (GY_no rfl rfl rfl rfl) rfl ?_
                exact aS 35 68719476735 rfl rfl (GY_no rfl rfl rfl rfl) rfl <| aN 36 137438953471 rfl rfl (P_pickT rfl rfl rfl) rfl <| aN 37 274877906943 rfl rfl (P_move rfl) rfl <| aS 38 549755813887 rfl rfl (GY_no rfl rfl rfl rfl) rfl <| aS 39 1099511627775 rfl rfl (GY_no rfl rfl rfl rfl) rfl <| aS 40 2199023255551 rfl rfl (GY_no rfl rfl rfl rfl) rfl <| aN 41 4398046511103 rfl rfl (P_pickT rfl rfl rfl) rfl <| aN 42 8796093022207 rfl rfl (P_move rfl) rfl <| aS 43 17592186044415 rfl rfl (GY_no rfl rfl rfl rfl) rfl <| aS 44 35184372088831 rfl rfl (GY_no rfl rfl rfl rfl) rfl <| aS 45 70368744177663 rfl rfl (GY_no rfl rfl rfl rfl) rfl <| aN 46 140737488355327 rfl rfl (P_pickT rfl rfl rfl) rfl <| aN 47 281474976710655 rfl rfl (P_move rfl) rfl <| aS 48 562949953421311 rfl rfl (GY_no rfl rfl rfl rfl) rfl <| aS 49 1125899906842623 rfl rfl (GY_no rfl rfl rfl rfl) rfl <| aS 50 2251799813685247 rfl rfl (GY_no rfl rfl rfl rfl) rfl <| aS 51 4503599627370495 rfl rfl (GY_no rfl rfl rfl rfl) rfl <| aS 52 9007199254740991 rfl rfl (GY_undef rfl rfl rfl) rfl <| aS 53 18014398509481983 rfl rfl (GY_undef rfl rfl rfl) rfl <| aS 54 36028797018963967 rfl rfl (GY_undef rfl rfl rfl) rfl <| aS 55 72057594037927935 rfl rfl (GY_no rfl rfl rfl rfl) rfl <| aN 56 144115188075855871 rfl rfl (P_pickT rfl rfl rfl) rfl <| AJ_done (by kernel_rfl) <| cR (true, r141.2.2.1, r141.2.2.2) (Option.some.inj h).symm ⟨rfl, True.intro⟩ eR
               ·
                replace h := ite_f hg26 h
                refine aP 6 127 rfl rfl (GY_yes rfl rfl rfl hg26B) (P_move rfl) rfl <| aP 7 255 rfl rfl (GY_yes rfl rfl rfl hg26B) (P_move rfl) rfl <| aP 8 511 rfl rfl (GY_yes rfl rfl rfl hg26B) (P_eql (a := r127.2.1) (b := (1 : Int)) rfl rfl) rfl <| aP 9 1023 rfl rfl (GY_yes rfl rfl rfl hg26B) (P_neqB rfl rfl Try.underlying4) rfl <| aN 10 2047 rfl rfl (P_pickF rfl hg26B rfl) rfl <| aN 11 4095 rfl rfl (P_move rfl) rfl <| AJ_splitP 206 rfl (bT_not (bT_beq (bT_or bT_dec bT_dec) bT_dec)) (fun hg27B hg27 => ?_) (fun hg27B hg27 => ?_)
                ·
                 replace h := ite_t hg27 h
                 refine aS 12 8191 rfl rfl (GY_no rfl rfl rfl hg27B) rfl <| aS 13 16383 rfl rfl (GY_no rfl rfl rfl hg27B) rfl <| aS 14 32767 rfl rfl (GY_undef rfl rfl rfl) rfl <| aS 15 65535 rfl rfl (GY_undef rfl rfl rfl) rfl <| aS 16 131071 rfl rfl (GY_undef rfl rfl rfl) rfl <| aS 17 262143 rfl rfl (GY_undef rfl rfl rfl) rfl <| aS 18 524287 rfl rfl (GY_no rfl rfl rfl hg27B) rfl <| aN 19 1048575 rfl rfl (P_pickT rfl hg27B rfl) rfl <| aN 20 2097151 rfl rfl (P_move rfl) rfl <| aS 21 4194303 rfl rfl (GY_no rfl rfl rfl rfl) rfl <| aS 22 8388607 rfl rfl (GY_no rfl rfl rfl rfl) rfl <| aN 23 16777215 rfl rfl (P_pickT rfl rfl rfl) rfl <| aN 24 33554431 rfl rfl (P_move rfl) rfl <| aS 25 67108863 rfl rfl (GY_no rfl rfl rfl rfl) rfl <| aS 26 134217727 rfl rfl (GY_no rfl rfl rfl rfl) rfl <| aN 27 268435455 rfl rfl (P_pickT rfl rfl rfl) rfl <| aN 28 536870911 rfl rfl (P_move rfl) rfl <| aS 29 1073741823 rfl rfl (GY_no rfl rfl rfl rfl) rfl <| aS 30 2147483647 rfl rfl (GY_no rfl rfl rfl rfl) rfl <| aS 31 4294967295 rfl rfl (GY_no rfl rfl rfl rfl) rfl <| aS 32 8589934591 rfl rfl (GY_no rfl rfl rfl rfl) rfl <| aS 33 17179869183 rfl rfl (GY_no rfl rfl rfl rfl) rfl <| aS 34 34359738367 rfl rfl (GY_no rfl rfl rfl rfl) rfl <| aS 35 68719476735 rfl rfl (GY_no rfl rfl rfl rfl) rfl <| aN 36 137438953471 rfl rfl (P_pickT rfl rfl rfl) rfl <| aN 37 274877906943 rfl rfl (P_move rfl) rfl <| aS 38 549755813887 rfl rfl (GY_no rfl rfl rfl rfl) rfl <| aS 39 1099511627775 rfl rfl (GY_no rfl rfl rfl rfl) rfl ?_
                 exact aS 40 2199023255551 rfl rfl (GY_no rfl rfl rfl rfl) rfl <| aN 41 4398046511103 rfl rfl (P_pickT rfl rfl rfl) rfl <| aN 42 8796093022207 rfl rfl (P_move rfl) rfl <| aS 43 17592186044415 rfl rfl (GY_no rfl rfl rfl rfl) rfl <| aS 44 35184372088831 rfl rfl (GY_no rfl rfl rfl rfl) rfl <| aS 45 70368744177663 rfl rfl (GY_no rfl rfl rfl rfl) rfl <| aN 46 140737488355327 rfl rfl (P_pickT rfl rfl rfl) rfl <| aN 47 281474976710655 rfl rfl (P_move rfl) rfl <| aS 48 562949953421311 rfl rfl (GY_no rfl rfl rfl rfl) rfl <| aS 49 1125899906842623 rfl rfl (GY_no rfl rfl rfl rfl) rfl <| aS 50 2251799813685247 rfl rfl (GY_no rfl rfl rfl rfl) rfl <| aS 51 4503599627370495 rfl rfl (GY_no rfl rfl rfl rfl) rfl <| aS 52 9007199254740991 rfl rfl (GY_undef rfl rfl rfl) rfl <| aS 53 18014398509481983 rfl rfl (GY_undef rfl rfl rfl) rfl <| aS 54 36028797018963967 rfl rfl (GY_undef rfl rfl rfl) rfl <| aS 55 72057594037927935 rfl rfl (GY_no rfl rfl rfl rfl) rfl <| aN 56 144115188075855871 rfl rfl (P_pickT rfl rfl rfl) rfl <| AJ_done (by kernel_rfl) <| cR (true, r141.2.2.1, r141.2.2.2) (Option.some.inj h).symm ⟨rfl, True.intro⟩ eR
                ·
                 replace h := ite_f hg27 h
                 refine aP 12 8191 rfl rfl (GY_yes rfl rfl rfl hg27B) (P_move rfl) rfl <| aP 13 16383 rfl rfl (GY_yes rfl rfl rfl hg27B) (P_move rfl) rfl <| AJ_splitP 208 rfl (bT_or bT_dec bT_dec) (fun hg28B hg28 => ?_) (fun hg28B hg28 => ?_)
                 ·
                  replace h := ite_t hg28 h
                  refine aP 14 32767 rfl rfl (GY_yes rfl rfl rfl hg28B) (P_move rfl) rfl <| aP 15 65535 rfl rfl (GY_yes rfl rfl rfl hg28B) (P_move rfl) rfl ?_
                  obtain ⟨r152, hr153, h⟩ := bind_e h
                  refine AJ_op 16 131071 rfl (by kernel_rfl) rfl (GY_yes rfl rfl rfl hg28B) <| O_call (L_mirror_Mirror_Write hr153) rfl Try.call16 (Dels.cons del0 (Dels.cons del0 Dels.nil)) rfl fun _ _ => ⟨fun _ => (t2_ (t2_ (t2_ (t2_ Ent.done)))), ?_⟩
                  refine aP 17 262143 rfl rfl (GY_yes rfl rfl rfl hg28B) (P_neq (a := r152.1) (b := (1 : Int)) rfl rfl) rfl <| aP 18 524287 rfl rfl (GY_yes rfl rfl rfl hg27B) (P_pickT rfl hg28B rfl) rfl <| aN 19 1048575 rfl rfl (P_pickF rfl hg27B rfl) rfl <| aN 20 2097151 rfl rfl (P_move rfl) rfl <| AJ_splitP 215 rfl bT_dec (fun hg29B hg29 => ?_) (fun hg29B hg29 => ?_)
                  ·
                   replace h := ite_t hg29 h
                   refine aS 21 4194303 rfl rfl (GY_no rfl rfl rfl hg29B) rfl <| aS 22 8388607 rfl rfl (GY_no rfl rfl rfl hg29B) rfl <| aN 23 16777215 rfl rfl (P_pickT rfl hg29B rfl) rfl <| aN 24 33554431 rfl rfl (P_move rfl) rfl <| aS 25 67108863 rfl rfl (GY_no rfl rfl rfl rfl) rfl <| aS 26 134217727 rfl rfl (GY_no rfl rfl rfl rfl) rfl <| aN 27 268435455 rfl rfl (P_pickT rfl rfl rfl) rfl <| aN 28 536870911 rfl rfl (P_move rfl) rfl <| aS 29 1073741823 rfl rfl (GY_no rfl rfl rfl rfl) rfl <| aS 30 2147483647 rfl rfl (GY_no rfl rfl rfl rfl) rfl <| aS 31 4294967295 rfl rfl (GY_no rfl rfl rfl rfl) rfl <| aS 32 8589934591 rfl rfl (GY_no rfl rfl rfl rfl) rfl <| aS 33 17179869183 rfl rfl (GY_no rfl rfl rfl rfl) rfl <| aS 34 34359738367 rfl rfl (GY_no rfl rfl rfl rfl) rfl <| aS 35 68719476735 rfl rfl (GY_no rfl rfl rfl rfl) rfl <| aN 36 137438953471 rfl rfl (P_pickT rfl rfl rfl) rfl <| aN 37 274877906943 rfl rfl (P_move rfl) rfl <| aS 38 549755813887 rfl rfl (GY_no rfl rfl rfl rfl) rfl <| aS 39 1099511627775 rfl rfl (GY_no rfl rfl rfl rfl) rfl <| aS 40 2199023255551 rfl rfl (GY_no rfl rfl rfl rfl) rfl <| aN 41 4398046511103 rfl rfl (P_pickT rfl rfl rfl) rfl <| aN 42 8796093022207 rfl rfl (P_move rfl) rfl <| aS 43 17592186044415 rfl rfl (GY_no rfl rfl rfl rfl) rfl <| aS 44 35184372088831 rfl rfl (GY_no rfl rfl rfl rfl) rfl <| aS 45 70368744177663 rfl rfl (GY_no rfl rfl rfl rfl) rfl <| aN 46 140737488355327 rfl rfl (P_pickT rfl rfl rfl) rfl <| aN 47 281474976710655 rfl rfl (P_move rfl) rfl ?_
                   exact aS 48 562949953421311 rfl rfl (GY_no rfl rfl rfl rfl) rfl <| aS 49 1125899906842623 rfl rfl (GY_no rfl rfl rfl rfl) rfl <| aS 50 2251799813685247 rfl rfl (GY_no rfl rfl rfl rfl) rfl <| aS 51 4503599627370495 rfl rfl (GY_no rfl rfl rfl rfl) rfl <| aS 52 9007199254740991 rfl rfl (GY_undef rfl rfl rfl) rfl <| aS 53 18014398509481983 rfl rfl (GY_undef rfl rfl rfl) rfl <| aS 54 36028797018963967 rfl rfl (GY_undef rfl rfl rfl) rfl <| aS 55 72057594037927935 rfl rfl (GY_no rfl rfl rfl rfl) rfl <| aN 56 144115188075855871 rfl rfl (P_pickT rfl rfl rfl) rfl <| AJ_done (by kernel_rfl) <| cR (true, r152.2.1, r152.2.2) (Option.some.inj h).symm ⟨rfl, True.intro⟩ eR
                  ·
                   replace h := ite_f hg29 h
                   refine aP 21 4194303 rfl rfl (GY_yes rfl rfl rfl hg29B) (P_move rfl) rfl <| aP 22 8388607 rfl rfl (GY_yes rfl rfl rfl hg29B) (P_neq (a := r137.2.1) (b := (1 : Int)) rfl rfl) rfl <| aN 23 16777215 rfl rfl (P_pickF rfl hg29B rfl) rfl <| aN 24 33554431 rfl rfl (P_move rfl) rfl <| AJ_splitP 219 rfl bT_dec (fun hg30B hg30 => ?_) (fun hg30B hg30 => ?_)
                   ·
                    replace h := ite_t hg30 h
                    refine aS 25 67108863 rfl rfl (GY_no rfl rfl rfl hg30B) rfl <| aS 26 134217727 rfl rfl (GY_no rfl rfl rfl hg30B) rfl <| aN 27 268435455 rfl rfl (P_pickT rfl hg30B rfl) rfl <| aN 28 536870911 rfl rfl (P_move rfl) rfl <| aS 29 1073741823 rfl rfl (GY_no rfl rfl rfl rfl) rfl <| aS 30 2147483647 rfl rfl (GY_no rfl rfl rfl rfl) rfl <| aS 31 4294967295 rfl rfl (GY_no rfl rfl rfl rfl) rfl <| aS 32 8589934591 rfl rfl (GY_no rfl rfl rfl rfl) rfl <| aS 33 17179869183 rfl rfl (GY_no rfl rfl rfl rfl) rfl <| aS 34 34359738367 rfl rfl (GY_no rfl rfl rfl rfl) rfl <| aS 35 68719476735 rfl rfl (GY_no rfl rfl rfl rfl) rfl <| aN 36 137438953471 rfl rfl (P_pickT rfl rfl rfl) rfl <| aN 37 274877906943 rfl rfl (P_move rfl) rfl <| aS 38 549755813887 rfl rfl (GY_no rfl rfl rfl rfl) rfl <| aS 39 1099511627775 rfl rfl (GY_no rfl rfl rfl rfl) rfl <| aS 40 2199023255551 rfl rfl (GY_no rfl rfl rfl rfl) rfl <| aN 41 4398046511103 rfl rfl (P_pickT rfl rfl rfl) rfl <| aN 42 8796093022207 rfl rfl (P_move rfl) rfl <| aS 43 17592186044415 rfl rfl (GY_no rfl rfl rfl rfl) rfl <| aS 44 35184372088831 rfl rfl (GY_no rfl rfl rfl rfl) rfl <| aS 45 70368744177663 rfl rfl (GY_no rfl rfl rfl rfl) rfl <| aN 46 140737488355327 rfl rfl (P_pickT rfl rfl rfl) rfl <| aN 47 281474976710655 rfl rfl (P_move rfl) rfl <| aS 48 562949953421311 rfl rfl (GY_no rfl rfl rfl rfl) rfl <| aS 49 1125899906842623 rfl rfl (GY_no rfl rfl rfl rfl) rfl <| aS 50 2251799813685247 rfl rfl (GY_no rfl rfl rfl rfl) rfl ?_
                    exact aS 51 4503599627370495 rfl rfl (GY_no rfl rfl rfl rfl) rfl <| aS 52 9007199254740991 rfl rfl (GY_undef rfl rfl rfl) rfl <| aS 53 18014398509481983 rfl rfl (GY_undef rfl rfl rfl) rfl <| aS 54 36028797018963967 rfl rfl (GY_undef rfl rfl rfl) rfl <| aS 55 72057594037927935 rfl rfl (GY_no rfl rfl rfl rfl) rfl <| aN 56 144115188075855871 rfl rfl (P_pickT rfl rfl rfl) rfl <| AJ_done (by kernel_rfl) <| cR (true, r152.2.1, r152.2.2) (Option.some.inj h).symm ⟨rfl, True.intro⟩ eR
                   ·
                    replace h := ite_f hg30 h
                    refine aP 25 67108863 rfl rfl (GY_yes rfl rfl rfl hg30B) (P_move rfl) rfl <| aP 26 134217727 rfl rfl (GY_yes rfl rfl rfl hg30B) (P_neq (a := r139.2.1) (b := (1 : Int)) rfl rfl) rfl <| aN 27 268435455 rfl rfl (P_pickF rfl hg30B rfl) rfl <| aN 28 536870911 rfl rfl (P_move rfl) rfl <| AJ_splitP 223 rfl bT_dec (fun hg31B hg31 => ?_) (fun hg31B hg31 => ?_)
                    ·
                     replace h := ite_t hg31 h
                     refine aS 29 1073741823 rfl rfl (GY_no rfl rfl rfl hg31B) rfl <| aS 30 2147483647 rfl rfl (GY_no rfl rfl rfl hg31B) rfl <| aS 31 4294967295 rfl rfl (GY_no rfl rfl rfl hg31B) rfl <| aS 32 8589934591 rfl rfl (GY_no rfl rfl rfl hg31B) rfl <| aS 33 17179869183 rfl rfl (GY_no rfl rfl rfl hg31B) rfl <| aS 34 34359738367 rfl rfl (GY_no rfl rfl rfl hg31B) rfl <| aS 35 68719476735 rfl rfl (GY_no rfl rfl rfl hg31B) rfl <| aN 36 137438953471 rfl rfl (P_pickT rfl hg31B rfl) rfl <| aN 37 274877906943 rfl rfl (P_move rfl) rfl <| aS 38 549755813887 rfl rfl (GY_no rfl rfl rfl rfl) rfl <| aS 39 1099511627775 rfl rfl (GY_no rfl rfl rfl rfl) rfl <| aS 40 2199023255551 rfl rfl (GY_no rfl rfl rfl rfl) rfl <| aN 41 4398046511103 rfl rfl (P_pickT rfl rfl rfl) rfl <| aN 42 8796093022207 rfl rfl (P_move rfl) rfl <| aS 43 17592186044415 rfl rfl (GY_no rfl rfl rfl rfl) rfl <| aS 44 35184372088831 rfl rfl (GY_no rfl rfl rfl rfl) rfl <| aS 45 70368744177663 rfl rfl (GY_no rfl rfl rfl rfl) rfl <| aN 46 140737488355327 rfl rfl (P_pickT rfl rfl rfl) rfl <| aN 47 281474976710655 rfl rfl (P_move rfl) rfl <| aS 48 562949953421311 rfl rfl (GY_no rfl rfl rfl rfl) rfl <| aS 49 1125899906842623 rfl rfl (GY_no rfl rfl rfl rfl) rfl <| aS 50 2251799813685247 rfl rfl (GY_no rfl rfl rfl rfl) rfl <| aS 51 4503599627370495 rfl rfl (GY_no rfl rfl rfl rfl) rfl <| aS 52 9007199254740991 rfl rfl (GY_undef rfl rfl rfl) rfl <| aS 53 18014398509481983 rfl rfl (GY_undef rfl rfl rfl) rfl ?_
                     exact aS 54 36028797018963967 rfl rfl (GY_undef rfl rfl rfl) rfl <| aS 55 72057594037927935 rfl rfl (GY_no rfl rfl rfl rfl) rfl <| aN 56 144115188075855871 rfl rfl (P_pickT rfl rfl rfl) rfl <| AJ_done (by kernel_rfl) <| cR (true, r152.2.1, r152.2.2) (Option.some.inj h).symm ⟨rfl, True.intro⟩ eR
                    ·
                     replace h := ite_f hg31 h
                     refine aP 29 1073741823 rfl rfl (GY_yes rfl rfl rfl hg31B) (P_move rfl) rfl <| aP 30 2147483647 rfl rfl (GY_yes rfl rfl rfl hg31B) (P_eql (a := r141.2.1) (b := (20 : Int)) rfl rfl) rfl <| aP 31 4294967295 rfl rfl (GY_yes rfl rfl rfl hg31B) (P_move rfl) rfl ?_
                     obtain ⟨hg32, h⟩ := grd_de h
                     refine aV 32 8589934591 rfl rfl (GY_yes rfl rfl rfl hg31B) (t2_ (t2_ (t2_ (t2_ Ent.done)))) (V_index (i := 0) rfl rfl rfl hg32 foc1 (Reads.sl _ _ _) Try.runUnderlying31 Try.sizeOf4) rfl <| aV 33 17179869183 rfl rfl (GY_yes rfl rfl rfl hg31B) (t2_ (t2_ (t2_ (t2_ Ent.done)))) (V_loadE rfl rfl hg32 foc1 (Reads.sl _ _ _) rfl rfl Try.isAgg4) rfl <| aP 34 34359738367 rfl rfl (GY_yes rfl rfl rfl hg31B) (P_not rfl) rfl <| aP 35 68719476735 rfl rfl (GY_yes rfl rfl rfl hg31B) (P_neqB rfl rfl Try.underlying4) rfl <| aN 36 137438953471 rfl rfl (P_pickF rfl hg31B rfl) rfl <| aN 37 274877906943 rfl rfl (P_move rfl) rfl <| AJ_splitP 232 rfl (bT_not (bT_beq bT_dec (bT_not Iff.rfl))) (fun hg33B hg33 => ?_) (fun hg33B hg33 => ?_)
                     ·
                      replace h := ite_t hg33 h
                      exact aS 38 549755813887 rfl rfl (GY_no rfl rfl rfl hg33B) rfl <| aS 39 1099511627775 rfl rfl (GY_no rfl rfl rfl hg33B) rfl <| aS 40 2199023255551 rfl rfl (GY_no rfl rfl rfl hg33B) rfl <| aN 41 4398046511103 rfl rfl (P_pickT rfl hg33B rfl) rfl <| aN 42 8796093022207 rfl rfl (P_move rfl) rfl <| aS 43 17592186044415 rfl rfl (GY_no rfl rfl rfl rfl) rfl <| aS 44 35184372088831 rfl rfl (GY_no rfl rfl rfl rfl) rfl <| aS 45 70368744177663 rfl rfl (GY_no rfl rfl rfl rfl) rfl <| aN 46 140737488355327 rfl rfl (P_pickT rfl rfl rfl) rfl <| aN 47 281474976710655 rfl rfl (P_move rfl) rfl <| aS 48 562949953421311 rfl rfl (GY_no rfl rfl rfl rfl) rfl <| aS 49 1125899906842623 rfl rfl (GY_no rfl rfl rfl rfl) rfl <| aS 50 2251799813685247 rfl rfl (GY_no rfl rfl rfl rfl) rfl <| aS 51 4503599627370495 rfl rfl (GY_no rfl rfl rfl rfl) rfl <| aS 52 9007199254740991 rfl rfl (GY_undef rfl rfl rfl) rfl <| aS 53 18014398509481983 rfl rfl (GY_undef rfl rfl rfl) rfl <| aS 54 36028797018963967 rfl rfl (GY_undef rfl rfl rfl) rfl <| aS 55 72057594037927935 rfl rfl (GY_no rfl rfl rfl rfl) rfl <| aN 56 144115188075855871 rfl rfl (P_pickT rfl rfl rfl) rfl <| AJ_done (by kernel_rfl) <| cR (true, r152.2.1, r152.2.2) (Option.some.inj h).symm ⟨rfl, True.intro⟩ eR
                     ·
                      replace h := ite_f hg33 h
                      refine aP 38 549755813887 rfl rfl (GY_yes rfl rfl rfl hg33B) (P_move rfl) rfl ?_
                      obtain ⟨r154, hr155, h⟩ := bind_e h
                      refine AJ_op 39 1099511627775 rfl (by kernel_rfl) rfl (GY_yes rfl rfl rfl hg33B) <| O_call (L_mirror_Mirror_Drop hr155) rfl Try.call17 (Dels.cons del0 (Dels.cons del0 Dels.nil)) rfl fun _ _ => ⟨fun _ => (t2_ (t2_ (t2_ (t2_ Ent.done)))), ?_⟩
                      refine aP 40 2199023255551 rfl rfl (GY_yes rfl rfl rfl hg33B) (P_neq (a := r154.1) (b := (1 : Int)) rfl rfl) rfl <| aN 41 4398046511103 rfl rfl (P_pickF rfl hg33B rfl) rfl <| aN 42 8796093022207 rfl rfl (P_move rfl) rfl <| AJ_splitP 237 rfl bT_dec (fun hg34B hg34 => ?_) (fun hg34B hg34 => ?_)
                      ·
                       replace h := ite_t hg34 h
                       exact aS 43 17592186044415 rfl rfl (GY_no rfl rfl rfl hg34B) rfl <| aS 44 35184372088831 rfl rfl (GY_no rfl rfl rfl hg34B) rfl <| aS 45 70368744177663 rfl rfl (GY_no rfl rfl rfl hg34B) rfl <| aN 46 140737488355327 rfl rfl (P_pickT rfl hg34B rfl) rfl <| aN 47 281474976710655 rfl rfl (P_move rfl) rfl <| aS 48 562949953421311 rfl rfl (GY_no rfl rfl rfl rfl) rfl <| aS 49 1125899906842623 rfl rfl (GY_no rfl rfl rfl rfl) rfl <| aS 50 2251799813685247 rfl rfl (GY_no rfl rfl rfl rfl) rfl <| aS 51 4503599627370495 rfl rfl (GY_no rfl rfl rfl rfl) rfl <| aS 52 9007199254740991 rfl rfl (GY_undef rfl rfl rfl) rfl <| aS 53 18014398509481983 rfl rfl (GY_undef rfl rfl rfl) rfl <| aS 54 36028797018963967 rfl rfl (GY_undef rfl rfl rfl) rfl <| aS 55 72057594037927935 rfl rfl (GY_no rfl rfl rfl rfl) rfl <| aN 56 144115188075855871 rfl rfl (P_pickT rfl rfl rfl) rfl <| AJ_done (by kernel_rfl) <| cR (true, r154.2, r152.2.2) (Option.some.inj h).symm ⟨rfl, True.intro⟩ eR
                      ·
                       replace h := ite_f hg34 h
                       refine aP 43 17592186044415 rfl rfl (GY_yes rfl rfl rfl hg34B) (P_move rfl) rfl ?_
                       obtain ⟨r156, hr157, h⟩ := bind_e h
                       refine AJ_op 44 35184372088831 rfl (by kernel_rfl) rfl (GY_yes rfl rfl rfl hg34B) <| O_call (L_mirror_Mirror_Accept hr157) rfl Try.call18 (Dels.cons del0 (Dels.cons del0 Dels.nil)) rfl fun _ _ => ⟨fun _ => (t2_ (t2_ (t2_ (t2_ Ent.done)))), ?_⟩
                       refine aP 45 70368744177663 rfl rfl (GY_yes rfl rfl rfl hg34B) (P_neq (a := r156.1) (b := (1 : Int)) rfl rfl) rfl <| aN 46 140737488355327 rfl rfl (P_pickF rfl hg34B rfl) rfl <| aN 47 281474976710655 rfl rfl (P_move rfl) rfl <| AJ_splitP 242 rfl bT_dec (fun hg35B hg35 => ?_) (fun hg35B hg35 => ?_)
                       ·
                        replace h := ite_t hg35 h
                        exact aS 48 562949953421311 rfl rfl (GY_no rfl rfl rfl hg35B) rfl <| aS 49 1125899906842623 rfl rfl (GY_no rfl rfl rfl hg35B) rfl <| aS 50 2251799813685247 rfl rfl (GY_no rfl rfl rfl hg35B) rfl <| aS 51 4503599627370495 rfl rfl (GY_no rfl rfl rfl hg35B) rfl <| aS 52 9007199254740991 rfl rfl (GY_undef rfl rfl rfl) rfl <| aS 53 18014398509481983 rfl rfl (GY_undef rfl rfl rfl) rfl <| aS 54 36028797018963967 rfl rfl (GY_undef rfl rfl rfl) rfl <| aS 55 72057594037927935 rfl rfl (GY_no rfl rfl rfl hg35B) rfl <| aN 56 144115188075855871 rfl rfl (P_pickT rfl hg35B rfl) rfl <| AJ_done (by kernel_rfl) <| cR (true, r156.2.1, r156.2.2) (Option.some.inj h).symm ⟨rfl, True.intro⟩ eR
                       ·
                        replace h := ite_f hg35 h
                        refine aP 48 562949953421311 rfl rfl (GY_yes rfl rfl rfl hg35B) (P_move rfl) rfl ?_
                        obtain ⟨r158, hr159, h⟩ := bind_e h
                        refine AJ_op 49 1125899906842623 rfl (by kernel_rfl) rfl (GY_yes rfl rfl rfl hg35B) <| O_call (L_mirror_Mirror_Accept hr159) rfl Try.call18 (Dels.cons del0 (Dels.cons del0 Dels.nil)) rfl fun _ _ => ⟨fun _ => (t2_ (t2_ (t2_ (t2_ Ent.done)))), ?_⟩
                        refine aP 50 2251799813685247 rfl rfl (GY_yes rfl rfl rfl hg35B) (P_eql (a := r158.1) (b := (0 : Int)) rfl rfl) rfl <| aP 51 4503599627370495 rfl rfl (GY_yes rfl rfl rfl hg35B) (P_move rfl) rfl <| AJ_splitP 246 rfl bT_dec (fun hg36B hg36 => ?_) (fun hg36B hg36 => ?_)
                        ·
                         replace h := ite_t hg36 h
                         exact aP 52 9007199254740991 rfl rfl (GY_yes rfl rfl rfl hg36B) (P_fieldAddr rfl ⟨_, _, _, Try.runUnderlying26, rfl, rfl, Try.sizeOf3, rfl⟩) rfl <| aV 53 18014398509481983 rfl rfl (GY_yes rfl rfl rfl hg36B) (t2_ (t2_ (t2_ (t2_ Ent.done)))) (V_load rfl foc2 rfl Try.isAgg3) rfl <| aP 54 36028797018963967 rfl rfl (GY_yes rfl rfl rfl hg36B) (P_gtr (a := ((r4.2.2.1 : Nat) : Int)) (b := (1 : Int)) rfl rfl) rfl <| aP 55 72057594037927935 rfl rfl (GY_yes rfl rfl rfl hg35B) (P_pickT rfl hg36B rfl) rfl <| aN 56 144115188075855871 rfl rfl (P_pickF rfl hg35B rfl) rfl <| AJ_done (by kernel_rfl) <| cR ((decide ((1 : Int) < ((r4.2.2.1 : Nat) : Int))), r158.2.1, r158.2.2) (Option.some.inj h).symm ⟨rfl, True.intro⟩ eR
                        ·
                         replace h := ite_f hg36 h
                         exact aS 52 9007199254740991 rfl rfl (GY_no rfl rfl rfl hg36B) rfl <| aS 53 18014398509481983 rfl rfl (GY_no rfl rfl rfl hg36B) rfl <| aS 54 36028797018963967 rfl rfl (GY_no rfl rfl rfl hg36B) rfl <| aP 55 72057594037927935 rfl rfl (GY_yes rfl rfl rfl hg35B) (P_pickF rfl hg36B rfl) rfl <| aN 56 144115188075855871 rfl rfl (P_pickF rfl hg35B rfl) rfl <| AJ_done (by kernel_rfl) <| cR (false, r158.2.1, r158.2.2) (Option.some.inj h).symm ⟨rfl, True.intro⟩ eR
                 ·
                  replace h := ite_f hg28 h
                  refine aS 14 32767 rfl rfl (GY_no rfl rfl rfl hg28B) rfl <| aS 15 65535 rfl rfl (GY_no rfl rfl rfl hg28B) rfl <| aS 16 131071 rfl rfl (GY_no rfl rfl rfl hg28B) rfl <| aS 17 262143 rfl rfl (GY_no rfl rfl rfl hg28B) rfl <| aP 18 524287 rfl rfl (GY_yes rfl rfl rfl hg27B) (P_pickF rfl hg28B rfl) rfl <| aN 19 1048575 rfl rfl (P_pickF rfl hg27B rfl) rfl <| aN 20 2097151 rfl rfl (P_move rfl) rfl <| aP 21 4194303 rfl rfl (GY_yes rfl rfl rfl rfl) (P_move rfl) rfl <| aP 22 8388607 rfl rfl (GY_yes rfl rfl rfl rfl) (P_neq (a := r137.2.1) (b := (1 : Int)) rfl rfl) rfl <| aN 23 16777215 rfl rfl (P_pickF rfl rfl rfl) rfl <| aN 24 33554431 rfl rfl (P_move rfl) rfl <| AJ_splitP 219 rfl bT_dec (fun hg37B hg37 => ?_) (fun hg37B hg37 => ?_)
                  ·
                   replace h := ite_t hg37 h
                   refine aS 25 67108863 rfl rfl (GY_no rfl rfl rfl hg37B) rfl <| aS 26 134217727 rfl rfl (GY_no rfl rfl rfl hg37B) rfl <| aN 27 268435455 rfl rfl (P_pickT rfl hg37B rfl) rfl <| aN 28 536870911 rfl rfl (P_move rfl) rfl <| aS 29 1073741823 rfl rfl (GY_no rfl rfl rfl rfl) rfl <| aS 30 2147483647 rfl rfl (GY_no rfl rfl rfl rfl) rfl <| aS 31 4294967295 rfl rfl (GY_no rfl rfl rfl rfl) rfl <| aS 32 8589934591 rfl rfl (GY_no rfl rfl rfl rfl) rfl <| aS 33 17179869183 rfl rfl (GY_no rfl rfl rfl rfl) rfl <| aS 34 34359738367 rfl rfl (GY_no rfl rfl rfl rfl) rfl <| aS 35 68719476735 rfl rfl (GY_no rfl rfl rfl rfl) rfl <| aN 36 137438953471 rfl rfl (P_pickT rfl rfl rfl) rfl <| aN 37 274877906943 rfl rfl (P_move rfl) rfl <| aS 38 549755813887 rfl rfl (GY_no rfl rfl rfl rfl) rfl <| aS 39 1099511627775 rfl rfl (GY_no rfl rfl rfl rfl) rfl <| aS 40 2199023255551 rfl rfl (GY_no rfl rfl rfl rfl) rfl <| aN 41 4398046511103 rfl rfl (P_pickT rfl rfl rfl) rfl <| aN 42 8796093022207 rfl rfl (P_move rfl) rfl <| aS 43 17592186044415 rfl rfl (GY_no rfl rfl rfl rfl) rfl <| aS 44 35184372088831 rfl rfl (GY_no rfl rfl rfl rfl) rfl <| aS 45 70368744177663 rfl rfl (GY_no rfl rfl rfl rfl) rfl <| aN 46 140737488355327 rfl rfl (P_pickT rfl rfl rfl) rfl <| aN 47 281474976710655 rfl rfl (P_move rfl) rfl <| aS 48 562949953421311 rfl rfl (GY_no rfl rfl rfl rfl) rfl <| aS 49 1125899906842623 rfl rfl (GY_no rfl rfl rfl rfl) rfl <| aS 50 2251799813685247 rfl rfl (GY_no rfl rfl rfl rfl) rfl ?_
                   exact aS 51 4503599627370495 rfl rfl (GY_no rfl rfl rfl rfl) rfl <| aS 52 9007199254740991 rfl rfl (GY_undef rfl rfl rfl) rfl <| aS 53 18014398509481983 rfl rfl (GY_undef rfl rfl rfl) rfl <| aS 54 36028797018963967 rfl rfl (GY_undef rfl rfl rfl) rfl <| aS 55 72057594037927935 rfl rfl (GY_no rfl rfl rfl rfl) rfl <| aN 56 144115188075855871 rfl rfl (P_pickT rfl rfl rfl) rfl <| AJ_done (by kernel_rfl) <| cR (true, r141.2.2.1, r141.2.2.2) (Option.some.inj h).symm ⟨rfl, True.intro⟩ eR
                  ·
                   replace h := ite_f hg37 h
                   refine aP 25 67108863 rfl rfl (GY_yes rfl rfl rfl hg37B) (P_move rfl) rfl <| aP 26 134217727 rfl rfl (GY_yes rfl rfl rfl hg37B) (P_neq (a := r139.2.1) (b := (1 : Int)) rfl rfl) rfl <| aN 27 268435455 rfl rfl (P_pickF rfl hg37B rfl) rfl <| aN 28 536870911 rfl rfl (P_move rfl) rfl <| AJ_splitP 223 rfl bT_dec (fun hg38B hg38 => ?_) (fun hg38B hg38 => ?_)
                   ·
                    replace h := ite_t hg38 h
                    refine aS 29 1073741823 rfl rfl (GY_no rfl rfl rfl hg38B) rfl <| aS 30 2147483647 rfl rfl (GY_no rfl rfl rfl hg38B) rfl <| aS 31 4294967295 rfl rfl (GY_no rfl rfl rfl hg38B) rfl <| aS 32 8589934591 rfl rfl (GY_no rfl rfl rfl hg38B) rfl <| aS 33 17179869183 rfl rfl (GY_no rfl rfl rfl hg38B) rfl <| aS 34 34359738367 rfl rfl (GY_no rfl rfl rfl hg38B) rfl <| aS 35 68719476735 rfl rfl (GY_no rfl rfl rfl hg38B) rfl <| aN 36 137438953471 rfl rfl (P_pickT rfl hg38B rfl) rfl <| aN 37 274877906943 rfl rfl (P_move rfl) rfl <| aS 38 549755813887 rfl rfl (GY_no rfl rfl rfl rfl) rfl <| aS 39 1099511627775 rfl rfl (GY_no rfl rfl rfl rfl) rfl <| aS 40 2199023255551 rfl rfl (GY_no rfl rfl rfl rfl) rfl <| aN 41 4398046511103 rfl rfl (P_pickT rfl rfl rfl) rfl <| aN 42 8796093022207 rfl rfl (P_move rfl) rfl <| aS 43 17592186044415 rfl rfl (GY_no rfl rfl rfl rfl) rfl <| aS 44 35184372088831 rfl rfl (GY_no rfl rfl rfl rfl) rfl <| aS 45 70368744177663 rfl rfl (GY_no rfl rfl rfl rfl) rfl <| aN 46 140737488355327 rfl rfl (P_pickT rfl rfl rfl) rfl <| aN 47 281474976710655 rfl rfl (P_move rfl) rfl <| aS 48 562949953421311 rfl rfl (GY_no rfl rfl rfl rfl) rfl <| aS 49 1125899906842623 rfl rfl (GY_no rfl rfl rfl rfl) rfl <| aS 50 2251799813685247 rfl rfl (GY_no rfl rfl rfl rfl) rfl <| aS 51 4503599627370495 rfl rfl (GY_no rfl rfl rfl rfl) rfl <| aS 52 9007199254740991 rfl rfl (GY_undef rfl rfl rfl) rfl <| aS 53 18014398509481983 rfl rfl (GY_undef rfl rfl rfl) rfl ?_
                    exact aS 54 36028797018963967 rfl rfl (GY_undef rfl rfl rfl) rfl <| aS 55 72057594037927935 rfl rfl (GY_no rfl rfl rfl rfl) rfl <| aN 56 144115188075855871 rfl rfl (P_pickT rfl rfl rfl) rfl <| AJ_done (by kernel_rfl) <| cR (true, r141.2.2.1, r141.2.2.2) (Option.some.inj h).symm ⟨rfl, True.intro⟩ eR
                   ·
                    replace h := ite_f hg38 h
                    refine aP 29 1073741823 rfl rfl (GY_yes rfl rfl rfl hg38B) (P_move rfl) rfl <| aP 30 2147483647 rfl rfl (GY_yes rfl rfl rfl hg38B) (P_eql (a := r141.2.1) (b := (20 : Int)) rfl rfl) rfl <| aP 31 4294967295 rfl rfl (GY_yes rfl rfl rfl hg38B) (P_move rfl) rfl ?_
                    obtain ⟨hg39, h⟩ := grd_de h
                    refine aV 32 8589934591 rfl rfl (GY_yes rfl rfl rfl hg38B) (t2_ (t2_ (t2_ (t2_ Ent.done)))) (V_index (i := 0) rfl rfl rfl hg39 foc1 (Reads.sl _ _ _) Try.runUnderlying31 Try.sizeOf4) rfl <| aV 33 17179869183 rfl rfl (GY_yes rfl rfl rfl hg38B) (t2_ (t2_ (t2_ (t2_ Ent.done)))) (V_loadE rfl rfl hg39 foc1 (Reads.sl _ _ _) rfl rfl Try.isAgg4) rfl <| aP 34 34359738367 rfl rfl (GY_yes rfl rfl rfl hg38B) (P_not rfl) rfl <| aP 35 68719476735 rfl rfl (GY_yes rfl rfl rfl hg38B) (P_neqB rfl rfl Try.underlying4) rfl <| aN 36 137438953471 rfl rfl (P_pickF rfl hg38B rfl) rfl <| aN 37 274877906943 rfl rfl (P_move rfl) rfl <| AJ_splitP 232 rfl (bT_not (bT_beq bT_dec (bT_not Iff.rfl))) (fun hg40B hg40 => ?_) (fun hg40B hg40 => ?_)
                    ·
                     replace h := ite_t hg40 h
                     exact aS 38 549755813887 rfl rfl (GY_no rfl rfl rfl hg40B) rfl <| aS 39 1099511627775 rfl rfl (GY_no rfl rfl rfl hg40B) rfl <| aS 40 2199023255551 rfl rfl (GY_no rfl rfl rfl hg40B) rfl <| aN 41 4398046511103 rfl rfl (P_pickT rfl hg40B rfl) rfl <| aN 42 8796093022207 rfl rfl (P_move rfl) rfl <| aS 43 17592186044415 rfl rfl (GY_no rfl rfl rfl rfl) rfl <| aS 44 35184372088831 rfl rfl (GY_no rfl rfl rfl rfl) rfl <| aS 45 70368744177663 rfl rfl (GY_no rfl rfl rfl rfl) rfl <| aN 46 140737488355327 rfl rfl (P_pickT rfl rfl rfl) rfl <| aN 47 281474976710655 rfl rfl (P_move rfl) rfl <| aS 48 562949953421311 rfl rfl (GY_no rfl rfl rfl rfl) rfl <| aS 49 1125899906842623 rfl rfl (GY_no rfl rfl rfl rfl) rfl <| aS 50 2251799813685247 rfl rfl (GY_no rfl rfl rfl rfl) rfl <| aS 51 4503599627370495 rfl rfl (GY_no rfl rfl rfl rfl) rfl <| aS 52 9007199254740991 rfl rfl (GY_undef rfl rfl rfl) rfl <| aS 53 18014398509481983 rfl rfl (GY_undef rfl rfl rfl) rfl <| aS 54 36028797018963967 rfl rfl (GY_undef rfl rfl rfl) rfl <| aS 55 72057594037927935 rfl rfl (GY_no rfl rfl rfl rfl) rfl <| aN 56 144115188075855871 rfl rfl (P_pickT rfl rfl rfl) rfl <| AJ_done (by kernel_rfl) <| cR (true, r141.2.2.1, r141.2.2.2) (Option.some.inj h).symm ⟨rfl, True.intro⟩ eR
                    ·
                     replace h := ite_f hg40 h
                     refine aP 38 549755813887 rfl rfl (GY_yes rfl rfl rfl hg40B) (P_move rfl) rfl ?_
                     obtain ⟨r160, hr161, h⟩ := bind_e h
                     refine AJ_op 39 1099511627775 rfl (by kernel_rfl) rfl (GY_yes rfl rfl rfl hg40B) <| O_call (L_mirror_Mirror_Drop hr161) rfl Try.call17 (Dels.cons del0 (Dels.cons del0 Dels.nil)) rfl fun _ _ => ⟨fun _ => (t2_ (t2_ (t2_ (t2_ Ent.done)))), ?_⟩
                     refine aP 40 2199023255551 rfl rfl (GY_yes rfl rfl rfl hg40B) (P_neq (a := r160.1) (b := (1 : Int)) rfl rfl) rfl <| aN 41 4398046511103 rfl rfl (P_pickF rfl hg40B rfl) rfl <| aN 42 8796093022207 rfl rfl (P_move rfl) rfl <| AJ_splitP 237 rfl bT_dec (fun hg41B hg41 => ?_) (fun hg41B hg41 => ?_)
                     ·
                      replace h := ite_t hg41 h
                      exact aS 43 17592186044415 rfl rfl (GY_no rfl rfl rfl hg41B) rfl <| aS 44 35184372088831 rfl rfl (GY_no rfl rfl rfl hg41B) rfl <| aS 45 70368744177663 rfl rfl (GY_no rfl rfl rfl hg41B) rfl <| aN 46 140737488355327 rfl rfl (P_pickT rfl hg41B rfl) rfl <| aN 47 281474976710655 rfl rfl (P_move rfl) rfl <| aS 48 562949953421311 rfl rfl (GY_no rfl rfl rfl rfl) rfl <| aS 49 1125899906842623 rfl rfl (GY_no rfl rfl rfl rfl) rfl <| aS 50 2251799813685247 rfl rfl (GY_no rfl rfl rfl rfl) rfl <| aS 51 4503599627370495 rfl rfl (GY_no rfl rfl rfl rfl) rfl <| aS 52 9007199254740991 rfl rfl (GY_undef rfl rfl rfl) rfl <| aS 53 18014398509481983 rfl rfl (GY_undef rfl rfl rfl) rfl <| aS 54 36028797018963967 rfl rfl (GY_undef rfl rfl rfl) rfl <| aS 55 72057594037927935 rfl rfl (GY_no rfl rfl rfl rfl) rfl <| aN 56 144115188075855871 rfl rfl (P_pickT rfl rfl rfl) rfl <| AJ_done (by kernel_rfl) <| cR (true, r160.2, r141.2.2.2) (Option.some.inj h).symm ⟨rfl, True.intro⟩ eR
                     ·
                      replace h := ite_f hg41 h
                      refine aP 43 17592186044415 rfl rfl (GY_yes rfl rfl rfl hg41B) (P_move rfl) rfl ?_
                      obtain ⟨r162, hr163, h⟩ := bind_e h
                      refine AJ_op 44 35184372088831 rfl (by kernel_rfl) rfl (GY_yes rfl rfl rfl hg41B) <| O_call (L_mirror_Mirror_Accept hr163) rfl Try.call18 (Dels.cons del0 (Dels.cons del0 Dels.nil)) rfl fun _ _ => ⟨fun _ => (t2_ (t2_ (t2_ (t2_ Ent.done)))), ?_⟩
                      refine aP 45 70368744177663 rfl rfl (GY_yes rfl rfl rfl hg41B) (P_neq (a := r162.1) (b := (1 : Int)) rfl rfl) rfl <| aN 46 140737488355327 rfl rfl (P_pickF rfl hg41B rfl) rfl <| aN 47 281474976710655 rfl rfl (P_move rfl) rfl <| AJ_splitP 242 rfl bT_dec (fun hg42B hg42 => ?_) (fun hg42B hg42 => ?_)
                      ·
                       replace h := ite_t hg42 h
                       exact aS 48 562949953421311 rfl rfl (GY_no rfl rfl rfl hg42B) rfl <| aS 49 1125899906842623 rfl rfl (GY_no rfl rfl rfl hg42B) rfl <| aS 50 2251799813685247 rfl rfl (GY_no rfl rfl rfl hg42B) rfl <| aS 51 4503599627370495 rfl rfl (GY_no rfl rfl rfl hg42B) rfl <| aS 52 9007199254740991 rfl rfl (GY_undef rfl rfl rfl) rfl <| aS 53 18014398509481983 rfl rfl (GY_undef rfl rfl rfl) rfl <| aS 54 36028797018963967 rfl rfl (GY_undef rfl rfl rfl) rfl <| aS 55 72057594037927935 rfl rfl (GY_no rfl rfl rfl hg42B) rfl <| aN 56 144115188075855871 rfl rfl (P_pickT rfl hg42B rfl) rfl <| AJ_done (by kernel_rfl) <| cR (true, r162.2.1, r162.2.2) (Option.some.inj h).symm ⟨rfl, True.intro⟩ eR
                      ·
                       replace h := ite_f hg42 h
                       refine aP 48 562949953421311 rfl rfl (GY_yes rfl rfl rfl hg42B) (P_move rfl) rfl ?_
                       obtain ⟨r164, hr165, h⟩ := bind_e h
                       refine AJ_op 49 1125899906842623 rfl (by kernel_rfl) rfl (GY_yes rfl rfl rfl hg42B) <| O_call (L_mirror_Mirror_Accept hr165) rfl Try.call18 (Dels.cons del0 (Dels.cons del0 Dels.nil)) rfl fun _ _ => ⟨fun _ => (t2_ (t2_ (t2_ (t2_ Ent.done)))), ?_⟩
                       refine aP 50 2251799813685247 rfl rfl (GY_yes rfl rfl rfl hg42B) (P_eql (a := r164.1) (b := (0 : Int)) rfl rfl) rfl <| aP 51 4503599627370495 rfl rfl (GY_yes rfl rfl rfl hg42B) (P_move rfl) rfl <| AJ_splitP 246 rfl bT_dec (fun hg43B hg43 => ?_) (fun hg43B hg43 => ?_)
                       ·
                        replace h := ite_t hg43 h
                        exact aP 52 9007199254740991 rfl rfl (GY_yes rfl rfl rfl hg43B) (P_fieldAddr rfl ⟨_, _, _, Try.runUnderlying26, rfl, rfl, Try.sizeOf3, rfl⟩) rfl <| aV 53 18014398509481983 rfl rfl (GY_yes rfl rfl rfl hg43B) (t2_ (t2_ (t2_ (t2_ Ent.done)))) (V_load rfl foc2 rfl Try.isAgg3) rfl <| aP 54 36028797018963967 rfl rfl (GY_yes rfl rfl rfl hg43B) (P_gtr (a := ((r4.2.2.1 : Nat) : Int)) (b := (1 : Int)) rfl rfl) rfl <| aP 55 72057594037927935 rfl rfl (GY_yes rfl rfl rfl hg42B) (P_pickT rfl hg43B rfl) rfl <| aN 56 144115188075855871 rfl rfl (P_pickF rfl hg42B rfl) rfl <| AJ_done (by kernel_rfl) <| cR ((decide ((1 : Int) < ((r4.2.2.1 : Nat) : Int))), r164.2.1, r164.2.2) (Option.some.inj h).symm ⟨rfl, True.intro⟩ eR
                       ·
                        replace h := ite_f hg43 h
                        exact aS 52 9007199254740991 rfl rfl (GY_no rfl rfl rfl hg43B) rfl <| aS 53 18014398509481983 rfl rfl (GY_no rfl rfl rfl hg43B) rfl <| aS 54 36028797018963967 rfl rfl (GY_no rfl rfl rfl hg43B) rfl <| aP 55 72057594037927935 rfl rfl (GY_yes rfl rfl rfl hg42B) (P_pickF rfl hg43B rfl) rfl <| aN 56 144115188075855871 rfl rfl (P_pickF rfl hg42B rfl) rfl <| AJ_done (by kernel_rfl) <| cR (false, r164.2.1, r164.2.2) (Option.some.inj h).symm ⟨rfl, True.intro⟩ eR
              ·
               rintro a149 hy166
               replace h := bindK_at hK144 hy166
               show CJ _ _ _ _ _ (([(251, .bool a149.1)] : Slots) ++ forget _ _) (MirP X6.1 X95 a149.2.1 :: Arr X6.1 a149.2.2 :: _)
               refine CJ_condP rfl Iff.rfl (fun hg44 => ?_) (fun hg44 => ?_)
               ·
                replace h := ite_t hg44 h
                refine sR <| oA rfl rfl <| nT <| CJ_ret <| QJ_then_ret ?_
                cases h
                exact fE (res1 Try.results3 rfl) () (t2_ (eD (eD (eD (eD (eD eR))))))
               ·
                replace h := ite_f hg44 h
                refine kT <| CJ_seq <| sR <| oA rfl rfl <| nT ?_
                obtain ⟨y169, hl167, hK168⟩ := seq_e h
                refine CJ_cutT (X := MirS × (List Bool)) [8, 30, 31, 32, 33, 252, 253, 254, 255, 256, 257, 258, 259, 260, 261, 262, 263, 264, 265, 266, 267, 268, 269, 270, 271, 272, 273, 274, 275, 276, 277, 278, 279, 280, 281, 282, 283, 284, 285, 286, 287, 288, 289, 290, 291, 292, 293, 294, 295, 296, 297, 298, 299, 300, 301, 302] (fun a172 => ([] : Slots)) (fun a172 R => MirP X6.1 X95 a172.1 :: sl tyB (.slice (some ⟨b22, 0, none⟩) (r4.2.1 + 1) (r4.2.1 + 1)) a172.2 :: R) (fun a172 => y169 = .inl a172) (Dels.cons del0 (Dels.cons del2 Dels.nil)) ?_ ?_
                ·
                 refine CJ_block <| CJ_loopR (X := Nat × MirS × (List Bool) × Nat) [8, 30, 31, 32, 33, 252, 253, 254, 255, 256, 257, 258, 259, 260, 261, 262, 263, 264, 265, 266, 267, 268, 269, 270, 271, 272, 273, 274, 275, 276, 277, 278, 279, 280, 281, 282, 283, 284, 285, 286, 287, 288, 289, 290, 291, 292, 293, 294, 295, 296, 297, 298, 299, 300, 301, 302] (fun ⟨n, x173, x174, x175⟩ => ([(30, .int .i64 (((x175 : Nat) : Int)))] : Slots)) (fun ⟨n, x173, x174, x175⟩ R => MirP X6.1 X95 x173 :: sl tyB (.slice (some ⟨b22, 0, none⟩) (r4.2.1 + 1) (r4.2.1 + 1)) x174 :: R) (fun ⟨n, x173, x174, x175⟩ => volumegrouplaw21_MirrorErrors_l10 r4 a149 n x173 x174 x175 = some y169) (fun ⟨n, x173, x174, x175⟩ => n) ⟨FUEL, a149.2.1, a28.2, 0⟩ ?_ ?_ (t0_ (t2_ eR)) ?_
                 · exact hl167
                 · exact ⟨rfl, True.intro⟩
                 ·
                  rintro ⟨n, x173, x174, x175⟩ h
                  cases n with
                  | zero => exact none_e h
                  | succ n => ?_
                  replace h : volumegrouplaw21_MirrorErrors_l10_b r4 a149 (volumegrouplaw21_MirrorErrors_l10 r4 a149 n) x173 x174 x175 = some y169 := h
                  unfold volumegrouplaw21_MirrorErrors_l10_b at h
                  show CJ _ _ _ _ _ (([(30, .int .i64 (((x175 : Nat) : Int)))] : Slots) ++ forget _ _) (MirP X6.1 X95 x173 :: sl tyB (.slice (some ⟨b22, 0, none⟩) (r4.2.1 + 1) (r4.2.1 + 1)) x174 :: _)
                  refine lC del1 fun hlen176 => CJ_seq <| sR <| oM rfl rfl <| oP (P_fieldAddr rfl ⟨_, _, _, Try.runUnderlying26, rfl, rfl, Try.sizeOf3, rfl⟩) rfl <| oV (V_load rfl foc4 rfl Try.isAgg3) rfl <| oP (P_lss (a := ((x175 : Nat) : Int)) (b := ((r4.2.1 : Nat) : Int)) rfl rfl) rfl <| nT <| CJ_condP rfl bT_dec (fun hg45 => ?_) (fun hg45 => ?_)
                  ·
                   replace h := ite_t hg45 h
                   refine kT <| CJ_seq <| CJ_block <| sR <| oA rfl rfl <| nT <| CJ_seq <| sR <| oA rfl rfl <| nT ?_
                   obtain ⟨y179, hl177, hK178⟩ := bind_c h
                   refine CJ_cutT (X := Bool) [31, 32, 258, 259, 260, 261, 262, 263, 264, 265, 266, 267, 268, 269, 270, 271, 272, 273, 274, 275, 276] (fun a181 => ([(31, .bool a181)] : Slots)) (fun a181 R => R) (fun a181 => y179 = a181) Dels.nil ?_ ?_
                   ·
                    refine CJ_block <| CJ_loopR (X := Nat × Bool × Nat) [31, 32, 258, 259, 260, 261, 262, 263, 264, 265, 266, 267, 268, 269, 270, 271, 272, 273, 274, 275, 276] (fun ⟨n, x182, x183⟩ => ([(31, .bool x182), (32, .int .i64 (((x183 : Nat) : Int)))] : Slots)) (fun ⟨n, x182, x183⟩ R => R) (fun ⟨n, x182, x183⟩ => volumegrouplaw21_MirrorErrors_l11 r4 x174 x175 n x182 x183 = some y179) (fun ⟨n, x182, x183⟩ => n) ⟨FUEL, false, 0⟩ ?_ ?_ eR ?_
                    · exact hl177
                    · exact ⟨rfl, rfl, True.intro⟩
                    ·
                     rintro ⟨n, x182, x183⟩ h
                     cases n with
                     | zero => exact none_e h
                     | succ n => ?_
                     replace h : volumegrouplaw21_MirrorErrors_l11_b r4 x174 x175 (volumegrouplaw21_MirrorErrors_l11 r4 x174 x175 n) x182 x183 = some y179 := h
                     unfold volumegrouplaw21_MirrorErrors_l11_b at h
                     show CJ _ _ _ _ _ (([(31, .bool x182), (32, .int .i64 (((x183 : Nat) : Int)))] : Slots) ++ forget _ _) (_)
                     refine CJ_seq <| sR <| oM rfl rfl <| oP (P_fieldAddr rfl ⟨_, _, _, Try.runUnderlying26, rfl, rfl, Try.sizeOf3, rfl⟩) rfl <| oV (V_load rfl foc4 rfl Try.isAgg3) rfl <| oP (P_lss (a := ((x183 : Nat) : Int)) (b := ((r4.2.1 : Nat) : Int)) rfl rfl) rfl <| nT <| CJ_condP rfl bT_dec (fun hg46 => ?_) (fun hg46 => ?_)
                     ·
                      replace h := ite_t hg46 h
                      refine kT <| CJ_seq <| CJ_block <| CJ_region <| oM rfl rfl <| oM rfl rfl <| RJ_mbF rfl rfl rfl (fun hG184 => have hP185 : ¬ x182 = true := nP (Iff.rfl) hG184; VJ_P (P_move rfl)) <| RJ_mbF rfl rfl rfl (fun hG186 => have hP187 : ¬ x182 = true := nP (Iff.rfl) hG186; VJ_P (P_move rfl)) <| RJ_mbF rfl rfl rfl (fun hG188 => have hP189 : ¬ x182 = true := nP (Iff.rfl) hG188; VJ_P (P_neq (a := ((x183 : Nat) : Int)) (b := ((x175 : Nat) : Int)) (mbx hG188 rfl) (mbx hG188 rfl))) <| RJ_mbF rfl rfl rfl (fun hG190 => have hP191 : ¬ x182 = true := nP (Iff.rfl) hG190; VJ_P (P_move (mbx hG190 rfl))) <| RJ_mbGT rfl rfl rfl (fun hG192 => have hP193 : ¬ x182 = true := nP (Iff.rfl) (and_l hG192); have hP194 : (((x183 : Nat) : Int) ≠ ((x175 : Nat) : Int)) := (bT_dec).1 (and_r hG192); VJ_P (P_move rfl)) <| RJ_mbGT rfl rfl rfl (fun hG195 => have hP196 : ¬ x182 = true := nP (Iff.rfl) (and_l hG195); have hP197 : (((x183 : Nat) : Int) ≠ ((x175 : Nat) : Int)) := (bT_dec).1 (and_r hG195); VJ_P (P_move rfl)) ?_
                      obtain ⟨hg47, h⟩ := grd_de h
                      refine RJ_mbGT rfl rfl rfl (fun hG198 => have hP199 : ¬ x182 = true := nP (Iff.rfl) (and_l hG198); have hP200 : (((x183 : Nat) : Int) ≠ ((x175 : Nat) : Int)) := (bT_dec).1 (and_r hG198); V_index (i := x183) (mbx hG198 rfl) (mbx hG198 rfl) rfl (hg47 hP199 hP200) foc1 (Reads.sl _ _ _) Try.runUnderlying31 Try.sizeOf4) ?_
                      obtain ⟨hg48, h⟩ := grd_de h
                      refine RJ_mbGT rfl rfl rfl (fun hG201 => have hP202 : ¬ x182 = true := nP (Iff.rfl) (and_l hG201); have hP203 : (((x183 : Nat) : Int) ≠ ((x175 : Nat) : Int)) := (bT_dec).1 (and_r hG201); V_loadE (mbx hG201 rfl) rfl (hg48 hP202 hP203) foc1 (Reads.sl _ _ _) rfl rfl Try.isAgg4) <| RJ_mbGT rfl rfl rfl (fun hG204 => have hP205 : ¬ x182 = true := nP (Iff.rfl) (and_l hG204); have hP206 : (((x183 : Nat) : Int) ≠ ((x175 : Nat) : Int)) := (bT_dec).1 (and_r hG204); VJ_P (P_not (mbx hG204 rfl))) <| RJ_mbF rfl rfl rfl (fun hG207 => have hP208 : ¬ x182 = true := nP (Iff.rfl) hG207; VJ_P (P_pickAnd (mbx hG207 rfl) (fun hh => mbx (and_i hG207 hh) rfl) rfl)) <| oP (P_pickOr rfl rfl (fun hh => mbx (not_f hh) rfl)) rfl <| oA rfl rfl <| RJ_nil <| QJ_block_normal <| QJ_then <| CJ_region <| oM rfl rfl ?_
                      obtain ⟨hg49, h⟩ := grd_Ne h
                      exact oP (PJ_eq (P_add (a := ((x183 : Nat) : Int)) (b := (1 : Int)) rfl rfl (nat_in hg49)) rfl) rfl <| oA rfl rfl <| RJ_nil <| nR ⟨n, (x182 || ((decide (((x183 : Nat) : Int) ≠ ((x175 : Nat) : Int))) && (!(x174.getD x183 false)))), (x183 + 1)⟩ h ⟨rfl, rfl, True.intro⟩ eR
                     ·
                      replace h := ite_f hg46 h
                      exact CJ_exit <| QJ_then_exit <| QJ_round_exit <| QJ_block_here <| cR x182 (Option.some.inj h).symm ⟨rfl, True.intro⟩ eR
                   ·
                    rintro a181 hy209
                    replace h := bindK_at hK178 hy209
                    show CJ _ _ _ _ _ (([(31, .bool a181)] : Slots) ++ forget _ _) (_)
                    refine sR <| oM rfl rfl <| oM rfl rfl ?_
                    obtain ⟨r210, hr211, h⟩ := bind_e h
                    refine oO <| O_call (L_mirror_Mirror_Drop hr211) rfl Try.call17 (Dels.cons del0 (Dels.cons del1 Dels.nil)) rfl fun _ _ => oA rfl rfl <| nT <| CJ_seq <| sR <| oM rfl rfl <| oM rfl rfl <| RJ_mbT rfl rfl rfl (fun hG212 => have hP213 : a181 = true := (Iff.rfl).1 hG212; VJ_P (P_move rfl)) <| RJ_mbT rfl rfl rfl (fun hG214 => have hP215 : a181 = true := (Iff.rfl).1 hG214; VJ_P (P_neq (a := r210.1) (b := (0 : Int)) (mbx hG214 rfl) rfl)) <| oP (P_pickAnd rfl (fun hh => mbx hh rfl) rfl) rfl <| oM rfl rfl <| RJ_mbF rfl rfl rfl (fun hG216 => have hP217 : ¬ (a181 = true ∧ (r210.1 ≠ (0 : Int))) := nP ((bT_and Iff.rfl bT_dec)) hG216; VJ_P (P_move rfl)) <| RJ_mbF rfl rfl rfl (fun hG218 => have hP219 : ¬ (a181 = true ∧ (r210.1 ≠ (0 : Int))) := nP ((bT_and Iff.rfl bT_dec)) hG218; VJ_P (P_not (mbx hG218 rfl))) <| RJ_mbF rfl rfl rfl (fun hG220 => have hP221 : ¬ (a181 = true ∧ (r210.1 ≠ (0 : Int))) := nP ((bT_and Iff.rfl bT_dec)) hG220; VJ_P (P_move (mbx hG220 rfl))) <| RJ_mbGT rfl rfl rfl (fun hG222 => have hP223 : ¬ (a181 = true ∧ (r210.1 ≠ (0 : Int))) := nP ((bT_and Iff.rfl bT_dec)) (and_l hG222); have hP224 : (¬ a181 = true) := ((bT_not Iff.rfl)).1 (and_r hG222); VJ_P (P_move rfl)) <| RJ_mbGT rfl rfl rfl (fun hG225 => have hP226 : ¬ (a181 = true ∧ (r210.1 ≠ (0 : Int))) := nP ((bT_and Iff.rfl bT_dec)) (and_l hG225); have hP227 : (¬ a181 = true) := ((bT_not Iff.rfl)).1 (and_r hG225); VJ_P (P_neq (a := r210.1) (b := (19 : Int)) (mbx hG225 rfl) rfl)) ?_
                    refine RJ_mbF rfl rfl rfl (fun hG228 => have hP229 : ¬ (a181 = true ∧ (r210.1 ≠ (0 : Int))) := nP ((bT_and Iff.rfl bT_dec)) hG228; VJ_P (P_pickAnd (mbx hG228 rfl) (fun hh => mbx (and_i hG228 hh) rfl) rfl)) <| oP (P_pickOr rfl rfl (fun hh => mbx (not_f hh) rfl)) rfl <| nT <| CJ_condP rfl (bT_or (bT_and Iff.rfl bT_dec) (bT_and (bT_not Iff.rfl) bT_dec)) (fun hg50 => ?_) (fun hg50 => ?_)
                    ·
                     replace h := ite_t hg50 h
                     refine sR <| oA rfl rfl <| nT <| CJ_ret <| QJ_then_ret <| QJ_block_ret <| QJ_then_ret <| QJ_round_ret <| QJ_block_ret <| QJ_then_ret ?_
                     have hE := Option.some.inj h
                     replace hE := seq_inr hK168 hE.symm
                     subst hE
                     exact fE (res1 Try.results3 rfl) () (t3_ (eD (eD (eD (eD (eD eR))))))
                    ·
                     replace h := ite_f hg50 h
                     refine kT <| CJ_region <| oM rfl rfl <| oM rfl rfl <| oM rfl rfl <| oM rfl rfl ?_
                     obtain ⟨hg51, h⟩ := grd_de h
                     refine oV (V_index (i := x175) rfl rfl rfl hg51 foc2 (Reads.sl _ _ _) Try.runUnderlying31 Try.sizeOf4) rfl <| oV (V_loadE rfl rfl hg51 foc2 (Reads.sl _ _ _) rfl rfl Try.isAgg4) rfl <| oM rfl rfl <| RJ_mbF rfl rfl rfl (fun hG230 => have hP231 : ¬ (x174.getD x175 false) = true := nP (Iff.rfl) hG230; VJ_P (P_move rfl)) <| oP (P_pickOr rfl rfl (fun hh => mbx (not_f hh) rfl)) rfl ?_
                     obtain ⟨hg52, h⟩ := grd_de h
                     refine oV (V_index (i := x175) rfl rfl rfl hg52 foc2 (Reads.sl _ _ _) Try.runUnderlying31 Try.sizeOf4) rfl <| oO <| O_storeE (x' := ((x174.getD x175 false) || a181)) rfl rfl rfl hg52 foc2 rfl rfl rfl Try.sizeOf4 <| RJ_nil <| QJ_block_normal <| QJ_then <| CJ_region <| oM rfl rfl ?_
                     obtain ⟨hg53, h⟩ := grd_Ne h
                     exact oP (PJ_eq (P_add (a := ((x175 : Nat) : Int)) (b := (1 : Int)) rfl rfl (nat_in hg53)) rfl) rfl <| oA rfl rfl <| RJ_nil <| nR ⟨n, r210.2, (x174.set x175 (((x174.getD x175 false) || a181))), (x175 + 1)⟩ h ⟨rfl, True.intro⟩ (t0_ (t1_ eR))
                  ·
                   replace h := ite_f hg45 h
                   exact CJ_exit <| QJ_then_exit <| QJ_round_exit <| QJ_block_here <| cR (x173, x174) (Option.some.inj h).symm True.intro eR
                ·
                 rintro a172 hy232
                 replace h := seq_inl hK168 hy232
                 show CJ _ _ _ _ _ (([] : Slots) ++ forget _ _) (MirP X6.1 X95 a172.1 :: sl tyB (.slice (some ⟨b22, 0, none⟩) (r4.2.1 + 1) (r4.2.1 + 1)) a172.2 :: _)
                 refine lC del1 fun hlen233 => sR ?_
                 obtain ⟨r234, hr235, h⟩ := bind_e h
                 refine oO <| O_call (L_volumegrouplaw21_awake hr235) rfl Try.call4 Dels.nil rfl fun _ _ => oA rfl rfl <| nT <| CJ_ret ?_
                 cases h
                 exact fE (res1 Try.results3 rfl) () (t3_ (eD (eD (eD (eD (eD eR))))))
end Go.Proofs
namespace Go.Proofs
open Go.VG
theorem dropOk_of {L : Nat} (hL : 0 < L ∧ L ≤ 6) {F : (Bool × MirS × ArrS) → Nat → MirS → List Bool → Nat → Option ((MirS × List Bool) ⊕ Bool)} {oth : List Bool → Nat → Nat → Bool → Nat → Option Bool} (hf : ∀ r n x g k, F r (n + 1) x g k = drpB L oth r.2.2 (F r n) x g k) (ho : ∀ g k n b j, oth g k (n + 1) b j = othB L g k (oth g k n) b j) : DropOk L (fun r m g k => F r FUEL m g k) := fun r m g h => by
  have hF := fuel_big
  exact drop_rule hL (hf r) ho FUEL 0 m g (by omega) (by omega) h
theorem refWordsE {r : Int} : volumegroupref20_Words r = some (if r < 1 ∨ 1048576 < r then 0 else 1 + (r + 63) / 64) := by unfold volumegroupref20_Words; split <;> rfl
theorem want_1 {region : Int} : ((if ((region < (1 : Int)) ∨ ((65536 : Int) < region)) then some 1 else some 0 : Option Nat)) = some (if ((region < (1 : Int)) ∨ ((65536 : Int) < region)) then 1 else 0) := by split <;> rfl
theorem regions_lt {sz : Nat} {region : Int} (h : region < 1) : mirror_Regions (sz : Int) region = some 0 ∧ volumegroupref21_Regions (sz : Int) region = some 0 := by
  unfold mirror_Regions volumegroupref21_Regions
  exact ⟨if_pos (.inr h), if_pos (.inr h)⟩
theorem regions_some {sz : Nat} (hs : 1 ≤ sz ∧ sz ≤ 12) {region : Int} : ∃ R : Int, volumegroupref21_Regions (sz : Int) region = some R := by
  by_cases h : region < 1
  · exact ⟨0, (regions_lt h).2⟩
  · unfold volumegroupref21_Regions
    have h1 : 0 ≤ ((sz : Int) - 1).tdiv region := Int.tdiv_nonneg (by omega) (by omega)
    have h2 : ((sz : Int) - 1).tdiv region ≤ (sz : Int) - 1 := Int.tdiv_le_self _ (by omega)
    rw [if_neg (by omega), grd_t (inI64_of (by omega)), wrap64_in (by omega) (by omega), grd_t (inI64_of (by omega))]
    exact ⟨_, rfl⟩
def CE (n : UInt8) (rg : Nat) (h : 1 ≤ rg ∧ rg ≤ 65536) : MC := { CM n with rg := rg, hr := h }
theorem mirrorErrors (n : UInt8) (st : List Int) (region at_ : Int) : volumegrouplaw21_MirrorErrors n st region at_ = some true := by
  unfold volumegrouplaw21_MirrorErrors
  by_cases h6 : (6 : Int) < ((st.length : Nat) : Int)
  · rw [if_pos h6, awake21]; rfl
  rw [if_neg h6]
  have hF := fuel_big
  have hL := (CM n).hL
  have hs := (CM n).hs
  have hsl : st.length ≤ 1000000 := by omega
  obtain ⟨a, hb, h0⟩ := begun_eq n
  rw [hb]; simp only [Option.bind_some, Option.elim_some]
  rw [want_1]; simp only [Option.bind_some]
  rw [grd_t (inN64_of (by omega)), grd_t (inLen_of (by omega))]
  obtain ⟨p', g', e1, e2, e3, e4⟩ := stl_rule (L := (CM n).L) (st := st) (f := volumegrouplaw21_MirrorErrors_l2 st (some a, (CM n).L, (CM n).sz, (CM n).rg, (CM n).lg, wordsL (CM n).sz 5)) (fun _ _ _ _ => rfl) FUEL 0 (if ((region < (1 : Int)) ∨ ((65536 : Int) < region)) then 1 else 0) (List.replicate ((CM n).L + 1) false) (by omega) (by omega) (by simp)
  rw [e1]; simp only [Option.bind_some]
  obtain ⟨b, f1, f2⟩ := allS_rule (L := (CM n).L) (g := g') (f := volumegrouplaw21_MirrorErrors_l3 (some a, (CM n).L, (CM n).sz, (CM n).rg, (CM n).lg, wordsL (CM n).sz 5) (p', g')) (fun _ _ _ => rfl) e2 (by omega) FUEL 0 true (by omega) (by omega)
  rw [f1]; simp only [Option.bind_some]
  obtain ⟨R, hR⟩ := regions_some hs (region := region)
  have hR2 : mirror_Regions ((CM n).sz : Int) region = some R := hR
  rw [hR]
  have hgs : ∀ r : Nat, r ≤ (CM n).L → (g'.getD r false = true ↔ (r : Int) ∈ st) := fun r hr => by
    rw [e4 r hr]
    have : (List.replicate ((CM n).L + 1) false).getD r false = false := by simp [List.getD, List.getElem?_replicate]; split <;> rfl
    rw [this]
    constructor
    · rintro (z | ⟨q, -, q1, q2⟩)
      · cases z
      · rw [← q2]; simp [List.getD, q1]
    · intro z
      obtain ⟨q, q1, q2⟩ := List.mem_iff_getElem.1 z
      exact .inr ⟨q, by omega, q1, by simp [List.getD, q1, q2]⟩
  by_cases hbad : (region < 1 ∨ 65536 < region) ∨ ∃ q, q < st.length ∧ (st.getD q 0 < 0 ∨ ((CM n).L : Int) < st.getD q 0)
  · have hp : p' = 1 := by
      rcases e3 with ⟨z1, z2⟩ | ⟨z1, -⟩
      · rw [z1]
        rcases hbad with z | ⟨q, q1, q2⟩
        · rw [if_pos z]
        · have := z2 q (by omega) q1; omega
      · exact z1
    subst hp
    rw [if_neg (fun z => absurd z.1 (by decide))]; simp only [Option.bind_some]
    rw [grd_t (decide_eq_true (fun _ => by omega)), grd_t (decide_eq_true (fun _ => by omega)), if_neg (fun z => absurd z.1.1 (by decide))]; simp only [Option.bind_some]
    rw [if_neg (by simp)]; simp only [Option.bind_some]
    rw [setopen_range h0.ok hsl hbad]; simp only [Option.bind_some, Option.elim_none]
    rw [if_neg (by decide), if_neg (by decide), hR2]; simp only [Option.bind_some]
    rw [if_neg (by simp), if_pos (by decide), awake21]; rfl
  · have hreg : ¬ (region < 1 ∨ 65536 < region) := fun z => hbad (.inl z)
    have hst : ∀ k ∈ st, 0 ≤ k ∧ k ≤ ((CM n).L : Int) := fun k hk => by
      obtain ⟨q, q1, q2⟩ := List.mem_iff_getElem.1 hk
      have : ¬ (st.getD q 0 < 0 ∨ ((CM n).L : Int) < st.getD q 0) := fun z => hbad (.inr ⟨q, q1, z⟩)
      simp only [List.getD, List.getElem?_eq_getElem q1, Option.getD_some, q2] at this
      omega
    have hp : p' = 0 := by
      rcases e3 with ⟨z1, -⟩ | ⟨-, q, -, q1, q2⟩
      · rw [z1, if_neg hreg]
      · exact absurd (.inr ⟨q, q1, q2⟩) hbad
    subst hp
    obtain ⟨rg, rfl⟩ : ∃ rg : Nat, region = (rg : Int) := ⟨region.toNat, by omega⟩
    have hrg : 1 ≤ rg ∧ rg ≤ 65536 := by omega
    have h1 : H0 (CE n rg hrg) (wordsL (CM n).sz 5) 10 a := ⟨h0.ok, h0.dn, h0.fuse, h0.miss, h0.now⟩
    have hRR : (CE n rg hrg).R = (CE n rg hrg).R := rfl
    have hRe : R = ((CE n rg hrg).R : Int) := by
      have z : volumegroupref21_Regions ((CM n).sz : Int) (rg : Int) = some ((CE n rg hrg).R : Int) := refRegions_eq (C := CE n rg hrg)
      rw [hR] at z; exact Option.some.inj z
    have hR12 := (CE n rg hrg).hR
    subst hRe
    have hbt : b = true ↔ ∀ j, j < (CM n).L → (j : Int) ∈ st := by
      rw [f2]
      exact ⟨fun z j hj => (hgs j (by omega)).1 (z.2 j (by omega) hj), fun z => ⟨rfl, fun q _ hq => (hgs q (by omega)).2 (z q hq)⟩⟩
    have hhead : rdV a ((CM n).L : Int) (0 : Int) = now a (CM n).L 0 := (h0.ok.rdA (d := (CM n).L) (a := 0) h0.dn (by rw [MC.len]; omega) (by rw [MC.log]; decide) (h0.miss _)).1
    by_cases hall : ∀ j, j < (CM n).L → (j : Int) ∈ st
    · have hm' : volumegrouplaw21_setting_open a ((CM n).L : Int) ((CM n).sz : Int) (rg : Int) (CM n).lg st = some (none, 19) := setopen_stale (C := CE n rg hrg) h0.ok hsl hst hall
      rw [if_pos ⟨rfl, hbt.2 hall⟩]; simp only [Option.bind_some]
      rw [grd_t (decide_eq_true (fun _ => by omega)), grd_t (decide_eq_true (fun _ => by omega)), if_neg (fun z => absurd z.1.1 (by decide))]; simp only [Option.bind_some]
      rw [if_neg (by simp)]; simp only [Option.bind_some]
      rw [hm']; simp only [Option.bind_some, Option.elim_none]
      rw [if_neg (by decide), if_neg (by decide), hR2]; simp only [Option.bind_some]
      rw [if_neg (by simp), if_pos (by decide), awake21]; rfl
    · rw [if_neg (fun z => hall (hbt.1 z.2))]; simp only [Option.bind_some]
      rw [grd_t (decide_eq_true (fun _ => by omega)), grd_t (decide_eq_true (fun _ => by omega))]
      have hex : ∃ j, j < (CM n).L ∧ (j : Int) ∉ st := Classical.byContradiction fun z => hall fun j hj => Classical.byContradiction fun q => z ⟨j, hj, q⟩
      have hok : ((CM n).lg = true → (((CM n).L : Nat) : Int) ∉ st → now a (CM n).L 0 = headL (CE n rg hrg).R) → ∃ m, volumegrouplaw21_setting_open a ((CM n).L : Int) ((CM n).sz : Int) (rg : Int) (CM n).lg st = some (some m, 0) ∧ MI (CE n rg hrg) a (lvE (CE n rg hrg) st) m := fun z =>
        setopen_ok (C := CE n rg hrg) h1 hsl hst hex (fun b hb => h0.cand (CM n).L b (Nat.le_refl _) (by rw [MC.log]; exact hb)) z
      have fin := fun {m : MirS} (hm : MI (CE n rg hrg) a (lvE (CE n rg hrg) st) m) =>
        tailE_eq (C := CE n rg hrg) (at_ := at_) (dropOk_of (L := (CM n).L) (F := fun r => volumegrouplaw21_MirrorErrors_l10 (some a, (CM n).L, (CM n).sz, (CM n).rg, (CM n).lg, wordsL (CM n).sz 5) r) (oth := volumegrouplaw21_MirrorErrors_l11 (some a, (CM n).L, (CM n).sz, (CM n).rg, (CM n).lg, wordsL (CM n).sz 5)) (by omega) (fun _ _ _ _ _ => rfl) (fun _ _ _ _ _ => rfl)) hm h1 (by decide) hex e2 hgs
      by_cases hlog : (((((0 : Nat) : Int) = (0 : Int)) ∧ (CM n).lg = true) ∧ (¬ (g'.getD (CM n).L false) = true))
      · have hnl : (((CM n).L : Nat) : Int) ∉ st := fun z => hlog.2 ((hgs _ (Nat.le_refl _)).2 z)
        rw [if_pos hlog, refWordsE]; simp only [Option.bind_some]
        rw [if_neg (by split <;> omega), show volumegroupref20_Head ((CE n rg hrg).R : Int) = some (headL (CE n rg hrg).R) from rfl]; simp only [Option.bind_some]
        rw [hhead]
        by_cases hh : now a (CM n).L 0 = headL (CE n rg hrg).R
        · rw [if_neg (fun z => absurd (of_decide_eq_true z) (fun q => q hh))]; simp only [Option.bind_some]
          obtain ⟨m, m1, m2⟩ := hok (fun _ _ => hh)
          rw [m1]; simp only [Option.bind_some, Option.elim_some]
          rw [if_neg (by decide), if_neg (by decide), hR2]; simp only [Option.bind_some]
          rw [if_neg (by simp), if_neg (by decide)]
          exact fin m2
        · rw [if_pos (decide_eq_true hh)]; simp only [Option.bind_some]
          have hm' : volumegrouplaw21_setting_open a ((CM n).L : Int) ((CM n).sz : Int) (rg : Int) (CM n).lg st = some (none, 18) := setopen_head (C := CE n rg hrg) hR12 regions_eq h0.ok h0.dn hsl hst hex hlog.1.2 hnl (h0.miss _) hh
          rw [hm']; simp only [Option.bind_some, Option.elim_none]
          rw [if_neg (by decide), if_neg (by decide), hR2]; simp only [Option.bind_some]
          rw [if_neg (by simp), if_pos (by decide), awake21]; rfl
      · rw [if_neg hlog]; simp only [Option.bind_some]
        rw [if_neg (by simp)]; simp only [Option.bind_some]
        obtain ⟨m, m1, m2⟩ := hok (fun z1 z2 => absurd ⟨⟨rfl, z1⟩, fun z => z2 ((hgs _ (Nat.le_refl _)).1 z)⟩ hlog)
        rw [m1]; simp only [Option.bind_some, Option.elim_some]
        rw [if_neg (by decide), if_neg (by decide), hR2]; simp only [Option.bind_some]
        rw [if_neg (by simp), if_neg (by decide)]
        exact fin m2
end Go.Proofs
