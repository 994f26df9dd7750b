/- MirrorTwoLost, part 8 of the proof: PMirO2, PKeep, POwn1, POwn2, POwn3, POwn4, POwn5, POwn6, POwn7, POwn8, PWords, PMirB, POwn9, PMirD, PMirS, PTwo, LOwnQ. -/
import Derived.WalkKit
import Derived.Orders
import Derived.RangeFuncLeaves
import Derived.RangeFuncCalls
import Derived.TacticsIn
import Derived.Handy
import Derived.OrdersHeld
import Derived.OrdersIn
import Derived.Below
import Derived.OpenShut
import Derived.Deep.Slices
import Derived.Scope
import Derived.KernelRfl
import Derived.RangeFuncRecord
import Derived.ChangeKeysEq
import Derived.ProofKit
import Derived.ShutString
import Derived.ChangeOld
import Derived.Test.YtcfnikegnhlghaaGreatChecked
import Derived.Test.YtcfnikegnhlghaaGreatRows
import Derived.Test.YtcfnikegnhlghaaGreatZMirrorTwoLost7
namespace Go.Proofs
open Go.VG
section
variable {C : MC} {K a i r : Nat} {s t u y : ArrS} {lv : LV} {m m' x : MirS} {w v : UInt64} {st : List Int} {legs : List Dvc}
theorem open_miss {R : Nat} (hR : 1≤R∧R≤12) (hok : ArrOk C.ns K s) (hdn : s.down=false) (hm : miss s C.L=true) : regionlog_Open (xL C.L 3) (R : Int) s=some (none,6) := by
  have hnW : nW R=1 := by unfold nW; omega
  have hF := fuel_big
  have hns : C.ns.getD C.L 0=3 := MC.log
  unfold regionlog_Open
  rw [checkN logL hns (by decide) ⟨hR.1,by omega⟩,if_neg (by rw [hnW]; omega)]; simp only [Option.bind_some]
  rw [if_neg (by simp),wordsN ⟨hR.1,by omega⟩,hnW]; simp only [Option.bind_some]
  have hrd : ∃ w,(xL C.L 3).rd s (0 : Int)=some (w,6) := by
    have h1 := hok.rdM (d:=C.L) (a:=0) hdn logL (by rw [hns]; decide) hm
    rw [span_rd (by omega) (by omega),if_pos (by omega)]
    have e : ((0 : Nat) : Int) + (0 : Int)=((0 : Nat) : Int) := by omega
    rw [e,h1]; exact ⟨_,rfl⟩
  obtain ⟨w,hrd⟩ := hrd
  have hra : block_ReadAll (xL C.L 3) (0 : Int) ((1 + 1 : Nat) : Int) s=some ([],6) := by
    unfold block_ReadAll
    have hsz : (xL C.L 3).size s=some ((3 : Nat) : Int) := span_size
    rw [hsz]; simp only [Option.bind_some]
    rw [inside_t (by omega) (by omega)]; simp only [Option.bind_some]
    rw [if_neg (by simp)]
    obtain ⟨N,hN⟩ : ∃ N,FUEL=N + 1 := ⟨FUEL - 1,by omega⟩
    have hu : block_ReadAll_l1 (xL C.L 3) (0 : Int) ((1 + 1 : Nat) : Int) s (N + 1) 0 []=block_ReadAll_l1_b (xL C.L 3) (0 : Int) ((1 + 1 : Nat) : Int) s (block_ReadAll_l1 (xL C.L 3) (0 : Int) ((1 + 1 : Nat) : Int) s N) 0 [] := rfl
    rw [hN,hu]
    unfold block_ReadAll_l1_b
    have e : (0 : Int) + ((0 : Nat) : Int)=0 := rfl
    rw [if_pos (by omega),e,grd_t (inI64_of (by omega)),hrd]; simp only [Option.bind_some]
    rw [if_pos (by simp),seqO_inr]
  rw [hra]; simp only [Option.bind_some]
  rw [if_pos (by simp)]
structure OpH (C : MC) (s : ArrS) (legs : List Dvc) (st : List Int) : Prop where
  ll : legs.length=C.L
  lx : ∀ i,i < C.L→legs.getD i dv0=xL i C.sz
  rg : ∀ k ∈ st,0≤k∧k≤(C.L : Int)
  sl : st.length≤1000000
  ex : ∃ j,j < C.L∧(j : Int) ∉ st
theorem OpH.guard (h : OpH C s legs st) : ¬ ((((((legs.length : Nat) : Int) < (2 : Int))∨((6 : Int) < ((legs.length : Nat) : Int)))∨((C.rg : Int) < (1 : Int)))∨((65536 : Int) < (C.rg : Int))) := by
  have h1 := C.hL
  have h2 := C.hr
  rw [h.ll]; omega
theorem open2_eq' {R : Nat} (hR : 1≤R∧R≤12) (hreg : mirror_Regions (C.sz : Int) (C.rg : Int)=some (R : Int)) (h : OpH C s legs st) : ∃ d : List Bool,d.length=R∧(∀ r,r < R→d.getD r false=true)∧mirror_Open_2 legs st (C.rg : Int) s=some (some ⟨legsM C st C.L,none,false,2,(C.sz : Int),(C.rg : Int),d,0⟩,0) := by
  have hL := C.hL
  have hnW : nW R=1 := by unfold nW; omega
  have hF := fuel_big
  unfold mirror_Open_2
  generalize FUEL=N at hF ⊢
  rw [if_neg h.guard,containsF (by rw [h.ll]; exact h.rg) h.sl]; simp only [Option.bind_some]
  have hsz : Dvc.size (legs.getD 0 dv0) s=some (C.sz : Int) := by rw [h.lx 0 (by omega)]; exact span_size
  rw [if_neg (by simp),hsz]; simp only [Option.bind_some]
  obtain ⟨q,q1,q2⟩ := open_rule (f:=mirror_Open_2_l1 legs st (C.rg : Int) s) (s:=s) (fun _ _ _ _=>rfl) h.ll h.lx h.sl (lg:=false) (reg:=(C.rg : Int)) N 0 0 (by omega) (by omega) (by omega) (fun ⟨j,hj,_⟩=>absurd hj (by omega))
  have e0 : legsM C st 0=[] := rfl
  rw [e0] at q2
  rw [q2]; simp only [Option.bind_some]
  have := q1 h.ex
  rw [if_neg (by omega),hreg]; simp only [Option.bind_some]
  rw [grd_t (decide_eq_true ⟨by omega,by omega⟩),contains_eq h.sl]; simp only [Option.bind_some]
  rw [if_pos (by simp)]
  obtain ⟨d,d1,d2,d3⟩ := all_rule (f:=mirror_Open_2_l3 (R : Int)) (R:=R) (by omega) (fun _ _ _=>rfl) N 0 ⟨legsM C st C.L,none,false,2,(C.sz : Int),(C.rg : Int),List.replicate ((R : Int)).toNat false,0⟩ (by omega) (by omega) (by simp) (fun r hr=>absurd hr (by omega))
  rw [d3]
  exact ⟨d,d1,d2,rfl⟩
theorem open1_eq' {R : Nat} (hR : 1≤R∧R≤12) (hreg : mirror_Regions (C.sz : Int) (C.rg : Int)=some (R : Int)) (h : OpH C s legs st) (hok : ArrOk C.ns K s) (hdn : s.down=false) :
    ((C.L : Int) ∈ st → ∃ d : List Bool,d.length=R∧(∀ r,r < R→d.getD r false=true)∧mirror_Open legs st (xL C.L 3) (C.rg : Int) s=some (some ⟨legsM C st C.L,none,true,2,(C.sz : Int),(C.rg : Int),d,0⟩,0)) ∧
    ((C.L : Int) ∉ st→miss s C.L=true→mirror_Open legs st (xL C.L 3) (C.rg : Int) s=some (none,18)) ∧
    ((C.L : Int) ∉ st→miss s C.L=false→now s C.L 0=headL R → ∃ d : List Bool,d.length=R∧(∀ r,r < R→(d.getD r false=true↔tb (now s C.L 1) r=true))∧mirror_Open legs st (xL C.L 3) (C.rg : Int) s=some (some ⟨legsM C st C.L,some (openL (xL C.L 3) R (now s C.L)),true,0,(C.sz : Int),(C.rg : Int),d,0⟩,0)) := by
  have hL := C.hL
  have hnW : nW R=1 := by unfold nW; omega
  have hF := fuel_big
  have hsz : Dvc.size (legs.getD 0 dv0) s=some (C.sz : Int) := by rw [h.lx 0 (by omega)]; exact span_size
  have e0 : legsM C st 0=[] := rfl
  have hlen : ((((List.replicate ((R : Int)).toNat false)).length : Nat) : Int)=(R : Int) := by simp
  refine ⟨fun h1 => ?_,fun h1 h2 => ?_,fun h1 h2 h3 => ?_⟩
  · unfold mirror_Open
    generalize FUEL=N at hF ⊢
    obtain ⟨q,q1,q2⟩ := open_rule (f:=mirror_Open_l1 legs st (xL C.L 3) (C.rg : Int) s) (s:=s) (fun _ _ _ _=>rfl) h.ll h.lx h.sl (lg:=true) (reg:=(C.rg : Int)) N 0 0 (by omega) (by omega) (by omega) (fun ⟨j,hj,_⟩=>absurd hj (by omega))
    rw [e0] at q2
    have hq := q1 h.ex
    rw [if_neg h.guard,containsF (by rw [h.ll]; exact h.rg) h.sl]; simp only [Option.bind_some]
    rw [if_neg (by simp),hsz]; simp only [Option.bind_some]
    rw [q2]; simp only [Option.bind_some]
    rw [if_neg (by omega),hreg]; simp only [Option.bind_some]
    rw [grd_t (decide_eq_true ⟨by omega,by omega⟩),contains_eq h.sl]; simp only [Option.bind_some]
    rw [if_pos (.inl (by rw [h.ll]; exact decide_eq_true h1))]
    obtain ⟨d,d1,d2,d3⟩ := all_rule (f:=mirror_Open_l3 (R : Int)) (R:=R) (by omega) (fun _ _ _=>rfl) N 0 ⟨legsM C st C.L,none,true,2,(C.sz : Int),(C.rg : Int),List.replicate ((R : Int)).toNat false,0⟩ (by omega) (by omega) (by simp) (fun r hr=>absurd hr (by omega))
    rw [d3]
    exact ⟨d,d1,d2,rfl⟩
  · unfold mirror_Open
    generalize FUEL=N at hF ⊢
    obtain ⟨q,q1,q2⟩ := open_rule (f:=mirror_Open_l1 legs st (xL C.L 3) (C.rg : Int) s) (s:=s) (fun _ _ _ _=>rfl) h.ll h.lx h.sl (lg:=true) (reg:=(C.rg : Int)) N 0 0 (by omega) (by omega) (by omega) (fun ⟨j,hj,_⟩=>absurd hj (by omega))
    rw [e0] at q2
    have hq := q1 h.ex
    rw [if_neg h.guard,containsF (by rw [h.ll]; exact h.rg) h.sl]; simp only [Option.bind_some]
    rw [if_neg (by simp),hsz]; simp only [Option.bind_some]
    rw [q2]; simp only [Option.bind_some]
    rw [if_neg (by omega),hreg]; simp only [Option.bind_some]
    rw [grd_t (decide_eq_true ⟨by omega,by omega⟩),contains_eq h.sl]; simp only [Option.bind_some]
    rw [if_neg (by rintro (x | x); rw [h.ll] at x; exact h1 (of_decide_eq_true x); exact x trivial),hlen,open_miss hR hok hdn h2]; simp only [Option.bind_some]
    rw [if_pos ⟨by decide,by decide⟩]
  · unfold mirror_Open
    generalize FUEL=N at hF ⊢
    obtain ⟨q,q1,q2⟩ := open_rule (f:=mirror_Open_l1 legs st (xL C.L 3) (C.rg : Int) s) (s:=s) (fun _ _ _ _=>rfl) h.ll h.lx h.sl (lg:=true) (reg:=(C.rg : Int)) N 0 0 (by omega) (by omega) (by omega) (fun ⟨j,hj,_⟩=>absurd hj (by omega))
    rw [e0] at q2
    have hq := q1 h.ex
    rw [if_neg h.guard,containsF (by rw [h.ll]; exact h.rg) h.sl]; simp only [Option.bind_some]
    rw [if_neg (by simp),hsz]; simp only [Option.bind_some]
    rw [q2]; simp only [Option.bind_some]
    rw [if_neg (by omega),hreg]; simp only [Option.bind_some]
    rw [grd_t (decide_eq_true ⟨by omega,by omega⟩),contains_eq h.sl]; simp only [Option.bind_some]
    rw [if_neg (by rintro (x | x); rw [h.ll] at x; exact h1 (of_decide_eq_true x); exact x trivial),hlen,open_eq logL MC.log (by decide) hok hdn h2 ⟨hR.1,by omega⟩ (by rw [hnW]; omega),if_pos h3]; simp only [Option.bind_some]
    rw [if_neg (by simp),if_neg (by simp)]; simp only [Option.elim_some]
    have hregs : (openL (xL C.L 3) R (now s C.L)).regions=(R : Int) := rfl
    have hbl : (openL (xL C.L 3) R (now s C.L)).bits.length=nW R := by simp [openL]
    rw [dirty_eq hregs (by rw [hbl,hnW]; omega) (by omega)]; simp only [Option.bind_some]
    have hle := @dirtyL_le (openL (xL C.L 3) R (now s C.L)).bits R
    obtain ⟨d,d1,d2,d3⟩ := some_l4 (l:=dirtyL (openL (xL C.L 3) R (now s C.L)).bits R) (R:=R) (fun k hk=>dirtyL_mem hk) (by omega) N 0 ⟨legsM C st C.L,some (openL (xL C.L 3) R (now s C.L)),true,0,(C.sz : Int),(C.rg : Int),List.replicate ((R : Int)).toNat false,0⟩ (by omega) (by omega) (by simp)
    rw [d3]
    refine ⟨d,d1,fun r hr => ?_,rfl⟩
    have hb0 : ∀ l : List UInt64,bitR l r=tb (l.getD 0 0) r := fun l=>by unfold bitR; rw [show r / 64=0 by omega,show r % 64=r by omega]
    rw [d2 r hr,dirtyL_has hr,hb0]
    have e1 : (openL (xL C.L 3) R (now s C.L)).bits.getD 0 0=now s C.L 1 := by
      have : (openL (xL C.L 3) R (now s C.L)).bits=(List.range (nW R)).map fun i=>now s C.L (1 + i) := rfl
      rw [this,getD_map_range (by rw [hnW]; decide)]
    rw [e1]
    have e2 : (List.replicate ((R : Int)).toNat false).getD r false=false := by
      simp only [List.getD,List.getElem?_replicate]; split <;> rfl
    show (List.replicate ((R : Int)).toNat false).getD r false=true∨_↔_
    rw [e2]
    exact ⟨fun hx=>hx.elim (fun hy=>(by cases hy)) id,.inr⟩
theorem open2_eq (h : OpH C s legs st) : ∃ d : List Bool,d.length=C.R∧(∀ r,r < C.R→d.getD r false=true)∧mirror_Open_2 legs st (C.rg : Int) s=some (some ⟨legsM C st C.L,none,false,2,(C.sz : Int),(C.rg : Int),d,0⟩,0) :=
  open2_eq' C.hR regions_eq h
theorem open1_eq (h : OpH C s legs st) (hok : ArrOk C.ns K s) (hdn : s.down=false) :
    ((C.L : Int) ∈ st → ∃ d : List Bool,d.length=C.R∧(∀ r,r < C.R→d.getD r false=true)∧mirror_Open legs st (xL C.L 3) (C.rg : Int) s=some (some ⟨legsM C st C.L,none,true,2,(C.sz : Int),(C.rg : Int),d,0⟩,0)) ∧
    ((C.L : Int) ∉ st→miss s C.L=true→mirror_Open legs st (xL C.L 3) (C.rg : Int) s=some (none,18)) ∧
    ((C.L : Int) ∉ st→miss s C.L=false→now s C.L 0=headL C.R → ∃ d : List Bool,d.length=C.R∧(∀ r,r < C.R→(d.getD r false=true↔tb (now s C.L 1) r=true))∧mirror_Open legs st (xL C.L 3) (C.rg : Int) s=some (some ⟨legsM C st C.L,some (openL (xL C.L 3) C.R (now s C.L)),true,0,(C.sz : Int),(C.rg : Int),d,0⟩,0)) :=
  open1_eq' C.hR regions_eq h hok hdn
theorem opener_eq (hok : ArrOk C.ns K s) (hdn : s.down=false) (hst : ∀ k ∈ st,0≤k∧k≤(C.L : Int)) (hsl : st.length≤1000000) (hex : ∃ j,j < C.L∧(j : Int) ∉ st) (hh : C.lg=true→(C.L : Int) ∉ st→miss s C.L=false→now s C.L 0=headL C.R) :
    (¬ (C.lg=true∧(C.L : Int) ∉ st) → ∃ d : List Bool,d.length=C.R∧(∀ r,r < C.R→d.getD r false=true)∧volumegrouplaw21_setting_owner_1 st s (C.L : Int) (C.sz : Int) (C.rg : Int) C.lg=some (some ⟨legsM C st C.L,none,C.lg,2,(C.sz : Int),(C.rg : Int),d,0⟩,0)) ∧
    (C.lg=true→(C.L : Int) ∉ st→miss s C.L=true→volumegrouplaw21_setting_owner_1 st s (C.L : Int) (C.sz : Int) (C.rg : Int) C.lg=some (none,18)) ∧
    (C.lg=true→(C.L : Int) ∉ st→miss s C.L=false → ∃ d : List Bool,d.length=C.R∧(∀ r,r < C.R→(d.getD r false=true↔tb (now s C.L 1) r=true))∧volumegrouplaw21_setting_owner_1 st s (C.L : Int) (C.sz : Int) (C.rg : Int) C.lg=some (some ⟨legsM C st C.L,some (openL (xL C.L 3) C.R (now s C.L)),true,0,(C.sz : Int),(C.rg : Int),d,0⟩,0)) := by
  have hL := C.hL
  have hs := C.hs
  have hcnt : s.drv.length=C.L + 1 := by rw [hok.sz.cnt]; exact MC.len
  have hsize : ∀ i,i < C.L→s.size i=C.sz := fun i hi=>by rw [hok.sz.size i (by rw [MC.len]; omega),MC.leg hi]
  have hsizeL : s.size C.L=3 := by rw [hok.sz.size C.L logL,MC.log]
  have hsp : volumegroupmake_Spans s=some (spansA s) := spans_eq (by omega) (fun i hi=>by
    rcases Nat.lt_or_ge i C.L with x | x
    · rw [hsize i x]; omega
    · have : i=C.L := by omega
      subst this; rw [hsizeL]; omega)
  have hop : OpH C s ((spansA s).take C.L) st := by
    refine ⟨by rw [List.length_take,spansA_length]; omega,fun i hi => ?_,hst,hsl,hex⟩
    have h1 : ((spansA s).take C.L).getD i dv0=(spansA s).getD i dv0 := by simp [List.getD,hi]
    rw [h1,spansA_getD (by omega),hsize i hi]; rfl
  have hlogd : (spansA s).getD C.L dv0=xL C.L 3 := by rw [spansA_getD (by omega),hsizeL]; rfl
  have hopen : ∀ {o : Option MirS} {e : Int},(C.lg=false→mirror_Open_2 ((spansA s).take C.L) st (C.rg : Int) s=some (o,e))→(C.lg=true→mirror_Open ((spansA s).take C.L) st (xL C.L 3) (C.rg : Int) s=some (o,e))→volumegrouplaw21_setting_open s (C.L : Int) (C.sz : Int) (C.rg : Int) C.lg st=some (o,e) := by
    intro o e h1 h2
    unfold volumegrouplaw21_setting_open
    rw [hsp]; simp only [Option.bind_some,spansA_length,hcnt,Int.toNat_natCast]
    rw [if_neg (by omega)]
    cases hlg : C.lg
    · rw [if_neg (by simp)]; simp only [Option.bind_some]
      rw [grd_t (decide_eq_true ⟨by omega,by omega⟩)]; simp only [Option.elim_none]
      rw [h1 hlg]; rfl
    · rw [if_pos ⟨rfl,by omega⟩,grd_t (decide_eq_true ⟨by omega,by omega⟩),hlogd]; simp only [Option.bind_some]
      rw [grd_t (decide_eq_true ⟨by omega,by omega⟩)]; simp only [Option.elim_some]
      rw [h2 hlg]; rfl
  have hown : ∀ {o : MirS},volumegrouplaw21_setting_open s (C.L : Int) (C.sz : Int) (C.rg : Int) C.lg st=some (some o,0)→volumegrouplaw21_setting_owner_1 st s (C.L : Int) (C.sz : Int) (C.rg : Int) C.lg=some (some o,0) := by
    intro o h1
    unfold volumegrouplaw21_setting_owner_1
    rw [h1]; rfl
  obtain ⟨o1,o2,o3⟩ := open1_eq hop hok hdn
  refine ⟨fun h1 => ?_,fun h1 h2 h3 => ?_,fun h1 h2 h3 => ?_⟩
  · cases hlg : C.lg
    · obtain ⟨d,d1,d2,d3⟩ := open2_eq hop
      have := hown (hopen (fun _=>d3) (fun hx=>by rw [hlg] at hx; cases hx))
      rw [hlg] at this
      exact ⟨d,d1,d2,this⟩
    · have hin : (C.L : Int) ∈ st := Classical.byContradiction fun hx=>h1 ⟨hlg,hx⟩
      obtain ⟨d,d1,d2,d3⟩ := o1 hin
      have := hown (hopen (fun hx=>by rw [hlg] at hx; cases hx) (fun _=>d3))
      rw [hlg] at this
      exact ⟨d,d1,d2,this⟩
  · have h4 := hopen (fun hx=>by rw [h1] at hx; cases hx) (fun _=>o2 h2 h3)
    unfold volumegrouplaw21_setting_owner_1
    rw [h4]; rfl
  · obtain ⟨d,d1,d2,d3⟩ := o3 h2 h3 (hh h1 h2 h3)
    exact ⟨d,d1,d2,hown (hopen (fun hx=>by rw [h1] at hx; cases hx) (fun _=>d3))⟩
end
end Go.Proofs
namespace Go.Proofs
open Go.VG
theorem keep_l1 {w : UInt64} : ∀ (N i : Nat) (acc : List Bool),192 - i < N→i≤192→acc.length=i → ∃ ks,volumegroupmake_Keep_l1 w N acc i=some ks
  | 0,_,_,h,_,_=>absurd h (by omega)
  | N + 1,i,acc,h,hi,ha=>by
    show ∃ ks,volumegroupmake_Keep_l1_b _ _ _ _=_
    unfold volumegroupmake_Keep_l1_b
    by_cases hlt : i < 192
    · rw [if_pos (by omega),grd_t (inLen_of (by omega))]
      exact keep_l1 N (i + 1) _ (by omega) (by omega) (by simp [ha])
    · rw [if_neg (by omega)]; exact ⟨_,rfl⟩
theorem keep_ok (w : UInt64) : ∃ ks,volumegroupmake_Keep w=some ks := by
  unfold volumegroupmake_Keep
  have hF := fuel_big
  generalize FUEL=N at hF ⊢
  obtain ⟨ks,h⟩ := keep_l1 (w:=w) N 0 [] (by omega) (by omega) rfl
  exact ⟨ks,by rw [h]; rfl⟩
theorem at_ok (a : Int) {n : Nat} (hn : 0 < n) (hb : n≤65536) : ∃ k : Nat,(a.tmod (n : Int) + (n : Int)).tmod (n : Int)=(k : Int)∧k < n ∧ -65536 < a.tmod (n : Int)∧a.tmod (n : Int) < 65536 := by
  have h1 : -(n : Int) < a.tmod n∧a.tmod n < n := by
    have h := Int.natAbs_tmod a n
    have h2 := Nat.mod_lt a.natAbs (show 0 < (n : Int).natAbs by omega)
    omega
  have h2 : 0≤a.tmod n + n := by omega
  have h3 := Int.tmod_nonneg (a:=a.tmod n + n) n h2
  have h4 := Int.tmod_lt_of_pos (a.tmod n + n) (show (0 : Int) < n by omega)
  exact ⟨((a.tmod n + n).tmod n).toNat,by omega,by omega,by omega,by omega⟩
end Go.Proofs
namespace Go.Proofs
open Go.VG
theorem has_l1 {l : List Int} {k : Int} : ∀ (N i : Nat),l.length - i < N→i≤l.length→(∀ j,j < i→l.getD j 0≠k)→volumegroupmake_has_l1 l k N i=some (.inl ())∧k ∉ l∨volumegroupmake_has_l1 l k N i=some (.inr true)∧k ∈ l
  | 0,_,h,_,_=>absurd h (by omega)
  | N + 1,i,h,hi,hn=>by
    have hrec := has_l1 (l:=l) (k:=k) N (i + 1)
    have hu : volumegroupmake_has_l1 l k (N + 1) i=volumegroupmake_has_l1_b l k (volumegroupmake_has_l1 l k N) i := rfl
    rw [hu]
    unfold volumegroupmake_has_l1_b
    by_cases hlt : i < l.length
    · rw [if_pos (by omega)]
      by_cases he : l.getD i 0=k
      · rw [if_pos he]
        exact .inr ⟨rfl,by rw [← he]; simp [List.getD,hlt]⟩
      · rw [if_neg he]
        exact hrec (by omega) (by omega) (fun j hj=>by
          by_cases e : j=i
          · rw [e]; exact he
          · exact hn j (by omega))
    · rw [if_neg (by omega)]
      refine .inl ⟨rfl,fun hk => ?_⟩
      obtain ⟨j,hj,e⟩ := List.mem_iff_getElem.1 hk
      exact hn j (by omega) (by simp [List.getD,hj,e])
theorem has_eq {l : List Int} {k : Int} (hl : l.length≤1000000) : volumegroupmake_has l k=some (decide (k ∈ l)) := by
  unfold volumegroupmake_has
  have hF := fuel_big
  rcases has_l1 (l:=l) (k:=k) FUEL 0 (by omega) (by omega) (fun j hj=>absurd hj (by omega)) with ⟨h1,h2⟩ | ⟨h1,h2⟩
  · rw [h1,seqO_inl,decide_eq_false h2]
  · rw [h1,seqO_inr,decide_eq_true h2]
theorem add_l1 {l : List Int} {n : Int} (h0 : 0≤n) (hl : ∀ k ∈ l,0≤k) (hlen : l.length≤1000000) : ∀ (N i : Nat) (x : Int) (acc : List Int),l.length - i < N→i≤l.length→(x=n∧acc.length=i∧(∀ z,z ∈ acc↔z ∈ l.take i)∨x = -1∧acc.length≤i + 1∧(∀ z,z ∈ acc↔z ∈ l.take i∨z=n)) →
    ∃ x' acc',volumegroupmake_add_l1 l N x acc i=some (x',acc')∧(x' = n∧acc'.length=l.length∧(∀ z,z ∈ acc' ↔ z ∈ l)∨x' = -1∧acc'.length≤l.length + 1∧(∀ z,z ∈ acc' ↔ z ∈ l∨z=n))
  | 0,_,_,_,h,_,_=>absurd h (by omega)
  | N + 1,i,x,acc,h,hi,hx=>by
    have hrec := add_l1 h0 hl hlen N (i + 1)
    have hu : volumegroupmake_add_l1 l (N + 1) x acc i=volumegroupmake_add_l1_b l (volumegroupmake_add_l1 l N) x acc i := rfl
    rw [hu]
    unfold volumegroupmake_add_l1_b
    by_cases hlt : i < l.length
    · have hk := hl (l.getD i 0) (by simp [List.getD,hlt])
      have hsn : ∀ z,z ∈ l.take (i + 1)↔z ∈ l.take i∨z=l.getD i 0 := fun z=>by rw [getD_take_snoc (d:=0) hlt,List.mem_append,List.mem_singleton]
      rw [if_pos (by omega)]
      generalize l.getD i 0=g at hk hsn ⊢
      rcases hx with ⟨rfl,h1,h2⟩ | ⟨rfl,h1,h2⟩
      · by_cases hc : (0 : Int)≤x∧x < g
        · rw [if_pos hc,grd_t (inLen_of (by omega))]; simp only [Option.bind_some]
          rw [if_neg (by omega),grd_t (inLen_of (by simp; omega))]
          refine hrec _ _ (by omega) (by omega) (.inr ⟨rfl,by simp; omega,fun z => ?_⟩)
          rw [List.mem_append,List.mem_append,List.mem_singleton,List.mem_singleton,h2,hsn]
          constructor
          · rintro ((a | a) | a)
            · exact .inl (.inl a)
            · exact .inr a
            · exact .inl (.inr a)
          · rintro ((a | a) | a)
            · exact .inl (.inl a)
            · exact .inr a
            · exact .inl (.inr a)
        · rw [if_neg hc]; simp only [Option.bind_some]
          by_cases he : g=x
          · rw [if_pos he,grd_t (inLen_of (by omega))]
            refine hrec _ _ (by omega) (by omega) (.inr ⟨rfl,by simp; omega,fun z => ?_⟩)
            rw [List.mem_append,List.mem_singleton,h2,hsn,he]
            exact ⟨fun a => .inl a,fun a=>a.elim id .inr⟩
          · rw [if_neg he,grd_t (inLen_of (by omega))]
            refine hrec _ _ (by omega) (by omega) (.inl ⟨rfl,by simp; omega,fun z => ?_⟩)
            rw [List.mem_append,List.mem_singleton,h2,hsn]
      · rw [if_neg (by omega)]; simp only [Option.bind_some]
        rw [if_neg (by omega),grd_t (inLen_of (by omega))]
        refine hrec _ _ (by omega) (by omega) (.inr ⟨rfl,by simp; omega,fun z => ?_⟩)
        rw [List.mem_append,List.mem_singleton,h2,hsn]
        constructor
        · rintro ((a | a) | a)
          · exact .inl (.inl a)
          · exact .inr a
          · exact .inl (.inr a)
        · rintro ((a | a) | a)
          · exact .inl (.inl a)
          · exact .inr a
          · exact .inl (.inr a)
    · rw [if_neg (by omega)]
      have e : l.take i=l := List.take_of_length_le (by omega)
      have e2 : i=l.length := by omega
      rw [e] at hx
      subst e2
      exact ⟨_,_,rfl,hx⟩
theorem add_eq {l : List Int} {n : Int} (h0 : 0≤n) (hl : ∀ k ∈ l,0≤k) (hlen : l.length≤1000000) : ∃ l',volumegroupmake_add l n=some l' ∧ l'.length≤l.length + 1 ∧ ∀ z,z ∈ l' ↔ z ∈ l∨z=n := by
  unfold volumegroupmake_add
  have hF := fuel_big
  obtain ⟨x',acc',h1,h2⟩ := add_l1 h0 hl hlen FUEL 0 n [] (by omega) (by omega) (.inl ⟨rfl,rfl,fun z=>by simp⟩)
  rw [h1]; simp only [Option.bind_some]
  rcases h2 with ⟨rfl,h2,h3⟩ | ⟨rfl,h2,h3⟩
  · rw [if_pos h0,grd_t (inLen_of (by omega))]
    exact ⟨_,rfl,by simp [h2],fun z=>by rw [List.mem_append,List.mem_singleton,h3]⟩
  · rw [if_neg (by omega)]
    exact ⟨_,rfl,h2,h3⟩
def dropM (m : MirS) (k : Nat) : MirS := { m with legs := m.legs.set k ⟨(m.legs.getD k mleg_x0).dev,2,0⟩ }
section
variable {C : MC} {K a i k : Nat} {s t u y : ArrS} {lv : LV} {m m' x : MirS} {w v : UInt64}
theorem dropM_at (h : i < m.legs.length) {j : Nat} : (dropM m i).legs.getD j mleg_x0=if j=i then ⟨(m.legs.getD i mleg_x0).dev,2,0⟩ else m.legs.getD j mleg_x0 := getD_setM h
theorem drop_l1 (hl : m.legs.length≤6) : ∀ (N i c : Nat),m.legs.length - i < N→i≤m.legs.length→c≤i → ∃ c',mirror_Mirror_Drop_l1 m ((k : Nat) : Int) N i c=some c' ∧ ((∃ j,i≤j∧j < m.legs.length∧j≠k∧stM m j≠2)∨0 < c→0 < c')
  | 0,_,_,h,_,_=>absurd h (by omega)
  | N + 1,i,c,h,hi,hc=>by
    have hu : mirror_Mirror_Drop_l1 m ((k : Nat) : Int) (N + 1) i c=mirror_Mirror_Drop_l1_b m ((k : Nat) : Int) (mirror_Mirror_Drop_l1 m ((k : Nat) : Int) N) i c := rfl
    rw [hu]
    unfold mirror_Mirror_Drop_l1_b
    by_cases hlt : i < m.legs.length
    · rw [if_pos (by omega)]
      by_cases h1 : (((i : Nat) : Int)≠((k : Nat) : Int))∧(m.legs.getD i mleg_x0).state≠2
      · rw [if_pos h1,grd_t (inN64_of (by omega))]
        obtain ⟨c',k1,k2⟩ := drop_l1 hl N (i + 1) (c + 1) (by omega) (by omega) (by omega)
        exact ⟨c',k1,fun _=>k2 (.inr (by omega))⟩
      · rw [if_neg h1]
        obtain ⟨c',k1,k2⟩ := drop_l1 hl N (i + 1) c (by omega) (by omega) (by omega)
        refine ⟨c',k1,fun hx=>k2 ?_⟩
        rcases hx with ⟨j,j1,j2,j3,j4⟩ | hx
        · rcases Nat.lt_or_ge i j with z | z
          · exact .inl ⟨j,z,j2,j3,j4⟩
          · have : j=i := by omega
            subst this
            exact absurd ⟨by omega,j4⟩ h1
        · exact .inr hx
    · rw [if_neg (by omega)]
      refine ⟨c,rfl,fun hx => ?_⟩
      rcases hx with ⟨j,j1,j2, -⟩ | hx
      · omega
      · exact hx
theorem drop_leg (h : MI C s lv m) (hcp : ∀ i,i < C.L→lv.cp i=0) (hex : ∃ j,j < C.L∧lv j=true) (hk : k < C.L) (hl : lv k=false) : mirror_Mirror_Drop m ((k : Nat) : Int) s=some (0,dropM m k)∧MI C s lv (dropM m k) := by
  have hF := fuel_big
  have hkm : k < m.legs.length := by rw [h.len]; exact hk
  obtain ⟨j,hj,hlj⟩ := hex
  constructor
  · unfold mirror_Mirror_Drop
    rw [if_neg (by rintro ⟨x, -⟩; rw [h.len] at x; omega),if_neg (by rw [h.len]; omega)]
    obtain ⟨c',c1,c2⟩ := drop_l1 (k:=k) h.l6 FUEL 0 0 (by have := h.l6; omega) (by omega) (by omega)
    have hc := c2 (.inl ⟨j,by omega,by rw [h.len]; exact hj,fun e=>(by rw [e,hl] at hlj; cases hlj),by rw [(h.live hj hlj).1]; decide⟩)
    rw [c1]; simp only [Option.bind_some]
    rw [if_neg (by omega),Int.toNat_natCast,grd_t (decide_eq_true ⟨by omega,by simp; omega⟩)]
    have e : ((m.legs.set k { m.legs.getD k mleg_x0 with state := 2 }).set k { (m.legs.set k { m.legs.getD k mleg_x0 with state := 2 }).getD k mleg_x0 with copied := 0 })=m.legs.set k ⟨(m.legs.getD k mleg_x0).dev,2,0⟩ := by
      rw [List.set_set,getD_setM hkm,if_pos rfl]
    rw [e]; rfl
  · refine ⟨by simp [dropM,h.len],fun i hi => ?_,h.size,h.region,h.hasLog,h.dl,h.log,h.d⟩
    unfold stM
    rw [dropM_at hkm]
    by_cases e : i=k
    · subst e
      rw [if_pos rfl]
      exact ⟨h.dev hi,.inl (hcp i hi).symm,.inr ⟨hl,.inl rfl⟩⟩
    · rw [if_neg e]; exact h.leg i hi
theorem drop_log (h : MI C s lv m) (hlg : C.lg=true) (hl : lv C.L=false) : mirror_Mirror_Drop m ((C.L : Nat) : Int) s=some (0, { m with log := none,logState := 2 })∧MI C s lv { m with log := none,logState := 2 } := by
  constructor
  · unfold mirror_Mirror_Drop
    rw [if_pos ⟨by rw [h.len],by rw [h.hasLog]; exact hlg⟩]
  · exact ⟨h.len,h.leg,h.size,h.region,h.hasLog,h.dl,.inr ⟨hl,.inl ⟨rfl,rfl⟩⟩,fun hx=>absurd hx (by rw [hl]; decide)⟩
def gB (C : MC) (m : MirS) (i : Nat) : Nat := if i < C.L∧stM m i≠2 then 1 else 0
def gM (C : MC) (m : MirS) : Nat := gB C m 0 + gB C m 1 + gB C m 2 + if m.logState=2 then 0 else 1
theorem gB_le : gB C m i≤1 := by unfold gB; split <;> omega
theorem gM_le : gM C m≤4 := by
  have h0 := @gB_le C 0 m
  have h1 := @gB_le C 1 m
  have h2 := @gB_le C 2 m
  unfold gM
  split <;> omega
theorem Mk.g (h : Mk m m') (hl : m.legs.length=C.L) : gM C m' = gM C m := by
  have hb : ∀ i,gB C m' i=gB C m i := fun i=>by
    unfold gB
    by_cases hi : i < C.L
    · have := h.st i (by rw [hl]; exact hi)
      by_cases h2 : stM m i=2
      · rw [if_neg (fun x=>x.2 (this.2 h2)),if_neg (fun x=>x.2 h2)]
      · rw [if_pos ⟨hi,fun x=>h2 (this.1 x)⟩,if_pos ⟨hi,h2⟩]
    · rw [if_neg (fun x=>hi x.1),if_neg (fun x=>hi x.1)]
  unfold gM
  rw [hb,hb,hb]
  congr 1
  by_cases h2 : m.logState=2
  · rw [if_pos h2,if_pos (h.lst.2 h2)]
  · rw [if_neg h2,if_neg (fun x=>h2 (h.lst.1 x))]
structure Sh (C : MC) (m m' : MirS) : Prop where
  leg : ∀ i,i < C.L→stM m i=2→stM m' i=2
  log : m.logState=2→m'.logState=2
theorem Sh.le (h : Sh C m m') (i : Nat) : gB C m' i≤gB C m i := by
  unfold gB
  by_cases h1 : i < C.L∧stM m i≠2
  · rw [if_pos h1]; split <;> omega
  · rw [if_neg h1,if_neg]
    · omega
    · rintro ⟨h2,h3⟩
      exact h1 ⟨h2,fun x=>h3 (h.leg i h2 x)⟩
theorem Sh.lt (h : Sh C m m') (hx : (∃ i,i < C.L∧stM m i≠2∧stM m' i=2)∨m.logState≠2∧m'.logState=2) : gM C m' < gM C m := by
  have h0 := h.le 0
  have h1 := h.le 1
  have h2 := h.le 2
  have hL := C.hL
  have hlog : (if m'.logState=2 then 0 else 1)≤(if m.logState=2 then 0 else 1) := by
    by_cases e : m.logState=2
    · rw [if_pos e,if_pos (h.log e)]; omega
    · rw [if_neg e]; split <;> omega
  unfold gM
  rcases hx with ⟨i,i1,i2,i3⟩ | ⟨i1,i2⟩
  · have hs : gB C m' i < gB C m i := by
      have e1 : gB C m i=1 := if_pos ⟨i1,i2⟩
      have e2 : gB C m' i=0 := if_neg (fun x=>x.2 i3)
      omega
    have : i=0∨i=1∨i=2 := by omega
    rcases this with rfl | rfl | rfl <;> omega
  · rw [if_pos i2,if_neg i1]; omega
end
end Go.Proofs
namespace Go.Proofs
open Go.VG
structure OI (C : MC) (K : Nat) (lv : LV) (s : ArrS) (o : OwnS) : Prop where
  o1 : o.Open_1=(C.L : Int)
  o2 : o.Open_2=(C.sz : Int)
  o3 : o.Open_3=(C.rg : Int)
  o4 : o.Open_4=C.lg
  st : ∀ k ∈ o.Stale, ∃ i : Nat,i≤C.L∧k=i∧lv i=false
  sl : o.Stale.length≤K
  nl : ∀ i,i≤C.L→lv i=false→(i : Int) ∈ o.Stale∨miss s i=true∨i=C.L∧C.lg=false
  lo : ∀ i,i≤C.L→miss s i=true→(i : Int) ∈ o.Lost
  lr : ∀ k ∈ o.Lost, ∃ i : Nat,i≤C.L∧k=i∧lv i=false
  ll : o.Lost=lv.lost∧lv.lost.length≤10
  nc : ∀ i,i < C.L→lv.cp i=0
section
variable {C : MC} {K a i k : Nat} {s t u y : ArrS} {lv : LV} {m m' x : MirS} {w v : UInt64} {o : OwnS}
theorem OI.mono {K' : Nat} (h : OI C K lv s o) (hK : K≤K') : OI C K' lv s o := { h with sl := Nat.le_trans h.sl hK }
theorem OI.arr (h : OI C K lv s o) (hm : ∀ e,miss t e=miss s e) : OI C K lv t o := { h with nl := fun i hi hl=>by rw [hm]; exact h.nl i hi hl,lo := fun i hi hx=>h.lo i hi (by rw [← hm]; exact hx) }
theorem OI.set {o' : OwnS} (h : OI C K lv s o) (e1 : o'.Open_1=o.Open_1) (e2 : o'.Open_2=o.Open_2) (e3 : o'.Open_3=o.Open_3) (e4 : o'.Open_4=o.Open_4) (e5 : o'.Stale=o.Stale) (e6 : o'.Lost=o.Lost) : OI C K lv s o' :=
  ⟨e1.trans h.o1,e2.trans h.o2,e3.trans h.o3,e4.trans h.o4,by rw [e5]; exact h.st,by rw [e5]; exact h.sl,by rw [e5]; exact h.nl,by rw [e6]; exact h.lo,by rw [e6]; exact h.lr,by rw [e6]; exact h.ll,h.nc⟩
theorem OI.stale {o' : OwnS} {l : List Int} (h : OI C K lv s o) (hk : k≤C.L) (hl : lv k=false) (h1 : l.length≤o.Stale.length + 1) (h2 : ∀ z,z ∈ l↔z ∈ o.Stale∨z=(k : Int)) (e1 : o'.Open_1=o.Open_1) (e2 : o'.Open_2=o.Open_2) (e3 : o'.Open_3=o.Open_3) (e4 : o'.Open_4=o.Open_4) (e5 : o'.Stale=l) (e6 : o'.Lost=o.Lost) : OI C (K + 1) lv s o' :=
  ⟨e1.trans h.o1,e2.trans h.o2,e3.trans h.o3,e4.trans h.o4,by
    rw [e5]; intro z hz
    rcases (h2 z).1 hz with x | x
    · exact h.st z x
    · exact ⟨k,hk,x,hl⟩,by rw [e5]; have := h.sl; omega,by
    rw [e5]; intro i hi hli
    rcases h.nl i hi hli with x | x
    · exact .inl ((h2 _).2 (.inl x))
    · exact .inr x,by rw [e6]; exact h.lo,by rw [e6]; exact h.lr,by rw [e6]; exact h.ll,h.nc⟩
structure Dp (C : MC) (K : Nat) (lv : LV) (s : ArrS) (m : MirS) (t : List Sec) (i : Nat) (o : OwnS) (m' : MirS) : Prop where
  x : o.X=some m'
  oi : OI C (K + i) lv s o
  mi : MI C s lv m'
  t : o.T=t
  sh : Sh C m m'
  dirty : m'.dirty=m.dirty
  copied : m'.copied=m.copied
  leg : ∀ j : Nat,j < C.L→stM m' j=1→(j : Int) ∈ (failedL m).drop i
  log : m'.logState=1→C.lg=true→(C.L : Int) ∈ (failedL m).drop i
  dn : ∀ j : Nat,j < C.L→(j : Int) ∈ (failedL m).take i→stM m' j=2
  dnl : (C.L : Int) ∈ (failedL m).take i→m'.logState=2
theorem odrop_l1 (hmi : MI C s lv m) (hex : ∃ j,j < C.L∧lv j=true) (hK : K≤900000) (hlen : (failedL m).length≤4) {T : List Sec} : ∀ (N i : Nat) (o : OwnS) (m' : MirS),(failedL m).length - i < N→i≤(failedL m).length→Dp C K lv s m T i o m' →
    ∃ o' m'',volumegroupmake_Owner_drop_l1 s (failedL m) N o i=some (.inl o')∧Dp C K lv s m T (failedL m).length o' m''
  | 0,_,_,_,h,_,_=>absurd h (by omega)
  | N + 1,i,o,m',h,hi,hp=>by
    have hu : volumegroupmake_Owner_drop_l1 s (failedL m) (N + 1) o i=volumegroupmake_Owner_drop_l1_b s (failedL m) (volumegroupmake_Owner_drop_l1 s (failedL m) N) o i := rfl
    rw [hu]
    unfold volumegroupmake_Owner_drop_l1_b
    by_cases hlt : i < (failedL m).length
    · have hmem : (failedL m).getD i 0 ∈ failedL m := by simp [List.getD,hlt]
      have hdr : (failedL m).drop i=(failedL m).getD i 0::(failedL m).drop (i + 1) := by rw [List.drop_eq_getElem_cons hlt]; simp [List.getD,hlt]
      have htk : (failedL m).take (i + 1)=(failedL m).take i ++ [(failedL m).getD i 0] := getD_take_snoc hlt
      rw [if_pos (by omega)]
      -- which one
      have hwho : ∃ k : Nat,k≤C.L∧(failedL m).getD i 0=(k : Int)∧lv k=false∧miss s k=true∧(k=C.L→C.lg=true) := by
        rcases mem_failedL.1 hmem with ⟨j,j1,j2,j3⟩ | ⟨j1,j2,j3⟩
        · rw [hmi.len] at j1
          rcases (hmi.leg j j1).2.2 with ⟨-,z, -⟩ | ⟨z1,z | ⟨z2, -⟩⟩
          · rw [j2] at z; cases z
          · rw [j2] at z; cases z
          · exact ⟨j,by omega,j3,z1,z2,fun e=>by omega⟩
        · rw [hmi.len] at j3
          rcases hmi.log with ⟨-,z, -⟩ | ⟨z1,⟨-,z⟩ | ⟨z2,z3, -⟩⟩
          · rw [j2] at z; cases z
          · rw [j2] at z; cases z
          · exact ⟨C.L,Nat.le_refl _,j3,z1,z3,fun _=>z2⟩
      obtain ⟨k,k1,k2,k3,k4,k5⟩ := hwho
      rw [k2] at hdr htk ⊢
      rw [has_eq (by have := hp.oi.ll.2; rw [hp.oi.ll.1]; omega)]; simp only [Option.bind_some]
      rw [if_neg (by simpa using hp.oi.lo k k1 k4),hp.x]; simp only [Option.elim_some]
      obtain ⟨l',l1,l2,l3⟩ := add_eq (l:=o.Stale) (n:=(k : Int)) (by omega) (fun z hz=>by obtain ⟨i, -,rfl, -⟩ := hp.oi.st z hz; omega) (by have := hp.oi.sl; omega)
      by_cases hkL : k=C.L
      · subst hkL
        obtain ⟨d1,d2⟩ := drop_log hp.mi (k5 rfl) k3
        rw [d1]; simp only [Option.bind_some]
        rw [if_neg (by simp),l1]; simp only [Option.bind_some]
        rw [grd_t (inN64_of (by omega))]
        refine odrop_l1 hmi hex hK hlen N (i + 1) _ { m' with log := none,logState := 2 } (by omega) (by omega) ⟨rfl,hp.oi.stale (Nat.le_refl _) k3 l2 l3 rfl rfl rfl rfl rfl rfl,d2,hp.t,⟨hp.sh.leg,fun _=>rfl⟩,hp.dirty,hp.copied,fun j hj hs => ?_,fun hs=>(by cases hs),fun j hj hm => ?_,fun _=>rfl⟩
        · have := hp.leg j hj hs
          rw [hdr] at this
          rcases List.mem_cons.1 this with z | z
          · omega
          · exact z
        · rw [htk] at hm
          rcases List.mem_append.1 hm with z | z
          · exact hp.dn j hj z
          · have := List.mem_singleton.1 z; omega
      · have hkl : k < C.L := by omega
        obtain ⟨d1,d2⟩ := drop_leg hp.mi hp.oi.nc hex hkl k3
        rw [d1]; simp only [Option.bind_some]
        rw [if_neg (by simp),l1]; simp only [Option.bind_some]
        rw [grd_t (inN64_of (by omega))]
        have hkm : k < m'.legs.length := by rw [hp.mi.len]; exact hkl
        have hst : ∀ j,stM (dropM m' k) j=if j=k then 2 else stM m' j := fun j=>by
          unfold stM; rw [dropM_at hkm]; split <;> rfl
        refine odrop_l1 hmi hex hK hlen N (i + 1) _ (dropM m' k) (by omega) (by omega) ⟨rfl,hp.oi.stale k1 k3 l2 l3 rfl rfl rfl rfl rfl rfl,d2,hp.t,⟨fun j hj hs => ?_,hp.sh.log⟩,hp.dirty,hp.copied,fun j hj hs => ?_,fun hs hlg => ?_,fun j hj hm => ?_,fun hm => ?_⟩
        · rw [hst]; split
          · rfl
          · exact hp.sh.leg j hj hs
        · rw [hst] at hs
          split at hs
          · cases hs
          · rename_i hne
            have := hp.leg j hj hs
            rw [hdr] at this
            rcases List.mem_cons.1 this with z | z
            · exact absurd (by omega) hne
            · exact z
        · have := hp.log hs hlg
          rw [hdr] at this
          rcases List.mem_cons.1 this with z | z
          · omega
          · exact z
        · rw [hst]
          rw [htk] at hm
          rcases List.mem_append.1 hm with z | z
          · split
            · rfl
            · exact hp.dn j hj z
          · have := List.mem_singleton.1 z
            rw [if_pos (by omega)]
        · rw [htk] at hm
          rcases List.mem_append.1 hm with z | z
          · exact hp.dnl z
          · have := List.mem_singleton.1 z; omega
    · rw [if_neg (by omega)]
      have : i=(failedL m).length := by omega
      subst this
      exact ⟨o,m',rfl,hp⟩
theorem failedL_le (h : MI C s lv m) : (failedL m).length≤4 := by
  have h1 := @failsL_le m m.legs.length
  have h2 := C.hL
  have h3 := h.len
  unfold failedL
  rw [List.length_append]
  split
  · simp; omega
  · simp; omega
theorem odrop (hx : o.X=some m) (hoi : OI C K lv s o) (hmi : MI C s lv m) (hex : ∃ j,j < C.L∧lv j=true) (hnf : ¬ NF m) (hK : K≤900000) :
    ∃ o' m',volumegroupmake_Owner_drop o s=some (true,o')∧o'.X=some m' ∧ OI C (K + 4) lv s o' ∧ MI C s lv m' ∧ NF m' ∧ gM C m' < gM C m∧o'.T=o.T∧m'.dirty=m.dirty∧m'.copied=m.copied := by
  have hF := fuel_big
  have hlen := failedL_le hmi
  unfold volumegroupmake_Owner_drop
  rw [hx]; simp only [Option.elim_some]
  rw [failed_eq hmi.l6]; simp only [Option.bind_some]
  obtain ⟨o',m',h1,h2⟩ := odrop_l1 (T:=o.T) hmi hex hK hlen FUEL 0 { o with X := some m } m (by omega) (by omega)
    ⟨rfl,hoi.set rfl rfl rfl rfl rfl rfl,hmi,rfl,⟨fun _ _ h=>h,id⟩,rfl,rfl,fun j hj hs=>by rw [List.drop_zero]; exact mem_failedL.2 (.inl ⟨j,by rw [hmi.len]; exact hj,hs,rfl⟩),fun hs hlg=>by rw [List.drop_zero]; exact mem_failedL.2 (.inr ⟨by rw [hmi.hasLog]; exact hlg,hs,by rw [hmi.len]⟩),fun j hj hm=>by simp at hm,fun hm=>by simp at hm⟩
  rw [h1,seqO_inl]
  have hne : failedL m≠[] := fun e=>hnf (nf_iff.1 e)
  have hpos := List.length_pos_iff.2 hne
  rw [decide_eq_true (show (0 : Int) < (((failedL m).length : Nat) : Int) by omega)]
  refine ⟨o',m',rfl,h2.x,h2.oi.mono (by omega),h2.mi,⟨fun j hj hs => ?_,fun ⟨z1,z2⟩ => ?_⟩,h2.sh.lt ?_,h2.t,h2.dirty,h2.copied⟩
  · have := h2.leg j (by rw [← h2.mi.len]; exact hj) hs
    rw [List.drop_length] at this; cases this
  · have := h2.log z2 (by rw [← h2.mi.hasLog]; exact z1)
    rw [List.drop_length] at this; cases this
  · obtain ⟨k,hk⟩ := List.exists_mem_of_ne_nil _ hne
    rcases mem_failedL.1 hk with ⟨j,j1,j2,rfl⟩ | ⟨j1,j2,rfl⟩
    · rw [hmi.len] at j1
      exact .inl ⟨j,j1,by rw [j2]; decide,h2.dn j j1 (by rw [List.take_length]; exact hk)⟩
    · rw [hmi.len] at hk
      exact .inr ⟨by rw [j2]; decide,h2.dnl (by rw [List.take_length]; exact hk)⟩
end
end Go.Proofs
namespace Go.Proofs
open Go.VG
theorem secSet {t : List Sec} {i j : Nat} {y : Sec} (h : i < t.length) : (t.set i y).getD j s0=if j=i then y else t.getD j s0 := by
  simp only [List.getD,List.getElem?_set]
  by_cases e : i=j
  · subst e; simp [h]
  · rw [if_neg e,if_neg (fun x=>e x.symm)]
theorem secMap {t : List Sec} {g : Sec→Sec} {j : Nat} (h : j < t.length) : (t.map g).getD j s0=g (t.getD j s0) := by
  simp only [List.getD,List.getElem?_map]; rw [List.getElem?_eq_getElem h]; rfl
theorem wroteT_at {t : List Sec} {a b : Nat} {v : UInt64} {q : Bool} (h : a < t.length) : (wroteT t (a : Int) v q).getD b s0=if b=a then ⟨(t.getD a s0).some ++ [v],q,v⟩ else t.getD b s0 := by
  rw [wroteT_ok h,secSet h]
theorem wroteT_len {t : List Sec} {a : Nat} {v : UInt64} {q : Bool} (h : a < t.length) : (wroteT t (a : Int) v q).length=t.length := by rw [wroteT_ok h]; simp
theorem smallT_of {t : List Sec} {n : Nat} (h : ∀ a,a < n→(t.getD a s0).some.length≤100000) (hl : t.length=n) : smallT t=true := by
  unfold smallT
  rw [List.all_eq_true]
  intro y hy
  obtain ⟨i,hi,rfl⟩ := List.getElem_of_mem hy
  have := h i (by omega)
  simp only [List.getD,List.getElem?_eq_getElem hi,Option.getD_some] at this
  rw [Nat.ble_eq]; omega
structure UP (C : MC) (K : Nat) (lv : LV) (s : ArrS) (o : OwnS) (m : MirS) (ex : Nat→Prop) : Prop where
  x : o.X=some m
  oi : OI C K lv s o
  di : DI C K s o.T lv
  mi : MI C s lv m
  kn : ∀ a,a < C.sz → ¬ ex a→(o.T.getD a s0).known=true ∧ ∀ j,j < C.L→lv j=true→now s j a=(o.T.getD a s0).value
  sm : ∀ a,a < C.sz→(o.T.getD a s0).some.length≤K + 1
  dn : s.down=false
structure DN (C : MC) (K : Nat) (lv : LV) (s : ArrS) (o : OwnS) : Prop where
  oi : OI C K lv s o
  di : DI C K s o.T lv
  sm : ∀ a,a < C.sz→(o.T.getD a s0).some.length≤K + 1
section
variable {C : MC} {K K' a i k : Nat} {s t u y : ArrS} {lv : LV} {m m' x : MirS} {w v : UInt64} {o : OwnS} {ex : Nat→Prop} {T : List Sec}
theorem DI.mono (h : DI C K s T lv) (hK : K≤K') : DI C K' s T lv := { h with ok := h.ok.mono hK }
theorem UP.mono (h : UP C K lv s o m ex) (hK : K≤K') : UP C K' lv s o m ex := { h with oi := h.oi.mono hK,di := h.di.mono hK,sm := fun a ha=>Nat.le_trans (h.sm a ha) (by omega) }
theorem DN.mono (h : DN C K lv s o) (hK : K≤K') : DN C K' lv s o := { h with oi := h.oi.mono hK,di := h.di.mono hK,sm := fun a ha=>Nat.le_trans (h.sm a ha) (by omega) }
theorem UP.small (h : UP C K lv s o m ex) (hK : K≤90000) : smallT o.T=true := smallT_of (fun a ha=>Nat.le_trans (h.sm a ha) (by omega)) h.di.tl
theorem UP.tl (h : UP C K lv s o m ex) (ha : a < C.sz) : a < o.T.length := by rw [h.di.tl]; exact ha
theorem UP.dropped (h : UP C K lv s o m ex) (hnf : ¬ NF m) (hK : K≤80000) : ∃ o' m',volumegroupmake_Owner_drop o s=some (true,o')∧UP C (K + 4) lv s o' m' ex∧NF m' ∧ gM C m' < gM C m∧o'.T=o.T∧m'.dirty=m.dirty∧m'.copied=m.copied := by
  obtain ⟨o',m',h1,h2,h3,h4,h5,h6,h7,h8,h9⟩ := odrop h.x h.oi h.mi h.di.ex hnf (by omega)
  exact ⟨o',m',h1,⟨h2,h3,by rw [h7]; exact h.di.mono (by omega),h4,by rw [h7]; exact h.kn,by rw [h7]; exact fun a ha=>Nat.le_trans (h.sm a ha) (by omega),h.dn⟩,h5,h6,h7,h8,h9⟩
theorem setX (hx : o.X=some m) : ({ o with X := some m } : OwnS)=o := by cases o; cases hx; rfl
theorem UP.fd (h : UP C K lv s o m ex) (hf : Fd s m m' 0) : UP C K lv s { o with X := some m' } m' ex :=
  ⟨rfl,h.oi.set rfl rfl rfl rfl rfl rfl,h.di,h.mi.fd hf,h.kn,h.sm,h.dn⟩
theorem oread_l1 (ha : a < C.sz) {q : Bool} : ∀ (N n : Nat) (K : Nat) (o : OwnS) (m : MirS) (w0 : UInt64) (e : Int),9 - n < N→n + gM C m≤5→K + 4 * gM C m≤70000→UP C K lv s o m (fun _=>False)→(e=0∧NF m∧w0=(o.T.getD a s0).value∨e=18 ∧ ¬ NF m) →
    ∃ o' m',volumegroupmake_Owner_Read_l1 (a : Int) N o s n w0 e=some (.inl ((o.T.getD a s0).value,0,o',s))∧UP C (K + 4 * gM C m) lv s o' m' (fun _=>False)∧NF m' ∧ o'.T=o.T∧m'.dirty=m.dirty∧m'.copied=m.copied
  | 0,_,_,_,_,_,_,h,_,_,_,_=>absurd h (by omega)
  | N + 1,n,K,o,m,w0,e,h,hn,hK,hu,he=>by
    have hun : volumegroupmake_Owner_Read_l1 (a : Int) (N + 1) o s n w0 e=volumegroupmake_Owner_Read_l1_b (a : Int) (volumegroupmake_Owner_Read_l1 (a : Int) N) o s n w0 e := rfl
    rw [hun]
    unfold volumegroupmake_Owner_Read_l1_b
    rcases he with ⟨rfl,h1,rfl⟩ | ⟨rfl,h1⟩
    · rw [if_neg (fun x=>absurd x.2 (by decide))]
      exact ⟨o,m,rfl,hu.mono (by omega),h1,rfl,rfl,rfl⟩
    · rw [if_pos ⟨by omega,rfl⟩]
      obtain ⟨o',m',d1,d2,d3,d4,d5,d6,d7⟩ := hu.dropped h1 (by omega)
      rw [d1]; simp only [Option.bind_some]
      rw [if_neg (by simp),d2.x]; simp only [Option.elim_some]
      have hkn := (d2.kn a ha (fun x=>x)).2
      obtain ⟨m2,f1,f2⟩ := read_u (w:=(o'.T.getD a s0).value) d2.mi d2.oi.nc d3 d2.di.ok d2.dn ha d2.di.ex hkn
      have hg : gM C m2=gM C m' := f1.mks.g d2.mi.len
      have hdi : m2.dirty=m'.dirty := by rw [f1.oth]
      have hco : m2.copied=m'.copied := by rw [f1.oth]
      rcases f2 with ⟨f2,f3⟩ | ⟨⟨w',f2⟩,f3⟩
      · rw [f2]; simp only [Option.bind_some]
        obtain ⟨o3,m3,g1,g2,g3,g4,g5,g6⟩ := oread_l1 ha (q:=q) N (n + 1) (K + 4) _ m2 _ 0 (by omega) (by omega) (by omega) (d2.fd f1) (.inl ⟨rfl,f3,rfl⟩)
        rw [← d5]
        exact ⟨o3,m3,g1,g2.mono (by omega),g3,g4,g5.trans (hdi.trans d6),g6.trans (hco.trans d7)⟩
      · rw [f2]; simp only [Option.bind_some]
        obtain ⟨o3,m3,g1,g2,g3,g4,g5,g6⟩ := oread_l1 ha (q:=q) N (n + 1) (K + 4) _ m2 w' 18 (by omega) (by omega) (by omega) (d2.fd f1) (.inr ⟨rfl,f3⟩)
        rw [← d5]
        exact ⟨o3,m3,g1,g2.mono (by omega),g3,g4,g5.trans (hdi.trans d6),g6.trans (hco.trans d7)⟩
theorem oread (hu : UP C K lv s o m (fun _=>False)) (hnf : NF m) (ha : a < C.sz) (hK : K≤50000) {q : Bool} :
    ∃ o' m',volumegroupmake_Owner_Read o (a : Int) q s=some (0,true,o',s)∧UP C (K + 20) lv s o' m' (fun _=>False)∧NF m' ∧ o'.T=o.T∧m'.dirty=m.dirty∧m'.copied=m.copied := by
  have hF := fuel_big
  have hg4 := @gM_le C m
  unfold volumegroupmake_Owner_Read
  rw [hu.x]; simp only [Option.elim_some]
  obtain ⟨k1,k2⟩ := hu.kn a ha (fun x=>x)
  obtain ⟨m2,f1,f2⟩ := read_u (w:=(o.T.getD a s0).value) hu.mi hu.oi.nc hnf hu.di.ok hu.dn ha hu.di.ex k2
  have hg : gM C m2=gM C m := f1.mks.g hu.mi.len
  have hdi : m2.dirty=m.dirty := by rw [f1.oth]
  have hco : m2.copied=m.copied := by rw [f1.oth]
  have fin : ∀ {w' : UInt64} {e : Int},(e=0∧NF m2∧w' = (o.T.getD a s0).value∨e=18 ∧ ¬ NF m2)→mirror_Mirror_Read m (a : Int) s=some (w',e,m2,s) →
      ∃ o' m',(Option.bind (mirror_Mirror_Read m (a : Int) s) fun r7 =>
        seqO (volumegroupmake_Owner_Read_l1 (a : Int) FUEL ({ o with X := (some r7.2.2.1) }) r7.2.2.2 0 r7.1 r7.2.1) fun a16 =>
        if (a16.2.1=(5 : Int)) then
          some (a16.2.1,true,a16.2.2.1,a16.2.2.2)
        else
          if (a16.2.1=(0 : Int)) then
            grd (decide (smallT a16.2.2.1.T=true)) <|
            some ((a16.2.1,(rdTR a16.2.2.1.T (a : Int) a16.1), { a16.2.2.1 with T := (rdTS a16.2.2.1.T (a : Int) a16.1 q) },a16.2.2.2))
          else
            some (a16.2.1,false,a16.2.2.1,a16.2.2.2))=some (0,true,o',s)∧UP C (K + 20) lv s o' m' (fun _=>False)∧NF m' ∧ o'.T=o.T∧m'.dirty=m.dirty∧m'.copied=m.copied := by
    intro w' e h1 h2
    rw [h2]; simp only [Option.bind_some]
    obtain ⟨o3,m3,g1,g2,g3,g4,g5,g6⟩ := oread_l1 ha (q:=q) FUEL 0 K _ m2 w' e (by omega) (by omega) (by omega) (hu.fd f1) h1
    have e1 : ({ o with X := some m2 } : OwnS).T=o.T := rfl
    rw [e1] at g1 g4
    rw [g1,seqO_inl]
    have hl : 0≤(a : Int)∧(a : Int) < (o3.T.length : Int) := ⟨by omega,by have := g2.tl ha; omega⟩
    rw [if_neg (by simp),if_pos rfl,grd_t (decide_eq_true (g2.small (by omega)))]
    have e2 : rdTR o3.T (a : Int) (o.T.getD a s0).value=true := by
      unfold rdTR
      rw [if_pos hl,Int.toNat_natCast,g4,if_pos k1,decide_eq_true rfl]
    have e3 : rdTS o3.T (a : Int) (o.T.getD a s0).value q=o3.T := by
      unfold rdTS
      rw [if_pos hl,Int.toNat_natCast,g4,if_pos k1]
    rw [e2,e3]
    have e4 : ({ o3 with T := o3.T } : OwnS)=o3 := rfl
    rw [e4]
    exact ⟨o3,m3,rfl,g2.mono (by omega),g3,g4,g5.trans hdi,g6.trans hco⟩
  rcases f2 with ⟨f2,f3⟩ | ⟨⟨w',f2⟩,f3⟩
  · exact fin (.inl ⟨rfl,f3,rfl⟩) f2
  · exact fin (.inr ⟨rfl,f3⟩) f2
theorem wr_di {q : Bool} (h : DI C K s T lv) (hw : WrD C K' s lv a v t) (ha : a < C.sz) : DI C K' t (wroteT T (a : Int) v q) lv := by
  have hlt : a < T.length := by rw [h.tl]; exact ha
  refine ⟨hw.ok,by rw [wroteT_len hlt]; exact h.tl,h.ex,fun i hi hl=>by rw [hw.miss]; exact h.miss i hi hl,h.lgl,fun b hb j hj hl c hc => ?_,fun hl c hc=>hw.head c hc hl,fun hl r hr => ?_⟩
  · rw [wroteT_at hlt]
    rcases hw.cnd j hj hl b hb c hc with x | ⟨x1,x2⟩
    · have := h.cnd b hb j hj hl c x
      split
      · rename_i e; subst e; exact List.mem_append_left _ this
      · exact this
    · rw [if_pos x1,x2]; exact List.mem_append_right _ (List.mem_singleton.2 rfl)
  · rcases h.c hl r hr with x | ⟨f,x⟩
    · exact .inl (hw.set r hr hl x)
    · by_cases e : r=a / C.rg
      · rcases hw.reg hl with z | z
        · rw [e]; exact .inl z
        · exact .inr ⟨f,fun b hb hbr j hj hlj c hc=>x b hb hbr j hj hlj c (by rw [z j hj hlj b hb] at hc; exact hc)⟩
      · refine .inr ⟨f,fun b hb hbr j hj hlj c hc => ?_⟩
        rcases hw.cnd j hj hlj b hb c hc with z | ⟨z, -⟩
        · exact x b hb hbr j hj hlj c z
        · exact absurd (by rw [← hbr,z]) e
theorem wr_sm {q : Bool} (h : ∀ b,b < C.sz→(T.getD b s0).some.length≤K + 1) (htl : T.length=C.sz) (ha : a < C.sz) : ∀ b,b < C.sz→((wroteT T (a : Int) v q).getD b s0).some.length≤(K + 1) + 1 := fun b hb=>by
  rw [wroteT_at (by rw [htl]; exact ha)]
  split
  · simp; exact h a ha
  · have := h b hb; omega
theorem owrite1 (hu : UP C K lv s o m ex) (hex : ∀ b,ex b→b=a) (hnf : NF m) (ha : a < C.sz) (hK : K≤80000) :
    ∃ e m' s',mirror_Mirror_Write m (a : Int) v s=some (e,m',s') ∧
      (e=0∧NF m' ∧ UP C (K + 8) lv s' { o with X := some m',T := wroteT o.T (a : Int) v true } m' (fun _=>False)∧Mk m m' ∧ Wr C (K + 8) s lv a v s' ∨
       e=18 ∧ ¬ NF m' ∧ UP C (K + 8) lv s' { o with X := some m',T := wroteT o.T (a : Int) v false } m' (fun b=>b=a)∧Mk m m' ∧ Wr C (K + 8) s lv a v s' ∨
       e=5∧s.fuse≠0∧DN C (K + 8) lv s' { o with X := some m',T := wroteT o.T (a : Int) v false } ∧ WrD C (K + 8) s lv a v s') := by
  have hlt : a < o.T.length := hu.tl ha
  obtain ⟨e,m',s',h1,h2⟩ := write_eq (v:=v) hu.mi hu.oi.nc hnf hu.di.ok hu.dn (by omega) ha
  refine ⟨e,m',s',h1,?_⟩
  have hoi : ∀ {q : Bool},WrD C (K + 8) s lv a v s' → OI C (K + 8) lv s' { o with X := some m',T := wroteT o.T (a : Int) v q } := fun {q} hw=>by
    have h9 : OI C K lv s { o with X := some m',T := wroteT o.T (a : Int) v q } := hu.oi.set rfl rfl rfl rfl rfl rfl
    exact (h9.arr hw.miss).mono (by omega)
  have hsm : ∀ {q : Bool}, ∀ b,b < C.sz→((wroteT o.T (a : Int) v q).getD b s0).some.length≤K + 8 + 1 := fun b hb=>Nat.le_trans (wr_sm hu.sm hu.di.tl ha b hb) (by omega)
  have hoth : ∀ {q : Bool},Wr C (K + 8) s lv a v s' → ∀ b,b < C.sz→b≠a→((wroteT o.T (a : Int) v q).getD b s0).known=true ∧ ∀ j,j < C.L→lv j=true→now s' j b=((wroteT o.T (a : Int) v q).getD b s0).value := fun hw b hb hba=>by
    rw [wroteT_at hlt,if_neg hba]
    obtain ⟨k1,k2⟩ := hu.kn b hb (fun x=>hba (hex b x))
    exact ⟨k1,fun j hj hl=>by rw [hw.now j hj hl b hb hba]; exact k2 j hj hl⟩
  rcases h2 with ⟨rfl,g1,g2,g3,g4,g5⟩ | ⟨rfl,g1,g2,g3,g4⟩ | ⟨rfl,g1,g2⟩
  · refine .inl ⟨rfl,g1,⟨rfl,hoi g4.toWrD,wr_di hu.di g4.toWrD ha,g2,fun b hb _ => ?_,hsm,g4.dn⟩,g3,g4⟩
    by_cases e : b=a
    · subst e
      show ((wroteT o.T (b : Int) v true).getD b s0).known=true ∧ ∀ j,j < C.L→lv j=true→now s' j b=((wroteT o.T (b : Int) v true).getD b s0).value
      rw [wroteT_at hlt,if_pos rfl]
      exact ⟨rfl,g5⟩
    · exact hoth g4 b hb e
  · exact .inr (.inl ⟨rfl,g1,⟨rfl,hoi g4.toWrD,wr_di hu.di g4.toWrD ha,g2,fun b hb hba=>hoth g4 b hb hba,hsm,g4.dn⟩,g3,g4⟩)
  · exact .inr (.inr ⟨rfl,g1,⟨hoi g2,wr_di hu.di g2 ha,hsm⟩,g2⟩)
end
end Go.Proofs
namespace Go.Proofs
open Go.VG
structure Ev (C : MC) (lv : LV) (s t : ArrS) (p : Nat→Prop) : Prop where
  miss : ∀ e,Go.Proofs.miss t e=Go.Proofs.miss s e
  dead : ∀ j,j < C.L→lv j=false → ∀ b,b < C.sz→now t j b=now s j b
  bit : lv C.L=true → ∀ c ∈ cand t C.L 1, ∀ r,r < C.R→tb c r=true→p r ∨ ∃ c' ∈ cand s C.L 1,tb c' r=true
section
variable {C : MC} {K K' a i k : Nat} {s t u y : ArrS} {lv : LV} {m m' x : MirS} {w v : UInt64} {o : OwnS} {ex p : Nat→Prop} {T : List Sec}
theorem Ev.refl : Ev C lv s s p := ⟨fun _=>rfl,fun _ _ _ _ _=>rfl,fun _ c hc _ _ hb => .inr ⟨c,hc,hb⟩⟩
theorem Ev.trans (h : Ev C lv s t p) (h' : Ev C lv t u p) : Ev C lv s u p :=
  ⟨fun e=>(h'.miss e).trans (h.miss e),fun j hj hl b hb=>(h'.dead j hj hl b hb).trans (h.dead j hj hl b hb),fun hl c hc r hr hb=>by
    rcases h'.bit hl c hc r hr hb with x | ⟨c',x,x2⟩
    · exact .inl x
    · exact h.bit hl c' x r hr x2⟩
theorem WrD.ev (h : WrD C K s lv a v t) : Ev C lv s t (fun r=>r=a / C.rg) := ⟨h.miss,h.dead,h.bit⟩
theorem FlD.ev (h : FlD C K s lv t) : Ev C lv s t p := ⟨h.miss,fun j hj _ b hb=>h.now j b hj hb,fun hl c hc r hr hb => .inr (h.bit hl c hc r hr hb)⟩
theorem owrite_l1 (ha : a < C.sz) {s9 : ArrS} : ∀ (N n K : Nat) (o : OwnS) (m : MirS) (s : ArrS) (e : Int),9 - n < N→n + gM C m≤5→K + 16 * gM C m≤70000→o.X=some m→Ev C lv s9 s (fun r=>r=a / C.rg) →
    (e=0∧NF m∧UP C K lv s { o with T := wroteT o.T (a : Int) v true } m (fun _=>False)∧(s9.fuse=0→s.fuse=0)∨e=18 ∧ ¬ NF m∧UP C K lv s { o with T := wroteT o.T (a : Int) v false } m (fun b=>b=a)∧(s9.fuse=0→s.fuse=0)∨e=5∧s9.fuse≠0∧DN C K lv s { o with T := wroteT o.T (a : Int) v false }) →
    ∃ e' o' m' s',volumegroupmake_Owner_Write_l1 (a : Int) v N o s e n=some (.inl (e',o',s'))∧Ev C lv s9 s' (fun r=>r=a / C.rg) ∧
      (e' = 0∧NF m' ∧ UP C (K + 16 * gM C m) lv s' { o' with T := wroteT o'.T (a : Int) v true } m' (fun _=>False)∧(s9.fuse=0→s'.fuse=0)∧m'.dirty=m.dirty∧m'.copied=m.copied∨e' = 5∧s9.fuse≠0∧DN C (K + 16 * gM C m) lv s' { o' with T := wroteT o'.T (a : Int) v false })
  | 0,_,_,_,_,_,_,h,_,_,_,_,_=>absurd h (by omega)
  | N + 1,n,K,o,m,s,e,h,hn,hK,hX,hev,he=>by
    have hun : volumegroupmake_Owner_Write_l1 (a : Int) v (N + 1) o s e n=volumegroupmake_Owner_Write_l1_b (a : Int) v (volumegroupmake_Owner_Write_l1 (a : Int) v N) o s e n := rfl
    rw [hun]
    unfold volumegroupmake_Owner_Write_l1_b
    rcases he with ⟨rfl,h1,h2,h3⟩ | ⟨rfl,h1,h2,h3⟩ | ⟨rfl,h1,h2⟩
    · rw [if_neg (fun x=>absurd x.2 (by decide))]
      exact ⟨0,o,m,s,rfl,hev,.inl ⟨rfl,h1,h2.mono (by omega),h3,rfl,rfl⟩⟩
    · rw [if_pos ⟨by omega,rfl⟩]
      have hsm : smallT o.T=true := by
        have hlen : o.T.length=C.sz := by
          have h9 := h2.di.tl
          have h8 : (wroteT o.T (a : Int) v false).length=C.sz := h9
          unfold wroteT at h8
          split at h8
          · simpa using h8
          · exact h8
        refine smallT_of (fun b hb => ?_) hlen
        have h9 := h2.sm b hb
        have h8 : ((wroteT o.T (a : Int) v false).getD b s0).some.length≤K + 1 := h9
        rw [wroteT_at (by rw [hlen]; exact ha)] at h8
        split at h8
        · rename_i e; subst e
          have h6 : ((o.T.getD b s0).some ++ [v]).length≤K + 1 := h8
          rw [List.length_append] at h6; omega
        · omega
      rw [grd_t (decide_eq_true hsm)]
      obtain ⟨o',m',d1,d2,d3,d4,d5,d6,d7⟩ := h2.dropped h1 (by omega)
      rw [d1]; simp only [Option.bind_some]
      rw [if_neg (by simp),d2.x]; simp only [Option.elim_some]
      obtain ⟨e,m2,s2,w1,w2⟩ := owrite1 (v:=v) d2 (fun b hb=>hb) d3 ha (by omega)
      rw [w1]; simp only [Option.bind_some]
      rcases w2 with ⟨rfl,g1,g2,g3,g4⟩ | ⟨rfl,g1,g2,g3,g4⟩ | ⟨rfl,g1,g2,g3⟩
      · have hg : gM C m2=gM C m' := g3.g d2.mi.len
        obtain ⟨e',o3,m3,s3,q1,q2,q3⟩ := owrite_l1 ha (s9:=s9) N (n + 1) (K + 4 + 8) { o' with X := some m2 } m2 s2 0 (by omega) (by omega) (by omega) rfl (hev.trans g4.toWrD.ev) (.inl ⟨rfl,g1,g2,fun hf=>g4.fz (h3 hf)⟩)
        refine ⟨e',o3,m3,s3,q1,q2,?_⟩
        rcases q3 with ⟨q3,q4,q5,q6,q7,q8⟩ | ⟨q3,q4,q5⟩
        · exact .inl ⟨q3,q4,q5.mono (by omega),q6,q7.trans (g3.dirty.trans d6),q8.trans (g3.copied.trans d7)⟩
        · exact .inr ⟨q3,q4,q5.mono (by omega)⟩
      · have hg : gM C m2=gM C m' := g3.g d2.mi.len
        obtain ⟨e',o3,m3,s3,q1,q2,q3⟩ := owrite_l1 ha (s9:=s9) N (n + 1) (K + 4 + 8) { o' with X := some m2 } m2 s2 18 (by omega) (by omega) (by omega) rfl (hev.trans g4.toWrD.ev) (.inr (.inl ⟨rfl,g1,g2,fun hf=>g4.fz (h3 hf)⟩))
        refine ⟨e',o3,m3,s3,q1,q2,?_⟩
        rcases q3 with ⟨q3,q4,q5,q6,q7,q8⟩ | ⟨q3,q4,q5⟩
        · exact .inl ⟨q3,q4,q5.mono (by omega),q6,q7.trans (g3.dirty.trans d6),q8.trans (g3.copied.trans d7)⟩
        · exact .inr ⟨q3,q4,q5.mono (by omega)⟩
      · have hN : ∃ N',N=N' + 1 := ⟨N - 1,by omega⟩
        obtain ⟨N',rfl⟩ := hN
        have hun2 : volumegroupmake_Owner_Write_l1 (a : Int) v (N' + 1) { o' with X := some m2 } s2 5 (n + 1)=volumegroupmake_Owner_Write_l1_b (a : Int) v (volumegroupmake_Owner_Write_l1 (a : Int) v N') { o' with X := some m2 } s2 5 (n + 1) := rfl
        rw [hun2]
        unfold volumegroupmake_Owner_Write_l1_b
        rw [if_neg (fun x=>absurd x.2 (by decide))]
        exact ⟨5,_,m2,s2,rfl,hev.trans g3.ev,.inr ⟨rfl,fun hf=>g1 (h3 hf),g2.mono (by omega)⟩⟩
    · rw [if_neg (fun x=>absurd x.2 (by decide))]
      exact ⟨5,o,m,s,rfl,hev,.inr ⟨rfl,h1,h2.mono (by omega)⟩⟩
theorem owrite (hu : UP C K lv s o m (fun _=>False)) (hnf : NF m) (ha : a < C.sz) (hK : K≤50000) :
    ∃ e o' s',volumegroupmake_Owner_Write o (a : Int) v s=some (e,true,o',s')∧Ev C lv s s' (fun r=>r=a / C.rg) ∧
      (e=0∧(s.fuse=0→s'.fuse=0)∧(∃ m',UP C (K + 80) lv s' o' m' (fun _=>False)∧NF m' ∧ m'.dirty=m.dirty∧m'.copied=m.copied)∨e=5∧s.fuse≠0∧DN C (K + 80) lv s' o') := by
  have hF := fuel_big
  have hg4 := @gM_le C m
  unfold volumegroupmake_Owner_Write
  rw [hu.x]; simp only [Option.elim_some]
  obtain ⟨e,m2,s2,w1,w2⟩ := owrite1 (v:=v) hu (fun b hb=>hb.elim) hnf ha (by omega)
  rw [w1]; simp only [Option.bind_some]
  have fin : ∀ {e : Int},(Ev C lv s s2 (fun r=>r=a / C.rg))→gM C m2≤4→(e≠5→m2.dirty=m.dirty∧m2.copied=m.copied) →
      (e=0∧NF m2∧UP C (K + 8) lv s2 { o with X := some m2,T := wroteT o.T (a : Int) v true } m2 (fun _=>False)∧(s.fuse=0→s2.fuse=0)∨e=18 ∧ ¬ NF m2∧UP C (K + 8) lv s2 { o with X := some m2,T := wroteT o.T (a : Int) v false } m2 (fun b=>b=a)∧(s.fuse=0→s2.fuse=0)∨e=5∧s.fuse≠0∧DN C (K + 8) lv s2 { o with X := some m2,T := wroteT o.T (a : Int) v false }) →
      ∃ e' o' s',(seqO (volumegroupmake_Owner_Write_l1 (a : Int) v FUEL ({ o with X := (some m2) }) s2 e 0) fun a15 =>
        grd (decide (smallT a15.2.1.T=true)) <|
        some ((a15.1,((decide (a15.1=(0 : Int))) || (decide (a15.1=(5 : Int)))), { a15.2.1 with T := (wroteT a15.2.1.T (a : Int) v ((decide (a15.1=(0 : Int))))) },a15.2.2)))=some (e',true,o',s')∧Ev C lv s s' (fun r=>r=a / C.rg) ∧
      (e' = 0∧(s.fuse=0→s'.fuse=0)∧(∃ m',UP C (K + 80) lv s' o' m' (fun _=>False)∧NF m' ∧ m'.dirty=m.dirty∧m'.copied=m.copied)∨e' = 5∧s.fuse≠0∧DN C (K + 80) lv s' o') := by
    intro e hev hg hdm hc
    obtain ⟨e',o3,m3,s3,q1,q2,q3⟩ := owrite_l1 ha (s9:=s) FUEL 0 (K + 8) { o with X := some m2 } m2 s2 e (by omega) (by omega) (by omega) rfl hev hc
    rw [q1,seqO_inl]
    have hsm : ∀ {q : Bool},(wroteT o3.T (a : Int) v q).length=C.sz→(∀ b,b < C.sz→((wroteT o3.T (a : Int) v q).getD b s0).some.length≤K + 8 + 16 * gM C m2 + 1)→smallT o3.T=true := fun {q} h8 h9=>by
      have hlen : o3.T.length=C.sz := by
        unfold wroteT at h8
        split at h8
        · simpa using h8
        · exact h8
      refine smallT_of (fun b hb => ?_) hlen
      have h7 := h9 b hb
      rw [wroteT_at (by rw [hlen]; exact ha)] at h7
      split at h7
      · rename_i e; subst e
        have h6 : ((o3.T.getD b s0).some ++ [v]).length≤K + 8 + 16 * gM C m2 + 1 := h7
        rw [List.length_append] at h6; omega
      · omega
    rcases q3 with ⟨rfl,q4,q5,q6,q7,q8⟩ | ⟨rfl,q4,q5⟩
    · rw [grd_t (decide_eq_true (hsm q5.di.tl q5.sm))]
      by_cases he5 : e=5
      · rcases hc with ⟨z, -⟩ | ⟨z, -⟩ | ⟨-,z1,z2⟩
        · rw [he5] at z; cases z
        · rw [he5] at z; cases z
        · subst he5
          obtain ⟨N',hN⟩ : ∃ N',FUEL=N' + 1 := ⟨FUEL - 1,by omega⟩
          rw [hN] at q1
          have hun2 : volumegroupmake_Owner_Write_l1 (a : Int) v (N' + 1) { o with X := some m2 } s2 5 0=volumegroupmake_Owner_Write_l1_b (a : Int) v (volumegroupmake_Owner_Write_l1 (a : Int) v N') { o with X := some m2 } s2 5 0 := rfl
          rw [hun2] at q1
          unfold volumegroupmake_Owner_Write_l1_b at q1
          rw [if_neg (fun x=>absurd x.2 (by decide))] at q1
          simp at q1
      · obtain ⟨hd1,hd2⟩ := hdm he5
        exact ⟨_,_,_,rfl,q2,.inl ⟨rfl,q6,m3,q5.mono (by omega),q4,q7.trans hd1,q8.trans hd2⟩⟩
    · rw [grd_t (decide_eq_true (hsm q5.di.tl q5.sm))]
      exact ⟨_,_,_,rfl,q2,.inr ⟨rfl,q4,q5.mono (by omega)⟩⟩
  rcases w2 with ⟨rfl,g1,g2,g3,g4⟩ | ⟨rfl,g1,g2,g3,g4⟩ | ⟨rfl,g1,g2,g3⟩
  · exact fin g4.toWrD.ev gM_le (fun _=>⟨g3.dirty,g3.copied⟩) (.inl ⟨rfl,g1,g2,g4.fz⟩)
  · exact fin g4.toWrD.ev gM_le (fun _=>⟨g3.dirty,g3.copied⟩) (.inr (.inl ⟨rfl,g1,g2,g4.fz⟩))
  · exact fin g3.ev gM_le (fun x=>absurd rfl x) (.inr (.inr ⟨rfl,g1,g2⟩))
end
end Go.Proofs
namespace Go.Proofs
open Go.VG
section
variable {C : MC} {K K' a i k : Nat} {s t u y : ArrS} {lv : LV} {m m' x : MirS} {w v : UInt64} {o : OwnS} {ex p : Nat→Prop} {T : List Sec}
theorem fl_di (h : DI C K s T lv) (hk : ∀ a,a < C.sz → ∀ j,j < C.L→lv j=true→now s j a=(T.getD a s0).value) (hf : FlD C K' s lv t) : DI C K' t T lv := by
  refine ⟨hf.ok,h.tl,h.ex,fun i hi hl=>by rw [hf.miss]; exact h.miss i hi hl,h.lgl,fun b hb j hj hl c hc=>h.cnd b hb j hj hl c (hf.sub j hj hl b hb c hc),hf.head,fun hl r hr => ?_⟩
  rcases hf.c hl with z | z
  · rcases h.c hl r hr with x | ⟨f,x⟩
    · exact .inl (z r hr x)
    · exact .inr ⟨f,fun b hb hbr j hj hlj c hc=>x b hb hbr j hj hlj c (hf.sub j hj hlj b hb c hc)⟩
  · refine .inr ⟨fun b=>(T.getD b s0).value,fun b hb _ j hj hlj c hc => ?_⟩
    rw [z j hj hlj b hb,List.mem_singleton] at hc
    rw [hc]; exact hk b hb j hj hlj
theorem flT_at (htl : T.length=C.sz) (ha : a < C.sz) : (flushedT T).getD a s0=flushX (T.getD a s0) := by
  unfold flushedT; exact secMap (by omega)
theorem fl_di2 (h : DI C K t T lv) (hk : ∀ a,a < C.sz→(T.getD a s0).known=true ∧ ∀ j,j < C.L→lv j=true→now t j a=(T.getD a s0).value) (hc1 : ∀ j,j < C.L→lv j=true → ∀ b,b < C.sz→cand t j b=[now t j b]) : DI C K t (flushedT T) lv := by
  refine ⟨h.ok,by unfold flushedT; simp; exact h.tl,h.ex,h.miss,h.lgl,fun b hb j hj hl c hc => ?_,h.head,h.c⟩
  rw [flT_at h.tl hb]
  obtain ⟨k1,k2⟩ := hk b hb
  unfold flushX
  rw [if_pos k1]
  rw [hc1 j hj hl b hb,List.mem_singleton] at hc
  rw [hc,k2 j hj hl]; exact List.mem_singleton.2 rfl
theorem oflush1 (hu : UP C K lv s o m (fun _=>False)) (hnf : NF m) (hK : K≤80000) :
    ∃ e m' s',mirror_Mirror_Flush m s=some (e,m',s')∧Ev C lv s s' p ∧
      (e=0∧NF m' ∧ UP C (K + 12) lv s' { o with X := some m' } m' (fun _=>False)∧Mk m m' ∧ (s.fuse=0→s'.fuse=0)∧(∀ j,j < C.L→lv j=true → ∀ b,b < C.sz→cand s' j b=[now s' j b]) ∨
       e=18 ∧ ¬ NF m' ∧ UP C (K + 12) lv s' { o with X := some m' } m' (fun _=>False)∧Mk m m' ∧ (s.fuse=0→s'.fuse=0) ∨
       e=5∧s.fuse≠0∧DN C (K + 12) lv s' { o with X := some m' }) := by
  obtain ⟨e,m',s',h1,h2⟩ := flush_eq hu.mi hnf hu.di.ok hu.dn (by omega)
  have hk : ∀ a,a < C.sz → ∀ j,j < C.L→lv j=true→now s j a=(o.T.getD a s0).value := fun a ha=>(hu.kn a ha (fun x=>x)).2
  have hoi : FlD C (K + 12) s lv s' → OI C (K + 12) lv s' { o with X := some m' } := fun hf=>by
    have h9 : OI C K lv s { o with X := some m' } := hu.oi.set rfl rfl rfl rfl rfl rfl
    exact (h9.arr hf.miss).mono (by omega)
  have hsm : ∀ a,a < C.sz→(o.T.getD a s0).some.length≤K + 12 + 1 := fun a ha=>Nat.le_trans (hu.sm a ha) (by omega)
  have hkn : FlD C (K + 12) s lv s' → ∀ a,a < C.sz → ¬ False→(o.T.getD a s0).known=true ∧ ∀ j,j < C.L→lv j=true→now s' j a=(o.T.getD a s0).value := fun hf a ha _=>by
    obtain ⟨k1,k2⟩ := hu.kn a ha (fun x=>x)
    exact ⟨k1,fun j hj hl=>by rw [hf.now j a hj ha]; exact k2 j hj hl⟩
  rcases h2 with ⟨rfl,g1,g2,g3,g4,g5⟩ | ⟨rfl,g1,g2,g3,g4⟩ | ⟨rfl,g1,g2⟩
  · exact ⟨_,m',s',h1,g4.toFlD.ev,.inl ⟨rfl,g1,⟨rfl,hoi g4.toFlD,fl_di hu.di hk g4.toFlD,g2,hkn g4.toFlD,hsm,g4.dn⟩,g3,g4.fz,fun j hj hl b hb=>by rw [g5 j hj hl b hb,g4.now j b hj hb]⟩⟩
  · exact ⟨_,m',s',h1,g4.toFlD.ev,.inr (.inl ⟨rfl,g1,⟨rfl,hoi g4.toFlD,fl_di hu.di hk g4.toFlD,g2,hkn g4.toFlD,hsm,g4.dn⟩,g3,g4.fz⟩)⟩
  · exact ⟨_,m',s',h1,g2.ev,.inr (.inr ⟨rfl,g1,⟨hoi g2,fl_di hu.di hk g2,hsm⟩⟩)⟩
theorem oflush_l1 {s9 : ArrS} : ∀ (N n K : Nat) (o : OwnS) (m : MirS) (s : ArrS) (e : Int),9 - n < N→n + gM C m≤5→K + 16 * gM C m≤70000→Ev C lv s9 s p →
    (e=0∧NF m∧UP C K lv s o m (fun _=>False)∧(s9.fuse=0→s.fuse=0)∧(∀ j,j < C.L→lv j=true → ∀ b,b < C.sz→cand s j b=[now s j b])∨e=18 ∧ ¬ NF m∧UP C K lv s o m (fun _=>False)∧(s9.fuse=0→s.fuse=0)∨e=5∧s9.fuse≠0∧DN C K lv s o) →
    ∃ e' o' m' s',volumegroupmake_Owner_Flush_l1 N o s e n=some (.inl (e',o',s'))∧Ev C lv s9 s' p∧(e' = 0∧e≠5∨e' = 5) ∧
      (e' = 0∧NF m' ∧ UP C (K + 16 * gM C m) lv s' o' m' (fun _=>False)∧(s9.fuse=0→s'.fuse=0)∧(∀ j,j < C.L→lv j=true → ∀ b,b < C.sz→cand s' j b=[now s' j b])∧m'.dirty=m.dirty∧m'.copied=m.copied∧o'.T=o.T∨e' = 5∧s9.fuse≠0∧DN C (K + 16 * gM C m) lv s' o')
  | 0,_,_,_,_,_,_,h,_,_,_,_=>absurd h (by omega)
  | N + 1,n,K,o,m,s,e,h,hn,hK,hev,he=>by
    have hun : volumegroupmake_Owner_Flush_l1 (N + 1) o s e n=volumegroupmake_Owner_Flush_l1_b (volumegroupmake_Owner_Flush_l1 N) o s e n := rfl
    rw [hun]
    unfold volumegroupmake_Owner_Flush_l1_b
    rcases he with ⟨rfl,h1,h2,h3,h4⟩ | ⟨rfl,h1,h2,h3⟩ | ⟨rfl,h1,h2⟩
    · rw [if_neg (fun x=>absurd x.2 (by decide))]
      exact ⟨0,o,m,s,rfl,hev,.inl ⟨rfl,by decide⟩,.inl ⟨rfl,h1,h2.mono (by omega),h3,h4,rfl,rfl,rfl⟩⟩
    · rw [if_pos ⟨by omega,rfl⟩]
      obtain ⟨o',m',d1,d2,d3,d4,d5,d6,d7⟩ := h2.dropped h1 (by omega)
      rw [d1]; simp only [Option.bind_some]
      rw [if_neg (by simp),d2.x]; simp only [Option.elim_some]
      obtain ⟨e,m2,s2,w1,w0,w2⟩ := oflush1 (p:=p) d2 d3 (by omega)
      rw [w1]; simp only [Option.bind_some]
      rcases w2 with ⟨rfl,g1,g2,g3,g4,g5⟩ | ⟨rfl,g1,g2,g3,g4⟩ | ⟨rfl,g1,g2⟩
      · have hg : gM C m2=gM C m' := g3.g d2.mi.len
        obtain ⟨e',o3,m3,s3,q1,q2,q0,q3⟩ := oflush_l1 (s9:=s9) N (n + 1) (K + 4 + 12) { o' with X := some m2 } m2 s2 0 (by omega) (by omega) (by omega) (hev.trans w0) (.inl ⟨rfl,g1,g2,fun hf=>g4 (h3 hf),g5⟩)
        refine ⟨e',o3,m3,s3,q1,q2,q0.imp (fun z=>⟨z.1,by decide⟩) id,?_⟩
        rcases q3 with ⟨q3,q4,q5,q6,q7,q8,q9,q10⟩ | ⟨q3,q4,q5⟩
        · exact .inl ⟨q3,q4,q5.mono (by omega),q6,q7,q8.trans (g3.dirty.trans d6),q9.trans (g3.copied.trans d7),q10.trans d5⟩
        · exact .inr ⟨q3,q4,q5.mono (by omega)⟩
      · have hg : gM C m2=gM C m' := g3.g d2.mi.len
        obtain ⟨e',o3,m3,s3,q1,q2,q0,q3⟩ := oflush_l1 (s9:=s9) N (n + 1) (K + 4 + 12) { o' with X := some m2 } m2 s2 18 (by omega) (by omega) (by omega) (hev.trans w0) (.inr (.inl ⟨rfl,g1,g2,fun hf=>g4 (h3 hf)⟩))
        refine ⟨e',o3,m3,s3,q1,q2,q0.imp (fun z=>⟨z.1,by decide⟩) id,?_⟩
        rcases q3 with ⟨q3,q4,q5,q6,q7,q8,q9,q10⟩ | ⟨q3,q4,q5⟩
        · exact .inl ⟨q3,q4,q5.mono (by omega),q6,q7,q8.trans (g3.dirty.trans d6),q9.trans (g3.copied.trans d7),q10.trans d5⟩
        · exact .inr ⟨q3,q4,q5.mono (by omega)⟩
      · have hN : ∃ N',N=N' + 1 := ⟨N - 1,by omega⟩
        obtain ⟨N',rfl⟩ := hN
        have hun2 : volumegroupmake_Owner_Flush_l1 (N' + 1) { o' with X := some m2 } s2 5 (n + 1)=volumegroupmake_Owner_Flush_l1_b (volumegroupmake_Owner_Flush_l1 N') { o' with X := some m2 } s2 5 (n + 1) := rfl
        rw [hun2]
        unfold volumegroupmake_Owner_Flush_l1_b
        rw [if_neg (fun x=>absurd x.2 (by decide))]
        exact ⟨5,_,m2,s2,rfl,hev.trans w0,.inr rfl,.inr ⟨rfl,fun hf=>g1 (h3 hf),g2.mono (by omega)⟩⟩
    · rw [if_neg (fun x=>absurd x.2 (by decide))]
      exact ⟨5,o,m,s,rfl,hev,.inr rfl,.inr ⟨rfl,h1,h2.mono (by omega)⟩⟩
theorem oflush (hu : UP C K lv s o m (fun _=>False)) (hnf : NF m) (hK : K≤50000) :
    ∃ e o' s',volumegroupmake_Owner_Flush o s=some (e,true,o',s')∧Ev C lv s s' p ∧
      (e=0∧(s.fuse=0→s'.fuse=0)∧(∃ m',UP C (K + 80) lv s' o' m' (fun _=>False)∧NF m' ∧ m'.dirty=m.dirty∧m'.copied=m.copied)∧(∀ j,j < C.L→lv j=true → ∀ b,b < C.sz→cand s' j b=[now s' j b])∨e=5∧s.fuse≠0∧DN C (K + 80) lv s' o') := by
  have hF := fuel_big
  unfold volumegroupmake_Owner_Flush
  rw [hu.x]; simp only [Option.elim_some]
  obtain ⟨e,m2,s2,w1,w0,w2⟩ := oflush1 (p:=p) hu hnf (by omega)
  rw [w1]; simp only [Option.bind_some]
  have hg4 := @gM_le C m2
  have hdm : e≠5→m2.dirty=m.dirty∧m2.copied=m.copied := fun he=>by
    rcases w2 with ⟨-, -, -,g3, -⟩ | ⟨-, -, -,g3, -⟩ | ⟨g, -⟩
    · exact ⟨g3.dirty,g3.copied⟩
    · exact ⟨g3.dirty,g3.copied⟩
    · exact absurd g he
  have hc : (e=0∧NF m2∧UP C (K + 12) lv s2 { o with X := some m2 } m2 (fun _=>False)∧(s.fuse=0→s2.fuse=0)∧(∀ j,j < C.L→lv j=true → ∀ b,b < C.sz→cand s2 j b=[now s2 j b])∨e=18 ∧ ¬ NF m2∧UP C (K + 12) lv s2 { o with X := some m2 } m2 (fun _=>False)∧(s.fuse=0→s2.fuse=0)∨e=5∧s.fuse≠0∧DN C (K + 12) lv s2 { o with X := some m2 }) := by
    rcases w2 with ⟨g0,g1,g2,g3,g4,g5⟩ | ⟨g0,g1,g2,g3,g4⟩ | ⟨g0,g1,g2⟩
    · exact .inl ⟨g0,g1,g2,g4,g5⟩
    · exact .inr (.inl ⟨g0,g1,g2,g4⟩)
    · exact .inr (.inr ⟨g0,g1,g2⟩)
  obtain ⟨e',o3,m3,s3,q1,q2,q0,q3⟩ := oflush_l1 (s9:=s) (p:=p) FUEL 0 (K + 12) { o with X := some m2 } m2 s2 e (by omega) (by omega) (by omega) w0 hc
  rw [q1,seqO_inl]
  rcases q3 with ⟨rfl,q4,q5,q6,q7,q8,q9,q10⟩ | ⟨rfl,q4,q5⟩
  · rw [if_pos (by simp)]
    have he5 : e≠5 := by
      rcases q0 with z | z
      · exact z.2
      · cases z
    obtain ⟨hd1,hd2⟩ := hdm he5
    have hkn : ∀ a,a < C.sz→(o3.T.getD a s0).known=true ∧ ∀ j,j < C.L→lv j=true→now s3 j a=(o3.T.getD a s0).value := fun a ha=>q5.kn a ha (fun x=>x)
    refine ⟨_,_,_,rfl,q2,.inl ⟨rfl,q6,⟨m3,⟨q5.x,?_,(fl_di2 q5.di hkn q7).mono (by omega),q5.mi,fun a ha _ => ?_,fun a ha => ?_,q5.dn⟩,q4,q8.trans hd1,q9.trans hd2⟩,q7⟩⟩
    · have h9 : OI C (K + 12 + 16 * gM C m2) lv s3 { o3 with T := flushedT o3.T } := q5.oi.set rfl rfl rfl rfl rfl rfl
      exact h9.mono (by omega)
    · show ((flushedT o3.T).getD a s0).known=true ∧ ∀ j,j < C.L→lv j=true→now s3 j a=((flushedT o3.T).getD a s0).value
      rw [flT_at q5.di.tl ha]
      obtain ⟨k1,k2⟩ := hkn a ha
      unfold flushX
      rw [if_pos k1]
      exact ⟨k1,k2⟩
    · show ((flushedT o3.T).getD a s0).some.length≤_
      rw [flT_at q5.di.tl ha]
      unfold flushX
      rw [if_pos (hkn a ha).1]
      simp
  · rw [if_neg (by simp)]
    exact ⟨_,_,_,rfl,q2,.inr ⟨rfl,q4,q5.mono (by omega)⟩⟩
end
end Go.Proofs
namespace Go.Proofs
open Go.VG
structure SP (C : MC) (K : Nat) (lv : LV) (s : ArrS) (o : OwnS) (m : MirS) (i : Nat) : Prop where
  x : o.X=some m
  oi : OI C K lv s o
  di : DI C K s o.T lv
  mi : MI C s lv m
  sm : ∀ a,a < C.sz→(o.T.getD a s0).some.length≤K + 1
  dn : s.down=false
  fz : s.fuse=0
  one : ∀ j,j < C.L→lv j=true → ∀ b,b < C.sz→cand s j b=[now s j b]
  kn : ∀ a,a < C.sz→a < i→(o.T.getD a s0).known=true ∧ ∀ j,j < C.L→lv j=true→now s j a=(o.T.getD a s0).value
  un : ∀ a,a < C.sz→i≤a→(o.T.getD a s0).known=false∧(m.dirty.getD (a / C.rg) false=false → ∀ j k,j < C.L→lv j=true→k < C.L→lv k=true→now s j a=now s k a)
section
variable {C : MC} {K K' a i k : Nat} {s t u y : ArrS} {lv : LV} {m m' x : MirS} {w v : UInt64} {o : OwnS} {ex p : Nat→Prop} {T : List Sec}
theorem SP.mono (h : SP C K lv s o m i) (hK : K≤K') : SP C K' lv s o m i := { h with oi := h.oi.mono hK,di := h.di.mono hK,sm := fun a ha=>Nat.le_trans (h.sm a ha) (by omega) }
theorem SP.up (h : SP C K lv s o m C.sz) : UP C K lv s o m (fun _=>False) := ⟨h.x,h.oi,h.di,h.mi,fun a ha _=>h.kn a ha ha,h.sm,h.dn⟩
theorem SP.dropped (h : SP C K lv s o m i) (hnf : ¬ NF m) (hK : K≤80000) : ∃ o' m',volumegroupmake_Owner_drop o s=some (true,o')∧SP C (K + 4) lv s o' m' i∧NF m' ∧ gM C m' < gM C m∧o'.T=o.T∧m'.copied=m.copied := by
  obtain ⟨o',m',h1,h2,h3,h4,h5,h6,h7,h8,h9⟩ := odrop h.x h.oi h.mi h.di.ex hnf (by omega)
  exact ⟨o',m',h1,⟨h2,h3,by rw [h7]; exact h.di.mono (by omega),h4,by rw [h7]; exact fun a ha=>Nat.le_trans (h.sm a ha) (by omega),h.dn,h.fz,h.one,by rw [h7]; exact h.kn,by rw [h7,h8]; exact h.un⟩,h5,h6,h7,h9⟩
theorem SP.fd (h : SP C K lv s o m i) (hf : Fd s m m' 0) : SP C K lv s { o with X := some m' } m' i := by
  have e : m'.dirty=m.dirty := by rw [hf.oth]
  exact ⟨rfl,h.oi.set rfl rfl rfl rfl rfl rfl,h.di,h.mi.fd hf,h.sm,h.dn,h.fz,h.one,h.kn,by rw [e]; exact h.un⟩
theorem rd_di (h : DI C K s T lv) (hm : MI C s lv m) (ha : a < C.sz) (h1 : ∀ j,j < C.L→lv j=true → ∀ b,b < C.sz→cand s j b=[now s j b]) (hd : m.dirty.getD (a / C.rg) false=true) (hr : Rd C K' s lv a t) : DI C K' t T lv := by
  refine ⟨hr.ok,h.tl,h.ex,fun i hi hl=>by rw [hr.miss]; exact h.miss i hi hl,h.lgl,fun b hb j hj hl c hc => ?_,fun hl c hc=>h.head hl c (by rw [(hr.log 0 (by decide)).2] at hc; exact hc),fun hl r hrr => ?_⟩
  · rw [hr.one j hj hl b hb,List.mem_singleton] at hc
    subst hc
    by_cases e : b=a
    · subst e
      obtain ⟨f,f1,f2,f3⟩ := hr.at_ j hj hl
      rw [f3]
      exact h.cnd b hb f f1 f2 _ (by rw [h1 f f1 f2 b hb]; exact List.mem_singleton.2 rfl)
    · rw [hr.oth j hj hl b hb e]
      exact h.cnd b hb j hj hl _ (by rw [h1 j hj hl b hb]; exact List.mem_singleton.2 rfl)
  · have hs : SetB C s r→SetB C t r := fun hx c hc=>hx c (by rw [(hr.log 1 (by decide)).2] at hc; exact hc)
    by_cases e : r=a / C.rg
    · exact .inl (hs (hm.d hl r hrr (by rw [e]; exact hd)))
    · rcases h.c hl r hrr with x | ⟨f,x⟩
      · exact .inl (hs x)
      · refine .inr ⟨f,fun b hb hbr j hj hlj c hc=>x b hb hbr j hj hlj c ?_⟩
        have hba : b≠a := fun z=>e (by rw [← hbr,z])
        rw [hr.one j hj hlj b hb,hr.oth j hj hlj b hb hba] at hc
        rw [h1 j hj hlj b hb]; exact hc
theorem SP.rd (h : SP C K lv s o m i) (hi : i < C.sz) (hd : m.dirty.getD (i / C.rg) false=true) (hf : Fd s m m' 0) (hr : Rd C K' s lv i t) (hK : K≤K') : SP C K' lv t { o with X := some m' } m' i := by
  have e : m'.dirty=m.dirty := by rw [hf.oth]
  have h9 : OI C K lv s { o with X := some m' } := h.oi.set rfl rfl rfl rfl rfl rfl
  refine ⟨rfl,(h9.arr hr.miss).mono hK,rd_di h.di h.mi hi h.one hd hr,(h.mi.fd hf).arr hr.miss hr.log,fun a ha=>Nat.le_trans (h.sm a ha) (by omega),hr.dn,hr.fz,hr.one,fun a ha hai => ?_,fun a ha hai => ?_⟩
  · obtain ⟨k1,k2⟩ := h.kn a ha hai
    exact ⟨k1,fun j hj hl=>by rw [hr.oth j hj hl a ha (by omega)]; exact k2 j hj hl⟩
  · obtain ⟨k1,k2⟩ := h.un a ha hai
    refine ⟨k1,fun hx j k hj hl hk hlk => ?_⟩
    rw [e] at hx
    by_cases ea : a=i
    · subst ea; rw [hd] at hx; cases hx
    · rw [hr.oth j hj hl a ha ea,hr.oth k hk hlk a ha ea]; exact k2 hx j k hj hl hk hlk
theorem oread1_s (h : SP C K lv s o m i) (hi : i < C.sz) (hnf : NF m) (hK : K≤80000) :
    ∃ e w m' t,mirror_Mirror_Read m (i : Int) s=some (w,e,m',t)∧SP C (K + 8) lv t { o with X := some m' } m' i∧gM C m' = gM C m∧m'.copied=m.copied∧(e=0∧NF m' ∧ (∀ j,j < C.L→lv j=true→now t j i=w)∨e=18 ∧ ¬ NF m') := by
  by_cases hd : m.dirty.getD (i / C.rg) false=true
  · obtain ⟨m',t,h1,h2,h3⟩ := read_s h.mi h.oi.nc hnf h.di.ok h.dn (by omega) hi h.di.ex h.fz h.one hd
    have hsp := h.rd hi hd h1 h2 (by omega)
    have hg := h1.mks.g h.mi.len
    have hc := h1.mks.copied
    rcases h3 with ⟨⟨w,h3,h4⟩,h5⟩ | ⟨⟨w,h3⟩,h5⟩
    · exact ⟨_,_,_,_,h3,hsp,hg,hc,.inl ⟨rfl,h5,h4⟩⟩
    · exact ⟨_,_,_,_,h3,hsp,hg,hc,.inr ⟨rfl,h5⟩⟩
  · rw [Bool.not_eq_true] at hd
    obtain ⟨j0,hj0,hl0⟩ := h.di.ex
    have hw : ∀ j,j < C.L→lv j=true→now s j i=now s j0 i := fun j hj hl=>(h.un i hi (Nat.le_refl _)).2 hd j j0 hj hl hj0 hl0
    obtain ⟨m',h1,h3⟩ := read_u h.mi h.oi.nc hnf h.di.ok h.dn hi h.di.ex hw
    have hsp := (h.fd h1).mono (show K≤K + 8 by omega)
    have hg := h1.mks.g h.mi.len
    have hc := h1.mks.copied
    rcases h3 with ⟨h3,h5⟩ | ⟨⟨w,h3⟩,h5⟩
    · exact ⟨_,_,_,_,h3,hsp,hg,hc,.inl ⟨rfl,h5,hw⟩⟩
    · exact ⟨_,_,_,_,h3,hsp,hg,hc,.inr ⟨rfl,h5⟩⟩
theorem oread_s_l1 (hi : i < C.sz) : ∀ (N n K : Nat) (o : OwnS) (m : MirS) (s : ArrS) (w0 : UInt64) (e : Int),9 - n < N→n + gM C m≤5→K + 16 * gM C m≤70000→SP C K lv s o m i→(e=0∧NF m∧(∀ j,j < C.L→lv j=true→now s j i=w0)∨e=18 ∧ ¬ NF m) →
    ∃ o' m' s' w,volumegroupmake_Owner_Read_l1 (i : Int) N o s n w0 e=some (.inl (w,0,o',s'))∧SP C (K + 16 * gM C m) lv s' o' m' i∧NF m' ∧ (∀ j,j < C.L→lv j=true→now s' j i=w)∧m'.copied=m.copied
  | 0,_,_,_,_,_,_,_,h,_,_,_,_=>absurd h (by omega)
  | N + 1,n,K,o,m,s,w0,e,h,hn,hK,hu,he=>by
    have hun : volumegroupmake_Owner_Read_l1 (i : Int) (N + 1) o s n w0 e=volumegroupmake_Owner_Read_l1_b (i : Int) (volumegroupmake_Owner_Read_l1 (i : Int) N) o s n w0 e := rfl
    rw [hun]
    unfold volumegroupmake_Owner_Read_l1_b
    rcases he with ⟨rfl,h1,h2⟩ | ⟨rfl,h1⟩
    · rw [if_neg (fun x=>absurd x.2 (by decide))]
      exact ⟨o,m,s,w0,rfl,hu.mono (by omega),h1,h2,rfl⟩
    · rw [if_pos ⟨by omega,rfl⟩]
      obtain ⟨o',m',d1,d2,d3,d4,d5,d6⟩ := hu.dropped h1 (by omega)
      rw [d1]; simp only [Option.bind_some]
      rw [if_neg (by simp),d2.x]; simp only [Option.elim_some]
      obtain ⟨e,w,m2,t,r1,r2,r3,r5,r4⟩ := oread1_s d2 hi d3 (by omega)
      rw [r1]; simp only [Option.bind_some]
      obtain ⟨o3,m3,s3,w3,g1,g2,g3,g4,g5⟩ := oread_s_l1 hi N (n + 1) (K + 4 + 8) _ m2 t w e (by omega) (by omega) (by omega) r2 r4
      exact ⟨o3,m3,s3,w3,g1,g2.mono (by omega),g3,g4,g5.trans (r5.trans d6)⟩
theorem oread_s (h : SP C K lv s o m i) (hi : i < C.sz) (hnf : NF m) (hK : K≤50000) :
    ∃ o' m' s',volumegroupmake_Owner_Read o (i : Int) true s=some (0,true,o',s')∧SP C (K + 80) lv s' o' m' (i + 1)∧NF m' ∧ m'.copied=m.copied := by
  have hF := fuel_big
  unfold volumegroupmake_Owner_Read
  rw [h.x]; simp only [Option.elim_some]
  obtain ⟨e,w,m2,t,r1,r2,r3,r5,r4⟩ := oread1_s h hi hnf (by omega)
  have hg4 := @gM_le C m2
  rw [r1]; simp only [Option.bind_some]
  obtain ⟨o3,m3,s3,w3,g1,g2,g3,g4,g5⟩ := oread_s_l1 hi FUEL 0 (K + 8) _ m2 t w e (by omega) (by omega) (by omega) r2 r4
  rw [g1,seqO_inl]
  have hil : i < o3.T.length := by rw [g2.di.tl]; exact hi
  have hl : 0≤(i : Int)∧(i : Int) < (o3.T.length : Int) := ⟨by omega,by omega⟩
  rw [if_neg (by simp),if_pos rfl,grd_t (decide_eq_true (smallT_of (fun a ha=>Nat.le_trans (g2.sm a ha) (by omega)) g2.di.tl))]
  obtain ⟨k1,k2⟩ := g2.un i hi (Nat.le_refl _)
  have kn' : ¬ (o3.T.getD i s0).known=true := by rw [k1]; decide
  obtain ⟨j0,hj0,hl0⟩ := g2.di.ex
  have hin : w3 ∈ (o3.T.getD i s0).some := g2.di.cnd i hi j0 hj0 hl0 w3 (by rw [g2.one j0 hj0 hl0 i hi,g4 j0 hj0 hl0]; exact List.mem_singleton.2 rfl)
  have e2 : rdTR o3.T (i : Int) w3=true := by
    unfold rdTR
    rw [if_pos hl,Int.toNat_natCast,if_neg kn',List.any_eq_true]
    exact ⟨w3,hin,decide_eq_true rfl⟩
  have e3 : rdTS o3.T (i : Int) w3 true=o3.T.set i ⟨[w3],true,w3⟩ := by
    unfold rdTS
    rw [if_pos hl,Int.toNat_natCast,if_neg kn',if_pos rfl]
  rw [e2,e3]
  have hat : ∀ b,(o3.T.set i ⟨[w3],true,w3⟩).getD b s0=if b=i then ⟨[w3],true,w3⟩ else o3.T.getD b s0 := fun b=>secSet hil
  refine ⟨{ o3 with T := o3.T.set i ⟨[w3],true,w3⟩ },m3,s3,rfl,⟨g2.x,?_,?_,g2.mi,fun a ha => ?_,g2.dn,g2.fz,g2.one,fun a ha hai => ?_,fun a ha hai => ?_⟩,g3,g5.trans r5⟩
  · have h9 : OI C (K + 8 + 16 * gM C m2) lv s3 { o3 with T := o3.T.set i ⟨[w3],true,w3⟩ } := g2.oi.set rfl rfl rfl rfl rfl rfl
    exact h9.mono (by omega)
  · have hd := g2.di.mono (show K + 8 + 16 * gM C m2≤K + 80 by omega)
    refine { hd with tl := by simp [g2.di.tl],cnd := fun a ha j hj hlj c hc => ?_ }
    show c ∈ ((o3.T.set i ⟨[w3],true,w3⟩).getD a s0).some
    rw [hat]
    split
    · rename_i e; subst e
      rw [g2.one j hj hlj a ha,g4 j hj hlj] at hc
      exact hc
    · exact g2.di.cnd a ha j hj hlj c hc
  · show ((o3.T.set i ⟨[w3],true,w3⟩).getD a s0).some.length≤_
    rw [hat]
    split
    · simp
    · exact Nat.le_trans (g2.sm a ha) (by omega)
  · show ((o3.T.set i ⟨[w3],true,w3⟩).getD a s0).known=true ∧ ∀ j,j < C.L→lv j=true→now s3 j a=((o3.T.set i ⟨[w3],true,w3⟩).getD a s0).value
    rw [hat]
    split
    · rename_i e; subst e; exact ⟨rfl,g4⟩
    · exact g2.kn a ha (by omega)
  · show ((o3.T.set i ⟨[w3],true,w3⟩).getD a s0).known=false∧_
    rw [hat,if_neg (by omega)]
    exact g2.un a ha (by omega)
theorem oall_s_l1 : ∀ (N i K : Nat) (o : OwnS) (m : MirS) (s : ArrS),C.sz - i < N→i≤C.sz→K + 80 * (C.sz - i)≤50000→SP C K lv s o m i→NF m →
    ∃ o' m' s',volumegroupmake_Owner_All_l1 true N o s i=some (.inl (o',s'))∧SP C (K + 80 * (C.sz - i)) lv s' o' m' C.sz∧NF m' ∧ m'.copied=m.copied
  | 0,_,_,_,_,_,h,_,_,_,_=>absurd h (by omega)
  | N + 1,i,K,o,m,s,h,hi,hK,hp,hnf=>by
    have hs := C.hs
    have hun : volumegroupmake_Owner_All_l1 true (N + 1) o s i=volumegroupmake_Owner_All_l1_b true (volumegroupmake_Owner_All_l1 true N) o s i := rfl
    rw [hun]
    unfold volumegroupmake_Owner_All_l1_b
    by_cases hlt : i < C.sz
    · rw [if_pos (by rw [hp.di.tl]; omega)]
      obtain ⟨o',m',s',r1,r2,r3,r4⟩ := oread_s hp hlt hnf (by omega)
      rw [r1]; simp only [Option.bind_some]
      rw [if_neg (by simp),grd_t (inN64_of (by omega))]
      obtain ⟨o3,m3,s3,g1,g2,g3,g4⟩ := oall_s_l1 N (i + 1) (K + 80) o' m' s' (by omega) (by omega) (by omega) r2 r3
      exact ⟨o3,m3,s3,g1,g2.mono (by omega),g3,g4.trans r4⟩
    · rw [if_neg (by rw [hp.di.tl]; omega)]
      have : i=C.sz := by omega
      subst this
      exact ⟨o,m,s,rfl,hp.mono (by omega),hnf,rfl⟩
theorem oall_s (h : SP C K lv s o m 0) (hnf : NF m) (hK : K≤40000) : ∃ o' m' s',volumegroupmake_Owner_All o true s=some (true,o',s')∧SP C (K + 960) lv s' o' m' C.sz∧NF m' ∧ m'.copied=m.copied := by
  have hF := fuel_big
  have hs := C.hs
  unfold volumegroupmake_Owner_All
  obtain ⟨o',m',s',h1,h2,h3,h4⟩ := oall_s_l1 FUEL 0 K o m s (by omega) (by omega) (by omega) h hnf
  rw [h1,seqO_inl]
  exact ⟨o',m',s',rfl,h2.mono (by omega),h3,h4⟩
theorem oall_u_l1 {q : Bool} : ∀ (N i K : Nat) (o : OwnS) (m : MirS),C.sz - i < N→i≤C.sz→K + 20 * (C.sz - i)≤50000→UP C K lv s o m (fun _=>False)→NF m →
    ∃ o' m',volumegroupmake_Owner_All_l1 q N o s i=some (.inl (o',s))∧UP C (K + 20 * (C.sz - i)) lv s o' m' (fun _=>False)∧NF m' ∧ o'.T=o.T∧m'.dirty=m.dirty∧m'.copied=m.copied
  | 0,_,_,_,_,h,_,_,_,_=>absurd h (by omega)
  | N + 1,i,K,o,m,h,hi,hK,hp,hnf=>by
    have hs := C.hs
    have hun : volumegroupmake_Owner_All_l1 q (N + 1) o s i=volumegroupmake_Owner_All_l1_b q (volumegroupmake_Owner_All_l1 q N) o s i := rfl
    rw [hun]
    unfold volumegroupmake_Owner_All_l1_b
    by_cases hlt : i < C.sz
    · rw [if_pos (by rw [hp.di.tl]; omega)]
      obtain ⟨o',m',r1,r2,r3,r4,r5,r6⟩ := oread (q:=q) hp hnf hlt (by omega)
      rw [r1]; simp only [Option.bind_some]
      rw [if_neg (by simp),grd_t (inN64_of (by omega))]
      obtain ⟨o3,m3,g1,g2,g3,g4,g5,g6⟩ := oall_u_l1 (q:=q) N (i + 1) (K + 20) o' m' (by omega) (by omega) (by omega) r2 r3
      exact ⟨o3,m3,g1,g2.mono (by omega),g3,g4.trans r4,g5.trans r5,g6.trans r6⟩
    · rw [if_neg (by rw [hp.di.tl]; omega)]
      exact ⟨o,m,rfl,hp.mono (by omega),hnf,rfl,rfl,rfl⟩
end
end Go.Proofs
namespace Go.Proofs
open Go.VG
section
variable {C : MC} {K K' a i k : Nat} {s t u y : ArrS} {lv : LV} {m m' x : MirS} {w v : UInt64} {o : OwnS} {ex p : Nat→Prop} {T : List Sec}
theorem OI.rg (h : OI C K lv s o) : ∀ k ∈ o.Stale,0≤k∧k≤(C.L : Int) := fun k hk=>by
  obtain ⟨i,hi,rfl, -⟩ := h.st k hk; omega
theorem OI.notin (h : OI C K lv s o) {i : Nat} (hl : lv i=true) : (i : Int) ∉ o.Stale := fun hi=>by
  obtain ⟨j, -,e,hj⟩ := h.st _ hi
  have : j=i := by omega
  subst this; rw [hl] at hj; cases hj
theorem legs_mi (hoi : OI C K lv s o) (hms : ∀ i,i≤C.L→lv i=true→miss s i=false) {d : List Bool} (hd : d.length=C.R) {lg : Option LogS} {ls : Int} (hlog : lv C.L=true∧ls=0∧(∃ g,lg=some g∧LI C s g)∧(∀ r,r < C.R→d.getD r false=true→SetB C s r)∨lv C.L=false∧lg=none∧ls=2) :
    MI C s lv ⟨legsM C o.Stale C.L,lg,C.lg,ls,(C.sz : Int),(C.rg : Int),d,0⟩∧NF ⟨legsM C o.Stale C.L,lg,C.lg,ls,(C.sz : Int),(C.rg : Int),d,0⟩ := by
  have hat : ∀ i,i < C.L→(legsM C o.Stale C.L).getD i mleg_x0=legM C o.Stale i := fun i hi=>legsM_at hi
  refine ⟨⟨legsM_len,fun i hi => ?_,rfl,rfl,rfl,hd,?_,fun hl r hr hdr => ?_⟩,⟨fun i hi hs => ?_,fun hs => ?_⟩⟩
  · unfold stM
    rw [hat i hi]
    refine ⟨rfl,.inl (hoi.nc i hi).symm,?_⟩
    unfold legM
    cases hl : lv i
    · refine .inr ⟨rfl,?_⟩
      by_cases hin : (i : Int) ∈ o.Stale
      · rw [if_pos hin]; exact .inl rfl
      · rw [if_neg hin]
        rcases hoi.nl i (by omega) hl with z | z | ⟨z, -⟩
        · exact absurd z hin
        · exact .inr ⟨z,.inl rfl⟩
        · omega
    · rw [if_neg (hoi.notin hl)]
      exact .inl ⟨rfl,rfl,hms i (by omega) hl⟩
  · rcases hlog with ⟨h1,h2,⟨g,h3,h4⟩, -⟩ | ⟨h1,h2,h3⟩
    · exact .inl ⟨h1,h2,hms _ (Nat.le_refl _) h1,g,h3,h4⟩
    · exact .inr ⟨h1,.inl ⟨h2,h3⟩⟩
  · rcases hlog with ⟨-, -, -,h4⟩ | ⟨h1, -⟩
    · exact h4 r hr hdr
    · rw [h1] at hl; cases hl
  · have hi' : i < C.L := by have h9 := @legsM_len C o.Stale C.L; exact h9 ▸ hi
    unfold stM at hs
    rw [hat i hi'] at hs
    unfold legM at hs
    split at hs <;> cases hs
  · rcases hlog with ⟨-,h2, -⟩ | ⟨-, -,h2⟩
    · rw [h2] at hs; cases hs.2
    · rw [h2] at hs; cases hs.2
structure Op (C : MC) (K : Nat) (lv : LV) (s : ArrS) (o o' : OwnS) (m : MirS) : Prop where
  oi : OI C K lv s o'
  T : o'.T=o.T
  mi : MI C s lv m
  nf : NF m
  copied : m.copied=0
  dirty : ∀ r,r < C.R→(m.dirty.getD r false=true↔(lv C.L=true→tb (now s C.L 1) r=true))
theorem open_a (hoi : OI C K lv s o) (hms : ∀ i,i≤C.L→lv i=true→miss s i=false) (hok : ArrOk C.ns K s) (hdn : s.down=false) (hex : ∃ i,i < C.L∧lv i=true) (hlgl : lv C.L=true→C.lg=true) (hK : K≤90000)
    (hh : lv C.L=true → ∀ c ∈ cand s C.L 0,c=headL C.R) (h1 : lv C.L=true→cand s C.L 1=[now s C.L 1]) :
    (∃ m,volumegrouplaw21_setting_owner_1 o.Stale s (C.L : Int) (C.sz : Int) (C.rg : Int) C.lg=some (some m,0)∧Op C K lv s o o m) ∨
    (volumegrouplaw21_setting_owner_1 o.Stale s (C.L : Int) (C.sz : Int) (C.rg : Int) C.lg=some (none,18)∧C.lg=true∧(C.L : Int) ∉ o.Stale∧miss s C.L=true∧lv C.L=false) := by
  obtain ⟨j0,hj0,hl0⟩ := hex
  have hhead : lv C.L=true→now s C.L 0=headL C.R := fun hl=>hh hl _ (hok.now_cand logL (by rw [MC.log]; decide))
  cases hl : lv C.L
  · by_cases hc : C.lg=true∧(C.L : Int) ∉ o.Stale
    · have hm : miss s C.L=true := by
        rcases hoi.nl C.L (Nat.le_refl _) hl with z | z | ⟨-,z⟩
        · exact absurd z hc.2
        · exact z
        · rw [hc.1] at z; cases z
      obtain ⟨-,o2, -⟩ := opener_eq hok hdn hoi.rg (by have := hoi.sl; omega) ⟨j0,hj0,hoi.notin hl0⟩ (fun _ _ hx=>by rw [hm] at hx; cases hx)
      exact .inr ⟨o2 hc.1 hc.2 hm,hc.1,hc.2,hm,rfl⟩
    · obtain ⟨o1, -, -⟩ := opener_eq hok hdn hoi.rg (by have := hoi.sl; omega) ⟨j0,hj0,hoi.notin hl0⟩ (fun z1 z2 _=>absurd ⟨z1,z2⟩ hc)
      obtain ⟨d,d1,d2,d3⟩ := o1 hc
      obtain ⟨g1,g2⟩ := legs_mi hoi hms d1 (lg:=none) (ls:=2) (.inr ⟨hl,rfl,rfl⟩)
      exact .inl ⟨_,d3,hoi,rfl,g1,g2,rfl,fun r hr=>⟨fun _ hx=>(by rw [hl] at hx; cases hx),fun _=>d2 r hr⟩⟩
  · have hlg := hlgl hl
    obtain ⟨-, -,o3⟩ := opener_eq hok hdn hoi.rg (by have := hoi.sl; omega) ⟨j0,hj0,hoi.notin hl0⟩ (fun _ _ _=>hhead hl)
    obtain ⟨d,d1,d2,d3⟩ := o3 hlg (hoi.notin hl) (hms _ (Nat.le_refl _) hl)
    have hset : ∀ r,r < C.R→d.getD r false=true→SetB C s r := fun r hr hd c hc=>by
      rw [h1 hl,List.mem_singleton] at hc
      rw [hc]; exact (d2 r hr).1 hd
    have hbl : (openL (xL C.L 3) C.R (now s C.L)).bits.getD 0 0=now s C.L 1 := by
      have : (openL (xL C.L 3) C.R (now s C.L)).bits=(List.range (nW C.R)).map fun i=>now s C.L (1 + i) := rfl
      rw [this,getD_map_range (by rw [MC.nW1]; decide)]
    have hli : LI C s (openL (xL C.L 3) C.R (now s C.L)) := ⟨⟨rfl,rfl,by simp [openL],List.nodup_nil⟩,hh hl,hbl.symm,fun r hr hd=>by simp [openL,lookM] at hd⟩
    obtain ⟨g1,g2⟩ := legs_mi hoi hms d1 (lg:=some (openL (xL C.L 3) C.R (now s C.L))) (ls:=0) (.inl ⟨hl,rfl,⟨_,rfl,hli⟩,hset⟩)
    rw [hlg] at g1 g2
    rw [hlg] at d3 ⊢
    exact .inl ⟨_,d3,hoi,rfl,g1,g2,rfl,fun r hr=>⟨fun hx _=>(d2 r hr).1 hx,fun hx=>(d2 r hr).2 (hx hl)⟩⟩
theorem obegin_l1 (hms : ∀ i,i≤C.L→lv i=true→miss s i=false) (hok : ArrOk C.ns K s) (hdn : s.down=false) (hex : ∃ i,i < C.L∧lv i=true) (hlgl : lv C.L=true→C.lg=true) (hK : K≤80000)
    (hh : lv C.L=true → ∀ c ∈ cand s C.L 0,c=headL C.R) (h1 : lv C.L=true→cand s C.L 1=[now s C.L 1]) : ∀ (N i : Nat) (o : OwnS) (X : Option MirS) (e : Int),o.Lost.length - i < N→i≤o.Lost.length→OI C (K + i) lv s o→(e=0∧(∃ m,X=some m∧Op C (K + i) lv s o o m)∨e=18∧C.lg=true∧(C.L : Int) ∉ o.Stale∧miss s C.L=true∧lv C.L=false ∧ ∃ j,i≤j∧j < o.Lost.length∧o.Lost.getD j 0=(C.L : Int)) →
    ∃ o' m,volumegroupmake_Owner_Begin_l1 s N o X e i=some (some m,0,o')∧Op C (K + o.Lost.length) lv s o o' m
  | 0,_,_,_,_,h,_,_,_=>absurd h (by omega)
  | N + 1,i,o,X,e,h,hi,hoi,he=>by
    have hun : volumegroupmake_Owner_Begin_l1 s (N + 1) o X e i=volumegroupmake_Owner_Begin_l1_b s (volumegroupmake_Owner_Begin_l1 s N) o X e i := rfl
    rw [hun]
    unfold volumegroupmake_Owner_Begin_l1_b
    have hll : o.Lost.length≤10 := by rw [hoi.ll.1]; exact hoi.ll.2
    rcases he with ⟨rfl,m,rfl,h2⟩ | ⟨rfl,h2,h3,h4,h5,j,j1,j2,j3⟩
    · rw [if_neg (fun x=>absurd x.2 (by decide))]
      exact ⟨o,m,rfl,⟨h2.oi.mono (by omega),rfl,h2.mi,h2.nf,h2.copied,h2.dirty⟩⟩
    · rw [if_pos ⟨by omega,rfl⟩]
      have hlt : i < o.Lost.length := by omega
      obtain ⟨k,k1,k2,k3⟩ := hoi.lr (o.Lost.getD i 0) (by simp [List.getD,hlt])
      rw [k2]
      obtain ⟨l',l1,l2,l3⟩ := add_eq (l:=o.Stale) (n:=(k : Int)) (by omega) (fun z hz=>(hoi.rg z hz).1) (by have := hoi.sl; omega)
      rw [l1]; simp only [Option.bind_some]
      have hoi2 : OI C (K + (i + 1)) lv s { o with Stale := l' } := hoi.stale k1 k3 l2 l3 rfl rfl rfl rfl rfl rfl
      have hop := open_a (o := { o with Stale := l' }) hoi2 hms (hok.mono (by omega)) hdn hex hlgl (by omega) hh h1
      have hargs : volumegrouplaw21_setting_owner_1 l' s o.Open_1 o.Open_2 o.Open_3 o.Open_4=volumegrouplaw21_setting_owner_1 l' s (C.L : Int) (C.sz : Int) (C.rg : Int) C.lg := by rw [hoi.o1,hoi.o2,hoi.o3,hoi.o4]
      rw [hargs]
      have fin : ∀ {X : Option MirS} {e : Int},volumegrouplaw21_setting_owner_1 l' s (C.L : Int) (C.sz : Int) (C.rg : Int) C.lg=some (X,e)→(e=0∧(∃ m,X=some m∧Op C (K + (i + 1)) lv s { o with Stale := l' } { o with Stale := l' } m)∨e=18∧C.lg=true∧(C.L : Int) ∉ l' ∧ miss s C.L=true∧lv C.L=false ∧ ∃ j,i + 1≤j∧j < o.Lost.length∧o.Lost.getD j 0=(C.L : Int)) →
          ∃ o' m,(Option.bind (volumegrouplaw21_setting_owner_1 l' s (C.L : Int) (C.sz : Int) (C.rg : Int) C.lg) fun r42=>volumegroupmake_Owner_Begin_l1 s N ({ o with Stale := l' }) r42.1 r42.2 (i + 1))=some (some m,0,o')∧Op C (K + o.Lost.length) lv s o o' m := by
        intro X e e1 e2
        rw [e1]; simp only [Option.bind_some]
        obtain ⟨o',m,q1,q2⟩ := obegin_l1 hms hok hdn hex hlgl hK hh h1 N (i + 1) { o with Stale := l' } X e (by show o.Lost.length - (i + 1) < N; omega) (by show i + 1≤o.Lost.length; omega) hoi2 e2
        exact ⟨o',m,q1,⟨q2.oi,q2.T,q2.mi,q2.nf,q2.copied,q2.dirty⟩⟩
      rcases hop with ⟨m,q1,q2⟩ | ⟨q1,q2,q3,q4,q5⟩
      · exact fin q1 (.inl ⟨rfl,m,rfl,q2⟩)
      · refine fin q1 (.inr ⟨rfl,q2,q3,q4,q5,j,?_,j2,j3⟩)
        rcases Nat.lt_or_ge i j with z | z
        · exact z
        · have : j=i := by omega
          subst this
          rw [k2] at j3
          exact absurd ((l3 _).2 (.inr (by omega))) q3
theorem obegin (hoi : OI C K lv s o) (hms : ∀ i,i≤C.L→lv i=true→miss s i=false) (hok : ArrOk C.ns K s) (hdn : s.down=false) (hex : ∃ i,i < C.L∧lv i=true) (hlgl : lv C.L=true→C.lg=true) (hK : K≤80000)
    (hh : lv C.L=true → ∀ c ∈ cand s C.L 0,c=headL C.R) (h1 : lv C.L=true→cand s C.L 1=[now s C.L 1]) (htl : o.T.length=C.sz) :
    ∃ o' m,volumegroupmake_Owner_Begin o s=some (true,o')∧o'.X=some m∧Op C (K + 10) lv s o o' m := by
  have hF := fuel_big
  have hll : o.Lost.length≤10 := by rw [hoi.ll.1]; exact hoi.ll.2
  unfold volumegroupmake_Owner_Begin
  have hop := open_a hoi hms hok hdn hex hlgl (by omega) hh h1
  have hargs : volumegrouplaw21_setting_owner_1 o.Stale s o.Open_1 o.Open_2 o.Open_3 o.Open_4=volumegrouplaw21_setting_owner_1 o.Stale s (C.L : Int) (C.sz : Int) (C.rg : Int) C.lg := by rw [hoi.o1,hoi.o2,hoi.o3,hoi.o4]
  rw [hargs]
  have fin : ∀ {X : Option MirS} {e : Int},volumegrouplaw21_setting_owner_1 o.Stale s (C.L : Int) (C.sz : Int) (C.rg : Int) C.lg=some (X,e)→(e=0∧(∃ m,X=some m∧Op C (K + 0) lv s o o m)∨e=18∧C.lg=true∧(C.L : Int) ∉ o.Stale∧miss s C.L=true∧lv C.L=false ∧ ∃ j,0≤j∧j < o.Lost.length∧o.Lost.getD j 0=(C.L : Int)) →
      ∃ o' m,(Option.bind (volumegrouplaw21_setting_owner_1 o.Stale s (C.L : Int) (C.sz : Int) (C.rg : Int) C.lg) fun r5 =>
        Option.bind (volumegroupmake_Owner_Begin_l1 s FUEL o r5.1 r5.2 0) fun a16 =>
        if (a16.2.1=(0 : Int)) then
          Option.elim a16.1 (
            if false=true then
              none
            else
              some (false, { a16.2.2 with X := none })) fun o54 =>
          if true=true then
            Option.bind (mirror_Mirror_Size o54 s) fun r55 =>
            some (((decide (r55=((a16.2.2.T.length : Nat) : Int))), { a16.2.2 with X := (some o54) }))
          else
            some ((false, { a16.2.2 with X := (some o54) }))
        else
          if false=true then
            Option.elim a16.1 (
              none) fun o58 =>
            Option.bind (mirror_Mirror_Size o58 s) fun r59 =>
            some (((decide (r59=((a16.2.2.T.length : Nat) : Int))), { a16.2.2 with X := (some o58) }))
          else
            some (false, { a16.2.2 with X := a16.1 }))=some (true,o')∧o'.X=some m∧Op C (K + 10) lv s o o' m := by
    intro X e e1 e2
    rw [e1]; simp only [Option.bind_some]
    obtain ⟨o',m,q1,q2⟩ := obegin_l1 hms hok hdn hex hlgl hK hh h1 FUEL 0 o X e (by omega) (by omega) (hoi.mono (by omega)) e2
    rw [q1]; simp only [Option.bind_some,Option.elim_some]
    rw [if_pos trivial,if_pos trivial]
    unfold mirror_Mirror_Size
    simp only [Option.bind_some]
    have hdec : decide (m.size=((o'.T.length : Nat) : Int))=true := by rw [q2.mi.size,q2.T,htl]; exact decide_eq_true rfl
    rw [hdec]
    have h9 : OI C (K + o.Lost.length) lv s { o' with X := some m } := q2.oi.set rfl rfl rfl rfl rfl rfl
    exact ⟨_,m,rfl,rfl,⟨h9.mono (by omega),q2.T,q2.mi,q2.nf,q2.copied,q2.dirty⟩⟩
  rcases hop with ⟨m,q1,q2⟩ | ⟨q1,q2,q3,q4,q5⟩
  · exact fin q1 (.inl ⟨rfl,m,rfl,q2⟩)
  · obtain ⟨j,hj,e⟩ := List.mem_iff_getElem.1 (hoi.lo C.L (Nat.le_refl _) q4)
    exact fin q1 (.inr ⟨rfl,q2,q3,q4,q5,j,by omega,hj,by simp [List.getD,hj,e]⟩)
theorem failT_at (htl : T.length=C.sz) (ha : a < C.sz) : (failedT T).getD a s0=failX (T.getD a s0) := by
  unfold failedT; exact secMap (by omega)
theorem opower (h : DN C K lv s o) (hK : K≤80000) {kp : UInt64} : ∃ o' m s',volumegroupmake_Owner_Power o kp s=some (true,o',s')∧SP C (K + 10) lv s' o' m 0∧NF m∧m.copied=0 := by
  obtain ⟨ks,hks⟩ := keep_ok kp
  have hr := h.di.ok.rs ks
  have hL := C.hL
  unfold volumegroupmake_Owner_Power
  rw [hks]; simp only [Option.bind_some]
  rw [grd_t (inLen_of (by have := h.di.ok.wr; omega))]
  have hin : ∀ i,i < C.L→i < C.ns.length := fun i hi=>by rw [MC.len]; omega
  have hsub : ∀ i,i < C.L → ∀ b,b < C.sz → ∀ c ∈ cand (rsS s ks) i b,c ∈ cand s i b := fun i hi b hb c hc=>by
    rw [hr.cand,List.mem_singleton] at hc
    rw [hc]; exact hr.now i b (hin i hi) (by rw [MC.leg hi]; exact hb)
  have hsubL : ∀ b,b < 3 → ∀ c ∈ cand (rsS s ks) C.L b,c ∈ cand s C.L b := fun b hb c hc=>by
    rw [hr.cand,List.mem_singleton] at hc
    rw [hc]; exact hr.now C.L b logL (by rw [MC.log]; exact hb)
  have hset : ∀ r,SetB C s r→SetB C (rsS s ks) r := fun r hx c hc=>hx c (hsubL 1 (by decide) c hc)
  have hdi : DI C K (rsS s ks) (failedT o.T) lv := by
    refine ⟨hr.ok,by unfold failedT; simp; exact h.di.tl,h.di.ex,fun i hi hl=>by rw [hr.miss]; exact h.di.miss i hi hl,h.di.lgl,fun a ha i hi hl c hc => ?_,fun hl c hc=>h.di.head hl c (hsubL 0 (by decide) c hc),fun hl r hrr => ?_⟩
    · rw [failT_at h.di.tl ha]
      exact h.di.cnd a ha i hi hl c (hsub i hi a ha c hc)
    · rcases h.di.c hl r hrr with z | ⟨f,z⟩
      · exact .inl (hset r z)
      · exact .inr ⟨f,fun b hb hbr j hj hlj c hc=>z b hb hbr j hj hlj c (hsub j hj b hb c hc)⟩
  have h9 : OI C K lv s { o with T := failedT o.T } := h.oi.set rfl rfl rfl rfl rfl rfl
  obtain ⟨o',m,b1,b2,b3⟩ := obegin (o := { o with T := failedT o.T }) (h9.arr hr.miss) hdi.miss hdi.ok hr.dn hdi.ex hdi.lgl hK hdi.head (fun _=>hr.cand C.L 1) hdi.tl
  have hT : o'.T=failedT o.T := b3.T
  rw [b1]; simp only [Option.bind_some]
  refine ⟨o',m,_,rfl,⟨b2,b3.oi,by rw [hT]; exact hdi.mono (by omega),b3.mi,fun a ha => ?_,hr.dn,hr.fuse,fun j _ _ b _=>hr.cand j b,fun a _ ha=>absurd ha (by omega),fun a ha _ => ?_⟩,b3.nf,b3.copied⟩
  · rw [hT,failT_at h.di.tl ha]
    exact Nat.le_trans (h.sm a ha) (by omega)
  · rw [hT,failT_at h.di.tl ha]
    refine ⟨rfl,fun hd j k hj hlj hk hlk => ?_⟩
    have hrr := MC.reg ha
    have hnd : ¬ (lv C.L=true→tb (now (rsS s ks) C.L 1) (a / C.rg)=true) := fun z=>by
      have := (b3.dirty _ hrr).2 z
      rw [hd] at this; cases this
    rw [Classical.not_imp] at hnd
    obtain ⟨hl,hnb⟩ := hnd
    rcases hdi.c hl _ hrr with z | ⟨f,z⟩
    · exact absurd (z _ (by rw [hr.cand]; exact List.mem_singleton.2 rfl)) hnb
    · rw [z a ha rfl j hj hlj (now (rsS s ks) j a) (by rw [hr.cand]; exact List.mem_singleton.2 rfl),z a ha rfl k hk hlk (now (rsS s ks) k a) (by rw [hr.cand]; exact List.mem_singleton.2 rfl)]
end
end Go.Proofs
namespace Go.Proofs
open Go.VG
section
variable {C : MC} {K K' a i k : Nat} {s t u y : ArrS} {lv : LV} {m m' x : MirS} {w v : UInt64} {o : OwnS} {ex p : Nat→Prop} {T : List Sec}
theorem UP.fuse (h : UP C K lv s o m ex) {n : Nat} : UP C K lv { s with fuse := n } o m ex :=
  ⟨h.x,h.oi.arr (fun _=>rfl),⟨h.di.ok.fuse,h.di.tl,h.di.ex,h.di.miss,h.di.lgl,h.di.cnd,h.di.head,h.di.c⟩,h.mi.arr (fun _=>rfl) (fun _ _=>⟨rfl,rfl⟩),h.kn,h.sm,h.dn⟩
theorem UP.dnn (h : UP C K lv s o m ex) : DN C K lv s o := ⟨h.oi,h.di,h.sm⟩
theorem smS_facts (hok : ArrOk C.ns K s) (hk : k < C.ns.length) : smR s k=0∧ArrOk C.ns K (smS s k true)∧(∀ e,miss (smS s k true) e=if e=k then true else miss s e)∧(∀ e b,now (smS s k true) e b=now s e b)∧(∀ e b,cand (smS s k true) e b=cand s e b)∧(smS s k true).down=s.down∧(smS s k true).fuse=s.fuse := by
  have hkl : k < s.drv.length := hok.disk hk
  have hin : inR s (k : Int) := ⟨by omega,by omega⟩
  have hsz : ∀ e,(s.drv.set k { s.drv.getD k d0 with miss := true }).getD e d0=if e=k then { s.drv.getD k d0 with miss := true } else s.drv.getD e d0 := fun e=>drv_set hkl
  have hnow : ∀ e,nowL (smS s k true) e=nowL s e := fun e=>by
    rw [smS_ok hin]; unfold nowL
    show ((s.drv.set k { s.drv.getD k d0 with miss := true }).getD e d0).now=_
    rw [hsz]; split
    · rename_i h; rw [h]
    · rfl
  have hdur : ∀ e,durL (smS s k true) e=durL s e := fun e=>by
    rw [smS_ok hin]; unfold durL
    show ((s.drv.set k { s.drv.getD k d0 with miss := true }).getD e d0).dur=_
    rw [hsz]; split
    · rename_i h; rw [h]
    · rfl
  have hlog : (smS s k true).log=s.log := by rw [smS_ok hin]
  have hlen : (smS s k true).drv.length=s.drv.length := by rw [smS_ok hin]; simp
  have hsize : ∀ e,(smS s k true).size e=s.size e := fun e=>by rw [size_nowL,size_nowL,hnow]
  refine ⟨if_pos hin,⟨⟨by rw [hlen]; exact hok.sz.cnt,fun d hd=>by rw [hsize]; exact hok.sz.size d hd,by rw [smS_ok hin]; exact hok.sz.wr⟩,by rw [smS_ok hin]; exact hok.wr,⟨fun d=>by rw [hnow,hdur]; exact hok.coh.len d,fun d b hb => ?_,fun r hr => ?_⟩,by rw [smS_ok hin]; exact hok.bad⟩,fun e => ?_,fun e b=>by unfold now; rw [hnow],fun e b=>by show dur _ _ _::pendR _ _ _=dur _ _ _::pendR _ _ _; unfold dur; rw [hdur,hlog],by rw [smS_ok hin],by rw [smS_ok hin]⟩
  · rw [hsize] at hb
    have := hok.coh.last d b hb
    show lastD (dur _ _ _) (pendR _ _ _)=now _ _ _
    unfold dur now; rw [hdur,hnow,hlog]; exact this
  · rw [hlog] at hr
    rw [hlen,hsize]; exact hok.coh.log r hr
  · unfold miss
    rw [smS_ok hin]
    show ((s.drv.set k { s.drv.getD k d0 with miss := true }).getD e d0).miss=_
    rw [hsz]; split <;> rfl
def without (lv : LV) (k : Nat) (l : List Int) : LV := ⟨fun i=>lv i && !decide (i=k),l,lv.cp⟩
theorem without_t {i : Nat} {l : List Int} : (without lv k l) i=true↔lv i=true∧i≠k := by unfold without; simp
theorem without_f {i : Nat} {l : List Int} : (without lv k l) i=false↔lv i=false∨i=k := by
  unfold without
  show (lv i && !decide (i=k))=false↔_
  cases lv i <;> simp
theorem olose (h : UP C K lv s o m (fun _=>False)) (hk : k≤C.L) (hleft : ∃ j,j < C.L∧lv j=true∧j≠k) (hlgk : k=C.L→C.lg=true) (hl10 : lv.lost.length≤8) :
    ∃ l' o' s',volumegroupmake_Owner_Lose o (k : Int) (k : Int) s=some (true,o',s')∧UP C K (without lv k l') s' o' m (fun _=>False)∧o'.T=o.T∧l'.length≤lv.lost.length + 1∧s'.fuse=s.fuse∧(∀ e b,now s' e b=now s e b) := by
  obtain ⟨f1,f2,f3,f4,f5,f6,f7⟩ := smS_facts h.di.ok (k:=k) (by rw [MC.len]; omega)
  obtain ⟨l',l1,l2,l3⟩ := add_eq (l:=o.Lost) (n:=(k : Int)) (by omega) (fun z hz=>by obtain ⟨i, -,rfl, -⟩ := h.oi.lr z hz; omega) (by rw [h.oi.ll.1]; omega)
  rw [h.oi.ll.1] at l2
  unfold volumegroupmake_Owner_Lose
  rw [l1]; simp only [Option.bind_some]
  rw [f1,decide_eq_true rfl]
  have hset : ∀ r,SetB C s r→SetB C (smS s k true) r := fun r hr c hc=>hr c (by rw [f5] at hc; exact hc)
  have hone : ∀ r,One C s lv r→One C (smS s k true) (without lv k l') r := fun r ⟨f,hf⟩=>⟨f,fun b hb hbr j hj hlj c hc=>hf b hb hbr j hj (without_t.1 hlj).1 c (by rw [f5] at hc; exact hc)⟩
  have hli : ∀ g,LI C s g→LI C (smS s k true) g := fun g hg=>hg.arr (fun c hc=>by rw [f5] at hc; exact hc) (fun c hc=>by rw [f5] at hc; exact hc) (f4 _ _)
  obtain ⟨j0,hj0,hl0,hne0⟩ := hleft
  refine ⟨l',_,_,rfl,⟨h.x,⟨h.oi.o1,h.oi.o2,h.oi.o3,h.oi.o4,fun z hz => ?_,h.oi.sl,fun i hi hl => ?_,fun i hi hm => ?_,fun z hz => ?_,?_,h.oi.nc⟩,⟨f2,h.di.tl,⟨j0,hj0,without_t.2 ⟨hl0,hne0⟩⟩,fun i hi hl => ?_,fun hl=>h.di.lgl (without_t.1 hl).1,fun b hb j hj hl c hc => ?_,fun hl c hc => ?_,fun hl r hr => ?_⟩,⟨h.mi.len,fun i hi => ?_,h.mi.size,h.mi.region,h.mi.hasLog,h.mi.dl,?_,fun hl r hr hd=>hset r (h.mi.d (without_t.1 hl).1 r hr hd)⟩,fun b hb hx => ?_,h.sm,by rw [f6]; exact h.dn⟩,rfl,l2,f7,f4⟩
  · obtain ⟨i,h1,h2,h3⟩ := h.oi.st z hz
    exact ⟨i,h1,h2,without_f.2 (.inl h3)⟩
  · rw [f3]
    rcases without_f.1 hl with z | z
    · rcases h.oi.nl i hi z with q | q | q
      · exact .inl q
      · refine .inr (.inl ?_); split
        · rfl
        · exact q
      · exact .inr (.inr q)
    · rw [if_pos z]; exact .inr (.inl rfl)
  · rw [f3] at hm
    split at hm
    · rename_i e; exact (l3 _).2 (.inr (by omega))
    · exact (l3 _).2 (.inl (h.oi.lo i hi hm))
  · rcases (l3 z).1 hz with q | q
    · obtain ⟨i,h1,h2,h3⟩ := h.oi.lr z q
      exact ⟨i,h1,h2,without_f.2 (.inl h3)⟩
    · exact ⟨k,hk,q,without_f.2 (.inr rfl)⟩
  · exact ⟨rfl,by show l'.length≤10; omega⟩
  · obtain ⟨z1,z2⟩ := without_t.1 hl
    rw [f3,if_neg z2]; exact h.di.miss i hi z1
  · rw [f5] at hc; exact h.di.cnd b hb j hj (without_t.1 hl).1 c hc
  · rw [f5] at hc; exact h.di.head (without_t.1 hl).1 c hc
  · rcases h.di.c (without_t.1 hl).1 r hr with z | z
    · exact .inl (hset r z)
    · exact .inr (hone r z)
  · obtain ⟨g1,g2,g3⟩ := h.mi.leg i hi
    refine ⟨g1,g2,?_⟩
    rw [f3]
    by_cases e : i=k
    · rw [if_pos e]
      refine .inr ⟨without_f.2 (.inr e),?_⟩
      rcases g3 with ⟨-,z, -⟩ | ⟨-,z | ⟨-,z⟩⟩
      · exact .inr ⟨rfl,.inl z⟩
      · exact .inl z
      · exact .inr ⟨rfl,z⟩
    · rw [if_neg e]
      rcases g3 with ⟨z1,z2⟩ | ⟨z1,z2⟩
      · exact .inl ⟨without_t.2 ⟨z1,e⟩,z2⟩
      · exact .inr ⟨without_f.2 (.inl z1),z2⟩
  · rw [f3]
    rcases h.mi.log with ⟨z1,z2,z3,g,z4,z5⟩ | ⟨z1,z2⟩
    · by_cases e : C.L=k
      · rw [if_pos e]
        exact .inr ⟨without_f.2 (.inr e),.inr ⟨hlgk e.symm,rfl,.inl z2,g,z4,z5.lok⟩⟩
      · rw [if_neg e]
        exact .inl ⟨without_t.2 ⟨z1,e⟩,z2,z3,g,z4,hli g z5⟩
    · refine .inr ⟨without_f.2 (.inl z1),?_⟩
      rcases z2 with z2 | ⟨z2,z3,z4⟩
      · exact .inl z2
      · refine .inr ⟨z2,?_,z4⟩
        split
        · rfl
        · exact z3
  · obtain ⟨k1,k2⟩ := h.kn b hb hx
    exact ⟨k1,fun j hj hl=>by rw [f4]; exact k2 j hj (without_t.1 hl).1⟩
theorem ostep (h : UP C K lv s o m (fun _=>False)) (hnf : NF m) (hK : K≤35000) (S : volumegroupmake_Step) :
    ∃ o' m' s',volumegroupmake_Owner_Step o S s=some (true,o',s')∧UP C (K + 1200) lv s' o' m' (fun _=>False)∧NF m' ∧ (m.copied=0→m'.copied=0) := by
  have hs := C.hs
  obtain ⟨a,ha1,ha,hlo,hhi⟩ := at_ok S.At (n:=C.sz) (by omega) (by omega)
  unfold volumegroupmake_Owner_Step
  rw [h.di.tl,grd_t (decide_eq_true (by omega)),grd_t (inI64_of (by omega)),grd_t (decide_eq_true (by omega)),ha1]
  simp only [lt]
  have fin : ∀ {e : Int} {o1 : OwnS} {s1 : ArrS},(e≠5∧(∃ m',UP C (K + 80) lv s1 o1 m' (fun _=>False)∧NF m' ∧ m'.copied=m.copied)∨e=5∧DN C (K + 80) lv s1 o1) →
      ∃ o' m' s',(Option.bind (some (e,true,o1,s1)) fun a16 =>
        if (¬ a16.2.1=true) then
          some (false,a16.2.2.1,a16.2.2.2)
        else
          if (a16.1≠(5 : Int)) then
            some (true,a16.2.2.1,a16.2.2.2)
          else
            Option.bind (volumegroupmake_Owner_Power a16.2.2.1 S.Keep a16.2.2.2) fun r28 =>
            if r28.1=true then
              Option.bind (volumegroupmake_Owner_Settled r28.2.1 r28.2.2) fun r30 =>
              some (r30.1,r30.2.1,r30.2.2)
            else
              some (false,r28.2.1,r28.2.2))=some (true,o',s')∧UP C (K + 1200) lv s' o' m' (fun _=>False)∧NF m' ∧ (m.copied=0→m'.copied=0) := by
    intro e o1 s1 hc
    simp only [Option.bind_some]
    rw [if_neg (by simp)]
    rcases hc with ⟨h5,m',h1,h2,h3⟩ | ⟨rfl,h1⟩
    · rw [if_pos (show ((e,true,o1,s1) : Int × Bool × OwnS × ArrS).1≠5 from h5)]
      exact ⟨o1,m',s1,rfl,h1.mono (by omega),h2,fun z=>h3.trans z⟩
    · rw [if_neg (by simp)]
      obtain ⟨o2,m2,s2,p1,p2,p3,p4⟩ := opower h1 (kp:=S.Keep) (by omega)
      rw [p1]; simp only [Option.bind_some]
      rw [if_pos trivial]
      unfold volumegroupmake_Owner_Settled
      obtain ⟨o3,m3,s3,q1,q2,q3,q4⟩ := oall_s p2 p3 (by omega)
      rw [q1]; simp only [Option.bind_some]
      exact ⟨o3,m3,s3,rfl,q2.up.mono (by omega),q3,fun _=>q4.trans p4⟩
  by_cases k0 : S.Kind=0
  · rw [if_pos k0]
    obtain ⟨e,o1,s1,w1, -,w2⟩ := owrite (v:=S.Value) h hnf ha (by omega)
    rw [w1]; simp only [Option.bind_some]
    refine fin ?_
    rcases w2 with ⟨rfl, -,m',z1,z2, -,z4⟩ | ⟨rfl, -,z⟩
    · exact .inl ⟨by decide,m',z1,z2,z4⟩
    · exact .inr ⟨rfl,z⟩
  · rw [if_neg k0]
    by_cases k1 : S.Kind=1
    · rw [if_pos k1]
      obtain ⟨o1,m1,w1,w2,w3, -, -,w6⟩ := oread (q:=false) h hnf ha (by omega)
      rw [w1]; simp only [Option.bind_some]
      exact fin (e:=0) (.inl ⟨by decide,m1,w2.mono (by omega),w3,w6⟩)
    · rw [if_neg k1]
      by_cases k2 : S.Kind=2
      · rw [if_pos k2]
        obtain ⟨e,o1,s1,w1, -,w2⟩ := oflush (p:=fun _=>False) h hnf (by omega)
        rw [w1]; simp only [Option.bind_some]
        refine fin ?_
        rcases w2 with ⟨rfl, -,⟨m',z1,z2, -,z4⟩, -⟩ | ⟨rfl, -,z⟩
        · exact .inl ⟨by decide,m',z1,z2,z4⟩
        · exact .inr ⟨rfl,z⟩
      · rw [if_neg k2]
        by_cases k3 : S.Kind=3
        · rw [if_pos k3]
          exact fin (.inr ⟨rfl,h.dnn.mono (by omega)⟩)
        · rw [if_neg k3]
          by_cases k4 : S.Kind=4
          · rw [if_pos k4,grd_t (inI64_of (by omega)),grd_t (inI64_of (by omega))]
            exact fin (e:=0) (.inl ⟨by decide,m,(h.fuse).mono (by omega),hnf,rfl⟩)
          · rw [if_neg k4]
            exact fin (e:=0) (.inl ⟨by decide,m,h.mono (by omega),hnf,rfl⟩)
end
end Go.Proofs
namespace Go.Proofs
open Go.VG
def wordsL (n : Nat) (seed : UInt64) : List UInt64 := (List.range n).map fun j=>seed + to_u64 ((j : Nat) : Int) * (11400714819323198485 : UInt64)
@[simp] theorem wordsL_length {n : Nat} {seed : UInt64} : (wordsL n seed).length=n := by simp [wordsL]
theorem words_l1 {n : Nat} {seed : UInt64} (hn : n≤1000000) : ∀ (N i : Nat) (acc : List UInt64),n - i < N→i≤n→acc=wordsL i seed →
    volumegroupmake_Words_l1 (n : Int) seed N acc i=some (wordsL n seed)
  | 0,_,_,h,_,_=>absurd h (by omega)
  | N + 1,i,acc,h,hi,ha=>by
    show volumegroupmake_Words_l1_b _ _ _ _ _=_
    unfold volumegroupmake_Words_l1_b
    subst ha
    by_cases hlt : i < n
    · rw [if_pos (by omega),grd_t (inLen_of (by simp; omega)),grd_t (inN64_of (by omega))]
      refine words_l1 hn N (i + 1) _ (by omega) (by omega) ?_
      simp [wordsL,List.range_succ]
    · rw [if_neg (by omega)]
      have : i=n := by omega
      rw [this]
theorem words_eq {n : Nat} {seed : UInt64} (hn : n≤1000000) : volumegroupmake_Words (n : Int) seed=some (wordsL n seed) := by
  unfold volumegroupmake_Words
  have hF := fuel_big
  generalize FUEL=N at hF ⊢
  rw [words_l1 hn N 0 [] (by omega) (by omega) (by simp [wordsL])]; rfl
end Go.Proofs
namespace Go.Proofs
open Go.VG
theorem awake21 : volumegrouplaw21_awake=some true := by kernel_rfl
theorem u8mod {n k : UInt8} (hk : 0 < k.toNat) : (n % k).toNat < k.toNat := by rw [UInt8.toNat_mod]; exact Nat.mod_lt _ hk
def CM (n : UInt8) : MC where
  L := 2 + (n % 2).toNat
  sz := 1 + ((n / 2) % 12).toNat
  rg := 1 + ((n / 24) % 4).toNat
  lg := decide (((128 : UInt8).toNat : Int)≤(n.toNat : Int))
  hL := by have := @u8mod n 2 (by decide); have e : (2 : UInt8).toNat=2 := rfl; omega
  hs := by have := @u8mod (n / 2) 12 (by decide); have e : (12 : UInt8).toNat=12 := rfl; omega
  hr := by have := @u8mod (n / 24) 4 (by decide); have e : (4 : UInt8).toNat=4 := rfl; omega
structure St0 (C : MC) (ws : List UInt64) (s : ArrS) : Prop where
  ok : ArrOk C.ns 10 s
  dn : s.down=false
  fuse : s.fuse=0
  miss : ∀ e,miss s e=false
  wl : ws.length=C.sz
  now : ∀ i a,i < C.L→a < C.sz→now s i a=ws.getD a 0
  cand : ∀ i a,i≤C.L→a < C.ns.getD i 0→cand s i a=[Go.Proofs.now s i a]
  head : Go.Proofs.now s C.L 0=headL C.R
  bits : Go.Proofs.now s C.L 1=0
def imsM (C : MC) (ws : List UInt64) : List (List UInt64) := List.replicate C.L ws ++ [List.replicate 3 0]
section
variable {C : MC} {ws : List UInt64}
theorem lens_imsM (hw : ws.length=C.sz) : lensN (imsM C ws)=C.ns := by
  unfold lensN imsM MC.ns
  rw [List.map_append,List.map_replicate,hw]; rfl
theorem imsM_leg {i : Nat} (h : i < C.L) : (imsM C ws).getD i []=ws := by
  unfold imsM
  simp only [List.getD,List.getElem?_append,List.length_replicate,h,if_true,List.getElem?_replicate]; rfl
theorem now_mkS {ims : List (List UInt64)} {i a : Nat} : now (mkS ims) i a=(ims.getD i []).getD a 0∧cand (mkS ims) i a=[(ims.getD i []).getD a 0] := by
  constructor
  · simp only [now,nowL,mkS,List.getD,List.getElem?_map]; cases ims[i]? <;> rfl
  · show dur (mkS ims) i a::pendR [] i a=_
    rw [pendR_nil]
    congr 1
    simp only [dur,durL,mkS,List.getD,List.getElem?_map]; cases ims[i]? <;> rfl
theorem begun_l1 {n : UInt8} (hC : C.L=2 + (n % 2).toNat) : ∀ (N i : Nat),C.L - i < N→i≤C.L→volumegrouplaw21_begun_l1 n ws N (List.replicate i ws) i=some (List.replicate C.L ws)
  | 0,_,h,_=>absurd h (by omega)
  | N + 1,i,h,hi=>by
    have hu : volumegrouplaw21_begun_l1 n ws (N + 1) (List.replicate i ws) i=volumegrouplaw21_begun_l1_b n ws (volumegrouplaw21_begun_l1 n ws N) (List.replicate i ws) i := rfl
    have hL := C.hL
    rw [hu]
    unfold volumegrouplaw21_begun_l1_b
    rw [← hC]
    by_cases hlt : i < C.L
    · rw [if_pos (by omega),grd_t (inLen_of (by simp; omega)),grd_t (inN64_of (by omega))]
      have e : List.replicate i ws ++ [ws]=List.replicate (i + 1) ws := by rw [List.replicate_succ']
      rw [e]
      exact begun_l1 hC N (i + 1) (by omega) (by omega)
    · rw [if_neg (by omega)]
      have : i=C.L := by omega
      rw [this]
theorem start0 (hw : ws.length=C.sz) : ∃ t,regionlog_Format (xL C.L 3) (C.R : Int) (mkS (imsM C ws))=some (0,t)∧St0 C ws t := by
  have hR := C.hR
  have hsz : InSz C.ns (mkS (imsM C ws)) := by rw [← lens_imsM hw]; exact inSz_mkS
  have hok : ArrOk C.ns 0 (mkS (imsM C ws)) := ⟨hsz,Nat.le_refl _,coh_mkS,rfl⟩
  have hgood : Good (mkS (imsM C ws)) := good_mkS
  obtain ⟨t,h1,h2⟩ := format_eq (d:=C.L) (m:=3) logL MC.log (by decide) hok rfl (hgood.miss C.L) rfl (R:=C.R) ⟨hR.1,by omega⟩ (by rw [MC.nW1]; omega) (by decide)
  refine ⟨t,h1,⟨h2.ok.mono (by rw [MC.nW1]; omega),h2.dn,h2.fuse,fun e=>by rw [h2.miss]; exact hgood.miss e,hw,fun i a hi ha => ?_,fun i a hi ha => ?_,?_,?_⟩⟩
  · rw [(h2.other i a (by omega) (by rw [MC.len]; omega) (by rw [MC.leg hi]; exact ha)).1,now_mkS.1,imsM_leg hi]
  · by_cases e : i=C.L
    · subst e
      exact h2.cand a (by rw [← MC.log (C:=C)]; exact ha)
    · have hi' : i < C.L := by omega
      rw [MC.leg hi'] at ha
      obtain ⟨g1,g2⟩ := h2.other i a e (by rw [MC.len]; omega) (by rw [MC.leg hi']; exact ha)
      rw [g2,g1,now_mkS.1,now_mkS.2]
  · rw [h2.now 0 (by decide),if_pos rfl]
  · rw [h2.now 1 (by decide),if_neg (by decide),if_pos (by rw [MC.nW1]; decide)]
theorem begun_eq (n : UInt8) : ∃ a,volumegrouplaw21_begun n=some (some a,(CM n).L,(CM n).sz,(CM n).rg,(CM n).lg,wordsL (CM n).sz 5)∧St0 (CM n) (wordsL (CM n).sz 5) a := by
  have hL := (CM n).hL
  have hs := (CM n).hs
  have hr := (CM n).hr
  have hR := (CM n).hR
  have e1 : 2 + (n % 2).toNat=(CM n).L := rfl
  have e2 : 1 + ((n / 2) % 12).toNat=(CM n).sz := rfl
  have e3 : 1 + ((n / 24) % 4).toNat=(CM n).rg := rfl
  have e4 : decide (((128 : UInt8).toNat : Int)≤(n.toNat : Int))=(CM n).lg := rfl
  unfold volumegrouplaw21_begun
  rw [e1,e2,e3,e4,grd_t (inN64_of (by omega)),grd_t (inN64_of (by omega)),grd_t (inN64_of (by omega)),words_eq (by omega)]; simp only [Option.bind_some]
  have hbl : volumegrouplaw21_begun_l1 n (wordsL (CM n).sz 5) FUEL [] 0=some (List.replicate (CM n).L (wordsL (CM n).sz 5)) := by
    have hF := fuel_big
    exact begun_l1 (C:=CM n) rfl FUEL 0 (by omega) (by omega)
  rw [hbl]; simp only [Option.bind_some]
  generalize hC : CM n=C at hL hs hr hR ⊢
  have him : List.replicate C.L (wordsL C.sz 5) ++ [List.replicate 3 0]=imsM C (wordsL C.sz 5) := rfl
  have hlen : (imsM C (wordsL C.sz 5)).length=C.L + 1 := by simp [imsM]
  rw [grd_t (inLen_of (by simp; omega)),him,loaded_eq (by omega) (fun im hm=>by
    unfold imsM at hm
    rcases List.mem_append.1 hm with hm | hm
    · rw [(List.mem_replicate.1 hm).2,wordsL_length]; omega
    · rw [List.mem_singleton.1 hm]; simp)]; simp only [Option.bind_some,Option.elim_some]
  have hsz : InSz C.ns (mkS (imsM C (wordsL C.sz 5))) := by rw [← lens_imsM (C:=C) (ws:=wordsL C.sz 5) wordsL_length]; exact inSz_mkS
  have hcnt : (mkS (imsM C (wordsL C.sz 5))).drv.length=C.L + 1 := by rw [hsz.cnt]; exact MC.len
  have hsL : (mkS (imsM C (wordsL C.sz 5))).size C.L=3 := by rw [hsz.size C.L logL,MC.log]
  rw [spans_eq (by omega) (fun i hi=>by
    rcases Nat.lt_or_ge i C.L with x | x
    · rw [hsz.size i (by rw [MC.len]; omega),MC.leg x]; omega
    · have : i=C.L := by omega
      subst this; rw [hsL]; omega)]; simp only [Option.bind_some,spansA_length,hcnt]
  rw [grd_t (inN64_of (by omega)),if_neg (by simp),refRegions_eq]; simp only [Option.bind_some]
  have hx : (spansA (mkS (imsM C (wordsL C.sz 5)))).getD C.L dv0=xL C.L 3 := by rw [spansA_getD (by omega),hsL]; rfl
  obtain ⟨t,t1,t2⟩ := start0 (C:=C) (ws:=wordsL C.sz 5) wordsL_length
  rw [hx,t1]; simp only [Option.bind_some]
  rw [if_neg (by simp)]
  exact ⟨t,rfl,t2⟩
def lvA (C : MC) : LV := ⟨fun i=>decide (i < C.L) || (decide (i=C.L) && C.lg),[],fun _=>0⟩
theorem lvA_leg {i : Nat} (h : i < C.L) : (lvA C) i=true := by show (decide (i < C.L) || _)=true; rw [decide_eq_true h]; rfl
theorem lvA_log : (lvA C) C.L=C.lg := by show (decide (C.L < C.L) || (decide (C.L=C.L) && C.lg))=C.lg; rw [decide_eq_false (Nat.lt_irrefl _),decide_eq_true rfl]; cases C.lg <;> rfl
def own0 (C : MC) (ws : List UInt64) : OwnS := ⟨(C.L : Int),(C.sz : Int),(C.rg : Int),C.lg,none,trkT ws,[],[]⟩
theorem trkT_at {a : Nat} (h : a < ws.length) : (trkT ws).getD a s0=mkSec (ws.getD a 0) := by
  unfold trkT
  simp only [List.getD,List.getElem?_map,List.getElem?_eq_getElem h]; rfl
theorem St0.di {s : ArrS} {lv : LV} (h : St0 C ws s) (hex : ∃ i,i < C.L∧lv i=true) (hlg : lv C.L=true→C.lg=true) : DI C 10 s (trkT ws) lv := by
  refine ⟨h.ok,by unfold trkT; simp [h.wl],hex,fun i _ _=>h.miss i,hlg,fun a ha i hi _ c hc => ?_,fun _ c hc => ?_,fun _ r _ => .inr ⟨fun b=>ws.getD b 0,fun b hb _ i hi _ c hc => ?_⟩⟩
  · rw [h.cand i a (by omega) (by rw [MC.leg hi]; exact ha),List.mem_singleton,h.now i a hi ha] at hc
    rw [trkT_at (by rw [h.wl]; exact ha),hc]; exact List.mem_singleton.2 rfl
  · rw [h.cand C.L 0 (Nat.le_refl _) (by rw [MC.log]; decide),List.mem_singleton,h.head] at hc
    exact hc
  · rw [h.cand i b (by omega) (by rw [MC.leg hi]; exact hb),List.mem_singleton,h.now i b hi hb] at hc
    exact hc
theorem St0.begin {s : ArrS} {lv : LV} {o : OwnS} (h : St0 C ws s) (hoi : OI C 10 lv s o) (hT : o.T=trkT ws) (hex : ∃ i,i < C.L∧lv i=true) (hlg : lv C.L=true→C.lg=true) :
    ∃ o' m,volumegroupmake_Owner_Begin o s=some (true,o')∧UP C 1000 lv s o' m (fun _=>False)∧NF m∧m.copied=0∧o'.T=trkT ws ∧ ∀ r,r < C.R→(m.dirty.getD r false=true↔(lv C.L=true→tb (Go.Proofs.now s C.L 1) r=true)) := by
  have hdi := h.di hex hlg
  obtain ⟨o',m,b1,b2,b3⟩ := obegin hoi hdi.miss hdi.ok h.dn hex hlg (by omega) hdi.head (fun _=>h.cand C.L 1 (Nat.le_refl _) (by rw [MC.log]; decide)) (by rw [hT]; exact hdi.tl)
  have hT' : o'.T=trkT ws := b3.T.trans hT
  have hs := C.hs
  refine ⟨o',m,b1,⟨b2,b3.oi.mono (by omega),by rw [hT']; exact hdi.mono (by omega),b3.mi,fun a ha _ => ?_,fun a ha => ?_,h.dn⟩,b3.nf,b3.copied,hT',b3.dirty⟩
  · rw [hT',trkT_at (by rw [h.wl]; exact ha)]
    exact ⟨rfl,fun j hj _=>h.now j a hj ha⟩
  · rw [hT',trkT_at (by rw [h.wl]; exact ha)]
    show ([_] : List UInt64).length≤_
    simp
theorem St0.oi {s : ArrS} (h : St0 C ws s) : OI C 10 (lvA C) s (own0 C ws) :=
  ⟨rfl,rfl,rfl,rfl,fun k hk=>(by cases hk),by simp [own0],fun i hi hl=>by
    rcases Nat.lt_or_ge i C.L with x | x
    · rw [lvA_leg x] at hl; cases hl
    · have : i=C.L := by omega
      subst this
      rw [lvA_log] at hl
      exact .inr (.inr ⟨rfl,hl⟩),fun i _ hm=>(by rw [h.miss] at hm; cases hm),fun k hk=>(by cases hk),⟨rfl,by simp [lvA]⟩,fun _ _=>rfl⟩
theorem few_eq {l : List volumegroupmake_Step} : volumegroupmake_Few l=some (decide (l.length≤24)) := by
  unfold volumegroupmake_Few
  congr 1
  exact decide_eq_decide.2 (by omega)
end
end Go.Proofs
namespace Go.Proofs
open Go.VG
section
variable {C : MC} {K K' a i k : Nat} {s t u y : ArrS} {lv : LV} {m m' x : MirS} {w v : UInt64} {o : OwnS} {ex p : Nat→Prop} {T : List Sec}
theorem Ev.mono {q : Nat→Prop} (h : Ev C lv s t p) (hpq : ∀ r,p r→q r) : Ev C lv s t q := ⟨h.miss,h.dead,fun hl c hc r hr hb=>(h.bit hl c hc r hr hb).imp (hpq r) id⟩
theorem ostep_q (h : UP C K lv s o m (fun _=>False)) (hnf : NF m) (hK : K≤35000) (hf : s.fuse=0) (S : volumegroupmake_Step) (hk : S.Kind < 3) :
    ∃ (b : Nat) (o' : OwnS) (m' : MirS) (s' : ArrS),(S.At.tmod (C.sz : Int) + (C.sz : Int)).tmod (C.sz : Int)=(b : Int)∧b < C.sz ∧ -65536 < S.At.tmod (C.sz : Int)∧S.At.tmod (C.sz : Int) < 65536∧volumegroupmake_Owner_Step o S s=some (true,o',s')∧UP C (K + 80) lv s' o' m' (fun _=>False)∧NF m' ∧ s'.fuse=0∧m'.dirty=m.dirty∧m'.copied=m.copied∧Ev C lv s s' (fun r=>S.Kind=0∧r=b / C.rg) := by
  have hs := C.hs
  obtain ⟨a,ha1,ha,hlo,hhi⟩ := at_ok S.At (n:=C.sz) (by omega) (by omega)
  unfold volumegroupmake_Owner_Step
  rw [h.di.tl,grd_t (decide_eq_true (by omega)),grd_t (inI64_of (by omega)),grd_t (decide_eq_true (by omega)),ha1]
  simp only [lt]
  by_cases k0 : S.Kind=0
  · rw [if_pos k0]
    obtain ⟨e,o1,s1,w1,w0,w2⟩ := owrite (v:=S.Value) h hnf ha (by omega)
    rw [w1]; simp only [Option.bind_some]
    rcases w2 with ⟨rfl,z0,m',z1,z2,z3,z4⟩ | ⟨-,z, -⟩
    · rw [if_neg (by simp),if_pos (by simp)]
      exact ⟨a,o1,m',s1,rfl,ha,hlo,hhi,rfl,z1,z2,z0 hf,z3,z4,w0.mono (fun r hr=>⟨k0,hr⟩)⟩
    · exact absurd hf z
  · rw [if_neg k0]
    by_cases k1 : S.Kind=1
    · rw [if_pos k1]
      obtain ⟨o1,m1,w1,w2,w3,w4,w5,w6⟩ := oread (q:=false) h hnf ha (by omega)
      rw [w1]; simp only [Option.bind_some]
      rw [if_neg (by simp),if_pos (by simp)]
      exact ⟨a,o1,m1,s,rfl,ha,hlo,hhi,rfl,w2.mono (by omega),w3,hf,w5,w6,Ev.refl⟩
    · rw [if_neg k1]
      by_cases k2 : S.Kind=2
      · rw [if_pos k2]
        obtain ⟨e,o1,s1,w1,w0,w2⟩ := oflush (p:=fun r=>S.Kind=0∧r=a / C.rg) h hnf (by omega)
        rw [w1]; simp only [Option.bind_some]
        rcases w2 with ⟨rfl,z0,⟨m',z1,z2,z3,z4⟩, -⟩ | ⟨-,z, -⟩
        · rw [if_neg (by simp),if_pos (by simp)]
          exact ⟨a,o1,m',s1,rfl,ha,hlo,hhi,rfl,z1,z2,z0 hf,z3,z4,w0⟩
        · exact absurd hf z
      · rw [if_neg k2,if_neg (by omega),if_neg (by omega)]; simp only [Option.bind_some]
        rw [if_neg (by simp),if_pos (by simp)]
        exact ⟨a,o,m,s,rfl,ha,hlo,hhi,rfl,h.mono (by omega),hnf,hf,rfl,rfl,Ev.refl⟩
end
end Go.Proofs
namespace Go.Proofs
open Go.VG
def drtyL (d : List Bool) (n : Nat) : List Int := ((List.range n).filter fun i=>d.getD i false).map fun i=>((i : Nat) : Int)
theorem drtyL_succ {d : List Bool} {n : Nat} : drtyL d (n + 1)=drtyL d n ++ if d.getD n false=true then [((n : Nat) : Int)] else [] := by
  unfold drtyL
  rw [List.range_succ,List.filter_append,List.map_append]
  congr 1
  by_cases h : d.getD n false=true
  · rw [if_pos h,List.filter_cons_of_pos (by simpa using h)]; rfl
  · rw [if_neg h,List.filter_cons_of_neg (by simpa using h)]; rfl
theorem drtyL_le {d : List Bool} {n : Nat} : (drtyL d n).length≤n := by
  unfold drtyL
  rw [List.length_map]
  exact Nat.le_trans (List.length_filter_le _ _) (by simp)
theorem drtyL_mem {d : List Bool} {n k : Nat} (hk : k < (drtyL d n).length) : ∃ r : Nat,r < n∧d.getD r false=true∧(drtyL d n).getD k 0=r := by
  have h1 : (drtyL d n).getD k 0 ∈ drtyL d n := by
    simp only [List.getD,List.getElem?_eq_getElem hk,Option.getD_some]; exact List.getElem_mem hk
  unfold drtyL at h1
  obtain ⟨r,hr,e⟩ := List.mem_map.1 h1
  have h2 := List.mem_filter.1 hr
  exact ⟨r,List.mem_range.1 h2.1,h2.2,e.symm⟩
theorem mdirty_l1 {m : MirS} (hd : m.dirty.length≤1000) : ∀ (N i : Nat),m.dirty.length - i < N→i≤m.dirty.length→mirror_Mirror_Dirty_l1 m N i (drtyL m.dirty i)=some (drtyL m.dirty m.dirty.length)
  | 0,_,h,_=>absurd h (by omega)
  | N + 1,i,h,hi=>by
    have hu : mirror_Mirror_Dirty_l1 m (N + 1) i (drtyL m.dirty i)=mirror_Mirror_Dirty_l1_b m (mirror_Mirror_Dirty_l1 m N) i (drtyL m.dirty i) := rfl
    rw [hu]
    unfold mirror_Mirror_Dirty_l1_b
    by_cases hlt : i < m.dirty.length
    · have hrec := mdirty_l1 hd N (i + 1) (by omega) (by omega)
      rw [drtyL_succ] at hrec
      have hle := @drtyL_le m.dirty i
      rw [if_pos (by omega)]
      by_cases hb : m.dirty.getD i false=true
      · rw [if_pos hb] at hrec
        rw [if_pos hb,grd_t (inLen_of (by omega)),hrec]
      · rw [if_neg hb,List.append_nil] at hrec
        rw [if_neg hb,hrec]
    · rw [if_neg (by omega)]
      have : i=m.dirty.length := by omega
      rw [this]
theorem mdirty_eq {m : MirS} {s : ArrS} (hd : m.dirty.length≤1000) : mirror_Mirror_Dirty m s=some (drtyL m.dirty m.dirty.length) := by
  unfold mirror_Mirror_Dirty
  have hF := fuel_big
  have h := mdirty_l1 hd FUEL 0 (by omega) (by omega)
  have e : drtyL m.dirty 0=[] := rfl
  rw [e] at h
  rw [h]; rfl
end Go.Proofs
namespace Go.Proofs
open Go.VG
structure Qt (C : MC) (K : Nat) (s : ArrS) (lv : LV) (t : ArrS) : Prop where
  ok : ArrOk C.ns K t
  dn : t.down=false
  fz : t.fuse=0
  miss : ∀ e,Go.Proofs.miss t e=Go.Proofs.miss s e
  now : ∀ e b,e < C.L→b < C.sz→Go.Proofs.now t e b=Go.Proofs.now s e b
  sub : ∀ j,j < C.L→lv j=true → ∀ b,b < C.sz → ∀ c ∈ cand t j b,c ∈ cand s j b
  log : ∀ b,b < 3→Go.Proofs.now t C.L b=Go.Proofs.now s C.L b∧cand t C.L b=cand s C.L b
section
variable {C : MC} {K K' a i k : Nat} {s t u y : ArrS} {lv : LV} {m m' x : MirS} {w v : UInt64} {o : OwnS} {ex p : Nat→Prop} {T : List Sec}
theorem Qt.refl (hok : ArrOk C.ns K s) (hdn : s.down=false) (hf : s.fuse=0) : Qt C K s lv s := ⟨hok,hdn,hf,fun _=>rfl,fun _ _ _ _=>rfl,fun _ _ _ _ _ _ h=>h,fun _ _=>⟨rfl,rfl⟩⟩
theorem Qt.trans (h : Qt C K s lv t) (h' : Qt C K' t lv u) : Qt C K' s lv u := ⟨h'.ok,h'.dn,h'.fz,fun e=>(h'.miss e).trans (h.miss e),fun e b he hb=>(h'.now e b he hb).trans (h.now e b he hb),fun j hj hl b hb c hc=>h.sub j hj hl b hb c (h'.sub j hj hl b hb c hc),fun b hb=>⟨(h'.log b hb).1.trans (h.log b hb).1,(h'.log b hb).2.trans (h.log b hb).2⟩⟩
theorem Qt.mono (h : Qt C K s lv t) (hK : K≤K') : Qt C K' s lv t := { h with ok := h.ok.mono hK }
theorem Qt.put (h : Qt C K s lv t) (hi : i < C.L) (ha : a < C.sz) (hw : w=Go.Proofs.now s i a) (h1 : Wrote C.ns K t i a w u) : Qt C (K + 1) s lv u := by
  have hn : ∀ e b,e < C.L→b < C.sz→Go.Proofs.now u e b=Go.Proofs.now s e b := fun e b he hb=>by
    rw [h1.now]; split
    · rename_i z; obtain ⟨rfl,rfl⟩ := z; exact hw
    · exact h.now e b he hb
  refine ⟨h1.ok,h1.dn,by rw [h1.fuse,h.fz],fun e=>by rw [h1.miss,h.miss],hn,fun j hj hl b hb c hc => ?_,fun b hb => ?_⟩
  · rw [h1.cand] at hc
    split at hc
    · rename_i z; obtain ⟨rfl,rfl⟩ := z
      rcases List.mem_append.1 hc with hc | hc
      · exact h.sub _ hj hl _ hb c hc
      · rw [List.mem_singleton.1 hc,hw, ← h.now i a hi ha]
        exact h.sub _ hj hl _ hb _ (h.ok.now_cand (by rw [MC.len]; omega) (by rw [MC.leg hi]; exact ha))
    · exact h.sub j hj hl b hb c hc
  · rw [h1.now,h1.cand,if_neg (fun z=>by omega),if_neg (fun z=>by omega)]; exact h.log b hb
theorem Qt.fl (h : Qt C K s lv t) (hi : i < C.L) (h1 : Flushed1 C.ns K t i u) : Qt C K s lv u := by
  refine ⟨h1.ok,h1.dn,by rw [h1.fuse,h.fz],fun e=>by rw [h1.miss,h.miss],fun e b he hb=>by rw [h1.now]; exact h.now e b he hb,fun j hj hl b hb c hc => ?_,fun b hb => ?_⟩
  · rw [h1.cand j b (by rw [MC.len]; omega) (by rw [MC.leg hj]; exact hb)] at hc
    split at hc
    · rw [List.mem_singleton.1 hc]
      exact h.sub j hj hl b hb _ (h.ok.now_cand (by rw [MC.len]; omega) (by rw [MC.leg hj]; exact hb))
    · exact h.sub j hj hl b hb c hc
  · rw [h1.now,h1.cand C.L b logL (by rw [MC.log]; exact hb),if_neg (by omega)]; exact h.log b hb
def AG (C : MC) (lv : LV) (m : MirS) : Prop := ∀ i,i < C.L→stM m i=0→lv i=true
def Val (C : MC) (lv : LV) (s : ArrS) (f : Nat→UInt64) : Prop := ∀ a,a < C.sz → ∀ j,j < C.L→lv j=true→Go.Proofs.now s j a=f a
theorem Qt.mi (h : Qt C K s lv t) (hm : MI C s lv m) : MI C t lv m := hm.arr h.miss h.log
theorem Qt.val {f : Nat→UInt64} (h : Qt C K s lv t) (hv : Val C lv s f) : Val C lv t f := fun a ha j hj hl=>by rw [h.now j a hj ha]; exact hv a ha j hj hl
theorem rsync1 {f : Nat→UInt64} (h : MI C s lv m) (hnf : NF m) (hag : AG C lv m) (hv : Val C lv s f) (hok : ArrOk C.ns K s) (hdn : s.down=false) (hf : s.fuse=0) (hK : K + 8≤1000000) (ha : a < C.sz) {fr : Int} :
    ∃ t,mirror_Mirror_each__mirror_Mirror_Resync_1 m fr (a : Int) (f a) s=some (0,m,t)∧Qt C (K + 8) s lv t := by
  have hF := fuel_big
  have hL := C.hL
  obtain ⟨e,x',y',e1,e2⟩ := each_end (r:=mirror_Mirror_each__mirror_Mirror_Resync_1 m fr (a : Int) (f a) s) rfl (P:=fun x y=>x=m∧Qt C (K + m.legs.length) s lv y) (Q:=fun _ _=>False) (fun x y hp=>by rw [hp.1]; exact h.l6)
    (each_rule (L:=m.legs.length) (f:=mirror_Mirror_each__mirror_Mirror_Resync_1_l1 m fr (a : Int) (f a)) (ch:=fun i=>mirror_Mirror_Resync_1 ((i : Nat) : Int) fr) (act:=fun i x y=>mirror_Mirror_Resync_2 ((i : Nat) : Int) x (a : Int) (f a) y) (fun _ _ _ _=>rfl)
      (c:=fun i=>decide (((i : Nat) : Int)≠fr)) (fun i _=>rfl) (fun i x y=>x=m∧Qt C (K + i) s lv y) (fun _ _=>False) (fun i x y hp=>by rw [hp.1])
      (fun i x y hi hp hst _=>by
        obtain ⟨rfl,hq⟩ := hp
        rw [h.len] at hi
        have hun : ∀ o,mirror_Mirror_Resync_2 ((i : Nat) : Int) x (a : Int) (f a) y=Option.bind o (fun r8=>some (r8.1,r8.2))→mirror_Mirror_Resync_2 ((i : Nat) : Int) x (a : Int) (f a) y=o := fun o ho=>by rw [ho]; cases o <;> rfl
        have hw : mirror_Mirror_Resync_2 ((i : Nat) : Int) x (a : Int) (f a) y=(xL i C.sz).wr y (a : Int) (f a) := hun _ (by unfold mirror_Mirror_Resync_2; rw [h.gI hi,Int.toNat_natCast,h.dev hi])
        have hl := hag i hi hst
        rw [hw,leg_wr hq.ok (by omega) hi ha]
        rcases hq.ok.wrA (v:=f a) (by omega) hq.dn (by rw [MC.len]; omega : i < C.ns.length) (by rw [MC.leg hi]; exact ha) (by rw [hq.miss]; exact (h.live hi hl).2) with ⟨-,w2,w3⟩ | ⟨w1, -⟩
        · rw [w2]; exact ⟨0,_,rfl,.inl ⟨rfl,rfl,hq.put hi ha (hv a ha i hi hl).symm w3⟩⟩
        · rw [hq.fz] at w1; cases w1)
      (fun i x y hi hp _=>⟨hp.1,hp.2.mono (by omega)⟩) FUEL 0 m s (by have := h.l6; omega) (by omega) ⟨rfl,Qt.refl hok hdn hf⟩)
  rw [e1]
  rcases e2 with ⟨rfl,e2,rfl,e3⟩ | ⟨rfl,e2,rfl,e3⟩ | ⟨-,e2⟩
  · exact ⟨y',rfl,e3.mono (by rw [h.len]; omega)⟩
  · exact absurd hnf e2
  · exact e2.elim
theorem idxL_l1 {l : List mlegS} (hl : l.length≤6) : ∀ (N i : Nat),l.length - i < N→i≤l.length → ∃ r,slices_IndexFunc_leg__mirror_Mirror_others_1_l1 l s N i=some r
  | 0,_,h,_=>absurd h (by omega)
  | N + 1,i,h,hi=>by
    have hu : slices_IndexFunc_leg__mirror_Mirror_others_1_l1 l s (N + 1) i=slices_IndexFunc_leg__mirror_Mirror_others_1_l1_b l s (slices_IndexFunc_leg__mirror_Mirror_others_1_l1 l s N) i := rfl
    rw [hu]
    unfold slices_IndexFunc_leg__mirror_Mirror_others_1_l1_b mirror_Mirror_others_1
    by_cases hlt : i < l.length
    · rw [if_pos (by omega)]; simp only [Option.bind_some]
      split
      · exact ⟨_,rfl⟩
      · rw [grd_t (inN64_of (by omega))]
        exact idxL_l1 (l:=l) hl N (i + 1) (by omega) (by omega)
    · rw [if_neg (by omega)]; exact ⟨_,rfl⟩
theorem others_eq (h : MI C s lv m) (hnf : NF m) (hag : AG C lv m) (hok : ArrOk C.ns K s) (hdn : s.down=false) (hf : s.fuse=0) (hK : K≤1000000) :
    ∃ t,mirror_Mirror_others m s=some (0,m,t)∧Qt C K s lv t := by
  have hF := fuel_big
  have hL := C.hL
  have hidx : ∃ r,slices_IndexFunc_leg__mirror_Mirror_others_1 m.legs s=some r := by
    unfold slices_IndexFunc_leg__mirror_Mirror_others_1
    obtain ⟨r,hr⟩ := idxL_l1 (s:=s) (l:=m.legs) h.l6 FUEL 0 (by have := h.l6; omega) (by omega)
    rw [hr]
    cases r with
    | inl r=>exact ⟨_,rfl⟩
    | inr r=>exact ⟨_,rfl⟩
  obtain ⟨fr,hfr⟩ := hidx
  unfold mirror_Mirror_others
  rw [hfr]; simp only [Option.bind_some]
  obtain ⟨e,x',y',e1,e2⟩ := each_end (r:=mirror_Mirror_each__mirror_Mirror_others_2 m fr s) rfl (P:=fun x y=>x=m∧Qt C K s lv y) (Q:=fun _ _=>False) (fun x y hp=>by rw [hp.1]; exact h.l6)
    (each_rule (L:=m.legs.length) (f:=mirror_Mirror_each__mirror_Mirror_others_2_l1 m fr) (ch:=fun i=>mirror_Mirror_others_2 ((i : Nat) : Int) fr) (act:=fun i x y=>mirror_Mirror_others_3 ((i : Nat) : Int) x y) (fun _ _ _ _=>rfl)
      (c:=fun i=>decide (((i : Nat) : Int)≠fr)) (fun i _=>rfl) (fun i x y=>x=m∧Qt C K s lv y) (fun _ _=>False) (fun i x y hp=>by rw [hp.1])
      (fun i x y hi hp hst _=>by
        obtain ⟨rfl,hq⟩ := hp
        rw [h.len] at hi
        have hun : ∀ o,mirror_Mirror_others_3 ((i : Nat) : Int) x y=Option.bind o (fun r8=>some (r8.1,r8.2))→mirror_Mirror_others_3 ((i : Nat) : Int) x y=o := fun o ho=>by rw [ho]; cases o <;> rfl
        have hw : mirror_Mirror_others_3 ((i : Nat) : Int) x y=(xL i C.sz).fl y := hun _ (by unfold mirror_Mirror_others_3; rw [h.gI hi,Int.toNat_natCast,h.dev hi])
        have hl := hag i hi hst
        obtain ⟨k1,k2⟩ := hq.ok.flA (d:=i) hq.dn (by rw [MC.len]; omega) (by rw [hq.miss]; exact (h.live hi hl).2)
        rw [hw,leg_fl hq.ok hK hi,k1]
        exact ⟨0,_,rfl,.inl ⟨rfl,rfl,hq.fl hi k2⟩⟩)
      (fun i x y hi hp _=>hp) FUEL 0 m s (by have := h.l6; omega) (by omega) ⟨rfl,Qt.refl hok hdn hf⟩)
  rw [e1]; simp only [Option.bind_some]
  rcases e2 with ⟨rfl,e2,rfl,e3⟩ | ⟨rfl,e2,rfl,e3⟩ | ⟨-,e2⟩
  · exact ⟨y',rfl,e3⟩
  · exact absurd hnf e2
  · exact e2.elim
theorem fetch_live (h : MI C s lv m) (hag : AG C lv m) (hok : ArrOk C.ns K s) (hdn : s.down=false) (ha : a < C.sz) (hex : ∃ j,j < C.L∧lv j=true) : ∃ f : Nat,f < C.L∧lv f=true∧mirror_Mirror_fetch m (a : Int) s=some (now s f a,((f : Nat) : Int),[],0,m) := by
  rcases fetch_eq h hok hdn ha hex with z | ⟨k,k1,k2,k3, -⟩
  · exact z
  · have := (h.live k1 (hag k k1 k2)).2
    rw [this] at k3; cases k3
def cpM (m : MirS) (c : Int) : MirS := { m with copied := c }
theorem MI.cp {c : Int} (h : MI C s lv m) : MI C s lv (cpM m c) := ⟨h.len,h.leg,h.size,h.region,h.hasLog,h.dl,h.log,h.d⟩
theorem NF.cp {c : Int} (h : NF m) : NF (cpM m c) := ⟨h.leg,h.log⟩
def endR (C : MC) (r : Nat) : Nat := min ((r + 1) * C.rg) C.sz
theorem end_eq (h : MI C s lv m) {r : Nat} (hr : r < C.R) : mirror_Mirror_end m ((r : Nat) : Int) s=some ((endR C r : Nat) : Int) := by
  have hR := C.hR
  have hrg := C.hr
  have h1 : (r + 1) * C.rg≤12 * 4 := Nat.mul_le_mul (by omega) (by omega)
  unfold mirror_Mirror_end
  have e1 : ((r : Nat) : Int) + 1=((r + 1 : Nat) : Int) := by omega
  have e2 : ((r + 1 : Nat) : Int) * (C.rg : Int)=(((r + 1) * C.rg : Nat) : Int) := by rw [Int.natCast_mul]
  rw [h.region,e1,grd_t (inI64_of (by omega)),e2]
  unfold endR
  generalize (r + 1) * C.rg=q at h1
  rw [grd_t (inI64_of (by omega)),h.size]
  congr 1
  omega
theorem rsync_l2 {f : Nat→UInt64} {r4 : List Int} {x17 r : Nat} (hr4 : r4.getD x17 0=((r : Nat) : Int)) (hr : r < C.R) (hex : ∃ j,j < C.L∧lv j=true) : ∀ (N : Nat) (K : Nat) (m : MirS) (s : ArrS) (n a c : Nat),endR C r - a < N→a≤endR C r→K + 8 * (endR C r - a)≤900000→n≤1000000→c + (endR C r - a)≤1000→MI C s lv m→NF m→AG C lv m→Val C lv s f→ArrOk C.ns K s→s.down=false→s.fuse=0→m.copied=(c : Int) →
    ∃ t,Qt C (K + 8 * (endR C r - a)) s lv t∧(endR C r - a≤n∧mirror_Mirror_Resync_l2 r4 x17 N m s ((n : Nat) : Int) ((a : Nat) : Int)=some (.inl (((n - (endR C r - a) : Nat) : Int),cpM m ((c + (endR C r - a) : Nat) : Int),t)) ∨
      n < endR C r - a∧mirror_Mirror_Resync_l2 r4 x17 N m s ((n : Nat) : Int) ((a : Nat) : Int)=some (.inr (.inl (cpM m ((c + n : Nat) : Int),t))))
  | 0,_,_,_,_,_,_,h,_,_,_,_,_,_,_,_,_,_,_,_=>absurd h (by omega)
  | N + 1,K,m,s,n,a,c,h,hae,hK,hn,hc,hmi,hnf,hag,hv,hok,hdn,hf,hcp=>by
    have hs := C.hs
    have hle : endR C r≤C.sz := Nat.min_le_right _ _
    have hun : mirror_Mirror_Resync_l2 r4 x17 (N + 1) m s ((n : Nat) : Int) ((a : Nat) : Int)=mirror_Mirror_Resync_l2_b r4 x17 (mirror_Mirror_Resync_l2 r4 x17 N) m s ((n : Nat) : Int) ((a : Nat) : Int) := rfl
    rw [hun]
    unfold mirror_Mirror_Resync_l2_b
    rw [hr4,end_eq hmi hr]; simp only [Option.bind_some]
    have hcpe : ∀ {z : Nat},z=c→cpM m ((z : Nat) : Int)=m := fun {z} e=>by unfold cpM; rw [e, ← hcp]
    by_cases hlt : a < endR C r
    · rw [if_pos (by omega)]
      by_cases hn0 : n=0
      · subst hn0
        rw [if_pos (by omega)]
        refine ⟨s,(Qt.refl hok hdn hf).mono (by omega),.inr ⟨by omega,?_⟩⟩
        rw [hcpe (by omega)]
      · rw [if_neg (by omega),grd_t (inI64_of (by omega))]
        obtain ⟨fl,f1,f2,f3⟩ := fetch_live hmi hag hok hdn (by omega : a < C.sz) hex
        rw [f3]; simp only [Option.bind_some]
        rw [if_pos trivial,hv a (by omega) fl f1 f2]
        obtain ⟨t,t1,t2⟩ := rsync1 (fr:=((fl : Nat) : Int)) hmi hnf hag hv hok hdn hf (by omega) (by omega : a < C.sz)
        rw [t1]; simp only [Option.bind_some]
        rw [if_neg (by simp),hcp,grd_t (inI64_of (by omega)),grd_t (inI64_of (by omega))]
        have e1 : (c : Int) + 1=((c + 1 : Nat) : Int) := by omega
        have e2 : (a : Int) + 1=((a + 1 : Nat) : Int) := by omega
        have e3 : (n : Int) - 1=((n - 1 : Nat) : Int) := by omega
        rw [e1,e2,e3]
        have hm2 : ({ m with copied := ((c + 1 : Nat) : Int) } : MirS)=cpM m ((c + 1 : Nat) : Int) := rfl
        rw [hm2]
        obtain ⟨t',q1,q2⟩ := rsync_l2 (f:=f) hr4 hr hex N (K + 8) (cpM m ((c + 1 : Nat) : Int)) t (n - 1) (a + 1) (c + 1) (by omega) (by omega) (by omega) (by omega) (by omega) (t2.mi hmi).cp hnf.cp hag (t2.val hv) t2.ok t2.dn t2.fz rfl
        refine ⟨t',(t2.trans q1).mono (by omega),?_⟩
        rcases q2 with ⟨z1,z2⟩ | ⟨z1,z2⟩
        · refine .inl ⟨by omega,?_⟩
          rw [z2]
          have e4 : n - 1 - (endR C r - (a + 1))=n - (endR C r - a) := by omega
          have e5 : c + 1 + (endR C r - (a + 1))=c + (endR C r - a) := by omega
          rw [e4,e5]; rfl
        · refine .inr ⟨by omega,?_⟩
          rw [z2]
          have e5 : c + 1 + (n - 1)=c + n := by omega
          rw [e5]; rfl
    · rw [if_neg (by omega)]
      refine ⟨s,(Qt.refl hok hdn hf).mono (by omega),.inl ⟨by omega,?_⟩⟩
      rw [hcpe (by omega)]
      have e4 : n - (endR C r - a)=n := by omega
      rw [e4]
def lenR (C : MC) (r : Nat) : Nat := endR C r - r * C.rg
def lsum (C : MC) : List Int→Nat
  | []=>0
  | r::l=>lenR C r.toNat + lsum C l
def cpOk (C : MC) : List Int→Nat→Prop
  | [],c=>c=0
  | r::_,c=>c < lenR C r.toNat
def mOf (m : MirS) (d : List Bool) (c : Int) : MirS := { m with dirty := d,copied := c }
theorem lenR_le {r : Nat} : lenR C r≤4 := by
  have h1 : (r + 1) * C.rg=r * C.rg + C.rg := by rw [Nat.add_mul]; omega
  have hr := C.hr
  unfold lenR endR
  generalize (r + 1) * C.rg=q at h1 ⊢
  generalize r * C.rg=q' at h1 ⊢
  omega
theorem reg_lt {r : Nat} (hr : r < C.R) : r * C.rg < C.sz := by
  have hs := C.hs
  have h1 : r≤(C.sz - 1) / C.rg := by unfold MC.R at hr; omega
  have h2 := Nat.div_mul_le_self (C.sz - 1) C.rg
  have h3 := Nat.mul_le_mul_right C.rg h1
  omega
theorem lenR_pos {r : Nat} (hr : r < C.R) : 0 < lenR C r := by
  have h1 : (r + 1) * C.rg=r * C.rg + C.rg := by rw [Nat.add_mul]; omega
  have h2 := reg_lt hr
  have h3 := C.hr
  unfold lenR endR
  generalize (r + 1) * C.rg=q at h1 ⊢
  generalize r * C.rg=q' at h1 h2 ⊢
  omega
theorem lsum_le : ∀ (l : List Int),lsum C l≤4 * l.length
  | []=>Nat.le_refl _
  | r::l=>by
    have h1 := lsum_le l
    have h2 := @lenR_le C r.toNat
    show lenR C r.toNat + lsum C l≤4 * (l.length + 1)
    omega
theorem lsum_app : ∀ (l l' : List Int),lsum C (l ++ l')=lsum C l + lsum C l'
  | [],l' => by show lsum C l' = 0 + lsum C l'; omega
  | r::l,l' => by
    have h1 := lsum_app l l'
    show lenR C r.toNat + lsum C (l ++ l')=lenR C r.toNat + lsum C l + lsum C l'
    omega
theorem lsum_sz {d : List Bool} : ∀ n : Nat,lsum C (drtyL d n)≤min (n * C.rg) C.sz
  | 0=>by show 0≤_; omega
  | n + 1=>by
    have h1 := lsum_sz (d:=d) n
    rw [drtyL_succ,lsum_app]
    have h2 : lsum C (if d.getD n false=true then [((n : Nat) : Int)] else [])≤lenR C n := by
      split
      · show lenR C n + 0≤_
        omega
      · show 0≤_
        omega
    have h3 : (n + 1) * C.rg=n * C.rg + C.rg := by rw [Nat.add_mul]; omega
    unfold lenR endR at h2
    generalize (n + 1) * C.rg=q at h2 h3 ⊢
    generalize n * C.rg=q' at h1 h2 h3
    omega
theorem cpOk_zero {l : List Int} (hl : ∀ k,k < l.length → ∃ r : Nat,r < C.R∧l.getD k 0=r) : cpOk C l 0 := by
  cases l with
  | nil=>rfl
  | cons r l =>
    obtain ⟨r',h1,h2⟩ := hl 0 (by simp)
    have e : r=((r' : Nat) : Int) := h2
    subst e
    exact lenR_pos h1
theorem cpOk_le {l : List Int} {c : Nat} (h : cpOk C l c) : c≤lsum C l := by
  cases l with
  | nil=>have : c=0 := h; omega
  | cons r l =>
    have h1 : c < lenR C r.toNat := h
    show c≤lenR C r.toNat + lsum C l
    omega
theorem dSet {d : List Bool} {i r : Nat} : (d.set r false).getD i false=if i=r then false else d.getD i false := by
  simp only [List.getD,List.getElem?_set]
  by_cases e : r=i
  · subst e
    rw [if_pos rfl,if_pos rfl]
    split <;> rfl
  · rw [if_neg e,if_neg (fun x=>e x.symm)]
theorem drtyL_set {d : List Bool} {R r : Nat} {tl : List Int} (h : drtyL d R=((r : Nat) : Int)::tl) : drtyL (d.set r false) R=tl := by
  unfold drtyL at h ⊢
  have e1 : (List.range R).filter (fun i=>(d.set r false).getD i false)=((List.range R).filter fun i=>d.getD i false).filter (fun i=>decide (i≠r)) := by
    rw [List.filter_filter]
    congr 1
    funext i
    rw [dSet]
    by_cases e : i=r
    · rw [if_pos e,decide_eq_false (fun x=>x e)]; rfl
    · rw [if_neg e,decide_eq_true e]; simp
  have hnd : ((List.range R).filter fun i=>d.getD i false).Nodup := List.nodup_range.filter _
  rw [e1]
  generalize (List.range R).filter (fun i=>d.getD i false)=l at h hnd
  cases l with
  | nil=>cases h
  | cons x l =>
    have h1 := (List.cons.inj h).1
    have h2 := (List.cons.inj h).2
    have h9 : ((x : Nat) : Int)=((r : Nat) : Int) := h1
    have e : x=r := by omega
    subst e
    have h3 : x ∉ l := (List.nodup_cons.1 hnd).1
    rw [List.filter_cons_of_neg (by simp),List.filter_eq_self.2 (fun a ha=>by have h8 : a≠x := fun z=>h3 (z ▸ ha); simpa using h8)]
    exact h2
theorem MI.dc {d : List Bool} {c : Int} (h : MI C s lv m) (hl : d.length=m.dirty.length) (hd : ∀ r,d.getD r false=true→m.dirty.getD r false=true) : MI C s lv (mOf m d c) := ⟨h.len,h.leg,h.size,h.region,h.hasLog,hl.trans h.dl,h.log,fun h1 r hr h2=>h.d h1 r hr (hd r h2)⟩
theorem NF.dc {d : List Bool} {c : Int} (h : NF m) : NF (mOf m d c) := ⟨h.leg,h.log⟩
theorem resync_l1 {f : Nat→UInt64} {r4 : List Int} (hr4 : ∀ k,k < r4.length → ∃ r : Nat,r < C.R∧r4.getD k 0=r) (h12 : r4.length≤12) (hex : ∃ j,j < C.L∧lv j=true) : ∀ (N k K : Nat) (m : MirS) (s : ArrS) (n c : Nat),r4.length - k < N→k≤r4.length→K + 8 * lsum C (r4.drop k)≤900000→n≤1000000→drtyL m.dirty C.R=r4.drop k→cpOk C (r4.drop k) c→m.copied=(c : Int)→MI C s lv m→NF m→AG C lv m→Val C lv s f→ArrOk C.ns K s→s.down=false→s.fuse=0 →
    ∃ d c' t,mirror_Mirror_Resync_l1 r4 N m s ((n : Nat) : Int) k=some (.inl (mOf m d ((c' : Nat) : Int),t))∧Qt C (K + 8 * lsum C (r4.drop k)) s lv t∧d.length=m.dirty.length∧(∀ r,d.getD r false=true→m.dirty.getD r false=true)∧cpOk C (drtyL d C.R) c' ∧ lsum C (drtyL d C.R) - c' = lsum C (r4.drop k) - c - n
  | 0,_,_,_,_,_,_,h,_,_,_,_,_,_,_,_,_,_,_,_,_=>absurd h (by omega)
  | N + 1,k,K,m,s,n,c,h,hk,hK,hn,hd,hc,hcp,hmi,hnf,hag,hv,hok,hdn,hf=>by
    have hF := fuel_big
    have hs := C.hs
    have hCR := C.hR
    have hun : mirror_Mirror_Resync_l1 r4 (N + 1) m s ((n : Nat) : Int) k=mirror_Mirror_Resync_l1_b r4 (mirror_Mirror_Resync_l1 r4 N) m s ((n : Nat) : Int) k := rfl
    rw [hun]
    unfold mirror_Mirror_Resync_l1_b
    by_cases hlt : k < r4.length
    · rw [if_pos (by omega)]
      obtain ⟨r,hr,e⟩ := hr4 k hlt
      have e0 : r4.drop k=((r : Nat) : Int)::r4.drop (k + 1) := by
        rw [List.drop_eq_getElem_cons hlt]
        congr 1
        rw [← e]; simp [List.getD,hlt]
      have hlc : c < lenR C r := by
        have h1 := hc
        rw [e0] at h1
        exact h1
      have hls : lsum C (r4.drop k)=lenR C r + lsum C (r4.drop (k + 1)) := by rw [e0]; rfl
      have hrl := reg_lt hr
      have hend : endR C r=lenR C r + r * C.rg := by
        have := lenR_pos hr
        unfold lenR at this ⊢
        omega
      have hl4 := @lenR_le C r
      have e1 : ((r : Nat) : Int) * (C.rg : Int)=((r * C.rg : Nat) : Int) := by rw [Int.natCast_mul]
      rw [e,hmi.region,e1,hcp]
      have e2 : ((r * C.rg : Nat) : Int) + (c : Int)=((r * C.rg + c : Nat) : Int) := by rw [Int.natCast_add]
      rw [e2,grd_t (inI64_of (by omega)),grd_t (inI64_of (by omega))]
      obtain ⟨t,t1,t2⟩ := rsync_l2 (f:=f) e hr hex FUEL K m s n (r * C.rg + c) c (by omega) (by omega) (by omega) hn (by omega) hmi hnf hag hv hok hdn hf hcp
      have e3 : endR C r - (r * C.rg + c)=lenR C r - c := by omega
      rw [e3] at t1 t2
      rcases t2 with ⟨z1,z2⟩ | ⟨z1,z2⟩
      · rw [z2,seqO_inl]
        obtain ⟨u,u1,u2⟩ := others_eq (m:=cpM m ((c + (lenR C r - c) : Nat) : Int)) (t1.mi hmi).cp hnf.cp hag t1.ok t1.dn t1.fz (by omega)
        rw [u1]; simp only [Option.bind_some]
        rw [if_neg (by simp)]
        have hdl : (cpM m ((c + (lenR C r - c) : Nat) : Int)).dirty=m.dirty := rfl
        rw [hdl,grd_t (decide_eq_true (by rw [hmi.dl]; omega)),grd_t (inN64_of (by omega)),Int.toNat_natCast]
        have hm2 : ({ cpM m ((c + (lenR C r - c) : Nat) : Int) with dirty := m.dirty.set r false,copied := (0 : Int) } : MirS)=mOf m (m.dirty.set r false) ((0 : Nat) : Int) := rfl
        rw [hm2]
        have hd2 : drtyL (m.dirty.set r false) C.R=r4.drop (k + 1) := drtyL_set (hd.trans e0)
        have hsub : ∀ i,(m.dirty.set r false).getD i false=true→m.dirty.getD i false=true := fun i hi=>by
          rw [dSet] at hi
          split at hi
          · cases hi
          · exact hi
        have h0 : cpOk C (r4.drop (k + 1)) 0 := cpOk_zero (fun j hj=>by
          rw [List.length_drop] at hj
          obtain ⟨r',q1,q2⟩ := hr4 (k + 1 + j) (by omega)
          exact ⟨r',q1,by rw [← q2]; simp only [List.getD,List.getElem?_drop]⟩)
        have hq := t1.trans u2
        obtain ⟨d,c',v,v1,v2,v3,v4,v5,v6⟩ := resync_l1 (f:=f) hr4 h12 hex N (k + 1) (K + 8 * (lenR C r - c)) (mOf m (m.dirty.set r false) ((0 : Nat) : Int)) u (n - (lenR C r - c)) 0 (by omega) (by omega) (by omega) (by omega) hd2 h0 rfl ((hq.mi hmi).dc (by simp) hsub) hnf.dc hag (hq.val hv) hq.ok hq.dn hq.fz
        refine ⟨d,c',v,?_,(hq.trans v2).mono (by omega),by rw [v3]; simp [mOf],fun i hi=>hsub i (v4 i hi),v5,by rw [v6]; omega⟩
        rw [v1]; rfl
      · rw [z2,seqO_inr]
        refine ⟨m.dirty,c + n,t,rfl,t1.mono (by omega),rfl,fun _ h=>h,?_,by rw [hd]; omega⟩
        rw [hd,e0]
        show c + n < lenR C r
        omega
    · rw [if_neg (by omega)]
      have e0 : r4.drop k=[] := List.drop_eq_nil_of_le (by omega)
      refine ⟨m.dirty,c,s,?_,(Qt.refl hok hdn hf).mono (by omega),rfl,fun _ h=>h,by rw [hd]; exact hc,?_⟩
      · rw [← hcp]; rfl
      · have h1 : lsum C (r4.drop k)=0 := by rw [e0]; rfl
        rw [hd]; omega
theorem rest_l1 (h : MI C s lv m) {l : List Int} (hl : ∀ k,k < l.length → ∃ r : Nat,r < C.R∧l.getD k 0=r) (h12 : l.length≤12) : ∀ (N k : Nat) (x : Int),l.length - k < N→k≤l.length → -1000≤x→x + (lsum C (l.drop k) : Int)≤1000→mirror_Mirror_rest_l1 m s l N k x=some (x + (lsum C (l.drop k) : Int))
  | 0,_,_,h,_,_,_=>absurd h (by omega)
  | N + 1,k,x,hN,hk,hx,hy=>by
    have hs := C.hs
    have hun : mirror_Mirror_rest_l1 m s l (N + 1) k x=mirror_Mirror_rest_l1_b m s l (mirror_Mirror_rest_l1 m s l N) k x := rfl
    rw [hun]
    unfold mirror_Mirror_rest_l1_b
    by_cases hlt : k < l.length
    · rw [if_pos (by omega)]
      obtain ⟨r,hr,e⟩ := hl k hlt
      have e0 : l.drop k=((r : Nat) : Int)::l.drop (k + 1) := by
        rw [List.drop_eq_getElem_cons hlt]
        congr 1
        rw [← e]; simp [List.getD,hlt]
      have hls : lsum C (l.drop k)=lenR C r + lsum C (l.drop (k + 1)) := by rw [e0]; rfl
      have hrl := reg_lt hr
      have hl4 := @lenR_le C r
      have hend : endR C r=lenR C r + r * C.rg := by
        have := lenR_pos hr
        unfold lenR at this ⊢
        omega
      have e1 : ((r : Nat) : Int) * (C.rg : Int)=((r * C.rg : Nat) : Int) := by rw [Int.natCast_mul]
      rw [e,h.region,e1,grd_t (inI64_of (by omega)),end_eq h hr]; simp only [Option.bind_some]
      rw [hls] at hy
      rw [grd_t (inI64_of (by omega)),grd_t (inI64_of (by omega)),grd_t (inN64_of (by omega)),rest_l1 h hl h12 N (k + 1) _ (by omega) (by omega) (by omega) (by omega),hls]
      congr 1
      omega
    · rw [if_neg (by omega)]
      have e0 : l.drop k=[] := List.drop_eq_nil_of_le (by omega)
      rw [e0]
      show some x=some (x + 0)
      rw [Int.add_zero]
theorem rest_eq (h : MI C s lv m) {c : Nat} (hcp : m.copied=(c : Int)) (hc : cpOk C (drtyL m.dirty C.R) c) : mirror_Mirror_rest m s=some (((lsum C (drtyL m.dirty C.R) - c : Nat) : Int)) := by
  have hF := fuel_big
  have hR := C.hR
  have h1 := cpOk_le hc
  have h2 := lsum_le (C:=C) (drtyL m.dirty C.R)
  have h3 := @drtyL_le m.dirty C.R
  unfold mirror_Mirror_rest
  rw [hcp,grd_t (inI64_of (by omega)),mdirty_eq (by rw [h.dl]; omega),h.dl]; simp only [Option.bind_some]
  have h4 := rest_l1 h (l:=drtyL m.dirty C.R) (fun k hk=>by obtain ⟨r,q1, -,q2⟩ := drtyL_mem hk; exact ⟨r,q1,q2⟩) (by omega) FUEL 0 (0 - (c : Int)) (by omega) (by omega) (by omega) (by rw [List.drop_zero]; omega)
  rw [List.drop_zero] at h4
  rw [h4]; simp only [Option.bind_some]
  congr 1
  omega
theorem resync_eq {f : Nat→UInt64} (hmi : MI C s lv m) (hnf : NF m) (hag : AG C lv m) (hv : Val C lv s f) (hok : ArrOk C.ns K s) (hdn : s.down=false) (hf : s.fuse=0) (hK : K≤800000) (hex : ∃ j,j < C.L∧lv j=true) {n c : Nat} (hn : n≤1000000) (hcp : m.copied=(c : Int)) (hc : cpOk C (drtyL m.dirty C.R) c) :
    ∃ d c' t,mirror_Mirror_Resync m ((n : Nat) : Int) s=some (((lsum C (drtyL m.dirty C.R) - c - n : Nat) : Int),0,mOf m d ((c' : Nat) : Int),t)∧Qt C (K + 100) s lv t∧d.length=m.dirty.length∧(∀ r,d.getD r false=true→m.dirty.getD r false=true)∧cpOk C (drtyL d C.R) c' ∧ lsum C (drtyL d C.R) - c' = lsum C (drtyL m.dirty C.R) - c - n := by
  have hF := fuel_big
  have hR := C.hR
  have h2 := lsum_le (C:=C) (drtyL m.dirty C.R)
  have h3 := @drtyL_le m.dirty C.R
  have h4 := lsum_sz (C:=C) (d:=m.dirty) C.R
  have hs := C.hs
  unfold mirror_Mirror_Resync
  rw [if_neg (by omega),(result_eq hmi.l6).1 hnf]; simp only [Option.bind_some]
  rw [if_neg (by simp),mdirty_eq (by rw [hmi.dl]; omega),hmi.dl]; simp only [Option.bind_some]
  obtain ⟨d,c',t,t1,t2,t3,t4,t5,t6⟩ := resync_l1 (f:=f) (r4:=drtyL m.dirty C.R) (fun k hk=>by obtain ⟨r,q1, -,q2⟩ := drtyL_mem hk; exact ⟨r,q1,q2⟩) (by omega) hex FUEL 0 K m s n c (by omega) (by omega) (by rw [List.drop_zero]; omega) hn (by rw [List.drop_zero]) (by rw [List.drop_zero]; exact hc) hcp hmi hnf hag hv hok hdn hf
  rw [List.drop_zero] at t2 t6
  rw [t1,seqO_inl,rest_eq (m:=mOf m d ((c' : Nat) : Int)) ((t2.mi hmi).dc t3 t4) rfl t5]; simp only [Option.bind_some]
  have e : lsum C (drtyL (mOf m d ((c' : Nat) : Int)).dirty C.R) - c' = lsum C (drtyL m.dirty C.R) - c - n := t6
  rw [e]
  exact ⟨d,c',t,rfl,t2.mono (by omega),t3.trans hmi.dl,t4,t5,t6⟩
theorem UP.qt (h : UP C K lv s o m (fun _=>False)) (hq : Qt C K' s lv t) (hK : K≤K') (hm : MI C t lv m') : UP C K' lv t { o with X := some m' } m' (fun _=>False) := by
  have h9 : OI C K lv s { o with X := some m' } := h.oi.set rfl rfl rfl rfl rfl rfl
  refine ⟨rfl,(h9.arr hq.miss).mono hK,⟨hq.ok,h.di.tl,h.di.ex,fun i hi hl=>by rw [hq.miss]; exact h.di.miss i hi hl,h.di.lgl,fun a ha i hi hl c hc=>h.di.cnd a ha i hi hl c (hq.sub i hi hl a ha c hc),fun hl c hc=>h.di.head hl c (by rw [← (hq.log 0 (by decide)).2]; exact hc),fun hl r hr => ?_⟩,hm,fun a ha _ => ?_,fun a ha=>Nat.le_trans (h.sm a ha) (by omega),hq.dn⟩
  · rcases h.di.c hl r hr with z | ⟨f,z⟩
    · exact .inl (fun c hc=>z c (by rw [← (hq.log 1 (by decide)).2]; exact hc))
    · exact .inr ⟨f,fun a ha har i hi hli c hc=>z a ha har i hi hli c (hq.sub i hi hli a ha c hc)⟩
  · obtain ⟨k1,k2⟩ := h.kn a ha (fun x=>x)
    exact ⟨k1,fun j hj hl=>by rw [hq.now j a hj ha]; exact k2 j hj hl⟩
theorem oall_w {q : Bool} (h : UP C K lv s o m (fun _=>False)) (hnf : NF m) (hK : K≤49000) : ∃ o' ,volumegroupmake_Owner_All o q s=some (true,o',s) := by
  have hF := fuel_big
  have hs := C.hs
  unfold volumegroupmake_Owner_All
  obtain ⟨o',m',h1, -⟩ := oall_u_l1 (q:=q) FUEL 0 K o m (by omega) (by omega) (by omega) h hnf
  rw [h1,seqO_inl]
  exact ⟨_,rfl⟩
end
end Go.Proofs
namespace Go.Proofs
open Go.VG
theorem stM_fail {m : MirS} {i j : Nat} (h : i < m.legs.length) : stM (failM m i) j=if j=i then 1 else stM m j := by
  unfold stM
  rw [failM_at h]
  split <;> rfl
section
variable {C : MC} {K a i : Nat} {s t y : ArrS} {lv : LV} {m m' x : MirS} {w v : UInt64} {o : OwnS}
theorem AG.fd (h : AG C lv m) (hm : MI C s lv m) (hf : Fd s m m' 0) : AG C lv m' := fun i hi hs=>by
  rcases (hf.leg i (by rw [hm.len]; exact hi)).2.2 with z | ⟨-, -,z⟩
  · exact h i hi (z.symm.trans hs)
  · rw [z] at hs; cases hs
theorem AG.nf (h : AG C lv m) (hm : MI C s lv m) (hnf : NF m) (hf : Fd s m m' 0) : NF m' := by
  refine ⟨fun i hi hs => ?_,?_⟩
  · have hi' : i < m.legs.length := by rw [← hf.len]; exact hi
    rcases (hf.leg i hi').2.2 with z | ⟨z1,z2, -⟩
    · exact hnf.leg i hi' (z.symm.trans hs)
    · have hl := h i (by rw [← hm.len]; exact hi') z1
      rw [(hm.live (by rw [← hm.len]; exact hi') hl).2] at z2; cases z2
  · have e := hf.oth
    intro hx
    exact hnf.log (by rw [e] at hx; exact hx)
theorem read_dirty_ag (h : MI C s lv m) (hcp : ∀ i,i < C.L→lv.cp i=0) (hnf : NF m) (hok : ArrOk C.ns K s) (hdn : s.down=false) (ha : a < C.sz) (hex : ∃ j,j < C.L∧lv j=true) (hw : ∀ j,j < C.L→lv j=true→now s j a=w) (hd : m.dirty.getD (a / C.rg) false=true) {w' : UInt64} {s' : ArrS}
    (hr : mirror_Mirror_Read m (a : Int) s=some (w',0,m',s')) : AG C lv m' := by
  have hF := fuel_big
  have hL := C.hL
  unfold mirror_Mirror_Read at hr
  rw [if_neg (by omega),if_neg (by rw [h.size]; omega),(result_eq h.l6).1 hnf] at hr; simp only [Option.bind_some] at hr
  rw [if_neg (by simp)] at hr
  rcases fetch_eq h hok hdn ha hex with ⟨f,h1,h2,h3⟩ | ⟨k,h1,h2,h3,h4⟩
  · rw [h3] at hr; simp only [Option.bind_some] at hr
    have hrg := MC.reg ha
    rw [if_neg (by simp),h.region,grd_t (decide_eq_true (by have := C.hr; omega)),MC.divI ha,grd_t (decide_eq_true ⟨Int.natCast_nonneg _,by rw [h.dl]; exact Int.ofNat_lt.2 hrg⟩),Int.toNat_natCast,hw f h1 h2,if_pos hd] at hr
    unfold mirror_Mirror_spread at hr
    obtain ⟨e,x',y',e1,e2⟩ := each_end (r:=mirror_Mirror_each__mirror_Mirror_spread_1 m ((f : Nat) : Int) [] (a : Int) w s) rfl (P:=fun x y=>Fd s m x 0∧y=s ∧ ∀ j,j < m.legs.length→j≠f→stM x j=0→lv j=true) (Q:=fun _ _=>False) (fun x y hp=>h.l6' hp.1)
      (each_rule (L:=m.legs.length) (f:=mirror_Mirror_each__mirror_Mirror_spread_1_l1 m ((f : Nat) : Int) [] (a : Int) w) (ch:=fun i=>mirror_Mirror_spread_1 ((i : Nat) : Int) ((f : Nat) : Int)) (act:=fun i x y=>mirror_Mirror_spread_2 ((i : Nat) : Int) [] x (a : Int) w y) (fun _ _ _ _=>rfl)
        (c:=fun i=>decide (((i : Nat) : Int)≠((f : Nat) : Int))) (fun i _=>rfl) (fun i x y=>Fd s m x 0∧y=s ∧ ∀ j,j < i→j≠f→stM x j=0→lv j=true) (fun _ _=>False) (fun i x y hp=>hp.1.len)
        (fun i x y hi hp hst _=>by
          obtain ⟨hp,rfl,hq⟩ := hp
          have hi0 := hi
          rw [h.len] at hi
          have hx := h.fd hp
          rcases hx.good hi hst with ⟨k1,k2⟩ | ⟨k1,k2⟩
          · refine ⟨0,y,spread2_same hx hok hdn ha hi k1 (hw i hi k1),.inl ⟨rfl,hp,rfl,fun j hj hjf hs => ?_⟩⟩
            by_cases e : j=i
            · rw [e]; exact k1
            · exact hq j (by omega) hjf hs
          · refine ⟨6,y,spread2_miss hx hok hdn ha hi k2,.inr (.inr ⟨by decide,by decide,(hp.fail (by rw [h.len]; exact hi) hst k2).to,rfl,fun j hj hjf hs => ?_⟩)⟩
            rw [stM_fail (by rw [hp.len]; exact hi0)] at hs
            by_cases e : j=i
            · rw [if_pos e] at hs; cases hs
            · rw [if_neg e] at hs; exact hq j (by omega) hjf hs)
        (fun i x y _ hp hc=>by
          obtain ⟨hp,hy,hq⟩ := hp
          refine ⟨hp,hy,fun j hj hjf hs => ?_⟩
          by_cases e : j=i
          · subst e
            rcases hc with hc | hc
            · exact absurd hs hc
            · have := of_decide_eq_false hc
              omega
          · exact hq j (by omega) hjf hs) FUEL 0 m s (by have := h.l6; omega) (by omega) ⟨Fd.refl,rfl,fun j hj=>absurd hj (by omega)⟩)
    rw [e1] at hr; simp only [Option.bind_some] at hr
    rcases e2 with ⟨rfl,e2,e3,rfl,e4⟩ | ⟨rfl,e2,e3,rfl,e4⟩ | ⟨-,e2⟩
    · rw [if_neg (by simp),follow_eq (h.fd e3) hcp] at hr; simp only [Option.bind_some] at hr
      rw [if_neg (by simp)] at hr
      have hE := Option.some.inj hr
      simp only [Prod.mk.injEq] at hE
      obtain ⟨-, -,hE, -⟩ := hE
      subst hE
      intro j hj hs
      by_cases e : j=f
      · rw [e]; exact h2
      · exact e4 j (by rw [h.len]; exact hj) e hs
    · rw [if_pos (by decide)] at hr; simp only [Option.bind_some] at hr
      rw [if_pos (by decide)] at hr
      have hE := Option.some.inj hr
      simp only [Prod.mk.injEq] at hE
      exact absurd hE.2.1 (by decide)
    · exact e2.elim
  · rw [h4] at hr; simp only [Option.bind_some] at hr
    rw [if_pos (by decide)] at hr
    have hE := Option.some.inj hr
    simp only [Prod.mk.injEq] at hE
    exact absurd hE.2.1 (by decide)
theorem read_x (h : MI C s lv m) (hcp : ∀ i,i < C.L→lv.cp i=0) (hnf : NF m) (hok : ArrOk C.ns K s) (hdn : s.down=false) (ha : a < C.sz) (hex : ∃ j,j < C.L∧lv j=true) (hw : ∀ j,j < C.L→lv j=true→now s j a=w) (hd : m.dirty.getD (a / C.rg) false=true∨AG C lv m) :
    ∃ m',Fd s m m' 0∧(mirror_Mirror_Read m (a : Int) s=some (w,0,m',s)∧NF m' ∧ AG C lv m' ∨ (∃ w',mirror_Mirror_Read m (a : Int) s=some (w',18,m',s)) ∧ ¬ NF m' ∧ m'.dirty.getD (a / C.rg) false=true) := by
  obtain ⟨m',f1,f2⟩ := read_u h hcp hnf hok hdn ha hex hw
  refine ⟨m',f1,?_⟩
  have e := f1.oth
  rcases f2 with ⟨f2,f3⟩ | ⟨f2,f3⟩
  · refine .inl ⟨f2,f3,?_⟩
    rcases hd with hd | hd
    · exact read_dirty_ag h hcp hnf hok hdn ha hex hw hd f2
    · exact hd.fd h f1
  · refine .inr ⟨f2,f3,?_⟩
    rcases hd with hd | hd
    · rw [e]; exact hd
    · exact absurd (hd.nf h hnf f1) f3
theorem oread_x1 (ha : a < C.sz) : ∀ (N n : Nat) (K : Nat) (o : OwnS) (m : MirS) (w0 : UInt64) (e : Int),9 - n < N→n + gM C m≤5→K + 4 * gM C m≤70000→UP C K lv s o m (fun _=>False)→(e=0∧NF m∧AG C lv m∧w0=(o.T.getD a s0).value∨e=18 ∧ ¬ NF m∧m.dirty.getD (a / C.rg) false=true) →
    ∃ o' m',volumegroupmake_Owner_Read_l1 (a : Int) N o s n w0 e=some (.inl ((o.T.getD a s0).value,0,o',s))∧UP C (K + 4 * gM C m) lv s o' m' (fun _=>False)∧NF m' ∧ o'.T=o.T∧m'.dirty=m.dirty∧m'.copied=m.copied∧AG C lv m'
  | 0,_,_,_,_,_,_,h,_,_,_,_=>absurd h (by omega)
  | N + 1,n,K,o,m,w0,e,h,hn,hK,hu,he=>by
    have hun : volumegroupmake_Owner_Read_l1 (a : Int) (N + 1) o s n w0 e=volumegroupmake_Owner_Read_l1_b (a : Int) (volumegroupmake_Owner_Read_l1 (a : Int) N) o s n w0 e := rfl
    rw [hun]
    unfold volumegroupmake_Owner_Read_l1_b
    rcases he with ⟨rfl,h1,h9,rfl⟩ | ⟨rfl,h1,h9⟩
    · rw [if_neg (fun x=>absurd x.2 (by decide))]
      exact ⟨o,m,rfl,hu.mono (by omega),h1,rfl,rfl,rfl,h9⟩
    · rw [if_pos ⟨by omega,rfl⟩]
      obtain ⟨o',m',d1,d2,d3,d4,d5,d6,d7⟩ := hu.dropped h1 (by omega)
      rw [d1]; simp only [Option.bind_some]
      rw [if_neg (by simp),d2.x]; simp only [Option.elim_some]
      have hkn := (d2.kn a ha (fun x=>x)).2
      obtain ⟨m2,f1,f2⟩ := read_x (w:=(o'.T.getD a s0).value) d2.mi d2.oi.nc d3 d2.di.ok d2.dn ha d2.di.ex hkn (.inl (by rw [d6]; exact h9))
      have hg : gM C m2=gM C m' := f1.mks.g d2.mi.len
      have hdi : m2.dirty=m'.dirty := by rw [f1.oth]
      have hco : m2.copied=m'.copied := by rw [f1.oth]
      rcases f2 with ⟨f2,f3,f4⟩ | ⟨⟨w',f2⟩,f3,f4⟩
      · rw [f2]; simp only [Option.bind_some]
        obtain ⟨o3,m3,g1,g2,g3,g4,g5,g6,g7⟩ := oread_x1 ha N (n + 1) (K + 4) _ m2 _ 0 (by omega) (by omega) (by omega) (d2.fd f1) (.inl ⟨rfl,f3,f4,rfl⟩)
        rw [← d5]
        exact ⟨o3,m3,g1,g2.mono (by omega),g3,g4,g5.trans (hdi.trans d6),g6.trans (hco.trans d7),g7⟩
      · rw [f2]; simp only [Option.bind_some]
        obtain ⟨o3,m3,g1,g2,g3,g4,g5,g6,g7⟩ := oread_x1 ha N (n + 1) (K + 4) _ m2 w' 18 (by omega) (by omega) (by omega) (d2.fd f1) (.inr ⟨rfl,f3,f4⟩)
        rw [← d5]
        exact ⟨o3,m3,g1,g2.mono (by omega),g3,g4,g5.trans (hdi.trans d6),g6.trans (hco.trans d7),g7⟩
theorem oread_x (hu : UP C K lv s o m (fun _=>False)) (hnf : NF m) (ha : a < C.sz) (hK : K≤50000) {q : Bool} (hd : m.dirty.getD (a / C.rg) false=true∨AG C lv m) :
    ∃ o' m',volumegroupmake_Owner_Read o (a : Int) q s=some (0,true,o',s)∧UP C (K + 20) lv s o' m' (fun _=>False)∧NF m' ∧ o'.T=o.T∧m'.dirty=m.dirty∧m'.copied=m.copied∧AG C lv m' := by
  have hF := fuel_big
  have hg4 := @gM_le C m
  unfold volumegroupmake_Owner_Read
  rw [hu.x]; simp only [Option.elim_some]
  obtain ⟨k1,k2⟩ := hu.kn a ha (fun x=>x)
  obtain ⟨m2,f1,f2⟩ := read_x (w:=(o.T.getD a s0).value) hu.mi hu.oi.nc hnf hu.di.ok hu.dn ha hu.di.ex k2 hd
  have hg : gM C m2=gM C m := f1.mks.g hu.mi.len
  have hdi : m2.dirty=m.dirty := by rw [f1.oth]
  have hco : m2.copied=m.copied := by rw [f1.oth]
  obtain ⟨w',e,h1,h2⟩ : ∃ (w' : UInt64) (e : Int),(e=0∧NF m2∧AG C lv m2∧w' = (o.T.getD a s0).value∨e=18 ∧ ¬ NF m2∧m2.dirty.getD (a / C.rg) false=true)∧mirror_Mirror_Read m (a : Int) s=some (w',e,m2,s) := by
    rcases f2 with ⟨f2,f3,f4⟩ | ⟨⟨w',f2⟩,f3,f4⟩
    · exact ⟨_,0,.inl ⟨rfl,f3,f4,rfl⟩,f2⟩
    · exact ⟨w',18,.inr ⟨rfl,f3,f4⟩,f2⟩
  rw [h2]; simp only [Option.bind_some]
  obtain ⟨o3,m3,g1,g2,g3,g4,g5,g6,g7⟩ := oread_x1 ha FUEL 0 K _ m2 w' e (by omega) (by omega) (by omega) (hu.fd f1) h1
  have e1 : ({ o with X := some m2 } : OwnS).T=o.T := rfl
  rw [e1] at g1 g4
  rw [g1,seqO_inl]
  have hl : 0≤(a : Int)∧(a : Int) < (o3.T.length : Int) := ⟨by omega,by have := g2.tl ha; omega⟩
  rw [if_neg (by simp),if_pos rfl,grd_t (decide_eq_true (g2.small (by omega)))]
  have e2 : rdTR o3.T (a : Int) (o.T.getD a s0).value=true := by
    unfold rdTR
    rw [if_pos hl,Int.toNat_natCast,g4,if_pos k1]
    exact decide_eq_true rfl
  have e3 : rdTS o3.T (a : Int) (o.T.getD a s0).value q=o3.T := by
    unfold rdTS
    rw [if_pos hl,Int.toNat_natCast,g4,if_pos k1]
  rw [e2,e3]
  exact ⟨o3,m3,rfl,g2.mono (by omega),g3,g4,g5.trans hdi,g6.trans hco,g7⟩
theorem oall_x1 {q : Bool} : ∀ (N i K : Nat) (o : OwnS) (m : MirS),C.sz - i < N→i≤C.sz→K + 20 * (C.sz - i)≤50000→UP C K lv s o m (fun _=>False)→NF m→(∀ a,a < i→m.dirty.getD (a / C.rg) false=true→AG C lv m) →
    ∃ o' m',volumegroupmake_Owner_All_l1 q N o s i=some (.inl (o',s))∧UP C (K + 20 * (C.sz - i)) lv s o' m' (fun _=>False)∧NF m' ∧ o'.T=o.T∧m'.dirty=m.dirty∧m'.copied=m.copied∧(∀ a,a < C.sz→m.dirty.getD (a / C.rg) false=true→AG C lv m')
  | 0,_,_,_,_,h,_,_,_,_,_=>absurd h (by omega)
  | N + 1,i,K,o,m,h,hi,hK,hp,hnf,hag=>by
    have hs := C.hs
    have hun : volumegroupmake_Owner_All_l1 q (N + 1) o s i=volumegroupmake_Owner_All_l1_b q (volumegroupmake_Owner_All_l1 q N) o s i := rfl
    rw [hun]
    unfold volumegroupmake_Owner_All_l1_b
    by_cases hlt : i < C.sz
    · rw [if_pos (by rw [hp.di.tl]; omega)]
      by_cases hx : m.dirty.getD (i / C.rg) false=true∨AG C lv m
      · obtain ⟨o',m',r1,r2,r3,r4,r5,r6,r7⟩ := oread_x (q:=q) hp hnf hlt (by omega) hx
        rw [r1]; simp only [Option.bind_some]
        rw [if_neg (by simp),grd_t (inN64_of (by omega))]
        obtain ⟨o3,m3,g1,g2,g3,g4,g5,g6,g7⟩ := oall_x1 (q:=q) N (i + 1) (K + 20) o' m' (by omega) (by omega) (by omega) r2 r3 (fun _ _ _=>r7)
        exact ⟨o3,m3,g1,g2.mono (by omega),g3,g4.trans r4,g5.trans r5,g6.trans r6,fun a ha hd=>g7 a ha (by rw [r5]; exact hd)⟩
      · obtain ⟨o',m',r1,r2,r3,r4,r5,r6⟩ := oread (q:=q) hp hnf hlt (by omega)
        rw [r1]; simp only [Option.bind_some]
        rw [if_neg (by simp),grd_t (inN64_of (by omega))]
        obtain ⟨o3,m3,g1,g2,g3,g4,g5,g6,g7⟩ := oall_x1 (q:=q) N (i + 1) (K + 20) o' m' (by omega) (by omega) (by omega) r2 r3 (fun a ha hd=>by
          rw [r5] at hd
          rcases Nat.lt_or_ge a i with h5 | h5
          · exact absurd (hag a h5 hd) (fun z=>hx (.inr z))
          · exact absurd (show m.dirty.getD (i / C.rg) false=true by rw [show i=a by omega]; exact hd) (fun z=>hx (.inl z)))
        exact ⟨o3,m3,g1,g2.mono (by omega),g3,g4.trans r4,g5.trans r5,g6.trans r6,fun a ha hd=>g7 a ha (by rw [r5]; exact hd)⟩
    · rw [if_neg (by rw [hp.di.tl]; omega)]
      exact ⟨o,m,rfl,hp.mono (by omega),hnf,rfl,rfl,rfl,fun a ha hd=>hag a (by omega) hd⟩
theorem oall_x {q : Bool} (h : UP C K lv s o m (fun _=>False)) (hnf : NF m) (hK : K≤40000) : ∃ o' m',volumegroupmake_Owner_All o q s=some (true,o',s)∧UP C (K + 240) lv s o' m' (fun _=>False)∧NF m' ∧ m'.copied=m.copied∧(∀ r,r < C.R→m'.dirty.getD r false=true→AG C lv m') := by
  have hF := fuel_big
  have hs := C.hs
  unfold volumegroupmake_Owner_All
  obtain ⟨o',m',h1,h2,h3,h4,h5,h6,h7⟩ := oall_x1 (q:=q) FUEL 0 K o m (by omega) (by omega) (by omega) h hnf (fun a ha=>absurd ha (by omega))
  rw [h1,seqO_inl]
  refine ⟨o',m',rfl,h2.mono (by omega),h3,h6,fun r hr hd=>h7 (r * C.rg) (reg_lt hr) ?_⟩
  rw [Nat.mul_div_cancel _ (by have := C.hr; omega), ← h5]; exact hd
theorem resync_none (hmi : MI C s lv m) (hnf : NF m) (hcp : m.copied=0) (h0 : drtyL m.dirty C.R=[]) {n : Nat} : mirror_Mirror_Resync m ((n : Nat) : Int) s=some (0,0,m,s) := by
  have hF := fuel_big
  have hR := C.hR
  unfold mirror_Mirror_Resync
  rw [if_neg (by omega),(result_eq hmi.l6).1 hnf]; simp only [Option.bind_some]
  rw [if_neg (by simp),mdirty_eq (by rw [hmi.dl]; omega),hmi.dl,h0]; simp only [Option.bind_some]
  obtain ⟨N,hN⟩ : ∃ N,FUEL=N + 1 := ⟨FUEL - 1,by omega⟩
  have e1 : ∀ k,mirror_Mirror_Resync_l1 [] (N + 1) m s ((n : Nat) : Int) k=mirror_Mirror_Resync_l1_b [] (mirror_Mirror_Resync_l1 [] N) m s ((n : Nat) : Int) k := fun _=>rfl
  rw [hN,e1]
  unfold mirror_Mirror_Resync_l1_b
  rw [if_neg (by simp),seqO_inl]
  have hr := rest_eq (c:=0) hmi (by rw [hcp]; rfl) (by rw [h0]; exact cpOk_zero (fun k hk=>absurd hk (by simp)))
  rw [h0] at hr
  rw [hr]; rfl
end
end Go.Proofs
set_option linter.unusedSimpArgs false
set_option linter.unusedVariables false
set_option maxRecDepth 20000
set_option maxHeartbeats 4000000
namespace Go.Proofs
open Go.VG
def OwnQ (a : Nat) (vl : Nat) (b : Nat) (l : OwnS) : HP := ex fun h : Nat × Nat × Sl3 × Sl3=>star [blk b 60 [ptr a 0,.func (.func 46) #[] #[ptr h.1 0],oifc 41 l.X vl,ptr h.2.1 0,(Sl3.v h.2.2.1),(Sl3.v h.2.2.2)],blk h.1 28 [ptr a 0,.int .i64 l.Open_1,.int .i64 l.Open_2,.int .i64 l.Open_3,.bool l.Open_4],optP (MirP a vl) l.X,Trk h.2.1 l.T,sl tyI (Sl3.v h.2.2.1) l.Stale,sl tyI (Sl3.v h.2.2.2) l.Lost]
theorem OwnQ_open {a b : Nat} {vl : Nat} {l : OwnS} {R : List HP} : EntX (OwnQ a vl b l::R) fun h : Nat × Nat × Sl3 × Sl3=>blk b 60 [ptr a 0,.func (.func 46) #[] #[ptr h.1 0],oifc 41 l.X vl,ptr h.2.1 0,(Sl3.v h.2.2.1),(Sl3.v h.2.2.2)]::blk h.1 28 [ptr a 0,.int .i64 l.Open_1,.int .i64 l.Open_2,.int .i64 l.Open_3,.bool l.Open_4]::optP (MirP a vl) l.X::Trk h.2.1 l.T::sl tyI (Sl3.v h.2.2.1) l.Stale::sl tyI (Sl3.v h.2.2.2) l.Lost::R :=
  fun _ hh=>let ⟨c,hc⟩ := stars_ex.1 hh; ⟨c,stars_star.1 hc⟩
theorem OwnQ_mk {a b : Nat} {vl : Nat} {v0 : Int} {v1 : Int} {v2 : Int} {v3 : Bool} {v4 : Option MirS} {v5 : List Sec} {v6 : List Int} {v7 : List Int} {h0 : Nat} {h1 : Nat} {h2 : Sl3} {h3 : Sl3} {R : List HP} : Ent (blk b 60 [ptr a 0,.func (.func 46) #[] #[ptr h0 0],oifc 41 v4 vl,ptr h1 0,(Sl3.v h2),(Sl3.v h3)]::blk h0 28 [ptr a 0,.int .i64 v0,.int .i64 v1,.int .i64 v2,.bool v3]::optP (MirP a vl) v4::Trk h1 v5::sl tyI (Sl3.v h2) v6::sl tyI (Sl3.v h3) v7::R) (OwnQ a vl b ⟨v0,v1,v2,v3,v4,v5,v6,v7⟩::R) :=
  fun _ hh=>stars_ex.2 ⟨(h0,h1,h2,h3),stars_star.2 hh⟩
end Go.Proofs
