/- TopStacks: the walk in the row's frame, over memory that holds what the row lists. -/
import Derived.WalkKit
import Derived.Orders
import Derived.RangeFuncLeaves
import Derived.RangeFuncCalls
import Derived.TacticsIn
import Derived.Handy
import Derived.OrdersHeld
import Derived.OrdersIn
import Derived.Below
import Derived.OpenShut
import Derived.Deep.Slices
import Derived.Scope
import Derived.KernelRfl
import Derived.RangeFuncRecord
import Derived.ChangeKeysEq
import Derived.Laws.BytesArg
import Derived.Lib.Bytealg
import Derived.Lib.AppendStr
import Derived.Lib.Builder
import Derived.Lib.UnsafeStr
import Derived.ProofKit
import Derived.ShutString
import Derived.ChangeOld
import Derived.Stop.Joined
import Derived.LaidLaws
import Derived.LaidHandle
import Derived.MakeChecks
import Derived.SevenTiedAt
import Derived.Test.YthfaiagepigmcaaGreatDoorChecked
import Derived.Test.YthfaiagepigmcaaGreatDoorRows
import Derived.Test.YthfaiagepigmcaaGreatDoorCards
import Derived.Test.YthfaiagepigmcaaGreatDoorTie
import Derived.Test.YthfaiagepigmcaaGreatDoorZTopStacks9
namespace Go.Proofs.YthfaiagepigmcaaGreatDoor.topStacks
open Go.ChangeShapes Go.WideShapes Go.ChangeAt Go.RowKit
open Go.ChangeMaps (open_string shut_string)
set_option linter.unusedVariables false
theorem own:ownKnob Tryz.prog.godebug=none := by kernel_rfl
theorem zuu:laidOutB Tryz.prog=true := by kernel_rfl
theorem gSuf : Tryz.prog.globalNamed "volumegroup/names.suffixes" = some 0 := by kernel_rfl
theorem tSuf:(Tryz.prog.globals[0]?).map (·.type)=some 317 := by kernel_rfl
theorem cells9:Tryz.prog.cellsOf 9=1 := by kernel_rfl
open Go.VG Ts
theorem z2p {cs:Array Value} {i:Nat} {v:Value} (h:(cs.toList.drop (i * 1)).take 1=[v]):cs[i]? = some v := by
  have h1:((cs.toList.drop (i * 1)).take 1)[0]? = some v := by rw [h]; rfl
  rw [List.getElem?_take_of_lt (by omega),List.getElem?_drop] at h1
  simpa using h1
theorem ztt {W:World} (h:laidMetH Tryz.prog Rows.topStacksRow.laid W):∀ i u,(flat tyS sufL)[i]? = some u→zc9 (hp W) 0 i=some u := by
  rw [MakeChecks.laidMetH_plain _ _ _ (by kernel_rfl)] at h
  obtain ⟨ps,⟨_,_,_,_,_,_,_,_,_,_,⟨_,_,_,_,_,_,_,_,_,_,⟨_,_,_,_,_,_,_,_,_,_,⟨g,t,cs,fuel,p,q,hg,ht,hv,hd,_⟩,_⟩,_⟩,_⟩,_⟩ := h
  obtain rfl := Option.some.inj (gSuf.symm.trans hg)
  obtain rfl := Option.some.inj (tSuf.symm.trans ht)
  obtain ⟨xs,m,_,hx,hlen,hn,hel⟩ := DataW.trod_array Tryz.underlying317 hd
  simp only [Prod.mk.injEq] at hx
  have hl:xs.map (·.1)=[.lit (.string []),.lit (.string [95,108,111,103]),.lit (.string [95,100,97,116,97]),.lit (.string [95,109,101,116,97]),.lit (.string [95,115,112,97,114,101])] := by
    have := hx.1
    simp only [Rows.laid_volumegroup_names_suffixes,DataW.agg.injEq] at this
    exact this.symm
  have key:∀ i b,i < 5→(xs.map (·.1))[i]? = some (.lit (.string b))→zc9 (hp W) 0 i=some (.string ⟨b.toArray⟩) := by
    intro i b hi hb
    rw [List.getElem?_map] at hb
    cases hxi:xs[i]? with
    | none=>rw [hxi] at hb; cases hb
    | some x =>
      have he := hel i hi
      rw [hxi,cells9] at he
      obtain ⟨s,hc,hy,_⟩ := DataW.trod_string Tryz.underlying9 he
      rw [hxi,hy] at hb
      simp only [Option.map_some,Option.some.injEq,DataW.lit.injEq,Lit.string.injEq] at hb
      subst hb
      have := World.var?_cell gSuf hv i
      rw [z2p hc] at this
      have := (zkk this).2
      simpa [Lib.mk_data] using this
  rw [hl] at key
  intro i u hu
  match i,hu with
  | 0,hu=>cases hu; exact key 0 _ (by omega) rfl
  | 1,hu=>cases hu; exact key 1 _ (by omega) rfl
  | 2,hu=>cases hu; exact key 2 _ (by omega) rfl
  | 3,hu=>cases hu; exact key 3 _ (by omega) rfl
  | 4,hu=>cases hu; exact key 4 _ (by omega) rfl
  | n + 5,hu=>simp [flat,sufL] at hu
theorem walk (a0:Option Addr) (len0 cap0:Nat) (a1:Option Addr) (len1 cap1:Nat) (w:World) (w0:∃ xs,xs.length=len0∧len0≤maxLen∧Reads (old w) tyI (.slice a0 len0 cap0) xs) (w1:∃ xs,xs.length=len1∧len1≤maxLen∧Reads (old w) tyStep (.slice a1 len1 cap1) xs) (h0:∀ i u,(flat tyS sufL)[i]? = some u→zc9 (hp w) 0 i=some u) :
    Calls Tryz.prog 3 #[.slice a0 len0 cap0,.slice a1 len1 cap1] w fun e w' => e = .returned (.bool true)∧Below w.heap.size w w' := by
  obtain ⟨xs0,hl0,hm0,hr0⟩ := w0
  obtain ⟨xs1,hl1,hm1,hr1⟩ := w1
  exact zz1 (lv:=⟨a0,len0,cap0⟩) hr0 (by unfold maxLen at hm0; omega) hr1 h0
def valOf:DataW Unit→Value
  | .lit (.int k n) => .int k n
  | .lit (.string l) => .string ⟨l.toArray⟩
  | _ => .bool false
def z2q:DataW Unit→Array Value
  | .agg l=>(l.map valOf).toArray
  | _ => #[]
def lay (d:DataW Unit):Obj→Obj
  | .cells _ t frozen => .cells (z2q d) t frozen
  | o=>o
noncomputable def ztg:List (String × DataW Unit)→Array Obj→Array Obj
  | [],h=>h
  | (n,d)::r,h=>ztg r (match Tryz.prog.globalNamed n with
    | some g=>h.modify g (lay d)
    | none=>h)
noncomputable def zq8 (os:Os):World :=
  { World.holding Tryz.prog os ⟨#[], #[],[]⟩ with heap := ztg Rows.topStacksRow.laid (World.holding Tryz.prog os ⟨#[], #[],[]⟩).heap }
theorem zz2 (os:Os) (args:Array Value):laidMetH Tryz.prog Rows.topStacksRow.laid ((zq8 os).forCall (fun _ _=>0) ⟨#[],args,[]⟩).memory :=
  laidMetH_of_parts (laidMet_of_run' 8 (by kernel_rfl) (by kernel_rfl)) (by kernel_rfl)
set_option maxRecDepth 100000 in
theorem lifted (os:Os) (started:os.Started) (H:Type) (enc:TypeId × Value→H) :
    ReturnsInHanded {} Tryz.checked os 3 .any (fun w args=>(Rows.topStacksSpec.pre enc Tryz.prog Tryz.f3 [] false w args∧laidMetH Tryz.prog Rows.topStacksRow.laid w)∧sizedMet enc Tryz.prog Tryz.f3 (OpenSpec.ofChange Rows.topStacksSpec) false w args)
      (Rows.topStacksSpec.post enc Tryz.prog Tryz.f3 false true false false) := by
  refine returnsInHanded_of_change_and (C:=Tryz.checked) (X:=fun w _=>laidMetH Tryz.prog Rows.topStacksRow.laid w) (fun _ _ _ hh h=>h.of_heap hh) own started (by kernel_rfl) Tryz.func3
    (ChangeSpec.witness_at (enc:=enc) (C:=Tryz.checked) (os:=os) (X:=fun w _=>laidMetH Tryz.prog Rows.topStacksRow.laid w) false (zq8 os) #[.slice none 0 0,.slice none 0 0] 8 rfl (by kernel_rfl) (by kernel_rfl) (by kernel_rfl) (by kernel_rfl) (by kernel_rfl) (zz2 os _)) ?_
  intro W base args ds gs before hval0 hW _ _ hL _
  have hval:∀ (j:Nat) t v,Tryz.f3.params[j]? = some t→args[j]? = some v→Value.okWide Tryz.prog W .any base t v := hval0
  have hW' := hW
  obtain ⟨p,q,hA0,hV,rfl,hfz,hnd⟩ := hW
  have hA:DataW.TrodAll enc Tryz.prog W 0 (fun _=>true) true Tryz.f3.params.toList args.toList ds p := hA0
  rw [Tryz.params3] at hA hval
  obtain ⟨v0,v1,d0,d1,p0,p1,rfl,rfl,rfl,h0,h1⟩ := trodAll_two hA
  obtain ⟨rfl,rfl⟩ := trodVars_none hV
  have k0 := h0
  have k1 := h1
  have lt0:∀ x ∈ p0,x.block < W.heap.size := by obtain ⟨m,hm⟩ := k0; exact DataW.trod_lt m _ _ _ hm
  have lt1:∀ x ∈ p1,x.block < W.heap.size := by obtain ⟨m,hm⟩ := k1; exact DataW.trod_lt m _ _ _ hm
  obtain ⟨a0,len0,cap0,rfl⟩ := okWide_slice Tryz.underlying22 (hval 0 22 v0 rfl rfl)
  obtain ⟨a1,len1,cap1,rfl⟩ := okWide_slice Tryz.underlying23 (hval 1 23 v1 rfl rfl)
  have w0:∃ xs,xs.length=len0∧len0≤maxLen∧Reads (old W) tyI (.slice a0 len0 cap0) xs := by
    obtain ⟨fuel,hf⟩ := h0
    exact zrr Tryz.underlying22 (by kernel_rfl) zls (by simpa [Value.cells] using hf)
  have w1:∃ xs,xs.length=len1∧len1≤maxLen∧Reads (old W) tyStep (.slice a1 len1 cap1) xs := by
    obtain ⟨fuel,hf⟩ := h1
    exact zrr Tryz.underlying23 (by kernel_rfl) zr2 (by simpa [Value.cells] using hf)
  clear hA0 hval0
  refine (walk a0 len0 cap0 a1 len1 cap1 W w0 w1 (ztt hL)).mono fun e W' ⟨he,bel⟩ => ?_
  subst he
  exact ⟨_,rfl,_,_,_,[],_,[],hW',trodAll_mk1 (shut_bool Tryz.underlying4 _),trodAll_mk2 (Below.trod zuu (by kernel_rfl) (of_decide_eq_true (by kernel_rfl)) k0 bel lt0) (Below.trod zuu (by kernel_rfl) (of_decide_eq_true (by kernel_rfl)) k1 bel lt1),rfl,bel.frame _,fun h=>by cases h⟩
end Go.Proofs.YthfaiagepigmcaaGreatDoor.topStacks
