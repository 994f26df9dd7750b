/- ParityvolErrors, part 2 of the proof: Z, CDisk0, CDisk1, CDiskI, LDel, CLoad, LDev, LSpan, LMake, PMake, PSpans, PGood, PGood2, PArr, PMapD, PFls, PUp, VgDe, VgLi. -/
import Derived.WalkKit
import Derived.Orders
import Derived.RangeFuncLeaves
import Derived.RangeFuncCalls
import Derived.TacticsIn
import Derived.Handy
import Derived.OrdersHeld
import Derived.OrdersIn
import Derived.Below
import Derived.OpenShut
import Derived.Deep.Slices
import Derived.Scope
import Derived.KernelRfl
import Derived.RangeFuncRecord
import Derived.ChangeKeysEq
import Derived.ProofKit
import Derived.ShutString
import Derived.ChangeOld
import Derived.Test.YtmoiepdpckpolaaGreatChecked
import Derived.Test.YtmoiepdpckpolaaGreatRows
import Derived.Test.YtmoiepdpckpolaaGreatZParityvolErrors1
namespace Go.VG
section
variable {P : Program} {n : Env} {W : World} {s : Slots} {H : List HP} {d : Nat} {ty : TypeId} {pos : String} {after : Array Edge} {Q : Exit → Act → World → Prop} {ops : Array Oper} {rest : List Oper} {op : Op} {v : Value} {y : Operand}
theorem oP (h : PJ P n ⟨some d, op, ty, pos, after, none⟩ s v) (hd : Nat.blt d n.n = true) (hk : RJ P n W ops Q rest ((d, v) :: s) H) : RJ P n W ops Q (⟨some d, op, ty, pos, after, none⟩ :: rest) s H := RJ_op rfl (OJ_P h hd hk)
theorem oV (h : VJ P n W ⟨some d, op, ty, pos, after, none⟩ s H v) (hd : Nat.blt d n.n = true) (hk : RJ P n W ops Q rest ((d, v) :: s) H) : RJ P n W ops Q (⟨some d, op, ty, pos, after, none⟩ :: rest) s H := RJ_op rfl (OJ_V h hd hk)
theorem oM (hx : ev s y = some v) (hd : Nat.blt d n.n = true) (hk : RJ P n W ops Q rest ((d, v) :: s) H) : RJ P n W ops Q (⟨some d, .move y, ty, pos, after, none⟩ :: rest) s H := RJ_op rfl (OJ_P (P_move hx) hd hk)
theorem oA (hx : ev s y = some v) (hd : Nat.blt d n.n = true) (hk : RJ P n W ops Q rest ((d, v) :: s) H) : RJ P n W ops Q (⟨some d, .assign y, ty, pos, after, none⟩ :: rest) s H := RJ_op rfl (OJ_P (P_assign hx) hd hk)
theorem oO {o : Oper} (h : OJ P n W o s H fun s' H' => RJ P n W ops Q rest s' H') (hg : o.guard = none := by exact rfl) : RJ P n W ops Q (o :: rest) s H := RJ_op hg h
theorem gP {g : Option (Nat × Bool)} (hg : GY ops s ⟨some d, op, ty, pos, after, g⟩ true) (h : PJ P n ⟨some d, op, ty, pos, after, g⟩ s v) (hd : Nat.blt d n.n = true) (hk : RJ P n W ops Q rest ((d, v) :: s) H) : RJ P n W ops Q (⟨some d, op, ty, pos, after, g⟩ :: rest) s H := RJ_gy hg (OJ_P h hd hk)
theorem gV {g : Option (Nat × Bool)} (hg : GY ops s ⟨some d, op, ty, pos, after, g⟩ true) (h : VJ P n W ⟨some d, op, ty, pos, after, g⟩ s H v) (hd : Nat.blt d n.n = true) (hk : RJ P n W ops Q rest ((d, v) :: s) H) : RJ P n W ops Q (⟨some d, op, ty, pos, after, g⟩ :: rest) s H := RJ_gy hg (OJ_V h hd hk)
theorem nT {z : Code} (h : CJ P n W Q z s H) : RJ P n W ops (Exit.then (z.wpIn (fw n.r) 0 P Q) Q) [] s H := RJ_nil (QJ_then h)
theorem sR {id : Nat} {l : List Oper} {z : Code} (h : RJ P n W l.toArray (Exit.then (z.wpIn (fw n.r) 0 P Q) Q) l s H) : CJ P n W Q (.seq (.region id l.toArray false) z) s H := CJ_seq (CJ_region h)
theorem kT {z : Code} (h : CJ P n W Q z s H) : CJ P n W (Exit.then (z.wpIn (fw n.r) 0 P Q) Q) .skip s H := CJ_skip (QJ_then h)
end
section
variable {P : Program} {n : Env} {W : World} {l : List Oper} {Q : Exit → Act → World → Prop} {Hr : List HP} {tl : Nat} {s : Slots} {H : List HP} {fuel m m' : Nat} {d : Nat} {op : Op} {ty : TypeId} {pos : String} {after : Array Edge} {g : Option (Nat × Bool)} {v : Value}
theorem aP (i m' : Nat) (hi : l[i]? = some ⟨some d, op, ty, pos, after, g⟩) (hm' : m ||| 2 ^ i = m') (hg : GY l.toArray s ⟨some d, op, ty, pos, after, g⟩ true) (hp : PJ P n ⟨some d, op, ty, pos, after, g⟩ s v) (hd : Nat.blt d n.n = true) (h : AJ P n W l Q Hr tl fuel m' ((d, v) :: s) H) (hok : okTake l.toArray m i = true := by kernel_rfl) (hQ : ∀ c a v w, noP Q (.panic c) (a.put (some d) v) w → noP Q (.panic c) a w := by exact fun _ _ _ _ h => h) : AJ P n W l Q Hr tl (fuel + 1) m s H := AJ_takeP i m' hi hok hm' hg hp hd hQ h
theorem aN (i m' : Nat) (hi : l[i]? = some ⟨some d, op, ty, pos, after, none⟩) (hm' : m ||| 2 ^ i = m') (hp : PJ P n ⟨some d, op, ty, pos, after, none⟩ s v) (hd : Nat.blt d n.n = true) (h : AJ P n W l Q Hr tl fuel m' ((d, v) :: s) H) (hok : okTake l.toArray m i = true := by kernel_rfl) (hQ : ∀ c a v w, noP Q (.panic c) (a.put (some d) v) w → noP Q (.panic c) a w := by exact fun _ _ _ _ h => h) : AJ P n W l Q Hr tl (fuel + 1) m s H := AJ_takeP i m' hi hok hm' (GY_none rfl) hp hd hQ h
theorem aV (i m' : Nat) (hi : l[i]? = some ⟨some d, op, ty, pos, after, g⟩) (hm' : m ||| 2 ^ i = m') (hg : GY l.toArray s ⟨some d, op, ty, pos, after, g⟩ true) (he : Ent H Hr) (hp : VJ P n W ⟨some d, op, ty, pos, after, g⟩ s Hr v) (hd : Nat.blt d n.n = true) (h : AJ P n W l Q Hr tl fuel m' ((d, v) :: s) H) (hok : okTake l.toArray m i = true := by kernel_rfl) (hcl : closedB l.toArray m = true := by kernel_rfl) (hlast : okLast l.toArray tl i = true := by kernel_rfl) (hQ : ∀ c a v w, noP Q (.panic c) (a.put (some d) v) w → noP Q (.panic c) a w := by exact fun _ _ _ _ h => h) : AJ P n W l Q Hr tl (fuel + 1) m s H := AJ_takeV i m' hi hok hm' hcl hlast hg he hp hd hQ h
theorem aS (i m' : Nat) (hi : l[i]? = some ⟨some d, op, ty, pos, after, g⟩) (hm' : m ||| 2 ^ i = m') (hg : GY l.toArray s ⟨some d, op, ty, pos, after, g⟩ false) (hd : Nat.blt d n.n = true) (h : AJ P n W l Q Hr tl fuel m' ((d, undef) :: s) H) (hok : okTake l.toArray m i = true := by kernel_rfl) (hQ : ∀ c a v w, noP Q (.panic c) (a.put (some d) v) w → noP Q (.panic c) a w := by exact fun _ _ _ _ h => h) : AJ P n W l Q Hr tl (fuel + 1) m s H := AJ_skip i m' hi hok hm' hg hd hQ h
theorem aD {z : Code} (h : CJ P n W Q z s H) (hr : readyAre l.toArray m [] = true := by kernel_rfl) : AJ P n W l (Exit.then (z.wpIn (fw n.r) 0 P Q) Q) Hr tl fuel m s H := AJ_done hr (QJ_then h)
end
section
variable {P : Program} {n : Env} {W : World} {Q : Exit → Act → World → Prop} {s : Slots} {H : List HP}
theorem nR {X : Type} {ks : List Nat} {ins : X → Slots} {hin : X → List HP → List HP} {pf : X → Prop} {μ : X → Nat} {x : X} {R : List HP} {s0 : Slots} (x' : X) (hp : pf x') (hs' : known s (ins x')) (hH' : Ent H (hin x' R)) (hμ : μ x' < μ x := by exact Nat.lt_succ_self _) (hk : Kp ks s0 s := by repeat (first | exact Kp.base | exact Kp.self | refine Kp.cons rfl ?_ | refine Kp.forget rfl ?_)) : QJ n W (RoundEnd n W ks ins hin pf μ s0 R x Q) .normal s H := QJ_nextR x' hμ hp hk hs' hH'
theorem cR {X : Type} {ks : List Nat} {ins : X → Slots} {hin : X → List HP → List HP} {pf : X → Prop} {R : List HP} {s0 : Slots} (x : X) (hp : pf x) (hs' : known s (ins x)) (hH' : Ent H (hin x R)) (hk : Kp ks s0 s := by repeat (first | exact Kp.base | exact Kp.self | refine Kp.cons rfl ?_ | refine Kp.forget rfl ?_)) : QJ n W (Exit.then (CutEnd n W ks ins hin pf s0 R) Q) .normal s H := QJ_cutR x hp hk hs' hH'
theorem fE {m : Nat} {q : Option Nat} {fn : Func} {v : Value} {X : Type} {res : X → Value} {pf : X → Prop} {post : X → List HP → List HP} {F : List HP} (hr : ∀ a w, Fits ⟨m, q, []⟩ s a → St W w H → (results fn a.tmps).run P w = .ok v w) (x : X) (hH : Ent H (post x F)) (hv : v = res x := by exact rfl) (hp : pf x := by exact trivial) : QJ ⟨m, q, []⟩ W (bodyPost P fn (CPost W res pf post F)) .ret s H := QJ_end hr (CSpec.close x hv hp hH)
theorem fN {m : Nat} {q : Option Nat} {fn : Func} {v : Value} {X : Type} {res : X → Value} {pf : X → Prop} {post : X → List HP → List HP} {F : List HP} (hr : ∀ a w, Fits ⟨m, q, []⟩ s a → St W w H → (results fn a.tmps).run P w = .ok v w) (x : X) (hH : Ent H (post x F)) (hv : v = res x := by exact rfl) (hp : pf x := by exact trivial) : QJ ⟨m, q, []⟩ W (bodyPost P fn (CPost W res pf post F)) .normal s H := QJ_endN hr (CSpec.close x hv hp hH)
theorem lC {α : Type} {t : Ty α} {u : Value} {xs : List α} {c : Code} {R : List HP} (hd : Del H (sl t u xs) R) (h : xs.length ≤ 9223372036854775807 → CJ P n W Q c s H) : CJ P n W Q c s H := CJ_pure (len_of (Reads.sl _ _ _) hd) h
end
section
variable {X0 X1 X2 X3 X4 X5 X6 X7 X8 X9 X10 X11 X12 X13 X14 X15 X16 X17 X18 X19 X20 X21 X22 X23 X24 X25 X26 X27 X28 A : HP} {R r : List HP}
theorem t0_ (h : Ent (R) r) : Ent (A :: R) (A :: r) := Ent.take del0 h
theorem t1_ (h : Ent (X0 :: R) r) : Ent (X0 :: A :: R) (A :: r) := Ent.take del1 h
theorem t2_ (h : Ent (X0 :: X1 :: R) r) : Ent (X0 :: X1 :: A :: R) (A :: r) := Ent.take del2 h
theorem t3_ (h : Ent (X0 :: X1 :: X2 :: R) r) : Ent (X0 :: X1 :: X2 :: A :: R) (A :: r) := Ent.take del3 h
theorem t4_ (h : Ent (X0 :: X1 :: X2 :: X3 :: R) r) : Ent (X0 :: X1 :: X2 :: X3 :: A :: R) (A :: r) := Ent.take del4 h
theorem t5_ (h : Ent (X0 :: X1 :: X2 :: X3 :: X4 :: R) r) : Ent (X0 :: X1 :: X2 :: X3 :: X4 :: A :: R) (A :: r) := Ent.take del5 h
theorem t6_ (h : Ent (X0 :: X1 :: X2 :: X3 :: X4 :: X5 :: R) r) : Ent (X0 :: X1 :: X2 :: X3 :: X4 :: X5 :: A :: R) (A :: r) := Ent.take del6 h
theorem t7_ (h : Ent (X0 :: X1 :: X2 :: X3 :: X4 :: X5 :: X6 :: R) r) : Ent (X0 :: X1 :: X2 :: X3 :: X4 :: X5 :: X6 :: A :: R) (A :: r) := Ent.take del7 h
theorem t8_ (h : Ent (X0 :: X1 :: X2 :: X3 :: X4 :: X5 :: X6 :: X7 :: R) r) : Ent (X0 :: X1 :: X2 :: X3 :: X4 :: X5 :: X6 :: X7 :: A :: R) (A :: r) := Ent.take del8 h
theorem t9_ (h : Ent (X0 :: X1 :: X2 :: X3 :: X4 :: X5 :: X6 :: X7 :: X8 :: R) r) : Ent (X0 :: X1 :: X2 :: X3 :: X4 :: X5 :: X6 :: X7 :: X8 :: A :: R) (A :: r) := Ent.take del9 h
theorem t10_ (h : Ent (X0 :: X1 :: X2 :: X3 :: X4 :: X5 :: X6 :: X7 :: X8 :: X9 :: R) r) : Ent (X0 :: X1 :: X2 :: X3 :: X4 :: X5 :: X6 :: X7 :: X8 :: X9 :: A :: R) (A :: r) := Ent.take del10 h
theorem t11_ (h : Ent (X0 :: X1 :: X2 :: X3 :: X4 :: X5 :: X6 :: X7 :: X8 :: X9 :: X10 :: R) r) : Ent (X0 :: X1 :: X2 :: X3 :: X4 :: X5 :: X6 :: X7 :: X8 :: X9 :: X10 :: A :: R) (A :: r) := Ent.take del11 h
theorem t12_ (h : Ent (X0 :: X1 :: X2 :: X3 :: X4 :: X5 :: X6 :: X7 :: X8 :: X9 :: X10 :: X11 :: R) r) : Ent (X0 :: X1 :: X2 :: X3 :: X4 :: X5 :: X6 :: X7 :: X8 :: X9 :: X10 :: X11 :: A :: R) (A :: r) := Ent.take del12 h
theorem t13_ (h : Ent (X0 :: X1 :: X2 :: X3 :: X4 :: X5 :: X6 :: X7 :: X8 :: X9 :: X10 :: X11 :: X12 :: R) r) : Ent (X0 :: X1 :: X2 :: X3 :: X4 :: X5 :: X6 :: X7 :: X8 :: X9 :: X10 :: X11 :: X12 :: A :: R) (A :: r) := Ent.take del13 h
theorem t14_ (h : Ent (X0 :: X1 :: X2 :: X3 :: X4 :: X5 :: X6 :: X7 :: X8 :: X9 :: X10 :: X11 :: X12 :: X13 :: R) r) : Ent (X0 :: X1 :: X2 :: X3 :: X4 :: X5 :: X6 :: X7 :: X8 :: X9 :: X10 :: X11 :: X12 :: X13 :: A :: R) (A :: r) := Ent.take del14 h
theorem t15_ (h : Ent (X0 :: X1 :: X2 :: X3 :: X4 :: X5 :: X6 :: X7 :: X8 :: X9 :: X10 :: X11 :: X12 :: X13 :: X14 :: R) r) : Ent (X0 :: X1 :: X2 :: X3 :: X4 :: X5 :: X6 :: X7 :: X8 :: X9 :: X10 :: X11 :: X12 :: X13 :: X14 :: A :: R) (A :: r) := Ent.take del15 h
theorem t16_ (h : Ent (X0 :: X1 :: X2 :: X3 :: X4 :: X5 :: X6 :: X7 :: X8 :: X9 :: X10 :: X11 :: X12 :: X13 :: X14 :: X15 :: R) r) : Ent (X0 :: X1 :: X2 :: X3 :: X4 :: X5 :: X6 :: X7 :: X8 :: X9 :: X10 :: X11 :: X12 :: X13 :: X14 :: X15 :: A :: R) (A :: r) := Ent.take del16 h
theorem t17_ (h : Ent (X0 :: X1 :: X2 :: X3 :: X4 :: X5 :: X6 :: X7 :: X8 :: X9 :: X10 :: X11 :: X12 :: X13 :: X14 :: X15 :: X16 :: R) r) : Ent (X0 :: X1 :: X2 :: X3 :: X4 :: X5 :: X6 :: X7 :: X8 :: X9 :: X10 :: X11 :: X12 :: X13 :: X14 :: X15 :: X16 :: A :: R) (A :: r) := Ent.take del17 h
theorem t18_ (h : Ent (X0 :: X1 :: X2 :: X3 :: X4 :: X5 :: X6 :: X7 :: X8 :: X9 :: X10 :: X11 :: X12 :: X13 :: X14 :: X15 :: X16 :: X17 :: R) r) : Ent (X0 :: X1 :: X2 :: X3 :: X4 :: X5 :: X6 :: X7 :: X8 :: X9 :: X10 :: X11 :: X12 :: X13 :: X14 :: X15 :: X16 :: X17 :: A :: R) (A :: r) := Ent.take del18 h
theorem t19_ (h : Ent (X0 :: X1 :: X2 :: X3 :: X4 :: X5 :: X6 :: X7 :: X8 :: X9 :: X10 :: X11 :: X12 :: X13 :: X14 :: X15 :: X16 :: X17 :: X18 :: R) r) : Ent (X0 :: X1 :: X2 :: X3 :: X4 :: X5 :: X6 :: X7 :: X8 :: X9 :: X10 :: X11 :: X12 :: X13 :: X14 :: X15 :: X16 :: X17 :: X18 :: A :: R) (A :: r) := Ent.take del19 h
theorem eD (h : Ent R r) : Ent (A :: R) r := Ent.drop h
theorem eR : Ent R R := Ent.refl
end
end Go.VG

set_option linter.unusedSimpArgs false
set_option maxRecDepth 20000
namespace Go.Proofs
open Go.VG
structure Sl3 where
  p : Option Addr
  n : Nat
  c : Nat
abbrev Sl3.v (x : Sl3) : Value := .slice x.p x.n x.c
structure DrvH where
  now : Sl3
  dur : Sl3
  miss : Bool
structure Drive where
  now : List UInt64
  dur : List UInt64
  miss : Bool
structure Rec where
  d : Nat
  a : Nat
  v : UInt64
abbrev dH0 : DrvH := ⟨⟨none, 0, 0⟩, ⟨none, 0, 0⟩, false⟩
abbrev d0 : Drive := ⟨[], [], false⟩
abbrev r0 : Rec := ⟨0, 0, 0⟩
abbrev tyDrv : Ty DrvH := { T := 99, sz := 3, enc := fun x => [x.now.v, x.dur.v, .bool x.miss], dflt := dH0, len := fun _ => rfl, one := fun _ => rfl, pos := by decide }
abbrev tyRec : Ty Rec := { T := 143, sz := 3, enc := fun x => [.int .i64 (x.d : Int), .int .i64 (x.a : Int), .int .u64 (x.v.toNat : Int)], dflt := r0, len := fun _ => rfl, one := fun _ => rfl, pos := by decide }
theorem ok_tyDrv : ElemOk Tryz.prog tyDrv 56 := ⟨Tryz.t99, .agg #[.slice none 0 0, .slice none 0 0, .bool false], by kernel_rfl, rfl, rfl, rfl, rfl⟩
theorem ok_tyRec : ElemOk Tryz.prog tyRec 24 := ⟨Tryz.t143, .agg #[.int .i64 0, .int .i64 0, .int .u64 0], by kernel_rfl, rfl, rfl, rfl, rfl⟩
abbrev mBad : MTy (Int × Int) Unit := { KT := 96, VT := 4, ek := fun k => .agg #[.int .i64 k.1, .int .i64 k.2], ev := fun _ => .bool true }
theorem ok_mBad : MOk Tryz.prog mBad 101 where
  ty := Tryz.underlying101
  eq := fun a b w => by
    have e1 : decide (a = b) = (decide (a.1 = b.1) && decide (a.2 = b.2)) := by
      rw [Bool.eq_iff_iff]; simp only [decide_eq_true_eq, Bool.and_eq_true]
      constructor
      · rintro rfl; exact ⟨rfl, rfl⟩
      · rintro ⟨h1, h2⟩; exact Prod.ext h1 h2
    rw [e1]
    exact eq_pair Tryz.underlying96 (by kernel_rfl) Tryz.underlying3 Tryz.underlying3 Tryz.isAgg3 Tryz.isAgg3 rfl rfl (by decide) (by decide) _ _ _ _ w
  chk := fun e a w => chk_pair Tryz.underlying96 Tryz.underlying3 Tryz.underlying3 Tryz.isAgg3 Tryz.isAgg3 rfl rfl e _ _ w 9998
  same := fun a => by simp [Instr.sameBits]
  kd := ⟨_, Tryz.underlying96, .inl fun a b => rfl⟩
structure ArrS where
  drv : List Drive
  bad : List ((Int × Int) × Unit)
  log : List Rec
  fuse : Nat
  down : Bool
  writes : Nat
def ArrS.size (s : ArrS) (d : Nat) : Nat := (s.drv.getD d d0).now.length
structure ArrWF (s : ArrS) : Prop where
  cnt : s.drv.length ≤ 8
  same : ∀ i, i < s.drv.length → (s.drv.getD i d0).now.length = (s.drv.getD i d0).dur.length ∧ (s.drv.getD i d0).now.length ≤ 65536
  log : ∀ i, i < s.log.length → (s.log.getD i r0).d < s.drv.length ∧ (s.log.getD i r0).a < s.size (s.log.getD i r0).d
  len : s.log.length ≤ s.writes
  fuse : s.fuse ≤ 9223372036854775807
abbrev DL := List (DrvH × Drive)
def own1 (p : DrvH × Drive) : HP := star [sl tyU p.1.now.v p.2.now, sl tyU p.1.dur.v p.2.dur]
def DRest (l : DL) (i : Nat) : HP := star ((l.take i ++ l.drop (i + 1)).map own1)
def DOwn (l : DL) : HP := star (l.map own1)
abbrev DL.hs (l : DL) : List DrvH := l.map Prod.fst
def Arr (b : Nat) (s : ArrS) : HP := ex fun c : Sl3 × Sl3 × Nat × DL =>
  star [pur (c.2.2.2.map Prod.snd = s.drv ∧ (∀ p ∈ c.2.2.2, p.1.miss = p.2.miss) ∧ ArrWF s), blk b 104 [c.1.v, .map (some c.2.2.1), c.2.1.v, .int .i64 (s.fuse : Int), .bool s.down, .int .i64 (s.writes : Int)],
    sl tyDrv c.1.v (DL.hs c.2.2.2), DOwn c.2.2.2, sl tyRec c.2.1.v s.log, mpc mBad c.2.2.1 s.bad]
theorem Arr_open {b : Nat} {s : ArrS} {R : List HP} : EntX (Arr b s :: R) fun c : Sl3 × Sl3 × Nat × DL =>
    pur (c.2.2.2.map Prod.snd = s.drv ∧ (∀ p ∈ c.2.2.2, p.1.miss = p.2.miss) ∧ ArrWF s) :: blk b 104 [c.1.v, .map (some c.2.2.1), c.2.1.v, .int .i64 (s.fuse : Int), .bool s.down, .int .i64 (s.writes : Int)] ::
    sl tyDrv c.1.v (DL.hs c.2.2.2) :: DOwn c.2.2.2 :: sl tyRec c.2.1.v s.log :: mpc mBad c.2.2.1 s.bad :: R :=
  fun _ hh => let ⟨c, hc⟩ := stars_ex.1 hh; ⟨c, stars_star.1 hc⟩
theorem Arr_close {b r : Nat} {s : ArrS} {dv lv : Sl3} {l : DL} {R : List HP} (h1 : l.map Prod.snd = s.drv) (h2 : ∀ p ∈ l, p.1.miss = p.2.miss) (h3 : ArrWF s) :
    Ent (blk b 104 [dv.v, .map (some r), lv.v, .int .i64 (s.fuse : Int), .bool s.down, .int .i64 (s.writes : Int)] :: sl tyDrv dv.v (DL.hs l) :: DOwn l :: sl tyRec lv.v s.log :: mpc mBad r s.bad :: R) (Arr b s :: R) :=
  fun _ hh => stars_ex.2 ⟨(dv, lv, r, l), stars_star.2 (stars_pur.2 ⟨⟨h1, h2, h3⟩, hh⟩)⟩
theorem map_split (l : DL) (i : Nat) (hi : i < l.length) : (l.map own1).Perm (own1 (l.getD i (dH0, d0)) :: (l.take i ++ l.drop (i + 1)).map own1) := by
  have h1 : l = l.take i ++ l.getD i (dH0, d0) :: l.drop (i + 1) := by
    have := List.take_append_drop i l
    rw [List.drop_eq_getElem_cons hi] at this
    simp [List.getD, hi]
  have h2 : l.map own1 = (l.take i ++ l.getD i (dH0, d0) :: l.drop (i + 1)).map own1 := by rw [← h1]
  rw [h2, List.map_append, List.map_cons, List.map_append]
  exact List.perm_middle
theorem getD_mapf {l : DL} {i : Nat} : (DL.hs l).getD i dH0 = (l.getD i (dH0, d0)).1 := by
  simp only [DL.hs, List.getD, List.getElem?_map]; cases l[i]? <;> rfl
theorem getD_maps {l : DL} {i : Nat} : (l.map Prod.snd).getD i d0 = (l.getD i (dH0, d0)).2 := by
  simp only [List.getD, List.getElem?_map]; cases l[i]? <;> rfl
theorem DOwn_open {l : DL} {s : ArrS} (i : Nat) (hs : l.map Prod.snd = s.drv) (hi : i < s.drv.length) {R : List HP} :
    Ent (DOwn l :: R) (sl tyU ((DL.hs l).getD i dH0).now.v (s.drv.getD i d0).now :: sl tyU ((DL.hs l).getD i dH0).dur.v (s.drv.getD i d0).dur :: DRest l i :: R) := by
  intro h hh
  rw [← hs, getD_mapf, getD_maps]
  have hi' : i < l.length := by rw [← hs] at hi; simpa using hi
  have h1 := stars_star.1 hh
  have h2 := stars_perm ((map_split l i hi').append_right R) _ h1
  have h3 : stars (own1 (l.getD i (dH0, d0)) :: star ((l.take i ++ l.drop (i + 1)).map own1) :: R) h := by
    simp only [List.cons_append] at h2
    obtain ⟨g1, g2, d, e, ha, hb⟩ := h2
    exact ⟨g1, g2, d, e, ha, stars_star.2 hb⟩
  exact stars_star.1 h3
theorem DOwn_close {l : DL} {i : Nat} (x : DrvH × Drive) (hi : i < l.length) {R : List HP} :
    Ent (sl tyU x.1.now.v x.2.now :: sl tyU x.1.dur.v x.2.dur :: DRest l i :: R) (DOwn (l.set i x) :: R) := by
  intro h hh
  have h1 : stars (own1 x :: DRest l i :: R) h := stars_star.2 hh
  have h3 : stars ((own1 x :: (l.take i ++ l.drop (i + 1)).map own1) ++ R) h := by
    obtain ⟨g1, g2, d, e, ha, hb⟩ := h1
    exact ⟨g1, g2, d, e, ha, stars_star.1 hb⟩
  refine stars_star.2 (stars_perm (List.Perm.append_right R ?_) _ h3)
  have h4 := map_split (l.set i x) i (by simpa using hi)
  have e1 : (l.set i x).getD i (dH0, d0) = x := by simp [List.getD, hi]
  have e2 : (l.set i x).take i = l.take i := by simp [List.take_set_of_le]
  have e3 : (l.set i x).drop (i + 1) = l.drop (i + 1) := by simp [List.drop_set]
  rw [e1, e2, e3] at h4
  exact h4.symm
theorem DOwn_back {l : DL} {s : ArrS} {i : Nat} (hs : l.map Prod.snd = s.drv) (hi : i < s.drv.length) {R : List HP} :
    Ent (sl tyU ((DL.hs l).getD i dH0).now.v (s.drv.getD i d0).now :: sl tyU ((DL.hs l).getD i dH0).dur.v (s.drv.getD i d0).dur :: DRest l i :: R) (DOwn l :: R) := by
  have hi' : i < l.length := by rw [← hs] at hi; simpa using hi
  have := DOwn_close (l := l) (i := i) (l.getD i (dH0, d0)) hi' (R := R)
  rw [show l.set i (l.getD i (dH0, d0)) = l by simp [List.getD, hi']] at this
  rw [← hs, getD_mapf, getD_maps]
  exact this
def inR (s : ArrS) (d : Int) : Prop := 0 ≤ d ∧ d < s.drv.length
instance (s : ArrS) (d : Int) : Decidable (inR s d) := by unfold inR; infer_instance
def sizeI (s : ArrS) (d : Int) : Int := if inR s d then (s.size d.toNat : Int) else 0
def isBad (s : ArrS) (d a : Int) : Bool := (lookM s.bad (d, a)).isSome
def missI (s : ArrS) (d : Int) : Bool := (s.drv.getD d.toNat d0).miss
def cPow (s : ArrS) : Int := if s.down then 5 else 0
def cLoc (s : ArrS) (d : Int) : Int := if inR s d then 0 else 1
def cPla (s : ArrS) (d a : Int) : Int := if 0 ≤ a ∧ a < sizeI s d then 0 else 1
def cPre (s : ArrS) (d : Int) : Int := if missI s d then 6 else 0
def cWho (s : ArrS) (d a : Int) : Int := if isBad s d a then 7 else 0
abbrev tyFn : Ty (Nat × Value) := { T := 97, sz := 1, enc := fun x => [.func (.func x.1) #[x.2] #[]], dflt := (0, .bool false), len := fun _ => rfl, one := fun _ => rfl, pos := by decide }
def fz : List Int → Int
  | [] => 0
  | c :: r => if c = 0 then fz r else c
theorem fz_at : ∀ (cs : List Int) (k : Nat), k < cs.length → (∀ j, j < k → cs.getD j 0 = 0) → cs.getD k 0 ≠ 0 → fz cs = cs.getD k 0
  | [], k, h, _, _ => by simp at h
  | c :: r, 0, _, _, hk => by simpa [fz] using fun h => absurd h (by simpa using hk)
  | c :: r, k + 1, h, h0, hk => by
    have hc : c = 0 := by simpa using h0 0 (by omega)
    simp only [fz, hc, if_true]
    have := fz_at r k (by simpa using h) (fun j hj => by simpa using h0 (j + 1) (by omega)) (by simpa using hk)
    simpa using this
theorem fz_all : ∀ (cs : List Int), (∀ j, j < cs.length → cs.getD j 0 = 0) → fz cs = 0
  | [], _ => rfl
  | c :: r, h => by
    have hc : c = 0 := by simpa using h 0 (by simp)
    simp only [fz, hc, if_true]
    exact fz_all r fun j hj => by simpa using h (j + 1) (by simp; omega)
theorem hs_len {l : DL} {s : ArrS} (hs : l.map Prod.snd = s.drv) : (DL.hs l).length = s.drv.length := by rw [← hs]; simp
theorem miss_at {l : DL} {s : ArrS} (hs : l.map Prod.snd = s.drv) (hm : ∀ p ∈ l, p.1.miss = p.2.miss) {i : Nat} (hi : i < s.drv.length) : ((DL.hs l).getD i dH0).miss = (s.drv.getD i d0).miss := by
  rw [← hs, getD_mapf, getD_maps]
  have hi' : i < l.length := by rw [← hs] at hi; simpa using hi
  rw [List.getD, List.getElem?_eq_getElem hi']
  exact hm _ (List.getElem_mem hi')
theorem c_fault {W : World} {t : Bool} {e : Int} :
    CSpec Tryz.prog W 99 [.bool t, .int .i64 e] [] (fun _ : Unit => .int .i64 (if t then e else 0)) (fun _ => True) (fun _ F => F) := by
 refine CSpec.of_body Tryz.func99 rfl Tryz.ntmps99 rfl fun F => ?_
 show CJ _ _ _ _ _ _ (F)
 refine sR <| oA rfl rfl <| nT <| CJ_seq <| sR <| oM rfl rfl <| nT ?_
 first | (refine CJ_condD rfl (fun hg1 => ?_) (fun hg1 => ?_)) | (refine CJ_condN rfl (fun hg1 => ?_) (fun hg1 => ?_)) | (refine CJ_cond rfl (fun hg1 => ?_) (fun hg1 => ?_))
 ·
  refine sR <| oM rfl rfl <| oA rfl rfl <| nT <| CJ_ret <| QJ_then_ret <| QJ_end (res1 Tryz.results99 rfl) <| CSpec.close () ?_ ?_ eR
  · simp only [*]; rfl
  · trivial
 ·
  refine kT <| sR <| oA rfl rfl <| nT <| CJ_ret <| QJ_end (res1 Tryz.results99 rfl) <| CSpec.close () ?_ ?_ eR
  · simp only [*]; rfl
  · trivial
theorem c_powered {W : World} {b : Nat} {s : ArrS} {d a : Int} :
    CSpec Tryz.prog W 53 [ptr b 0, .agg #[.int .i64 d, .int .i64 a]] [Arr b s] (fun _ : Unit => .int .i64 (cPow s)) (fun _ => True) (fun _ F => Arr b s :: F) := by
 refine CSpec.of_body Tryz.func53 rfl Tryz.ntmps53 rfl fun F => ?_
 show CJ _ _ _ _ _ _ (_ :: F)
 refine CJ_entX (Ent.transX (t0_ eR) Arr_open) fun ⟨dv, lv, mr, l⟩ => CJ_pur fun hX => ?_
 obtain ⟨hl, hm, hw⟩ : l.map Prod.snd = (s).drv ∧ (∀ p ∈ l, p.1.miss = p.2.miss) ∧ ArrWF (s) := hX
 show CJ _ _ _ _ _ _ (blk b 104 [Sl3.v dv, .map (some mr), Sl3.v lv, _, _, _] :: sl tyDrv (Sl3.v dv) (DL.hs l) :: DOwn l :: sl tyRec (Sl3.v lv) _ :: mpc mBad mr _ :: _)
 have hn := hs_len hl
 have hwF := hw.fuse
 have hwL := hw.len
 have hwC := hw.cnt
 refine sR <| oO <| O_box rfl rfl rfl fun b1 => oA rfl rfl <| nT <| sR <| oM rfl rfl <| oP (P_nilCheck rfl) rfl <| oP (P_fieldAddr rfl ⟨_, _, _, Tryz.runUnderlying104, rfl, rfl, Tryz.sizeOf4, rfl⟩) rfl <| oV (V_load rfl foc1 rfl Tryz.isAgg4) rfl <| oO <| O_call (c_fault) rfl Tryz.call99 Dels.nil rfl fun _ hc2 => oA rfl rfl <| nT <| CJ_ret <| QJ_end (res1 Tryz.results53 rfl) <| CSpec.close () ?_ ?_ (Ent.trans (Ent.trans (t1_ (t1_ (t1_ (t1_ (t1_ eR))))) (Arr_close hl hm hw)) (t0_ (eD eR)))
 · rfl
 · trivial
theorem c_located {W : World} {b : Nat} {s : ArrS} {d a : Int} :
    CSpec Tryz.prog W 54 [ptr b 0, .agg #[.int .i64 d, .int .i64 a]] [Arr b s] (fun _ : Unit => .int .i64 (cLoc s d)) (fun _ => True) (fun _ F => Arr b s :: F) := by
 refine CSpec.of_body Tryz.func54 rfl Tryz.ntmps54 rfl fun F => ?_
 show CJ _ _ _ _ _ _ (_ :: F)
 refine CJ_entX (Ent.transX (t0_ eR) Arr_open) fun ⟨dv, lv, mr, l⟩ => CJ_pur fun hX => ?_
 obtain ⟨hl, hm, hw⟩ : l.map Prod.snd = (s).drv ∧ (∀ p ∈ l, p.1.miss = p.2.miss) ∧ ArrWF (s) := hX
 show CJ _ _ _ _ _ _ (blk b 104 [Sl3.v dv, .map (some mr), Sl3.v lv, _, _, _] :: sl tyDrv (Sl3.v dv) (DL.hs l) :: DOwn l :: sl tyRec (Sl3.v lv) _ :: mpc mBad mr _ :: _)
 have hn := hs_len hl
 have hwF := hw.fuse
 have hwL := hw.len
 have hwC := hw.cnt
 refine sR <| oO <| O_box rfl rfl rfl fun b1 => oA rfl rfl <| nT <| CJ_seq <| AJ_startH 8192 (by kernel_rfl) rfl <| aN 0 1 rfl rfl (P_fieldAddr rfl ⟨_, _, _, Tryz.runUnderlying96, rfl, rfl, Tryz.sizeOf3, rfl⟩) rfl <| aV 1 3 rfl rfl (GY_none rfl) (t0_ (t0_ (t0_ (t0_ (t0_ (t0_ eR)))))) (V_load rfl foc0 rfl Tryz.isAgg3) rfl <| aN 2 7 rfl rfl (P_lss rfl rfl) rfl <| aN 3 15 rfl rfl (P_move rfl) rfl ?_
 first | (refine AJ_splitD 8 rfl (fun hg1B hg1 => ?_) (fun hg1B hg1 => ?_)) | (refine AJ_splitN 8 rfl (fun hg1B hg1 => ?_) (fun hg1B hg1 => ?_)) | (refine AJ_split 8 rfl (fun hg1B => ?_) (fun hg1B => ?_))
 ·
  refine aS 4 31 rfl rfl (GY_no rfl rfl rfl hg1B) rfl <| aS 5 63 rfl rfl (GY_no rfl rfl rfl hg1B) rfl <| aS 6 127 rfl rfl (GY_no rfl rfl rfl hg1B) rfl <| aS 7 255 rfl rfl (GY_no rfl rfl rfl hg1B) rfl <| aS 8 511 rfl rfl (GY_no rfl rfl rfl hg1B) rfl <| aS 9 1023 rfl rfl (GY_no rfl rfl rfl hg1B) rfl <| aS 10 2047 rfl rfl (GY_no rfl rfl rfl hg1B) rfl <| aS 11 4095 rfl rfl (GY_no rfl rfl rfl hg1B) rfl <| aN 12 8191 rfl rfl (P_pickT rfl hg1B rfl) rfl <| AJ_op 13 16383 rfl (by kernel_rfl) rfl (GY_none rfl) <| O_call (c_fault) rfl Tryz.call99 Dels.nil rfl fun _ hc2 => ⟨fun h => absurd h (by decide), ?_⟩
  refine aN 14 32767 rfl rfl (P_assign rfl) rfl <| aD <| CJ_ret <| QJ_end (res1 Tryz.results54 rfl) <| CSpec.close () ?_ ?_ (Ent.trans (Ent.trans (t1_ (t1_ (t1_ (t1_ (t1_ eR))))) (Arr_close hl hm hw)) (t0_ (eD eR)))
  · refine iv ?_; unfold cLoc inR; split <;> simp_all <;> omega
  · trivial
 ·
  refine aP 4 31 rfl rfl (GY_yes rfl rfl rfl hg1B) (P_fieldAddr rfl ⟨_, _, _, Tryz.runUnderlying96, rfl, rfl, Tryz.sizeOf3, rfl⟩) rfl <| aV 5 63 rfl rfl (GY_yes rfl rfl rfl hg1B) (t0_ (t0_ (t0_ (t0_ (t0_ (t0_ eR)))))) (V_load rfl foc0 rfl Tryz.isAgg3) rfl <| aP 6 127 rfl rfl (GY_yes rfl rfl rfl hg1B) (P_move rfl) rfl <| aP 7 255 rfl rfl (GY_yes rfl rfl rfl hg1B) (P_nilCheck rfl) rfl <| aP 8 511 rfl rfl (GY_yes rfl rfl rfl hg1B) (P_fieldAddr rfl ⟨_, _, _, Tryz.runUnderlying104, rfl, rfl, Tryz.sizeOf100, rfl⟩) rfl <| aV 9 1023 rfl rfl (GY_yes rfl rfl rfl hg1B) (t0_ (t0_ (t0_ (t0_ (t0_ (t0_ eR)))))) (V_load rfl foc1 rfl Tryz.isAgg100) rfl <| aV 10 2047 rfl rfl (GY_yes rfl rfl rfl hg1B) (t0_ (t0_ (t0_ (t0_ (t0_ (t0_ eR)))))) (V_len rfl foc2 (Reads.sl _ _ _) Tryz.runUnderlying100) rfl <| aP 11 4095 rfl rfl (GY_yes rfl rfl rfl hg1B) (P_geq rfl rfl) rfl <| aN 12 8191 rfl rfl (P_pickF rfl hg1B rfl) rfl <| AJ_op 13 16383 rfl (by kernel_rfl) rfl (GY_none rfl) <| O_call (c_fault) rfl Tryz.call99 Dels.nil rfl fun _ hc3 => ⟨fun h => absurd h (by decide), ?_⟩
  refine aN 14 32767 rfl rfl (P_assign rfl) rfl <| aD <| CJ_ret <| QJ_end (res1 Tryz.results54 rfl) <| CSpec.close () ?_ ?_ (Ent.trans (Ent.trans (t1_ (t1_ (t1_ (t1_ (t1_ eR))))) (Arr_close hl hm hw)) (t0_ (eD eR)))
  · refine iv ?_; unfold cLoc inR; split <;> simp_all <;> omega
  · trivial
theorem c_SizeD {W : World} {b : Nat} {s : ArrS} {d : Int} :
    CSpec Tryz.prog W 64 [ptr b 0, .int .i64 d] [Arr b s] (fun _ : Unit => .int .i64 (sizeI s d)) (fun _ => True) (fun _ F => Arr b s :: F) := by
 refine CSpec.of_body Tryz.func64 rfl Tryz.ntmps64 rfl fun F => ?_
 show CJ _ _ _ _ _ _ (_ :: F)
 refine CJ_entX (Ent.transX (t0_ eR) Arr_open) fun ⟨dv, lv, mr, l⟩ => CJ_pur fun hX => ?_
 obtain ⟨hl, hm, hw⟩ : l.map Prod.snd = (s).drv ∧ (∀ p ∈ l, p.1.miss = p.2.miss) ∧ ArrWF (s) := hX
 show CJ _ _ _ _ _ _ (blk b 104 [Sl3.v dv, .map (some mr), Sl3.v lv, _, _, _] :: sl tyDrv (Sl3.v dv) (DL.hs l) :: DOwn l :: sl tyRec (Sl3.v lv) _ :: mpc mBad mr _ :: _)
 have hn := hs_len hl
 have hwF := hw.fuse
 have hwL := hw.len
 have hwC := hw.cnt
 refine sR <| oA rfl rfl <| nT <| CJ_seq <| sR <| oM rfl rfl <| oP (P_lss rfl rfl) rfl <| oM rfl rfl ?_
 first | (refine RJ_splitD 7 rfl (fun hg1B hg1 => ?_) (fun hg1B hg1 => ?_)) | (refine RJ_splitN 7 rfl (fun hg1B hg1 => ?_) (fun hg1B hg1 => ?_)) | (refine RJ_split 7 rfl (fun hg1B => ?_) (fun hg1B => ?_))
 ·
  refine RJ_gn (GY_no rfl rfl rfl hg1B) rfl rfl <| RJ_gn (GY_no rfl rfl rfl hg1B) rfl rfl <| RJ_gn (GY_no rfl rfl rfl hg1B) rfl rfl <| RJ_gn (GY_no rfl rfl rfl hg1B) rfl rfl <| RJ_gn (GY_no rfl rfl rfl hg1B) rfl rfl <| RJ_gn (GY_no rfl rfl rfl hg1B) rfl rfl <| RJ_gn (GY_no rfl rfl rfl hg1B) rfl rfl <| oP (P_pickT rfl hg1B rfl) rfl <| nT <| CJ_condT rfl rfl <| sR <| oA rfl rfl <| nT <| CJ_ret <| QJ_then_ret <| QJ_end (res1 Tryz.results64 rfl) <| CSpec.close () ?_ ?_ (Ent.trans (Ent.trans (t0_ (t0_ (t0_ (t0_ (t0_ eR))))) (Arr_close hl hm hw)) (t0_ eR))
  · first | (have hR : inR s d := ⟨by omega, by omega⟩; exact iv (if_pos hR).symm) | exact iv (if_neg (fun h : inR s d => by unfold inR at h; omega)).symm
  · trivial
 ·
  refine gP (GY_yes rfl rfl rfl hg1B) (P_move rfl) rfl <| gP (GY_yes rfl rfl rfl hg1B) (P_move rfl) rfl <| gP (GY_yes rfl rfl rfl hg1B) (P_nilCheck rfl) rfl <| gP (GY_yes rfl rfl rfl hg1B) (P_fieldAddr rfl ⟨_, _, _, Tryz.runUnderlying104, rfl, rfl, Tryz.sizeOf100, rfl⟩) rfl <| gV (GY_yes rfl rfl rfl hg1B) (V_load rfl foc0 rfl Tryz.isAgg100) rfl <| gV (GY_yes rfl rfl rfl hg1B) (V_len rfl foc1 (Reads.sl _ _ _) Tryz.runUnderlying100) rfl <| gP (GY_yes rfl rfl rfl hg1B) (P_geq rfl rfl) rfl <| oP (P_pickF rfl hg1B rfl) rfl <| nT ?_
  first | (refine CJ_condD rfl (fun hg2 => ?_) (fun hg2 => ?_)) | (refine CJ_condN rfl (fun hg2 => ?_) (fun hg2 => ?_)) | (refine CJ_cond rfl (fun hg2 => ?_) (fun hg2 => ?_))
  ·
   refine sR <| oA rfl rfl <| nT <| CJ_ret <| QJ_then_ret <| QJ_end (res1 Tryz.results64 rfl) <| CSpec.close () ?_ ?_ (Ent.trans (Ent.trans (t0_ (t0_ (t0_ (t0_ (t0_ eR))))) (Arr_close hl hm hw)) (t0_ eR))
   · first | (have hR : inR s d := ⟨by omega, by omega⟩; exact iv (if_pos hR).symm) | exact iv (if_neg (fun h : inR s d => by unfold inR at h; omega)).symm
   · trivial
  ·
   refine kT <| CJ_seq <| CJ_ent (Ent.trans (t2_ eR) (DOwn_open d.toNat hl (by omega))) <| CJ_region <| oM rfl rfl <| oP (P_nilCheck rfl) rfl <| oP (P_fieldAddr rfl ⟨_, _, _, Tryz.runUnderlying104, rfl, rfl, Tryz.sizeOf100, rfl⟩) rfl <| oV (V_load rfl foc3 rfl Tryz.isAgg100) rfl <| oM rfl rfl <| oV (V_index rfl rfl (Int.toNat_of_nonneg (by omega)).symm (by omega) foc4 (Reads.sl _ _ _) Tryz.runUnderlying100 Tryz.sizeOf99) rfl <| oP (P_fieldE rfl ⟨_, _, _, Tryz.runUnderlying99, rfl, rfl, Tryz.sizeOf43, rfl⟩) rfl <| oV (V_loadE rfl rfl (by omega) foc4 (Reads.sl _ _ _) rfl rfl Tryz.isAgg43) rfl <| oV (V_len rfl foc0 (Reads.sl _ _ _) Tryz.runUnderlying43) rfl <| oA rfl rfl <| nT <| CJ_ret <| QJ_end (res1 Tryz.results64 rfl) <| CSpec.close () ?_ ?_ (Ent.trans (Ent.trans (t0_ (t0_ (t0_ eR))) (DOwn_back hl (by omega))) (Ent.trans (Ent.trans (t1_ (t1_ (t0_ (t0_ (t0_ eR))))) (Arr_close hl hm hw)) (t0_ eR)))
   · first | (have hR : inR s d := ⟨by omega, by omega⟩; exact iv (if_pos hR).symm) | exact iv (if_neg (fun h : inR s d => by unfold inR at h; omega)).symm
   · trivial
theorem c_placed {W : World} {b : Nat} {s : ArrS} {d a : Int} :
    CSpec Tryz.prog W 55 [ptr b 0, .agg #[.int .i64 d, .int .i64 a]] [Arr b s] (fun _ : Unit => .int .i64 (cPla s d a)) (fun _ => True) (fun _ F => Arr b s :: F) := by
 refine CSpec.of_body Tryz.func55 rfl Tryz.ntmps55 rfl fun F => ?_
 show CJ _ _ _ _ _ _ (_ :: F)
 refine sR <| oO <| O_box rfl rfl rfl fun b1 => oA rfl rfl <| nT <| CJ_seq <| AJ_startH 4096 (by kernel_rfl) rfl <| aN 0 1 rfl rfl (P_fieldAddr rfl ⟨_, _, _, Tryz.runUnderlying96, rfl, rfl, Tryz.sizeOf3, rfl⟩) rfl <| aV 1 3 rfl rfl (GY_none rfl) (t0_ (t0_ eR)) (V_load rfl foc0 rfl Tryz.isAgg3) rfl <| aN 2 7 rfl rfl (P_lss rfl rfl) rfl <| aN 3 15 rfl rfl (P_move rfl) rfl ?_
 first | (refine AJ_splitD 8 rfl (fun hg1B hg1 => ?_) (fun hg1B hg1 => ?_)) | (refine AJ_splitN 8 rfl (fun hg1B hg1 => ?_) (fun hg1B hg1 => ?_)) | (refine AJ_split 8 rfl (fun hg1B => ?_) (fun hg1B => ?_))
 ·
  refine aS 4 31 rfl rfl (GY_no rfl rfl rfl hg1B) rfl <| aS 5 63 rfl rfl (GY_no rfl rfl rfl hg1B) rfl <| aS 6 127 rfl rfl (GY_no rfl rfl rfl hg1B) rfl <| aS 7 255 rfl rfl (GY_no rfl rfl rfl hg1B) rfl <| aS 8 511 rfl rfl (GY_no rfl rfl rfl hg1B) rfl <| aS 9 1023 rfl rfl (GY_no rfl rfl rfl hg1B) rfl <| aS 10 2047 rfl rfl (GY_no rfl rfl rfl hg1B) rfl <| aN 11 4095 rfl rfl (P_pickT rfl hg1B rfl) rfl <| AJ_op 12 8191 rfl (by kernel_rfl) rfl (GY_none rfl) <| O_call (c_fault) rfl Tryz.call99 Dels.nil rfl fun _ hc2 => ⟨fun h => absurd h (by decide), ?_⟩
  refine aN 13 16383 rfl rfl (P_assign rfl) rfl <| aD <| CJ_ret <| QJ_end (res1 Tryz.results55 rfl) <| CSpec.close () ?_ ?_ (t1_ (eD eR))
  · refine iv ?_; unfold cPla; split <;> simp_all <;> omega
  · trivial
 ·
  refine aP 4 31 rfl rfl (GY_yes rfl rfl rfl hg1B) (P_fieldAddr rfl ⟨_, _, _, Tryz.runUnderlying96, rfl, rfl, Tryz.sizeOf3, rfl⟩) rfl <| aV 5 63 rfl rfl (GY_yes rfl rfl rfl hg1B) (t0_ (t0_ eR)) (V_load rfl foc0 rfl Tryz.isAgg3) rfl <| aP 6 127 rfl rfl (GY_yes rfl rfl rfl hg1B) (P_move rfl) rfl <| aP 7 255 rfl rfl (GY_yes rfl rfl rfl hg1B) (P_fieldAddr rfl ⟨_, _, _, Tryz.runUnderlying96, rfl, rfl, Tryz.sizeOf3, rfl⟩) rfl <| aV 8 511 rfl rfl (GY_yes rfl rfl rfl hg1B) (t0_ (t0_ eR)) (V_load rfl foc0 rfl Tryz.isAgg3) rfl <| AJ_op 9 1023 rfl (by kernel_rfl) rfl (GY_yes rfl rfl rfl hg1B) <| O_call (c_SizeD) rfl Tryz.call64 (Dels.cons del1 Dels.nil) rfl fun _ hc3 => ⟨fun _ => (t1_ (t0_ eR)), ?_⟩
  refine aP 10 2047 rfl rfl (GY_yes rfl rfl rfl hg1B) (P_geq rfl rfl) rfl <| aN 11 4095 rfl rfl (P_pickF rfl hg1B rfl) rfl <| AJ_op 12 8191 rfl (by kernel_rfl) rfl (GY_none rfl) <| O_call (c_fault) rfl Tryz.call99 Dels.nil rfl fun _ hc4 => ⟨fun h => absurd h (by decide), ?_⟩
  refine aN 13 16383 rfl rfl (P_assign rfl) rfl <| aD <| CJ_ret <| QJ_end (res1 Tryz.results55 rfl) <| CSpec.close () ?_ ?_ (t0_ (eD eR))
  · refine iv ?_; unfold cPla; split <;> simp_all <;> omega
  · trivial
theorem c_present {W : World} {b : Nat} {s : ArrS} {d a : Int} (hR : inR s d) :
    CSpec Tryz.prog W 56 [ptr b 0, .agg #[.int .i64 d, .int .i64 a]] [Arr b s] (fun _ : Unit => .int .i64 (cPre s d)) (fun _ => True) (fun _ F => Arr b s :: F) := by
 obtain ⟨hR1, hR2⟩ := id hR
 refine CSpec.of_body Tryz.func56 rfl Tryz.ntmps56 rfl fun F => ?_
 show CJ _ _ _ _ _ _ (_ :: F)
 refine CJ_entX (Ent.transX (t0_ eR) Arr_open) fun ⟨dv, lv, mr, l⟩ => CJ_pur fun hX => ?_
 obtain ⟨hl, hm, hw⟩ : l.map Prod.snd = (s).drv ∧ (∀ p ∈ l, p.1.miss = p.2.miss) ∧ ArrWF (s) := hX
 show CJ _ _ _ _ _ _ (blk b 104 [Sl3.v dv, .map (some mr), Sl3.v lv, _, _, _] :: sl tyDrv (Sl3.v dv) (DL.hs l) :: DOwn l :: sl tyRec (Sl3.v lv) _ :: mpc mBad mr _ :: _)
 have hn := hs_len hl
 have hwF := hw.fuse
 have hwL := hw.len
 have hwC := hw.cnt
 refine sR <| oO <| O_box rfl rfl rfl fun b1 => oA rfl rfl <| nT <| CJ_seq <| AJ_startH 512 (by kernel_rfl) rfl <| aN 0 1 rfl rfl (P_move rfl) rfl <| aN 1 3 rfl rfl (P_nilCheck rfl) rfl <| aN 2 7 rfl rfl (P_fieldAddr rfl ⟨_, _, _, Tryz.runUnderlying104, rfl, rfl, Tryz.sizeOf100, rfl⟩) rfl <| aV 3 15 rfl rfl (GY_none rfl) (t0_ (t0_ (t0_ (t0_ (t0_ (t0_ eR)))))) (V_load rfl foc1 rfl Tryz.isAgg100) rfl <| aN 4 31 rfl rfl (P_fieldAddr rfl ⟨_, _, _, Tryz.runUnderlying96, rfl, rfl, Tryz.sizeOf3, rfl⟩) rfl <| aV 5 63 rfl rfl (GY_none rfl) (t0_ (t0_ (t0_ (t0_ (t0_ (t0_ eR)))))) (V_load rfl foc0 rfl Tryz.isAgg3) rfl ?_
 first | (refine AJ_takeV 6 127 rfl (by kernel_rfl) rfl (by kernel_rfl) (by kernel_rfl) (GY_none rfl) (t0_ (t0_ (t0_ (t0_ (t0_ (t0_ eR)))))) (V_index rfl rfl rfl (by omega) foc2 (Reads.sl _ _ _) Tryz.runUnderlying100 Tryz.sizeOf99) rfl (fun _ _ _ _ h => h) ?_) | (refine AJ_takeV 6 127 rfl (by kernel_rfl) rfl (by kernel_rfl) (by kernel_rfl) (GY_none rfl) (t0_ (t0_ (t0_ (t0_ (t0_ (t0_ eR)))))) (V_index rfl rfl (Int.toNat_of_nonneg (by omega)).symm (by omega) foc2 (Reads.sl _ _ _) Tryz.runUnderlying100 Tryz.sizeOf99) rfl (fun _ _ _ _ h => h) ?_)
 refine aN 7 255 rfl rfl (P_fieldE rfl ⟨_, _, _, Tryz.runUnderlying99, rfl, rfl, Tryz.sizeOf4, rfl⟩) rfl <| aV 8 511 rfl rfl (GY_none rfl) (t0_ (t0_ (t0_ (t0_ (t0_ (t0_ eR)))))) (V_loadE rfl rfl (by omega) foc2 (Reads.sl _ _ _) rfl rfl Tryz.isAgg4) rfl <| AJ_op 9 1023 rfl (by kernel_rfl) rfl (GY_none rfl) <| O_call (c_fault) rfl Tryz.call99 Dels.nil rfl fun _ hc2 => ⟨fun h => absurd h (by decide), ?_⟩
 refine aN 10 2047 rfl rfl (P_assign rfl) rfl <| aD <| CJ_ret <| QJ_end (res1 Tryz.results56 rfl) <| CSpec.close () ?_ ?_ (Ent.trans (Ent.trans (t1_ (t1_ (t1_ (t1_ (t1_ eR))))) (Arr_close hl hm hw)) (t0_ (eD eR)))
 · have h1 := hR.1; have h2 := hR.2; rw [show cPre s d = if ((DL.hs l).getD d.toNat dH0).miss = true then 6 else 0 by rw [miss_at hl hm (by omega)]; rfl]
 · trivial
theorem c_whole {W : World} {b : Nat} {s : ArrS} {d a : Int} :
    CSpec Tryz.prog W 57 [ptr b 0, .agg #[.int .i64 d, .int .i64 a]] [Arr b s] (fun _ : Unit => .int .i64 (cWho s d a)) (fun _ => True) (fun _ F => Arr b s :: F) := by
 refine CSpec.of_body Tryz.func57 rfl Tryz.ntmps57 rfl fun F => ?_
 show CJ _ _ _ _ _ _ (_ :: F)
 refine CJ_entX (Ent.transX (t0_ eR) Arr_open) fun ⟨dv, lv, mr, l⟩ => CJ_pur fun hX => ?_
 obtain ⟨hl, hm, hw⟩ : l.map Prod.snd = (s).drv ∧ (∀ p ∈ l, p.1.miss = p.2.miss) ∧ ArrWF (s) := hX
 show CJ _ _ _ _ _ _ (blk b 104 [Sl3.v dv, .map (some mr), Sl3.v lv, _, _, _] :: sl tyDrv (Sl3.v dv) (DL.hs l) :: DOwn l :: sl tyRec (Sl3.v lv) _ :: mpc mBad mr _ :: _)
 have hn := hs_len hl
 have hwF := hw.fuse
 have hwL := hw.len
 have hwC := hw.cnt
 refine sR <| oO <| O_box rfl rfl rfl fun b1 => oA rfl rfl <| nT <| CJ_seq <| AJ_startH 64 (by kernel_rfl) rfl <| aN 0 1 rfl rfl (P_move rfl) rfl <| aN 1 3 rfl rfl (P_nilCheck rfl) rfl <| aN 2 7 rfl rfl (P_fieldAddr rfl ⟨_, _, _, Tryz.runUnderlying104, rfl, rfl, Tryz.sizeOf101, rfl⟩) rfl <| aV 3 15 rfl rfl (GY_none rfl) (t0_ (t0_ (t0_ (t0_ (t0_ (t0_ eR)))))) (V_load rfl foc1 rfl Tryz.isAgg101) rfl <| aV 4 31 rfl rfl (GY_none rfl) (t0_ (t0_ (t0_ (t0_ (t0_ (t0_ eR)))))) (V_loadN rfl foc0 Tryz.isAgg96 Tryz.sizeOf96 rfl rfl) rfl <| aV 5 63 rfl rfl (GY_none rfl) (t0_ (t0_ (t0_ (t0_ (t0_ (t0_ eR)))))) (V_lookup (M := mBad) (k := (d, a)) (out := fun o => .bool o.isSome) rfl rfl foc5 ok_mBad Tryz.zeroValue4 (fun _ => rfl) rfl) rfl <| AJ_op 6 127 rfl (by kernel_rfl) rfl (GY_none rfl) <| O_call (c_fault) rfl Tryz.call99 Dels.nil rfl fun _ hc2 => ⟨fun h => absurd h (by decide), ?_⟩
 refine aN 7 255 rfl rfl (P_assign rfl) rfl <| aD <| CJ_ret <| QJ_end (res1 Tryz.results57 rfl) <| CSpec.close () ?_ ?_ (Ent.trans (Ent.trans (t1_ (t1_ (t1_ (t1_ (t1_ eR))))) (Arr_close hl hm hw)) (t0_ (eD eR)))
 · rfl
 · trivial
theorem c_check {W : World} {A S : HP} {v : Value} {d a : Int} (fs : List (Nat × Value)) (cs : List Int) (hA : Reads S tyFn v fs) (hlen : cs.length = fs.length) (h5 : fs.length ≤ 5)
    (hc : ∀ k, k < fs.length → (∀ j, j < k → cs.getD j 0 = 0) → Enters Tryz.prog (fs.getD k tyFn.dflt).1 ∧ CSpec Tryz.prog W (fs.getD k tyFn.dflt).1 ([(fs.getD k tyFn.dflt).2] ++ [.agg #[.int .i64 d, .int .i64 a]] ++ []) [A] (fun _ : Unit => .int .i64 (cs.getD k 0)) (fun _ => True) (fun _ F => A :: F)) :
    CSpec Tryz.prog W 52 [.agg #[.int .i64 d, .int .i64 a], v] [S, A] (fun _ : Unit => .int .i64 (fz cs)) (fun _ => True) (fun _ F => S :: A :: F) := by
 refine CSpec.of_body Tryz.func52 rfl Tryz.ntmps52 rfl fun F => ?_
 show CJ _ _ _ _ _ _ (_ :: _ :: F)
 refine sR <| oO <| O_box rfl rfl rfl fun b1 => oA rfl rfl <| nT <| CJ_seq <| sR <| oM rfl rfl <| oV (V_len rfl foc1 hA Tryz.runUnderlying153) rfl <| oM rfl rfl <| nT <| CJ_block <| CJ_loopR (X := Nat) [4, 6, 7, 10, 11, 12, 13, 14, 15, 16, 17, 18, 19, 20] (fun k  => ([(10, .int .i64 (k : Nat))] : Slots)) (fun k R => R) (fun k  => k ≤ fs.length ∧ ∀ j, j < k → cs.getD j 0 = 0) (fun k  => fs.length - k) (0) ?_ ?_ (t0_ (t0_ (t0_ eR))) ?_
 · exact ⟨Nat.zero_le _, fun j hj => by omega⟩
 · exact ⟨rfl, True.intro⟩
 ·
  intro k hpf
  obtain ⟨hk, hz⟩ := hpf
  show CJ _ _ _ _ _ (([(10, .int .i64 (k : Nat))] : Slots) ++ forget _ _) (_)
  refine sR <| oP (P_lss rfl rfl) rfl <| nT <| CJ_seq ?_
  first | (refine CJ_condD rfl (fun hg1 => ?_) (fun hg1 => ?_)) | (refine CJ_condN rfl (fun hg1 => ?_) (fun hg1 => ?_)) | (refine CJ_cond rfl (fun hg1 => ?_) (fun hg1 => ?_))
  ·
   refine kT <| CJ_seq <| CJ_block <| sR ?_
   first | (refine RJ_op rfl (OJ_V (V_index rfl rfl rfl (by omega) foc1 hA Tryz.runUnderlying153 Tryz.sizeOf97) rfl ?_)) | (refine RJ_op rfl (OJ_V (V_index rfl rfl (Int.toNat_of_nonneg (by omega)).symm (by omega) foc1 hA Tryz.runUnderlying153 Tryz.sizeOf97) rfl ?_))
   refine oV (V_loadE rfl rfl (by omega) foc1 hA rfl rfl Tryz.isAgg97) rfl <| oA rfl rfl <| nT <| sR <| oM rfl rfl <| oV (V_loadN rfl foc0 Tryz.isAgg96 Tryz.sizeOf96 rfl rfl) rfl <| oO <| O_callV (f := (fs.getD k tyFn.dflt).1) (first := [(fs.getD k tyFn.dflt).2]) (captured := []) rfl rfl (hc k (by omega) hz).2 (hc k (by omega) hz).1 (Dels.cons del2 Dels.nil) rfl fun _ _ => oA rfl rfl <| nT <| sR <| oM rfl rfl <| oP (P_neq rfl rfl) rfl <| nT ?_
   first | (refine CJ_condD rfl (fun hg2 => ?_) (fun hg2 => ?_)) | (refine CJ_condN rfl (fun hg2 => ?_) (fun hg2 => ?_)) | (refine CJ_cond rfl (fun hg2 => ?_) (fun hg2 => ?_))
   ·
    refine sR <| oM rfl rfl <| oA rfl rfl <| nT <| CJ_ret <| QJ_block_ret <| QJ_then_ret <| QJ_round_ret <| QJ_block_ret <| QJ_then_ret <| QJ_end (res1 Tryz.results52 rfl) <| CSpec.close () ?_ ?_ (t2_ (t0_ (eD eR)))
    · exact iv (fz_at cs k (by omega) hz hg2).symm
    · trivial
   ·
    refine CJ_skip <| QJ_block_normal <| QJ_then <| CJ_region <| oP (P_add rfl rfl (by omega)) rfl <| oM rfl rfl <| RJ_nil <| QJ_nextR (k + 1) (by first | omega | (simp only []; omega)) ?_ (by repeat (first | exact Kp.base | exact Kp.self | refine Kp.cons rfl ?_ | refine Kp.forget rfl ?_)) ?_ (t1_ (t1_ (t0_ eR)))
    ·
     refine ⟨by omega, fun j hj => ?_⟩
     rcases Nat.lt_or_ge j k with h | h
     · exact hz j h
     · obtain rfl : j = k := by omega
       exact Decidable.not_not.1 hg2
    · exact ⟨rfl, True.intro⟩
  ·
   refine CJ_exit <| QJ_then_exit <| QJ_round_exit <| QJ_block_here <| QJ_then <| sR <| oA rfl rfl <| nT <| CJ_ret <| QJ_end (res1 Tryz.results52 rfl) <| CSpec.close () ?_ ?_ (t1_ (t1_ (eD eR)))
   ·
    obtain rfl : k = fs.length := by omega
    exact iv (fz_all cs (fun j hj => hz j (by omega))).symm
   · trivial
end Go.Proofs
set_option linter.unusedSimpArgs false
set_option maxRecDepth 20000
namespace Go.Proofs
open Go.VG
theorem bld_96_0_1 (v0 : Int) (v1 : Int) : ∀ w, (Instr.build 96 (#[(0, .int .i64 v0), (1, .int .i64 v1)] : Array (Nat × Value))).run Tryz.prog w = .ok (.agg #[.int .i64 v0, .int .i64 v1]) w := fun w => by kernel_rfl
theorem bs_153_5_0_1_2_3_4 (v0 : Fn) (v1 : (Array Value)) (v2 : (Array Value)) (v3 : Fn) (v4 : (Array Value)) (v5 : (Array Value)) (v6 : Fn) (v7 : (Array Value)) (v8 : (Array Value)) (v9 : Fn) (v10 : (Array Value)) (v11 : (Array Value)) (v12 : Fn) (v13 : (Array Value)) (v14 : (Array Value)) : BuildsSlice Tryz.prog 153 5 [(0, .func v0 v1 v2), (1, .func v3 v4 v5), (2, .func v6 v7 v8), (3, .func v9 v10 v11), (4, .func v12 v13 v14)] 97 [.func v0 v1 v2, .func v3 v4 v5, .func v6 v7 v8, .func v9 v10 v11, .func v12 v13 v14] := fun w => by kernel_rfl
theorem bs_153_4_0_1_2_3 (v0 : Fn) (v1 : (Array Value)) (v2 : (Array Value)) (v3 : Fn) (v4 : (Array Value)) (v5 : (Array Value)) (v6 : Fn) (v7 : (Array Value)) (v8 : (Array Value)) (v9 : Fn) (v10 : (Array Value)) (v11 : (Array Value)) : BuildsSlice Tryz.prog 153 4 [(0, .func v0 v1 v2), (1, .func v3 v4 v5), (2, .func v6 v7 v8), (3, .func v9 v10 v11)] 97 [.func v0 v1 v2, .func v3 v4 v5, .func v6 v7 v8, .func v9 v10 v11] := fun w => by kernel_rfl
theorem bld_143_0_1 (v0 : Int) (v1 : Int) (v2 : Int) : ∀ w, (Instr.build 143 (#[(0, .agg #[.int .i64 v0, .int .i64 v1]), (1, .int .u64 v2)] : Array (Nat × Value))).run Tryz.prog w = .ok (.agg #[.int .i64 v0, .int .i64 v1, .int .u64 v2]) w := fun w => by kernel_rfl
theorem bs_102_1_0 (v0 : Int) (v1 : Int) (v2 : Int) : BuildsSlice Tryz.prog 102 1 [(0, .agg #[.int .i64 v0, .int .i64 v1, .int .u64 v2])] 143 [.int .i64 v0, .int .i64 v1, .int .u64 v2] := fun w => by kernel_rfl
theorem bld_104_1 (v0 : (Option Nat)) : ∀ w, (Instr.build 104 (#[(1, .map v0)] : Array (Nat × Value))).run Tryz.prog w = .ok (.agg #[.slice none 0 0, .map v0, .slice none 0 0, .int .i64 0, .bool false, .int .i64 0]) w := fun w => by kernel_rfl
theorem bld_99_0_1 (v0 : (Option Addr)) (v1 : Nat) (v2 : Nat) (v3 : (Option Addr)) (v4 : Nat) (v5 : Nat) : ∀ w, (Instr.build 99 (#[(0, .slice v0 v1 v2), (1, .slice v3 v4 v5)] : Array (Nat × Value))).run Tryz.prog w = .ok (.agg #[.slice v0 v1 v2, .slice v3 v4 v5, .bool false]) w := fun w => by kernel_rfl
theorem bs_100_1_0 (v0 : (Option Addr)) (v1 : Nat) (v2 : Nat) (v3 : (Option Addr)) (v4 : Nat) (v5 : Nat) (v6 : Bool) : BuildsSlice Tryz.prog 100 1 [(0, .agg #[.slice v0 v1 v2, .slice v3 v4 v5, .bool v6])] 99 [.slice v0 v1 v2, .slice v3 v4 v5, .bool v6] := fun w => by kernel_rfl
theorem bld_96_0 (v0 : Int) : ∀ w, (Instr.build 96 (#[(0, .int .i64 v0)] : Array (Nat × Value))).run Tryz.prog w = .ok (.agg #[.int .i64 v0, .int .i64 0]) w := fun w => by kernel_rfl
theorem bs_153_3_0_1_2 (v0 : Fn) (v1 : (Array Value)) (v2 : (Array Value)) (v3 : Fn) (v4 : (Array Value)) (v5 : (Array Value)) (v6 : Fn) (v7 : (Array Value)) (v8 : (Array Value)) : BuildsSlice Tryz.prog 153 3 [(0, .func v0 v1 v2), (1, .func v3 v4 v5), (2, .func v6 v7 v8)] 97 [.func v0 v1 v2, .func v3 v4 v5, .func v6 v7 v8] := fun w => by kernel_rfl
theorem inR_of {s : ArrS} {d : Int} (h : cLoc s d = 0) : inR s d := by
  unfold cLoc at h; split at h
  · assumption
  · omega
def wrC (s : ArrS) (d a : Int) : Int := fz [cPow s, cLoc s d, cPla s d a, cPre s d]
def rdC (s : ArrS) (d a : Int) : Int := fz [cPow s, cLoc s d, cPla s d a, cPre s d, cWho s d a]
def flC (s : ArrS) (d : Int) : Int := fz [cPow s, cLoc s d, cPre s d]
theorem fz_cons {c : Int} {r : List Int} : fz (c :: r) = 0 ↔ c = 0 ∧ fz r = 0 := by
  show (if c = 0 then fz r else c) = 0 ↔ _
  split
  · rename_i h; simp [h]
  · rename_i h; simp [h]
theorem pow_of {s : ArrS} (h : cPow s = 0) : s.down = false := by unfold cPow at h; cases hd : s.down <;> simp_all
theorem pla_of {s : ArrS} {d a : Int} (h : cPla s d a = 0) : 0 ≤ a ∧ a < sizeI s d := by
  unfold cPla at h; split at h
  · assumption
  · omega
theorem locpla {s : ArrS} {d a : Int} (h1 : cLoc s d = 0) (h2 : cPla s d a = 0) : ∃ i k : Nat, d = i ∧ a = k ∧ i < s.drv.length ∧ k < (s.drv.getD i d0).now.length := by
  obtain ⟨h3, h4⟩ := inR_of h1
  obtain ⟨h5, h6⟩ := pla_of h2
  obtain ⟨i, rfl⟩ := Int.eq_ofNat_of_zero_le h3
  obtain ⟨k, rfl⟩ := Int.eq_ofNat_of_zero_le h5
  refine ⟨i, k, rfl, rfl, by omega, ?_⟩
  rw [sizeI, if_pos ⟨h3, h4⟩] at h6
  have : (k : Int) < ((s.drv.getD i d0).now.length : Int) := h6
  omega
theorem wr_ok {s : ArrS} {d a : Int} (h : wrC s d a = 0) : s.down = false ∧ ∃ i k : Nat, d = i ∧ a = k ∧ i < s.drv.length ∧ k < (s.drv.getD i d0).now.length := by
  simp only [wrC, fz_cons] at h
  exact ⟨pow_of h.1, locpla h.2.1 h.2.2.1⟩
theorem rd_ok {s : ArrS} {d a : Int} (h : rdC s d a = 0) : s.down = false ∧ ∃ i k : Nat, d = i ∧ a = k ∧ i < s.drv.length ∧ k < (s.drv.getD i d0).now.length := by
  simp only [rdC, fz_cons] at h
  exact ⟨pow_of h.1, locpla h.2.1 h.2.2.1⟩
section
variable {W : World} {S : HP} {v : Value} {b : Nat} {s : ArrS} {d a : Int}
theorem c_chk5 (hA : Reads S tyFn v [(53, ptr b 0), (54, ptr b 0), (55, ptr b 0), (56, ptr b 0), (57, ptr b 0)]) :
    CSpec Tryz.prog W 52 [.agg #[.int .i64 d, .int .i64 a], v] [S, Arr b s] (fun _ : Unit => .int .i64 (rdC s d a)) (fun _ => True) (fun _ F => S :: Arr b s :: F) :=
  c_check _ [cPow s, cLoc s d, cPla s d a, cPre s d, cWho s d a] hA rfl (by simp) (fun k hk hz => by
    match k, hk with
    | 0, _ => exact ⟨Tryz.call53, c_powered⟩
    | 1, _ => exact ⟨Tryz.call54, c_located⟩
    | 2, _ => exact ⟨Tryz.call55, c_placed⟩
    | 3, _ => exact ⟨Tryz.call56, c_present (inR_of (hz 1 (by decide)))⟩
    | 4, _ => exact ⟨Tryz.call57, c_whole⟩
    | n + 5, h => exact absurd h (by simp))
theorem c_chk4 (hA : Reads S tyFn v [(53, ptr b 0), (54, ptr b 0), (55, ptr b 0), (56, ptr b 0)]) :
    CSpec Tryz.prog W 52 [.agg #[.int .i64 d, .int .i64 a], v] [S, Arr b s] (fun _ : Unit => .int .i64 (wrC s d a)) (fun _ => True) (fun _ F => S :: Arr b s :: F) :=
  c_check _ [cPow s, cLoc s d, cPla s d a, cPre s d] hA rfl (by simp) (fun k hk hz => by
    match k, hk with
    | 0, _ => exact ⟨Tryz.call53, c_powered⟩
    | 1, _ => exact ⟨Tryz.call54, c_located⟩
    | 2, _ => exact ⟨Tryz.call55, c_placed⟩
    | 3, _ => exact ⟨Tryz.call56, c_present (inR_of (hz 1 (by decide)))⟩
    | n + 4, h => exact absurd h (by simp))
theorem c_chk3 (hA : Reads S tyFn v [(53, ptr b 0), (54, ptr b 0), (56, ptr b 0)]) :
    CSpec Tryz.prog W 52 [.agg #[.int .i64 d, .int .i64 a], v] [S, Arr b s] (fun _ : Unit => .int .i64 (flC s d)) (fun _ => True) (fun _ F => S :: Arr b s :: F) :=
  c_check _ [cPow s, cLoc s d, cPre s d] hA rfl (by simp) (fun k hk hz => by
    match k, hk with
    | 0, _ => exact ⟨Tryz.call53, c_powered⟩
    | 1, _ => exact ⟨Tryz.call54, c_located⟩
    | 2, _ => exact ⟨Tryz.call56, c_present (inR_of (hz 1 (by decide)))⟩
    | n + 3, h => exact absurd h (by simp))
end
def nowAt (s : ArrS) (d a : Int) : UInt64 := (s.drv.getD d.toNat d0).now.getD a.toNat 0
def rdV (s : ArrS) (d a : Int) : UInt64 := if rdC s d a = 0 then nowAt s d a else 0
def setNow (s : ArrS) (i k : Nat) (v : UInt64) : List Drive := s.drv.set i { s.drv.getD i d0 with now := (s.drv.getD i d0).now.set k v }
def wrS (s : ArrS) (d a : Int) (v : UInt64) : ArrS :=
  if wrC s d a ≠ 0 then s
  else if s.fuse = 1 then { s with fuse := 0, down := true }
  else { s with drv := setNow s d.toNat a.toNat v, bad := delM s.bad (d, a), log := s.log ++ [⟨d.toNat, a.toNat, v⟩], fuse := s.fuse - 1, writes := s.writes + 1 }
def wrR (s : ArrS) (d a : Int) : Int := if wrC s d a ≠ 0 then wrC s d a else if s.fuse = 1 then 5 else 0
theorem hs_set {l : DL} {i : Nat} {y : Drive} : DL.hs (l.set i ((DL.hs l).getD i dH0, y)) = DL.hs l := by
  apply List.ext_getElem?
  intro j
  simp only [DL.hs, List.getElem?_map, List.getElem?_set, List.getD]
  by_cases h : i = j
  · subst h
    by_cases h2 : i < l.length
    · simp [h2]
    · simp [h2]
  · simp [h]
theorem Arr_close1 {b r : Nat} {s s' : ArrS} {dv lv : Sl3} {l : DL} (i : Nat) (y : Drive) (hl : l.map Prod.snd = s.drv) (hm : ∀ p ∈ l, p.1.miss = p.2.miss) (hi : i < s.drv.length) (h : s'.drv = s.drv.set i y) (hy : y.miss = (s.drv.getD i d0).miss) (hw : ArrWF s') {R : List HP} :
    Ent (blk b 104 [dv.v, .map (some r), lv.v, .int .i64 (s'.fuse : Int), .bool s'.down, .int .i64 (s'.writes : Int)] :: sl tyDrv dv.v (DL.hs l) :: sl tyU ((DL.hs l).getD i dH0).now.v y.now :: sl tyU ((DL.hs l).getD i dH0).dur.v y.dur :: DRest l i :: sl tyRec lv.v s'.log :: mpc mBad r s'.bad :: R) (Arr b s' :: R) := by
  have hi' : i < l.length := by rw [← hl] at hi; simpa using hi
  refine Ent.trans (Ent.take del2 (Ent.take del2 (Ent.take del2 Ent.refl))) (Ent.trans (DOwn_close ((DL.hs l).getD i dH0, y) hi') ?_)
  refine Ent.trans (Ent.take del1 (Ent.takeC del1 (congrArg (sl tyDrv dv.v) hs_set.symm) (Ent.take del0 (Ent.take del0 (Ent.take del0 Ent.refl))))) (Arr_close ?_ ?_ hw)
  · rw [h, ← hl, List.map_set]
  · intro p hp
    rcases List.mem_or_eq_of_mem_set hp with hp | rfl
    · exact hm p hp
    · rw [miss_at hl hm hi]; exact hy.symm
theorem setNow_len {s : ArrS} {i k : Nat} {v : UInt64} : (setNow s i k v).length = s.drv.length := by simp [setNow]
theorem setNow_at {s : ArrS} {i k j : Nat} {v : UInt64} (hi : i < s.drv.length) : (setNow s i k v).getD j d0 = if j = i then { s.drv.getD i d0 with now := (s.drv.getD i d0).now.set k v } else s.drv.getD j d0 := by
  simp only [setNow, List.getD, List.getElem?_set]
  by_cases h : i = j
  · subst h; simp [hi]
  · have : ¬ j = i := fun e => h e.symm
    simp [h, this]
theorem setNow_size {s : ArrS} {i k j : Nat} {v : UInt64} (hi : i < s.drv.length) : ((setNow s i k v).getD j d0).now.length = (s.drv.getD j d0).now.length ∧ ((setNow s i k v).getD j d0).dur = (s.drv.getD j d0).dur := by
  rw [setNow_at hi]; split
  · rename_i h; subst h; simp
  · exact ⟨rfl, rfl⟩
theorem wf_wr {s : ArrS} {i k : Nat} {v : UInt64} (hw : ArrWF s) (hi : i < s.drv.length) (hk : k < (s.drv.getD i d0).now.length) (m : List ((Int × Int) × Unit)) (f : Nat) (hf : f ≤ s.fuse) :
    ArrWF { s with drv := setNow s i k v, bad := m, log := s.log ++ [⟨i, k, v⟩], fuse := f, writes := s.writes + 1 } where
  cnt := by rw [setNow_len]; exact hw.cnt
  same := fun j hj => by
    rw [setNow_len] at hj
    have := setNow_size (k := k) (j := j) (v := v) hi
    rw [this.1, this.2]; exact hw.same j hj
  log := fun j hj => by
    simp only [List.length_append, List.length_cons, List.length_nil] at hj
    have e : ∀ x, ArrS.size { s with drv := setNow s i k v, bad := m, log := s.log ++ [⟨i, k, v⟩], fuse := f, writes := s.writes + 1 } x = s.size x := fun x => (setNow_size (k := k) (j := x) (v := v) hi).1
    simp only [e, setNow_len]
    rcases Nat.lt_or_ge j s.log.length with h | h
    · rw [show (s.log ++ [(⟨i, k, v⟩ : Rec)]).getD j r0 = s.log.getD j r0 by simp [List.getD, List.getElem?_append_left h]]
      exact hw.log j h
    · obtain rfl : j = s.log.length := by omega
      rw [show (s.log ++ [(⟨i, k, v⟩ : Rec)]).getD s.log.length r0 = ⟨i, k, v⟩ by simp [List.getD]]
      exact ⟨hi, hk⟩
  len := by have := hw.len; simp only [List.length_append, List.length_cons, List.length_nil]; omega
  fuse := by have := hw.fuse; show f ≤ _; omega
theorem arrC {b T : Nat} {x0 x1 x2 x4 : Value} {f f' w w' : Int} (h1 : f = f') (h2 : w = w') : blk b T [x0, x1, x2, .int .i64 f, x4, .int .i64 w] = blk b T [x0, x1, x2, .int .i64 f', x4, .int .i64 w'] := by rw [h1, h2]
theorem DOwn_push {l : DL} (x : DrvH × Drive) {R : List HP} : Ent (sl tyU x.1.now.v x.2.now :: sl tyU x.1.dur.v x.2.dur :: DOwn l :: R) (DOwn (l ++ [x]) :: R) := by
  intro h hh
  have h1 : stars (own1 x :: DOwn l :: R) h := stars_star.2 hh
  have h3 : stars ((own1 x :: l.map own1) ++ R) h := by
    obtain ⟨g1, g2, d, e, ha, hb⟩ := h1
    exact ⟨g1, g2, d, e, ha, stars_star.1 hb⟩
  refine stars_star.2 (stars_perm (List.Perm.append_right R ?_) _ h3)
  rw [List.map_append]
  exact (List.perm_append_singleton _ _).symm
theorem DOwn_nil {R : List HP} : Ent R (DOwn [] :: R) := fun _ hh => stars_star.2 hh
def mkD (z : Int) : Drive := ⟨List.replicate z.toNat 0, List.replicate z.toNat 0, false⟩
def newS (zs : List Int) : ArrS := ⟨zs.map mkD, [], [], 0, false, 0⟩
theorem newS_wf {zs : List Int} (h8 : zs.length ≤ 8) (h : ∀ k, k < zs.length → 1 ≤ zs.getD k 0 ∧ zs.getD k 0 ≤ 65536) : ArrWF (newS zs) where
  cnt := by simp [newS]; exact h8
  same := fun i hi => by
    have hi' : i < zs.length := by simpa [newS] using hi
    have := h i hi'
    have e : (newS zs).drv.getD i d0 = mkD (zs.getD i 0) := by simp [newS, List.getD, hi']
    rw [e]; generalize zs.getD i 0 = z at this; simp [mkD]; omega
  log := fun i hi => by simp [newS] at hi
  len := by simp [newS]
  fuse := by simp [newS]
theorem Arr_new {b r : Nat} {dv : Sl3} {l : DL} {zs : List Int} (hl : l.map Prod.snd = zs.map mkD) (hm : ∀ p ∈ l, p.1.miss = p.2.miss) (hw : ArrWF (newS zs)) {R : List HP} :
    Ent (blk b 104 [dv.v, .map (some r), .slice none 0 0, .int .i64 0, .bool false, .int .i64 0] :: sl tyDrv dv.v (DL.hs l) :: DOwn l :: mpc mBad r [] :: R) (Arr b (newS zs) :: R) :=
  Ent.trans (fun h hh => sl_nil (t := tyRec) h hh) (Ent.trans (Ent.take del1 (Ent.take del1 (Ent.take del1 (Ent.take del0 (Ent.take del0 Ent.refl))))) (Arr_close (s := newS zs) (lv := ⟨none, 0, 0⟩) hl hm hw))
theorem tupRd0 {s : ArrS} {d a : Int} (h : rdC s d a ≠ 0) : Value.tuple #[.int .u64 0, .int .i64 (rdC s d a)] = .tuple #[.int .u64 ((rdV s d a).toNat : Int), .int .i64 (rdC s d a)] := by
  rw [rdV, if_neg h]; rfl
theorem tupRd {s : ArrS} {i k : Nat} (h : rdC s i k = 0) : Value.tuple #[.int .u64 (((s.drv.getD i d0).now.getD k 0).toNat : Int), .int .i64 0] = .tuple #[.int .u64 ((rdV s i k).toNat : Int), .int .i64 (rdC s i k)] := by
  rw [rdV, if_pos h, h]; rfl
theorem wrS_bad {s : ArrS} {d a : Int} {v : UInt64} (h : wrC s d a ≠ 0) : wrS s d a v = s := if_pos h
theorem wrR_bad {s : ArrS} {d a : Int} (h : wrC s d a ≠ 0) : wrR s d a = wrC s d a := if_pos h
theorem wrS_fuse {s : ArrS} {d a : Int} {v : UInt64} (h : wrC s d a = 0) (hf : s.fuse = 1) : wrS s d a v = { s with fuse := 0, down := true } := by rw [wrS, if_neg (by simp [h]), if_pos hf]
theorem wrR_fuse {s : ArrS} {d a : Int} (h : wrC s d a = 0) (hf : s.fuse = 1) : wrR s d a = 5 := by rw [wrR, if_neg (by simp [h]), if_pos hf]
theorem wrS_ok {s : ArrS} {i k : Nat} {v : UInt64} (h : wrC s i k = 0) (hf : s.fuse ≠ 1) : wrS s i k v = { s with drv := setNow s i k v, bad := delM s.bad (i, k), log := s.log ++ [⟨i, k, v⟩], fuse := s.fuse - 1, writes := s.writes + 1 } := by rw [wrS, if_neg (by simp [h]), if_neg hf]; rfl
theorem wrR_ok {s : ArrS} {d a : Int} (h : wrC s d a = 0) (hf : s.fuse ≠ 1) : wrR s d a = 0 := by rw [wrR, if_neg (by simp [h]), if_neg hf]
theorem wf_fuse {s : ArrS} (hw : ArrWF s) (f : Nat) (hf : f ≤ 9223372036854775807) (dn : Bool) : ArrWF { s with fuse := f, down := dn } :=
  { cnt := hw.cnt, same := hw.same, log := hw.log, len := hw.len, fuse := hf }
def smS (s : ArrS) (d : Int) (t : Bool) : ArrS := if inR s d then { s with drv := s.drv.set d.toNat { s.drv.getD d.toNat d0 with miss := t } } else s
theorem set_at {α : Type} {l : List α} {i j : Nat} {x y : α} (hi : i < l.length) : (l.set i x).getD j y = if j = i then x else l.getD j y := by
  simp only [List.getD, List.getElem?_set]
  by_cases h : i = j
  · subst h; simp [hi]
  · have : ¬ j = i := fun e => h e.symm
    simp [h, this]
theorem wf_drv {s : ArrS} (hw : ArrWF s) {i : Nat} (y : Drive) (hi : i < s.drv.length) (h1 : y.now.length = (s.drv.getD i d0).now.length) (h2 : y.dur.length = (s.drv.getD i d0).dur.length) : ArrWF { s with drv := s.drv.set i y } where
  cnt := by simpa using hw.cnt
  same := fun j hj => by
    simp only [List.length_set] at hj
    rw [set_at hi]; split
    · rename_i h; subst h; rw [h1, h2]; exact hw.same j hj
    · exact hw.same j hj
  log := fun j hj => by
    have := hw.log j hj
    refine ⟨by simpa using this.1, ?_⟩
    show _ < ((s.drv.set i y).getD _ d0).now.length
    rw [set_at hi]; split
    · rename_i h; rw [h1, ← h]; exact this.2
    · exact this.2
  len := hw.len
  fuse := hw.fuse
def NewOk (zs : List Int) : Prop := zs.length ≤ 8 ∧ ∀ k, k < zs.length → 1 ≤ zs.getD k 0 ∧ zs.getD k 0 ≤ 65536
theorem take_snocI1 (xs : List Int) (k : Nat) (h : k < xs.length) : xs.take (k + 1) = xs.take k ++ [xs.getD k 0] := by
  rw [List.take_succ_eq_append_getElem h]; simp [List.getD, h]
theorem hs_snoc (l : DL) (x : DrvH × Drive) : DL.hs (l ++ [x]) = DL.hs l ++ [x.1] := by simp [DL.hs]
theorem tup2p {v : Value} {k : IntKind} {a b : Int} (h : a = b) : Value.tuple #[v, .int k a] = .tuple #[v, .int k b] := by rw [h]
def flDur (now : List UInt64) (i : Nat) (log : List Rec) (du : List UInt64) : List UInt64 := log.foldl (fun du r => if r.d = i then du.set r.a (now.getD r.a 0) else du) du
theorem flDur_len (now : List UInt64) (i : Nat) : ∀ (log : List Rec) (du : List UInt64), (flDur now i log du).length = du.length
  | [], _ => rfl
  | r :: log, du => by
    show (flDur now i log _).length = _
    rw [flDur_len now i log]; dsimp only; split <;> simp
theorem takeR (log : List Rec) (k : Nat) (h : k < log.length) : log.take (k + 1) = log.take k ++ [log.getD k r0] := by
  rw [List.take_succ_eq_append_getElem h]; simp [List.getD, h]
theorem fl_t {now : List UInt64} {i k : Nat} {log : List Rec} {du : List UInt64} (hk : k < log.length) (h : (log.getD k r0).d = i) : (flDur now i (log.take k) du).set (log.getD k r0).a (now.getD (log.getD k r0).a 0) = flDur now i (log.take (k + 1)) du := by
  rw [takeR log k hk, flDur, flDur, List.foldl_append]
  show _ = if _ then _ else _
  rw [if_pos h]
theorem fl_f {now : List UInt64} {i k : Nat} {log : List Rec} {du : List UInt64} (hk : k < log.length) (h : (log.getD k r0).d ≠ i) : flDur now i (log.take k) du = flDur now i (log.take (k + 1)) du := by
  rw [takeR log k hk, flDur, flDur, List.foldl_append]
  show _ = if _ then _ else _
  rw [if_neg h]
abbrev others (i : Nat) (log : List Rec) : List Rec := log.filter (fun r => decide (r.d ≠ i))
theorem ot_t {i k : Nat} {log : List Rec} (hk : k < log.length) (h : (log.getD k r0).d = i) : others i (log.take k) = others i (log.take (k + 1)) := by
  rw [takeR log k hk]; generalize log.getD k r0 = x at h ⊢; simp [others, List.filter_append, h]
theorem ot_f {i k : Nat} {log : List Rec} (hk : k < log.length) (h : (log.getD k r0).d ≠ i) : others i (log.take k) ++ [log.getD k r0] = others i (log.take (k + 1)) := by
  rw [takeR log k hk]; generalize log.getD k r0 = x at h ⊢; simp [others, List.filter_append, h]
def flS (s : ArrS) (d : Int) : ArrS := if flC s d ≠ 0 then s else { s with drv := s.drv.set d.toNat { s.drv.getD d.toNat d0 with dur := flDur (s.drv.getD d.toNat d0).now d.toNat s.log (s.drv.getD d.toNat d0).dur }, log := others d.toNat s.log }
theorem flS_bad {s : ArrS} {d : Int} (h : flC s d ≠ 0) : flS s d = s := if_pos h
theorem flS_ok {s : ArrS} {i : Nat} (h : flC s i = 0) : flS s i = { s with drv := s.drv.set i { s.drv.getD i d0 with dur := flDur (s.drv.getD i d0).now i s.log (s.drv.getD i d0).dur }, log := others i s.log } := by rw [flS, if_neg (by simp [h])]; rfl
theorem fl_ok {s : ArrS} {d : Int} (h : flC s d = 0) : ∃ i : Nat, d = i ∧ i < s.drv.length := by
  simp only [flC, fz_cons] at h
  obtain ⟨h3, h4⟩ := inR_of h.2.1
  obtain ⟨i, rfl⟩ := Int.eq_ofNat_of_zero_le h3
  exact ⟨i, rfl, by omega⟩
theorem wf_log {s : ArrS} (hw : ArrWF s) (q : Rec → Bool) : ArrWF { s with log := s.log.filter q } where
  cnt := hw.cnt
  same := hw.same
  log := fun j hj => by
    have hm : (s.log.filter q).getD j r0 ∈ s.log := by
      have h1 : (s.log.filter q).getD j r0 = (s.log.filter q)[j] := by rw [List.getD, List.getElem?_eq_getElem hj]; rfl
      rw [h1]; exact (List.mem_filter.1 (List.getElem_mem hj)).1
    obtain ⟨n, hn, he⟩ := List.getElem_of_mem hm
    have := hw.log n hn
    have h2 : s.log.getD n r0 = s.log[n] := by rw [List.getD, List.getElem?_eq_getElem hn]; rfl
    rw [h2, he] at this
    exact this
  len := Nat.le_trans (List.length_filter_le _ _) hw.len
  fuse := hw.fuse
structure LOk (l0 l1 : DL) (ds : List Drive) : Prop where
  hs : DL.hs l1 = DL.hs l0
  ds : l1.map Prod.snd = ds
  miss : ∀ p ∈ l1, p.1.miss = p.2.miss
theorem LOk.len {l0 l1 : DL} {ds : List Drive} (h : LOk l0 l1 ds) : l1.length = ds.length := by rw [← h.ds]; simp
theorem LOk.set {l0 l1 : DL} {ds : List Drive} (h : LOk l0 l1 ds) (i : Nat) (y : Drive) (hi : i < ds.length) (hy : y.miss = (ds.getD i d0).miss) : LOk l0 (l1.set i ((DL.hs l0).getD i dH0, y)) (ds.set i y) where
  hs := by rw [← h.hs]; exact hs_set
  ds := by rw [List.map_set, h.ds]
  miss := fun p hp => by
    rcases List.mem_or_eq_of_mem_set hp with hp | rfl
    · exact h.miss p hp
    · rw [← h.hs]
      have := miss_at (s := ⟨ds, [], [], 0, false, 0⟩) h.ds h.miss hi
      exact this.trans hy.symm
def putD (ds : List Drive) (r : Rec) : List Drive := ds.set r.d { ds.getD r.d d0 with dur := (ds.getD r.d d0).dur.set r.a r.v }
def rsGo (ks : List Bool) : Nat → List Rec → List Drive → List Drive
  | _, [], ds => ds
  | n, r :: log, ds => rsGo ks (n + 1) log (if ks.getD n false = true then putD ds r else ds)
theorem putD_keep (ds : List Drive) (r : Rec) (j : Nat) : (putD ds r).length = ds.length ∧ ((putD ds r).getD j d0).now = (ds.getD j d0).now ∧ ((putD ds r).getD j d0).dur.length = (ds.getD j d0).dur.length ∧ ((putD ds r).getD j d0).miss = (ds.getD j d0).miss := by
  refine ⟨by simp [putD], ?_⟩
  unfold putD
  by_cases hr : r.d < ds.length
  · rw [set_at hr]; split
    · rename_i h; subst h; simp
    · exact ⟨rfl, rfl, rfl⟩
  · rw [List.set_eq_of_length_le (by omega)]; exact ⟨rfl, rfl, rfl⟩
theorem rsGo_keep (ks : List Bool) : ∀ (log : List Rec) (n : Nat) (ds : List Drive) (j : Nat), (rsGo ks n log ds).length = ds.length ∧ ((rsGo ks n log ds).getD j d0).now = (ds.getD j d0).now ∧ ((rsGo ks n log ds).getD j d0).dur.length = (ds.getD j d0).dur.length ∧ ((rsGo ks n log ds).getD j d0).miss = (ds.getD j d0).miss
  | [], _, _, _ => ⟨rfl, rfl, rfl, rfl⟩
  | r :: log, n, ds, j => by
    have h := rsGo_keep ks log (n + 1) (if ks.getD n false = true then putD ds r else ds) j
    simp only [rsGo]
    by_cases hk : ks.getD n false = true
    · rw [if_pos hk] at h ⊢
      have := putD_keep ds r j
      exact ⟨h.1.trans this.1, h.2.1.trans this.2.1, h.2.2.1.trans this.2.2.1, h.2.2.2.trans this.2.2.2⟩
    · rw [if_neg hk] at h ⊢; exact h
def settleD (d : Drive) : Drive := { d with now := d.dur }
def stl (n : Nat) (D : List Drive) : List Drive := (D.take n).map settleD ++ D.drop n
def rsS (s : ArrS) (ks : List Bool) : ArrS := { s with drv := (rsGo ks 0 s.log s.drv).map settleD, log := [], down := false, fuse := 0 }
theorem rs_at (s : ArrS) (ks : List Bool) (i : Nat) : (rsS s ks).drv.getD i d0 = settleD ((rsGo ks 0 s.log s.drv).getD i d0) := by
  simp only [rsS, List.getD, List.getElem?_map]; cases (rsGo ks 0 s.log s.drv)[i]? <;> rfl
theorem c_Read {W : World} {b : Nat} {s : ArrS} {d a : Int} :
    CSpec Tryz.prog W 16 [ptr b 0, .int .i64 d, .int .i64 a] [Arr b s] (fun _ : Unit => .tuple #[.int .u64 ((rdV s d a).toNat : Int), .int .i64 (rdC s d a)]) (fun _ => True) (fun _ F => Arr b s :: F) := by
 refine CSpec.of_body Tryz.func16 rfl Tryz.ntmps16 rfl fun F => ?_
 show CJ _ _ _ _ _ _ (_ :: F)
 refine sR <| oA rfl rfl <| oA rfl rfl <| nT <| CJ_seq <| sR <| oM rfl rfl <| oM rfl rfl <| oP (P_build rfl (bld_96_0_1 _ _)) rfl <| oM rfl rfl <| oP (P_makeFunc rfl rfl) rfl <| oM rfl rfl <| oP (P_makeFunc rfl rfl) rfl <| oM rfl rfl <| oP (P_makeFunc rfl rfl) rfl <| oM rfl rfl <| oP (P_makeFunc rfl rfl) rfl <| oM rfl rfl <| oP (P_makeFunc rfl rfl) rfl <| oO <| O_buildSlice rfl (bs_153_5_0_1_2_3_4 _ _ _ _ _ _ _ _ _ _ _ _ _ _ _) rfl fun b1 => RJ_ent (Ent.trans (t0_ eR) (sl_of_lit (t := tyFn) (m := 5) [(53, ptr b 0), (54, ptr b 0), (55, ptr b 0), (56, ptr b 0), (57, ptr b 0)] rfl rfl rfl (by decide))) <| oO <| O_call (c_chk5 (Reads.sl _ _ _)) rfl Tryz.call52 (Dels.cons del0 (Dels.cons del0 Dels.nil)) rfl fun _ hc2 => oA rfl rfl <| nT <| sR <| oM rfl rfl <| oP (P_neq rfl rfl) rfl <| nT ?_
 first | (refine CJ_condD rfl (fun hg1 => ?_) (fun hg1 => ?_)) | (refine CJ_condN rfl (fun hg1 => ?_) (fun hg1 => ?_)) | (refine CJ_cond rfl (fun hg1 => ?_) (fun hg1 => ?_))
 ·
  refine sR <| oM rfl rfl <| oA rfl rfl <| oA rfl rfl <| nT <| CJ_ret <| QJ_then_ret <| QJ_end (res2 Tryz.results16 rfl rfl) <| CSpec.close () ?_ ?_ (t1_ (eD eR))
  · exact tupRd0 hg1
  · trivial
 ·
  obtain ⟨g1, i, k, rfl, rfl, g2, g3⟩ := rd_ok (Decidable.not_not.1 hg1)
  replace hg1 := Decidable.not_not.1 hg1
  refine kT <| CJ_seq <| CJ_entX (Ent.transX (t1_ eR) Arr_open) fun ⟨dv, lv, mr, l⟩ => CJ_pur fun hX => ?_
  obtain ⟨hl, hm, hw⟩ : l.map Prod.snd = (s).drv ∧ (∀ p ∈ l, p.1.miss = p.2.miss) ∧ ArrWF (s) := hX
  show CJ _ _ _ _ _ _ (blk b 104 [Sl3.v dv, .map (some mr), Sl3.v lv, _, _, _] :: sl tyDrv (Sl3.v dv) (DL.hs l) :: DOwn l :: sl tyRec (Sl3.v lv) _ :: mpc mBad mr _ :: _)
  have hn := hs_len hl
  have hwF := hw.fuse
  have hwL := hw.len
  have hwC := hw.cnt
  refine CJ_ent (Ent.trans (t2_ eR) (DOwn_open i hl (by omega))) <| CJ_region <| oM rfl rfl <| oP (P_nilCheck rfl) rfl <| oP (P_fieldAddr rfl ⟨_, _, _, Tryz.runUnderlying104, rfl, rfl, Tryz.sizeOf100, rfl⟩) rfl <| oV (V_load rfl foc3 rfl Tryz.isAgg100) rfl <| oM rfl rfl ?_
  first | (refine RJ_op rfl (OJ_V (V_index rfl rfl rfl (by omega) foc4 (Reads.sl _ _ _) Tryz.runUnderlying100 Tryz.sizeOf99) rfl ?_)) | (refine RJ_op rfl (OJ_V (V_index rfl rfl (Int.toNat_of_nonneg (by omega)).symm (by omega) foc4 (Reads.sl _ _ _) Tryz.runUnderlying100 Tryz.sizeOf99) rfl ?_))
  refine oP (P_fieldE rfl ⟨_, _, _, Tryz.runUnderlying99, rfl, rfl, Tryz.sizeOf43, rfl⟩) rfl <| oV (V_loadE rfl rfl (by omega) foc4 (Reads.sl _ _ _) rfl rfl Tryz.isAgg43) rfl <| oM rfl rfl ?_
  first | (refine RJ_op rfl (OJ_V (V_index rfl rfl rfl (by omega) foc0 (Reads.sl _ _ _) Tryz.runUnderlying43 Tryz.sizeOf44) rfl ?_)) | (refine RJ_op rfl (OJ_V (V_index rfl rfl (Int.toNat_of_nonneg (by omega)).symm (by omega) foc0 (Reads.sl _ _ _) Tryz.runUnderlying43 Tryz.sizeOf44) rfl ?_))
  refine oV (V_loadE rfl rfl (by omega) foc0 (Reads.sl _ _ _) rfl rfl Tryz.isAgg44) rfl <| oA rfl rfl <| oA rfl rfl <| nT <| CJ_ret <| QJ_end (res2 Tryz.results16 rfl rfl) <| CSpec.close () ?_ ?_ (Ent.trans (Ent.trans (t0_ (t0_ (t0_ eR))) (DOwn_back hl (by omega))) (Ent.trans (Ent.trans (t1_ (t1_ (t0_ (t0_ (t0_ eR))))) (Arr_close hl hm hw)) (t0_ (eD eR))))
  · exact tupRd hg1
  · trivial
theorem c_Write {W : World} {b : Nat} {s : ArrS} {d a : Int} {v : UInt64} (hW : s.writes ≤ 1000000000) :
    CSpec Tryz.prog W 149 [ptr b 0, .int .i64 d, .int .i64 a, .int .u64 (v.toNat : Int)] [Arr b s] (fun _ : Unit => .int .i64 (wrR s d a)) (fun _ => True) (fun _ F => Arr b (wrS s d a v) :: F) := by
 refine CSpec.of_body Tryz.func149 rfl Tryz.ntmps149 rfl fun F => ?_
 show CJ _ _ _ _ _ _ (_ :: F)
 refine sR <| oA rfl rfl <| nT <| sR <| oM rfl rfl <| oM rfl rfl <| oP (P_build rfl (bld_96_0_1 _ _)) rfl <| oO <| O_alloc Tryz.zeroValue96 rfl rfl fun b1 => oO <| O_storeN rfl rfl foc0 Tryz.sizeOf96 rfl rfl rfl <| nT <| CJ_seq <| sR <| oV (V_loadN rfl foc0 Tryz.isAgg96 Tryz.sizeOf96 rfl rfl) rfl <| oM rfl rfl <| oP (P_makeFunc rfl rfl) rfl <| oM rfl rfl <| oP (P_makeFunc rfl rfl) rfl <| oM rfl rfl <| oP (P_makeFunc rfl rfl) rfl <| oM rfl rfl <| oP (P_makeFunc rfl rfl) rfl <| oO <| O_buildSlice rfl (bs_153_4_0_1_2_3 _ _ _ _ _ _ _ _ _ _ _ _) rfl fun b2 => RJ_ent (Ent.trans (t0_ eR) (sl_of_lit (t := tyFn) (m := 4) [(53, ptr b 0), (54, ptr b 0), (55, ptr b 0), (56, ptr b 0)] rfl rfl rfl (by decide))) <| oO <| O_call (c_chk4 (Reads.sl _ _ _)) rfl Tryz.call52 (Dels.cons del0 (Dels.cons del1 Dels.nil)) rfl fun _ hc3 => oA rfl rfl <| nT <| sR <| oM rfl rfl <| oP (P_neq rfl rfl) rfl <| nT ?_
 first | (refine CJ_condD rfl (fun hg1 => ?_) (fun hg1 => ?_)) | (refine CJ_condN rfl (fun hg1 => ?_) (fun hg1 => ?_)) | (refine CJ_cond rfl (fun hg1 => ?_) (fun hg1 => ?_))
 ·
  refine sR <| oM rfl rfl <| oA rfl rfl <| nT <| CJ_ret <| QJ_then_ret <| QJ_end (res1 Tryz.results149 rfl) <| CSpec.close () ?_ ?_ (Ent.takeC del1 (congrArg (Arr b) (wrS_bad hg1).symm) (eD (eD eR)))
  · exact iv (wrR_bad hg1).symm
  · trivial
 ·
  have hC := Decidable.not_not.1 hg1
  obtain ⟨g1, i, k, rfl, rfl, g2, g3⟩ := wr_ok hC
  refine kT <| CJ_seq <| CJ_seq <| CJ_entX (Ent.transX (t1_ eR) Arr_open) fun ⟨dv, lv, mr, l⟩ => CJ_pur fun hX => ?_
  obtain ⟨hl, hm, hw⟩ : l.map Prod.snd = (s).drv ∧ (∀ p ∈ l, p.1.miss = p.2.miss) ∧ ArrWF (s) := hX
  show CJ _ _ _ _ _ _ (blk b 104 [Sl3.v dv, .map (some mr), Sl3.v lv, _, _, _] :: sl tyDrv (Sl3.v dv) (DL.hs l) :: DOwn l :: sl tyRec (Sl3.v lv) _ :: mpc mBad mr _ :: _)
  have hn := hs_len hl
  have hwF := hw.fuse
  have hwL := hw.len
  have hwC := hw.cnt
  refine CJ_region <| oM rfl rfl <| oP (P_nilCheck rfl) rfl <| oP (P_fieldAddr rfl ⟨_, _, _, Tryz.runUnderlying104, rfl, rfl, Tryz.sizeOf3, rfl⟩) rfl <| oV (V_load rfl foc0 rfl Tryz.isAgg3) rfl <| oP (P_gtr rfl rfl) rfl <| nT ?_
  first | (refine CJ_condD rfl (fun hg2 => ?_) (fun hg2 => ?_)) | (refine CJ_condN rfl (fun hg2 => ?_) (fun hg2 => ?_)) | (refine CJ_cond rfl (fun hg2 => ?_) (fun hg2 => ?_))
  ·
   refine sR <| oM rfl rfl <| oP (P_nilCheck rfl) rfl <| oP (P_fieldAddr rfl ⟨_, _, _, Tryz.runUnderlying104, rfl, rfl, Tryz.sizeOf3, rfl⟩) rfl <| oV (V_load rfl foc0 rfl Tryz.isAgg3) rfl <| oP (P_sub rfl rfl (by omega)) rfl <| oP (P_nilCheck rfl) rfl <| oP (P_fieldAddr rfl ⟨_, _, _, Tryz.runUnderlying104, rfl, rfl, Tryz.sizeOf3, rfl⟩) rfl <| oO <| O_store rfl rfl foc0 rfl rfl Tryz.sizeOf3 <| nT <| sR <| oM rfl rfl <| oP (P_nilCheck rfl) rfl <| oP (P_fieldAddr rfl ⟨_, _, _, Tryz.runUnderlying104, rfl, rfl, Tryz.sizeOf3, rfl⟩) rfl <| oV (V_load rfl foc0 rfl Tryz.isAgg3) rfl <| oP (P_eql rfl rfl) rfl <| nT ?_
   first | (refine CJ_condD rfl (fun hg3 => ?_) (fun hg3 => ?_)) | (refine CJ_condN rfl (fun hg3 => ?_) (fun hg3 => ?_)) | (refine CJ_cond rfl (fun hg3 => ?_) (fun hg3 => ?_))
   ·
    refine CJ_seq ?_
    have hF1 : s.fuse = 1 := by omega
    refine CJ_region <| oM rfl rfl <| oP (P_nilCheck rfl) rfl <| oP (P_fieldAddr rfl ⟨_, _, _, Tryz.runUnderlying104, rfl, rfl, Tryz.sizeOf4, rfl⟩) rfl <| oO <| O_store rfl rfl foc0 rfl rfl Tryz.sizeOf4 <| nT <| sR <| oA rfl rfl <| nT <| CJ_ret <| QJ_then_ret <| QJ_end (res1 Tryz.results149 rfl) ?_
    rw [wrR_fuse hC hF1, wrS_fuse hC hF1]
    refine CSpec.close () ?_ ?_ (Ent.trans (Ent.trans (Ent.takeC del0 (arrC (by omega) rfl) (t0_ (t0_ (t0_ (t0_ eR))))) (Arr_close (s := { s with fuse := 0, down := true }) hl hm (wf_fuse hw 0 (by omega) true))) (t0_ (eD (eD eR))))
    · rfl
    · trivial
   ·
    refine kT <| CJ_seq ?_
    have hF1 : s.fuse ≠ 1 := by omega
    refine CJ_ent (Ent.trans (t2_ eR) (DOwn_open i hl (by omega))) <| CJ_region <| oM rfl rfl <| oP (P_nilCheck rfl) rfl <| oP (P_fieldAddr rfl ⟨_, _, _, Tryz.runUnderlying104, rfl, rfl, Tryz.sizeOf100, rfl⟩) rfl <| oV (V_load rfl foc3 rfl Tryz.isAgg100) rfl <| oM rfl rfl ?_
    first | (refine RJ_op rfl (OJ_V (V_index rfl rfl rfl (by omega) foc4 (Reads.sl _ _ _) Tryz.runUnderlying100 Tryz.sizeOf99) rfl ?_)) | (refine RJ_op rfl (OJ_V (V_index rfl rfl (Int.toNat_of_nonneg (by omega)).symm (by omega) foc4 (Reads.sl _ _ _) Tryz.runUnderlying100 Tryz.sizeOf99) rfl ?_))
    refine oP (P_fieldE rfl ⟨_, _, _, Tryz.runUnderlying99, rfl, rfl, Tryz.sizeOf43, rfl⟩) rfl <| oV (V_loadE rfl rfl (by omega) foc4 (Reads.sl _ _ _) rfl rfl Tryz.isAgg43) rfl <| oM rfl rfl <| oM rfl rfl ?_
    first | (refine RJ_op rfl (OJ_V (V_index rfl rfl rfl (by omega) foc0 (Reads.sl _ _ _) Tryz.runUnderlying43 Tryz.sizeOf44) rfl ?_)) | (refine RJ_op rfl (OJ_V (V_index rfl rfl (Int.toNat_of_nonneg (by omega)).symm (by omega) foc0 (Reads.sl _ _ _) Tryz.runUnderlying43 Tryz.sizeOf44) rfl ?_))
    refine oO <| O_storeE (x' := _) rfl rfl rfl (by omega) foc0 rfl rfl rfl Tryz.sizeOf44 <| nT <| CJ_seq <| AJ_startH 32 (by kernel_rfl) rfl <| aN 0 1 rfl rfl (P_move rfl) rfl <| aN 1 3 rfl rfl (P_nilCheck rfl) rfl <| aN 2 7 rfl rfl (P_fieldAddr rfl ⟨_, _, _, Tryz.runUnderlying104, rfl, rfl, Tryz.sizeOf101, rfl⟩) rfl <| aV 3 15 rfl rfl (GY_none rfl) (t0_ (t0_ (t0_ (t0_ (t0_ (t0_ (t0_ (t0_ (t0_ eR))))))))) (V_load rfl foc3 rfl Tryz.isAgg101) rfl <| aV 4 31 rfl rfl (GY_none rfl) (t0_ (t0_ (t0_ (t0_ (t0_ (t0_ (t0_ (t0_ (t0_ eR))))))))) (V_loadN rfl foc8 Tryz.isAgg96 Tryz.sizeOf96 rfl rfl) rfl <| AJ_op 5 63 rfl (by kernel_rfl) rfl (GY_none rfl) <| O_delete (M := mBad) (k := ((i : Int), (k : Int))) rfl rfl foc6 ok_mBad <| ⟨fun h => absurd h (by decide), ?_⟩
    refine aD <| CJ_seq <| AJ_startH 4608 (by kernel_rfl) rfl <| aN 0 1 rfl rfl (P_move rfl) rfl <| aN 1 3 rfl rfl (P_move rfl) rfl <| aN 2 7 rfl rfl (P_nilCheck rfl) rfl <| aN 3 15 rfl rfl (P_fieldAddr rfl ⟨_, _, _, Tryz.runUnderlying104, rfl, rfl, Tryz.sizeOf102, rfl⟩) rfl <| aV 4 31 rfl rfl (GY_none rfl) (t0_ (t0_ (t0_ (t0_ (t0_ (t0_ (t0_ (t0_ (t0_ eR))))))))) (V_load rfl foc3 rfl Tryz.isAgg102) rfl <| aV 5 63 rfl rfl (GY_none rfl) (t0_ (t0_ (t0_ (t0_ (t0_ (t0_ (t0_ (t0_ (t0_ eR))))))))) (V_loadN rfl foc8 Tryz.isAgg96 Tryz.sizeOf96 rfl rfl) rfl <| aN 6 127 rfl rfl (P_move rfl) rfl <| aN 7 255 rfl rfl (P_build rfl (bld_143_0_1 _ _ _)) rfl <| AJ_op 8 511 rfl (by kernel_rfl) rfl (GY_none rfl) <| O_buildSlice rfl (bs_102_1_0 _ _ _) rfl fun b4 => ⟨fun _ => (t1_ (t1_ (t1_ (t1_ (t1_ (t1_ (t1_ (t1_ (t1_ (eD eR)))))))))), ?_⟩
    refine AJ_op 9 1023 rfl (by kernel_rfl) rfl (GY_none rfl) <| O_append (t := tyRec) (bytes := 24) rfl rfl del6 foc0 (Reads.lit (t := tyRec) (ys := [⟨i, k, v⟩]) rfl rfl (by decide) (by decide) rfl) Tryz.underlying102 ok_tyRec (by simp only [List.length_append, List.length_cons, List.length_nil, maxLen] at *; omega) (by simp only [List.length_append, List.length_cons, List.length_nil, maxLen] at *; omega) rfl fun p5 c6 => ⟨fun h => absurd h (by decide), ?_⟩
    refine aN 10 2047 rfl rfl (P_nilCheck rfl) rfl <| aN 11 4095 rfl rfl (P_fieldAddr rfl ⟨_, _, _, Tryz.runUnderlying104, rfl, rfl, Tryz.sizeOf102, rfl⟩) rfl <| AJ_op 12 8191 rfl (by kernel_rfl) rfl (GY_none rfl) <| O_store rfl rfl foc5 rfl rfl Tryz.sizeOf102 <| ⟨fun h => absurd h (by decide), ?_⟩
    refine aD <| sR <| oM rfl rfl <| oP (P_nilCheck rfl) rfl <| oP (P_fieldAddr rfl ⟨_, _, _, Tryz.runUnderlying104, rfl, rfl, Tryz.sizeOf3, rfl⟩) rfl <| oV (V_load rfl foc5 rfl Tryz.isAgg3) rfl <| oP (P_add rfl rfl (by omega)) rfl <| oP (P_nilCheck rfl) rfl <| oP (P_fieldAddr rfl ⟨_, _, _, Tryz.runUnderlying104, rfl, rfl, Tryz.sizeOf3, rfl⟩) rfl <| oO <| O_store rfl rfl foc5 rfl rfl Tryz.sizeOf3 <| nT <| sR <| oA rfl rfl <| nT <| CJ_ret <| QJ_end (res1 Tryz.results149 rfl) ?_
    rw [wrR_ok hC hF1, wrS_ok hC hF1]
    refine CSpec.close () ?_ ?_ (Ent.trans (Ent.trans (Ent.takeC del5 (arrC (by dsimp only; omega) (by dsimp only; omega)) (t5_ (t2_ (t2_ (t2_ (t0_ (t1_ eR))))))) (Arr_close1 (s' := { s with drv := setNow s i k v, bad := delM s.bad (i, k), log := s.log ++ [⟨i, k, v⟩], fuse := s.fuse - 1, writes := s.writes + 1 }) (lv := ⟨p5, _, c6⟩) i _ hl hm (by omega) rfl rfl (wf_wr hw (by omega) g3 _ _ (by omega)))) (t0_ (eD (eD (eD eR)))))
    · rfl
    · trivial
  ·
   refine kT <| CJ_seq ?_
   have hF1 : s.fuse ≠ 1 := by omega
   refine CJ_ent (Ent.trans (t2_ eR) (DOwn_open i hl (by omega))) <| CJ_region <| oM rfl rfl <| oP (P_nilCheck rfl) rfl <| oP (P_fieldAddr rfl ⟨_, _, _, Tryz.runUnderlying104, rfl, rfl, Tryz.sizeOf100, rfl⟩) rfl <| oV (V_load rfl foc3 rfl Tryz.isAgg100) rfl <| oM rfl rfl ?_
   first | (refine RJ_op rfl (OJ_V (V_index rfl rfl rfl (by omega) foc4 (Reads.sl _ _ _) Tryz.runUnderlying100 Tryz.sizeOf99) rfl ?_)) | (refine RJ_op rfl (OJ_V (V_index rfl rfl (Int.toNat_of_nonneg (by omega)).symm (by omega) foc4 (Reads.sl _ _ _) Tryz.runUnderlying100 Tryz.sizeOf99) rfl ?_))
   refine oP (P_fieldE rfl ⟨_, _, _, Tryz.runUnderlying99, rfl, rfl, Tryz.sizeOf43, rfl⟩) rfl <| oV (V_loadE rfl rfl (by omega) foc4 (Reads.sl _ _ _) rfl rfl Tryz.isAgg43) rfl <| oM rfl rfl <| oM rfl rfl ?_
   first | (refine RJ_op rfl (OJ_V (V_index rfl rfl rfl (by omega) foc0 (Reads.sl _ _ _) Tryz.runUnderlying43 Tryz.sizeOf44) rfl ?_)) | (refine RJ_op rfl (OJ_V (V_index rfl rfl (Int.toNat_of_nonneg (by omega)).symm (by omega) foc0 (Reads.sl _ _ _) Tryz.runUnderlying43 Tryz.sizeOf44) rfl ?_))
   refine oO <| O_storeE (x' := _) rfl rfl rfl (by omega) foc0 rfl rfl rfl Tryz.sizeOf44 <| nT <| CJ_seq <| AJ_startH 32 (by kernel_rfl) rfl <| aN 0 1 rfl rfl (P_move rfl) rfl <| aN 1 3 rfl rfl (P_nilCheck rfl) rfl <| aN 2 7 rfl rfl (P_fieldAddr rfl ⟨_, _, _, Tryz.runUnderlying104, rfl, rfl, Tryz.sizeOf101, rfl⟩) rfl <| aV 3 15 rfl rfl (GY_none rfl) (t0_ (t0_ (t0_ (t0_ (t0_ (t0_ (t0_ (t0_ (t0_ eR))))))))) (V_load rfl foc3 rfl Tryz.isAgg101) rfl <| aV 4 31 rfl rfl (GY_none rfl) (t0_ (t0_ (t0_ (t0_ (t0_ (t0_ (t0_ (t0_ (t0_ eR))))))))) (V_loadN rfl foc8 Tryz.isAgg96 Tryz.sizeOf96 rfl rfl) rfl <| AJ_op 5 63 rfl (by kernel_rfl) rfl (GY_none rfl) <| O_delete (M := mBad) (k := ((i : Int), (k : Int))) rfl rfl foc6 ok_mBad <| ⟨fun h => absurd h (by decide), ?_⟩
   refine aD <| CJ_seq <| AJ_startH 4608 (by kernel_rfl) rfl <| aN 0 1 rfl rfl (P_move rfl) rfl <| aN 1 3 rfl rfl (P_move rfl) rfl <| aN 2 7 rfl rfl (P_nilCheck rfl) rfl <| aN 3 15 rfl rfl (P_fieldAddr rfl ⟨_, _, _, Tryz.runUnderlying104, rfl, rfl, Tryz.sizeOf102, rfl⟩) rfl <| aV 4 31 rfl rfl (GY_none rfl) (t0_ (t0_ (t0_ (t0_ (t0_ (t0_ (t0_ (t0_ (t0_ eR))))))))) (V_load rfl foc3 rfl Tryz.isAgg102) rfl <| aV 5 63 rfl rfl (GY_none rfl) (t0_ (t0_ (t0_ (t0_ (t0_ (t0_ (t0_ (t0_ (t0_ eR))))))))) (V_loadN rfl foc8 Tryz.isAgg96 Tryz.sizeOf96 rfl rfl) rfl <| aN 6 127 rfl rfl (P_move rfl) rfl <| aN 7 255 rfl rfl (P_build rfl (bld_143_0_1 _ _ _)) rfl <| AJ_op 8 511 rfl (by kernel_rfl) rfl (GY_none rfl) <| O_buildSlice rfl (bs_102_1_0 _ _ _) rfl fun b7 => ⟨fun _ => (t1_ (t1_ (t1_ (t1_ (t1_ (t1_ (t1_ (t1_ (t1_ (eD eR)))))))))), ?_⟩
   refine AJ_op 9 1023 rfl (by kernel_rfl) rfl (GY_none rfl) <| O_append (t := tyRec) (bytes := 24) rfl rfl del6 foc0 (Reads.lit (t := tyRec) (ys := [⟨i, k, v⟩]) rfl rfl (by decide) (by decide) rfl) Tryz.underlying102 ok_tyRec (by simp only [List.length_append, List.length_cons, List.length_nil, maxLen] at *; omega) (by simp only [List.length_append, List.length_cons, List.length_nil, maxLen] at *; omega) rfl fun p8 c9 => ⟨fun h => absurd h (by decide), ?_⟩
   refine aN 10 2047 rfl rfl (P_nilCheck rfl) rfl <| aN 11 4095 rfl rfl (P_fieldAddr rfl ⟨_, _, _, Tryz.runUnderlying104, rfl, rfl, Tryz.sizeOf102, rfl⟩) rfl <| AJ_op 12 8191 rfl (by kernel_rfl) rfl (GY_none rfl) <| O_store rfl rfl foc5 rfl rfl Tryz.sizeOf102 <| ⟨fun h => absurd h (by decide), ?_⟩
   refine aD <| sR <| oM rfl rfl <| oP (P_nilCheck rfl) rfl <| oP (P_fieldAddr rfl ⟨_, _, _, Tryz.runUnderlying104, rfl, rfl, Tryz.sizeOf3, rfl⟩) rfl <| oV (V_load rfl foc5 rfl Tryz.isAgg3) rfl <| oP (P_add rfl rfl (by omega)) rfl <| oP (P_nilCheck rfl) rfl <| oP (P_fieldAddr rfl ⟨_, _, _, Tryz.runUnderlying104, rfl, rfl, Tryz.sizeOf3, rfl⟩) rfl <| oO <| O_store rfl rfl foc5 rfl rfl Tryz.sizeOf3 <| nT <| sR <| oA rfl rfl <| nT <| CJ_ret <| QJ_end (res1 Tryz.results149 rfl) ?_
   rw [wrR_ok hC hF1, wrS_ok hC hF1]
   refine CSpec.close () ?_ ?_ (Ent.trans (Ent.trans (Ent.takeC del5 (arrC (by dsimp only; omega) (by dsimp only; omega)) (t5_ (t2_ (t2_ (t2_ (t0_ (t1_ eR))))))) (Arr_close1 (s' := { s with drv := setNow s i k v, bad := delM s.bad (i, k), log := s.log ++ [⟨i, k, v⟩], fuse := s.fuse - 1, writes := s.writes + 1 }) (lv := ⟨p8, _, c9⟩) i _ hl hm (by omega) rfl rfl (wf_wr hw (by omega) g3 _ _ (by omega)))) (t0_ (eD (eD (eD eR)))))
   · rfl
   · trivial
theorem c_Unflushed {W : World} {b : Nat} {s : ArrS} :
    CSpec Tryz.prog W 45 [ptr b 0] [Arr b s] (fun _ : Unit => .int .i64 (s.log.length : Int)) (fun _ => True) (fun _ F => Arr b s :: F) := by
 refine CSpec.of_body Tryz.func45 rfl Tryz.ntmps45 rfl fun F => ?_
 show CJ _ _ _ _ _ _ (_ :: F)
 refine CJ_entX (Ent.transX (t0_ eR) Arr_open) fun ⟨dv, lv, mr, l⟩ => CJ_pur fun hX => ?_
 obtain ⟨hl, hm, hw⟩ : l.map Prod.snd = (s).drv ∧ (∀ p ∈ l, p.1.miss = p.2.miss) ∧ ArrWF (s) := hX
 show CJ _ _ _ _ _ _ (blk b 104 [Sl3.v dv, .map (some mr), Sl3.v lv, _, _, _] :: sl tyDrv (Sl3.v dv) (DL.hs l) :: DOwn l :: sl tyRec (Sl3.v lv) _ :: mpc mBad mr _ :: _)
 have hn := hs_len hl
 have hwF := hw.fuse
 have hwL := hw.len
 have hwC := hw.cnt
 refine sR <| oA rfl rfl <| nT <| sR <| oM rfl rfl <| oP (P_nilCheck rfl) rfl <| oP (P_fieldAddr rfl ⟨_, _, _, Tryz.runUnderlying104, rfl, rfl, Tryz.sizeOf102, rfl⟩) rfl <| oV (V_load rfl foc0 rfl Tryz.isAgg102) rfl <| oV (V_len rfl foc3 (Reads.sl _ _ _) Tryz.runUnderlying102) rfl <| oA rfl rfl <| nT <| CJ_ret <| QJ_end (res1 Tryz.results45 rfl) <| CSpec.close () ?_ ?_ (Ent.trans (Ent.trans (t0_ (t0_ (t0_ (t0_ (t0_ eR))))) (Arr_close hl hm hw)) (t0_ eR))
 · rfl
 · trivial
theorem c_CountD {W : World} {b : Nat} {s : ArrS} :
    CSpec Tryz.prog W 62 [ptr b 0] [Arr b s] (fun _ : Unit => .int .i64 (s.drv.length : Int)) (fun _ => True) (fun _ F => Arr b s :: F) := by
 refine CSpec.of_body Tryz.func62 rfl Tryz.ntmps62 rfl fun F => ?_
 show CJ _ _ _ _ _ _ (_ :: F)
 refine CJ_entX (Ent.transX (t0_ eR) Arr_open) fun ⟨dv, lv, mr, l⟩ => CJ_pur fun hX => ?_
 obtain ⟨hl, hm, hw⟩ : l.map Prod.snd = (s).drv ∧ (∀ p ∈ l, p.1.miss = p.2.miss) ∧ ArrWF (s) := hX
 show CJ _ _ _ _ _ _ (blk b 104 [Sl3.v dv, .map (some mr), Sl3.v lv, _, _, _] :: sl tyDrv (Sl3.v dv) (DL.hs l) :: DOwn l :: sl tyRec (Sl3.v lv) _ :: mpc mBad mr _ :: _)
 have hn := hs_len hl
 have hwF := hw.fuse
 have hwL := hw.len
 have hwC := hw.cnt
 refine sR <| oA rfl rfl <| nT <| sR <| oM rfl rfl <| oP (P_nilCheck rfl) rfl <| oP (P_fieldAddr rfl ⟨_, _, _, Tryz.runUnderlying104, rfl, rfl, Tryz.sizeOf100, rfl⟩) rfl <| oV (V_load rfl foc0 rfl Tryz.isAgg100) rfl <| oV (V_len rfl foc1 (Reads.sl _ _ _) Tryz.runUnderlying100) rfl <| oA rfl rfl <| nT <| CJ_ret <| QJ_end (res1 Tryz.results62 rfl) <| CSpec.close () ?_ ?_ (Ent.trans (Ent.trans (t0_ (t0_ (t0_ (t0_ (t0_ eR))))) (Arr_close hl hm hw)) (t0_ eR))
 · exact iv (by omega)
 · trivial
theorem c_New {W : World} {A : HP} {v : Value} {zs : List Int} (hA : Reads A tyI v zs) (hN : NewOk zs) :
    CSpec Tryz.prog W 23 [v] [A] (fun b : Nat => .tuple #[ptr b 0, .int .i64 0]) (fun _ => True) (fun b F => Arr b (newS zs) :: A :: F) := by
 have hN1 := hN.1
 refine CSpec.of_body Tryz.func23 rfl Tryz.ntmps23 rfl fun F => ?_
 show CJ _ _ _ _ _ _ (_ :: F)
 refine sR <| oA rfl rfl <| oA rfl rfl <| nT <| CJ_seq <| sR <| oM rfl rfl <| oV (V_len rfl foc0 hA Tryz.runUnderlying35) rfl <| oP (P_gtr rfl rfl) rfl <| nT ?_
 first | (refine CJ_condD rfl (fun hg1 => ?_) (fun hg1 => ?_)) | (refine CJ_condN rfl (fun hg1 => ?_) (fun hg1 => ?_)) | (refine CJ_cond rfl (fun hg1 => ?_) (fun hg1 => ?_))
 ·
  exfalso; omega
 ·
  refine kT <| sR <| oO <| O_makeMap mBad rfl fun b1 => oP (P_build rfl (bld_104_1 _)) rfl <| oO <| O_box rfl rfl rfl fun b2 => oA rfl rfl <| nT <| CJ_seq <| sR <| oM rfl rfl <| oV (V_len rfl foc2 hA Tryz.runUnderlying35) rfl <| oM rfl rfl <| nT <| CJ_block <| CJ_ent (fun h hh => sl_nil (t := tyDrv) h hh) <| CJ_ent DOwn_nil <| CJ_loopR (X := Nat × Sl3 × DL) [2, 3, 6, 15, 16, 17, 18, 19, 20, 21, 22, 23, 24, 25, 26, 27, 28, 29, 30, 31, 32, 33, 34, 35, 36, 37, 38, 39] (fun ⟨k, dv, l⟩  => ([(15, .int .i64 (k : Nat))] : Slots)) (fun ⟨k, dv, l⟩ R => blk b2 104 [dv.v, .map (some b1), .slice none 0 0, .int .i64 0, .bool false, .int .i64 0] :: sl tyDrv dv.v (DL.hs l) :: DOwn l :: R) (fun ⟨k, dv, l⟩  => k ≤ zs.length ∧ l.map Prod.snd = (zs.take k).map mkD ∧ (∀ p ∈ l, p.1.miss = p.2.miss)) (fun ⟨k, dv, l⟩  => zs.length - k) ⟨0, ⟨none, 0, 0⟩, []⟩ ?_ ?_ (t2_ (t1_ (t0_ (t0_ (t0_ eR))))) ?_
  · exact ⟨Nat.zero_le _, rfl, fun p hp => by cases hp⟩
  · exact ⟨rfl, True.intro⟩
  ·
   rintro ⟨k, dv, l⟩ ⟨hk, hl, hm⟩
   show CJ _ _ _ _ _ (([(15, .int .i64 (k : Nat))] : Slots) ++ forget _ _) (blk b2 104 [dv.v, .map (some b1), .slice none 0 0, .int .i64 0, .bool false, .int .i64 0] :: sl tyDrv dv.v (DL.hs l) :: DOwn l :: _)
   have hz := hN.2 k
   have hlen : l.length = k := by have := congrArg List.length hl; simp at this; omega
   have hlen2 : (DL.hs l).length = k := by simp [hlen]
   have hd0 := tyI_at zs k
   refine sR <| oP (P_lss rfl rfl) rfl <| nT <| CJ_seq ?_
   first | (refine CJ_condD rfl (fun hg2 => ?_) (fun hg2 => ?_)) | (refine CJ_condN rfl (fun hg2 => ?_) (fun hg2 => ?_)) | (refine CJ_cond rfl (fun hg2 => ?_) (fun hg2 => ?_))
   ·
    refine kT <| CJ_seq <| CJ_block <| sR ?_
    first | (refine RJ_op rfl (OJ_V (V_index rfl rfl rfl (by omega) foc4 hA Tryz.runUnderlying35 Tryz.sizeOf3) rfl ?_)) | (refine RJ_op rfl (OJ_V (V_index rfl rfl (Int.toNat_of_nonneg (by omega)).symm (by omega) foc4 hA Tryz.runUnderlying35 Tryz.sizeOf3) rfl ?_))
    refine oV (V_loadE rfl rfl (by omega) foc4 hA rfl rfl Tryz.isAgg3) rfl <| oA rfl rfl <| nT <| CJ_seq <| sR <| oM rfl rfl <| oP (P_lss rfl rfl) rfl <| oM rfl rfl ?_
    first | (refine RJ_splitD 21 rfl (fun hg3B hg3 => ?_) (fun hg3B hg3 => ?_)) | (refine RJ_splitN 21 rfl (fun hg3B hg3 => ?_) (fun hg3B hg3 => ?_)) | (refine RJ_split 21 rfl (fun hg3B => ?_) (fun hg3B => ?_))
    ·
     exfalso; have := hz (by omega); omega
    ·
     refine gP (GY_yes rfl rfl rfl hg3B) (P_move rfl) rfl <| gP (GY_yes rfl rfl rfl hg3B) (P_gtr rfl rfl) rfl <| oP (P_pickF rfl hg3B rfl) rfl <| nT ?_
     first | (refine CJ_condD rfl (fun hg4 => ?_) (fun hg4 => ?_)) | (refine CJ_condN rfl (fun hg4 => ?_) (fun hg4 => ?_)) | (refine CJ_cond rfl (fun hg4 => ?_) (fun hg4 => ?_))
     ·
      exfalso; have := hz (by omega); omega
     ·
      refine kT ?_
      have hz := hz (by omega)
      obtain ⟨m, hmz⟩ : ∃ m : Nat, (m : Int) = zs.getD k tyI.dflt := ⟨(zs.getD k 0).toNat, by omega⟩
      refine AJ_startH 18432 (by kernel_rfl) rfl <| aN 0 1 rfl rfl (P_move rfl) rfl <| aN 1 3 rfl rfl (P_move rfl) rfl <| aN 2 7 rfl rfl (P_nilCheck rfl) rfl <| aN 3 15 rfl rfl (P_fieldAddr rfl ⟨_, _, _, Tryz.runUnderlying104, rfl, rfl, Tryz.sizeOf100, rfl⟩) rfl <| aV 4 31 rfl rfl (GY_none rfl) (t0_ (t0_ (t0_ (t0_ (t0_ eR))))) (V_load rfl foc0 rfl Tryz.isAgg100) rfl <| aN 5 63 rfl rfl (P_move rfl) rfl <| aN 7 191 rfl rfl (P_move rfl) rfl <| AJ_two 6 8 255 447 rfl rfl (by kernel_rfl) rfl rfl (GY_none rfl) (GY_none rfl) (O_make (t := tyU) (m := m) (x0 := 0) (z := _) (bytes := _) rfl rfl hmz.symm hmz.symm Tryz.underlying43 ⟨Tryz.t44, by kernel_rfl, rfl, rfl, rfl⟩ rfl (by omega) (by decide) rfl (fun b3 => ?_)) (O_make (t := tyU) (m := m) (x0 := 0) (z := _) (bytes := _) rfl rfl hmz.symm hmz.symm Tryz.underlying43 ⟨Tryz.t44, by kernel_rfl, rfl, rfl, rfl⟩ rfl (by omega) (by decide) rfl (fun b4 => ?_))
      ·
       refine ⟨fun _ => (t1_ (t1_ (t1_ (t1_ (t1_ (eD eR)))))), ?_⟩
       refine AJ_op 8 511 rfl (by kernel_rfl) rfl (GY_none rfl) <| O_make (t := tyU) (m := m) (x0 := 0) (z := _) (bytes := _) rfl rfl hmz.symm hmz.symm Tryz.underlying43 ⟨Tryz.t44, by kernel_rfl, rfl, rfl, rfl⟩ rfl (by omega) (by decide) rfl fun b5 => ⟨fun _ => (t2_ (t2_ (t2_ (t2_ (t2_ (eD (eD eR))))))), ?_⟩
       refine aN 9 1023 rfl rfl (P_build rfl (bld_99_0_1 _ _ _ _ _ _)) rfl <| AJ_op 10 2047 rfl (by kernel_rfl) rfl (GY_none rfl) <| O_buildSlice rfl (bs_100_1_0 _ _ _ _ _ _ _) rfl fun b6 => ⟨fun _ => (t3_ (t3_ (t3_ (t3_ (t3_ (eD (eD (eD eR)))))))), ?_⟩
       refine AJ_op 11 4095 rfl (by kernel_rfl) rfl (GY_none rfl) <| O_append (t := tyDrv) (bytes := 56) rfl rfl del4 foc0 (Reads.lit (t := tyDrv) (ys := [⟨⟨some ⟨b3, 0, none⟩, m, m⟩, ⟨some ⟨b5, 0, none⟩, m, m⟩, false⟩]) rfl rfl (by decide) (by decide) rfl) Tryz.underlying100 ok_tyDrv (by simp only [List.length_append, List.length_cons, List.length_nil, maxLen] at *; omega) (by simp only [List.length_append, List.length_cons, List.length_nil, maxLen] at *; omega) rfl fun p7 c8 => ⟨fun h => absurd h (by decide), ?_⟩
       refine aN 12 8191 rfl rfl (P_nilCheck rfl) rfl <| aN 13 16383 rfl rfl (P_fieldAddr rfl ⟨_, _, _, Tryz.runUnderlying104, rfl, rfl, Tryz.sizeOf100, rfl⟩) rfl <| AJ_op 14 32767 rfl (by kernel_rfl) rfl (GY_none rfl) <| O_store rfl rfl foc4 rfl rfl Tryz.sizeOf100 <| ⟨fun h => absurd h (by decide), ?_⟩
       refine AJ_done (by kernel_rfl) <| QJ_block_normal <| QJ_then <| CJ_region <| oP (P_add rfl rfl (by omega)) rfl <| oM rfl rfl <| RJ_nil <| QJ_nextR ⟨k + 1, ⟨p7, _, c8⟩, l ++ [((⟨⟨some ⟨b3, 0, none⟩, m, m⟩, ⟨some ⟨b5, 0, none⟩, m, m⟩, false⟩ : DrvH), (⟨List.replicate m 0, List.replicate m 0, false⟩ : Drive))]⟩ (by first | omega | (simp only []; omega)) ?_ (by repeat (first | exact Kp.base | exact Kp.self | refine Kp.cons rfl ?_ | refine Kp.forget rfl ?_)) ?_ (Ent.trans (Ent.trans (t3_ (t2_ (t3_ eR))) (DOwn_push ((⟨⟨some ⟨b3, 0, none⟩, m, m⟩, ⟨some ⟨b5, 0, none⟩, m, m⟩, false⟩ : DrvH), (⟨List.replicate m 0, List.replicate m 0, false⟩ : Drive)))) (t3_ (Ent.takeC del1 (congrArg (sl tyDrv _) (hs_snoc l ((⟨⟨some ⟨b3, 0, none⟩, m, m⟩, ⟨some ⟨b5, 0, none⟩, m, m⟩, false⟩ : DrvH), (⟨List.replicate m 0, List.replicate m 0, false⟩ : Drive))).symm) (t0_ (t1_ (t1_ (eD eR)))))))
       ·
        refine ⟨by omega, ?_, ?_⟩
        · have e : mkD (zs.getD k 0) = ⟨List.replicate m 0, List.replicate m 0, false⟩ := by
            rw [mkD, ← hd0, ← hmz]; rfl
          rw [take_snocI1 zs k (by omega), List.map_append, List.map_append, hl]
          show _ ++ [_] = _ ++ [mkD _]
          rw [e]
        · intro p hp
          rcases List.mem_append.1 hp with hp | hp
          · exact hm p hp
          · simp at hp; subst hp; rfl
       · exact ⟨rfl, True.intro⟩
      ·
       refine ⟨fun _ => (t1_ (t1_ (t1_ (t1_ (t1_ (eD eR)))))), ?_⟩
       refine AJ_op 6 511 rfl (by kernel_rfl) rfl (GY_none rfl) <| O_make (t := tyU) (m := m) (x0 := 0) (z := _) (bytes := _) rfl rfl hmz.symm hmz.symm Tryz.underlying43 ⟨Tryz.t44, by kernel_rfl, rfl, rfl, rfl⟩ rfl (by omega) (by decide) rfl fun b9 => ⟨fun _ => (t2_ (t2_ (t2_ (t2_ (t2_ (eD (eD eR))))))), ?_⟩
       refine aN 9 1023 rfl rfl (P_build rfl (bld_99_0_1 _ _ _ _ _ _)) rfl <| AJ_op 10 2047 rfl (by kernel_rfl) rfl (GY_none rfl) <| O_buildSlice rfl (bs_100_1_0 _ _ _ _ _ _ _) rfl fun b10 => ⟨fun _ => (t3_ (t3_ (t3_ (t3_ (t3_ (eD (eD (eD eR)))))))), ?_⟩
       refine AJ_op 11 4095 rfl (by kernel_rfl) rfl (GY_none rfl) <| O_append (t := tyDrv) (bytes := 56) rfl rfl del4 foc0 (Reads.lit (t := tyDrv) (ys := [⟨⟨some ⟨b9, 0, none⟩, m, m⟩, ⟨some ⟨b4, 0, none⟩, m, m⟩, false⟩]) rfl rfl (by decide) (by decide) rfl) Tryz.underlying100 ok_tyDrv (by simp only [List.length_append, List.length_cons, List.length_nil, maxLen] at *; omega) (by simp only [List.length_append, List.length_cons, List.length_nil, maxLen] at *; omega) rfl fun p11 c12 => ⟨fun h => absurd h (by decide), ?_⟩
       refine aN 12 8191 rfl rfl (P_nilCheck rfl) rfl <| aN 13 16383 rfl rfl (P_fieldAddr rfl ⟨_, _, _, Tryz.runUnderlying104, rfl, rfl, Tryz.sizeOf100, rfl⟩) rfl <| AJ_op 14 32767 rfl (by kernel_rfl) rfl (GY_none rfl) <| O_store rfl rfl foc4 rfl rfl Tryz.sizeOf100 <| ⟨fun h => absurd h (by decide), ?_⟩
       refine AJ_done (by kernel_rfl) <| QJ_block_normal <| QJ_then <| CJ_region <| oP (P_add rfl rfl (by omega)) rfl <| oM rfl rfl <| RJ_nil <| QJ_nextR ⟨k + 1, ⟨p11, _, c12⟩, l ++ [((⟨⟨some ⟨b9, 0, none⟩, m, m⟩, ⟨some ⟨b4, 0, none⟩, m, m⟩, false⟩ : DrvH), (⟨List.replicate m 0, List.replicate m 0, false⟩ : Drive))]⟩ (by first | omega | (simp only []; omega)) ?_ (by repeat (first | exact Kp.base | exact Kp.self | refine Kp.cons rfl ?_ | refine Kp.forget rfl ?_)) ?_ (Ent.trans (Ent.trans (t2_ (t2_ (t3_ eR))) (DOwn_push ((⟨⟨some ⟨b9, 0, none⟩, m, m⟩, ⟨some ⟨b4, 0, none⟩, m, m⟩, false⟩ : DrvH), (⟨List.replicate m 0, List.replicate m 0, false⟩ : Drive)))) (t3_ (Ent.takeC del1 (congrArg (sl tyDrv _) (hs_snoc l ((⟨⟨some ⟨b9, 0, none⟩, m, m⟩, ⟨some ⟨b4, 0, none⟩, m, m⟩, false⟩ : DrvH), (⟨List.replicate m 0, List.replicate m 0, false⟩ : Drive))).symm) (t0_ (t1_ (t1_ (eD eR)))))))
       ·
        refine ⟨by omega, ?_, ?_⟩
        · have e : mkD (zs.getD k 0) = ⟨List.replicate m 0, List.replicate m 0, false⟩ := by
            rw [mkD, ← hd0, ← hmz]; rfl
          rw [take_snocI1 zs k (by omega), List.map_append, List.map_append, hl]
          show _ ++ [_] = _ ++ [mkD _]
          rw [e]
        · intro p hp
          rcases List.mem_append.1 hp with hp | hp
          · exact hm p hp
          · simp at hp; subst hp; rfl
       · exact ⟨rfl, True.intro⟩
   ·
    refine CJ_exit <| QJ_then_exit <| QJ_round_exit <| QJ_block_here <| QJ_then <| sR <| oM rfl rfl <| oA rfl rfl <| oA rfl rfl <| nT <| CJ_ret <| QJ_end (res2 Tryz.results23 rfl rfl) ?_
    obtain rfl : k = zs.length := by omega
    rw [List.take_length] at hl
    refine CSpec.close b2 ?_ ?_ (Ent.trans (Ent.trans (t0_ (t0_ (t0_ (t0_ eR)))) (Arr_new hl hm (newS_wf hN.1 hN.2))) (t0_ (t0_ eR)))
    · rfl
    · trivial
theorem c_NewBad {W : World} {A : HP} {v : Value} {zs : List Int} (hA : Reads A tyI v zs) (hN : ¬ NewOk zs) (h63 : zs.length ≤ 4611686018427387904) :
    CSpec Tryz.prog W 23 [v] [A] (fun _ : Unit => .tuple #[.pointer none, .int .i64 (if 8 < zs.length then 4 else 1)]) (fun _ => True) (fun _ F => A :: F) := by
 skip
 refine CSpec.of_body Tryz.func23 rfl Tryz.ntmps23 rfl fun F => ?_
 show CJ _ _ _ _ _ _ (_ :: F)
 refine sR <| oA rfl rfl <| oA rfl rfl <| nT <| CJ_seq <| sR <| oM rfl rfl <| oV (V_len rfl foc0 hA Tryz.runUnderlying35) rfl <| oP (P_gtr rfl rfl) rfl <| nT ?_
 first | (refine CJ_condD rfl (fun hg1 => ?_) (fun hg1 => ?_)) | (refine CJ_condN rfl (fun hg1 => ?_) (fun hg1 => ?_)) | (refine CJ_cond rfl (fun hg1 => ?_) (fun hg1 => ?_))
 ·
  refine sR <| oA rfl rfl <| oA rfl rfl <| nT <| CJ_ret <| QJ_then_ret <| QJ_end (res2 Tryz.results23 rfl rfl) <| CSpec.close () ?_ ?_ (t0_ eR)
  · first | exact tup2p (if_pos (by omega)).symm | exact tup2p (if_neg (by omega)).symm
  · trivial
 ·
  refine kT <| sR <| oO <| O_makeMap mBad rfl fun b1 => oP (P_build rfl (bld_104_1 _)) rfl <| oO <| O_box rfl rfl rfl fun b2 => oA rfl rfl <| nT <| CJ_seq <| sR <| oM rfl rfl <| oV (V_len rfl foc2 hA Tryz.runUnderlying35) rfl <| oM rfl rfl <| nT <| CJ_block <| CJ_ent (fun h hh => sl_nil (t := tyDrv) h hh) <| CJ_ent DOwn_nil <| CJ_loopR (X := Nat × Sl3 × DL) [2, 3, 6, 15, 16, 17, 18, 19, 20, 21, 22, 23, 24, 25, 26, 27, 28, 29, 30, 31, 32, 33, 34, 35, 36, 37, 38, 39] (fun ⟨k, dv, l⟩  => ([(15, .int .i64 (k : Nat))] : Slots)) (fun ⟨k, dv, l⟩ R => blk b2 104 [dv.v, .map (some b1), .slice none 0 0, .int .i64 0, .bool false, .int .i64 0] :: sl tyDrv dv.v (DL.hs l) :: DOwn l :: R) (fun ⟨k, dv, l⟩  => k ≤ zs.length ∧ l.map Prod.snd = (zs.take k).map mkD ∧ (∀ p ∈ l, p.1.miss = p.2.miss) ∧ (∀ j, j < k → 1 ≤ zs.getD j 0 ∧ zs.getD j 0 ≤ 65536)) (fun ⟨k, dv, l⟩  => zs.length - k) ⟨0, ⟨none, 0, 0⟩, []⟩ ?_ ?_ (t2_ (t1_ (t0_ (t0_ (t0_ eR))))) ?_
  · exact ⟨Nat.zero_le _, rfl, (fun p hp => by cases hp), fun j hj => by omega⟩
  · exact ⟨rfl, True.intro⟩
  ·
   rintro ⟨k, dv, l⟩ ⟨hk, hl, hm, hall⟩
   show CJ _ _ _ _ _ (([(15, .int .i64 (k : Nat))] : Slots) ++ forget _ _) (blk b2 104 [dv.v, .map (some b1), .slice none 0 0, .int .i64 0, .bool false, .int .i64 0] :: sl tyDrv dv.v (DL.hs l) :: DOwn l :: _)
   have hlen : l.length = k := by have := congrArg List.length hl; simp at this; omega
   have hlen2 : (DL.hs l).length = k := by simp [hlen]
   have hd0 := tyI_at zs k
   refine sR <| oP (P_lss rfl rfl) rfl <| nT <| CJ_seq ?_
   first | (refine CJ_condD rfl (fun hg2 => ?_) (fun hg2 => ?_)) | (refine CJ_condN rfl (fun hg2 => ?_) (fun hg2 => ?_)) | (refine CJ_cond rfl (fun hg2 => ?_) (fun hg2 => ?_))
   ·
    refine kT <| CJ_seq <| CJ_block <| sR ?_
    first | (refine RJ_op rfl (OJ_V (V_index rfl rfl rfl (by omega) foc4 hA Tryz.runUnderlying35 Tryz.sizeOf3) rfl ?_)) | (refine RJ_op rfl (OJ_V (V_index rfl rfl (Int.toNat_of_nonneg (by omega)).symm (by omega) foc4 hA Tryz.runUnderlying35 Tryz.sizeOf3) rfl ?_))
    refine oV (V_loadE rfl rfl (by omega) foc4 hA rfl rfl Tryz.isAgg3) rfl <| oA rfl rfl <| nT <| CJ_seq <| sR <| oM rfl rfl <| oP (P_lss rfl rfl) rfl <| oM rfl rfl ?_
    first | (refine RJ_splitD 21 rfl (fun hg3B hg3 => ?_) (fun hg3B hg3 => ?_)) | (refine RJ_splitN 21 rfl (fun hg3B hg3 => ?_) (fun hg3B hg3 => ?_)) | (refine RJ_split 21 rfl (fun hg3B => ?_) (fun hg3B => ?_))
    ·
     refine RJ_gn (GY_no rfl rfl rfl hg3B) rfl rfl <| RJ_gn (GY_no rfl rfl rfl hg3B) rfl rfl <| oP (P_pickT rfl hg3B rfl) rfl <| nT <| CJ_condT rfl rfl <| sR <| oA rfl rfl <| oA rfl rfl <| nT <| CJ_ret <| QJ_then_ret <| QJ_block_ret <| QJ_then_ret <| QJ_round_ret <| QJ_block_ret <| QJ_then_ret <| QJ_end (res2 Tryz.results23 rfl rfl) <| CSpec.close () ?_ ?_ (t4_ (eD (eD (eD (eD eR)))))
     · first | exact tup2p (if_pos (by omega)).symm | exact tup2p (if_neg (by omega)).symm
     · trivial
    ·
     refine gP (GY_yes rfl rfl rfl hg3B) (P_move rfl) rfl <| gP (GY_yes rfl rfl rfl hg3B) (P_gtr rfl rfl) rfl <| oP (P_pickF rfl hg3B rfl) rfl <| nT ?_
     first | (refine CJ_condD rfl (fun hg4 => ?_) (fun hg4 => ?_)) | (refine CJ_condN rfl (fun hg4 => ?_) (fun hg4 => ?_)) | (refine CJ_cond rfl (fun hg4 => ?_) (fun hg4 => ?_))
     ·
      refine sR <| oA rfl rfl <| oA rfl rfl <| nT <| CJ_ret <| QJ_then_ret <| QJ_block_ret <| QJ_then_ret <| QJ_round_ret <| QJ_block_ret <| QJ_then_ret <| QJ_end (res2 Tryz.results23 rfl rfl) <| CSpec.close () ?_ ?_ (t4_ (eD (eD (eD (eD eR)))))
      · first | exact tup2p (if_pos (by omega)).symm | exact tup2p (if_neg (by omega)).symm
      · trivial
     ·
      refine kT ?_
      have hz : 1 ≤ zs.getD k 0 ∧ zs.getD k 0 ≤ 65536 := ⟨by omega, by omega⟩
      obtain ⟨m, hmz⟩ : ∃ m : Nat, (m : Int) = zs.getD k tyI.dflt := ⟨(zs.getD k 0).toNat, by omega⟩
      refine AJ_startH 18432 (by kernel_rfl) rfl <| aN 0 1 rfl rfl (P_move rfl) rfl <| aN 1 3 rfl rfl (P_move rfl) rfl <| aN 2 7 rfl rfl (P_nilCheck rfl) rfl <| aN 3 15 rfl rfl (P_fieldAddr rfl ⟨_, _, _, Tryz.runUnderlying104, rfl, rfl, Tryz.sizeOf100, rfl⟩) rfl <| aV 4 31 rfl rfl (GY_none rfl) (t0_ (t0_ (t0_ (t0_ (t0_ eR))))) (V_load rfl foc0 rfl Tryz.isAgg100) rfl <| aN 5 63 rfl rfl (P_move rfl) rfl <| aN 7 191 rfl rfl (P_move rfl) rfl <| AJ_two 6 8 255 447 rfl rfl (by kernel_rfl) rfl rfl (GY_none rfl) (GY_none rfl) (O_make (t := tyU) (m := m) (x0 := 0) (z := _) (bytes := _) rfl rfl hmz.symm hmz.symm Tryz.underlying43 ⟨Tryz.t44, by kernel_rfl, rfl, rfl, rfl⟩ rfl (by omega) (by decide) rfl (fun b3 => ?_)) (O_make (t := tyU) (m := m) (x0 := 0) (z := _) (bytes := _) rfl rfl hmz.symm hmz.symm Tryz.underlying43 ⟨Tryz.t44, by kernel_rfl, rfl, rfl, rfl⟩ rfl (by omega) (by decide) rfl (fun b4 => ?_))
      ·
       refine ⟨fun _ => (t1_ (t1_ (t1_ (t1_ (t1_ (eD eR)))))), ?_⟩
       refine AJ_op 8 511 rfl (by kernel_rfl) rfl (GY_none rfl) <| O_make (t := tyU) (m := m) (x0 := 0) (z := _) (bytes := _) rfl rfl hmz.symm hmz.symm Tryz.underlying43 ⟨Tryz.t44, by kernel_rfl, rfl, rfl, rfl⟩ rfl (by omega) (by decide) rfl fun b5 => ⟨fun _ => (t2_ (t2_ (t2_ (t2_ (t2_ (eD (eD eR))))))), ?_⟩
       refine aN 9 1023 rfl rfl (P_build rfl (bld_99_0_1 _ _ _ _ _ _)) rfl <| AJ_op 10 2047 rfl (by kernel_rfl) rfl (GY_none rfl) <| O_buildSlice rfl (bs_100_1_0 _ _ _ _ _ _ _) rfl fun b6 => ⟨fun _ => (t3_ (t3_ (t3_ (t3_ (t3_ (eD (eD (eD eR)))))))), ?_⟩
       refine AJ_op 11 4095 rfl (by kernel_rfl) rfl (GY_none rfl) <| O_append (t := tyDrv) (bytes := 56) rfl rfl del4 foc0 (Reads.lit (t := tyDrv) (ys := [⟨⟨some ⟨b3, 0, none⟩, m, m⟩, ⟨some ⟨b5, 0, none⟩, m, m⟩, false⟩]) rfl rfl (by decide) (by decide) rfl) Tryz.underlying100 ok_tyDrv (by simp only [List.length_append, List.length_cons, List.length_nil, maxLen] at *; omega) (by simp only [List.length_append, List.length_cons, List.length_nil, maxLen] at *; omega) rfl fun p7 c8 => ⟨fun h => absurd h (by decide), ?_⟩
       refine aN 12 8191 rfl rfl (P_nilCheck rfl) rfl <| aN 13 16383 rfl rfl (P_fieldAddr rfl ⟨_, _, _, Tryz.runUnderlying104, rfl, rfl, Tryz.sizeOf100, rfl⟩) rfl <| AJ_op 14 32767 rfl (by kernel_rfl) rfl (GY_none rfl) <| O_store rfl rfl foc4 rfl rfl Tryz.sizeOf100 <| ⟨fun h => absurd h (by decide), ?_⟩
       refine AJ_done (by kernel_rfl) <| QJ_block_normal <| QJ_then <| CJ_region <| oP (P_add rfl rfl (by omega)) rfl <| oM rfl rfl <| RJ_nil <| QJ_nextR ⟨k + 1, ⟨p7, _, c8⟩, l ++ [((⟨⟨some ⟨b3, 0, none⟩, m, m⟩, ⟨some ⟨b5, 0, none⟩, m, m⟩, false⟩ : DrvH), (⟨List.replicate m 0, List.replicate m 0, false⟩ : Drive))]⟩ (by first | omega | (simp only []; omega)) ?_ (by repeat (first | exact Kp.base | exact Kp.self | refine Kp.cons rfl ?_ | refine Kp.forget rfl ?_)) ?_ (Ent.trans (Ent.trans (t3_ (t2_ (t3_ eR))) (DOwn_push ((⟨⟨some ⟨b3, 0, none⟩, m, m⟩, ⟨some ⟨b5, 0, none⟩, m, m⟩, false⟩ : DrvH), (⟨List.replicate m 0, List.replicate m 0, false⟩ : Drive)))) (t3_ (Ent.takeC del1 (congrArg (sl tyDrv _) (hs_snoc l ((⟨⟨some ⟨b3, 0, none⟩, m, m⟩, ⟨some ⟨b5, 0, none⟩, m, m⟩, false⟩ : DrvH), (⟨List.replicate m 0, List.replicate m 0, false⟩ : Drive))).symm) (t0_ (t1_ (t1_ (eD eR)))))))
       ·
        refine ⟨by omega, ?_, ?_, fun j hj => (by
          rcases Nat.lt_or_ge j k with h | h
          · exact hall j h
          · obtain rfl : j = k := by omega
            exact hz)⟩
        · have e : mkD (zs.getD k 0) = ⟨List.replicate m 0, List.replicate m 0, false⟩ := by
            rw [mkD, ← hd0, ← hmz]; rfl
          rw [take_snocI1 zs k (by omega), List.map_append, List.map_append, hl]
          show _ ++ [_] = _ ++ [mkD _]
          rw [e]
        · intro p hp
          rcases List.mem_append.1 hp with hp | hp
          · exact hm p hp
          · simp at hp; subst hp; rfl
       · exact ⟨rfl, True.intro⟩
      ·
       refine ⟨fun _ => (t1_ (t1_ (t1_ (t1_ (t1_ (eD eR)))))), ?_⟩
       refine AJ_op 6 511 rfl (by kernel_rfl) rfl (GY_none rfl) <| O_make (t := tyU) (m := m) (x0 := 0) (z := _) (bytes := _) rfl rfl hmz.symm hmz.symm Tryz.underlying43 ⟨Tryz.t44, by kernel_rfl, rfl, rfl, rfl⟩ rfl (by omega) (by decide) rfl fun b9 => ⟨fun _ => (t2_ (t2_ (t2_ (t2_ (t2_ (eD (eD eR))))))), ?_⟩
       refine aN 9 1023 rfl rfl (P_build rfl (bld_99_0_1 _ _ _ _ _ _)) rfl <| AJ_op 10 2047 rfl (by kernel_rfl) rfl (GY_none rfl) <| O_buildSlice rfl (bs_100_1_0 _ _ _ _ _ _ _) rfl fun b10 => ⟨fun _ => (t3_ (t3_ (t3_ (t3_ (t3_ (eD (eD (eD eR)))))))), ?_⟩
       refine AJ_op 11 4095 rfl (by kernel_rfl) rfl (GY_none rfl) <| O_append (t := tyDrv) (bytes := 56) rfl rfl del4 foc0 (Reads.lit (t := tyDrv) (ys := [⟨⟨some ⟨b9, 0, none⟩, m, m⟩, ⟨some ⟨b4, 0, none⟩, m, m⟩, false⟩]) rfl rfl (by decide) (by decide) rfl) Tryz.underlying100 ok_tyDrv (by simp only [List.length_append, List.length_cons, List.length_nil, maxLen] at *; omega) (by simp only [List.length_append, List.length_cons, List.length_nil, maxLen] at *; omega) rfl fun p11 c12 => ⟨fun h => absurd h (by decide), ?_⟩
       refine aN 12 8191 rfl rfl (P_nilCheck rfl) rfl <| aN 13 16383 rfl rfl (P_fieldAddr rfl ⟨_, _, _, Tryz.runUnderlying104, rfl, rfl, Tryz.sizeOf100, rfl⟩) rfl <| AJ_op 14 32767 rfl (by kernel_rfl) rfl (GY_none rfl) <| O_store rfl rfl foc4 rfl rfl Tryz.sizeOf100 <| ⟨fun h => absurd h (by decide), ?_⟩
       refine AJ_done (by kernel_rfl) <| QJ_block_normal <| QJ_then <| CJ_region <| oP (P_add rfl rfl (by omega)) rfl <| oM rfl rfl <| RJ_nil <| QJ_nextR ⟨k + 1, ⟨p11, _, c12⟩, l ++ [((⟨⟨some ⟨b9, 0, none⟩, m, m⟩, ⟨some ⟨b4, 0, none⟩, m, m⟩, false⟩ : DrvH), (⟨List.replicate m 0, List.replicate m 0, false⟩ : Drive))]⟩ (by first | omega | (simp only []; omega)) ?_ (by repeat (first | exact Kp.base | exact Kp.self | refine Kp.cons rfl ?_ | refine Kp.forget rfl ?_)) ?_ (Ent.trans (Ent.trans (t2_ (t2_ (t3_ eR))) (DOwn_push ((⟨⟨some ⟨b9, 0, none⟩, m, m⟩, ⟨some ⟨b4, 0, none⟩, m, m⟩, false⟩ : DrvH), (⟨List.replicate m 0, List.replicate m 0, false⟩ : Drive)))) (t3_ (Ent.takeC del1 (congrArg (sl tyDrv _) (hs_snoc l ((⟨⟨some ⟨b9, 0, none⟩, m, m⟩, ⟨some ⟨b4, 0, none⟩, m, m⟩, false⟩ : DrvH), (⟨List.replicate m 0, List.replicate m 0, false⟩ : Drive))).symm) (t0_ (t1_ (t1_ (eD eR)))))))
       ·
        refine ⟨by omega, ?_, ?_, fun j hj => (by
          rcases Nat.lt_or_ge j k with h | h
          · exact hall j h
          · obtain rfl : j = k := by omega
            exact hz)⟩
        · have e : mkD (zs.getD k 0) = ⟨List.replicate m 0, List.replicate m 0, false⟩ := by
            rw [mkD, ← hd0, ← hmz]; rfl
          rw [take_snocI1 zs k (by omega), List.map_append, List.map_append, hl]
          show _ ++ [_] = _ ++ [mkD _]
          rw [e]
        · intro p hp
          rcases List.mem_append.1 hp with hp | hp
          · exact hm p hp
          · simp at hp; subst hp; rfl
       · exact ⟨rfl, True.intro⟩
   ·
    refine CJ_exit <| QJ_then_exit <| QJ_round_exit <| QJ_block_here <| QJ_then <| sR <| oM rfl rfl <| oA rfl rfl <| oA rfl rfl <| nT <| CJ_ret <| QJ_end (res2 Tryz.results23 rfl rfl) ?_
    obtain rfl : k = zs.length := by omega
    exact absurd ⟨by omega, hall⟩ hN
    skip
theorem c_FlushD {W : World} {b : Nat} {s : ArrS} {d : Int} (hW : s.writes ≤ 1000000000) :
    CSpec Tryz.prog W 148 [ptr b 0, .int .i64 d] [Arr b s] (fun _ : Unit => .int .i64 (flC s d)) (fun _ => True) (fun _ F => Arr b (flS s d) :: F) := by
 refine CSpec.of_body Tryz.func148 rfl Tryz.ntmps148 rfl fun F => ?_
 show CJ _ _ _ _ _ _ (_ :: F)
 refine sR <| oA rfl rfl <| nT <| CJ_seq <| sR <| oM rfl rfl <| oP (P_build rfl (bld_96_0 _)) rfl <| oM rfl rfl <| oP (P_makeFunc rfl rfl) rfl <| oM rfl rfl <| oP (P_makeFunc rfl rfl) rfl <| oM rfl rfl <| oP (P_makeFunc rfl rfl) rfl <| oO <| O_buildSlice rfl (bs_153_3_0_1_2 _ _ _ _ _ _ _ _ _) rfl fun b1 => RJ_ent (Ent.trans (t0_ eR) (sl_of_lit (t := tyFn) (m := 3) [(53, ptr b 0), (54, ptr b 0), (56, ptr b 0)] rfl rfl rfl (by decide))) <| oO <| O_call (c_chk3 (Reads.sl _ _ _)) rfl Tryz.call52 (Dels.cons del0 (Dels.cons del0 Dels.nil)) rfl fun _ hc2 => oA rfl rfl <| nT <| sR <| oM rfl rfl <| oP (P_neq rfl rfl) rfl <| nT ?_
 first | (refine CJ_condD rfl (fun hg1 => ?_) (fun hg1 => ?_)) | (refine CJ_condN rfl (fun hg1 => ?_) (fun hg1 => ?_)) | (refine CJ_cond rfl (fun hg1 => ?_) (fun hg1 => ?_))
 ·
  refine sR <| oM rfl rfl <| oA rfl rfl <| nT <| CJ_ret <| QJ_then_ret <| QJ_end (res1 Tryz.results148 rfl) <| CSpec.close () ?_ ?_ (Ent.takeC del1 (congrArg (Arr b) (flS_bad hg1).symm) (eD eR))
  · rfl
  · trivial
 ·
  have hC := Decidable.not_not.1 hg1
  obtain ⟨i, rfl, g2⟩ := fl_ok hC
  refine kT <| CJ_seq <| CJ_entX (Ent.transX (t1_ eR) Arr_open) fun ⟨dv, lv, mr, l⟩ => CJ_pur fun hX => ?_
  obtain ⟨hl, hm, hw⟩ : l.map Prod.snd = (s).drv ∧ (∀ p ∈ l, p.1.miss = p.2.miss) ∧ ArrWF (s) := hX
  show CJ _ _ _ _ _ _ (blk b 104 [Sl3.v dv, .map (some mr), Sl3.v lv, _, _, _] :: sl tyDrv (Sl3.v dv) (DL.hs l) :: DOwn l :: sl tyRec (Sl3.v lv) _ :: mpc mBad mr _ :: _)
  have hn := hs_len hl
  have hwF := hw.fuse
  have hwL := hw.len
  have hwC := hw.cnt
  refine CJ_ent (Ent.trans (t2_ eR) (DOwn_open i hl (by omega))) <| CJ_region <| oM rfl rfl <| oP (P_nilCheck rfl) rfl <| oP (P_fieldAddr rfl ⟨_, _, _, Tryz.runUnderlying104, rfl, rfl, Tryz.sizeOf100, rfl⟩) rfl <| oV (V_load rfl foc3 rfl Tryz.isAgg100) rfl <| oM rfl rfl ?_
  first | (refine RJ_op rfl (OJ_V (V_index rfl rfl rfl (by omega) foc4 (Reads.sl _ _ _) Tryz.runUnderlying100 Tryz.sizeOf99) rfl ?_)) | (refine RJ_op rfl (OJ_V (V_index rfl rfl (Int.toNat_of_nonneg (by omega)).symm (by omega) foc4 (Reads.sl _ _ _) Tryz.runUnderlying100 Tryz.sizeOf99) rfl ?_))
  refine oV (V_loadEN rfl rfl (by omega) foc4 (Reads.sl _ _ _) rfl rfl Tryz.isAgg99 Tryz.sizeOf99) rfl <| oO <| O_alloc Tryz.zeroValue99 rfl rfl fun b3 => oO <| O_storeN rfl rfl foc0 Tryz.sizeOf99 rfl rfl rfl <| nT <| sR <| oA rfl rfl <| nT <| CJ_seq <| sR <| oM rfl rfl <| oP (P_nilCheck rfl) rfl <| oP (P_fieldAddr rfl ⟨_, _, _, Tryz.runUnderlying104, rfl, rfl, Tryz.sizeOf102, rfl⟩) rfl <| oV (V_load rfl foc4 rfl Tryz.isAgg102) rfl <| oV (V_len rfl foc6 (Reads.sl _ _ _) Tryz.runUnderlying102) rfl <| oM rfl rfl <| nT <| CJ_block <| CJ_ent (fun h hh => sl_nil (t := tyRec) h hh) <| CJ_loopR (X := Nat × Sl3) [7, 9, 35, 36, 37, 38, 39, 40, 41, 42, 43, 44, 45, 46, 47, 48, 49, 50, 51, 52, 53, 54, 55, 56, 57, 58, 59, 60, 61] (fun ⟨k, rv⟩  => ([(7, rv.v), (35, .int .i64 (k : Nat))] : Slots)) (fun ⟨k, rv⟩ R => sl tyU ((DL.hs l).getD i dH0).dur.v (flDur (s.drv.getD i d0).now i (s.log.take k) (s.drv.getD i d0).dur) :: sl tyRec rv.v (others i (s.log.take k)) :: R) (fun ⟨k, rv⟩  => k ≤ s.log.length) (fun ⟨k, rv⟩  => s.log.length - k) ⟨0, ⟨none, 0, 0⟩⟩ ?_ ?_ (t3_ (t0_ (t0_ (t0_ (t0_ (t0_ (t0_ (t0_ (t0_ (t0_ eR)))))))))) ?_
  · omega
  · exact ⟨rfl, rfl, True.intro⟩
  ·
   rintro ⟨k, rv⟩ hk
   show CJ _ _ _ _ _ (([(7, rv.v), (35, .int .i64 (k : Nat))] : Slots) ++ forget _ _) (sl tyU ((DL.hs l).getD i dH0).dur.v (flDur (s.drv.getD i d0).now i (s.log.take k) (s.drv.getD i d0).dur) :: sl tyRec rv.v (others i (s.log.take k)) :: _)
   refine sR <| oP (P_lss rfl rfl) rfl <| nT <| CJ_seq ?_
   first | (refine CJ_condD rfl (fun hg2 => ?_) (fun hg2 => ?_)) | (refine CJ_condN rfl (fun hg2 => ?_) (fun hg2 => ?_)) | (refine CJ_cond rfl (fun hg2 => ?_) (fun hg2 => ?_))
   ·
    refine kT <| CJ_seq <| CJ_block <| CJ_seq ?_
    have hr : (s.log.getD k tyRec.dflt).d < s.drv.length ∧ (s.log.getD k tyRec.dflt).a < s.size (s.log.getD k tyRec.dflt).d := hw.log k (by omega)
    refine CJ_region ?_
    first | (refine RJ_op rfl (OJ_V (V_index rfl rfl rfl (by omega) foc7 (Reads.sl _ _ _) Tryz.runUnderlying102 Tryz.sizeOf143) rfl ?_)) | (refine RJ_op rfl (OJ_V (V_index rfl rfl (Int.toNat_of_nonneg (by omega)).symm (by omega) foc7 (Reads.sl _ _ _) Tryz.runUnderlying102 Tryz.sizeOf143) rfl ?_))
    refine oV (V_loadEN rfl rfl (by omega) foc7 (Reads.sl _ _ _) rfl rfl Tryz.isAgg143 Tryz.sizeOf143) rfl <| oO <| O_alloc Tryz.zeroValue143 rfl rfl fun b4 => oO <| O_storeN rfl rfl foc0 Tryz.sizeOf143 rfl rfl rfl <| nT <| sR <| oP (P_fieldAddr rfl ⟨_, _, _, Tryz.runUnderlying143, rfl, rfl, Tryz.sizeOf96, rfl⟩) rfl <| oP (P_fieldAddr rfl ⟨_, _, _, Tryz.runUnderlying96, rfl, rfl, Tryz.sizeOf3, rfl⟩) rfl <| oV (V_load rfl foc0 rfl Tryz.isAgg3) rfl <| oM rfl rfl <| oP (P_eql rfl rfl) rfl <| nT ?_
    first | (refine CJ_condD rfl (fun hg3 => ?_) (fun hg3 => ?_)) | (refine CJ_condN rfl (fun hg3 => ?_) (fun hg3 => ?_)) | (refine CJ_cond rfl (fun hg3 => ?_) (fun hg3 => ?_))
    ·
     have hri : (s.log.getD k tyRec.dflt).d = i := by omega
     rw [hri] at hr
     have hr2 : (s.log.getD k tyRec.dflt).a < (s.drv.getD i d0).now.length := hr.2
     have hfl := flDur_len (s.drv.getD i d0).now i (s.log.take k) (s.drv.getD i d0).dur
     have hsm := hw.same i (by omega)
     refine AJ_startH 8192 (by kernel_rfl) rfl <| aN 0 1 rfl rfl (P_fieldAddr rfl ⟨_, _, _, Tryz.runUnderlying99, rfl, rfl, Tryz.sizeOf43, rfl⟩) rfl <| aV 1 3 rfl rfl (GY_none rfl) (t0_ (t0_ (t0_ (t0_ (t0_ (t0_ (t0_ (t0_ (t0_ (t0_ (t0_ eR))))))))))) (V_load rfl foc3 rfl Tryz.isAgg43) rfl <| aN 2 7 rfl rfl (P_fieldAddr rfl ⟨_, _, _, Tryz.runUnderlying143, rfl, rfl, Tryz.sizeOf96, rfl⟩) rfl <| aN 3 15 rfl rfl (P_fieldAddr rfl ⟨_, _, _, Tryz.runUnderlying96, rfl, rfl, Tryz.sizeOf3, rfl⟩) rfl <| aV 4 31 rfl rfl (GY_none rfl) (t0_ (t0_ (t0_ (t0_ (t0_ (t0_ (t0_ (t0_ (t0_ (t0_ (t0_ eR))))))))))) (V_load rfl foc0 rfl Tryz.isAgg3) rfl <| aN 5 63 rfl rfl (P_fieldAddr rfl ⟨_, _, _, Tryz.runUnderlying99, rfl, rfl, Tryz.sizeOf43, rfl⟩) rfl <| aV 6 127 rfl rfl (GY_none rfl) (t0_ (t0_ (t0_ (t0_ (t0_ (t0_ (t0_ (t0_ (t0_ (t0_ (t0_ eR))))))))))) (V_load rfl foc3 rfl Tryz.isAgg43) rfl <| aN 7 255 rfl rfl (P_fieldAddr rfl ⟨_, _, _, Tryz.runUnderlying143, rfl, rfl, Tryz.sizeOf96, rfl⟩) rfl <| aN 8 511 rfl rfl (P_fieldAddr rfl ⟨_, _, _, Tryz.runUnderlying96, rfl, rfl, Tryz.sizeOf3, rfl⟩) rfl ?_
     refine aV 9 1023 rfl rfl (GY_none rfl) (t0_ (t0_ (t0_ (t0_ (t0_ (t0_ (t0_ (t0_ (t0_ (t0_ (t0_ eR))))))))))) (V_load rfl foc0 rfl Tryz.isAgg3) rfl ?_
     first | (refine AJ_takeV 10 2047 rfl (by kernel_rfl) rfl (by kernel_rfl) (by kernel_rfl) (GY_none rfl) (t0_ (t0_ (t0_ (t0_ (t0_ (t0_ (t0_ (t0_ (t0_ (t0_ (t0_ eR))))))))))) (V_index rfl rfl rfl (by omega) foc4 (Reads.sl _ _ _) Tryz.runUnderlying43 Tryz.sizeOf44) rfl (fun _ _ _ _ h => h) ?_) | (refine AJ_takeV 10 2047 rfl (by kernel_rfl) rfl (by kernel_rfl) (by kernel_rfl) (GY_none rfl) (t0_ (t0_ (t0_ (t0_ (t0_ (t0_ (t0_ (t0_ (t0_ (t0_ (t0_ eR))))))))))) (V_index rfl rfl (Int.toNat_of_nonneg (by omega)).symm (by omega) foc4 (Reads.sl _ _ _) Tryz.runUnderlying43 Tryz.sizeOf44) rfl (fun _ _ _ _ h => h) ?_)
     refine aV 11 4095 rfl rfl (GY_none rfl) (t0_ (t0_ (t0_ (t0_ (t0_ (t0_ (t0_ (t0_ (t0_ (t0_ (t0_ eR))))))))))) (V_loadE rfl rfl (by omega) foc4 (Reads.sl _ _ _) rfl rfl Tryz.isAgg44) rfl ?_
     first | (refine AJ_takeV 12 8191 rfl (by kernel_rfl) rfl (by kernel_rfl) (by kernel_rfl) (GY_none rfl) (t0_ (t0_ (t0_ (t0_ (t0_ (t0_ (t0_ (t0_ (t0_ (t0_ (t0_ eR))))))))))) (V_index rfl rfl rfl (by omega) foc1 (Reads.sl _ _ _) Tryz.runUnderlying43 Tryz.sizeOf44) rfl (fun _ _ _ _ h => h) ?_) | (refine AJ_takeV 12 8191 rfl (by kernel_rfl) rfl (by kernel_rfl) (by kernel_rfl) (GY_none rfl) (t0_ (t0_ (t0_ (t0_ (t0_ (t0_ (t0_ (t0_ (t0_ (t0_ (t0_ eR))))))))))) (V_index rfl rfl (Int.toNat_of_nonneg (by omega)).symm (by omega) foc1 (Reads.sl _ _ _) Tryz.runUnderlying43 Tryz.sizeOf44) rfl (fun _ _ _ _ h => h) ?_)
     refine AJ_op 13 16383 rfl (by kernel_rfl) rfl (GY_none rfl) <| O_storeE (x' := (s.drv.getD i d0).now.getD (s.log.getD k tyRec.dflt).a 0) rfl rfl rfl (by omega) foc1 rfl rfl rfl Tryz.sizeOf44 <| ⟨fun h => absurd h (by decide), ?_⟩
     refine AJ_done (by kernel_rfl) <| QJ_block_normal <| QJ_then <| CJ_region <| oP (P_add rfl rfl (by omega)) rfl <| oM rfl rfl <| RJ_nil <| QJ_nextR ⟨k + 1, rv⟩ (by first | omega | (simp only []; omega)) ?_ (by repeat (first | exact Kp.base | exact Kp.self | refine Kp.cons rfl ?_ | refine Kp.forget rfl ?_)) ?_ (Ent.takeC del1 (congrArg (sl tyU _) (fl_t (by omega) hri)) (Ent.takeC del1 (congrArg (sl tyRec _) (ot_t (by omega) hri)) (t1_ (t1_ (t1_ (t1_ (t1_ (t1_ (t1_ (t1_ (eD eR)))))))))))
     · omega
     · exact ⟨rfl, rfl, True.intro⟩
    ·
     have hri : (s.log.getD k tyRec.dflt).d ≠ i := by omega
     have hfl : (others i (s.log.take k)).length ≤ (s.log.take k).length := List.length_filter_le _ _
     have htk := List.length_take_le k s.log
     refine CJ_region <| oM rfl rfl <| oV (V_loadN rfl foc0 Tryz.isAgg143 Tryz.sizeOf143 rfl rfl) rfl <| oO <| O_buildSlice rfl (bs_102_1_0 _ _ _) rfl fun b5 => oO <| O_append (t := tyRec) (bytes := 24) rfl rfl del3 foc0 (Reads.lit (t := tyRec) (ys := [(s.log.getD k tyRec.dflt)]) rfl rfl (by decide) (by decide) rfl) Tryz.underlying102 ok_tyRec (by simp only [List.length_append, List.length_cons, List.length_nil, maxLen] at *; omega) (by simp only [List.length_append, List.length_cons, List.length_nil, maxLen] at *; omega) rfl fun p6 c7 => oA rfl rfl <| RJ_nil <| QJ_block_normal <| QJ_then <| CJ_region <| oP (P_add rfl rfl (by omega)) rfl <| oM rfl rfl <| RJ_nil <| QJ_nextR ⟨k + 1, ⟨p6, _, c7⟩⟩ (by first | omega | (simp only []; omega)) ?_ (by repeat (first | exact Kp.base | exact Kp.self | refine Kp.cons rfl ?_ | refine Kp.forget rfl ?_)) ?_ (Ent.takeC del3 (congrArg (sl tyU _) (fl_f (by omega) hri)) (Ent.takeC del0 (congrArg (sl tyRec _) (ot_f (by omega) hri)) (t2_ (t2_ (t2_ (t2_ (t2_ (t2_ (t2_ (t2_ (eD (eD eR))))))))))))
     · omega
     · exact ⟨rfl, rfl, True.intro⟩
   ·
    refine CJ_exit <| QJ_then_exit <| QJ_round_exit <| QJ_block_here <| QJ_then <| sR <| oM rfl rfl <| oM rfl rfl <| oP (P_nilCheck rfl) rfl <| oP (P_fieldAddr rfl ⟨_, _, _, Tryz.runUnderlying104, rfl, rfl, Tryz.sizeOf102, rfl⟩) rfl <| oO <| O_store rfl rfl foc5 rfl rfl Tryz.sizeOf102 <| nT <| sR <| oA rfl rfl <| nT <| CJ_ret <| QJ_end (res1 Tryz.results148 rfl) ?_
    obtain rfl : k = s.log.length := by omega
    rw [flS_ok hC]
    refine CSpec.close () ?_ ?_ (Ent.trans (Ent.trans (t5_ (t5_ (t3_ (Ent.takeC del0 (by rw [List.take_length]) (t2_ (Ent.takeC del0 (by rw [List.take_length]) (t2_ eR))))))) (Arr_close1 (s' := { s with drv := s.drv.set i { s.drv.getD i d0 with dur := flDur (s.drv.getD i d0).now i s.log (s.drv.getD i d0).dur }, log := others i s.log }) (lv := rv) i { s.drv.getD i d0 with dur := flDur (s.drv.getD i d0).now i s.log (s.drv.getD i d0).dur } hl hm (by omega) rfl rfl (wf_drv (wf_log hw _) _ (by omega) rfl (flDur_len _ _ _ _)))) (t0_ (eD (eD (eD eR)))))
    · exact iv hC.symm
    · trivial
end Go.Proofs
set_option linter.unusedSimpArgs false
set_option maxRecDepth 20000
namespace Go.Proofs
open Go.VG
end Go.Proofs
set_option linter.unusedSimpArgs false
set_option linter.unusedVariables false
set_option maxRecDepth 20000
set_option maxHeartbeats 4000000
namespace Go.Proofs
open Go.VG
abbrev tyU8 : Ty UInt8 := { T := 5, sz := 1, enc := fun x => [.int .u8 (x.toNat : Int)], dflt := 0, len := fun _ => rfl, one := fun _ => rfl, pos := by decide }
end Go.Proofs
set_option linter.unusedSimpArgs false
set_option maxRecDepth 20000
namespace Go.Proofs
open Go.VG
end Go.Proofs
set_option linter.unusedSimpArgs false
set_option linter.unusedVariables false
set_option maxRecDepth 20000
set_option maxHeartbeats 4000000
namespace Go.Proofs
open Go.VG
abbrev tyDev : Ty IfH := { T := 79, sz := 1, enc := fun x => [.iface x.t x.u], dflt := ⟨0, .bool false⟩, len := fun _ => rfl, one := fun _ => rfl, pos := by decide }
theorem ok_tyDev : ElemOk Tryz.prog tyDev 16 := ⟨Tryz.t79, .nilIface, by kernel_rfl, rfl, rfl, rfl, rfl⟩
structure Dvc where
  dep : Nat
  size : ArrS → Option Int
  rd : ArrS → Int → Option (UInt64 × Int)
  wr : ArrS → Int → UInt64 → Option (Int × ArrS)
  fl : ArrS → Option (Int × ArrS)
abbrev dv0 : Dvc := ⟨0, fun _ => none, fun _ _ => none, fun _ _ _ => none, fun _ => none⟩
structure DevOk (a : Nat) (x : Dvc) (h : IfH) (R : HP) : Prop where
  dup : Dup R
  dep : x.dep ≤ 60
  nil : ∀ n, 1 ≤ n → ∀ w, (nilAhead n h.t h.u "Write").run Tryz.prog w = .ok (some false) w
  size : ∀ {W s r}, x.size s = some r → IOk Tryz.prog W x.dep h "Size" [] [R, Arr a s] (fun _ : Unit => .int .i64 r) (fun _ => True) (fun _ F => R :: Arr a s :: F)
  rd : ∀ {W s k r}, x.rd s k = some r → IOk Tryz.prog W x.dep h "Read" [.int .i64 k] [R, Arr a s] (fun _ : Unit => .tuple #[.int .u64 (r.1.toNat : Int), .int .i64 r.2]) (fun _ => True) (fun _ F => R :: Arr a s :: F)
  wr : ∀ {W s k v r}, x.wr s k v = some r → IOk Tryz.prog W x.dep h "Write" [.int .i64 k, .int .u64 (v.toNat : Int)] [R, Arr a s] (fun _ : Unit => .int .i64 r.1) (fun _ => True) (fun _ F => R :: Arr a r.2 :: F)
  fl : ∀ {W s r}, x.fl s = some r → IOk Tryz.prog W x.dep h "Flush" [] [R, Arr a s] (fun _ : Unit => .int .i64 r.1) (fun _ => True) (fun _ F => R :: Arr a r.2 :: F)
def DevP (a : Nat) (x : Dvc) (h : IfH) : HP := ex fun R : HP => starX [emp (DevOk a x h R), R]
theorem DevP_mk {a : Nat} {x : Dvc} {h : IfH} {l : List HP} {R : List HP} (hk : DevOk a x h (starX l)) : Ent (l ++ R) (DevP a x h :: R) :=
  fun g hg => stars_ex.2 ⟨starX l, stars_starX.2 (stars_emp.2 ⟨hk, stars_starX.2 hg⟩)⟩
theorem Dup_DevP {a : Nat} {x : Dvc} {h : IfH} : Dup (DevP a x h) := by
  intro g ⟨R, h1, h2, hd, he, ⟨hk, hn⟩, h3, h4, hd2, he2, hR, h5⟩ k
  exact (Dup.starX (Hs := [emp (DevOk a x h R), R]) (by intro A hA; simp only [List.mem_cons, List.not_mem_nil, or_false] at hA; rcases hA with rfl | rfl; exact Dup.emp; exact hk.dup)) g ⟨h1, h2, hd, he, ⟨hk, hn⟩, h3, h4, hd2, he2, hR, h5⟩ k
theorem DevP_dep {a : Nat} {x : Dvc} {h : IfH} {R : List HP} (g : PH) (hg : stars (DevP a x h :: R) g) : x.dep ≤ 60 := by
  obtain ⟨R', hg⟩ := stars_ex.1 hg
  exact (stars_emp.1 (stars_starX.1 hg)).1.dep
theorem DevP_nil {a : Nat} {x : Dvc} {h : IfH} {R : List HP} (g : PH) (hg : stars (DevP a x h :: R) g) : ∀ n, 100 ≤ n → ∀ w, (nilAhead n h.t h.u "Write").run Tryz.prog w = .ok (some false) w := by
  obtain ⟨R', hg⟩ := stars_ex.1 hg
  exact fun n hn => (stars_emp.1 (stars_starX.1 hg)).1.nil n (by omega)
theorem DevP_E {P : Program} {a : Nat} {x : Dvc} {h : IfH} {W : World} {k : Nat} {g : IfH} {name : String} {args : List Value} {pre : List HP} {X : Type} {res : X → Value} {pf : X → Prop} {post : X → List HP → List HP}
    (hm : ∀ R, DevOk a x h R → IOk P W k g name args (R :: pre) res pf (fun y F => R :: post y F)) : IOk P W k g name args (DevP a x h :: pre) res pf (fun y F => DevP a x h :: post y F) := by
  refine IOk.exI fun R => IOk.starI (IOk.empI fun hk => ?_)
  refine (hm R hk).post0 fun y F => ?_
  exact fun g hg => stars_ex.2 ⟨R, stars_starX.2 (stars_emp.2 ⟨hk, hg⟩)⟩
theorem dev_Size {W : World} {a : Nat} {x : Dvc} {h : IfH} {s : ArrS} {r : Int} (e : x.size s = some r) (hd : x.dep ≤ 60) : ICall Tryz.prog W h.v "Size" [] [DevP a x h, Arr a s] (fun _ : Unit => .int .i64 r) (fun _ => True) (fun _ F => DevP a x h :: Arr a s :: F) := (DevP_E fun _ hk => hk.size e).call (by omega)
theorem dev_Read {W : World} {a : Nat} {x : Dvc} {h : IfH} {s : ArrS} {k : Int} {r : UInt64 × Int} (e : x.rd s k = some r) (hd : x.dep ≤ 60) : ICall Tryz.prog W h.v "Read" [.int .i64 k] [DevP a x h, Arr a s] (fun _ : Unit => .tuple #[.int .u64 (r.1.toNat : Int), .int .i64 r.2]) (fun _ => True) (fun _ F => DevP a x h :: Arr a s :: F) := (DevP_E fun _ hk => hk.rd e).call (by omega)
theorem dev_Write {W : World} {a : Nat} {x : Dvc} {h : IfH} {s : ArrS} {k : Int} {v : UInt64} {r : Int × ArrS} (e : x.wr s k v = some r) (hd : x.dep ≤ 60) : ICall Tryz.prog W h.v "Write" [.int .i64 k, .int .u64 (v.toNat : Int)] [DevP a x h, Arr a s] (fun _ : Unit => .int .i64 r.1) (fun _ => True) (fun _ F => DevP a x h :: Arr a r.2 :: F) := (DevP_E fun _ hk => hk.wr e).call (by omega)
theorem dev_Flush {W : World} {a : Nat} {x : Dvc} {h : IfH} {s : ArrS} {r : Int × ArrS} (e : x.fl s = some r) (hd : x.dep ≤ 60) : ICall Tryz.prog W h.v "Flush" [] [DevP a x h, Arr a s] (fun _ : Unit => .int .i64 r.1) (fun _ => True) (fun _ F => DevP a x h :: Arr a r.2 :: F) := (DevP_E fun _ hk => hk.fl e).call (by omega)
abbrev tyRow : Ty Sl3 := { T := 43, sz := 1, enc := fun x => [x.v], dflt := ⟨none, 0, 0⟩, len := fun _ => rfl, one := fun _ => rfl, pos := by decide }
def Sl3.sub (sz : Nat) (x : Sl3) (l h : Nat) : Sl3 := ⟨if x.c = l then x.p else x.p.map (·.add (l * sz)), h - l, x.c - l⟩
def RowP (x : List UInt64) (h : Sl3) : HP := fun g => ∃ A : HP, Dup A ∧ Reads A tyU h.v x ∧ A g
theorem Reads.rowP {x : List UInt64} {h : Sl3} : Reads (RowP x h) tyU h.v x := fun g ⟨_, _, hr, hA⟩ => hr g hA
def RowsR (B : HP) (l : List (List UInt64)) (hs : List Sl3) : Prop := hs.length = l.length ∧ ∀ i, i < l.length → Reads B tyU (Sl3.v (hs.getD i tyRow.dflt)) (l.getD i [])
theorem RowsR.nil {B : HP} : RowsR B [] [] := ⟨rfl, fun i h => absurd h (by simp)⟩
theorem RowsR.cons {A : HP} {As : List HP} {x : List UInt64} {g : Sl3} {l : List (List UInt64)} {hs : List Sl3} (h : Reads A tyU (Sl3.v g) x) (hr : RowsR (starX As) l hs) : RowsR (starX (A :: As)) (x :: l) (g :: hs) :=
  ⟨by simp [hr.1], fun i hi => by
    cases i with
    | zero => exact Reads.hd h
    | succ i => exact Reads.tl (hr.2 i (by simpa using hi))⟩
theorem RowsR.rs {l : List (List UInt64)} {hs : List Sl3} (hl : hs.length = l.length) : RowsR (Rs RowP l hs) l hs :=
  ⟨hl, fun _ hi => Reads.of_ent (Rs_at0 hi) Reads.rowP⟩
theorem reads_sl3 {α : Type} {t : Ty α} {A : HP} {v : Value} {xs : List α} {H R : List HP} (hr : Reads A t v xs) (hd : Del H A R) : ∀ h, stars H h → ∃ x : Sl3, v = Sl3.v x := by
  intro h hh
  obtain ⟨h1, h2, _, _, hA, _⟩ := stars_perm hd.out h hh
  rcases hr h1 hA with ⟨e, _⟩ | ⟨a, c, e, _⟩
  · exact ⟨⟨none, 0, 0⟩, e⟩
  · exact ⟨⟨some a, _, c⟩, e⟩
def newB (zs : List Int) : Bool := Nat.ble zs.length 8 && zs.all (fun z => decide (1 ≤ z) && decide (z ≤ 65536))
theorem newB_iff {zs : List Int} : newB zs = true ↔ NewOk zs := by
  unfold newB NewOk
  rw [Bool.and_eq_true, Nat.ble_eq, List.all_eq_true]
  refine and_congr Iff.rfl ⟨fun h k hk => ?_, fun h z hz => ?_⟩
  · have h1 := h zs[k] (List.getElem_mem hk)
    have : zs.getD k 0 = zs[k] := by simp [List.getD, hk]
    rw [this]; simpa using h1
  · obtain ⟨k, hk, rfl⟩ := List.getElem_of_mem hz
    have h1 := h k hk
    have : zs.getD k 0 = zs[k] := by simp [List.getD, hk]
    rw [this] at h1; simpa using h1
def newO (zs : List Int) : Option ArrS := if newB zs then some (newS zs) else none
def newC (zs : List Int) : Int := if newB zs then 0 else if Nat.blt 8 zs.length then 4 else 1
theorem c_NewO {W : World} {A : HP} {v : Value} {zs : List Int} (hA : Reads A tyI v zs) (hl : zs.length ≤ 1000000000) :
    CSpec Tryz.prog W 23 [v] [A] (fun b : Nat => .tuple #[oval (newO zs) b, .int .i64 (newC zs)]) (fun _ => True) (fun b F => optP (Arr b) (newO zs) :: A :: F) := by
  intro F w hs
  by_cases h : newB zs = true
  · have h2 := newB_iff.1 h
    unfold newO newC; rw [if_pos h, if_pos h]
    exact c_New hA h2 F w hs
  · have h2 : ¬ NewOk zs := fun e => h (newB_iff.2 e)
    unfold newO newC; rw [if_neg h, if_neg h]
    refine (c_NewBad hA h2 (by omega) F w hs).mono fun e w' ⟨x, hx, hp, hs'⟩ => ⟨0, ?_, trivial, hs'.imp (fun g hg => optP_none g hg)⟩
    rw [hx]
    by_cases h3 : 8 < zs.length
    · rw [if_pos h3, if_pos (by simpa [Nat.blt_eq] using h3)]; rfl
    · rw [if_neg h3, if_neg (by simpa [Nat.blt_eq] using h3)]; rfl
end Go.Proofs
set_option linter.unusedSimpArgs false
set_option linter.unusedVariables false
set_option maxRecDepth 20000
set_option maxHeartbeats 4000000
namespace Go.Proofs
open Go.VG
def dvc_span_Size (x_0_a : ArrS) (x_0_d : Int) (x_0_start : Int) (x_0_length : Int) : Option (Int) :=
  some x_0_length
theorem L_dvc_span_Size {W : World} {bx_0 : Nat} {bx_0_a : Nat} {x_0_a : ArrS} {x_0_d : Int} {x_0_start : Int} {x_0_length : Int} {r : Int} (h : dvc_span_Size x_0_a x_0_d x_0_start x_0_length = some r) :
    CSpec Tryz.prog W 152 [ptr bx_0 0] [blkR bx_0 159 [ptr bx_0_a 0, .int .i64 x_0_d, .int .i64 x_0_start, .int .i64 x_0_length], Arr bx_0_a x_0_a] (fun x : Unit => .int .i64 r) (fun _ => True) (fun x F => blkR bx_0 159 [ptr bx_0_a 0, .int .i64 x_0_d, .int .i64 x_0_start, .int .i64 x_0_length] :: Arr bx_0_a x_0_a :: F) := by
 refine CSpec.of_body Tryz.func152 rfl Tryz.ntmps152 rfl fun F => ?_
 show CJ _ _ _ _ _ _ (_ :: _ :: F)
 unfold dvc_span_Size at h
 refine sR <| oA rfl rfl <| nT <| sR <| oM rfl rfl <| oP (P_nilCheck rfl) rfl <| oP (P_fieldAddr rfl ⟨_, _, _, Tryz.runUnderlying159, rfl, rfl, Tryz.sizeOf3, rfl⟩) rfl <| oV (V_loadR rfl foc0 rfl Tryz.isAgg3) rfl <| oA rfl rfl <| nT <| CJ_ret ?_
 cases h
 exact fE (res1 Tryz.results152 rfl) () eR
def block_inside (size : Int) (at_1 : Int) (n_2 : Int) : Option (Bool) :=
  some (((((decide ((0 : Int) ≤ at_1)) && (decide (at_1 ≤ size))) && (decide ((0 : Int) ≤ n_2))) && (decide (n_2 ≤ (IntKind.i64.wrap (size - at_1))))))
theorem L_block_inside {W : World} {size : Int} {at_1 : Int} {n_2 : Int} {r : Bool} (h : block_inside size at_1 n_2 = some r) :
    CSpec Tryz.prog W 101 [.int .i64 size, .int .i64 at_1, .int .i64 n_2] [] (fun x : Unit => .bool r) (fun _ => True) (fun x F => F) := by
 refine CSpec.of_body Tryz.func101 rfl Tryz.ntmps101 rfl fun F => ?_
 show CJ _ _ _ _ _ _ (F)
 unfold block_inside at h
 refine sR <| oA rfl rfl <| nT <| sR <| oM rfl rfl <| oP (P_geq (a := at_1) (b := (0 : Int)) rfl rfl) rfl <| oM rfl rfl <| RJ_mbT rfl rfl rfl (fun hG1 => have hP2 : ((0 : Int) ≤ at_1) := (bT_dec).1 hG1; VJ_P (P_move rfl)) <| RJ_mbT rfl rfl rfl (fun hG3 => have hP4 : ((0 : Int) ≤ at_1) := (bT_dec).1 hG3; VJ_P (P_move rfl)) <| RJ_mbT rfl rfl rfl (fun hG5 => have hP6 : ((0 : Int) ≤ at_1) := (bT_dec).1 hG5; VJ_P (P_leq (a := at_1) (b := size) (mbx hG5 rfl) (mbx hG5 rfl))) <| oP (P_pickAnd rfl (fun hh => mbx hh rfl) rfl) rfl <| oM rfl rfl <| RJ_mbT rfl rfl rfl (fun hG7 => have hP8 : (((0 : Int) ≤ at_1) ∧ (at_1 ≤ size)) := ((bT_and bT_dec bT_dec)).1 hG7; VJ_P (P_move rfl)) <| RJ_mbT rfl rfl rfl (fun hG9 => have hP10 : (((0 : Int) ≤ at_1) ∧ (at_1 ≤ size)) := ((bT_and bT_dec bT_dec)).1 hG9; VJ_P (P_geq (a := n_2) (b := (0 : Int)) (mbx hG9 rfl) rfl)) <| oP (P_pickAnd rfl (fun hh => mbx hh rfl) rfl) rfl <| oM rfl rfl <| RJ_mbT rfl rfl rfl (fun hG11 => have hP12 : ((((0 : Int) ≤ at_1) ∧ (at_1 ≤ size)) ∧ ((0 : Int) ≤ n_2)) := ((bT_and (bT_and bT_dec bT_dec) bT_dec)).1 hG11; VJ_P (P_move rfl)) <| RJ_mbT rfl rfl rfl (fun hG13 => have hP14 : ((((0 : Int) ≤ at_1) ∧ (at_1 ≤ size)) ∧ ((0 : Int) ≤ n_2)) := ((bT_and (bT_and bT_dec bT_dec) bT_dec)).1 hG13; VJ_P (P_move rfl)) <| RJ_mbT rfl rfl rfl (fun hG15 => have hP16 : ((((0 : Int) ≤ at_1) ∧ (at_1 ≤ size)) ∧ ((0 : Int) ≤ n_2)) := ((bT_and (bT_and bT_dec bT_dec) bT_dec)).1 hG15; VJ_P (P_move rfl)) ?_
 refine RJ_mbT rfl rfl rfl (fun hG17 => have hP18 : ((((0 : Int) ≤ at_1) ∧ (at_1 ≤ size)) ∧ ((0 : Int) ≤ n_2)) := ((bT_and (bT_and bT_dec bT_dec) bT_dec)).1 hG17; VJ_P (P_subW (a := size) (b := at_1) (mbx hG17 rfl) (mbx hG17 rfl))) <| RJ_mbT rfl rfl rfl (fun hG19 => have hP20 : ((((0 : Int) ≤ at_1) ∧ (at_1 ≤ size)) ∧ ((0 : Int) ≤ n_2)) := ((bT_and (bT_and bT_dec bT_dec) bT_dec)).1 hG19; VJ_P (P_leq (a := n_2) (b := (IntKind.i64.wrap (size - at_1))) (mbx hG19 rfl) (mbx hG19 rfl))) <| oP (P_pickAnd rfl (fun hh => mbx hh rfl) rfl) rfl <| oA rfl rfl <| nT <| CJ_ret ?_
 cases h
 exact fE (res1 Tryz.results101 rfl) () eR
def dvc_span_Read (x_0_a : ArrS) (x_0_d : Int) (x_0_start : Int) (x_0_length : Int) (at_1 : Int) : Option (UInt64 × Int) :=
  Option.bind (block_inside x_0_length at_1 (1 : Int)) fun r1 =>
  if (¬ r1 = true) then
    some (((0 : UInt64), (1 : Int)))
  else
    grd (inI64 (x_0_start + at_1)) <|
    some (((rdV x_0_a x_0_d (x_0_start + at_1)), (rdC x_0_a x_0_d (x_0_start + at_1))))
theorem L_dvc_span_Read {W : World} {bx_0 : Nat} {bx_0_a : Nat} {x_0_a : ArrS} {x_0_d : Int} {x_0_start : Int} {x_0_length : Int} {at_1 : Int} {r : UInt64 × Int} (h : dvc_span_Read x_0_a x_0_d x_0_start x_0_length at_1 = some r) :
    CSpec Tryz.prog W 151 [ptr bx_0 0, .int .i64 at_1] [blkR bx_0 159 [ptr bx_0_a 0, .int .i64 x_0_d, .int .i64 x_0_start, .int .i64 x_0_length], Arr bx_0_a x_0_a] (fun x : Unit => .tuple #[.int .u64 (r.1.toNat : Int), .int .i64 r.2]) (fun _ => True) (fun x F => blkR bx_0 159 [ptr bx_0_a 0, .int .i64 x_0_d, .int .i64 x_0_start, .int .i64 x_0_length] :: Arr bx_0_a x_0_a :: F) := by
 refine CSpec.of_body Tryz.func151 rfl Tryz.ntmps151 rfl fun F => ?_
 show CJ _ _ _ _ _ _ (_ :: _ :: F)
 unfold dvc_span_Read at h
 refine sR <| oA rfl rfl <| oA rfl rfl <| nT <| CJ_seq <| sR <| oM rfl rfl <| oP (P_nilCheck rfl) rfl <| oP (P_fieldAddr rfl ⟨_, _, _, Tryz.runUnderlying159, rfl, rfl, Tryz.sizeOf3, rfl⟩) rfl <| oV (V_loadR rfl foc0 rfl Tryz.isAgg3) rfl <| oM rfl rfl ?_
 obtain ⟨r1, hr2, h⟩ := bind_e h
 refine oO <| O_call (L_block_inside hr2) rfl Tryz.call101 Dels.nil rfl fun _ _ => oP (P_not rfl) rfl <| nT <| CJ_condP rfl (bT_not Iff.rfl) (fun hg1 => ?_) (fun hg1 => ?_)
 ·
  replace h := ite_t hg1 h
  refine sR <| oA rfl rfl <| oA rfl rfl <| nT <| CJ_ret <| QJ_then_ret ?_
  cases h
  exact fE (res2 Tryz.results151 rfl rfl) () eR
 ·
  replace h := ite_f hg1 h
  refine kT <| CJ_seq <| AJ_startH 16384 (by kernel_rfl) rfl <| aN 0 1 rfl rfl (P_move rfl) rfl <| aN 1 3 rfl rfl (P_nilCheck rfl) rfl <| aN 2 7 rfl rfl (P_fieldAddr rfl ⟨_, _, _, Tryz.runUnderlying159, rfl, rfl, Tryz.sizeOf30, rfl⟩) rfl <| aV 3 15 rfl rfl (GY_none rfl) eR (V_loadR rfl foc0 rfl Tryz.isAgg30) rfl <| aN 4 31 rfl rfl (P_move rfl) rfl <| aN 5 63 rfl rfl (P_nilCheck rfl) rfl <| aN 6 127 rfl rfl (P_fieldAddr rfl ⟨_, _, _, Tryz.runUnderlying159, rfl, rfl, Tryz.sizeOf3, rfl⟩) rfl <| aV 7 255 rfl rfl (GY_none rfl) eR (V_loadR rfl foc0 rfl Tryz.isAgg3) rfl <| aN 8 511 rfl rfl (P_move rfl) rfl <| aN 9 1023 rfl rfl (P_nilCheck rfl) rfl <| aN 10 2047 rfl rfl (P_fieldAddr rfl ⟨_, _, _, Tryz.runUnderlying159, rfl, rfl, Tryz.sizeOf3, rfl⟩) rfl <| aV 11 4095 rfl rfl (GY_none rfl) eR (V_loadR rfl foc0 rfl Tryz.isAgg3) rfl <| aN 12 8191 rfl rfl (P_move rfl) rfl ?_
  obtain ⟨hg2, h⟩ := grd_Ie h
  refine aN 13 16383 rfl rfl (P_add (a := x_0_start) (b := at_1) rfl rfl hg2) rfl <| AJ_op 14 32767 rfl (by kernel_rfl) rfl (GY_none rfl) <| O_call (c_Read) rfl Tryz.call16 (Dels.cons del1 Dels.nil) rfl fun _ _ => ⟨fun h => absurd h (by decide), ?_⟩
  refine aN 15 65535 rfl rfl (P_extract rfl rfl) rfl <| aN 16 131071 rfl rfl (P_extract rfl rfl) rfl <| aN 17 262143 rfl rfl (P_assign rfl) rfl <| aN 18 524287 rfl rfl (P_assign rfl) rfl <| aD <| CJ_ret ?_
  cases h
  exact fE (res2 Tryz.results151 rfl rfl) () (t1_ eR)
def dvc_span_Write (x_0_a : ArrS) (x_0_d : Int) (x_0_start : Int) (x_0_length : Int) (at_1 : Int) (v : UInt64) : Option (Int × ArrS) :=
  Option.bind (block_inside x_0_length at_1 (1 : Int)) fun r1 =>
  if (¬ r1 = true) then
    some (((1 : Int), x_0_a))
  else
    grd (inI64 (x_0_start + at_1)) <|
    grd (inLen x_0_a.writes) <|
    some (((wrR x_0_a x_0_d (x_0_start + at_1)), (wrS x_0_a x_0_d (x_0_start + at_1) v)))
theorem L_dvc_span_Write {W : World} {bx_0 : Nat} {bx_0_a : Nat} {x_0_a : ArrS} {x_0_d : Int} {x_0_start : Int} {x_0_length : Int} {at_1 : Int} {v : UInt64} {r : Int × ArrS} (h : dvc_span_Write x_0_a x_0_d x_0_start x_0_length at_1 v = some r) :
    CSpec Tryz.prog W 153 [ptr bx_0 0, .int .i64 at_1, .int .u64 (v.toNat : Int)] [blkR bx_0 159 [ptr bx_0_a 0, .int .i64 x_0_d, .int .i64 x_0_start, .int .i64 x_0_length], Arr bx_0_a x_0_a] (fun x : Unit => .int .i64 r.1) (fun _ => True) (fun x F => blkR bx_0 159 [ptr bx_0_a 0, .int .i64 x_0_d, .int .i64 x_0_start, .int .i64 x_0_length] :: Arr bx_0_a r.2 :: F) := by
 refine CSpec.of_body Tryz.func153 rfl Tryz.ntmps153 rfl fun F => ?_
 show CJ _ _ _ _ _ _ (_ :: _ :: F)
 unfold dvc_span_Write at h
 refine sR <| oA rfl rfl <| nT <| CJ_seq <| sR <| oM rfl rfl <| oP (P_nilCheck rfl) rfl <| oP (P_fieldAddr rfl ⟨_, _, _, Tryz.runUnderlying159, rfl, rfl, Tryz.sizeOf3, rfl⟩) rfl <| oV (V_loadR rfl foc0 rfl Tryz.isAgg3) rfl <| oM rfl rfl ?_
 obtain ⟨r1, hr2, h⟩ := bind_e h
 refine oO <| O_call (L_block_inside hr2) rfl Tryz.call101 Dels.nil rfl fun _ _ => oP (P_not rfl) rfl <| nT <| CJ_condP rfl (bT_not Iff.rfl) (fun hg1 => ?_) (fun hg1 => ?_)
 ·
  replace h := ite_t hg1 h
  refine sR <| oA rfl rfl <| nT <| CJ_ret <| QJ_then_ret ?_
  cases h
  exact fE (res1 Tryz.results153 rfl) () eR
 ·
  replace h := ite_f hg1 h
  refine kT <| CJ_seq <| AJ_startH 32768 (by kernel_rfl) rfl <| aN 0 1 rfl rfl (P_move rfl) rfl <| aN 1 3 rfl rfl (P_nilCheck rfl) rfl <| aN 2 7 rfl rfl (P_fieldAddr rfl ⟨_, _, _, Tryz.runUnderlying159, rfl, rfl, Tryz.sizeOf30, rfl⟩) rfl <| aV 3 15 rfl rfl (GY_none rfl) eR (V_loadR rfl foc0 rfl Tryz.isAgg30) rfl <| aN 4 31 rfl rfl (P_move rfl) rfl <| aN 5 63 rfl rfl (P_nilCheck rfl) rfl <| aN 6 127 rfl rfl (P_fieldAddr rfl ⟨_, _, _, Tryz.runUnderlying159, rfl, rfl, Tryz.sizeOf3, rfl⟩) rfl <| aV 7 255 rfl rfl (GY_none rfl) eR (V_loadR rfl foc0 rfl Tryz.isAgg3) rfl <| aN 8 511 rfl rfl (P_move rfl) rfl <| aN 9 1023 rfl rfl (P_nilCheck rfl) rfl <| aN 10 2047 rfl rfl (P_fieldAddr rfl ⟨_, _, _, Tryz.runUnderlying159, rfl, rfl, Tryz.sizeOf3, rfl⟩) rfl <| aV 11 4095 rfl rfl (GY_none rfl) eR (V_loadR rfl foc0 rfl Tryz.isAgg3) rfl <| aN 12 8191 rfl rfl (P_move rfl) rfl ?_
  obtain ⟨hg2, h⟩ := grd_Ie h
  refine aN 13 16383 rfl rfl (P_add (a := x_0_start) (b := at_1) rfl rfl hg2) rfl <| aN 14 32767 rfl rfl (P_move rfl) rfl ?_
  obtain ⟨hg3, h⟩ := grd_Le h
  refine AJ_op 15 65535 rfl (by kernel_rfl) rfl (GY_none rfl) <| O_call (c_Write hg3 (v := v)) rfl Tryz.call149 (Dels.cons del1 Dels.nil) rfl fun _ _ => ⟨fun h => absurd h (by decide), ?_⟩
  refine aN 16 131071 rfl rfl (P_assign rfl) rfl <| aD <| CJ_ret ?_
  cases h
  exact fE (res1 Tryz.results153 rfl) () (t1_ eR)
def dvc_span_Flush (x_0_a : ArrS) (x_0_d : Int) (x_0_start : Int) (x_0_length : Int) : Option (Int × ArrS) :=
  grd (inLen x_0_a.writes) <|
  some (((flC x_0_a x_0_d), (flS x_0_a x_0_d)))
theorem L_dvc_span_Flush {W : World} {bx_0 : Nat} {bx_0_a : Nat} {x_0_a : ArrS} {x_0_d : Int} {x_0_start : Int} {x_0_length : Int} {r : Int × ArrS} (h : dvc_span_Flush x_0_a x_0_d x_0_start x_0_length = some r) :
    CSpec Tryz.prog W 150 [ptr bx_0 0] [blkR bx_0 159 [ptr bx_0_a 0, .int .i64 x_0_d, .int .i64 x_0_start, .int .i64 x_0_length], Arr bx_0_a x_0_a] (fun x : Unit => .int .i64 r.1) (fun _ => True) (fun x F => blkR bx_0 159 [ptr bx_0_a 0, .int .i64 x_0_d, .int .i64 x_0_start, .int .i64 x_0_length] :: Arr bx_0_a r.2 :: F) := by
 refine CSpec.of_body Tryz.func150 rfl Tryz.ntmps150 rfl fun F => ?_
 show CJ _ _ _ _ _ _ (_ :: _ :: F)
 unfold dvc_span_Flush at h
 refine sR <| oA rfl rfl <| nT <| CJ_seq <| AJ_startH 256 (by kernel_rfl) rfl <| aN 0 1 rfl rfl (P_move rfl) rfl <| aN 1 3 rfl rfl (P_nilCheck rfl) rfl <| aN 2 7 rfl rfl (P_fieldAddr rfl ⟨_, _, _, Tryz.runUnderlying159, rfl, rfl, Tryz.sizeOf30, rfl⟩) rfl <| aV 3 15 rfl rfl (GY_none rfl) eR (V_loadR rfl foc0 rfl Tryz.isAgg30) rfl <| aN 4 31 rfl rfl (P_move rfl) rfl <| aN 5 63 rfl rfl (P_nilCheck rfl) rfl <| aN 6 127 rfl rfl (P_fieldAddr rfl ⟨_, _, _, Tryz.runUnderlying159, rfl, rfl, Tryz.sizeOf3, rfl⟩) rfl <| aV 7 255 rfl rfl (GY_none rfl) eR (V_loadR rfl foc0 rfl Tryz.isAgg3) rfl ?_
 obtain ⟨hg1, h⟩ := grd_Le h
 refine AJ_op 8 511 rfl (by kernel_rfl) rfl (GY_none rfl) <| O_call (c_FlushD hg1) rfl Tryz.call148 (Dels.cons del1 Dels.nil) rfl fun _ _ => ⟨fun h => absurd h (by decide), ?_⟩
 refine aN 9 1023 rfl rfl (P_assign rfl) rfl <| aD <| CJ_ret ?_
 cases h
 exact fE (res1 Tryz.results150 rfl) () (t1_ eR)
def Dvc.span (x_d : Int) (x_start : Int) (x_length : Int) : Dvc := { dep := 1, size := fun s => dvc_span_Size s x_d x_start x_length, rd := fun s k => dvc_span_Read s x_d x_start x_length k, wr := fun s k v => dvc_span_Write s x_d x_start x_length k v, fl := fun s => dvc_span_Flush s x_d x_start x_length }
theorem ok_Dvc_span {a : Nat} {bx : Nat} {x_d : Int} {x_start : Int} {x_length : Int} : DevOk a (Dvc.span x_d x_start x_length) ⟨157, ptr bx 0⟩ (starX [blkR bx 159 [ptr a 0, .int .i64 x_d, .int .i64 x_start, .int .i64 x_length]]) where
  dup := Dup.starX (by intro A hA; simp only [List.mem_cons, List.not_mem_nil, or_false] at hA; subst hA; exact Dup.blkR)
  dep := by simp [Dvc.span]
  nil := fun n hn w => by
    obtain ⟨m, rfl⟩ : ∃ m, n = m + 1 := ⟨n - 1, by omega⟩
    kernel_rfl
  size := fun {W s r} e => IOk.conseq (G := []) (IOk.of (fun n w => by kernel_rfl) Tryz.call152 (L_dvc_span_Size e)) (fun F => Ent.starE (Ent.take del0 (Ent.take del0 Ent.refl))) (fun _ F => Ent.starI (Ent.take del0 (Ent.take del0 Ent.refl)))
  rd := fun {W s k r} e => IOk.conseq (G := []) (IOk.of (fun n w => by kernel_rfl) Tryz.call151 (L_dvc_span_Read e)) (fun F => Ent.starE (Ent.take del0 (Ent.take del0 Ent.refl))) (fun _ F => Ent.starI (Ent.take del0 (Ent.take del0 Ent.refl)))
  wr := fun {W s k v r} e => IOk.conseq (G := []) (IOk.of (fun n w => by kernel_rfl) Tryz.call153 (L_dvc_span_Write e)) (fun F => Ent.starE (Ent.take del0 (Ent.take del0 Ent.refl))) (fun _ F => Ent.starI (Ent.take del0 (Ent.take del0 Ent.refl)))
  fl := fun {W s r} e => IOk.conseq (G := []) (IOk.of (fun n w => by kernel_rfl) Tryz.call150 (L_dvc_span_Flush e)) (fun F => Ent.starE (Ent.take del0 (Ent.take del0 Ent.refl))) (fun _ F => Ent.starI (Ent.take del0 (Ent.take del0 Ent.refl)))
end Go.Proofs
set_option linter.unusedSimpArgs false
set_option linter.unusedVariables false
set_option maxRecDepth 20000
set_option maxHeartbeats 4000000
namespace Go.Proofs
open Go.VG
theorem bs_43_1_0 (v0 : Int) : BuildsSlice Tryz.prog 43 1 [(0, .int .u64 v0)] 44 [.int .u64 v0] := fun w => by kernel_rfl
theorem bld_159_0_1_2_3 (v0 : (Option Addr)) (v1 : Int) (v2 : Int) (v3 : Int) : ∀ w, (Instr.build 159 (#[(0, .pointer v0), (1, .int .i64 v1), (2, .int .i64 v2), (3, .int .i64 v3)] : Array (Nat × Value))).run Tryz.prog w = .ok (.agg #[.pointer v0, .int .i64 v1, .int .i64 v2, .int .i64 v3]) w := fun w => by kernel_rfl
theorem bs_62_1_0 (v0 : TypeId) (v1 : Value) : BuildsSlice Tryz.prog 62 1 [(0, .iface v0 v1)] 79 [.iface v0 v1] := fun w => by kernel_rfl
def block_Span (a : ArrS) (d : Int) (start : Int) (length : Int) : Option ((Option Dvc) × Int) :=
  if (length < (1 : Int)) then
    some ((none, (1 : Int)))
  else
    Option.bind (block_inside (sizeI a d) start length) fun r1 =>
    if (¬ r1 = true) then
      some ((none, (1 : Int)))
    else
      some (((some (Dvc.span d start length)), (0 : Int)))
theorem L_block_Span {W : World} {ba : Nat} {a : ArrS} {d : Int} {start : Int} {length : Int} {r : (Option Dvc) × Int} (h : block_Span a d start length = some r) :
    CSpec Tryz.prog W 63 [ptr ba 0, .int .i64 d, .int .i64 start, .int .i64 length] [Arr ba a] (fun x : IfH => .tuple #[oif r.1 x, .int .i64 r.2]) (fun _ => True) (fun x F => Arr ba a :: optP (DevP ba · x) r.1 :: F) := by
 refine CSpec.of_body Tryz.func63 rfl Tryz.ntmps63 rfl fun F => ?_
 show CJ _ _ _ _ _ _ (_ :: F)
 unfold block_Span at h
 refine sR <| oA rfl rfl <| oA rfl rfl <| nT <| CJ_seq <| sR <| oM rfl rfl <| oP (P_lss (a := length) (b := (1 : Int)) rfl rfl) rfl <| oM rfl rfl <| RJ_splitP 12 rfl bT_dec (fun hg1B hg1 => ?_) (fun hg1B hg1 => ?_)
 ·
  replace h := ite_t hg1 h
  refine RJ_gn (GY_no rfl rfl rfl hg1B) rfl rfl <| RJ_gn (GY_no rfl rfl rfl hg1B) rfl rfl <| RJ_gn (GY_no rfl rfl rfl hg1B) rfl rfl <| RJ_gn (GY_no rfl rfl rfl hg1B) rfl rfl <| RJ_gn (GY_no rfl rfl rfl hg1B) rfl rfl <| RJ_gn (GY_no rfl rfl rfl hg1B) rfl rfl <| RJ_gn (GY_no rfl rfl rfl hg1B) rfl rfl <| oP (P_pickT rfl hg1B rfl) rfl <| nT <| CJ_condT rfl rfl <| sR <| oA rfl rfl <| oA rfl rfl <| nT <| CJ_ret <| QJ_then_ret ?_
  cases h
  exact fE (res2 Tryz.results63 rfl rfl) ⟨0, .bool false⟩ (t0_ (Ent.trans (fun h hh => optP_none h hh) <| t0_ eR))
 ·
  replace h := ite_f hg1 h
  refine gP (GY_yes rfl rfl rfl hg1B) (P_move rfl) rfl <| gP (GY_yes rfl rfl rfl hg1B) (P_move rfl) rfl <| RJ_gy (GY_yes rfl rfl rfl hg1B) <| O_call (c_SizeD) rfl Tryz.call64 (Dels.cons del0 Dels.nil) rfl fun _ _ => gP (GY_yes rfl rfl rfl hg1B) (P_move rfl) rfl <| gP (GY_yes rfl rfl rfl hg1B) (P_move rfl) rfl ?_
  obtain ⟨r1, hr2, h⟩ := bind_e h
  refine RJ_gy (GY_yes rfl rfl rfl hg1B) <| O_call (L_block_inside hr2) rfl Tryz.call101 Dels.nil rfl fun _ _ => gP (GY_yes rfl rfl rfl hg1B) (P_not rfl) rfl <| oP (P_pickF rfl hg1B rfl) rfl <| nT <| CJ_condP rfl (bT_not Iff.rfl) (fun hg2 => ?_) (fun hg2 => ?_)
  ·
   replace h := ite_t hg2 h
   refine sR <| oA rfl rfl <| oA rfl rfl <| nT <| CJ_ret <| QJ_then_ret ?_
   cases h
   exact fE (res2 Tryz.results63 rfl rfl) ⟨0, .bool false⟩ (t0_ (Ent.trans (fun h hh => optP_none h hh) <| t0_ eR))
  ·
   replace h := ite_f hg2 h
   refine kT <| sR <| oM rfl rfl <| oM rfl rfl <| oM rfl rfl <| oM rfl rfl <| oP (P_build rfl (bld_159_0_1_2_3 _ _ _ _)) rfl <| oO <| O_box rfl rfl rfl fun b3 => RJ_share del0 <| oP (P_makeIface rfl Tryz.runUnderlying157 (by intro ms h; cases h)) rfl <| RJ_ent (Ent.trans (t0_ eR) (DevP_mk (a := ba) (x := (Dvc.span d start length)) (h := (⟨157, ptr b3 0⟩ : IfH)) (ok_Dvc_span))) <| oA rfl rfl <| oA rfl rfl <| nT <| CJ_ret ?_
   cases h
   exact fE (res2 Tryz.results63 rfl rfl) ((⟨157, ptr b3 0⟩ : IfH)) (t1_ eR)
def volumegroupmake_Spans_l1_b (a : ArrS) (rec : (List Dvc) → Nat → Option (((List Dvc)) ⊕ (List Dvc))) (x10 : List Dvc) (x13 : Nat) : Option (((List Dvc)) ⊕ (List Dvc)) :=
  if (((x13 : Nat) : Int) < ((a.drv.length : Nat) : Int)) then
    Option.bind (block_Span a (((x13 : Nat) : Int)) (0 : Int) ((sizeI a (((x13 : Nat) : Int))))) fun r16 =>
    if (r16.2 ≠ (0 : Int)) then
      some (.inr ([] : List Dvc))
    else
      Option.elim r16.1 (
        some (.inr ([] : List Dvc))) fun o27 =>
      grd (inLen (x10.length + 1)) <|
      grd (inN64 (x13 + 1)) <|
      rec (x10 ++ [o27]) (x13 + 1)
  else
    some (.inl x10)
def volumegroupmake_Spans_l1 (a : ArrS) : Nat → (List Dvc) → Nat → Option (((List Dvc)) ⊕ (List Dvc))
  | 0, _, _ => none
  | n + 1, x10, x13 => volumegroupmake_Spans_l1_b a (volumegroupmake_Spans_l1 a n) x10 x13
def volumegroupmake_Spans (a : ArrS) : Option ((List Dvc)) :=
  seqO (volumegroupmake_Spans_l1 a FUEL ([] : List Dvc) 0) fun a9 =>
  some a9
theorem L_volumegroupmake_Spans {W : World} {ba : Nat} {a : ArrS} {r : (List Dvc)} (h : volumegroupmake_Spans a = some r) :
    CSpec Tryz.prog W 24 [ptr ba 0] [Arr ba a] (fun x : (Sl3 × List IfH) => x.1.v) (fun _ => True) (fun x F => Arr ba a :: sl tyDev x.1.v x.2 :: Rs (DevP ba) r x.2 :: F) := by
 refine CSpec.of_body Tryz.func24 rfl Tryz.ntmps24 rfl fun F => ?_
 show CJ _ _ _ _ _ _ (_ :: F)
 unfold volumegroupmake_Spans at h
 refine sR <| oA rfl rfl <| nT <| sR <| oA rfl rfl <| nT <| CJ_seq <| sR <| oA rfl rfl <| nT <| CJ_ent (fun h hh => sl_nil (t := tyDev) h (rs_nil (RP := DevP ba) h hh)) ?_
 obtain ⟨y5, hl3, hK4⟩ := seq_e h
 refine CJ_cutT (X := (List Dvc) × Sl3 × (List IfH)) [2, 3, 4, 5, 6, 7, 8, 9, 10, 11, 12, 13, 14, 15, 16, 17, 18, 19, 20, 21, 22, 23, 24, 25, 26, 27, 28, 29, 30, 31] (fun ⟨a9, hd7, hs8⟩ => ([(3, hd7.v)] : Slots)) (fun ⟨a9, hd7, hs8⟩ R => sl tyDev hd7.v hs8 :: Rs (DevP ba) a9 hs8 :: R) (fun ⟨a9, hd7, hs8⟩ => y5 = .inl a9) (Dels.cons del0 (Dels.cons del0 Dels.nil)) ?_ ?_
 ·
  refine CJ_block <| CJ_loopR (X := Nat × (List Dvc) × Nat × Sl3 × (List IfH)) [2, 3, 4, 5, 6, 7, 8, 9, 10, 11, 12, 13, 14, 15, 16, 17, 18, 19, 20, 21, 22, 23, 24, 25, 26, 27, 28, 29, 30, 31] (fun ⟨n, x10, x13, hd11, hs12⟩ => ([(3, hd11.v), (4, .int .i64 (((x13 : Nat) : Int)))] : Slots)) (fun ⟨n, x10, x13, hd11, hs12⟩ R => sl tyDev hd11.v hs12 :: Rs (DevP ba) x10 hs12 :: R) (fun ⟨n, x10, x13, hd11, hs12⟩ => volumegroupmake_Spans_l1 a n x10 x13 = some y5) (fun ⟨n, x10, x13, hd11, hs12⟩ => n) ⟨FUEL, ([] : List Dvc), 0, ⟨none, 0, 0⟩, ([] : List IfH)⟩ ?_ ?_ eR ?_
  · exact hl3
  · exact ⟨rfl, rfl, True.intro⟩
  ·
   rintro ⟨n, x10, x13, hd11, hs12⟩ h
   cases n with
   | zero => exact none_e h
   | succ n => ?_
   replace h : volumegroupmake_Spans_l1_b a (volumegroupmake_Spans_l1 a n) x10 x13 = some y5 := h
   unfold volumegroupmake_Spans_l1_b at h
   show CJ _ _ _ _ _ (([(3, hd11.v), (4, .int .i64 (((x13 : Nat) : Int)))] : Slots) ++ forget _ _) (sl tyDev hd11.v hs12 :: Rs (DevP ba) x10 hs12 :: _)
   refine lC del0 fun hlen14 => CJ_pure (fun h hh => Rs_len (stars_perm (del1 (A := Rs (DevP ba) x10 hs12)).out h hh)) fun hdl15 => CJ_seq <| sR <| oM rfl rfl <| oM rfl rfl <| oO <| O_call (c_CountD) rfl Tryz.call62 (Dels.cons del2 Dels.nil) rfl fun _ _ => oP (P_lss (a := ((x13 : Nat) : Int)) (b := ((a.drv.length : Nat) : Int)) rfl rfl) rfl <| nT <| CJ_condP rfl bT_dec (fun hg1 => ?_) (fun hg1 => ?_)
   ·
    replace h := ite_t hg1 h
    refine kT <| CJ_seq <| CJ_block <| sR <| oM rfl rfl <| oM rfl rfl <| oM rfl rfl <| oM rfl rfl <| oO <| O_call (c_SizeD) rfl Tryz.call64 (Dels.cons del0 Dels.nil) rfl fun _ _ => ?_
    obtain ⟨r16, hr17, h⟩ := bind_e h
    refine oO <| O_call (L_block_Span hr17) rfl Tryz.call63 (Dels.cons del0 Dels.nil) rfl fun X18 _ => oM rfl rfl <| oP (P_extract rfl rfl) rfl <| oP (P_extract rfl rfl) rfl <| oA rfl rfl <| oA rfl rfl <| nT <| CJ_seq <| sR <| oM rfl rfl <| oP (P_neq (a := r16.2) (b := (0 : Int)) rfl rfl) rfl <| oM rfl rfl <| RJ_mbF rfl rfl rfl (fun hG20 => have hP21 : ¬ (r16.2 ≠ (0 : Int)) := nP (bT_dec) hG20; VJ_P (P_move rfl)) <| RJ_splitP 24 rfl bT_dec (fun hg2B hg2 => ?_) (fun hg2B hg2 => ?_)
    ·
     replace h := ite_t hg2 h
     refine RJ_gn (GY_no rfl rfl rfl hg2B) rfl rfl <| oP (P_pickT rfl hg2B rfl) rfl <| nT <| CJ_condT rfl rfl <| sR <| oA rfl rfl <| nT <| CJ_ret <| QJ_then_ret <| QJ_block_ret <| QJ_then_ret <| QJ_round_ret <| QJ_block_ret <| QJ_then_ret <| QJ_ent (fun h hh => sl_nil (t := tyDev) h (rs_nil (RP := DevP ba) h hh)) ?_
     have hE := Option.some.inj h
     replace hE := seq_inr hK4 hE.symm
     subst hE
     exact fE (res1 Tryz.results24 rfl) ((⟨none, 0, 0⟩, ([] : List IfH))) (t2_ (t0_ (t0_ (eD (eD (eD eR))))))
    ·
     replace h := ite_f hg2 h
     rcases opt_e h with ⟨ht26, h⟩ | ⟨o27, ht26, h⟩
     ·
      rw [ht26]
      refine RJ_ent (t0_ (t1_ (t1_ (eD eR)))) <| gP (GY_yes rfl rfl rfl hg2B) (P_eqlIN (mbx (not_f hg2B) rfl) Tryz.underlying79) rfl <| oP (P_pickF rfl hg2B rfl) rfl <| nT <| CJ_condT rfl rfl <| sR <| oA rfl rfl <| nT <| CJ_ret <| QJ_then_ret <| QJ_block_ret <| QJ_then_ret <| QJ_round_ret <| QJ_block_ret <| QJ_then_ret <| QJ_ent (fun h hh => sl_nil (t := tyDev) h (rs_nil (RP := DevP ba) h hh)) ?_
      have hE := Option.some.inj h
      replace hE := seq_inr hK4 hE.symm
      subst hE
      exact fE (res1 Tryz.results24 rfl) ((⟨none, 0, 0⟩, ([] : List IfH))) (t2_ (t0_ (t0_ (eD (eD eR)))))
     ·
      rw [ht26]
      refine RJ_ent (Ent.takeC (A' := DevP ba o27 X18) del1 rfl eR) <| gP (GY_yes rfl rfl rfl hg2B) (P_eqlIfN (mbx (not_f hg2B) rfl) rfl Tryz.underlying79) rfl <| oP (P_pickF rfl hg2B rfl) rfl <| nT <| CJ_condF rfl rfl <| kT <| CJ_region <| oM rfl rfl <| oM rfl rfl <| oO <| O_buildSlice rfl (bs_62_1_0 _ _) rfl fun b30 => ?_
      obtain ⟨hg3, h⟩ := grd_Le h
      refine oO <| O_append (t := tyDev) (bytes := 16) rfl rfl del3 foc0 (Reads.lit (t := tyDev) (ys := [X18]) rfl rfl (by decide) (by decide) rfl) Tryz.underlying62 ok_tyDev (apl (m := 1) (b := 16) (by have hz : _ ≤ 1000000000 := hg3; have := hdl15; omega) (by decide)).1 (apl (m := 1) (b := 16) (by have hz : _ ≤ 1000000000 := hg3; have := hdl15; omega) (by decide)).2 rfl fun p32 c33 => RJ_ent (Ent.trans (t4_ (t2_ eR)) (Rs_push (x := o27) (g := X18) (fun _ _ => Dup_DevP))) <| RJ_pure (fun h hh => Rs_len (stars_perm (del0 (A := Rs (DevP ba) (x10 ++ [o27]) (hs12 ++ [X18]))).out h hh)) fun hdl34 => oA rfl rfl <| RJ_nil <| QJ_block_normal <| QJ_then <| CJ_region <| oM rfl rfl ?_
      obtain ⟨hg4, h⟩ := grd_Ne h
      exact oP (PJ_eq (P_add (a := ((x13 : Nat) : Int)) (b := (1 : Int)) rfl rfl (nat_in hg4)) rfl) rfl <| oA rfl rfl <| RJ_nil <| nR ⟨n, (x10 ++ [o27]), (x13 + 1), ⟨p32, (hs12 ++ [X18]).length, c33⟩, (hs12 ++ [X18])⟩ h ⟨rfl, rfl, True.intro⟩ (t2_ (t0_ (t2_ (eD (eD eR)))))
   ·
    replace h := ite_f hg1 h
    exact CJ_exit <| QJ_then_exit <| QJ_round_exit <| QJ_block_here <| cR ⟨x10, hd11, hs12⟩ (Option.some.inj h).symm ⟨rfl, True.intro⟩ (t1_ (t1_ eR))
 ·
  rintro ⟨a9, hd7, hs8⟩ hy35
  replace h := seq_inl hK4 hy35
  show CJ _ _ _ _ _ (([(3, hd7.v)] : Slots) ++ forget _ _) (sl tyDev hd7.v hs8 :: Rs (DevP ba) a9 hs8 :: _)
  refine lC del0 fun hlen36 => CJ_pure (fun h hh => Rs_len (stars_perm (del1 (A := Rs (DevP ba) a9 hs8)).out h hh)) fun hdl37 => sR <| oM rfl rfl <| oA rfl rfl <| nT <| CJ_ret ?_
  cases h
  exact fE (res1 Tryz.results24 rfl) (hd7, hs8) (t2_ eR)
end Go.Proofs
namespace Go.Proofs
open Go.VG
def mkS (ims : List (List UInt64)) : ArrS := ⟨ims.map (fun im => ⟨im, im, false⟩), [], [], 0, false, 0⟩
theorem inLen_of {n : Nat} (h : n ≤ 1000000000) : inLen n = true := inLen_iff.2 h
theorem inN64_of {n : Nat} (h : n ≤ 9000000000000000000) : inN64 n = true := inN64_iff.2 (by omega)
theorem grd_t {α : Type} {b : Bool} {o : Option α} (h : b = true) : grd b o = o := by rw [h]; rfl
theorem seqO_inl {α ρ : Type} {a : α} {k : α → Option ρ} : seqO (some (.inl a)) k = k a := rfl
theorem seqO_inr {α ρ : Type} {a : ρ} {k : α → Option ρ} : seqO (some (.inr a)) k = some a := rfl
theorem getD_take_snoc {α : Type} {l : List α} {i : Nat} {d : α} (h : i < l.length) : l.take (i + 1) = l.take i ++ [l.getD i d] := by
  rw [List.take_succ_eq_append_getElem h]; simp [List.getD, h]
end Go.Proofs
namespace Go.Proofs
open Go.VG
theorem insideB {n k m : Int} (hn : 0 ≤ n ∧ n ≤ 4611686018427387904) : block_inside n k m = some (decide (0 ≤ k ∧ k ≤ n ∧ 0 ≤ m ∧ m ≤ n - k)) := by
  unfold block_inside
  refine congrArg some ?_
  rw [Bool.eq_iff_iff]
  by_cases h : 0 ≤ k ∧ k ≤ n
  · rw [wrap64_in (by omega) (by omega)]; simp; omega
  · simp; omega
theorem inside1 {n k : Int} (hn : 0 ≤ n ∧ n ≤ 4611686018427387904) : block_inside n k 1 = some (decide (0 ≤ k ∧ k < n)) := by
  rw [insideB hn]; exact congrArg some (decide_eq_decide.2 (by omega))
theorem inI64_of {n : Int} (h : -4611686018427387904 ≤ n ∧ n ≤ 4611686018427387904) : inI64 n = true := inI64_iff.2 (by omega)
def spansA (s : ArrS) : List Dvc := (List.range s.drv.length).map fun i => Dvc.span ((i : Nat) : Int) 0 ((s.size i : Nat) : Int)
@[simp] theorem spansA_length {s : ArrS} : (spansA s).length = s.drv.length := by simp [spansA]
theorem sizeI_of {s : ArrS} {i : Nat} (h : i < s.drv.length) : sizeI s (i : Int) = ((s.size i : Nat) : Int) := by
  rw [sizeI, if_pos (show inR s (i : Int) from ⟨by omega, by omega⟩)]; simp
theorem span_mk {s : ArrS} {d st n : Int} (h1 : 1 ≤ n) (h2 : 0 ≤ st) (h3 : st + n ≤ sizeI s d) (h4 : sizeI s d ≤ 1000000000) : block_Span s d st n = some (some (Dvc.span d st n), 0) := by
  unfold block_Span
  rw [if_neg (by omega), insideB (by omega)]
  simp only [Option.bind_some]
  rw [if_neg (by simp; omega)]
theorem span_size {s : ArrS} {d st n : Int} : (Dvc.span d st n).size s = some n := rfl
theorem span_rd {s : ArrS} {d st n k : Int} (hn : 0 ≤ n ∧ n ≤ 1000000000) (hs : 0 ≤ st ∧ st ≤ 1000000000) : (Dvc.span d st n).rd s k = some (if 0 ≤ k ∧ k < n then (rdV s d (st + k), rdC s d (st + k)) else (0, 1)) := by
  show dvc_span_Read _ _ _ _ _ = _
  unfold dvc_span_Read
  rw [inside1 (by omega)]; simp only [Option.bind_some]
  by_cases h : 0 ≤ k ∧ k < n
  · rw [if_neg (by simp [h]), grd_t (inI64_of (by omega)), if_pos h]
  · rw [if_pos (by simpa using h), if_neg h]
theorem span_wr {s : ArrS} {d st n k : Int} {v : UInt64} (hn : 0 ≤ n ∧ n ≤ 1000000000) (hs : 0 ≤ st ∧ st ≤ 1000000000) (hw : s.writes ≤ 1000000000) : (Dvc.span d st n).wr s k v = some (if 0 ≤ k ∧ k < n then (wrR s d (st + k), wrS s d (st + k) v) else (1, s)) := by
  show dvc_span_Write _ _ _ _ _ _ = _
  unfold dvc_span_Write
  rw [inside1 (by omega)]; simp only [Option.bind_some]
  by_cases h : 0 ≤ k ∧ k < n
  · rw [if_neg (by simp [h]), grd_t (inI64_of (by omega)), grd_t (inLen_of hw), if_pos h]
  · rw [if_pos (by simpa using h), if_neg h]
theorem span_fl {s : ArrS} {d st n : Int} (hw : s.writes ≤ 1000000000) : (Dvc.span d st n).fl s = some (flC s d, flS s d) := by
  show dvc_span_Flush s d st n = _
  unfold dvc_span_Flush
  rw [grd_t (inLen_of hw)]
theorem inside_t {n k m : Int} (hn : n ≤ 1000000000) (h : 0 ≤ k ∧ 0 ≤ m ∧ k + m ≤ n) : block_inside n k m = some true := by
  rw [insideB (by omega)]; exact congrArg some (decide_eq_true (by omega))
end Go.Proofs
namespace Go.Proofs
open Go.VG
def nowL (s : ArrS) (d : Nat) : List UInt64 := (s.drv.getD d d0).now
theorem size_nowL {s : ArrS} {d : Nat} : s.size d = (nowL s d).length := rfl
structure Good (s : ArrS) : Prop where
  down : s.down = false
  fuse : s.fuse = 0
  bad : s.bad = []
  miss : ∀ d, (s.drv.getD d d0).miss = false
theorem good_mkS {ims : List (List UInt64)} : Good (mkS ims) where
  down := rfl
  fuse := rfl
  bad := rfl
  miss d := by
    simp only [mkS, List.getD, List.getElem?_map]
    cases ims[d]? <;> rfl
theorem nowL_mkS {ims : List (List UInt64)} {d : Nat} : nowL (mkS ims) d = ims.getD d [] := by
  simp only [nowL, mkS, List.getD, List.getElem?_map]
  cases ims[d]? <;> rfl
@[simp] theorem drv_mkS {ims : List (List UInt64)} : (mkS ims).drv.length = ims.length := by simp [mkS]
theorem Good.chk {s : ArrS} (hg : Good s) {d a : Nat} (hd : d < s.drv.length) (ha : a < s.size d) : cPow s = 0 ∧ cLoc s d = 0 ∧ cPla s d a = 0 ∧ cPre s d = 0 ∧ cWho s d a = 0 := by
  refine ⟨by simp [cPow, hg.down], ?_, ?_, by simp only [cPre, missI, Int.toNat_natCast, hg.miss d]; rfl, by simp [cWho, isBad, hg.bad, lookM]⟩
  · rw [cLoc, if_pos (show inR s (d : Int) from ⟨by omega, by omega⟩)]
  · rw [cPla, sizeI_of hd, if_pos (by omega)]
theorem Good.rdC {s : ArrS} (hg : Good s) {d a : Nat} (hd : d < s.drv.length) (ha : a < s.size d) : rdC s d a = 0 := by
  obtain ⟨h1, h2, h3, h4, h5⟩ := hg.chk hd ha
  simp [Go.Proofs.rdC, fz, h1, h2, h3, h4, h5]
theorem Good.rdV {s : ArrS} (hg : Good s) {d a : Nat} (hd : d < s.drv.length) (ha : a < s.size d) : rdV s d a = (nowL s d).getD a 0 := by
  rw [Go.Proofs.rdV, if_pos (hg.rdC hd ha)]; rfl
def wr1 (s : ArrS) (d a : Nat) (v : UInt64) : ArrS := { s with drv := setNow s d a v, log := s.log ++ [⟨d, a, v⟩], writes := s.writes + 1 }
theorem Good.wr {s : ArrS} (hg : Good s) {d a : Nat} {v : UInt64} (hd : d < s.drv.length) (ha : a < s.size d) : wrR s d a = 0 ∧ wrS s d a v = wr1 s d a v := by
  obtain ⟨h1, h2, h3, h4, h5⟩ := hg.chk hd ha
  have hc : wrC s d a = 0 := by simp [wrC, fz, h1, h2, h3, h4]
  refine ⟨by rw [wrR, if_neg (by simp [hc]), if_neg (by rw [hg.fuse]; decide)], ?_⟩
  rw [wrS, if_neg (by simp [hc]), if_neg (by rw [hg.fuse]; decide)]
  have hdel : delM ([] : List ((Int × Int) × Unit)) ((d : Int), (a : Int)) = [] := rfl
  simp only [wr1, Int.toNat_natCast, hg.bad, hg.fuse, hdel]
theorem nowL_wr1 {s : ArrS} {d a e : Nat} {v : UInt64} (hd : d < s.drv.length) : nowL (wr1 s d a v) e = if e = d then (nowL s d).set a v else nowL s e := by
  unfold nowL wr1 setNow
  simp only [List.getD, List.getElem?_set]
  by_cases h : d = e
  · subst h; simp [hd]
  · rw [if_neg h, if_neg (fun x => h x.symm)]
@[simp] theorem drv_wr1 {s : ArrS} {d a : Nat} {v : UInt64} : (wr1 s d a v).drv.length = s.drv.length := by simp [wr1, setNow]
@[simp] theorem writes_wr1 {s : ArrS} {d a : Nat} {v : UInt64} : (wr1 s d a v).writes = s.writes + 1 := rfl
theorem size_wr1 {s : ArrS} {d a e : Nat} {v : UInt64} (hd : d < s.drv.length) : (wr1 s d a v).size e = s.size e := by
  rw [size_nowL, size_nowL, nowL_wr1 hd]; split
  · rename_i h; rw [List.length_set, h]
  · rfl
theorem Good.wr1 {s : ArrS} (hg : Good s) {d a : Nat} {v : UInt64} : Good (wr1 s d a v) where
  down := hg.down
  fuse := hg.fuse
  bad := hg.bad
  miss e := by
    have h0 := hg.miss e
    simp only [Go.Proofs.wr1, setNow, List.getD, List.getElem?_set] at h0 ⊢
    by_cases h : d = e
    · subst h
      by_cases hl : d < s.drv.length
      · have h1 := hg.miss d
        simp [hl, List.getD] at h1 ⊢
        exact h1
      · simp [hl]
    · rw [if_neg h]; exact h0
end Go.Proofs
namespace Go.Proofs
open Go.VG
theorem Good.span_rd {s : ArrS} (hg : Good s) {d st n k : Nat} (hd : d < s.drv.length) (hk : k < n) (hn : st + n ≤ s.size d) (hb : s.size d ≤ 1000000000) : (Dvc.span (d : Int) (st : Int) (n : Int)).rd s (k : Int) = some ((nowL s d).getD (st + k) 0, 0) := by
  rw [Go.Proofs.span_rd (by omega) (by omega), if_pos (by omega)]
  have e : (st : Int) + (k : Int) = ((st + k : Nat) : Int) := by omega
  rw [e, hg.rdC hd (by omega), hg.rdV hd (by omega)]
theorem Good.span_wr {s : ArrS} (hg : Good s) {d st n k : Nat} {v : UInt64} (hd : d < s.drv.length) (hk : k < n) (hn : st + n ≤ s.size d) (hb : s.size d ≤ 1000000000) (hw : s.writes ≤ 1000000000) : (Dvc.span (d : Int) (st : Int) (n : Int)).wr s (k : Int) v = some (0, Go.Proofs.wr1 s d (st + k) v) := by
  rw [Go.Proofs.span_wr (by omega) (by omega) hw, if_pos (by omega)]
  have e : (st : Int) + (k : Int) = ((st + k : Nat) : Int) := by omega
  rw [e, (hg.wr (v := v) hd (by omega)).1, (hg.wr hd (by omega)).2]
def wrN (s : ArrS) (d a : Nat) (f : Nat → UInt64) : Nat → ArrS
  | 0 => s
  | n + 1 => wr1 (wrN s d a f n) d (a + n) (f n)
theorem Good.wrN {s : ArrS} (hg : Good s) {d a : Nat} {f : Nat → UInt64} : ∀ n, Good (wrN s d a f n)
  | 0 => hg
  | n + 1 => (Good.wrN hg n).wr1
@[simp] theorem drv_wrN {s : ArrS} {d a : Nat} {f : Nat → UInt64} : ∀ {n}, (wrN s d a f n).drv.length = s.drv.length
  | 0 => rfl
  | n + 1 => by rw [wrN, drv_wr1, drv_wrN]
@[simp] theorem writes_wrN {s : ArrS} {d a : Nat} {f : Nat → UInt64} : ∀ {n}, (wrN s d a f n).writes = s.writes + n
  | 0 => rfl
  | n + 1 => by rw [wrN, writes_wr1, writes_wrN]; omega
theorem getD_set_ne {l : List UInt64} {i j : Nat} {v : UInt64} (h : i ≠ j) : (l.set i v).getD j 0 = l.getD j 0 := by
  simp [List.getD, List.getElem?_set, h]
theorem getD_set_eq {l : List UInt64} {i : Nat} {v : UInt64} (h : i < l.length) : (l.set i v).getD i 0 = v := by
  simp [List.getD, List.getElem?_set, h]
end Go.Proofs
namespace Go.Proofs
open Go.VG
def durL (s : ArrS) (d : Nat) : List UInt64 := (s.drv.getD d d0).dur
def pendR (log : List Rec) (d a : Nat) : List UInt64 := (log.filter fun r => decide (r.d = d ∧ r.a = a)).map Rec.v
abbrev pend (s : ArrS) (d a : Nat) : List UInt64 := pendR s.log d a
def now (s : ArrS) (d a : Nat) : UInt64 := (nowL s d).getD a 0
def dur (s : ArrS) (d a : Nat) : UInt64 := (durL s d).getD a 0
abbrev cand (s : ArrS) (d a : Nat) : List UInt64 := dur s d a :: pend s d a
theorem pendR_nil {d a : Nat} : pendR [] d a = [] := rfl
theorem pendR_append {l l' : List Rec} {d a : Nat} : pendR (l ++ l') d a = pendR l d a ++ pendR l' d a := by simp [pendR]
theorem pendR_one {r : Rec} {d a : Nat} : pendR [r] d a = if r.d = d ∧ r.a = a then [r.v] else [] := by
  by_cases h : r.d = d ∧ r.a = a
  · simp [pendR, h]
  · simp [pendR, h]
theorem pendR_cons {r : Rec} {l : List Rec} {d a : Nat} : pendR (r :: l) d a = if r.d = d ∧ r.a = a then r.v :: pendR l d a else pendR l d a := by
  rw [show r :: l = [r] ++ l from rfl, pendR_append, pendR_one]; split <;> rfl
theorem pendR_others {l : List Rec} {d e a : Nat} : pendR (others e l) d a = if d = e then [] else pendR l d a := by
  unfold pendR others
  rw [List.filter_filter]
  by_cases h : d = e
  · subst h
    rw [if_pos rfl, List.filter_eq_nil_iff.2]; · rfl
    intro r _ hr; simp at hr; exact hr.2 hr.1.1
  · rw [if_neg h]
    congr 1; apply List.filter_congr; intro r _
    by_cases h2 : r.d = d ∧ r.a = a
    · simp [h2, h]
    · simp [h2]
def lastD : UInt64 → List UInt64 → UInt64
  | d, [] => d
  | _, x :: l => lastD x l
theorem lastD_snoc {v : UInt64} : ∀ {l : List UInt64} {d : UInt64}, lastD d (l ++ [v]) = v
  | [], _ => rfl
  | x :: l, _ => lastD_snoc (l := l) (d := x)
theorem lastD_mem : ∀ {l : List UInt64} {d : UInt64}, lastD d l ∈ d :: l
  | [], _ => List.mem_cons_self
  | x :: l, _ => List.mem_cons_of_mem _ (lastD_mem (l := l) (d := x))
structure Coh (s : ArrS) : Prop where
  len : ∀ d, (durL s d).length = (nowL s d).length
  last : ∀ d a, a < s.size d → lastD (dur s d a) (pend s d a) = now s d a
  log : ∀ r ∈ s.log, r.d < s.drv.length ∧ r.a < s.size r.d
theorem coh_mkS {ims : List (List UInt64)} : Coh (mkS ims) where
  len d := by simp only [durL, nowL, mkS, List.getD, List.getElem?_map]; cases ims[d]? <;> rfl
  last d a _ := by
    show dur (mkS ims) d a = _
    simp only [dur, now, durL, nowL, mkS, List.getD, List.getElem?_map]
    cases ims[d]? <;> rfl
  log r h := by cases h
theorem getD_set {l : List UInt64} {i j : Nat} {v : UInt64} (h : i < l.length) : (l.set i v).getD j 0 = if j = i then v else l.getD j 0 := by
  by_cases e : j = i
  · subst e; rw [if_pos rfl, getD_set_eq h]
  · rw [if_neg e, getD_set_ne (fun x => e x.symm)]
theorem drv_set {l : List Drive} {i j : Nat} {x : Drive} (h : i < l.length) : (l.set i x).getD j d0 = if j = i then x else l.getD j d0 := by
  simp only [List.getD, List.getElem?_set]
  by_cases e : i = j
  · subst e; simp [h]
  · rw [if_neg e, if_neg (fun x => e x.symm)]
section
variable {s : ArrS} {d a : Nat} {v : UInt64}
theorem durL_wr1 {e : Nat} (hd : d < s.drv.length) : durL (wr1 s d a v) e = durL s e := by
  unfold durL wr1 setNow
  rw [drv_set hd]; split
  · rename_i h; subst h; rfl
  · rfl
theorem pend_wr1 {e b : Nat} : pend (wr1 s d a v) e b = if d = e ∧ a = b then pend s e b ++ [v] else pend s e b := by
  show pendR (s.log ++ [⟨d, a, v⟩]) e b = _
  rw [pendR_append, pendR_one]; split <;> simp_all
theorem now_wr1 {e b : Nat} (hd : d < s.drv.length) (ha : a < s.size d) : now (wr1 s d a v) e b = if d = e ∧ a = b then v else now s e b := by
  unfold now
  rw [nowL_wr1 hd]
  by_cases h : e = d
  · subst h; rw [if_pos rfl, getD_set (show a < (nowL s e).length from ha)]
    by_cases h2 : b = a
    · subst h2; simp
    · rw [if_neg h2, if_neg (fun x => h2 x.2.symm)]
  · rw [if_neg h, if_neg (fun x => h x.1.symm)]
theorem dur_wr1 {e b : Nat} (hd : d < s.drv.length) : dur (wr1 s d a v) e b = dur s e b := by unfold dur; rw [durL_wr1 hd]
theorem Coh.wr1 (hc : Coh s) (hd : d < s.drv.length) (ha : a < s.size d) : Coh (wr1 s d a v) where
  len e := by rw [durL_wr1 hd, nowL_wr1 hd]; split
              · rename_i h; subst h; rw [List.length_set]; exact hc.len _
              · exact hc.len e
  last e b hb := by
    rw [size_wr1 hd] at hb
    have h1 := hc.last e b hb
    rw [dur_wr1 hd, pend_wr1, now_wr1 hd ha]
    by_cases h : d = e ∧ a = b
    · rw [if_pos h, if_pos h, lastD_snoc]
    · rw [if_neg h, if_neg h]; exact h1
  log r hr := by
    rw [drv_wr1, size_wr1 hd]
    rcases List.mem_append.1 (show r ∈ s.log ++ [⟨d, a, v⟩] from hr) with h | h
    · exact hc.log r h
    · rw [List.mem_singleton.1 h]; exact ⟨hd, ha⟩
end
def fl1 (s : ArrS) (d : Nat) : ArrS := { s with drv := s.drv.set d { s.drv.getD d d0 with dur := flDur (s.drv.getD d d0).now d s.log (s.drv.getD d d0).dur }, log := others d s.log }
theorem flDur_at {nw : List UInt64} {i a : Nat} : ∀ {log : List Rec} {du : List UInt64}, a < du.length → (flDur nw i log du).getD a 0 = if pendR log i a = [] then du.getD a 0 else nw.getD a 0
  | [], du, _ => by rw [pendR_nil, if_pos rfl]; rfl
  | r :: log, du, h => by
    show (flDur nw i log (if r.d = i then du.set r.a (nw.getD r.a 0) else du)).getD a 0 = _
    rw [flDur_at (by split <;> simpa using h), pendR_cons]
    by_cases hr : r.d = i
    · rw [if_pos hr]
      by_cases ha : r.a = a
      · rw [show (if r.d = i ∧ r.a = a then r.v :: pendR log i a else pendR log i a) = r.v :: pendR log i a from if_pos ⟨hr, ha⟩, if_neg (show ¬ r.v :: pendR log i a = [] by simp)]
        subst ha
        split
        · rw [getD_set_eq h]
        · rfl
      · rw [show (if r.d = i ∧ r.a = a then r.v :: pendR log i a else pendR log i a) = pendR log i a from if_neg (fun x => ha x.2), getD_set_ne ha]
    · rw [if_neg hr, show (if r.d = i ∧ r.a = a then r.v :: pendR log i a else pendR log i a) = pendR log i a from if_neg (fun x => hr x.1)]
section
variable {s : ArrS} {d : Nat}
@[simp] theorem drv_fl1 : (fl1 s d).drv.length = s.drv.length := by simp [fl1]
theorem nowL_fl1 {e : Nat} (hd : d < s.drv.length) : nowL (fl1 s d) e = nowL s e := by
  unfold nowL fl1
  rw [drv_set hd]; split
  · rename_i h; subst h; rfl
  · rfl
theorem size_fl1 {e : Nat} (hd : d < s.drv.length) : (fl1 s d).size e = s.size e := by rw [size_nowL, size_nowL, nowL_fl1 hd]
theorem pend_fl1 {e b : Nat} : pend (fl1 s d) e b = if e = d then [] else pend s e b := pendR_others
theorem dur_fl1 {e b : Nat} (hc : Coh s) (hd : d < s.drv.length) (hb : b < s.size e) : dur (fl1 s d) e b = if e = d then now s e b else dur s e b := by
  unfold dur durL fl1
  rw [drv_set hd]
  by_cases h : e = d
  · subst h
    rw [if_pos rfl, if_pos rfl]
    have hl := hc.last e b hb
    rw [flDur_at (by have := hc.len e; unfold durL at this; rw [this]; exact hb)]
    by_cases hp : pendR s.log e b = []
    · rw [if_pos hp]
      have : pend s e b = [] := hp
      rw [this] at hl
      exact hl
    · rw [if_neg hp]; rfl
  · rw [if_neg h, if_neg h]
theorem now_fl1 {e b : Nat} (hd : d < s.drv.length) : now (fl1 s d) e b = now s e b := by unfold now; rw [nowL_fl1 hd]
theorem Coh.fl1 (hc : Coh s) (hd : d < s.drv.length) : Coh (fl1 s d) where
  len e := by
    rw [nowL_fl1 hd]
    unfold durL Go.Proofs.fl1
    rw [drv_set hd]; split
    · rename_i h; subst h; rw [flDur_len]; exact hc.len _
    · exact hc.len e
  last e b hb := by
    rw [size_fl1 hd] at hb
    have h1 := hc.last e b hb
    rw [dur_fl1 hc hd hb, pend_fl1, now_fl1 hd]
    by_cases h : e = d
    · rw [if_pos h, if_pos h]; rfl
    · rw [if_neg h, if_neg h]; exact h1
  log r hr := by
    rw [drv_fl1, size_fl1 hd]
    exact hc.log r (List.mem_filter.1 (show r ∈ others d s.log from hr)).1
theorem miss_fl1 {e : Nat} (hd : d < s.drv.length) : ((fl1 s d).drv.getD e d0).miss = (s.drv.getD e d0).miss := by
  unfold fl1
  rw [drv_set hd]; split
  · rename_i h; subst h; rfl
  · rfl
theorem Good.fl1 (hg : Good s) (hd : d < s.drv.length) : Good (fl1 s d) where
  down := hg.down
  fuse := hg.fuse
  bad := hg.bad
  miss e := by rw [miss_fl1 hd]; exact hg.miss e
theorem flC_of (hdn : s.down = false) (hd : d < s.drv.length) : flC s d = if (s.drv.getD d d0).miss then 6 else 0 := by
  have h1 : cPow s = 0 := by simp [cPow, hdn]
  have h2 : cLoc s d = 0 := by rw [cLoc, if_pos (show inR s (d : Int) from ⟨by omega, by omega⟩)]
  simp only [flC, fz, h1, h2, cPre, missI, Int.toNat_natCast]
  by_cases hm : (s.drv.getD d d0).miss = true
  · simp [hm]
  · simp [hm]
theorem flS_of (h : flC s d = 0) : flS s d = fl1 s d := flS_ok h
end
theorem rsGo_dur {ks : List Bool} {d a : Nat} : ∀ {log : List Rec} {n : Nat} {ds : List Drive}, d < ds.length → a < (ds.getD d d0).dur.length →
    (((rsGo ks n log ds).getD d d0).dur.getD a 0) ∈ ((ds.getD d d0).dur.getD a 0) :: pendR log d a
  | [], _, _, _, _ => List.mem_cons_self
  | r :: log, n, ds, hd, ha => by
    show ((rsGo ks (n + 1) log (if ks.getD n false = true then putD ds r else ds)).getD d d0).dur.getD a 0 ∈ _
    have hk := putD_keep ds r d
    by_cases h : ks.getD n false = true
    · rw [if_pos h]
      have := rsGo_dur (ks := ks) (d := d) (a := a) (log := log) (n := n + 1) (ds := putD ds r) (by rw [hk.1]; exact hd) (by rw [hk.2.2.1]; exact ha)
      rw [pendR_cons]
      by_cases hr : r.d = d
      · have e1 : (putD ds r).getD d d0 = { ds.getD d d0 with dur := (ds.getD d d0).dur.set r.a r.v } := by
          unfold putD; rw [drv_set (by omega), if_pos hr.symm, hr]
        rw [e1] at this
        by_cases hra : r.a = a
        · rw [if_pos ⟨hr, hra⟩]
          rw [hra, getD_set_eq ha] at this
          exact List.mem_cons_of_mem _ this
        · rw [if_neg (fun x => hra x.2)]
          rw [getD_set_ne hra] at this
          exact this
      · have e1 : (putD ds r).getD d d0 = ds.getD d d0 := by
          unfold putD
          by_cases hl : r.d < ds.length
          · rw [drv_set hl, if_neg (fun x => hr x.symm)]
          · rw [List.set_eq_of_length_le (by omega)]
        rw [e1] at this
        rw [if_neg (fun x => hr x.1)]; exact this
    · rw [if_neg h, pendR_cons]
      have := rsGo_dur (ks := ks) (d := d) (a := a) (log := log) (n := n + 1) (ds := ds) hd ha
      split
      · rcases List.mem_cons.1 this with e | e
        · rw [e]; exact List.mem_cons_self
        · exact List.mem_cons_of_mem _ (List.mem_cons_of_mem _ e)
      · exact this
section
variable {s : ArrS} {ks : List Bool}
@[simp] theorem drv_rs : (rsS s ks).drv.length = s.drv.length := by simp [rsS, (rsGo_keep ks s.log 0 s.drv 0).1]
theorem nowL_rs {d : Nat} : nowL (rsS s ks) d = durL (rsS s ks) d := by unfold nowL durL; rw [rs_at]; rfl
theorem durL_rs_len {d : Nat} : (durL (rsS s ks) d).length = (durL s d).length := by
  unfold durL; rw [rs_at]; exact (rsGo_keep ks s.log 0 s.drv d).2.2.1
theorem size_rs {d : Nat} (hc : Coh s) : (rsS s ks).size d = s.size d := by rw [size_nowL, nowL_rs, durL_rs_len, hc.len]; rfl
theorem now_rs {d a : Nat} : now (rsS s ks) d a = dur (rsS s ks) d a := by unfold now dur; rw [nowL_rs]
theorem dur_rs {d a : Nat} (hc : Coh s) (hd : d < s.drv.length) (ha : a < s.size d) : dur (rsS s ks) d a ∈ cand s d a := by
  unfold dur durL; rw [rs_at]
  exact rsGo_dur hd (by have := hc.len d; unfold durL at this; rw [this]; exact ha)
theorem Coh.rs (hc : Coh s) : Coh (rsS s ks) where
  len d := by rw [nowL_rs]
  last d a _ := by show dur (rsS s ks) d a = _; rw [now_rs]
  log r h := by cases h
theorem miss_rs {d : Nat} : ((rsS s ks).drv.getD d d0).miss = (s.drv.getD d d0).miss := by rw [rs_at]; exact (rsGo_keep ks s.log 0 s.drv d).2.2.2
end
end Go.Proofs
namespace Go.Proofs
open Go.VG
structure InSz (ns : List Nat) (s : ArrS) : Prop where
  cnt : s.drv.length = ns.length
  size : ∀ d, d < ns.length → s.size d = ns.getD d 0
  wr : s.writes ≤ 1000000000
theorem flS_drv {s : ArrS} {d : Nat} : (flS s d).drv.length = s.drv.length := by unfold flS; split <;> simp
theorem flS_writes {s : ArrS} {d : Int} : (flS s d).writes = s.writes := by unfold flS; split <;> rfl
theorem flS_size {s : ArrS} {d e : Nat} : (flS s d).size e = s.size e := by
  unfold flS; split
  · rfl
  · rename_i h
    have hd : d < s.drv.length := by
      rcases Nat.lt_or_ge d s.drv.length with h' | h'
      · exact h'
      · exfalso; apply h
        have : cLoc s (d : Int) = 1 := by rw [cLoc, if_neg (fun x : inR s (d : Int) => by have := x.2; omega)]
        intro h0
        have h1 := h0
        unfold flC fz at h1
        by_cases hp : cPow s = 0
        · simp [hp, fz, this] at h1
        · simp [hp] at h1
    exact size_fl1 (s := s) hd
theorem InSz.flS {ns : List Nat} {s : ArrS} (h : InSz ns s) (d : Nat) : InSz ns (flS s d) := ⟨by rw [flS_drv]; exact h.cnt, fun e he => by rw [flS_size]; exact h.size e he, by rw [flS_writes]; exact h.wr⟩
def flsS : ArrS → List Nat → ArrS
  | s, [] => s
  | s, d :: ds => flsS (flS s d) ds
def flsC : ArrS → List Nat → Int
  | _, [] => 0
  | s, d :: ds => if flC s d = 0 then flsC (flS s d) ds else flC s d
theorem InSz.flsS {ns : List Nat} : ∀ {ds : List Nat} {s : ArrS}, InSz ns s → InSz ns (flsS s ds)
  | [], _, h => h
  | d :: ds, s, h => show InSz ns (Go.Proofs.flsS (Go.Proofs.flS s d) ds) from InSz.flsS (h.flS d)
structure MapD (ns : List Nat) (x : Dvc) (n : Nat) (f : Nat → Nat × Nat) (ds : List Nat) : Prop where
  small : n ≤ 1000000000
  at_ : ∀ k, k < n → (f k).1 < ns.length ∧ (f k).2 < ns.getD (f k).1 0 ∧ (f k).1 ∈ ds
  size : ∀ s, InSz ns s → x.size s = some (n : Int)
  rd : ∀ s (k : Nat), InSz ns s → k < n → x.rd s (k : Int) = some (rdV s (f k).1 (f k).2, rdC s (f k).1 (f k).2)
  rdo : ∀ s (k : Int), InSz ns s → ¬ (0 ≤ k ∧ k < n) → x.rd s k = some (0, 1)
  wr : ∀ s (k : Nat) v, InSz ns s → k < n → x.wr s (k : Int) v = some (wrR s (f k).1 (f k).2, wrS s (f k).1 (f k).2 v)
  wro : ∀ s (k : Int) v, InSz ns s → ¬ (0 ≤ k ∧ k < n) → x.wr s k v = some (1, s)
  fl : ∀ s, InSz ns s → x.fl s = some (flsC s ds, flsS s ds)
theorem MapD.span {ns : List Nat} {d st n : Nat} (hd : d < ns.length) (hn : st + n ≤ ns.getD d 0) (hb : ns.getD d 0 ≤ 1000000000) : MapD ns (Dvc.span (d : Int) (st : Int) (n : Int)) n (fun k => (d, st + k)) [d] where
  small := by omega
  at_ k hk := ⟨hd, by show st + k < ns.getD d 0; omega, List.mem_singleton.2 rfl⟩
  size s h := rfl
  rd s k h hk := by
    rw [span_rd (by omega) (by omega), if_pos (by omega)]
    have e : (st : Int) + (k : Int) = ((st + k : Nat) : Int) := by omega
    rw [e]
  rdo s k h hk := by rw [span_rd (by omega) (by omega), if_neg hk]
  wr s k v h hk := by
    rw [span_wr (by omega) (by omega) h.wr, if_pos (by omega)]
    have e : (st : Int) + (k : Int) = ((st + k : Nat) : Int) := by omega
    rw [e]
  wro s k v h hk := by rw [span_wr (by omega) (by omega) h.wr, if_neg hk]
  fl s h := by
    rw [span_fl h.wr]
    show _ = some ((if flC s d = 0 then (0 : Int) else flC s d), flS s d)
    by_cases e : flC s d = 0
    · rw [if_pos e, e]
    · rw [if_neg e]
end Go.Proofs
namespace Go.Proofs
open Go.VG
def miss (s : ArrS) (d : Nat) : Bool := (s.drv.getD d d0).miss
structure Flushed (s : ArrS) (ds : List Nat) (t : ArrS) : Prop where
  drv : t.drv.length = s.drv.length
  now : ∀ d, nowL t d = nowL s d
  dur : ∀ d a, a < s.size d → dur t d a = if d ∈ ds ∧ miss s d = false then Go.Proofs.now s d a else Go.Proofs.dur s d a
  pend : ∀ d a, pend t d a = if d ∈ ds ∧ miss s d = false then [] else Go.Proofs.pend s d a
  miss : ∀ d, miss t d = Go.Proofs.miss s d
  down : t.down = s.down
  fuse : t.fuse = s.fuse
  bad : t.bad = s.bad
  wr : t.writes = s.writes
  coh : Coh t
theorem Flushed.none {s : ArrS} (h : Coh s) : Flushed s [] s where
  drv := rfl
  now _ := rfl
  dur _ _ _ := by simp
  pend _ _ := by simp
  miss _ := rfl
  down := rfl
  fuse := rfl
  bad := rfl
  wr := rfl
  coh := h
theorem flC_miss {s : ArrS} {d : Nat} (hdn : s.down = false) (hd : d < s.drv.length) : flC s d = if miss s d then 6 else 0 := flC_of hdn hd
theorem flS_miss {s : ArrS} {d : Nat} (hdn : s.down = false) (hd : d < s.drv.length) : flS s d = if miss s d then s else fl1 s d := by
  have h := flC_miss hdn hd
  by_cases hm : miss s d = true
  · rw [if_pos hm] at h; rw [if_pos hm]
    unfold flS; rw [if_pos (by rw [h]; decide)]
  · rw [if_neg hm] at h; rw [if_neg hm]; exact flS_of h
theorem flushed : ∀ {ds : List Nat} {s : ArrS}, Coh s → s.down = false → (∀ d ∈ ds, d < s.drv.length) → Flushed s ds (flsS s ds) ∧ flsC s ds = if ds.any (fun d => miss s d) then 6 else 0
  | [], s, hc, _, _ => ⟨Flushed.none hc, rfl⟩
  | d :: ds, s, hc, hdn, hds => by
    have hd := hds d List.mem_cons_self
    have hC := flC_miss hdn hd
    have hS := flS_miss hdn hd
    show Flushed s (d :: ds) (flsS (flS s d) ds) ∧ (if flC s d = 0 then flsC (flS s d) ds else flC s d) = _
    by_cases hm : miss s d = true
    · rw [if_pos hm] at hC hS
      rw [hS, hC]
      obtain ⟨h1, -⟩ := flushed (ds := ds) hc hdn (fun e he => hds e (List.mem_cons_of_mem _ he))
      refine ⟨{ h1 with dur := fun e a ha => ?_, pend := fun e a => ?_ }, by simp [hm]⟩
      · rw [h1.dur e a ha]
        by_cases he : e = d
        · subst he; rw [if_neg (by simp [hm]), if_neg (by simp [hm])]
        · simp [he]
      · rw [h1.pend e a]
        by_cases he : e = d
        · subst he; rw [if_neg (by simp [hm]), if_neg (by simp [hm])]
        · simp [he]
    · have hm' : miss s d = false := by simpa using hm
      rw [if_neg hm] at hC hS
      rw [hS, hC]
      have hmm : ∀ e, miss (fl1 s d) e = miss s e := fun e => miss_fl1 hd
      obtain ⟨h1, h2⟩ := flushed (ds := ds) (s := fl1 s d) (hc.fl1 hd) hdn (fun e he => by rw [drv_fl1]; exact hds e (List.mem_cons_of_mem _ he))
      refine ⟨⟨by rw [h1.drv, drv_fl1], fun e => by rw [h1.now, nowL_fl1 hd], fun e a ha => ?_, fun e a => ?_, fun e => by rw [h1.miss, hmm], h1.down, h1.fuse, h1.bad, h1.wr, h1.coh⟩, ?_⟩
      · rw [h1.dur e a (by rw [size_fl1 hd]; exact ha), hmm, now_fl1 hd, dur_fl1 hc hd ha]
        by_cases he : e = d
        · subst he; simp [hm']
        · simp [he]
      · rw [h1.pend e a, hmm, pend_fl1]
        by_cases he : e = d
        · subst he; simp [hm']
        · simp [he]
      · rw [if_pos rfl, h2, List.any_cons, hm', Bool.false_or]
        congr 1
        simp only [hmm]
theorem Flushed.size {s t : ArrS} {ds : List Nat} (h : Flushed s ds t) {d : Nat} : t.size d = s.size d := by rw [size_nowL, size_nowL, h.now]
theorem Flushed.inSz {ns : List Nat} {s t : ArrS} {ds : List Nat} (h : Flushed s ds t) (hs : InSz ns s) : InSz ns t := ⟨by rw [h.drv]; exact hs.cnt, fun d hd => by rw [h.size]; exact hs.size d hd, by rw [h.wr]; exact hs.wr⟩
theorem Flushed.nowAt {s t : ArrS} {ds : List Nat} (h : Flushed s ds t) {d a : Nat} : Go.Proofs.now t d a = Go.Proofs.now s d a := by unfold Go.Proofs.now; rw [h.now]
structure Missed (s : ArrS) (p : Nat → Bool) (t : ArrS) : Prop where
  drv : t.drv.length = s.drv.length
  now : ∀ d, nowL t d = nowL s d
  dur : ∀ d, durL t d = durL s d
  log : t.log = s.log
  miss : ∀ d, d < s.drv.length → miss t d = p d
  down : t.down = s.down
  fuse : t.fuse = s.fuse
  bad : t.bad = s.bad
  wr : t.writes = s.writes
theorem Missed.coh {s t : ArrS} {p : Nat → Bool} (h : Missed s p t) (hc : Coh s) : Coh t where
  len d := by rw [h.now, h.dur]; exact hc.len d
  last d a ha := by
    have h1 := hc.last d a (by rw [size_nowL] at ha ⊢; rw [← h.now]; exact ha)
    unfold Go.Proofs.now Go.Proofs.dur pend at h1 ⊢
    rw [h.now, h.dur, h.log]; exact h1
  log r hr := by
    rw [h.log] at hr
    have := hc.log r hr
    rw [h.drv, size_nowL, h.now]; exact this
theorem Missed.size {s t : ArrS} {p : Nat → Bool} (h : Missed s p t) {d : Nat} : t.size d = s.size d := by rw [size_nowL, size_nowL, h.now]
theorem Missed.inSz {ns : List Nat} {s t : ArrS} {p : Nat → Bool} (h : Missed s p t) (hs : InSz ns s) : InSz ns t := ⟨by rw [h.drv]; exact hs.cnt, fun d hd => by rw [h.size]; exact hs.size d hd, by rw [h.wr]; exact hs.wr⟩
theorem Missed.self {s : ArrS} : Missed s (Go.Proofs.miss s) s := ⟨rfl, fun _ => rfl, fun _ => rfl, rfl, fun _ _ => rfl, rfl, rfl, rfl, rfl⟩
theorem smS_of {s : ArrS} {d : Nat} {b : Bool} (hd : d < s.drv.length) : smS s d b = { s with drv := s.drv.set d { s.drv.getD d d0 with miss := b } } := by
  rw [smS, if_pos (show inR s (d : Int) from ⟨by omega, by omega⟩)]; rfl
theorem Missed.set {s t : ArrS} {p : Nat → Bool} (h : Missed s p t) {d : Nat} {b : Bool} (hd : d < s.drv.length) : Missed s (fun e => if e = d then b else p e) (smS t d b) := by
  have hd' : d < t.drv.length := by rw [h.drv]; exact hd
  rw [smS_of hd']
  refine ⟨by simpa using h.drv, fun e => ?_, fun e => ?_, h.log, fun e he => ?_, h.down, h.fuse, h.bad, h.wr⟩
  · rw [← h.now]; unfold nowL; rw [drv_set hd']; split
    · rename_i x; subst x; rfl
    · rfl
  · rw [← h.dur]; unfold durL; rw [drv_set hd']; split
    · rename_i x; subst x; rfl
    · rfl
  · unfold Go.Proofs.miss; rw [drv_set hd']; split
    · rfl
    · exact h.miss e he
end Go.Proofs
namespace Go.Proofs
open Go.VG
structure ArrOk (ns : List Nat) (K : Nat) (s : ArrS) : Prop where
  sz : InSz ns s
  wr : s.writes ≤ K
  coh : Coh s
  bad : s.bad = []
section
variable {ns : List Nat} {K d a : Nat} {s : ArrS} {v : UInt64}
theorem ArrOk.mono {K' : Nat} (h : ArrOk ns K s) (hK : K ≤ K') : ArrOk ns K' s := { h with wr := Nat.le_trans h.wr hK }
theorem ArrOk.disk (h : ArrOk ns K s) (hd : d < ns.length) : d < s.drv.length := by rw [h.sz.cnt]; exact hd
theorem ArrOk.sect (h : ArrOk ns K s) (hd : d < ns.length) (ha : a < ns.getD d 0) : a < s.size d := by rw [h.sz.size d hd]; exact ha
theorem ArrOk.now_cand (h : ArrOk ns K s) (hd : d < ns.length) (ha : a < ns.getD d 0) : now s d a ∈ cand s d a := by
  rw [← h.coh.last d a (h.sect hd ha)]; exact lastD_mem
theorem ArrOk.chk (h : ArrOk ns K s) (hdn : s.down = false) (hd : d < ns.length) (ha : a < ns.getD d 0) : cPow s = 0 ∧ cLoc s d = 0 ∧ cPla s d a = 0 ∧ cPre s d = (if miss s d then 6 else 0) ∧ cWho s d a = 0 := by
  have hdd := h.disk hd
  have haa := h.sect hd ha
  refine ⟨by simp [cPow, hdn], ?_, ?_, ?_, by simp [cWho, isBad, h.bad, lookM]⟩
  · rw [cLoc, if_pos (show inR s (d : Int) from ⟨by omega, by omega⟩)]
  · rw [cPla, sizeI_of hdd, if_pos (by omega)]
  · simp only [cPre, missI, Int.toNat_natCast, miss]; by_cases hh : (s.drv.getD d d0).miss = true <;> simp [hh]
theorem ArrOk.rdA (h : ArrOk ns K s) (hdn : s.down = false) (hd : d < ns.length) (ha : a < ns.getD d 0) (hm : miss s d = false) : rdV s d a = now s d a ∧ rdC s d a = 0 := by
  obtain ⟨h1, h2, h3, h4, h5⟩ := h.chk hdn hd ha
  rw [hm] at h4
  have hC : rdC s d a = 0 := by simp [rdC, fz, h1, h2, h3, h4, h5]
  exact ⟨by rw [rdV, if_pos hC]; rfl, hC⟩
structure Wrote (ns : List Nat) (K : Nat) (s : ArrS) (d a : Nat) (v : UInt64) (t : ArrS) : Prop where
  ok : ArrOk ns (K + 1) t
  dn : t.down = false
  fuse : t.fuse = s.fuse - 1
  miss : ∀ e, Go.Proofs.miss t e = Go.Proofs.miss s e
  now : ∀ e b, Go.Proofs.now t e b = if d = e ∧ a = b then v else Go.Proofs.now s e b
  cand : ∀ e b, Go.Proofs.cand t e b = if d = e ∧ a = b then Go.Proofs.cand s e b ++ [v] else Go.Proofs.cand s e b
structure Fell (ns : List Nat) (K : Nat) (s t : ArrS) : Prop where
  ok : ArrOk ns K t
  dn : t.down = true
  miss : ∀ e, Go.Proofs.miss t e = Go.Proofs.miss s e
  now : ∀ e b, Go.Proofs.now t e b = Go.Proofs.now s e b
  cand : ∀ e b, Go.Proofs.cand t e b = Go.Proofs.cand s e b
theorem ArrOk.wrA (h : ArrOk ns K s) (hK : K ≤ 1000000) (hdn : s.down = false) (hd : d < ns.length) (ha : a < ns.getD d 0) (hm : miss s d = false) :
    (s.fuse ≠ 1 ∧ wrR s d a = 0 ∧ Wrote ns K s d a v (wrS s d a v)) ∨ (s.fuse = 1 ∧ wrR s d a = 5 ∧ Fell ns K s (wrS s d a v)) := by
  obtain ⟨h1, h2, h3, h4, h5⟩ := h.chk hdn hd ha
  rw [hm] at h4
  have hdd := h.disk hd
  have haa := h.sect hd ha
  have hC : wrC s d a = 0 := by simp [wrC, fz, h1, h2, h3, h4]
  have hC' : ¬ wrC s d a ≠ 0 := fun x => x hC
  by_cases hf : s.fuse = 1
  · refine .inr ⟨hf, by rw [wrR, if_neg hC', if_pos hf], ?_⟩
    rw [wrS, if_neg hC', if_pos hf]
    exact ⟨⟨⟨h.sz.cnt, h.sz.size, h.sz.wr⟩, h.wr, ⟨h.coh.len, h.coh.last, h.coh.log⟩, h.bad⟩, rfl, fun _ => rfl, fun _ _ => rfl, fun _ _ => rfl⟩
  · refine .inl ⟨hf, by rw [wrR, if_neg hC', if_neg hf], ?_⟩
    rw [wrS, if_neg hC', if_neg hf]
    have hbad : delM s.bad ((d : Int), (a : Int)) = [] := by rw [h.bad]; rfl
    have hs' : ({ s with drv := setNow s (d : Int).toNat (a : Int).toNat v, bad := delM s.bad ((d : Int), (a : Int)), log := s.log ++ [⟨(d : Int).toNat, (a : Int).toNat, v⟩], fuse := s.fuse - 1, writes := s.writes + 1 } : ArrS) = { wr1 s d a v with bad := [], fuse := s.fuse - 1 } := by
      simp only [wr1, Int.toNat_natCast, hbad]
    rw [hs']
    have hcoh := h.coh.wr1 (v := v) hdd haa
    refine ⟨⟨⟨by show (wr1 s _ _ _).drv.length = _; rw [drv_wr1]; exact h.sz.cnt, fun e he => by show (wr1 s _ _ _).size e = _; rw [size_wr1 hdd]; exact h.sz.size e he, by show s.writes + 1 ≤ _; have := h.wr; omega⟩, by show s.writes + 1 ≤ _; have := h.wr; omega, ⟨hcoh.len, hcoh.last, hcoh.log⟩, rfl⟩, hdn, rfl, fun e => ?_, fun e b => now_wr1 hdd haa, fun e b => ?_⟩
    · show (((setNow s d a v).getD e d0)).miss = _
      unfold setNow Go.Proofs.miss; rw [drv_set hdd]; split
      · rename_i x; subst x; rfl
      · rfl
    · show dur (wr1 s d a v) e b :: pend (wr1 s d a v) e b = _
      rw [dur_wr1 hdd, pend_wr1]; split <;> rfl
structure Flushed1 (ns : List Nat) (K : Nat) (s : ArrS) (d : Nat) (t : ArrS) : Prop where
  ok : ArrOk ns K t
  dn : t.down = false
  fuse : t.fuse = s.fuse
  miss : ∀ e, Go.Proofs.miss t e = Go.Proofs.miss s e
  now : ∀ e b, Go.Proofs.now t e b = Go.Proofs.now s e b
  cand : ∀ e b, e < ns.length → b < ns.getD e 0 → Go.Proofs.cand t e b = if d = e then [Go.Proofs.now s e b] else Go.Proofs.cand s e b
theorem ArrOk.flA (h : ArrOk ns K s) (hdn : s.down = false) (hd : d < ns.length) (hm : miss s d = false) : flC s d = 0 ∧ Flushed1 ns K s d (flS s d) := by
  have hdd := h.disk hd
  obtain ⟨h1, h2⟩ := flushed (ds := [d]) h.coh hdn (fun e he => by rw [List.mem_singleton.1 he]; exact hdd)
  have hany : [d].any (fun d => Go.Proofs.miss s d) = false := by simp [hm]
  rw [hany] at h2
  have h3 : flC s d = 0 := by
    have h4 : (if flC s d = 0 then (0 : Int) else flC s d) = 0 := h2
    by_cases h5 : flC s d = 0
    · exact h5
    · rwa [if_neg h5] at h4
  have h6 : flsS s [d] = flS s d := rfl
  rw [h6] at h1
  refine ⟨h3, ⟨⟨h1.inSz h.sz, by rw [h1.wr]; exact h.wr, h1.coh, by rw [h1.bad]; exact h.bad⟩, by rw [h1.down]; exact hdn, h1.fuse, h1.miss, fun e b => h1.nowAt, fun e b he hb => ?_⟩⟩
  show Go.Proofs.dur _ _ _ :: Go.Proofs.pend _ _ _ = _
  rw [h1.dur _ _ (h.sect he hb), h1.pend]
  by_cases e1 : d = e
  · subst e1; rw [if_pos ⟨List.mem_singleton.2 rfl, hm⟩, if_pos ⟨List.mem_singleton.2 rfl, hm⟩, if_pos rfl]
  · rw [if_neg (fun x => e1 (List.mem_singleton.1 x.1).symm), if_neg (fun x => e1 (List.mem_singleton.1 x.1).symm), if_neg e1]
structure Restarted (ns : List Nat) (K : Nat) (s t : ArrS) : Prop where
  ok : ArrOk ns K t
  dn : t.down = false
  fuse : t.fuse = 0
  miss : ∀ e, Go.Proofs.miss t e = Go.Proofs.miss s e
  now : ∀ e b, e < ns.length → b < ns.getD e 0 → Go.Proofs.now t e b ∈ Go.Proofs.cand s e b
  cand : ∀ e b, Go.Proofs.cand t e b = [Go.Proofs.now t e b]
  unfl : t.log = []
theorem ArrOk.rs (h : ArrOk ns K s) (ks : List Bool) : Restarted ns K s (rsS s ks) where
  ok := ⟨⟨by rw [drv_rs]; exact h.sz.cnt, fun d hd => by rw [size_rs h.coh]; exact h.sz.size d hd, h.sz.wr⟩, h.wr, h.coh.rs, h.bad⟩
  dn := rfl
  fuse := rfl
  miss e := by unfold Go.Proofs.miss; rw [miss_rs]
  now e b he hb := by rw [now_rs]; exact dur_rs h.coh (h.disk he) (h.sect he hb)
  cand e b := by
    show [dur (rsS s ks) e b] = _
    rw [now_rs]
  unfl := rfl
theorem ArrOk.fuse (h : ArrOk ns K s) {m : Nat} : ArrOk ns K { s with fuse := m } := ⟨⟨h.sz.cnt, h.sz.size, h.sz.wr⟩, h.wr, ⟨h.coh.len, h.coh.last, h.coh.log⟩, h.bad⟩
end
end Go.Proofs
namespace Go.VG
def ddef (f : FuncId) (cap : List Value) : Deferred := { target := .fn (.func f) cap.toArray, args := #[] }
def DSpec (P : Program) (W : World) (f : FuncId) (cap : List Value) (pre post : List HP) : Prop :=
  ∀ F w, St W w (pre ++ F) → ∀ u, CallsDIn (fw none) 0 P f cap.toArray u w fun e u' w' => u' = u ∧ (∃ v, e = .returned v) ∧ St W w' (post ++ F)
section
variable {P : Program} {n : Env} {W : World} {s : Slots} {H : List HP} {ops : Array Oper} {Q : Exit → Act → World → Prop} {ty : TypeId} {pos : String} {after : Array Edge}
theorem DSpec.of_body {f : FuncId} {fn : Func} {c : Code} {cap : List Value} {pre post : List HP} {X : Type} {res : X → Value} {pf : X → Prop}
    (hf : P.funcs[f]? = some fn) (hb : fn.body = some c) {m : Nat} (hn : fn.ntmps = m) (hargs : Nat.ble cap.length m = true)
    (h : ∀ F, CJ P ⟨m, none, []⟩ W (bodyPost P fn (CPost W res pf (fun _ F => post ++ F) F)) c (args0 0 cap) (pre ++ F)) : DSpec P W f cap pre post := by
  intro F w hs u
  refine CallsDIn.mono (callsDIn_of_wp (u := u) hf hb trivial (h F _ w ⟨?_, rfl, ?_⟩ hs)) ?_
  · have : cap.length ≤ m := by simpa using hargs
    simp [hn]; omega
  · intro i v hl
    obtain ⟨_, h2⟩ := look_args0 cap 0 i v hl
    have hlt : i < cap.length := by
      rcases Nat.lt_or_ge i cap.length with h' | h'
      · exact h'
      · simp [List.getElem?_eq_none h'] at h2
    simp only [Nat.sub_zero] at h2
    rw [Array.getElem?_append_left (by simpa using hlt)]
    simpa using h2
  · rintro e u' w' ⟨h1, x, h2, _, h3⟩
    exact ⟨h1, ⟨_, h2⟩, h3⟩
theorem RJ_defer {fo : Operand} {f : FuncId} {cap : List Value} {rest : List Oper} (hfo : ev s fo = some (.func (.func f) #[] cap.toArray)) (hr : n.r = none)
    (h : RJ P ⟨n.n, none, ddef f cap :: n.ds⟩ W ops Q rest s H) : RJ P n W ops Q (⟨none, .defer { callee := .value fo, args := #[], argTypes := #[] }, ty, pos, after, none⟩ :: rest) s H := by
  intro a w hf hs
  refine wpListIn_plain rfl fun K hK => ?_
  refine ⟨fun _ _ => trivial, ?_⟩
  obtain ⟨nn, r, ds⟩ := n
  simp only at hr
  subst hr
  have he : (execOp a.eval ⟨none, .defer { callee := .value fo, args := #[], argTypes := #[] }, ty, pos, after, none⟩).run P w = .ok (.defer (ddef f cap)) w := by
    simp [execOp, resolve, hf.eval hfo, Deferred.ofValue, ddef]
  have h1 : Oper.semAt none a.eval ⟨none, .defer { callee := .value fo, args := #[], argTypes := #[] }, ty, pos, after, none⟩ = execOp a.eval ⟨none, .defer { callee := .value fo, args := #[], argTypes := #[] }, ty, pos, after, none⟩ := rfl
  show Oper.uponIn _ _ _ _ _ _ _ ((Oper.semAt none a.eval _).run P w)
  rw [h1, he, Oper.uponIn_defer]
  refine hK _ w (h _ w ⟨hf.size, ?_, hf.slot⟩ hs)
  show ddef f cap :: a.defers = _
  rw [hf.defers]
theorem QJ_endD1 {fn : Func} {R : Ending → World → Prop} {v : Value} {m : Nat} {f : FuncId} {cap : List Value} {pre post F : List HP} {e : Exit} (he : e = .ret ∨ e = .normal) (hen : Enters P f) (hp : Ent H (pre ++ F)) (hd : DSpec P W f cap pre post)
    (hr : ∀ a w, Fits ⟨m, none, [ddef f cap]⟩ s a → St W w (post ++ F) → (results fn a.tmps).run P w = .ok v w) (h : ∀ w, St W w (post ++ F) → R (.returned v) w) :
    QJ ⟨m, none, [ddef f cap]⟩ W (bodyPostM (fw none) 0 P fn R) e s H := fun a w hf hs => by
  have h1 : LeavesInM (fw none) 0 P fn a.tmps R a.defers .returning w := by
    rw [hf.defers]
    refine ⟨by simp, .inr ⟨(fun h => by cases h), .func f, cap.toArray, f, cap.toArray, rfl, (by simp only [ddef, invoke, Array.append_empty, Array.empty_append]; exact hen _ _), fun _ _ => trivial, ?_⟩⟩
    refine (hd F w (hs.imp hp) .returning).mono ?_
    rintro e u' w' ⟨rfl, ⟨x, rfl⟩, h3⟩
    exact ⟨v, hr a w' hf h3, h w' h3⟩
  rcases he with rfl | rfl
  · exact h1
  · exact h1
end
end Go.VG
namespace Go.VG
section
variable {P : Program} {n : Env} {W : World} {s : Slots} {dst : Option Tmp} {ty : TypeId} {pos : String} {after : Array Edge} {g : Option (Nat × Bool)}
theorem P_indexLitO {x ix : Operand} {T E : TypeId} {k : IntKind} {b o i m c sz : Nat} (hx : ev s x = some (.slice (some ⟨b, o, none⟩) m c)) (hi : ev s ix = some (.int k (i : Int))) (hlt : Nat.blt i m = true)
    (hT : ∀ w, (underlying T).run P w = .ok (.slice E) w) (hE : ∀ w, (sizeOf E).run P w = .ok sz w) : PJ P n ⟨dst, .indexAddr T x ix, ty, pos, after, g⟩ s (ptr b (o + i * sz)) :=
  (fun q w hf => by
    have hlt' : i < m := by simpa using hlt
    simp [execOp, hf.eval hx, hf.eval hi, Instr.indexAt, asIntOf, hT, hE, hlt', addr_add])
theorem P_sliceLit {x lo : Operand} {T E : TypeId} {k : IntKind} {b m sz l : Nat} (hx : ev s x = some (.slice (some ⟨b, 0, none⟩) m m)) (hlo : ev s lo = some (.int k (l : Int))) (hl : Nat.blt l m = true)
    (hT : P.underlying T = some (.slice E)) (hE : ∀ w, (sizeOf E).run P w = .ok sz w) :
    PJ P n ⟨dst, .slice T x (some lo) none none, ty, pos, after, g⟩ s (.slice (some ⟨b, l * sz, none⟩) (m - l) (m - l)) :=
  (fun q w hf => by
    have hl' : l < m := by simpa using hl
    have h1 : ¬ m = l := by omega
    have hb : (Instr.sliceBounds true m m (some (q.eval lo)) none none).run P w = .ok (l, m, m) w := by
      simp [Instr.sliceBounds, hf.eval hlo, run_bound (P := P) (w := w) (k := k) (show l ≤ m by omega)]
    simp [execOp, hf.eval hx, Instr.sliceAt, Instr.slice, run_underlying hT, hb, hE, h1, addr_add])
end
end Go.VG
