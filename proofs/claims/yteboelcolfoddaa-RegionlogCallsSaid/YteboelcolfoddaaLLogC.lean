/- YteboelcolfoddaaLLogC: lifted functions of the program; printed by lift.py. -/
import Derived.Test.YteboelcolfoddaaLPack
set_option linter.unusedSimpArgs false
set_option linter.unusedVariables false
set_option maxRecDepth 20000
set_option maxHeartbeats 4000000
namespace Go.Proofs
open Go.VG
abbrev mp64 : MTy Int Unit := { KT := 3, VT := 76, ek := fun k => .int .i64 k, ev := fun _ => .agg #[] }
theorem ok_mp64 : MOk Try.prog mp64 64 where
  ty := Try.underlying64
  eq := fun a b w => eq_int Try.underlying3 a b w
  chk := fun e a w => chk_int Try.underlying3 e a w 9999
  same := fun a => by simp [Instr.sameBits]
  kd := ⟨_, Try.underlying3, .inr fun a b => by simp only [Instr.sameNow, if_true]; rfl⟩
structure LogS where
  x : Dvc
  regions : Int
  bits : List UInt64
  durable : List (Int × Unit)
def LogP (a b : Nat) (l : LogS) : HP := ex fun h : IfH × Sl3 × Nat => star [blk b 66 [IfH.v h.1, .int .i64 l.regions, (Sl3.v h.2.1), .map (some h.2.2)], DevP a l.x h.1, RdP tyU (Sl3.v h.2.1) l.bits, mpc mp64 h.2.2 l.durable]
theorem LogP_open {a b : Nat} {l : LogS} {R : List HP} : EntX (LogP a b l :: R) fun h : IfH × Sl3 × Nat => blk b 66 [IfH.v h.1, .int .i64 l.regions, (Sl3.v h.2.1), .map (some h.2.2)] :: DevP a l.x h.1 :: RdP tyU (Sl3.v h.2.1) l.bits :: mpc mp64 h.2.2 l.durable :: R :=
  fun _ hh => let ⟨c, hc⟩ := stars_ex.1 hh; ⟨c, stars_star.1 hc⟩
theorem LogP_mk {a b : Nat} {v0 : Dvc} {v1 : Int} {v2 : List UInt64} {v3 : List (Int × Unit)} {h0 : IfH} {h1 : Sl3} {h2 : Nat} {R : List HP} : Ent (blk b 66 [IfH.v h0, .int .i64 v1, (Sl3.v h1), .map (some h2)] :: DevP a v0 h0 :: RdP tyU (Sl3.v h1) v2 :: mpc mp64 h2 v3 :: R) (LogP a b ⟨v0, v1, v2, v3⟩ :: R) :=
  fun _ hh => stars_ex.2 ⟨(h0, h1, h2), stars_star.2 hh⟩

end Go.Proofs
