/- TopStacks, part 2 of the proof: VgL, VgM, VgN, VgQ, VgR, VgT, VgS, VgY, VgU, VgV, VgX, VgO, VgP, Z, CDisk0. -/
import Derived.WalkKit
import Derived.Orders
import Derived.RangeFuncLeaves
import Derived.RangeFuncCalls
import Derived.TacticsIn
import Derived.Handy
import Derived.OrdersHeld
import Derived.OrdersIn
import Derived.Below
import Derived.OpenShut
import Derived.Deep.Slices
import Derived.Scope
import Derived.KernelRfl
import Derived.RangeFuncRecord
import Derived.ChangeKeysEq
import Derived.Laws.BytesArg
import Derived.Lib.Bytealg
import Derived.Lib.AppendStr
import Derived.Lib.Builder
import Derived.Lib.UnsafeStr
import Derived.ProofKit
import Derived.ShutString
import Derived.ChangeOld
import Derived.Stop.Joined
import Derived.LaidLaws
import Derived.LaidHandle
import Derived.MakeChecks
import Derived.SevenTiedAt
import Derived.Test.YthfaiagepigmcaaGreatDoorChecked
import Derived.Test.YthfaiagepigmcaaGreatDoorRows
import Derived.Test.YthfaiagepigmcaaGreatDoorZTopStacks1
namespace Go.VG
def lt {α β:Type} (e:α) (k:α→β):β := k e
def grd {β:Type} (b:Bool) (m:Option β):Option β := bif b then m else none
theorem ztw {β:Type} {b:Bool} {m:Option β} (h:b=true):grd b m=m := by rw [h]; rfl
theorem grd_d {β:Type} {p:Prop} [Decidable p] {m:Option β} (h:p):grd (decide p) m=m := ztw (decide_eq_true h)
@[simp] theorem grd_true {β:Type} {m:Option β} : grd true m=m := rfl
@[irreducible] def inI64 (x:Int):Bool := match x with
  | .ofNat n=>Nat.ble n 9223372036854775807
  | .negSucc n=>Nat.ble n 9223372036854775807
@[irreducible] def inN64 (n:Nat):Bool := Nat.ble n 9223372036854775807
@[irreducible] def inLen (n:Nat):Bool := Nat.ble n 1000000000
theorem inI64_iff {x:Int} : inI64 x=true↔(-9223372036854775808≤x∧x≤9223372036854775807) := by
  unfold inI64
  cases x with
  | ofNat n=>simp only [Nat.ble_eq,Int.ofNat_eq_natCast]; constructor <;> intro h <;> omega
  | negSucc n=>simp only [Nat.ble_eq]; constructor <;> intro h <;> omega
theorem inN64_iff {n:Nat} : inN64 n=true↔n≤9223372036854775807 := by unfold inN64; exact Nat.ble_eq ▸ Iff.rfl
theorem inLen_iff {n:Nat} : inLen n=true↔n≤1000000000 := by unfold inLen; exact Nat.ble_eq ▸ Iff.rfl
def seqO {α ρ:Type} (m:Option (α ⊕ ρ)) (k:α→Option ρ):Option ρ := m.bind fun y=>y.elim k some
@[irreducible] def FUEL:Nat := 1000000000000
theorem zkn:900000000000 < FUEL := by unfold FUEL; decide
section
variable {α β ρ:Type} {r:β}
theorem lt_e {e:α} {k:α→Option β} (h:lt e k=some r):∃ x,x=e∧k x=some r := ⟨e,rfl,h⟩
theorem grd_e {b:Bool} {m:Option β} (h:grd b m=some r):b=true∧m=some r := by
  cases b
  · cases h
  · exact ⟨rfl,h⟩
theorem zck {p:Prop} [Decidable p] {m:Option β} (h:grd (decide p) m=some r):p∧m=some r := ⟨of_decide_eq_true (grd_e h).1,(grd_e h).2⟩
theorem zcm {x:Int} {m:Option β} (h:grd (inI64 x) m=some r):(-9223372036854775808≤x∧x≤9223372036854775807)∧m=some r := ⟨inI64_iff.1 (grd_e h).1,(grd_e h).2⟩
theorem zg5 {x:Nat} {m:Option β} (h:grd (inN64 x) m=some r):x≤9223372036854775807∧m=some r := ⟨inN64_iff.1 (grd_e h).1,(grd_e h).2⟩
theorem zgg {x:Nat} {m:Option β} (h:grd (inLen x) m=some r):x≤1000000000∧m=some r := ⟨inLen_iff.1 (grd_e h).1,(grd_e h).2⟩
theorem zb9 {m:Option α} {k:α→Option β} (h:m.bind k=some r):∃ a,m=some a∧k a=some r := by
  cases m with
  | none=>cases h
  | some a=>exact ⟨a,rfl,h⟩
theorem seq_e {m:Option (α ⊕ ρ)} {k:α→Option ρ} {r:ρ} (h:seqO m k=some r):∃ y,m=some y∧y.elim k some=some r := zb9 h
theorem zgs {k:α→Option ρ} {r:ρ} {y:α ⊕ ρ} {a:α} (h:y.elim k some=some r) (hy:y = .inl a):k a=some r := by subst hy; exact h
theorem zf2 {k:α→Option ρ} {r r':ρ} {y:α ⊕ ρ} (h:y.elim k some=some r) (hy:y = .inr r'):r' = r := by subst hy; exact Option.some.inj h
theorem ite_t {p:Prop} [Decidable p] {a b:Option β} (hp:p) (h:(if p then a else b)=some r):a=some r := by rw [if_pos hp] at h; exact h
theorem ite_f {p:Prop} [Decidable p] {a b:Option β} (hp:¬ p) (h:(if p then a else b)=some r):b=some r := by rw [if_neg hp] at h; exact h
theorem zdr {p:Prop} (h:(none:Option β)=some r):p := by cases h
theorem opt_e {t:Option α} {a:Option β} {b:α→Option β} (h:t.elim a b=some r):(t=none∧a=some r) ∨ ∃ x,t=some x∧b x=some r := by
  cases t with
  | none=>exact .inl ⟨rfl,h⟩
  | some x=>exact .inr ⟨x,rfl,h⟩
end
theorem zaq {p:Prop} [Decidable p]:(decide p=true)↔p := decide_eq_true_iff
theorem zh1 {b:Bool} {p:Prop} (h:b=true↔p):((!b)=true) ↔ ¬ p := by rw [← h]; simp
theorem zbf {a b:Bool} {p q:Prop} (h1:a=true↔p) (h2:b=true↔q):((a && b)=true)↔(p∧q) := by rw [← h1, ← h2]; simp
theorem bT_or {a b:Bool} {p q:Prop} (h1:a=true↔p) (h2:b=true↔q):((a || b)=true)↔(p∨q) := by rw [← h1, ← h2]; simp
theorem and_l {a b:Bool} (h:(a && b)=true):a=true := by cases a <;> simp_all
theorem and_r {a b:Bool} (h:(a && b)=true):b=true := by cases a <;> simp_all
theorem not_t {b:Bool} (h:(!b)=true):b=false := by cases b <;> simp_all
theorem not_f {b:Bool} (h:b=false):(!b)=true := by cases b <;> simp_all
def mbe (G:Bool) (v:Value):Value := if G=true then v else undef
theorem mbx {s:Slots} {x:Operand} {G:Bool} {v:Value} (h:G=true) (hx:ev s x=some (mbe G v)):ev s x=some v := by rw [hx,mbe,if_pos h]
section
variable {P:Program} {n:Env} {W:World} {s:Slots} {H:List HP} {dst:Option Tmp} {ty:TypeId} {pos:String} {after:Array Edge} {g:Option (Nat × Bool)} {Q:Exit→Act→World→Prop} {ops:Array Oper}
theorem RJ_mb {o:Oper} {rest:List Oper} {j d e:Nat} {want:Bool} {v:Value} {op:Op} (G:Bool) (ho:o=⟨some e,op,ty,pos,after,some (j,want)⟩) (hd:(ops[j]?).bind (·.dst)=some d)
    (hy:G=true→look s d=some (.bool want)) (hn:G=false→look s d=some (.bool (!want))∨look s d=some undef) (he:Nat.blt e n.n=true)
    (hv:G=true→VJ P n W o s H v) (hk:RJ P n W ops Q rest ((e,mbe G v)::s) H):RJ P n W ops Q (o::rest) s H := by
  subst ho
  cases hG:G with
  | true =>
    rw [hG] at hk
    exact RJ_gy (zaz rfl hd (hy hG) rfl) (OJ_V (hv hG) he hk)
  | false =>
    rw [hG] at hk
    rcases hn hG with h | h
    · exact RJ_gn (GY_no rfl hd h rfl) rfl he hk
    · exact RJ_gn (zns rfl hd h) rfl he hk
theorem zb2 {rest:List Oper} {j d e:Nat} {c:Bool} {v:Value} {op:Op} (hd:(ops[j]?).bind (·.dst)=some d) (hl:look s d=some (.bool c)) (he:Nat.blt e n.n=true)
    (hv:c=true→VJ P n W ⟨some e,op,ty,pos,after,some (j,true)⟩ s H v) (hk:RJ P n W ops Q rest ((e,mbe c v)::s) H):RJ P n W ops Q (⟨some e,op,ty,pos,after,some (j,true)⟩::rest) s H :=
  RJ_mb c rfl hd (fun h=>by rw [hl,h]) (fun h => .inl (by rw [hl,h]; rfl)) he hv hk
theorem zb7 {rest:List Oper} {j d e:Nat} {c:Bool} {v:Value} {op:Op} (hd:(ops[j]?).bind (·.dst)=some d) (hl:look s d=some (.bool c)) (he:Nat.blt e n.n=true)
    (hv:(!c)=true→VJ P n W ⟨some e,op,ty,pos,after,some (j,false)⟩ s H v) (hk:RJ P n W ops Q rest ((e,mbe (!c) v)::s) H):RJ P n W ops Q (⟨some e,op,ty,pos,after,some (j,false)⟩::rest) s H :=
  RJ_mb (!c) rfl hd (fun h=>by rw [hl,not_t h]) (fun h => .inl (by rw [hl]; cases c <;> simp_all)) he hv hk
theorem zin {rest:List Oper} {j d e:Nat} {c G0:Bool} {v:Value} {op:Op} (hd:(ops[j]?).bind (·.dst)=some d) (hl:look s d=some (mbe G0 (.bool c))) (he:Nat.blt e n.n=true)
    (hv:(G0 && c)=true→VJ P n W ⟨some e,op,ty,pos,after,some (j,true)⟩ s H v) (hk:RJ P n W ops Q rest ((e,mbe (G0 && c) v)::s) H):RJ P n W ops Q (⟨some e,op,ty,pos,after,some (j,true)⟩::rest) s H :=
  RJ_mb (G0 && c) rfl hd (fun h=>by rw [hl,mbe,if_pos (and_l h),and_r h]) (fun h=>by
    cases G0 with
    | false=>exact .inr hl
    | true=>exact .inl (by rw [hl]; simp only [Bool.true_and] at h; rw [h]; rfl)) he hv hk
theorem VJ_P {o:Oper} {v:Value} (h:PJ P n o s v):VJ P n W o s H v := fun a w hf _=>h a w hf
theorem zfq {c x y:Operand} {g1 b:Bool} (hc:ev s c=some (.bool g1)) (hx:ev s x=some (.bool true)) (hy:g1=false→ev s y=some (.bool b)):PJ P n ⟨dst,.pick c x y,ty,pos,after,g⟩ s (.bool (g1 || b)) := by
  cases g1 with
  | true=>exact zbe hc rfl hx
  | false=>exact za2 hc rfl (hy rfl)
theorem zci {c x y:Operand} {g1 b:Bool} (hc:ev s c=some (.bool g1)) (hx:g1=true→ev s x=some (.bool b)) (hy:ev s y=some (.bool false)):PJ P n ⟨dst,.pick c x y,ty,pos,after,g⟩ s (.bool (g1 && b)) := by
  cases g1 with
  | true=>exact zbe hc rfl (hx rfl)
  | false=>exact za2 hc rfl hy
theorem PJ_eq {o:Oper} {v v':Value} (h:PJ P n o s v') (e:v=v'):PJ P n o s v := e ▸ h
theorem VJ_eq {o:Oper} {v v':Value} (h:VJ P n W o s H v') (e:v=v'):VJ P n W o s H v := e ▸ h
theorem zbt {c:Operand} {x y:Code} {b:Bool} {p:Prop} (hc:ev s c=some (.bool b)) (hb:b=true↔p) (hx:p→CJ P n W Q x s H) (hy:¬ p→CJ P n W Q y s H):CJ P n W Q (.cond c x y) s H :=
  za1 hc (fun h=>hx (hb.1 h)) (fun h=>hy fun hp=>by rw [hb.2 hp] at h; cases h)
theorem zeb {l:List Oper} (d:Nat) {b:Bool} {p:Prop} (_hl:look s d=some (.bool b)) (hb:b=true↔p) (hT:b=true→p→RJ P n W ops Q l s H) (hF:b=false → ¬ p→RJ P n W ops Q l s H):RJ P n W ops Q l s H := by
  cases h:b with
  | true=>exact hT h (hb.1 h)
  | false=>exact hF h fun hp=>by rw [hb.2 hp] at h; cases h
theorem zxq {b:Nat} {o:Obj} {l:List Oper} {R:List HP} (hd:Del H (pt b o) R) (h:RJ P n W ops Q l s (ptR b o::R)):RJ P n W ops Q l s H := fun a w hf hs=>h a w hf (hs.perm hd.out).share
end
section
variable {P:Program} {n:Env} {s:Slots} {dst:Option Tmp} {ty:TypeId} {pos:String} {after:Array Edge} {g:Option (Nat × Bool)} {x y:Operand} {t t':TypeId}
theorem zjd (x:Nat):IntKind.u64.wrap (x:Int)=((x % 18446744073709551616:Nat):Int) := by simp [IntKind.wrap,IntKind.signed,IntKind.bits]
theorem zlr (a:UInt64):IntKind.u64.wrap (a.toNat:Int)=(a.toNat:Int) := by rw [zjd,Nat.mod_eq_of_lt a.toNat_lt]
theorem zh2 {a b:UInt64} (hx:ev s x=some (.int .u64 (a.toNat:Int))) (hy:ev s y=some (.int .u64 (b.toNat:Int))):PJ P n ⟨dst,.binOp .add t x y t',ty,pos,after,g⟩ s (.int .u64 ((a + b).toNat:Int)) :=
  PJ_eq (zvk hx hy) (congrArg (Value.int .u64) (by rw [← Int.natCast_add,zjd,UInt64.toNat_add]))
theorem zh3 {a b:UInt64} (hx:ev s x=some (.int .u64 (a.toNat:Int))) (hy:ev s y=some (.int .u64 (b.toNat:Int))):PJ P n ⟨dst,.binOp .mul t x y t',ty,pos,after,g⟩ s (.int .u64 ((a * b).toNat:Int)) :=
  PJ_eq (P_mulW hx hy) (congrArg (Value.int .u64) (by rw [← Int.natCast_mul,zjd,UInt64.toNat_mul]))
theorem zxr {a b:UInt64} (hx:ev s x=some (.int .u64 (a.toNat:Int))) (hy:ev s y=some (.int .u64 (b.toNat:Int))):PJ P n ⟨dst,.binOp .eql t x y t',ty,pos,after,g⟩ s (.bool (decide (a=b))) :=
  PJ_eq (P_eql hx hy) (congrArg Value.bool (decide_eq_decide.2 ⟨fun h=>by rw [h],fun h=>UInt64.toNat_inj.1 (Int.ofNat.inj h)⟩))
theorem zgt (a:UInt64):BitVec.ofInt 64 (a.toNat:Int)=a.toBitVec := by apply BitVec.eq_of_toNat_eq; simp
theorem zgu {a b:UInt64} (hx:ev s x=some (.int .u64 (a.toNat:Int))) (hy:ev s y=some (.int .u64 (b.toNat:Int))):PJ P n ⟨dst,.binOp .and t x y t',ty,pos,after,g⟩ s (.int .u64 ((a &&& b).toNat:Int)) :=
  zoi hx hy (.inl rfl) (fun w=>by
    show Result.ok (Value.int .u64 (IntKind.u64.wrap ((BitVec.ofInt 64 (a.toNat:Int) &&& BitVec.ofInt 64 (b.toNat:Int)).toNat:Int))) w=_
    rw [zgt,zgt]; exact congrArg (fun z=>Result.ok (Value.int .u64 z) w) (zlr (a &&& b)))
theorem zrs {a b:UInt64} (hx:ev s x=some (.int .u64 (a.toNat:Int))) (hy:ev s y=some (.int .u64 (b.toNat:Int))):PJ P n ⟨dst,.binOp .or t x y t',ty,pos,after,g⟩ s (.int .u64 ((a ||| b).toNat:Int)) :=
  zoi hx hy (.inr (.inl rfl)) (fun w=>by
    show Result.ok (Value.int .u64 (IntKind.u64.wrap ((BitVec.ofInt 64 (a.toNat:Int) ||| BitVec.ofInt 64 (b.toNat:Int)).toNat:Int))) w=_
    rw [zgt,zgt]; exact congrArg (fun z=>Result.ok (Value.int .u64 z) w) (zlr (a ||| b)))
theorem zqp {a b:UInt64} (hx:ev s x=some (.int .u64 (a.toNat:Int))) (hy:ev s y=some (.int .u64 (b.toNat:Int))):PJ P n ⟨dst,.binOp .xor t x y t',ty,pos,after,g⟩ s (.int .u64 ((a ^^^ b).toNat:Int)) :=
  zoi hx hy (.inr (.inr (.inl rfl))) (fun w=>by
    show Result.ok (Value.int .u64 (IntKind.u64.wrap ((BitVec.ofInt 64 (a.toNat:Int) ^^^ BitVec.ofInt 64 (b.toNat:Int)).toNat:Int))) w=_
    rw [zgt,zgt]; exact congrArg (fun z=>Result.ok (Value.int .u64 z) w) (zlr (a ^^^ b)))
def zgv (a:UInt64) (m:Nat):UInt64 := UInt64.ofNat (a.toNat * 2 ^ min m 64)
def zbw (a:UInt64) (m:Nat):UInt64 := UInt64.ofNat (a.toNat / 2 ^ min m 64)
theorem zra (a:UInt64) (m:Nat):(zgv a m).toNat=a.toNat * 2 ^ min m 64 % 18446744073709551616 := by unfold zgv; rw [UInt64.toNat_ofNat']
theorem zlb (a:UInt64) (m:Nat):(zbw a m).toNat=a.toNat / 2 ^ min m 64 := by
  unfold zbw; rw [UInt64.toNat_ofNat']
  exact Nat.mod_eq_of_lt (Nat.lt_of_le_of_lt (Nat.div_le_self _ _) a.toNat_lt)
theorem zqq {k':IntKind} {a:UInt64} {m:Nat} {mi:Int} (hx:ev s x=some (.int .u64 (a.toNat:Int))) (hy:ev s y=some (.int k' mi)) (he:mi=(m:Int)):PJ P n ⟨dst,.binOp .shl t x y t',ty,pos,after,g⟩ s (.int .u64 ((zgv a m).toNat:Int)) := fun q w hf=>by
  subst he
  have h1:¬ ((m:Int) < 0) := by omega
  have h3:IntKind.u64.wrap ((a.toNat:Int) * 2 ^ min m 64)=((zgv a m).toNat:Int) := by
    rw [zra, ← zjd]; push_cast; rfl
  simp only [execOp,hf.eval hx,hf.eval hy,eqGuard,binOp,Op.shift,if_neg h1]
  simp [IntKind.bits]; exact h3
theorem zec {k':IntKind} {a:UInt64} {m:Nat} {mi:Int} (hx:ev s x=some (.int .u64 (a.toNat:Int))) (hy:ev s y=some (.int k' mi)) (he:mi=(m:Int)):PJ P n ⟨dst,.binOp .shr t x y t',ty,pos,after,g⟩ s (.int .u64 ((zbw a m).toNat:Int)) := fun q w hf=>by
  subst he
  have h1:¬ ((m:Int) < 0) := by omega
  have h3:Int.fdiv (a.toNat:Int) (2 ^ min m 64)=((zbw a m).toNat:Int) := by
    rw [zlb,Int.fdiv_eq_ediv_of_nonneg _ (by exact_mod_cast Nat.zero_le (2 ^ min m 64))]
    push_cast; rfl
  simp only [execOp,hf.eval hx,hf.eval hy,eqGuard,binOp,Op.shift,if_neg h1]
  simp [IntKind.bits]; exact h3
def zdn (a:Int):UInt64 := UInt64.ofNat (a % 18446744073709551616).toNat
theorem zrt (a:Int):((zdn a).toNat:Int)=a % 18446744073709551616 := by
  unfold zdn; rw [UInt64.toNat_ofNat',Nat.mod_eq_of_lt (by omega)]; omega
theorem ztj (a:Int):IntKind.u64.wrap a=((zdn a).toNat:Int) := by rw [zrt]; simp [IntKind.wrap,IntKind.signed,IntKind.bits]
theorem ze5 {k':IntKind} {a:Int} (hx:ev s x=some (.int k' a)) (hu:∀ w,(underlying t).run P w = .ok (.int k') w) (hu':∀ w,(underlying t').run P w = .ok (.int .u64) w):PJ P n ⟨dst,.convert t t' x,ty,pos,after,g⟩ s (.int .u64 ((zdn a).toNat:Int)) :=
  PJ_eq (zll hx hu hu') (congrArg (Value.int .u64) (ztj a).symm)
theorem zru (x:Nat):IntKind.u8.wrap (x:Int)=((x % 256:Nat):Int) := by simp [IntKind.wrap,IntKind.signed,IntKind.bits]
theorem znu {a b:UInt8} (hx:ev s x=some (.int .u8 (a.toNat:Int))) (hy:ev s y=some (.int .u8 (b.toNat:Int))):PJ P n ⟨dst,.binOp .add t x y t',ty,pos,after,g⟩ s (.int .u8 ((a + b).toNat:Int)) :=
  PJ_eq (zvk hx hy) (congrArg (Value.int .u8) (by rw [← Int.natCast_add,zru,UInt8.toNat_add]))
theorem zrv {a b:UInt8} (hx:ev s x=some (.int .u8 (a.toNat:Int))) (hy:ev s y=some (.int .u8 (b.toNat:Int))):PJ P n ⟨dst,.binOp .sub t x y t',ty,pos,after,g⟩ s (.int .u8 ((a - b).toNat:Int)) :=
  PJ_eq (zvl hx hy) (congrArg (Value.int .u8) (by
    have h1 := a.toNat_lt; have h2 := b.toNat_lt
    rw [UInt8.toNat_sub]; simp [IntKind.wrap,IntKind.signed,IntKind.bits]
    omega))
theorem zrw {a b:UInt8} (hx:ev s x=some (.int .u8 (a.toNat:Int))) (hy:ev s y=some (.int .u8 (b.toNat:Int))) (hb:¬ b.toNat=0):PJ P n ⟨dst,.binOp .rem t x y t',ty,pos,after,g⟩ s (.int .u8 ((a % b).toNat:Int)) :=
  PJ_eq (P_rem hx hy ⟨Int.natCast_nonneg _,by omega⟩) (congrArg (Value.int .u8) (by rw [UInt8.toNat_mod]; rfl))
theorem zrx {a b:UInt8} (hx:ev s x=some (.int .u8 (a.toNat:Int))) (hy:ev s y=some (.int .u8 (b.toNat:Int))) (hb:¬ b.toNat=0):PJ P n ⟨dst,.binOp .quo t x y t',ty,pos,after,g⟩ s (.int .u8 ((a / b).toNat:Int)) :=
  PJ_eq (zjr hx hy (by omega)) (congrArg (Value.int .u8) (by
    rw [Int.tdiv_eq_ediv_of_nonneg (Int.natCast_nonneg _), ← Int.natCast_ediv,zru,UInt8.toNat_div]
    rw [Nat.mod_eq_of_lt (Nat.lt_of_le_of_lt (Nat.div_le_self _ _) a.toNat_lt)]))
theorem zmo {a b:UInt8} (hx:ev s x=some (.int .u8 (a.toNat:Int))) (hy:ev s y=some (.int .u8 (b.toNat:Int))):PJ P n ⟨dst,.binOp .eql t x y t',ty,pos,after,g⟩ s (.bool (decide (a=b))) :=
  PJ_eq (P_eql hx hy) (congrArg Value.bool (decide_eq_decide.2 ⟨fun h=>by rw [h],fun h=>UInt8.toNat_inj.1 (Int.ofNat.inj h)⟩))
theorem ztx {a b:UInt8} (hx:ev s x=some (.int .u8 (a.toNat:Int))) (hy:ev s y=some (.int .u8 (b.toNat:Int))):PJ P n ⟨dst,.binOp .neq t x y t',ty,pos,after,g⟩ s (.bool (decide (a≠b))) :=
  PJ_eq (P_neq hx hy) (congrArg Value.bool (decide_eq_decide.2 ⟨fun h e=>h (UInt8.toNat_inj.1 (Int.ofNat.inj e)),fun h e=>h (by rw [e])⟩))
def to_u8 (a:Int):UInt8 := UInt8.ofNat (a % 256).toNat
theorem ztk (a:Int):((to_u8 a).toNat:Int)=a % 256 := by
  unfold to_u8; rw [UInt8.toNat_ofNat',Nat.mod_eq_of_lt (by omega)]; omega
theorem zu1 (a:Int):IntKind.u8.wrap a=((to_u8 a).toNat:Int) := by rw [ztk]; simp [IntKind.wrap,IntKind.signed,IntKind.bits]
theorem zvp {k':IntKind} {a:Int} (hx:ev s x=some (.int k' a)) (hu:∀ w,(underlying t).run P w = .ok (.int k') w) (hu':∀ w,(underlying t').run P w = .ok (.int .u8) w):PJ P n ⟨dst,.convert t t' x,ty,pos,after,g⟩ s (.int .u8 ((to_u8 a).toNat:Int)) :=
  PJ_eq (zll hx hu hu') (congrArg (Value.int .u8) (zu1 a).symm)
end
theorem and_i {a b:Bool} (h1:a=true) (h2:b=true):(a && b)=true := by rw [h1,h2]; rfl
theorem nP {b:Bool} {p:Prop} (h:b=true↔p) (hn:(!b)=true):¬ p := fun hp=>by rw [h.2 hp] at hn; cases hn
theorem apl {k m b:Nat} (h:k + m≤1000000000) (hb:Nat.ble b 100000=true):k + m≤maxLen∧(k + m) * b≤140737488355328 := by
  have hb':b≤100000 := Nat.le_of_ble_eq_true hb
  refine ⟨by simp only [maxLen]; omega,?_⟩
  exact Nat.le_trans (Nat.mul_le_mul h hb') (by decide)
theorem zxs (n:Nat) (h:n < 9223372036854775808):IntKind.i64.wrap (n:Int)=(n:Int) := zcx (by omega) (by omega)
theorem zh4 {α:Type} {t:Ty α} {A:HP} {v:Value} {xs:List α} {H R:List HP} (hr:Reads A t v xs) (hd:Del H A R):∀ h,stars H h→xs.length≤9223372036854775807 := by
  intro h hh
  obtain ⟨h1,h2,_,_,hA,_⟩ := zbd hd.out h hh
  rcases hr h1 hA with ⟨_,rfl⟩ | ⟨a,cap,_,h1,h2,_⟩
  · simp
  · simp only [maxLen] at h2; omega
section
variable {P:Program} {n:Env} {W:World} {Q:Exit→Act→World→Prop} {s:Slots} {H:List HP}
theorem zdg {X:Type} (ks:List Nat) (ins:X→Slots) (hin:X→List HP→List HP) (pf:X→Prop) {c d:Code} {As R:List HP} (_hR:Dels H As R)
    (h1:CJ P n W (Exit.then (zri n W ks ins hin pf s R) Q) c s H) (h2:∀ x,pf x→CJ P n W Q d (ins x ++ forget ks s) (hin x R)):CJ P n W (Exit.then (d.wpIn (fw n.r) 0 P Q) Q) c s H := by
  intro a w hf hs
  refine wpIn_mono (h1 a w hf hs) ?_
  intro e a w hq
  cases e with
  | normal=>obtain ⟨x,hp,hf',hs'⟩ := hq; exact h2 x hp a w hf' hs'
  | _=>exact hq
end
def bindK {α β:Type} (k:α→Option β) (a:α):Option β := k a
theorem zh5 {α β:Type} {r:β} {m:Option α} {k:α→Option β} (h:m.bind k=some r):∃ a,m=some a∧bindK k a=some r := zb9 h
theorem zgj {α β:Type} {k:α→Option β} {r:β} {y a:α} (h:bindK k y=some r) (hy:y=a):k a=some r := hy ▸ h
theorem zg6 {n:Nat} (h:n≤9223372036854775807) : -9223372036854775808≤(n:Int)∧(n:Int)≤9223372036854775807 := by omega
end Go.VG
namespace Go.VG
def blkR (b:Nat) (T:TypeId) (cs:List Value):HP := ptR b (.cells cs.toArray T (0,0))
theorem Dup.blkR {b:Nat} {T:TypeId} {cs:List Value} : Dup (blkR b T cs) := Dup.ptR
structure IfH where
  t:Nat
  u:Value
abbrev IfH.v (h:IfH):Value := .iface h.t h.u
theorem znj {w:World} {b i:Nat} {c:Array Value} {T:TypeId} {fr:Nat × Nat} (h:w.heap[b]? = some (.cells c T fr)):w.cell? ⟨b,i,none⟩=c[i]? := by
  unfold World.cell?
  rw [show w.heap[({ block := b,off := i,spot := none } : Addr).block]? = _ from h]
  simp
section
variable {P:Program} {n:Env} {W:World} {s:Slots} {H:List HP} {K:Slots→List HP→Prop} {d:Nat} {dst:Option Tmp} {ty:TypeId} {pos:String} {after:Array Edge} {g:Option (Nat × Bool)} {Q:Exit→Act→World→Prop} {ops:Array Oper}
variable {α:Type} {t:Ty α} {v:Value} {xs:List α}
theorem zer {x:Operand} {T E:TypeId} {b off:Nat} {cs:List Value} {C:HP→List HP} {v:Value} (hx:ev s x=some (ptr b off)) (hf':Foc H (blkR b E cs) C) (hc:cs[off]? = some v)
    (hT:∀ w,(isAgg T).run P w = .ok false w):VJ P n W ⟨dst,.load T x,ty,pos,after,g⟩ s H v :=
  (fun q w hf hs=>by
    obtain ⟨F,hp,_⟩ := hf'.focus
    have hcell := znj (i:=off) (hs.perm hp).blkR
    simp only [List.getElem?_toArray,hc] at hcell
    simp [execOp,hf.eval hx,Instr.loadAt,Instr.sureAddr,loadVar,hT,hcell])
def ICall (P:Program) (W:World) (v:Value) (name:String) (args:List Value) (pre:List HP) {X:Type} (res:X→Value) (pf:X→Prop) (post:X→List HP→List HP):Prop :=
  ∀ F w,St W w (pre ++ F) → ∃ f zs,(callMethod v name args.toArray).run P w = .ok (.enter f zs) w∧Calls P f zs w (CPost W res pf post F)
def MFact (P:Program) (T:Nat) (u:Value) (name:String) (f:FuncId) (r:Value):Prop := ∀ w,(method (P.types.size + Made.depth) T u name).run P w = .ok (f,r) w
variable {pre F:List HP} {X:Type} {res:X→Value} {pf:X→Prop} {post:X→List HP→List HP}
theorem ICall.of {T:Nat} {u r:Value} {name:String} {f:FuncId} {args:List Value} (hm:MFact P T u name f r) (he:zgf P f) (hc:CSpec P W f (r::args) pre res pf post):ICall P W (.iface T u) name args pre res pf post := by
  intro F w hs
  refine ⟨f,(r::args).toArray,?_,hc F w hs⟩
  have h1 := hm w
  have h2 := he (r::args).toArray w
  simp only [callMethod,Sem.run_bind,run_program,Result.andThen_ok,h1]
  simpa using h2
theorem zbz {x:Operand} {name:String} {xs:List Operand} {ats:Array TypeId} {vs:List Value} {v:Value} (hx:ev s x=some v) (hc:ICall P W v name vs pre res pf post) (hv:evs s xs=some vs) (hdel:Dels H pre F) (hd:Nat.blt d n.n=true)
    (hk:∀ x,pf x→K ((d,res x)::s) (post x F)):OJ P n W ⟨some d,.call { callee := .invoke x name,args := xs.toArray,argTypes := ats },ty,pos,after,g⟩ s H K := by
  intro a w hf hs next Q hn
  refine ⟨?_,fun _ e=>by cases e⟩
  unfold Oper.wp
  obtain ⟨f,zs,hr,hcl⟩ := hc F w (hs.perm hdel.out)
  have h1:(xs.toArray.map a.eval)=vs.toArray := by rw [← hf.evals hv]; simp
  have hr2:(execOp a.eval ⟨some d,.call { callee := .invoke x name,args := xs.toArray,argTypes := ats },ty,pos,after,g⟩).run P w = .ok (.enter f zs) w := by
    simp only [execOp,resolve,h1,hf.eval hx]
    simp [invoke,hr]
  rw [hr2]
  exact hcl.mono fun e w' ⟨x,hx,hp,hs'⟩=>by subst hx; exact hn _ _ _ _ (hk x hp) (hf.put hd _) hs'
theorem znk {x:Operand} {T:Nat} {u:Value} (hx:ev s x=some (.iface T u)):PJ P n ⟨dst,.nilCheck x,ty,pos,after,g⟩ s (.iface T u) :=
  (fun q w hf=>by simp [execOp,hf.eval hx])
theorem znv {x y:Operand} {t t':TypeId} {T:Nat} {u:Value} (hx:ev s x=some (.iface T u)) (hy:ev s y=some .nilIface) (hu:P.underlying t=some (.interface (P.methodsAt t))):PJ P n ⟨dst,.binOp .eql t x y t',ty,pos,after,g⟩ s (.bool false) :=
  (fun q w hf=>by
    have h := run_equalIn_held_nil (P:=P) w 9999 t T u hu
    simp only [execOp,hf.eval hx,hf.eval hy,eqGuard,binOp,Op.equal,Op.maxDepth]
    simp [h])
theorem zko {x y:Operand} {t t':TypeId} {T:Nat} {u:Value} (hx:ev s x=some (.iface T u)) (hy:ev s y=some .nilIface) (hu:P.underlying t=some (.interface (P.methodsAt t))):PJ P n ⟨dst,.binOp .neq t x y t',ty,pos,after,g⟩ s (.bool true) :=
  (fun q w hf=>by
    have h := run_equalIn_held_nil (P:=P) w 9999 t T u hu
    simp only [execOp,hf.eval hx,hf.eval hy,eqGuard,binOp,Op.equal,Op.maxDepth]
    simp [h])
theorem zz9 {x:Operand} {t t':TypeId} (hx:ev s x=some .nilIface) (hu:P.underlying t=some (.interface (P.methodsAt t))):PJ P n ⟨dst,.binOp .eql t x (.const .nilIface) t',ty,pos,after,g⟩ s (.bool true) :=
  (fun q w hf=>by
    have h := run_equalIn_nil_nil (P:=P) w 9999 t hu
    simp only [execOp,hf.eval hx,show q.eval (.const .nilIface) = .nilIface from rfl,eqGuard,binOp,Op.equal,Op.maxDepth]
    simp [h])
theorem z0a {x:Operand} {t t':TypeId} (hx:ev s x=some .nilIface) (hu:P.underlying t=some (.interface (P.methodsAt t))):PJ P n ⟨dst,.binOp .neq t x (.const .nilIface) t',ty,pos,after,g⟩ s (.bool false) :=
  (fun q w hf=>by
    have h := run_equalIn_nil_nil (P:=P) w 9999 t hu
    simp only [execOp,hf.eval hx,show q.eval (.const .nilIface) = .nilIface from rfl,eqGuard,binOp,Op.equal,Op.maxDepth]
    simp [h])
end
def oval {α:Type} (o:Option α) (b:Nat):Value := match o with
  | none => .pointer none
  | some _=>ptr b 0
def oif {α:Type} (o:Option α) (h:IfH):Value := match o with
  | none => .nilIface
  | some _=>h.v
def optP {α:Type} (f:α→HP) (o:Option α):HP := match o with
  | none=>emp True
  | some x=>f x
theorem zgw {α:Type} {f:α→HP} {R:List HP} (h:PH) (hh:stars R h):stars (optP f none::R) h := stars_emp.2 ⟨trivial,hh⟩
section
variable {P:Program} {n:Env} {W:World} {s:Slots} {H:List HP} {K:Slots→List HP→Prop} {d:Nat} {dst:Option Tmp} {ty:TypeId} {pos:String} {after:Array Edge} {g:Option (Nat × Bool)} {Q:Exit→Act→World→Prop}
variable {α:Type} {t:Ty α} {v:Value} {xs:List α}
theorem z0b {β:Type} {H':β→List HP} {e:Exit} (hH:EntX H H') (h:∀ x,QJ n W Q e s (H' x)):QJ n W Q e s H := by
  intro a w hf hs
  obtain ⟨gg,hgg⟩ := hs.heap
  obtain ⟨x,hx⟩ := hH _ hgg
  exact h x a w hf ⟨hs.os,hs.tape,hs.output,gg,hx⟩
theorem QJ_pur {p:Prop} {e:Exit} (h:p→QJ n W Q e s H):QJ n W Q e s (pur p::H) := fun a w hf hs=>let ⟨hp,hs'⟩ := St.pur_iff.1 hs; h hp a w hf hs'
theorem z0c {p:Prop} {e:Exit} (hp:∀ h,stars H h→p) (h:p→QJ n W Q e s H):QJ n W Q e s H :=
  fun a w hf hs=>h (let ⟨_,hgg⟩ := hs.heap; hp _ hgg) a w hf hs
theorem zvq {h:Nat} (hh:h≤xs.length) {R:List HP} : EntX (sl t v xs::R) fun hd:Option Addr × Nat=>pur (sliceV t.sz v 0 h = .slice hd.1 (xs.take h).length hd.2)::sl t (.slice hd.1 (xs.take h).length hd.2) (xs.take h)::R := by
  intro hp hst
  obtain ⟨h1,h2,hd,he,⟨hl,hv⟩,hF⟩ := hst
  have hlen:(xs.take h).length=h := by simp; omega
  rcases hv with ⟨rfl,hn⟩ | ⟨b,cap,cur,rfl,hc,hm,hs,ht,rfl⟩
  · have hx:xs=[] := List.eq_nil_of_length_eq_zero hn
    subst hx
    have:h=0 := by simpa using hh
    subst this
    refine ⟨(none,0),stars_pur.2 ⟨rfl,h1,h2,hd,he,⟨by simp [flat],.inl ⟨rfl,rfl⟩⟩,hF⟩⟩
  · refine ⟨(some ⟨b,0,none⟩,cap),stars_pur.2 ⟨?_,_,h2,hd,he,⟨by rw [zbr],.inr ⟨b,cap,cur,rfl,by rw [hlen]; omega,hm,hs,?_,rfl⟩⟩,hF⟩⟩
    · rw [hlen]; simp only [sliceV]
      by_cases h0:cap=0 <;> simp [h0,Addr.add]
    · rw [← zi7, ← ht,List.take_take,hlen]
      congr 1
      have:h * t.sz≤xs.length * t.sz := Nat.mul_le_mul_right _ hh
      omega
theorem zpq (m:Nat) (x0:α):(Builtin.zeroCells (t.enc x0).toArray m).toList=flat t (List.replicate m x0) := by
  apply List.ext_getElem?
  intro j
  have hfl := zbr t (List.replicate m x0)
  rw [List.length_replicate] at hfl
  by_cases hj:j < m * t.sz
  · have h1:j / t.sz < m := Nat.div_lt_of_lt_mul (by rw [Nat.mul_comm]; exact hj)
    have h2:j % t.sz < t.sz := Nat.mod_lt _ t.pos
    have h3:j / t.sz * t.sz + j % t.sz=j := by rw [Nat.mul_comm]; exact Nat.div_add_mod j t.sz
    have h4 := zd1 t (List.replicate m x0) (j / t.sz) (j % t.sz) (by simpa using h1) h2
    rw [h3] at h4
    rw [h4]
    have hlk:j % t.sz < (t.enc x0).length := by rw [t.len]; exact h2
    simp [Builtin.zeroCells,t.len,hj,List.getD,h1]
    rw [List.getElem?_eq_getElem hlk]; simp
  · rw [List.getElem?_eq_none (by simp [Builtin.zeroCells,t.len]; omega),List.getElem?_eq_none (by rw [hfl]; omega)]
theorem z0d {x:Operand} {T:TypeId} {l:Nat} {z:Value} {C:HP→List HP} (hx:ev s x=some (sliceV t.sz v l xs.length)) (hl:l≤xs.length) (hf':Foc H (sl t v xs) C) (hT:P.underlying T=some (.slice t.T)) (hz:∀ w,(zeroValue t.T).run P w = .ok z w) (hzc:z.cells=(t.enc t.dflt).toArray)
    (hk:K s (C (sl t v (xs.take l ++ List.replicate (xs.length - l) t.dflt)))):OJ P n W ⟨none,.call { callee := .builtin .clear,args := #[x],argTypes := #[T] },ty,pos,after,g⟩ s H K :=
  OJ_do (fun q w hf hs=>by
    obtain ⟨F,hp,hC⟩ := hf'.focus
    have hs1 := hs.perm hp
    have hys:(xs.take l ++ List.replicate (xs.length - l) t.dflt).length=xs.length := by simp; omega
    rcases zeo hs1 with ⟨rfl,rfl,h2⟩ | ⟨b,cap,cur,rfl,hc,hm,hsz,ht,h2⟩
    · have:l=0 := by simpa using hl
      subst this
      refine ⟨w,C (sl t (.slice none 0 0) []),.inr ⟨.tuple #[],?_⟩,(by have := hs1.perm (hC _).symm; exact this),by simpa using hk⟩
      simp [execOp,resolve,invoke,builtin,Builtin.clear_,hf.eval hx,run_underlying hT,sliceV]
    · by_cases hn:l=xs.length
      · subst hn
        refine ⟨w,C (sl t _ xs),.inr ⟨.tuple #[],?_⟩,(by have := hs1.perm (hC _).symm; exact this),by simpa using hk⟩
        have hx' := hf.eval hx
        simp only [sliceV,Nat.sub_self] at hx'
        split at hx' <;> simp [execOp,resolve,invoke,builtin,hx',Builtin.clear_,run_underlying hT]
      · have hlt:l < xs.length := by omega
        obtain ⟨m,hm'⟩:∃ m,xs.length - l=m + 1 := ⟨xs.length - l - 1,by omega⟩
        have hcl:¬ cap=l := by omega
        have hfl:(Builtin.zeroCells z.cells (xs.length - l)).toList=flat t (List.replicate (xs.length - l) t.dflt) := by
          rw [hzc]; exact zpq _ _
        have hone := zhk t (List.replicate (xs.length - l) t.dflt)
        have hlen2:(flat t (List.replicate (xs.length - l) t.dflt)).length=(xs.length - l) * t.sz := by rw [zbr,List.length_replicate]
        have hle:l * t.sz + (xs.length - l) * t.sz=xs.length * t.sz := by rw [← Nat.add_mul]; congr 1; omega
        have hcap:xs.length * t.sz≤cap * t.sz := Nat.mul_le_mul_right _ hc
        have hst := run_storeCells_at P b (l * t.sz) t.T (flat t (List.replicate (xs.length - l) t.dflt)) 0 cur w h2.blk (by rw [hlen2,hsz]; omega) hone
        simp only [Nat.add_zero] at hst
        refine ⟨w.setRow b (cur.toList.take (l * t.sz) ++ flat t (List.replicate (xs.length - l) t.dflt) ++ cur.toList.drop (l * t.sz + (flat t (List.replicate (xs.length - l) t.dflt)).length)).toArray,C (sl t _ (xs.take l ++ List.replicate (xs.length - l) t.dflt)),.inr ⟨.tuple #[],?_⟩,?_,hk⟩
        rotate_left
        · have h3 := h2.setRow (c' := (cur.toList.take (l * t.sz) ++ flat t (List.replicate (xs.length - l) t.dflt) ++ cur.toList.drop (l * t.sz + (flat t (List.replicate (xs.length - l) t.dflt)).length)).toArray)
          have h4 := zep (t:=t) (xs:=xs.take l ++ List.replicate (xs.length - l) t.dflt) (b:=b) (cap:=cap) (by rw [hys]; exact hc) hm (by
            simp only [List.size_toArray,List.length_append,List.length_take,List.length_drop,Array.length_toList,hlen2,hsz]; omega) (by
            rw [hys,zdv, ← zi7, ← ht]
            simp only
            have e1:(cur.toList.take (l * t.sz)).length=l * t.sz := by rw [List.length_take,Array.length_toList,hsz]; omega
            rw [List.append_assoc,List.take_append,e1,List.take_of_length_le (l:=cur.toList.take (l * t.sz)) (by rw [e1]; omega),List.take_append,hlen2,show xs.length * t.sz - l * t.sz - (xs.length - l) * t.sz=0 by omega,List.take_zero,List.append_nil,List.take_of_length_le (l:=flat t (List.replicate (xs.length - l) t.dflt)) (by rw [hlen2]; omega)]
            rw [List.take_take,Nat.min_eq_left (by omega)]) h3
          rw [hys] at h4
          exact h4.perm (hC _).symm
        · have hx' := hf.eval hx
          simp only [sliceV,if_neg hcl,hm',Option.map_some,zcy _ _ (rfl:(⟨b,0,none⟩:Addr).spot=none),Nat.zero_add] at hx'
          have hfl':(Builtin.zeroCells z.cells (m + 1)).toList=flat t (List.replicate (m + 1) t.dflt) := by rw [← hm']; exact hfl
          rw [hm'] at hst
          simp [execOp,resolve,invoke,builtin,hx',Builtin.clear_,run_underlying hT,hz,hfl',hst,hm'])
end
section
variable {α η:Type} {RP:α→η→HP}
theorem Dup.ex {β:Type} {f:β→HP} (h:∀ x,Dup (f x)):Dup (ex f) := fun g ⟨x,hx⟩ k=>h x g hx k
def Rs (RP:α→η→HP):List α→List η→HP
  | [],[]=>emp True
  | x::l,h::hs=>starX [RP x h,Rs RP l hs]
  | _,_=>emp False
theorem zry {R:List HP} (h:PH) (hh:stars R h):stars (Rs RP [] []::R) h := stars_emp.2 ⟨trivial,hh⟩
theorem zol:∀ {l:List α} {hs:List η} {R:List HP} {h:PH},stars (Rs RP l hs::R) h→hs.length=l.length
  | [],[],_,_,_=>rfl
  | x::l,g::hs,R,h,hh=>by
    have h1 := stars_starX.1 hh
    have := zol (zby h1)
    simp [this]
  | [],_::_,_,_,hh=>(stars_emp.1 hh).1.elim
  | _::_,[],_,_,hh=>(stars_emp.1 hh).1.elim
theorem zvr {dx:α} {dh:η} : ∀ {l:List α} {hs:List η} {i:Nat} {R:List HP},i < l.length→Ent (Rs RP l hs::R) (RP (l.getD i dx) (hs.getD i dh)::R)
  | [],_,_,_,h=>by simp at h
  | x::l,[],_,_,_=>fun _ hh=>(stars_emp.1 hh).1.elim
  | x::l,g::hs,0,R,_=>fun h hh=>by
    have h1 := stars_starX.1 hh
    exact zas (fun _ h=>zby h) h1
  | x::l,g::hs,i + 1,R,hi=>fun h hh=>by
    have h1 := stars_starX.1 hh
    exact zvr (i:=i) (by simpa using hi) h (zby h1)
theorem zom:∀ {l l':List α} {hs hs':List η} {R:List HP},Ent (Rs RP l hs::Rs RP l' hs' :: R) (Rs RP (l ++ l') (hs ++ hs')::R)
  | [],_,[],_,_=>fun _ hh=>(stars_emp.1 hh).2
  | x::l,l',g::hs,hs',R=>fun h hh=>by
    have h1 := stars_starX.1 hh
    refine stars_starX.2 ?_
    exact zas (fun h hh=>zom (l:=l) (hs:=hs) h hh) h1
  | [],_,_::_,_,_=>fun _ hh=>(stars_emp.1 hh).1.elim
  | _::_,_,[],_,_=>fun _ hh=>(stars_emp.1 hh).1.elim
theorem z0e (hd:∀ x h,Dup (RP x h)) {l:List α} {hs:List η} {x:α} {g:η} {R:List HP} : Ent (Rs RP l hs::RP x g::R) (Rs RP (l ++ [x]) (hs ++ [g])::RP x g::R) := by
  refine Ent.trans (Ent.take del1 Ent.refl) (Ent.trans (fun h hh=>zlk (hd x g) hh) (Ent.trans (Ent.take del2 (Ent.take del0 Ent.refl)) (Ent.trans ?_ zom)))
  refine Ent.take del0 (fun h hh=>stars_starX.2 (zas (fun h hh=>stars_emp.2 ⟨trivial,hh⟩) hh))
end
end Go.VG
namespace Go.VG
section
variable {P:Program} {W:World} {k:Nat} {h h':IfH} {name:String} {args:List Value} {pre pre' G:List HP} {X:Type} {res:X→Value} {pf:X→Prop} {post post':X→List HP→List HP}
def IOk (P:Program) (W:World) (k:Nat) (h:IfH) (name:String) (args:List Value) (pre:List HP) {X:Type} (res:X→Value) (pf:X→Prop) (post:X→List HP→List HP):Prop :=
  ∀ n,k≤n → ∀ F w,St W w (pre ++ F) → ∃ f r,(method n h.t h.u name).run P w = .ok (f,r) w∧zgf P f∧Calls P f (r::args).toArray w (CPost W res pf post F)
theorem IOk.call (hm:IOk P W k h name args pre res pf post) (hk:k≤100):ICall P W h.v name args pre res pf post := by
  intro F w hs
  obtain ⟨f,r,h1,h2,h3⟩ := hm (P.types.size + Made.depth) (by unfold Made.depth; omega) F w hs
  refine ⟨f,(r::args).toArray,?_,h3⟩
  have h4 := h2 (r::args).toArray w
  simp only [callMethod,Sem.run_bind,run_program,Result.andThen_ok,h1]
  simpa using h4
theorem IOk.of {T:Nat} {u r:Value} {f:FuncId} (hm:∀ n w,(method (n + 1) T u name).run P w = .ok (f,r) w) (he:zgf P f) (hc:CSpec P W f (r::args) pre res pf post):IOk P W (k + 1) ⟨T,u⟩ name args pre res pf post := by
  intro n hn F w hs
  obtain ⟨m,rfl⟩:∃ m,n=m + 1 := ⟨n - 1,by omega⟩
  exact ⟨f,r,hm m w,he,hc F w hs⟩
theorem IOk.prom (hp:∀ n F w,St W w (pre ++ F)→(method (n + 1) h.t h.u name).run P w=(method n h'.t h'.u name).run P w) (hm:IOk P W k h' name args pre res pf post):IOk P W (k + 1) h name args pre res pf post := by
  intro n hn F w hs
  obtain ⟨m,rfl⟩:∃ m,n=m + 1 := ⟨n - 1,by omega⟩
  obtain ⟨f,r,h1,h2⟩ := hm m (by omega) F w hs
  exact ⟨f,r,(hp m F w hs).trans h1,h2⟩
theorem IOk.conseq (hm:IOk P W k h name args pre res pf post) (h1:∀ F,Ent (pre' ++ F) (pre ++ (G ++ F))) (h2:∀ x F,Ent (post x (G ++ F)) (post' x F)):IOk P W k h name args pre' res pf post' := by
  intro n hn F w hs
  obtain ⟨f,r,ha,hb,hc⟩ := hm n hn (G ++ F) w (hs.imp (h1 F))
  exact ⟨f,r,ha,hb,hc.mono fun e w' ⟨x,hx,hp,hs'⟩=>⟨x,hx,hp,hs'.imp (h2 x F)⟩⟩
theorem IOk.starI {l:List HP} (hm:IOk P W k h name args (l ++ pre) res pf post):IOk P W k h name args (starX l::pre) res pf post := by
  intro n hn F w hs
  exact hm n hn F w (by simpa using hs.imp (fun _ hh=>stars_starX.1 hh))
theorem IOk.mono {k':Nat} (hm:IOk P W k h name args pre res pf post) (hk:k≤k'):IOk P W k' h name args pre res pf post := fun n hn=>hm n (Nat.le_trans hk hn)
theorem IOk.post0 (hm:IOk P W k h name args pre res pf post) (h2:∀ x F,Ent (post x F) (post' x F)):IOk P W k h name args pre res pf post' := IOk.conseq (G:=[]) hm (fun _=>Ent.refl) h2
theorem Ent.starI {l R R':List HP} (h:Ent R (l ++ R')):Ent R (starX l::R') := fun g hg=>stars_starX.2 (h g hg)
theorem Ent.starE {l R R':List HP} (h:Ent (l ++ R) R'):Ent (starX l::R) R' := fun g hg=>h g (stars_starX.1 hg)
theorem Reads.hd {α:Type} {t:Ty α} {v:Value} {xs:List α} {A:HP} {l:List HP} (h:Reads A t v xs):Reads (starX (A::l)) t v xs := by
  rintro g ⟨h1,h2,hd,rfl,hA,_⟩
  exact (h h1 hA).mono hd
theorem Reads.tl {α:Type} {t:Ty α} {v:Value} {xs:List α} {A:HP} {l:List HP} (h:Reads (starX l) t v xs):Reads (starX (A::l)) t v xs := by
  rintro g ⟨h1,h2,hd,rfl,_,hr⟩
  rw [PH.uni_comm hd]; exact (h h2 hr).mono (PH.disj_symm hd)
theorem zvs {A:HP} {g:PH} (hg:A g):stars [A] g := by
  have hd:PH.disj (fun _=>none) g := fun _ => .inl rfl
  exact ⟨g,fun _=>none,PH.disj_symm hd,by rw [← PH.uni_comm hd]; funext k; simp [PH.uni],hg,trivial⟩
theorem Reads.of_ent {α:Type} {t:Ty α} {v:Value} {xs:List α} {A B:HP} (he:Ent [B] [A]) (h:Reads A t v xs):Reads B t v xs := by
  intro g hg
  obtain ⟨h1,h2,hd,rfl,hA,_⟩ := he g (zvs hg)
  exact (h h1 hA).mono hd
theorem zrz {w:World} {T:TypeId} {a:Addr} {v:Value} (hT:(isAgg T).run P w = .ok false w) (hc:w.cell? a=some v):(loadVar T a).run P w = .ok v w := by
  simp [loadVar,hT,hc]
end
section
variable {n:Env} {W:World} {s:Slots} {H:List HP} {Q:Exit→Act→World→Prop} {P:Program}
theorem zmp {l:List Oper} {Hr:List HP} {tl fuel m:Nat} {p:Prop} (hp:∀ h,stars H h→p) (h:p→AJ P n W l Q Hr tl fuel m s H):AJ P n W l Q Hr tl fuel m s H :=
  fun a w hf hs=>h (let ⟨_,hgg⟩ := hs.heap; hp _ hgg) a w hf hs
variable {n:Env} {dst:Option Tmp} {ty:TypeId} {pos:String} {after:Array Edge} {g:Option (Nat × Bool)}
theorem zjo {x:Operand} {h:IfH} {name:String} {b:Array Value} (hn:∀ n,100≤n → ∀ w,(nilAhead n h.t h.u name).run P w = .ok (some false) w) (hx:ev s x=some (.func (.method name) #[h.v] b)):PJ P n ⟨dst,.nilCheck x,ty,pos,after,g⟩ s (.func (.method name) #[h.v] b) :=
  (fun q w hf=>by
    have h1 := hn (P.types.size + Made.depth) (by unfold Made.depth; omega) w
    simp [execOp,hf.eval hx,h1])
end
end Go.VG
namespace Go.VG
section
variable {X0 X1 X2 X3 X4 X5 X6 X7 X8 X9 X10 X11 X12 X13 X14 X15 X16 X17 X18 X19 X20 X21 X22 X23 X24 X25 X26 X27 X28 A:HP} {R:List HP}
theorem del12:Del (X0::X1::X2::X3::X4::X5::X6::X7::X8::X9::X10::X11::A::R) A (X0::X1::X2::X3::X4::X5::X6::X7::X8::X9::X10::X11::R) := Del.of (L:=[X0,X1,X2,X3,X4,X5,X6,X7,X8,X9,X10,X11])
theorem del13:Del (X0::X1::X2::X3::X4::X5::X6::X7::X8::X9::X10::X11::X12::A::R) A (X0::X1::X2::X3::X4::X5::X6::X7::X8::X9::X10::X11::X12::R) := Del.of (L:=[X0,X1,X2,X3,X4,X5,X6,X7,X8,X9,X10,X11,X12])
theorem del14:Del (X0::X1::X2::X3::X4::X5::X6::X7::X8::X9::X10::X11::X12::X13::A::R) A (X0::X1::X2::X3::X4::X5::X6::X7::X8::X9::X10::X11::X12::X13::R) := Del.of (L:=[X0,X1,X2,X3,X4,X5,X6,X7,X8,X9,X10,X11,X12,X13])
theorem del15:Del (X0::X1::X2::X3::X4::X5::X6::X7::X8::X9::X10::X11::X12::X13::X14::A::R) A (X0::X1::X2::X3::X4::X5::X6::X7::X8::X9::X10::X11::X12::X13::X14::R) := Del.of (L:=[X0,X1,X2,X3,X4,X5,X6,X7,X8,X9,X10,X11,X12,X13,X14])
theorem del16:Del (X0::X1::X2::X3::X4::X5::X6::X7::X8::X9::X10::X11::X12::X13::X14::X15::A::R) A (X0::X1::X2::X3::X4::X5::X6::X7::X8::X9::X10::X11::X12::X13::X14::X15::R) := Del.of (L:=[X0,X1,X2,X3,X4,X5,X6,X7,X8,X9,X10,X11,X12,X13,X14,X15])
theorem del17:Del (X0::X1::X2::X3::X4::X5::X6::X7::X8::X9::X10::X11::X12::X13::X14::X15::X16::A::R) A (X0::X1::X2::X3::X4::X5::X6::X7::X8::X9::X10::X11::X12::X13::X14::X15::X16::R) := Del.of (L:=[X0,X1,X2,X3,X4,X5,X6,X7,X8,X9,X10,X11,X12,X13,X14,X15,X16])
theorem del18:Del (X0::X1::X2::X3::X4::X5::X6::X7::X8::X9::X10::X11::X12::X13::X14::X15::X16::X17::A::R) A (X0::X1::X2::X3::X4::X5::X6::X7::X8::X9::X10::X11::X12::X13::X14::X15::X16::X17::R) := Del.of (L:=[X0,X1,X2,X3,X4,X5,X6,X7,X8,X9,X10,X11,X12,X13,X14,X15,X16,X17])
theorem del19:Del (X0::X1::X2::X3::X4::X5::X6::X7::X8::X9::X10::X11::X12::X13::X14::X15::X16::X17::X18::A::R) A (X0::X1::X2::X3::X4::X5::X6::X7::X8::X9::X10::X11::X12::X13::X14::X15::X16::X17::X18::R) := Del.of (L:=[X0,X1,X2,X3,X4,X5,X6,X7,X8,X9,X10,X11,X12,X13,X14,X15,X16,X17,X18])
end
theorem zxt {P:Program} {n:Env} {W:World} {Q:Exit→Act→World→Prop} {s:Slots} {H:List HP} {c:Code} (h:CJ P n W (Exit.noGoto Q) c s H) (hnr:n.r=none := by rfl):CJ P n W Q (.scope c) s H := fun a w hf hs=>by
  have h1 := h a w hf hs
  rw [hnr] at h1 ⊢
  exact (wpIn_wide (n:=0)).2 (wp_scope_straight ((wpIn_wide (n:=0)).1 h1))
theorem zr0 {n:Env} {W:World} {Q:Exit→Act→World→Prop} {s:Slots} {H:List HP} (h:QJ n W Q .ret s H):QJ n W (Exit.noGoto Q) .ret s H := h
theorem res4 {P:Program} {n:Env} {W:World} {s:Slots} {H:List HP} {fn:Func} {t u p q:Tmp} {v x y z:Value} (h:fn.results = #[.tmp t,.tmp u,.tmp p,.tmp q]) (hv:look s t=some v) (hx:look s u=some x) (hy:look s p=some y) (hz:look s q=some z) :
    ∀ a w,Fits n s a→St W w H→(results fn a.tmps).run P w = .ok (.tuple #[v,x,y,z]) w := fun a w hf _=>by
  have h1 := hf.slot t v hv
  have h2 := hf.slot u x hx
  have h3 := hf.slot p y hy
  have h4 := hf.slot q z hz
  simp [results,h,Array.getD_eq_getD_getElem?,h1,h2,h3,h4]
end Go.VG
namespace Go.VG
section
variable {P:Program} {n:Env} {W:World} {s:Slots} {H:List HP}
def rvSem (tmps:Array Value):ResultVar→Sem Value
  | .tmp t=>pure (tmps.getD t undef)
  | .cell a t=>do loadVar t (← asAddr (tmps.getD a undef))
theorem zkp {fn:Func} {tmps:Array Value} : results fn tmps=(do let vs ← fn.results.mapM (rvSem tmps); pure (if h:vs.size=1 then vs[0] else .tuple vs)) := by
  unfold results
  congr 2
def RV (P:Program) (n:Env) (W:World) (s:Slots) (H:List HP) (r:ResultVar) (v:Value):Prop := ∀ a w,Fits n s a→St W w H→(rvSem a.tmps r).run P w = .ok v w
theorem zju {t:Tmp} {v:Value} (hv:look s t=some v):RV P n W s H (.tmp t) v := fun a w hf _=>by
  have := hf.slot t v hv
  simp [rvSem,this]
theorem zjv {t:Tmp} {T E:TypeId} {b off:Nat} {cs:List Value} {C:HP→List HP} {v:Value} (hx:look s t=some (ptr b off)) (hf':Foc H (blk b E cs) C) (hc:cs[off]? = some v)
    (hT:∀ w,(isAgg T).run P w = .ok false w):RV P n W s H (.cell t T) v := fun a w hf hs=>by
  obtain ⟨F,hp,_⟩ := hf'.focus
  have hcell := (hs.perm hp).cell (i:=off)
  simp only [List.getElem?_toArray,hc] at hcell
  have := hf.slot t _ hx
  simp [rvSem,this,asAddr,loadVar,hT,hcell]
theorem zdp {t:Tmp} {T E:TypeId} {b off m:Nat} {cs:List Value} {C:HP→List HP} {vs:List Value} (hx:look s t=some (ptr b off)) (hf':Foc H (blk b E cs) C)
    (hT:∀ w,(isAgg T).run P w = .ok true w) (hm:∀ w,(sizeOf T).run P w = .ok m w) (hb:Nat.ble (off + m) cs.length=true) (hc:(cs.drop off).take m=vs):RV P n W s H (.cell t T) (.agg vs.toArray) := fun a w hf hs=>by
  obtain ⟨F,hp,_⟩ := hf'.focus
  have hl := zic (P:=P) (off:=off) (m:=m) (hs.perm hp).blk (by simpa using Nat.le_of_ble_eq_true hb)
  simp only [hc] at hl
  have := hf.slot t _ hx
  simp [rvSem,this,asAddr,loadVar,hT,hm,hl]
theorem resA1 {fn:Func} {r:ResultVar} {v:Value} (h:fn.results = #[r]) (h1:RV P n W s H r v):∀ a w,Fits n s a→St W w H→(results fn a.tmps).run P w = .ok v w := fun a w hf hs=>by
  have e1 := h1 a w hf hs
  rw [zkp,h]
  simp [e1]
theorem resA2 {fn:Func} {r q:ResultVar} {v u:Value} (h:fn.results = #[r,q]) (h1:RV P n W s H r v) (h2:RV P n W s H q u):∀ a w,Fits n s a→St W w H→(results fn a.tmps).run P w = .ok (.tuple #[v,u]) w := fun a w hf hs=>by
  have e1 := h1 a w hf hs
  have e2 := h2 a w hf hs
  rw [zkp,h]
  simp [Sem.run_bind,e1,e2]
theorem resA3 {fn:Func} {r q p:ResultVar} {v u x:Value} (h:fn.results = #[r,q,p]) (h1:RV P n W s H r v) (h2:RV P n W s H q u) (h3:RV P n W s H p x):∀ a w,Fits n s a→St W w H→(results fn a.tmps).run P w = .ok (.tuple #[v,u,x]) w := fun a w hf hs=>by
  have e1 := h1 a w hf hs
  have e2 := h2 a w hf hs
  have e3 := h3 a w hf hs
  rw [zkp,h]
  simp [Sem.run_bind,e1,e2,e3]
end
end Go.VG
set_option linter.unusedSimpArgs false
set_option maxRecDepth 20000
namespace Go.Proofs
open Go.VG
abbrev tyI:Ty Int := { T := 3,sz := 1,enc := fun x=>[.int .i64 x],dflt := 0,len := fun _=>rfl,one := fun _=>rfl,pos := by decide }
theorem zr1:ElemOk Tryz.prog tyI 8 := ⟨Tryz.t3,.int .i64 0,by kernel_rfl,rfl,rfl,rfl,rfl⟩
abbrev tyB:Ty Bool := { T := 4,sz := 1,enc := fun x=>[.bool x],dflt := false,len := fun _=>rfl,one := fun _=>rfl,pos := by decide }
theorem ok_tyB:ElemOk Tryz.prog tyB 1 := ⟨Tryz.t4,.bool false,by kernel_rfl,rfl,rfl,rfl,rfl⟩
theorem zvt (xs:List Int) (k:Nat):xs.getD k tyI.dflt=xs.getD k 0 := rfl
theorem iv {k:IntKind} {a b:Int} (h:a=b):Value.int k a = .int k b := by rw [h]
def u64 (x:UInt64):Value := .int .u64 (x.toNat:Int)
abbrev tyU:Ty UInt64 := { T := 47,sz := 1,enc := fun x=>[.int .u64 (x.toNat:Int)],dflt := 0,len := fun _=>rfl,one := fun _=>rfl,pos := by decide }
theorem zjw:ElemOk Tryz.prog tyU 8 := ⟨Tryz.t47,.int .u64 0,by kernel_rfl,rfl,rfl,rfl,rfl⟩
end Go.Proofs
set_option linter.unusedSimpArgs false
set_option maxRecDepth 20000
namespace Go.Proofs
open Go.VG
open Go.ChangeShapes Go.WideShapes Go.ChangeAt Go.RowKit
theorem zls:Shown Tryz.prog 3 tyI := fun H enc w base spare held n cs x h=>by
  obtain ⟨m,rfl,_,_⟩ := DataW.trod_int Tryz.underlying3 h; exact ⟨m,rfl⟩
theorem zqr:Shown Tryz.prog 47 tyU := fun H enc w base spare held n cs x h=>by
  obtain ⟨m,rfl,_,hw⟩ := DataW.trod_int Tryz.underlying47 h
  have hb := bounds_u64 hw
  refine ⟨UInt64.ofNat m.toNat,?_⟩
  have:((UInt64.ofNat m.toNat).toNat:Int)=m := by
    rw [UInt64.toNat_ofNat',Nat.mod_eq_of_lt (by omega)]; omega
  show [Value.int .u64 m]=[Value.int .u64 ((UInt64.ofNat m.toNat).toNat:Int)]
  rw [this]
structure StepV where
  f0:Int
  f1:Int
  f2:UInt64
  f3:UInt64
abbrev tyStep:Ty StepV := { T := 89,sz := 4,enc := fun x=>[.int .i64 x.f0,.int .i64 x.f1,.int .u64 (x.f2.toNat:Int),.int .u64 (x.f3.toNat:Int)],dflt := ⟨0,0,0,0⟩,len := fun _=>rfl,one := fun _=>rfl,pos := by decide }
theorem zr2:Shown Tryz.prog 89 tyStep := fun H enc w base spare held n cs x h=>by
  obtain ⟨xs,n',_,_,hcl,hxl,hf⟩ := DataW.trod_struct Tryz.underlying89 h
  have hc:cs.length=4 := hcl.trans (by kernel_rfl)
  have hl:xs.length=4 := hxl
  obtain ⟨y0,h0⟩ := zjb zls (hf 0 _ rfl) (by omega)
  obtain ⟨y1,h1⟩ := zjb zls (hf 1 _ rfl) (by omega)
  obtain ⟨y2,h2⟩ := zjb zqr (hf 2 _ rfl) (by omega)
  obtain ⟨y3,h3⟩ := zjb zqr (hf 3 _ rfl) (by omega)
  match cs,hc with
  | [c0,c1,c2,c3],_ =>
    change List.take (Tryz.prog.cellsOf 3) (List.drop 0 _)=_ at h0
    rw [show Tryz.prog.cellsOf 3=1 by kernel_rfl] at h0
    obtain rfl := (List.cons.inj (show [c0]=tyI.enc y0 from h0)).1
    change List.take (Tryz.prog.cellsOf 3) (List.drop 1 _)=_ at h1
    rw [show Tryz.prog.cellsOf 3=1 by kernel_rfl] at h1
    obtain rfl := (List.cons.inj (show [c1]=tyI.enc y1 from h1)).1
    change List.take (Tryz.prog.cellsOf 47) (List.drop 2 _)=_ at h2
    rw [show Tryz.prog.cellsOf 47=1 by kernel_rfl] at h2
    obtain rfl := (List.cons.inj (show [c2]=tyU.enc y2 from h2)).1
    change List.take (Tryz.prog.cellsOf 47) (List.drop 3 _)=_ at h3
    rw [show Tryz.prog.cellsOf 47=1 by kernel_rfl] at h3
    obtain rfl := (List.cons.inj (show [c3]=tyU.enc y3 from h3)).1
    exact ⟨⟨y0,y1,y2,y3⟩,rfl⟩
end Go.Proofs
namespace Go.VG
def zvu (P:Program) (W:World) (l:Nat) (args:List Value) (H HT HF:List HP):Prop :=
  ∀ w,St W w H → ∃ fn tmps assign body,(Instr.yield l args.toArray).run P w = .ok (.round l fn tmps assign body) w ∧
    RoundIn (fw none) 0 P l fn tmps assign body w (fun e w' => (e = .returned (.bool true)∧St W w' HT)∨(e = .returned (.bool false)∧St W w' HF))
def ISpec (P:Program) (W:World) (f:FuncId) (cap:List Value) (R:List HP) {α:Type} (encs:α→List Value) (xs:List α):Prop :=
  ∀ (l:Nat) (J:List α→HP) (Jx:HP),(∀ (bs:List α) (a:α),(∃ pre,xs=pre ++ a::bs)→zvu P W l (encs a) (J (a::bs)::R) (J bs::R) (Jx::R)) →
    ∀ w,St W w (J xs::R)→Calls P f (.func (.yield l) #[] #[]::cap).toArray w fun e w' => (∃ v,e = .returned v)∧(St W w' (J []::R)∨St W w' (Jx::R))
theorem ISpec.of_body {P:Program} {W:World} {f:FuncId} {fn:Func} {c:Code} {cap:List Value} {R:List HP} {α:Type} {encs:α→List Value} {xs:List α}
    (hf:P.funcs[f]? = some fn) (hb:fn.body=some c) {n:Nat} (hn:fn.ntmps=n) (hargs:Nat.ble (cap.length + 1) n=true)
    (h:∀ (l:Nat) (J:List α→HP) (Jx:HP),(∀ (bs:List α) (a:α),(∃ pre,xs=pre ++ a::bs)→zvu P W l (encs a) (J (a::bs)::R) (J bs::R) (Jx::R)) →
      CJ P ⟨n,none,[]⟩ W (bodyPost P fn (fun e w' => (∃ v,e = .returned v)∧(St W w' (J []::R)∨St W w' (Jx::R)))) c (args0 0 (.func (.yield l) #[] #[]::cap)) (J xs::R)):ISpec P W f cap R encs xs := by
  intro l J Jx hY w hs
  refine calls_of_wp hf hb (wpIn_wide.1 (h l J Jx hY _ w ⟨?_,rfl,?_⟩ hs))
  · have:cap.length + 1≤n := by simpa using hargs
    simp [hn]; omega
  · intro i v hl
    obtain ⟨_,h2⟩ := zg2 _ 0 i v hl
    have hlt:i < (Value.func (.yield l) #[] #[]::cap).length := by
      rcases Nat.lt_or_ge i (Value.func (.yield l) #[] #[]::cap).length with h' | h'
      · exact h'
      · rw [List.getElem?_eq_none (by omega)] at h2; cases h2
    rw [Array.getElem?_append_left (by simpa using hlt)]
    simpa using h2
section
variable {P:Program} {n:Env} {W:World} {Q:Exit→Act→World→Prop} {s:Slots} {H:List HP}
theorem CSpec.of_bodyM {f:FuncId} {fn:Func} {c:Code} {args:List Value} {pre:List HP} {X:Type} {res:X→Value} {pf:X→Prop} {post:X→List HP→List HP}
    (hf:P.funcs[f]? = some fn) (hb:fn.body=some c) {n:Nat} (hn:fn.ntmps=n) (hargs:Nat.ble args.length n=true)
    (h:∀ F,CJ P ⟨n,none,[]⟩ W (bodyPostM (fw none) 0 P fn (CPost W res pf post F)) c (args0 0 args) (pre ++ F)):CSpec P W f args pre res pf post := by
  intro F w hs
  refine callsIn_wide.1 (callsIn_of_wp_marks hf hb trivial (h F _ w ⟨?_,rfl,?_⟩ hs))
  · have:args.length≤n := by simpa using hargs
    simp [hn]; omega
  · intro i v hl
    obtain ⟨_,h2⟩ := zg2 args 0 i v hl
    have hlt:i < args.length := by
      rcases Nat.lt_or_ge i args.length with h' | h'
      · exact h'
      · simp [List.getElem?_eq_none h'] at h2
    simp only [Nat.sub_zero] at h2
    rw [Array.getElem?_append_left (by simpa using hlt)]
    simpa using h2
end
end Go.VG
namespace Go.VG
section
variable {P:Program} {n:Env} {W:World} {s:Slots} {H:List HP} {K:Slots→List HP→Prop} {d:Nat} {dst:Option Tmp} {ty:TypeId} {pos:String} {after:Array Edge} {g:Option (Nat × Bool)}
variable {α:Type} {t t':Ty α} {A:HP} {C:HP→List HP} {v:Value} {xs:List α} {Q:Exit→Act→World→Prop}
theorem Reads.recast (hr:Reads A t v xs) (h1:t.enc=t'.enc) (h2:t.sz=t'.sz) (h3:t.dflt=t'.dflt):Reads A t' v xs := by
  intro h hh
  rcases hr h hh with h' | ⟨a,cap,e1,e2,e3,e4,e5⟩
  · exact .inl h'
  · exact .inr ⟨a,cap,e1,e2,e3,e4,fun i k u hi hk hu=>by rw [← h2]; exact e5 i k u hi (by rw [h2]; exact hk) (by rw [h1,h3]; exact hu)⟩
theorem slLen {p:Option Addr} {m c:Nat} {R:List HP} (hd:Del H (sl t (.slice p m c) xs) R):∀ h,stars H h→xs.length=m := by
  intro h hh
  obtain ⟨h1,h2,_,_,hA,_⟩ := zbd hd.out h hh
  rcases hA.2 with ⟨h3,h4⟩ | ⟨_,_,_,h3,_⟩
  · injection h3 with _ h5 _; rw [h5]; exact h4
  · injection h3 with _ h5 _; exact h5.symm
theorem zc2 {x ix:Operand} {T E:TypeId} {k:IntKind} {b i len sz:Nat} {a:Int} (hx:ev s x=some (ptr b 0)) (hi:ev s ix=some (.int k a)) (ha:a=(i:Int)) (hlt:i < len)
    (hT:∀ w,(underlying T).run P w = .ok (.array len E) w) (hE:∀ w,(sizeOf E).run P w = .ok sz w):PJ P n ⟨dst,.indexAddr T x ix,ty,pos,after,g⟩ s (eptr (.slice (some ⟨b,0,none⟩) len len) i sz 0) :=
  (fun q w hf=>by
    subst ha
    simp [execOp,hf.eval hx,hf.eval hi,Instr.indexAt,asIntOf,hT,hE,hlt,Instr.sureAddr,zcy,eptr,blkOf,offOf])
theorem zvv (hsz:t.sz=1):∀ (xs:List α) (j:Nat) (u:Value),(flat t xs)[j]? = some u→j < xs.length∧(t.enc (xs.getD j t.dflt))[0]? = some u := fun xs j u h=>by
  have hl:(flat t xs).length=xs.length := by rw [zbr,hsz,Nat.mul_one]
  have hj:j < xs.length := by
    rcases Nat.lt_or_ge j xs.length with h' | h'
    · exact h'
    · rw [List.getElem?_eq_none (by omega)] at h; cases h
  refine ⟨hj,?_⟩
  have := zd1 t xs j 0 hj (by rw [hsz]; exact Nat.one_pos)
  rw [hsz,Nat.mul_one,Nat.add_zero,h] at this
  exact this.symm
theorem zlt {x:Operand} {T:TypeId} {b m:Nat} (hx:ev s x=some (ptr b 0)) (hsz:t.sz=1) (hf':Foc H (sl t (.slice (some ⟨b,0,none⟩) m m) xs) C) (hl:xs.length=m)
    (hT:∀ w,(isAgg T).run P w = .ok true w) (hm:∀ w,(sizeOf T).run P w = .ok m w):VJ P n W ⟨dst,.load T x,ty,pos,after,g⟩ s H (.agg (flat t xs).toArray) :=
  (fun q w hf hs=>by
    have hin := (Reads.sl t _ xs).at hf' hs
    have hlen:(flat t xs).length=m := by rw [zbr,hsz,Nat.mul_one,hl]
    have hl := run_loadCells_list (P:=P) w ⟨b,0,none⟩ (flat t xs) (fun j u hj=>by
      rw [zcy _ _ rfl]
      obtain ⟨h1,h2⟩ := zvv hsz xs j u hj
      have := hin.eptr h1 (k:=0) (u:=u) (by rw [hsz]; exact Nat.one_pos) h2
      simpa [hsz,blkOf,offOf] using this)
    rw [hlen] at hl
    simp [execOp,hf.eval hx,Instr.loadAt,Instr.sureAddr,loadVar,hT,hm,hl])
theorem zkq {x y:Operand} {T:TypeId} {b m:Nat} {ys:List α} (hx:ev s x=some (ptr b 0)) (hy:ev s y=some (.agg (flat t ys).toArray)) (hsz:t.sz=1) (hf':Foc H (sl t (.slice (some ⟨b,0,none⟩) m m) xs) C) (_hl:xs.length=m) (hly:ys.length=m)
    (hT:∀ w,(sizeOf T).run P w = .ok m w) (hk:K s (C (sl t (.slice (some ⟨b,0,none⟩) m m) ys))):OJ P n W ⟨none,.store T x y,ty,pos,after,g⟩ s H K :=
  OJ_do (fun q w hf hs=>by
    obtain ⟨F,hp,hC⟩ := hf'.focus
    have hs1 := hs.perm hp
    rcases zeo hs1 with ⟨h1,_,_⟩ | ⟨b',cap,cur,h1,hc,hm',hsz',ht,hs2⟩
    · cases h1
    injection h1 with h1 h1' h2; injection h1 with h1; injection h1 with h1; subst h1; subst h2
    have hlf:(flat t ys).length=m := by rw [zbr,hsz,Nat.mul_one,hly]
    have hst := run_storeCells_at P b 0 t.T (flat t ys) 0 cur w hs2.blk (by rw [hlf,hsz',hsz]; omega) (fun v hv=>zhk t ys v hv)
    simp only [Nat.add_zero] at hst
    refine ⟨w.setRow b (cur.toList.take 0 ++ flat t ys ++ cur.toList.drop (0 + (flat t ys).length)).toArray,C (sl t _ ys),.inl ?_,?_,hk⟩
    · simp [execOp,hf.eval hx,hf.eval hy,Instr.storeAt,Instr.sureAddr,storeVar,hT,Value.cells,hst,hlf]
    · have h3 := hs2.setRow (c' := (cur.toList.take 0 ++ flat t ys ++ cur.toList.drop (0 + (flat t ys).length)).toArray)
      have h4 := zep (t:=t) (xs:=ys) (b:=b) (cap:=m) (by omega) hm' (by simp [hlf,hsz',hsz]) (by simp [hly,hsz,hlf,List.take_append_of_le_length (show m≤(flat t ys).length by omega)]; rw [← hlf]; simp) h3
      rw [hly] at h4
      exact h4.perm (hC _).symm)
theorem zon {x:Operand} {T E:TypeId} {b m sz l:Nat} {lo:Option Operand} (hx:ev s x=some (ptr b 0)) (hlo:match lo with | none=>l=0 | some o => ∃ k,ev s o=some (.int k (l:Int))) (hl:Nat.blt l m=true)
    (hT:∀ w,(underlying T).run P w = .ok (.array m E) w) (hE:∀ w,(sizeOf E).run P w = .ok sz w) :
    PJ P n ⟨dst,.slice T x lo none none,ty,pos,after,g⟩ s (sliceV sz (.slice (some ⟨b,0,none⟩) m m) l m) :=
  (fun q w hf=>by
    have hl':l < m := by simpa using hl
    have h1:¬ m=l := by omega
    cases lo with
    | none =>
      subst hlo
      simp [execOp,hf.eval hx,Instr.sliceAt,hT,hE,Instr.sureAddr,Instr.sliceBounds,sliceV,zcy,h1]
    | some o =>
      obtain ⟨k,hk⟩ := hlo
      have h2:(l:Int)≤m := by omega
      simp [execOp,hf.eval hx,hf.eval hk,Instr.sliceAt,hT,hE,Instr.sureAddr,Instr.sliceBounds,Instr.sliceBound,sliceV,zcy,h1,asIntOf,h2,hl']
      exact fun h9=>absurd h9 (by omega))
def EqF (P:Program) (d:Nat) (xs ys:Array Value):List Field→List Bool→Prop
  | [],[]=>True
  | f :: fs, r :: rs => f.name ≠ "_" ∧ (∃ a b, (∀ w, (part f.type xs f.offset).run P w = .ok a w) ∧ (∀ w, (part f.type ys f.offset).run P w = .ok b w) ∧ ∀ w, (Op.equalIn d f.type a b).run P w = .ok r w) ∧ EqF P d xs ys fs rs
  | _,_=>False
theorem EqF.run {d:Nat} {xs ys:Array Value} : ∀ {fs:List Field} {rs:List Bool} (w:World),EqF P d xs ys fs rs→(Op.eqFields d xs ys fs).run P w = .ok (rs.all id) w
  | [],[],w,_=>by simp [Op.eqFields]
  | f::fs,r::rs,w,h=>by
    obtain ⟨hn,⟨a,b,ha,hb,hr⟩,hrest⟩ := h
    have := EqF.run w hrest
    simp only [Op.eqFields,if_pos hn,Sem.run_bind,ha,hb,hr,Result.andThen_ok]
    cases r <;> simp [this]
def EqI (P:Program) (d:Nat) (e:TypeId) (sz:Nat) (xs ys:Array Value):List Nat→List Bool→Prop
  | [],[]=>True
  | i::is,r::rs=>(∃ a b,(∀ w,(part e xs (i * sz)).run P w = .ok a w)∧(∀ w,(part e ys (i * sz)).run P w = .ok b w) ∧ ∀ w,(Op.equalIn d e a b).run P w = .ok r w)∧EqI P d e sz xs ys is rs
  | _,_=>False
theorem EqI.run {d:Nat} {e:TypeId} {sz:Nat} {xs ys:Array Value} : ∀ {is:List Nat} {rs:List Bool} (w:World),EqI P d e sz xs ys is rs→(Op.eqItems d e sz xs ys is).run P w = .ok (rs.all id) w
  | [],[],w,_=>by simp [Op.eqItems]
  | f::fs,r::rs,w,h=>by
    obtain ⟨⟨a,b,ha,hb,hr⟩,hrest⟩ := h
    have := EqI.run w hrest
    simp only [Op.eqItems,Sem.run_bind,ha,hb,hr,Result.andThen_ok]
    cases r <;> simp [this]
theorem zxu (a b:ByteArray):(a.toList == b.toList)=decide (a=b) := by
  rw [← beq_toListBytes,Bool.eq_iff_iff]
  obtain ⟨⟨x⟩⟩ := a
  obtain ⟨⟨y⟩⟩ := b
  show ((⟨x⟩:Array UInt8) == ⟨y⟩)=true↔_
  simp
theorem zvw {q:Tmp} {T:TypeId} {b m:Nat} (hx:look s q=some (ptr b 0)) (hsz:t.sz=1) (hf':Foc H (sl t (.slice (some ⟨b,0,none⟩) m m) xs) C) (hl:xs.length=m)
    (hT:∀ w,(isAgg T).run P w = .ok true w) (hm:∀ w,(sizeOf T).run P w = .ok m w):RV P n W s H (.cell q T) (.agg (flat t xs).toArray) := fun a w hf hs=>by
  have h0:ev s (.tmp q)=some (ptr b 0) := hx
  have h1 := zlt (P := P) (n := n) (W := W) (dst := none) (ty := 0) (pos := "") (after := #[]) (g := none) (T := T) h0 hsz hf' hl hT hm a w hf hs
  have := hf.slot q _ hx
  simp only [execOp,hf.eval h0] at h1
  simp only [rvSem,Array.getD_eq_getD_getElem?,this,Option.getD_some]
  simp [Instr.loadAt,Instr.sureAddr] at h1
  simp [asAddr]
  revert h1
  generalize (loadVar T ⟨b,0,none⟩).run P w=r
  cases r <;> simp [Result.andThen]
theorem zlu {a b i:Nat} (h:a=b) (hi:i < b):i < a := h ▸ hi
end
end Go.VG
namespace Go.VG
section
variable {P:Program} {n:Env} {W:World} {s:Slots} {H:List HP} {K:Slots→List HP→Prop} {d:Nat} {dst:Option Tmp} {ty:TypeId} {pos:String} {after:Array Edge} {g:Option (Nat × Bool)}
variable {α:Type} {t t':Ty α} {A:HP} {C:HP→List HP} {v:Value} {xs:List α} {Q:Exit→Act→World→Prop} {bytes:Nat}
theorem zrb {zc:Value} (m:Nat):Builtin.zeroCells #[zc] m=(List.replicate m zc).toArray := by
  apply Array.ext'
  simp [Builtin.zeroCells,Nat.mod_one]
  apply List.ext_getElem?
  intro i
  by_cases hi:i < m <;> simp [hi]
end
end Go.VG
namespace Go.VG
def strAt (b:ByteArray) (i:Nat):UInt8 := b.data.getD i 0
def strOf (l:List UInt8):ByteArray := ⟨l.toArray⟩
def zd2 (b:ByteArray) (l h:Nat):ByteArray := b.extract l h
theorem zvx {a b:ByteArray} : (a.toList == b.toList)=decide (a=b) := zxu a b
section
variable {P:Program} {n:Env} {W:World} {s:Slots} {H:List HP} {d:Nat} {dst:Option Tmp} {ty:TypeId} {pos:String} {after:Array Edge} {g:Option (Nat × Bool)}
variable {t:Ty UInt8} {A:HP} {C:HP→List HP} {v:Value} {xs:List UInt8}
theorem zcn {x:Operand} {T:TypeId} {b:ByteArray} (hx:ev s x=some (.string b)) (hT:∀ w,(underlying T).run P w = .ok .string w):PJ P n ⟨dst,.call { callee := .builtin .len,args := #[x],argTypes := #[T] },ty,pos,after,g⟩ s (.int .i64 ((b.size:Nat):Int)) :=
  (fun q w hf=>by simp [execOp,resolve,invoke,builtin,Builtin.len_,hf.eval hx,hT,goInt])
theorem zcz {x ix:Operand} {T:TypeId} {k:IntKind} {i:Nat} {a:Int} {b:ByteArray} (hx:ev s x=some (.string b)) (hi:ev s ix=some (.int k a)) (ha:a=(i:Int)) (hlt:i < b.size)
    (hT:∀ w,(underlying T).run P w = .ok .string w):PJ P n ⟨dst,.index T x ix,ty,pos,after,g⟩ s (.int .u8 ((strAt b i).toNat:Int)) :=
  (fun q w hf=>by
    subst ha
    have h1:b[i]? = some (strAt b i) := by
      have hd:i < b.data.size := hlt
      rw [getElem?_pos b i hlt]
      have h2:b.data.getD i 0=b.data[i] := by rw [Array.getD_eq_getD_getElem?,getElem?_pos b.data i hd]; rfl
      exact congrArg some h2.symm
    simp [execOp,hf.eval hx,hf.eval hi,Instr.index,asIntOf,hT,h1])
theorem zeg {x:Operand} {lo hi:Option Operand} {T:TypeId} {l h:Nat} {b:ByteArray} (hx:ev s x=some (.string b))
    (hl:match lo with | none=>l=0 | some o => ∃ k,ev s o=some (.int k (l:Int))) (hh:match hi with | none=>h=b.size | some o => ∃ k,ev s o=some (.int k (h:Int))) (hlh:l≤h) (hhx:h≤b.size)
    (hT:∀ w,(underlying T).run P w = .ok .string w):PJ P n ⟨dst,.slice T x lo hi none,ty,pos,after,g⟩ s (.string (zd2 b l h)) :=
  (fun q w hf=>by
    have e1:(l:Int)≤h := by omega
    have e2:(h:Int)≤b.size := by omega
    cases lo with
    | none =>
      subst hl
      cases hi with
      | none=>subst hh; simp [execOp,hf.eval hx,Instr.sliceAt,Instr.slice,hT,Instr.sliceBounds,zd2]
      | some o =>
        obtain ⟨k,hk⟩ := hh
        simp [execOp,hf.eval hx,hf.eval hk,Instr.sliceAt,Instr.slice,hT,Instr.sliceBounds,Instr.sliceBound,asIntOf,zd2,hhx]
    | some o =>
      obtain ⟨k,hk⟩ := hl
      cases hi with
      | none =>
        subst hh
        simp [execOp,hf.eval hx,hf.eval hk,Instr.sliceAt,Instr.slice,hT,Instr.sliceBounds,Instr.sliceBound,asIntOf,zd2,hlh]
      | some o' =>
        obtain ⟨k',hk'⟩ := hh
        simp [execOp,hf.eval hx,hf.eval hk,hf.eval hk',Instr.sliceAt,Instr.slice,hT,Instr.sliceBounds,Instr.sliceBound,asIntOf,zd2,hlh,hhx])
theorem zis {x y:Operand} {T T':TypeId} {a b:ByteArray} (hx:ev s x=some (.string a)) (hy:ev s y=some (.string b)) (_hu:P.underlying T=some .string):PJ P n ⟨dst,.binOp .eql T x y T',ty,pos,after,g⟩ s (.bool (decide (a=b))) :=
  (fun q w hf=>by
    rw [← zvx]
    simp [execOp,hf.eval hx,hf.eval hy,eqGuard,binOp,Op.stringOp])
theorem zgk {x y:Operand} {T T':TypeId} {a b:ByteArray} (hx:ev s x=some (.string a)) (hy:ev s y=some (.string b)) (_hu:P.underlying T=some .string):PJ P n ⟨dst,.binOp .neq T x y T',ty,pos,after,g⟩ s (.bool (decide (a≠b))) :=
  (fun q w hf=>by
    have e:decide (a≠b) = !decide (a=b) := by simp
    rw [e, ← zvx]
    simp [execOp,hf.eval hx,hf.eval hy,eqGuard,binOp,Op.stringOp])
theorem zr3 {x:Operand} {T T' E:TypeId} (hx:ev s x=some v) (hsz:t.sz=1) (henc:∀ b,t.enc b=[.int .u8 (b.toNat:Int)]) (hf':Foc H A C) (hr:Reads A t v xs) (hT:P.underlying T=some (.slice E)) (hE:P.underlying E=some (.int .u8)) (hT':P.underlying T' = some .string) :
    VJ P n W ⟨dst,.convert T T' x,ty,pos,after,g⟩ s H (.string (strOf xs)) :=
  (fun q w hf hs=>by
    have hin := hr.at hf' hs
    rcases hin with ⟨rfl,rfl⟩ | ⟨a,cap,rfl,hc,hm,hsp,hcell⟩
    · have := run_convert_bytes_nil (P:=P) w T E hT hE 0 0 T' hT'
      simp only [execOp,hf.eval hx,Sem.run_bind,this,Result.andThen_ok]
      rfl
    · obtain ⟨b,o,sp⟩ := a
      rcases Nat.eq_zero_or_pos xs.length with h0 | hpos
      · have hx0:xs=[] := List.eq_nil_of_length_eq_zero h0
        subst hx0
        have hl:(loadCells ⟨b,o,sp⟩ 0).run P w = .ok (([]:List Int).map (Value.int .u8)).toArray w := by simp [loadCells,loadCellsFrom]
        have h2 := run_convert_bytes_string (P:=P) w T T' E (some ⟨b,o,sp⟩) 0 cap hT hE hT'
        have h3 := run_bytesToString (P:=P) w ⟨b,o,sp⟩ 0 cap [] hl
        rw [h3] at h2
        simp only [List.length_nil] at *
        simp only [execOp,hf.eval hx,Sem.run_bind,h2,Result.andThen_ok,List.foldl_nil]
        rfl
      · have hsp' := hsp hpos
        simp only at hsp'; subst hsp'
        have hc':∀ i,i < xs.length→w.cell? ⟨b,o + i,none⟩=some (.int .u8 ((xs.map fun z=>(z.toNat:Int)).getD i 0)) := fun i hi=>by
          have h4 := hcell i 0 (.int .u8 ((xs.getD i t.dflt).toNat:Int)) hi (by rw [hsz]; exact Nat.one_pos) (by rw [henc]; rfl)
          rw [hsz,Nat.mul_one,Nat.add_zero] at h4
          have h5 := zf1 h4
          rw [h5]
          simp [List.getD_eq_getElem?_getD,hi]
        have h2 := run_convert_bytes_arg (P:=P) w T E hT hE b o xs.length cap (xs.map fun z=>(z.toNat:Int)) (by simp) hc' T' hT'
        have e:strOfNums (xs.map fun z=>(z.toNat:Int))=strOf xs := by
          simp only [strOfNums,strOf,List.map_map]
          congr 2
          conv=>rhs; rw [← List.map_id xs]
          refine List.map_congr_left fun z _ => ?_
          simp
        rw [e] at h2
        simp only [execOp,hf.eval hx,Sem.run_bind,h2,Result.andThen_ok]
        rfl)
end
end Go.VG
namespace Go.VG
end Go.VG
namespace Go.VG
open Go.RowKit
def oldR (W:World):HP := fun h=>h=hpg (fun _=>true) W
theorem zr4 {W:World} : Dup (oldR W) := by
  rintro h rfl k
  unfold hpg
  cases h:W.heap[k]? with
  | none=>exact .inl rfl
  | some o=>exact .inr ⟨o,rfl⟩
theorem St.startR (W:World):St W W [oldR W] := ⟨rfl,rfl,rfl,fun _=>true,hpg (fun _=>true) W,fun _=>none,fun _ => .inr (.inl rfl),by funext k; simp [PH.uni],rfl,trivial⟩
theorem St.belowR {W w':World} (h:St W w' [oldR W]):Below W.heap.size W w' := by
  obtain ⟨gg,h1,h2,_,he,rfl,_⟩ := h.heap
  have hb:∀ k,k < W.heap.size→w'.heap[k]? = W.heap[k]? := by
    intro k hk
    have h3:hpg gg w' k=(hpg (fun _=>true) W k).or (h2 k) := by rw [he]; rfl
    have h4:hpg (fun _=>true) W k=some (W.heap[k],true) := by simp [hpg,Array.getElem?_eq_getElem hk]
    rw [h4,Option.some_or] at h3
    rw [zhi h3,Array.getElem?_eq_getElem hk]
  refine ⟨h.os,h.tape,h.output,?_,hb⟩
  rcases Nat.lt_or_ge w'.heap.size W.heap.size with hlt | hge
  · have := hb _ hlt
    rw [Array.getElem?_eq_none (Nat.le_refl _),Array.getElem?_eq_getElem hlt] at this
    cases this
  · exact hge
theorem Reads.oldR {α:Type} {t:Ty α} {w:World} {v:Value} {xs:List α} (h:Reads (Go.VG.old w) t v xs):Reads (Go.VG.oldR w) t v xs := by
  rintro hh rfl
  have := h (hp w) rfl
  unfold SliceIn at this ⊢
  simpa only [zkf] using this
theorem zoo {w:World} {h:PH} : ∀ {n:Nat} {R:List HP},stars (oldR w::R) h→stars (List.replicate n (oldR w) ++ (oldR w::R)) h
  | 0,_,hh=>hh
  | n + 1,R,hh=>by
    have h1 := zoo (n:=n) (R:=oldR w::R) (zlk zr4 hh)
    have e:List.replicate n (oldR w) ++ oldR w::oldR w::R=List.replicate (n + 1) (oldR w) ++ (oldR w::R) := by
      rw [List.replicate_succ',List.append_assoc]; rfl
    rw [← e]; exact h1
theorem CSpec.lawN {P:Program} {f:FuncId} {args:List Value} {w:World} {pf:Unit→Prop} (n:Nat) (h:CSpec P w f args (List.replicate n (oldR w)) (fun _:Unit => .bool true) pf (fun _ F=>List.replicate n (oldR w) ++ F)) :
    Calls P f args.toArray w fun e w' => e = .returned (.bool true)∧Below w.heap.size w w' := by
  have h0:St w w (List.replicate n (oldR w) ++ [oldR w]) := (St.startR w).imp fun g hg=>zoo (n:=n) hg
  refine (h [oldR w] w h0).mono fun _ _ ⟨_,he,_,hs⟩=>⟨he,St.belowR (hs.imp ?_)⟩
  intro g hg
  have:∀ (m:Nat) (g:PH),stars (List.replicate m (oldR w) ++ [oldR w]) g→stars [oldR w] g := fun m=>by
    induction m with
    | zero=>exact fun _ h=>h
    | succ m ih=>exact fun g h=>ih g (zby h)
  exact this n g hg
end Go.VG
namespace Go.VG
section
variable {P:Program} {n:Env} {W:World} {s:Slots} {H:List HP} {d:Nat} {ty:TypeId} {pos:String} {after:Array Edge} {Q:Exit→Act→World→Prop} {ops:Array Oper} {rest:List Oper} {op:Op} {v:Value} {y:Operand}
theorem oP (h:PJ P n ⟨some d,op,ty,pos,after,none⟩ s v) (hk:RJ P n W ops Q rest ((d,v)::s) H) (hd:Nat.blt d n.n=true := by exact rfl):RJ P n W ops Q (⟨some d,op,ty,pos,after,none⟩::rest) s H := RJ_op rfl (OJ_P h hd hk)
theorem oV (h:VJ P n W ⟨some d,op,ty,pos,after,none⟩ s H v) (hk:RJ P n W ops Q rest ((d,v)::s) H) (hd:Nat.blt d n.n=true := by exact rfl):RJ P n W ops Q (⟨some d,op,ty,pos,after,none⟩::rest) s H := RJ_op rfl (OJ_V h hd hk)
theorem oM (hx:ev s y=some v) (hk:RJ P n W ops Q rest ((d,v)::s) H) (hd:Nat.blt d n.n=true := by exact rfl):RJ P n W ops Q (⟨some d,.move y,ty,pos,after,none⟩::rest) s H := RJ_op rfl (OJ_P (zae hx) hd hk)
theorem oA (hx:ev s y=some v) (hk:RJ P n W ops Q rest ((d,v)::s) H) (hd:Nat.blt d n.n=true := by exact rfl):RJ P n W ops Q (⟨some d,.assign y,ty,pos,after,none⟩::rest) s H := RJ_op rfl (OJ_P (za9 hx) hd hk)
theorem oO {o:Oper} (h:OJ P n W o s H fun s' H' => RJ P n W ops Q rest s' H') (hg:o.guard=none := by exact rfl):RJ P n W ops Q (o::rest) s H := RJ_op hg h
theorem gP {g:Option (Nat × Bool)} (hg:GY ops s ⟨some d,op,ty,pos,after,g⟩ true) (h:PJ P n ⟨some d,op,ty,pos,after,g⟩ s v) (hk:RJ P n W ops Q rest ((d,v)::s) H) (hd:Nat.blt d n.n=true := by exact rfl):RJ P n W ops Q (⟨some d,op,ty,pos,after,g⟩::rest) s H := RJ_gy hg (OJ_P h hd hk)
theorem gV {g:Option (Nat × Bool)} (hg:GY ops s ⟨some d,op,ty,pos,after,g⟩ true) (h:VJ P n W ⟨some d,op,ty,pos,after,g⟩ s H v) (hk:RJ P n W ops Q rest ((d,v)::s) H) (hd:Nat.blt d n.n=true := by exact rfl):RJ P n W ops Q (⟨some d,op,ty,pos,after,g⟩::rest) s H := RJ_gy hg (OJ_V h hd hk)
theorem g_ {o:Oper} {j dd e:Nat} {want t:Bool} (hg:o.guard=some (j,want)) (h2:(ops[j]?).bind (·.dst)=some dd) (hl:look s dd=some (.bool t)) (ht:t = !want) (hdst:o.dst=some e) (h:RJ P n W ops Q rest ((e,undef)::s) H) (he:Nat.blt e n.n=true := by exact rfl):RJ P n W ops Q (o::rest) s H := RJ_gn (GY_no hg h2 hl ht) hdst he h
theorem p_ {g:Option (Nat × Bool)} {j dd:Nat} {want t:Bool} (hg:g=some (j,want)) (h2:(ops[j]?).bind (·.dst)=some dd) (hl:look s dd=some (.bool t)) (ht:t=want) (h:PJ P n ⟨some d,op,ty,pos,after,g⟩ s v) (hk:RJ P n W ops Q rest ((d,v)::s) H) (hd:Nat.blt d n.n=true := by exact rfl):RJ P n W ops Q (⟨some d,op,ty,pos,after,g⟩::rest) s H := RJ_gy (zaz hg h2 hl ht) (OJ_P h hd hk)
theorem v_ {g:Option (Nat × Bool)} {j dd:Nat} {want t:Bool} (hg:g=some (j,want)) (h2:(ops[j]?).bind (·.dst)=some dd) (hl:look s dd=some (.bool t)) (ht:t=want) (h:VJ P n W ⟨some d,op,ty,pos,after,g⟩ s H v) (hk:RJ P n W ops Q rest ((d,v)::s) H) (hd:Nat.blt d n.n=true := by exact rfl):RJ P n W ops Q (⟨some d,op,ty,pos,after,g⟩::rest) s H := RJ_gy (zaz hg h2 hl ht) (OJ_V h hd hk)
theorem dT_ {t:Bool} (h:t=true := by first | exact decide_eq_true (by decide) | decide):t=true := h
theorem dF_ {t:Bool} (h:t=false := by first | exact decide_eq_false (by decide) | decide):t=false := h
theorem wT_ {t:Bool} (h:t=true := by first | exact decide_eq_true (by omega) | omega):t=true := h
theorem wF_ {t:Bool} (h:t=false := by first | exact decide_eq_false (by omega) | omega):t=false := h
theorem kP_ {ks:List Nat} {s0 s:Slots} (h:Kp ks s0 s := by repeat (first | exact Kp.base | exact Kp.self | refine Kp.cons rfl ?_ | refine Kp.forget rfl ?_)):Kp ks s0 s := h
theorem kR_ {α:Type} {a b:α} (h:a=b := by kernel_rfl):a=b := h
theorem dC_ {H R:List HP} {A:HP} (h:Del H A R):Dels H [A] R := Dels.cons h Dels.nil
theorem nT {z:Code} (h:CJ P n W Q z s H):RJ P n W ops (Exit.then (z.wpIn (fw n.r) 0 P Q) Q) [] s H := za0 (zar h)
theorem sR {id:Nat} {l:List Oper} {z:Code} (h:RJ P n W l.toArray (Exit.then (z.wpIn (fw n.r) 0 P Q) Q) l s H):CJ P n W Q (.seq (.region id l.toArray false) z) s H := zab (zag h)
theorem kT {z:Code} (h:CJ P n W Q z s H):CJ P n W (Exit.then (z.wpIn (fw n.r) 0 P Q) Q) .skip s H := zbh (zar h)
end
section
variable {P:Program} {n:Env} {W:World} {l:List Oper} {Q:Exit→Act→World→Prop} {Hr:List HP} {tl:Nat} {s:Slots} {H:List HP} {fuel m m':Nat} {d:Nat} {op:Op} {ty:TypeId} {pos:String} {after:Array Edge} {g:Option (Nat × Bool)} {v:Value}
theorem aP (i m':Nat) (hi:l[i]? = some ⟨some d,op,ty,pos,after,g⟩) (hm':m ||| 2 ^ i=m') (hg:GY l.toArray s ⟨some d,op,ty,pos,after,g⟩ true) (hp:PJ P n ⟨some d,op,ty,pos,after,g⟩ s v) (h:AJ P n W l Q Hr tl fuel m' ((d,v)::s) H) (hd:Nat.blt d n.n=true := by exact rfl) (hok:zfp l.toArray m i=true := by kernel_rfl) (hQ:∀ c a v w,noP Q (.panic c) (a.put (some d) v) w→noP Q (.panic c) a w := by exact fun _ _ _ _ h=>h):AJ P n W l Q Hr tl (fuel + 1) m s H := zhl i m' hi hok hm' hg hp hd hQ h
theorem aN (i m':Nat) (hi:l[i]? = some ⟨some d,op,ty,pos,after,none⟩) (hm':m ||| 2 ^ i=m') (hp:PJ P n ⟨some d,op,ty,pos,after,none⟩ s v) (h:AJ P n W l Q Hr tl fuel m' ((d,v)::s) H) (hd:Nat.blt d n.n=true := by exact rfl) (hok:zfp l.toArray m i=true := by kernel_rfl) (hQ:∀ c a v w,noP Q (.panic c) (a.put (some d) v) w→noP Q (.panic c) a w := by exact fun _ _ _ _ h=>h):AJ P n W l Q Hr tl (fuel + 1) m s H := zhl i m' hi hok hm' (zal rfl) hp hd hQ h
theorem aV (i m':Nat) (hi:l[i]? = some ⟨some d,op,ty,pos,after,g⟩) (hm':m ||| 2 ^ i=m') (hg:GY l.toArray s ⟨some d,op,ty,pos,after,g⟩ true) (he:Ent H Hr) (hp:VJ P n W ⟨some d,op,ty,pos,after,g⟩ s Hr v) (h:AJ P n W l Q Hr tl fuel m' ((d,v)::s) H) (hd:Nat.blt d n.n=true := by exact rfl) (hok:zfp l.toArray m i=true := by kernel_rfl) (hcl:zmn l.toArray m=true := by kernel_rfl) (hlast:zlp l.toArray tl i=true := by kernel_rfl) (hQ:∀ c a v w,noP Q (.panic c) (a.put (some d) v) w→noP Q (.panic c) a w := by exact fun _ _ _ _ h=>h):AJ P n W l Q Hr tl (fuel + 1) m s H := zbj i m' hi hok hm' hcl hlast hg he hp hd hQ h
theorem aW (i m':Nat) (hi:l[i]? = some ⟨some d,op,ty,pos,after,none⟩) (hm':m ||| 2 ^ i=m') (he:Ent H Hr) (hp:VJ P n W ⟨some d,op,ty,pos,after,none⟩ s Hr v) (h:AJ P n W l Q Hr tl fuel m' ((d,v)::s) H) (hd:Nat.blt d n.n=true := by exact rfl) (hok:zfp l.toArray m i=true := by kernel_rfl) (hcl:zmn l.toArray m=true := by kernel_rfl) (hlast:zlp l.toArray tl i=true := by kernel_rfl) (hQ:∀ c a v w,noP Q (.panic c) (a.put (some d) v) w→noP Q (.panic c) a w := by exact fun _ _ _ _ h=>h):AJ P n W l Q Hr tl (fuel + 1) m s H := zbj i m' hi hok hm' hcl hlast (zal rfl) he hp hd hQ h
theorem aS (i m':Nat) (hi:l[i]? = some ⟨some d,op,ty,pos,after,g⟩) (hm':m ||| 2 ^ i=m') (hg:GY l.toArray s ⟨some d,op,ty,pos,after,g⟩ false) (h:AJ P n W l Q Hr tl fuel m' ((d,undef)::s) H) (hd:Nat.blt d n.n=true := by exact rfl) (hok:zfp l.toArray m i=true := by kernel_rfl) (hQ:∀ c a v w,noP Q (.panic c) (a.put (some d) v) w→noP Q (.panic c) a w := by exact fun _ _ _ _ h=>h):AJ P n W l Q Hr tl (fuel + 1) m s H := zz4 i m' hi hok hm' hg hd hQ h
theorem aD {z:Code} (h:CJ P n W Q z s H) (hr:zgi l.toArray m []=true := by kernel_rfl):AJ P n W l (Exit.then (z.wpIn (fw n.r) 0 P Q) Q) Hr tl fuel m s H := zcf hr (zar h)
end
section
variable {P:Program} {n:Env} {W:World} {Q:Exit→Act→World→Prop} {s:Slots} {H:List HP}
theorem nR {X:Type} {ks:List Nat} {ins:X→Slots} {hin:X→List HP→List HP} {pf:X→Prop} {μ:X→Nat} {x:X} {R:List HP} {s0:Slots} (x':X) (hp:pf x') (hs':known s (ins x')) (hH':Ent H (hin x' R)) (hμ:μ x' < μ x := by exact Nat.lt_succ_self _) (hk:Kp ks s0 s := by repeat (first | exact Kp.base | exact Kp.self | refine Kp.cons rfl ?_ | refine Kp.forget rfl ?_)):QJ n W (ziq n W ks ins hin pf μ s0 R x Q) .normal s H := zba x' hμ hp hk hs' hH'
theorem cR {X:Type} {ks:List Nat} {ins:X→Slots} {hin:X→List HP→List HP} {pf:X→Prop} {R:List HP} {s0:Slots} (x:X) (hp:pf x) (hs':known s (ins x)) (hH':Ent H (hin x R)) (hk:Kp ks s0 s := by repeat (first | exact Kp.base | exact Kp.self | refine Kp.cons rfl ?_ | refine Kp.forget rfl ?_)):QJ n W (Exit.then (zri n W ks ins hin pf s0 R) Q) .normal s H := zz3 x hp hk hs' hH'
theorem fE {m:Nat} {q:Option Nat} {fn:Func} {v:Value} {X:Type} {res:X→Value} {pf:X→Prop} {post:X→List HP→List HP} {F:List HP} (hr:∀ a w,Fits ⟨m,q,[]⟩ s a→St W w H→(results fn a.tmps).run P w = .ok v w) (x:X) (hH:Ent H (post x F)) (hv:v=res x := by exact rfl) (hp:pf x := by exact trivial):QJ ⟨m,q,[]⟩ W (bodyPost P fn (CPost W res pf post F)) .ret s H := zan hr (CSpec.close x hv hp hH)
theorem fN {m:Nat} {q:Option Nat} {fn:Func} {v:Value} {X:Type} {res:X→Value} {pf:X→Prop} {post:X→List HP→List HP} {F:List HP} (hr:∀ a w,Fits ⟨m,q,[]⟩ s a→St W w H→(results fn a.tmps).run P w = .ok v w) (x:X) (hH:Ent H (post x F)) (hv:v=res x := by exact rfl) (hp:pf x := by exact trivial):QJ ⟨m,q,[]⟩ W (bodyPost P fn (CPost W res pf post F)) .normal s H := zce hr (CSpec.close x hv hp hH)
theorem lC {α:Type} {t:Ty α} {u:Value} {xs:List α} {c:Code} {R:List HP} (hd:Del H (sl t u xs) R) (h:xs.length≤9223372036854775807→CJ P n W Q c s H):CJ P n W Q c s H := zdy (zh4 (Reads.sl _ _ _) hd) h
end
section
variable {X0 X1 X2 X3 X4 X5 X6 X7 X8 X9 X10 X11 X12 X13 X14 X15 X16 X17 X18 X19 X20 X21 X22 X23 X24 X25 X26 X27 X28 A:HP} {R r:List HP}
theorem t0_ (h:Ent (R) r):Ent (A::R) (A::r) := Ent.take del0 h
theorem t1_ (h:Ent (X0::R) r):Ent (X0::A::R) (A::r) := Ent.take del1 h
theorem t2_ (h:Ent (X0::X1::R) r):Ent (X0::X1::A::R) (A::r) := Ent.take del2 h
theorem t3_ (h:Ent (X0::X1::X2::R) r):Ent (X0::X1::X2::A::R) (A::r) := Ent.take del3 h
theorem t4_ (h:Ent (X0::X1::X2::X3::R) r):Ent (X0::X1::X2::X3::A::R) (A::r) := Ent.take del4 h
theorem t5_ (h:Ent (X0::X1::X2::X3::X4::R) r):Ent (X0::X1::X2::X3::X4::A::R) (A::r) := Ent.take del5 h
theorem t6_ (h:Ent (X0::X1::X2::X3::X4::X5::R) r):Ent (X0::X1::X2::X3::X4::X5::A::R) (A::r) := Ent.take del6 h
theorem t7_ (h:Ent (X0::X1::X2::X3::X4::X5::X6::R) r):Ent (X0::X1::X2::X3::X4::X5::X6::A::R) (A::r) := Ent.take del7 h
theorem t8_ (h:Ent (X0::X1::X2::X3::X4::X5::X6::X7::R) r):Ent (X0::X1::X2::X3::X4::X5::X6::X7::A::R) (A::r) := Ent.take del8 h
theorem t9_ (h:Ent (X0::X1::X2::X3::X4::X5::X6::X7::X8::R) r):Ent (X0::X1::X2::X3::X4::X5::X6::X7::X8::A::R) (A::r) := Ent.take del9 h
theorem t10_ (h:Ent (X0::X1::X2::X3::X4::X5::X6::X7::X8::X9::R) r):Ent (X0::X1::X2::X3::X4::X5::X6::X7::X8::X9::A::R) (A::r) := Ent.take del10 h
theorem t11_ (h:Ent (X0::X1::X2::X3::X4::X5::X6::X7::X8::X9::X10::R) r):Ent (X0::X1::X2::X3::X4::X5::X6::X7::X8::X9::X10::A::R) (A::r) := Ent.take del11 h
theorem t12_ (h:Ent (X0::X1::X2::X3::X4::X5::X6::X7::X8::X9::X10::X11::R) r):Ent (X0::X1::X2::X3::X4::X5::X6::X7::X8::X9::X10::X11::A::R) (A::r) := Ent.take del12 h
theorem t13_ (h:Ent (X0::X1::X2::X3::X4::X5::X6::X7::X8::X9::X10::X11::X12::R) r):Ent (X0::X1::X2::X3::X4::X5::X6::X7::X8::X9::X10::X11::X12::A::R) (A::r) := Ent.take del13 h
theorem t14_ (h:Ent (X0::X1::X2::X3::X4::X5::X6::X7::X8::X9::X10::X11::X12::X13::R) r):Ent (X0::X1::X2::X3::X4::X5::X6::X7::X8::X9::X10::X11::X12::X13::A::R) (A::r) := Ent.take del14 h
theorem t15_ (h:Ent (X0::X1::X2::X3::X4::X5::X6::X7::X8::X9::X10::X11::X12::X13::X14::R) r):Ent (X0::X1::X2::X3::X4::X5::X6::X7::X8::X9::X10::X11::X12::X13::X14::A::R) (A::r) := Ent.take del15 h
theorem t16_ (h:Ent (X0::X1::X2::X3::X4::X5::X6::X7::X8::X9::X10::X11::X12::X13::X14::X15::R) r):Ent (X0::X1::X2::X3::X4::X5::X6::X7::X8::X9::X10::X11::X12::X13::X14::X15::A::R) (A::r) := Ent.take del16 h
theorem t17_ (h:Ent (X0::X1::X2::X3::X4::X5::X6::X7::X8::X9::X10::X11::X12::X13::X14::X15::X16::R) r):Ent (X0::X1::X2::X3::X4::X5::X6::X7::X8::X9::X10::X11::X12::X13::X14::X15::X16::A::R) (A::r) := Ent.take del17 h
theorem t18_ (h:Ent (X0::X1::X2::X3::X4::X5::X6::X7::X8::X9::X10::X11::X12::X13::X14::X15::X16::X17::R) r):Ent (X0::X1::X2::X3::X4::X5::X6::X7::X8::X9::X10::X11::X12::X13::X14::X15::X16::X17::A::R) (A::r) := Ent.take del18 h
theorem t19_ (h:Ent (X0::X1::X2::X3::X4::X5::X6::X7::X8::X9::X10::X11::X12::X13::X14::X15::X16::X17::X18::R) r):Ent (X0::X1::X2::X3::X4::X5::X6::X7::X8::X9::X10::X11::X12::X13::X14::X15::X16::X17::X18::A::R) (A::r) := Ent.take del19 h
theorem e_ (h:Ent R r):Ent (A::R) r := Ent.drop h
theorem r_:Ent R R := Ent.refl
end
end Go.VG

set_option linter.unusedSimpArgs false
set_option maxRecDepth 20000
namespace Go.Proofs
open Go.VG
structure Sl3 where
  p:Option Addr
  n:Nat
  c:Nat
abbrev Sl3.v (x:Sl3):Value := .slice x.p x.n x.c
structure DrvH where
  now:Sl3
  dur:Sl3
  miss:Bool
structure Drive where
  now:List UInt64
  dur:List UInt64
  miss:Bool
structure Rec where
  d:Nat
  a:Nat
  v:UInt64
abbrev dH0:DrvH := ⟨⟨none,0,0⟩,⟨none,0,0⟩,false⟩
abbrev d0:Drive := ⟨[],[],false⟩
abbrev r0:Rec := ⟨0,0,0⟩
abbrev tyDrv:Ty DrvH := { T := 75,sz := 3,enc := fun x=>[x.now.v,x.dur.v,.bool x.miss],dflt := dH0,len := fun _=>rfl,one := fun _=>rfl,pos := by decide }
abbrev tyRec:Ty Rec := { T := 164,sz := 3,enc := fun x=>[.int .i64 (x.d:Int),.int .i64 (x.a:Int),.int .u64 (x.v.toNat:Int)],dflt := r0,len := fun _=>rfl,one := fun _=>rfl,pos := by decide }
theorem zkr:ElemOk Tryz.prog tyDrv 56 := ⟨Tryz.t75,.agg #[.slice none 0 0,.slice none 0 0,.bool false],by kernel_rfl,rfl,rfl,rfl,rfl⟩
theorem znw:ElemOk Tryz.prog tyRec 24 := ⟨Tryz.t164,.agg #[.int .i64 0,.int .i64 0,.int .u64 0],by kernel_rfl,rfl,rfl,rfl,rfl⟩
abbrev mBad:MTy (Int × Int) Unit := { KT := 162,VT := 4,ek := fun k => .agg #[.int .i64 k.1,.int .i64 k.2],ev := fun _ => .bool true }
theorem zmq:MOk Tryz.prog mBad 69 where
  ty := Tryz.underlying69
  eq := fun a b w=>by
    have e1:decide (a=b)=(decide (a.1=b.1) && decide (a.2=b.2)) := by
      rw [Bool.eq_iff_iff]; simp only [decide_eq_true_eq,Bool.and_eq_true]
      constructor
      · rintro rfl; exact ⟨rfl,rfl⟩
      · rintro ⟨h1,h2⟩; exact Prod.ext h1 h2
    rw [e1]
    exact zz5 Tryz.underlying162 (by kernel_rfl) Tryz.underlying3 Tryz.underlying3 Tryz.isAgg3 Tryz.isAgg3 rfl rfl (by decide) (by decide) _ _ _ _ w
  chk := fun e a w=>zxn Tryz.underlying162 Tryz.underlying3 Tryz.underlying3 Tryz.isAgg3 Tryz.isAgg3 rfl rfl e _ _ w 9998
  same := fun a=>by simp [Instr.sameBits]
  kd := ⟨_,Tryz.underlying162,.inl fun a b=>rfl⟩
structure ArrS where
  drv:List Drive
  bad:List ((Int × Int) × Unit)
  log:List Rec
  fuse:Nat
  down:Bool
  writes:Nat
def ArrS.size (s:ArrS) (d:Nat):Nat := (s.drv.getD d d0).now.length
structure ArrWF (s:ArrS):Prop where
  cnt:s.drv.length≤8
  same:∀ i,i < s.drv.length→(s.drv.getD i d0).now.length=(s.drv.getD i d0).dur.length∧(s.drv.getD i d0).now.length≤65536
  log:∀ i,i < s.log.length→(s.log.getD i r0).d < s.drv.length∧(s.log.getD i r0).a < s.size (s.log.getD i r0).d
  len:s.log.length≤s.writes
  fuse:s.fuse≤9223372036854775807
abbrev DL := List (DrvH × Drive)
def own1 (p:DrvH × Drive):HP := star [sl tyU p.1.now.v p.2.now,sl tyU p.1.dur.v p.2.dur]
def DRest (l:DL) (i:Nat):HP := star ((l.take i ++ l.drop (i + 1)).map own1)
def DOwn (l:DL):HP := star (l.map own1)
abbrev DL.hs (l:DL):List DrvH := l.map Prod.fst
def Arr (b:Nat) (s:ArrS):HP := ex fun c:Sl3 × Sl3 × Nat × DL =>
  star [pur (c.2.2.2.map Prod.snd=s.drv∧(∀ p ∈ c.2.2.2,p.1.miss=p.2.miss)∧ArrWF s),blk b 73 [c.1.v,.map (some c.2.2.1),c.2.1.v,.int .i64 (s.fuse:Int),.bool s.down,.int .i64 (s.writes:Int)],
    sl tyDrv c.1.v (DL.hs c.2.2.2),DOwn c.2.2.2,sl tyRec c.2.1.v s.log,mpc mBad c.2.2.1 s.bad]
theorem zdq {b:Nat} {s:ArrS} {R:List HP} : EntX (Arr b s::R) fun c:Sl3 × Sl3 × Nat × DL =>
    pur (c.2.2.2.map Prod.snd=s.drv∧(∀ p ∈ c.2.2.2,p.1.miss=p.2.miss)∧ArrWF s)::blk b 73 [c.1.v,.map (some c.2.2.1),c.2.1.v,.int .i64 (s.fuse:Int),.bool s.down,.int .i64 (s.writes:Int)] ::
    sl tyDrv c.1.v (DL.hs c.2.2.2)::DOwn c.2.2.2::sl tyRec c.2.1.v s.log::mpc mBad c.2.2.1 s.bad::R :=
  fun _ hh=>let ⟨c,hc⟩ := stars_ex.1 hh; ⟨c,stars_star.1 hc⟩
theorem zcl {b r:Nat} {s:ArrS} {dv lv:Sl3} {l:DL} {R:List HP} (h1:l.map Prod.snd=s.drv) (h2:∀ p ∈ l,p.1.miss=p.2.miss) (h3:ArrWF s) :
    Ent (blk b 73 [dv.v,.map (some r),lv.v,.int .i64 (s.fuse:Int),.bool s.down,.int .i64 (s.writes:Int)]::sl tyDrv dv.v (DL.hs l)::DOwn l::sl tyRec lv.v s.log::mpc mBad r s.bad::R) (Arr b s::R) :=
  fun _ hh=>stars_ex.2 ⟨(dv,lv,r,l),stars_star.2 (stars_pur.2 ⟨⟨h1,h2,h3⟩,hh⟩)⟩
theorem zqs (l:DL) (i:Nat) (hi:i < l.length):(l.map own1).Perm (own1 (l.getD i (dH0,d0))::(l.take i ++ l.drop (i + 1)).map own1) := by
  have h1:l=l.take i ++ l.getD i (dH0,d0)::l.drop (i + 1) := by
    have := List.take_append_drop i l
    rw [List.drop_eq_getElem_cons hi] at this
    simp [List.getD,hi]
  have h2:l.map own1=(l.take i ++ l.getD i (dH0,d0)::l.drop (i + 1)).map own1 := by rw [← h1]
  rw [h2,List.map_append,List.map_cons,List.map_append]
  exact List.perm_middle
theorem zlv {l:DL} {i:Nat} : (DL.hs l).getD i dH0=(l.getD i (dH0,d0)).1 := by
  simp only [DL.hs,List.getD,List.getElem?_map]; cases l[i]? <;> rfl
theorem zlw {l:DL} {i:Nat} : (l.map Prod.snd).getD i d0=(l.getD i (dH0,d0)).2 := by
  simp only [List.getD,List.getElem?_map]; cases l[i]? <;> rfl
theorem zfr {l:DL} {s:ArrS} (i:Nat) (hs:l.map Prod.snd=s.drv) (hi:i < s.drv.length) {R:List HP} :
    Ent (DOwn l::R) (sl tyU ((DL.hs l).getD i dH0).now.v (s.drv.getD i d0).now::sl tyU ((DL.hs l).getD i dH0).dur.v (s.drv.getD i d0).dur::DRest l i::R) := by
  intro h hh
  rw [← hs,zlv,zlw]
  have hi':i < l.length := by rw [← hs] at hi; simpa using hi
  have h1 := stars_star.1 hh
  have h2 := zbd ((zqs l i hi').append_right R) _ h1
  have h3:stars (own1 (l.getD i (dH0,d0))::star ((l.take i ++ l.drop (i + 1)).map own1)::R) h := by
    simp only [List.cons_append] at h2
    obtain ⟨g1,g2,d,e,ha,hb⟩ := h2
    exact ⟨g1,g2,d,e,ha,stars_star.2 hb⟩
  exact stars_star.1 h3
theorem zks {l:DL} {i:Nat} (x:DrvH × Drive) (hi:i < l.length) {R:List HP} :
    Ent (sl tyU x.1.now.v x.2.now::sl tyU x.1.dur.v x.2.dur::DRest l i::R) (DOwn (l.set i x)::R) := by
  intro h hh
  have h1:stars (own1 x::DRest l i::R) h := stars_star.2 hh
  have h3:stars ((own1 x::(l.take i ++ l.drop (i + 1)).map own1) ++ R) h := by
    obtain ⟨g1,g2,d,e,ha,hb⟩ := h1
    exact ⟨g1,g2,d,e,ha,stars_star.1 hb⟩
  refine stars_star.2 (zbd (List.Perm.append_right R ?_) _ h3)
  have h4 := zqs (l.set i x) i (by simpa using hi)
  have e1:(l.set i x).getD i (dH0,d0)=x := by simp [List.getD,hi]
  have e2:(l.set i x).take i=l.take i := by simp [List.take_set_of_le]
  have e3:(l.set i x).drop (i + 1)=l.drop (i + 1) := by simp [List.drop_set]
  rw [e1,e2,e3] at h4
  exact h4.symm
theorem zlx {l:DL} {s:ArrS} {i:Nat} (hs:l.map Prod.snd=s.drv) (hi:i < s.drv.length) {R:List HP} :
    Ent (sl tyU ((DL.hs l).getD i dH0).now.v (s.drv.getD i d0).now::sl tyU ((DL.hs l).getD i dH0).dur.v (s.drv.getD i d0).dur::DRest l i::R) (DOwn l::R) := by
  have hi':i < l.length := by rw [← hs] at hi; simpa using hi
  have := zks (l:=l) (i:=i) (l.getD i (dH0,d0)) hi' (R:=R)
  rw [show l.set i (l.getD i (dH0,d0))=l by simp [List.getD,hi']] at this
  rw [← hs,zlv,zlw]
  exact this
def inR (s:ArrS) (d:Int):Prop := 0≤d∧d < s.drv.length
instance (s:ArrS) (d:Int):Decidable (inR s d) := by unfold inR; infer_instance
def sizeI (s:ArrS) (d:Int):Int := if inR s d then (s.size d.toNat:Int) else 0
def isBad (s:ArrS) (d a:Int):Bool := (lookM s.bad (d,a)).isSome
def missI (s:ArrS) (d:Int):Bool := (s.drv.getD d.toNat d0).miss
def cPow (s:ArrS):Int := if s.down then 5 else 0
def cLoc (s:ArrS) (d:Int):Int := if inR s d then 0 else 1
def cPla (s:ArrS) (d a:Int):Int := if 0≤a∧a < sizeI s d then 0 else 1
def cPre (s:ArrS) (d:Int):Int := if missI s d then 6 else 0
def cWho (s:ArrS) (d a:Int):Int := if isBad s d a then 7 else 0
abbrev tyFn:Ty (Nat × Value) := { T := 366,sz := 1,enc := fun x=>[.func (.func x.1) #[x.2] #[]],dflt := (0,.bool false),len := fun _=>rfl,one := fun _=>rfl,pos := by decide }
def fz:List Int→Int
  | []=>0
  | c::r=>if c=0 then fz r else c
theorem fz_at:∀ (cs:List Int) (k:Nat),k < cs.length→(∀ j,j < k→cs.getD j 0=0)→cs.getD k 0≠0→fz cs=cs.getD k 0
  | [],k,h,_,_=>by simp at h
  | c::r,0,_,_,hk=>by simpa [fz] using fun h=>absurd h (by simpa using hk)
  | c::r,k + 1,h,h0,hk=>by
    have hc:c=0 := by simpa using h0 0 (by omega)
    simp only [fz,hc,if_true]
    have := fz_at r k (by simpa using h) (fun j hj=>by simpa using h0 (j + 1) (by omega)) (by simpa using hk)
    simpa using this
theorem zvy:∀ (cs:List Int),(∀ j,j < cs.length→cs.getD j 0=0)→fz cs=0
  | [],_=>rfl
  | c::r,h=>by
    have hc:c=0 := by simpa using h 0 (by simp)
    simp only [fz,hc,if_true]
    exact zvy r fun j hj=>by simpa using h (j + 1) (by simp; omega)
theorem zfc {l:DL} {s:ArrS} (hs:l.map Prod.snd=s.drv):(DL.hs l).length=s.drv.length := by rw [← hs]; simp
theorem zpr {l:DL} {s:ArrS} (hs:l.map Prod.snd=s.drv) (hm:∀ p ∈ l,p.1.miss=p.2.miss) {i:Nat} (hi:i < s.drv.length):((DL.hs l).getD i dH0).miss=(s.drv.getD i d0).miss := by
  rw [← hs,zlv,zlw]
  have hi':i < l.length := by rw [← hs] at hi; simpa using hi
  rw [List.getD,List.getElem?_eq_getElem hi']
  exact hm _ (List.getElem_mem hi')
theorem zho {W:World} {t:Bool} {e:Int} :
    CSpec Tryz.prog W 255 [.bool t,.int .i64 e] [] (fun _:Unit => .int .i64 (if t then e else 0)) (fun _=>True) (fun _ F=>F) := by
 refine CSpec.of_body Tryz.func255 rfl Tryz.ntmps255 rfl fun F => ?_
 show CJ _ _ _ _ _ _ (F)
 refine sR<|oA rfl<|nT<|zab<|sR<|oM rfl<|nT ?_
 first | (refine zav rfl (fun hg1 => ?_) (fun hg1 => ?_)) | (refine zaw rfl (fun hg1 => ?_) (fun hg1 => ?_)) | (refine za1 rfl (fun hg1 => ?_) (fun hg1 => ?_))
 ·
  refine sR<|oM rfl<|oA rfl<|nT<|zaf<|zak<|zan (res1 Tryz.results255 rfl)<|CSpec.close () ?_ ?_ r_
  · simp only [*]; rfl
  · trivial
 ·
  refine kT<|sR<|oA rfl<|nT<|zaf<|zan (res1 Tryz.results255 rfl)<|CSpec.close () ?_ ?_ r_
  · simp only [*]; rfl
  · trivial
theorem zly {W:World} {b:Nat} {s:ArrS} {d a:Int} :
    CSpec Tryz.prog W 250 [ptr b 0,.agg #[.int .i64 d,.int .i64 a]] [Arr b s] (fun _:Unit => .int .i64 (cPow s)) (fun _=>True) (fun _ F=>Arr b s::F) := by
 refine CSpec.of_body Tryz.func250 rfl Tryz.ntmps250 rfl fun F => ?_
 show CJ _ _ _ _ _ _ (_::F)
 refine zc7 (Ent.transX r_ zdq) fun ⟨dv,lv,mr,l⟩=>zdk fun hX => ?_
 obtain ⟨hl,hm,hw⟩:l.map Prod.snd=(s).drv∧(∀ p ∈ l,p.1.miss=p.2.miss)∧ArrWF (s) := hX
 show CJ _ _ _ _ _ _ (blk b 73 [Sl3.v dv,.map (some mr),Sl3.v lv,_,_,_]::sl tyDrv (Sl3.v dv) (DL.hs l)::DOwn l::sl tyRec (Sl3.v lv) _::mpc mBad mr _::_)
 have hn := zfc hl
 have hwF := hw.fuse
 have hwL := hw.len
 have hwC := hw.cnt
 refine sR<|oO<|O_box rfl rfl rfl fun b1=>oA rfl<|nT<|sR<|oM rfl<|oP (zad rfl)<|oP (zaa rfl ⟨_,_,_,Tryz.runUnderlying73,rfl,rfl,Tryz.sizeOf4,rfl⟩)<|oV (zac rfl foc1 rfl Tryz.isAgg4)<|oO<|zai (zho) rfl Tryz.call255 Dels.nil rfl fun _ hc2=>oA rfl<|nT<|zaf<|zan (res1 Tryz.results250 rfl)<|CSpec.close () ?_ ?_ (Ent.trans (Ent.trans (t1_ (t1_ (t1_ (t1_ (t1_ r_))))) (zcl hl hm hw)) (t0_ (e_ r_)))
 · rfl
 · trivial
theorem zlz {W:World} {b:Nat} {s:ArrS} {d a:Int} :
    CSpec Tryz.prog W 251 [ptr b 0,.agg #[.int .i64 d,.int .i64 a]] [Arr b s] (fun _:Unit => .int .i64 (cLoc s d)) (fun _=>True) (fun _ F=>Arr b s::F) := by
 refine CSpec.of_body Tryz.func251 rfl Tryz.ntmps251 rfl fun F => ?_
 show CJ _ _ _ _ _ _ (_::F)
 refine zc7 (Ent.transX r_ zdq) fun ⟨dv,lv,mr,l⟩=>zdk fun hX => ?_
 obtain ⟨hl,hm,hw⟩:l.map Prod.snd=(s).drv∧(∀ p ∈ l,p.1.miss=p.2.miss)∧ArrWF (s) := hX
 show CJ _ _ _ _ _ _ (blk b 73 [Sl3.v dv,.map (some mr),Sl3.v lv,_,_,_]::sl tyDrv (Sl3.v dv) (DL.hs l)::DOwn l::sl tyRec (Sl3.v lv) _::mpc mBad mr _::_)
 have hn := zfc hl
 have hwF := hw.fuse
 have hwL := hw.len
 have hwC := hw.cnt
 refine sR<|oO<|O_box rfl rfl rfl fun b1=>oA rfl<|nT<|zab<|za3 8192 kR_ rfl<|aN 0 1 rfl rfl (zaa rfl ⟨_,_,_,Tryz.runUnderlying162,rfl,rfl,Tryz.sizeOf3,rfl⟩)<|aW 1 3 rfl rfl r_ (zac rfl foc0 rfl Tryz.isAgg3)<|aN 2 7 rfl rfl (P_lss rfl rfl)<|aN 3 15 rfl rfl (zae rfl) ?_
 first | (refine zi9 8 rfl (fun hg1B hg1 => ?_) (fun hg1B hg1 => ?_)) | (refine zja 8 rfl (fun hg1B hg1 => ?_) (fun hg1B hg1 => ?_)) | (refine zkj 8 rfl (fun hg1B => ?_) (fun hg1B => ?_))
 ·
  refine aS 4 31 rfl rfl (GY_no rfl rfl rfl hg1B)<|aS 5 63 rfl rfl (GY_no rfl rfl rfl hg1B)<|aS 6 127 rfl rfl (GY_no rfl rfl rfl hg1B)<|aS 7 255 rfl rfl (GY_no rfl rfl rfl hg1B)<|aS 8 511 rfl rfl (GY_no rfl rfl rfl hg1B)<|aS 9 1023 rfl rfl (GY_no rfl rfl rfl hg1B)<|aS 10 2047 rfl rfl (GY_no rfl rfl rfl hg1B)<|aS 11 4095 rfl rfl (GY_no rfl rfl rfl hg1B)<|aN 12 8191 rfl rfl (zbe rfl hg1B rfl)<|AJ_op 13 16383 rfl kR_ rfl (zal rfl)<|zai (zho) rfl Tryz.call255 Dels.nil rfl fun _ hc2=>⟨fun h=>absurd h (by decide),?_⟩
  refine aN 14 32767 rfl rfl (za9 rfl)<|aD<|zaf<|zan (res1 Tryz.results251 rfl)<|CSpec.close () ?_ ?_ (Ent.trans (Ent.trans (t1_ (t1_ (t1_ (t1_ (t1_ r_))))) (zcl hl hm hw)) (t0_ (e_ r_)))
  · refine iv ?_; unfold cLoc inR; split <;> simp_all <;> omega
  · trivial
 ·
  refine aP 4 31 rfl rfl (zaz rfl rfl rfl hg1B) (zaa rfl ⟨_,_,_,Tryz.runUnderlying162,rfl,rfl,Tryz.sizeOf3,rfl⟩)<|aV 5 63 rfl rfl (zaz rfl rfl rfl hg1B) r_ (zac rfl foc0 rfl Tryz.isAgg3)<|aP 6 127 rfl rfl (zaz rfl rfl rfl hg1B) (zae rfl)<|aP 7 255 rfl rfl (zaz rfl rfl rfl hg1B) (zad rfl)<|aP 8 511 rfl rfl (zaz rfl rfl rfl hg1B) (zaa rfl ⟨_,_,_,Tryz.runUnderlying73,rfl,rfl,Tryz.sizeOf70,rfl⟩)<|aV 9 1023 rfl rfl (zaz rfl rfl rfl hg1B) r_ (zac rfl foc1 rfl Tryz.isAgg70)<|aV 10 2047 rfl rfl (zaz rfl rfl rfl hg1B) r_ (V_len rfl foc2 (Reads.sl _ _ _) Tryz.runUnderlying70)<|aP 11 4095 rfl rfl (zaz rfl rfl rfl hg1B) (P_geq rfl rfl)<|aN 12 8191 rfl rfl (za2 rfl hg1B rfl)<|AJ_op 13 16383 rfl kR_ rfl (zal rfl)<|zai (zho) rfl Tryz.call255 Dels.nil rfl fun _ hc3=>⟨fun h=>absurd h (by decide),?_⟩
  refine aN 14 32767 rfl rfl (za9 rfl)<|aD<|zaf<|zan (res1 Tryz.results251 rfl)<|CSpec.close () ?_ ?_ (Ent.trans (Ent.trans (t1_ (t1_ (t1_ (t1_ (t1_ r_))))) (zcl hl hm hw)) (t0_ (e_ r_)))
  · refine iv ?_; unfold cLoc inR; split <;> simp_all <;> omega
  · trivial
theorem zps {W:World} {b:Nat} {s:ArrS} {d:Int} :
    CSpec Tryz.prog W 40 [ptr b 0,.int .i64 d] [Arr b s] (fun _:Unit => .int .i64 (sizeI s d)) (fun _=>True) (fun _ F=>Arr b s::F) := by
 refine CSpec.of_body Tryz.func40 rfl Tryz.ntmps40 rfl fun F => ?_
 show CJ _ _ _ _ _ _ (_::F)
 refine zc7 (Ent.transX r_ zdq) fun ⟨dv,lv,mr,l⟩=>zdk fun hX => ?_
 obtain ⟨hl,hm,hw⟩:l.map Prod.snd=(s).drv∧(∀ p ∈ l,p.1.miss=p.2.miss)∧ArrWF (s) := hX
 show CJ _ _ _ _ _ _ (blk b 73 [Sl3.v dv,.map (some mr),Sl3.v lv,_,_,_]::sl tyDrv (Sl3.v dv) (DL.hs l)::DOwn l::sl tyRec (Sl3.v lv) _::mpc mBad mr _::_)
 have hn := zfc hl
 have hwF := hw.fuse
 have hwL := hw.len
 have hwC := hw.cnt
 refine sR<|oA rfl<|nT<|zab<|sR<|oM rfl<|oP (P_lss rfl rfl)<|oM rfl ?_
 first | (refine zbu 7 rfl (fun hg1B hg1 => ?_) (fun hg1B hg1 => ?_)) | (refine zbv 7 rfl (fun hg1B hg1 => ?_) (fun hg1B hg1 => ?_)) | (refine zb3 7 rfl (fun hg1B => ?_) (fun hg1B => ?_))
 ·
  refine g_ rfl rfl rfl hg1B rfl<|g_ rfl rfl rfl hg1B rfl<|g_ rfl rfl rfl hg1B rfl<|g_ rfl rfl rfl hg1B rfl<|g_ rfl rfl rfl hg1B rfl<|g_ rfl rfl rfl hg1B rfl<|g_ rfl rfl rfl hg1B rfl<|oP (zbe rfl hg1B rfl)<|nT<|za7 rfl rfl<|sR<|oA rfl<|nT<|zaf<|zak<|zan (res1 Tryz.results40 rfl)<|CSpec.close () ?_ ?_ (Ent.trans (Ent.trans r_ (zcl hl hm hw)) r_)
  · first | (have hR:inR s d := ⟨by omega,by omega⟩; exact iv (if_pos hR).symm) | exact iv (if_neg (fun h:inR s d=>by unfold inR at h; omega)).symm
  · trivial
 ·
  refine p_ rfl rfl rfl hg1B (zae rfl)<|p_ rfl rfl rfl hg1B (zae rfl)<|p_ rfl rfl rfl hg1B (zad rfl)<|p_ rfl rfl rfl hg1B (zaa rfl ⟨_,_,_,Tryz.runUnderlying73,rfl,rfl,Tryz.sizeOf70,rfl⟩)<|v_ rfl rfl rfl hg1B (zac rfl foc0 rfl Tryz.isAgg70)<|v_ rfl rfl rfl hg1B (V_len rfl foc1 (Reads.sl _ _ _) Tryz.runUnderlying70)<|p_ rfl rfl rfl hg1B (P_geq rfl rfl)<|oP (za2 rfl hg1B rfl)<|nT ?_
  first | (refine zav rfl (fun hg2 => ?_) (fun hg2 => ?_)) | (refine zaw rfl (fun hg2 => ?_) (fun hg2 => ?_)) | (refine za1 rfl (fun hg2 => ?_) (fun hg2 => ?_))
  ·
   refine sR<|oA rfl<|nT<|zaf<|zak<|zan (res1 Tryz.results40 rfl)<|CSpec.close () ?_ ?_ (Ent.trans (Ent.trans r_ (zcl hl hm hw)) r_)
   · first | (have hR:inR s d := ⟨by omega,by omega⟩; exact iv (if_pos hR).symm) | exact iv (if_neg (fun h:inR s d=>by unfold inR at h; omega)).symm
   · trivial
  ·
   refine kT<|zab<|zbs (Ent.trans (t2_ r_) (zfr d.toNat hl (by omega)))<|zag<|oM rfl<|oP (zad rfl)<|oP (zaa rfl ⟨_,_,_,Tryz.runUnderlying73,rfl,rfl,Tryz.sizeOf70,rfl⟩)<|oV (zac rfl foc3 rfl Tryz.isAgg70)<|oM rfl<|oV (zam rfl rfl (Int.toNat_of_nonneg (by omega)).symm (by omega) foc4 (Reads.sl _ _ _) Tryz.runUnderlying70 Tryz.sizeOf75)<|oP (zbl rfl ⟨_,_,_,Tryz.runUnderlying75,rfl,rfl,Tryz.sizeOf44,rfl⟩)<|oV (za6 rfl rfl (by omega) foc4 (Reads.sl _ _ _) rfl rfl Tryz.isAgg44)<|oV (V_len rfl foc0 (Reads.sl _ _ _) Tryz.runUnderlying44)<|oA rfl<|nT<|zaf<|zan (res1 Tryz.results40 rfl)<|CSpec.close () ?_ ?_ (Ent.trans (Ent.trans r_ (zlx hl (by omega))) (Ent.trans (Ent.trans (t1_ (t1_ r_)) (zcl hl hm hw)) r_))
   · first | (have hR:inR s d := ⟨by omega,by omega⟩; exact iv (if_pos hR).symm) | exact iv (if_neg (fun h:inR s d=>by unfold inR at h; omega)).symm
   · trivial
theorem zr5 {W:World} {b:Nat} {s:ArrS} {d a:Int} :
    CSpec Tryz.prog W 253 [ptr b 0,.agg #[.int .i64 d,.int .i64 a]] [Arr b s] (fun _:Unit => .int .i64 (cPla s d a)) (fun _=>True) (fun _ F=>Arr b s::F) := by
 refine CSpec.of_body Tryz.func253 rfl Tryz.ntmps253 rfl fun F => ?_
 show CJ _ _ _ _ _ _ (_::F)
 refine sR<|oO<|O_box rfl rfl rfl fun b1=>oA rfl<|nT<|zab<|za3 4096 kR_ rfl<|aN 0 1 rfl rfl (zaa rfl ⟨_,_,_,Tryz.runUnderlying162,rfl,rfl,Tryz.sizeOf3,rfl⟩)<|aW 1 3 rfl rfl r_ (zac rfl foc0 rfl Tryz.isAgg3)<|aN 2 7 rfl rfl (P_lss rfl rfl)<|aN 3 15 rfl rfl (zae rfl) ?_
 first | (refine zi9 8 rfl (fun hg1B hg1 => ?_) (fun hg1B hg1 => ?_)) | (refine zja 8 rfl (fun hg1B hg1 => ?_) (fun hg1B hg1 => ?_)) | (refine zkj 8 rfl (fun hg1B => ?_) (fun hg1B => ?_))
 ·
  refine aS 4 31 rfl rfl (GY_no rfl rfl rfl hg1B)<|aS 5 63 rfl rfl (GY_no rfl rfl rfl hg1B)<|aS 6 127 rfl rfl (GY_no rfl rfl rfl hg1B)<|aS 7 255 rfl rfl (GY_no rfl rfl rfl hg1B)<|aS 8 511 rfl rfl (GY_no rfl rfl rfl hg1B)<|aS 9 1023 rfl rfl (GY_no rfl rfl rfl hg1B)<|aS 10 2047 rfl rfl (GY_no rfl rfl rfl hg1B)<|aN 11 4095 rfl rfl (zbe rfl hg1B rfl)<|AJ_op 12 8191 rfl kR_ rfl (zal rfl)<|zai (zho) rfl Tryz.call255 Dels.nil rfl fun _ hc2=>⟨fun h=>absurd h (by decide),?_⟩
  refine aN 13 16383 rfl rfl (za9 rfl)<|aD<|zaf<|zan (res1 Tryz.results253 rfl)<|CSpec.close () ?_ ?_ (t1_ (e_ r_))
  · refine iv ?_; unfold cPla; split <;> simp_all <;> omega
  · trivial
 ·
  refine aP 4 31 rfl rfl (zaz rfl rfl rfl hg1B) (zaa rfl ⟨_,_,_,Tryz.runUnderlying162,rfl,rfl,Tryz.sizeOf3,rfl⟩)<|aV 5 63 rfl rfl (zaz rfl rfl rfl hg1B) r_ (zac rfl foc0 rfl Tryz.isAgg3)<|aP 6 127 rfl rfl (zaz rfl rfl rfl hg1B) (zae rfl)<|aP 7 255 rfl rfl (zaz rfl rfl rfl hg1B) (zaa rfl ⟨_,_,_,Tryz.runUnderlying162,rfl,rfl,Tryz.sizeOf3,rfl⟩)<|aV 8 511 rfl rfl (zaz rfl rfl rfl hg1B) r_ (zac rfl foc0 rfl Tryz.isAgg3)<|AJ_op 9 1023 rfl kR_ rfl (zaz rfl rfl rfl hg1B)<|zai (zps) rfl Tryz.call40 (dC_ del1) rfl fun _ hc3=>⟨fun _=>(t1_ r_),?_⟩
  refine aP 10 2047 rfl rfl (zaz rfl rfl rfl hg1B) (P_geq rfl rfl)<|aN 11 4095 rfl rfl (za2 rfl hg1B rfl)<|AJ_op 12 8191 rfl kR_ rfl (zal rfl)<|zai (zho) rfl Tryz.call255 Dels.nil rfl fun _ hc4=>⟨fun h=>absurd h (by decide),?_⟩
  refine aN 13 16383 rfl rfl (za9 rfl)<|aD<|zaf<|zan (res1 Tryz.results253 rfl)<|CSpec.close () ?_ ?_ (t0_ (e_ r_))
  · refine iv ?_; unfold cPla; split <;> simp_all <;> omega
  · trivial
theorem zl0 {W:World} {b:Nat} {s:ArrS} {d a:Int} (hR:inR s d) :
    CSpec Tryz.prog W 252 [ptr b 0,.agg #[.int .i64 d,.int .i64 a]] [Arr b s] (fun _:Unit => .int .i64 (cPre s d)) (fun _=>True) (fun _ F=>Arr b s::F) := by
 obtain ⟨hR1,hR2⟩ := id hR
 refine CSpec.of_body Tryz.func252 rfl Tryz.ntmps252 rfl fun F => ?_
 show CJ _ _ _ _ _ _ (_::F)
 refine zc7 (Ent.transX r_ zdq) fun ⟨dv,lv,mr,l⟩=>zdk fun hX => ?_
 obtain ⟨hl,hm,hw⟩:l.map Prod.snd=(s).drv∧(∀ p ∈ l,p.1.miss=p.2.miss)∧ArrWF (s) := hX
 show CJ _ _ _ _ _ _ (blk b 73 [Sl3.v dv,.map (some mr),Sl3.v lv,_,_,_]::sl tyDrv (Sl3.v dv) (DL.hs l)::DOwn l::sl tyRec (Sl3.v lv) _::mpc mBad mr _::_)
 have hn := zfc hl
 have hwF := hw.fuse
 have hwL := hw.len
 have hwC := hw.cnt
 refine sR<|oO<|O_box rfl rfl rfl fun b1=>oA rfl<|nT<|zab<|za3 512 kR_ rfl<|aN 0 1 rfl rfl (zae rfl)<|aN 1 3 rfl rfl (zad rfl)<|aN 2 7 rfl rfl (zaa rfl ⟨_,_,_,Tryz.runUnderlying73,rfl,rfl,Tryz.sizeOf70,rfl⟩)<|aW 3 15 rfl rfl r_ (zac rfl foc1 rfl Tryz.isAgg70)<|aN 4 31 rfl rfl (zaa rfl ⟨_,_,_,Tryz.runUnderlying162,rfl,rfl,Tryz.sizeOf3,rfl⟩)<|aW 5 63 rfl rfl r_ (zac rfl foc0 rfl Tryz.isAgg3) ?_
 first | (refine zbj 6 127 rfl kR_ rfl kR_ kR_ (zal rfl) r_ (zam rfl rfl rfl (by omega) foc2 (Reads.sl _ _ _) Tryz.runUnderlying70 Tryz.sizeOf75) rfl (fun _ _ _ _ h=>h) ?_) | (refine zbj 6 127 rfl kR_ rfl kR_ kR_ (zal rfl) r_ (zam rfl rfl (Int.toNat_of_nonneg (by omega)).symm (by omega) foc2 (Reads.sl _ _ _) Tryz.runUnderlying70 Tryz.sizeOf75) rfl (fun _ _ _ _ h=>h) ?_)
 refine aN 7 255 rfl rfl (zbl rfl ⟨_,_,_,Tryz.runUnderlying75,rfl,rfl,Tryz.sizeOf4,rfl⟩)<|aW 8 511 rfl rfl r_ (za6 rfl rfl (by omega) foc2 (Reads.sl _ _ _) rfl rfl Tryz.isAgg4)<|AJ_op 9 1023 rfl kR_ rfl (zal rfl)<|zai (zho) rfl Tryz.call255 Dels.nil rfl fun _ hc2=>⟨fun h=>absurd h (by decide),?_⟩
 refine aN 10 2047 rfl rfl (za9 rfl)<|aD<|zaf<|zan (res1 Tryz.results252 rfl)<|CSpec.close () ?_ ?_ (Ent.trans (Ent.trans (t1_ (t1_ (t1_ (t1_ (t1_ r_))))) (zcl hl hm hw)) (t0_ (e_ r_)))
 · have h1 := hR.1; have h2 := hR.2; rw [show cPre s d=if ((DL.hs l).getD d.toNat dH0).miss=true then 6 else 0 by rw [zpr hl hm (by omega)]; rfl]
 · trivial
theorem z0f {W:World} {b:Nat} {s:ArrS} {d a:Int} :
    CSpec Tryz.prog W 254 [ptr b 0,.agg #[.int .i64 d,.int .i64 a]] [Arr b s] (fun _:Unit => .int .i64 (cWho s d a)) (fun _=>True) (fun _ F=>Arr b s::F) := by
 refine CSpec.of_body Tryz.func254 rfl Tryz.ntmps254 rfl fun F => ?_
 show CJ _ _ _ _ _ _ (_::F)
 refine zc7 (Ent.transX r_ zdq) fun ⟨dv,lv,mr,l⟩=>zdk fun hX => ?_
 obtain ⟨hl,hm,hw⟩:l.map Prod.snd=(s).drv∧(∀ p ∈ l,p.1.miss=p.2.miss)∧ArrWF (s) := hX
 show CJ _ _ _ _ _ _ (blk b 73 [Sl3.v dv,.map (some mr),Sl3.v lv,_,_,_]::sl tyDrv (Sl3.v dv) (DL.hs l)::DOwn l::sl tyRec (Sl3.v lv) _::mpc mBad mr _::_)
 have hn := zfc hl
 have hwF := hw.fuse
 have hwL := hw.len
 have hwC := hw.cnt
 refine sR<|oO<|O_box rfl rfl rfl fun b1=>oA rfl<|nT<|zab<|za3 64 kR_ rfl<|aN 0 1 rfl rfl (zae rfl)<|aN 1 3 rfl rfl (zad rfl)<|aN 2 7 rfl rfl (zaa rfl ⟨_,_,_,Tryz.runUnderlying73,rfl,rfl,Tryz.sizeOf69,rfl⟩)<|aW 3 15 rfl rfl r_ (zac rfl foc1 rfl Tryz.isAgg69)<|aW 4 31 rfl rfl r_ (zbq rfl foc0 Tryz.isAgg162 Tryz.sizeOf162 rfl rfl)<|aW 5 63 rfl rfl r_ (zrq (M:=mBad) (k:=(d,a)) (out:=fun o => .bool o.isSome) rfl rfl foc5 zmq Tryz.zeroValue4 (fun _=>rfl) rfl)<|AJ_op 6 127 rfl kR_ rfl (zal rfl)<|zai (zho) rfl Tryz.call255 Dels.nil rfl fun _ hc2=>⟨fun h=>absurd h (by decide),?_⟩
 refine aN 7 255 rfl rfl (za9 rfl)<|aD<|zaf<|zan (res1 Tryz.results254 rfl)<|CSpec.close () ?_ ?_ (Ent.trans (Ent.trans (t1_ (t1_ (t1_ (t1_ (t1_ r_))))) (zcl hl hm hw)) (t0_ (e_ r_)))
 · rfl
 · trivial
theorem zpt {W:World} {A S:HP} {v:Value} {d a:Int} (fs:List (Nat × Value)) (cs:List Int) (hA:Reads S tyFn v fs) (hlen:cs.length=fs.length) (h5:fs.length≤5)
    (hc:∀ k,k < fs.length→(∀ j,j < k→cs.getD j 0=0)→zgf Tryz.prog (fs.getD k tyFn.dflt).1∧CSpec Tryz.prog W (fs.getD k tyFn.dflt).1 ([(fs.getD k tyFn.dflt).2] ++ [.agg #[.int .i64 d,.int .i64 a]] ++ []) [A] (fun _:Unit => .int .i64 (cs.getD k 0)) (fun _=>True) (fun _ F=>A::F)) :
    CSpec Tryz.prog W 249 [.agg #[.int .i64 d,.int .i64 a],v] [S,A] (fun _:Unit => .int .i64 (fz cs)) (fun _=>True) (fun _ F=>S::A::F) := by
 refine CSpec.of_body Tryz.func249 rfl Tryz.ntmps249 rfl fun F => ?_
 show CJ _ _ _ _ _ _ (_::_::F)
 refine sR<|oO<|O_box rfl rfl rfl fun b1=>oA rfl<|nT<|zab<|sR<|oM rfl<|oV (V_len rfl foc1 hA Tryz.runUnderlying367)<|oM rfl<|nT<|zao<|za8 (X:=Nat) [4,6,7,10,11,12,13,14,15,16,17,18,19,20] (fun k  => ([(10,.int .i64 (k:Nat))]:Slots)) (fun k R=>R) (fun k  => k≤fs.length ∧ ∀ j,j < k→cs.getD j 0=0) (fun k  => fs.length - k) (0) ?_ ?_ r_ ?_
 · exact ⟨Nat.zero_le _,fun j hj=>by omega⟩
 · exact ⟨rfl,True.intro⟩
 ·
  intro k hpf
  obtain ⟨hk,hz⟩ := hpf
  show CJ _ _ _ _ _ (([(10,.int .i64 (k:Nat))]:Slots) ++ forget _ _) (_)
  refine sR<|oP (P_lss rfl rfl)<|nT<|zab ?_
  first | (refine zav rfl (fun hg1 => ?_) (fun hg1 => ?_)) | (refine zaw rfl (fun hg1 => ?_) (fun hg1 => ?_)) | (refine za1 rfl (fun hg1 => ?_) (fun hg1 => ?_))
  ·
   refine kT<|zab<|zao<|sR ?_
   first | (refine RJ_op rfl (OJ_V (zam rfl rfl rfl (by omega) foc1 hA Tryz.runUnderlying367 Tryz.sizeOf366) rfl ?_)) | (refine RJ_op rfl (OJ_V (zam rfl rfl (Int.toNat_of_nonneg (by omega)).symm (by omega) foc1 hA Tryz.runUnderlying367 Tryz.sizeOf366) rfl ?_))
   refine oV (za6 rfl rfl (by omega) foc1 hA rfl rfl Tryz.isAgg366)<|oA rfl<|nT<|sR<|oM rfl<|oV (zbq rfl foc0 Tryz.isAgg162 Tryz.sizeOf162 rfl rfl)<|oO<|zdz (f:=(fs.getD k tyFn.dflt).1) (first:=[(fs.getD k tyFn.dflt).2]) (captured:=[]) rfl rfl (hc k (by omega) hz).2 (hc k (by omega) hz).1 (dC_ del2) rfl fun _ _=>oA rfl<|nT<|sR<|oM rfl<|oP (P_neq rfl rfl)<|nT ?_
   first | (refine zav rfl (fun hg2 => ?_) (fun hg2 => ?_)) | (refine zaw rfl (fun hg2 => ?_) (fun hg2 => ?_)) | (refine za1 rfl (fun hg2 => ?_) (fun hg2 => ?_))
   ·
    refine sR<|oM rfl<|oA rfl<|nT<|zaf<|zax<|zak<|zbm<|zax<|zak<|zan (res1 Tryz.results249 rfl)<|CSpec.close () ?_ ?_ (t2_ (t0_ (e_ r_)))
    · exact iv (fz_at cs k (by omega) hz hg2).symm
    · trivial
   ·
    refine zbh<|zah<|zar<|zag<|oP (P_add rfl rfl (by omega))<|oM rfl<|za0<|zba (k + 1) (by first | omega | (simp only []; omega)) ?_ kP_ ?_ (t1_ (t1_ r_))
    ·
     refine ⟨by omega,fun j hj => ?_⟩
     rcases Nat.lt_or_ge j k with h | h
     · exact hz j h
     · obtain rfl:j=k := by omega
       exact Decidable.not_not.1 hg2
    · exact ⟨rfl,True.intro⟩
  ·
   refine zbc<|zay<|zau<|zat<|zar<|sR<|oA rfl<|nT<|zaf<|zan (res1 Tryz.results249 rfl)<|CSpec.close () ?_ ?_ (t1_ (t1_ (e_ r_)))
   ·
    obtain rfl:k=fs.length := by omega
    exact iv (zvy cs (fun j hj=>hz j (by omega))).symm
   · trivial
end Go.Proofs
