/- YthgeeoahmjmnoaaLCls2: lifted functions of the program; printed by lift.py. -/
import Derived.Test.YthgeeoahmjmnoaaLCls1
set_option linter.unusedSimpArgs false
set_option linter.unusedVariables false
set_option maxRecDepth 20000
set_option maxHeartbeats 4000000
namespace Go.Proofs
open Go.VG

def dvc_reader_Write (x_0_Device : Dvc) (at_1 : Int) (v : UInt64) (s : ArrS) : Option (Int) :=
  Option.bind (Dvc.size x_0_Device s) fun r3 =>
  Option.bind (block_inside r3 at_1 (1 : Int)) fun r5 =>
  if (¬ r5 = true) then
    some (1 : Int)
  else
    some (22 : Int)

theorem L_dvc_reader_Write {W : World} {vx_0_Device : IfH} {bs : Nat} {x_0_Device : Dvc} {at_1 : Int} {v : UInt64} {s : ArrS} {r : Int} (h : dvc_reader_Write x_0_Device at_1 v s = some r) :
    CSpec Try.prog W 136 [.agg #[IfH.v vx_0_Device], .int .i64 at_1, .int .u64 (v.toNat : Int)] [DevP bs x_0_Device vx_0_Device, Arr bs s] (fun x : Unit => .int .i64 r) (fun _ => True) (fun x F => DevP bs x_0_Device vx_0_Device :: Arr bs s :: F) := by
  refine CSpec.of_body Try.func136 rfl Try.ntmps136 rfl (fun F => ?_)
  show CJ _ _ _ _ _ _ (_ :: _ :: F)
  unfold dvc_reader_Write at h
  refine CJ_seq ?_
  refine CJ_region ?_
  refine RJ_op rfl (O_box rfl rfl rfl (fun b1 => ?_))
  refine RJ_op rfl (OJ_P (P_assign rfl) rfl ?_)
  refine RJ_nil ?_
  refine QJ_then ?_
  refine CJ_seq ?_
  refine CJ_seq ?_
  refine CJ_region ?_
  refine RJ_op rfl (OJ_P (P_fieldAddr rfl ⟨_, _, _, Try.runUnderlying122, rfl, rfl, Try.sizeOf31, rfl⟩) rfl ?_)
  refine RJ_op rfl (OJ_V (V_load rfl foc0 rfl Try.isAgg31) rfl ?_)
  refine RJ_pure (fun h hh => DevP_dep h (stars_perm (del1 (A := DevP bs x_0_Device vx_0_Device)).out h hh)) (fun hdp2 => ?_)
  obtain ⟨r3, hr4, h⟩ := bind_e h
  refine RJ_op rfl (O_callI rfl (dev_Size hr4 hdp2) rfl (Dels.cons del1 (Dels.cons del1 Dels.nil)) rfl (fun _ _ => ?_))
  refine RJ_op rfl (OJ_P (P_move rfl) rfl ?_)
  obtain ⟨r5, hr6, h⟩ := bind_e h
  refine RJ_op rfl (O_call (L_block_inside hr6) rfl Try.call64 Dels.nil rfl (fun _ _ => ?_))
  refine RJ_op rfl (OJ_P (P_not rfl) rfl ?_)
  refine RJ_nil ?_
  refine QJ_then ?_
  refine CJ_condP rfl (bT_not Iff.rfl) (fun hg1 => ?_) (fun hg1 => ?_)
  ·
    replace h := ite_t hg1 h
    refine CJ_seq ?_
    refine CJ_region ?_
    refine RJ_op rfl (OJ_P (P_assign rfl) rfl ?_)
    refine RJ_nil ?_
    refine QJ_then ?_
    refine CJ_ret ?_
    refine QJ_then_ret ?_
    have hE := Option.some.inj h
    subst hE
    refine QJ_end (res1 Try.results136 rfl) ?_
    refine CSpec.close () ?_ ?_ (Ent.take del0 (Ent.take del0 (Ent.drop Ent.refl)))
    · rfl
    · trivial
  ·
    replace h := ite_f hg1 h
    refine CJ_skip ?_
    refine QJ_then ?_
    refine CJ_seq ?_
    refine CJ_region ?_
    refine RJ_op rfl (OJ_P (P_assign rfl) rfl ?_)
    refine RJ_nil ?_
    refine QJ_then ?_
    refine CJ_ret ?_
    have hE := Option.some.inj h
    subst hE
    refine QJ_end (res1 Try.results136 rfl) ?_
    refine CSpec.close () ?_ ?_ (Ent.take del0 (Ent.take del0 (Ent.drop Ent.refl)))
    · rfl
    · trivial

def Dvc.reader (x_Device : Dvc) : Dvc := { dep := (Dvc.dep x_Device + 1), size := x_Device.size, rd := x_Device.rd, wr := fun s k v => (dvc_reader_Write x_Device k v s).map fun e => (e, s), fl := x_Device.fl }
theorem prom_reader_Size {W : World} {vx_Device : IfH} {R : List HP} (n : Nat) (w : World) (_ : St W w R) : (method (n + 1) 122 (.agg #[IfH.v vx_Device]) "Size").run Try.prog w = (method n (IfH.t vx_Device) (IfH.u vx_Device) "Size").run Try.prog w := by
  kernel_rfl
theorem prom_reader_Read {W : World} {vx_Device : IfH} {R : List HP} (n : Nat) (w : World) (_ : St W w R) : (method (n + 1) 122 (.agg #[IfH.v vx_Device]) "Read").run Try.prog w = (method n (IfH.t vx_Device) (IfH.u vx_Device) "Read").run Try.prog w := by
  kernel_rfl
theorem prom_reader_Flush {W : World} {vx_Device : IfH} {R : List HP} (n : Nat) (w : World) (_ : St W w R) : (method (n + 1) 122 (.agg #[IfH.v vx_Device]) "Flush").run Try.prog w = (method n (IfH.t vx_Device) (IfH.u vx_Device) "Flush").run Try.prog w := by
  kernel_rfl
theorem ok_Dvc_reader {a : Nat} {vx_Device : IfH} {x_Device : Dvc} (hd : Dvc.dep x_Device + 1 ≤ 60) : DevOk a (Dvc.reader x_Device) ⟨122, .agg #[IfH.v vx_Device]⟩ (starX [DevP a x_Device vx_Device]) where
  dup := Dup.starX (by intro A hA; simp only [List.mem_cons, List.not_mem_nil, or_false] at hA; subst hA; exact Dup_DevP)
  dep := by simpa [Dvc.reader] using hd
  nil := fun n hn w => by
    obtain ⟨m, rfl⟩ : ∃ m, n = m + 1 := ⟨n - 1, by omega⟩
    kernel_rfl
  size := fun {W s r} e => IOk.prom (h' := vx_Device) (fun n F w hs => prom_reader_Size n w hs) (IOk.conseq (G := []) (DevP_E fun _ hk => hk.size e) (fun F => Ent.starE (Ent.take del0 (Ent.take del0 Ent.refl))) (fun _ F => Ent.starI (Ent.take del0 (Ent.take del0 Ent.refl))))
  rd := fun {W s k r} e => IOk.prom (h' := vx_Device) (fun n F w hs => prom_reader_Read n w hs) (IOk.conseq (G := []) (DevP_E fun _ hk => hk.rd e) (fun F => Ent.starE (Ent.take del0 (Ent.take del0 Ent.refl))) (fun _ F => Ent.starI (Ent.take del0 (Ent.take del0 Ent.refl))))
  wr := fun {W s k v r} e => by
    obtain ⟨z, hz, hr⟩ := Option.map_eq_some_iff.1 (show Option.map (fun e => (e, s)) (dvc_reader_Write x_Device k v s) = some r from e)
    subst hr
    exact IOk.conseq (G := []) (IOk.of (fun n w => by kernel_rfl) Try.call136 (L_dvc_reader_Write hz)) (fun F => Ent.starE (Ent.take del0 (Ent.take del0 Ent.refl))) (fun _ F => Ent.starI (Ent.take del0 (Ent.take del0 Ent.refl)))
  fl := fun {W s r} e => IOk.prom (h' := vx_Device) (fun n F w hs => prom_reader_Flush n w hs) (IOk.conseq (G := []) (DevP_E fun _ hk => hk.fl e) (fun F => Ent.starE (Ent.take del0 (Ent.take del0 Ent.refl))) (fun _ F => Ent.starI (Ent.take del0 (Ent.take del0 Ent.refl))))

def dvc_plain_Zero_Size (x_0_size : Int) (s : ArrS) : Option (Int) :=
  some x_0_size

theorem L_dvc_plain_Zero_Size {W : World} {bs : Nat} {x_0_size : Int} {s : ArrS} {r : Int} (h : dvc_plain_Zero_Size x_0_size s = some r) :
    CSpec Try.prog W 143 [.agg #[.int .i64 x_0_size, .func (.func 72) #[] #[]]] [Arr bs s] (fun x : Unit => .int .i64 r) (fun _ => True) (fun x F => Arr bs s :: F) := by
  refine CSpec.of_body Try.func143 rfl Try.ntmps143 rfl (fun F => ?_)
  show CJ _ _ _ _ _ _ (_ :: F)
  unfold dvc_plain_Zero_Size at h
  refine CJ_seq ?_
  refine CJ_region ?_
  refine RJ_op rfl (O_box rfl rfl rfl (fun b1 => ?_))
  refine RJ_op rfl (OJ_P (P_assign rfl) rfl ?_)
  refine RJ_nil ?_
  refine QJ_then ?_
  refine CJ_seq ?_
  refine CJ_region ?_
  refine RJ_op rfl (OJ_P (P_fieldAddr rfl ⟨_, _, _, Try.runUnderlying132, rfl, rfl, Try.sizeOf3, rfl⟩) rfl ?_)
  refine RJ_op rfl (OJ_V (V_load rfl foc0 rfl Try.isAgg3) rfl ?_)
  refine RJ_op rfl (OJ_P (P_assign rfl) rfl ?_)
  refine RJ_nil ?_
  refine QJ_then ?_
  refine CJ_ret ?_
  have hE := Option.some.inj h
  subst hE
  refine QJ_end (res1 Try.results143 rfl) ?_
  refine CSpec.close () ?_ ?_ (Ent.take del1 (Ent.drop Ent.refl))
  · rfl
  · trivial

def block_Zero_1 (write : Bool) : Option (Int) :=
  if write = true then
    some (22 : Int)
  else
    some (0 : Int)

theorem L_block_Zero_1 {W : World} {write : Bool} {r : Int} (h : block_Zero_1 write = some r) :
    CSpec Try.prog W 72 [.bool write] [] (fun x : Unit => .int .i64 r) (fun _ => True) (fun x F => F) := by
  refine CSpec.of_body Try.func72 rfl Try.ntmps72 rfl (fun F => ?_)
  show CJ _ _ _ _ _ _ (F)
  unfold block_Zero_1 at h
  refine CJ_seq ?_
  refine CJ_region ?_
  refine RJ_op rfl (OJ_P (P_assign rfl) rfl ?_)
  refine RJ_nil ?_
  refine QJ_then ?_
  refine CJ_seq ?_
  refine CJ_seq ?_
  refine CJ_region ?_
  refine RJ_op rfl (OJ_P (P_move rfl) rfl ?_)
  refine RJ_nil ?_
  refine QJ_then ?_
  refine CJ_condP rfl Iff.rfl (fun hg1 => ?_) (fun hg1 => ?_)
  ·
    replace h := ite_t hg1 h
    refine CJ_seq ?_
    refine CJ_region ?_
    refine RJ_op rfl (OJ_P (P_assign rfl) rfl ?_)
    refine RJ_nil ?_
    refine QJ_then ?_
    refine CJ_ret ?_
    refine QJ_then_ret ?_
    have hE := Option.some.inj h
    subst hE
    refine QJ_end (res1 Try.results72 rfl) ?_
    refine CSpec.close () ?_ ?_ Ent.refl
    · rfl
    · trivial
  ·
    replace h := ite_f hg1 h
    refine CJ_skip ?_
    refine QJ_then ?_
    refine CJ_seq ?_
    refine CJ_region ?_
    refine RJ_op rfl (OJ_P (P_assign rfl) rfl ?_)
    refine RJ_nil ?_
    refine QJ_then ?_
    refine CJ_ret ?_
    have hE := Option.some.inj h
    subst hE
    refine QJ_end (res1 Try.results72 rfl) ?_
    refine CSpec.close () ?_ ?_ Ent.refl
    · rfl
    · trivial

def dvc_plain_Zero_Read (x_0_size : Int) (at_1 : Int) (s : ArrS) : Option (UInt64 × Int) :=
  Option.bind (block_inside x_0_size at_1 (1 : Int)) fun r2 =>
  if (¬ r2 = true) then
    some (((0 : UInt64), (1 : Int)))
  else
    Option.bind (block_Zero_1 false) fun r4 =>
    some (((0 : UInt64), r4))

theorem L_dvc_plain_Zero_Read {W : World} {bs : Nat} {x_0_size : Int} {at_1 : Int} {s : ArrS} {r : UInt64 × Int} (h : dvc_plain_Zero_Read x_0_size at_1 s = some r) :
    CSpec Try.prog W 142 [.agg #[.int .i64 x_0_size, .func (.func 72) #[] #[]], .int .i64 at_1] [Arr bs s] (fun x : Unit => .tuple #[.int .u64 (r.1.toNat : Int), .int .i64 r.2]) (fun _ => True) (fun x F => Arr bs s :: F) := by
  refine CSpec.of_body Try.func142 rfl Try.ntmps142 rfl (fun F => ?_)
  show CJ _ _ _ _ _ _ (_ :: F)
  unfold dvc_plain_Zero_Read at h
  refine CJ_seq ?_
  refine CJ_region ?_
  refine RJ_op rfl (O_box rfl rfl rfl (fun b1 => ?_))
  refine RJ_op rfl (OJ_P (P_assign rfl) rfl ?_)
  refine RJ_op rfl (OJ_P (P_assign rfl) rfl ?_)
  refine RJ_nil ?_
  refine QJ_then ?_
  refine CJ_seq ?_
  refine CJ_seq ?_
  refine CJ_region ?_
  refine RJ_op rfl (OJ_P (P_fieldAddr rfl ⟨_, _, _, Try.runUnderlying132, rfl, rfl, Try.sizeOf3, rfl⟩) rfl ?_)
  refine RJ_op rfl (OJ_V (V_load rfl foc0 rfl Try.isAgg3) rfl ?_)
  refine RJ_op rfl (OJ_P (P_move rfl) rfl ?_)
  obtain ⟨r2, hr3, h⟩ := bind_e h
  refine RJ_op rfl (O_call (L_block_inside hr3) rfl Try.call64 Dels.nil rfl (fun _ _ => ?_))
  refine RJ_op rfl (OJ_P (P_not rfl) rfl ?_)
  refine RJ_nil ?_
  refine QJ_then ?_
  refine CJ_condP rfl (bT_not Iff.rfl) (fun hg1 => ?_) (fun hg1 => ?_)
  ·
    replace h := ite_t hg1 h
    refine CJ_seq ?_
    refine CJ_region ?_
    refine RJ_op rfl (OJ_P (P_assign rfl) rfl ?_)
    refine RJ_op rfl (OJ_P (P_assign rfl) rfl ?_)
    refine RJ_nil ?_
    refine QJ_then ?_
    refine CJ_ret ?_
    refine QJ_then_ret ?_
    have hE := Option.some.inj h
    subst hE
    refine QJ_end (res2 Try.results142 rfl rfl) ?_
    refine CSpec.close () ?_ ?_ (Ent.take del1 (Ent.drop Ent.refl))
    · rfl
    · trivial
  ·
    replace h := ite_f hg1 h
    refine CJ_skip ?_
    refine QJ_then ?_
    refine CJ_seq ?_
    refine CJ_region ?_
    refine RJ_op rfl (OJ_P (P_fieldAddr rfl ⟨_, _, _, Try.runUnderlying132, rfl, rfl, Try.sizeOf130, rfl⟩) rfl ?_)
    refine RJ_op rfl (OJ_V (V_load rfl foc0 rfl Try.isAgg130) rfl ?_)
    obtain ⟨r4, hr5, h⟩ := bind_e h
    refine RJ_op rfl (O_callV rfl rfl (L_block_Zero_1 hr5) Try.call72 Dels.nil rfl (fun _ _ => ?_))
    refine RJ_op rfl (OJ_P (P_assign rfl) rfl ?_)
    refine RJ_op rfl (OJ_P (P_assign rfl) rfl ?_)
    refine RJ_nil ?_
    refine QJ_then ?_
    refine CJ_ret ?_
    have hE := Option.some.inj h
    subst hE
    refine QJ_end (res2 Try.results142 rfl rfl) ?_
    refine CSpec.close () ?_ ?_ (Ent.take del1 (Ent.drop Ent.refl))
    · rfl
    · trivial

def dvc_plain_Zero_Write (x_0_size : Int) (at_1 : Int) (v : UInt64) (s : ArrS) : Option (Int) :=
  Option.bind (block_inside x_0_size at_1 (1 : Int)) fun r2 =>
  if (¬ r2 = true) then
    some (1 : Int)
  else
    Option.bind (block_Zero_1 true) fun r4 =>
    some r4

theorem L_dvc_plain_Zero_Write {W : World} {bs : Nat} {x_0_size : Int} {at_1 : Int} {v : UInt64} {s : ArrS} {r : Int} (h : dvc_plain_Zero_Write x_0_size at_1 v s = some r) :
    CSpec Try.prog W 144 [.agg #[.int .i64 x_0_size, .func (.func 72) #[] #[]], .int .i64 at_1, .int .u64 (v.toNat : Int)] [Arr bs s] (fun x : Unit => .int .i64 r) (fun _ => True) (fun x F => Arr bs s :: F) := by
  refine CSpec.of_body Try.func144 rfl Try.ntmps144 rfl (fun F => ?_)
  show CJ _ _ _ _ _ _ (_ :: F)
  unfold dvc_plain_Zero_Write at h
  refine CJ_seq ?_
  refine CJ_region ?_
  refine RJ_op rfl (O_box rfl rfl rfl (fun b1 => ?_))
  refine RJ_op rfl (OJ_P (P_assign rfl) rfl ?_)
  refine RJ_nil ?_
  refine QJ_then ?_
  refine CJ_seq ?_
  refine CJ_seq ?_
  refine CJ_region ?_
  refine RJ_op rfl (OJ_P (P_fieldAddr rfl ⟨_, _, _, Try.runUnderlying132, rfl, rfl, Try.sizeOf3, rfl⟩) rfl ?_)
  refine RJ_op rfl (OJ_V (V_load rfl foc0 rfl Try.isAgg3) rfl ?_)
  refine RJ_op rfl (OJ_P (P_move rfl) rfl ?_)
  obtain ⟨r2, hr3, h⟩ := bind_e h
  refine RJ_op rfl (O_call (L_block_inside hr3) rfl Try.call64 Dels.nil rfl (fun _ _ => ?_))
  refine RJ_op rfl (OJ_P (P_not rfl) rfl ?_)
  refine RJ_nil ?_
  refine QJ_then ?_
  refine CJ_condP rfl (bT_not Iff.rfl) (fun hg1 => ?_) (fun hg1 => ?_)
  ·
    replace h := ite_t hg1 h
    refine CJ_seq ?_
    refine CJ_region ?_
    refine RJ_op rfl (OJ_P (P_assign rfl) rfl ?_)
    refine RJ_nil ?_
    refine QJ_then ?_
    refine CJ_ret ?_
    refine QJ_then_ret ?_
    have hE := Option.some.inj h
    subst hE
    refine QJ_end (res1 Try.results144 rfl) ?_
    refine CSpec.close () ?_ ?_ (Ent.take del1 (Ent.drop Ent.refl))
    · rfl
    · trivial
  ·
    replace h := ite_f hg1 h
    refine CJ_skip ?_
    refine QJ_then ?_
    refine CJ_seq ?_
    refine CJ_region ?_
    refine RJ_op rfl (OJ_P (P_fieldAddr rfl ⟨_, _, _, Try.runUnderlying132, rfl, rfl, Try.sizeOf130, rfl⟩) rfl ?_)
    refine RJ_op rfl (OJ_V (V_load rfl foc0 rfl Try.isAgg130) rfl ?_)
    obtain ⟨r4, hr5, h⟩ := bind_e h
    refine RJ_op rfl (O_callV rfl rfl (L_block_Zero_1 hr5) Try.call72 Dels.nil rfl (fun _ _ => ?_))
    refine RJ_op rfl (OJ_P (P_assign rfl) rfl ?_)
    refine RJ_nil ?_
    refine QJ_then ?_
    refine CJ_ret ?_
    have hE := Option.some.inj h
    subst hE
    refine QJ_end (res1 Try.results144 rfl) ?_
    refine CSpec.close () ?_ ?_ (Ent.take del1 (Ent.drop Ent.refl))
    · rfl
    · trivial

def dvc_plain_Zero_Flush (x_0_size : Int) (s : ArrS) : Option (Int) :=
  some (0 : Int)

theorem L_dvc_plain_Zero_Flush {W : World} {bs : Nat} {x_0_size : Int} {s : ArrS} {r : Int} (h : dvc_plain_Zero_Flush x_0_size s = some r) :
    CSpec Try.prog W 141 [.agg #[.int .i64 x_0_size, .func (.func 72) #[] #[]]] [Arr bs s] (fun x : Unit => .int .i64 r) (fun _ => True) (fun x F => Arr bs s :: F) := by
  refine CSpec.of_body Try.func141 rfl Try.ntmps141 rfl (fun F => ?_)
  show CJ _ _ _ _ _ _ (_ :: F)
  unfold dvc_plain_Zero_Flush at h
  refine CJ_seq ?_
  refine CJ_region ?_
  refine RJ_op rfl (O_box rfl rfl rfl (fun b1 => ?_))
  refine RJ_op rfl (OJ_P (P_assign rfl) rfl ?_)
  refine RJ_nil ?_
  refine QJ_then ?_
  refine CJ_seq ?_
  refine CJ_region ?_
  refine RJ_op rfl (OJ_P (P_assign rfl) rfl ?_)
  refine RJ_nil ?_
  refine QJ_then ?_
  refine CJ_ret ?_
  have hE := Option.some.inj h
  subst hE
  refine QJ_end (res1 Try.results141 rfl) ?_
  refine CSpec.close () ?_ ?_ (Ent.take del1 (Ent.drop Ent.refl))
  · rfl
  · trivial

def Dvc.plain_Zero (x_size : Int) : Dvc := { dep := 1, size := fun s => dvc_plain_Zero_Size x_size s, rd := fun s k => dvc_plain_Zero_Read x_size k s, wr := fun s k v => (dvc_plain_Zero_Write x_size k v s).map fun e => (e, s), fl := fun s => (dvc_plain_Zero_Flush x_size s).map fun e => (e, s) }
theorem ok_Dvc_plain_Zero {a : Nat} {x_size : Int} : DevOk a (Dvc.plain_Zero x_size) ⟨132, .agg #[.int .i64 x_size, .func (.func 72) #[] #[]]⟩ (starX []) where
  dup := Dup.starX (by simp)
  dep := by simp [Dvc.plain_Zero]
  nil := fun n hn w => by
    obtain ⟨m, rfl⟩ : ∃ m, n = m + 1 := ⟨n - 1, by omega⟩
    kernel_rfl
  size := fun {W s r} e => IOk.conseq (G := []) (IOk.of (fun n w => by kernel_rfl) Try.call143 (L_dvc_plain_Zero_Size e)) (fun F => Ent.starE (Ent.take del0 Ent.refl)) (fun _ F => Ent.starI (Ent.take del0 Ent.refl))
  rd := fun {W s k r} e => IOk.conseq (G := []) (IOk.of (fun n w => by kernel_rfl) Try.call142 (L_dvc_plain_Zero_Read e)) (fun F => Ent.starE (Ent.take del0 Ent.refl)) (fun _ F => Ent.starI (Ent.take del0 Ent.refl))
  wr := fun {W s k v r} e => by
    obtain ⟨z, hz, hr⟩ := Option.map_eq_some_iff.1 (show Option.map (fun e => (e, s)) (dvc_plain_Zero_Write x_size k v s) = some r from e)
    subst hr
    exact IOk.conseq (G := []) (IOk.of (fun n w => by kernel_rfl) Try.call144 (L_dvc_plain_Zero_Write hz)) (fun F => Ent.starE (Ent.take del0 Ent.refl)) (fun _ F => Ent.starI (Ent.take del0 Ent.refl))
  fl := fun {W s r} e => by
    obtain ⟨z, hz, hr⟩ := Option.map_eq_some_iff.1 (show Option.map (fun e => (e, s)) (dvc_plain_Zero_Flush x_size s) = some r from e)
    subst hr
    exact IOk.conseq (G := []) (IOk.of (fun n w => by kernel_rfl) Try.call141 (L_dvc_plain_Zero_Flush hz)) (fun F => Ent.starE (Ent.take del0 Ent.refl)) (fun _ F => Ent.starI (Ent.take del0 Ent.refl))

def dvc_plain_Fail_Size (x_0_size : Int) (s : ArrS) : Option (Int) :=
  some x_0_size

theorem L_dvc_plain_Fail_Size {W : World} {bs : Nat} {x_0_size : Int} {s : ArrS} {r : Int} (h : dvc_plain_Fail_Size x_0_size s = some r) :
    CSpec Try.prog W 143 [.agg #[.int .i64 x_0_size, .func (.func 73) #[] #[]]] [Arr bs s] (fun x : Unit => .int .i64 r) (fun _ => True) (fun x F => Arr bs s :: F) := by
  refine CSpec.of_body Try.func143 rfl Try.ntmps143 rfl (fun F => ?_)
  show CJ _ _ _ _ _ _ (_ :: F)
  unfold dvc_plain_Fail_Size at h
  refine CJ_seq ?_
  refine CJ_region ?_
  refine RJ_op rfl (O_box rfl rfl rfl (fun b1 => ?_))
  refine RJ_op rfl (OJ_P (P_assign rfl) rfl ?_)
  refine RJ_nil ?_
  refine QJ_then ?_
  refine CJ_seq ?_
  refine CJ_region ?_
  refine RJ_op rfl (OJ_P (P_fieldAddr rfl ⟨_, _, _, Try.runUnderlying132, rfl, rfl, Try.sizeOf3, rfl⟩) rfl ?_)
  refine RJ_op rfl (OJ_V (V_load rfl foc0 rfl Try.isAgg3) rfl ?_)
  refine RJ_op rfl (OJ_P (P_assign rfl) rfl ?_)
  refine RJ_nil ?_
  refine QJ_then ?_
  refine CJ_ret ?_
  have hE := Option.some.inj h
  subst hE
  refine QJ_end (res1 Try.results143 rfl) ?_
  refine CSpec.close () ?_ ?_ (Ent.take del1 (Ent.drop Ent.refl))
  · rfl
  · trivial

def block_Fail_1 (p0 : Bool) : Option (Int) :=
  some (7 : Int)

theorem L_block_Fail_1 {W : World} {p0 : Bool} {r : Int} (h : block_Fail_1 p0 = some r) :
    CSpec Try.prog W 73 [.bool p0] [] (fun x : Unit => .int .i64 r) (fun _ => True) (fun x F => F) := by
  refine CSpec.of_body Try.func73 rfl Try.ntmps73 rfl (fun F => ?_)
  show CJ _ _ _ _ _ _ (F)
  unfold block_Fail_1 at h
  refine CJ_seq ?_
  refine CJ_region ?_
  refine RJ_op rfl (OJ_P (P_assign rfl) rfl ?_)
  refine RJ_nil ?_
  refine QJ_then ?_
  refine CJ_seq ?_
  refine CJ_region ?_
  refine RJ_op rfl (OJ_P (P_assign rfl) rfl ?_)
  refine RJ_nil ?_
  refine QJ_then ?_
  refine CJ_ret ?_
  have hE := Option.some.inj h
  subst hE
  refine QJ_end (res1 Try.results73 rfl) ?_
  refine CSpec.close () ?_ ?_ Ent.refl
  · rfl
  · trivial

def dvc_plain_Fail_Read (x_0_size : Int) (at_1 : Int) (s : ArrS) : Option (UInt64 × Int) :=
  Option.bind (block_inside x_0_size at_1 (1 : Int)) fun r2 =>
  if (¬ r2 = true) then
    some (((0 : UInt64), (1 : Int)))
  else
    Option.bind (block_Fail_1 false) fun r4 =>
    some (((0 : UInt64), r4))

theorem L_dvc_plain_Fail_Read {W : World} {bs : Nat} {x_0_size : Int} {at_1 : Int} {s : ArrS} {r : UInt64 × Int} (h : dvc_plain_Fail_Read x_0_size at_1 s = some r) :
    CSpec Try.prog W 142 [.agg #[.int .i64 x_0_size, .func (.func 73) #[] #[]], .int .i64 at_1] [Arr bs s] (fun x : Unit => .tuple #[.int .u64 (r.1.toNat : Int), .int .i64 r.2]) (fun _ => True) (fun x F => Arr bs s :: F) := by
  refine CSpec.of_body Try.func142 rfl Try.ntmps142 rfl (fun F => ?_)
  show CJ _ _ _ _ _ _ (_ :: F)
  unfold dvc_plain_Fail_Read at h
  refine CJ_seq ?_
  refine CJ_region ?_
  refine RJ_op rfl (O_box rfl rfl rfl (fun b1 => ?_))
  refine RJ_op rfl (OJ_P (P_assign rfl) rfl ?_)
  refine RJ_op rfl (OJ_P (P_assign rfl) rfl ?_)
  refine RJ_nil ?_
  refine QJ_then ?_
  refine CJ_seq ?_
  refine CJ_seq ?_
  refine CJ_region ?_
  refine RJ_op rfl (OJ_P (P_fieldAddr rfl ⟨_, _, _, Try.runUnderlying132, rfl, rfl, Try.sizeOf3, rfl⟩) rfl ?_)
  refine RJ_op rfl (OJ_V (V_load rfl foc0 rfl Try.isAgg3) rfl ?_)
  refine RJ_op rfl (OJ_P (P_move rfl) rfl ?_)
  obtain ⟨r2, hr3, h⟩ := bind_e h
  refine RJ_op rfl (O_call (L_block_inside hr3) rfl Try.call64 Dels.nil rfl (fun _ _ => ?_))
  refine RJ_op rfl (OJ_P (P_not rfl) rfl ?_)
  refine RJ_nil ?_
  refine QJ_then ?_
  refine CJ_condP rfl (bT_not Iff.rfl) (fun hg1 => ?_) (fun hg1 => ?_)
  ·
    replace h := ite_t hg1 h
    refine CJ_seq ?_
    refine CJ_region ?_
    refine RJ_op rfl (OJ_P (P_assign rfl) rfl ?_)
    refine RJ_op rfl (OJ_P (P_assign rfl) rfl ?_)
    refine RJ_nil ?_
    refine QJ_then ?_
    refine CJ_ret ?_
    refine QJ_then_ret ?_
    have hE := Option.some.inj h
    subst hE
    refine QJ_end (res2 Try.results142 rfl rfl) ?_
    refine CSpec.close () ?_ ?_ (Ent.take del1 (Ent.drop Ent.refl))
    · rfl
    · trivial
  ·
    replace h := ite_f hg1 h
    refine CJ_skip ?_
    refine QJ_then ?_
    refine CJ_seq ?_
    refine CJ_region ?_
    refine RJ_op rfl (OJ_P (P_fieldAddr rfl ⟨_, _, _, Try.runUnderlying132, rfl, rfl, Try.sizeOf130, rfl⟩) rfl ?_)
    refine RJ_op rfl (OJ_V (V_load rfl foc0 rfl Try.isAgg130) rfl ?_)
    obtain ⟨r4, hr5, h⟩ := bind_e h
    refine RJ_op rfl (O_callV rfl rfl (L_block_Fail_1 hr5) Try.call73 Dels.nil rfl (fun _ _ => ?_))
    refine RJ_op rfl (OJ_P (P_assign rfl) rfl ?_)
    refine RJ_op rfl (OJ_P (P_assign rfl) rfl ?_)
    refine RJ_nil ?_
    refine QJ_then ?_
    refine CJ_ret ?_
    have hE := Option.some.inj h
    subst hE
    refine QJ_end (res2 Try.results142 rfl rfl) ?_
    refine CSpec.close () ?_ ?_ (Ent.take del1 (Ent.drop Ent.refl))
    · rfl
    · trivial

def dvc_plain_Fail_Write (x_0_size : Int) (at_1 : Int) (v : UInt64) (s : ArrS) : Option (Int) :=
  Option.bind (block_inside x_0_size at_1 (1 : Int)) fun r2 =>
  if (¬ r2 = true) then
    some (1 : Int)
  else
    Option.bind (block_Fail_1 true) fun r4 =>
    some r4

theorem L_dvc_plain_Fail_Write {W : World} {bs : Nat} {x_0_size : Int} {at_1 : Int} {v : UInt64} {s : ArrS} {r : Int} (h : dvc_plain_Fail_Write x_0_size at_1 v s = some r) :
    CSpec Try.prog W 144 [.agg #[.int .i64 x_0_size, .func (.func 73) #[] #[]], .int .i64 at_1, .int .u64 (v.toNat : Int)] [Arr bs s] (fun x : Unit => .int .i64 r) (fun _ => True) (fun x F => Arr bs s :: F) := by
  refine CSpec.of_body Try.func144 rfl Try.ntmps144 rfl (fun F => ?_)
  show CJ _ _ _ _ _ _ (_ :: F)
  unfold dvc_plain_Fail_Write at h
  refine CJ_seq ?_
  refine CJ_region ?_
  refine RJ_op rfl (O_box rfl rfl rfl (fun b1 => ?_))
  refine RJ_op rfl (OJ_P (P_assign rfl) rfl ?_)
  refine RJ_nil ?_
  refine QJ_then ?_
  refine CJ_seq ?_
  refine CJ_seq ?_
  refine CJ_region ?_
  refine RJ_op rfl (OJ_P (P_fieldAddr rfl ⟨_, _, _, Try.runUnderlying132, rfl, rfl, Try.sizeOf3, rfl⟩) rfl ?_)
  refine RJ_op rfl (OJ_V (V_load rfl foc0 rfl Try.isAgg3) rfl ?_)
  refine RJ_op rfl (OJ_P (P_move rfl) rfl ?_)
  obtain ⟨r2, hr3, h⟩ := bind_e h
  refine RJ_op rfl (O_call (L_block_inside hr3) rfl Try.call64 Dels.nil rfl (fun _ _ => ?_))
  refine RJ_op rfl (OJ_P (P_not rfl) rfl ?_)
  refine RJ_nil ?_
  refine QJ_then ?_
  refine CJ_condP rfl (bT_not Iff.rfl) (fun hg1 => ?_) (fun hg1 => ?_)
  ·
    replace h := ite_t hg1 h
    refine CJ_seq ?_
    refine CJ_region ?_
    refine RJ_op rfl (OJ_P (P_assign rfl) rfl ?_)
    refine RJ_nil ?_
    refine QJ_then ?_
    refine CJ_ret ?_
    refine QJ_then_ret ?_
    have hE := Option.some.inj h
    subst hE
    refine QJ_end (res1 Try.results144 rfl) ?_
    refine CSpec.close () ?_ ?_ (Ent.take del1 (Ent.drop Ent.refl))
    · rfl
    · trivial
  ·
    replace h := ite_f hg1 h
    refine CJ_skip ?_
    refine QJ_then ?_
    refine CJ_seq ?_
    refine CJ_region ?_
    refine RJ_op rfl (OJ_P (P_fieldAddr rfl ⟨_, _, _, Try.runUnderlying132, rfl, rfl, Try.sizeOf130, rfl⟩) rfl ?_)
    refine RJ_op rfl (OJ_V (V_load rfl foc0 rfl Try.isAgg130) rfl ?_)
    obtain ⟨r4, hr5, h⟩ := bind_e h
    refine RJ_op rfl (O_callV rfl rfl (L_block_Fail_1 hr5) Try.call73 Dels.nil rfl (fun _ _ => ?_))
    refine RJ_op rfl (OJ_P (P_assign rfl) rfl ?_)
    refine RJ_nil ?_
    refine QJ_then ?_
    refine CJ_ret ?_
    have hE := Option.some.inj h
    subst hE
    refine QJ_end (res1 Try.results144 rfl) ?_
    refine CSpec.close () ?_ ?_ (Ent.take del1 (Ent.drop Ent.refl))
    · rfl
    · trivial

def dvc_plain_Fail_Flush (x_0_size : Int) (s : ArrS) : Option (Int) :=
  some (0 : Int)

theorem L_dvc_plain_Fail_Flush {W : World} {bs : Nat} {x_0_size : Int} {s : ArrS} {r : Int} (h : dvc_plain_Fail_Flush x_0_size s = some r) :
    CSpec Try.prog W 141 [.agg #[.int .i64 x_0_size, .func (.func 73) #[] #[]]] [Arr bs s] (fun x : Unit => .int .i64 r) (fun _ => True) (fun x F => Arr bs s :: F) := by
  refine CSpec.of_body Try.func141 rfl Try.ntmps141 rfl (fun F => ?_)
  show CJ _ _ _ _ _ _ (_ :: F)
  unfold dvc_plain_Fail_Flush at h
  refine CJ_seq ?_
  refine CJ_region ?_
  refine RJ_op rfl (O_box rfl rfl rfl (fun b1 => ?_))
  refine RJ_op rfl (OJ_P (P_assign rfl) rfl ?_)
  refine RJ_nil ?_
  refine QJ_then ?_
  refine CJ_seq ?_
  refine CJ_region ?_
  refine RJ_op rfl (OJ_P (P_assign rfl) rfl ?_)
  refine RJ_nil ?_
  refine QJ_then ?_
  refine CJ_ret ?_
  have hE := Option.some.inj h
  subst hE
  refine QJ_end (res1 Try.results141 rfl) ?_
  refine CSpec.close () ?_ ?_ (Ent.take del1 (Ent.drop Ent.refl))
  · rfl
  · trivial

def Dvc.plain_Fail (x_size : Int) : Dvc := { dep := 1, size := fun s => dvc_plain_Fail_Size x_size s, rd := fun s k => dvc_plain_Fail_Read x_size k s, wr := fun s k v => (dvc_plain_Fail_Write x_size k v s).map fun e => (e, s), fl := fun s => (dvc_plain_Fail_Flush x_size s).map fun e => (e, s) }
theorem ok_Dvc_plain_Fail {a : Nat} {x_size : Int} : DevOk a (Dvc.plain_Fail x_size) ⟨132, .agg #[.int .i64 x_size, .func (.func 73) #[] #[]]⟩ (starX []) where
  dup := Dup.starX (by simp)
  dep := by simp [Dvc.plain_Fail]
  nil := fun n hn w => by
    obtain ⟨m, rfl⟩ : ∃ m, n = m + 1 := ⟨n - 1, by omega⟩
    kernel_rfl
  size := fun {W s r} e => IOk.conseq (G := []) (IOk.of (fun n w => by kernel_rfl) Try.call143 (L_dvc_plain_Fail_Size e)) (fun F => Ent.starE (Ent.take del0 Ent.refl)) (fun _ F => Ent.starI (Ent.take del0 Ent.refl))
  rd := fun {W s k r} e => IOk.conseq (G := []) (IOk.of (fun n w => by kernel_rfl) Try.call142 (L_dvc_plain_Fail_Read e)) (fun F => Ent.starE (Ent.take del0 Ent.refl)) (fun _ F => Ent.starI (Ent.take del0 Ent.refl))
  wr := fun {W s k v r} e => by
    obtain ⟨z, hz, hr⟩ := Option.map_eq_some_iff.1 (show Option.map (fun e => (e, s)) (dvc_plain_Fail_Write x_size k v s) = some r from e)
    subst hr
    exact IOk.conseq (G := []) (IOk.of (fun n w => by kernel_rfl) Try.call144 (L_dvc_plain_Fail_Write hz)) (fun F => Ent.starE (Ent.take del0 Ent.refl)) (fun _ F => Ent.starI (Ent.take del0 Ent.refl))
  fl := fun {W s r} e => by
    obtain ⟨z, hz, hr⟩ := Option.map_eq_some_iff.1 (show Option.map (fun e => (e, s)) (dvc_plain_Fail_Flush x_size s) = some r from e)
    subst hr
    exact IOk.conseq (G := []) (IOk.of (fun n w => by kernel_rfl) Try.call141 (L_dvc_plain_Fail_Flush hz)) (fun F => Ent.starE (Ent.take del0 Ent.refl)) (fun _ F => Ent.starI (Ent.take del0 Ent.refl))

end Go.Proofs
