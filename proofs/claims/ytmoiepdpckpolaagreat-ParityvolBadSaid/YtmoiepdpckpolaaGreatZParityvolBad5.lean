/- ParityvolBad, part 5 of the proof: PPv1, PPv2, PQv3, PQv4, PSpansA, LPv4, PQv5, CTrack, LPv5, LTrk. -/
import Derived.WalkKit
import Derived.Orders
import Derived.RangeFuncLeaves
import Derived.RangeFuncCalls
import Derived.TacticsIn
import Derived.Handy
import Derived.OrdersHeld
import Derived.OrdersIn
import Derived.Below
import Derived.OpenShut
import Derived.Deep.Slices
import Derived.Scope
import Derived.KernelRfl
import Derived.RangeFuncRecord
import Derived.ChangeKeysEq
import Derived.ProofKit
import Derived.ShutString
import Derived.ChangeOld
import Derived.Test.YtmoiepdpckpolaaGreatChecked
import Derived.Test.YtmoiepdpckpolaaGreatRows
import Derived.Test.YtmoiepdpckpolaaGreatZParityvolBad4
namespace Go.Proofs
open Go.VG
structure PE where
  off : Nat
  leg : Nat
  w : UInt64
  p : UInt64
def slq (q : UInt64) : Nat := 1 + 3 * (q.toNat % 2)
theorem slot_eq {q : UInt64} : parityvol_slot q = some ((slq q : Nat) : Int) := by
  unfold parityvol_slot slq
  have h1 : (q % 2).toNat = q.toNat % 2 := UInt64.toNat_mod ..
  have h2 : q.toNat % 2 < 2 := Nat.mod_lt _ (by decide)
  rw [h1]
  generalize q.toNat % 2 = m at h2
  have h3 : IntKind.i64.wrap ((m : Nat) : Int) = (m : Int) := wrap64_in (by omega) (by omega)
  rw [h3, grd_t (inI64_of (by omega)), grd_t (inI64_of (by omega))]
  exact congrArg some (by omega)
def hdW (off leg : Nat) : UInt64 := (shl_u64 (to_u64 (off : Int)) 3) ||| (to_u64 (leg : Int))
theorem hdW_dec : ∀ off, off < 8 → ∀ leg, leg < 8 → IntKind.i64.wrap ((shr_u64 (hdW off leg) 3).toNat : Int) = (off : Int) ∧ IntKind.i64.wrap (((hdW off leg) &&& (7 : UInt64)).toNat : Int) = (leg : Int) := by decide +kernel
def legP (C : PC) (st fl : Option Nat) (i : Nat) : prtS := ⟨xL i C.sz, decide (st = some i), decide (fl = some i)⟩
def legsP (C : PC) (st fl : Option Nat) : List prtS := (List.range C.L).map (legP C st fl)
def vol (C : PC) (st fl : Option Nat) (q : UInt64) (e : PE) (p : Bool) (k : Nat) : VolS := ⟨C.L, C.c, C.R, legsP C st fl, q, e.off, e.leg, e.w, e.p, p, k⟩
section
variable {C : PC} {st fl : Option Nat} {q : UInt64} {e : PE} {p : Bool} {k i d o a : Nat} {mz : Nat → Bool} {F : Prop} {K : Nat} {s t : ArrS} {V : Nat → Nat → UInt64}
@[simp] theorem legsP_len : (legsP C st fl).length = C.L := by simp [legsP]
theorem legsP_at (h : i < C.L) : (legsP C st fl).getD i prt_x0 = legP C st fl i := by simp [legsP, List.getD, h]
theorem legsP_fail (h : i < C.L) : (legsP C st none).set i { (legsP C st none).getD i prt_x0 with failed := true } = legsP C st (some i) := by
  rw [legsP_at h]
  apply List.ext_getElem (by simp)
  intro j h1 h2
  rw [List.getElem_set]
  simp only [legsP, List.getElem_map, List.getElem_range]
  split
  · rename_i z; subst z; simp [legP]
  · rename_i z; simp [legP, z]
theorem on1_ok {er : Int} {v : VolS} {j : Int} (h : er = 0 ∨ er = 5) : parityvol_Volume_on_1 er v j s = some (er, v) := by
  unfold parityvol_Volume_on_1
  rw [if_pos h]
theorem on1_fail {er : Int} (h0 : er ≠ 0) (h5 : er ≠ 5) (hi : i < C.L) (hs : st ≠ some i) : parityvol_Volume_on_1 er (vol C st none q e p k) (i : Int) s = some (18, vol C st (some i) q e p k) := by
  unfold parityvol_Volume_on_1
  have hl : (vol C st none q e p k).legs = legsP C st none := rfl
  rw [if_neg (fun x => x.elim h0 h5), hl, Int.toNat_natCast, grd_t (decide_eq_true ⟨by omega, by simp; omega⟩), if_neg (by rw [legsP_at hi]; simp [legP, hs]), grd_t (decide_eq_true ⟨by omega, by simp; omega⟩), legsP_fail hi]; rfl
def flL : Option Nat → Nat → List Int
  | none, _ => []
  | some j, n => if j < n then [(j : Int)] else []
theorem flL_succ {n : Nat} : flL fl (n + 1) = if fl = some n then flL fl n ++ [((n : Nat) : Int)] else flL fl n := by
  cases fl with
  | none => rfl
  | some j =>
    have e1 : ∀ m, flL (some j) m = if j < m then [(j : Int)] else [] := fun _ => rfl
    rw [e1, e1]
    by_cases z : j = n
    · subst z
      rw [if_pos (by omega), if_pos rfl, if_neg (by omega)]; rfl
    · rw [if_neg (show ¬ some j = some n from fun x => z (Option.some.inj x))]
      by_cases z2 : j < n
      · rw [if_pos (by omega), if_pos z2]
      · rw [if_neg (by omega), if_neg z2]
theorem flL_le {n : Nat} : (flL fl n).length ≤ 1 := by
  cases fl with
  | none => exact Nat.zero_le _
  | some j =>
    show (if j < n then [(j : Int)] else []).length ≤ 1
    split <;> simp
theorem failed_l1 : ∀ (N i : Nat), C.L - i < N → i ≤ C.L → parityvol_Volume_Failed_l1 (vol C st fl q e p k) N i (flL fl i) = some (flL fl C.L)
  | 0, _, h, _ => absurd h (by omega)
  | N + 1, i, h, hi => by
    have hL := C.hL
    have hu : parityvol_Volume_Failed_l1 (vol C st fl q e p k) (N + 1) i (flL fl i) = parityvol_Volume_Failed_l1_b (vol C st fl q e p k) (parityvol_Volume_Failed_l1 (vol C st fl q e p k) N) i (flL fl i) := rfl
    have hl : (vol C st fl q e p k).legs = legsP C st fl := rfl
    rw [hu]
    unfold parityvol_Volume_Failed_l1_b
    rw [hl, legsP_len]
    by_cases hlt : i < C.L
    · rw [if_pos (by omega), legsP_at hlt]
      have hr := failed_l1 N (i + 1) (by omega) (by omega)
      rw [flL_succ] at hr
      by_cases z : fl = some i
      · rw [if_pos z] at hr
        have hz : (flL fl i).length ≤ 1 := flL_le
        rw [if_pos (by simp [legP, z]), grd_t (inLen_of (by omega)), hr]
      · rw [if_neg z] at hr
        rw [if_neg (by simp [legP, z]), hr]
    · rw [if_neg (by omega)]
      have : i = C.L := by omega
      rw [this]
theorem pfailed_eq : parityvol_Volume_Failed (vol C st fl q e p k) s = some (flL fl C.L) := by
  have hF := fuel_big
  have hL := C.hL
  unfold parityvol_Volume_Failed
  have h := failed_l1 (C := C) (st := st) (fl := fl) (q := q) (e := e) (p := p) (k := k) FUEL 0 (by omega) (by omega)
  have e0 : flL fl 0 = [] := by cases fl <;> rfl
  rw [e0] at h
  rw [h]; rfl
def stI : Option Nat → Int
  | none => -1
  | some k => k
def stR : Option Nat → Unit ⊕ Int
  | none => .inl ()
  | some j => .inr (j : Int)
theorem stale_l1 (hst : ∀ j, st = some j → j < C.L) : ∀ (N i : Nat), C.L - i < N → i ≤ C.L → (∀ j, st = some j → i ≤ j) → slices_IndexFunc_part__parityvol_Volume_staleLeg_1_l1 (legsP C st fl) s N i = some (stR st)
  | 0, _, h, _, _ => absurd h (by omega)
  | N + 1, i, h, hi, hn => by
    have hL := C.hL
    have hu : slices_IndexFunc_part__parityvol_Volume_staleLeg_1_l1 (legsP C st fl) s (N + 1) i = slices_IndexFunc_part__parityvol_Volume_staleLeg_1_l1_b (legsP C st fl) s (slices_IndexFunc_part__parityvol_Volume_staleLeg_1_l1 (legsP C st fl) s N) i := rfl
    rw [hu]
    unfold slices_IndexFunc_part__parityvol_Volume_staleLeg_1_l1_b parityvol_Volume_staleLeg_1
    rw [legsP_len]
    by_cases hlt : i < C.L
    · rw [if_pos (by omega), legsP_at hlt]; simp only [Option.bind_some]
      by_cases z : st = some i
      · rw [if_pos (by simp [legP, z]), z]; rfl
      · rw [if_neg (by simp [legP, z]), grd_t (inN64_of (by omega))]
        refine stale_l1 hst N (i + 1) (by omega) (by omega) (fun j hj => ?_)
        have h1 := hn j hj
        have h2 : j ≠ i := fun x => z (by rw [hj, x])
        omega
    · rw [if_neg (by omega)]
      cases st with
      | none => rfl
      | some j => exact absurd (hst j rfl) (by have := hn j rfl; omega)
theorem staleLeg_eq (hst : ∀ j, st = some j → j < C.L) : parityvol_Volume_staleLeg (vol C st fl q e p k) s = some (stI st) := by
  have hF := fuel_big
  have hL := C.hL
  unfold parityvol_Volume_staleLeg slices_IndexFunc_part__parityvol_Volume_staleLeg_1
  have hl : (vol C st fl q e p k).legs = legsP C st fl := rfl
  rw [hl, stale_l1 hst FUEL 0 (by omega) (by omega) (fun j _ => Nat.zero_le j)]
  cases st with
  | none => rfl
  | some j => rfl
theorem psize_eq : parityvol_Volume_Size (vol C st fl q e p k) s = some (C.D : Int) := by
  have hD := @PC.hD C
  have hL := C.hL
  have hR := C.hR
  have h1 : (vol C st fl q e p k).layout_n = (C.L : Int) := rfl
  have h2 : (vol C st fl q e p k).layout_rows = (C.R : Int) := rfl
  have h3 : (vol C st fl q e p k).layout_chunk = (C.c : Int) := rfl
  have e1 : (C.L : Int) - 1 = ((C.L - 1 : Nat) : Int) := by omega
  have e2 : ((C.L - 1 : Nat) : Int) * (C.R : Int) = (((C.L - 1) * C.R : Nat) : Int) := by push_cast; rfl
  have e3 : (((C.L - 1) * C.R : Nat) : Int) * (C.c : Int) = (C.D : Int) := by unfold PC.D; push_cast; rfl
  have h4 : (C.L - 1) * C.R ≤ 3 * 3 := Nat.mul_le_mul (by omega) (by omega)
  unfold parityvol_Volume_Size
  rw [h1, h2, h3, e1, e2, e3, grd_t (inI64_of (by omega)), grd_t (inI64_of (by omega)), grd_t (inI64_of (by omega))]
theorem tdivN {m n : Nat} : ((m : Nat) : Int).tdiv ((n : Nat) : Int) = ((m / n : Nat) : Int) := rfl
theorem tmodN {m n : Nat} : ((m : Nat) : Int).tmod ((n : Nat) : Int) = ((m % n : Nat) : Int) := rfl
theorem wrapN {m : Nat} (h : m ≤ 1000000000) : IntKind.i64.wrap ((m : Nat) : Int) = (m : Int) := wrap64_in (by omega) (by omega)
theorem place_eq (ha : a < C.D) : parityvol_layout_place (⟨(C.L : Int), (C.c : Int), (C.R : Int)⟩ : parityvol_layout) (a : Int) = some ((C.leg a : Int), (C.off a : Int), (C.par (C.off a) : Int)) := by
  obtain ⟨p1, p2, p3, p4⟩ := PC.plc ha
  have hD := @PC.hD C
  have hO := @PC.hO C
  have hL := C.hL
  have hc := C.hc
  unfold parityvol_layout_place parity_Place parity_newLayout
  simp only [Option.bind_some]
  rw [if_neg (by simp; omega)]
  unfold parity_sector
  simp only [Option.bind_some]
  rw [if_neg (by simp; omega), grd_t (decide_eq_true (by omega)), grd_t (inI64_of (by omega)), grd_t (decide_eq_true (by omega))]
  have e1 : (C.L : Int) - 1 = ((C.L - 1 : Nat) : Int) := by omega
  have d1 : a / C.c ≤ a := Nat.div_le_self _ _
  have d2 : a / C.c / (C.L - 1) ≤ a / C.c := Nat.div_le_self _ _
  have d3 : a / C.c / (C.L - 1) % C.L < C.L := Nat.mod_lt _ (by omega)
  have d4 : a / C.c % (C.L - 1) < C.L - 1 := Nat.mod_lt _ (by omega)
  have d5 : a % C.c < C.c := Nat.mod_lt _ (by omega)
  have d6 : a / C.c / (C.L - 1) * C.c ≤ C.off a := Nat.le_add_right _ _
  rw [e1, tdivN, wrapN (by omega), tdivN, wrapN (by omega)]
  unfold parity_rows_parity lt
  simp only []
  rw [e1, tmodN, tmodN, tmodN, grd_t (inI64_of (by omega)), grd_t (decide_eq_true (by omega))]
  have e2 : ((C.L - 1 : Nat) : Int) - ((a / C.c / (C.L - 1) % C.L : Nat) : Int) = (C.par (C.off a) : Int) := by rw [p4]; omega
  rw [e2, grd_t (inI64_of (by omega))]; simp only [Option.bind_some]
  have p5 : C.par (C.off a) < C.L := PC.parL p2
  have e3 : (C.par (C.off a) : Int) + 1 + ((a / C.c % (C.L - 1) : Nat) : Int) = ((C.par (C.off a) + 1 + a / C.c % (C.L - 1) : Nat) : Int) := by push_cast; rfl
  have e4 : ((a / C.c / (C.L - 1) : Nat) : Int) * (C.c : Int) = ((a / C.c / (C.L - 1) * C.c : Nat) : Int) := by push_cast; rfl
  have e5 : ((a / C.c / (C.L - 1) * C.c : Nat) : Int) + ((a % C.c : Nat) : Int) = (C.off a : Int) := by unfold PC.off offF; push_cast; rfl
  have e6 : (C.par (C.off a) + 1 + a / C.c % (C.L - 1)) % C.L = C.leg a := by unfold PC.leg legF; rw [p4]
  rw [grd_t (inI64_of (by omega)), grd_t (inI64_of (by omega)), grd_t (decide_eq_true (by omega)), e3, grd_t (inI64_of (by omega)), tmodN, e6, e4, e5, grd_t (decide_eq_true (by omega)), grd_t (inI64_of (by omega)), grd_t (decide_eq_true (by omega)), grd_t (inI64_of (by omega))]; rfl
theorem parityOf_eq (ho : o < C.O) : parityvol_layout_parityOf (⟨(C.L : Int), (C.c : Int), (C.R : Int)⟩ : parityvol_layout) (o : Int) = some ((C.par o : Int), (((C.par o + 1) % C.L : Nat) : Int)) := by
  have hO := @PC.hO C
  have hL := C.hL
  have hc := C.hc
  have d1 : o / C.c ≤ o := Nat.div_le_self _ _
  have d3 : o / C.c % C.L < C.L := Nat.mod_lt _ (by omega)
  have p5 := PC.parL ho
  have e1 : (C.L : Int) - 1 = ((C.L - 1 : Nat) : Int) := by omega
  have e2 : ((C.L - 1 : Nat) : Int) - ((o / C.c % C.L : Nat) : Int) = (C.par o : Int) := by unfold PC.par parF; omega
  have e3 : (C.par o : Int) + 1 = ((C.par o + 1 : Nat) : Int) := by omega
  unfold parityvol_layout_parityOf lt
  simp only []
  rw [e1, tdivN, wrapN (by omega), tmodN, e2, e3, tmodN, grd_t (inI64_of (by omega)), grd_t (decide_eq_true (by omega)), grd_t (decide_eq_true (by omega)), grd_t (inI64_of (by omega)), grd_t (inI64_of (by omega)), grd_t (decide_eq_true (by omega))]
def Row (C : PC) (st : Option Nat) (s : ArrS) (V : Nat → Nat → UInt64) (o : Nat) : Prop := (∀ d, d < C.L → st ≠ some d → now s d (16 + o) = V d o) ∧ xr (fun d => V d o) C.L = 0
end
end Go.Proofs
namespace Go.Proofs
open Go.VG
def exE (C : PC) (e : PE) (d o : Nat) : Prop := o = e.off ∧ (d = e.leg ∨ d = C.par e.off)
def Al (s : ArrS) (d a : Nat) (P : UInt64 → Prop) : Prop := ∀ c ∈ cand s d a, P c
def bodyW (e : PE) : Nat → UInt64
  | 0 => hdW e.off e.leg
  | 1 => e.w
  | _ => e.p
def Bd (s : ArrS) (d : Nat) (q : UInt64) (e : PE) : Prop := ∀ i, i < 3 → Al s d (slq q + i) (· = bodyW e i)
structure Lg (C : PC) (V : Nat → Nat → UInt64) (qo : UInt64) (e : PE) (q : UInt64) (e' : PE) (hp hn : UInt64 → Prop) (x : Nat → Nat → Prop) (nwP : Prop) (bn : Nat) (bc : Prop) (s : ArrS) (d : Nat) : Prop where
  hd : Al s d 0 hp
  hn : hn (now s d 0)
  bd : qo ≠ 0 → Bd s d qo e
  dt : ∀ o, o < C.O → ¬ x d o → Al s d (16 + o) (· = V d o)
  nw : nwP → ∀ o, o < C.O → now s d (16 + o) = V d o
  nb : ∀ i, i < bn → now s d (slq q + i) = bodyW e' i
  nc : bc → Bd s d q e'
theorem sl_le {q : UInt64} : 1 ≤ slq q ∧ slq q ≤ 4 := by unfold slq; omega
theorem sl_ne {a b : UInt64} (h : slq a ≠ slq b) {i j : Nat} (hi : i < 3) (hj : j < 3) : slq a + i ≠ slq b + j := by unfold slq at *; omega
section
variable {C : PC} {V V' : Nat → Nat → UInt64} {st fl : Option Nat} {qo q : UInt64} {e e' : PE} {hp hn hp' hn' : UInt64 → Prop} {x x' : Nat → Nat → Prop} {nwP nwP' bc bc' : Prop} {bn bn' p k i d f o a : Nat} {mz : Nat → Bool} {F : Prop} {K K' : Nat} {s t : ArrS} {v : UInt64} {pd : Bool}
theorem Lg.weaken (h : Lg C V qo e q e' hp hn x nwP bn bc s d) (h1 : ∀ c, hp c → hp' c) (h2 : ∀ c, hn c → hn' c) (h3 : ∀ o, x d o → x' d o) (h4 : nwP' → nwP) (h5 : bn' ≤ bn) (h6 : bc' → bc) : Lg C V qo e q e' hp' hn' x' nwP' bn' bc' s d :=
  ⟨fun c hc => h1 c (h.hd c hc), h2 _ h.hn, h.bd, fun o ho hx => h.dt o ho (fun z => hx (h3 o z)), fun z => h.nw (h4 z), fun i hi => h.nb i (by omega), fun z => h.nc (h6 z)⟩
theorem Lg.frame (h : Lg C V qo e q e' hp hn x nwP bn bc s d) (h1 : ∀ b, now t d b = now s d b) (h2 : ∀ b, b < C.sz → cand t d b = cand s d b) : Lg C V qo e q e' hp hn x nwP bn bc t d := by
  have hO := @PC.hO C
  have hsz : C.sz = 16 + C.O := rfl
  have s1 := @sl_le qo
  have s2 := @sl_le q
  refine ⟨fun c hc => h.hd c ?_, by rw [h1]; exact h.hn, fun z i hi c hc => h.bd z i hi c ?_, fun o ho hx c hc => h.dt o ho hx c ?_, fun z o ho => by rw [h1]; exact h.nw z o ho, fun i hi => by rw [h1]; exact h.nb i hi, fun z i hi c hc => h.nc z i hi c ?_⟩
  · rw [h2 0 (by omega)] at hc; exact hc
  · rw [h2 _ (by omega)] at hc; exact hc
  · rw [h2 _ (by omega)] at hc; exact hc
  · rw [h2 _ (by omega)] at hc; exact hc
theorem Lg.sam (h : Lg C V qo e q e' hp hn x nwP bn bc s d) (hs : Sam s t) : Lg C V qo e q e' hp hn x nwP bn bc t d := h.frame (fun b => hs.now d b) (fun b _ => hs.cand d b)
theorem Lg.oth (h : Lg C V qo e q e' hp hn x nwP bn bc s d) (hu : Upd s t f a v) (hne : f ≠ d) : Lg C V qo e q e' hp hn x nwP bn bc t d :=
  h.frame (fun b => by rw [hu.now, if_neg (fun z => hne z.1)]) (fun b _ => by rw [hu.cand, if_neg (fun z => hne z.1)])
theorem Lg.othF (h : Lg C V qo e q e' hp hn x nwP bn bc s d) (hu : Fls C s t f) (hd : d < C.L) (hne : f ≠ d) : Lg C V qo e q e' hp hn x nwP bn bc t d :=
  h.frame (fun b => hu.now d b) (fun b hb => by rw [hu.cand d b hd hb, if_neg hne])
theorem Lg.body (h : Lg C V qo e q e' hp hn x nwP i bc s d) (hsl : qo ≠ 0 → slq qo ≠ slq q) (hi : i < 3) (hu : Upd s t d (slq q + i) (bodyW e' i)) : Lg C V qo e q e' hp hn x nwP (i + 1) bc t d := by
  have s2 := @sl_le q
  have hn1 : ∀ b, b ≠ slq q + i → now t d b = now s d b := fun b hb => by rw [hu.now, if_neg (fun z => hb z.2.symm)]
  have hc1 : ∀ b, b ≠ slq q + i → cand t d b = cand s d b := fun b hb => by rw [hu.cand, if_neg (fun z => hb z.2.symm)]
  refine ⟨fun c hc => h.hd c (by rw [hc1 0 (by omega)] at hc; exact hc), by rw [hn1 0 (by omega)]; exact h.hn, fun z j hj c hc => h.bd z j hj c (by rw [hc1 _ (sl_ne (hsl z) hj hi)] at hc; exact hc), fun o ho hx c hc => h.dt o ho hx c (by rw [hc1 _ (by omega)] at hc; exact hc), fun z o ho => by rw [hn1 _ (by omega)]; exact h.nw z o ho, fun j hj => ?_, fun z j hj c hc => ?_⟩
  · by_cases e : j = i
    · rw [hu.now, if_pos ⟨rfl, by rw [e]⟩, e]
    · rw [hn1 _ (by omega)]; exact h.nb j (by omega)
  · rw [hu.cand] at hc
    split at hc
    · rename_i z2
      have : i = j := by omega
      subst this
      rcases List.mem_append.1 hc with y | y
      · exact h.nc z i hj c y
      · exact List.mem_singleton.1 y
    · exact h.nc z j hj c hc
theorem Lg.flush (he : PEn C mz F K s) (hd : d < C.L) (h : Lg C V qo e q e' hp hn x nwP bn bc s d) (hu : Fls C s t d) (hb : 3 ≤ bn ∨ bc) : Lg C V qo e q e' (fun c => hn c ∧ hp c) (fun c => hn c ∧ hp c) (fun d o => x d o ∧ ¬ nwP) nwP bn True t d := by
  have hO := @PC.hO C
  have hsz : C.sz = 16 + C.O := rfl
  have s1 := @sl_le qo
  have s2 := @sl_le q
  have hc1 : ∀ b, b < C.sz → ∀ c, c ∈ cand t d b → c = now s d b := fun b hb c hc => by rw [hu.cand d b hd hb, if_pos rfl, List.mem_singleton] at hc; exact hc
  have hnc : ∀ b, b < C.sz → now s d b ∈ cand s d b := fun b hb => he.now_cand hd hb
  refine ⟨fun c hc => ?_, ?_, fun z j hj c hc => ?_, fun o ho hx c hc => ?_, fun z o ho => by rw [hu.now]; exact h.nw z o ho, fun j hj => by rw [hu.now]; exact h.nb j hj, fun _ j hj c hc => ?_⟩
  · rw [hc1 0 (by omega) c hc]; exact ⟨h.hn, h.hd _ (hnc 0 (by omega))⟩
  · rw [hu.now]; exact ⟨h.hn, h.hd _ (hnc 0 (by omega))⟩
  · rw [hc1 _ (by omega) c hc]; exact h.bd z j hj _ (hnc _ (by omega))
  · rw [hc1 _ (by omega) c hc]
    by_cases z : nwP
    · exact h.nw z o ho
    · exact h.dt o ho (fun y => hx ⟨y, z⟩) _ (hnc _ (by omega))
  · rw [hc1 _ (by omega) c hc]
    rcases hb with hb | hb
    · exact h.nb j (by omega)
    · exact h.nc hb j hj _ (hnc _ (by omega))
theorem Lg.head (h : Lg C V qo e q e' hp hn x nwP bn bc s d) (hu : Upd s t d 0 q) : Lg C V qo e q e' (fun c => hp c ∨ c = q) (· = q) x nwP bn bc t d := by
  have s1 := @sl_le qo
  have s2 := @sl_le q
  have hn1 : ∀ b, b ≠ 0 → now t d b = now s d b := fun b hb => by rw [hu.now, if_neg (fun z => hb z.2.symm)]
  have hc1 : ∀ b, b ≠ 0 → cand t d b = cand s d b := fun b hb => by rw [hu.cand, if_neg (fun z => hb z.2.symm)]
  refine ⟨fun c hc => ?_, by rw [hu.now, if_pos ⟨rfl, rfl⟩], fun z j hj c hc => h.bd z j hj c (by rw [hc1 _ (by omega)] at hc; exact hc), fun o ho hx c hc => h.dt o ho hx c (by rw [hc1 _ (by omega)] at hc; exact hc), fun z o ho => by rw [hn1 _ (by omega)]; exact h.nw z o ho, fun j hj => by rw [hn1 _ (by omega)]; exact h.nb j hj, fun z j hj c hc => h.nc z j hj c (by rw [hc1 _ (by omega)] at hc; exact hc)⟩
  rw [hu.cand, if_pos ⟨rfl, rfl⟩] at hc
  rcases List.mem_append.1 hc with y | y
  · exact .inl (h.hd c y)
  · exact .inr (List.mem_singleton.1 y)
theorem Lg.word (hbn : bn ≤ 3) (h : Lg C V qo e q e' hp hn x False bn bc s d) (hx : x d o) (hu : Upd s t d (16 + o) v) : Lg C V qo e q e' hp hn x False bn bc t d := by
  have s1 := @sl_le qo
  have s2 := @sl_le q
  have hn1 : ∀ b, b ≠ 16 + o → now t d b = now s d b := fun b hb => by rw [hu.now, if_neg (fun z => hb z.2.symm)]
  have hc1 : ∀ b, b ≠ 16 + o → cand t d b = cand s d b := fun b hb => by rw [hu.cand, if_neg (fun z => hb z.2.symm)]
  refine ⟨fun c hc => h.hd c (by rw [hc1 0 (by omega)] at hc; exact hc), by rw [hn1 0 (by omega)]; exact h.hn, fun z j hj c hc => h.bd z j hj c (by rw [hc1 _ (by omega)] at hc; exact hc), fun b hb hxb c hc => h.dt b hb hxb c ?_, fun z => z.elim, fun j hj => by rw [hn1 _ (by omega)]; exact h.nb j hj, fun z j hj c hc => h.nc z j hj c (by rw [hc1 _ (by omega)] at hc; exact hc)⟩
  have : b ≠ o := fun z => hxb (by rw [z]; exact hx)
  rw [hc1 _ (by omega)] at hc; exact hc
end
end Go.Proofs
namespace Go.Proofs
open Go.VG
def allB (v0 : VolS) (on : VolS → Int → ArrS → Option (Int × VolS × ArrS)) (rec : ArrS → VolS → Nat → Option ((VolS × ArrS) ⊕ (Int × VolS × ArrS))) (x12 : ArrS) (x13 : VolS) (x14 : Nat) : Option ((VolS × ArrS) ⊕ (Int × VolS × ArrS)) :=
  if (((x14 : Nat) : Int) < ((v0.legs.length : Nat) : Int)) then
    grd (decide (x14 < x13.legs.length)) <|
    if (¬ (x13.legs.getD x14 prt_x0).stale = true) then
      Option.bind (on x13 (((x14 : Nat) : Int)) x12) fun r19 =>
      if (r19.1 ≠ (0 : Int)) then
        some (.inr (r19.1, r19.2.1, r19.2.2))
      else
        rec r19.2.2 r19.2.1 (x14 + 1)
    else
      rec x12 x13 (x14 + 1)
  else
    some (.inl (x13, x12))
section
variable {C : PC} {V V' : Nat → Nat → UInt64} {st fl : Option Nat} {qo q : UInt64} {e e' : PE} {hp hn hp' hn' : UInt64 → Prop} {x x' : Nat → Nat → Prop} {nwP nwP' bc bc' : Prop} {bn bn' k i d f o a : Nat} {mz : Nat → Bool} {F : Prop} {K K' : Nat} {s t : ArrS} {v : UInt64} {p : Bool}
theorem all_rule {on : VolS → Int → ArrS → Option (Int × VolS × ArrS)} {g : Nat → ArrS → VolS → Nat → Option ((VolS × ArrS) ⊕ (Int × VolS × ArrS))} (hf : ∀ n s v i, g (n + 1) s v i = allB (vol C st none q e p k) on (g n) s v i) {I : Nat → ArrS → Prop} {G : ArrS → Prop}
    (hstep : ∀ i s, i < C.L → st ≠ some i → I i s → (∃ t, on (vol C st none q e p k) (i : Int) s = some (0, vol C st none q e p k, t) ∧ I (i + 1) t) ∨ (∃ t, on (vol C st none q e p k) (i : Int) s = some (5, vol C st none q e p k, t) ∧ G t) ∨ (mz i = true ∧ on (vol C st none q e p k) (i : Int) s = some (18, vol C st (some i) q e p k, s)))
    (hskip : ∀ i s, i < C.L → st = some i → I i s → I (i + 1) s) : ∀ (N i : Nat) (s : ArrS), C.L - i < N → i ≤ C.L → I i s →
    (∃ t, g N s (vol C st none q e p k) i = some (.inl (vol C st none q e p k, t)) ∧ I C.L t) ∨ (∃ t, g N s (vol C st none q e p k) i = some (.inr (5, vol C st none q e p k, t)) ∧ G t) ∨
    (∃ j t, j < C.L ∧ mz j = true ∧ st ≠ some j ∧ g N s (vol C st none q e p k) i = some (.inr (18, vol C st (some j) q e p k, t)) ∧ I j t)
  | 0, _, _, h, _, _ => absurd h (by omega)
  | N + 1, i, s, h, hi, hI => by
    have hll : (vol C st none q e p k).legs = legsP C st none := rfl
    rw [hf]
    unfold allB
    rw [hll, legsP_len]
    by_cases hlt : i < C.L
    · rw [if_pos (by omega), grd_t (decide_eq_true hlt), legsP_at hlt]
      by_cases hs : st = some i
      · rw [if_neg (by simp [legP, hs])]
        exact all_rule hf hstep hskip N (i + 1) s (by omega) (by omega) (hskip i s hlt hs hI)
      · rw [if_pos (by simp [legP, hs])]
        rcases hstep i s hlt hs hI with ⟨t, h1, h2⟩ | ⟨t, h1, h2⟩ | ⟨h1, h2⟩
        · rw [h1]; simp only [Option.bind_some]
          rw [if_neg (by simp)]
          exact all_rule hf hstep hskip N (i + 1) t (by omega) (by omega) h2
        · rw [h1]; simp only [Option.bind_some]
          rw [if_pos (by simp)]
          exact .inr (.inl ⟨t, rfl, h2⟩)
        · rw [h2]; simp only [Option.bind_some]
          rw [if_pos (by simp)]
          exact .inr (.inr ⟨i, s, hlt, h1, hs, rfl, hI⟩)
    · rw [if_neg (by omega)]
      have : i = C.L := by omega
      subst this
      exact .inl ⟨s, rfl, hI⟩
def Ls (C : PC) (st : Option Nat) (P : Nat → Prop) : Prop := ∀ d, d < C.L → st ≠ some d → P d
theorem Ls.imp {P Q : Nat → Prop} (h : Ls C st P) (hi : ∀ d, d < C.L → st ≠ some d → P d → Q d) : Ls C st Q := fun d hd hs => hi d hd hs (h d hd hs)
theorem bodies_eq (he : PEn C mz F K s) (hK : K ≤ 800000) (hsl : qo ≠ 0 → slq qo ≠ slq q) (hA : Ls C st fun d => Lg C V qo e q e' hp hn x nwP 0 False s d) :
    (∃ t, parityvol_Volume_bodies (vol C st none q e' p k) s = some (0, vol C st none q e' p k, t) ∧ PEn C mz F (K + 12) t ∧ Ls C st fun d => Lg C V qo e q e' hp hn x nwP 3 False t d) ∨
    (∃ t, parityvol_Volume_bodies (vol C st none q e' p k) s = some (5, vol C st none q e' p k, t) ∧ Gone C mz F (K + 12) t ∧ Ls C st fun d => Lg C V qo e q e' hp hn x nwP 0 False t d) ∨
    (∃ j t, j < C.L ∧ mz j = true ∧ st ≠ some j ∧ parityvol_Volume_bodies (vol C st none q e' p k) s = some (18, vol C st (some j) q e' p k, t) ∧ PEn C mz F (K + 12) t ∧ Ls C st fun d => Lg C V qo e q e' hp hn x nwP 0 False t d) := by
  have hF := fuel_big
  have hL := C.hL
  have hz := @PC.hsz C
  have s2 := @sl_le q
  have hll : (vol C st none q e' p k).legs = legsP C st none := rfl
  let I : Nat → ArrS → Prop := fun i t => PEn C mz F (K + 3 * i) t ∧ Ls C st fun d => Lg C V qo e q e' hp hn x nwP (if d < i then 3 else 0) False t d
  let G : ArrS → Prop := fun t => Gone C mz F (K + 12) t ∧ Ls C st fun d => Lg C V qo e q e' hp hn x nwP 0 False t d
  have hr := all_rule (C := C) (st := st) (q := q) (e := e') (p := p) (k := k) (mz := mz) (on := fun v i s => parityvol_Volume_on__parityvol_Volume_bodies_1 v i [hdW e'.off e'.leg, e'.w, e'.p] s) (g := parityvol_Volume_all__parityvol_Volume_bodies_1_l1 (vol C st none q e' p k) [hdW e'.off e'.leg, e'.w, e'.p]) (fun _ _ _ _ => rfl) (I := I) (G := G) (fun i u hi hs hI => by
    obtain ⟨h1, h2⟩ := hI
    unfold parityvol_Volume_on__parityvol_Volume_bodies_1 parityvol_Volume_bodies_1
    rw [hll, legsP_len, Int.toNat_natCast, grd_t (decide_eq_true ⟨by omega, by omega⟩), legsP_at hi, show (vol C st none q e' p k).last_seq = q from rfl, slot_eq, show (legP C st none i).dev = xL i C.sz from rfl]; simp only [Option.bind_some]
    have hsz : ∀ u, (xL i C.sz).size u = some (C.sz : Int) := fun _ => span_size
    cases hm : mz i
    · rcases writeAllR (x := xL i C.sz) (l := [hdW e'.off e'.leg, e'.w, e'.p]) (at_ := ((slq q : Nat) : Int)) (m := (C.sz : Int)) (s := u) (I := fun j t => PEn C mz F (K + 3 * i + j) t ∧ Ls C st fun d => Lg C V qo e q e' hp hn x nwP (if d < i then 3 else if d = i then j else 0) False t d) (E := fun er t => er = 5 ∧ G t) (hsz u) (by omega) ⟨by omega, by simp; omega⟩ (fun j t hj hI' => by
        obtain ⟨g1, g2⟩ := hI'
        have hj3 : j < 3 := hj
        have e1 : ((slq q : Nat) : Int) + (j : Int) = ((slq q + j : Nat) : Int) := by push_cast; rfl
        have e2 : [hdW e'.off e'.leg, e'.w, e'.p].getD j 0 = bodyW e' j := by
          have : j = 0 ∨ j = 1 ∨ j = 2 := by omega
          rcases this with rfl | rfl | rfl <;> rfl
        rw [e1, e2]
        rcases g1.wr (v := bodyW e' j) (a := slq q + j) (by omega) hi (by omega) hm with ⟨t', w1, w2, w3⟩ | ⟨t', w1, w2, w3⟩
        · refine .inl ⟨t', w1, w2, fun d hd hds => ?_⟩
          have g3 : Lg C V qo e q e' hp hn x nwP _ False t d := g2 d hd hds
          show Lg C V qo e q e' hp hn x nwP _ False t' d
          by_cases hdi : d = i
          · subst hdi
            rw [if_neg (by omega), if_pos rfl] at g3 ⊢
            exact g3.body hsl hj3 w3
          · have g4 := g3.oth w3 (fun z => hdi z.symm)
            rw [if_neg hdi] at g4 ⊢; exact g4
        · refine .inr ⟨5, t', by decide, w1, rfl, w2.mono (by omega), fun d hd hds => ?_⟩
          exact ((g2 d hd hds).sam w3).weaken (fun _ z => z) (fun _ z => z) (fun _ z => z) id (Nat.zero_le _) id) ⟨h1, fun d hd hds => by
            have g3 : Lg C V qo e q e' hp hn x nwP _ False u d := h2 d hd hds
            show Lg C V qo e q e' hp hn x nwP _ False u d
            by_cases hdi : d < i
            · rw [if_pos hdi] at g3 ⊢; exact g3
            · rw [if_neg hdi] at g3 ⊢
              split <;> exact g3⟩ with ⟨t, g1, g2, g3⟩ | ⟨er, t, g0, g1, rfl, g2⟩
      · rw [g1]; simp only [Option.bind_some]
        rw [on1_ok (.inl rfl)]; simp only [Option.bind_some]
        refine .inl ⟨t, rfl, g2.mono (by simp; omega), fun d hd hds => ?_⟩
        have g4 : Lg C V qo e q e' hp hn x nwP _ False t d := g3 d hd hds
        show Lg C V qo e q e' hp hn x nwP _ False t d
        by_cases hdi : d < i
        · rw [if_pos hdi] at g4; rw [if_pos (by omega)]; exact g4
        · rw [if_neg hdi] at g4
          by_cases hde : d = i
          · rw [if_pos hde] at g4; rw [if_pos (by omega)]; exact g4
          · rw [if_neg hde] at g4; rw [if_neg (by omega)]; exact g4
      · rw [g1]; simp only [Option.bind_some]
        rw [on1_ok (.inr rfl)]; simp only [Option.bind_some]
        exact .inr (.inl ⟨t, rfl, g2⟩)
    · rcases writeAllR (x := xL i C.sz) (l := [hdW e'.off e'.leg, e'.w, e'.p]) (at_ := ((slq q : Nat) : Int)) (m := (C.sz : Int)) (s := u) (I := fun j t => j = 0 ∧ t = u) (E := fun er t => er = 6 ∧ t = u) (hsz u) (by omega) ⟨by omega, by simp; omega⟩ (fun j t hj hI' => by
        obtain ⟨rfl, rfl⟩ := hI'
        have e1 : ((slq q : Nat) : Int) + ((0 : Nat) : Int) = ((slq q : Nat) : Int) := by omega
        rw [e1]
        exact .inr ⟨6, t, by decide, h1.wrM (by omega) hi (by omega) hm, rfl, rfl⟩) ⟨rfl, rfl⟩ with ⟨t, g1, g2, g3⟩ | ⟨er, t, g0, g1, rfl, rfl⟩
      · cases g2
      · rw [g1]; simp only [Option.bind_some]
        rw [on1_fail (by decide) (by decide) hi hs]
        exact .inr (.inr ⟨by first | trivial | rfl, by first | trivial | rfl⟩)) (fun i u hi hs hI => by
    obtain ⟨h1, h2⟩ := hI
    refine ⟨h1.mono (by omega), fun d hd hds => ?_⟩
    have g : Lg C V qo e q e' hp hn x nwP _ False u d := h2 d hd hds
    show Lg C V qo e q e' hp hn x nwP _ False u d
    have : d ≠ i := fun z => hds (by rw [hs, z])
    by_cases hdi : d < i
    · rw [if_pos hdi] at g; rw [if_pos (by omega)]; exact g
    · rw [if_neg hdi] at g; rw [if_neg (by omega)]; exact g) FUEL 0 s (by omega) (by omega) ⟨he, fun d hd hds => by
      show Lg C V qo e q e' hp hn x nwP _ False s d
      rw [if_neg (by omega)]; exact hA d hd hds⟩
  unfold parityvol_Volume_bodies parityvol_Volume_all__parityvol_Volume_bodies_1
  rw [show [((shl_u64 (to_u64 (vol C st none q e' p k).last_offset) 3) ||| (to_u64 (vol C st none q e' p k).last_leg)), (vol C st none q e' p k).last_word, (vol C st none q e' p k).last_parity] = [hdW e'.off e'.leg, e'.w, e'.p] from rfl]
  rcases hr with ⟨t, h1, h2, h3⟩ | ⟨t, h1, h2⟩ | ⟨j, t, j1, j2, j3, h1, h2, h3⟩
  · rw [h1, seqO_inl]
    exact .inl ⟨t, rfl, h2.mono (by omega), fun d hd hds => by
      have g : Lg C V qo e q e' hp hn x nwP _ False t d := h3 d hd hds
      rw [if_pos hd] at g; exact g⟩
  · rw [h1, seqO_inr]
    exact .inr (.inl ⟨t, rfl, h2⟩)
  · rw [h1, seqO_inr]
    exact .inr (.inr ⟨j, t, j1, j2, j3, rfl, h2.mono (by omega), fun d hd hds => (h3 d hd hds).weaken (fun _ z => z) (fun _ z => z) (fun _ z => z) id (Nat.zero_le _) id⟩)
theorem flushP_eq (he : PEn C mz F K s) (hK : K ≤ 800000) (hb : 3 ≤ bn ∨ bc) (hA : Ls C st fun d => Lg C V qo e q e' hp hn x nwP bn bc s d) :
    (∃ t, parityvol_Volume_flush (vol C st none q e' p k) s = some (0, vol C st none q e' p k, t) ∧ PEn C mz F K t ∧ Ls C st fun d => Lg C V qo e q e' (fun c => hn c ∧ hp c) (fun c => hn c ∧ hp c) (fun d o => x d o ∧ ¬ nwP) nwP bn True t d) ∨
    (∃ j t, j < C.L ∧ mz j = true ∧ st ≠ some j ∧ parityvol_Volume_flush (vol C st none q e' p k) s = some (18, vol C st (some j) q e' p k, t) ∧ PEn C mz F K t ∧ Ls C st fun d => Lg C V qo e q e' hp hn x nwP bn bc t d) := by
  have hF := fuel_big
  have hL := C.hL
  have hll : (vol C st none q e' p k).legs = legsP C st none := rfl
  let I : Nat → ArrS → Prop := fun i t => PEn C mz F K t ∧ Ls C st fun d => Lg C V qo e q e' hp hn x nwP bn bc t d ∧ (d < i → Lg C V qo e q e' (fun c => hn c ∧ hp c) (fun c => hn c ∧ hp c) (fun d o => x d o ∧ ¬ nwP) nwP bn True t d)
  have hr := all_rule (C := C) (st := st) (q := q) (e := e') (p := p) (k := k) (mz := mz) (on := fun v i s => parityvol_Volume_on__parityvol_Volume_flush_1 v i s) (g := parityvol_Volume_all__parityvol_Volume_flush_1_l1 (vol C st none q e' p k)) (fun _ _ _ _ => rfl) (I := I) (G := fun _ => False) (fun i u hi hs hI => by
    obtain ⟨h1, h2⟩ := hI
    unfold parityvol_Volume_on__parityvol_Volume_flush_1 parityvol_Volume_flush_1
    rw [hll, legsP_len, Int.toNat_natCast, grd_t (decide_eq_true ⟨by omega, by omega⟩), legsP_at hi, show (legP C st none i).dev = xL i C.sz from rfl]
    cases hm : mz i
    · obtain ⟨t, w1, w2, w3⟩ := h1.fl (by omega) hi hm
      rw [w1]; simp only [Option.bind_some]
      rw [on1_ok (.inl rfl)]; simp only [Option.bind_some]
      refine .inl ⟨t, rfl, w2, fun d hd hds => ?_⟩
      obtain ⟨g1, g2⟩ := h2 d hd hds
      by_cases hdi : d = i
      · subst hdi
        have g3 := g1.flush h1 hd w3 hb
        refine ⟨?_, fun _ => g3⟩
        exact g3.weaken (fun _ z => z.2) (fun _ z => z.1) (fun _ z => z.1) id (Nat.le_refl _) (fun _ => trivial)
      · exact ⟨g1.othF w3 hd (fun z => hdi z.symm), fun z => (g2 (by omega)).othF w3 hd (fun z => hdi z.symm)⟩
    · rw [h1.flM (by omega) hi hm]; simp only [Option.bind_some]
      rw [on1_fail (by decide) (by decide) hi hs]
      exact .inr (.inr ⟨by first | trivial | rfl, by first | trivial | rfl⟩)) (fun i u hi hs hI => ⟨hI.1, fun d hd hds => ⟨(hI.2 d hd hds).1, fun z => (hI.2 d hd hds).2 (by have : d ≠ i := fun y => hds (by rw [hs, y]); omega)⟩⟩) FUEL 0 s (by omega) (by omega) ⟨he, fun d hd hds => ⟨hA d hd hds, fun z => absurd z (by omega)⟩⟩
  unfold parityvol_Volume_flush parityvol_Volume_all__parityvol_Volume_flush_1
  rcases hr with ⟨t, h1, h2, h3⟩ | ⟨t, h1, h2⟩ | ⟨j, t, j1, j2, j3, h1, h2, h3⟩
  · rw [h1, seqO_inl]
    exact .inl ⟨t, rfl, h2, fun d hd hds => (h3 d hd hds).2 hd⟩
  · exact h2.elim
  · rw [h1, seqO_inr]
    exact .inr ⟨j, t, j1, j2, j3, rfl, h2, fun d hd hds => (h3 d hd hds).1⟩
theorem heads_eq (he : PEn C mz F K s) (hK : K ≤ 800000) (hA : Ls C st fun d => Lg C V qo e q e' hp hn x nwP bn bc s d) :
    (∃ t, parityvol_Volume_heads (vol C st none q e' p k) s = some (0, vol C st none q e' true k, t) ∧ PEn C mz F (K + 4) t ∧ Ls C st fun d => Lg C V qo e q e' (fun c => hp c ∨ c = q) (· = q) x nwP bn bc t d) ∨
    (∃ t, parityvol_Volume_heads (vol C st none q e' p k) s = some (5, vol C st none q e' true k, t) ∧ Gone C mz F (K + 4) t ∧ Ls C st fun d => Lg C V qo e q e' (fun c => hp c ∨ c = q) (fun _ => True) x nwP bn bc t d) ∨
    (∃ j t, j < C.L ∧ mz j = true ∧ st ≠ some j ∧ parityvol_Volume_heads (vol C st none q e' p k) s = some (18, vol C st (some j) q e' true k, t) ∧ PEn C mz F (K + 4) t ∧ Ls C st fun d => Lg C V qo e q e' (fun c => hp c ∨ c = q) (fun _ => True) x nwP bn bc t d) := by
  have hF := fuel_big
  have hL := C.hL
  have hz := @PC.hsz C
  have hll : (vol C st none q e' true k).legs = legsP C st none := rfl
  let I : Nat → ArrS → Prop := fun i t => PEn C mz F (K + i) t ∧ Ls C st fun d => Lg C V qo e q e' (fun c => hp c ∨ c = q) (fun _ => True) x nwP bn bc t d ∧ (d < i → Lg C V qo e q e' (fun c => hp c ∨ c = q) (· = q) x nwP bn bc t d)
  let G : ArrS → Prop := fun t => Gone C mz F (K + 4) t ∧ Ls C st fun d => Lg C V qo e q e' (fun c => hp c ∨ c = q) (fun _ => True) x nwP bn bc t d
  have hr := all_rule (C := C) (st := st) (q := q) (e := e') (p := true) (k := k) (mz := mz) (on := fun v i s => parityvol_Volume_on__parityvol_Volume_heads_1 v i s) (g := parityvol_Volume_all__parityvol_Volume_heads_1_l1 (vol C st none q e' true k)) (fun _ _ _ _ => rfl) (I := I) (G := G) (fun i u hi hs hI => by
    obtain ⟨h1, h2⟩ := hI
    unfold parityvol_Volume_on__parityvol_Volume_heads_1 parityvol_Volume_heads_1
    have z0 : (0 : Int) = ((0 : Nat) : Int) := rfl
    rw [hll, legsP_len, Int.toNat_natCast, grd_t (decide_eq_true ⟨by omega, by omega⟩), legsP_at hi, show (legP C st none i).dev = xL i C.sz from rfl, show (vol C st none q e' true k).last_seq = q from rfl]
    cases hm : mz i
    · rcases h1.wr (v := q) (a := 0) (by omega) hi (by omega) hm with ⟨t, w1, w2, w3⟩ | ⟨t, w1, w2, w3⟩
      · rw [show (xL i C.sz).wr u (0 : Int) q = some (0, t) from w1]; simp only [Option.bind_some]
        rw [on1_ok (.inl rfl)]; simp only [Option.bind_some]
        refine .inl ⟨t, rfl, w2, fun d hd hds => ?_⟩
        obtain ⟨g1, g2⟩ := h2 d hd hds
        by_cases hdi : d = i
        · subst hdi
          have g3 := g1.head w3
          exact ⟨g3.weaken (fun _ z => z.elim id .inr) (fun _ _ => trivial) (fun _ z => z) id (Nat.le_refl _) id, fun _ => g3.weaken (fun _ z => z.elim id .inr) (fun _ z => z) (fun _ z => z) id (Nat.le_refl _) id⟩
        · exact ⟨g1.oth w3 (fun z => hdi z.symm), fun z => (g2 (by omega)).oth w3 (fun z => hdi z.symm)⟩
      · rw [show (xL i C.sz).wr u (0 : Int) q = some (5, t) from w1]; simp only [Option.bind_some]
        rw [on1_ok (.inr rfl)]; simp only [Option.bind_some]
        exact .inr (.inl ⟨t, rfl, w2.mono (by omega), fun d hd hds => (h2 d hd hds).1.sam w3⟩)
    · rw [show (xL i C.sz).wr u (0 : Int) q = some (6, u) from h1.wrM (a := 0) (by omega) hi (by omega) hm]; simp only [Option.bind_some]
      rw [on1_fail (by decide) (by decide) hi hs]
      exact .inr (.inr ⟨by first | trivial | rfl, by first | trivial | rfl⟩)) (fun i u hi hs hI => ⟨hI.1.mono (by omega), fun d hd hds => ⟨(hI.2 d hd hds).1, fun z => (hI.2 d hd hds).2 (by have : d ≠ i := fun y => hds (by rw [hs, y]); omega)⟩⟩) FUEL 0 s (by omega) (by omega) ⟨he, fun d hd hds => ⟨(hA d hd hds).weaken (fun _ z => .inl z) (fun _ _ => trivial) (fun _ z => z) id (Nat.le_refl _) id, fun z => absurd z (by omega)⟩⟩
  unfold parityvol_Volume_heads parityvol_Volume_all__parityvol_Volume_heads_1
  rw [show ({ vol C st none q e' p k with pending := true } : VolS) = vol C st none q e' true k from rfl]
  rcases hr with ⟨t, h1, h2, h3⟩ | ⟨t, h1, h2⟩ | ⟨j, t, j1, j2, j3, h1, h2, h3⟩
  · rw [h1, seqO_inl]
    exact .inl ⟨t, rfl, h2.mono (by omega), fun d hd hds => (h3 d hd hds).2 hd⟩
  · rw [h1, seqO_inr]
    exact .inr (.inl ⟨t, rfl, h2⟩)
  · rw [h1, seqO_inr]
    exact .inr (.inr ⟨j, t, j1, j2, j3, rfl, h2.mono (by omega), fun d hd hds => (h3 d hd hds).1⟩)
structure EV (C : PC) (V : Nat → Nat → UInt64) (e : PE) : Prop where
  off : e.off < C.O
  leg : e.leg < C.L
  ne : e.leg ≠ C.par e.off
  w : V e.leg e.off = e.w
  p : V (C.par e.off) e.off = e.p
theorem store_eq (hk0 : st = none ∨ k = 0) (he : PEn C mz F K s) (hK : K ≤ 800000) (hd : d < C.L) (ho : e'.off < C.O) (hx : ∀ d, d = e'.leg ∨ d = C.par e'.off → x d e'.off) (hde : d = e'.leg ∨ d = C.par e'.off) (hbn : bn ≤ 3) (hA : Ls C st fun d => Lg C V qo e q e' hp hn x False bn bc s d) {w : UInt64} :
    (∃ t, parityvol_Volume_store (vol C st none q e' p k) (d : Int) w s = some (0, vol C st none q e' p k, t) ∧ PEn C mz F (K + 1) t ∧ (Ls C st fun d => Lg C V qo e q e' hp hn x False bn bc t d) ∧ (st ≠ some d → now t d (16 + e'.off) = w) ∧ ∀ f, f ≠ d → now t f (16 + e'.off) = now s f (16 + e'.off)) ∨
    (∃ t, parityvol_Volume_store (vol C st none q e' p k) (d : Int) w s = some (5, vol C st none q e' p k, t) ∧ Gone C mz F (K + 1) t ∧ (Ls C st fun d => Lg C V qo e q e' hp hn x False bn bc t d)) ∨
    (mz d = true ∧ st ≠ some d ∧ parityvol_Volume_store (vol C st none q e' p k) (d : Int) w s = some (18, vol C st (some d) q e' p k, s)) := by
  have hO := @PC.hO C
  have hL := C.hL
  have hc := C.hc
  have hsz : C.sz = 16 + C.O := rfl
  have hll : (vol C st none q e' p k).legs = legsP C st none := rfl
  have e16 : (16 : Int) + (vol C st none q e' p k).last_offset = ((16 + e'.off : Nat) : Int) := by
    show (16 : Int) + (e'.off : Int) = _
    push_cast; rfl
  unfold parityvol_Volume_store
  rw [hll, legsP_len, Int.toNat_natCast, grd_t (decide_eq_true ⟨by omega, by omega⟩), legsP_at hd]
  by_cases hs : st = some d
  · have hk : k = 0 := hk0.elim (fun y => by rw [y] at hs; cases hs) id
    have hdv : e'.off / C.c ≤ e'.off := Nat.div_le_self _ _
    rw [if_pos (by simp [legP, hs]), show (vol C st none q e' p k).layout_chunk = (C.c : Int) from rfl, grd_t (decide_eq_true (by omega)), show (vol C st none q e' p k).filled = (k : Int) from rfl, show (vol C st none q e' p k).last_offset = (e'.off : Int) from rfl, tdivN, wrapN (by omega), if_pos (by rw [hk]; exact Int.natCast_nonneg _)]
    exact .inl ⟨s, rfl, he.mono (by omega), hA, fun z => absurd hs z, fun _ _ => rfl⟩
  · rw [if_neg (by simp [legP, hs])]
    unfold parityvol_Volume_on__parityvol_Volume_store_1 parityvol_Volume_store_1
    rw [hll, legsP_len, Int.toNat_natCast, grd_t (decide_eq_true ⟨by omega, by omega⟩), e16, grd_t (inI64_of (by omega)), legsP_at hd, show (legP C st none d).dev = xL d C.sz from rfl]
    cases hm : mz d
    · rcases he.wr (v := w) (a := 16 + e'.off) (by omega) hd (by omega) hm with ⟨t, w1, w2, w3⟩ | ⟨t, w1, w2, w3⟩
      · rw [w1]; simp only [Option.bind_some]
        rw [on1_ok (.inl rfl)]; simp only [Option.bind_some]
        refine .inl ⟨t, rfl, w2, fun f hf hfs => ?_, fun _ => by rw [w3.now, if_pos ⟨rfl, rfl⟩], fun f hf => by rw [w3.now, if_neg (fun z => hf z.1.symm)]⟩
        by_cases hfd : f = d
        · subst hfd
          exact (hA f hf hfs).word hbn (hx f hde) w3
        · exact (hA f hf hfs).oth w3 (fun z => hfd z.symm)
      · rw [w1]; simp only [Option.bind_some]
        rw [on1_ok (.inr rfl)]; simp only [Option.bind_some]
        exact .inr (.inl ⟨t, rfl, w2.mono (by omega), fun f hf hfs => (hA f hf hfs).sam w3⟩)
    · rw [he.wrM (by omega) hd (by omega) hm]; simp only [Option.bind_some]
      rw [on1_fail (by decide) (by decide) hd hs]; simp only [Option.bind_some]
      exact .inr (.inr ⟨by first | trivial | rfl, hs, by first | trivial | rfl⟩)
theorem apply_eq (hk0 : st = none ∨ k = 0) (he : PEn C mz F K s) (hK : K ≤ 700000) (hev : EV C V e') (hx : ∀ d, d = e'.leg ∨ d = C.par e'.off → x d e'.off) (hbn : bn ≤ 3) (hA : Ls C st fun d => Lg C V qo e q e' hp hn x False bn bc s d) :
    (∃ t, parityvol_Volume_apply (vol C st none q e' p k) s = some (0, vol C st none q e' false k, t) ∧ PEn C mz F (K + 2) t ∧ (Ls C st fun d => Lg C V qo e q e' hp hn x False bn bc t d ∧ ∀ o, exE C e' d o → now t d (16 + o) = V d o)) ∨
    (∃ t, parityvol_Volume_apply (vol C st none q e' p k) s = some (5, vol C st none q e' p k, t) ∧ Gone C mz F (K + 2) t ∧ (Ls C st fun d => Lg C V qo e q e' hp hn x False bn bc t d)) ∨
    (∃ j t, j < C.L ∧ mz j = true ∧ st ≠ some j ∧ parityvol_Volume_apply (vol C st none q e' p k) s = some (18, vol C st (some j) q e' p k, t) ∧ PEn C mz F (K + 2) t ∧ Ls C st fun d => Lg C V qo e q e' hp hn x False bn bc t d) := by
  have hpar := PC.parL hev.off
  have hp0 : ({ vol C st none q e' p k with pending := (vol C st none q e' p k).pending && decide ((0 : Int) ≠ 0) } : VolS) = vol C st none q e' false k := by cases p <;> rfl
  have hpt : ({ vol C st none q e' p k with pending := (vol C st none q e' p k).pending && decide ((5 : Int) ≠ 0) } : VolS) = vol C st none q e' p k := by cases p <;> rfl
  have hp18 : ∀ j, ({ vol C st (some j) q e' p k with pending := (vol C st (some j) q e' p k).pending && decide ((18 : Int) ≠ 0) } : VolS) = vol C st (some j) q e' p k := by intro j; cases p <;> rfl
  unfold parityvol_Volume_apply
  rw [show (⟨(vol C st none q e' p k).layout_n, (vol C st none q e' p k).layout_chunk, (vol C st none q e' p k).layout_rows⟩ : parityvol_layout) = ⟨(C.L : Int), (C.c : Int), (C.R : Int)⟩ from rfl, show (vol C st none q e' p k).last_offset = (e'.off : Int) from rfl, parityOf_eq hev.off, show (vol C st none q e' p k).last_leg = (e'.leg : Int) from rfl, show (vol C st none q e' p k).last_word = e'.w from rfl]; simp only [Option.bind_some]
  rcases store_eq (d := e'.leg) (w := e'.w) (p := p) hk0 he (by omega) hev.leg hev.off hx (.inl rfl) hbn hA with ⟨t, h1, h2, h3, h4, h5⟩ | ⟨t, h1, h2, h3⟩ | ⟨h0, h1, h2⟩
  · rw [h1]; simp only [Option.bind_some]
    rw [if_pos trivial, show (vol C st none q e' p k).last_parity = e'.p from rfl]
    rcases store_eq (d := C.par e'.off) (w := e'.p) (p := p) hk0 h2 (by omega) hpar hev.off hx (.inr rfl) hbn h3 with ⟨t2, g1, g2, g3, g4, g5⟩ | ⟨t2, g1, g2, g3⟩ | ⟨g0, g1, g2⟩
    · rw [g1]; simp only [Option.bind_some]
      rw [hp0]
      refine .inl ⟨t2, rfl, g2, fun d hd hds => ⟨g3 d hd hds, fun o ho => ?_⟩⟩
      obtain ⟨rfl, ho⟩ := ho
      by_cases hdp : d = C.par e'.off
      · subst hdp; rw [g4 hds, hev.p]
      · rcases ho with rfl | ho
        · rw [g5 _ hdp, h4 hds, hev.w]
        · exact absurd ho hdp
    · rw [g1]; simp only [Option.bind_some]
      rw [hpt]
      exact .inr (.inl ⟨t2, rfl, g2, g3⟩)
    · rw [g2]; simp only [Option.bind_some]
      rw [hp18]
      exact .inr (.inr ⟨_, t, hpar, g0, g1, rfl, h2.mono (by omega), h3⟩)
  · rw [h1]; simp only [Option.bind_some]
    rw [if_neg (by decide)]; simp only [Option.bind_some]
    rw [hpt]
    exact .inr (.inl ⟨t, rfl, h2.mono (by omega), h3⟩)
  · rw [h2]; simp only [Option.bind_some]
    rw [if_neg (by decide)]; simp only [Option.bind_some]
    rw [hp18]
    exact .inr (.inr ⟨_, s, hev.leg, h0, h1, rfl, he.mono (by omega), hA⟩)
end
end Go.Proofs
namespace Go.Proofs
open Go.VG
def Q0 (C : PC) (V : Nat → Nat → UInt64) (q : UInt64) (e : PE) (s : ArrS) (d : Nat) : Prop := Lg C V q e q e (· = q) (· = q) (fun d o => q ≠ 0 ∧ exE C e d o) True 0 False s d
def Hf (C : PC) (V : Nat → Nat → UInt64) (q : UInt64) (e : PE) (q' : UInt64) (e' : PE) (s : ArrS) (d : Nat) : Prop := Lg C V q e q' e' (fun c => c = q ∨ c = q') (fun _ => True) (fun _ _ => False) False 0 True s d
def Fu (C : PC) (V : Nat → Nat → UInt64) (q : UInt64) (e : PE) (s : ArrS) (d : Nat) : Prop := Lg C V 0 e q e (· = q) (fun _ => True) (exE C e) False 0 True s d
structure JV (C : PC) (V : Nat → Nat → UInt64) (q : UInt64) (e : PE) : Prop where
  even : ∀ o, o < C.O → xr (fun d => V d o) C.L = 0
  ev : q ≠ 0 → EV C V e
  sm : q.toNat ≤ 1000000000
structure JW (C : PC) (V : Nat → Nat → UInt64) (q : UInt64) (e : PE) : Prop where
  ev : q ≠ 0 → EV C V e
  sm : q.toNat ≤ 1000000000
theorem JV.jw {C : PC} {V : Nat → Nat → UInt64} {q : UInt64} {e : PE} (h : JV C V q e) : JW C V q e := ⟨h.ev, h.sm⟩
structure Ny (C : PC) (V : Nat → Nat → UInt64) (q : UInt64) (V' : Nat → Nat → UInt64) (q' : UInt64) (e' : PE) : Prop where
  q : q' = q + 1
  ev : EV C V' e'
  old : ∀ d o, ¬ exE C e' d o → V' d o = V d o
structure Nx (C : PC) (V : Nat → Nat → UInt64) (q : UInt64) (V' : Nat → Nat → UInt64) (q' : UInt64) (e' : PE) : Prop where
  q : q' = q + 1
  ev : EV C V' e'
  old : ∀ d o, ¬ exE C e' d o → V' d o = V d o
  even : ∀ o, o < C.O → xr (fun d => V' d o) C.L = 0
section
variable {C : PC} {V V' : Nat → Nat → UInt64} {st fl : Option Nat} {qo q q' : UInt64} {e e' : PE} {hp hn hp' hn' : UInt64 → Prop} {x x' : Nat → Nat → Prop} {nwP nwP' bc bc' : Prop} {bn bn' k i d f o a : Nat} {mz : Nat → Bool} {F : Prop} {K K' : Nat} {s t : ArrS} {v w : UInt64} {p : Bool}
theorem seq_add (h : q.toNat ≤ 1000000000) : (q + 1).toNat = q.toNat + 1 := by
  rw [UInt64.toNat_add]
  have : (1 : UInt64).toNat = 1 := rfl
  rw [this, Nat.mod_eq_of_lt (by omega)]
theorem seq_ne (h : q.toNat ≤ 1000000000) : q + 1 ≠ 0 := fun z => by
  have := seq_add h
  rw [z] at this
  have e0 : (0 : UInt64).toNat = 0 := rfl
  omega
theorem seq_sl (h : q.toNat ≤ 1000000000) : slq q ≠ slq (q + 1) := by
  unfold slq
  rw [seq_add h]
  omega
theorem Nx.ny (h : Nx C V q V' q' e') : Ny C V q V' q' e' := ⟨h.q, h.ev, h.old⟩
theorem Nx.ne (h : Nx C V q V' q' e') (hs : q.toNat ≤ 1000000000) : q' ≠ 0 := by rw [h.q]; exact seq_ne hs
theorem Nx.jv (h : Nx C V q V' q' e') (hs : q.toNat ≤ 999999999) : JV C V' q' e' := ⟨h.even, fun _ => h.ev, by rw [h.q, seq_add (by omega)]; omega⟩
theorem Lg.reV (h : Lg C V qo e q e' hp hn x nwP bn bc s d) (hx : ∀ o, ¬ exE C e' d o → ¬ x d o) (hV : ∀ o, ¬ exE C e' d o → V' d o = V d o) : Lg C V' 0 e' q e' hp hn (exE C e') False bn bc s d :=
  ⟨h.hd, h.hn, fun z => absurd rfl z, fun o ho hne c hc => by rw [hV o hne]; exact h.dt o ho (hx o hne) c hc, fun z => z.elim, h.nb, h.nc⟩
theorem Q0.start (h : Q0 C V q e s d) : Lg C V q e q' e' (· = q) (· = q) (fun d o => q ≠ 0 ∧ exE C e d o) True 0 False s d :=
  ⟨h.hd, h.hn, h.bd, h.dt, h.nw, fun i hi => absurd hi (by omega), fun z => z.elim⟩
theorem Fu.done (he : PEn C mz F K s) (hd : d < C.L) (hq : q ≠ 0) (h : Lg C V 0 e q e (· = q) (· = q) (exE C e) False 0 True s d) (hn : ∀ o, exE C e d o → now s d (16 + o) = V d o) : Q0 C V q e s d := by
  have hsz : C.sz = 16 + C.O := rfl
  refine ⟨h.hd, h.hn, fun _ => h.nc trivial, fun o ho hx => h.dt o ho (fun z => hx ⟨hq, z⟩), fun _ o ho => ?_, fun i hi => absurd hi (by omega), fun z => z.elim⟩
  by_cases z : exE C e d o
  · exact hn o z
  · exact h.dt o ho z _ (he.now_cand hd (by omega))
theorem run2_eq (hk0 : st = none ∨ k = 0) (he : PEn C mz F K s) (hK : K ≤ 600000) (hq : q ≠ 0) (hev : EV C V' e') (hx : ∀ d o, ¬ exE C e' d o → ¬ (x d o ∧ ¬ nwP)) (hV : ∀ d o, ¬ exE C e' d o → V' d o = V d o) (hA : Ls C st fun d => Lg C V qo e q e' hp hn x nwP bn True s d) :
    (∃ t, parityvol_run_2 (vol C st none q e' p k) s = some (0, vol C st none q e' false k, t) ∧ PEn C mz F (K + 6) t ∧ Ls C st fun d => Q0 C V' q e' t d) ∨
    (∃ t, parityvol_run_2 (vol C st none q e' p k) s = some (5, vol C st none q e' true k, t) ∧ Gone C mz F (K + 6) t ∧ ((Ls C st fun d => Lg C V qo e q e' (fun c => hp c ∨ c = q) (fun _ => True) x nwP bn True t d) ∨ Ls C st fun d => Fu C V' q e' t d)) ∨
    (∃ j t, j < C.L ∧ mz j = true ∧ st ≠ some j ∧ parityvol_run_2 (vol C st none q e' p k) s = some (18, vol C st (some j) q e' true k, t) ∧ PEn C mz F (K + 6) t ∧ ((Ls C st fun d => Lg C V qo e q e' (fun c => hp c ∨ c = q) (fun _ => True) x nwP bn True t d) ∨ Ls C st fun d => Fu C V' q e' t d)) := by
  unfold parityvol_run_2
  rcases heads_eq (p := p) (k := k) he (by omega) hA with ⟨t, h1, h2, h3⟩ | ⟨t, h1, h2, h3⟩ | ⟨j, t, j1, j2, j3, h1, h2, h3⟩
  · rw [h1]; simp only [Option.bind_some]
    rw [if_neg (by simp)]
    rcases flushP_eq (p := true) (k := k) h2 (by omega) (.inr trivial) h3 with ⟨u, g1, g2, g3⟩ | ⟨j, u, j1, j2, j3, g1, g2, g3⟩
    · rw [g1]; simp only [Option.bind_some]
      rw [if_neg (by simp)]
      have hB : Ls C st fun d => Lg C V' 0 e' q e' (· = q) (· = q) (exE C e') False 0 True u d := g3.imp fun d _ _ h =>
        ((h.reV (V' := V') (hx d) (hV d)).weaken (fun _ z => z.1) (fun _ z => z.1) (fun _ z => z) id (Nat.zero_le _) id)
      rcases apply_eq (p := true) (bn := 0) hk0 g2 (by omega) hev (fun d hd => ⟨rfl, hd⟩) (by omega) hB with ⟨r, a1, a2, a3⟩ | ⟨r, a1, a2, a3⟩ | ⟨j, r, j1, j2, j3, a1, a2, a3⟩
      · rw [a1]; simp only [Option.bind_some]
        rw [if_neg (by simp)]
        exact .inl ⟨r, rfl, a2.mono (by omega), fun d hd hds => Fu.done a2 hd hq (a3 d hd hds).1 (a3 d hd hds).2⟩
      · rw [a1]; simp only [Option.bind_some]
        rw [if_pos (by simp)]
        exact .inr (.inl ⟨r, rfl, a2.mono (by omega), .inr (a3.imp fun d _ _ h => h.weaken (fun _ z => z) (fun _ _ => trivial) (fun _ z => z) id (Nat.le_refl _) id)⟩)
      · rw [a1]; simp only [Option.bind_some]
        rw [if_pos (by simp)]
        exact .inr (.inr ⟨j, r, j1, j2, j3, rfl, a2.mono (by omega), .inr (a3.imp fun d _ _ h => h.weaken (fun _ z => z) (fun _ _ => trivial) (fun _ z => z) id (Nat.le_refl _) id)⟩)
    · rw [g1]; simp only [Option.bind_some]
      rw [if_pos (by simp)]
      exact .inr (.inr ⟨j, u, j1, j2, j3, rfl, g2.mono (by omega), .inl (g3.imp fun d _ _ h => h.weaken (fun _ z => z) (fun _ _ => trivial) (fun _ z => z) id (Nat.le_refl _) id)⟩)
  · rw [h1]; simp only [Option.bind_some]
    rw [if_pos (by simp)]
    exact .inr (.inl ⟨t, rfl, h2.mono (by omega), .inl h3⟩)
  · rw [h1]; simp only [Option.bind_some]
    rw [if_pos (by simp)]
    exact .inr (.inr ⟨j, t, j1, j2, j3, rfl, h2.mono (by omega), .inl h3⟩)
theorem run_eq (hk0 : st = none ∨ k = 0) (he : PEn C mz F K s) (hK : K ≤ 500000) (hq : q ≠ 0) (hsl : qo ≠ 0 → slq qo ≠ slq q) (hev : EV C V' e') (hx : ∀ d o, ¬ exE C e' d o → ¬ (x d o ∧ ¬ nwP)) (hV : ∀ d o, ¬ exE C e' d o → V' d o = V d o) (hA : Ls C st fun d => Lg C V qo e q e' hp hn x nwP 0 False s d) :
    (∃ t, parityvol_Volume_commit (vol C st none q e' p k) s = some (0, vol C st none q e' false k, t) ∧ PEn C mz F (K + 18) t ∧ Ls C st fun d => Q0 C V' q e' t d) ∨
    (∃ pd t, parityvol_Volume_commit (vol C st none q e' p k) s = some (5, vol C st none q e' pd k, t) ∧ Gone C mz F (K + 18) t ∧ (pd = p ∧ (Ls C st fun d => Lg C V qo e q e' hp hn x nwP 0 False t d) ∨ pd = true ∧ ((Ls C st fun d => Lg C V qo e q e' (fun c => hp c ∨ c = q) (fun _ => True) (fun d o => x d o ∧ ¬ nwP) nwP 0 True t d) ∨ Ls C st fun d => Fu C V' q e' t d))) ∨
    (∃ j pd t, j < C.L ∧ mz j = true ∧ st ≠ some j ∧ parityvol_Volume_commit (vol C st none q e' p k) s = some (18, vol C st (some j) q e' pd k, t) ∧ PEn C mz F (K + 18) t ∧ (pd = p ∧ (Ls C st fun d => Lg C V qo e q e' hp hn x nwP 0 False t d) ∨ pd = true ∧ ((Ls C st fun d => Lg C V qo e q e' (fun c => hp c ∨ c = q) (fun _ => True) (fun d o => x d o ∧ ¬ nwP) nwP 0 True t d) ∨ Ls C st fun d => Fu C V' q e' t d))) := by
  unfold parityvol_Volume_commit parityvol_Volume_steps parityvol_run
  simp only [Option.bind_some]
  rcases bodies_eq (p := p) (k := k) he (by omega) hsl hA with ⟨t, h1, h2, h3⟩ | ⟨t, h1, h2, h3⟩ | ⟨j, t, j1, j2, j3, h1, h2, h3⟩
  · rw [h1]; simp only [Option.bind_some]
    rw [if_neg (by simp)]
    rcases flushP_eq (p := p) (k := k) h2 (by omega) (.inl (Nat.le_refl 3)) h3 with ⟨u, g1, g2, g3⟩ | ⟨j, u, j1, j2, j3, g1, g2, g3⟩
    · rw [g1]; simp only [Option.bind_some]
      rw [if_neg (by simp)]
      have hr := run2_eq (p := p) (V' := V') hk0 g2 (by omega) hq hev (fun d o hne z => hx d o hne ⟨z.1.1, z.2⟩) hV g3
      unfold parityvol_run_2 at hr
      rcases hr with ⟨r, a1, a2, a3⟩ | ⟨r, a1, a2, a3⟩ | ⟨j, r, j1, j2, j3, a1, a2, a3⟩
      · rw [a1]
        exact .inl ⟨r, rfl, a2.mono (by omega), a3⟩
      · rw [a1]
        exact .inr (.inl ⟨true, r, rfl, a2.mono (by omega), .inr ⟨rfl, a3.imp (fun h => h.imp fun d _ _ h => h.weaken (fun _ z => z.imp (fun y => y.2) id) (fun _ z => z) (fun _ z => z) id (Nat.zero_le _) id) id⟩⟩)
      · rw [a1]
        exact .inr (.inr ⟨j, true, r, j1, j2, j3, rfl, a2.mono (by omega), .inr ⟨rfl, a3.imp (fun h => h.imp fun d _ _ h => h.weaken (fun _ z => z.imp (fun y => y.2) id) (fun _ z => z) (fun _ z => z) id (Nat.zero_le _) id) id⟩⟩)
    · rw [g1]; simp only [Option.bind_some]
      rw [if_pos (by simp)]
      exact .inr (.inr ⟨j, p, u, j1, j2, j3, rfl, g2.mono (by omega), .inl ⟨rfl, g3.imp fun d _ _ h => h.weaken (fun _ z => z) (fun _ z => z) (fun _ z => z) id (Nat.zero_le _) id⟩⟩)
  · rw [h1]; simp only [Option.bind_some]
    rw [if_pos (by simp)]
    exact .inr (.inl ⟨p, t, rfl, h2.mono (by omega), .inl ⟨rfl, h3⟩⟩)
  · rw [h1]; simp only [Option.bind_some]
    rw [if_pos (by simp)]
    exact .inr (.inr ⟨j, p, t, j1, j2, j3, rfl, h2.mono (by omega), .inl ⟨rfl, h3⟩⟩)
def Pe (C : PC) (st : Option Nat) (V : Nat → Nat → UInt64) (q : UInt64) (e : PE) (V' : Nat → Nat → UInt64) (q' : UInt64) (e' : PE) (s : ArrS) : Prop := (Ls C st fun d => Hf C V q e q' e' s d) ∨ Ls C st fun d => Fu C V' q' e' s d
def Qs (C : PC) (st : Option Nat) (V : Nat → Nat → UInt64) (q : UInt64) (e : PE) (s : ArrS) : Prop := Ls C st fun d => Q0 C V q e s d
theorem ready_0 : parityvol_Volume_ready (vol C st none q e false k) s = some (0, vol C st none q e false k, s) := by
  unfold parityvol_Volume_ready
  rw [pfailed_eq]; simp only [Option.bind_some]
  rw [show flL none C.L = [] from rfl, if_neg (by simp), if_neg (by simp [vol])]
theorem Qs.row (h : Qs C st V q e s) (hj : JV C V q e) (ho : o < C.O) : Row C st s V o := ⟨fun d hd hs => (h d hd hs).nw trivial o ho, hj.even o ho⟩
def wrE (C : PC) (V : Nat → Nat → UInt64) (a : Nat) (w : UInt64) : PE := ⟨C.off a, C.leg a, w, V (C.leg a) (C.off a) ^^^ w ^^^ V (C.par (C.off a)) (C.off a)⟩
def wrV (C : PC) (V : Nat → Nat → UInt64) (a : Nat) (w : UInt64) : Nat → Nat → UInt64 := fun d o => if o = C.off a then (if d = C.par o then V (C.leg a) o ^^^ w ^^^ V d o else if d = C.leg a then w else V d o) else V d o
theorem wr_nx (ha : a < C.D) (hj : JV C V q e) : Nx C V q (wrV C V a w) (q + 1) (wrE C V a w) := by
  obtain ⟨p1, p2, p3, -⟩ := PC.plc ha
  have p4 := PC.parL p2
  refine ⟨rfl, ⟨p2, p1, p3, ?_, ?_⟩, fun d o hne => ?_, fun o ho => ?_⟩
  · show wrV C V a w (C.leg a) (C.off a) = w
    unfold wrV; rw [if_pos rfl, if_neg p3, if_pos rfl]
  · show wrV C V a w (C.par (C.off a)) (C.off a) = _
    unfold wrV; rw [if_pos rfl, if_pos rfl]; rfl
  · unfold wrV
    by_cases z : o = C.off a
    · subst z
      rw [if_pos rfl, if_neg (show ¬ d = C.par (C.off a) from fun y => hne ⟨rfl, .inr y⟩), if_neg (show ¬ d = C.leg a from fun y => hne ⟨rfl, .inl y⟩)]
    · rw [if_neg z]
  · by_cases z : o = C.off a
    · subst z
      have e1 : (fun d => wrV C V a w d (C.off a)) = upd (upd (fun d => V d (C.off a)) (C.leg a) w) (C.par (C.off a)) (V (C.leg a) (C.off a) ^^^ w ^^^ V (C.par (C.off a)) (C.off a)) := by
        funext d
        unfold wrV upd
        rw [if_pos rfl]
        by_cases y : d = C.par (C.off a)
        · rw [if_pos y, if_pos y, y]
        · rw [if_neg y, if_neg y]
      rw [e1, xr_upd p4, xr_upd p1, hj.even _ ho, show upd (fun d => V d (C.off a)) (C.leg a) w (C.par (C.off a)) = V (C.par (C.off a)) (C.off a) from if_neg (fun y => p3 y.symm)]
      generalize V (C.leg a) (C.off a) = A
      generalize V (C.par (C.off a)) (C.off a) = B
      have : (0 : UInt64) ^^^ A ^^^ w ^^^ B ^^^ (A ^^^ w ^^^ B) = (A ^^^ w ^^^ B) ^^^ (A ^^^ w ^^^ B) := by rw [UInt64.zero_xor]
      rw [this, UInt64.xor_self]
    · have e1 : (fun d => wrV C V a w d o) = fun d => V d o := by funext d; unfold wrV; rw [if_neg z]
      rw [e1]; exact hj.even o ho
theorem wrV_at (ha : a < C.D) (hi : i < C.D) : wrV C V a w (C.leg i) (C.off i) = if i = a then w else V (C.leg i) (C.off i) := by
  obtain ⟨p1, p2, p3, -⟩ := PC.plc ha
  obtain ⟨q1, q2, q3, -⟩ := PC.plc hi
  unfold wrV
  by_cases z : i = a
  · subst z
    rw [if_pos rfl, if_neg q3, if_pos rfl, if_pos rfl]
  · rw [if_neg z]
    by_cases y : C.off i = C.off a
    · rw [if_pos y, if_neg q3, if_neg (fun u => z (PC.inj hi ha u y))]
    · rw [if_neg y]
end
end Go.Proofs
namespace Go.Proofs
open Go.VG
theorem spans_l1 {s : ArrS} (h8 : s.drv.length ≤ 1000) (hz : ∀ i, i < s.drv.length → 1 ≤ s.size i ∧ s.size i ≤ 65536) : ∀ (N i : Nat) (acc : List Dvc), s.drv.length - i < N → i ≤ s.drv.length →
    acc = (List.range i).map (fun i => Dvc.span ((i : Nat) : Int) 0 ((s.size i : Nat) : Int)) → volumegroupmake_Spans_l1 s N acc i = some (.inl (spansA s))
  | 0, _, _, h, _, _ => absurd h (by omega)
  | N + 1, i, acc, h, hi, ha => by
    show volumegroupmake_Spans_l1_b _ _ _ _ = _
    unfold volumegroupmake_Spans_l1_b
    subst ha
    by_cases hlt : i < s.drv.length
    · have h1 := hz i hlt
      rw [if_pos (by omega), sizeI_of hlt, span_mk (by omega) (by omega) (by rw [sizeI_of hlt]; omega) (by rw [sizeI_of hlt]; omega)]
      simp only [Option.bind_some, Option.elim]
      rw [if_neg (by simp), grd_t (inLen_of (by simp; omega)), grd_t (inN64_of (by omega))]
      refine spans_l1 h8 hz N (i + 1) _ (by omega) (by omega) ?_
      simp [List.range_succ]
    · rw [if_neg (by omega)]
      have : i = s.drv.length := by omega
      rw [this]; rfl
theorem spans_eq {s : ArrS} (h8 : s.drv.length ≤ 1000) (hz : ∀ i, i < s.drv.length → 1 ≤ s.size i ∧ s.size i ≤ 65536) : volumegroupmake_Spans s = some (spansA s) := by
  unfold volumegroupmake_Spans
  have hF := fuel_big
  generalize FUEL = N at hF ⊢
  rw [spans_l1 h8 hz N 0 _ (by omega) (by omega) (by simp)]; rfl
end Go.Proofs
set_option linter.unusedSimpArgs false
set_option linter.unusedVariables false
set_option maxRecDepth 20000
set_option maxHeartbeats 4000000
namespace Go.Proofs
open Go.VG
theorem bld_121_0_1_2_3_4 (v0 : Int) (v1 : Int) (v2 : Int) (v3 : Int) (v4 : Int) : ∀ w, (Instr.build 121 (#[(0, .int .u64 v0), (1, .int .i64 v1), (2, .int .i64 v2), (3, .int .u64 v3), (4, .int .u64 v4)] : Array (Nat × Value))).run Tryz.prog w = .ok (.agg #[.int .u64 v0, .int .i64 v1, .int .i64 v2, .int .u64 v3, .int .u64 v4]) w := fun w => by kernel_rfl
theorem bld_123_0 (v0 : Int) (v1 : Int) (v2 : Int) : ∀ w, (Instr.build 123 (#[(0, .agg #[.int .i64 v0, .int .i64 v1, .int .i64 v2])] : Array (Nat × Value))).run Tryz.prog w = .ok (.agg #[.int .i64 v0, .int .i64 v1, .int .i64 v2, .slice none 0 0, .int .u64 0, .int .i64 (0 : Int), .int .i64 (0 : Int), .int .u64 0, .int .u64 0, .bool false, .int .i64 (0 : Int)]) w := fun w => by kernel_rfl
theorem bld_126_0_1 (v0 : TypeId) (v1 : Value) (v2 : Bool) : ∀ w, (Instr.build 126 (#[(0, .iface v0 v1), (1, .bool v2)] : Array (Nat × Value))).run Tryz.prog w = .ok (.agg #[.iface v0 v1, .bool v2, .bool false]) w := fun w => by kernel_rfl
theorem bs_119_1_0 (v0 : TypeId) (v1 : Value) (v2 : Bool) (v3 : Bool) : BuildsSlice Tryz.prog 119 1 [(0, .agg #[.iface v0 v1, .bool v2, .bool v3])] 126 [.iface v0 v1, .bool v2, .bool v3] := fun w => by kernel_rfl
def parityvol_Volume_replay_1 (x_0 : Dvc) (p1_v : VolS) (s : ArrS) : Option (Int × VolS) :=
  Option.bind (Dvc.rd x_0 s (0 : Int)) fun r2 =>
  if ((r2.2 ≠ (0 : Int)) ∨ ((r2.1.toNat : Int) ≤ (p1_v.last_seq.toNat : Int))) then
    some (r2.2, p1_v)
  else
    Option.bind (parityvol_slot r2.1) fun r18 =>
    Option.bind (block_ReadAll x_0 r18 (3 : Int) s) fun r20 =>
    if (r20.2 = (0 : Int)) then
      grd (decide (0 < r20.1.length)) <|
      grd (decide (0 < r20.1.length)) <|
      grd (decide (1 < r20.1.length)) <|
      grd (decide (2 < r20.1.length)) <|
      some ((r20.2, { p1_v with last_seq := r2.1, last_offset := (IntKind.i64.wrap (((shr_u64 (r20.1.getD 0 0) 3)).toNat : Int)), last_leg := (IntKind.i64.wrap ((((r20.1.getD 0 0) &&& (7 : UInt64))).toNat : Int)), last_word := (r20.1.getD 1 0), last_parity := (r20.1.getD 2 0) }))
    else
      some (r20.2, p1_v)
theorem L_parityvol_Volume_replay_1 {W : World} {vx_0 : IfH} {bp1 : Nat} {bp1_v : Nat} {bs : Nat} {x_0 : Dvc} {p1_v : VolS} {s : ArrS} {r : Int × VolS} (h : parityvol_Volume_replay_1 x_0 p1_v s = some r) :
    CSpec Tryz.prog W 104 [IfH.v vx_0, ptr bp1 0] [DevP bs x_0 vx_0, blk bp1 65 [ptr bp1_v 0], VolP bs bp1_v p1_v, Arr bs s] (fun x : Unit => .int .i64 r.1) (fun _ => True) (fun x F => DevP bs x_0 vx_0 :: blk bp1 65 [ptr bp1_v 0] :: VolP bs bp1_v r.2 :: Arr bs s :: F) := by
 refine CSpec.of_body Tryz.func104 rfl Tryz.ntmps104 rfl fun F => ?_
 show CJ _ _ _ _ _ _ (_ :: _ :: _ :: _ :: F)
 unfold parityvol_Volume_replay_1 at h
 refine sR <| oA rfl rfl <| nT <| sR <| oM rfl rfl <| RJ_pure (fun h hh => DevP_dep h (stars_perm (del0 (A := DevP bs x_0 vx_0)).out h hh)) fun hdp1 => ?_
 obtain ⟨r2, hr3, h⟩ := bind_e h
 refine oO <| O_callI rfl (dev_Read hr3 hdp1) rfl (Dels.cons del0 (Dels.cons del2 Dels.nil)) rfl fun _ _ => oM rfl rfl <| oP (P_extract rfl rfl) rfl <| oP (P_extract rfl rfl) rfl <| oA rfl rfl <| oA rfl rfl <| nT <| CJ_seq <| sR <| oM rfl rfl <| oP (P_neq (a := r2.2) (b := (0 : Int)) rfl rfl) rfl <| oM rfl rfl <| RJ_mbF rfl rfl rfl (fun hG4 => have hP5 : ¬ (r2.2 ≠ (0 : Int)) := nP (bT_dec) hG4; VJ_P (P_move rfl)) <| RJ_mbF rfl rfl rfl (fun hG6 => have hP7 : ¬ (r2.2 ≠ (0 : Int)) := nP (bT_dec) hG6; V_load rfl foc2 rfl Tryz.isAgg65) <| RJ_mbF rfl rfl rfl (fun hG8 => have hP9 : ¬ (r2.2 ≠ (0 : Int)) := nP (bT_dec) hG8; VJ_P (P_nilCheck (mbx hG8 rfl))) <| RJ_mbF rfl rfl rfl (fun hG10 => have hP11 : ¬ (r2.2 ≠ (0 : Int)) := nP (bT_dec) hG10; VJ_P (P_fieldAddr (mbx hG10 rfl) ⟨_, _, _, Tryz.runUnderlying123, rfl, rfl, Tryz.sizeOf121, rfl⟩)) <| RJ_mbF rfl rfl rfl (fun hG12 => have hP13 : ¬ (r2.2 ≠ (0 : Int)) := nP (bT_dec) hG12; VJ_P (P_fieldAddr (mbx hG12 rfl) ⟨_, _, _, Tryz.runUnderlying121, rfl, rfl, Tryz.sizeOf44, rfl⟩)) <| RJ_mbF rfl rfl rfl (fun hG14 => have hP15 : ¬ (r2.2 ≠ (0 : Int)) := nP (bT_dec) hG14; VJ_entX (Ent.transX (t3_ eR) (VolP_open (l := p1_v))) (fun _ => V_load (mbx hG14 rfl) foc0 rfl Tryz.isAgg44)) <| RJ_mbF rfl rfl rfl (fun hG16 => have hP17 : ¬ (r2.2 ≠ (0 : Int)) := nP (bT_dec) hG16; VJ_P (P_leq (a := (r2.1.toNat : Int)) (b := (p1_v.last_seq.toNat : Int)) (mbx hG16 rfl) (mbx hG16 rfl))) <| oP (P_pickOr rfl rfl (fun hh => mbx (not_f hh) rfl)) rfl <| nT ?_
 refine CJ_condP rfl (bT_or bT_dec bT_dec) (fun hg1 => ?_) (fun hg1 => ?_)
 ·
  replace h := ite_t hg1 h
  refine sR <| oM rfl rfl <| oA rfl rfl <| nT <| CJ_ret <| QJ_then_ret ?_
  cases h
  exact fE (res1 Tryz.results104 rfl) () (t0_ (t1_ (t1_ eR)))
 ·
  replace h := ite_f hg1 h
  refine kT <| sR <| oM rfl rfl <| oM rfl rfl ?_
  obtain ⟨r18, hr19, h⟩ := bind_e h
  refine oO <| O_call (L_parityvol_slot hr19) rfl Tryz.call85 Dels.nil rfl fun _ _ => ?_
  obtain ⟨r20, hr21, h⟩ := bind_e h
  refine oO <| O_call (L_block_ReadAll hr21) rfl Tryz.call105 (Dels.cons del0 (Dels.cons del0 Dels.nil)) rfl fun X22 _ => oM rfl rfl <| oP (P_extract (v := X22.v) rfl rfl) rfl <| oP (P_extract rfl rfl) rfl <| oA rfl rfl <| oA rfl rfl <| nT <| CJ_seq <| sR <| oM rfl rfl <| oP (P_eql (a := r20.2) (b := (0 : Int)) rfl rfl) rfl <| nT <| CJ_condP rfl bT_dec (fun hg2 => ?_) (fun hg2 => ?_)
  ·
   replace h := ite_t hg2 h
   refine CJ_entX (Ent.transX (t4_ eR) (VolP_open (l := p1_v))) fun oc24 => CJ_pure (fun h hh => Rs_len (stars_perm (del2 (A := Rs (DevP bs) (p1_v.legs.map prtS.dev) oc24.2)).out h hh)) fun hdl26 => lC del1 fun hlen27 => ?_
   rw [mk_prt_len (by have := hdl26; simpa using this)] at hlen27
   refine AJ_startH 2097152 (by kernel_rfl) rfl <| aV 0 1 rfl rfl (GY_none rfl) eR (V_load rfl foc6 rfl Tryz.isAgg65) rfl <| aN 1 3 rfl rfl (P_move rfl) rfl <| aN 2 7 rfl rfl (P_move rfl) rfl ?_
   obtain ⟨hg3, h⟩ := grd_de h
   refine aV 3 15 rfl rfl (GY_none rfl) eR (V_index (i := 0) rfl rfl rfl hg3 foc5 (Reads.sl _ _ _) Tryz.runUnderlying43 Tryz.sizeOf44) rfl <| aV 4 31 rfl rfl (GY_none rfl) eR (V_loadE rfl rfl hg3 foc5 (Reads.sl _ _ _) rfl rfl Tryz.isAgg44) rfl <| aN 5 63 rfl rfl (P_shr_u64 (a := (r20.1.getD 0 0)) (m := 3) rfl rfl rfl) rfl <| aN 6 127 rfl rfl (P_conv rfl Tryz.runUnderlying44 Tryz.runUnderlying3) rfl <| aN 7 255 rfl rfl (P_move rfl) rfl ?_
   obtain ⟨hg4, h⟩ := grd_de h
   refine aV 8 511 rfl rfl (GY_none rfl) eR (V_index (i := 0) rfl rfl rfl hg4 foc5 (Reads.sl _ _ _) Tryz.runUnderlying43 Tryz.sizeOf44) rfl <| aV 9 1023 rfl rfl (GY_none rfl) eR (V_loadE rfl rfl hg4 foc5 (Reads.sl _ _ _) rfl rfl Tryz.isAgg44) rfl <| aN 10 2047 rfl rfl (P_and_u64 (a := (r20.1.getD 0 0)) (b := (7 : UInt64)) rfl rfl) rfl <| aN 11 4095 rfl rfl (P_conv rfl Tryz.runUnderlying44 Tryz.runUnderlying3) rfl <| aN 12 8191 rfl rfl (P_move rfl) rfl ?_
   obtain ⟨hg5, h⟩ := grd_de h
   refine aV 13 16383 rfl rfl (GY_none rfl) eR (V_index (i := 1) rfl rfl rfl hg5 foc5 (Reads.sl _ _ _) Tryz.runUnderlying43 Tryz.sizeOf44) rfl <| aV 14 32767 rfl rfl (GY_none rfl) eR (V_loadE rfl rfl hg5 foc5 (Reads.sl _ _ _) rfl rfl Tryz.isAgg44) rfl <| aN 15 65535 rfl rfl (P_move rfl) rfl ?_
   obtain ⟨hg6, h⟩ := grd_de h
   refine aV 16 131071 rfl rfl (GY_none rfl) eR (V_index (i := 2) rfl rfl rfl hg6 foc5 (Reads.sl _ _ _) Tryz.runUnderlying43 Tryz.sizeOf44) rfl <| aV 17 262143 rfl rfl (GY_none rfl) eR (V_loadE rfl rfl hg6 foc5 (Reads.sl _ _ _) rfl rfl Tryz.isAgg44) rfl <| aN 18 524287 rfl rfl (P_build rfl (bld_121_0_1_2_3_4 _ _ _ _ _)) rfl <| aN 19 1048575 rfl rfl (P_nilCheck rfl) rfl <| aN 20 2097151 rfl rfl (P_fieldAddr rfl ⟨_, _, _, Tryz.runUnderlying123, rfl, rfl, Tryz.sizeOf121, rfl⟩) rfl <| AJ_op 21 4194303 rfl (by kernel_rfl) rfl (GY_none rfl) <| O_storeN rfl rfl foc0 Tryz.sizeOf121 rfl rfl rfl <| ⟨fun h => absurd h (by decide), ?_⟩
   refine AJ_done (by kernel_rfl) <| QJ_ent (Ent.trans eR (VolP_mk (v0 := p1_v.layout_n) (v1 := p1_v.layout_chunk) (v2 := p1_v.layout_rows) (v3 := p1_v.legs) (v4 := r2.1) (v5 := (IntKind.i64.wrap (((shr_u64 (r20.1.getD 0 0) 3)).toNat : Int))) (v6 := (IntKind.i64.wrap ((((r20.1.getD 0 0) &&& (7 : UInt64))).toNat : Int))) (v7 := (r20.1.getD 1 0)) (v8 := (r20.1.getD 2 0)) (v9 := p1_v.pending) (v10 := p1_v.filled) (h0 := oc24.1) (h1 := oc24.2))) <| QJ_then <| sR <| oM rfl rfl <| oA rfl rfl <| nT <| CJ_ret ?_
   cases h
   exact fE (res1 Tryz.results104 rfl) () (t1_ (t3_ (t0_ (t0_ (eD eR)))))
  ·
   replace h := ite_f hg2 h
   refine kT <| sR <| oM rfl rfl <| oA rfl rfl <| nT <| CJ_ret ?_
   cases h
   exact fE (res1 Tryz.results104 rfl) () (t0_ (t2_ (t2_ (t0_ (eD eR)))))
def parityvol_Volume_on__parityvol_Volume_replay_1 (v : VolS) (i : Int) (s : ArrS) : Option (Int × VolS) :=
  grd (decide (0 ≤ i ∧ i < (v.legs.length : Int))) <|
  Option.bind (parityvol_Volume_replay_1 ((v.legs.getD ((i).toNat) prt_x0).dev) v s) fun r9 =>
  Option.bind (parityvol_Volume_on_1 r9.1 r9.2 i s) fun r11 =>
  some (r11.1, r11.2)
theorem L_parityvol_Volume_on__parityvol_Volume_replay_1 {W : World} {bv : Nat} {bf_c0 : Nat} {bs : Nat} {v : VolS} {i : Int} {s : ArrS} {r : Int × VolS} (h : parityvol_Volume_on__parityvol_Volume_replay_1 v i s = some r) :
    CSpec Tryz.prog W 78 [ptr bv 0, .int .i64 i, .func (.func 104) #[] #[ptr bf_c0 0]] [VolP bs bv v, blk bf_c0 65 [ptr bv 0], Arr bs s] (fun x : Unit => .int .i64 r.1) (fun _ => True) (fun x F => VolP bs bv r.2 :: blk bf_c0 65 [ptr bv 0] :: Arr bs s :: F) := by
  refine CSpec.of_bodyM Tryz.func78 rfl Tryz.ntmps78 rfl (fun F => ?_)
  show CJ _ _ _ _ _ _ (_ :: _ :: _ :: F)
  unfold parityvol_Volume_on__parityvol_Volume_replay_1 at h
  refine CJ_seq ?_
  refine CJ_region ?_
  refine RJ_op rfl (O_box rfl rfl rfl (fun b1 => ?_))
  refine RJ_op rfl (O_box rfl rfl rfl (fun b2 => ?_))
  refine RJ_op rfl (O_alloc Tryz.zeroValue40 rfl rfl (fun b3 => ?_))
  refine RJ_nil ?_
  refine QJ_then ?_
  refine CJ_seq ?_
  refine CJ_region ?_
  refine RJ_op rfl (OJ_P (P_makeFunc rfl rfl) rfl ?_)
  refine RJ_defer rfl rfl ?_
  refine RJ_nil ?_
  refine QJ_then ?_
  refine CJ_seq ?_
  refine CJ_entX (Ent.transX (Ent.take del3 Ent.refl) (VolP_open (l := v))) (fun oc4 => ?_)
  refine CJ_pure (fun h hh => Rs_len (stars_perm (del2 (A := Rs (DevP bs) (v.legs.map prtS.dev) oc4.2)).out h hh)) (fun hdl6 => ?_)
  refine CJ_pure (len_of (Reads.sl _ _ _) del1) (fun hlen7 => ?_)
  rw [mk_prt_len (by have := hdl6; simpa using this)] at hlen7
  refine AJ_startH 1536 (by kernel_rfl) rfl ?_
  refine AJ_takeP 0 1 rfl (by kernel_rfl) rfl (GY_none rfl) (P_move rfl) rfl (fun _ _ _ _ h => h) ?_
  refine AJ_takeV 1 3 rfl (by kernel_rfl) rfl (by kernel_rfl) (by kernel_rfl) (GY_none rfl) Ent.refl (V_load rfl foc5 rfl Tryz.isAgg65) rfl (fun _ _ _ _ h => h) ?_
  refine AJ_takeP 2 7 rfl (by kernel_rfl) rfl (GY_none rfl) (P_nilCheck rfl) rfl (fun _ _ _ _ h => h) ?_
  refine AJ_takeP 3 15 rfl (by kernel_rfl) rfl (GY_none rfl) (P_fieldAddr rfl ⟨_, _, _, Tryz.runUnderlying123, rfl, rfl, Tryz.sizeOf119, rfl⟩) rfl (fun _ _ _ _ h => h) ?_
  refine AJ_takeV 4 31 rfl (by kernel_rfl) rfl (by kernel_rfl) (by kernel_rfl) (GY_none rfl) Ent.refl (V_load rfl foc0 rfl Tryz.isAgg119) rfl (fun _ _ _ _ h => h) ?_
  refine AJ_takeV 5 63 rfl (by kernel_rfl) rfl (by kernel_rfl) (by kernel_rfl) (GY_none rfl) Ent.refl (V_load rfl foc4 rfl Tryz.isAgg3) rfl (fun _ _ _ _ h => h) ?_
  obtain ⟨hg1, h⟩ := grd_de h
  refine AJ_takeV 6 127 rfl (by kernel_rfl) rfl (by kernel_rfl) (by kernel_rfl) (GY_none rfl) Ent.refl (V_index (i := (i).toNat) rfl rfl (Int.toNat_of_nonneg (hg1.1)).symm (show (i).toNat < (mk_prt v.legs oc4.2).length by rw [mk_prt_len (by have := hdl6; simpa using this)]; exact (by omega)) foc1 (Reads.sl _ _ _) Tryz.runUnderlying119 Tryz.sizeOf126) rfl (fun _ _ _ _ h => h) ?_
  refine AJ_takeP 7 255 rfl (by kernel_rfl) rfl (GY_none rfl) (P_fieldE rfl ⟨_, _, _, Tryz.runUnderlying126, rfl, rfl, Tryz.sizeOf79, rfl⟩) rfl (fun _ _ _ _ h => h) ?_
  refine AJ_ent (Ent.trans (Ent.take del2 Ent.refl) (mk_prt_rs (i := (i).toNat) (by omega))) ?_
  refine AJ_takeV 8 511 rfl (by kernel_rfl) rfl (by kernel_rfl) (by kernel_rfl) (GY_none rfl) (Ent.take del2 (Ent.take del2 (Ent.take del1 (Ent.take del1 (Ent.take del1 (Ent.take del1 (Ent.take del1 (Ent.take del1 (Ent.drop Ent.refl))))))))) (VJ_eq (V_loadE rfl rfl (show (i).toNat < (mk_prt v.legs oc4.2).length by rw [mk_prt_len (by have := hdl6; simpa using this)]; exact (by omega)) foc1 (Reads.sl _ _ _) rfl rfl Tryz.isAgg79) (show (IfH.v ((oc4.2.getD ((i).toNat) tyDev.dflt)) : Value) = IfH.v ((mk_prt v.legs oc4.2).getD ((i).toNat) prt_h0).dev from by rw [mk_prt_at (by have := hdl6; simpa using this)])) rfl (fun _ _ _ _ h => h) ?_
  refine AJ_ent (Ent.trans (Ent.take del2 (Ent.take del2 (Ent.take del1 Ent.refl))) (VolP_mk (v0 := v.layout_n) (v1 := v.layout_chunk) (v2 := v.layout_rows) (v3 := v.legs) (v4 := v.last_seq) (v5 := v.last_offset) (v6 := v.last_leg) (v7 := v.last_word) (v8 := v.last_parity) (v9 := v.pending) (v10 := v.filled) (h0 := oc4.1) (h1 := oc4.2))) ?_
  obtain ⟨r9, hr10, h⟩ := bind_e h
  refine AJ_op 9 1023 rfl (by kernel_rfl) rfl (GY_none rfl) (O_callV rfl rfl (L_parityvol_Volume_replay_1 hr10) Tryz.call104 (Dels.cons del1 (Dels.cons del4 (Dels.cons del0 (Dels.cons del3 Dels.nil)))) rfl (fun _ _ => ?_))
  refine ⟨fun h => absurd h (by decide), ?_⟩
  refine AJ_op 10 2047 rfl (by kernel_rfl) rfl (GY_none rfl) (O_store rfl rfl foc4 rfl rfl Tryz.sizeOf40 ?_)
  refine ⟨fun h => absurd h (by decide), ?_⟩
  refine AJ_done (by kernel_rfl) ?_
  refine QJ_ent (Ent.take del1 (Ent.take del1 (Ent.take del1 (Ent.take del1 (Ent.take del1 (Ent.take del1 (Ent.drop Ent.refl))))))) ?_
  refine QJ_then ?_
  refine CJ_ret ?_
  obtain ⟨r11, hr12, h⟩ := bind_e h
  have hE := Option.some.inj h
  subst hE
  refine QJ_endD1 (.inl rfl) Tryz.call114 (Ent.take del3 (Ent.take del4 (Ent.take del1 (Ent.take del2 (Ent.take del1 Ent.refl))))) (LD_parityvol_Volume_on_1 hr12) (resA1 Tryz.results78 (RV_cell rfl foc0 rfl Tryz.isAgg40)) ?_
  refine CSpec.close () ?_ ?_ (Ent.take del2 (Ent.take del4 (Ent.take del3 (Ent.drop (Ent.drop (Ent.drop Ent.refl))))))
  · rfl
  · trivial
def parityvol_Volume_replay_l1_b (v : VolS) (s : ArrS) (rec : VolS → Nat → Option ((VolS) ⊕ (Int × VolS × ArrS))) (x11 : VolS) (x12 : Nat) : Option ((VolS) ⊕ (Int × VolS × ArrS)) :=
  if (((x12 : Nat) : Int) < ((v.legs.length : Nat) : Int)) then
    grd (decide (x12 < x11.legs.length)) <|
    if (x11.legs.getD x12 prt_x0).stale = true then
      rec x11 (x12 + 1)
    else
      Option.bind (parityvol_Volume_on__parityvol_Volume_replay_1 x11 (((x12 : Nat) : Int)) s) fun r17 =>
      if (r17.1 ≠ (0 : Int)) then
        some (.inr (r17.1, r17.2, s))
      else
        rec r17.2 (x12 + 1)
  else
    some (.inl x11)
def parityvol_Volume_replay_l1 (v : VolS) (s : ArrS) : Nat → VolS → Nat → Option ((VolS) ⊕ (Int × VolS × ArrS))
  | 0, _, _ => none
  | n + 1, x11, x12 => parityvol_Volume_replay_l1_b v s (parityvol_Volume_replay_l1 v s n) x11 x12
def parityvol_Volume_replay (v : VolS) (s : ArrS) : Option (Int × VolS × ArrS) :=
  seqO (parityvol_Volume_replay_l1 v s FUEL v 0) fun a10 =>
  if (a10.last_seq = (0 : UInt64)) then
    some (((0 : Int), a10, s))
  else
    if (a10.last_offset < (0 : Int)) then
      some (((0 : Int), a10, s))
    else
      grd (inI64 (a10.layout_rows * a10.layout_chunk)) <|
      if ((a10.layout_rows * a10.layout_chunk) ≤ a10.last_offset) then
        some (((0 : Int), a10, s))
      else
        if (a10.layout_n ≤ a10.last_leg) then
          some (((0 : Int), a10, s))
        else
          Option.bind (parityvol_Volume_commit a10 s) fun r20 =>
          some (r20.1, r20.2.1, r20.2.2)
theorem L_parityvol_Volume_replay {W : World} {bv : Nat} {bs : Nat} {v : VolS} {s : ArrS} {r : Int × VolS × ArrS} (h : parityvol_Volume_replay v s = some r) :
    CSpec Tryz.prog W 72 [ptr bv 0] [VolP bs bv v, Arr bs s] (fun x : Unit => .int .i64 r.1) (fun _ => True) (fun x F => VolP bs bv r.2.1 :: Arr bs r.2.2 :: F) := by
 refine CSpec.of_body Tryz.func72 rfl Tryz.ntmps72 rfl fun F => ?_
 show CJ _ _ _ _ _ _ (_ :: _ :: F)
 unfold parityvol_Volume_replay at h
 refine sR <| oO <| O_box rfl rfl rfl fun b1 => oA rfl rfl <| nT <| CJ_seq <| CJ_seq <| CJ_entX (Ent.transX (t1_ eR) (VolP_open (l := v))) fun oc2 => CJ_pure (fun h hh => Rs_len (stars_perm (del2 (A := Rs (DevP bs) (v.legs.map prtS.dev) oc2.2)).out h hh)) fun hdl4 => lC del1 fun hlen5 => ?_
 rw [mk_prt_len (by have := hdl4; simpa using this)] at hlen5
 refine CJ_region <| oV (V_load rfl foc3 rfl Tryz.isAgg65) rfl <| oP (P_nilCheck rfl) rfl <| oP (P_fieldAddr rfl ⟨_, _, _, Tryz.runUnderlying123, rfl, rfl, Tryz.sizeOf119, rfl⟩) rfl <| oV (V_load rfl foc0 rfl Tryz.isAgg119) rfl <| oV (VJ_eq (V_len rfl foc1 (Reads.sl _ _ _) Tryz.runUnderlying119) (congrArg (fun z : Nat => Value.int .i64 (z : Int)) (mk_prt_len (by have := hdl4; simpa using this)).symm)) rfl <| oM rfl rfl <| RJ_nil <| QJ_ent (Ent.trans eR (VolP_mk (v0 := v.layout_n) (v1 := v.layout_chunk) (v2 := v.layout_rows) (v3 := v.legs) (v4 := v.last_seq) (v5 := v.last_offset) (v6 := v.last_leg) (v7 := v.last_word) (v8 := v.last_parity) (v9 := v.pending) (v10 := v.filled) (h0 := oc2.1) (h1 := oc2.2))) <| QJ_then ?_
 obtain ⟨y8, hl6, hK7⟩ := seq_e h
 refine CJ_cutT (X := VolS) [2, 3, 4, 10, 11, 12, 13, 14, 15, 16, 17, 18, 19, 20, 21, 22, 23, 24, 25, 26, 27, 28] (fun a10 => ([] : Slots)) (fun a10 R => VolP bs bv a10 :: R) (fun a10 => y8 = .inl a10) (Dels.cons del0 Dels.nil) ?_ ?_
 ·
  refine CJ_block <| CJ_loopR (X := Nat × VolS × Nat) [2, 3, 4, 10, 11, 12, 13, 14, 15, 16, 17, 18, 19, 20, 21, 22, 23, 24, 25, 26, 27, 28] (fun ⟨n, x11, x12⟩ => ([(10, .int .i64 (((x12 : Nat) : Int)))] : Slots)) (fun ⟨n, x11, x12⟩ R => VolP bs bv x11 :: R) (fun ⟨n, x11, x12⟩ => parityvol_Volume_replay_l1 v s n x11 x12 = some y8) (fun ⟨n, x11, x12⟩ => n) ⟨FUEL, v, 0⟩ ?_ ?_ eR ?_
  · exact hl6
  · exact ⟨rfl, True.intro⟩
  ·
   rintro ⟨n, x11, x12⟩ h
   cases n with
   | zero => exact none_e h
   | succ n => ?_
   replace h : parityvol_Volume_replay_l1_b v s (parityvol_Volume_replay_l1 v s n) x11 x12 = some y8 := h
   unfold parityvol_Volume_replay_l1_b at h
   show CJ _ _ _ _ _ (([(10, .int .i64 (((x12 : Nat) : Int)))] : Slots) ++ forget _ _) (VolP bs bv x11 :: _)
   refine sR <| oP (P_lss (a := ((x12 : Nat) : Int)) (b := ((v.legs.length : Nat) : Int)) rfl rfl) rfl <| nT <| CJ_seq <| CJ_condP rfl bT_dec (fun hg1 => ?_) (fun hg1 => ?_)
   ·
    replace h := ite_t hg1 h
    refine kT <| CJ_seq <| CJ_block <| sR <| oM rfl rfl <| oA rfl rfl <| nT <| CJ_seq <| CJ_seq <| CJ_entX (Ent.transX (t0_ eR) (VolP_open (l := x11))) fun oc13 => CJ_pure (fun h hh => Rs_len (stars_perm (del2 (A := Rs (DevP bs) (x11.legs.map prtS.dev) oc13.2)).out h hh)) fun hdl15 => lC del1 fun hlen16 => ?_
    rw [mk_prt_len (by have := hdl15; simpa using this)] at hlen16
    refine CJ_region <| oV (V_load rfl foc3 rfl Tryz.isAgg65) rfl <| oP (P_nilCheck rfl) rfl <| oP (P_fieldAddr rfl ⟨_, _, _, Tryz.runUnderlying123, rfl, rfl, Tryz.sizeOf119, rfl⟩) rfl <| oV (V_load rfl foc0 rfl Tryz.isAgg119) rfl <| oM rfl rfl ?_
    obtain ⟨hg2, h⟩ := grd_de h
    refine oV (V_index (i := x12) rfl rfl rfl (show x12 < (mk_prt x11.legs oc13.2).length by rw [mk_prt_len (by have := hdl15; simpa using this)]; exact hg2) foc1 (Reads.sl _ _ _) Tryz.runUnderlying119 Tryz.sizeOf126) rfl <| oP (P_fieldE rfl ⟨_, _, _, Tryz.runUnderlying126, rfl, rfl, Tryz.sizeOf4, rfl⟩) rfl <| oV (VJ_eq (V_loadE rfl rfl (show x12 < (mk_prt x11.legs oc13.2).length by rw [mk_prt_len (by have := hdl15; simpa using this)]; exact hg2) foc1 (Reads.sl _ _ _) rfl rfl Tryz.isAgg4) (show (.bool ((x11.legs.getD x12 prt_x0).stale) : Value) = .bool ((mk_prt x11.legs oc13.2).getD x12 prt_h0).stale from by rw [mk_prt_at (by have := hdl15; simpa using this)])) rfl <| RJ_nil <| QJ_ent (Ent.trans eR (VolP_mk (v0 := x11.layout_n) (v1 := x11.layout_chunk) (v2 := x11.layout_rows) (v3 := x11.legs) (v4 := x11.last_seq) (v5 := x11.last_offset) (v6 := x11.last_leg) (v7 := x11.last_word) (v8 := x11.last_parity) (v9 := x11.pending) (v10 := x11.filled) (h0 := oc13.1) (h1 := oc13.2))) <| QJ_then <| CJ_condP rfl Iff.rfl (fun hg3 => ?_) (fun hg3 => ?_)
    ·
     replace h := ite_t hg3 h
     exact CJ_exit <| QJ_then_exit <| QJ_block_here <| QJ_then <| CJ_region <| oP (PJ_eq (P_add (a := ((x12 : Nat) : Int)) (b := (1 : Int)) rfl rfl (by omega)) rfl) rfl <| oM rfl rfl <| RJ_nil <| nR ⟨n, x11, (x12 + 1)⟩ h ⟨rfl, True.intro⟩ eR
    ·
     replace h := ite_f hg3 h
     refine kT <| sR <| oV (V_load rfl foc1 rfl Tryz.isAgg65) rfl <| oM rfl rfl <| oP (P_makeFunc rfl rfl) rfl ?_
     obtain ⟨r17, hr18, h⟩ := bind_e h
     refine oO <| O_call (L_parityvol_Volume_on__parityvol_Volume_replay_1 hr18) rfl Tryz.call78 (Dels.cons del0 (Dels.cons del0 (Dels.cons del0 Dels.nil))) rfl fun _ _ => oA rfl rfl <| nT <| sR <| oM rfl rfl <| oP (P_neq (a := r17.1) (b := (0 : Int)) rfl rfl) rfl <| nT <| CJ_condP rfl bT_dec (fun hg4 => ?_) (fun hg4 => ?_)
     ·
      replace h := ite_t hg4 h
      refine sR <| oM rfl rfl <| oA rfl rfl <| nT <| CJ_ret <| QJ_block_ret <| QJ_then_ret <| QJ_round_ret <| QJ_block_ret <| QJ_then_ret ?_
      have hE := Option.some.inj h
      replace hE := seq_inr hK7 hE.symm
      subst hE
      exact fE (res1 Tryz.results72 rfl) () (t0_ (t1_ (eD eR)))
     ·
      replace h := ite_f hg4 h
      exact CJ_skip <| QJ_block_normal <| QJ_then <| CJ_region <| oP (PJ_eq (P_add (a := ((x12 : Nat) : Int)) (b := (1 : Int)) rfl rfl (by omega)) rfl) rfl <| oM rfl rfl <| RJ_nil <| nR ⟨n, r17.2, (x12 + 1)⟩ h ⟨rfl, True.intro⟩ eR
   ·
    replace h := ite_f hg1 h
    exact CJ_exit <| QJ_then_exit <| QJ_round_exit <| QJ_block_here <| cR x11 (Option.some.inj h).symm True.intro eR
 ·
  rintro a10 hy19
  replace h := seq_inl hK7 hy19
  show CJ _ _ _ _ _ (([] : Slots) ++ forget _ _) (VolP bs bv a10 :: _)
  refine CJ_seq <| sR <| oV (V_load rfl foc1 rfl Tryz.isAgg65) rfl <| oP (P_nilCheck rfl) rfl <| oP (P_fieldAddr rfl ⟨_, _, _, Tryz.runUnderlying123, rfl, rfl, Tryz.sizeOf121, rfl⟩) rfl <| oP (P_fieldAddr rfl ⟨_, _, _, Tryz.runUnderlying121, rfl, rfl, Tryz.sizeOf44, rfl⟩) rfl <| oV (VJ_entX (Ent.transX (t0_ eR) (VolP_open (l := a10))) (fun _ => V_load rfl foc0 rfl Tryz.isAgg44)) rfl <| oP (P_eq_u64 (a := a10.last_seq) (b := (0 : UInt64)) rfl rfl) rfl <| nT <| CJ_condP rfl bT_dec (fun hg5 => ?_) (fun hg5 => ?_)
  ·
   replace h := ite_t hg5 h
   refine sR <| oA rfl rfl <| nT <| CJ_ret <| QJ_then_ret ?_
   cases h
   exact fE (res1 Tryz.results72 rfl) () (t0_ (t1_ (eD eR)))
  ·
   replace h := ite_f hg5 h
   refine kT <| CJ_seq <| CJ_seq <| AJ_startH 0 (by kernel_rfl) rfl <| aV 0 1 rfl rfl (GY_none rfl) eR (V_load rfl foc1 rfl Tryz.isAgg65) rfl <| aN 1 3 rfl rfl (P_nilCheck rfl) rfl <| aN 2 7 rfl rfl (P_fieldAddr rfl ⟨_, _, _, Tryz.runUnderlying123, rfl, rfl, Tryz.sizeOf121, rfl⟩) rfl <| aN 3 15 rfl rfl (P_fieldAddr rfl ⟨_, _, _, Tryz.runUnderlying121, rfl, rfl, Tryz.sizeOf3, rfl⟩) rfl <| aV 4 31 rfl rfl (GY_none rfl) eR (VJ_entX (Ent.transX (t0_ eR) (VolP_open (l := a10))) (fun _ => V_load rfl foc0 rfl Tryz.isAgg3)) rfl <| aN 5 63 rfl rfl (P_lss (a := a10.last_offset) (b := (0 : Int)) rfl rfl) rfl <| aN 6 127 rfl rfl (P_move rfl) rfl <| AJ_splitP 41 rfl bT_dec (fun hg6B hg6 => ?_) (fun hg6B hg6 => ?_)
   ·
    replace h := ite_t hg6 h
    refine aS 7 255 rfl rfl (GY_no rfl rfl rfl hg6B) rfl <| aS 8 511 rfl rfl (GY_no rfl rfl rfl hg6B) rfl <| aS 9 1023 rfl rfl (GY_no rfl rfl rfl hg6B) rfl <| aS 10 2047 rfl rfl (GY_no rfl rfl rfl hg6B) rfl <| aS 11 4095 rfl rfl (GY_no rfl rfl rfl hg6B) rfl <| aS 12 8191 rfl rfl (GY_no rfl rfl rfl hg6B) rfl <| aS 13 16383 rfl rfl (GY_no rfl rfl rfl hg6B) rfl <| aS 14 32767 rfl rfl (GY_no rfl rfl rfl hg6B) rfl <| aS 15 65535 rfl rfl (GY_no rfl rfl rfl hg6B) rfl <| aS 16 131071 rfl rfl (GY_no rfl rfl rfl hg6B) rfl <| aS 17 262143 rfl rfl (GY_no rfl rfl rfl hg6B) rfl <| aS 18 524287 rfl rfl (GY_no rfl rfl rfl hg6B) rfl <| aS 19 1048575 rfl rfl (GY_no rfl rfl rfl hg6B) rfl <| aS 20 2097151 rfl rfl (GY_no rfl rfl rfl hg6B) rfl <| aS 21 4194303 rfl rfl (GY_no rfl rfl rfl hg6B) rfl <| aS 22 8388607 rfl rfl (GY_no rfl rfl rfl hg6B) rfl <| aS 23 16777215 rfl rfl (GY_no rfl rfl rfl hg6B) rfl <| aN 24 33554431 rfl rfl (P_pickT rfl hg6B rfl) rfl <| aN 25 67108863 rfl rfl (P_move rfl) rfl <| aS 26 134217727 rfl rfl (GY_no rfl rfl rfl rfl) rfl <| aS 27 268435455 rfl rfl (GY_no rfl rfl rfl rfl) rfl <| aS 28 536870911 rfl rfl (GY_no rfl rfl rfl rfl) rfl <| aS 29 1073741823 rfl rfl (GY_no rfl rfl rfl rfl) rfl <| aS 30 2147483647 rfl rfl (GY_no rfl rfl rfl rfl) rfl <| aS 31 4294967295 rfl rfl (GY_no rfl rfl rfl rfl) rfl <| aS 32 8589934591 rfl rfl (GY_no rfl rfl rfl rfl) rfl <| aS 33 17179869183 rfl rfl (GY_no rfl rfl rfl rfl) rfl <| aS 34 34359738367 rfl rfl (GY_no rfl rfl rfl rfl) rfl ?_
    refine aS 35 68719476735 rfl rfl (GY_no rfl rfl rfl rfl) rfl <| aS 36 137438953471 rfl rfl (GY_no rfl rfl rfl rfl) rfl <| aN 37 274877906943 rfl rfl (P_pickT rfl rfl rfl) rfl <| aD <| CJ_condT rfl rfl <| sR <| oA rfl rfl <| nT <| CJ_ret <| QJ_then_ret ?_
    cases h
    exact fE (res1 Tryz.results72 rfl) () (t0_ (t1_ (eD eR)))
   ·
    replace h := ite_f hg6 h
    refine aV 7 255 rfl rfl (GY_yes rfl rfl rfl hg6B) eR (V_load rfl foc1 rfl Tryz.isAgg65) rfl <| aP 8 511 rfl rfl (GY_yes rfl rfl rfl hg6B) (P_nilCheck rfl) rfl <| aP 9 1023 rfl rfl (GY_yes rfl rfl rfl hg6B) (P_fieldAddr rfl ⟨_, _, _, Tryz.runUnderlying123, rfl, rfl, Tryz.sizeOf121, rfl⟩) rfl <| aP 10 2047 rfl rfl (GY_yes rfl rfl rfl hg6B) (P_fieldAddr rfl ⟨_, _, _, Tryz.runUnderlying121, rfl, rfl, Tryz.sizeOf3, rfl⟩) rfl <| aV 11 4095 rfl rfl (GY_yes rfl rfl rfl hg6B) eR (VJ_entX (Ent.transX (t0_ eR) (VolP_open (l := a10))) (fun _ => V_load rfl foc0 rfl Tryz.isAgg3)) rfl <| aV 12 8191 rfl rfl (GY_yes rfl rfl rfl hg6B) eR (V_load rfl foc1 rfl Tryz.isAgg65) rfl <| aP 13 16383 rfl rfl (GY_yes rfl rfl rfl hg6B) (P_nilCheck rfl) rfl <| aP 14 32767 rfl rfl (GY_yes rfl rfl rfl hg6B) (P_fieldAddr rfl ⟨_, _, _, Tryz.runUnderlying123, rfl, rfl, Tryz.sizeOf112, rfl⟩) rfl <| aP 15 65535 rfl rfl (GY_yes rfl rfl rfl hg6B) (P_fieldAddr rfl ⟨_, _, _, Tryz.runUnderlying112, rfl, rfl, Tryz.sizeOf3, rfl⟩) rfl <| aV 16 131071 rfl rfl (GY_yes rfl rfl rfl hg6B) eR (VJ_entX (Ent.transX (t0_ eR) (VolP_open (l := a10))) (fun _ => V_load rfl foc0 rfl Tryz.isAgg3)) rfl <| aV 17 262143 rfl rfl (GY_yes rfl rfl rfl hg6B) eR (V_load rfl foc1 rfl Tryz.isAgg65) rfl <| aP 18 524287 rfl rfl (GY_yes rfl rfl rfl hg6B) (P_nilCheck rfl) rfl ?_
    refine aP 19 1048575 rfl rfl (GY_yes rfl rfl rfl hg6B) (P_fieldAddr rfl ⟨_, _, _, Tryz.runUnderlying123, rfl, rfl, Tryz.sizeOf112, rfl⟩) rfl <| aP 20 2097151 rfl rfl (GY_yes rfl rfl rfl hg6B) (P_fieldAddr rfl ⟨_, _, _, Tryz.runUnderlying112, rfl, rfl, Tryz.sizeOf3, rfl⟩) rfl <| aV 21 4194303 rfl rfl (GY_yes rfl rfl rfl hg6B) eR (VJ_entX (Ent.transX (t0_ eR) (VolP_open (l := a10))) (fun _ => V_load rfl foc0 rfl Tryz.isAgg3)) rfl ?_
    obtain ⟨hg7, h⟩ := grd_Ie h
    refine aP 22 8388607 rfl rfl (GY_yes rfl rfl rfl hg6B) (P_mul (a := a10.layout_rows) (b := a10.layout_chunk) rfl rfl hg7) rfl <| aP 23 16777215 rfl rfl (GY_yes rfl rfl rfl hg6B) (P_geq (a := a10.last_offset) (b := (a10.layout_rows * a10.layout_chunk)) rfl rfl) rfl <| aN 24 33554431 rfl rfl (P_pickF rfl hg6B rfl) rfl <| aN 25 67108863 rfl rfl (P_move rfl) rfl <| AJ_splitP 60 rfl bT_dec (fun hg8B hg8 => ?_) (fun hg8B hg8 => ?_)
    ·
     replace h := ite_t hg8 h
     refine aS 26 134217727 rfl rfl (GY_no rfl rfl rfl hg8B) rfl <| aS 27 268435455 rfl rfl (GY_no rfl rfl rfl hg8B) rfl <| aS 28 536870911 rfl rfl (GY_no rfl rfl rfl hg8B) rfl <| aS 29 1073741823 rfl rfl (GY_no rfl rfl rfl hg8B) rfl <| aS 30 2147483647 rfl rfl (GY_no rfl rfl rfl hg8B) rfl <| aS 31 4294967295 rfl rfl (GY_no rfl rfl rfl hg8B) rfl <| aS 32 8589934591 rfl rfl (GY_no rfl rfl rfl hg8B) rfl <| aS 33 17179869183 rfl rfl (GY_no rfl rfl rfl hg8B) rfl <| aS 34 34359738367 rfl rfl (GY_no rfl rfl rfl hg8B) rfl <| aS 35 68719476735 rfl rfl (GY_no rfl rfl rfl hg8B) rfl <| aS 36 137438953471 rfl rfl (GY_no rfl rfl rfl hg8B) rfl <| aN 37 274877906943 rfl rfl (P_pickT rfl hg8B rfl) rfl <| aD <| CJ_condT rfl rfl <| sR <| oA rfl rfl <| nT <| CJ_ret <| QJ_then_ret ?_
     cases h
     exact fE (res1 Tryz.results72 rfl) () (t0_ (t1_ (eD eR)))
    ·
     replace h := ite_f hg8 h
     refine aV 26 134217727 rfl rfl (GY_yes rfl rfl rfl hg8B) eR (V_load rfl foc1 rfl Tryz.isAgg65) rfl <| aP 27 268435455 rfl rfl (GY_yes rfl rfl rfl hg8B) (P_nilCheck rfl) rfl <| aP 28 536870911 rfl rfl (GY_yes rfl rfl rfl hg8B) (P_fieldAddr rfl ⟨_, _, _, Tryz.runUnderlying123, rfl, rfl, Tryz.sizeOf121, rfl⟩) rfl <| aP 29 1073741823 rfl rfl (GY_yes rfl rfl rfl hg8B) (P_fieldAddr rfl ⟨_, _, _, Tryz.runUnderlying121, rfl, rfl, Tryz.sizeOf3, rfl⟩) rfl <| aV 30 2147483647 rfl rfl (GY_yes rfl rfl rfl hg8B) eR (VJ_entX (Ent.transX (t0_ eR) (VolP_open (l := a10))) (fun _ => V_load rfl foc0 rfl Tryz.isAgg3)) rfl <| aV 31 4294967295 rfl rfl (GY_yes rfl rfl rfl hg8B) eR (V_load rfl foc1 rfl Tryz.isAgg65) rfl <| aP 32 8589934591 rfl rfl (GY_yes rfl rfl rfl hg8B) (P_nilCheck rfl) rfl <| aP 33 17179869183 rfl rfl (GY_yes rfl rfl rfl hg8B) (P_fieldAddr rfl ⟨_, _, _, Tryz.runUnderlying123, rfl, rfl, Tryz.sizeOf112, rfl⟩) rfl <| aP 34 34359738367 rfl rfl (GY_yes rfl rfl rfl hg8B) (P_fieldAddr rfl ⟨_, _, _, Tryz.runUnderlying112, rfl, rfl, Tryz.sizeOf3, rfl⟩) rfl <| aV 35 68719476735 rfl rfl (GY_yes rfl rfl rfl hg8B) eR (VJ_entX (Ent.transX (t0_ eR) (VolP_open (l := a10))) (fun _ => V_load rfl foc0 rfl Tryz.isAgg3)) rfl <| aP 36 137438953471 rfl rfl (GY_yes rfl rfl rfl hg8B) (P_geq (a := a10.last_leg) (b := a10.layout_n) rfl rfl) rfl <| aN 37 274877906943 rfl rfl (P_pickF rfl hg8B rfl) rfl <| aD ?_
     refine CJ_condP rfl bT_dec (fun hg9 => ?_) (fun hg9 => ?_)
     ·
      replace h := ite_t hg9 h
      refine sR <| oA rfl rfl <| nT <| CJ_ret <| QJ_then_ret ?_
      cases h
      exact fE (res1 Tryz.results72 rfl) () (t0_ (t1_ (eD eR)))
     ·
      replace h := ite_f hg9 h
      refine kT <| sR <| oV (V_load rfl foc1 rfl Tryz.isAgg65) rfl ?_
      obtain ⟨r20, hr21, h⟩ := bind_e h
      refine oO <| O_call (L_parityvol_Volume_commit hr21) rfl Tryz.call106 (Dels.cons del0 (Dels.cons del1 Dels.nil)) rfl fun _ _ => oA rfl rfl <| nT <| CJ_ret ?_
      cases h
      exact fE (res1 Tryz.results72 rfl) () (t0_ (t0_ (eD eR)))
def parityvol_Open_1 (k : Int) (p1 : List Dvc) (s : ArrS) : Option (Bool) :=
  some (((decide (k < (0 : Int))) || (decide (((p1.length : Nat) : Int) ≤ k))))
theorem L_parityvol_Open_1 {W : World} {bp1 : Nat} {Ap1 : HP} {vp1 : Value} {hsp1 : List IfH} {bs : Nat} {k : Int} {p1 : List Dvc} {s : ArrS} {r : Bool} (rp1 : Reads Ap1 tyDev vp1 hsp1) (h : parityvol_Open_1 k p1 s = some r) :
    CSpec Tryz.prog W 68 [.int .i64 k, ptr bp1 0] [blk bp1 62 [vp1], Ap1, Rs (DevP bs) p1 hsp1, Arr bs s] (fun x : Unit => .bool r) (fun _ => True) (fun x F => blk bp1 62 [vp1] :: Ap1 :: Rs (DevP bs) p1 hsp1 :: Arr bs s :: F) := by
 refine CSpec.of_body Tryz.func68 rfl Tryz.ntmps68 rfl fun F => ?_
 show CJ _ _ _ _ _ _ (_ :: _ :: _ :: _ :: F)
 unfold parityvol_Open_1 at h
 refine CJ_pure (len_of rp1 del1) fun hlen1 => CJ_pure (fun h hh => Rs_len (stars_perm (del2 (A := Rs (DevP bs) p1 hsp1)).out h hh)) fun hdl2 => sR <| oA rfl rfl <| nT <| sR <| oM rfl rfl <| oP (P_lss (a := k) (b := (0 : Int)) rfl rfl) rfl <| oM rfl rfl <| RJ_mbF rfl rfl rfl (fun hG3 => have hP4 : ¬ (k < (0 : Int)) := nP (bT_dec) hG3; VJ_P (P_move rfl)) <| RJ_mbF rfl rfl rfl (fun hG5 => have hP6 : ¬ (k < (0 : Int)) := nP (bT_dec) hG5; V_load rfl foc0 rfl Tryz.isAgg62) <| RJ_mbF rfl rfl rfl (fun hG7 => have hP8 : ¬ (k < (0 : Int)) := nP (bT_dec) hG7; VJ_eq (V_len (mbx hG7 rfl) foc1 rp1 Tryz.runUnderlying62) (congrArg (fun z : Nat => Value.int .i64 (z : Int)) (hdl2).symm)) <| RJ_mbF rfl rfl rfl (fun hG9 => have hP10 : ¬ (k < (0 : Int)) := nP (bT_dec) hG9; VJ_P (P_geq (a := k) (b := ((p1.length : Nat) : Int)) (mbx hG9 rfl) (mbx hG9 rfl))) <| oP (P_pickOr rfl rfl (fun hh => mbx (not_f hh) rfl)) rfl <| oA rfl rfl <| nT <| CJ_ret ?_
 cases h
 exact fE (res1 Tryz.results68 rfl) () eR
def slices_IndexFunc_int__parityvol_Open_1_l1_b (p0 : List Int) (p1_c0 : List Dvc) (s : ArrS) (rec : Nat → Option ((Unit) ⊕ Int)) (x8 : Nat) : Option ((Unit) ⊕ Int) :=
  if (((x8 : Nat) : Int) < ((p0.length : Nat) : Int)) then
    Option.bind (parityvol_Open_1 (p0.getD x8 0) p1_c0 s) fun r9 =>
    if r9 = true then
      some (.inr (((x8 : Nat) : Int)))
    else
      rec (x8 + 1)
  else
    some (.inl ())
def slices_IndexFunc_int__parityvol_Open_1_l1 (p0 : List Int) (p1_c0 : List Dvc) (s : ArrS) : Nat → Nat → Option ((Unit) ⊕ Int)
  | 0, _ => none
  | n + 1, x8 => slices_IndexFunc_int__parityvol_Open_1_l1_b p0 p1_c0 s (slices_IndexFunc_int__parityvol_Open_1_l1 p0 p1_c0 s n) x8
def slices_IndexFunc_int__parityvol_Open_1 (p0 : List Int) (p1_c0 : List Dvc) (s : ArrS) : Option (Int) :=
  seqO (slices_IndexFunc_int__parityvol_Open_1_l1 p0 p1_c0 s FUEL 0) fun a7 =>
  some (-1 : Int)
theorem L_slices_IndexFunc_int__parityvol_Open_1 {W : World} {Ap0 : HP} {vp0 : Value} {bp1_c0 : Nat} {Ap1_c0 : HP} {vp1_c0 : Value} {hsp1_c0 : List IfH} {bs : Nat} {p0 : List Int} {p1_c0 : List Dvc} {s : ArrS} {r : Int} (rp0 : Reads Ap0 tyI vp0 p0) (rp1_c0 : Reads Ap1_c0 tyDev vp1_c0 hsp1_c0) (h : slices_IndexFunc_int__parityvol_Open_1 p0 p1_c0 s = some r) :
    CSpec Tryz.prog W 102 [vp0, .func (.func 68) #[] #[ptr bp1_c0 0]] [Ap0, blk bp1_c0 62 [vp1_c0], Ap1_c0, Rs (DevP bs) p1_c0 hsp1_c0, Arr bs s] (fun x : Unit => .int .i64 r) (fun _ => True) (fun x F => Ap0 :: blk bp1_c0 62 [vp1_c0] :: Ap1_c0 :: Rs (DevP bs) p1_c0 hsp1_c0 :: Arr bs s :: F) := by
 refine CSpec.of_body Tryz.func102 rfl Tryz.ntmps102 rfl fun F => ?_
 show CJ _ _ _ _ _ _ (_ :: _ :: _ :: _ :: _ :: F)
 unfold slices_IndexFunc_int__parityvol_Open_1 at h
 refine CJ_pure (len_of rp0 del0) fun hlen1 => CJ_pure (len_of rp1_c0 del2) fun hlen2 => CJ_pure (fun h hh => Rs_len (stars_perm (del3 (A := Rs (DevP bs) p1_c0 hsp1_c0)).out h hh)) fun hdl3 => sR <| oA rfl rfl <| nT <| CJ_seq <| sR <| oM rfl rfl <| oV (V_len rfl foc0 rp0 Tryz.runUnderlying35) rfl <| oM rfl rfl <| nT ?_
 obtain ⟨y6, hl4, hK5⟩ := seq_e h
 refine CJ_cutT (X := Unit) [4, 5, 8, 9, 10, 11, 12, 13, 14, 15, 16, 17, 18] (fun _ => ([] : Slots)) (fun _ R => R) (fun _ => y6 = .inl ()) Dels.nil ?_ ?_
 ·
  refine CJ_block <| CJ_loopR (X := Nat × Nat) [4, 5, 8, 9, 10, 11, 12, 13, 14, 15, 16, 17, 18] (fun ⟨n, x8⟩ => ([(8, .int .i64 (((x8 : Nat) : Int)))] : Slots)) (fun ⟨n, x8⟩ R => R) (fun ⟨n, x8⟩ => slices_IndexFunc_int__parityvol_Open_1_l1 p0 p1_c0 s n x8 = some y6) (fun ⟨n, x8⟩ => n) ⟨FUEL, 0⟩ ?_ ?_ eR ?_
  · exact hl4
  · exact ⟨rfl, True.intro⟩
  ·
   rintro ⟨n, x8⟩ h
   cases n with
   | zero => exact none_e h
   | succ n => ?_
   replace h : slices_IndexFunc_int__parityvol_Open_1_l1_b p0 p1_c0 s (slices_IndexFunc_int__parityvol_Open_1_l1 p0 p1_c0 s n) x8 = some y6 := h
   unfold slices_IndexFunc_int__parityvol_Open_1_l1_b at h
   show CJ _ _ _ _ _ (([(8, .int .i64 (((x8 : Nat) : Int)))] : Slots) ++ forget _ _) (_)
   refine sR <| oP (P_lss (a := ((x8 : Nat) : Int)) (b := ((p0.length : Nat) : Int)) rfl rfl) rfl <| nT <| CJ_seq <| CJ_condP rfl bT_dec (fun hg1 => ?_) (fun hg1 => ?_)
   ·
    replace h := ite_t hg1 h
    refine kT <| CJ_seq <| CJ_block <| sR <| oM rfl rfl <| oA rfl rfl <| nT <| sR <| oM rfl rfl <| oM rfl rfl <| oM rfl rfl <| oV (V_index (i := x8) rfl rfl rfl (by omega) foc0 rp0 Tryz.runUnderlying35 Tryz.sizeOf3) rfl <| oV (V_loadE rfl rfl (by omega) foc0 rp0 rfl rfl Tryz.isAgg3) rfl ?_
    obtain ⟨r9, hr10, h⟩ := bind_e h
    refine oO <| O_callV rfl rfl (L_parityvol_Open_1 rp1_c0 hr10) Tryz.call68 (Dels.cons del1 (Dels.cons del1 (Dels.cons del1 (Dels.cons del1 Dels.nil)))) rfl fun _ _ => nT <| CJ_condP rfl Iff.rfl (fun hg2 => ?_) (fun hg2 => ?_)
    ·
     replace h := ite_t hg2 h
     refine sR <| oM rfl rfl <| oA rfl rfl <| nT <| CJ_ret <| QJ_block_ret <| QJ_then_ret <| QJ_round_ret <| QJ_block_ret <| QJ_then_ret ?_
     have hE := Option.some.inj h
     replace hE := seq_inr hK5 hE.symm
     subst hE
     exact fE (res1 Tryz.results102 rfl) () (t4_ eR)
    ·
     replace h := ite_f hg2 h
     exact CJ_skip <| QJ_block_normal <| QJ_then <| CJ_region <| oP (PJ_eq (P_add (a := ((x8 : Nat) : Int)) (b := (1 : Int)) rfl rfl (by omega)) rfl) rfl <| oM rfl rfl <| RJ_nil <| nR ⟨n, (x8 + 1)⟩ h ⟨rfl, True.intro⟩ (t4_ eR)
   ·
    replace h := ite_f hg1 h
    exact CJ_exit <| QJ_then_exit <| QJ_round_exit <| QJ_block_here <| cR () (Option.some.inj h).symm True.intro eR
 ·
  rintro _ hy11
  replace h := seq_inl hK5 hy11
  show CJ _ _ _ _ _ (([] : Slots) ++ forget _ _) (_)
  refine sR <| oA rfl rfl <| nT <| CJ_ret ?_
  cases h
  exact fE (res1 Tryz.results102 rfl) () eR
def slices_ContainsFunc_int__parityvol_Open_1 (p0 : List Int) (p1_c0 : List Dvc) (s : ArrS) : Option (Bool) :=
  Option.bind (slices_IndexFunc_int__parityvol_Open_1 p0 p1_c0 s) fun r4 =>
  some ((decide ((0 : Int) ≤ r4)))
theorem L_slices_ContainsFunc_int__parityvol_Open_1 {W : World} {Ap0 : HP} {vp0 : Value} {bp1_c0 : Nat} {Ap1_c0 : HP} {vp1_c0 : Value} {hsp1_c0 : List IfH} {bs : Nat} {p0 : List Int} {p1_c0 : List Dvc} {s : ArrS} {r : Bool} (rp0 : Reads Ap0 tyI vp0 p0) (rp1_c0 : Reads Ap1_c0 tyDev vp1_c0 hsp1_c0) (h : slices_ContainsFunc_int__parityvol_Open_1 p0 p1_c0 s = some r) :
    CSpec Tryz.prog W 67 [vp0, .func (.func 68) #[] #[ptr bp1_c0 0]] [Ap0, blk bp1_c0 62 [vp1_c0], Ap1_c0, Rs (DevP bs) p1_c0 hsp1_c0, Arr bs s] (fun x : Unit => .bool r) (fun _ => True) (fun x F => Ap0 :: blk bp1_c0 62 [vp1_c0] :: Ap1_c0 :: Rs (DevP bs) p1_c0 hsp1_c0 :: Arr bs s :: F) := by
 refine CSpec.of_body Tryz.func67 rfl Tryz.ntmps67 rfl fun F => ?_
 show CJ _ _ _ _ _ _ (_ :: _ :: _ :: _ :: _ :: F)
 unfold slices_ContainsFunc_int__parityvol_Open_1 at h
 refine CJ_pure (len_of rp0 del0) fun hlen1 => CJ_pure (len_of rp1_c0 del2) fun hlen2 => CJ_pure (fun h hh => Rs_len (stars_perm (del3 (A := Rs (DevP bs) p1_c0 hsp1_c0)).out h hh)) fun hdl3 => sR <| oA rfl rfl <| nT <| sR <| oM rfl rfl <| oM rfl rfl ?_
 obtain ⟨r4, hr5, h⟩ := bind_e h
 refine oO <| O_call (L_slices_IndexFunc_int__parityvol_Open_1 rp0 rp1_c0 hr5) rfl Tryz.call102 (Dels.cons del0 (Dels.cons del0 (Dels.cons del0 (Dels.cons del0 (Dels.cons del0 Dels.nil))))) rfl fun _ _ => oP (P_geq (a := r4) (b := (0 : Int)) rfl rfl) rfl <| oA rfl rfl <| nT <| CJ_ret ?_
 cases h
 exact fE (res1 Tryz.results67 rfl) () eR
def slices_Max_int_l2_b (p0 : List Int) (rec : Int → Nat → Option (Int)) (x12 : Int) (x13 : Nat) : Option (Int) :=
  if (((x13 : Nat) : Int) < ((p0.length : Nat) : Int)) then
    rec ((max x12 (p0.getD x13 0))) (x13 + 1)
  else
    some x12
def slices_Max_int_l2 (p0 : List Int) : Nat → Int → Nat → Option (Int)
  | 0, _, _ => none
  | n + 1, x12, x13 => slices_Max_int_l2_b p0 (slices_Max_int_l2 p0 n) x12 x13
def slices_Max_int (p0 : List Int) : Option (Int) :=
  Option.bind ((
    if (((p0.length : Nat) : Int) < (1 : Int)) then
      none
    else
      some () : Option (Unit))) fun a5 =>
  grd (decide (0 < p0.length)) <|
  Option.bind (slices_Max_int_l2 p0 FUEL (p0.getD 0 0) 1) fun a11 =>
  some a11
theorem L_slices_Max_int {W : World} {Ap0 : HP} {vp0 : Value} {p0 : List Int} {r : Int} (rp0 : Reads Ap0 tyI vp0 p0) (h : slices_Max_int p0 = some r) :
    CSpec Tryz.prog W 69 [vp0] [Ap0] (fun x : Unit => .int .i64 r) (fun _ => True) (fun x F => Ap0 :: F) := by
 refine CSpec.of_body Tryz.func69 rfl Tryz.ntmps69 rfl fun F => ?_
 show CJ _ _ _ _ _ _ (_ :: F)
 unfold slices_Max_int at h
 refine CJ_pure (len_of rp0 del0) fun hlen1 => sR <| oA rfl rfl <| nT <| CJ_seq <| sR <| oM rfl rfl <| oV (V_len rfl foc0 rp0 Tryz.runUnderlying35) rfl <| oP (P_lss (a := ((p0.length : Nat) : Int)) (b := (1 : Int)) rfl rfl) rfl <| nT ?_
 obtain ⟨y4, hl2, hK3⟩ := bind_c h
 refine CJ_cutT (X := Unit) [8] (fun _ => ([] : Slots)) (fun _ R => R) (fun _ => True) Dels.nil ?_ ?_
 ·
  have h := hl2
  refine CJ_condP rfl bT_dec (fun hg1 => ?_) (fun hg1 => ?_)
  ·
   replace h := ite_t hg1 h
   exact CJ_region <| oP (P_makeIface rfl Tryz.runUnderlying9 (by intro ms h; cases h)) rfl <| none_e h
  ·
   replace h := ite_f hg1 h
   exact CJ_skip <| cR () trivial True.intro eR
 ·
  rintro _ hy6
  have h := hK3
  show CJ _ _ _ _ _ (([] : Slots) ++ forget _ _) (_)
  refine sR <| oM rfl rfl ?_
  obtain ⟨hg2, h⟩ := grd_de h
  refine oV (V_index (i := 0) rfl rfl rfl hg2 foc0 rp0 Tryz.runUnderlying35 Tryz.sizeOf3) rfl <| oV (V_loadE rfl rfl hg2 foc0 rp0 rfl rfl Tryz.isAgg3) rfl <| oA rfl rfl <| nT <| CJ_seq <| sR <| oA rfl rfl <| nT ?_
  obtain ⟨y9, hl7, hK8⟩ := bind_c h
  refine CJ_cutT (X := Int) [3, 4, 12, 13, 14, 15, 16, 17, 18, 19, 20, 21, 22, 23] (fun a11 => ([(3, .int .i64 a11)] : Slots)) (fun a11 R => R) (fun a11 => y9 = a11) Dels.nil ?_ ?_
  ·
   refine CJ_block <| CJ_loopR (X := Nat × Int × Nat) [3, 4, 12, 13, 14, 15, 16, 17, 18, 19, 20, 21, 22, 23] (fun ⟨n, x12, x13⟩ => ([(3, .int .i64 x12), (4, .int .i64 (((x13 : Nat) : Int)))] : Slots)) (fun ⟨n, x12, x13⟩ R => R) (fun ⟨n, x12, x13⟩ => slices_Max_int_l2 p0 n x12 x13 = some y9) (fun ⟨n, x12, x13⟩ => n) ⟨FUEL, (p0.getD 0 0), 1⟩ ?_ ?_ eR ?_
   · exact hl7
   · exact ⟨rfl, rfl, True.intro⟩
   ·
    rintro ⟨n, x12, x13⟩ h
    cases n with
    | zero => exact none_e h
    | succ n => ?_
    replace h : slices_Max_int_l2_b p0 (slices_Max_int_l2 p0 n) x12 x13 = some y9 := h
    unfold slices_Max_int_l2_b at h
    show CJ _ _ _ _ _ (([(3, .int .i64 x12), (4, .int .i64 (((x13 : Nat) : Int)))] : Slots) ++ forget _ _) (_)
    refine CJ_seq <| sR <| oM rfl rfl <| oM rfl rfl <| oV (V_len rfl foc0 rp0 Tryz.runUnderlying35) rfl <| oP (P_lss (a := ((x13 : Nat) : Int)) (b := ((p0.length : Nat) : Int)) rfl rfl) rfl <| nT <| CJ_condP rfl bT_dec (fun hg3 => ?_) (fun hg3 => ?_)
    ·
     replace h := ite_t hg3 h
     exact kT <| CJ_seq <| CJ_block <| CJ_region <| oM rfl rfl <| oM rfl rfl <| oM rfl rfl <| oV (V_index (i := x13) rfl rfl rfl (by omega) foc0 rp0 Tryz.runUnderlying35 Tryz.sizeOf3) rfl <| oV (V_loadE rfl rfl (by omega) foc0 rp0 rfl rfl Tryz.isAgg3) rfl <| oP (P_max (a := x12) (b := (p0.getD x13 0)) rfl rfl) rfl <| oA rfl rfl <| RJ_nil <| QJ_block_normal <| QJ_then <| CJ_region <| oM rfl rfl <| oP (PJ_eq (P_add (a := ((x13 : Nat) : Int)) (b := (1 : Int)) rfl rfl (by omega)) rfl) rfl <| oA rfl rfl <| RJ_nil <| nR ⟨n, (max x12 (p0.getD x13 0)), (x13 + 1)⟩ h ⟨rfl, rfl, True.intro⟩ eR
    ·
     replace h := ite_f hg3 h
     exact CJ_exit <| QJ_then_exit <| QJ_round_exit <| QJ_block_here <| cR x12 (Option.some.inj h).symm ⟨rfl, True.intro⟩ eR
  ·
   rintro a11 hy14
   replace h := bindK_at hK8 hy14
   show CJ _ _ _ _ _ (([(3, .int .i64 a11)] : Slots) ++ forget _ _) (_)
   refine sR <| oM rfl rfl <| oA rfl rfl <| nT <| CJ_ret ?_
   cases h
   exact fE (res1 Tryz.results69 rfl) () eR
def slices_Min_int_l2_b (p0 : List Int) (rec : Int → Nat → Option (Int)) (x12 : Int) (x13 : Nat) : Option (Int) :=
  if (((x13 : Nat) : Int) < ((p0.length : Nat) : Int)) then
    rec ((min x12 (p0.getD x13 0))) (x13 + 1)
  else
    some x12
def slices_Min_int_l2 (p0 : List Int) : Nat → Int → Nat → Option (Int)
  | 0, _, _ => none
  | n + 1, x12, x13 => slices_Min_int_l2_b p0 (slices_Min_int_l2 p0 n) x12 x13
def slices_Min_int (p0 : List Int) : Option (Int) :=
  Option.bind ((
    if (((p0.length : Nat) : Int) < (1 : Int)) then
      none
    else
      some () : Option (Unit))) fun a5 =>
  grd (decide (0 < p0.length)) <|
  Option.bind (slices_Min_int_l2 p0 FUEL (p0.getD 0 0) 1) fun a11 =>
  some a11
theorem L_slices_Min_int {W : World} {Ap0 : HP} {vp0 : Value} {p0 : List Int} {r : Int} (rp0 : Reads Ap0 tyI vp0 p0) (h : slices_Min_int p0 = some r) :
    CSpec Tryz.prog W 70 [vp0] [Ap0] (fun x : Unit => .int .i64 r) (fun _ => True) (fun x F => Ap0 :: F) := by
 refine CSpec.of_body Tryz.func70 rfl Tryz.ntmps70 rfl fun F => ?_
 show CJ _ _ _ _ _ _ (_ :: F)
 unfold slices_Min_int at h
 refine CJ_pure (len_of rp0 del0) fun hlen1 => sR <| oA rfl rfl <| nT <| CJ_seq <| sR <| oM rfl rfl <| oV (V_len rfl foc0 rp0 Tryz.runUnderlying35) rfl <| oP (P_lss (a := ((p0.length : Nat) : Int)) (b := (1 : Int)) rfl rfl) rfl <| nT ?_
 obtain ⟨y4, hl2, hK3⟩ := bind_c h
 refine CJ_cutT (X := Unit) [8] (fun _ => ([] : Slots)) (fun _ R => R) (fun _ => True) Dels.nil ?_ ?_
 ·
  have h := hl2
  refine CJ_condP rfl bT_dec (fun hg1 => ?_) (fun hg1 => ?_)
  ·
   replace h := ite_t hg1 h
   exact CJ_region <| oP (P_makeIface rfl Tryz.runUnderlying9 (by intro ms h; cases h)) rfl <| none_e h
  ·
   replace h := ite_f hg1 h
   exact CJ_skip <| cR () trivial True.intro eR
 ·
  rintro _ hy6
  have h := hK3
  show CJ _ _ _ _ _ (([] : Slots) ++ forget _ _) (_)
  refine sR <| oM rfl rfl ?_
  obtain ⟨hg2, h⟩ := grd_de h
  refine oV (V_index (i := 0) rfl rfl rfl hg2 foc0 rp0 Tryz.runUnderlying35 Tryz.sizeOf3) rfl <| oV (V_loadE rfl rfl hg2 foc0 rp0 rfl rfl Tryz.isAgg3) rfl <| oA rfl rfl <| nT <| CJ_seq <| sR <| oA rfl rfl <| nT ?_
  obtain ⟨y9, hl7, hK8⟩ := bind_c h
  refine CJ_cutT (X := Int) [3, 4, 12, 13, 14, 15, 16, 17, 18, 19, 20, 21, 22, 23] (fun a11 => ([(3, .int .i64 a11)] : Slots)) (fun a11 R => R) (fun a11 => y9 = a11) Dels.nil ?_ ?_
  ·
   refine CJ_block <| CJ_loopR (X := Nat × Int × Nat) [3, 4, 12, 13, 14, 15, 16, 17, 18, 19, 20, 21, 22, 23] (fun ⟨n, x12, x13⟩ => ([(3, .int .i64 x12), (4, .int .i64 (((x13 : Nat) : Int)))] : Slots)) (fun ⟨n, x12, x13⟩ R => R) (fun ⟨n, x12, x13⟩ => slices_Min_int_l2 p0 n x12 x13 = some y9) (fun ⟨n, x12, x13⟩ => n) ⟨FUEL, (p0.getD 0 0), 1⟩ ?_ ?_ eR ?_
   · exact hl7
   · exact ⟨rfl, rfl, True.intro⟩
   ·
    rintro ⟨n, x12, x13⟩ h
    cases n with
    | zero => exact none_e h
    | succ n => ?_
    replace h : slices_Min_int_l2_b p0 (slices_Min_int_l2 p0 n) x12 x13 = some y9 := h
    unfold slices_Min_int_l2_b at h
    show CJ _ _ _ _ _ (([(3, .int .i64 x12), (4, .int .i64 (((x13 : Nat) : Int)))] : Slots) ++ forget _ _) (_)
    refine CJ_seq <| sR <| oM rfl rfl <| oM rfl rfl <| oV (V_len rfl foc0 rp0 Tryz.runUnderlying35) rfl <| oP (P_lss (a := ((x13 : Nat) : Int)) (b := ((p0.length : Nat) : Int)) rfl rfl) rfl <| nT <| CJ_condP rfl bT_dec (fun hg3 => ?_) (fun hg3 => ?_)
    ·
     replace h := ite_t hg3 h
     exact kT <| CJ_seq <| CJ_block <| CJ_region <| oM rfl rfl <| oM rfl rfl <| oM rfl rfl <| oV (V_index (i := x13) rfl rfl rfl (by omega) foc0 rp0 Tryz.runUnderlying35 Tryz.sizeOf3) rfl <| oV (V_loadE rfl rfl (by omega) foc0 rp0 rfl rfl Tryz.isAgg3) rfl <| oP (P_min (a := x12) (b := (p0.getD x13 0)) rfl rfl) rfl <| oA rfl rfl <| RJ_nil <| QJ_block_normal <| QJ_then <| CJ_region <| oM rfl rfl <| oP (PJ_eq (P_add (a := ((x13 : Nat) : Int)) (b := (1 : Int)) rfl rfl (by omega)) rfl) rfl <| oA rfl rfl <| RJ_nil <| nR ⟨n, (min x12 (p0.getD x13 0)), (x13 + 1)⟩ h ⟨rfl, rfl, True.intro⟩ eR
    ·
     replace h := ite_f hg3 h
     exact CJ_exit <| QJ_then_exit <| QJ_round_exit <| QJ_block_here <| cR x12 (Option.some.inj h).symm ⟨rfl, True.intro⟩ eR
  ·
   rintro a11 hy14
   replace h := bindK_at hK8 hy14
   show CJ _ _ _ _ _ (([(3, .int .i64 a11)] : Slots) ++ forget _ _) (_)
   refine sR <| oM rfl rfl <| oA rfl rfl <| nT <| CJ_ret ?_
   cases h
   exact fE (res1 Tryz.results70 rfl) () eR
def slices_Index_int_l1_b (p0 : List Int) (p1 : Int) (rec : Nat → Option ((Unit) ⊕ Int)) (x6 : Nat) : Option ((Unit) ⊕ Int) :=
  if (((x6 : Nat) : Int) < ((p0.length : Nat) : Int)) then
    if (p1 = (p0.getD x6 0)) then
      some (.inr (((x6 : Nat) : Int)))
    else
      rec (x6 + 1)
  else
    some (.inl ())
def slices_Index_int_l1 (p0 : List Int) (p1 : Int) : Nat → Nat → Option ((Unit) ⊕ Int)
  | 0, _ => none
  | n + 1, x6 => slices_Index_int_l1_b p0 p1 (slices_Index_int_l1 p0 p1 n) x6
def slices_Index_int (p0 : List Int) (p1 : Int) : Option (Int) :=
  seqO (slices_Index_int_l1 p0 p1 FUEL 0) fun a5 =>
  some (-1 : Int)
theorem L_slices_Index_int {W : World} {Ap0 : HP} {vp0 : Value} {p0 : List Int} {p1 : Int} {r : Int} (rp0 : Reads Ap0 tyI vp0 p0) (h : slices_Index_int p0 p1 = some r) :
    CSpec Tryz.prog W 103 [vp0, .int .i64 p1] [Ap0] (fun x : Unit => .int .i64 r) (fun _ => True) (fun x F => Ap0 :: F) := by
 refine CSpec.of_body Tryz.func103 rfl Tryz.ntmps103 rfl fun F => ?_
 show CJ _ _ _ _ _ _ (_ :: F)
 unfold slices_Index_int at h
 refine CJ_pure (len_of rp0 del0) fun hlen1 => sR <| oA rfl rfl <| nT <| CJ_seq <| sR <| oM rfl rfl <| oV (V_len rfl foc0 rp0 Tryz.runUnderlying35) rfl <| oM rfl rfl <| nT ?_
 obtain ⟨y4, hl2, hK3⟩ := seq_e h
 refine CJ_cutT (X := Unit) [4, 5, 8, 9, 10, 11, 12, 13, 14, 15, 16, 17, 18] (fun _ => ([] : Slots)) (fun _ R => R) (fun _ => y4 = .inl ()) Dels.nil ?_ ?_
 ·
  refine CJ_block <| CJ_loopR (X := Nat × Nat) [4, 5, 8, 9, 10, 11, 12, 13, 14, 15, 16, 17, 18] (fun ⟨n, x6⟩ => ([(8, .int .i64 (((x6 : Nat) : Int)))] : Slots)) (fun ⟨n, x6⟩ R => R) (fun ⟨n, x6⟩ => slices_Index_int_l1 p0 p1 n x6 = some y4) (fun ⟨n, x6⟩ => n) ⟨FUEL, 0⟩ ?_ ?_ eR ?_
  · exact hl2
  · exact ⟨rfl, True.intro⟩
  ·
   rintro ⟨n, x6⟩ h
   cases n with
   | zero => exact none_e h
   | succ n => ?_
   replace h : slices_Index_int_l1_b p0 p1 (slices_Index_int_l1 p0 p1 n) x6 = some y4 := h
   unfold slices_Index_int_l1_b at h
   show CJ _ _ _ _ _ (([(8, .int .i64 (((x6 : Nat) : Int)))] : Slots) ++ forget _ _) (_)
   refine sR <| oP (P_lss (a := ((x6 : Nat) : Int)) (b := ((p0.length : Nat) : Int)) rfl rfl) rfl <| nT <| CJ_seq <| CJ_condP rfl bT_dec (fun hg1 => ?_) (fun hg1 => ?_)
   ·
    replace h := ite_t hg1 h
    refine kT <| CJ_seq <| CJ_block <| sR <| oM rfl rfl <| oA rfl rfl <| nT <| sR <| oM rfl rfl <| oM rfl rfl <| oM rfl rfl <| oV (V_index (i := x6) rfl rfl rfl (by omega) foc0 rp0 Tryz.runUnderlying35 Tryz.sizeOf3) rfl <| oV (V_loadE rfl rfl (by omega) foc0 rp0 rfl rfl Tryz.isAgg3) rfl <| oP (P_eql (a := p1) (b := (p0.getD x6 0)) rfl rfl) rfl <| nT <| CJ_condP rfl bT_dec (fun hg2 => ?_) (fun hg2 => ?_)
    ·
     replace h := ite_t hg2 h
     refine sR <| oM rfl rfl <| oA rfl rfl <| nT <| CJ_ret <| QJ_block_ret <| QJ_then_ret <| QJ_round_ret <| QJ_block_ret <| QJ_then_ret ?_
     have hE := Option.some.inj h
     replace hE := seq_inr hK3 hE.symm
     subst hE
     exact fE (res1 Tryz.results103 rfl) () eR
    ·
     replace h := ite_f hg2 h
     exact CJ_skip <| QJ_block_normal <| QJ_then <| CJ_region <| oP (PJ_eq (P_add (a := ((x6 : Nat) : Int)) (b := (1 : Int)) rfl rfl (by omega)) rfl) rfl <| oM rfl rfl <| RJ_nil <| nR ⟨n, (x6 + 1)⟩ h ⟨rfl, True.intro⟩ eR
   ·
    replace h := ite_f hg1 h
    exact CJ_exit <| QJ_then_exit <| QJ_round_exit <| QJ_block_here <| cR () (Option.some.inj h).symm True.intro eR
 ·
  rintro _ hy7
  replace h := seq_inl hK3 hy7
  show CJ _ _ _ _ _ (([] : Slots) ++ forget _ _) (_)
  refine sR <| oA rfl rfl <| nT <| CJ_ret ?_
  cases h
  exact fE (res1 Tryz.results103 rfl) () eR
def slices_Contains_int (p0 : List Int) (p1 : Int) : Option (Bool) :=
  Option.bind (slices_Index_int p0 p1) fun r2 =>
  some ((decide ((0 : Int) ≤ r2)))
theorem L_slices_Contains_int {W : World} {Ap0 : HP} {vp0 : Value} {p0 : List Int} {p1 : Int} {r : Bool} (rp0 : Reads Ap0 tyI vp0 p0) (h : slices_Contains_int p0 p1 = some r) :
    CSpec Tryz.prog W 71 [vp0, .int .i64 p1] [Ap0] (fun x : Unit => .bool r) (fun _ => True) (fun x F => Ap0 :: F) := by
 refine CSpec.of_body Tryz.func71 rfl Tryz.ntmps71 rfl fun F => ?_
 show CJ _ _ _ _ _ _ (_ :: F)
 unfold slices_Contains_int at h
 refine CJ_pure (len_of rp0 del0) fun hlen1 => sR <| oA rfl rfl <| nT <| sR <| oM rfl rfl <| oM rfl rfl ?_
 obtain ⟨r2, hr3, h⟩ := bind_e h
 refine oO <| O_call (L_slices_Index_int rp0 hr3) rfl Tryz.call103 (Dels.cons del0 Dels.nil) rfl fun _ _ => oP (P_geq (a := r2) (b := (0 : Int)) rfl rfl) rfl <| oA rfl rfl <| nT <| CJ_ret ?_
 cases h
 exact fE (res1 Tryz.results71 rfl) () eR
def parityvol_Open_l1_b (legs : List Dvc) (stale : List Int) (rec : VolS → Nat → Option (VolS)) (x24 : VolS) (x25 : Nat) : Option (VolS) :=
  if (((x25 : Nat) : Int) < ((legs.length : Nat) : Int)) then
    Option.bind (slices_Contains_int stale (((x25 : Nat) : Int))) fun r31 =>
    grd (inLen (x24.legs.length + 1)) <|
    rec ({ x24 with legs := (x24.legs ++ [(⟨(legs.getD x25 dv0), r31, false⟩ : prtS)]) }) (x25 + 1)
  else
    some x24
def parityvol_Open_l1 (legs : List Dvc) (stale : List Int) : Nat → VolS → Nat → Option (VolS)
  | 0, _, _ => none
  | n + 1, x24, x25 => parityvol_Open_l1_b legs stale (parityvol_Open_l1 legs stale n) x24 x25
def parityvol_Open_l2_b (legs : List Dvc) (stale : List Int) (rec : VolS → Nat → Option (VolS)) (x49 : VolS) (x50 : Nat) : Option (VolS) :=
  if (((x50 : Nat) : Int) < ((legs.length : Nat) : Int)) then
    Option.bind (slices_Contains_int stale (((x50 : Nat) : Int))) fun r56 =>
    grd (inLen (x49.legs.length + 1)) <|
    rec ({ x49 with legs := (x49.legs ++ [(⟨(legs.getD x50 dv0), r56, false⟩ : prtS)]) }) (x50 + 1)
  else
    some x49
def parityvol_Open_l2 (legs : List Dvc) (stale : List Int) : Nat → VolS → Nat → Option (VolS)
  | 0, _, _ => none
  | n + 1, x49, x50 => parityvol_Open_l2_b legs stale (parityvol_Open_l2 legs stale n) x49 x50
def parityvol_Open (legs : List Dvc) (stale : List Int) (chunk : Int) (s : ArrS) : Option ((Option VolS) × Int × ArrS) :=
  Option.bind (parityvol_newLayout legs chunk s) fun r7 =>
  if (r7.2 ≠ (0 : Int)) then
    some (none, r7.2, s)
  else
    Option.bind (slices_ContainsFunc_int__parityvol_Open_1 stale legs s) fun r10 =>
    if r10 = true then
      some ((none, (1 : Int), s))
    else
      if ((0 : Int) < ((stale.length : Nat) : Int)) then
        Option.bind (slices_Max_int stale) fun r12 =>
        Option.bind (slices_Min_int stale) fun r14 =>
        if (r12 ≠ r14) then
          some ((none, (19 : Int), s))
        else
          Option.bind (parityvol_Open_l1 legs stale FUEL ((⟨r7.1.n, r7.1.chunk, r7.1.rows, ([] : List prtS), (0 : UInt64), (0 : Int), (0 : Int), (0 : UInt64), (0 : UInt64), false, (0 : Int)⟩ : VolS)) 0) fun a23 =>
          Option.bind (parityvol_Volume_replay a23 s) fun r39 =>
          if (r39.1 ≠ (0 : Int)) then
            some (none, r39.1, r39.2.2)
          else
            some (((some r39.2.1), (0 : Int), r39.2.2))
      else
        Option.bind (parityvol_Open_l2 legs stale FUEL ((⟨r7.1.n, r7.1.chunk, r7.1.rows, ([] : List prtS), (0 : UInt64), (0 : Int), (0 : Int), (0 : UInt64), (0 : UInt64), false, (0 : Int)⟩ : VolS)) 0) fun a48 =>
        Option.bind (parityvol_Volume_replay a48 s) fun r64 =>
        if (r64.1 ≠ (0 : Int)) then
          some (none, r64.1, r64.2.2)
        else
          some (((some r64.2.1), (0 : Int), r64.2.2))
theorem L_parityvol_Open {W : World} {Alegs : HP} {vlegs : Value} {hslegs : List IfH} {Astale : HP} {vstale : Value} {bs : Nat} {legs : List Dvc} {stale : List Int} {chunk : Int} {s : ArrS} {r : (Option VolS) × Int × ArrS} (rlegs : Reads Alegs tyDev vlegs hslegs) (rstale : Reads Astale tyI vstale stale) (h : parityvol_Open legs stale chunk s = some r) :
    CSpec Tryz.prog W 26 [vlegs, vstale, .int .i64 chunk] [Alegs, Rs (DevP bs) legs hslegs, Astale, Arr bs s] (fun x : Nat => .tuple #[oval r.1 x, .int .i64 r.2.1]) (fun _ => True) (fun x F => Alegs :: Rs (DevP bs) legs hslegs :: Astale :: Arr bs r.2.2 :: optP (VolP bs x) r.1 :: F) := by
 refine CSpec.of_body Tryz.func26 rfl Tryz.ntmps26 rfl fun F => ?_
 show CJ _ _ _ _ _ _ (_ :: _ :: _ :: _ :: F)
 unfold parityvol_Open at h
 refine CJ_pure (len_of rlegs del0) fun hlen1 => CJ_pure (fun h hh => Rs_len (stars_perm (del1 (A := Rs (DevP bs) legs hslegs)).out h hh)) fun hdl2 => CJ_pure (len_of rstale del2) fun hlen3 => sR <| RJ_pure (reads_sl3 rlegs del0) fun hsv5 => ?_
 obtain ⟨sv4, hsv5⟩ := hsv5
 subst hsv5
 refine oO <| O_box rfl rfl rfl fun b6 => oA rfl rfl <| oA rfl rfl <| nT <| sR <| oV (V_load rfl foc0 rfl Tryz.isAgg62) rfl <| oM rfl rfl ?_
 obtain ⟨r7, hr8, h⟩ := bind_e h
 refine oO <| O_call (L_parityvol_newLayout rlegs hr8) rfl Tryz.call65 (Dels.cons del1 (Dels.cons del1 (Dels.cons del2 Dels.nil))) rfl fun _ _ => oM rfl rfl <| oP (P_extract rfl rfl) rfl <| oP (P_extract rfl rfl) rfl <| oO <| O_alloc Tryz.zeroValue112 rfl rfl fun b9 => oO <| O_storeN rfl rfl foc0 Tryz.sizeOf112 rfl rfl rfl <| oA rfl rfl <| nT <| CJ_seq <| sR <| oM rfl rfl <| oP (P_neq (a := r7.2) (b := (0 : Int)) rfl rfl) rfl <| nT <| CJ_condP rfl bT_dec (fun hg1 => ?_) (fun hg1 => ?_)
 ·
  replace h := ite_t hg1 h
  refine sR <| oM rfl rfl <| oA rfl rfl <| oA rfl rfl <| nT <| CJ_ret <| QJ_then_ret ?_
  cases h
  exact fE (res2 Tryz.results26 rfl rfl) 0 (t1_ (t1_ (t3_ (t1_ (Ent.trans (fun h hh => optP_none h hh) <| t0_ (eD (eD eR)))))))
 ·
  replace h := ite_f hg1 h
  refine kT <| CJ_seq <| sR <| oM rfl rfl <| oP (P_makeFunc rfl rfl) rfl ?_
  obtain ⟨r10, hr11, h⟩ := bind_e h
  refine oO <| O_call (L_slices_ContainsFunc_int__parityvol_Open_1 rstale rlegs hr11) rfl Tryz.call67 (Dels.cons del5 (Dels.cons del4 (Dels.cons del1 (Dels.cons del1 (Dels.cons del1 Dels.nil))))) rfl fun _ _ => nT <| CJ_condP rfl Iff.rfl (fun hg2 => ?_) (fun hg2 => ?_)
  ·
   replace h := ite_t hg2 h
   refine sR <| oA rfl rfl <| oA rfl rfl <| nT <| CJ_ret <| QJ_then_ret ?_
   cases h
   exact fE (res2 Tryz.results26 rfl rfl) 0 (t2_ (t2_ (t0_ (t1_ (Ent.trans (fun h hh => optP_none h hh) <| t0_ (eD (eD eR)))))))
  ·
   replace h := ite_f hg2 h
   refine kT <| CJ_seq <| sR <| oM rfl rfl <| oV (V_len rfl foc0 rstale Tryz.runUnderlying35) rfl <| oP (P_gtr (a := ((stale.length : Nat) : Int)) (b := (0 : Int)) rfl rfl) rfl <| oM rfl rfl <| RJ_splitP 29 rfl bT_dec (fun hg3B hg3 => ?_) (fun hg3B hg3 => ?_)
   ·
    replace h := ite_t hg3 h
    refine gP (GY_yes rfl rfl rfl hg3B) (P_move rfl) rfl ?_
    obtain ⟨r12, hr13, h⟩ := bind_e h
    refine RJ_gy (GY_yes rfl rfl rfl hg3B) <| O_call (L_slices_Max_int rstale hr13) rfl Tryz.call69 (Dels.cons del0 Dels.nil) rfl fun _ _ => gP (GY_yes rfl rfl rfl hg3B) (P_move rfl) rfl ?_
    obtain ⟨r14, hr15, h⟩ := bind_e h
    refine RJ_gy (GY_yes rfl rfl rfl hg3B) <| O_call (L_slices_Min_int rstale hr15) rfl Tryz.call70 (Dels.cons del0 Dels.nil) rfl fun _ _ => gP (GY_yes rfl rfl rfl hg3B) (P_neq (a := r12) (b := r14) rfl rfl) rfl <| oP (P_pickT rfl hg3B rfl) rfl <| nT <| CJ_condP rfl bT_dec (fun hg4 => ?_) (fun hg4 => ?_)
    ·
     replace h := ite_t hg4 h
     refine sR <| oA rfl rfl <| oA rfl rfl <| nT <| CJ_ret <| QJ_then_ret ?_
     cases h
     exact fE (res2 Tryz.results26 rfl rfl) 0 (t2_ (t2_ (t0_ (t1_ (Ent.trans (fun h hh => optP_none h hh) <| t0_ (eD (eD eR)))))))
    ·
     replace h := ite_f hg4 h
     refine kT <| sR <| oV (V_loadN rfl foc5 Tryz.isAgg112 Tryz.sizeOf112 rfl rfl) rfl <| oP (P_build rfl (bld_123_0 _ _ _)) rfl <| oO <| O_box rfl rfl rfl fun b16 => oA rfl rfl <| RJ_nil <| QJ_ent (t0_ (t0_ (t0_ (t0_ (t0_ (t0_ (eD eR))))))) <| QJ_then <| CJ_seq <| sR <| oV (V_load rfl foc2 rfl Tryz.isAgg62) rfl <| oV (VJ_eq (V_len rfl foc3 rlegs Tryz.runUnderlying62) (congrArg (fun z : Nat => Value.int .i64 (z : Int)) (hdl2).symm)) rfl <| oM rfl rfl <| nT <| CJ_ent (fun h hh => sl_nil (t := typrtH) h (rs_nil (RP := DevP bs) h hh)) <| CJ_ent (Ent.trans (t2_ eR) (VolP_mk (v0 := r7.1.n) (v1 := r7.1.chunk) (v2 := r7.1.rows) (v3 := ([] : List prtS)) (v4 := (0 : UInt64)) (v5 := (0 : Int)) (v6 := (0 : Int)) (v7 := (0 : UInt64)) (v8 := (0 : UInt64)) (v9 := false) (v10 := (0 : Int)) (h0 := ⟨none, 0, 0⟩) (h1 := ([] : List IfH)))) ?_
     obtain ⟨y21, hl19, hK20⟩ := bind_c h
     refine CJ_cutT (X := VolS) [11, 12, 41, 42, 43, 44, 45, 46, 47, 48, 49, 50, 51, 52, 53, 54, 55, 56, 57, 58, 59, 60] (fun a23 => ([] : Slots)) (fun a23 R => VolP bs b16 a23 :: R) (fun a23 => y21 = a23) (Dels.cons del0 (Dels.cons del1 Dels.nil)) ?_ ?_
     ·
      refine CJ_block <| CJ_loopR (X := Nat × VolS × Nat) [11, 12, 41, 42, 43, 44, 45, 46, 47, 48, 49, 50, 51, 52, 53, 54, 55, 56, 57, 58, 59, 60] (fun ⟨n, x24, x25⟩ => ([(41, .int .i64 (((x25 : Nat) : Int)))] : Slots)) (fun ⟨n, x24, x25⟩ R => VolP bs b16 x24 :: R) (fun ⟨n, x24, x25⟩ => parityvol_Open_l1 legs stale n x24 x25 = some y21) (fun ⟨n, x24, x25⟩ => n) ⟨FUEL, (⟨r7.1.n, r7.1.chunk, r7.1.rows, ([] : List prtS), (0 : UInt64), (0 : Int), (0 : Int), (0 : UInt64), (0 : UInt64), false, (0 : Int)⟩ : VolS), 0⟩ ?_ ?_ (t0_ (t0_ (t1_ (t1_ (t1_ (eD eR)))))) ?_
      · exact hl19
      · exact ⟨rfl, True.intro⟩
      ·
       rintro ⟨n, x24, x25⟩ h
       cases n with
       | zero => exact none_e h
       | succ n => ?_
       replace h : parityvol_Open_l1_b legs stale (parityvol_Open_l1 legs stale n) x24 x25 = some y21 := h
       unfold parityvol_Open_l1_b at h
       show CJ _ _ _ _ _ (([(41, .int .i64 (((x25 : Nat) : Int)))] : Slots) ++ forget _ _) (VolP bs b16 x24 :: _)
       refine sR <| oP (P_lss (a := ((x25 : Nat) : Int)) (b := ((legs.length : Nat) : Int)) rfl rfl) rfl <| nT <| CJ_seq <| CJ_condP rfl bT_dec (fun hg5 => ?_) (fun hg5 => ?_)
       ·
        replace h := ite_t hg5 h
        refine kT <| CJ_seq <| CJ_block <| sR <| oM rfl rfl <| oV (V_index (i := x25) rfl rfl rfl (by have hz : x25 < legs.length := (by omega); have hy := hdl2; omega) foc2 rlegs Tryz.runUnderlying62 Tryz.sizeOf79) rfl <| RJ_ent (Ent.trans (t3_ eR) (Rs_at (fun _ _ => Dup_DevP) (dx := dv0) (dh := tyDev.dflt) (i := x25) (by omega))) <| oV (V_loadE rfl rfl (by have hz : x25 < legs.length := (by omega); have hy := hdl2; omega) foc4 rlegs rfl rfl Tryz.isAgg79) rfl <| oA rfl rfl <| oA rfl rfl <| nT <| CJ_entX (Ent.transX (t2_ eR) (VolP_open (l := x24))) fun oc27 => CJ_pure (fun h hh => Rs_len (stars_perm (del2 (A := Rs (DevP bs) (x24.legs.map prtS.dev) oc27.2)).out h hh)) fun hdl29 => lC del1 fun hlen30 => ?_
        rw [mk_prt_len (by have := hdl29; simpa using this)] at hlen30
        refine AJ_startH 18432 (by kernel_rfl) rfl <| aN 0 1 rfl rfl (P_move rfl) rfl <| aN 1 3 rfl rfl (P_move rfl) rfl <| aN 2 7 rfl rfl (P_nilCheck rfl) rfl <| aN 3 15 rfl rfl (P_fieldAddr rfl ⟨_, _, _, Tryz.runUnderlying123, rfl, rfl, Tryz.sizeOf119, rfl⟩) rfl <| aV 4 31 rfl rfl (GY_none rfl) eR (V_load rfl foc0 rfl Tryz.isAgg119) rfl <| aN 5 63 rfl rfl (P_move rfl) rfl <| aN 6 127 rfl rfl (P_move rfl) rfl <| aN 7 255 rfl rfl (P_move rfl) rfl ?_
        obtain ⟨r31, hr32, h⟩ := bind_e h
        refine AJ_op 8 511 rfl (by kernel_rfl) rfl (GY_none rfl) <| O_call (L_slices_Contains_int rstale hr32) rfl Tryz.call71 (Dels.cons del5 Dels.nil) rfl fun _ _ => ⟨fun _ => (t1_ (t1_ (t1_ (t1_ (t1_ eR))))), ?_⟩
        refine aN 9 1023 rfl rfl (P_build rfl (bld_126_0_1 _ _ _)) rfl <| AJ_op 10 2047 rfl (by kernel_rfl) rfl (GY_none rfl) <| O_buildSlice rfl (bs_119_1_0 _ _ _ _) rfl fun b33 => ⟨fun _ => (t2_ (t2_ (t2_ (t2_ (t2_ (t1_ (t1_ (t1_ (eD eR))))))))), ?_⟩
        obtain ⟨hg6, h⟩ := grd_Le h
        refine AJ_op 11 4095 rfl (by kernel_rfl) rfl (GY_none rfl) <| O_append (t := typrtH) (bytes := 24) rfl rfl del3 foc0 (Reads.lit (t := typrtH) (ys := [(⟨((hslegs.getD x25 tyDev.dflt) : IfH), r31, false⟩ : prtH)]) rfl rfl (by decide) (by decide) rfl) Tryz.underlying119 ok_typrtH (apl (m := 1) (b := 24) (show (mk_prt x24.legs oc27.2).length + 1 ≤ 1000000000 by rw [mk_prt_len (by have := hdl29; simpa using this)]; exact hg6) (by decide)).1 (apl (m := 1) (b := 24) (show (mk_prt x24.legs oc27.2).length + 1 ≤ 1000000000 by rw [mk_prt_len (by have := hdl29; simpa using this)]; exact hg6) (by decide)).2 rfl fun p35 c36 => ⟨fun h => absurd h (by decide), ?_⟩
        refine AJ_ent (Ent.takeC (A' := sl typrtH (.slice p35 (mk_prt x24.legs oc27.2 ++ [(⟨((hslegs.getD x25 tyDev.dflt) : IfH), r31, false⟩ : prtH)]).length c36) (mk_prt (x24.legs ++ [(⟨(legs.getD x25 dv0), r31, false⟩ : prtS)]) (oc27.2 ++ [((hslegs.getD x25 tyDev.dflt) : IfH)]))) del0 (congrArg (sl typrtH _) (mk_prt_snoc (by have := hdl29; simpa using this) (⟨(legs.getD x25 dv0), r31, false⟩ : prtS) ((hslegs.getD x25 tyDev.dflt) : IfH))) eR) <| AJ_ent (Ent.trans (t4_ (t4_ eR)) (Rs_push (x := (legs.getD x25 dv0)) (g := ((hslegs.getD x25 tyDev.dflt) : IfH)) (fun _ _ => Dup_DevP))) <| AJ_ent (Ent.takeC (A' := Rs (DevP bs) (((x24.legs ++ [(⟨(legs.getD x25 dv0), r31, false⟩ : prtS)])).map prtS.dev) (oc27.2 ++ [((hslegs.getD x25 tyDev.dflt) : IfH)])) del0 (congrArg (fun z => Rs (DevP bs) z (oc27.2 ++ [((hslegs.getD x25 tyDev.dflt) : IfH)])) (by simp)) eR) <| AJ_pure (fun h hh => Rs_len (stars_perm (del0 (A := Rs (DevP bs) ((((x24.legs ++ [(⟨(legs.getD x25 dv0), r31, false⟩ : prtS)])).map prtS.dev)) ((oc27.2 ++ [((hslegs.getD x25 tyDev.dflt) : IfH)])))).out h hh)) fun hdl37 => aN 12 8191 rfl rfl (P_nilCheck rfl) rfl <| aN 13 16383 rfl rfl (P_fieldAddr rfl ⟨_, _, _, Tryz.runUnderlying123, rfl, rfl, Tryz.sizeOf119, rfl⟩) rfl <| AJ_op 14 32767 rfl (by kernel_rfl) rfl (GY_none rfl) <| O_store rfl rfl foc5 rfl rfl Tryz.sizeOf119 <| ⟨fun h => absurd h (by decide), ?_⟩
        exact AJ_done (by kernel_rfl) <| QJ_ent (Ent.trans (t5_ (t2_ eR)) (VolP_mk (v0 := x24.layout_n) (v1 := x24.layout_chunk) (v2 := x24.layout_rows) (v3 := (x24.legs ++ [(⟨(legs.getD x25 dv0), r31, false⟩ : prtS)])) (v4 := x24.last_seq) (v5 := x24.last_offset) (v6 := x24.last_leg) (v7 := x24.last_word) (v8 := x24.last_parity) (v9 := x24.pending) (v10 := x24.filled) (h0 := ⟨p35, (mk_prt x24.legs oc27.2 ++ [(⟨((hslegs.getD x25 tyDev.dflt) : IfH), r31, false⟩ : prtH)]).length, c36⟩) (h1 := (oc27.2 ++ [((hslegs.getD x25 tyDev.dflt) : IfH)])))) <| QJ_block_normal <| QJ_ent (t0_ (t2_ (t2_ (t2_ (t2_ (eD (eD eR))))))) <| QJ_then <| CJ_region <| oP (PJ_eq (P_add (a := ((x25 : Nat) : Int)) (b := (1 : Int)) rfl rfl (by omega)) rfl) rfl <| oM rfl rfl <| RJ_nil <| nR ⟨n, { x24 with legs := (x24.legs ++ [(⟨(legs.getD x25 dv0), r31, false⟩ : prtS)]) }, (x25 + 1)⟩ h ⟨rfl, True.intro⟩ (t0_ (t0_ (t1_ eR)))
       ·
        replace h := ite_f hg5 h
        exact CJ_exit <| QJ_then_exit <| QJ_round_exit <| QJ_block_here <| cR x24 (Option.some.inj h).symm True.intro eR
     ·
      rintro a23 hy38
      replace h := bindK_at hK20 hy38
      show CJ _ _ _ _ _ (([] : Slots) ++ forget _ _) (VolP bs b16 a23 :: _)
      refine CJ_seq <| sR <| oM rfl rfl ?_
      obtain ⟨r39, hr40, h⟩ := bind_e h
      refine oO <| O_call (L_parityvol_Volume_replay hr40) rfl Tryz.call72 (Dels.cons del0 (Dels.cons del3 Dels.nil)) rfl fun _ _ => oA rfl rfl <| nT <| sR <| oM rfl rfl <| oP (P_neq (a := r39.1) (b := (0 : Int)) rfl rfl) rfl <| nT <| CJ_condP rfl bT_dec (fun hg7 => ?_) (fun hg7 => ?_)
      ·
       replace h := ite_t hg7 h
       refine sR <| oM rfl rfl <| oA rfl rfl <| oA rfl rfl <| nT <| CJ_ret <| QJ_then_ret ?_
       cases h
       exact fE (res2 Tryz.results26 rfl rfl) 0 (t3_ (t3_ (t2_ (t1_ (Ent.trans (fun h hh => optP_none h hh) <| t0_ (eD eR))))))
      ·
       replace h := ite_f hg7 h
       refine kT <| sR <| oM rfl rfl <| oA rfl rfl <| oA rfl rfl <| nT <| CJ_ret ?_
       cases h
       exact fE (res2 Tryz.results26 rfl rfl) b16 (t3_ (t3_ (t2_ (t1_ eR))))
   ·
    replace h := ite_f hg3 h
    refine RJ_gn (GY_no rfl rfl rfl hg3B) rfl rfl <| RJ_gn (GY_no rfl rfl rfl hg3B) rfl rfl <| RJ_gn (GY_no rfl rfl rfl hg3B) rfl rfl <| RJ_gn (GY_no rfl rfl rfl hg3B) rfl rfl <| RJ_gn (GY_no rfl rfl rfl hg3B) rfl rfl <| oP (P_pickF rfl hg3B rfl) rfl <| nT <| CJ_condF rfl rfl <| kT <| sR <| oV (V_loadN rfl foc5 Tryz.isAgg112 Tryz.sizeOf112 rfl rfl) rfl <| oP (P_build rfl (bld_123_0 _ _ _)) rfl <| oO <| O_box rfl rfl rfl fun b41 => oA rfl rfl <| RJ_nil <| QJ_ent (t0_ (t0_ (t0_ (t0_ (t0_ (t0_ (eD eR))))))) <| QJ_then <| CJ_seq <| sR <| oV (V_load rfl foc2 rfl Tryz.isAgg62) rfl <| oV (VJ_eq (V_len rfl foc3 rlegs Tryz.runUnderlying62) (congrArg (fun z : Nat => Value.int .i64 (z : Int)) (hdl2).symm)) rfl <| oM rfl rfl <| nT <| CJ_ent (fun h hh => sl_nil (t := typrtH) h (rs_nil (RP := DevP bs) h hh)) <| CJ_ent (Ent.trans (t2_ eR) (VolP_mk (v0 := r7.1.n) (v1 := r7.1.chunk) (v2 := r7.1.rows) (v3 := ([] : List prtS)) (v4 := (0 : UInt64)) (v5 := (0 : Int)) (v6 := (0 : Int)) (v7 := (0 : UInt64)) (v8 := (0 : UInt64)) (v9 := false) (v10 := (0 : Int)) (h0 := ⟨none, 0, 0⟩) (h1 := ([] : List IfH)))) ?_
    obtain ⟨y46, hl44, hK45⟩ := bind_c h
    refine CJ_cutT (X := VolS) [11, 12, 41, 42, 43, 44, 45, 46, 47, 48, 49, 50, 51, 52, 53, 54, 55, 56, 57, 58, 59, 60] (fun a48 => ([] : Slots)) (fun a48 R => VolP bs b41 a48 :: R) (fun a48 => y46 = a48) (Dels.cons del0 (Dels.cons del1 Dels.nil)) ?_ ?_
    ·
     refine CJ_block <| CJ_loopR (X := Nat × VolS × Nat) [11, 12, 41, 42, 43, 44, 45, 46, 47, 48, 49, 50, 51, 52, 53, 54, 55, 56, 57, 58, 59, 60] (fun ⟨n, x49, x50⟩ => ([(41, .int .i64 (((x50 : Nat) : Int)))] : Slots)) (fun ⟨n, x49, x50⟩ R => VolP bs b41 x49 :: R) (fun ⟨n, x49, x50⟩ => parityvol_Open_l2 legs stale n x49 x50 = some y46) (fun ⟨n, x49, x50⟩ => n) ⟨FUEL, (⟨r7.1.n, r7.1.chunk, r7.1.rows, ([] : List prtS), (0 : UInt64), (0 : Int), (0 : Int), (0 : UInt64), (0 : UInt64), false, (0 : Int)⟩ : VolS), 0⟩ ?_ ?_ (t0_ (t0_ (t1_ (t1_ (t1_ (eD eR)))))) ?_
     · exact hl44
     · exact ⟨rfl, True.intro⟩
     ·
      rintro ⟨n, x49, x50⟩ h
      cases n with
      | zero => exact none_e h
      | succ n => ?_
      replace h : parityvol_Open_l2_b legs stale (parityvol_Open_l2 legs stale n) x49 x50 = some y46 := h
      unfold parityvol_Open_l2_b at h
      show CJ _ _ _ _ _ (([(41, .int .i64 (((x50 : Nat) : Int)))] : Slots) ++ forget _ _) (VolP bs b41 x49 :: _)
      refine sR <| oP (P_lss (a := ((x50 : Nat) : Int)) (b := ((legs.length : Nat) : Int)) rfl rfl) rfl <| nT <| CJ_seq <| CJ_condP rfl bT_dec (fun hg8 => ?_) (fun hg8 => ?_)
      ·
       replace h := ite_t hg8 h
       refine kT <| CJ_seq <| CJ_block <| sR <| oM rfl rfl <| oV (V_index (i := x50) rfl rfl rfl (by have hz : x50 < legs.length := (by omega); have hy := hdl2; omega) foc2 rlegs Tryz.runUnderlying62 Tryz.sizeOf79) rfl <| RJ_ent (Ent.trans (t3_ eR) (Rs_at (fun _ _ => Dup_DevP) (dx := dv0) (dh := tyDev.dflt) (i := x50) (by omega))) <| oV (V_loadE rfl rfl (by have hz : x50 < legs.length := (by omega); have hy := hdl2; omega) foc4 rlegs rfl rfl Tryz.isAgg79) rfl <| oA rfl rfl <| oA rfl rfl <| nT <| CJ_entX (Ent.transX (t2_ eR) (VolP_open (l := x49))) fun oc52 => CJ_pure (fun h hh => Rs_len (stars_perm (del2 (A := Rs (DevP bs) (x49.legs.map prtS.dev) oc52.2)).out h hh)) fun hdl54 => lC del1 fun hlen55 => ?_
       rw [mk_prt_len (by have := hdl54; simpa using this)] at hlen55
       refine AJ_startH 18432 (by kernel_rfl) rfl <| aN 0 1 rfl rfl (P_move rfl) rfl <| aN 1 3 rfl rfl (P_move rfl) rfl <| aN 2 7 rfl rfl (P_nilCheck rfl) rfl <| aN 3 15 rfl rfl (P_fieldAddr rfl ⟨_, _, _, Tryz.runUnderlying123, rfl, rfl, Tryz.sizeOf119, rfl⟩) rfl <| aV 4 31 rfl rfl (GY_none rfl) eR (V_load rfl foc0 rfl Tryz.isAgg119) rfl <| aN 5 63 rfl rfl (P_move rfl) rfl <| aN 6 127 rfl rfl (P_move rfl) rfl <| aN 7 255 rfl rfl (P_move rfl) rfl ?_
       obtain ⟨r56, hr57, h⟩ := bind_e h
       refine AJ_op 8 511 rfl (by kernel_rfl) rfl (GY_none rfl) <| O_call (L_slices_Contains_int rstale hr57) rfl Tryz.call71 (Dels.cons del5 Dels.nil) rfl fun _ _ => ⟨fun _ => (t1_ (t1_ (t1_ (t1_ (t1_ eR))))), ?_⟩
       refine aN 9 1023 rfl rfl (P_build rfl (bld_126_0_1 _ _ _)) rfl <| AJ_op 10 2047 rfl (by kernel_rfl) rfl (GY_none rfl) <| O_buildSlice rfl (bs_119_1_0 _ _ _ _) rfl fun b58 => ⟨fun _ => (t2_ (t2_ (t2_ (t2_ (t2_ (t1_ (t1_ (t1_ (eD eR))))))))), ?_⟩
       obtain ⟨hg9, h⟩ := grd_Le h
       refine AJ_op 11 4095 rfl (by kernel_rfl) rfl (GY_none rfl) <| O_append (t := typrtH) (bytes := 24) rfl rfl del3 foc0 (Reads.lit (t := typrtH) (ys := [(⟨((hslegs.getD x50 tyDev.dflt) : IfH), r56, false⟩ : prtH)]) rfl rfl (by decide) (by decide) rfl) Tryz.underlying119 ok_typrtH (apl (m := 1) (b := 24) (show (mk_prt x49.legs oc52.2).length + 1 ≤ 1000000000 by rw [mk_prt_len (by have := hdl54; simpa using this)]; exact hg9) (by decide)).1 (apl (m := 1) (b := 24) (show (mk_prt x49.legs oc52.2).length + 1 ≤ 1000000000 by rw [mk_prt_len (by have := hdl54; simpa using this)]; exact hg9) (by decide)).2 rfl fun p60 c61 => ⟨fun h => absurd h (by decide), ?_⟩
       refine AJ_ent (Ent.takeC (A' := sl typrtH (.slice p60 (mk_prt x49.legs oc52.2 ++ [(⟨((hslegs.getD x50 tyDev.dflt) : IfH), r56, false⟩ : prtH)]).length c61) (mk_prt (x49.legs ++ [(⟨(legs.getD x50 dv0), r56, false⟩ : prtS)]) (oc52.2 ++ [((hslegs.getD x50 tyDev.dflt) : IfH)]))) del0 (congrArg (sl typrtH _) (mk_prt_snoc (by have := hdl54; simpa using this) (⟨(legs.getD x50 dv0), r56, false⟩ : prtS) ((hslegs.getD x50 tyDev.dflt) : IfH))) eR) <| AJ_ent (Ent.trans (t4_ (t4_ eR)) (Rs_push (x := (legs.getD x50 dv0)) (g := ((hslegs.getD x50 tyDev.dflt) : IfH)) (fun _ _ => Dup_DevP))) <| AJ_ent (Ent.takeC (A' := Rs (DevP bs) (((x49.legs ++ [(⟨(legs.getD x50 dv0), r56, false⟩ : prtS)])).map prtS.dev) (oc52.2 ++ [((hslegs.getD x50 tyDev.dflt) : IfH)])) del0 (congrArg (fun z => Rs (DevP bs) z (oc52.2 ++ [((hslegs.getD x50 tyDev.dflt) : IfH)])) (by simp)) eR) <| AJ_pure (fun h hh => Rs_len (stars_perm (del0 (A := Rs (DevP bs) ((((x49.legs ++ [(⟨(legs.getD x50 dv0), r56, false⟩ : prtS)])).map prtS.dev)) ((oc52.2 ++ [((hslegs.getD x50 tyDev.dflt) : IfH)])))).out h hh)) fun hdl62 => aN 12 8191 rfl rfl (P_nilCheck rfl) rfl <| aN 13 16383 rfl rfl (P_fieldAddr rfl ⟨_, _, _, Tryz.runUnderlying123, rfl, rfl, Tryz.sizeOf119, rfl⟩) rfl <| AJ_op 14 32767 rfl (by kernel_rfl) rfl (GY_none rfl) <| O_store rfl rfl foc5 rfl rfl Tryz.sizeOf119 <| ⟨fun h => absurd h (by decide), ?_⟩
       exact AJ_done (by kernel_rfl) <| QJ_ent (Ent.trans (t5_ (t2_ eR)) (VolP_mk (v0 := x49.layout_n) (v1 := x49.layout_chunk) (v2 := x49.layout_rows) (v3 := (x49.legs ++ [(⟨(legs.getD x50 dv0), r56, false⟩ : prtS)])) (v4 := x49.last_seq) (v5 := x49.last_offset) (v6 := x49.last_leg) (v7 := x49.last_word) (v8 := x49.last_parity) (v9 := x49.pending) (v10 := x49.filled) (h0 := ⟨p60, (mk_prt x49.legs oc52.2 ++ [(⟨((hslegs.getD x50 tyDev.dflt) : IfH), r56, false⟩ : prtH)]).length, c61⟩) (h1 := (oc52.2 ++ [((hslegs.getD x50 tyDev.dflt) : IfH)])))) <| QJ_block_normal <| QJ_ent (t0_ (t2_ (t2_ (t2_ (t2_ (eD (eD eR))))))) <| QJ_then <| CJ_region <| oP (PJ_eq (P_add (a := ((x50 : Nat) : Int)) (b := (1 : Int)) rfl rfl (by omega)) rfl) rfl <| oM rfl rfl <| RJ_nil <| nR ⟨n, { x49 with legs := (x49.legs ++ [(⟨(legs.getD x50 dv0), r56, false⟩ : prtS)]) }, (x50 + 1)⟩ h ⟨rfl, True.intro⟩ (t0_ (t0_ (t1_ eR)))
      ·
       replace h := ite_f hg8 h
       exact CJ_exit <| QJ_then_exit <| QJ_round_exit <| QJ_block_here <| cR x49 (Option.some.inj h).symm True.intro eR
    ·
     rintro a48 hy63
     replace h := bindK_at hK45 hy63
     show CJ _ _ _ _ _ (([] : Slots) ++ forget _ _) (VolP bs b41 a48 :: _)
     refine CJ_seq <| sR <| oM rfl rfl ?_
     obtain ⟨r64, hr65, h⟩ := bind_e h
     refine oO <| O_call (L_parityvol_Volume_replay hr65) rfl Tryz.call72 (Dels.cons del0 (Dels.cons del3 Dels.nil)) rfl fun _ _ => oA rfl rfl <| nT <| sR <| oM rfl rfl <| oP (P_neq (a := r64.1) (b := (0 : Int)) rfl rfl) rfl <| nT <| CJ_condP rfl bT_dec (fun hg10 => ?_) (fun hg10 => ?_)
     ·
      replace h := ite_t hg10 h
      refine sR <| oM rfl rfl <| oA rfl rfl <| oA rfl rfl <| nT <| CJ_ret <| QJ_then_ret ?_
      cases h
      exact fE (res2 Tryz.results26 rfl rfl) 0 (t3_ (t3_ (t2_ (t1_ (Ent.trans (fun h hh => optP_none h hh) <| t0_ (eD eR))))))
     ·
      replace h := ite_f hg10 h
      refine kT <| sR <| oM rfl rfl <| oA rfl rfl <| oA rfl rfl <| nT <| CJ_ret ?_
      cases h
      exact fE (res2 Tryz.results26 rfl rfl) b41 (t3_ (t3_ (t2_ (t1_ eR))))
end Go.Proofs
namespace Go.Proofs
open Go.VG
section
variable {C : PC} {V V' : Nat → Nat → UInt64} {st fl : Option Nat} {qo q q' : UInt64} {e e' : PE} {k i d f o a : Nat} {mz : Nat → Bool} {F : Prop} {K K' : Nat} {s t u : ArrS} {v w : UInt64} {p : Bool}
theorem Q0.flush (he : PEn C mz F K s) (hd : d < C.L) (h : Q0 C V q e s d) (hu : Fls C s t d) : Q0 C V q e t d := by
  have hO := @PC.hO C
  have hsz : C.sz = 16 + C.O := rfl
  have s1 := @sl_le q
  have hc1 : ∀ b, b < C.sz → ∀ c, c ∈ cand t d b → c = now s d b := fun b hb c hc => by rw [hu.cand d b hd hb, if_pos rfl, List.mem_singleton] at hc; exact hc
  have hnc : ∀ b, b < C.sz → now s d b ∈ cand s d b := fun b hb => he.now_cand hd hb
  exact ⟨fun c hc => by rw [hc1 0 (by omega) c hc]; exact h.hn, by rw [hu.now]; exact h.hn, fun z j hj c hc => by rw [hc1 _ (by omega) c hc]; exact h.bd z j hj _ (hnc _ (by omega)), fun o ho hx c hc => by rw [hc1 _ (by omega) c hc]; exact h.nw trivial o ho, fun z o ho => by rw [hu.now]; exact h.nw z o ho, fun j hj => absurd hj (by omega), fun z => z.elim⟩
structure Rr (C : PC) (st : Option Nat) (V : Nat → Nat → UInt64) (q : UInt64) (e : PE) (s : ArrS) : Prop where
  lo : Ls C st fun d => (now s d 0).toNat ≤ q.toNat
  bd : Ls C st fun d => now s d 0 = q → q ≠ 0 → ∀ i, i < 3 → now s d (slq q + i) = bodyW e i
  dt : Ls C st fun d => ∀ o, o < C.O → ¬ (q ≠ 0 ∧ exE C e d o) → now s d (16 + o) = V d o
  ex : ∃ d, d < C.L ∧ st ≠ some d ∧ now s d 0 = q
  sg : ∀ d b, cand s d b = [now s d b]
theorem Ls.some (hst : Option Nat) : ∃ d, d < C.L ∧ hst ≠ some d := by
  have hL := C.hL
  by_cases h : hst = Option.some 0
  · exact ⟨1, by omega, by rw [h]; simp⟩
  · exact ⟨0, by omega, h⟩
theorem Rr.of_Q (hA : Qs C st V q e s) (hr : Restarted C.ns K s t) : Rr C st V q e t := by
  have hO := @PC.hO C
  have hsz : C.sz = 16 + C.O := rfl
  have s1 := @sl_le q
  have hn : ∀ d b, d < C.L → b < C.sz → now t d b ∈ cand s d b := fun d b hd hb => hr.now d b (by rw [PC.len]; exact hd) (by rw [PC.nsz hd]; exact hb)
  have h0 : ∀ d, d < C.L → st ≠ some d → now t d 0 = q := fun d hd hds => (hA d hd hds).hd _ (hn d 0 hd (by omega))
  obtain ⟨d, hd, hds⟩ := Ls.some (C := C) st
  exact ⟨fun d hd hds => by show (now t d 0).toNat ≤ q.toNat; rw [h0 d hd hds]; exact Nat.le_refl _, fun d hd hds _ hq i hi => (hA d hd hds).bd hq i hi _ (hn d _ hd (by omega)), fun d hd hds o ho hx => (hA d hd hds).dt o ho hx _ (hn d _ hd (by omega)), ⟨d, hd, hds, h0 d hd hds⟩, hr.cand⟩
theorem Rr.of_Fu (hq : q ≠ 0) (hA : Ls C st fun d => Fu C V q e s d) (hr : Restarted C.ns K s t) : Rr C st V q e t := by
  have hO := @PC.hO C
  have hsz : C.sz = 16 + C.O := rfl
  have s1 := @sl_le q
  have hn : ∀ d b, d < C.L → b < C.sz → now t d b ∈ cand s d b := fun d b hd hb => hr.now d b (by rw [PC.len]; exact hd) (by rw [PC.nsz hd]; exact hb)
  have h0 : ∀ d, d < C.L → st ≠ some d → now t d 0 = q := fun d hd hds => (hA d hd hds).hd _ (hn d 0 hd (by omega))
  obtain ⟨d, hd, hds⟩ := Ls.some (C := C) st
  exact ⟨fun d hd hds => by show (now t d 0).toNat ≤ q.toNat; rw [h0 d hd hds]; exact Nat.le_refl _, fun d hd hds _ _ i hi => (hA d hd hds).nc trivial i hi _ (hn d _ hd (by omega)), fun d hd hds o ho hx => (hA d hd hds).dt o ho (fun z => hx ⟨hq, z⟩) _ (hn d _ hd (by omega)), ⟨d, hd, hds, h0 d hd hds⟩, hr.cand⟩
theorem Rr.of_Hf (hj : JV C V q e) (hx : Nx C V q V' q' e') (hA : Ls C st fun d => Hf C V q e q' e' s d) (hr : Restarted C.ns K s t) : Rr C st V q e t ∨ Rr C st V' q' e' t := by
  have hO := @PC.hO C
  have hsz : C.sz = 16 + C.O := rfl
  have s1 := @sl_le q
  have s2 := @sl_le q'
  have hq := seq_add hj.sm
  have hn : ∀ d b, d < C.L → b < C.sz → now t d b ∈ cand s d b := fun d b hd hb => hr.now d b (by rw [PC.len]; exact hd) (by rw [PC.nsz hd]; exact hb)
  have h0 : ∀ d, d < C.L → st ≠ some d → now t d 0 = q ∨ now t d 0 = q' := fun d hd hds => (hA d hd hds).hd _ (hn d 0 hd (by omega))
  have hdt : ∀ d, d < C.L → st ≠ some d → ∀ o, o < C.O → now t d (16 + o) = V d o := fun d hd hds o ho => (hA d hd hds).dt o ho (fun z => z) _ (hn d _ hd (by omega))
  by_cases hz : ∃ d, d < C.L ∧ st ≠ some d ∧ now t d 0 = q'
  · refine .inr ⟨fun d hd hds => ?_, fun d hd hds _ _ i hi => (hA d hd hds).nc trivial i hi _ (hn d _ hd (by omega)), fun d hd hds o ho hne => ?_, hz, hr.cand⟩
    · rcases h0 d hd hds with z | z
      · rw [z, hx.q, hq]; omega
      · rw [z]; exact Nat.le_refl _
    · rw [hdt d hd hds o ho]; exact (hx.old d o (fun y => hne ⟨hx.ne hj.sm, y⟩)).symm
  · have h1 : ∀ d, d < C.L → st ≠ some d → now t d 0 = q := fun d hd hds => (h0 d hd hds).elim id (fun y => absurd ⟨d, hd, hds, y⟩ hz)
    obtain ⟨d, hd, hds⟩ := Ls.some (C := C) st
    exact .inl ⟨fun d hd hds => by show (now t d 0).toNat ≤ q.toNat; rw [h1 d hd hds]; exact Nat.le_refl _, fun d hd hds _ hq i hi => (hA d hd hds).bd hq i hi _ (hn d _ hd (by omega)), fun d hd hds o ho _ => hdt d hd hds o ho, ⟨d, hd, hds, h1 d hd hds⟩, hr.cand⟩
structure Rc (C : PC) (st : Option Nat) (V : Nat → Nat → UInt64) (q : UInt64) (e : PE) (s : ArrS) : Prop where
  lo : Ls C st fun d => (now s d 0).toNat ≤ q.toNat
  bd : Ls C st fun d => now s d 0 = q → q ≠ 0 → ∀ i, i < 3 → now s d (slq q + i) = bodyW e i
  dt : Ls C st fun d => ∀ o, o < C.O → ¬ (q ≠ 0 ∧ exE C e d o) → now s d (16 + o) = V d o
  ex : ∃ d, d < C.L ∧ st ≠ some d ∧ now s d 0 = q
  sh : Ls C st fun d => q = 0 → Al s d 0 (· = now s d 0)
  sd : Ls C st fun d => ∀ o, o < C.O → ¬ (q ≠ 0 ∧ exE C e d o) → Al s d (16 + o) (· = V d o)
theorem Rr.rc (h : Rr C st V q e s) : Rc C st V q e s :=
  ⟨h.lo, h.bd, h.dt, h.ex, fun d _ _ _ c hc => by rw [h.sg d 0, List.mem_singleton] at hc; exact hc, fun d hd hds o ho hx c hc => by rw [h.sg d _, List.mem_singleton] at hc; rw [hc]; exact h.dt d hd hds o ho hx⟩
def volR (C : PC) (st fl : Option Nat) (q : UInt64) (o l : Int) (w p : UInt64) : VolS := ⟨C.L, C.c, C.R, legsP C st fl, q, o, l, w, p, false, 0⟩
theorem on1_failR {er : Int} {ol ll : Int} {pp : UInt64} (h0 : er ≠ 0) (h5 : er ≠ 5) (hi : i < C.L) (hs : st ≠ some i) : parityvol_Volume_on_1 er (volR C st none q ol ll w pp) (i : Int) s = some (18, volR C st (some i) q ol ll w pp) := by
  unfold parityvol_Volume_on_1
  have hl : (volR C st none q ol ll w pp).legs = legsP C st none := rfl
  rw [if_neg (fun x => x.elim h0 h5), hl, Int.toNat_natCast, grd_t (decide_eq_true ⟨by omega, by simp; omega⟩), if_neg (by rw [legsP_at hi]; simp [legP, hs]), grd_t (decide_eq_true ⟨by omega, by simp; omega⟩), legsP_fail hi]; rfl
structure Fnd (C : PC) (st : Option Nat) (q : UInt64) (e : PE) (s : ArrS) (i : Nat) (qi : UInt64) (o l : Int) (w p : UInt64) : Prop where
  le : qi.toNat ≤ q.toNat
  z : qi = 0 → o = 0 ∧ l = 0 ∧ w = 0 ∧ p = 0
  eq : qi = q → q ≠ 0 → o = e.off ∧ l = e.leg ∧ w = e.w ∧ p = e.p
  ge : ∀ d, d < i → d < C.L → st ≠ some d → now s d 0 = q → qi = q
theorem toNat_inj {a b : UInt64} (h : a.toNat = b.toNat) : a = b := UInt64.toNat_inj.1 h
theorem replay_l1 (he : PEn C mz F K s) (hrc : Rc C st V q e s) (hev : q ≠ 0 → EV C V e) {v0 : VolS} (hv0 : v0.legs.length = C.L) : ∀ (N i : Nat) (qi : UInt64) (o l : Int) (w p : UInt64), C.L - i < N → i ≤ C.L → Fnd C st q e s i qi o l w p →
    (∃ qi o l w p, parityvol_Volume_replay_l1 v0 s N (volR C st none qi o l w p) i = some (.inl (volR C st none qi o l w p)) ∧ Fnd C st q e s C.L qi o l w p ∧ False) ∨
    (∃ qi' o' l' w' p', parityvol_Volume_replay_l1 v0 s N (volR C st none qi o l w p) i = some (.inl (volR C st none qi' o' l' w' p')) ∧ Fnd C st q e s C.L qi' o' l' w' p' ∧ ∀ d, i ≤ d → d < C.L → st ≠ some d → mz d = false) ∨
    (∃ j m, j < C.L ∧ mz j = true ∧ st ≠ some j ∧ parityvol_Volume_replay_l1 v0 s N (volR C st none qi o l w p) i = some (.inr (18, m, s)))
  | 0, _, _, _, _, _, _, h, _, _ => absurd h (by omega)
  | N + 1, i, qi, o, l, w, p, h, hi, hf => by
    have hL := C.hL
    have hz := @PC.hsz C
    have hll : (volR C st none qi o l w p).legs = legsP C st none := rfl
    have hu : parityvol_Volume_replay_l1 v0 s (N + 1) (volR C st none qi o l w p) i = parityvol_Volume_replay_l1_b v0 s (parityvol_Volume_replay_l1 v0 s N) (volR C st none qi o l w p) i := rfl
    rw [hu]
    unfold parityvol_Volume_replay_l1_b
    rw [hv0, hll, legsP_len]
    by_cases hlt : i < C.L
    · rw [if_pos (by omega), grd_t (decide_eq_true hlt), legsP_at hlt]
      have next : ∀ {qi o l w p}, (st ≠ some i → mz i = false) → Fnd C st q e s (i + 1) qi o l w p →
          (∃ qi' o' l' w' p', parityvol_Volume_replay_l1 v0 s N (volR C st none qi o l w p) (i + 1) = some (.inl (volR C st none qi' o' l' w' p')) ∧ Fnd C st q e s C.L qi' o' l' w' p' ∧ ∀ d, i ≤ d → d < C.L → st ≠ some d → mz d = false) ∨
          (∃ j m, j < C.L ∧ mz j = true ∧ st ≠ some j ∧ parityvol_Volume_replay_l1 v0 s N (volR C st none qi o l w p) (i + 1) = some (.inr (18, m, s))) := fun hmi hfn => by
        rcases replay_l1 he hrc hev hv0 N (i + 1) _ _ _ _ _ (by omega) (by omega) hfn with ⟨_, _, _, _, _, _, _, z⟩ | ⟨a1, a2, a3, a4, a5, a6, a7, a8⟩ | z
        · exact z.elim
        · refine .inl ⟨a1, a2, a3, a4, a5, a6, a7, fun d h1 h2 h3 => ?_⟩
          by_cases e1 : d = i
          · rw [e1] at h3 ⊢; exact hmi h3
          · exact a8 d (by omega) h2 h3
        · exact .inr z
      by_cases hs : st = some i
      · rw [if_pos (by simp [legP, hs])]
        refine .inr (next (fun z => absurd hs z) ⟨hf.le, hf.z, hf.eq, fun d h1 h2 h3 h4 => hf.ge d ?_ h2 h3 h4⟩)
        have : d ≠ i := fun z => h3 (by rw [z]; exact hs)
        omega
      · rw [if_neg (by simp [legP, hs])]
        unfold parityvol_Volume_on__parityvol_Volume_replay_1 parityvol_Volume_replay_1
        rw [hll, legsP_len, Int.toNat_natCast, grd_t (decide_eq_true ⟨by omega, by omega⟩), legsP_at hlt, show (legP C st none i).dev = xL i C.sz from rfl, show (volR C st none qi o l w p).last_seq = qi from rfl]
        cases hm : mz i
        · rw [show (xL i C.sz).rd s (0 : Int) = some (now s i 0, 0) from he.rd (a := 0) hlt (by omega) hm]; simp only [Option.bind_some]
          have hlo := hrc.lo i hlt hs
          by_cases hle : (now s i 0).toNat ≤ qi.toNat
          · rw [if_pos (.inr (by omega))]; simp only [Option.bind_some]
            rw [on1_ok (.inl rfl)]; simp only [Option.bind_some]
            rw [if_neg (by simp)]
            refine .inr (next (fun _ => hm) ⟨hf.le, hf.z, hf.eq, fun d h1 h2 h3 h4 => ?_⟩)
            by_cases e1 : d = i
            · subst e1
              refine toNat_inj ?_
              have := hf.le
              rw [h4] at hle; omega
            · exact hf.ge d (by omega) h2 h3 h4
          · rw [if_neg (by rintro (z | z); exact z rfl; omega), slot_eq]; simp only [Option.bind_some]
            have s1 := @sl_le (now s i 0)
            have hra := readAll_eq (x := xL i C.sz) (s := s) (at_ := ((slq (now s i 0) : Nat) : Int)) (n := 3) (m := (C.sz : Int)) (f := fun j => now s i (slq (now s i 0) + j)) span_size (by omega) ⟨by omega, by omega⟩ (fun j hj => by
              have e1 : ((slq (now s i 0) : Nat) : Int) + (j : Int) = ((slq (now s i 0) + j : Nat) : Int) := by push_cast; rfl
              rw [e1]; exact he.rd hlt (by omega) hm)
            rw [show (3 : Int) = ((3 : Nat) : Int) from rfl, hra]; simp only [Option.bind_some]
            have hll3 : ((List.range 3).map fun j => now s i (slq (now s i 0) + j)) = [now s i (slq (now s i 0)), now s i (slq (now s i 0) + 1), now s i (slq (now s i 0) + 2)] := rfl
            rw [hll3, if_pos trivial, grd_t (by simp), grd_t (by simp), grd_t (by simp), grd_t (by simp)]; simp only [Option.bind_some]
            rw [on1_ok (.inl rfl)]; simp only [Option.bind_some]
            rw [if_neg (by simp)]
            have hne0 : now s i 0 ≠ 0 := fun z => hle (by rw [z]; exact Nat.zero_le _)
            refine .inr (next (fun _ => hm) (qi := now s i 0) ⟨hlo, fun z => absurd z hne0, fun hq hq0 => ?_, fun d h1 h2 h3 h4 => ?_⟩)
            · have hb := hrc.bd i hlt hs hq hq0
              have hv := hev hq0
              have hO := @PC.hO C
              have b0 := hb 0 (by decide)
              have b1 := hb 1 (by decide)
              have b2 := hb 2 (by decide)
              obtain ⟨d1, d2⟩ := hdW_dec e.off (by have := hv.off; omega) e.leg (by have := hv.leg; omega)
              rw [hq]
              refine ⟨?_, ?_, b1, b2⟩
              · show IntKind.i64.wrap ((shr_u64 (now s i (slq q + 0)) 3).toNat : Int) = _
                rw [b0]; exact d1
              · show IntKind.i64.wrap (((now s i (slq q + 0)) &&& (7 : UInt64)).toNat : Int) = _
                rw [b0]; exact d2
            · by_cases e1 : d = i
              · rw [e1] at h4; exact h4
              · have g := hf.ge d (by omega) h2 h3 h4
                refine toNat_inj ?_
                rw [g] at hle; omega
        · obtain ⟨w', hw⟩ := he.rdM (a := 0) hlt (by omega) hm
          rw [show (xL i C.sz).rd s (0 : Int) = some (w', 6) from hw]; simp only [Option.bind_some]
          rw [if_pos (.inl (by decide))]; simp only [Option.bind_some]
          rw [on1_failR (by decide) (by decide) hlt hs]; simp only [Option.bind_some]
          rw [if_pos (by simp)]
          exact .inr (.inr ⟨i, _, hlt, hm, hs, rfl⟩)
    · rw [if_neg (by omega)]
      have : i = C.L := by omega
      subst this
      exact .inr (.inl ⟨_, _, _, _, _, rfl, hf, fun d h1 h2 _ => absurd h2 (by omega)⟩)
theorem replay_eq (he : PEn C mz False K s) (hK : K ≤ 500000) (hrc : Rc C st V q e s) (hj : JW C V q e) :
    (∃ e1 t, parityvol_Volume_replay (vol C st none 0 ⟨0, 0, 0, 0⟩ false 0) s = some (0, vol C st none q e1 false 0, t) ∧ PEn C mz False (K + 18) t ∧ Qs C st V q e1 t ∧ JW C V q e1) ∨
    (∃ j m, j < C.L ∧ mz j = true ∧ st ≠ some j ∧ parityvol_Volume_replay (vol C st none 0 ⟨0, 0, 0, 0⟩ false 0) s = some (18, m, s)) := by
  have hF := fuel_big
  have hL := C.hL
  have hO := @PC.hO C
  have hsz : C.sz = 16 + C.O := rfl
  unfold parityvol_Volume_replay
  have hv : vol C st none 0 ⟨0, 0, 0, 0⟩ false 0 = volR C st none 0 0 0 0 0 := rfl
  rw [hv]
  rcases replay_l1 he hrc hj.ev (v0 := volR C st none 0 0 0 0 0) legsP_len FUEL 0 0 0 0 0 0 (by omega) (by omega) ⟨Nat.zero_le _, fun _ => ⟨rfl, rfl, rfl, rfl⟩, fun hq hq0 => absurd hq.symm hq0, fun d h1 => absurd h1 (by omega)⟩ with ⟨_, _, _, _, _, _, _, z⟩ | ⟨qi, o, l, w, p, h1, h2, h3⟩ | ⟨j, m, j1, j2, j3, h1⟩
  · exact z.elim
  · rw [h1, seqO_inl]
    obtain ⟨d0, d1, d2, d3⟩ := hrc.ex
    have hqi := h2.ge d0 d1 d1 d2 d3
    subst hqi
    rw [show (volR C st none qi o l w p).last_seq = qi from rfl]
    by_cases hq : qi = 0
    · rw [if_pos hq]
      obtain ⟨rfl, rfl, rfl, rfl⟩ := h2.z hq
      refine .inl ⟨⟨0, 0, 0, 0⟩, s, rfl, he.mono (by omega), fun d hd hds => ?_, ⟨fun z => absurd hq z, hj.sm⟩⟩
      have hn0 : now s d 0 = qi := by
        have := hrc.lo d hd hds
        rw [hq] at this ⊢
        have e0 : (0 : UInt64).toNat = 0 := rfl
        exact toNat_inj (by omega)
      have hdt := hrc.dt d hd hds
      refine ⟨fun c hc => ?_, hn0, fun z => absurd hq z, fun o ho _ c hc => ?_, fun _ o ho => hdt o ho (fun z => z.1 hq), fun i hi => absurd hi (by omega), fun z => z.elim⟩
      · rw [hrc.sh d hd hds hq c hc]; exact hn0
      · exact hrc.sd d hd hds o ho (fun z => z.1 hq) c hc
    · rw [if_neg hq]
      obtain ⟨rfl, rfl, rfl, rfl⟩ := h2.eq rfl hq
      have hv := hj.ev hq
      have hoff := hv.off
      have hleg := hv.leg
      have e1 : (volR C st none qi (e.off : Int) (e.leg : Int) e.w e.p).layout_rows * (volR C st none qi (e.off : Int) (e.leg : Int) e.w e.p).layout_chunk = (C.O : Int) := by
        show (C.R : Int) * (C.c : Int) = _
        unfold PC.O; push_cast; rfl
      rw [show (volR C st none qi (e.off : Int) (e.leg : Int) e.w e.p).last_offset = (e.off : Int) from rfl, if_neg (by omega), e1, grd_t (inI64_of (by omega)), if_neg (by omega), show (volR C st none qi (e.off : Int) (e.leg : Int) e.w e.p).layout_n = (C.L : Int) from rfl, show (volR C st none qi (e.off : Int) (e.leg : Int) e.w e.p).last_leg = (e.leg : Int) from rfl, if_neg (by omega), show volR C st none qi (e.off : Int) (e.leg : Int) e.w e.p = vol C st none qi e false 0 from rfl]
      have hA : Ls C st fun d => Lg C V 0 e qi e (fun _ => True) (fun _ => True) (exE C e) False 0 False s d := fun d hd hds =>
        ⟨fun _ _ => trivial, trivial, fun z => absurd rfl z, fun o ho hne c hc => hrc.sd d hd hds o ho (fun z => hne z.2) c hc, fun z => z.elim, fun i hi => absurd hi (by omega), fun z => z.elim⟩
      rcases run_eq (p := false) (V' := V) (.inr rfl) he hK hq (fun z => absurd rfl z) hv (fun d o hne z => hne z.1) (fun _ _ _ => rfl) hA with ⟨t, g1, g2, g3⟩ | ⟨_, t, _, g2, _⟩ | ⟨j, _, t, j1, j2, j3, _⟩
      · rw [g1]
        exact .inl ⟨e, t, rfl, g2, g3, hj⟩
      · exact g2.f.elim
      · rw [h3 j (by omega) j1 j3] at j2; cases j2
  · rw [h1, seqO_inr]
    exact .inr ⟨j, m, j1, j2, j3, rfl⟩
end
end Go.Proofs
set_option linter.unusedSimpArgs false
set_option maxRecDepth 20000
namespace Go.Proofs
open Go.VG
theorem CTrack_bs_43_1_0 (v0 : Int) : BuildsSlice Tryz.prog 43 1 [(0, .int .u64 v0)] 44 [.int .u64 v0] := fun w => by kernel_rfl
theorem CTrack_bld_56_ : ∀ w, (Instr.build 56 (#[] : Array (Nat × Value))).run Tryz.prog w = .ok (.agg #[.slice none 0 0]) w := fun w => by kernel_rfl
theorem CTrack_bld_151_0_1_2 (v0 : (Option Addr)) (v1 : Nat) (v2 : Nat) (v3 : Bool) (v4 : Int) : ∀ w, (Instr.build 151 (#[(0, .slice v0 v1 v2), (1, .bool v3), (2, .int .u64 v4)] : Array (Nat × Value))).run Tryz.prog w = .ok (.agg #[.slice v0 v1 v2, .bool v3, .int .u64 v4]) w := fun w => by kernel_rfl
theorem CTrack_bs_54_1_0 (v0 : (Option Addr)) (v1 : Nat) (v2 : Nat) (v3 : Bool) (v4 : Int) : BuildsSlice Tryz.prog 54 1 [(0, .agg #[.slice v0 v1 v2, .bool v3, .int .u64 v4])] 151 [.slice v0 v1 v2, .bool v3, .int .u64 v4] := fun w => by kernel_rfl
structure SecH where
  some : Sl3
  known : Bool
  value : UInt64
structure Sec where
  some : List UInt64
  known : Bool
  value : UInt64
abbrev sH0 : SecH := ⟨⟨none, 0, 0⟩, false, 0⟩
abbrev s0 : Sec := ⟨[], false, 0⟩
abbrev tySec : Ty SecH := { T := 151, sz := 3, enc := fun x => [x.some.v, .bool x.known, .int .u64 (x.value.toNat : Int)], dflt := sH0, len := fun _ => rfl, one := fun _ => rfl, pos := by decide }
theorem ok_tySec : ElemOk Tryz.prog tySec 40 := ⟨Tryz.t151, .agg #[.slice none 0 0, .bool false, .int .u64 0], by kernel_rfl, rfl, rfl, rfl, rfl⟩
abbrev SL := List (SecH × Sec)
def ownS (p : SecH × Sec) : HP := sl tyU p.1.some.v p.2.some
abbrev SL.hs (l : SL) : List SecH := l.map Prod.fst
structure SOk (l : SL) (t : List Sec) : Prop where
  ds : l.map Prod.snd = t
  ag : ∀ p ∈ l, p.1.known = p.2.known ∧ p.1.value = p.2.value
  cnt : t.length ≤ 65536
theorem SOk.len {l : SL} {t : List Sec} (h : SOk l t) : (SL.hs l).length = t.length := by rw [← h.ds]; simp
theorem SOk.at {l : SL} {t : List Sec} (h : SOk l t) {i : Nat} (hi : i < t.length) : ((SL.hs l).getD i sH0).known = (t.getD i s0).known ∧ ((SL.hs l).getD i sH0).value = (t.getD i s0).value := by
  have hi' : i < l.length := by rw [← h.ds] at hi; simpa using hi
  rw [← h.ds]
  show ((l.map Prod.fst).getD i (Prod.fst (sH0, s0))).known = ((l.map Prod.snd).getD i (Prod.snd (sH0, s0))).known ∧ ((l.map Prod.fst).getD i (Prod.fst (sH0, s0))).value = ((l.map Prod.snd).getD i (Prod.snd (sH0, s0))).value
  rw [getD_map, getD_map]
  have : l.getD i (sH0, s0) = l[i] := by simp [List.getD, hi']
  rw [this]
  exact h.ag _ (List.getElem_mem hi')
theorem SOk.set {l : SL} {t : List Sec} (h : SOk l t) (i : Nat) (x : SecH × Sec) (hx : x.1.known = x.2.known ∧ x.1.value = x.2.value) : SOk (l.set i x) (t.set i x.2) where
  ds := by rw [List.map_set, h.ds]
  ag := fun p hp => by
    rcases List.mem_or_eq_of_mem_set hp with hp | rfl
    · exact h.ag p hp
    · exact hx
  cnt := by simpa using h.cnt
def Trk (b : Nat) (t : List Sec) : HP := ex fun c : Sl3 × SL => star [pur (SOk c.2 t), blk b 56 [c.1.v], sl tySec c.1.v (SL.hs c.2), VG.Own ownS c.2]
theorem Trk_open {b : Nat} {t : List Sec} {R : List HP} : EntX (Trk b t :: R) fun c : Sl3 × SL => pur (SOk c.2 t) :: blk b 56 [c.1.v] :: sl tySec c.1.v (SL.hs c.2) :: VG.Own ownS c.2 :: R :=
  fun _ hh => let ⟨c, hc⟩ := stars_ex.1 hh; ⟨c, stars_star.1 hc⟩
theorem Trk_close {b : Nat} {t : List Sec} {sv : Sl3} {l : SL} (h : SOk l t) {R : List HP} : Ent (blk b 56 [sv.v] :: sl tySec sv.v (SL.hs l) :: VG.Own ownS l :: R) (Trk b t :: R) :=
  fun _ hh => stars_ex.2 ⟨(sv, l), stars_star.2 (stars_pur.2 ⟨h, hh⟩)⟩
theorem OwnS_open {l : SL} {t : List Sec} (h : SOk l t) (i : Nat) (hi : i < t.length) {R : List HP} : Ent (VG.Own ownS l :: R) (sl tyU ((SL.hs l).getD i sH0).some.v (t.getD i s0).some :: ORest ownS l i :: R) := by
  have hi' : i < l.length := by rw [← h.ds] at hi; simpa using hi
  have := Own_open ownS (R := R) i (sH0, s0) hi'
  rw [← h.ds]
  show Ent _ (sl tyU ((l.map Prod.fst).getD i (Prod.fst (sH0, s0))).some.v ((l.map Prod.snd).getD i (Prod.snd (sH0, s0))).some :: _)
  rw [getD_map, getD_map]; exact this
def upto {α : Type} (g : α → α) (n : Nat) (D : List α) : List α := (D.take n).map g ++ D.drop n
theorem upto_zero {α : Type} (g : α → α) (D : List α) : upto g 0 D = D := by simp [upto]
theorem upto_all {α : Type} (g : α → α) (D : List α) : upto g D.length D = D.map g := by simp [upto]
theorem upto_len {α : Type} (g : α → α) (n : Nat) (D : List α) : (upto g n D).length = D.length := by simp [upto]; omega
theorem upto_at {α : Type} {g : α → α} {n : Nat} {D : List α} {d : α} (hn : n < D.length) : (upto g n D).getD n d = D.getD n d := by
  have : ((D.take n).map g).length = n := by simp; omega
  simp only [upto, List.getD]
  rw [List.getElem?_append_right (by omega), this]; simp
theorem upto_step {α : Type} {g : α → α} {n : Nat} {D : List α} {d : α} (hn : n < D.length) : (upto g n D).set n (g (D.getD n d)) = upto g (n + 1) D := by
  have h1 : ((D.take n).map g).length = n := by simp; omega
  simp only [upto]
  rw [List.set_append, if_neg (by omega), h1, Nat.sub_self, List.drop_eq_getElem_cons hn, List.set_cons_zero, List.take_succ_eq_append_getElem hn, List.map_append, List.append_assoc, show D.getD n d = D[n] by simp [List.getD, hn]]
  rfl
theorem Own_same {l : SL} {t : List Sec} (h : SOk l t) {i : Nat} {x : SecH × Sec} (h1 : x.1.some = ((SL.hs l).getD i sH0).some) (h2 : x.2.some = (t.getD i s0).some) : VG.Own ownS (l.set i x) = VG.Own ownS l := by
  unfold VG.Own
  have e : (l.set i x).map ownS = l.map ownS := by
    apply List.ext_getElem?
    intro j
    simp only [List.getElem?_map, List.getElem?_set]
    by_cases h3 : i = j
    · subst h3
      by_cases h4 : i < l.length
      · rw [← h.ds] at h2
        have a1 : ((l.map Prod.fst).getD i (Prod.fst (sH0, s0))) = (l.getD i (sH0, s0)).1 := getD_map Prod.fst l i (sH0, s0)
        have a2 : ((l.map Prod.snd).getD i (Prod.snd (sH0, s0))) = (l.getD i (sH0, s0)).2 := getD_map Prod.snd l i (sH0, s0)
        have a3 : l.getD i (sH0, s0) = l[i] := by simp [List.getD, h4]
        have b1 : x.1.some = l[i].1.some := h1.trans (by rw [← a3, ← a1])
        have b2 : x.2.some = l[i].2.some := h2.trans (by rw [← a3, ← a2])
        simp [h4, ownS, b1, b2]
      · simp [h4]
    · simp [h3]
  rw [e]
def failX (x : Sec) : Sec := { x with known := false }
def flushX (x : Sec) : Sec := if x.known = true then { x with some := [x.value] } else x
def wroteT (t : List Sec) (d : Int) (v : UInt64) (ok : Bool) : List Sec := if 0 ≤ d ∧ d < t.length then t.set d.toNat ⟨(t.getD d.toNat s0).some ++ [v], ok, v⟩ else t
def flushedT (t : List Sec) : List Sec := t.map flushX
def failedT (t : List Sec) : List Sec := t.map failX
theorem set3 {l : List SecH} {i : Nat} {A B C : SecH} : ((l.set i A).set i B).set i C = l.set i C := by simp [List.set_set]
theorem getD_set1 {l : List SecH} {i : Nat} (hi : i < l.length) {A : SecH} : (l.set i A).getD i sH0 = A := by simp [List.getD, hi]
theorem wroteT_ok {t : List Sec} {i : Nat} {v : UInt64} {ok : Bool} (hi : i < t.length) : wroteT t i v ok = t.set i ⟨(t.getD i s0).some ++ [v], ok, v⟩ := if_pos ⟨Int.natCast_nonneg _, by omega⟩
theorem wroteT_no {t : List Sec} {d : Int} {v : UInt64} {ok : Bool} (h : ¬ (0 ≤ d ∧ d < t.length)) : wroteT t d v ok = t := if_neg h
theorem upto_skip {α : Type} {g : α → α} {n : Nat} {D : List α} {d : α} (hn : n < D.length) (h : g (D.getD n d) = D.getD n d) : upto g n D = upto g (n + 1) D := by
  rw [← upto_step (d := d) hn, h, ← upto_at (g := g) (n := n) (D := D) (d := d) hn]
  have hl := upto_len g n D
  apply List.ext_getElem?
  intro j
  simp only [List.getElem?_set]
  split
  · rename_i h1; subst h1
    have : n < (upto g n D).length := by omega
    rw [if_pos this, List.getElem?_eq_getElem this]; simp [List.getD, this]
  · rfl
theorem flushX_t {x : Sec} (h : x.known = true) : flushX x = { x with some := [x.value] } := if_pos h
theorem flushX_f {x : Sec} (h : x.known = false) : flushX x = x := if_neg (by simp [h])
def rdTS (t : List Sec) (d : Int) (v : UInt64) (q : Bool) : List Sec := if 0 ≤ d ∧ d < t.length then (if (t.getD d.toNat s0).known = true then t else t.set d.toNat ⟨if q = true then [v] else (t.getD d.toNat s0).some, true, v⟩) else t
def rdTR (t : List Sec) (d : Int) (v : UInt64) : Bool := if 0 ≤ d ∧ d < t.length then (if (t.getD d.toNat s0).known = true then decide (v = (t.getD d.toNat s0).value) else (t.getD d.toNat s0).some.any (fun u => decide (u = v))) else false
theorem any_step {xs : List UInt64} {k : Nat} {v : UInt64} (hk : k < xs.length) : (xs.take (k + 1)).any (fun u => decide (u = v)) = ((xs.take k).any (fun u => decide (u = v)) || decide (xs.getD k 0 = v)) := by
  rw [List.take_succ_eq_append_getElem hk, List.any_append]; simp [List.getD, hk]
theorem decU {a b : UInt64} : decide ((a.toNat : Int) = (b.toNat : Int)) = decide (a = b) := decide_eq_decide.2 ⟨fun h => UInt64.toNat_inj.1 (by omega), fun h => by rw [h]⟩
def mkSec (x : UInt64) : Sec := ⟨[x], true, x⟩
def trkT (xs : List UInt64) : List Sec := xs.map mkSec
theorem SL.snoc (l : SL) (x : SecH × Sec) : SL.hs (l ++ [x]) = SL.hs l ++ [x.1] := by simp [SL.hs]
theorem SOk.push {l : SL} {t : List Sec} (h : SOk l t) (x : SecH × Sec) (hx : x.1.known = x.2.known ∧ x.1.value = x.2.value) (hc : t.length + 1 ≤ 65536) : SOk (l ++ [x]) (t ++ [x.2]) where
  ds := by rw [List.map_append, h.ds]; rfl
  ag := fun p hp => by
    rcases List.mem_append.1 hp with hp | hp
    · exact h.ag p hp
    · simp at hp; subst hp; exact hx
  cnt := by simpa using hc
theorem takeU (xs : List UInt64) (k : Nat) (h : k < xs.length) : trkT (xs.take (k + 1)) = trkT (xs.take k) ++ [mkSec (xs.getD k 0)] := by
  rw [List.take_succ_eq_append_getElem h, trkT, trkT, List.map_append]; simp [List.getD, h]
theorem c_Failed {W : World} {b : Nat} {t : List Sec} :
    CSpec Tryz.prog W 91 [ptr b 0] [Trk b t] (fun _ : Unit => .tuple #[]) (fun _ => True) (fun _ F => Trk b (failedT t) :: F) := by
 refine CSpec.of_body Tryz.func91 rfl Tryz.ntmps91 rfl fun F => ?_
 show CJ _ _ _ _ _ _ (_ :: F)
 refine CJ_entX (Ent.transX (t0_ eR) Trk_open) fun ⟨sv, l⟩ => CJ_pur fun hX => ?_
 have hl : SOk l t := hX
 have hn := hl.len
 have hcn := hl.cnt
 show CJ _ _ _ _ _ _ (blk b 56 [Sl3.v sv] :: sl tySec (Sl3.v sv) (SL.hs l) :: VG.Own ownS l :: _)
 refine sR <| oA rfl rfl <| nT <| CJ_block <| CJ_loopR (X := Nat × SL) [2, 3, 4, 5, 6, 7, 8, 9, 10, 11, 12, 13, 14, 15, 16, 17, 18] (fun ⟨i, l1⟩  => ([(2, .int .i64 (i : Nat))] : Slots)) (fun ⟨i, l1⟩ R => sl tySec (Sl3.v sv) (SL.hs l1) :: VG.Own ownS l1 :: R) (fun ⟨i, l1⟩  => i ≤ t.length ∧ SOk l1 (upto failX i t)) (fun ⟨i, l1⟩  => t.length - i) ⟨0, l⟩ ?_ ?_ (t1_ (t1_ (t0_ eR))) ?_
 ·
  refine ⟨Nat.zero_le _, ?_⟩
  rw [upto_zero]; exact hl
 · exact ⟨rfl, True.intro⟩
 ·
  rintro ⟨i, l1⟩ ⟨hi, h1⟩
  show CJ _ _ _ _ _ (([(2, .int .i64 (i : Nat))] : Slots) ++ forget _ _) (sl tySec (Sl3.v sv) (SL.hs l1) :: VG.Own ownS l1 :: _)
  have hn1 := h1.len
  have hul := upto_len failX i t
  refine CJ_seq <| sR <| oM rfl rfl <| oM rfl rfl <| oP (P_nilCheck rfl) rfl <| oP (P_fieldAddr rfl ⟨_, _, _, Tryz.runUnderlying56, rfl, rfl, Tryz.sizeOf54, rfl⟩) rfl <| oV (V_load rfl foc2 rfl Tryz.isAgg54) rfl <| oV (V_len rfl foc0 (Reads.sl _ _ _) Tryz.runUnderlying54) rfl <| oP (P_lss rfl rfl) rfl <| nT ?_
  first | (refine CJ_condD rfl (fun hg1 => ?_) (fun hg1 => ?_)) | (refine CJ_condN rfl (fun hg1 => ?_) (fun hg1 => ?_)) | (refine CJ_cond rfl (fun hg1 => ?_) (fun hg1 => ?_))
  ·
   refine kT <| CJ_seq <| CJ_block <| CJ_region <| oM rfl rfl <| oP (P_nilCheck rfl) rfl <| oP (P_fieldAddr rfl ⟨_, _, _, Tryz.runUnderlying56, rfl, rfl, Tryz.sizeOf54, rfl⟩) rfl <| oV (V_load rfl foc2 rfl Tryz.isAgg54) rfl <| oM rfl rfl ?_
   first | (refine RJ_op rfl (OJ_V (V_index rfl rfl rfl (by omega) foc0 (Reads.sl _ _ _) Tryz.runUnderlying54 Tryz.sizeOf151) rfl ?_)) | (refine RJ_op rfl (OJ_V (V_index rfl rfl (Int.toNat_of_nonneg (by omega)).symm (by omega) foc0 (Reads.sl _ _ _) Tryz.runUnderlying54 Tryz.sizeOf151) rfl ?_))
   refine oP (P_fieldE rfl ⟨_, _, _, Tryz.runUnderlying151, rfl, rfl, Tryz.sizeOf4, rfl⟩) rfl <| oO <| O_storeE (x' := { (SL.hs l1).getD i sH0 with known := false }) rfl rfl rfl (by omega) foc0 rfl rfl rfl Tryz.sizeOf4 <| RJ_nil <| QJ_block_normal <| QJ_then <| CJ_region <| oM rfl rfl <| oP (P_add rfl rfl (by omega)) rfl <| oA rfl rfl <| RJ_nil <| QJ_nextR ⟨i + 1, l1.set i ({ (SL.hs l1).getD i sH0 with known := false }, failX ((upto failX i t).getD i s0))⟩ (by first | omega | (simp only []; omega)) ?_ (by repeat (first | exact Kp.base | exact Kp.self | refine Kp.cons rfl ?_ | refine Kp.forget rfl ?_)) ?_ (Ent.takeC del0 (congrArg (sl tySec _) (by simp only [SL.hs, List.map_set])) (Ent.takeC del0 (Own_same h1 rfl rfl).symm (t0_ eR)))
   ·
    refine ⟨by omega, ?_⟩
    rw [← upto_step (d := s0) (by omega), ← upto_at (g := failX) (n := i) (D := t) (d := s0) (by omega)]
    exact h1.set i ({ (SL.hs l1).getD i sH0 with known := false }, failX ((upto failX i t).getD i s0)) ⟨rfl, (h1.at (by omega)).2⟩
   · exact ⟨rfl, True.intro⟩
  ·
   refine CJ_exit <| QJ_then_exit <| QJ_round_exit <| QJ_block_here <| QJ_endN (res0 Tryz.results91) ?_
   obtain rfl : i = t.length := by omega
   rw [upto_all] at h1
   refine CSpec.close () ?_ ?_ (Ent.trans (Ent.trans (t2_ (t0_ (t0_ eR))) (Trk_close h1)) (t0_ eR))
   · rfl
   · trivial
theorem c_Wrote {W : World} {b : Nat} {t : List Sec} {d : Int} {v : UInt64} {o : Bool} (hs1 : ∀ i, (t.getD i s0).some.length ≤ 100000) :
    CSpec Tryz.prog W 96 [ptr b 0, .int .i64 d, .int .u64 (v.toNat : Int), .bool o] [Trk b t] (fun _ : Unit => .tuple #[]) (fun _ => True) (fun _ F => Trk b (wroteT t d v o) :: F) := by
 refine CSpec.of_body Tryz.func96 rfl Tryz.ntmps96 rfl fun F => ?_
 show CJ _ _ _ _ _ _ (_ :: F)
 refine CJ_entX (Ent.transX (t0_ eR) Trk_open) fun ⟨sv, l⟩ => CJ_pur fun hX => ?_
 have hl : SOk l t := hX
 have hn := hl.len
 have hcn := hl.cnt
 show CJ _ _ _ _ _ _ (blk b 56 [Sl3.v sv] :: sl tySec (Sl3.v sv) (SL.hs l) :: VG.Own ownS l :: _)
 refine CJ_seq <| sR <| oM rfl rfl <| oP (P_lss rfl rfl) rfl <| oM rfl rfl ?_
 first | (refine RJ_splitD 11 rfl (fun hg1B hg1 => ?_) (fun hg1B hg1 => ?_)) | (refine RJ_splitN 11 rfl (fun hg1B hg1 => ?_) (fun hg1B hg1 => ?_)) | (refine RJ_split 11 rfl (fun hg1B => ?_) (fun hg1B => ?_))
 ·
  refine RJ_gn (GY_no rfl rfl rfl hg1B) rfl rfl <| RJ_gn (GY_no rfl rfl rfl hg1B) rfl rfl <| RJ_gn (GY_no rfl rfl rfl hg1B) rfl rfl <| RJ_gn (GY_no rfl rfl rfl hg1B) rfl rfl <| RJ_gn (GY_no rfl rfl rfl hg1B) rfl rfl <| RJ_gn (GY_no rfl rfl rfl hg1B) rfl rfl <| RJ_gn (GY_no rfl rfl rfl hg1B) rfl rfl <| oP (P_pickT rfl hg1B rfl) rfl <| nT <| CJ_condT rfl rfl <| CJ_ret <| QJ_then_ret <| QJ_end (res0 Tryz.results96) ?_
  rw [wroteT_no (by omega)]
  refine CSpec.close () ?_ ?_ (Ent.trans (Ent.trans (t0_ (t0_ (t0_ eR))) (Trk_close hl)) (t0_ eR))
  · rfl
  · trivial
 ·
  refine gP (GY_yes rfl rfl rfl hg1B) (P_move rfl) rfl <| gP (GY_yes rfl rfl rfl hg1B) (P_move rfl) rfl <| gP (GY_yes rfl rfl rfl hg1B) (P_nilCheck rfl) rfl <| gP (GY_yes rfl rfl rfl hg1B) (P_fieldAddr rfl ⟨_, _, _, Tryz.runUnderlying56, rfl, rfl, Tryz.sizeOf54, rfl⟩) rfl <| gV (GY_yes rfl rfl rfl hg1B) (V_load rfl foc0 rfl Tryz.isAgg54) rfl <| gV (GY_yes rfl rfl rfl hg1B) (V_len rfl foc1 (Reads.sl _ _ _) Tryz.runUnderlying54) rfl <| gP (GY_yes rfl rfl rfl hg1B) (P_geq rfl rfl) rfl <| oP (P_pickF rfl hg1B rfl) rfl <| nT ?_
  first | (refine CJ_condD rfl (fun hg2 => ?_) (fun hg2 => ?_)) | (refine CJ_condN rfl (fun hg2 => ?_) (fun hg2 => ?_)) | (refine CJ_cond rfl (fun hg2 => ?_) (fun hg2 => ?_))
  ·
   refine CJ_ret <| QJ_then_ret <| QJ_end (res0 Tryz.results96) ?_
   rw [wroteT_no (by omega)]
   refine CSpec.close () ?_ ?_ (Ent.trans (Ent.trans (t0_ (t0_ (t0_ eR))) (Trk_close hl)) (t0_ eR))
   · rfl
   · trivial
  ·
   obtain ⟨i, rfl⟩ := Int.eq_ofNat_of_zero_le (show 0 ≤ d by omega)
   have hi : i < t.length := by omega
   have hil : i < (SL.hs l).length := by omega
   have hsi := hs1 i
   refine kT <| CJ_seq <| CJ_ent (Ent.trans (t2_ eR) (OwnS_open hl i (by omega))) <| CJ_region <| oM rfl rfl <| oP (P_nilCheck rfl) rfl <| oP (P_fieldAddr rfl ⟨_, _, _, Tryz.runUnderlying56, rfl, rfl, Tryz.sizeOf54, rfl⟩) rfl <| oV (V_load rfl foc2 rfl Tryz.isAgg54) rfl <| oM rfl rfl ?_
   first | (refine RJ_op rfl (OJ_V (V_index rfl rfl rfl (by first | omega | (simp only [List.length_set]; omega)) foc3 (Reads.sl _ _ _) Tryz.runUnderlying54 Tryz.sizeOf151) rfl ?_)) | (refine RJ_op rfl (OJ_V (V_index rfl rfl (Int.toNat_of_nonneg (by first | omega | (simp only [List.length_set]; omega))).symm (by first | omega | (simp only [List.length_set]; omega)) foc3 (Reads.sl _ _ _) Tryz.runUnderlying54 Tryz.sizeOf151) rfl ?_))
   refine oA rfl rfl <| nT <| sR <| oM rfl rfl <| oM rfl rfl <| oP (P_nilCheckE rfl) rfl <| oP (P_fieldE rfl ⟨_, _, _, Tryz.runUnderlying151, rfl, rfl, Tryz.sizeOf43, rfl⟩) rfl <| oV (V_loadE rfl rfl (by first | omega | (simp only [List.length_set]; omega)) foc3 (Reads.sl _ _ _) rfl rfl Tryz.isAgg43) rfl <| RJ_ent (fun h hh => sl_nil (t := tyU) h hh) <| oO <| O_append (t := tyU) (bytes := 8) rfl rfl del0 foc0 (Reads.sl _ _ _) Tryz.underlying43 ok_tyU (by simp only [List.length_append, List.length_cons, List.length_nil, maxLen] at *; omega) (by simp only [List.length_append, List.length_cons, List.length_nil, maxLen] at *; omega) rfl fun p3 c4 => oM rfl rfl <| oO <| O_buildSlice rfl (CTrack_bs_43_1_0 _) rfl fun b5 => oO <| O_append (t := tyU) (bytes := 8) rfl rfl del1 foc0 (Reads.lit (t := tyU) (ys := [v]) rfl rfl (by decide) (by decide) rfl) Tryz.underlying43 ok_tyU (by simp only [List.length_append, List.length_cons, List.length_nil, maxLen] at *; omega) (by simp only [List.length_append, List.length_cons, List.length_nil, maxLen] at *; omega) rfl fun p6 c7 => oP (P_nilCheckE rfl) rfl <| oP (P_fieldE rfl ⟨_, _, _, Tryz.runUnderlying151, rfl, rfl, Tryz.sizeOf43, rfl⟩) rfl <| oO <| O_storeE (x' := ⟨⟨p6, _, c7⟩, ((SL.hs l).getD i sH0).known, ((SL.hs l).getD i sH0).value⟩) rfl rfl rfl (by first | omega | (simp only [List.length_set]; omega)) foc5 rfl rfl rfl Tryz.sizeOf43 <| nT <| CJ_region <| oM rfl rfl <| oM rfl rfl <| oM rfl rfl <| oM rfl rfl <| oP (P_nilCheckE rfl) rfl ?_
   refine oP (P_fieldE rfl ⟨_, _, _, Tryz.runUnderlying151, rfl, rfl, Tryz.sizeOf4, rfl⟩) rfl <| oO <| O_storeE (x' := ⟨⟨p6, _, c7⟩, o, ((SL.hs l).getD i sH0).value⟩) rfl rfl rfl (by first | omega | (simp only [List.length_set]; omega)) foc5 rfl rfl (by rw [show List.getD _ _ tySec.dflt = _ from getD_set1 hil]; rfl) Tryz.sizeOf4 <| oP (P_nilCheckE rfl) rfl <| oP (P_fieldE rfl ⟨_, _, _, Tryz.runUnderlying151, rfl, rfl, Tryz.sizeOf44, rfl⟩) rfl <| oO <| O_storeE (x' := ⟨⟨p6, _, c7⟩, o, v⟩) rfl rfl rfl (by first | omega | (simp only [List.length_set]; omega)) foc5 rfl rfl (by rw [show List.getD _ _ tySec.dflt = _ from getD_set1 (by simpa using hil)]; rfl) Tryz.sizeOf44 <| RJ_nil <| QJ_endN (res0 Tryz.results96) ?_
   rw [wroteT_ok (by omega)]
   refine CSpec.close () ?_ ?_ (Ent.trans (Ent.trans (Ent.takeC del0 (show _ = ownS ((⟨⟨p6, _, c7⟩, o, v⟩ : SecH), (⟨(t.getD i s0).some ++ [v], o, v⟩ : Sec)) from rfl) (t2_ eR)) (Own_close ownS ((⟨⟨p6, _, c7⟩, o, v⟩ : SecH), (⟨(t.getD i s0).some ++ [v], o, v⟩ : Sec)) (by have := hl.len; simp at this; omega))) (Ent.trans (Ent.trans (t3_ (Ent.takeC del3 (congrArg (sl tySec _) (by rw [set3]; simp only [SL.hs, List.map_set])) (t0_ eR))) (Trk_close (hl.set i ((⟨⟨p6, _, c7⟩, o, v⟩ : SecH), (⟨(t.getD i s0).some ++ [v], o, v⟩ : Sec)) ⟨rfl, rfl⟩))) (t0_ (eD (eD eR)))))
   · rfl
   · trivial
theorem c_Flushed {W : World} {b : Nat} {t : List Sec} :
    CSpec Tryz.prog W 51 [ptr b 0] [Trk b t] (fun _ : Unit => .tuple #[]) (fun _ => True) (fun _ F => Trk b (flushedT t) :: F) := by
 refine CSpec.of_body Tryz.func51 rfl Tryz.ntmps51 rfl fun F => ?_
 show CJ _ _ _ _ _ _ (_ :: F)
 refine CJ_entX (Ent.transX (t0_ eR) Trk_open) fun ⟨sv, l⟩ => CJ_pur fun hX => ?_
 have hl : SOk l t := hX
 have hn := hl.len
 have hcn := hl.cnt
 show CJ _ _ _ _ _ _ (blk b 56 [Sl3.v sv] :: sl tySec (Sl3.v sv) (SL.hs l) :: VG.Own ownS l :: _)
 refine sR <| oA rfl rfl <| nT <| CJ_block <| CJ_loopR (X := Nat × SL) [2, 3, 4, 5, 6, 7, 8, 9, 10, 11, 12, 13, 14, 15, 16, 17, 18, 19, 20, 21, 22, 23, 24, 25, 26, 27, 28, 29, 30] (fun ⟨i, l1⟩  => ([(2, .int .i64 (i : Nat))] : Slots)) (fun ⟨i, l1⟩ R => sl tySec (Sl3.v sv) (SL.hs l1) :: VG.Own ownS l1 :: R) (fun ⟨i, l1⟩  => i ≤ t.length ∧ SOk l1 (upto flushX i t)) (fun ⟨i, l1⟩  => t.length - i) ⟨0, l⟩ ?_ ?_ (t1_ (t1_ (t0_ eR))) ?_
 ·
  refine ⟨Nat.zero_le _, ?_⟩
  rw [upto_zero]; exact hl
 · exact ⟨rfl, True.intro⟩
 ·
  rintro ⟨i, l1⟩ ⟨hi, h1⟩
  show CJ _ _ _ _ _ (([(2, .int .i64 (i : Nat))] : Slots) ++ forget _ _) (sl tySec (Sl3.v sv) (SL.hs l1) :: VG.Own ownS l1 :: _)
  have hn1 := h1.len
  have hul := upto_len flushX i t
  refine CJ_seq <| sR <| oM rfl rfl <| oM rfl rfl <| oP (P_nilCheck rfl) rfl <| oP (P_fieldAddr rfl ⟨_, _, _, Tryz.runUnderlying56, rfl, rfl, Tryz.sizeOf54, rfl⟩) rfl <| oV (V_load rfl foc2 rfl Tryz.isAgg54) rfl <| oV (V_len rfl foc0 (Reads.sl _ _ _) Tryz.runUnderlying54) rfl <| oP (P_lss rfl rfl) rfl <| nT ?_
  first | (refine CJ_condD rfl (fun hg1 => ?_) (fun hg1 => ?_)) | (refine CJ_condN rfl (fun hg1 => ?_) (fun hg1 => ?_)) | (refine CJ_cond rfl (fun hg1 => ?_) (fun hg1 => ?_))
  ·
   refine kT <| CJ_seq <| CJ_block <| sR <| oM rfl rfl <| oP (P_nilCheck rfl) rfl <| oP (P_fieldAddr rfl ⟨_, _, _, Tryz.runUnderlying56, rfl, rfl, Tryz.sizeOf54, rfl⟩) rfl <| oV (V_load rfl foc2 rfl Tryz.isAgg54) rfl <| oM rfl rfl ?_
   first | (refine RJ_op rfl (OJ_V (V_index rfl rfl rfl (by omega) foc0 (Reads.sl _ _ _) Tryz.runUnderlying54 Tryz.sizeOf151) rfl ?_)) | (refine RJ_op rfl (OJ_V (V_index rfl rfl (Int.toNat_of_nonneg (by omega)).symm (by omega) foc0 (Reads.sl _ _ _) Tryz.runUnderlying54 Tryz.sizeOf151) rfl ?_))
   refine oA rfl rfl <| nT <| sR <| oM rfl rfl <| oP (P_nilCheckE rfl) rfl <| oP (P_fieldE rfl ⟨_, _, _, Tryz.runUnderlying151, rfl, rfl, Tryz.sizeOf4, rfl⟩) rfl <| oV (V_loadE rfl rfl (by omega) foc0 (Reads.sl _ _ _) rfl rfl Tryz.isAgg4) rfl <| nT ?_
   first | (refine CJ_condD rfl (fun hg2 => ?_) (fun hg2 => ?_)) | (refine CJ_condN rfl (fun hg2 => ?_) (fun hg2 => ?_)) | (refine CJ_cond rfl (fun hg2 => ?_) (fun hg2 => ?_))
   ·
    have hkn : ((upto flushX i t).getD i s0).known = true := by rw [← (h1.at (by omega)).1]; assumption
    refine CJ_ent (Ent.trans (t1_ eR) (OwnS_open h1 i (by omega))) <| CJ_region <| oM rfl rfl <| oM rfl rfl <| oP (P_nilCheckE rfl) rfl <| oP (P_fieldE rfl ⟨_, _, _, Tryz.runUnderlying151, rfl, rfl, Tryz.sizeOf44, rfl⟩) rfl <| oV (V_loadE rfl rfl (by omega) foc2 (Reads.sl _ _ _) rfl rfl Tryz.isAgg44) rfl <| oO <| O_buildSlice rfl (CTrack_bs_43_1_0 _) rfl fun b1 => RJ_ent (Ent.trans (t0_ eR) (sl_of_lit (t := tyU) (m := 1) [((SL.hs l1).getD i sH0).value] rfl rfl rfl (by decide))) <| oP (P_nilCheckE rfl) rfl <| oP (P_fieldE rfl ⟨_, _, _, Tryz.runUnderlying151, rfl, rfl, Tryz.sizeOf43, rfl⟩) rfl <| oO <| O_storeE (x' := { (SL.hs l1).getD i sH0 with some := ⟨some ⟨b1, 0, none⟩, 1, 1⟩ }) rfl rfl rfl (by omega) foc3 rfl rfl rfl Tryz.sizeOf43 <| RJ_nil <| QJ_block_normal <| QJ_then <| CJ_region <| oM rfl rfl <| oP (P_add rfl rfl (by omega)) rfl <| oA rfl rfl <| RJ_nil ?_
    refine QJ_nextR ⟨i + 1, l1.set i ({ (SL.hs l1).getD i sH0 with some := ⟨some ⟨b1, 0, none⟩, 1, 1⟩ }, flushX ((upto flushX i t).getD i s0))⟩ (by first | omega | (simp only []; omega)) ?_ (by repeat (first | exact Kp.base | exact Kp.self | refine Kp.cons rfl ?_ | refine Kp.forget rfl ?_)) ?_ (Ent.trans (Ent.trans (Ent.takeC del0 (show _ = sl tyU _ _ by rw [flushX_t hkn]; exact congrArg (fun z => sl tyU _ [z]) (h1.at (by omega)).2) (t1_ eR)) (Own_close ownS ({ (SL.hs l1).getD i sH0 with some := ⟨some ⟨b1, 0, none⟩, 1, 1⟩ }, flushX ((upto flushX i t).getD i s0)) (by have := h1.len; simp at this; omega))) (Ent.takeC del2 (congrArg (sl tySec _) (by simp only [SL.hs, List.map_set])) (t0_ (t1_ (eD eR)))))
    ·
     refine ⟨by omega, ?_⟩
     rw [← upto_step (d := s0) (by omega), ← upto_at (g := flushX) (n := i) (D := t) (d := s0) (by omega)]
     refine h1.set i ({ (SL.hs l1).getD i sH0 with some := ⟨some ⟨b1, 0, none⟩, 1, 1⟩ }, flushX ((upto flushX i t).getD i s0)) ?_
     rw [flushX_t hkn]; exact h1.at (by omega)
    · exact ⟨rfl, True.intro⟩
   ·
    refine CJ_skip <| QJ_block_normal <| QJ_then <| CJ_region <| oM rfl rfl <| oP (P_add rfl rfl (by omega)) rfl <| oA rfl rfl <| RJ_nil <| QJ_nextR ⟨i + 1, l1⟩ (by first | omega | (simp only []; omega)) ?_ (by repeat (first | exact Kp.base | exact Kp.self | refine Kp.cons rfl ?_ | refine Kp.forget rfl ?_)) ?_ (t0_ (t0_ (t0_ eR)))
    ·
     refine ⟨by omega, ?_⟩
     rw [← upto_skip (d := s0) (by omega) (flushX_f (by rw [← upto_at (g := flushX) (n := i) (by omega), ← (h1.at (by omega)).1]; assumption))]; exact h1
    · exact ⟨rfl, True.intro⟩
  ·
   refine CJ_exit <| QJ_then_exit <| QJ_round_exit <| QJ_block_here <| QJ_endN (res0 Tryz.results51) ?_
   obtain rfl : i = t.length := by omega
   rw [upto_all] at h1
   refine CSpec.close () ?_ ?_ (Ent.trans (Ent.trans (t2_ (t0_ (t0_ eR))) (Trk_close h1)) (t0_ eR))
   · rfl
   · trivial
theorem c_Reads {W : World} {b : Nat} {t : List Sec} {d : Int} {v : UInt64} {q : Bool} (hs1 : ∀ i, (t.getD i s0).some.length ≤ 100000) :
    CSpec Tryz.prog W 100 [ptr b 0, .int .i64 d, .int .u64 (v.toNat : Int), .bool q] [Trk b t] (fun _ : Unit => .bool (rdTR t d v)) (fun _ => True) (fun _ F => Trk b (rdTS t d v q) :: F) := by
 refine CSpec.of_body Tryz.func100 rfl Tryz.ntmps100 rfl fun F => ?_
 show CJ _ _ _ _ _ _ (_ :: F)
 refine CJ_entX (Ent.transX (t0_ eR) Trk_open) fun ⟨sv, l⟩ => CJ_pur fun hX => ?_
 have hl : SOk l t := hX
 have hn := hl.len
 have hcn := hl.cnt
 show CJ _ _ _ _ _ _ (blk b 56 [Sl3.v sv] :: sl tySec (Sl3.v sv) (SL.hs l) :: VG.Own ownS l :: _)
 refine sR <| oA rfl rfl <| nT <| CJ_seq <| sR <| oM rfl rfl <| oP (P_lss rfl rfl) rfl <| oM rfl rfl ?_
 first | (refine RJ_splitD 14 rfl (fun hg1B hg1 => ?_) (fun hg1B hg1 => ?_)) | (refine RJ_splitN 14 rfl (fun hg1B hg1 => ?_) (fun hg1B hg1 => ?_)) | (refine RJ_split 14 rfl (fun hg1B => ?_) (fun hg1B => ?_))
 ·
  refine RJ_gn (GY_no rfl rfl rfl hg1B) rfl rfl <| RJ_gn (GY_no rfl rfl rfl hg1B) rfl rfl <| RJ_gn (GY_no rfl rfl rfl hg1B) rfl rfl <| RJ_gn (GY_no rfl rfl rfl hg1B) rfl rfl <| RJ_gn (GY_no rfl rfl rfl hg1B) rfl rfl <| RJ_gn (GY_no rfl rfl rfl hg1B) rfl rfl <| RJ_gn (GY_no rfl rfl rfl hg1B) rfl rfl <| oP (P_pickT rfl hg1B rfl) rfl <| nT <| CJ_condT rfl rfl <| sR <| oA rfl rfl <| nT <| CJ_ret <| QJ_then_ret <| QJ_end (res1 Tryz.results100 rfl) ?_
  have hR : ¬ (0 ≤ d ∧ d < t.length) := by omega
  rw [rdTS, if_neg hR]
  refine CSpec.close () ?_ ?_ (Ent.trans (Ent.trans (t0_ (t0_ (t0_ eR))) (Trk_close hl)) (t0_ eR))
  · exact bv (show _ = rdTR t d v by rw [rdTR, if_neg hR])
  · trivial
 ·
  refine gP (GY_yes rfl rfl rfl hg1B) (P_move rfl) rfl <| gP (GY_yes rfl rfl rfl hg1B) (P_move rfl) rfl <| gP (GY_yes rfl rfl rfl hg1B) (P_nilCheck rfl) rfl <| gP (GY_yes rfl rfl rfl hg1B) (P_fieldAddr rfl ⟨_, _, _, Tryz.runUnderlying56, rfl, rfl, Tryz.sizeOf54, rfl⟩) rfl <| gV (GY_yes rfl rfl rfl hg1B) (V_load rfl foc0 rfl Tryz.isAgg54) rfl <| gV (GY_yes rfl rfl rfl hg1B) (V_len rfl foc1 (Reads.sl _ _ _) Tryz.runUnderlying54) rfl <| gP (GY_yes rfl rfl rfl hg1B) (P_geq rfl rfl) rfl <| oP (P_pickF rfl hg1B rfl) rfl <| nT ?_
  first | (refine CJ_condD rfl (fun hg2 => ?_) (fun hg2 => ?_)) | (refine CJ_condN rfl (fun hg2 => ?_) (fun hg2 => ?_)) | (refine CJ_cond rfl (fun hg2 => ?_) (fun hg2 => ?_))
  ·
   refine sR <| oA rfl rfl <| nT <| CJ_ret <| QJ_then_ret <| QJ_end (res1 Tryz.results100 rfl) ?_
   have hR : ¬ (0 ≤ d ∧ d < t.length) := by omega
   rw [rdTS, if_neg hR]
   refine CSpec.close () ?_ ?_ (Ent.trans (Ent.trans (t0_ (t0_ (t0_ eR))) (Trk_close hl)) (t0_ eR))
   · exact bv (show _ = rdTR t d v by rw [rdTR, if_neg hR])
   · trivial
  ·
   obtain ⟨i, rfl⟩ := Int.eq_ofNat_of_zero_le (show 0 ≤ d by omega)
   have hi : i < t.length := by omega
   have hil : i < (SL.hs l).length := by omega
   have hll : i < l.length := by simpa using hil
   have hsi := hs1 i
   have hat := hl.at hi
   have hR : 0 ≤ (i : Int) ∧ (i : Int) < t.length := ⟨by omega, by omega⟩
   refine kT <| sR <| oM rfl rfl <| oP (P_nilCheck rfl) rfl <| oP (P_fieldAddr rfl ⟨_, _, _, Tryz.runUnderlying56, rfl, rfl, Tryz.sizeOf54, rfl⟩) rfl <| oV (V_load rfl foc0 rfl Tryz.isAgg54) rfl <| oM rfl rfl ?_
   first | (refine RJ_op rfl (OJ_V (V_index rfl rfl rfl (by first | omega | (simp only [List.length_set]; omega)) foc1 (Reads.sl _ _ _) Tryz.runUnderlying54 Tryz.sizeOf151) rfl ?_)) | (refine RJ_op rfl (OJ_V (V_index rfl rfl (Int.toNat_of_nonneg (by first | omega | (simp only [List.length_set]; omega))).symm (by first | omega | (simp only [List.length_set]; omega)) foc1 (Reads.sl _ _ _) Tryz.runUnderlying54 Tryz.sizeOf151) rfl ?_))
   refine oA rfl rfl <| nT <| CJ_seq <| sR <| oM rfl rfl <| oP (P_nilCheckE rfl) rfl <| oP (P_fieldE rfl ⟨_, _, _, Tryz.runUnderlying151, rfl, rfl, Tryz.sizeOf4, rfl⟩) rfl <| oV (V_loadE rfl rfl (by first | omega | (simp only [List.length_set]; omega)) foc1 (Reads.sl _ _ _) rfl rfl Tryz.isAgg4) rfl <| nT ?_
   first | (refine CJ_condD rfl (fun hg3 => ?_) (fun hg3 => ?_)) | (refine CJ_condN rfl (fun hg3 => ?_) (fun hg3 => ?_)) | (refine CJ_cond rfl (fun hg3 => ?_) (fun hg3 => ?_))
   ·
    have hkn : (t.getD ((i : Int)).toNat s0).known = true := hat.1.symm.trans hg3
    refine sR <| oM rfl rfl <| oM rfl rfl <| oP (P_nilCheckE rfl) rfl <| oP (P_fieldE rfl ⟨_, _, _, Tryz.runUnderlying151, rfl, rfl, Tryz.sizeOf44, rfl⟩) rfl <| oV (V_loadE rfl rfl (by first | omega | (simp only [List.length_set]; omega)) foc1 (Reads.sl _ _ _) rfl rfl Tryz.isAgg44) rfl <| oP (P_eql rfl rfl) rfl <| oA rfl rfl <| nT <| CJ_ret <| QJ_then_ret <| QJ_end (res1 Tryz.results100 rfl) ?_
    rw [rdTS, if_pos hR, if_pos hkn]
    refine CSpec.close () ?_ ?_ (Ent.trans (Ent.trans (t0_ (t0_ (t0_ eR))) (Trk_close hl)) (t0_ eR))
    · exact bv (show _ = rdTR t i v by rw [rdTR, if_pos hR, if_pos hkn, hat.2]; exact decU)
    · trivial
   ·
    have hkf : ¬ (t.getD ((i : Int)).toNat s0).known = true := by
      have h9 : (t.getD i s0).known = false := hat.1.symm.trans hg3
      intro e; exact absurd (show (t.getD i s0).known = true from e) (by rw [h9]; decide)
    refine kT <| CJ_seq <| CJ_ent (Ent.trans (t2_ eR) (OwnS_open hl i (by omega))) <| CJ_region <| oA rfl rfl <| nT <| CJ_seq <| sR <| oA rfl rfl <| nT <| CJ_block <| CJ_loopR (X := Nat) [10, 11, 39, 40, 41, 42, 43, 44, 45, 46, 47, 48, 49, 50, 51, 52, 53, 54, 55, 56, 57, 58, 59] (fun k  => ([(11, .int .i64 (k : Nat)), (10, .bool (((t.getD i s0).some.take k).any (fun u => decide (u = v))))] : Slots)) (fun k R => R) (fun k  => k ≤ (t.getD i s0).some.length) (fun k  => (t.getD i s0).some.length - k) (0) ?_ ?_ (t0_ (t0_ (t0_ (t0_ eR)))) ?_
    · omega
    · exact ⟨rfl, rfl, True.intro⟩
    ·
     intro k hk
     show CJ _ _ _ _ _ (([(11, .int .i64 (k : Nat)), (10, .bool (((t.getD i s0).some.take k).any (fun u => decide (u = v))))] : Slots) ++ forget _ _) (_)
     refine CJ_seq <| sR <| oM rfl rfl <| oM rfl rfl <| oP (P_nilCheckE rfl) rfl <| oP (P_fieldE rfl ⟨_, _, _, Tryz.runUnderlying151, rfl, rfl, Tryz.sizeOf43, rfl⟩) rfl <| oV (V_loadE rfl rfl (by first | omega | (simp only [List.length_set]; omega)) foc3 (Reads.sl _ _ _) rfl rfl Tryz.isAgg43) rfl <| oV (V_len rfl foc0 (Reads.sl _ _ _) Tryz.runUnderlying43) rfl <| oP (P_lss rfl rfl) rfl <| nT ?_
     first | (refine CJ_condD rfl (fun hg4 => ?_) (fun hg4 => ?_)) | (refine CJ_condN rfl (fun hg4 => ?_) (fun hg4 => ?_)) | (refine CJ_cond rfl (fun hg4 => ?_) (fun hg4 => ?_))
     ·
      refine kT <| CJ_seq <| CJ_block <| CJ_region <| oM rfl rfl <| oM rfl rfl ?_
      first | (refine RJ_splitD 49 rfl (fun hg5B hg5 => ?_) (fun hg5B hg5 => ?_)) | (refine RJ_splitN 49 rfl (fun hg5B hg5 => ?_) (fun hg5B hg5 => ?_)) | (refine RJ_split 49 rfl (fun hg5B => ?_) (fun hg5B => ?_))
      ·
       refine RJ_gn (GY_no rfl rfl rfl hg5B) rfl rfl <| RJ_gn (GY_no rfl rfl rfl hg5B) rfl rfl <| RJ_gn (GY_no rfl rfl rfl hg5B) rfl rfl <| RJ_gn (GY_no rfl rfl rfl hg5B) rfl rfl <| RJ_gn (GY_no rfl rfl rfl hg5B) rfl rfl <| RJ_gn (GY_no rfl rfl rfl hg5B) rfl rfl <| RJ_gn (GY_no rfl rfl rfl hg5B) rfl rfl <| RJ_gn (GY_no rfl rfl rfl hg5B) rfl rfl <| RJ_gn (GY_no rfl rfl rfl hg5B) rfl rfl <| oP (P_pickT rfl hg5B rfl) rfl <| oA rfl rfl <| RJ_nil <| QJ_block_normal <| QJ_then <| CJ_region <| oM rfl rfl <| oP (P_add rfl rfl (by first | omega | (simp only [List.length_set]; omega))) rfl <| oA rfl rfl <| RJ_nil <| QJ_nextR (k + 1) (by first | omega | (simp only []; omega)) ?_ (by repeat (first | exact Kp.base | exact Kp.self | refine Kp.cons rfl ?_ | refine Kp.forget rfl ?_)) ?_ (t0_ (t0_ (t0_ (t0_ eR))))
       · omega
       ·
        refine ⟨rfl, ?_, True.intro⟩
        refine (congrArg (fun z => some (Value.bool z)) ?_ : some (Value.bool _) = some (Value.bool _))
        rw [any_step (by omega), ‹(((t.getD i s0).some.take k).any (fun u => decide (u = v))) = true›]; rfl
      ·
       refine gP (GY_yes rfl rfl rfl hg5B) (P_move rfl) rfl <| gP (GY_yes rfl rfl rfl hg5B) (P_nilCheckE rfl) rfl <| gP (GY_yes rfl rfl rfl hg5B) (P_fieldE rfl ⟨_, _, _, Tryz.runUnderlying151, rfl, rfl, Tryz.sizeOf43, rfl⟩) rfl <| gV (GY_yes rfl rfl rfl hg5B) (V_loadE rfl rfl (by first | omega | (simp only [List.length_set]; omega)) foc3 (Reads.sl _ _ _) rfl rfl Tryz.isAgg43) rfl <| gP (GY_yes rfl rfl rfl hg5B) (P_move rfl) rfl ?_
       first | (refine RJ_gy (GY_yes rfl rfl rfl hg5B) (OJ_V (V_index rfl rfl rfl (by first | omega | (simp only [List.length_set]; omega)) foc0 (Reads.sl _ _ _) Tryz.runUnderlying43 Tryz.sizeOf44) rfl ?_)) | (refine RJ_gy (GY_yes rfl rfl rfl hg5B) (OJ_V (V_index rfl rfl (Int.toNat_of_nonneg (by first | omega | (simp only [List.length_set]; omega))).symm (by first | omega | (simp only [List.length_set]; omega)) foc0 (Reads.sl _ _ _) Tryz.runUnderlying43 Tryz.sizeOf44) rfl ?_))
       refine gV (GY_yes rfl rfl rfl hg5B) (V_loadE rfl rfl (by first | omega | (simp only [List.length_set]; omega)) foc0 (Reads.sl _ _ _) rfl rfl Tryz.isAgg44) rfl <| gP (GY_yes rfl rfl rfl hg5B) (P_move rfl) rfl <| gP (GY_yes rfl rfl rfl hg5B) (P_eql rfl rfl) rfl <| oP (P_pickF rfl hg5B rfl) rfl <| oA rfl rfl <| RJ_nil <| QJ_block_normal <| QJ_then <| CJ_region <| oM rfl rfl <| oP (P_add rfl rfl (by first | omega | (simp only [List.length_set]; omega))) rfl <| oA rfl rfl <| RJ_nil <| QJ_nextR (k + 1) (by first | omega | (simp only []; omega)) ?_ (by repeat (first | exact Kp.base | exact Kp.self | refine Kp.cons rfl ?_ | refine Kp.forget rfl ?_)) ?_ (t0_ (t0_ (t0_ (t0_ eR))))
       · omega
       ·
        refine ⟨rfl, ?_, True.intro⟩
        refine (congrArg (fun z => some (Value.bool z)) ?_ : some (Value.bool _) = some (Value.bool _))
        rw [any_step (by omega), ‹(((t.getD i s0).some.take k).any (fun u => decide (u = v))) = false›, Bool.false_or]; exact decU
     ·
      refine CJ_exit <| QJ_then_exit <| QJ_round_exit <| QJ_block_here <| QJ_then <| CJ_seq ?_
      have hk2 : k = (t.getD i s0).some.length := by omega
      refine CJ_region <| oM rfl rfl <| oM rfl rfl <| oM rfl rfl <| oP (P_nilCheckE rfl) rfl <| oP (P_fieldE rfl ⟨_, _, _, Tryz.runUnderlying151, rfl, rfl, Tryz.sizeOf4, rfl⟩) rfl <| oO <| O_storeE (x' := { (SL.hs l).getD i sH0 with known := true }) rfl rfl rfl (by first | omega | (simp only [List.length_set]; omega)) foc3 rfl rfl rfl Tryz.sizeOf4 <| oP (P_nilCheckE rfl) rfl <| oP (P_fieldE rfl ⟨_, _, _, Tryz.runUnderlying151, rfl, rfl, Tryz.sizeOf44, rfl⟩) rfl <| oO <| O_storeE (x' := ⟨((SL.hs l).getD i sH0).some, true, v⟩) rfl rfl rfl (by first | omega | (simp only [List.length_set]; omega)) foc3 rfl rfl (by rw [show List.getD _ _ tySec.dflt = _ from getD_set1 hil]; rfl) Tryz.sizeOf44 <| nT <| CJ_seq <| sR <| oM rfl rfl <| nT ?_
      first | (refine CJ_condD rfl (fun hg6 => ?_) (fun hg6 => ?_)) | (refine CJ_condN rfl (fun hg6 => ?_) (fun hg6 => ?_)) | (refine CJ_cond rfl (fun hg6 => ?_) (fun hg6 => ?_))
      ·
       refine CJ_region <| oM rfl rfl <| oM rfl rfl <| oO <| O_buildSlice rfl (CTrack_bs_43_1_0 _) rfl fun b1 => RJ_ent (Ent.trans (t0_ eR) (sl_of_lit (t := tyU) (m := 1) [v] rfl rfl rfl (by decide))) <| oP (P_nilCheckE rfl) rfl <| oP (P_fieldE rfl ⟨_, _, _, Tryz.runUnderlying151, rfl, rfl, Tryz.sizeOf43, rfl⟩) rfl <| oO <| O_storeE (x' := ⟨⟨some ⟨b1, 0, none⟩, 1, 1⟩, true, v⟩) rfl rfl rfl (by first | omega | (simp only [List.length_set]; omega)) foc4 rfl rfl (by rw [show List.getD _ _ tySec.dflt = _ from getD_set1 (by simpa using hil)]; rfl) Tryz.sizeOf43 <| nT <| sR <| oM rfl rfl <| oA rfl rfl <| nT <| CJ_ret <| QJ_end (res1 Tryz.results100 rfl) ?_
       rw [rdTS, if_pos hR, if_neg hkf, if_pos ‹q = true›]
       refine CSpec.close () ?_ ?_ (Ent.trans (Ent.trans (t0_ (t1_ eR)) (Own_close ownS ((⟨⟨some ⟨b1, 0, none⟩, 1, 1⟩, true, v⟩ : SecH), (⟨[v], true, v⟩ : Sec)) hll)) (Ent.trans (Ent.trans (t2_ (Ent.takeC del2 (congrArg (sl tySec _) (by rw [set3]; simp only [SL.hs, List.map_set])) (t0_ eR))) (Trk_close (hl.set i ((⟨⟨some ⟨b1, 0, none⟩, 1, 1⟩, true, v⟩ : SecH), (⟨[v], true, v⟩ : Sec)) ⟨rfl, rfl⟩))) (t0_ (eD eR))))
       · exact bv (show _ = rdTR t i v by rw [rdTR, if_pos hR, if_neg hkf, hk2, List.take_length]; rfl)
       · trivial
      ·
       refine kT <| sR <| oM rfl rfl <| oA rfl rfl <| nT <| CJ_ret <| QJ_end (res1 Tryz.results100 rfl) ?_
       rw [rdTS, if_pos hR, if_neg hkf, if_neg (by rw [‹q = false›]; decide)]
       refine CSpec.close () ?_ ?_ (Ent.trans (Ent.trans (t0_ (t0_ eR)) (Own_close ownS ((⟨((SL.hs l).getD i sH0).some, true, v⟩ : SecH), (⟨(t.getD i s0).some, true, v⟩ : Sec)) hll)) (Ent.trans (Ent.trans (t1_ (Ent.takeC del1 (congrArg (sl tySec _) (by rw [List.set_set]; simp only [SL.hs, List.map_set])) (t0_ eR))) (Trk_close (hl.set i ((⟨((SL.hs l).getD i sH0).some, true, v⟩ : SecH), (⟨(t.getD i s0).some, true, v⟩ : Sec)) ⟨rfl, rfl⟩))) (t0_ eR)))
       · exact bv (show _ = rdTR t i v by rw [rdTR, if_pos hR, if_neg hkf, hk2, List.take_length]; rfl)
       · trivial
theorem c_Tracked {W : World} {A : HP} {v : Value} {xs : List UInt64} (hA : Reads A tyU v xs) (hl : xs.length ≤ 65536) :
    CSpec Tryz.prog W 47 [v] [A] (fun b : Nat => ptr b 0) (fun _ => True) (fun b F => Trk b (trkT xs) :: A :: F) := by
 refine CSpec.of_body Tryz.func47 rfl Tryz.ntmps47 rfl fun F => ?_
 show CJ _ _ _ _ _ _ (_ :: F)
 refine sR <| oA rfl rfl <| nT <| sR <| oP (P_build rfl (CTrack_bld_56_)) rfl <| oO <| O_box rfl rfl rfl fun b1 => oA rfl rfl <| nT <| CJ_seq <| sR <| oA rfl rfl <| nT <| CJ_block <| CJ_ent (fun h hh => sl_nil (t := tySec) h hh) <| CJ_ent (Own_nil ownS) <| CJ_loopR (X := Nat × Sl3 × SL) [4, 7, 8, 9, 10, 11, 12, 13, 14, 15, 16, 17, 18, 19, 20, 21, 22, 23, 24, 25, 26, 27, 28, 29, 30, 31] (fun ⟨k, sv, l⟩  => ([(4, .int .i64 (k : Nat))] : Slots)) (fun ⟨k, sv, l⟩ R => blk b1 56 [sv.v] :: sl tySec sv.v (SL.hs l) :: VG.Own ownS l :: R) (fun ⟨k, sv, l⟩  => k ≤ xs.length ∧ SOk l (trkT (xs.take k))) (fun ⟨k, sv, l⟩  => xs.length - k) ⟨0, ⟨none, 0, 0⟩, []⟩ ?_ ?_ (t2_ (t1_ (t0_ (t0_ eR)))) ?_
 · exact ⟨Nat.zero_le _, rfl, (fun p hp => by cases hp), Nat.zero_le _⟩
 · exact ⟨rfl, True.intro⟩
 ·
  rintro ⟨k, sv, l⟩ ⟨hk, hs⟩
  show CJ _ _ _ _ _ (([(4, .int .i64 (k : Nat))] : Slots) ++ forget _ _) (blk b1 56 [sv.v] :: sl tySec sv.v (SL.hs l) :: VG.Own ownS l :: _)
  have hlen : (SL.hs l).length = k := by rw [hs.len]; simp [trkT]; omega
  refine CJ_seq <| sR <| oM rfl rfl <| oM rfl rfl <| oV (V_len rfl foc3 hA Tryz.runUnderlying43) rfl <| oP (P_lss rfl rfl) rfl <| nT ?_
  first | (refine CJ_condD rfl (fun hg1 => ?_) (fun hg1 => ?_)) | (refine CJ_condN rfl (fun hg1 => ?_) (fun hg1 => ?_)) | (refine CJ_cond rfl (fun hg1 => ?_) (fun hg1 => ?_))
  ·
   refine kT <| CJ_seq <| CJ_block <| AJ_startH 589824 (by kernel_rfl) rfl <| aN 0 1 rfl rfl (P_move rfl) rfl <| aN 1 3 rfl rfl (P_move rfl) rfl <| aN 2 7 rfl rfl (P_nilCheck rfl) rfl <| aN 3 15 rfl rfl (P_fieldAddr rfl ⟨_, _, _, Tryz.runUnderlying56, rfl, rfl, Tryz.sizeOf54, rfl⟩) rfl <| aV 4 31 rfl rfl (GY_none rfl) (t0_ (t0_ (t0_ (t0_ eR)))) (V_load rfl foc0 rfl Tryz.isAgg54) rfl <| aN 5 63 rfl rfl (P_move rfl) rfl <| aN 6 127 rfl rfl (P_move rfl) rfl ?_
   first | (refine AJ_takeV 7 255 rfl (by kernel_rfl) rfl (by kernel_rfl) (by kernel_rfl) (GY_none rfl) (t0_ (t0_ (t0_ (t0_ eR)))) (V_index rfl rfl rfl (by omega) foc3 hA Tryz.runUnderlying43 Tryz.sizeOf44) rfl (fun _ _ _ _ h => h) ?_) | (refine AJ_takeV 7 255 rfl (by kernel_rfl) rfl (by kernel_rfl) (by kernel_rfl) (GY_none rfl) (t0_ (t0_ (t0_ (t0_ eR)))) (V_index rfl rfl (Int.toNat_of_nonneg (by omega)).symm (by omega) foc3 hA Tryz.runUnderlying43 Tryz.sizeOf44) rfl (fun _ _ _ _ h => h) ?_)
   refine aV 8 511 rfl rfl (GY_none rfl) (t0_ (t0_ (t0_ (t0_ eR)))) (V_loadE rfl rfl (by omega) foc3 hA rfl rfl Tryz.isAgg44) rfl <| aN 10 1535 rfl rfl (P_move rfl) rfl <| aN 11 3583 rfl rfl (P_move rfl) rfl ?_
   first | (refine AJ_takeV 12 7679 rfl (by kernel_rfl) rfl (by kernel_rfl) (by kernel_rfl) (GY_none rfl) (t0_ (t0_ (t0_ (t0_ eR)))) (V_index rfl rfl rfl (by omega) foc3 hA Tryz.runUnderlying43 Tryz.sizeOf44) rfl (fun _ _ _ _ h => h) ?_) | (refine AJ_takeV 12 7679 rfl (by kernel_rfl) rfl (by kernel_rfl) (by kernel_rfl) (GY_none rfl) (t0_ (t0_ (t0_ (t0_ eR)))) (V_index rfl rfl (Int.toNat_of_nonneg (by omega)).symm (by omega) foc3 hA Tryz.runUnderlying43 Tryz.sizeOf44) rfl (fun _ _ _ _ h => h) ?_)
   refine aV 13 15871 rfl rfl (GY_none rfl) (t0_ (t0_ (t0_ (t0_ eR)))) (V_loadE rfl rfl (by omega) foc3 hA rfl rfl Tryz.isAgg44) rfl <| AJ_op 9 16383 rfl (by kernel_rfl) rfl (GY_none rfl) <| O_buildSlice rfl (CTrack_bs_43_1_0 _) rfl fun b2 => ⟨fun _ => (t1_ (t1_ (t1_ (t1_ (eD eR))))), ?_⟩
   refine aN 14 32767 rfl rfl (P_build rfl (CTrack_bld_151_0_1_2 _ _ _ _ _)) rfl <| AJ_op 15 65535 rfl (by kernel_rfl) rfl (GY_none rfl) <| O_buildSlice rfl (CTrack_bs_54_1_0 _ _ _ _ _) rfl fun b3 => ⟨fun _ => (t2_ (t2_ (t2_ (t2_ (eD (eD eR)))))), ?_⟩
   refine AJ_op 16 131071 rfl (by kernel_rfl) rfl (GY_none rfl) <| O_append (t := tySec) (bytes := 40) rfl rfl del3 foc0 (Reads.lit (t := tySec) (ys := [⟨⟨some ⟨b2, 0, none⟩, 1, 1⟩, true, xs.getD k 0⟩]) rfl rfl (by decide) (by decide) rfl) Tryz.underlying54 ok_tySec (by simp only [List.length_append, List.length_cons, List.length_nil, maxLen] at *; omega) (by simp only [List.length_append, List.length_cons, List.length_nil, maxLen] at *; omega) rfl fun p4 c5 => ⟨fun h => absurd h (by decide), ?_⟩
   refine aN 17 262143 rfl rfl (P_nilCheck rfl) rfl <| aN 18 524287 rfl rfl (P_fieldAddr rfl ⟨_, _, _, Tryz.runUnderlying56, rfl, rfl, Tryz.sizeOf54, rfl⟩) rfl <| AJ_op 19 1048575 rfl (by kernel_rfl) rfl (GY_none rfl) <| O_store rfl rfl foc3 rfl rfl Tryz.sizeOf54 <| ⟨fun h => absurd h (by decide), ?_⟩
   refine AJ_done (by kernel_rfl) <| QJ_block_normal <| QJ_then <| CJ_region <| oM rfl rfl <| oP (P_add rfl rfl (by omega)) rfl <| oA rfl rfl <| RJ_nil <| QJ_nextR ⟨k + 1, ⟨p4, _, c5⟩, l ++ [((⟨⟨some ⟨b2, 0, none⟩, 1, 1⟩, true, xs.getD k 0⟩ : SecH), mkSec (xs.getD k 0))]⟩ (by first | omega | (simp only []; omega)) ?_ (by repeat (first | exact Kp.base | exact Kp.self | refine Kp.cons rfl ?_ | refine Kp.forget rfl ?_)) ?_ (Ent.trans (Ent.trans (t2_ eR) (sl_of_lit (t := tyU) (m := 1) [xs.getD k 0] rfl rfl rfl (by decide))) (Ent.trans (Ent.trans (t0_ (t3_ eR)) (Own_push ownS ((⟨⟨some ⟨b2, 0, none⟩, 1, 1⟩, true, xs.getD k 0⟩ : SecH), mkSec (xs.getD k 0)))) (t3_ (Ent.takeC del1 (congrArg (sl tySec _) (SL.snoc l ((⟨⟨some ⟨b2, 0, none⟩, 1, 1⟩, true, xs.getD k 0⟩ : SecH), mkSec (xs.getD k 0))).symm) (t0_ (t1_ (eD eR)))))))
   ·
    refine ⟨by omega, ?_⟩
    rw [takeU xs k (by omega)]
    exact hs.push ((⟨⟨some ⟨b2, 0, none⟩, 1, 1⟩, true, xs.getD k 0⟩ : SecH), mkSec (xs.getD k 0)) ⟨rfl, rfl⟩ (by simp [trkT]; omega)
   · exact ⟨rfl, True.intro⟩
  ·
   refine CJ_exit <| QJ_then_exit <| QJ_round_exit <| QJ_block_here <| QJ_then <| sR <| oM rfl rfl <| oA rfl rfl <| nT <| CJ_ret <| QJ_end (res1 Tryz.results47 rfl) ?_
   obtain rfl : k = xs.length := by omega
   rw [List.take_length] at hs
   refine CSpec.close b1 ?_ ?_ (Ent.trans (Ent.trans (t0_ (t0_ (t0_ eR))) (Trk_close hs)) (t0_ (t0_ eR)))
   · rfl
   · trivial
end Go.Proofs
set_option linter.unusedSimpArgs false
set_option linter.unusedVariables false
set_option maxRecDepth 20000
set_option maxHeartbeats 4000000
namespace Go.Proofs
open Go.VG
end Go.Proofs
set_option linter.unusedSimpArgs false
set_option linter.unusedVariables false
set_option maxRecDepth 20000
set_option maxHeartbeats 4000000
namespace Go.Proofs
open Go.VG
def smallT (t : List Sec) : Bool := t.all fun x => Nat.ble x.some.length 100000
theorem smallT_at {t : List Sec} (h : smallT t = true) (i : Nat) : (t.getD i s0).some.length ≤ 100000 := by
  unfold smallT at h
  rw [List.all_eq_true] at h
  rcases Nat.lt_or_ge i t.length with h1 | h1
  · have := h t[i] (List.getElem_mem h1)
    have e : t.getD i s0 = t[i] := by simp [List.getD, h1]
    rw [e]; exact Nat.le_of_ble_eq_true this
  · have e : t.getD i s0 = s0 := by simp [List.getD, List.getElem?_eq_none h1]
    rw [e]; exact Nat.zero_le _
end Go.Proofs
