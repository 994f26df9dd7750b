/- ParityvolBad, part 7 of the proof: PQb0, LParityvolBad, PParityvolBad. -/
import Derived.WalkKit
import Derived.Orders
import Derived.RangeFuncLeaves
import Derived.RangeFuncCalls
import Derived.TacticsIn
import Derived.Handy
import Derived.OrdersHeld
import Derived.OrdersIn
import Derived.Below
import Derived.OpenShut
import Derived.Deep.Slices
import Derived.Scope
import Derived.KernelRfl
import Derived.RangeFuncRecord
import Derived.ChangeKeysEq
import Derived.ProofKit
import Derived.ShutString
import Derived.ChangeOld
import Derived.Test.YtmoiepdpckpolaaGreatChecked
import Derived.Test.YtmoiepdpckpolaaGreatRows
import Derived.Test.YtmoiepdpckpolaaGreatZParityvolBad6
namespace Go.Proofs
open Go.VG
def nbP (s : ArrS) : ArrS := { s with bad := [] }
structure PEb (C : PC) (kb : Nat) (K : Nat) (s : ArrS) : Prop where
  nb : PEn C (fun _ => false) False K (nbP s)
  nd : (s.bad.map (·.1)).Nodup
  mrk : ∀ d a, isBad s d a = true → d = (kb : Int) ∧ 16 ≤ a
section
variable {C : PC} {V V' : Nat → Nat → UInt64} {st : Option Nat} {qo q q' : UInt64} {e e' : PE} {hp hn hp' hn' : UInt64 → Prop} {x x' : Nat → Nat → Prop} {nwP nwP' bc bc' : Prop} {bn bn' kb k i d f o a : Nat} {K K' : Nat} {r s t u : ArrS} {v w : UInt64} {p : Bool}
theorem PEb.mono (h : PEb C kb K s) (hK : K ≤ K') : PEb C kb K' s := ⟨h.nb.mono hK, h.nd, h.mrk⟩
theorem nbP_wrS {d a : Int} : wrR s d a = wrR (nbP s) d a ∧ nbP (wrS s d a v) = wrS (nbP s) d a v := by
  refine ⟨rfl, ?_⟩
  have e1 : wrC (nbP s) d a = wrC s d a := rfl
  have e2 : (nbP s).fuse = s.fuse := rfl
  unfold wrS
  rw [e1, e2]
  by_cases hc : wrC s d a ≠ 0
  · rw [if_pos hc, if_pos hc]
  · rw [if_neg hc, if_neg hc]
    by_cases hf : s.fuse = 1
    · rw [if_pos hf, if_pos hf]; rfl
    · rw [if_neg hf, if_neg hf]; rfl
theorem nbP_flS {d : Int} : flC s d = flC (nbP s) d ∧ nbP (flS s d) = flS (nbP s) d := by
  refine ⟨rfl, ?_⟩
  have e1 : flC (nbP s) d = flC s d := rfl
  unfold flS
  rw [e1]
  by_cases hc : flC s d ≠ 0
  · rw [if_pos hc, if_pos hc]
  · rw [if_neg hc, if_neg hc]; rfl
theorem isBadP_flS {d d' b : Int} : isBad (flS s d) d' b = isBad s d' b := by unfold flS; split <;> rfl
theorem isBadP_wrS {d a d' b : Int} (hnd : (s.bad.map (·.1)).Nodup) (hc : wrR s d a = 0) : isBad (wrS s d a v) d' b = if (d', b) = (d, a) then false else isBad s d' b := by
  unfold wrR at hc
  unfold wrS
  by_cases h1 : wrC s d a ≠ 0
  · rw [if_pos h1] at hc; exact absurd hc h1
  · rw [if_neg h1] at hc ⊢
    by_cases h2 : s.fuse = 1
    · rw [if_pos h2] at hc; cases hc
    · rw [if_neg h2]
      show (lookM (delM s.bad (d, a)) (d', b)).isSome = _
      rw [lookM_delM _ _ _ hnd]; split <;> rfl
theorem ndP_wrS {d a : Int} (hnd : (s.bad.map (·.1)).Nodup) : ((wrS s d a v).bad.map (·.1)).Nodup := by
  unfold wrS
  by_cases h1 : wrC s d a ≠ 0
  · rw [if_pos h1]; exact hnd
  · rw [if_neg h1]
    by_cases h2 : s.fuse = 1
    · rw [if_pos h2]; exact hnd
    · rw [if_neg h2]; exact nodup_delM _ _ hnd
theorem PEb.wrM (h : PEb C kb K s) (hK : K ≤ 900000) (hd : d < C.L) (ha : a < C.sz) : ∃ t, (xL d C.sz).wr s (a : Int) v = some (0, t) ∧ PEb C kb (K + 1) t ∧ Upd s t d a v ∧ ∀ e b, isBad t e b = if (e, b) = ((d : Int), (a : Int)) then false else isBad s e b := by
  have hz := @PC.hsz C
  have hw : s.writes ≤ K := h.nb.ok.wr
  have e : ((0 : Nat) : Int) + (a : Int) = ((a : Nat) : Int) := by omega
  have e0 : (xL d C.sz).wr s (a : Int) v = some (wrR s d a, wrS s d a v) := by
    rw [span_wr (by omega) (by omega) (by omega), if_pos (by omega), e]
  have e1 : (xL d C.sz).wr (nbP s) (a : Int) v = some (wrR (nbP s) d a, wrS (nbP s) d a v) := by
    rw [span_wr (by omega) (by omega) (show (nbP s).writes ≤ 1000000000 from by show s.writes ≤ _; omega), if_pos (by omega), e]
  obtain ⟨t, w1, w2, w3⟩ := h.nb.wrR (v := v) (fun _ => rfl) hK hd ha
  rw [e1] at w1
  have w4 := Option.some.inj w1
  have hr : wrR s d a = 0 := (Prod.mk.inj w4).1
  have ht : nbP (wrS s d a v) = t := by rw [nbP_wrS.2]; exact (Prod.mk.inj w4).2
  have hb := fun e' b' => isBadP_wrS (v := v) (d' := e') (b := b') h.nd hr
  refine ⟨wrS s d a v, by rw [e0, hr], ⟨by rw [ht]; exact w2, ndP_wrS h.nd, fun e' b' hb' => ?_⟩, ?_, hb⟩
  · rw [hb] at hb'
    split at hb'
    · cases hb'
    · exact h.mrk e' b' hb'
  · rw [← ht] at w3
    exact ⟨w3.now, w3.cand⟩
theorem PEb.wrR (h : PEb C kb K s) (hK : K ≤ 900000) (hd : d < C.L) (ha : a < C.sz) : ∃ t, (xL d C.sz).wr s (a : Int) v = some (0, t) ∧ PEb C kb (K + 1) t ∧ Upd s t d a v := by
  obtain ⟨t, h1, h2, h3, -⟩ := h.wrM (v := v) hK hd ha
  exact ⟨t, h1, h2, h3⟩
theorem PEb.fl (h : PEb C kb K s) (hK : K ≤ 900000) (hd : d < C.L) : ∃ t, (xL d C.sz).fl s = some (0, t) ∧ PEb C kb K t ∧ Fls C s t d := by
  have hz := @PC.hsz C
  have hw : s.writes ≤ K := h.nb.ok.wr
  have e0 : (xL d C.sz).fl s = some (flC s d, flS s d) := span_fl (by omega)
  have e1 : (xL d C.sz).fl (nbP s) = some (flC (nbP s) d, flS (nbP s) d) := span_fl (show (nbP s).writes ≤ 1000000000 from by show s.writes ≤ _; omega)
  obtain ⟨t, w1, w2, w3⟩ := h.nb.fl hK hd rfl
  rw [e1] at w1
  have w4 := Option.some.inj w1
  have hr : flC s d = 0 := (Prod.mk.inj w4).1
  have ht : nbP (flS s d) = t := by rw [nbP_flS.2]; exact (Prod.mk.inj w4).2
  refine ⟨flS s d, by rw [e0, hr], ⟨by rw [ht]; exact w2, ?_, fun e' b' hb' => h.mrk e' b' (by rw [isBadP_flS] at hb'; exact hb')⟩, ?_⟩
  · have : (flS s d).bad = s.bad := by unfold flS; split <;> rfl
    rw [this]; exact h.nd
  · rw [← ht] at w3
    exact ⟨w3.now, w3.cand⟩
theorem Lg.nbp (h : Lg C V qo e q e' hp hn x nwP bn bc s d) : Lg C V qo e q e' hp hn x nwP bn bc (nbP s) d := ⟨h.hd, h.hn, h.bd, h.dt, h.nw, h.nb, h.nc⟩
theorem Lg.unb (h : Lg C V qo e q e' hp hn x nwP bn bc (nbP s) d) : Lg C V qo e q e' hp hn x nwP bn bc s d := ⟨h.hd, h.hn, h.bd, h.dt, h.nw, h.nb, h.nc⟩
theorem Lg.flushB (he : PEb C kb K s) (hd : d < C.L) (h : Lg C V qo e q e' hp hn x nwP bn bc s d) (hu : Fls C s t d) (hb : 3 ≤ bn ∨ bc) : Lg C V qo e q e' (fun c => hn c ∧ hp c) (fun c => hn c ∧ hp c) (fun d o => x d o ∧ ¬ nwP) nwP bn True t d :=
  Lg.flush he.nb hd h.nbp (⟨hu.now, hu.cand⟩ : Fls C (nbP s) t d) hb
theorem Q0.flushB (he : PEb C kb K s) (hd : d < C.L) (h : Q0 C V q e s d) (hu : Fls C s t d) : Q0 C V q e t d :=
  Q0.flush he.nb hd (Lg.nbp h) (⟨hu.now, hu.cand⟩ : Fls C (nbP s) t d)
theorem Fu.doneB (he : PEb C kb K s) (hd : d < C.L) (hq : q ≠ 0) (h : Lg C V 0 e q e (· = q) (· = q) (exE C e) False 0 True s d) (hn : ∀ o, exE C e d o → now s d (16 + o) = V d o) : Q0 C V q e s d :=
  Lg.unb (Fu.done he.nb hd hq h.nbp hn)
theorem bodiesB (he : PEb C kb K s) (hK : K ≤ 800000) (hsl : qo ≠ 0 → slq qo ≠ slq q) (hA : Ls C st fun d => Lg C V qo e q e' hp hn x nwP 0 False s d) :
    ∃ t, parityvol_Volume_bodies (vol C st none q e' p k) s = some (0, vol C st none q e' p k, t) ∧ PEb C kb (K + 12) t ∧ (Ls C st fun d => Lg C V qo e q e' hp hn x nwP 3 False t d) ∧ Fr st s t := by
  have hF := fuel_big
  have hL := C.hL
  have hz := @PC.hsz C
  have s2 := @sl_le q
  have hll : (vol C st none q e' p k).legs = legsP C st none := rfl
  let I : Nat → ArrS → Prop := fun i t => PEb C kb (K + 3 * i) t ∧ (Ls C st fun d => Lg C V qo e q e' hp hn x nwP (if d < i then 3 else 0) False t d) ∧ Fr st s t
  have hr := all_ruleR (C := C) (st := st) (q := q) (e := e') (p := p) (k := k) (on := fun v i s => parityvol_Volume_on__parityvol_Volume_bodies_1 v i [hdW e'.off e'.leg, e'.w, e'.p] s) (g := parityvol_Volume_all__parityvol_Volume_bodies_1_l1 (vol C st none q e' p k) [hdW e'.off e'.leg, e'.w, e'.p]) (fun _ _ _ _ => rfl) (I := I) (s := s) (fun i u hi hs hI => by
    obtain ⟨h1, h2, h4⟩ := hI
    unfold parityvol_Volume_on__parityvol_Volume_bodies_1 parityvol_Volume_bodies_1
    rw [hll, legsP_len, Int.toNat_natCast, grd_t (decide_eq_true ⟨by omega, by omega⟩), legsP_at hi, show (vol C st none q e' p k).last_seq = q from rfl, slot_eq, show (legP C st none i).dev = xL i C.sz from rfl]; simp only [Option.bind_some]
    have hsz : ∀ u, (xL i C.sz).size u = some (C.sz : Int) := fun _ => span_size
    rcases writeAllR (x := xL i C.sz) (l := [hdW e'.off e'.leg, e'.w, e'.p]) (at_ := ((slq q : Nat) : Int)) (m := (C.sz : Int)) (s := u) (I := fun j t => PEb C kb (K + 3 * i + j) t ∧ (Ls C st fun d => Lg C V qo e q e' hp hn x nwP (if d < i then 3 else if d = i then j else 0) False t d) ∧ Fr st s t) (E := fun _ _ => False) (hsz u) (by omega) ⟨by omega, by simp; omega⟩ (fun j t hj hI' => by
        obtain ⟨g1, g2, g4⟩ := hI'
        have hj3 : j < 3 := hj
        have e1 : ((slq q : Nat) : Int) + (j : Int) = ((slq q + j : Nat) : Int) := by push_cast; rfl
        have e2 : [hdW e'.off e'.leg, e'.w, e'.p].getD j 0 = bodyW e' j := by
          have : j = 0 ∨ j = 1 ∨ j = 2 := by omega
          rcases this with rfl | rfl | rfl <;> rfl
        rw [e1, e2]
        obtain ⟨t', w1, w2, w3⟩ := g1.wrR (v := bodyW e' j) (a := slq q + j) (by omega) hi (by omega)
        refine .inl ⟨t', w1, w2, fun d hd hds => ?_, g4.trans (Fr.upd w3 hs)⟩
        have g3 : Lg C V qo e q e' hp hn x nwP _ False t d := g2 d hd hds
        show Lg C V qo e q e' hp hn x nwP _ False t' d
        by_cases hdi : d = i
        · subst hdi
          rw [if_neg (by omega), if_pos rfl] at g3 ⊢
          exact g3.body hsl hj3 w3
        · have g5 := g3.oth w3 (fun z => hdi z.symm)
          rw [if_neg hdi] at g5 ⊢; exact g5) ⟨h1, fun d hd hds => by
            have g3 : Lg C V qo e q e' hp hn x nwP _ False u d := h2 d hd hds
            show Lg C V qo e q e' hp hn x nwP _ False u d
            by_cases hdi : d < i
            · rw [if_pos hdi] at g3 ⊢; exact g3
            · rw [if_neg hdi] at g3 ⊢
              split <;> exact g3, h4⟩ with ⟨t, g1, g2, g3, g4⟩ | ⟨er, t, g0, g1, g2⟩
    · rw [g1]; simp only [Option.bind_some]
      rw [on1_ok (.inl rfl)]; simp only [Option.bind_some]
      refine ⟨t, rfl, g2.mono (by simp; omega), fun d hd hds => ?_, g4⟩
      have g5 : Lg C V qo e q e' hp hn x nwP _ False t d := g3 d hd hds
      show Lg C V qo e q e' hp hn x nwP _ False t d
      by_cases hdi : d < i
      · rw [if_pos hdi] at g5; rw [if_pos (by omega)]; exact g5
      · rw [if_neg hdi] at g5
        by_cases hde : d = i
        · rw [if_pos hde] at g5; rw [if_pos (by omega)]; exact g5
        · rw [if_neg hde] at g5; rw [if_neg (by omega)]; exact g5
    · exact g2.elim) (fun i u hi hs hI => by
    obtain ⟨h1, h2, h4⟩ := hI
    refine ⟨h1.mono (by omega), fun d hd hds => ?_, h4⟩
    have g : Lg C V qo e q e' hp hn x nwP _ False u d := h2 d hd hds
    show Lg C V qo e q e' hp hn x nwP _ False u d
    have : d ≠ i := fun z => hds (by rw [hs, z])
    by_cases hdi : d < i
    · rw [if_pos hdi] at g; rw [if_pos (by omega)]; exact g
    · rw [if_neg hdi] at g; rw [if_neg (by omega)]; exact g) ⟨he, fun d hd hds => by
      show Lg C V qo e q e' hp hn x nwP _ False s d
      rw [if_neg (by omega)]; exact hA d hd hds, Fr.refl⟩
  unfold parityvol_Volume_bodies parityvol_Volume_all__parityvol_Volume_bodies_1
  rw [show [((shl_u64 (to_u64 (vol C st none q e' p k).last_offset) 3) ||| (to_u64 (vol C st none q e' p k).last_leg)), (vol C st none q e' p k).last_word, (vol C st none q e' p k).last_parity] = [hdW e'.off e'.leg, e'.w, e'.p] from rfl]
  obtain ⟨t, h1, h2, h3, h4⟩ := hr
  rw [h1, seqO_inl]
  exact ⟨t, rfl, h2.mono (by omega), fun d hd hds => by
    have g : Lg C V qo e q e' hp hn x nwP _ False t d := h3 d hd hds
    rw [if_pos hd] at g; exact g, h4⟩
theorem flushB (he : PEb C kb K s) (hK : K ≤ 800000) (hb : 3 ≤ bn ∨ bc) (hA : Ls C st fun d => Lg C V qo e q e' hp hn x nwP bn bc s d) :
    ∃ t, parityvol_Volume_flush (vol C st none q e' p k) s = some (0, vol C st none q e' p k, t) ∧ PEb C kb K t ∧ (Ls C st fun d => Lg C V qo e q e' (fun c => hn c ∧ hp c) (fun c => hn c ∧ hp c) (fun d o => x d o ∧ ¬ nwP) nwP bn True t d) ∧ Fr st s t := by
  have hF := fuel_big
  have hL := C.hL
  have hll : (vol C st none q e' p k).legs = legsP C st none := rfl
  let I : Nat → ArrS → Prop := fun i t => PEb C kb K t ∧ (Ls C st fun d => Lg C V qo e q e' hp hn x nwP bn bc t d ∧ (d < i → Lg C V qo e q e' (fun c => hn c ∧ hp c) (fun c => hn c ∧ hp c) (fun d o => x d o ∧ ¬ nwP) nwP bn True t d)) ∧ Fr st s t
  have hr := all_ruleR (C := C) (st := st) (q := q) (e := e') (p := p) (k := k) (on := fun v i s => parityvol_Volume_on__parityvol_Volume_flush_1 v i s) (g := parityvol_Volume_all__parityvol_Volume_flush_1_l1 (vol C st none q e' p k)) (fun _ _ _ _ => rfl) (I := I) (s := s) (fun i u hi hs hI => by
    obtain ⟨h1, h2, h4⟩ := hI
    unfold parityvol_Volume_on__parityvol_Volume_flush_1 parityvol_Volume_flush_1
    rw [hll, legsP_len, Int.toNat_natCast, grd_t (decide_eq_true ⟨by omega, by omega⟩), legsP_at hi, show (legP C st none i).dev = xL i C.sz from rfl]
    obtain ⟨t, w1, w2, w3⟩ := h1.fl (by omega) hi
    rw [w1]; simp only [Option.bind_some]
    rw [on1_ok (.inl rfl)]; simp only [Option.bind_some]
    refine ⟨t, rfl, w2, fun d hd hds => ?_, h4.trans (Fr.fls w3)⟩
    obtain ⟨g1, g2⟩ := h2 d hd hds
    by_cases hdi : d = i
    · subst hdi
      have g3 := g1.flushB h1 hd w3 hb
      refine ⟨?_, fun _ => g3⟩
      exact g3.weaken (fun _ z => z.2) (fun _ z => z.1) (fun _ z => z.1) id (Nat.le_refl _) (fun _ => trivial)
    · exact ⟨g1.othF w3 hd (fun z => hdi z.symm), fun z => (g2 (by omega)).othF w3 hd (fun z => hdi z.symm)⟩) (fun i u hi hs hI => ⟨hI.1, fun d hd hds => ⟨(hI.2.1 d hd hds).1, fun z => (hI.2.1 d hd hds).2 (by have : d ≠ i := fun y => hds (by rw [hs, y]); omega)⟩, hI.2.2⟩) ⟨he, fun d hd hds => ⟨hA d hd hds, fun z => absurd z (by omega)⟩, Fr.refl⟩
  unfold parityvol_Volume_flush parityvol_Volume_all__parityvol_Volume_flush_1
  obtain ⟨t, h1, h2, h3, h4⟩ := hr
  rw [h1, seqO_inl]
  exact ⟨t, rfl, h2, fun d hd hds => (h3 d hd hds).2 hd, h4⟩
theorem headsB (he : PEb C kb K s) (hK : K ≤ 800000) (hA : Ls C st fun d => Lg C V qo e q e' hp hn x nwP bn bc s d) :
    ∃ t, parityvol_Volume_heads (vol C st none q e' p k) s = some (0, vol C st none q e' true k, t) ∧ PEb C kb (K + 4) t ∧ (Ls C st fun d => Lg C V qo e q e' (fun c => hp c ∨ c = q) (· = q) x nwP bn bc t d) ∧ Fr st s t := by
  have hF := fuel_big
  have hL := C.hL
  have hz := @PC.hsz C
  have hll : (vol C st none q e' true k).legs = legsP C st none := rfl
  let I : Nat → ArrS → Prop := fun i t => PEb C kb (K + i) t ∧ (Ls C st fun d => Lg C V qo e q e' (fun c => hp c ∨ c = q) (fun _ => True) x nwP bn bc t d ∧ (d < i → Lg C V qo e q e' (fun c => hp c ∨ c = q) (· = q) x nwP bn bc t d)) ∧ Fr st s t
  have hr := all_ruleR (C := C) (st := st) (q := q) (e := e') (p := true) (k := k) (on := fun v i s => parityvol_Volume_on__parityvol_Volume_heads_1 v i s) (g := parityvol_Volume_all__parityvol_Volume_heads_1_l1 (vol C st none q e' true k)) (fun _ _ _ _ => rfl) (I := I) (s := s) (fun i u hi hs hI => by
    obtain ⟨h1, h2, h4⟩ := hI
    unfold parityvol_Volume_on__parityvol_Volume_heads_1 parityvol_Volume_heads_1
    rw [hll, legsP_len, Int.toNat_natCast, grd_t (decide_eq_true ⟨by omega, by omega⟩), legsP_at hi, show (legP C st none i).dev = xL i C.sz from rfl, show (vol C st none q e' true k).last_seq = q from rfl]
    obtain ⟨t, w1, w2, w3⟩ := h1.wrR (v := q) (a := 0) (by omega) hi (by omega)
    rw [show (xL i C.sz).wr u (0 : Int) q = some (0, t) from w1]; simp only [Option.bind_some]
    rw [on1_ok (.inl rfl)]; simp only [Option.bind_some]
    refine ⟨t, rfl, w2, fun d hd hds => ?_, h4.trans (Fr.upd w3 hs)⟩
    obtain ⟨g1, g2⟩ := h2 d hd hds
    by_cases hdi : d = i
    · subst hdi
      have g3 := g1.head w3
      exact ⟨g3.weaken (fun _ z => z.elim id .inr) (fun _ _ => trivial) (fun _ z => z) id (Nat.le_refl _) id, fun _ => g3.weaken (fun _ z => z.elim id .inr) (fun _ z => z) (fun _ z => z) id (Nat.le_refl _) id⟩
    · exact ⟨g1.oth w3 (fun z => hdi z.symm), fun z => (g2 (by omega)).oth w3 (fun z => hdi z.symm)⟩) (fun i u hi hs hI => ⟨hI.1.mono (by omega), fun d hd hds => ⟨(hI.2.1 d hd hds).1, fun z => (hI.2.1 d hd hds).2 (by have : d ≠ i := fun y => hds (by rw [hs, y]); omega)⟩, hI.2.2⟩) ⟨he, fun d hd hds => ⟨(hA d hd hds).weaken (fun _ z => .inl z) (fun _ _ => trivial) (fun _ z => z) id (Nat.le_refl _) id, fun z => absurd z (by omega)⟩, Fr.refl⟩
  unfold parityvol_Volume_heads parityvol_Volume_all__parityvol_Volume_heads_1
  rw [show ({ vol C st none q e' p k with pending := true } : VolS) = vol C st none q e' true k from rfl]
  obtain ⟨t, h1, h2, h3, h4⟩ := hr
  rw [h1, seqO_inl]
  exact ⟨t, rfl, h2.mono (by omega), fun d hd hds => (h3 d hd hds).2 hd, h4⟩
theorem storeB (he : PEb C kb K s) (hK : K ≤ 800000) (hd : d < C.L) (ho : e'.off < C.O) (hx : ∀ d, d = e'.leg ∨ d = C.par e'.off → x d e'.off) (hde : d = e'.leg ∨ d = C.par e'.off) (hbn : bn ≤ 3) (hA : Ls C st fun d => Lg C V qo e q e' hp hn x False bn bc s d) {w : UInt64} :
    ∃ t, parityvol_Volume_store (vol C st none q e' p k) (d : Int) w s = some (0, vol C st none q e' p k, t) ∧ PEb C kb (K + 1) t ∧ (Ls C st fun d => Lg C V qo e q e' hp hn x False bn bc t d) ∧ ((st ≠ some d ∨ e'.off / C.c < k) → now t d (16 + e'.off) = w) ∧ ∀ f b, f ≠ d ∨ b ≠ 16 + e'.off → now t f b = now s f b := by
  have hO := @PC.hO C
  have hL := C.hL
  have hc := C.hc
  have hsz : C.sz = 16 + C.O := rfl
  have hll : (vol C st none q e' p k).legs = legsP C st none := rfl
  have e16 : (16 : Int) + (vol C st none q e' p k).last_offset = ((16 + e'.off : Nat) : Int) := by
    show (16 : Int) + (e'.off : Int) = _
    push_cast; rfl
  have key : ∃ t, parityvol_Volume_on__parityvol_Volume_store_1 (vol C st none q e' p k) (d : Int) w s = some (0, vol C st none q e' p k, t) ∧ PEb C kb (K + 1) t ∧ (Ls C st fun d => Lg C V qo e q e' hp hn x False bn bc t d) ∧ now t d (16 + e'.off) = w ∧ ∀ f b, f ≠ d ∨ b ≠ 16 + e'.off → now t f b = now s f b := by
    unfold parityvol_Volume_on__parityvol_Volume_store_1 parityvol_Volume_store_1
    rw [hll, legsP_len, Int.toNat_natCast, grd_t (decide_eq_true ⟨by omega, by omega⟩), e16, grd_t (inI64_of (by omega)), legsP_at hd, show (legP C st none d).dev = xL d C.sz from rfl]
    obtain ⟨t, w1, w2, w3⟩ := he.wrR (v := w) (a := 16 + e'.off) (by omega) hd (by omega)
    rw [w1]; simp only [Option.bind_some]
    rw [on1_ok (.inl rfl)]; simp only [Option.bind_some]
    refine ⟨t, rfl, w2, fun f hf hfs => ?_, by rw [w3.now, if_pos ⟨rfl, rfl⟩], fun f b hf => by rw [w3.now, if_neg (fun z => hf.elim (fun y => y z.1.symm) (fun y => y z.2.symm))]⟩
    by_cases hfd : f = d
    · subst hfd
      exact (hA f hf hfs).word hbn (hx f hde) w3
    · exact (hA f hf hfs).oth w3 (fun z => hfd z.symm)
  obtain ⟨t, k1, k2, k3, k4, k5⟩ := key
  unfold parityvol_Volume_store
  rw [hll, legsP_len, Int.toNat_natCast, grd_t (decide_eq_true ⟨by omega, by omega⟩), legsP_at hd]
  by_cases hs : st = some d
  · have hdv : e'.off / C.c ≤ e'.off := Nat.div_le_self _ _
    rw [if_pos (by simp [legP, hs]), show (vol C st none q e' p k).layout_chunk = (C.c : Int) from rfl, grd_t (decide_eq_true (by omega)), show (vol C st none q e' p k).filled = (k : Int) from rfl, show (vol C st none q e' p k).last_offset = (e'.off : Int) from rfl, tdivN, wrapN (by omega)]
    by_cases hk : k ≤ e'.off / C.c
    · rw [if_pos (Int.ofNat_le.2 hk)]
      exact ⟨s, rfl, he.mono (by omega), hA, fun z => z.elim (fun y => absurd hs y) (fun y => absurd y (by omega)), fun _ _ _ => rfl⟩
    · rw [if_neg (fun y => hk (Int.ofNat_le.1 y)), k1]
      exact ⟨t, rfl, k2, k3, fun _ => k4, k5⟩
  · rw [if_neg (by simp [legP, hs]), k1]
    exact ⟨t, rfl, k2, k3, fun _ => k4, k5⟩
theorem applyB (he : PEb C kb K s) (hK : K ≤ 700000) (hev : EV C V e') (hx : ∀ d, d = e'.leg ∨ d = C.par e'.off → x d e'.off) (hbn : bn ≤ 3) (hA : Ls C st fun d => Lg C V qo e q e' hp hn x False bn bc s d) (hfi : ∀ d, st = some d → ∀ o, o < C.O → o / C.c < k → ¬ exE C e' d o → now s d (16 + o) = V d o) :
    ∃ t, parityvol_Volume_apply (vol C st none q e' p k) s = some (0, vol C st none q e' false k, t) ∧ PEb C kb (K + 2) t ∧ (Ls C st fun d => Lg C V qo e q e' hp hn x False bn bc t d ∧ ∀ o, exE C e' d o → now t d (16 + o) = V d o) ∧ Fi C st k V t := by
  have hpar := PC.parL hev.off
  have hp0 : ({ vol C st none q e' p k with pending := (vol C st none q e' p k).pending && decide ((0 : Int) ≠ 0) } : VolS) = vol C st none q e' false k := by cases p <;> rfl
  unfold parityvol_Volume_apply
  rw [show (⟨(vol C st none q e' p k).layout_n, (vol C st none q e' p k).layout_chunk, (vol C st none q e' p k).layout_rows⟩ : parityvol_layout) = ⟨(C.L : Int), (C.c : Int), (C.R : Int)⟩ from rfl, show (vol C st none q e' p k).last_offset = (e'.off : Int) from rfl, parityOf_eq hev.off, show (vol C st none q e' p k).last_leg = (e'.leg : Int) from rfl, show (vol C st none q e' p k).last_word = e'.w from rfl]; simp only [Option.bind_some]
  obtain ⟨t, h1, h2, h3, h4, h5⟩ := storeB (d := e'.leg) (w := e'.w) (p := p) (k := k) he (by omega) hev.leg hev.off hx (.inl rfl) hbn hA
  rw [h1]; simp only [Option.bind_some]
  rw [if_pos trivial, show (vol C st none q e' p k).last_parity = e'.p from rfl]
  obtain ⟨t2, g1, g2, g3, g4, g5⟩ := storeB (d := C.par e'.off) (w := e'.p) (p := p) (k := k) h2 (by omega) hpar hev.off hx (.inr rfl) hbn h3
  rw [g1]; simp only [Option.bind_some]
  rw [hp0]
  have hat : ∀ d o, exE C e' d o → (st ≠ some d ∨ o / C.c < k) → now t2 d (16 + o) = V d o := fun d o ho hk => by
    obtain ⟨rfl, ho⟩ := ho
    by_cases hdp : d = C.par e'.off
    · subst hdp; rw [g4 hk, hev.p]
    · rcases ho with rfl | ho
      · rw [g5 _ _ (.inl hdp), h4 hk, hev.w]
      · exact absurd ho hdp
  refine ⟨t2, rfl, g2, fun d hd hds => ⟨g3 d hd hds, fun o ho => hat d o ho (.inl hds)⟩, fun d hd o ho hk => ?_⟩
  by_cases z : exE C e' d o
  · exact hat d o z (.inr hk)
  · have n1 : ∀ c, c = e'.leg ∨ c = C.par e'.off → d ≠ c ∨ 16 + o ≠ 16 + e'.off := fun c hc => by
      by_cases y : o = e'.off
      · refine .inl (fun u => z ⟨y, ?_⟩)
        rw [u]; exact hc
      · exact .inr (by omega)
    rw [g5 _ _ (n1 _ (.inr rfl)), h5 _ _ (n1 _ (.inl rfl))]
    exact hfi d hd o ho hk z
theorem putB (he : PEb C kb K s) (hK : K ≤ 500000) (hj : JW C V q e) (hx : Ny C V q V' q' e') (hA : Qs C st V q e s) (hfi : Fi C st k V s) :
    ∃ t, parityvol_Volume_put (vol C st none q e false k) (⟨0, e'.off, e'.leg, e'.w, e'.p⟩ : parityvol_entry) s = some (0, vol C st none q' e' false k, t) ∧ PEb C kb (K + 18) t ∧ Qs C st V' q' e' t ∧ Fi C st k V' t := by
  have hqq := hx.q
  subst hqq
  have hq := seq_ne hj.sm
  unfold parityvol_Volume_put
  rw [show ({ vol C st none q e false k with last_seq := (vol C st none q e false k).last_seq + (1 : UInt64), last_offset := ((⟨0, e'.off, e'.leg, e'.w, e'.p⟩ : parityvol_entry)).offset, last_leg := ((⟨0, e'.off, e'.leg, e'.w, e'.p⟩ : parityvol_entry)).leg, last_word := ((⟨0, e'.off, e'.leg, e'.w, e'.p⟩ : parityvol_entry)).word, last_parity := ((⟨0, e'.off, e'.leg, e'.w, e'.p⟩ : parityvol_entry)).parity } : VolS) = vol C st none (q + 1) e' false k from rfl]
  unfold parityvol_Volume_commit parityvol_Volume_steps parityvol_run
  simp only [Option.bind_some]
  obtain ⟨t1, a1, a2, a3, a4⟩ := bodiesB (p := false) (k := k) he (by omega) (fun _ => seq_sl hj.sm) (hA.imp fun d _ _ h => Q0.start (q' := q + 1) (e' := e') h)
  rw [a1]; simp only [Option.bind_some]
  rw [if_neg (by simp)]
  obtain ⟨t2, b1, b2, b3, b4⟩ := flushB (p := false) (k := k) a2 (by omega) (.inl (Nat.le_refl 3)) a3
  rw [b1]; simp only [Option.bind_some]
  rw [if_neg (by simp)]
  obtain ⟨t3, c1, c2, c3, c4⟩ := headsB (p := false) (k := k) b2 (by omega) b3
  rw [c1]; simp only [Option.bind_some]
  rw [if_neg (by simp)]
  obtain ⟨t4, d1, d2, d3, d4⟩ := flushB (p := true) (k := k) c2 (by omega) (.inr trivial) c3
  rw [d1]; simp only [Option.bind_some]
  rw [if_neg (by simp)]
  have hB : Ls C st fun d => Lg C V' 0 e' (q + 1) e' (· = q + 1) (· = q + 1) (exE C e') False 0 True t4 d := d3.imp fun d _ _ h =>
    ((h.reV (V' := V') (fun o _ z => z.1.2 trivial) (hx.old d)).weaken (fun _ z => z.1) (fun _ z => z.1) (fun _ z => z) id (Nat.zero_le _) id)
  have hfr := ((a4.trans b4).trans c4).trans d4
  obtain ⟨t5, f1, f2, f3, f4⟩ := applyB (p := true) (bn := 0) (k := k) d2 (by omega) hx.ev (fun d hd => ⟨rfl, hd⟩) (by omega) hB (fun d hd o ho hk hne => by rw [hfr d hd, hx.old d o hne]; exact hfi d hd o ho hk)
  rw [f1]; simp only [Option.bind_some]
  rw [if_neg (by simp)]; simp only [Option.bind_some]
  rw [if_neg (fun z => absurd z.1 (by simp))]
  exact ⟨t5, rfl, f2.mono (by omega), fun d hd hds => Fu.doneB f2 hd hq (f3 d hd hds).1 (f3 d hd hds).2, f4⟩
theorem pflushB_l1 {r1 : Int × VolS × ArrS} (hr1 : r1.2.1.legs.length = C.L) : ∀ (N i : Nat) (u : ArrS), C.L - i < N → i ≤ C.L → PEb C kb K u → K ≤ 800000 → Qs C st V q e u → Fr st s u →
    ∃ t, parityvol_Volume_Flush_l1 r1 N u (vol C st none q e false k) i 0 = some (.inl (0, vol C st none q e false k, t)) ∧ PEb C kb K t ∧ Qs C st V q e t ∧ Fr st s t
  | 0, _, _, h, _, _, _, _, _ => absurd h (by omega)
  | N + 1, i, u, h, hi, he, hK, hA, hf => by
    have hL := C.hL
    have hll : (vol C st none q e false k).legs = legsP C st none := rfl
    have hu : parityvol_Volume_Flush_l1 r1 (N + 1) u (vol C st none q e false k) i 0 = parityvol_Volume_Flush_l1_b r1 (parityvol_Volume_Flush_l1 r1 N) u (vol C st none q e false k) i 0 := rfl
    rw [hu]
    unfold parityvol_Volume_Flush_l1_b
    rw [hr1, hll, legsP_len]
    by_cases hlt : i < C.L
    · rw [if_pos (by omega), grd_t (decide_eq_true hlt), legsP_at hlt]
      by_cases hs : st = some i
      · rw [if_pos (by simp [legP, hs])]
        exact pflushB_l1 hr1 N (i + 1) u (by omega) (by omega) he hK hA hf
      · rw [if_neg (by simp [legP, hs])]
        unfold parityvol_Volume_on__parityvol_Volume_Flush_1 parityvol_Volume_Flush_1
        rw [hll, legsP_len, Int.toNat_natCast, grd_t (decide_eq_true ⟨by omega, by omega⟩), legsP_at hlt, show (legP C st none i).dev = xL i C.sz from rfl]
        obtain ⟨t, w1, w2, w3⟩ := he.fl (by omega) hlt
        rw [w1]; simp only [Option.bind_some]
        rw [on1_ok (.inl rfl)]; simp only [Option.bind_some]
        have hA' : Qs C st V q e t := fun d hd hds => by
          by_cases hdi : d = i
          · subst hdi; exact (hA d hd hds).flushB he hd w3
          · exact (hA d hd hds).othF w3 hd (fun z => hdi z.symm)
        rw [if_neg (by simp), if_pos trivial]
        exact pflushB_l1 hr1 N (i + 1) t (by omega) (by omega) w2 hK hA' (hf.trans (Fr.fls w3))
    · rw [if_neg (by omega)]
      have : i = C.L := by omega
      subst this
      exact ⟨u, rfl, he, hA, hf⟩
theorem pflushB (he : PEb C kb K s) (hK : K ≤ 800000) (hA : Qs C st V q e s) :
    ∃ t, parityvol_Volume_Flush (vol C st none q e false k) s = some (0, vol C st none q e false k, t) ∧ PEb C kb K t ∧ Qs C st V q e t ∧ Fr st s t := by
  have hF := fuel_big
  have hL := C.hL
  unfold parityvol_Volume_Flush
  rw [ready_0]; simp only [Option.bind_some]
  rw [if_neg (by simp)]
  obtain ⟨t, h1, h2, h3, h4⟩ := pflushB_l1 (s := s) (k := k) (r1 := (0, vol C st none q e false k, s)) legsP_len FUEL 0 s (by omega) (by omega) he hK hA Fr.refl
  rw [h1, seqO_inl]
  exact ⟨t, rfl, h2, h3, h4⟩
theorem PEb.rd0 (h : PEb C kb K s) (hd : d < C.L) (ha : a < C.sz) : ∃ w er, (xL d C.sz).rd s (a : Int) = some (w, er) ∧ (isBad s d a = false → er = 0 ∧ w = now s d a ∧ rdC s d a = 0) ∧ (isBad s d a = true → er = 7) := by
  have hz := @PC.hsz C
  obtain ⟨h3, h4, h5, h6, -⟩ := h.nb.ok.chk h.nb.dn (d := d) (a := a) (by rw [PC.len]; exact hd) (by rw [PC.nsz hd]; exact ha)
  rw [h.nb.ms] at h6
  have h3' : cPow s = 0 := h3
  have h4' : cLoc s d = 0 := h4
  have h5' : cPla s d a = 0 := h5
  have h6' : cPre s d = 0 := h6
  rw [span_rd (by omega) (by omega), if_pos (by omega)]
  have e : ((0 : Nat) : Int) + (a : Int) = ((a : Nat) : Int) := by omega
  rw [e]
  refine ⟨_, _, rfl, fun hb => ?_, fun hb => ?_⟩
  · have h7 : cWho s d a = 0 := by simp [cWho, hb]
    have hC : rdC s d a = 0 := by simp [rdC, fz, h3', h4', h5', h6', h7]
    exact ⟨hC, by rw [rdV, if_pos hC]; rfl, hC⟩
  · have h7 : cWho s d a = 7 := by simp [cWho, hb]
    simp [rdC, fz, h3', h4', h5', h6', h7]
theorem PEb.rd (h : PEb C kb K s) (hd : d < C.L) (ha : a < C.sz) (hb : isBad s d a = false) : (xL d C.sz).rd s (a : Int) = some (now s d a, 0) := by
  obtain ⟨w, er, h1, h2, -⟩ := h.rd0 hd ha
  obtain ⟨rfl, rfl, -⟩ := h2 hb
  exact h1
theorem PEb.ok (h : PEb C kb K s) (hi : i ≠ kb) : isBad s i a = false := by
  cases hb : isBad s i a
  · rfl
  · have := (h.mrk _ _ hb).1
    omega
theorem othersF_l1 (he : PEb C kb K s) (ho : o < C.O) (hv : ∀ i, i < C.L → now s i (16 + o) = V i o) : ∀ (N i : Nat) (acc : List UInt64), C.L - i < N → i ≤ C.L → acc.length ≤ i → xorL acc = xr (upd (fun i => V i o) kb 0) i →
    ∃ acc', parityvol_Volume_others_l1 (vol C none none q e p k) (kb : Int) (o : Int) false s N (vol C none none q e p k) acc i = some (.inl (acc', vol C none none q e p k)) ∧ acc'.length ≤ C.L ∧ xorL acc' = xr (upd (fun i => V i o) kb 0) C.L
  | 0, _, _, h, _, _, _ => absurd h (by omega)
  | N + 1, i, acc, h, hi, hl, hx => by
    have hL := C.hL
    have hO := @PC.hO C
    have hsz : C.sz = 16 + C.O := rfl
    have hu : parityvol_Volume_others_l1 (vol C none none q e p k) (kb : Int) (o : Int) false s (N + 1) (vol C none none q e p k) acc i = parityvol_Volume_others_l1_b (vol C none none q e p k) (kb : Int) (o : Int) false s (parityvol_Volume_others_l1 (vol C none none q e p k) (kb : Int) (o : Int) false s N) (vol C none none q e p k) acc i := rfl
    have hll : (vol C none none q e p k).legs = legsP C none none := rfl
    rw [hu]
    unfold parityvol_Volume_others_l1_b
    rw [hll, legsP_len]
    by_cases hlt : i < C.L
    · rw [if_pos (by omega)]
      by_cases hid : i = kb
      · rw [if_pos (by omega)]
        refine othersF_l1 he ho hv N (i + 1) acc (by omega) (by omega) (by omega) ?_
        have : xr (upd (fun z => V z o) kb 0) (i + 1) = xr (upd (fun z => V z o) kb 0) i ^^^ upd (fun z => V z o) kb 0 i := rfl
        rw [this, hx, show upd (fun z => V z o) kb 0 i = 0 from if_pos hid, UInt64.xor_zero]
      · rw [if_neg (by omega), if_neg (by simp)]
        unfold parityvol_Volume_others_1
        have e16 : (16 : Int) + (o : Int) = ((16 + o : Nat) : Int) := by push_cast; rfl
        rw [grd_t (decide_eq_true hlt), grd_t (inI64_of (by omega)), legsP_at hlt, e16, show (legP C none none i).dev = xL i C.sz from rfl, he.rd hlt (by omega) (he.ok hid)]; simp only [Option.bind_some]
        rw [if_neg (by simp), grd_t (inLen_of (by omega))]
        refine othersF_l1 he ho hv N (i + 1) _ (by omega) (by omega) (by simp; omega) ?_
        have : xr (upd (fun z => V z o) kb 0) (i + 1) = xr (upd (fun z => V z o) kb 0) i ^^^ upd (fun z => V z o) kb 0 i := rfl
        rw [xorL_snoc, this, hx, hv i hlt, show upd (fun z => V z o) kb 0 i = V i o from if_neg hid]
    · rw [if_neg (by omega)]
      have : i = C.L := by omega
      subst this
      exact ⟨acc, rfl, hl, hx⟩
theorem wordB (he : PEb C kb K s) (hd : d < C.L) (ho : o < C.O) (hv : ∀ i, i < C.L → now s i (16 + o) = V i o) (hev : xr (fun i => V i o) C.L = 0) :
    parityvol_Volume_word (vol C none none q e p k) (d : Int) (o : Int) s = some (V d o, isBad s d ((16 + o : Nat) : Int), 0, vol C none none q e p k) := by
  have hF := fuel_big
  have hL := C.hL
  have hO := @PC.hO C
  have hsz : C.sz = 16 + C.O := rfl
  have hll : (vol C none none q e p k).legs = legsP C none none := rfl
  have e16 : (16 : Int) + (o : Int) = ((16 + o : Nat) : Int) := by push_cast; rfl
  unfold parityvol_Volume_word
  rw [hll, legsP_len, Int.toNat_natCast, grd_t (decide_eq_true ⟨by omega, by omega⟩), legsP_at hd, if_neg (by simp [legP])]
  unfold parityvol_Volume_on__parityvol_Volume_word_1 parityvol_Volume_word_1
  rw [hll, legsP_len, Int.toNat_natCast, grd_t (decide_eq_true ⟨by omega, by omega⟩), grd_t (inI64_of (by omega)), legsP_at hd, e16, show (legP C none none d).dev = xL d C.sz from rfl]
  obtain ⟨w, er, h1, h2, h3⟩ := he.rd0 (d := d) (a := 16 + o) hd (by omega)
  rw [h1]; simp only [Option.bind_some]
  cases hb : isBad s d ((16 + o : Nat) : Int)
  · obtain ⟨rfl, rfl, -⟩ := h2 hb
    rw [if_neg (by simp)]; simp only [Option.bind_some]
    rw [on1_ok (.inl rfl)]; simp only [Option.bind_some]
    rw [hv d hd]
  · have hek := h3 hb
    subst hek
    have hdk : d = kb := by
      have := (he.mrk _ _ hb).1
      omega
    subst hdk
    rw [if_pos rfl, staleLeg_eq (fun j hj => by cases hj)]; simp only [Option.bind_some]
    rw [if_pos (by simp [stI])]
    unfold parityvol_Volume_others
    obtain ⟨acc, a1, a2, a3⟩ := othersF_l1 (q := q) (e := e) (p := p) (k := k) he ho hv FUEL 0 [] (by omega) (by omega) (by simp) rfl
    rw [a1, seqO_inl, parXor_eq (show acc.length ≤ 1000 by omega), a3, xr_others hd hev]; simp only [Option.bind_some]
    rw [if_pos (.inl trivial)]; simp only [Option.bind_some]
    rw [on1_ok (.inl rfl)]; simp only [Option.bind_some]
theorem Qs.rowB (h : Qs C none V q e s) (ho : o < C.O) : ∀ i, i < C.L → now s i (16 + o) = V i o := fun i hi => (h i hi (by simp)).nw trivial o ho
theorem pwriteB (he : PEb C kb K s) (hK : K ≤ 500000) (hj : JV C V q e) (hA : Qs C none V q e s) (ha : a < C.D) :
    ∃ t, parityvol_Volume_Write (vol C none none q e false k) (a : Int) w s = some (0, vol C none none (q + 1) (wrE C V a w) false k, t) ∧ PEb C kb (K + 18) t ∧ Qs C none (wrV C V a w) (q + 1) (wrE C V a w) t := by
  obtain ⟨p1, p2, p3, -⟩ := PC.plc ha
  have p4 := PC.parL p2
  unfold parityvol_Volume_Write
  rw [if_neg (by omega), psize_eq]; simp only [Option.bind_some]
  rw [if_neg (by omega), ready_0]; simp only [Option.bind_some]
  rw [if_neg (by simp), show (⟨(vol C none none q e false k).layout_n, (vol C none none q e false k).layout_chunk, (vol C none none q e false k).layout_rows⟩ : parityvol_layout) = ⟨(C.L : Int), (C.c : Int), (C.R : Int)⟩ from rfl, place_eq ha]; simp only [Option.bind_some]
  rw [wordB he p1 p2 (hA.rowB p2) (hj.even _ p2)]; simp only [Option.bind_some]
  rw [if_neg (by simp), wordB he p4 p2 (hA.rowB p2) (hj.even _ p2)]; simp only [Option.bind_some]
  unfold parity_Update
  rw [if_neg (by simp)]; simp only [Option.bind_some]
  obtain ⟨t, k1, k2, k3, -⟩ := putB (k := k) (e' := wrE C V a w) he hK hj.jw (wr_nx (w := w) ha hj).ny hA (fun d hd => by cases hd)
  rw [show (⟨0, ((wrE C V a w).off : Int), ((wrE C V a w).leg : Int), (wrE C V a w).w, (wrE C V a w).p⟩ : parityvol_entry) = ⟨(0 : UInt64), (C.off a : Int), (C.leg a : Int), w, V (C.leg a) (C.off a) ^^^ w ^^^ V (C.par (C.off a)) (C.off a)⟩ from rfl] at k1
  rw [k1]
  exact ⟨t, rfl, k2, k3⟩
theorem Q0.same (h : Q0 C V q e s d) (hu : Upd s t d (16 + o) (V d o)) : Q0 C V q e t d := by
  have s1 := @sl_le q
  have hn1 : ∀ b, b ≠ 16 + o → now t d b = now s d b := fun b hb => by rw [hu.now, if_neg (fun z => hb z.2.symm)]
  have hc1 : ∀ b, b ≠ 16 + o → cand t d b = cand s d b := fun b hb => by rw [hu.cand, if_neg (fun z => hb z.2.symm)]
  refine ⟨fun c hc => h.hd c (by rw [hc1 0 (by omega)] at hc; exact hc), by rw [hn1 0 (by omega)]; exact h.hn, fun z j hj c hc => h.bd z j hj c (by rw [hc1 _ (by omega)] at hc; exact hc), fun b hb hx c hc => ?_, fun z b hb => ?_, fun j hj => absurd hj (by omega), fun z => z.elim⟩
  · by_cases y : b = o
    · subst y
      rw [hu.cand, if_pos ⟨rfl, rfl⟩] at hc
      rcases List.mem_append.1 hc with y | y
      · exact h.dt b hb hx c y
      · exact List.mem_singleton.1 y
    · rw [hc1 _ (by omega)] at hc; exact h.dt b hb hx c hc
  · by_cases y : b = o
    · subst y; rw [hu.now, if_pos ⟨rfl, rfl⟩]
    · rw [hn1 _ (by omega)]; exact h.nw z b hb
theorem preadB (he : PEb C kb K s) (hK : K ≤ 500000) (hj : JV C V q e) (hA : Qs C none V q e s) (ha : a < C.D) :
    ∃ t, parityvol_Volume_Read (vol C none none q e false k) (a : Int) s = some (V (C.leg a) (C.off a), 0, vol C none none q e false k, t) ∧ PEb C kb (K + 1) t ∧ Qs C none V q e t ∧ isBad t (C.leg a : Int) ((16 + C.off a : Nat) : Int) = false ∧ ∀ d b, isBad t d b = true → isBad s d b = true := by
  obtain ⟨p1, p2, p3, -⟩ := PC.plc ha
  have hL := C.hL
  have hO := @PC.hO C
  have hsz : C.sz = 16 + C.O := rfl
  have hll : (vol C none none q e false k).legs = legsP C none none := rfl
  have e16 : (16 : Int) + (C.off a : Int) = ((16 + C.off a : Nat) : Int) := by push_cast; rfl
  unfold parityvol_Volume_Read
  rw [if_neg (by omega), psize_eq]; simp only [Option.bind_some]
  rw [if_neg (by omega), ready_0]; simp only [Option.bind_some]
  rw [if_neg (by simp), show (⟨(vol C none none q e false k).layout_n, (vol C none none q e false k).layout_chunk, (vol C none none q e false k).layout_rows⟩ : parityvol_layout) = ⟨(C.L : Int), (C.c : Int), (C.R : Int)⟩ from rfl, place_eq ha]; simp only [Option.bind_some]
  rw [wordB he p1 p2 (hA.rowB p2) (hj.even _ p2)]; simp only [Option.bind_some]
  rw [if_neg (by simp)]
  cases hb : isBad s (C.leg a : Int) ((16 + C.off a : Nat) : Int)
  · rw [if_neg (by simp)]
    exact ⟨s, rfl, he.mono (by omega), hA, hb, fun _ _ h => h⟩
  · rw [if_pos rfl, hll, legsP_len, Int.toNat_natCast, grd_t (decide_eq_true ⟨by omega, by omega⟩), legsP_at p1, e16, grd_t (inI64_of (by omega)), show (legP C none none (C.leg a)).dev = xL (C.leg a) C.sz from rfl]
    obtain ⟨t, w1, w2, w3, w4⟩ := he.wrM (v := V (C.leg a) (C.off a)) (d := C.leg a) (a := 16 + C.off a) (by omega) p1 (by omega)
    rw [w1]; simp only [Option.bind_some]
    rw [if_neg (by simp)]
    refine ⟨t, rfl, w2, fun d hd hds => ?_, by rw [w4, if_pos rfl], fun d b hb' => ?_⟩
    · by_cases y : d = C.leg a
      · subst y; exact Q0.same (hA _ hd hds) w3
      · exact (hA d hd hds).oth w3 (fun z => y z.symm)
    · rw [w4] at hb'
      split at hb'
      · cases hb'
      · exact hb'
end
end Go.Proofs
set_option linter.unusedSimpArgs false
set_option linter.unusedVariables false
set_option maxRecDepth 20000
set_option maxHeartbeats 4000000
namespace Go.Proofs
open Go.VG
def volumegrouplaw19_shape (n_0 : UInt8) : Option (Int × Int × Int) :=
  grd (inN64 ((3 + ((n_0 % (2 : UInt8))).toNat))) <|
  grd (inN64 ((1 + (((n_0 / (2 : UInt8)) % (3 : UInt8))).toNat))) <|
  grd (inN64 ((1 + (((n_0 / (8 : UInt8)) % (2 : UInt8))).toNat))) <|
  some (((((3 + ((n_0 % (2 : UInt8))).toNat) : Nat) : Int), (((1 + (((n_0 / (2 : UInt8)) % (3 : UInt8))).toNat) : Nat) : Int), (((1 + (((n_0 / (8 : UInt8)) % (2 : UInt8))).toNat) : Nat) : Int)))
theorem L_volumegrouplaw19_shape {W : World} {n_0 : UInt8} {r : Int × Int × Int} (h : volumegrouplaw19_shape n_0 = some r) :
    CSpec Tryz.prog W 12 [.int .u8 (n_0.toNat : Int)] [] (fun x : Unit => .tuple #[.int .i64 r.1, .int .i64 r.2.1, .int .i64 r.2.2]) (fun _ => True) (fun x F => F) := by
 refine CSpec.of_body Tryz.func12 rfl Tryz.ntmps12 rfl fun F => ?_
 show CJ _ _ _ _ _ _ (F)
 unfold volumegrouplaw19_shape at h
 refine sR <| oA rfl rfl <| oA rfl rfl <| oA rfl rfl <| nT <| sR <| oM rfl rfl <| oP (P_rem_u8 (a := n_0) (b := (2 : UInt8)) rfl rfl (by decide)) rfl <| oP (P_convSame rfl Tryz.runUnderlying5 Tryz.runUnderlying3 (wrap64_u _ (by have h9 := ((n_0 % (2 : UInt8))).toNat_lt; exact (by omega : ((n_0 % (2 : UInt8))).toNat < 9223372036854775808)))) rfl ?_
 obtain ⟨hg1, h⟩ := grd_Ne h
 refine oP (PJ_eq (P_add (a := (3 : Int)) (b := ((((n_0 % (2 : UInt8))).toNat : Nat) : Int)) rfl rfl (nat_in hg1)) rfl) rfl <| oM rfl rfl <| oP (P_quo_u8 (a := n_0) (b := (2 : UInt8)) rfl rfl (by decide)) rfl <| oP (P_rem_u8 (a := (n_0 / (2 : UInt8))) (b := (3 : UInt8)) rfl rfl (by decide)) rfl <| oP (P_convSame rfl Tryz.runUnderlying5 Tryz.runUnderlying3 (wrap64_u _ (by have h9 := (((n_0 / (2 : UInt8)) % (3 : UInt8))).toNat_lt; exact (by omega : (((n_0 / (2 : UInt8)) % (3 : UInt8))).toNat < 9223372036854775808)))) rfl ?_
 obtain ⟨hg2, h⟩ := grd_Ne h
 refine oP (PJ_eq (P_add (a := (1 : Int)) (b := (((((n_0 / (2 : UInt8)) % (3 : UInt8))).toNat : Nat) : Int)) rfl rfl (nat_in hg2)) rfl) rfl <| oM rfl rfl <| oP (P_quo_u8 (a := n_0) (b := (8 : UInt8)) rfl rfl (by decide)) rfl <| oP (P_rem_u8 (a := (n_0 / (8 : UInt8))) (b := (2 : UInt8)) rfl rfl (by decide)) rfl <| oP (P_convSame rfl Tryz.runUnderlying5 Tryz.runUnderlying3 (wrap64_u _ (by have h9 := (((n_0 / (8 : UInt8)) % (2 : UInt8))).toNat_lt; exact (by omega : (((n_0 / (8 : UInt8)) % (2 : UInt8))).toNat < 9223372036854775808)))) rfl ?_
 obtain ⟨hg3, h⟩ := grd_Ne h
 refine oP (PJ_eq (P_add (a := (1 : Int)) (b := (((((n_0 / (8 : UInt8)) % (2 : UInt8))).toNat : Nat) : Int)) rfl rfl (nat_in hg3)) rfl) rfl <| oA rfl rfl <| oA rfl rfl <| oA rfl rfl <| nT <| CJ_ret ?_
 cases h
 exact fE (res3 Tryz.results12 rfl rfl rfl) () eR
def volumegroupref18_fits (chunk : Int) (n_1 : Int) : Option (Bool) :=
  some (((((decide ((1 : Int) ≤ chunk)) && (decide (chunk ≤ (65536 : Int)))) && (decide ((3 : Int) ≤ n_1))) && (decide (n_1 ≤ (6 : Int)))))
theorem L_volumegroupref18_fits {W : World} {chunk : Int} {n_1 : Int} {r : Bool} (h : volumegroupref18_fits chunk n_1 = some r) :
    CSpec Tryz.prog W 61 [.int .i64 chunk, .int .i64 n_1] [] (fun x : Unit => .bool r) (fun _ => True) (fun x F => F) := by
 refine CSpec.of_body Tryz.func61 rfl Tryz.ntmps61 rfl fun F => ?_
 show CJ _ _ _ _ _ _ (F)
 unfold volumegroupref18_fits at h
 refine sR <| oA rfl rfl <| nT <| sR <| oM rfl rfl <| oP (P_geq (a := chunk) (b := (1 : Int)) rfl rfl) rfl <| oM rfl rfl <| RJ_mbT rfl rfl rfl (fun hG1 => have hP2 : ((1 : Int) ≤ chunk) := (bT_dec).1 hG1; VJ_P (P_move rfl)) <| RJ_mbT rfl rfl rfl (fun hG3 => have hP4 : ((1 : Int) ≤ chunk) := (bT_dec).1 hG3; VJ_P (P_leq (a := chunk) (b := (65536 : Int)) (mbx hG3 rfl) rfl)) <| oP (P_pickAnd rfl (fun hh => mbx hh rfl) rfl) rfl <| oM rfl rfl <| RJ_mbT rfl rfl rfl (fun hG5 => have hP6 : (((1 : Int) ≤ chunk) ∧ (chunk ≤ (65536 : Int))) := ((bT_and bT_dec bT_dec)).1 hG5; VJ_P (P_move rfl)) <| RJ_mbT rfl rfl rfl (fun hG7 => have hP8 : (((1 : Int) ≤ chunk) ∧ (chunk ≤ (65536 : Int))) := ((bT_and bT_dec bT_dec)).1 hG7; VJ_P (P_geq (a := n_1) (b := (3 : Int)) (mbx hG7 rfl) rfl)) <| oP (P_pickAnd rfl (fun hh => mbx hh rfl) rfl) rfl <| oM rfl rfl <| RJ_mbT rfl rfl rfl (fun hG9 => have hP10 : ((((1 : Int) ≤ chunk) ∧ (chunk ≤ (65536 : Int))) ∧ ((3 : Int) ≤ n_1)) := ((bT_and (bT_and bT_dec bT_dec) bT_dec)).1 hG9; VJ_P (P_move rfl)) <| RJ_mbT rfl rfl rfl (fun hG11 => have hP12 : ((((1 : Int) ≤ chunk) ∧ (chunk ≤ (65536 : Int))) ∧ ((3 : Int) ≤ n_1)) := ((bT_and (bT_and bT_dec bT_dec) bT_dec)).1 hG11; VJ_P (P_leq (a := n_1) (b := (6 : Int)) (mbx hG11 rfl) rfl)) <| oP (P_pickAnd rfl (fun hh => mbx hh rfl) rfl) rfl <| oA rfl rfl <| nT <| CJ_ret ?_
 cases h
 exact fE (res1 Tryz.results61 rfl) () eR
def volumegroupref18_Place (chunk : Int) (n_1 : Int) (at_2 : Int) : Option (Int × Int × Int × Int) :=
  Option.bind (volumegroupref18_fits chunk n_1) fun r1 =>
  if (((¬ r1 = true) ∨ (at_2 < (0 : Int))) ∨ ((1073741824 : Int) < at_2)) then
    some (((0 : Int), (0 : Int), (0 : Int), (1 : Int)))
  else
    grd (decide (¬ chunk = 0)) <|
    grd (inI64 ((n_1 - (1 : Int)))) <|
    grd (decide (¬ (n_1 - (1 : Int)) = 0)) <|
    lt ((IntKind.i64.wrap (((IntKind.i64.wrap (at_2.tdiv chunk))).tdiv ((n_1 - (1 : Int)))))) fun w11 =>
    grd (inI64 ((n_1 - (1 : Int)))) <|
    grd (decide (¬ (n_1 - (1 : Int)) = 0)) <|
    grd (inI64 ((n_1 - (1 : Int)))) <|
    grd (decide (¬ n_1 = 0)) <|
    grd (inI64 (((n_1 - (1 : Int)) - (w11.tmod n_1)))) <|
    grd (inI64 ((((n_1 - (1 : Int)) - (w11.tmod n_1)) + (1 : Int)))) <|
    grd (inI64 (((((n_1 - (1 : Int)) - (w11.tmod n_1)) + (1 : Int)) + (((IntKind.i64.wrap (at_2.tdiv chunk))).tmod ((n_1 - (1 : Int))))))) <|
    lt (((((n_1 - (1 : Int)) - (w11.tmod n_1)) + (1 : Int)) + (((IntKind.i64.wrap (at_2.tdiv chunk))).tmod ((n_1 - (1 : Int)))))) fun w12 =>
    grd (decide (¬ n_1 = 0)) <|
    grd (inI64 (w11 * chunk)) <|
    grd (decide (¬ chunk = 0)) <|
    grd (inI64 (((w11 * chunk) + (at_2.tmod chunk)))) <|
    some (((w12.tmod n_1), ((w11 * chunk) + (at_2.tmod chunk)), ((n_1 - (1 : Int)) - (w11.tmod n_1)), (0 : Int)))
theorem L_volumegroupref18_Place {W : World} {chunk : Int} {n_1 : Int} {at_2 : Int} {r : Int × Int × Int × Int} (h : volumegroupref18_Place chunk n_1 at_2 = some r) :
    CSpec Tryz.prog W 22 [.int .i64 chunk, .int .i64 n_1, .int .i64 at_2] [] (fun x : Unit => .tuple #[.int .i64 r.1, .int .i64 r.2.1, .int .i64 r.2.2.1, .int .i64 r.2.2.2]) (fun _ => True) (fun x F => F) := by
 refine CSpec.of_body Tryz.func22 rfl Tryz.ntmps22 rfl fun F => ?_
 show CJ _ _ _ _ _ _ (F)
 unfold volumegroupref18_Place at h
 refine sR <| oA rfl rfl <| oA rfl rfl <| oA rfl rfl <| oA rfl rfl <| nT <| CJ_seq <| sR <| oM rfl rfl <| oM rfl rfl ?_
 obtain ⟨r1, hr2, h⟩ := bind_e h
 refine oO <| O_call (L_volumegroupref18_fits hr2) rfl Tryz.call61 Dels.nil rfl fun _ _ => oP (P_not rfl) rfl <| oM rfl rfl <| RJ_mbF rfl rfl rfl (fun hG3 => have hP4 : ¬ (¬ r1 = true) := nP ((bT_not Iff.rfl)) hG3; VJ_P (P_move rfl)) <| RJ_mbF rfl rfl rfl (fun hG5 => have hP6 : ¬ (¬ r1 = true) := nP ((bT_not Iff.rfl)) hG5; VJ_P (P_lss (a := at_2) (b := (0 : Int)) (mbx hG5 rfl) rfl)) <| oP (P_pickOr rfl rfl (fun hh => mbx (not_f hh) rfl)) rfl <| oM rfl rfl <| RJ_mbF rfl rfl rfl (fun hG7 => have hP8 : ¬ ((¬ r1 = true) ∨ (at_2 < (0 : Int))) := nP ((bT_or (bT_not Iff.rfl) bT_dec)) hG7; VJ_P (P_move rfl)) <| RJ_mbF rfl rfl rfl (fun hG9 => have hP10 : ¬ ((¬ r1 = true) ∨ (at_2 < (0 : Int))) := nP ((bT_or (bT_not Iff.rfl) bT_dec)) hG9; VJ_P (P_gtr (a := at_2) (b := (1073741824 : Int)) (mbx hG9 rfl) rfl)) <| oP (P_pickOr rfl rfl (fun hh => mbx (not_f hh) rfl)) rfl <| nT <| CJ_condP rfl (bT_or (bT_or (bT_not Iff.rfl) bT_dec) bT_dec) (fun hg1 => ?_) (fun hg1 => ?_)
 ·
  replace h := ite_t hg1 h
  refine sR <| oA rfl rfl <| oA rfl rfl <| oA rfl rfl <| oA rfl rfl <| nT <| CJ_ret <| QJ_then_ret ?_
  cases h
  exact fE (res4 Tryz.results22 rfl rfl rfl rfl) () eR
 ·
  replace h := ite_f hg1 h
  refine kT <| sR <| oM rfl rfl <| oM rfl rfl ?_
  obtain ⟨hg2, h⟩ := grd_de h
  refine oP (P_quoT (a := at_2) (b := chunk) rfl rfl hg2) rfl <| oA rfl rfl <| nT <| CJ_seq <| AJ_startH 0 (by kernel_rfl) rfl <| aN 0 1 rfl rfl (P_move rfl) rfl <| aN 1 3 rfl rfl (P_move rfl) rfl ?_
  obtain ⟨hg3, h⟩ := grd_Ie h
  refine aN 2 7 rfl rfl (P_sub (a := n_1) (b := (1 : Int)) rfl rfl hg3) rfl ?_
  obtain ⟨hg4, h⟩ := grd_de h
  refine aN 3 15 rfl rfl (P_quoT (a := (IntKind.i64.wrap (at_2.tdiv chunk))) (b := (n_1 - (1 : Int))) rfl rfl hg4) rfl ?_
  obtain ⟨w11, hw11, h⟩ := lt_e h
  rw [← hw11]
  refine aN 4 31 rfl rfl (P_move rfl) rfl <| aN 5 63 rfl rfl (P_move rfl) rfl ?_
  obtain ⟨hg5, h⟩ := grd_Ie h
  refine aN 6 127 rfl rfl (P_sub (a := n_1) (b := (1 : Int)) rfl rfl hg5) rfl ?_
  obtain ⟨hg6, h⟩ := grd_de h
  refine aN 7 255 rfl rfl (P_remT (a := (IntKind.i64.wrap (at_2.tdiv chunk))) (b := (n_1 - (1 : Int))) rfl rfl hg6) rfl <| aN 8 511 rfl rfl (P_assign rfl) rfl <| aN 9 1023 rfl rfl (P_assign rfl) rfl <| aD <| sR <| oM rfl rfl ?_
  obtain ⟨hg7, h⟩ := grd_Ie h
  refine oP (P_sub (a := n_1) (b := (1 : Int)) rfl rfl hg7) rfl <| oM rfl rfl <| oM rfl rfl ?_
  obtain ⟨hg8, h⟩ := grd_de h
  refine oP (P_remT (a := w11) (b := n_1) rfl rfl hg8) rfl ?_
  obtain ⟨hg9, h⟩ := grd_Ie h
  refine oP (P_sub (a := (n_1 - (1 : Int))) (b := (w11.tmod n_1)) rfl rfl hg9) rfl <| oA rfl rfl <| nT <| CJ_seq <| AJ_startH 0 (by kernel_rfl) rfl <| aN 0 1 rfl rfl (P_move rfl) rfl ?_
  obtain ⟨hg10, h⟩ := grd_Ie h
  refine aN 1 3 rfl rfl (P_add (a := ((n_1 - (1 : Int)) - (w11.tmod n_1))) (b := (1 : Int)) rfl rfl hg10) rfl <| aN 2 7 rfl rfl (P_move rfl) rfl ?_
  obtain ⟨hg11, h⟩ := grd_Ie h
  refine aN 3 15 rfl rfl (P_add (a := (((n_1 - (1 : Int)) - (w11.tmod n_1)) + (1 : Int))) (b := (((IntKind.i64.wrap (at_2.tdiv chunk))).tmod ((n_1 - (1 : Int))))) rfl rfl hg11) rfl ?_
  obtain ⟨w12, hw12, h⟩ := lt_e h
  rw [← hw12]
  refine aN 4 31 rfl rfl (P_move rfl) rfl ?_
  obtain ⟨hg12, h⟩ := grd_de h
  refine aN 5 63 rfl rfl (P_remT (a := w12) (b := n_1) rfl rfl hg12) rfl <| aN 6 127 rfl rfl (P_move rfl) rfl <| aN 7 255 rfl rfl (P_move rfl) rfl ?_
  obtain ⟨hg13, h⟩ := grd_Ie h
  refine aN 8 511 rfl rfl (P_mul (a := w11) (b := chunk) rfl rfl hg13) rfl <| aN 9 1023 rfl rfl (P_move rfl) rfl <| aN 10 2047 rfl rfl (P_move rfl) rfl ?_
  obtain ⟨hg14, h⟩ := grd_de h
  refine aN 11 4095 rfl rfl (P_remT (a := at_2) (b := chunk) rfl rfl hg14) rfl ?_
  obtain ⟨hg15, h⟩ := grd_Ie h
  refine aN 12 8191 rfl rfl (P_add (a := (w11 * chunk)) (b := (at_2.tmod chunk)) rfl rfl hg15) rfl <| aN 13 16383 rfl rfl (P_move rfl) rfl <| aN 14 32767 rfl rfl (P_assign rfl) rfl <| aN 15 65535 rfl rfl (P_assign rfl) rfl <| aN 16 131071 rfl rfl (P_assign rfl) rfl <| aN 17 262143 rfl rfl (P_assign rfl) rfl <| aD <| CJ_ret ?_
  cases h
  exact fE (res4 Tryz.results22 rfl rfl rfl rfl) () eR
def volumegrouplaw19_ParityvolBad_l1_b (leg : UInt8) (at_2 : UInt8) (l : List volumegroupmake_Step) (r6 : Int × Int × Int) (rec : OwnS → ArrS → Nat → Option ((OwnS × ArrS) ⊕ Bool)) (x25 : OwnS) (x26 : ArrS) (x27 : Nat) : Option ((OwnS × ArrS) ⊕ Bool) :=
  if (((x27 : Nat) : Int) < ((l.length : Nat) : Int)) then
    if (((l.getD x27 (⟨0, 0, 0, 0⟩ : volumegroupmake_Step))).Kind < (3 : Int)) then
      Option.bind (volumegroupmake_Owner_Step x25 ((l.getD x27 (⟨0, 0, 0, 0⟩ : volumegroupmake_Step))) x26) fun r28 =>
      if (¬ r28.1 = true) then
        some (.inr false)
      else
        grd (decide (¬ r6.1 = 0)) <|
        grd (inN64 (at_2.toNat + x27)) <|
        grd (inI64 (r6.2.1 * r6.2.2)) <|
        grd (decide (¬ (r6.2.1 * r6.2.2) = 0)) <|
        grd (inI64 (((16 : Int) + (((((at_2.toNat + x27) : Nat) : Int)).tmod (r6.2.1 * r6.2.2))))) <|
        lt ((sbC r28.2.2 (((((leg.toNat : Nat) : Int)).tmod r6.1)) (((16 : Int) + (((((at_2.toNat + x27) : Nat) : Int)).tmod (r6.2.1 * r6.2.2)))))) fun w34 =>
        if (w34 ≠ (0 : Int)) then
          some (.inr false)
        else
          rec r28.2.1 ((sbS r28.2.2 (((((leg.toNat : Nat) : Int)).tmod r6.1)) (((16 : Int) + (((((at_2.toNat + x27) : Nat) : Int)).tmod (r6.2.1 * r6.2.2)))) true)) (x27 + 1)
    else
      grd (decide (¬ r6.1 = 0)) <|
      grd (inN64 (at_2.toNat + x27)) <|
      grd (inI64 (r6.2.1 * r6.2.2)) <|
      grd (decide (¬ (r6.2.1 * r6.2.2) = 0)) <|
      grd (inI64 (((16 : Int) + (((((at_2.toNat + x27) : Nat) : Int)).tmod (r6.2.1 * r6.2.2))))) <|
      lt ((sbC x26 (((((leg.toNat : Nat) : Int)).tmod r6.1)) (((16 : Int) + (((((at_2.toNat + x27) : Nat) : Int)).tmod (r6.2.1 * r6.2.2)))))) fun w39 =>
      if (w39 ≠ (0 : Int)) then
        some (.inr false)
      else
        rec x25 ((sbS x26 (((((leg.toNat : Nat) : Int)).tmod r6.1)) (((16 : Int) + (((((at_2.toNat + x27) : Nat) : Int)).tmod (r6.2.1 * r6.2.2)))) true)) (x27 + 1)
  else
    some (.inl (x25, x26))
def volumegrouplaw19_ParityvolBad_l1 (leg : UInt8) (at_2 : UInt8) (l : List volumegroupmake_Step) (r6 : Int × Int × Int) : Nat → OwnS → ArrS → Nat → Option ((OwnS × ArrS) ⊕ Bool)
  | 0, _, _, _ => none
  | n + 1, x25, x26, x27 => volumegrouplaw19_ParityvolBad_l1_b leg at_2 l r6 (volumegrouplaw19_ParityvolBad_l1 leg at_2 l r6 n) x25 x26 x27
def volumegrouplaw19_ParityvolBad_l2_b (r6 : Int × Int × Int) (r45 : Bool × OwnS × ArrS) (rec : Nat → Option ((Unit) ⊕ Bool)) (x61 : Nat) : Option ((Unit) ⊕ Bool) :=
  if (((x61 : Nat) : Int) < ((r45.2.1.T.length : Nat) : Int)) then
    Option.bind (volumegroupref18_Place r6.2.2 r6.1 (((x61 : Nat) : Int))) fun r68 =>
    grd (inI64 (((16 : Int) + r68.2.1))) <|
    if ((rdC r45.2.2 r68.1 (((16 : Int) + r68.2.1))) ≠ (0 : Int)) then
      some (.inr false)
    else
      grd (inN64 (x61 + 1)) <|
      rec (x61 + 1)
  else
    some (.inl ())
def volumegrouplaw19_ParityvolBad_l2 (r6 : Int × Int × Int) (r45 : Bool × OwnS × ArrS) : Nat → Nat → Option ((Unit) ⊕ Bool)
  | 0, _ => none
  | n + 1, x61 => volumegrouplaw19_ParityvolBad_l2_b r6 r45 (volumegrouplaw19_ParityvolBad_l2 r6 r45 n) x61
def volumegrouplaw19_ParityvolBad (n_0 : UInt8) (leg : UInt8) (at_2 : UInt8) (l : List volumegroupmake_Step) : Option (Bool) :=
  Option.bind (volumegroupmake_Few l) fun r2 =>
  if (¬ r2 = true) then
    Option.bind (volumegrouplaw19_awake) fun r4 =>
    some r4
  else
    Option.bind (volumegrouplaw19_shape n_0) fun r6 =>
    Option.bind (volumegrouplaw19_begun r6.1 r6.2.1 r6.2.2) fun r8 =>
    Option.elim r8.1 (
      some false) fun o14 =>
    Option.elim r8.2 (
      none) fun o16 =>
    Option.bind (volumegroupmake_Owner_Begin o14 o16) fun r17 =>
    if (¬ r17.1 = true) then
      some false
    else
      seqO (volumegrouplaw19_ParityvolBad_l1 leg at_2 l r6 FUEL r17.2.1 r17.2.2 0) fun a24 =>
      Option.bind (volumegroupmake_Owner_All a24.1 false a24.2) fun r45 =>
      if (¬ r45.1 = true) then
        some false
      else
        Option.elim r45.2.1.X (
          none) fun o52 =>
        Option.bind (parityvol_Volume_Failed o52 r45.2.2) fun r53 =>
        if (((r53.length : Nat) : Int) ≠ (0 : Int)) then
          some false
        else
          seqO (volumegrouplaw19_ParityvolBad_l2 r6 r45 FUEL 0) fun a60 =>
          Option.bind (volumegrouplaw19_awake) fun r75 =>
          some r75
theorem L_volumegrouplaw19_ParityvolBad {W : World} {Al : HP} {vl : Value} {n_0 : UInt8} {leg : UInt8} {at_2 : UInt8} {l : List volumegroupmake_Step} {r : Bool} (rl : Reads Al tyvolumegroupmake_Step vl l) (h : volumegrouplaw19_ParityvolBad n_0 leg at_2 l = some r) :
    CSpec Tryz.prog W 6 [.int .u8 (n_0.toNat : Int), .int .u8 (leg.toNat : Int), .int .u8 (at_2.toNat : Int), vl] [Al] (fun x : Unit => .bool r) (fun _ => True) (fun x F => Al :: F) := by
 refine CSpec.of_body Tryz.func6 rfl Tryz.ntmps6 rfl fun F => ?_
 show CJ _ _ _ _ _ _ (_ :: F)
 unfold volumegrouplaw19_ParityvolBad at h
 refine CJ_pure (len_of rl del0) fun hlen1 => sR <| oA rfl rfl <| nT <| CJ_seq <| sR <| oM rfl rfl ?_
 obtain ⟨r2, hr3, h⟩ := bind_e h
 refine oO <| O_call (L_volumegroupmake_Few rl hr3) rfl Tryz.call10 (Dels.cons del0 Dels.nil) rfl fun _ _ => oP (P_not rfl) rfl <| nT <| CJ_condP rfl (bT_not Iff.rfl) (fun hg1 => ?_) (fun hg1 => ?_)
 ·
  replace h := ite_t hg1 h
  refine sR ?_
  obtain ⟨r4, hr5, h⟩ := bind_e h
  refine oO <| O_call (L_volumegrouplaw19_awake hr5) rfl Tryz.call11 Dels.nil rfl fun _ _ => oA rfl rfl <| nT <| CJ_ret <| QJ_then_ret ?_
  cases h
  exact fE (res1 Tryz.results6 rfl) () eR
 ·
  replace h := ite_f hg1 h
  refine kT <| sR <| oM rfl rfl ?_
  obtain ⟨r6, hr7, h⟩ := bind_e h
  refine oO <| O_call (L_volumegrouplaw19_shape hr7) rfl Tryz.call12 Dels.nil rfl fun _ _ => oM rfl rfl <| oP (P_extract rfl rfl) rfl <| oP (P_extract rfl rfl) rfl <| oP (P_extract rfl rfl) rfl <| oA rfl rfl <| oA rfl rfl <| oA rfl rfl <| nT <| sR <| oM rfl rfl <| oM rfl rfl <| oM rfl rfl ?_
  obtain ⟨r8, hr9, h⟩ := bind_e h
  refine oO <| O_call (L_volumegrouplaw19_begun hr9) rfl Tryz.call13 Dels.nil rfl fun X10 _ => oA rfl rfl <| nT <| CJ_seq <| sR <| oM rfl rfl ?_
  rcases opt_e h with ⟨ht13, h⟩ | ⟨o14, ht13, h⟩
  ·
   rw [ht13]
   refine RJ_ent (t1_ (t1_ (eD eR))) <| oP (P_eqlNN rfl rfl Tryz.underlying27) rfl <| oM rfl rfl <| RJ_gn (GY_no rfl rfl rfl rfl) rfl rfl <| RJ_gn (GY_no rfl rfl rfl rfl) rfl rfl <| RJ_gn (GY_no rfl rfl rfl rfl) rfl rfl <| oP (P_pickT rfl rfl rfl) rfl <| nT <| CJ_condT rfl rfl <| sR <| oA rfl rfl <| nT <| CJ_ret <| QJ_then_ret ?_
   cases h
   exact fE (res1 Tryz.results6 rfl) () (t1_ (eD eR))
  ·
   rw [ht13]
   refine RJ_ent (Ent.takeC (A' := OwnP X10.2 X10.1 o14) del0 rfl eR) <| oP (P_eqlPN rfl rfl Tryz.underlying27) rfl <| oM rfl rfl <| gP (GY_yes rfl rfl rfl rfl) (P_move rfl) rfl ?_
   rcases opt_e h with ⟨ht15, h⟩ | ⟨o16, ht15, h⟩
   ·
    rw [ht15]
    exact RJ_ent (t0_ (t1_ (eD eR))) <| none_e h
   ·
    rw [ht15]
    refine RJ_ent (Ent.takeC (A' := Arr X10.2 o16) del1 rfl eR) ?_
    obtain ⟨r17, hr18, h⟩ := bind_e h
    refine RJ_gy (GY_yes rfl rfl rfl rfl) <| O_call (L_volumegroupmake_Owner_Begin hr18) rfl Tryz.call18 (Dels.cons del1 (Dels.cons del0 Dels.nil)) rfl fun _ _ => gP (GY_yes rfl rfl rfl rfl) (P_not rfl) rfl <| oP (P_pickF rfl rfl rfl) rfl <| nT <| CJ_condP rfl (bT_not Iff.rfl) (fun hg2 => ?_) (fun hg2 => ?_)
    ·
     replace h := ite_t hg2 h
     refine sR <| oA rfl rfl <| nT <| CJ_ret <| QJ_then_ret ?_
     cases h
     exact fE (res1 Tryz.results6 rfl) () (t2_ (eD (eD eR)))
    ·
     replace h := ite_f hg2 h
     refine kT <| CJ_seq <| sR <| oA rfl rfl <| nT ?_
     obtain ⟨y21, hl19, hK20⟩ := seq_e h
     refine CJ_cutT (X := OwnS × ArrS) [8, 13, 14, 15, 44, 45, 46, 47, 48, 49, 50, 51, 52, 53, 54, 55, 56, 57, 58, 59, 60, 61, 62, 63, 64, 65, 66, 67, 68, 69, 70, 71, 72, 73, 74, 75, 76, 77, 78, 79, 80, 81, 82, 83, 84, 85] (fun a24 => ([] : Slots)) (fun a24 R => OwnP X10.2 X10.1 a24.1 :: Arr X10.2 a24.2 :: R) (fun a24 => y21 = .inl a24) (Dels.cons del0 (Dels.cons del0 Dels.nil)) ?_ ?_
     ·
      refine CJ_block <| CJ_loopR (X := Nat × OwnS × ArrS × Nat) [8, 13, 14, 15, 44, 45, 46, 47, 48, 49, 50, 51, 52, 53, 54, 55, 56, 57, 58, 59, 60, 61, 62, 63, 64, 65, 66, 67, 68, 69, 70, 71, 72, 73, 74, 75, 76, 77, 78, 79, 80, 81, 82, 83, 84, 85] (fun ⟨n, x25, x26, x27⟩ => ([(13, .int .i64 (((x27 : Nat) : Int)))] : Slots)) (fun ⟨n, x25, x26, x27⟩ R => OwnP X10.2 X10.1 x25 :: Arr X10.2 x26 :: R) (fun ⟨n, x25, x26, x27⟩ => volumegrouplaw19_ParityvolBad_l1 leg at_2 l r6 n x25 x26 x27 = some y21) (fun ⟨n, x25, x26, x27⟩ => n) ⟨FUEL, r17.2.1, r17.2.2, 0⟩ ?_ ?_ eR ?_
      · exact hl19
      · exact ⟨rfl, True.intro⟩
      ·
       rintro ⟨n, x25, x26, x27⟩ h
       cases n with
       | zero => exact none_e h
       | succ n => ?_
       replace h : volumegrouplaw19_ParityvolBad_l1_b leg at_2 l r6 (volumegrouplaw19_ParityvolBad_l1 leg at_2 l r6 n) x25 x26 x27 = some y21 := h
       unfold volumegrouplaw19_ParityvolBad_l1_b at h
       show CJ _ _ _ _ _ (([(13, .int .i64 (((x27 : Nat) : Int)))] : Slots) ++ forget _ _) (OwnP X10.2 X10.1 x25 :: Arr X10.2 x26 :: _)
       refine CJ_seq <| sR <| oM rfl rfl <| oM rfl rfl <| oV (V_len rfl foc2 rl Tryz.runUnderlying22) rfl <| oP (P_lss (a := ((x27 : Nat) : Int)) (b := ((l.length : Nat) : Int)) rfl rfl) rfl <| nT <| CJ_condP rfl bT_dec (fun hg3 => ?_) (fun hg3 => ?_)
       ·
        replace h := ite_t hg3 h
        refine kT <| CJ_seq <| CJ_block <| CJ_seq <| sR <| oM rfl rfl <| oM rfl rfl <| oV (V_index (i := x27) rfl rfl rfl (by omega) foc2 rl Tryz.runUnderlying22 Tryz.sizeOf49) rfl <| oP (P_fieldE rfl ⟨_, _, _, Tryz.runUnderlying49, rfl, rfl, Tryz.sizeOf3, rfl⟩) rfl <| oV (V_loadE rfl rfl (by omega) foc2 rl rfl rfl Tryz.isAgg3) rfl <| oP (P_lss (a := ((l.getD x27 (⟨0, 0, 0, 0⟩ : volumegroupmake_Step))).Kind) (b := (3 : Int)) rfl rfl) rfl <| oM rfl rfl <| RJ_splitP 56 rfl bT_dec (fun hg4B hg4 => ?_) (fun hg4B hg4 => ?_)
        ·
         replace h := ite_t hg4 h
         refine gP (GY_yes rfl rfl rfl hg4B) (P_move rfl) rfl <| gP (GY_yes rfl rfl rfl hg4B) (P_move rfl) rfl <| gP (GY_yes rfl rfl rfl hg4B) (P_move rfl) rfl <| gV (GY_yes rfl rfl rfl hg4B) (V_index (i := x27) rfl rfl rfl (by omega) foc2 rl Tryz.runUnderlying22 Tryz.sizeOf49) rfl <| gV (GY_yes rfl rfl rfl hg4B) (V_loadEN rfl rfl (by omega) foc2 rl rfl rfl Tryz.isAgg49 Tryz.sizeOf49) rfl ?_
         obtain ⟨r28, hr29, h⟩ := bind_e h
         refine RJ_gy (GY_yes rfl rfl rfl hg4B) <| O_call (L_volumegroupmake_Owner_Step hr29) rfl Tryz.call19 (Dels.cons del0 (Dels.cons del0 Dels.nil)) rfl fun _ _ => gP (GY_yes rfl rfl rfl hg4B) (P_not rfl) rfl <| oP (P_pickT rfl hg4B rfl) rfl <| nT <| CJ_condP rfl (bT_not Iff.rfl) (fun hg5 => ?_) (fun hg5 => ?_)
         ·
          replace h := ite_t hg5 h
          refine sR <| oA rfl rfl <| nT <| CJ_ret <| QJ_then_ret <| QJ_block_ret <| QJ_then_ret <| QJ_round_ret <| QJ_block_ret <| QJ_then_ret ?_
          have hE := Option.some.inj h
          replace hE := seq_inr hK20 hE.symm
          subst hE
          exact fE (res1 Tryz.results6 rfl) () (t2_ (eD (eD eR)))
         ·
          replace h := ite_f hg5 h
          refine kT <| CJ_seq <| AJ_startH 0 (by kernel_rfl) rfl <| aN 0 1 rfl rfl (P_move rfl) rfl <| aN 1 3 rfl rfl (P_convSame rfl Tryz.runUnderlying5 Tryz.runUnderlying3 (wrap64_u _ (by have h9 := leg.toNat_lt; exact (by omega : leg.toNat < 9223372036854775808)))) rfl <| aN 2 7 rfl rfl (P_move rfl) rfl ?_
          obtain ⟨hg6, h⟩ := grd_de h
          refine aN 3 15 rfl rfl (P_remT (a := ((leg.toNat : Nat) : Int)) (b := r6.1) rfl rfl hg6) rfl <| aN 4 31 rfl rfl (P_move rfl) rfl <| aN 5 63 rfl rfl (P_convSame rfl Tryz.runUnderlying5 Tryz.runUnderlying3 (wrap64_u _ (by have h9 := at_2.toNat_lt; exact (by omega : at_2.toNat < 9223372036854775808)))) rfl <| aN 6 127 rfl rfl (P_move rfl) rfl ?_
          obtain ⟨hg7, h⟩ := grd_Ne h
          refine aN 7 255 rfl rfl (PJ_eq (P_add (a := ((at_2.toNat : Nat) : Int)) (b := ((x27 : Nat) : Int)) rfl rfl (nat_in hg7)) rfl) rfl <| aN 8 511 rfl rfl (P_move rfl) rfl <| aN 9 1023 rfl rfl (P_move rfl) rfl ?_
          obtain ⟨hg8, h⟩ := grd_Ie h
          refine aN 10 2047 rfl rfl (P_mul (a := r6.2.1) (b := r6.2.2) rfl rfl hg8) rfl ?_
          obtain ⟨hg9, h⟩ := grd_de h
          refine aN 11 4095 rfl rfl (P_remT (a := (((at_2.toNat + x27) : Nat) : Int)) (b := (r6.2.1 * r6.2.2)) rfl rfl hg9) rfl ?_
          obtain ⟨hg10, h⟩ := grd_Ie h
          refine aN 12 8191 rfl rfl (P_add (a := (16 : Int)) (b := (((((at_2.toNat + x27) : Nat) : Int)).tmod (r6.2.1 * r6.2.2))) rfl rfl hg10) rfl <| aN 13 16383 rfl rfl (P_assign rfl) rfl <| aN 14 32767 rfl rfl (P_assign rfl) rfl <| aD <| CJ_seq <| CJ_entX (Ent.transX (t0_ eR) (OwnP_open (l := r28.2.1))) fun oc30 => lC del5 fun hlen32 => lC del6 fun hlen33 => CJ_region <| oM rfl rfl <| oP (P_nilCheck rfl) rfl <| oP (P_fieldAddr rfl ⟨_, _, _, Tryz.runUnderlying37, rfl, rfl, Tryz.sizeOf30, rfl⟩) rfl <| oV (V_load rfl foc0 rfl Tryz.isAgg30) rfl <| oM rfl rfl <| oM rfl rfl <| oO <| O_call (c_SetBad) rfl Tryz.call20 (Dels.cons del7 Dels.nil) rfl fun _ _ => ?_
          obtain ⟨w34, hw34, h⟩ := lt_e h
          rw [← hw34]
          refine oP (P_neq (a := w34) (b := (0 : Int)) rfl rfl) rfl <| RJ_nil <| QJ_ent (Ent.trans (t1_ (t1_ (t1_ (t1_ (t1_ (t1_ (t1_ eR))))))) (OwnP_mk (v0 := r28.2.1.Open_1) (v1 := r28.2.1.X) (v2 := r28.2.1.T) (v3 := r28.2.1.Stale) (v4 := r28.2.1.Lost) (h0 := oc30.1) (h1 := oc30.2.1) (h2 := oc30.2.2.1) (h3 := oc30.2.2.2.1) (h4 := oc30.2.2.2.2.1) (h5 := oc30.2.2.2.2.2))) <| QJ_then <| CJ_condP rfl bT_dec (fun hg11 => ?_) (fun hg11 => ?_)
          ·
           replace h := ite_t hg11 h
           refine sR <| oA rfl rfl <| nT <| CJ_ret <| QJ_block_ret <| QJ_then_ret <| QJ_round_ret <| QJ_block_ret <| QJ_then_ret ?_
           have hE := Option.some.inj h
           replace hE := seq_inr hK20 hE.symm
           subst hE
           exact fE (res1 Tryz.results6 rfl) () (t2_ (eD (eD eR)))
          ·
           replace h := ite_f hg11 h
           exact CJ_skip <| QJ_block_normal <| QJ_then <| CJ_region <| oM rfl rfl <| oP (PJ_eq (P_add (a := ((x27 : Nat) : Int)) (b := (1 : Int)) rfl rfl (by omega)) rfl) rfl <| oA rfl rfl <| RJ_nil <| nR ⟨n, r28.2.1, (sbS r28.2.2 (((((leg.toNat : Nat) : Int)).tmod r6.1)) (((16 : Int) + (((((at_2.toNat + x27) : Nat) : Int)).tmod (r6.2.1 * r6.2.2)))) true), (x27 + 1)⟩ h ⟨rfl, True.intro⟩ eR
        ·
         replace h := ite_f hg4 h
         refine RJ_gn (GY_no rfl rfl rfl hg4B) rfl rfl <| RJ_gn (GY_no rfl rfl rfl hg4B) rfl rfl <| RJ_gn (GY_no rfl rfl rfl hg4B) rfl rfl <| RJ_gn (GY_no rfl rfl rfl hg4B) rfl rfl <| RJ_gn (GY_no rfl rfl rfl hg4B) rfl rfl <| RJ_gn (GY_no rfl rfl rfl hg4B) rfl rfl <| RJ_gn (GY_no rfl rfl rfl hg4B) rfl rfl <| oP (P_pickF rfl hg4B rfl) rfl <| nT <| CJ_condF rfl rfl <| kT <| CJ_seq <| AJ_startH 0 (by kernel_rfl) rfl <| aN 0 1 rfl rfl (P_move rfl) rfl <| aN 1 3 rfl rfl (P_convSame rfl Tryz.runUnderlying5 Tryz.runUnderlying3 (wrap64_u _ (by have h9 := leg.toNat_lt; exact (by omega : leg.toNat < 9223372036854775808)))) rfl <| aN 2 7 rfl rfl (P_move rfl) rfl ?_
         obtain ⟨hg12, h⟩ := grd_de h
         refine aN 3 15 rfl rfl (P_remT (a := ((leg.toNat : Nat) : Int)) (b := r6.1) rfl rfl hg12) rfl <| aN 4 31 rfl rfl (P_move rfl) rfl <| aN 5 63 rfl rfl (P_convSame rfl Tryz.runUnderlying5 Tryz.runUnderlying3 (wrap64_u _ (by have h9 := at_2.toNat_lt; exact (by omega : at_2.toNat < 9223372036854775808)))) rfl <| aN 6 127 rfl rfl (P_move rfl) rfl ?_
         obtain ⟨hg13, h⟩ := grd_Ne h
         refine aN 7 255 rfl rfl (PJ_eq (P_add (a := ((at_2.toNat : Nat) : Int)) (b := ((x27 : Nat) : Int)) rfl rfl (nat_in hg13)) rfl) rfl <| aN 8 511 rfl rfl (P_move rfl) rfl <| aN 9 1023 rfl rfl (P_move rfl) rfl ?_
         obtain ⟨hg14, h⟩ := grd_Ie h
         refine aN 10 2047 rfl rfl (P_mul (a := r6.2.1) (b := r6.2.2) rfl rfl hg14) rfl ?_
         obtain ⟨hg15, h⟩ := grd_de h
         refine aN 11 4095 rfl rfl (P_remT (a := (((at_2.toNat + x27) : Nat) : Int)) (b := (r6.2.1 * r6.2.2)) rfl rfl hg15) rfl ?_
         obtain ⟨hg16, h⟩ := grd_Ie h
         refine aN 12 8191 rfl rfl (P_add (a := (16 : Int)) (b := (((((at_2.toNat + x27) : Nat) : Int)).tmod (r6.2.1 * r6.2.2))) rfl rfl hg16) rfl <| aN 13 16383 rfl rfl (P_assign rfl) rfl <| aN 14 32767 rfl rfl (P_assign rfl) rfl <| aD <| CJ_seq <| CJ_entX (Ent.transX (t0_ eR) (OwnP_open (l := x25))) fun oc35 => lC del5 fun hlen37 => lC del6 fun hlen38 => CJ_region <| oM rfl rfl <| oP (P_nilCheck rfl) rfl <| oP (P_fieldAddr rfl ⟨_, _, _, Tryz.runUnderlying37, rfl, rfl, Tryz.sizeOf30, rfl⟩) rfl <| oV (V_load rfl foc0 rfl Tryz.isAgg30) rfl <| oM rfl rfl <| oM rfl rfl <| oO <| O_call (c_SetBad) rfl Tryz.call20 (Dels.cons del7 Dels.nil) rfl fun _ _ => ?_
         obtain ⟨w39, hw39, h⟩ := lt_e h
         rw [← hw39]
         refine oP (P_neq (a := w39) (b := (0 : Int)) rfl rfl) rfl <| RJ_nil <| QJ_ent (Ent.trans (t1_ (t1_ (t1_ (t1_ (t1_ (t1_ (t1_ eR))))))) (OwnP_mk (v0 := x25.Open_1) (v1 := x25.X) (v2 := x25.T) (v3 := x25.Stale) (v4 := x25.Lost) (h0 := oc35.1) (h1 := oc35.2.1) (h2 := oc35.2.2.1) (h3 := oc35.2.2.2.1) (h4 := oc35.2.2.2.2.1) (h5 := oc35.2.2.2.2.2))) <| QJ_then <| CJ_condP rfl bT_dec (fun hg17 => ?_) (fun hg17 => ?_)
         ·
          replace h := ite_t hg17 h
          refine sR <| oA rfl rfl <| nT <| CJ_ret <| QJ_block_ret <| QJ_then_ret <| QJ_round_ret <| QJ_block_ret <| QJ_then_ret ?_
          have hE := Option.some.inj h
          replace hE := seq_inr hK20 hE.symm
          subst hE
          exact fE (res1 Tryz.results6 rfl) () (t2_ (eD (eD eR)))
         ·
          replace h := ite_f hg17 h
          exact CJ_skip <| QJ_block_normal <| QJ_then <| CJ_region <| oM rfl rfl <| oP (PJ_eq (P_add (a := ((x27 : Nat) : Int)) (b := (1 : Int)) rfl rfl (by omega)) rfl) rfl <| oA rfl rfl <| RJ_nil <| nR ⟨n, x25, (sbS x26 (((((leg.toNat : Nat) : Int)).tmod r6.1)) (((16 : Int) + (((((at_2.toNat + x27) : Nat) : Int)).tmod (r6.2.1 * r6.2.2)))) true), (x27 + 1)⟩ h ⟨rfl, True.intro⟩ eR
       ·
        replace h := ite_f hg3 h
        exact CJ_exit <| QJ_then_exit <| QJ_round_exit <| QJ_block_here <| cR (x25, x26) (Option.some.inj h).symm True.intro eR
     ·
      rintro a24 hy40
      replace h := seq_inl hK20 hy40
      show CJ _ _ _ _ _ (([] : Slots) ++ forget _ _) (OwnP X10.2 X10.1 a24.1 :: Arr X10.2 a24.2 :: _)
      refine CJ_seq <| CJ_seq <| CJ_entX (Ent.transX (t0_ eR) (OwnP_open (l := a24.1))) fun oc41 => lC del5 fun hlen43 => lC del6 fun hlen44 => CJ_region <| oM rfl rfl <| RJ_ent (Ent.trans eR (OwnP_mk (v0 := a24.1.Open_1) (v1 := a24.1.X) (v2 := a24.1.T) (v3 := a24.1.Stale) (v4 := a24.1.Lost) (h0 := oc41.1) (h1 := oc41.2.1) (h2 := oc41.2.2.1) (h3 := oc41.2.2.2.1) (h4 := oc41.2.2.2.2.1) (h5 := oc41.2.2.2.2.2))) ?_
      obtain ⟨r45, hr46, h⟩ := bind_e h
      refine oO <| O_call (L_volumegroupmake_Owner_All hr46) rfl Tryz.call21 (Dels.cons del0 (Dels.cons del0 Dels.nil)) rfl fun _ _ => oP (P_not rfl) rfl <| oM rfl rfl <| RJ_splitP 89 rfl (bT_not Iff.rfl) (fun hg18B hg18 => ?_) (fun hg18B hg18 => ?_)
      ·
       replace h := ite_t hg18 h
       refine RJ_gn (GY_no rfl rfl rfl hg18B) rfl rfl <| RJ_gn (GY_no rfl rfl rfl hg18B) rfl rfl <| RJ_gn (GY_no rfl rfl rfl hg18B) rfl rfl <| RJ_gn (GY_no rfl rfl rfl hg18B) rfl rfl <| RJ_gn (GY_no rfl rfl rfl hg18B) rfl rfl <| RJ_gn (GY_no rfl rfl rfl hg18B) rfl rfl <| RJ_gn (GY_no rfl rfl rfl hg18B) rfl rfl <| oP (P_pickT rfl hg18B rfl) rfl <| nT <| CJ_condT rfl rfl <| sR <| oA rfl rfl <| nT <| CJ_ret <| QJ_then_ret ?_
       cases h
       exact fE (res1 Tryz.results6 rfl) () (t2_ (eD (eD eR)))
      ·
       replace h := ite_f hg18 h
       refine gP (GY_yes rfl rfl rfl hg18B) (P_move rfl) rfl <| gP (GY_yes rfl rfl rfl hg18B) (P_nilCheck rfl) rfl <| gP (GY_yes rfl rfl rfl hg18B) (P_fieldAddr rfl ⟨_, _, _, Tryz.runUnderlying37, rfl, rfl, Tryz.sizeOf33, rfl⟩) rfl <| RJ_entX (Ent.transX (t0_ eR) (OwnP_open (l := r45.2.1))) fun oc47 => RJ_pure (len_of (Reads.sl _ _ _) del5) fun hlen49 => RJ_pure (len_of (Reads.sl _ _ _) del6) fun hlen50 => gV (GY_yes rfl rfl rfl hg18B) (V_load rfl foc0 rfl Tryz.isAgg33) rfl ?_
       rcases opt_e h with ⟨ht51, h⟩ | ⟨o52, ht51, h⟩
       ·
        rw [ht51]
        exact RJ_ent (t0_ (t0_ (t0_ (t1_ (t1_ (t1_ (t1_ (t1_ (eD eR))))))))) <| none_e h
       ·
        rw [ht51]
        refine RJ_ent (Ent.takeC (A' := VolP X10.2 oc47.2.2.1 o52) del3 rfl eR) ?_
        obtain ⟨r53, hr54, h⟩ := bind_e h
        refine RJ_gy (GY_yes rfl rfl rfl hg18B) <| O_callI rfl (ICall.of (fun w => by kernel_rfl) Tryz.call34 (L_parityvol_Volume_Failed hr54)) rfl (Dels.cons del0 (Dels.cons del6 Dels.nil)) rfl fun X55 _ => gV (GY_yes rfl rfl rfl hg18B) (V_len rfl foc2 (Reads.sl _ _ _) Tryz.runUnderlying35) rfl <| gP (GY_yes rfl rfl rfl hg18B) (P_neq (a := ((r53.length : Nat) : Int)) (b := (0 : Int)) rfl rfl) rfl <| oP (P_pickF rfl hg18B rfl) rfl <| RJ_nil <| QJ_ent (Ent.trans (t3_ (t3_ (t3_ (t0_ (t2_ (t2_ (t2_ eR))))))) (OwnP_mk (v0 := r45.2.1.Open_1) (v1 := (some o52)) (v2 := r45.2.1.T) (v3 := r45.2.1.Stale) (v4 := r45.2.1.Lost) (h0 := oc47.1) (h1 := oc47.2.1) (h2 := oc47.2.2.1) (h3 := oc47.2.2.2.1) (h4 := oc47.2.2.2.2.1) (h5 := oc47.2.2.2.2.2))) <| QJ_then <| CJ_condP rfl bT_dec (fun hg19 => ?_) (fun hg19 => ?_)
        ·
         replace h := ite_t hg19 h
         refine sR <| oA rfl rfl <| nT <| CJ_ret <| QJ_then_ret ?_
         cases h
         exact fE (res1 Tryz.results6 rfl) () (t3_ (eD (eD (eD eR))))
        ·
         replace h := ite_f hg19 h
         refine kT <| CJ_seq <| sR <| oA rfl rfl <| nT ?_
         obtain ⟨y59, hl57, hK58⟩ := seq_e h
         refine CJ_cutT (X := Unit) [8, 16, 17, 18, 19, 20, 21, 22, 98, 99, 100, 101, 102, 103, 104, 105, 106, 107, 108, 109, 110, 111, 112, 113, 114, 115, 116, 117, 118, 119, 120, 121, 122, 123, 124, 125, 126, 127, 128, 129, 130, 131] (fun _ => ([] : Slots)) (fun _ R => R) (fun _ => y59 = .inl ()) Dels.nil ?_ ?_
         ·
          refine CJ_block <| CJ_loopR (X := Nat × Nat) [8, 16, 17, 18, 19, 20, 21, 22, 98, 99, 100, 101, 102, 103, 104, 105, 106, 107, 108, 109, 110, 111, 112, 113, 114, 115, 116, 117, 118, 119, 120, 121, 122, 123, 124, 125, 126, 127, 128, 129, 130, 131] (fun ⟨n, x61⟩ => ([(16, .int .i64 (((x61 : Nat) : Int)))] : Slots)) (fun ⟨n, x61⟩ R => R) (fun ⟨n, x61⟩ => volumegrouplaw19_ParityvolBad_l2 r6 r45 n x61 = some y59) (fun ⟨n, x61⟩ => n) ⟨FUEL, 0⟩ ?_ ?_ eR ?_
          · exact hl57
          · exact ⟨rfl, True.intro⟩
          ·
           rintro ⟨n, x61⟩ h
           cases n with
           | zero => exact none_e h
           | succ n => ?_
           replace h : volumegrouplaw19_ParityvolBad_l2_b r6 r45 (volumegrouplaw19_ParityvolBad_l2 r6 r45 n) x61 = some y59 := h
           unfold volumegrouplaw19_ParityvolBad_l2_b at h
           show CJ _ _ _ _ _ (([(16, .int .i64 (((x61 : Nat) : Int)))] : Slots) ++ forget _ _) (_)
           refine CJ_seq <| CJ_seq <| CJ_entX (Ent.transX (t0_ eR) (OwnP_open (l := { r45.2.1 with X := (some o52) }))) fun oc62 => lC del5 fun hlen64 => lC del6 fun hlen65 => CJ_entX (Ent.transX (t4_ eR) Trk_open) fun tc66 => CJ_pur fun hS67 => CJ_region <| oM rfl rfl <| oM rfl rfl <| oP (P_nilCheck rfl) rfl <| oP (P_fieldAddr rfl ⟨_, _, _, Tryz.runUnderlying37, rfl, rfl, Tryz.sizeOf34, rfl⟩) rfl <| oV (V_load rfl foc3 rfl Tryz.isAgg34) rfl <| oP (P_nilCheck rfl) rfl <| oP (P_fieldAddr rfl ⟨_, _, _, Tryz.runUnderlying56, rfl, rfl, Tryz.sizeOf54, rfl⟩) rfl <| oV (V_load rfl foc0 rfl Tryz.isAgg54) rfl <| oV (VJ_eq (V_len rfl foc1 (Reads.sl _ _ _) Tryz.runUnderlying54) (congrArg (fun z : Nat => Value.int .i64 (z : Int)) hS67.len.symm)) rfl <| oP (P_lss (a := ((x61 : Nat) : Int)) (b := ((r45.2.1.T.length : Nat) : Int)) rfl rfl) rfl <| RJ_nil <| QJ_ent (Ent.trans (t0_ (t0_ (t0_ eR))) (Trk_close hS67)) <| QJ_ent (Ent.trans (t1_ (t1_ (t1_ (t1_ eR)))) (OwnP_mk (v0 := r45.2.1.Open_1) (v1 := (some o52)) (v2 := r45.2.1.T) (v3 := r45.2.1.Stale) (v4 := r45.2.1.Lost) (h0 := oc62.1) (h1 := oc62.2.1) (h2 := oc62.2.2.1) (h3 := oc62.2.2.2.1) (h4 := oc62.2.2.2.2.1) (h5 := oc62.2.2.2.2.2))) <| QJ_then <| CJ_condP rfl bT_dec (fun hg20 => ?_) (fun hg20 => ?_)
           ·
            replace h := ite_t hg20 h
            refine kT <| CJ_seq <| CJ_block <| sR <| oM rfl rfl <| oM rfl rfl <| oM rfl rfl ?_
            obtain ⟨r68, hr69, h⟩ := bind_e h
            refine oO <| O_call (L_volumegroupref18_Place hr69) rfl Tryz.call22 Dels.nil rfl fun _ _ => oM rfl rfl <| oP (P_extract rfl rfl) rfl <| oP (P_extract rfl rfl) rfl <| oP (P_extract rfl rfl) rfl <| oP (P_extract rfl rfl) rfl <| oA rfl rfl <| oA rfl rfl <| oA rfl rfl <| oA rfl rfl <| nT <| CJ_seq <| CJ_entX (Ent.transX (t0_ eR) (OwnP_open (l := { r45.2.1 with X := (some o52) }))) fun oc70 => lC del5 fun hlen72 => lC del6 fun hlen73 => CJ_region <| oM rfl rfl <| oP (P_nilCheck rfl) rfl <| oP (P_fieldAddr rfl ⟨_, _, _, Tryz.runUnderlying37, rfl, rfl, Tryz.sizeOf30, rfl⟩) rfl <| oV (V_load rfl foc0 rfl Tryz.isAgg30) rfl <| oM rfl rfl <| oM rfl rfl ?_
            obtain ⟨hg21, h⟩ := grd_Ie h
            refine oP (P_add (a := (16 : Int)) (b := r68.2.1) rfl rfl hg21) rfl <| oO <| O_call (c_Read) rfl Tryz.call16 (Dels.cons del7 Dels.nil) rfl fun _ _ => oM rfl rfl <| oP (P_extract rfl rfl) rfl <| oP (P_extract rfl rfl) rfl <| oA rfl rfl <| oA rfl rfl <| RJ_nil <| QJ_ent (Ent.trans (t1_ (t1_ (t1_ (t1_ (t1_ (t1_ (t1_ eR))))))) (OwnP_mk (v0 := r45.2.1.Open_1) (v1 := (some o52)) (v2 := r45.2.1.T) (v3 := r45.2.1.Stale) (v4 := r45.2.1.Lost) (h0 := oc70.1) (h1 := oc70.2.1) (h2 := oc70.2.2.1) (h3 := oc70.2.2.2.1) (h4 := oc70.2.2.2.2.1) (h5 := oc70.2.2.2.2.2))) <| QJ_then <| sR <| oM rfl rfl <| oP (P_neq (a := (rdC r45.2.2 r68.1 (((16 : Int) + r68.2.1)))) (b := (0 : Int)) rfl rfl) rfl <| nT <| CJ_condP rfl bT_dec (fun hg22 => ?_) (fun hg22 => ?_)
            ·
             replace h := ite_t hg22 h
             refine sR <| oA rfl rfl <| nT <| CJ_ret <| QJ_block_ret <| QJ_then_ret <| QJ_round_ret <| QJ_block_ret <| QJ_then_ret ?_
             have hE := Option.some.inj h
             replace hE := seq_inr hK58 hE.symm
             subst hE
             exact fE (res1 Tryz.results6 rfl) () (t3_ (eD (eD (eD eR))))
            ·
             replace h := ite_f hg22 h
             refine CJ_skip <| QJ_block_normal <| QJ_then <| CJ_region <| oM rfl rfl ?_
             obtain ⟨hg23, h⟩ := grd_Ne h
             exact oP (PJ_eq (P_add (a := ((x61 : Nat) : Int)) (b := (1 : Int)) rfl rfl (nat_in hg23)) rfl) rfl <| oA rfl rfl <| RJ_nil <| nR ⟨n, (x61 + 1)⟩ h ⟨rfl, True.intro⟩ eR
           ·
            replace h := ite_f hg20 h
            exact CJ_exit <| QJ_then_exit <| QJ_round_exit <| QJ_block_here <| cR () (Option.some.inj h).symm True.intro eR
         ·
          rintro _ hy74
          replace h := seq_inl hK58 hy74
          show CJ _ _ _ _ _ (([] : Slots) ++ forget _ _) (_)
          refine sR ?_
          obtain ⟨r75, hr76, h⟩ := bind_e h
          refine oO <| O_call (L_volumegrouplaw19_awake hr76) rfl Tryz.call11 Dels.nil rfl fun _ _ => oA rfl rfl <| nT <| CJ_ret ?_
          cases h
          exact fE (res1 Tryz.results6 rfl) () (t3_ (eD (eD (eD eR))))
end Go.Proofs
namespace Go.Proofs
open Go.VG
theorem shape_eq (n : UInt8) : volumegrouplaw19_shape n = some (((CP n).L : Int), ((CP n).R : Int), ((CP n).c : Int)) := by
  have h1 := (CP n).hL
  have h2 := (CP n).hR
  have h3 := (CP n).hc
  have e1 : 3 + (n % 2).toNat = (CP n).L := rfl
  have e2 : 1 + ((n / 2) % 3).toNat = (CP n).R := rfl
  have e3 : 1 + ((n / 8) % 2).toNat = (CP n).c := rfl
  unfold volumegrouplaw19_shape
  rw [e1, e2, e3, grd_t (inN64_of (by omega)), grd_t (inN64_of (by omega)), grd_t (inN64_of (by omega))]
section
variable {C : PC} {V V' : Nat → Nat → UInt64} {q q' : UInt64} {e e' : PE} {kb k n i j d f a x : Nat} {K K' : Nat} {s t u : ArrS} {v w : UInt64} {p : Bool} {o : OwnS}
theorem place18 (ha : a < C.D) : volumegroupref18_Place (C.c : Int) (C.L : Int) (a : Int) = some ((C.leg a : Int), (C.off a : Int), (C.par (C.off a) : Int), 0) := by
  obtain ⟨p1, p2, p3, p4⟩ := PC.plc ha
  have hD := @PC.hD C
  have hO := @PC.hO C
  have hL := C.hL
  have hc := C.hc
  have e1 : (C.L : Int) - 1 = ((C.L - 1 : Nat) : Int) := by omega
  have d1 : a / C.c ≤ a := Nat.div_le_self _ _
  have d2 : a / C.c / (C.L - 1) ≤ a / C.c := Nat.div_le_self _ _
  have d3 : a / C.c / (C.L - 1) % C.L < C.L := Nat.mod_lt _ (by omega)
  have d4 : a / C.c % (C.L - 1) < C.L - 1 := Nat.mod_lt _ (by omega)
  have d5 : a % C.c < C.c := Nat.mod_lt _ (by omega)
  have d6 : a / C.c / (C.L - 1) * C.c ≤ C.off a := Nat.le_add_right _ _
  have e2 : ((C.L - 1 : Nat) : Int) - ((a / C.c / (C.L - 1) % C.L : Nat) : Int) = (C.par (C.off a) : Int) := by rw [p4]; omega
  have p5 : C.par (C.off a) < C.L := PC.parL p2
  have e3 : (C.par (C.off a) : Int) + 1 + ((a / C.c % (C.L - 1) : Nat) : Int) = ((C.par (C.off a) + 1 + a / C.c % (C.L - 1) : Nat) : Int) := by push_cast; rfl
  have e4 : ((a / C.c / (C.L - 1) : Nat) : Int) * (C.c : Int) = ((a / C.c / (C.L - 1) * C.c : Nat) : Int) := by push_cast; rfl
  have e5 : ((a / C.c / (C.L - 1) * C.c : Nat) : Int) + ((a % C.c : Nat) : Int) = (C.off a : Int) := by unfold PC.off offF; push_cast; rfl
  have e6 : (C.par (C.off a) + 1 + a / C.c % (C.L - 1)) % C.L = C.leg a := by unfold PC.leg legF; rw [p4]
  unfold volumegroupref18_Place volumegroupref18_fits lt
  simp only [Option.bind_some]
  rw [if_neg (by simp; omega), e1, tdivN, wrapN (by omega), tdivN, wrapN (by omega)]
  simp only [tmodN, e2]
  rw [e3, tmodN, e6, e4, e5, grd_t (decide_eq_true (by omega)), grd_t (inI64_of (by omega)), grd_t (decide_eq_true (by omega)), grd_t (inI64_of (by omega)), grd_t (decide_eq_true (by omega)), grd_t (inI64_of (by omega)), grd_t (decide_eq_true (by omega)), grd_t (inI64_of (by omega)), grd_t (inI64_of (by omega)), grd_t (inI64_of (by omega)), grd_t (decide_eq_true (by omega)), grd_t (inI64_of (by omega)), grd_t (decide_eq_true (by omega)), grd_t (inI64_of (by omega))]
structure BUv (C : PC) (kb : Nat) (K : Nat) (V : Nat → Nat → UInt64) (q : UInt64) (e : PE) (o : OwnS) (s : ArrS) : Prop where
  x : o.X = some (vol C none none q e false 0)
  en : PEb C kb K s
  jv : JV C V q e
  qk : q.toNat ≤ K
  qs : Qs C none V q e s
  ti : TI C o.T V
  tl : TL C K o.T
theorem BUv.mono (h : BUv C kb K V q e o s) (hK : K ≤ K') : BUv C kb K' V q e o s := ⟨h.x, h.en.mono hK, h.jv, by have := h.qk; omega, h.qs, h.ti, h.tl.mono hK⟩
theorem bwrite (h : BUv C kb K V q e o s) (hK : K ≤ 50000) (ha : a < C.D) :
    ∃ V' q' e' o' t, volumegroupmake_Owner_Write o (a : Int) w s = some (0, true, o', t) ∧ BUv C kb (K + 50) V' q' e' o' t := by
  obtain ⟨N, hN⟩ := fuelS2
  unfold volumegroupmake_Owner_Write
  rw [h.x, hN]; simp only [Option.elim_some]
  have stop : ∀ M o t er n, er ≠ 18 → volumegroupmake_Owner_Write_l1 (a : Int) w (M + 1) o t er n = some (.inl (er, o, t)) := fun M o t er n hne => by
    show volumegroupmake_Owner_Write_l1_b (a : Int) w (volumegroupmake_Owner_Write_l1 (a : Int) w M) o t er n = _
    unfold volumegroupmake_Owner_Write_l1_b
    rw [if_neg (fun y => hne y.2)]
  have hsm := h.tl.small (by omega)
  have hq1 := seq_add h.jv.sm
  obtain ⟨t, h1, h2, h3⟩ := pwriteB (k := 0) (w := w) h.en (by omega) h.jv h.qs ha
  rw [h1]; simp only [Option.bind_some]
  rw [stop _ _ _ _ _ (by decide), seqO_inl, grd_t (decide_eq_true hsm)]
  exact ⟨_, _, _, _, t, rfl, ⟨rfl, h2.mono (by omega), (wr_nx (w := w) ha h.jv).jv (by have := h.qk; omega), by have := h.qk; omega, h3, h.ti.new h.tl.len ha, (h.tl.wrote ha).mono (by omega)⟩⟩
theorem bread {g : Bool} (h : BUv C kb K V q e o s) (hK : K ≤ 50000) (ha : a < C.D) :
    ∃ o' t, volumegroupmake_Owner_Read o (a : Int) g s = some (0, true, o', t) ∧ BUv C kb (K + 1) V q e o' t ∧ isBad t (C.leg a : Int) ((16 + C.off a : Nat) : Int) = false ∧ ∀ d b, isBad t d b = true → isBad s d b = true := by
  obtain ⟨N, hN⟩ := fuelS2
  obtain ⟨t1, t2, t3⟩ := h.ti.read h.tl ha (g := g)
  have hsm := h.tl.small (by omega)
  unfold volumegroupmake_Owner_Read
  rw [h.x, hN]; simp only [Option.elim_some]
  have stop : ∀ M o t n w er, er ≠ 18 → volumegroupmake_Owner_Read_l1 (a : Int) (M + 1) o t n w er = some (.inl (w, er, o, t)) := fun M o t n w er hne => by
    show volumegroupmake_Owner_Read_l1_b (a : Int) (volumegroupmake_Owner_Read_l1 (a : Int) M) o t n w er = _
    unfold volumegroupmake_Owner_Read_l1_b
    rw [if_neg (fun y => hne y.2)]
  obtain ⟨t, h1, h2, h3, h4, h5⟩ := preadB (k := 0) h.en (by omega) h.jv h.qs ha
  rw [h1]; simp only [Option.bind_some]
  rw [stop _ _ _ _ _ _ (by decide), seqO_inl, if_neg (by simp), if_pos rfl, grd_t (decide_eq_true hsm)]
  refine ⟨{ o with X := some (vol C none none q e false 0), T := rdTS o.T (a : Int) (vlP C V a) g }, t, ?_, ⟨rfl, h2, h.jv, by have := h.qk; omega, h3, t2, t3.mono (by omega)⟩, h4, h5⟩
  show some ((0 : Int), rdTR o.T (a : Int) (vlP C V a), _, t) = _
  rw [t1]; rfl
theorem bflush (h : BUv C kb K V q e o s) (hK : K ≤ 50000) :
    ∃ o' t, volumegroupmake_Owner_Flush o s = some (0, true, o', t) ∧ BUv C kb K V q e o' t := by
  obtain ⟨N, hN⟩ := fuelS2
  obtain ⟨t2, t3⟩ := h.ti.flushed h.tl
  unfold volumegroupmake_Owner_Flush
  rw [h.x, hN]; simp only [Option.elim_some]
  have stop : ∀ M o t er n, er ≠ 18 → volumegroupmake_Owner_Flush_l1 (M + 1) o t er n = some (.inl (er, o, t)) := fun M o t er n hne => by
    show volumegroupmake_Owner_Flush_l1_b (volumegroupmake_Owner_Flush_l1 M) o t er n = _
    unfold volumegroupmake_Owner_Flush_l1_b
    rw [if_neg (fun y => hne y.2)]
  obtain ⟨t, h1, h2, h3, -⟩ := pflushB (k := 0) h.en (by omega) h.qs
  rw [h1]; simp only [Option.bind_some]
  rw [stop _ _ _ _ _ (by decide), seqO_inl, if_pos rfl]
  exact ⟨_, t, rfl, ⟨rfl, h2, h.jv, h.qk, h3, t2, t3⟩⟩
theorem bstep (h : BUv C kb K V q e o s) (hK : K ≤ 40000) (x : volumegroupmake_Step) (hx : x.Kind < 3) :
    ∃ V' q' e' o' t, volumegroupmake_Owner_Step o x s = some (true, o', t) ∧ BUv C kb (K + 50) V' q' e' o' t := by
  have hD := @PC.hD C
  obtain ⟨a, a1, a2, a3, a4⟩ := at_ok x.At (n := C.D) (by omega) (by omega)
  unfold volumegroupmake_Owner_Step
  rw [h.tl.len, grd_t (decide_eq_true (by omega)), grd_t (inI64_of (by omega)), grd_t (decide_eq_true (by omega)), a1]
  unfold lt
  simp only []
  by_cases k0 : x.Kind = 0
  · rw [if_pos k0]
    obtain ⟨V', q', e', o', t, h1, h2⟩ := bwrite (w := x.Value) h (by omega) a2
    rw [h1]; simp only [Option.bind_some]
    rw [if_neg (by simp), if_pos (by decide)]
    exact ⟨V', q', e', o', t, rfl, h2⟩
  · rw [if_neg k0]
    by_cases k1 : x.Kind = 1
    · rw [if_pos k1]
      obtain ⟨o', t, h1, h2, -, -⟩ := bread (g := false) h (by omega) a2
      rw [h1]; simp only [Option.bind_some]
      rw [if_neg (by simp), if_pos (by decide)]
      exact ⟨V, q, e, o', t, rfl, h2.mono (by omega)⟩
    · rw [if_neg k1]
      by_cases k2 : x.Kind = 2
      · rw [if_pos k2]
        obtain ⟨o', t, h1, h2⟩ := bflush h (by omega)
        rw [h1]; simp only [Option.bind_some]
        rw [if_neg (by simp), if_pos (by decide)]
        exact ⟨V, q, e, o', t, rfl, h2.mono (by omega)⟩
      · rw [if_neg k2, if_neg (by omega), if_neg (by omega)]; simp only [Option.bind_some]
        rw [if_neg (by simp), if_pos (by decide)]
        exact ⟨V, q, e, o, s, rfl, h.mono (by omega)⟩
theorem BUv.sb (h : BUv C kb K V q e o s) (hk : kb < C.L) (hx : x < C.O) : sbC s (kb : Int) ((16 + x : Nat) : Int) = 0 ∧ BUv C kb K V q e o (sbS s (kb : Int) ((16 + x : Nat) : Int) true) := by
  have hsz : C.sz = 16 + C.O := rfl
  obtain ⟨-, h4, h5, -⟩ := h.en.nb.ok.chk h.en.nb.dn (d := kb) (a := 16 + x) (by rw [PC.len]; exact hk) (by rw [PC.nsz hk]; omega)
  have h4' : cLoc s kb = 0 := h4
  have h5' : cPla s kb ((16 + x : Nat) : Int) = 0 := h5
  have hc : sbC s (kb : Int) ((16 + x : Nat) : Int) = 0 := by simp only [sbC, Go.Proofs.fz, h4', h5']; rfl
  have hS : sbS s (kb : Int) ((16 + x : Nat) : Int) true = { s with bad := setM s.bad ((kb : Int), ((16 + x : Nat) : Int)) () } := by
    unfold sbS; rw [if_neg (by simp only [hc]; simp)]; rfl
  refine ⟨hc, ?_⟩
  rw [hS]
  refine ⟨h.x, ⟨h.en.nb, nodup_setM _ _ _ h.en.nd, fun d b hb => ?_⟩, h.jv, h.qk, fun d hd hds => (h.qs d hd hds).frame (fun _ => rfl) (fun _ _ => rfl), h.ti, h.tl⟩
  have hb2 : (lookM (setM s.bad ((kb : Int), ((16 + x : Nat) : Int)) ()) (d, b)).isSome = true := hb
  rw [lookM_setM] at hb2
  split at hb2
  · rename_i z
    have z1 := (Prod.mk.inj z).1
    have z2 := (Prod.mk.inj z).2
    exact ⟨z1, by rw [z2]; omega⟩
  · exact h.en.mrk d b hb2
theorem bad_l1 {leg at_ : UInt8} {l : List volumegroupmake_Step} (hleg : leg.toNat % C.L = kb) (hll : l.length ≤ 24) : ∀ (N i : Nat) (o : OwnS) (s : ArrS) (V : Nat → Nat → UInt64) (q : UInt64) (e : PE), l.length - i < N → i ≤ l.length → BUv C kb (1000 + 60 * i) V q e o s →
    ∃ o' t V' q' e', volumegrouplaw19_ParityvolBad_l1 leg at_ l ((C.L : Int), (C.R : Int), (C.c : Int)) N o s i = some (.inl (o', t)) ∧ BUv C kb 3000 V' q' e' o' t
  | 0, _, _, _, _, _, _, h, _, _ => absurd h (by omega)
  | N + 1, i, o, s, V, q, e, h, hi, hu => by
    have hL := C.hL
    have hO := @PC.hO C
    have hk : kb < C.L := by rw [← hleg]; exact Nat.mod_lt _ (by omega)
    have hat : at_.toNat < 256 := at_.toNat_lt
    have e5 : (C.R : Int) * (C.c : Int) = (C.O : Int) := by unfold PC.O; push_cast; rfl
    have hx : (at_.toNat + i) % C.O < C.O := Nat.mod_lt _ (by omega)
    obtain ⟨x, hxx⟩ : ∃ x, x = (at_.toNat + i) % C.O := ⟨_, rfl⟩
    rw [← hxx] at hx
    have e16 : (16 : Int) + (x : Int) = ((16 + x : Nat) : Int) := by push_cast; rfl
    have hun : volumegrouplaw19_ParityvolBad_l1 leg at_ l ((C.L : Int), (C.R : Int), (C.c : Int)) (N + 1) o s i = volumegrouplaw19_ParityvolBad_l1_b leg at_ l ((C.L : Int), (C.R : Int), (C.c : Int)) (volumegrouplaw19_ParityvolBad_l1 leg at_ l ((C.L : Int), (C.R : Int), (C.c : Int)) N) o s i := rfl
    rw [hun]
    unfold volumegrouplaw19_ParityvolBad_l1_b lt
    simp only
    rw [e5, tmodN, tmodN, hleg, ← hxx, e16]
    by_cases hlt : i < l.length
    · rw [if_pos (by omega)]
      by_cases hkd : (l.getD i (⟨0, 0, 0, 0⟩ : volumegroupmake_Step)).Kind < 3
      · rw [if_pos hkd]
        obtain ⟨V', q', e', o', t, h1, h2⟩ := bstep hu (by omega) _ hkd
        rw [h1]; simp only [Option.bind_some]
        rw [if_neg (by simp), grd_t (decide_eq_true (by omega)), grd_t (inN64_of (by omega)), grd_t (inI64_of (by omega)), grd_t (decide_eq_true (by omega)), grd_t (inI64_of (by omega))]
        obtain ⟨b1, b2⟩ := h2.sb hk hx
        rw [b1, if_neg (by simp)]
        exact bad_l1 hleg hll N (i + 1) o' _ V' q' e' (by omega) (by omega) (b2.mono (by omega))
      · rw [if_neg hkd, grd_t (decide_eq_true (by omega)), grd_t (inN64_of (by omega)), grd_t (inI64_of (by omega)), grd_t (decide_eq_true (by omega)), grd_t (inI64_of (by omega))]
        obtain ⟨b1, b2⟩ := hu.sb hk hx
        rw [b1, if_neg (by simp)]
        exact bad_l1 hleg hll N (i + 1) o _ V q e (by omega) (by omega) (b2.mono (by omega))
    · rw [if_neg (by omega)]
      exact ⟨o, s, V, q, e, rfl, hu.mono (by omega)⟩
theorem ball_l1 {g : Bool} : ∀ (N a : Nat) (o : OwnS) (s : ArrS), C.D - a < N → a ≤ C.D → BUv C kb (3000 + a) V q e o s → (∀ b, b < a → isBad s (C.leg b : Int) ((16 + C.off b : Nat) : Int) = false) →
    ∃ o' t, volumegroupmake_Owner_All_l1 g N o s a = some (.inl (o', t)) ∧ BUv C kb 4000 V q e o' t ∧ ∀ b, b < C.D → isBad t (C.leg b : Int) ((16 + C.off b : Nat) : Int) = false
  | 0, _, _, _, h, _, _, _ => absurd h (by omega)
  | N + 1, a, o, s, h, ha, hu, hb => by
    have hD := @PC.hD C
    have hun : volumegroupmake_Owner_All_l1 g (N + 1) o s a = volumegroupmake_Owner_All_l1_b g (volumegroupmake_Owner_All_l1 g N) o s a := rfl
    rw [hun]
    unfold volumegroupmake_Owner_All_l1_b
    rw [hu.tl.len]
    by_cases hlt : a < C.D
    · obtain ⟨o', t, h1, h2, h3, h4⟩ := bread hu (by omega) hlt (g := g)
      rw [if_pos (by omega), h1]; simp only [Option.bind_some]
      rw [if_neg (by simp), grd_t (inN64_of (by omega))]
      refine ball_l1 N (a + 1) o' t (by omega) (by omega) (h2.mono (by omega)) (fun b hba => ?_)
      by_cases y : b = a
      · rw [y]; exact h3
      · cases hbb : isBad t (C.leg b : Int) ((16 + C.off b : Nat) : Int)
        · rfl
        · have := h4 _ _ hbb
          rw [hb b (by omega)] at this; cases this
    · rw [if_neg (by omega)]
      have : a = C.D := by omega
      subst this
      exact ⟨o, s, rfl, hu.mono (by omega), hb⟩
theorem bad_l2 {r45 : Bool × OwnS × ArrS} (he : PEb C kb K r45.2.2) (hT : r45.2.1.T.length = C.D) (hb : ∀ b, b < C.D → isBad r45.2.2 (C.leg b : Int) ((16 + C.off b : Nat) : Int) = false) : ∀ (N a : Nat), C.D - a < N → a ≤ C.D →
    volumegrouplaw19_ParityvolBad_l2 ((C.L : Int), (C.R : Int), (C.c : Int)) r45 N a = some (.inl ())
  | 0, _, h, _ => absurd h (by omega)
  | N + 1, a, h, ha => by
    have hD := @PC.hD C
    have hO := @PC.hO C
    have hsz : C.sz = 16 + C.O := rfl
    have hun : volumegrouplaw19_ParityvolBad_l2 ((C.L : Int), (C.R : Int), (C.c : Int)) r45 (N + 1) a = volumegrouplaw19_ParityvolBad_l2_b ((C.L : Int), (C.R : Int), (C.c : Int)) r45 (volumegrouplaw19_ParityvolBad_l2 ((C.L : Int), (C.R : Int), (C.c : Int)) r45 N) a := rfl
    rw [hun]
    unfold volumegrouplaw19_ParityvolBad_l2_b
    simp only
    rw [hT]
    by_cases hlt : a < C.D
    · obtain ⟨p1, p2, p3, p4⟩ := PC.plc hlt
      have e16 : (16 : Int) + (C.off a : Int) = ((16 + C.off a : Nat) : Int) := by push_cast; rfl
      obtain ⟨w, er, -, h2, -⟩ := he.rd0 (d := C.leg a) (a := 16 + C.off a) p1 (by omega)
      rw [if_pos (by omega), place18 hlt]; simp only [Option.bind_some]
      rw [e16, grd_t (inI64_of (by omega)), (h2 (hb a hlt)).2.2, if_neg (by simp), grd_t (inN64_of (by omega))]
      exact bad_l2 he hT hb N (a + 1) (by omega) (by omega)
    · rw [if_neg (by omega)]
theorem PEb.of (h : PEn C (fun _ => false) False K s) : PEb C kb K s := by
  have e1 : nbP s = s := by
    have := h.ok.bad
    unfold nbP
    cases s
    simp only at this
    rw [this]
  refine ⟨by rw [e1]; exact h, by rw [h.ok.bad]; exact List.nodup_nil, fun d b hb => ?_⟩
  unfold isBad at hb
  rw [h.ok.bad] at hb
  simp [lookM] at hb
end
theorem parityvolBad (n leg at_ : UInt8) (l : List volumegroupmake_Step) : volumegrouplaw19_ParityvolBad n leg at_ l = some true := by
  unfold volumegrouplaw19_ParityvolBad volumegroupmake_Few
  simp only [Option.bind_some]
  by_cases hl : ((l.length : Nat) : Int) ≤ 24
  · rw [if_neg (by simp; omega), shape_eq]; simp only [Option.bind_some]
    rw [begunP_eq]; simp only [Option.bind_some, Option.elim_some]
    have hF := fuel_big
    generalize CP n = C
    have hL := C.hL
    have hD := @PC.hD C
    obtain ⟨st', V, q, e, t, h1, h2, h3, h4, h5, ⟨rfl, rfl⟩, h6⟩ := begin_eq (S := fun V' q' => V' = (fun _ _ => 0) ∧ q' = 0) (C := C) envB (by omega) owB_ok tlB.len (fun st' hst' => by
      have : st' = none := hst'.elim id id
      subst this
      exact ⟨_, _, _, rcB.rc, jvB, rfl, rfl⟩)
    have hst : st' = none := by
      rcases h6 with y | ⟨y, -⟩
      · exact y
      · exact y
    subst hst
    rw [h1]; simp only [Option.bind_some]
    rw [if_neg (by simp)]
    have hu : BUv C (leg.toNat % C.L) (1000 + 60 * 0) (fun _ _ => 0) 0 e { owB C with X := some (vol C none none 0 e false 0), Stale := stL none } t := ⟨rfl, PEb.of (h3.mono (by omega)), h4, by decide, h5, tiB, tlB.mono (by omega)⟩
    obtain ⟨o2, t2, V2, q2, e2, g1, g2⟩ := bad_l1 (leg := leg) (at_ := at_) (l := l) rfl (by omega) FUEL 0 _ t _ _ _ (by omega) (by omega) hu
    rw [g1, seqO_inl]; simp only
    unfold volumegroupmake_Owner_All
    obtain ⟨o3, t3, k1, k2, k3⟩ := ball_l1 (g := false) FUEL 0 o2 t2 (by omega) (by omega) g2 (fun b hb => absurd hb (by omega))
    rw [k1, seqO_inl]; simp only [Option.bind_some]
    rw [if_neg (by simp), k2.x]; simp only [Option.elim_some]
    rw [pfailed_eq]; simp only [Option.bind_some]
    rw [show flL none C.L = [] from rfl, if_neg (by simp), bad_l2 (r45 := (true, o3, t3)) k2.en k2.tl.len k3 FUEL 0 (by omega) (by omega), seqO_inl, awake19]; rfl
  · rw [if_pos (by simp; omega), awake19]; rfl
end Go.Proofs
