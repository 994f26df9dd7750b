/- MirrorEqual,part 9 of the proof: PMirS,PSame02,LMirrorEqual,PMirrorEqual. -/
import Derived.WalkKit
import Derived.Orders
import Derived.Handy
import Derived.OrdersHeld
import Derived.Below
import Derived.OpenShut
import Derived.Deep.Slices
import Derived.Scope
import Derived.KernelRfl
import Derived.ProofKit
import Derived.ShutString
import Derived.ChangeOld
import Derived.Test.YtcfnikegnhlghaaGreatChecked
import Derived.Test.YtcfnikegnhlghaaGreatRows
import Derived.Test.YtcfnikegnhlghaaGreatZMirrorEqual8
namespace Go.Proofs
open Go.VG
structure Qt (C : MC) (K : Nat) (s : ArrS) (lv : LV) (t : ArrS) : Prop where
  ok : ArrOk C.ns K t
  dn : t.down = false
  fz : t.fuse = 0
  miss : ∀ e,Go.Proofs.miss t e = Go.Proofs.miss s e
  now : ∀ e b,e < C.L → b < C.sz → Go.Proofs.now t e b = Go.Proofs.now s e b
  sub : ∀ j,j < C.L → lv j = true → ∀ b,b < C.sz → ∀ c ∈ cand t j b,c ∈ cand s j b
  log : ∀ b,b < 3 → Go.Proofs.now t C.L b = Go.Proofs.now s C.L b ∧ cand t C.L b = cand s C.L b
section
variable {C : MC} {K K' a i k : Nat} {s t u y : ArrS} {lv : LV} {m m' x : MirS} {w v : UInt64} {o : OwnS} {ex p : Nat → Prop} {T : List Sec}
theorem Qt.refl (hok : ArrOk C.ns K s) (hdn : s.down = false) (hf : s.fuse = 0) : Qt C K s lv s := ⟨hok,hdn,hf,fun _ => rfl,fun _ _ _ _ => rfl,fun _ _ _ _ _ _ h => h,fun _ _ => ⟨rfl,rfl⟩⟩
theorem Qt.trans (h : Qt C K s lv t) (h' : Qt C K' t lv u) : Qt C K' s lv u := ⟨h'.ok,h'.dn,h'.fz,fun e => (h'.miss e).trans (h.miss e),fun e b he hb => (h'.now e b he hb).trans (h.now e b he hb),fun j hj hl b hb c hc => h.sub j hj hl b hb c (h'.sub j hj hl b hb c hc),fun b hb => ⟨(h'.log b hb).1.trans (h.log b hb).1,(h'.log b hb).2.trans (h.log b hb).2⟩⟩
theorem Qt.mono (h : Qt C K s lv t) (hK : K ≤ K') : Qt C K' s lv t := { h with ok := h.ok.mono hK }
theorem Qt.put (h : Qt C K s lv t) (hi : i < C.L) (ha : a < C.sz) (hw : w = Go.Proofs.now s i a) (h1 : Wrote C.ns K t i a w u) : Qt C (K + 1) s lv u := by
  have hn : ∀ e b,e < C.L → b < C.sz → Go.Proofs.now u e b = Go.Proofs.now s e b := fun e b he hb => by
    rw [h1.now]; split
    · rename_i z; obtain ⟨rfl,rfl⟩ := z; exact hw
    · exact h.now e b he hb
  refine ⟨h1.ok,h1.dn,by rw [h1.fuse,h.fz],fun e => by rw [h1.miss,h.miss],hn,fun j hj hl b hb c hc => ?_,fun b hb => ?_⟩
  · rw [h1.cand] at hc
    split at hc
    · rename_i z; obtain ⟨rfl,rfl⟩ := z
      rcases List.mem_append.1 hc with hc | hc
      · exact h.sub _ hj hl _ hb c hc
      · rw [List.mem_singleton.1 hc,hw, ← h.now i a hi ha]
        exact h.sub _ hj hl _ hb _ (h.ok.now_cand (by rw [MC.len]; omega) (by rw [MC.leg hi]; exact ha))
    · exact h.sub j hj hl b hb c hc
  · rw [h1.now,h1.cand,if_neg (fun z => by omega),if_neg (fun z => by omega)]; exact h.log b hb
theorem Qt.fl (h : Qt C K s lv t) (hi : i < C.L) (h1 : Flushed1 C.ns K t i u) : Qt C K s lv u := by
  refine ⟨h1.ok,h1.dn,by rw [h1.fuse,h.fz],fun e => by rw [h1.miss,h.miss],fun e b he hb => by rw [h1.now]; exact h.now e b he hb,fun j hj hl b hb c hc => ?_,fun b hb => ?_⟩
  · rw [h1.cand j b (by rw [MC.len]; omega) (by rw [MC.leg hj]; exact hb)] at hc
    split at hc
    · rw [List.mem_singleton.1 hc]
      exact h.sub j hj hl b hb _ (h.ok.now_cand (by rw [MC.len]; omega) (by rw [MC.leg hj]; exact hb))
    · exact h.sub j hj hl b hb c hc
  · rw [h1.now,h1.cand C.L b logL (by rw [MC.log]; exact hb),if_neg (by omega)]; exact h.log b hb
def AG (C : MC) (lv : LV) (m : MirS) : Prop := ∀ i,i < C.L → stM m i = 0 → lv i = true
def Val (C : MC) (lv : LV) (s : ArrS) (f : Nat → UInt64) : Prop := ∀ a,a < C.sz → ∀ j,j < C.L → lv j = true → Go.Proofs.now s j a = f a
theorem Qt.mi (h : Qt C K s lv t) (hm : MI C s lv m) : MI C t lv m := hm.arr h.miss h.log
theorem Qt.val {f : Nat → UInt64} (h : Qt C K s lv t) (hv : Val C lv s f) : Val C lv t f := fun a ha j hj hl => by rw [h.now j a hj ha]; exact hv a ha j hj hl
theorem rsync1 {f : Nat → UInt64} (h : MI C s lv m) (hnf : NF m) (hag : AG C lv m) (hv : Val C lv s f) (hok : ArrOk C.ns K s) (hdn : s.down = false) (hf : s.fuse = 0) (hK : K + 8 ≤ 1000000) (ha : a < C.sz) {fr : Int} :
    ∃ t,mirror_Mirror_each__mirror_Mirror_Resync_1 m fr (a : Int) (f a) s = some (0,m,t) ∧ Qt C (K + 8) s lv t := by
  have hF := fuel_big
  have hL := C.hL
  obtain ⟨e,x',y',e1,e2⟩ := each_end (r := mirror_Mirror_each__mirror_Mirror_Resync_1 m fr (a : Int) (f a) s) rfl (P := fun x y => x = m ∧ Qt C (K + m.legs.length) s lv y) (Q := fun _ _ => False) (fun x y hp => by rw [hp.1]; exact h.l6)
    (each_rule (L := m.legs.length) (f := mirror_Mirror_each__mirror_Mirror_Resync_1_l1 m fr (a : Int) (f a)) (ch := fun i => mirror_Mirror_Resync_1 ((i : Nat) : Int) fr) (act := fun i x y => mirror_Mirror_Resync_2 ((i : Nat) : Int) x (a : Int) (f a) y) (fun _ _ _ _ => rfl)
      (c := fun i => decide (((i : Nat) : Int) ≠ fr)) (fun i _ => rfl) (fun i x y => x = m ∧ Qt C (K + i) s lv y) (fun _ _ => False) (fun i x y hp => by rw [hp.1])
      (fun i x y hi hp hst _ => by
        obtain ⟨rfl,hq⟩ := hp
        rw [h.len] at hi
        have hun : ∀ o,mirror_Mirror_Resync_2 ((i : Nat) : Int) x (a : Int) (f a) y = Option.bind o (fun r8 => some (r8.1,r8.2)) → mirror_Mirror_Resync_2 ((i : Nat) : Int) x (a : Int) (f a) y = o := fun o ho => by rw [ho]; cases o <;> rfl
        have hw : mirror_Mirror_Resync_2 ((i : Nat) : Int) x (a : Int) (f a) y = (xL i C.sz).wr y (a : Int) (f a) := hun _ (by unfold mirror_Mirror_Resync_2; rw [h.gI hi,Int.toNat_natCast,h.dev hi])
        have hl := hag i hi hst
        rw [hw,leg_wr hq.ok (by omega) hi ha]
        rcases hq.ok.wrA (v := f a) (by omega) hq.dn (by rw [MC.len]; omega : i < C.ns.length) (by rw [MC.leg hi]; exact ha) (by rw [hq.miss]; exact (h.live hi hl).2) with ⟨-,w2,w3⟩ | ⟨w1, -⟩
        · rw [w2]; exact ⟨0,_,rfl,.inl ⟨rfl,rfl,hq.put hi ha (hv a ha i hi hl).symm w3⟩⟩
        · rw [hq.fz] at w1; cases w1)
      (fun i x y hi hp _ => ⟨hp.1,hp.2.mono (by omega)⟩) FUEL 0 m s (by have := h.l6; omega) (by omega) ⟨rfl,Qt.refl hok hdn hf⟩)
  rw [e1]
  rcases e2 with ⟨rfl,e2,rfl,e3⟩ | ⟨rfl,e2,rfl,e3⟩ | ⟨-,e2⟩
  · exact ⟨y',rfl,e3.mono (by rw [h.len]; omega)⟩
  · exact absurd hnf e2
  · exact e2.elim
theorem idxL_l1 {l : List mlegS} (hl : l.length ≤ 6) : ∀ (N i : Nat),l.length - i < N → i ≤ l.length → ∃ r,slices_IndexFunc_leg__mirror_Mirror_others_1_l1 l s N i = some r
  | 0,_,h,_ => absurd h (by omega)
  | N + 1,i,h,hi => by
    have hu : slices_IndexFunc_leg__mirror_Mirror_others_1_l1 l s (N + 1) i = slices_IndexFunc_leg__mirror_Mirror_others_1_l1_b l s (slices_IndexFunc_leg__mirror_Mirror_others_1_l1 l s N) i := rfl
    rw [hu]
    unfold slices_IndexFunc_leg__mirror_Mirror_others_1_l1_b mirror_Mirror_others_1
    by_cases hlt : i < l.length
    · rw [if_pos (by omega)]; simp only [Option.bind_some]
      split
      · exact ⟨_,rfl⟩
      · rw [grd_t (inN64_of (by omega))]
        exact idxL_l1 (l := l) hl N (i + 1) (by omega) (by omega)
    · rw [if_neg (by omega)]; exact ⟨_,rfl⟩
theorem others_eq (h : MI C s lv m) (hnf : NF m) (hag : AG C lv m) (hok : ArrOk C.ns K s) (hdn : s.down = false) (hf : s.fuse = 0) (hK : K ≤ 1000000) :
    ∃ t,mirror_Mirror_others m s = some (0,m,t) ∧ Qt C K s lv t := by
  have hF := fuel_big
  have hL := C.hL
  have hidx : ∃ r,slices_IndexFunc_leg__mirror_Mirror_others_1 m.legs s = some r := by
    unfold slices_IndexFunc_leg__mirror_Mirror_others_1
    obtain ⟨r,hr⟩ := idxL_l1 (s := s) (l := m.legs) h.l6 FUEL 0 (by have := h.l6; omega) (by omega)
    rw [hr]
    cases r with
    | inl r => exact ⟨_,rfl⟩
    | inr r => exact ⟨_,rfl⟩
  obtain ⟨fr,hfr⟩ := hidx
  unfold mirror_Mirror_others
  rw [hfr]; simp only [Option.bind_some]
  obtain ⟨e,x',y',e1,e2⟩ := each_end (r := mirror_Mirror_each__mirror_Mirror_others_2 m fr s) rfl (P := fun x y => x = m ∧ Qt C K s lv y) (Q := fun _ _ => False) (fun x y hp => by rw [hp.1]; exact h.l6)
    (each_rule (L := m.legs.length) (f := mirror_Mirror_each__mirror_Mirror_others_2_l1 m fr) (ch := fun i => mirror_Mirror_others_2 ((i : Nat) : Int) fr) (act := fun i x y => mirror_Mirror_others_3 ((i : Nat) : Int) x y) (fun _ _ _ _ => rfl)
      (c := fun i => decide (((i : Nat) : Int) ≠ fr)) (fun i _ => rfl) (fun i x y => x = m ∧ Qt C K s lv y) (fun _ _ => False) (fun i x y hp => by rw [hp.1])
      (fun i x y hi hp hst _ => by
        obtain ⟨rfl,hq⟩ := hp
        rw [h.len] at hi
        have hun : ∀ o,mirror_Mirror_others_3 ((i : Nat) : Int) x y = Option.bind o (fun r8 => some (r8.1,r8.2)) → mirror_Mirror_others_3 ((i : Nat) : Int) x y = o := fun o ho => by rw [ho]; cases o <;> rfl
        have hw : mirror_Mirror_others_3 ((i : Nat) : Int) x y = (xL i C.sz).fl y := hun _ (by unfold mirror_Mirror_others_3; rw [h.gI hi,Int.toNat_natCast,h.dev hi])
        have hl := hag i hi hst
        obtain ⟨k1,k2⟩ := hq.ok.flA (d := i) hq.dn (by rw [MC.len]; omega) (by rw [hq.miss]; exact (h.live hi hl).2)
        rw [hw,leg_fl hq.ok hK hi,k1]
        exact ⟨0,_,rfl,.inl ⟨rfl,rfl,hq.fl hi k2⟩⟩)
      (fun i x y hi hp _ => hp) FUEL 0 m s (by have := h.l6; omega) (by omega) ⟨rfl,Qt.refl hok hdn hf⟩)
  rw [e1]; simp only [Option.bind_some]
  rcases e2 with ⟨rfl,e2,rfl,e3⟩ | ⟨rfl,e2,rfl,e3⟩ | ⟨-,e2⟩
  · exact ⟨y',rfl,e3⟩
  · exact absurd hnf e2
  · exact e2.elim
theorem fetch_live (h : MI C s lv m) (hag : AG C lv m) (hok : ArrOk C.ns K s) (hdn : s.down = false) (ha : a < C.sz) (hex : ∃ j,j < C.L ∧ lv j = true) : ∃ f : Nat,f < C.L ∧ lv f = true ∧ mirror_Mirror_fetch m (a : Int) s = some (now s f a,((f : Nat) : Int),[],0,m) := by
  rcases fetch_eq h hok hdn ha hex with z | ⟨k,k1,k2,k3, -⟩
  · exact z
  · have := (h.live k1 (hag k k1 k2)).2
    rw [this] at k3; cases k3
def cpM (m : MirS) (c : Int) : MirS := { m with copied := c }
theorem MI.cp {c : Int} (h : MI C s lv m) : MI C s lv (cpM m c) := ⟨h.len,h.leg,h.size,h.region,h.hasLog,h.dl,h.log,h.d⟩
theorem NF.cp {c : Int} (h : NF m) : NF (cpM m c) := ⟨h.leg,h.log⟩
def endR (C : MC) (r : Nat) : Nat := min ((r + 1) * C.rg) C.sz
theorem end_eq (h : MI C s lv m) {r : Nat} (hr : r < C.R) : mirror_Mirror_end m ((r : Nat) : Int) s = some ((endR C r : Nat) : Int) := by
  have hR := C.hR
  have hrg := C.hr
  have h1 : (r + 1) * C.rg ≤ 12 * 4 := Nat.mul_le_mul (by omega) (by omega)
  unfold mirror_Mirror_end
  have e1 : ((r : Nat) : Int) + 1 = ((r + 1 : Nat) : Int) := by omega
  have e2 : ((r + 1 : Nat) : Int) * (C.rg : Int) = (((r + 1) * C.rg : Nat) : Int) := by rw [Int.natCast_mul]
  rw [h.region,e1,grd_t (inI64_of (by omega)),e2]
  unfold endR
  generalize (r + 1) * C.rg = q at h1
  rw [grd_t (inI64_of (by omega)),h.size]
  congr 1
  omega
theorem rsync_l2 {f : Nat → UInt64} {r4 : List Int} {x17 r : Nat} (hr4 : r4.getD x17 0 = ((r : Nat) : Int)) (hr : r < C.R) (hex : ∃ j,j < C.L ∧ lv j = true) : ∀ (N : Nat) (K : Nat) (m : MirS) (s : ArrS) (n a c : Nat),endR C r - a < N → a ≤ endR C r → K + 8 * (endR C r - a) ≤ 900000 → n ≤ 1000000 → c + (endR C r - a) ≤ 1000 → MI C s lv m → NF m → AG C lv m → Val C lv s f → ArrOk C.ns K s → s.down = false → s.fuse = 0 → m.copied = (c : Int) →
    ∃ t,Qt C (K + 8 * (endR C r - a)) s lv t ∧ (endR C r - a ≤ n ∧ mirror_Mirror_Resync_l2 r4 x17 N m s ((n : Nat) : Int) ((a : Nat) : Int) = some (.inl (((n - (endR C r - a) : Nat) : Int),cpM m ((c + (endR C r - a) : Nat) : Int),t)) ∨
      n < endR C r - a ∧ mirror_Mirror_Resync_l2 r4 x17 N m s ((n : Nat) : Int) ((a : Nat) : Int) = some (.inr (.inl (cpM m ((c + n : Nat) : Int),t))))
  | 0,_,_,_,_,_,_,h,_,_,_,_,_,_,_,_,_,_,_,_ => absurd h (by omega)
  | N + 1,K,m,s,n,a,c,h,hae,hK,hn,hc,hmi,hnf,hag,hv,hok,hdn,hf,hcp => by
    have hs := C.hs
    have hle : endR C r ≤ C.sz := Nat.min_le_right _ _
    have hun : mirror_Mirror_Resync_l2 r4 x17 (N + 1) m s ((n : Nat) : Int) ((a : Nat) : Int) = mirror_Mirror_Resync_l2_b r4 x17 (mirror_Mirror_Resync_l2 r4 x17 N) m s ((n : Nat) : Int) ((a : Nat) : Int) := rfl
    rw [hun]
    unfold mirror_Mirror_Resync_l2_b
    rw [hr4,end_eq hmi hr]; simp only [Option.bind_some]
    have hcpe : ∀ {z : Nat},z = c → cpM m ((z : Nat) : Int) = m := fun {z} e => by unfold cpM; rw [e, ← hcp]
    by_cases hlt : a < endR C r
    · rw [if_pos (by omega)]
      by_cases hn0 : n = 0
      · subst hn0
        rw [if_pos (by omega)]
        refine ⟨s,(Qt.refl hok hdn hf).mono (by omega),.inr ⟨by omega,?_⟩⟩
        rw [hcpe (by omega)]
      · rw [if_neg (by omega),grd_t (inI64_of (by omega))]
        obtain ⟨fl,f1,f2,f3⟩ := fetch_live hmi hag hok hdn (by omega : a < C.sz) hex
        rw [f3]; simp only [Option.bind_some]
        rw [if_pos trivial,hv a (by omega) fl f1 f2]
        obtain ⟨t,t1,t2⟩ := rsync1 (fr := ((fl : Nat) : Int)) hmi hnf hag hv hok hdn hf (by omega) (by omega : a < C.sz)
        rw [t1]; simp only [Option.bind_some]
        rw [if_neg (by simp),hcp,grd_t (inI64_of (by omega)),grd_t (inI64_of (by omega))]
        have e1 : (c : Int) + 1 = ((c + 1 : Nat) : Int) := by omega
        have e2 : (a : Int) + 1 = ((a + 1 : Nat) : Int) := by omega
        have e3 : (n : Int) - 1 = ((n - 1 : Nat) : Int) := by omega
        rw [e1,e2,e3]
        have hm2 : ({ m with copied := ((c + 1 : Nat) : Int) } : MirS) = cpM m ((c + 1 : Nat) : Int) := rfl
        rw [hm2]
        obtain ⟨t',q1,q2⟩ := rsync_l2 (f := f) hr4 hr hex N (K + 8) (cpM m ((c + 1 : Nat) : Int)) t (n - 1) (a + 1) (c + 1) (by omega) (by omega) (by omega) (by omega) (by omega) (t2.mi hmi).cp hnf.cp hag (t2.val hv) t2.ok t2.dn t2.fz rfl
        refine ⟨t',(t2.trans q1).mono (by omega),?_⟩
        rcases q2 with ⟨z1,z2⟩ | ⟨z1,z2⟩
        · refine .inl ⟨by omega,?_⟩
          rw [z2]
          have e4 : n - 1 - (endR C r - (a + 1)) = n - (endR C r - a) := by omega
          have e5 : c + 1 + (endR C r - (a + 1)) = c + (endR C r - a) := by omega
          rw [e4,e5]; rfl
        · refine .inr ⟨by omega,?_⟩
          rw [z2]
          have e5 : c + 1 + (n - 1) = c + n := by omega
          rw [e5]; rfl
    · rw [if_neg (by omega)]
      refine ⟨s,(Qt.refl hok hdn hf).mono (by omega),.inl ⟨by omega,?_⟩⟩
      rw [hcpe (by omega)]
      have e4 : n - (endR C r - a) = n := by omega
      rw [e4]
def lenR (C : MC) (r : Nat) : Nat := endR C r - r * C.rg
def lsum (C : MC) : List Int → Nat
  | [] => 0
  | r :: l => lenR C r.toNat + lsum C l
def cpOk (C : MC) : List Int → Nat → Prop
  | [],c => c = 0
  | r :: _,c => c < lenR C r.toNat
def mOf (m : MirS) (d : List Bool) (c : Int) : MirS := { m with dirty := d,copied := c }
theorem lenR_le {r : Nat} : lenR C r ≤ 4 := by
  have h1 : (r + 1) * C.rg = r * C.rg + C.rg := by rw [Nat.add_mul]; omega
  have hr := C.hr
  unfold lenR endR
  generalize (r + 1) * C.rg = q at h1 ⊢
  generalize r * C.rg = q' at h1 ⊢
  omega
theorem reg_lt {r : Nat} (hr : r < C.R) : r * C.rg < C.sz := by
  have hs := C.hs
  have h1 : r ≤ (C.sz - 1) / C.rg := by unfold MC.R at hr; omega
  have h2 := Nat.div_mul_le_self (C.sz - 1) C.rg
  have h3 := Nat.mul_le_mul_right C.rg h1
  omega
theorem lenR_pos {r : Nat} (hr : r < C.R) : 0 < lenR C r := by
  have h1 : (r + 1) * C.rg = r * C.rg + C.rg := by rw [Nat.add_mul]; omega
  have h2 := reg_lt hr
  have h3 := C.hr
  unfold lenR endR
  generalize (r + 1) * C.rg = q at h1 ⊢
  generalize r * C.rg = q' at h1 h2 ⊢
  omega
theorem lsum_le : ∀ (l : List Int),lsum C l ≤ 4 * l.length
  | [] => Nat.le_refl _
  | r :: l => by
    have h1 := lsum_le l
    have h2 := @lenR_le C r.toNat
    show lenR C r.toNat + lsum C l ≤ 4 * (l.length + 1)
    omega
theorem lsum_app : ∀ (l l' : List Int),lsum C (l ++ l') = lsum C l + lsum C l'
  | [],l' => by show lsum C l' = 0 + lsum C l'; omega
  | r :: l,l' => by
    have h1 := lsum_app l l'
    show lenR C r.toNat + lsum C (l ++ l') = lenR C r.toNat + lsum C l + lsum C l'
    omega
theorem lsum_sz {d : List Bool} : ∀ n : Nat,lsum C (drtyL d n) ≤ min (n * C.rg) C.sz
  | 0 => by show 0 ≤ _; omega
  | n + 1 => by
    have h1 := lsum_sz (d := d) n
    rw [drtyL_succ,lsum_app]
    have h2 : lsum C (if d.getD n false = true then [((n : Nat) : Int)] else []) ≤ lenR C n := by
      split
      · show lenR C n + 0 ≤ _
        omega
      · show 0 ≤ _
        omega
    have h3 : (n + 1) * C.rg = n * C.rg + C.rg := by rw [Nat.add_mul]; omega
    unfold lenR endR at h2
    generalize (n + 1) * C.rg = q at h2 h3 ⊢
    generalize n * C.rg = q' at h1 h2 h3
    omega
theorem cpOk_zero {l : List Int} (hl : ∀ k,k < l.length → ∃ r : Nat,r < C.R ∧ l.getD k 0 = r) : cpOk C l 0 := by
  cases l with
  | nil => rfl
  | cons r l =>
    obtain ⟨r',h1,h2⟩ := hl 0 (by simp)
    have e : r = ((r' : Nat) : Int) := h2
    subst e
    exact lenR_pos h1
theorem cpOk_end {l : List Int} {c : Nat} (h : cpOk C l c) (h0 : lsum C l - c = 0) : l = [] ∧ c = 0 := by
  cases l with
  | nil => exact ⟨rfl,h⟩
  | cons r l =>
    have h1 : c < lenR C r.toNat := h
    have h2 : lenR C r.toNat + lsum C l - c = 0 := h0
    omega
theorem cpOk_le {l : List Int} {c : Nat} (h : cpOk C l c) : c ≤ lsum C l := by
  cases l with
  | nil => have : c = 0 := h; omega
  | cons r l =>
    have h1 : c < lenR C r.toNat := h
    show c ≤ lenR C r.toNat + lsum C l
    omega
theorem dSet {d : List Bool} {i r : Nat} : (d.set r false).getD i false = if i = r then false else d.getD i false := by
  simp only [List.getD,List.getElem?_set]
  by_cases e : r = i
  · subst e
    rw [if_pos rfl,if_pos rfl]
    split <;> rfl
  · rw [if_neg e,if_neg (fun x => e x.symm)]
theorem drtyL_set {d : List Bool} {R r : Nat} {tl : List Int} (h : drtyL d R = ((r : Nat) : Int) :: tl) : drtyL (d.set r false) R = tl := by
  unfold drtyL at h ⊢
  have e1 : (List.range R).filter (fun i => (d.set r false).getD i false) = ((List.range R).filter fun i => d.getD i false).filter (fun i => decide (i ≠ r)) := by
    rw [List.filter_filter]
    congr 1
    funext i
    rw [dSet]
    by_cases e : i = r
    · rw [if_pos e,decide_eq_false (fun x => x e)]; rfl
    · rw [if_neg e,decide_eq_true e]; simp
  have hnd : ((List.range R).filter fun i => d.getD i false).Nodup := List.nodup_range.filter _
  rw [e1]
  generalize (List.range R).filter (fun i => d.getD i false) = l at h hnd
  cases l with
  | nil => cases h
  | cons x l =>
    have h1 := (List.cons.inj h).1
    have h2 := (List.cons.inj h).2
    have h9 : ((x : Nat) : Int) = ((r : Nat) : Int) := h1
    have e : x = r := by omega
    subst e
    have h3 : x ∉ l := (List.nodup_cons.1 hnd).1
    rw [List.filter_cons_of_neg (by simp),List.filter_eq_self.2 (fun a ha => by have h8 : a ≠ x := fun z => h3 (z ▸ ha); simpa using h8)]
    exact h2
theorem MI.dc {d : List Bool} {c : Int} (h : MI C s lv m) (hl : d.length = m.dirty.length) (hd : ∀ r,d.getD r false = true → m.dirty.getD r false = true) : MI C s lv (mOf m d c) := ⟨h.len,h.leg,h.size,h.region,h.hasLog,hl.trans h.dl,h.log,fun h1 r hr h2 => h.d h1 r hr (hd r h2)⟩
theorem NF.dc {d : List Bool} {c : Int} (h : NF m) : NF (mOf m d c) := ⟨h.leg,h.log⟩
theorem resync_l1 {f : Nat → UInt64} {r4 : List Int} (hr4 : ∀ k,k < r4.length → ∃ r : Nat,r < C.R ∧ r4.getD k 0 = r) (h12 : r4.length ≤ 12) (hex : ∃ j,j < C.L ∧ lv j = true) : ∀ (N k K : Nat) (m : MirS) (s : ArrS) (n c : Nat),r4.length - k < N → k ≤ r4.length → K + 8 * lsum C (r4.drop k) ≤ 900000 → n ≤ 1000000 → drtyL m.dirty C.R = r4.drop k → cpOk C (r4.drop k) c → m.copied = (c : Int) → MI C s lv m → NF m → AG C lv m → Val C lv s f → ArrOk C.ns K s → s.down = false → s.fuse = 0 →
    ∃ d c' t,mirror_Mirror_Resync_l1 r4 N m s ((n : Nat) : Int) k = some (.inl (mOf m d ((c' : Nat) : Int),t)) ∧ Qt C (K + 8 * lsum C (r4.drop k)) s lv t ∧ d.length = m.dirty.length ∧ (∀ r,d.getD r false = true → m.dirty.getD r false = true) ∧ cpOk C (drtyL d C.R) c' ∧ lsum C (drtyL d C.R) - c' = lsum C (r4.drop k) - c - n
  | 0,_,_,_,_,_,_,h,_,_,_,_,_,_,_,_,_,_,_,_,_ => absurd h (by omega)
  | N + 1,k,K,m,s,n,c,h,hk,hK,hn,hd,hc,hcp,hmi,hnf,hag,hv,hok,hdn,hf => by
    have hF := fuel_big
    have hs := C.hs
    have hCR := C.hR
    have hun : mirror_Mirror_Resync_l1 r4 (N + 1) m s ((n : Nat) : Int) k = mirror_Mirror_Resync_l1_b r4 (mirror_Mirror_Resync_l1 r4 N) m s ((n : Nat) : Int) k := rfl
    rw [hun]
    unfold mirror_Mirror_Resync_l1_b
    by_cases hlt : k < r4.length
    · rw [if_pos (by omega)]
      obtain ⟨r,hr,e⟩ := hr4 k hlt
      have e0 : r4.drop k = ((r : Nat) : Int) :: r4.drop (k + 1) := by
        rw [List.drop_eq_getElem_cons hlt]
        congr 1
        rw [← e]; simp [List.getD,hlt]
      have hlc : c < lenR C r := by
        have h1 := hc
        rw [e0] at h1
        exact h1
      have hls : lsum C (r4.drop k) = lenR C r + lsum C (r4.drop (k + 1)) := by rw [e0]; rfl
      have hrl := reg_lt hr
      have hend : endR C r = lenR C r + r * C.rg := by
        have := lenR_pos hr
        unfold lenR at this ⊢
        omega
      have hl4 := @lenR_le C r
      have e1 : ((r : Nat) : Int) * (C.rg : Int) = ((r * C.rg : Nat) : Int) := by rw [Int.natCast_mul]
      rw [e,hmi.region,e1,hcp]
      have e2 : ((r * C.rg : Nat) : Int) + (c : Int) = ((r * C.rg + c : Nat) : Int) := by rw [Int.natCast_add]
      rw [e2,grd_t (inI64_of (by omega)),grd_t (inI64_of (by omega))]
      obtain ⟨t,t1,t2⟩ := rsync_l2 (f := f) e hr hex FUEL K m s n (r * C.rg + c) c (by omega) (by omega) (by omega) hn (by omega) hmi hnf hag hv hok hdn hf hcp
      have e3 : endR C r - (r * C.rg + c) = lenR C r - c := by omega
      rw [e3] at t1 t2
      rcases t2 with ⟨z1,z2⟩ | ⟨z1,z2⟩
      · rw [z2,seqO_inl]
        obtain ⟨u,u1,u2⟩ := others_eq (m := cpM m ((c + (lenR C r - c) : Nat) : Int)) (t1.mi hmi).cp hnf.cp hag t1.ok t1.dn t1.fz (by omega)
        rw [u1]; simp only [Option.bind_some]
        rw [if_neg (by simp)]
        have hdl : (cpM m ((c + (lenR C r - c) : Nat) : Int)).dirty = m.dirty := rfl
        rw [hdl,grd_t (decide_eq_true (by rw [hmi.dl]; omega)),grd_t (inN64_of (by omega)),Int.toNat_natCast]
        have hm2 : ({ cpM m ((c + (lenR C r - c) : Nat) : Int) with dirty := m.dirty.set r false,copied := (0 : Int) } : MirS) = mOf m (m.dirty.set r false) ((0 : Nat) : Int) := rfl
        rw [hm2]
        have hd2 : drtyL (m.dirty.set r false) C.R = r4.drop (k + 1) := drtyL_set (hd.trans e0)
        have hsub : ∀ i,(m.dirty.set r false).getD i false = true → m.dirty.getD i false = true := fun i hi => by
          rw [dSet] at hi
          split at hi
          · cases hi
          · exact hi
        have h0 : cpOk C (r4.drop (k + 1)) 0 := cpOk_zero (fun j hj => by
          rw [List.length_drop] at hj
          obtain ⟨r',q1,q2⟩ := hr4 (k + 1 + j) (by omega)
          exact ⟨r',q1,by rw [← q2]; simp only [List.getD,List.getElem?_drop]⟩)
        have hq := t1.trans u2
        obtain ⟨d,c',v,v1,v2,v3,v4,v5,v6⟩ := resync_l1 (f := f) hr4 h12 hex N (k + 1) (K + 8 * (lenR C r - c)) (mOf m (m.dirty.set r false) ((0 : Nat) : Int)) u (n - (lenR C r - c)) 0 (by omega) (by omega) (by omega) (by omega) hd2 h0 rfl ((hq.mi hmi).dc (by simp) hsub) hnf.dc hag (hq.val hv) hq.ok hq.dn hq.fz
        refine ⟨d,c',v,?_,(hq.trans v2).mono (by omega),by rw [v3]; simp [mOf],fun i hi => hsub i (v4 i hi),v5,by rw [v6]; omega⟩
        rw [v1]; rfl
      · rw [z2,seqO_inr]
        refine ⟨m.dirty,c + n,t,rfl,t1.mono (by omega),rfl,fun _ h => h,?_,by rw [hd]; omega⟩
        rw [hd,e0]
        show c + n < lenR C r
        omega
    · rw [if_neg (by omega)]
      have e0 : r4.drop k = [] := List.drop_eq_nil_of_le (by omega)
      refine ⟨m.dirty,c,s,?_,(Qt.refl hok hdn hf).mono (by omega),rfl,fun _ h => h,by rw [hd]; exact hc,?_⟩
      · rw [← hcp]; rfl
      · have h1 : lsum C (r4.drop k) = 0 := by rw [e0]; rfl
        rw [hd]; omega
theorem rest_l1 (h : MI C s lv m) {l : List Int} (hl : ∀ k,k < l.length → ∃ r : Nat,r < C.R ∧ l.getD k 0 = r) (h12 : l.length ≤ 12) : ∀ (N k : Nat) (x : Int),l.length - k < N → k ≤ l.length → -1000 ≤ x → x + (lsum C (l.drop k) : Int) ≤ 1000 → mirror_Mirror_rest_l1 m s l N k x = some (x + (lsum C (l.drop k) : Int))
  | 0,_,_,h,_,_,_ => absurd h (by omega)
  | N + 1,k,x,hN,hk,hx,hy => by
    have hs := C.hs
    have hun : mirror_Mirror_rest_l1 m s l (N + 1) k x = mirror_Mirror_rest_l1_b m s l (mirror_Mirror_rest_l1 m s l N) k x := rfl
    rw [hun]
    unfold mirror_Mirror_rest_l1_b
    by_cases hlt : k < l.length
    · rw [if_pos (by omega)]
      obtain ⟨r,hr,e⟩ := hl k hlt
      have e0 : l.drop k = ((r : Nat) : Int) :: l.drop (k + 1) := by
        rw [List.drop_eq_getElem_cons hlt]
        congr 1
        rw [← e]; simp [List.getD,hlt]
      have hls : lsum C (l.drop k) = lenR C r + lsum C (l.drop (k + 1)) := by rw [e0]; rfl
      have hrl := reg_lt hr
      have hl4 := @lenR_le C r
      have hend : endR C r = lenR C r + r * C.rg := by
        have := lenR_pos hr
        unfold lenR at this ⊢
        omega
      have e1 : ((r : Nat) : Int) * (C.rg : Int) = ((r * C.rg : Nat) : Int) := by rw [Int.natCast_mul]
      rw [e,h.region,e1,grd_t (inI64_of (by omega)),end_eq h hr]; simp only [Option.bind_some]
      rw [hls] at hy
      rw [grd_t (inI64_of (by omega)),grd_t (inI64_of (by omega)),grd_t (inN64_of (by omega)),rest_l1 h hl h12 N (k + 1) _ (by omega) (by omega) (by omega) (by omega),hls]
      congr 1
      omega
    · rw [if_neg (by omega)]
      have e0 : l.drop k = [] := List.drop_eq_nil_of_le (by omega)
      rw [e0]
      show some x = some (x + 0)
      rw [Int.add_zero]
theorem rest_eq (h : MI C s lv m) {c : Nat} (hcp : m.copied = (c : Int)) (hc : cpOk C (drtyL m.dirty C.R) c) : mirror_Mirror_rest m s = some (((lsum C (drtyL m.dirty C.R) - c : Nat) : Int)) := by
  have hF := fuel_big
  have hR := C.hR
  have h1 := cpOk_le hc
  have h2 := lsum_le (C := C) (drtyL m.dirty C.R)
  have h3 := @drtyL_le m.dirty C.R
  unfold mirror_Mirror_rest
  rw [hcp,grd_t (inI64_of (by omega)),mdirty_eq (by rw [h.dl]; omega),h.dl]; simp only [Option.bind_some]
  have h4 := rest_l1 h (l := drtyL m.dirty C.R) (fun k hk => by obtain ⟨r,q1, -,q2⟩ := drtyL_mem hk; exact ⟨r,q1,q2⟩) (by omega) FUEL 0 (0 - (c : Int)) (by omega) (by omega) (by omega) (by rw [List.drop_zero]; omega)
  rw [List.drop_zero] at h4
  rw [h4]; simp only [Option.bind_some]
  congr 1
  omega
theorem resync_eq {f : Nat → UInt64} (hmi : MI C s lv m) (hnf : NF m) (hag : AG C lv m) (hv : Val C lv s f) (hok : ArrOk C.ns K s) (hdn : s.down = false) (hf : s.fuse = 0) (hK : K ≤ 800000) (hex : ∃ j,j < C.L ∧ lv j = true) {n c : Nat} (hn : n ≤ 1000000) (hcp : m.copied = (c : Int)) (hc : cpOk C (drtyL m.dirty C.R) c) :
    ∃ d c' t,mirror_Mirror_Resync m ((n : Nat) : Int) s = some (((lsum C (drtyL m.dirty C.R) - c - n : Nat) : Int),0,mOf m d ((c' : Nat) : Int),t) ∧ Qt C (K + 100) s lv t ∧ d.length = m.dirty.length ∧ (∀ r,d.getD r false = true → m.dirty.getD r false = true) ∧ cpOk C (drtyL d C.R) c' ∧ lsum C (drtyL d C.R) - c' = lsum C (drtyL m.dirty C.R) - c - n := by
  have hF := fuel_big
  have hR := C.hR
  have h2 := lsum_le (C := C) (drtyL m.dirty C.R)
  have h3 := @drtyL_le m.dirty C.R
  have h4 := lsum_sz (C := C) (d := m.dirty) C.R
  have hs := C.hs
  unfold mirror_Mirror_Resync
  rw [if_neg (by omega),(result_eq hmi.l6).1 hnf]; simp only [Option.bind_some]
  rw [if_neg (by simp),mdirty_eq (by rw [hmi.dl]; omega),hmi.dl]; simp only [Option.bind_some]
  obtain ⟨d,c',t,t1,t2,t3,t4,t5,t6⟩ := resync_l1 (f := f) (r4 := drtyL m.dirty C.R) (fun k hk => by obtain ⟨r,q1, -,q2⟩ := drtyL_mem hk; exact ⟨r,q1,q2⟩) (by omega) hex FUEL 0 K m s n c (by omega) (by omega) (by rw [List.drop_zero]; omega) hn (by rw [List.drop_zero]) (by rw [List.drop_zero]; exact hc) hcp hmi hnf hag hv hok hdn hf
  rw [List.drop_zero] at t2 t6
  rw [t1,seqO_inl,rest_eq (m := mOf m d ((c' : Nat) : Int)) ((t2.mi hmi).dc t3 t4) rfl t5]; simp only [Option.bind_some]
  have e : lsum C (drtyL (mOf m d ((c' : Nat) : Int)).dirty C.R) - c' = lsum C (drtyL m.dirty C.R) - c - n := t6
  rw [e]
  exact ⟨d,c',t,rfl,t2.mono (by omega),t3.trans hmi.dl,t4,t5,t6⟩
theorem UP.qt (h : UP C K lv s o m (fun _ => False)) (hq : Qt C K' s lv t) (hK : K ≤ K') (hm : MI C t lv m') : UP C K' lv t { o with X := some m' } m' (fun _ => False) := by
  have h9 : OI C K lv s { o with X := some m' } := h.oi.set rfl rfl rfl rfl rfl rfl
  refine ⟨rfl,(h9.arr hq.miss).mono hK,⟨hq.ok,h.di.tl,h.di.ex,fun i hi hl => by rw [hq.miss]; exact h.di.miss i hi hl,h.di.lgl,fun a ha i hi hl c hc => h.di.cnd a ha i hi hl c (hq.sub i hi hl a ha c hc),fun hl c hc => h.di.head hl c (by rw [← (hq.log 0 (by decide)).2]; exact hc),fun hl r hr => ?_⟩,hm,fun a ha _ => ?_,fun a ha => Nat.le_trans (h.sm a ha) (by omega),hq.dn⟩
  · rcases h.di.c hl r hr with z | ⟨f,z⟩
    · exact .inl (fun c hc => z c (by rw [← (hq.log 1 (by decide)).2]; exact hc))
    · exact .inr ⟨f,fun a ha har i hi hli c hc => z a ha har i hi hli c (hq.sub i hi hli a ha c hc)⟩
  · obtain ⟨k1,k2⟩ := h.kn a ha (fun x => x)
    exact ⟨k1,fun j hj hl => by rw [hq.now j a hj ha]; exact k2 j hj hl⟩
theorem oall_w {q : Bool} (h : UP C K lv s o m (fun _ => False)) (hnf : NF m) (hK : K ≤ 49000) : ∃ o' ,volumegroupmake_Owner_All o q s = some (true,o',s) := by
  have hF := fuel_big
  have hs := C.hs
  unfold volumegroupmake_Owner_All
  obtain ⟨o',m',h1, -⟩ := oall_u_l1 (q := q) FUEL 0 K o m (by omega) (by omega) (by omega) h hnf
  rw [h1,seqO_inl]
  exact ⟨_,rfl⟩
theorem nf_live (h : MI C s lv m) (hall : ∀ i,i < C.L → lv i = true) (hlg : lv C.L = C.lg) : NF m := by
  refine ⟨fun i hi => ?_,?_⟩
  · rw [h.len] at hi
    rcases (h.leg i hi).2.2 with z | z
    · rw [z.2.1]; decide
    · rw [hall i hi] at z; cases z.1
  · rcases h.log with z | z
    · rintro ⟨-,y⟩; rw [z.2.1] at y; cases y
    · rintro ⟨y, -⟩
      rw [h.hasLog, ← hlg,z.1] at y; cases y
end
end Go.Proofs
namespace Go.Proofs
open Go.VG
theorem same02_l1 {a b : List UInt64} (hl : a.length = b.length) : ∀ (N i : Nat),a.length - i < N → i ≤ a.length → (∀ j,j < i → a.getD j 0 = b.getD j 0) →
    volumegroupref02_Same_l1 a b N i = some (if a = b then .inl () else .inr false)
  | 0,_,h,_,_ => absurd h (by omega)
  | N + 1,i,h,hi,he => by
    show volumegroupref02_Same_l1_b _ _ _ _ = _
    unfold volumegroupref02_Same_l1_b
    by_cases hlt : i < a.length
    · rw [if_pos (by omega)]
      by_cases hab : a.getD i 0 = b.getD i 0
      · rw [if_neg (by simpa using hab)]
        refine same02_l1 hl N (i + 1) (by omega) (by omega) fun j hj => ?_
        rcases Nat.lt_or_ge j i with h2 | h2
        · exact he j h2
        · have : j = i := by omega
          rw [this]; exact hab
      · rw [if_pos (by simpa using hab),if_neg (fun e => hab (by rw [e]))]
    · rw [if_neg (by omega),if_pos]
      refine List.ext_getElem hl fun j h1 h2 => ?_
      have := he j (by omega)
      simpa [List.getD,h1,h2] using this
theorem same02_eq {a b : List UInt64} (hl : a.length ≤ 1000000000) : volumegroupref02_Same a b = some (decide (a = b)) := by
  unfold volumegroupref02_Same
  have hF := fuel_big
  generalize FUEL = N at hF ⊢
  by_cases h : a.length = b.length
  · rw [if_neg (by omega),same02_l1 h N 0 (by omega) (by omega) (fun j h => absurd h (by omega))]
    by_cases e : a = b
    · rw [if_pos e,decide_eq_true e]; rfl
    · rw [if_neg e,decide_eq_false e]; rfl
  · rw [if_pos (by omega),decide_eq_false (fun e => h (by rw [e]))]
end Go.Proofs
set_option linter.unusedSimpArgs false
set_option linter.unusedVariables false
set_option maxRecDepth 20000
set_option maxHeartbeats 4000000
namespace Go.Proofs
open Go.VG
theorem bld_60_0_1_3 (v0 : (Option Addr)) (v1 : Fn) (v2 : (Array Value)) (v3 : (Array Value)) (v4 : (Option Addr)) : ∀ w,(Instr.build 60 (#[(0,.pointer v0),(1,.func v1 v2 v3),(3,.pointer v4)] : Array (Nat × Value))).run Tryz.prog w = .ok (.agg #[.pointer v0,.func v1 v2 v3,.nilIface,.pointer v4,.slice none 0 0,.slice none 0 0]) w := fun w => by kernel_rfl
def volumegrouplaw21_setting_owner (s_0_a : ArrS) (s_0_legs : Int) (s_0_size : Int) (s_0_region : Int) (s_0_log : Bool) (words : List UInt64) : Option (OwnS) :=
  grd (decide (words.length ≤ 65536)) <|
  some ((⟨s_0_legs,s_0_size,s_0_region,s_0_log,none,(trkT words),[],[]⟩ : OwnS))
theorem L_volumegrouplaw21_setting_owner {W : World} {bs_0_a : Nat} {Awords : HP} {vwords : Value} {s_0_a : ArrS} {s_0_legs : Int} {s_0_size : Int} {s_0_region : Int} {s_0_log : Bool} {words : List UInt64} {r : OwnS} (rwords : Reads Awords tyU vwords words) (h : volumegrouplaw21_setting_owner s_0_a s_0_legs s_0_size s_0_region s_0_log words = some r) :
    CSpec Tryz.prog W 15 [.agg #[ptr bs_0_a 0,.int .i64 s_0_legs,.int .i64 s_0_size,.int .i64 s_0_region,.bool s_0_log],vwords] [Arr bs_0_a s_0_a,Awords] (fun x : Nat => ptr x 0) (fun _ => True) (fun x F => Arr bs_0_a s_0_a :: Awords :: OwnP bs_0_a x r :: F) := by
 refine CSpec.of_body Tryz.func15 rfl Tryz.ntmps15 rfl fun F => ?_
 show CJ _ _ _ _ _ _ (_ :: _ :: F)
 unfold volumegrouplaw21_setting_owner at h
 refine CJ_pure (len_of rwords del1) fun hlen1 => sR <| oO <| O_box rfl rfl rfl fun b2 => oA rfl rfl <| nT <| sR <| oP (P_makeFunc rfl rfl) rfl <| oA rfl rfl <| nT <| CJ_seq <| AJ_startH 64 (by kernel_rfl) rfl <| aN 0 1 rfl rfl (P_fieldAddr rfl ⟨_,_,_,Tryz.runUnderlying28,rfl,rfl,Tryz.sizeOf26,rfl⟩) rfl <| aV 1 3 rfl rfl (GY_none rfl) eR (V_load rfl foc0 rfl Tryz.isAgg26) rfl <| aN 2 7 rfl rfl (P_move rfl) rfl <| aN 3 15 rfl rfl (P_move rfl) rfl ?_
 obtain ⟨hg1,h⟩ := grd_de h
 refine AJ_op 4 31 rfl (by kernel_rfl) rfl (GY_none rfl) <| O_call (c_Tracked rwords hg1) rfl Tryz.call47 (Dels.cons del2 Dels.nil) rfl fun X3 _ => ⟨fun _ => (t2_ (t2_ (t1_ (eD eR)))),?_⟩
 refine aN 5 63 rfl rfl (P_build rfl (bld_60_0_1_3 _ _ _ _ _)) rfl <| AJ_op 6 127 rfl (by kernel_rfl) rfl (GY_none rfl) <| O_box rfl rfl rfl fun b5 => ⟨fun h => absurd h (by decide),?_⟩
 refine aN 7 255 rfl rfl (P_assign rfl) rfl <| aD <| CJ_ret <| QJ_ent (fun h hh => sl_nil (t := tyI) h hh) <| QJ_ent (fun h hh => sl_nil (t := tyI) h hh) <| QJ_ent (Ent.trans (t2_ (t4_ (Ent.trans (fun h hh => optP_none h hh) <| t0_ (t2_ (t1_ eR))))) (OwnP_mk (v0 := s_0_legs) (v1 := s_0_size) (v2 := s_0_region) (v3 := s_0_log) (v4 := none) (v5 := (trkT words)) (v6 := []) (v7 := []) (h0 := b2) (h1 := 0) (h2 := X3) (h3 := ⟨none,0,0⟩) (h4 := ⟨none,0,0⟩))) ?_
 cases h
 exact fE (res1 Tryz.results15 rfl) b5 (t2_ (t1_ eR))
def volumegrouplaw21_MirrorEqual_l1_b (pieces : UInt8) (rec : MirS → ArrS → Int → Nat → Option ((Int × MirS × ArrS) ⊕ Bool)) (x33 : MirS) (x34 : ArrS) (x35 : Int) (x36 : Nat) : Option ((Int × MirS × ArrS) ⊕ Bool) :=
  if (((x36 : Nat) : Int) < (100 : Int)) then
    grd (inN64 ((1 + ((pieces % (5 : UInt8))).toNat))) <|
    Option.bind (mirror_Mirror_Resync x33 ((((1 + ((pieces % (5 : UInt8))).toNat) : Nat) : Int)) x34) fun r37 =>
    if (((r37.2.1 ≠ (0 : Int)) ∨ (x35 < r37.1)) ∨ ((r37.1 = x35) ∧ ((0 : Int) < r37.1))) then
      some (.inr false)
    else
      if (r37.1 = (0 : Int)) then
        some (.inl (r37.1,r37.2.2.1,r37.2.2.2))
      else
        rec r37.2.2.1 r37.2.2.2 r37.1 (x36 + 1)
  else
    some (.inl (x35,x33,x34))
def volumegrouplaw21_MirrorEqual_l1 (pieces : UInt8) : Nat → MirS → ArrS → Int → Nat → Option ((Int × MirS × ArrS) ⊕ Bool)
  | 0,_,_,_,_ => none
  | n + 1,x33,x34,x35,x36 => volumegrouplaw21_MirrorEqual_l1_b pieces (volumegrouplaw21_MirrorEqual_l1 pieces n) x33 x34 x35 x36
def volumegrouplaw21_MirrorEqual_l2_b (r6 : (Option ArrS) × Nat × Nat × Nat × Bool × (List UInt64)) (r66 : Int × MirS × ArrS) (rec : Nat → Option ((Unit) ⊕ Bool)) (x75 : Nat) : Option ((Unit) ⊕ Bool) :=
  if (((x75 : Nat) : Int) < ((r6.2.1 : Nat) : Int)) then
    if ((imC r66.2.2 (((x75 : Nat) : Int))) ≠ (0 : Int)) then
      some (.inr false)
    else
      Option.bind (volumegroupref02_Same ((imL r66.2.2 (0 : Int))) ((imL r66.2.2 (((x75 : Nat) : Int))))) fun r79 =>
      if (¬ r79 = true) then
        some (.inr false)
      else
        grd (inN64 (x75 + 1)) <|
        rec (x75 + 1)
  else
    some (.inl ())
def volumegrouplaw21_MirrorEqual_l2 (r6 : (Option ArrS) × Nat × Nat × Nat × Bool × (List UInt64)) (r66 : Int × MirS × ArrS) : Nat → Nat → Option ((Unit) ⊕ Bool)
  | 0,_ => none
  | n + 1,x75 => volumegrouplaw21_MirrorEqual_l2_b r6 r66 (volumegrouplaw21_MirrorEqual_l2 r6 r66 n) x75
def volumegrouplaw21_MirrorEqual (n_0 : UInt8) (l : List volumegroupmake_Step) (pieces : UInt8) : Option (Bool) :=
  Option.bind (volumegroupmake_Few l) fun r2 =>
  if (¬ r2 = true) then
    Option.bind (volumegrouplaw21_awake) fun r4 =>
    some r4
  else
    Option.bind (volumegrouplaw21_begun n_0) fun r6 =>
    Option.elim r6.1 (
      some false) fun o13 =>
    Option.bind (volumegrouplaw21_setting_owner o13 (((r6.2.1 : Nat) : Int)) (((r6.2.2.1 : Nat) : Int)) (((r6.2.2.2.1 : Nat) : Int)) r6.2.2.2.2.1 r6.2.2.2.2.2) fun r14 =>
    Option.bind (volumegroupmake_Owner_Play r14 l (-1 : Int) (0 : Int) (0 : Int) o13) fun r18 =>
    if (¬ r18.1 = true) then
      some false
    else
      Option.elim r18.2.1.X (
        some false) fun o25 =>
      seqO (volumegrouplaw21_MirrorEqual_l1 pieces FUEL o25 r18.2.2 (1048576 : Int) 0) fun a32 =>
      if (a32.1 ≠ (0 : Int)) then
        some false
      else
        Option.bind (mirror_Mirror_Dirty a32.2.1 a32.2.2) fun r62 =>
        if (((r62.length : Nat) : Int) ≠ (0 : Int)) then
          some false
        else
          Option.bind (mirror_Mirror_Flush a32.2.1 a32.2.2) fun r66 =>
          if (r66.1 ≠ (0 : Int)) then
            some false
          else
            if ((imC r66.2.2 (0 : Int)) ≠ (0 : Int)) then
              some false
            else
              seqO (volumegrouplaw21_MirrorEqual_l2 r6 r66 FUEL 1) fun a74 =>
              Option.bind (volumegroupmake_Owner_All ({ r18.2.1 with X := (some r66.2.1) }) false r66.2.2) fun r82 =>
              if r82.1 = true then
                Option.bind (volumegrouplaw21_awake) fun r84 =>
                some r84
              else
                some false
theorem L_volumegrouplaw21_MirrorEqual {W : World} {Al : HP} {vl : Value} {n_0 : UInt8} {l : List volumegroupmake_Step} {pieces : UInt8} {r : Bool} (rl : Reads Al tyvolumegroupmake_Step vl l) (h : volumegrouplaw21_MirrorEqual n_0 l pieces = some r) :
    CSpec Tryz.prog W 10 [.int .u8 (n_0.toNat : Int),vl,.int .u8 (pieces.toNat : Int)] [Al] (fun x : Unit => .bool r) (fun _ => True) (fun x F => Al :: F) := by
 refine CSpec.of_body Tryz.func10 rfl Tryz.ntmps10 rfl fun F => ?_
 show CJ _ _ _ _ _ _ (_ :: F)
 unfold volumegrouplaw21_MirrorEqual at h
 refine CJ_pure (len_of rl del0) fun hlen1 => sR <| oA rfl rfl <| nT <| CJ_seq <| sR <| oM rfl rfl ?_
 obtain ⟨r2,hr3,h⟩ := bind_e h
 refine oO <| O_call (L_volumegroupmake_Few rl hr3) rfl Tryz.call12 (Dels.cons del0 Dels.nil) rfl fun _ _ => oP (P_not rfl) rfl <| nT <| CJ_condP rfl (bT_not Iff.rfl) (fun hg1 => ?_) (fun hg1 => ?_)
 ·
  replace h := ite_t hg1 h
  refine sR ?_
  obtain ⟨r4,hr5,h⟩ := bind_e h
  refine oO <| O_call (L_volumegrouplaw21_awake hr5) rfl Tryz.call13 Dels.nil rfl fun _ _ => oA rfl rfl <| nT <| CJ_ret <| QJ_then_ret ?_
  cases h
  exact fE (res1 Tryz.results10 rfl) () eR
 ·
  replace h := ite_f hg1 h
  refine kT <| sR <| oM rfl rfl ?_
  obtain ⟨r6,hr7,h⟩ := bind_e h
  refine oO <| O_call (L_volumegrouplaw21_begun hr7) rfl Tryz.call14 Dels.nil rfl fun X8 _ => oM rfl rfl <| oP (P_extract rfl rfl) rfl <| oP (P_extract rfl rfl) rfl <| oO <| O_alloc Tryz.zeroValue28 rfl rfl fun b11 => oO <| O_storeN rfl rfl foc0 Tryz.sizeOf28 rfl rfl (by simp only [allOne,oneCell_oval,oneCell_oif,oneCell_oifc,Bool.true_and]; rfl) <| oA rfl rfl <| nT <| CJ_seq <| sR <| oP (P_fieldAddr rfl ⟨_,_,_,Tryz.runUnderlying28,rfl,rfl,Tryz.sizeOf26,rfl⟩) rfl <| oV (V_load rfl foc0 rfl Tryz.isAgg26) rfl ?_
  rcases opt_e h with ⟨ht12,h⟩ | ⟨o13,ht12,h⟩
  ·
   rw [ht12]
   refine RJ_ent (t0_ (t1_ (t1_ (eD eR)))) <| oP (P_eqlNN rfl rfl Tryz.underlying26) rfl <| nT <| CJ_condT rfl rfl <| sR <| oA rfl rfl <| nT <| CJ_ret <| QJ_then_ret ?_
   cases h
   exact fE (res1 Tryz.results10 rfl) () (t2_ (eD (eD eR)))
  ·
   rw [ht12]
   refine RJ_ent (Ent.takeC (A' := Arr X8.1 o13) del1 rfl eR) <| oP (P_eqlPN rfl rfl Tryz.underlying26) rfl <| nT <| CJ_condF rfl rfl <| kT <| sR <| oV (V_loadN rfl foc1 Tryz.isAgg28 Tryz.sizeOf28 rfl rfl) rfl <| oM rfl rfl ?_
   obtain ⟨r14,hr15,h⟩ := bind_e h
   refine oO <| O_call (L_volumegrouplaw21_setting_owner (Reads.rdp _ _ _) hr15) rfl Tryz.call15 (Dels.cons del0 (Dels.cons del1 Dels.nil)) rfl fun X16 _ => oA rfl rfl <| nT <| CJ_seq <| sR <| oM rfl rfl <| oM rfl rfl ?_
   obtain ⟨r18,hr19,h⟩ := bind_e h
   refine oO <| O_call (L_volumegroupmake_Owner_Play rl hr19) rfl Tryz.call29 (Dels.cons del2 (Dels.cons del3 (Dels.cons del0 Dels.nil))) rfl fun _ _ => oP (P_not rfl) rfl <| nT <| CJ_condP rfl (bT_not Iff.rfl) (fun hg2 => ?_) (fun hg2 => ?_)
   ·
    replace h := ite_t hg2 h
    refine sR <| oA rfl rfl <| nT <| CJ_ret <| QJ_then_ret ?_
    cases h
    exact fE (res1 Tryz.results10 rfl) () (t1_ (eD (eD (eD (eD eR)))))
   ·
    replace h := ite_f hg2 h
    refine kT <| CJ_seq <| CJ_entX (Ent.transX (t0_ eR) (OwnP_open (l := r18.2.1))) fun oc20 => lC del4 fun hlen22 => lC del5 fun hlen23 => CJ_region <| oM rfl rfl <| oP (P_nilCheck rfl) rfl <| oP (P_fieldAddr rfl ⟨_,_,_,Tryz.runUnderlying60,rfl,rfl,Tryz.sizeOf57,rfl⟩) rfl <| oV (V_load rfl foc0 rfl Tryz.isAgg57) rfl ?_
    rcases opt_e h with ⟨ht24,h⟩ | ⟨o25,ht24,h⟩
    ·
     rw [ht24]
     refine RJ_ent (t0_ (t0_ (t1_ (t1_ (t1_ (t1_ (t1_ (t1_ (t1_ (eD eR)))))))))) <| oP (P_typeAssertN rfl Tryz.underlying41 Tryz.zeroValue41) rfl <| oM rfl rfl <| oP (P_extract rfl rfl) rfl <| oP (P_extract rfl rfl) rfl <| oA rfl rfl <| oA rfl rfl <| RJ_nil <| QJ_ent (Ent.trans (t0_ (t0_ (Ent.trans (fun h hh => optP_none h hh) <| t0_ eR))) (OwnP_mk (v0 := r18.2.1.Open_1) (v1 := r18.2.1.Open_2) (v2 := r18.2.1.Open_3) (v3 := r18.2.1.Open_4) (v4 := none) (v5 := r18.2.1.T) (v6 := r18.2.1.Stale) (v7 := r18.2.1.Lost) (h0 := oc20.1) (h1 := 0) (h2 := oc20.2.2.1) (h3 := oc20.2.2.2.1) (h4 := oc20.2.2.2.2))) <| QJ_then <| CJ_seq <| sR <| oM rfl rfl <| oP (P_not rfl) rfl <| nT <| CJ_condT rfl rfl <| sR <| oA rfl rfl <| nT <| CJ_ret <| QJ_then_ret ?_
     cases h
     exact fE (res1 Tryz.results10 rfl) () (t1_ (eD (eD (eD (eD eR)))))
    ·
     rw [ht24]
     refine RJ_ent (Ent.takeC (A' := MirP X8.1 oc20.2.1 o25) del2 rfl eR) <| oP (P_typeAssertT rfl Tryz.underlying41) rfl <| oM rfl rfl <| oP (P_extract rfl rfl) rfl <| oP (P_extract rfl rfl) rfl <| oA rfl rfl <| oA rfl rfl <| RJ_nil <| QJ_ent (t0_ (t0_ (t0_ (t0_ (t0_ (t0_ (t0_ (t0_ (t1_ (eD eR)))))))))) <| QJ_then <| CJ_seq <| sR <| oM rfl rfl <| oP (P_not rfl) rfl <| nT <| CJ_condF rfl rfl <| kT <| sR <| oA rfl rfl <| nT <| CJ_seq <| sR <| oA rfl rfl <| nT ?_
     obtain ⟨y28,hl26,hK27⟩ := seq_e h
     refine CJ_cutT (X := Int × MirS × ArrS) [6,12,13,14,15,50,51,52,53,54,55,56,57,58,59,60,61,62,63,64,65,66,67,68,69,70,71,72,73,74,75,76,77,78,79,80,81] (fun a32 => ([(12,.int .i64 a32.1)] : Slots)) (fun a32 R => MirP X8.1 oc20.2.1 a32.2.1 :: Arr X8.1 a32.2.2 :: R) (fun a32 => y28 = .inl a32) (Dels.cons del0 (Dels.cons del6 Dels.nil)) ?_ ?_
     ·
      refine CJ_block <| CJ_loopR (X := Nat × MirS × ArrS × Int × Nat) [6,12,13,14,15,50,51,52,53,54,55,56,57,58,59,60,61,62,63,64,65,66,67,68,69,70,71,72,73,74,75,76,77,78,79,80,81] (fun ⟨n,x33,x34,x35,x36⟩ => ([(12,.int .i64 x35),(13,.int .i64 (((x36 : Nat) : Int)))] : Slots)) (fun ⟨n,x33,x34,x35,x36⟩ R => MirP X8.1 oc20.2.1 x33 :: Arr X8.1 x34 :: R) (fun ⟨n,x33,x34,x35,x36⟩ => volumegrouplaw21_MirrorEqual_l1 pieces n x33 x34 x35 x36 = some y28) (fun ⟨n,x33,x34,x35,x36⟩ => n) ⟨FUEL,o25,r18.2.2,(1048576 : Int),0⟩ ?_ ?_ (t0_ (t6_ eR)) ?_
      · exact hl26
      · exact ⟨rfl,rfl,True.intro⟩
      ·
       rintro ⟨n,x33,x34,x35,x36⟩ h
       cases n with
       | zero => exact none_e h
       | succ n => ?_
       replace h : volumegrouplaw21_MirrorEqual_l1_b pieces (volumegrouplaw21_MirrorEqual_l1 pieces n) x33 x34 x35 x36 = some y28 := h
       unfold volumegrouplaw21_MirrorEqual_l1_b at h
       show CJ _ _ _ _ _ (([(12,.int .i64 x35),(13,.int .i64 (((x36 : Nat) : Int)))] : Slots) ++ forget _ _) (MirP X8.1 oc20.2.1 x33 :: Arr X8.1 x34 :: _)
       refine CJ_seq <| sR <| oM rfl rfl <| oP (P_lss (a := ((x36 : Nat) : Int)) (b := (100 : Int)) rfl rfl) rfl <| nT <| CJ_condP rfl bT_dec (fun hg3 => ?_) (fun hg3 => ?_)
       ·
        replace h := ite_t hg3 h
        refine kT <| CJ_seq <| CJ_block <| sR <| oM rfl rfl <| oM rfl rfl <| oP (P_rem_u8 (a := pieces) (b := (5 : UInt8)) rfl rfl (by decide)) rfl <| oP (P_convSame rfl Tryz.runUnderlying5 Tryz.runUnderlying3 (wrap64_u _ (by have := ((pieces % (5 : UInt8))).toNat_lt; omega))) rfl ?_
        obtain ⟨hg4,h⟩ := grd_Ne h
        refine oP (PJ_eq (P_add (a := (1 : Int)) (b := ((((pieces % (5 : UInt8))).toNat : Nat) : Int)) rfl rfl (nat_in hg4)) rfl) rfl ?_
        obtain ⟨r37,hr38,h⟩ := bind_e h
        refine oO <| O_call (L_mirror_Mirror_Resync hr38) rfl Tryz.call27 (Dels.cons del0 (Dels.cons del0 Dels.nil)) rfl fun _ _ => oM rfl rfl <| oP (P_extract rfl rfl) rfl <| oP (P_extract rfl rfl) rfl <| oA rfl rfl <| oA rfl rfl <| nT <| CJ_seq <| sR <| oM rfl rfl <| oP (P_neq (a := r37.2.1) (b := (0 : Int)) rfl rfl) rfl <| oM rfl rfl <| RJ_mbF rfl rfl rfl (fun hG39 => have hP40 : ¬ (r37.2.1 ≠ (0 : Int)) := nP (bT_dec) hG39; VJ_P (P_move rfl)) <| RJ_mbF rfl rfl rfl (fun hG41 => have hP42 : ¬ (r37.2.1 ≠ (0 : Int)) := nP (bT_dec) hG41; VJ_P (P_move rfl)) <| RJ_mbF rfl rfl rfl (fun hG43 => have hP44 : ¬ (r37.2.1 ≠ (0 : Int)) := nP (bT_dec) hG43; VJ_P (P_gtr (a := r37.1) (b := x35) (mbx hG43 rfl) (mbx hG43 rfl))) <| oP (P_pickOr rfl rfl (fun hh => mbx (not_f hh) rfl)) rfl <| oM rfl rfl <| RJ_mbF rfl rfl rfl (fun hG45 => have hP46 : ¬ ((r37.2.1 ≠ (0 : Int)) ∨ (x35 < r37.1)) := nP ((bT_or bT_dec bT_dec)) hG45; VJ_P (P_move rfl)) <| RJ_mbF rfl rfl rfl (fun hG47 => have hP48 : ¬ ((r37.2.1 ≠ (0 : Int)) ∨ (x35 < r37.1)) := nP ((bT_or bT_dec bT_dec)) hG47; VJ_P (P_move rfl)) <| RJ_mbF rfl rfl rfl (fun hG49 => have hP50 : ¬ ((r37.2.1 ≠ (0 : Int)) ∨ (x35 < r37.1)) := nP ((bT_or bT_dec bT_dec)) hG49; VJ_P (P_eql (a := r37.1) (b := x35) (mbx hG49 rfl) (mbx hG49 rfl))) <| RJ_mbF rfl rfl rfl (fun hG51 => have hP52 : ¬ ((r37.2.1 ≠ (0 : Int)) ∨ (x35 < r37.1)) := nP ((bT_or bT_dec bT_dec)) hG51; VJ_P (P_move (mbx hG51 rfl))) ?_
        refine RJ_mbGT rfl rfl rfl (fun hG53 => have hP54 : ¬ ((r37.2.1 ≠ (0 : Int)) ∨ (x35 < r37.1)) := nP ((bT_or bT_dec bT_dec)) (and_l hG53); have hP55 : (r37.1 = x35) := (bT_dec).1 (and_r hG53); VJ_P (P_move rfl)) <| RJ_mbGT rfl rfl rfl (fun hG56 => have hP57 : ¬ ((r37.2.1 ≠ (0 : Int)) ∨ (x35 < r37.1)) := nP ((bT_or bT_dec bT_dec)) (and_l hG56); have hP58 : (r37.1 = x35) := (bT_dec).1 (and_r hG56); VJ_P (P_gtr (a := r37.1) (b := (0 : Int)) (mbx hG56 rfl) rfl)) <| RJ_mbF rfl rfl rfl (fun hG59 => have hP60 : ¬ ((r37.2.1 ≠ (0 : Int)) ∨ (x35 < r37.1)) := nP ((bT_or bT_dec bT_dec)) hG59; VJ_P (P_pickAnd (mbx hG59 rfl) (fun hh => mbx (and_i hG59 hh) rfl) rfl)) <| oP (P_pickOr rfl rfl (fun hh => mbx (not_f hh) rfl)) rfl <| nT <| CJ_condP rfl (bT_or (bT_or bT_dec bT_dec) (bT_and bT_dec bT_dec)) (fun hg5 => ?_) (fun hg5 => ?_)
        ·
         replace h := ite_t hg5 h
         refine sR <| oA rfl rfl <| nT <| CJ_ret <| QJ_then_ret <| QJ_block_ret <| QJ_then_ret <| QJ_round_ret <| QJ_block_ret <| QJ_then_ret <| QJ_ent (Ent.trans (t2_ (t2_ (t0_ (t1_ (t1_ (t1_ eR)))))) (OwnP_mk (v0 := r18.2.1.Open_1) (v1 := r18.2.1.Open_2) (v2 := r18.2.1.Open_3) (v3 := r18.2.1.Open_4) (v4 := (some r37.2.2.1)) (v5 := r18.2.1.T) (v6 := r18.2.1.Stale) (v7 := r18.2.1.Lost) (h0 := oc20.1) (h1 := oc20.2.1) (h2 := oc20.2.2.1) (h3 := oc20.2.2.2.1) (h4 := oc20.2.2.2.2))) ?_
         have hE := Option.some.inj h
         replace hE := seq_inr hK27 hE.symm
         subst hE
         exact fE (res1 Tryz.results10 rfl) () (t2_ (eD (eD (eD eR))))
        ·
         replace h := ite_f hg5 h
         refine kT <| sR <| oM rfl rfl <| oA rfl rfl <| nT <| sR <| oM rfl rfl <| oP (P_eql (a := r37.1) (b := (0 : Int)) rfl rfl) rfl <| nT <| CJ_condP rfl bT_dec (fun hg6 => ?_) (fun hg6 => ?_)
         ·
          replace h := ite_t hg6 h
          exact CJ_exit <| QJ_block_other rfl <| QJ_then_exit <| QJ_round_exit <| QJ_block_here <| cR (r37.1,r37.2.2.1,r37.2.2.2) (Option.some.inj h).symm ⟨rfl,True.intro⟩ eR
         ·
          replace h := ite_f hg6 h
          exact CJ_skip <| QJ_block_normal <| QJ_then <| CJ_region <| oM rfl rfl <| oP (PJ_eq (P_add (a := ((x36 : Nat) : Int)) (b := (1 : Int)) rfl rfl (by omega)) rfl) rfl <| oA rfl rfl <| RJ_nil <| nR ⟨n,r37.2.2.1,r37.2.2.2,r37.1,(x36 + 1)⟩ h ⟨rfl,rfl,True.intro⟩ eR
       ·
        replace h := ite_f hg3 h
        exact CJ_exit <| QJ_then_exit <| QJ_round_exit <| QJ_block_here <| cR (x35,x33,x34) (Option.some.inj h).symm ⟨rfl,True.intro⟩ eR
     ·
      rintro a32 hy61
      replace h := seq_inl hK27 hy61
      show CJ _ _ _ _ _ (([(12,.int .i64 a32.1)] : Slots) ++ forget _ _) (MirP X8.1 oc20.2.1 a32.2.1 :: Arr X8.1 a32.2.2 :: _)
      refine CJ_seq <| sR <| oM rfl rfl <| oP (P_neq (a := a32.1) (b := (0 : Int)) rfl rfl) rfl <| oM rfl rfl <| RJ_splitP 84 rfl bT_dec (fun hg7B hg7 => ?_) (fun hg7B hg7 => ?_)
      ·
       replace h := ite_t hg7 h
       refine RJ_gn (GY_no rfl rfl rfl hg7B) rfl rfl <| RJ_gn (GY_no rfl rfl rfl hg7B) rfl rfl <| RJ_gn (GY_no rfl rfl rfl hg7B) rfl rfl <| RJ_gn (GY_no rfl rfl rfl hg7B) rfl rfl <| oP (P_pickT rfl hg7B rfl) rfl <| oM rfl rfl <| RJ_gn (GY_no rfl rfl rfl rfl) rfl rfl <| RJ_gn (GY_no rfl rfl rfl rfl) rfl rfl <| RJ_gn (GY_no rfl rfl rfl rfl) rfl rfl <| oP (P_pickT rfl rfl rfl) rfl <| nT <| CJ_condT rfl rfl <| sR <| oA rfl rfl <| RJ_nil <| QJ_ent (t1_ (t6_ (eD (eD (eD (eD (eD (eD (eD eR))))))))) <| QJ_then <| CJ_ret <| QJ_then_ret ?_
       cases h
       exact fE (res1 Tryz.results10 rfl) () (t1_ (eD eR))
      ·
       replace h := ite_f hg7 h
       refine gP (GY_yes rfl rfl rfl hg7B) (P_move rfl) rfl ?_
       obtain ⟨r62,hr63,h⟩ := bind_e h
       refine RJ_gy (GY_yes rfl rfl rfl hg7B) <| O_call (L_mirror_Mirror_Dirty hr63) rfl Tryz.call22 (Dels.cons del0 (Dels.cons del0 Dels.nil)) rfl fun X64 _ => gV (GY_yes rfl rfl rfl hg7B) (V_len rfl foc2 (Reads.sl _ _ _) Tryz.runUnderlying45) rfl <| gP (GY_yes rfl rfl rfl hg7B) (P_neq (a := ((r62.length : Nat) : Int)) (b := (0 : Int)) rfl rfl) rfl <| oP (P_pickF rfl hg7B rfl) rfl <| oM rfl rfl <| RJ_splitP 90 rfl bT_dec (fun hg8B hg8 => ?_) (fun hg8B hg8 => ?_)
       ·
        replace h := ite_t hg8 h
        refine RJ_gn (GY_no rfl rfl rfl hg8B) rfl rfl <| RJ_gn (GY_no rfl rfl rfl hg8B) rfl rfl <| RJ_gn (GY_no rfl rfl rfl hg8B) rfl rfl <| oP (P_pickT rfl hg8B rfl) rfl <| RJ_nil <| QJ_ent (t0_ (t0_ (t1_ (t1_ (t1_ (t1_ (t1_ (t1_ (t1_ (eD eR)))))))))) <| QJ_then <| CJ_condT rfl rfl <| sR <| oA rfl rfl <| RJ_nil <| QJ_ent (t1_ (t6_ (eD (eD (eD (eD (eD (eD (eD eR))))))))) <| QJ_then <| CJ_ret <| QJ_then_ret ?_
        cases h
        exact fE (res1 Tryz.results10 rfl) () (t1_ (eD eR))
       ·
        replace h := ite_f hg8 h
        refine gP (GY_yes rfl rfl rfl hg8B) (P_move rfl) rfl ?_
        obtain ⟨r66,hr67,h⟩ := bind_e h
        refine RJ_gy (GY_yes rfl rfl rfl hg8B) <| O_call (L_mirror_Mirror_Flush hr67) rfl Tryz.call37 (Dels.cons del0 (Dels.cons del0 Dels.nil)) rfl fun _ _ => gP (GY_yes rfl rfl rfl hg8B) (P_neq (a := r66.1) (b := (0 : Int)) rfl rfl) rfl <| oP (P_pickF rfl hg8B rfl) rfl <| RJ_nil <| QJ_ent (t0_ (t0_ (t1_ (t1_ (t1_ (t1_ (t1_ (t1_ (t1_ (eD eR)))))))))) <| QJ_then <| CJ_condP rfl bT_dec (fun hg9 => ?_) (fun hg9 => ?_)
        ·
         replace h := ite_t hg9 h
         refine sR <| oA rfl rfl <| RJ_nil <| QJ_ent (t1_ (t6_ (eD (eD (eD (eD (eD (eD (eD eR))))))))) <| QJ_then <| CJ_ret <| QJ_then_ret ?_
         cases h
         exact fE (res1 Tryz.results10 rfl) () (t1_ (eD eR))
        ·
         replace h := ite_f hg9 h
         refine kT <| sR <| oP (P_fieldAddr rfl ⟨_,_,_,Tryz.runUnderlying28,rfl,rfl,Tryz.sizeOf26,rfl⟩) rfl <| oV (V_load rfl foc8 rfl Tryz.isAgg26) rfl <| oO <| O_call (c_ImageD) rfl Tryz.call24 (Dels.cons del1 Dels.nil) rfl fun X68 _ => RJ_pure (len_of (Reads.sl _ _ _) del0) fun hlen70 => oM rfl rfl <| oP (P_extract rfl rfl) rfl <| oP (P_extract rfl rfl) rfl <| oA rfl rfl <| oA rfl rfl <| nT <| CJ_seq <| sR <| oM rfl rfl <| oP (P_neq (a := (imC r66.2.2 (0 : Int))) (b := (0 : Int)) rfl rfl) rfl <| nT <| CJ_condP rfl bT_dec (fun hg10 => ?_) (fun hg10 => ?_)
         ·
          replace h := ite_t hg10 h
          refine sR <| oA rfl rfl <| RJ_nil <| QJ_ent (t1_ (t7_ (eD (eD (eD (eD (eD (eD (eD (eD eR)))))))))) <| QJ_then <| CJ_ret <| QJ_then_ret ?_
          cases h
          exact fE (res1 Tryz.results10 rfl) () (t1_ (eD eR))
         ·
          replace h := ite_f hg10 h
          refine kT <| CJ_seq <| sR <| oA rfl rfl <| nT <| CJ_ent (Ent.trans (t3_ (t3_ (t2_ (t2_ (t2_ (t2_ eR)))))) (OwnP_mk (v0 := r18.2.1.Open_1) (v1 := r18.2.1.Open_2) (v2 := r18.2.1.Open_3) (v3 := r18.2.1.Open_4) (v4 := (some r66.2.1)) (v5 := r18.2.1.T) (v6 := r18.2.1.Stale) (v7 := r18.2.1.Lost) (h0 := oc20.1) (h1 := oc20.2.1) (h2 := oc20.2.2.1) (h3 := oc20.2.2.2.1) (h4 := oc20.2.2.2.2))) ?_
          obtain ⟨y73,hl71,hK72⟩ := seq_e h
          refine CJ_cutT (X := Unit) [6,18,19,20,103,104,105,106,107,108,109,110,111,112,113,114,115,116,117,118,119,120,121,122,123] (fun _ => ([] : Slots)) (fun _ R => R) (fun _ => y73 = .inl ()) Dels.nil ?_ ?_
          ·
           refine CJ_block <| CJ_loopR (X := Nat × Nat) [6,18,19,20,103,104,105,106,107,108,109,110,111,112,113,114,115,116,117,118,119,120,121,122,123] (fun ⟨n,x75⟩ => ([(18,.int .i64 (((x75 : Nat) : Int)))] : Slots)) (fun ⟨n,x75⟩ R => R) (fun ⟨n,x75⟩ => volumegrouplaw21_MirrorEqual_l2 r6 r66 n x75 = some y73) (fun ⟨n,x75⟩ => n) ⟨FUEL,1⟩ ?_ ?_ eR ?_
           · exact hl71
           · exact ⟨rfl,True.intro⟩
           ·
            rintro ⟨n,x75⟩ h
            cases n with
            | zero => exact none_e h
            | succ n => ?_
            replace h : volumegrouplaw21_MirrorEqual_l2_b r6 r66 (volumegrouplaw21_MirrorEqual_l2 r6 r66 n) x75 = some y73 := h
            unfold volumegrouplaw21_MirrorEqual_l2_b at h
            show CJ _ _ _ _ _ (([(18,.int .i64 (((x75 : Nat) : Int)))] : Slots) ++ forget _ _) (_)
            refine CJ_seq <| sR <| oM rfl rfl <| oP (P_fieldAddr rfl ⟨_,_,_,Tryz.runUnderlying28,rfl,rfl,Tryz.sizeOf3,rfl⟩) rfl <| oV (V_load rfl foc4 rfl Tryz.isAgg3) rfl <| oP (P_lss (a := ((x75 : Nat) : Int)) (b := ((r6.2.1 : Nat) : Int)) rfl rfl) rfl <| nT <| CJ_condP rfl bT_dec (fun hg11 => ?_) (fun hg11 => ?_)
            ·
             replace h := ite_t hg11 h
             refine kT <| CJ_seq <| CJ_block <| sR <| oP (P_fieldAddr rfl ⟨_,_,_,Tryz.runUnderlying28,rfl,rfl,Tryz.sizeOf26,rfl⟩) rfl <| oV (V_load rfl foc4 rfl Tryz.isAgg26) rfl <| oM rfl rfl <| oO <| O_call (c_ImageD) rfl Tryz.call24 (Dels.cons del2 Dels.nil) rfl fun X76 _ => RJ_pure (len_of (Reads.sl _ _ _) del0) fun hlen78 => oM rfl rfl <| oP (P_extract rfl rfl) rfl <| oP (P_extract rfl rfl) rfl <| oA rfl rfl <| oA rfl rfl <| nT <| sR <| oM rfl rfl <| oP (P_neq (a := (imC r66.2.2 (((x75 : Nat) : Int)))) (b := (0 : Int)) rfl rfl) rfl <| oM rfl rfl <| RJ_splitP 118 rfl bT_dec (fun hg12B hg12 => ?_) (fun hg12B hg12 => ?_)
             ·
              replace h := ite_t hg12 h
              refine RJ_gn (GY_no rfl rfl rfl hg12B) rfl rfl <| RJ_gn (GY_no rfl rfl rfl hg12B) rfl rfl <| RJ_gn (GY_no rfl rfl rfl hg12B) rfl rfl <| RJ_gn (GY_no rfl rfl rfl hg12B) rfl rfl <| oP (P_pickT rfl hg12B rfl) rfl <| nT <| CJ_condT rfl rfl <| sR <| oA rfl rfl <| nT <| CJ_ret <| QJ_block_ret <| QJ_then_ret <| QJ_round_ret <| QJ_block_ret <| QJ_then_ret ?_
              have hE := Option.some.inj h
              replace hE := seq_inr hK72 hE.symm
              subst hE
              exact fE (res1 Tryz.results10 rfl) () (t4_ (eD (eD (eD (eD (eD eR))))))
             ·
              replace h := ite_f hg12 h
              refine gP (GY_yes rfl rfl rfl hg12B) (P_move rfl) rfl <| gP (GY_yes rfl rfl rfl hg12B) (P_move rfl) rfl ?_
              obtain ⟨r79,hr80,h⟩ := bind_e h
              refine RJ_gy (GY_yes rfl rfl rfl hg12B) <| O_call (L_volumegroupref02_Same (Reads.sl _ _ _) (Reads.sl _ _ _) hr80) rfl Tryz.call28 (Dels.cons del3 (Dels.cons del0 Dels.nil)) rfl fun _ _ => gP (GY_yes rfl rfl rfl hg12B) (P_not rfl) rfl <| oP (P_pickF rfl hg12B rfl) rfl <| nT <| CJ_condP rfl (bT_not Iff.rfl) (fun hg13 => ?_) (fun hg13 => ?_)
              ·
               replace h := ite_t hg13 h
               refine sR <| oA rfl rfl <| nT <| CJ_ret <| QJ_block_ret <| QJ_then_ret <| QJ_round_ret <| QJ_block_ret <| QJ_then_ret ?_
               have hE := Option.some.inj h
               replace hE := seq_inr hK72 hE.symm
               subst hE
               exact fE (res1 Tryz.results10 rfl) () (t4_ (eD (eD (eD (eD (eD eR))))))
              ·
               replace h := ite_f hg13 h
               refine CJ_skip <| QJ_block_normal <| QJ_then <| CJ_region <| oM rfl rfl ?_
               obtain ⟨hg14,h⟩ := grd_Ne h
               exact oP (PJ_eq (P_add (a := ((x75 : Nat) : Int)) (b := (1 : Int)) rfl rfl (nat_in hg14)) rfl) rfl <| oA rfl rfl <| RJ_nil <| nR ⟨n,(x75 + 1)⟩ h ⟨rfl,True.intro⟩ (t3_ (t0_ (t1_ (t1_ (t1_ (eD eR))))))
            ·
             replace h := ite_f hg11 h
             exact CJ_exit <| QJ_then_exit <| QJ_round_exit <| QJ_block_here <| cR () (Option.some.inj h).symm True.intro eR
          ·
           rintro _ hy81
           replace h := seq_inl hK72 hy81
           show CJ _ _ _ _ _ (([] : Slots) ++ forget _ _) (_)
           refine sR <| oM rfl rfl ?_
           obtain ⟨r82,hr83,h⟩ := bind_e h
           refine oO <| O_call (L_volumegroupmake_Owner_All hr83) rfl Tryz.call34 (Dels.cons del0 (Dels.cons del1 Dels.nil)) rfl fun _ _ => oM rfl rfl <| RJ_splitP 126 rfl Iff.rfl (fun hg15B hg15 => ?_) (fun hg15B hg15 => ?_)
           ·
            replace h := ite_t hg15 h
            obtain ⟨r84,hr85,h⟩ := bind_e h
            refine RJ_gy (GY_yes rfl rfl rfl hg15B) <| O_call (L_volumegrouplaw21_awake hr85) rfl Tryz.call13 Dels.nil rfl fun _ _ => oP (P_pickT rfl hg15B rfl) rfl <| oA rfl rfl <| nT <| CJ_ret ?_
            cases h
            exact fE (res1 Tryz.results10 rfl) () (t3_ (eD (eD (eD (eD eR)))))
           ·
            replace h := ite_f hg15 h
            refine RJ_gn (GY_no rfl rfl rfl hg15B) rfl rfl <| oP (P_pickF rfl hg15B rfl) rfl <| oA rfl rfl <| nT <| CJ_ret ?_
            cases h
            exact fE (res1 Tryz.results10 rfl) () (t3_ (eD (eD (eD (eD eR)))))
end Go.Proofs
namespace Go.Proofs
open Go.VG
section
variable {C : MC} {ws : List UInt64} {s : ArrS} {lv : LV} {K : Nat}
theorem owner_eq {s : ArrS} (hw : ws.length = C.sz) : volumegrouplaw21_setting_owner s (C.L : Int) (C.sz : Int) (C.rg : Int) C.lg ws = some (own0 C ws) := by
  have := C.hs
  unfold volumegrouplaw21_setting_owner
  rw [grd_t (decide_eq_true (by omega))]; rfl
theorem equal_l1 {pieces : UInt8} {f : Nat → UInt64} (hall : ∀ i,i < C.L → lv i = true) (hlg : lv C.L = C.lg) : ∀ (N i K : Nat) (m : MirS) (s : ArrS) (prev : Int) (c : Nat),100 - i < N → lsum C (drtyL m.dirty C.R) - c + i ≤ 12 → K + 100 * (lsum C (drtyL m.dirty C.R) - c + 1) ≤ 700000 → ((lsum C (drtyL m.dirty C.R) - c : Nat) : Int) ≤ prev → m.copied = (c : Int) → cpOk C (drtyL m.dirty C.R) c → MI C s lv m → Val C lv s f → ArrOk C.ns K s → s.down = false → s.fuse = 0 →
    ∃ d t,volumegrouplaw21_MirrorEqual_l1 pieces N m s prev i = some (.inl (0,mOf m d 0,t)) ∧ Qt C (K + 100 * (lsum C (drtyL m.dirty C.R) - c + 1)) s lv t ∧ d.length = m.dirty.length ∧ (∀ r,d.getD r false = true → m.dirty.getD r false = true) ∧ drtyL d C.R = []
  | 0,_,_,_,_,_,_,h,_,_,_,_,_,_,_,_,_,_ => absurd h (by omega)
  | N + 1,i,K,m,s,prev,c,h,hi,hK,hpv,hcp,hc,hmi,hv,hok,hdn,hf => by
    have hL := C.hL
    have hun : volumegrouplaw21_MirrorEqual_l1 pieces (N + 1) m s prev i = volumegrouplaw21_MirrorEqual_l1_b pieces (volumegrouplaw21_MirrorEqual_l1 pieces N) m s prev i := rfl
    rw [hun]
    unfold volumegrouplaw21_MirrorEqual_l1_b
    have hp5 : (pieces % 5).toNat < 5 := u8mod (by decide)
    rw [if_pos (by omega),grd_t (inN64_of (by omega))]
    obtain ⟨d,c',t,t1,t2,t3,t4,t5,t6⟩ := resync_eq (f := f) (n := 1 + (pieces % 5).toNat) hmi (nf_live hmi hall hlg) (fun j hj _ => hall j hj) hv hok hdn hf (by omega) ⟨0,by omega,hall 0 (by omega)⟩ (by omega) hcp hc
    rw [t1]; simp only [Option.bind_some]
    generalize hq : lsum C (drtyL m.dirty C.R) - c = q at hi hK hpv t6 ⊢
    generalize (pieces % 5).toNat = p5 at hp5 t6 ⊢
    rw [if_neg (by omega)]
    by_cases h0 : q - (1 + p5) = 0
    · rw [if_pos (by omega)]
      obtain ⟨z1,rfl⟩ := cpOk_end t5 (by omega)
      refine ⟨d,t,?_,t2.mono (by omega),t3,t4,z1⟩
      rw [h0]; rfl
    · rw [if_neg (by omega)]
      obtain ⟨d2,u,u1,u2,u3,u4,u5⟩ := equal_l1 (f := f) hall hlg N (i + 1) (K + 100) (mOf m d ((c' : Nat) : Int)) t (((q - (1 + p5) : Nat)) : Int) c' (by omega) (by show lsum C (drtyL d C.R) - c' + (i + 1) ≤ 12; omega) (by show K + 100 + 100 * (lsum C (drtyL d C.R) - c' + 1) ≤ _; omega) (by show ((lsum C (drtyL d C.R) - c' : Nat) : Int) ≤ _; omega) rfl t5 ((t2.mi hmi).dc t3 t4) (t2.val hv) t2.ok t2.dn t2.fz
      refine ⟨d2,u,?_,(t2.trans u2).mono (by show K + 100 + 100 * (lsum C (drtyL d C.R) - c' + 1) ≤ _; omega),by rw [u3]; exact t3,fun r hr => t4 r (u4 r hr),u5⟩
      rw [u1]; rfl
theorem equal_l2 {r6 : (Option ArrS) × Nat × Nat × Nat × Bool × (List UInt64)} {r66 : Int × MirS × ArrS} {L : Nat} {W : List UInt64} (hL : r6.2.1 = L) (hL6 : L ≤ 6) (hC : ∀ i,i < L → imC r66.2.2 ((i : Nat) : Int) = 0) (hI : ∀ i,i < L → imL r66.2.2 ((i : Nat) : Int) = W) (hW : W.length ≤ 1000) : ∀ (N i : Nat),L - i < N → 1 ≤ i → i ≤ L → volumegrouplaw21_MirrorEqual_l2 r6 r66 N i = some (.inl ())
  | 0,_,h,_,_ => absurd h (by omega)
  | N + 1,i,h,h1,hi => by
    have hun : volumegrouplaw21_MirrorEqual_l2 r6 r66 (N + 1) i = volumegrouplaw21_MirrorEqual_l2_b r6 r66 (volumegrouplaw21_MirrorEqual_l2 r6 r66 N) i := rfl
    rw [hun]
    unfold volumegrouplaw21_MirrorEqual_l2_b
    by_cases hlt : i < L
    · have hI0 : imL r66.2.2 (0 : Int) = W := hI 0 (by omega)
      rw [if_pos (by omega),if_neg (fun x => x (hC i hlt)),hI0,hI i hlt,same02_eq (by omega)]; simp only [Option.bind_some]
      rw [if_neg (by simp),grd_t (inN64_of (by omega))]
      exact equal_l2 hL hL6 hC hI hW N (i + 1) (by omega) (by omega) (by omega)
    · rw [if_neg (by omega)]
end
theorem mirrorEqual (n_0 : UInt8) (l : List volumegroupmake_Step) (pieces : UInt8) : volumegrouplaw21_MirrorEqual n_0 l pieces = some true := by
  unfold volumegrouplaw21_MirrorEqual
  rw [few_eq]; simp only [Option.bind_some]
  by_cases hl : l.length ≤ 24
  · rw [if_neg (by simpa using hl)]
    obtain ⟨a,b1,b2⟩ := begun_eq n_0
    rw [b1]; simp only [Option.bind_some,Option.elim_some]
    generalize CM n_0 = C at b2 ⊢
    have hL := C.hL
    have hs := C.hs
    have hF := fuel_big
    obtain ⟨R,hRR⟩ : ∃ R,R = C.R := ⟨_,rfl⟩
    rw [owner_eq b2.wl]; simp only [Option.bind_some]
    have hex : ∃ i,i < C.L ∧ (lvA C) i = true := ⟨0,by omega,lvA_leg (by omega)⟩
    have hall : ∀ i,i < C.L → (lvA C) i = true := fun i hi => lvA_leg hi
    obtain ⟨o',m,g1,g2,g3, -⟩ := b2.begin b2.oi rfl hex (fun h => by rw [← lvA_log]; exact h)
    obtain ⟨lv',o2,m2,s2,p1,p2,p3,p4,p5,p6⟩ := oplay (k := 0) (lose := (-1 : Int)) hl (by omega) (fun z => by omega) (by simp [lvA]) (fun z => by omega) g1 g2 g3
    obtain rfl := p5 (by omega)
    have e0 : (((0 : Nat)) : Int) = 0 := rfl
    rw [e0] at p1
    rw [p1]; simp only [Option.bind_some]
    rw [if_neg (by simp),p2.x]; simp only [Option.elim_some]
    have hls := lsum_sz (C := C) (d := m2.dirty) C.R
    have h0 : cpOk C (drtyL m2.dirty C.R) 0 := cpOk_zero (fun k hk => by obtain ⟨r,q1, -,q2⟩ := drtyL_mem hk; exact ⟨r,q1,q2⟩)
    have hv : Val C (lvA C) s2 (fun b => (o2.T.getD b s0).value) := fun b hb j hj hlj => (p2.kn b hb (fun x => x)).2 j hj hlj
    obtain ⟨d,t,t1,t2,t3,t4,t5⟩ := equal_l1 (pieces := pieces) hall lvA_log FUEL 0 40000 m2 s2 (1048576 : Int) 0 (by omega) (by omega) (by omega) (by omega) p6 h0 p2.mi hv p2.di.ok p2.dn p4
    have t2' := t2.mono (K' := 41400) (by omega)
    have hmi := (t2'.mi p2.mi).dc (c := 0) t3 t4
    rw [t1,seqO_inl,if_neg (by simp),mdirty_eq (m := mOf m2 d 0) (by rw [hmi.dl]; have := C.hR; omega),hmi.dl]; simp only [Option.bind_some]
    have t5' : drtyL (mOf m2 d 0).dirty C.R = [] := t5
    rw [t5',if_neg (by simp)]
    have hu := p2.qt t2' (by omega) hmi
    obtain ⟨e,m3,s3,w1, -,w2⟩ := oflush1 (p := fun _ => False) hu (nf_live hmi hall lvA_log) (by omega)
    rw [w1]; simp only [Option.bind_some]
    rcases w2 with ⟨rfl,v1,v2,v3,v4,v5⟩ | ⟨-,z,v2, -⟩ | ⟨-,z, -⟩
    · rw [if_neg (by simp)]
      have hok := v2.di.ok
      have hC : ∀ i,i < C.L → imC s3 ((i : Nat) : Int) = 0 := fun i hi => by
        have hd : i < s3.drv.length := hok.disk (by rw [MC.len]; omega)
        exact if_pos (show inR s3 ((i : Nat) : Int) from ⟨by omega,by omega⟩)
      have hlen : ∀ i,i < C.L → (nowL s3 i).length = C.sz := fun i hi => by rw [← size_nowL,hok.sz.size _ (by rw [MC.len]; omega),MC.leg hi]
      have hI : ∀ i,i < C.L → imL s3 ((i : Nat) : Int) = nowL s3 0 := fun i hi => by
        have hd : i < s3.drv.length := hok.disk (by rw [MC.len]; omega)
        have e1 : imL s3 ((i : Nat) : Int) = nowL s3 i := by unfold imL; rw [if_pos (show inR s3 ((i : Nat) : Int) from ⟨by omega,by omega⟩)]; rfl
        rw [e1]
        refine List.ext_getElem (by rw [hlen i hi,hlen 0 (by omega)]) fun b h1 h2 => ?_
        have hb : b < C.sz := by rw [← hlen i hi]; exact h1
        have k1 : now s3 i b = now s3 0 b := by rw [(v2.kn b hb (fun x => x)).2 i hi (hall i hi),(v2.kn b hb (fun x => x)).2 0 (by omega) (hall 0 (by omega))]
        have k2 : (nowL s3 i).getD b 0 = (nowL s3 0).getD b 0 := k1
        simpa [List.getD,h1,h2] using k2
      have hC0 : imC s3 (0 : Int) = 0 := hC 0 (by omega)
      rw [if_neg (fun x => x hC0),equal_l2 (L := C.L) (W := nowL s3 0) rfl (by omega) hC hI (by rw [hlen 0 (by omega)]; omega) FUEL 1 (by omega) (by omega) (by omega),seqO_inl]
      obtain ⟨o4,q1⟩ := oall_w (q := false) v2 v1 (by omega)
      rw [q1]; simp only [Option.bind_some]
      rw [if_pos trivial,awake21]; rfl
    · exact absurd (nf_live v2.mi hall lvA_log) z
    · exact absurd t2.fz z
  · rw [if_pos (by simpa using hl),awake21]; rfl
end Go.Proofs
