/- Sound: steps played to a device over an array's disks are borne out. (volumegroupmake_Sound__volumegrouplaw17_StripeSound_1) -/
import Derived.Test.YthgeeoahmjmnoaaPTrack
import Derived.Test.YthgeeoahmjmnoaaLStripeSound
namespace Go.Proofs
open Go.VG
theorem keep_l1 {w : UInt64} : ∀ (N i : Nat) (acc : List Bool), 192 - i < N → i ≤ 192 → acc.length = i → ∃ ks, volumegroupmake_Keep_l1 w N acc i = some ks
  | 0, _, _, h, _, _ => absurd h (by omega)
  | N + 1, i, acc, h, hi, ha => by
    show ∃ ks, volumegroupmake_Keep_l1_b _ _ _ _ = _
    unfold volumegroupmake_Keep_l1_b
    by_cases hlt : i < 192
    · rw [if_pos (by omega), grd_t (inLen_of (by omega))]
      exact keep_l1 N (i + 1) _ (by omega) (by omega) (by simp [ha])
    · rw [if_neg (by omega)]; exact ⟨_, rfl⟩
theorem keep_ok (w : UInt64) : ∃ ks, volumegroupmake_Keep w = some ks := by
  unfold volumegroupmake_Keep
  have hF := fuel_big
  generalize FUEL = N at hF ⊢
  obtain ⟨ks, h⟩ := keep_l1 (w := w) N 0 [] (by omega) (by omega) rfl
  exact ⟨ks, by rw [h]; rfl⟩
theorem at_ok (a : Int) {n : Nat} (hn : 0 < n) (hb : n ≤ 65536) : ∃ k : Nat, (a.tmod (n : Int) + (n : Int)).tmod (n : Int) = (k : Int) ∧ k < n ∧ -65536 < a.tmod (n : Int) ∧ a.tmod (n : Int) < 65536 := by
  have h1 : -(n : Int) < a.tmod n ∧ a.tmod n < n := by
    have h := Int.natAbs_tmod a n
    have h2 := Nat.mod_lt a.natAbs (show 0 < (n : Int).natAbs by omega)
    omega
  have h2 : 0 ≤ a.tmod n + n := by omega
  have h3 := Int.tmod_nonneg (a := a.tmod n + n) n h2
  have h4 := Int.tmod_lt_of_pos (a.tmod n + n) (show (0 : Int) < n by omega)
  exact ⟨((a.tmod n + n).tmod n).toNat, by omega, by omega, by omega, by omega⟩
section
variable {ns : List Nat} {n : Nat} {f : Nat → Nat × Nat} {ds : List Nat} {x : Dvc} {c1 : Int}
theorem again_eq (hx : MapD ns x n f ds) (hopen : ∀ s, InSz ns s → volumegrouplaw17_StripeSound_1 s c1 = some (some x, true)) {K : Nat} (hK : K ≤ 1000) {s : ArrS} {t : List Sec} (h : SInv ns n f K s t) (w : UInt64) :
    ∃ t' s', volumegroupmake_Track_Again__volumegrouplaw17_StripeSound_1 t s c1 w = some (some x, true, t', s') ∧ SInv ns n f K s' t' ∧ s'.down = false ∧ ∀ k, k < n → ∀ c, c ∈ cand s' (f k).1 (f k).2 → c = now s' (f k).1 (f k).2 := by
  obtain ⟨ks, hks⟩ := keep_ok w
  obtain ⟨h1, h2, h3⟩ := h.restart hx ks
  obtain ⟨t', h4, h5⟩ := all_eq hx h2 hK (q := true) (fun _ => h3) h1
  refine ⟨t', rsS s ks, ?_, h4, h2, h3⟩
  unfold volumegroupmake_Track_Again__volumegrouplaw17_StripeSound_1
  rw [hks]; simp only [Option.bind_some]
  have hop : ∀ s, InSz ns s → volumegrouplaw17_StripeSound_1 s c1 = some (some x, true) := hopen
  rw [grd_t (inLen_of (by have := h.wr; omega)), hop _ h1.sz]; simp only [Option.bind_some]
  rw [if_neg (by simp)]; simp only [Option.elim_some]
  rw [if_neg (by simp), hx.size _ h1.sz]; simp only [Option.bind_some]
  rw [if_neg (by rw [h1.len]; simp), h5]; rfl
theorem sound_l1 (hx : MapD ns x n f ds) (hopen : ∀ s, InSz ns s → volumegrouplaw17_StripeSound_1 s c1 = some (some x, true)) (hinj : ∀ i j, i < n → j < n → f i = f j → i = j) (hds : ∀ d ∈ ds, d < ns.length) (hn : 0 < n) (hb : n ≤ 65536) {initial : List UInt64} (hini : initial.length = n) {l : List volumegroupmake_Step} (hl : l.length ≤ 100) :
    ∀ (N i : Nat) (s : ArrS) (t : List Sec), l.length - i < N → i ≤ l.length → SInv ns n f i s t → s.down = false →
    ∃ s' t', SInv ns n f l.length s' t' ∧ volumegroupmake_Sound__volumegrouplaw17_StripeSound_1_l1 c1 initial l N s t (some x) i = some (.inl (s', t'))
  | 0, _, _, _, h, _, _, _ => absurd h (by omega)
  | N + 1, i, s, t, h, hi, hs, hdn => by
    show ∃ s' t', _ ∧ volumegroupmake_Sound__volumegrouplaw17_StripeSound_1_l1_b c1 initial l _ s t (some x) i = _
    unfold volumegroupmake_Sound__volumegrouplaw17_StripeSound_1_l1_b
    have hsm := hx.small
    by_cases hlt : i < l.length
    · have hrec : ∀ s t, SInv ns n f (i + 1) s t → s.down = false → ∃ s' t', SInv ns n f l.length s' t' ∧ volumegroupmake_Sound__volumegrouplaw17_StripeSound_1_l1 c1 initial l N s t (some x) (i + 1) = some (.inl (s', t')) := fun s t h1 h2 => sound_l1 hx hopen hinj hds hn hb hini hl N (i + 1) s t (by omega) (by omega) h1 h2
      generalize hS : l.getD i (⟨0, 0, 0, 0⟩ : volumegroupmake_Step) = S
      obtain ⟨k, hk1, hk, hlo, hhi⟩ := at_ok S.At hn hb
      simp only [hini, lt]
      rw [if_pos (by omega), grd_t (inI64_of (by omega)), hk1]
      have hfail : ∀ s t, SInv ns n f (i + 1) s t → ∃ s' t', SInv ns n f l.length s' t' ∧ (Option.bind (volumegroupmake_Track_Again__volumegrouplaw17_StripeSound_1 t s c1 S.Keep) fun r => if ¬ r.2.1 = true then some (Sum.inr (false, r.2.2.2)) else volumegroupmake_Sound__volumegrouplaw17_StripeSound_1_l1 c1 initial l N r.2.2.2 r.2.2.1 r.1 (i + 1)) = some (.inl (s', t')) := fun s t h1 => by
        obtain ⟨t', s', h2, h3, h4, -⟩ := again_eq hx hopen (by omega) h1 S.Keep
        obtain ⟨s'', t'', h5, h6⟩ := hrec s' t' h3 h4
        exact ⟨s'', t'', h5, by rw [h2]; simp only [Option.bind_some]; rw [if_neg (by simp)]; exact h6⟩
      have hs1 := hs.mono (Nat.le_succ i)
      by_cases k0 : S.Kind = 0
      · rw [if_pos k0]; simp only [Option.elim_some]
        obtain ⟨e, s', h1, h2, h3⟩ := hs.write hx hdn (by omega) hinj hk (v := S.Value)
        rw [h1]; simp only [Option.bind_some]
        rw [grd_t (decide_eq_true (hs.smallT (by omega)))]
        rcases h3 with ⟨rfl, h3⟩ | rfl
        · rw [if_neg (by decide), if_neg (by simp)]
          exact hrec _ _ h2 h3
        · rw [if_pos rfl]
          exact hfail _ _ h2
      · rw [if_neg k0]
        by_cases k1 : S.Kind = 1
        · rw [if_pos k1]; simp only [Option.elim_some]
          rw [hs.rd hx hdn hk]; simp only [Option.bind_some]
          obtain ⟨h1, h2, -⟩ := hs.reads hx hk (q := false) (fun e => by cases e)
          rw [if_pos trivial, grd_t (decide_eq_true (hs.smallT (by omega))), if_neg (by rw [h1]; simp), if_neg (by decide), if_neg (by simp)]
          exact hrec _ _ (h2.mono (Nat.le_succ i)) hdn
        · rw [if_neg k1]
          by_cases k2 : S.Kind = 2
          · rw [if_pos k2]; simp only [Option.elim_some]
            obtain ⟨s', h1, h2, h3⟩ := hs.flush hx hdn hds
            rw [h1]; simp only [Option.bind_some]
            rw [if_pos trivial, if_neg (by decide), if_neg (by simp)]
            exact hrec _ _ (h2.mono (Nat.le_succ i)) h3
          · rw [if_neg k2]
            by_cases k3 : S.Kind = 3
            · rw [if_pos k3, if_pos trivial]
              exact hfail _ _ hs1
            · rw [if_neg k3]
              by_cases k4 : S.Kind = 4
              · rw [if_pos k4, grd_t (inI64_of (by omega)), grd_t (inI64_of (by omega)), if_neg (by decide), if_neg (by simp)]
                exact hrec _ _ hs1.fuse hdn
              · rw [if_neg k4, if_neg (by decide), if_neg (by simp)]
                exact hrec _ _ hs1 hdn
    · rw [if_neg (by omega)]
      have : i = l.length := by omega
      subst this
      exact ⟨s, t, hs, rfl⟩
theorem sound_eq (hx : MapD ns x n f ds) (hopen : ∀ s, InSz ns s → volumegrouplaw17_StripeSound_1 s c1 = some (some x, true)) (hinj : ∀ i j, i < n → j < n → f i = f j → i = j) (hds : ∀ d ∈ ds, d < ns.length) (hb : n ≤ 65536) {initial : List UInt64} (hini : initial.length = n) {l : List volumegroupmake_Step} (hl : l.length ≤ 100)
    {s : ArrS} (h0 : SInv ns n f 0 s (trkT initial)) (hdn : s.down = false) : ∃ s', volumegroupmake_Sound__volumegrouplaw17_StripeSound_1 s c1 initial l = some (true, s') := by
  unfold volumegroupmake_Sound__volumegrouplaw17_StripeSound_1
  have hF := fuel_big
  generalize FUEL = N at hF ⊢
  rw [grd_t (decide_eq_true (by omega)), hopen _ h0.sz]; simp only [Option.bind_some]
  rw [if_neg (by simp)]; simp only [Option.elim_some]
  rw [hx.size _ h0.sz]; simp only [Option.bind_some]
  rw [if_neg (by rw [hini]; simp)]
  by_cases hn : n = 0
  · rw [if_pos (by omega)]; exact ⟨_, rfl⟩
  · rw [if_neg (by omega)]
    obtain ⟨s1, t1, h1, h2⟩ := sound_l1 hx hopen hinj hds (by omega) hb hini hl N 0 s (trkT initial) (by omega) (by omega) h0 hdn
    rw [h2, seqO_inl]
    obtain ⟨t2, s2, h3, h4, h5, h6⟩ := again_eq hx hopen (by omega) h1 0
    simp only [h3, Option.bind_some]
    rw [if_neg (by simp)]; simp only [Option.elim_some]
    obtain ⟨t3, h7, h8⟩ := all_eq hx h5 (by omega) (q := true) (fun _ => h6) h4
    rw [h8]; exact ⟨_, rfl⟩
end
end Go.Proofs
