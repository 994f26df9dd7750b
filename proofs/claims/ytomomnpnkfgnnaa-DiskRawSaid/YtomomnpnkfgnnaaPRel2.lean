/- An array and its reference stay together under all calls. -/
import Derived.Test.YtomomnpnkfgnnaaPMod
namespace Go.Proofs
open Go.VG
theorem look_perm {κ ν : Type} [DecidableEq κ] {l l' : List (κ × ν)} (hp : l.Perm l') (hn : (l.map (·.1)).Nodup) (k : κ) : lookM l k = lookM l' k := by
  induction hp with
  | nil => rfl
  | cons a _ ih =>
    obtain ⟨x, y⟩ := a
    rw [List.map_cons, List.nodup_cons] at hn
    simp only [lookM]
    rw [ih hn.2]
  | swap a b l =>
    obtain ⟨x, y⟩ := a
    obtain ⟨x', y'⟩ := b
    simp only [List.map_cons, List.nodup_cons, List.mem_cons, not_or] at hn
    simp only [lookM]
    by_cases h1 : k = x'
    · by_cases h2 : k = x
      · exact absurd (h1.symm.trans h2) hn.1.1
      · simp [h1, h2]
        intro h3
        exact absurd h3 hn.1.1
    · simp [h1]
  | trans h1 _ ih1 ih2 => rw [ih1 hn, ih2 ((h1.map _).nodup_iff.1 hn)]
section
variable {s s' : ArrS} {m : ModS} {d a : Int} {v : UInt64} {t : Bool} {im : List UInt64} {ks : List Bool} {zs : List Int} {i k : Nat}
/-- The bad sectors in another order. -/
theorem Rel.perm (h : Rel s m) {b : List ((Int × Int) × Unit)} (hp : b.Perm s.bad) : Rel { s with bad := b } m := by
  have hn : (b.map (·.1)).Nodup := (hp.map _).nodup_iff.2 h.nd
  refine ⟨h.coh.with, hn, h.st, h.wr, h.mi, h.bl, h.br, fun i a hi ha => ?_, h.dn, h.fu, h.ct⟩
  rw [h.bb i a hi ha]
  unfold isBad
  rw [look_perm hp hn]
theorem boolSetR {l : List Bool} {i j : Nat} {x : Bool} (h : i < l.length) : (l.set i x).getD j false = if j = i then x else l.getD j false := by
  simp only [List.getD, List.getElem?_set]
  by_cases e : i = j
  · subst e; simp [h]
  · rw [if_neg e, if_neg (fun x => e x.symm)]
theorem rowSet {l : List (List Bool)} {i j : Nat} {x : List Bool} (h : i < l.length) : (l.set i x).getD j [] = if j = i then x else l.getD j [] := by
  simp only [List.getD, List.getElem?_set]
  by_cases e : i = j
  · subst e; simp [h]
  · rw [if_neg e, if_neg (fun x => e x.symm)]
theorem isBad_setM {b c : Int} : isBad { s with bad := setM s.bad (d, a) () } b c = if (b, c) = (d, a) then true else isBad s b c := by
  show (lookM (setM s.bad (d, a) ()) (b, c)).isSome = _
  rw [lookM_setM]; split <;> rfl
theorem isBad_delM {b c : Int} (hn : (s.bad.map (·.1)).Nodup) : isBad { s with bad := delM s.bad (d, a) } b c = if (b, c) = (d, a) then false else isBad s b c := by
  show (lookM (delM s.bad (d, a)) (b, c)).isSome = _
  rw [lookM_delM _ _ _ hn]; split <;> rfl
/-- One mark of a row changed, in the set and in the rows. -/
theorem bb_set (h : Rel s m) (hi : i < s.drv.length) (hk : k < s.size i) {B : Int → Int → Bool} (hB : ∀ b c, B b c = if (b, c) = ((i : Int), (k : Int)) then t else isBad s b c) :
    (m.ba.set i ((m.ba.getD i []).set k t)).length = s.drv.length ∧ (∀ j, j < s.drv.length → ((m.ba.set i ((m.ba.getD i []).set k t)).getD j []).length = s.size j) ∧ ∀ j a, j < s.drv.length → a < s.size j → ((m.ba.set i ((m.ba.getD i []).set k t)).getD j []).getD a false = B j a := by
  have hil : i < m.ba.length := by rw [h.bl]; exact hi
  have hkl : k < (m.ba.getD i []).length := by rw [h.br i hi]; exact hk
  refine ⟨by rw [List.length_set]; exact h.bl, fun j hj => ?_, fun j a hj ha => ?_⟩
  · rw [rowSet hil]; split
    · rename_i y; subst y; rw [List.length_set]; exact h.br _ hj
    · exact h.br j hj
  · rw [rowSet hil, hB]
    by_cases y : j = i
    · subst y
      rw [if_pos rfl, boolSetR hkl]
      by_cases z : a = k
      · subst z; rw [if_pos rfl, if_pos rfl]
      · rw [if_neg z, if_neg (fun u => z (by have := (Prod.mk.inj u).2; omega))]
        exact h.bb j a hj ha
    · rw [if_neg y, if_neg (fun u => y (by have := (Prod.mk.inj u).1; omega))]
      exact h.bb j a hj ha
theorem Rel.wrS (h : Rel s m) : Rel (Go.Proofs.wrS s d a v) (mWrS m d a v) := by
  unfold mWrS
  rw [h.wrC, h.fu]
  by_cases hc : Go.Proofs.wrC s d a = 0
  · rw [if_neg (fun y => y hc)]
    by_cases hf : s.fuse = 1
    · rw [if_pos hf, wrS_fuse hc hf]
      exact ⟨h.coh.with, h.nd, h.st, h.wr, h.mi, h.bl, h.br, h.bb, rfl, rfl, h.ct⟩
    · have hcoh := coh_wrS (d := d) (a := a) (v := v) h.coh
      obtain ⟨-, i, k, rfl, rfl, g1, g2⟩ := wr_ok hc
      rw [if_neg hf]
      rw [wrS_ok hc hf] at hcoh ⊢
      have hsz : ∀ x, ArrS.size { s with drv := setNow s i k v, bad := delM s.bad ((i : Int), (k : Int)), log := s.log ++ [⟨i, k, v⟩], fuse := s.fuse - 1, writes := s.writes + 1 } x = s.size x := fun x => (setNow_size (k := k) (j := x) (v := v) g1).1
      obtain ⟨q1, q2, q3⟩ := bb_set (t := false) h g1 g2 (B := fun b c => isBad { s with drv := setNow s i k v, bad := delM s.bad ((i : Int), (k : Int)), log := s.log ++ [⟨i, k, v⟩], fuse := s.fuse - 1, writes := s.writes + 1 } b c) (fun b c => isBad_delM h.nd)
      refine ⟨hcoh, nodup_delM _ _ h.nd, ?_, ?_, ?_, ?_, fun j hj => ?_, fun j a hj ha => ?_, h.dn, rfl, ?_⟩
      · show m.st = (setNow s i k v).map Drive.dur
        rw [h.st]; unfold setNow
        refine Eq.symm (map_set_at (d := d0) ?_)
        rfl
      · show m.wr ++ _ = s.log ++ _
        rw [h.wr]; rfl
      · show m.mi = (setNow s i k v).map Drive.miss
        rw [h.mi]; unfold setNow
        refine Eq.symm (map_set_at (d := d0) ?_)
        rfl
      · show _ = (setNow s i k v).length
        rw [setNow_len]; exact q1
      · rw [hsz]
        exact q2 j (by rw [setNow_len] at hj; exact hj)
      · rw [hsz] at ha
        exact q3 j a (by rw [setNow_len] at hj; exact hj) ha
      · show m.ct + 1 = s.writes + 1
        rw [h.ct]
  · rw [if_pos hc, wrS_bad hc]; exact h
theorem stGo_all : ∀ (log : List Rec) (n : Nat) (st : List (List UInt64)), i < st.length → stGo (i : Int) true ks n log st = st.set i (setAll i log (st.getD i []))
  | [], _, st, hi => by
    show st = st.set i (st.getD i [])
    simp [List.getD, hi]
  | r :: log, n, st, hi => by
    show stGo (i : Int) true ks (n + 1) log (if 0 ≤ (i : Int) ∧ (r.d : Int) ≠ (i : Int) then st else if true = true ∨ ks.getD n false = true then putR st r else st) = st.set i (setAll i log (if r.d = i then (st.getD i []).set r.a r.v else st.getD i []))
    by_cases hr : r.d = i
    · rw [if_neg (by omega), if_pos (.inl rfl), if_pos hr]
      have hp : putR st r = st.set i ((st.getD i []).set r.a r.v) := by unfold putR; rw [hr]
      rw [hp, stGo_all log (n + 1) _ (by simpa using hi), List.set_set]
      have : (st.set i ((st.getD i []).set r.a r.v)).getD i [] = (st.getD i []).set r.a r.v := by simp [List.getD, hi]
      rw [this]
    · rw [if_pos ⟨by omega, by omega⟩, if_neg hr]
      exact stGo_all log (n + 1) st hi
theorem rest_eq : rest (i : Int) s.log = others i s.log := by
  unfold rest others
  congr 1
  funext r
  exact decide_eq_decide.2 ⟨fun h => by omega, fun h => ⟨by omega, by omega⟩⟩
theorem Rel.flS (h : Rel s m) : Rel (Go.Proofs.flS s d) (mFlS m d) := by
  unfold mFlS
  rw [h.flC]
  by_cases hc : Go.Proofs.flC s d = 0
  · have hcoh := coh_flS (d := d) h.coh
    obtain ⟨i, rfl, hi⟩ := fl_ok hc
    rw [if_neg (fun y => y hc)]
    rw [flS_ok hc] at hcoh ⊢
    have hdrv : ∀ x, ((s.drv.set i { s.drv.getD i d0 with dur := flDur (s.drv.getD i d0).now i s.log (s.drv.getD i d0).dur }).getD x d0).now = (s.drv.getD x d0).now := fun x => by
      rw [set_at hi]; split
      · rename_i y; rw [y]
      · rfl
    have hsz : ∀ x, ArrS.size { s with drv := s.drv.set i { s.drv.getD i d0 with dur := flDur (s.drv.getD i d0).now i s.log (s.drv.getD i d0).dur }, log := others i s.log } x = s.size x := fun x => congrArg List.length (hdrv x)
    refine ⟨hcoh, h.nd, ?_, ?_, ?_, ?_, fun j hj => ?_, fun j a hj ha => ?_, h.dn, h.fu, h.ct⟩
    · show stGo (i : Int) true [] 0 m.wr m.st = (s.drv.set i _).map Drive.dur
      rw [stGo_all _ _ _ (by rw [h.cnt]; exact hi), h.wr, h.row, setAll_now h.coh, h.st, List.map_set]
      exact congrArg _ (flDur_now (i := i) h.coh).symm
    · show rest (i : Int) m.wr = others i s.log
      rw [h.wr]; exact rest_eq
    · show m.mi = (s.drv.set i _).map Drive.miss
      rw [h.mi]
      refine Eq.symm (map_set_at (d := d0) ?_)
      rfl
    · show m.ba.length = (s.drv.set i _).length
      rw [List.length_set]; exact h.bl
    · rw [hsz]; exact h.br j (by simpa using hj)
    · rw [hsz] at ha; exact h.bb j a (by simpa using hj) ha
  · rw [if_pos hc, flS_bad hc]; exact h
theorem Rel.fuS (h : Rel s m) {n : Int} : Rel { s with fuse := n.toNat } (mFuS m n) := ⟨h.coh.with, h.nd, h.st, h.wr, h.mi, h.bl, h.br, h.bb, h.dn, rfl, h.ct⟩
theorem putR_dur {ds : List Drive} {r : Rec} : putR (ds.map Drive.dur) r = (putD ds r).map Drive.dur := by
  unfold putR putD
  rw [List.map_set]
  have : (ds.map Drive.dur).getD r.d [] = (ds.getD r.d d0).dur := by
    simp only [List.getD, List.getElem?_map]
    cases ds[r.d]? <;> rfl
  rw [this]
theorem stGo_rs : ∀ (log : List Rec) (n : Nat) (ds : List Drive), stGo (-1) false ks n log (ds.map Drive.dur) = (rsGo ks n log ds).map Drive.dur
  | [], _, _ => rfl
  | r :: log, n, ds => by
    show stGo (-1) false ks (n + 1) log (if 0 ≤ (-1 : Int) ∧ (r.d : Int) ≠ -1 then ds.map Drive.dur else if false = true ∨ ks.getD n false = true then putR (ds.map Drive.dur) r else ds.map Drive.dur) = (rsGo ks (n + 1) log (if ks.getD n false = true then putD ds r else ds)).map Drive.dur
    rw [if_neg (fun y => absurd y.1 (by decide))]
    by_cases hk : ks.getD n false = true
    · rw [if_pos (.inr hk), if_pos hk, putR_dur]; exact stGo_rs log (n + 1) _
    · rw [if_neg (fun y => y.elim (fun z => by cases z) hk), if_neg hk]; exact stGo_rs log (n + 1) _
theorem rsGo_miss : ∀ (log : List Rec) (n : Nat) (ds : List Drive), (rsGo ks n log ds).map Drive.miss = ds.map Drive.miss
  | [], _, _ => rfl
  | r :: log, n, ds => by
    show (rsGo ks (n + 1) log (if ks.getD n false = true then putD ds r else ds)).map Drive.miss = _
    rw [rsGo_miss log]
    split
    · unfold putD
      refine map_set_at (d := d0) ?_
      rfl
    · rfl
theorem Rel.rsS (h : Rel s m) : Rel (Go.Proofs.rsS s ks) (mRsS m ks) := by
  have hl : (Go.Proofs.rsS s ks).drv.length = s.drv.length := by
    show ((rsGo ks 0 s.log s.drv).map settleD).length = _
    rw [List.length_map, (rsGo_keep ks s.log 0 s.drv 0).1]
  refine ⟨h.coh.rs, h.nd, ?_, ?_, ?_, by rw [hl]; exact h.bl, fun j hj => ?_, fun j a hj ha => ?_, rfl, rfl, h.ct⟩
  · show stGo (-1) false ks 0 m.wr m.st = ((rsGo ks 0 s.log s.drv).map settleD).map Drive.dur
    rw [h.st, h.wr, stGo_rs, List.map_map]; rfl
  · show rest (-1) m.wr = []
    unfold rest
    rw [List.filter_eq_nil_iff]
    intro r _ y
    exact absurd (of_decide_eq_true y).1 (by decide)
  · show m.mi = ((rsGo ks 0 s.log s.drv).map settleD).map Drive.miss
    rw [h.mi, List.map_map]
    exact (rsGo_miss s.log 0 s.drv).symm
  · rw [size_rs h.coh]; exact h.br j (by rw [hl] at hj; exact hj)
  · rw [size_rs h.coh] at ha; exact h.bb j a (by rw [hl] at hj; exact hj) ha
theorem Rel.smS (h : Rel s m) : Rel (Go.Proofs.smS s d t) (mSmS m d t) := by
  unfold mSmS
  by_cases hh : mIn m d
  · have hr := h.in_.1 hh
    have hcoh := coh_smS (d := d) (t := t) h.coh
    obtain ⟨i, rfl⟩ := Int.eq_ofNat_of_zero_le hh.1
    have hi : i < s.drv.length := by have := hr.2; omega
    rw [if_pos hh]
    rw [smS_ok hr] at hcoh ⊢
    have hdrv : ∀ x, ((s.drv.set i { s.drv.getD i d0 with miss := t }).getD x d0).now = (s.drv.getD x d0).now := fun x => by
      rw [set_at hi]; split
      · rename_i y; rw [y]
      · rfl
    have hsz : ∀ x, ArrS.size { s with drv := s.drv.set i { s.drv.getD i d0 with miss := t } } x = s.size x := fun x => congrArg List.length (hdrv x)
    refine ⟨hcoh, h.nd, ?_, h.wr, ?_, ?_, fun j hj => ?_, fun j a hj ha => ?_, h.dn, h.fu, h.ct⟩
    · show m.st = (s.drv.set i _).map Drive.dur
      rw [h.st]
      refine Eq.symm (map_set_at (d := d0) ?_)
      rfl
    · show m.mi.set ((i : Int)).toNat t = (s.drv.set i _).map Drive.miss
      rw [h.mi, List.map_set, Int.toNat_natCast]
    · show m.ba.length = (s.drv.set i _).length
      rw [List.length_set]; exact h.bl
    · rw [hsz]; exact h.br j (by simpa using hj)
    · rw [hsz] at ha; exact h.bb j a (by simpa using hj) ha
  · rw [if_neg hh, smS_bad (fun y => hh (h.in_.2 y))]; exact h
theorem Rel.sbS (h : Rel s m) : Rel (Go.Proofs.sbS s d a t) (mSbS m d a t) := by
  unfold mSbS
  have hsb := h.sbC (d := d) (a := a)
  unfold mSbC at hsb
  by_cases hh : mHas m d a
  · rw [if_pos hh] at hsb
    obtain ⟨g1, g2⟩ := h.has.1 hh
    obtain ⟨i, k, rfl, rfl, g5, g6⟩ := locpla g1 g2
    rw [if_pos hh, Int.toNat_natCast, Int.toNat_natCast]
    cases t
    · obtain ⟨q1, q2, q3⟩ := bb_set (t := false) h g5 g6 (B := fun b c => isBad { s with bad := delM s.bad ((i : Int), (k : Int)) } b c) (fun b c => isBad_delM h.nd)
      rw [sbS_f hsb.symm]
      exact ⟨h.coh.with, nodup_delM _ _ h.nd, h.st, h.wr, h.mi, q1, q2, q3, h.dn, h.fu, h.ct⟩
    · obtain ⟨q1, q2, q3⟩ := bb_set (t := true) h g5 g6 (B := fun b c => isBad { s with bad := setM s.bad ((i : Int), (k : Int)) () } b c) (fun b c => isBad_setM)
      rw [sbS_t hsb.symm]
      exact ⟨h.coh.with, nodup_setM _ _ _ h.nd, h.st, h.wr, h.mi, q1, q2, q3, h.dn, h.fu, h.ct⟩
  · rw [if_neg hh] at hsb
    rw [if_neg hh, sbS_bad (by rw [← hsb]; decide)]; exact h
theorem delUp_look {b : List ((Int × Int) × Unit)} (hn : (b.map (·.1)).Nodup) {x y : Int} : ∀ n : Nat, ((delUpTo b d n).map (·.1)).Nodup ∧ lookM (delUpTo b d n) (x, y) = if x = d ∧ 0 ≤ y ∧ y < (n : Int) then none else lookM b (x, y)
  | 0 => ⟨hn, by rw [if_neg (by omega)]; rfl⟩
  | n + 1 => by
    obtain ⟨h1, h2⟩ := delUp_look hn (x := x) (y := y) n
    rw [← delUpTo_step]
    refine ⟨nodup_delM _ _ h1, ?_⟩
    rw [lookM_delM _ _ _ h1, h2]
    by_cases hx : (x, y) = (d, (n : Int))
    · have g1 := (Prod.mk.inj hx).1
      have g2 := (Prod.mk.inj hx).2
      rw [if_pos hx, if_pos ⟨g1, by omega, by omega⟩]
    · rw [if_neg hx]
      by_cases hy : x = d ∧ 0 ≤ y ∧ y < (n : Int)
      · rw [if_pos hy, if_pos ⟨hy.1, hy.2.1, by omega⟩]
      · rw [if_neg hy, if_neg (fun u => by
          by_cases z : y = (n : Int)
          · exact hx (by rw [u.1, z])
          · exact hy ⟨u.1, u.2.1, by omega⟩)]
theorem stGo_no : ∀ (log : List Rec) (n : Nat) (st : List (List UInt64)), stGo d false [] n log st = st
  | [], _, _ => rfl
  | r :: log, n, st => by
    show stGo d false [] (n + 1) log (if 0 ≤ d ∧ (r.d : Int) ≠ d then st else if false = true ∨ ([] : List Bool).getD n false = true then putR st r else st) = st
    have : (if 0 ≤ d ∧ (r.d : Int) ≠ d then st else if false = true ∨ ([] : List Bool).getD n false = true then putR st r else st) = st := by
      split
      · rfl
      · rw [if_neg (by simp)]
    rw [this]; exact stGo_no log (n + 1) st
theorem Rel.ldS (h : Rel s m) : Rel (Go.Proofs.ldS s d im) (mLdS m d im) := by
  unfold mLdS
  rw [h.ldC]
  by_cases hc : Go.Proofs.ldC s d im = 0
  · have hr : inR s d := by
      unfold Go.Proofs.ldC at hc
      split at hc
      · assumption
      · cases hc
    have hcoh := coh_ldS (d := d) (im := im) h.coh
    obtain ⟨i, rfl⟩ := Int.eq_ofNat_of_zero_le hr.1
    obtain ⟨hi, hl, e0⟩ := ldS_ok hc
    rw [if_pos hc, stGo_no]
    rw [e0] at hcoh ⊢
    have hsz : ∀ x, ArrS.size ⟨s.drv.set i ⟨im, im, (s.drv.getD i d0).miss⟩, delUpTo s.bad (i : Int) im.length, s.log.filter fun r => !decide ((r.d : Int) = (i : Int)), s.fuse, s.down, s.writes⟩ x = s.size x := fun x => by
      show ((s.drv.set i _).getD x d0).now.length = (s.drv.getD x d0).now.length
      rw [set_at hi]; split
      · rename_i y; rw [y]; exact hl
      · rfl
    have hil : i < m.ba.length := by rw [h.bl]; exact hi
    refine ⟨hcoh, (delUp_look h.nd (x := 0) (y := 0) im.length).1, ?_, ?_, ?_, ?_, fun j hj => ?_, fun j a hj ha => ?_, h.dn, h.fu, h.ct⟩
    · show m.st.set ((i : Int)).toNat im = (s.drv.set i _).map Drive.dur
      rw [h.st, List.map_set, Int.toNat_natCast]
    · show rest (i : Int) m.wr = s.log.filter _
      rw [h.wr]
      unfold rest
      congr 1
      funext r
      by_cases y : (r.d : Int) = (i : Int)
      · simp [y]
      · simp [y]
    · show m.mi = (s.drv.set i _).map Drive.miss
      rw [h.mi]
      refine Eq.symm (map_set_at (d := d0) ?_)
      rfl
    · show (m.ba.set ((i : Int)).toNat _).length = (s.drv.set i _).length
      rw [List.length_set, List.length_set]; exact h.bl
    · rw [hsz]
      show ((m.ba.set ((i : Int)).toNat (List.replicate im.length false)).getD j []).length = _
      rw [Int.toNat_natCast, rowSet hil]; split
      · rename_i y; rw [y, List.length_replicate, hl]; rfl
      · exact h.br j (by simpa using hj)
    · rw [hsz] at ha
      have hj' : j < s.drv.length := by simpa using hj
      show ((m.ba.set ((i : Int)).toNat (List.replicate im.length false)).getD j []).getD a false = (lookM (delUpTo s.bad (i : Int) im.length) ((j : Int), (a : Int))).isSome
      rw [Int.toNat_natCast, rowSet hil, (delUp_look h.nd im.length).2]
      by_cases y : j = i
      · subst y
        have ha' : a < im.length := by rw [hl]; exact ha
        rw [if_pos rfl, if_pos ⟨rfl, by omega, by omega⟩]
        simp [List.getD, List.getElem?_replicate, ha']
      · rw [if_neg y, if_neg (fun u => y (by have := u.1; omega))]
        exact h.bb j a hj' ha
  · rw [if_neg hc]
    have : Go.Proofs.ldS s d im = s := if_neg hc
    rw [this]; exact h
theorem Rel.newS : Rel (Go.Proofs.newS zs) (mNewS zs) := by
  have hs : ∀ i, i < zs.length → (Go.Proofs.newS zs).drv.getD i d0 = mkD (zs.getD i 0) := fun i hi => by simp [Go.Proofs.newS, List.getD, hi]
  have hb : ∀ i, i < zs.length → (mNewS zs).ba.getD i [] = List.replicate (zs.getD i 0).toNat false := fun i hi => by simp [mNewS, List.getD, hi]
  have hl : (Go.Proofs.newS zs).drv.length = zs.length := by simp [Go.Proofs.newS]
  refine ⟨coh_newS, List.nodup_nil, ?_, rfl, ?_, ?_, fun i hi => ?_, fun i a hi ha => ?_, rfl, rfl, rfl⟩
  · show zs.map _ = (zs.map mkD).map Drive.dur
    rw [List.map_map]; rfl
  · show zs.map _ = (zs.map mkD).map Drive.miss
    rw [List.map_map]; rfl
  · rw [hl]; simp [mNewS]
  · rw [hl] at hi
    rw [hb i hi]
    show _ = ((Go.Proofs.newS zs).drv.getD i d0).now.length
    rw [hs i hi]; simp [mkD]
  · rw [hl] at hi
    rw [hb i hi]
    show _ = (lookM [] ((i : Int), (a : Int))).isSome
    simp only [List.getD, List.getElem?_replicate, lookM]
    split <;> rfl
end
end Go.Proofs
