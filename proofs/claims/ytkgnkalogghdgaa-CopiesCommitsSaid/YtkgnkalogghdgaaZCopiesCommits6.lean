/- CopiesCommits, part 6 of the proof: PCopiesCommits. -/
import Derived.WalkKit
import Derived.Orders
import Derived.RangeFuncLeaves
import Derived.RangeFuncCalls
import Derived.TacticsIn
import Derived.Handy
import Derived.OrdersHeld
import Derived.OrdersIn
import Derived.Below
import Derived.OpenShut
import Derived.Deep.Slices
import Derived.Scope
import Derived.KernelRfl
import Derived.RangeFuncRecord
import Derived.ChangeKeysEq
import Derived.Laws.BytesArg
import Derived.ProofKit
import Derived.ShutString
import Derived.ChangeOld
import Derived.Test.YtkgnkalogghdgaaChecked
import Derived.Test.YtkgnkalogghdgaaRows
import Derived.Test.YtkgnkalogghdgaaZCopiesCommits5
namespace Go.Proofs
open Go.VG
theorem new_ok (l : List Int) : ∃ L, volumegroupmake_New l = some (L, 0) ∧ L.length ≤ 1000 := by
  unfold volumegroupmake_New
  by_cases h : (1000 : Int) < ((l.length : Nat) : Int)
  · rw [if_pos h]; exact ⟨_, rfl, by simp; omega⟩
  · rw [if_neg h]; exact ⟨_, rfl, by omega⟩
theorem raw_ok {L : List Int} {a : Int} (hL : L.length ≤ 1000) (h : 0 ≤ a ∧ a ≤ 1000) : ∃ v b, volumegroupmake_Src_Raw L a = some (v, b) ∧ 0 ≤ b ∧ b ≤ 1000 := by
  unfold volumegroupmake_Src_Raw
  by_cases h1 : ((L.length : Nat) : Int) ≤ a
  · rw [if_pos h1]; exact ⟨_, _, rfl, h.1, h.2⟩
  · rw [if_neg h1, grd_t (inI64_of (by omega)), grd_t (inI64_of (by omega)), grd_t (decide_eq_true (by omega))]
    exact ⟨_, _, rfl, by omega, by omega⟩
theorem srcN_ok {L : List Int} {a n : Int} (hL : L.length ≤ 1000) (h : 0 ≤ a ∧ a ≤ 1000) (hn : n ≤ 1000000000) : ∃ v b, volumegroupmake_Src_N L a n = some (v, b) ∧ (0 ≤ b ∧ b ≤ 1000) ∧ 0 ≤ v ∧ (1 ≤ n → v < n) ∧ (n < 1 → v = 0) := by
  unfold volumegroupmake_Src_N
  by_cases h1 : n < 1
  · rw [if_pos h1]; exact ⟨_, _, rfl, h, Int.le_refl _, fun x => by omega, fun _ => rfl⟩
  · rw [if_neg h1]
    obtain ⟨v, b, h2, h3⟩ := raw_ok hL h
    rw [h2]; simp only [Option.bind_some]
    have h4 := Int.natAbs_tmod v n
    have h5 := Nat.mod_lt v.natAbs (show 0 < n.natAbs by omega)
    by_cases h6 : v.tmod n < 0
    · rw [if_pos h6, grd_t (inI64_of (by omega))]
      exact ⟨_, _, rfl, h3, by omega, fun _ => by omega, fun x => by omega⟩
    · rw [if_neg h6]
      exact ⟨_, _, rfl, h3, by omega, fun _ => by omega, fun x => by omega⟩
theorem srcWord_ok {L : List Int} {a : Int} {l : List ByteArray} (hL : L.length ≤ 1000) (h : 0 ≤ a ∧ a ≤ 1000) (hl : 1 ≤ l.length ∧ l.length ≤ 1000) : ∃ (v : Nat) (b : Int), volumegroupmake_Src_Word L a l = some (l.getD v ByteArray.empty, b) ∧ (0 ≤ b ∧ b ≤ 1000) ∧ v < l.length := by
  unfold volumegroupmake_Src_Word
  obtain ⟨v, b, h2, h3, h4, h5, -⟩ := srcN_ok (n := ((l.length : Nat) : Int)) hL h (by omega)
  have := h5 (by omega)
  rw [h2]; simp only [Option.bind_some]
  rw [grd_pos (decide_eq_true (by omega))]
  exact ⟨v.toNat, b, rfl, h3, by omega⟩
theorem srcPick_ok {L : List Int} {a : Int} {l : List Int} (hL : L.length ≤ 1000) (h : 0 ≤ a ∧ a ≤ 1000) (hl : 1 ≤ l.length ∧ l.length ≤ 1000) : ∃ (v : Nat) (b : Int), volumegroupmake_Src_Pick L a l = some (l.getD v 0, b) ∧ (0 ≤ b ∧ b ≤ 1000) ∧ v < l.length := by
  unfold volumegroupmake_Src_Pick
  obtain ⟨v, b, h2, h3, h4, h5, -⟩ := srcN_ok (n := ((l.length : Nat) : Int)) hL h (by omega)
  have := h5 (by omega)
  rw [h2]; simp only [Option.bind_some]
  rw [grd_pos (decide_eq_true (by omega))]
  exact ⟨v.toNat, b, rfl, h3, by omega⟩
def Left (n : Nat) (t : ArrS) (C : Nat → Txt) : Prop := (∃ K, ∀ e, e < 3 → LvX [n, n, n] K e n t) ∧ ∀ e, e < 3 → Hold (now t e) (rgR n) 0 (some (C e))
theorem bits8 {v : Int} (hv : 0 ≤ v ∧ v < 8) : Dist (bitsL v 3) ∧ (∀ i, i < (bitsL v 3).length → (bitsL v 3).getD i 0 < 3) ∧ (bitsL v 3).length ≤ 3 ∧ (∀ e, e < 3 → (andI (shrI v e) 1 = 1 ↔ ∃ j, j < (bitsL v 3).length ∧ (bitsL v 3).getD j 0 = e)) ∧ ((bitsL v 3).length = 0 → v = 0) := by
  have hD : ∀ l : List Nat, (∀ j, j < l.length → ∀ i, i < j → l.getD i 0 ≠ l.getD j 0) → Dist l := fun l h i j h1 h2 => h j h2 i h1
  have hv8 : v = 0 ∨ v = 1 ∨ v = 2 ∨ v = 3 ∨ v = 4 ∨ v = 5 ∨ v = 6 ∨ v = 7 := by omega
  rcases hv8 with rfl | rfl | rfl | rfl | rfl | rfl | rfl | rfl
  all_goals refine ⟨hD _ (by decide), by decide, by decide, fun e he => ?_, by decide⟩
  all_goals (have he3 : e = 0 ∨ e = 1 ∨ e = 2 := by omega)
  all_goals rcases he3 with rfl | rfl | rfl
  all_goals (first | exact ⟨fun _ => ⟨0, by decide, by decide⟩, fun _ => by decide⟩ | exact ⟨fun _ => ⟨1, by decide, by decide⟩, fun _ => by decide⟩ | exact ⟨fun _ => ⟨2, by decide, by decide⟩, fun _ => by decide⟩ | exact ⟨fun h => absurd h (by decide), fun ⟨j, h1, h2⟩ => absurd h2 (by revert j; decide)⟩)
theorem read_txt {A : Nat → UInt64} {r : Nat} {t : Txt} (hh : Hold A r 0 (some t)) : (readR A r).1 = ⟨true, (t.q : Int), t.s⟩ := by
  unfold readR
  rw [if_neg (fun x => nomatch hh.ne.1 x), hh.whole, if_pos rfl, hh.dS.2.2]
theorem bits1 {i : Nat} (hi : i < 3) : bitsL (shlI 1 i) 3 = [i] := by
  have : i = 0 ∨ i = 1 ∨ i = 2 := by omega
  rcases this with rfl | rfl | rfl <;> decide
theorem commits_l3 {n : Nat} {text old : ByteArray} {z : Int} {q e9 : Int} {op : Bool} {v : Int} {w : Int} {t9 : ArrS} {C : Nat → Txt}
    (hC : ∀ e, e < 3 → (e9 = 0 ∧ andI (shrI v e) 1 = 1 ∧ ((C e).q : Int) = q ∧ (C e).s = text) ∨ (e9 = 0 ∧ ¬ andI (shrI v e) 1 = 1 ∧ (C e).q = 3 ∧ (C e).s = old) ∨ (e9 ≠ 0 ∧ op = false ∧ (C e).q = 3 ∧ (C e).s = old)) :
    ∀ (N i : Nat) (s : ArrS), 3 - i < N → i ≤ 3 → Left n s C → ∃ t, volumegrouplaw13_CopiesCommits_l3 text (old, z) q (v, w) (op, e9, t9) N s i = some (.inl t)
  | 0, _, _, h, _, _ => absurd h (by omega)
  | N + 1, i, s, h, hi, ⟨⟨K, hl⟩, hh⟩ => by
    show ∃ t, volumegrouplaw13_CopiesCommits_l3_b _ _ _ _ _ _ _ _ = some (.inl t)
    unfold volumegrouplaw13_CopiesCommits_l3_b
    by_cases hlt : i < 3
    · rw [if_pos (by omega)]
      have hok := (hl i hlt).ok
      obtain ⟨g1, g2, g3, g4, g5, g6⟩ := smS_gen (v := false) (k := i) hok (by simpa using hlt)
      have hy : Lv (List.replicate 3 n) K i n (smS s (i : Int) false) := ((hl i hlt).sm (k := i) (v := false) (by simpa using hlt)).lv (by rw [g2 i (by simpa using hlt), if_pos rfl])
      rw [some_eq hy (by omega), bits1 hlt]; simp only [Option.bind_some]
      rw [scan_eq (ds := [i]) (fun j hj => by
        have : j = 0 := by simp at hj; omega
        rw [this]; exact hy) (by simp)]
      simp only [Option.bind_some]
      have hc : copiesR (smS s (i : Int) false) n [i] = [⟨true, ((C i).q : Int), (C i).s⟩] := by
        show [(readR (now (smS s (i : Int) false) i) (rgR n)).1] = _
        rw [g3, read_txt (hh i hlt)]
      rw [hc]
      have hg : ([⟨true, ((C i).q : Int), (C i).s⟩] : List api_Copy).getD 0 (⟨false, 0, ByteArray.empty⟩ : api_Copy) = ⟨true, ((C i).q : Int), (C i).s⟩ := rfl
      simp only [hg]
      rw [if_neg (by simp), if_neg]
      · refine commits_l3 hC N (i + 1) _ (by omega) (by omega) ⟨⟨K, fun e he => ((hl e he).sm (k := i) (by simpa using hlt)).sm (k := i) (by simpa using hlt)⟩, fun e he => ?_⟩
        have g3' := (smS_gen (v := missR s (i : Int)) (k := i) g1 (by simpa using hlt)).2.2.1
        rw [g3', g3]; exact hh e he
      · rcases hC i hlt with ⟨c1, c2, c3, c4⟩ | ⟨c1, c2, c3, c4⟩ | ⟨c1, c2, c3, c4⟩
        · rw [c3, c4]
          rintro ((⟨⟨_, h2⟩, _⟩ | ⟨h1, _⟩) | ⟨⟨h1, _⟩, _⟩)
          · exact h2 ⟨fun _ => c2, fun _ => rfl⟩
          · exact h1 rfl
          · exact h1 c1
        · rw [c3, c4]
          rintro ((⟨⟨_, h2⟩, h3⟩ | ⟨_, h1⟩) | ⟨⟨h1, _⟩, _⟩)
          · exact h2 ⟨fun x => absurd ⟨x, rfl⟩ h3, fun x => absurd x c2⟩
          · exact h1 rfl
          · exact h1 c1
        · rw [c3, c4]
          rintro ((⟨⟨h1, _⟩, _⟩ | ⟨_, h1⟩) | ⟨_, h1⟩)
          · exact c1 h1
          · exact h1 rfl
          · exact h1 rfl
    · rw [if_neg (by omega)]
      exact ⟨s, rfl⟩
theorem commit2 {n K : Nat} {s : ArrS} {q : Int} {text old : ByteArray} {st : Nat} {v : Int} (hv : 0 ≤ v ∧ v < 8) (hn : 4 ≤ n ∧ n ≤ 1000) (hx : text.size ≤ 60) (hK : K ≤ 10000) (hl : ∀ e, e < 3 → LvX [n, n, n] K e n s) (hf : s.fuse = 0) (hh : ∀ e, e < 3 → Hold (now s e) (rgR n) 0 (some ⟨3, st, old⟩)) :
    ∃ op e t C, copies_Commit (dks (bitsL v 3) n) q text s = some (op, e, t) ∧ Left n t C ∧ (∀ d, d < 3 → (e = 0 ∧ andI (shrI v d) 1 = 1 ∧ ((C d).q : Int) = q ∧ (C d).s = text) ∨ (e = 0 ∧ ¬ andI (shrI v d) 1 = 1 ∧ (C d).q = 3 ∧ (C d).s = old) ∨ (e ≠ 0 ∧ op = false ∧ (C d).q = 3 ∧ (C d).s = old)) ∧ (v = 0 → e = 12 ∧ op = false) := by
  obtain ⟨b1, b2, b3, b4, b5⟩ := bits8 hv
  have hkeep : Left n s (fun _ => ⟨3, st, old⟩) := ⟨⟨K, hl⟩, hh⟩
  unfold copies_Commit
  rw [dks_len]
  by_cases h0 : (bitsL v 3).length = 0
  · rw [if_pos (by omega)]
    exact ⟨false, 12, s, _, rfl, hkeep, fun d _ => .inr (.inr ⟨by decide, rfl, rfl, rfl⟩), fun _ => ⟨rfl, rfl⟩⟩
  · rw [if_neg (by omega)]
    have hv0 : v ≠ 0 := fun x => h0 (by rw [x]; decide)
    have hF := fuel_big
    generalize FUEL = N at hF ⊢
    by_cases hq : q < 1 ∨ 1048575 < q
    · obtain ⟨M, rfl⟩ : ∃ M, N = M + 1 := ⟨N - 1, by omega⟩
      have e0 : copies_Commit_l1 (dks (bitsL v 3) n) q text (M + 1) s 0 = copies_Commit_l1_b (dks (bitsL v 3) n) q text (copies_Commit_l1 (dks (bitsL v 3) n) q text M) s 0 := rfl
      rw [e0]
      unfold copies_Commit_l1_b
      rw [dks_len, if_pos (by omega), dks_getD (by omega), prep_rangeX hn.1 hn.2 hq]; simp only [Option.bind_some]
      rw [if_pos (by decide)]
      exact ⟨false, 1, s, _, rfl, hkeep, fun d _ => .inr (.inr ⟨by decide, rfl, rfl, rfl⟩), fun x => absurd x hv0⟩
    obtain ⟨p, rfl⟩ : ∃ p : Nat, q = (p : Int) := ⟨q.toNat, by omega⟩
    have hE := encT_lt (s := text) (by omega)
    have hmul : (bitsL v 3).length * ((encT text).length + 1) ≤ 3 * 4096 := Nat.mul_le_mul b3 (by omega)
    rcases commitX_l1 (ns := [n, n, n]) (n := n) (ds := bitsL v 3) (q := p) (x := text) (c := fun _ => some ⟨3, st, old⟩) (M := fun e => miss s e) (L := (encT text).length) (by omega) (by omega) rfl b1 (fun i hi => by simpa using b2 i hi) N 0 K s (by omega) (by omega) (by simp only [Nat.sub_zero]; omega) (fun e he => hl e (by simpa using he)) hf (fun _ _ => rfl) (fun e he => hh e (by simpa using he)) (fun j hj => absurd hj (by omega)) with ⟨t, t1, t2, t3, t4, t5, t6⟩ | ⟨e, t, he, t1, t2⟩
    · rw [t1]
      simp only [seqO, Option.bind_some, Sum.elim_inl]
      simp only [Nat.sub_zero] at t2
      obtain ⟨u, u1, u2, u3, u4, u5, u6⟩ := commitX_l2 (ns := [n, n, n]) (n := n) (ds := bitsL v 3) (T := fun _ => ⟨p, nextSt (rgR n) (some ⟨3, st, old⟩), text⟩) (c := fun _ => some ⟨3, st, old⟩) (M := fun e => miss s e) b1 (fun i hi => by simpa using b2 i hi) (fun j hj => (t6 j hj).1) N 0 _ t (by omega) (by omega) (by simp only [Nat.sub_zero]; omega) t2 t3 t4 (fun j hj => (t6 j hj).2) (fun j hj => absurd hj (by omega)) (fun e he _ => t5 e he)
      rw [u1]
      simp only [Option.bind_some, Sum.elim_inl]
      refine ⟨true, 0, u, fun d => if andI (shrI v d) 1 = 1 then ⟨p, nextSt (rgR n) (some ⟨3, st, old⟩), text⟩ else ⟨3, st, old⟩, rfl, ⟨⟨_, fun e he => u2 e (by simpa using he)⟩, fun e he => ?_⟩, fun d hd => ?_, fun x => absurd x hv0⟩
      · by_cases hb : andI (shrI v e) 1 = 1
        · obtain ⟨j, j1, j2⟩ := (b4 e he).1 hb
          simp only [hb, if_true]
          rw [← j2]; exact u5 j j1
        · simp only [hb, if_false]
          exact u6 e (by simpa using he) fun j j1 j2 => hb ((b4 e he).2 ⟨j, j1, j2⟩)
      · by_cases hb : andI (shrI v d) 1 = 1
        · exact .inl ⟨rfl, hb, by simp only [hb, if_true], by simp only [hb, if_true]⟩
        · exact .inr (.inl ⟨rfl, hb, by simp only [hb, if_false], by simp only [hb, if_false]⟩)
    · rw [t1]
      obtain ⟨⟨K', _, k2⟩, _, _, k3⟩ := t2
      exact ⟨false, e, t, fun _ => ⟨3, st, old⟩, rfl, ⟨⟨K', fun e he => k2 e (by simpa using he)⟩, fun e he => k3 e (by simpa using he)⟩, fun d _ => .inr (.inr ⟨he, rfl, rfl, rfl⟩), fun x => absurd x hv0⟩
abbrev oldsC : List ByteArray := [(ByteArray.mk #[]), (ByteArray.mk #[111, 108, 100, 32, 116, 101, 120, 116]), (ByteArray.mk #[97, 110, 32, 111, 108, 100, 101, 114, 32, 116, 101, 120, 116, 32, 116, 104, 97, 110, 32, 116, 104, 105, 115])]
theorem oldsC_size {v : Nat} : (oldsC.getD v ByteArray.empty).size ≤ 23 := by
  match v with
  | 0 => decide
  | 1 => decide
  | 2 => decide
  | _ + 3 => exact Nat.zero_le _
theorem tmod100 (a : Int) : -100 < a.tmod 100 ∧ a.tmod 100 < 100 := by
  have h1 := Int.natAbs_tmod a 100
  have h2 := Nat.mod_lt a.natAbs (show 0 < (100 : Int).natAbs by decide)
  have h3 : (100 : Int).natAbs = 100 := rfl
  omega
theorem PCopiesCommits (l : List Int) (seq : Int) (text : ByteArray) : volumegrouplaw13_CopiesCommits l seq text = some true := by
  unfold volumegrouplaw13_CopiesCommits
  by_cases h60 : 60 < text.size
  · rw [if_pos (by omega), awake13]; rfl
  rw [if_neg (by omega)]
  obtain ⟨L, h1, hL⟩ := new_ok l
  rw [h1]; simp only [Option.bind_some]
  obtain ⟨v, b, h2, hb, hv⟩ := srcPick_ok (L := L) (a := ((0 : Nat) : Int)) (l := [(30 : Int), (30 : Int), (14 : Int)]) hL (by omega) (by simp)
  rw [h2]; simp only [Option.bind_some]
  have hn : ∃ n : Nat, ([(30 : Int), (30 : Int), (14 : Int)]).getD v 0 = (n : Int) ∧ (n = 30 ∨ n = 14) := by
    have : v = 0 ∨ v = 1 ∨ v = 2 := by simp at hv; omega
    rcases this with rfl | rfl | rfl
    · exact ⟨30, rfl, .inl rfl⟩
    · exact ⟨30, rfl, .inl rfl⟩
    · exact ⟨14, rfl, .inr rfl⟩
  obtain ⟨n, hne, hn⟩ := hn
  rw [hne, show volumegrouplaw13_areas (3 : Int) (n : Int) = _ from areas_eq (m := 3) (n := n) (by omega) (by omega)]; simp only [Option.bind_some, Option.elim]
  obtain ⟨k, b2, h3, hb2, _⟩ := srcWord_ok (L := L) (a := b) (l := oldsC) hL hb (by simp)
  rw [h3]; simp only [Option.bind_some]
  have hos := oldsC_size (v := k)
  generalize oldsC.getD k ByteArray.empty = old at hos
  have hLv : ∀ e, e < (List.replicate 3 n).length → Lv (List.replicate 3 n) 0 e n (mkS (List.replicate 3 (List.replicate n 0))) := fun e he => lvA_mkS (by simpa using he) (by omega)
  rw [some_eq (hLv 0 (by simp)) (by omega), show bitsL 7 3 = [0, 1, 2] by decide]; simp only [Option.bind_some]
  have hr : rgR n = n - 2 := by unfold rgR; omega
  have hle : (encT old).length ≤ 4 := by rw [encT_len]; unfold bytesN; omega
  obtain ⟨t, t1, t2, t3, t4, _⟩ := commit_ok (ns := List.replicate 3 n) (n := n) (K := 0) (ds := [0, 1, 2]) (q := 3) (x := old) (c := fun _ => none) (L := (encT old).length) (by omega) (by omega) rfl (bits8 (v := 7) (by omega)).1 (by
    intro i hi
    have : i = 0 ∨ i = 1 ∨ i = 2 := by simp at hi; omega
    rcases this with rfl | rfl | rfl <;> simp) (by simp) (by simp) (fun i _ => by show _ + 0 ≤ _; omega) (by omega) hLv rfl (fun e _ => by show now _ e 0 = 0; exact now0A)
  rw [show copies_Commit (dks [0, 1, 2] n) (3 : Int) old _ = _ from t1]; simp only [Option.bind_some]
  rw [if_neg (by simp)]
  have hh : ∀ e, e < 3 → Hold (now t e) (rgR n) 0 (some ⟨3, nextSt (rgR n) none, old⟩) := fun e he => by
    have h := (t4 e (by simpa using he)).1
    have hg : ([0, 1, 2] : List Nat).getD e 0 = e := by
      have : e = 0 ∨ e = 1 ∨ e = 2 := by omega
      rcases this with rfl | rfl | rfl <;> rfl
    rw [hg] at h; exact h
  simp only [List.length_cons, List.length_nil] at t2
  obtain ⟨v5, b5, h5, hb5, _⟩ := srcN_ok (L := L) (a := b2) (n := 3) hL hb2 (by omega)
  rw [h5]; simp only [Option.bind_some]
  -- perhaps a disk is lost
  have hlost : ∃ (b6 : Int) (s : ArrS), (if (v5 = (0 : Int)) then
          Option.bind (volumegroupmake_Src_N L b5 (3 : Int)) fun r37 =>
          some ((r37.2, (smS t r37.1 true)))
        else
          some (b5, t) : Option (Int × ArrS)) = some (b6, s) ∧ (0 ≤ b6 ∧ b6 ≤ 1000) ∧ (∀ e, e < 3 → LvX [n, n, n] 10000 e n s) ∧ s.fuse = 0 ∧ (∀ e, now s e = now t e) ∧ ∃ e, e < 3 ∧ miss s e = false := by
    have hX : ∀ e, e < 3 → LvX [n, n, n] 10000 e n t := fun e he => by
      have h := t2 e (by simpa using he)
      exact ⟨h.ok.mono (by omega), h.dn, h.hd, h.hn, h.h4, h.hb, h.cl, by omega⟩
    have hm : ∀ e, e < 3 → miss t e = false := fun e he => (t2 e (by simpa using he)).ms
    by_cases h0 : v5 = 0
    · rw [if_pos h0]
      obtain ⟨v6, b6, h6, hb6, hv6, hw6, -⟩ := srcN_ok (L := L) (a := b5) (n := 3) hL hb5 (by omega)
      have := hw6 (by omega)
      obtain ⟨d, rfl⟩ : ∃ d : Nat, v6 = (d : Int) := ⟨v6.toNat, by omega⟩
      rw [h6]; simp only [Option.bind_some]
      obtain ⟨g1, g2, g3, g4, g5, g6⟩ := smS_gen (v := true) (k := d) (hX 0 (by omega)).ok (by simp; omega)
      refine ⟨b6, _, rfl, hb6, fun e he => (hX e he).sm (by simp; omega), by rw [g6]; exact t3, g3, ?_⟩
      by_cases hd : d = 0
      · exact ⟨1, by omega, by rw [g2 1 (by simp), if_neg (by omega)]; exact hm 1 (by omega)⟩
      · exact ⟨0, by omega, by rw [g2 0 (by simp), if_neg (by omega)]; exact hm 0 (by omega)⟩
    · rw [if_neg h0]
      exact ⟨b5, t, rfl, hb5, hX, t3, fun _ => rfl, 0, by omega, hm 0 (by omega)⟩
  obtain ⟨b6, s, hl1, hb6, hX, hsf, hsn, e0, he0, hm0⟩ := hlost
  rw [hl1]; simp only [Option.bind_some]
  have m1 := tmod100 seq; have m2 := tmod100 (seq.tmod 100 + 100)
  rw [grd_pos (inI64_of (by omega)), grd_pos (inI64_of (by omega))]
  obtain ⟨v7, b7, h7, hb7, _⟩ := srcN_ok (L := L) (a := b6) (n := 8) hL hb6 (by omega)
  rw [h7]; simp only [Option.bind_some]
  have hq : ∃ q : Int, (if (v7 = (0 : Int)) then some seq else some (((4 : Int) + ((((seq.tmod (100 : Int)) + (100 : Int))).tmod (100 : Int)))) : Option (Int)) = some q := by
    split
    · exact ⟨_, rfl⟩
    · exact ⟨_, rfl⟩
  obtain ⟨q, hq⟩ := hq
  rw [hq]; simp only [Option.bind_some]
  obtain ⟨v8, b8, h8, hb8, hv8, hw8, -⟩ := srcN_ok (L := L) (a := b7) (n := 8) hL hb7 (by omega)
  have := hw8 (by omega)
  rw [h8]; simp only [Option.bind_some]
  have hS : Lv (List.replicate 3 n) 10000 e0 n s := (hX e0 he0).lv hm0
  rw [some_eq hS (by omega)]; simp only [Option.bind_some]
  obtain ⟨op, e, u, C, c1, c2, c3, c4⟩ := commit2 (s := s) (q := q) (text := text) (old := old) (st := nextSt (rgR n) none) (v := v8) (n := n) ⟨hv8, by omega⟩ (by omega) (by omega) (Nat.le_refl _) hX hsf (fun e he => by rw [hsn]; exact hh e he)
  rw [c1]; simp only [Option.bind_some]
  have hF := fuel_big
  generalize FUEL = N at hF ⊢
  obtain ⟨x, hx⟩ := commits_l3 (text := text) (old := old) (z := b2) (q := q) (e9 := e) (op := op) (v := v8) (w := b8) (t9 := u) c3 N 0 u (by omega) (by omega) c2
  rw [hx]
  simp only [seqO, Option.bind_some, Sum.elim_inl]
  rw [if_pos, awake13]; rfl
  by_cases h0 : v8 = 0
  · exact .inr ⟨(c4 h0).1, by rw [(c4 h0).2]; decide⟩
  · exact .inl h0
end Go.Proofs
