/- What volumegroupmake's functions compute, told without loops. -/
import Derived.Test.YteboelcolfoddaaLMake
namespace Go.Proofs
open Go.VG
/-- An array whose disks have just been loaded. -/
def mkS (ims : List (List UInt64)) : ArrS := ⟨ims.map (fun im => ⟨im, im, false⟩), [], [], 0, false, 0⟩
theorem inLen_of {n : Nat} (h : n ≤ 1000000000) : inLen n = true := inLen_iff.2 h
theorem inN64_of {n : Nat} (h : n ≤ 9000000000000000000) : inN64 n = true := inN64_iff.2 (by omega)
theorem grd_t {α : Type} {b : Bool} {o : Option α} (h : b = true) : grd b o = o := by rw [h]; rfl
theorem seqO_inl {α ρ : Type} {a : α} {k : α → Option ρ} : seqO (some (.inl a)) k = k a := rfl
theorem seqO_inr {α ρ : Type} {a : ρ} {k : α → Option ρ} : seqO (some (.inr a)) k = some a := rfl
def lensI (l : List (List UInt64)) : List Int := l.map fun im => (im.length : Int)
theorem getD_take_snoc {α : Type} {l : List α} {i : Nat} {d : α} (h : i < l.length) : l.take (i + 1) = l.take i ++ [l.getD i d] := by
  rw [List.take_succ_eq_append_getElem h]; simp [List.getD, h]
theorem loaded_l1 {l : List (List UInt64)} (h8 : l.length ≤ 1000) : ∀ (N i : Nat) (acc : List Int), l.length - i < N → i ≤ l.length → acc = lensI (l.take i) →
    volumegroupmake_Loaded_l1 l N acc i = some (lensI l)
  | 0, _, _, h, _, _ => absurd h (by omega)
  | N + 1, i, acc, h, hi, ha => by
    show volumegroupmake_Loaded_l1_b _ _ _ _ = _
    unfold volumegroupmake_Loaded_l1_b
    subst ha
    by_cases hlt : i < l.length
    · rw [if_pos (by omega), grd_t (inLen_of (by simp [lensI]; omega)), grd_t (inN64_of (by omega))]
      refine loaded_l1 h8 N (i + 1) _ (by omega) (by omega) ?_
      rw [getD_take_snoc (d := []) hlt]; simp [lensI]
    · rw [if_neg (by omega)]
      have : i = l.length := by omega
      rw [this, List.take_length]
def ldDrv (l : List (List UInt64)) (i : Nat) : List Drive := (l.take i).map (fun im => ⟨im, im, false⟩) ++ (lensI (l.drop i)).map mkD
theorem loaded_l2 {l : List (List UInt64)} (h8 : l.length ≤ 8) (hz : ∀ im ∈ l, 1 ≤ im.length ∧ im.length ≤ 65536) : ∀ (N i : Nat) (x : ArrS), l.length - i < N → i ≤ l.length → x = ⟨ldDrv l i, [], [], 0, false, 0⟩ →
    volumegroupmake_Loaded_l2 l N x i = some (.inl (mkS l))
  | 0, _, _, h, _, _ => absurd h (by omega)
  | N + 1, i, x, h, hi, hx => by
    show volumegroupmake_Loaded_l2_b _ _ _ _ = _
    unfold volumegroupmake_Loaded_l2_b
    subst hx
    by_cases hlt : i < l.length
    · have hlen : (ldDrv l i).length = l.length := by simp [ldDrv, lensI]; omega
      have hin : inR ⟨ldDrv l i, [], [], 0, false, 0⟩ (i : Int) := by unfold inR; simp only [hlen]; omega
      have hg : (ldDrv l i).getD i d0 = mkD ((l.getD i []).length : Int) := by
        unfold ldDrv
        have e1 : ((l.take i).map (fun im => (⟨im, im, false⟩ : Drive))).length = i := by simp; omega
        simp only [List.getD]
        rw [List.getElem?_append_right (by omega), e1, Nat.sub_self, List.drop_eq_getElem_cons hlt]; simp [lensI, hlt]
      have hc : ldC ⟨ldDrv l i, [], [], 0, false, 0⟩ (i : Int) (l.getD i []) = 0 := by
        unfold ldC; rw [if_pos hin]; simp only [Int.toNat_natCast, hg]
        rw [if_pos (by simp [mkD])]
      rw [if_pos (by omega), grd_t (inLen_of (by simp)), if_neg (by rw [hc]; simp), grd_t (inN64_of (by omega))]
      refine loaded_l2 h8 hz N (i + 1) _ (by omega) (by omega) ?_
      have hC : ldS ⟨ldDrv l i, [], [], 0, false, 0⟩ (i : Int) (l.getD i []) = ⟨ldDrv l (i + 1), [], [], 0, false, 0⟩ := by
        unfold ldS; rw [if_pos hc]
        have hd : ∀ n, delUpTo [] (i : Int) n = [] := fun n => by
          induction n with
          | zero => rfl
          | succ n ih => rw [← delUpTo_step, ih]; rfl
        simp only [Int.toNat_natCast, hg, hd, List.filter_nil]
        congr 1
        unfold ldDrv
        rw [getD_take_snoc (d := []) hlt, List.drop_eq_getElem_cons hlt]
        have e1 : ((l.take i).map (fun im => (⟨im, im, false⟩ : Drive))).length = i := by simp; omega
        rw [List.set_append_right _ _ (by omega), e1, Nat.sub_self]
        simp only [lensI, List.map_cons, List.set_cons_zero, List.map_append, List.map_nil, List.append_assoc, List.cons_append, List.nil_append]
        rfl
      exact hC
    · rw [if_neg (by omega)]
      have : i = l.length := by omega
      rw [this]; simp [ldDrv, mkS, lensI]
theorem loaded_eq {l : List (List UInt64)} (h8 : l.length ≤ 8) (hz : ∀ im ∈ l, 1 ≤ im.length ∧ im.length ≤ 65536) : volumegroupmake_Loaded l = some (some (mkS l)) := by
  unfold volumegroupmake_Loaded
  have hF := fuel_big
  generalize FUEL = N at hF ⊢
  rw [loaded_l1 (by omega) N 0 [] (by omega) (by omega) (by simp [lensI])]
  have hN : newB (lensI l) = true := by
    unfold newB
    rw [Bool.and_eq_true, Nat.ble_eq, List.all_eq_true]
    refine ⟨by simpa [lensI] using h8, fun z hz' => ?_⟩
    obtain ⟨im, him, rfl⟩ := List.mem_map.1 hz'
    have := hz im him
    simp; omega
  simp only [Option.bind_some]
  rw [grd_t (inLen_of (by simp [lensI]; omega))]
  have hnc : newC (lensI l) = 0 := by unfold newC; rw [if_pos hN]
  have hno : newO (lensI l) = some (newS (lensI l)) := by unfold newO; rw [if_pos hN]
  rw [if_neg (by rw [hnc]; simp), hno]
  simp only [Option.elim]
  rw [loaded_l2 h8 hz N 0 _ (by omega) (by omega) (by simp [newS, ldDrv])]
  rfl
end Go.Proofs
