/- YthadblmhhekedaaLDiskCandidates: lifted functions of the program; printed by lift.py. -/
import Derived.Test.YthadblmhhekedaaLDiskBad
set_option linter.unusedSimpArgs false
set_option linter.unusedVariables false
set_option maxRecDepth 20000
set_option maxHeartbeats 4000000
namespace Go.Proofs
open Go.VG

def volumegrouplaw04_DiskCandidates_l2_b (l : List volumegroupmake_Step) (x25 : ArrS) (x26 : Nat) (w27 : Int) (r40 : (List Bool)) (rec : (List Sec) → Nat → Option (((List Sec)) ⊕ (((List Sec) × ArrS) ⊕ Bool))) (x49 : List Sec) (x50 : Nat) : Option (((List Sec)) ⊕ (((List Sec) × ArrS) ⊕ Bool)) :=
  if (((x50 : Nat) : Int) < (5 : Int)) then
    lt ((rdV ((rsS ((wrS x25 (0 : Int) ((w27.tmod (5 : Int))) (((l.getD x26 (⟨0, 0, 0, 0⟩ : volumegroupmake_Step))).Value))) r40)) (0 : Int) (((x50 : Nat) : Int)))) fun w51 =>
    lt ((rdC ((rsS ((wrS x25 (0 : Int) ((w27.tmod (5 : Int))) (((l.getD x26 (⟨0, 0, 0, 0⟩ : volumegroupmake_Step))).Value))) r40)) (0 : Int) (((x50 : Nat) : Int)))) fun w52 =>
    if (w52 ≠ (0 : Int)) then
      some (.inr (.inr false))
    else
      grd (decide (smallT x49 = true)) <|
      if (¬ (rdTR x49 (((x50 : Nat) : Int)) w51) = true) then
        some (.inr (.inr false))
      else
        rec ((rdTS x49 (((x50 : Nat) : Int)) w51 true)) (x50 + 1)
  else
    some (.inl x49)

def volumegrouplaw04_DiskCandidates_l2 (l : List volumegroupmake_Step) (x25 : ArrS) (x26 : Nat) (w27 : Int) (r40 : (List Bool)) : Nat → (List Sec) → Nat → Option (((List Sec)) ⊕ (((List Sec) × ArrS) ⊕ Bool))
  | 0, _, _ => none
  | n + 1, x49, x50 => volumegrouplaw04_DiskCandidates_l2_b l x25 x26 w27 r40 (volumegrouplaw04_DiskCandidates_l2 l x25 x26 w27 r40 n) x49 x50

def volumegrouplaw04_DiskCandidates_l3_b (x25 : ArrS) (r66 : (List Bool)) (rec : (List Sec) → Nat → Option (((List Sec)) ⊕ (((List Sec) × ArrS) ⊕ Bool))) (x75 : List Sec) (x76 : Nat) : Option (((List Sec)) ⊕ (((List Sec) × ArrS) ⊕ Bool)) :=
  if (((x76 : Nat) : Int) < (5 : Int)) then
    if ((rdC ((rsS ((flS x25 (0 : Int))) r66)) (0 : Int) (((x76 : Nat) : Int))) ≠ (0 : Int)) then
      some (.inr (.inr false))
    else
      grd (decide (smallT x75 = true)) <|
      if (¬ (rdTR x75 (((x76 : Nat) : Int)) ((rdV ((rsS ((flS x25 (0 : Int))) r66)) (0 : Int) (((x76 : Nat) : Int))))) = true) then
        some (.inr (.inr false))
      else
        rec ((rdTS x75 (((x76 : Nat) : Int)) ((rdV ((rsS ((flS x25 (0 : Int))) r66)) (0 : Int) (((x76 : Nat) : Int)))) true)) (x76 + 1)
  else
    some (.inl x75)

def volumegrouplaw04_DiskCandidates_l3 (x25 : ArrS) (r66 : (List Bool)) : Nat → (List Sec) → Nat → Option (((List Sec)) ⊕ (((List Sec) × ArrS) ⊕ Bool))
  | 0, _, _ => none
  | n + 1, x75, x76 => volumegrouplaw04_DiskCandidates_l3_b x25 r66 (volumegrouplaw04_DiskCandidates_l3 x25 r66 n) x75 x76

def volumegrouplaw04_DiskCandidates_l4_b (x25 : ArrS) (r90 : (List Bool)) (rec : (List Sec) → Nat → Option (((List Sec)) ⊕ (((List Sec) × ArrS) ⊕ Bool))) (x99 : List Sec) (x100 : Nat) : Option (((List Sec)) ⊕ (((List Sec) × ArrS) ⊕ Bool)) :=
  if (((x100 : Nat) : Int) < (5 : Int)) then
    if ((rdC ((rsS ((flS x25 (0 : Int))) r90)) (0 : Int) (((x100 : Nat) : Int))) ≠ (0 : Int)) then
      some (.inr (.inr false))
    else
      grd (decide (smallT x99 = true)) <|
      if (¬ (rdTR x99 (((x100 : Nat) : Int)) ((rdV ((rsS ((flS x25 (0 : Int))) r90)) (0 : Int) (((x100 : Nat) : Int))))) = true) then
        some (.inr (.inr false))
      else
        rec ((rdTS x99 (((x100 : Nat) : Int)) ((rdV ((rsS ((flS x25 (0 : Int))) r90)) (0 : Int) (((x100 : Nat) : Int)))) true)) (x100 + 1)
  else
    some (.inl x99)

def volumegrouplaw04_DiskCandidates_l4 (x25 : ArrS) (r90 : (List Bool)) : Nat → (List Sec) → Nat → Option (((List Sec)) ⊕ (((List Sec) × ArrS) ⊕ Bool))
  | 0, _, _ => none
  | n + 1, x99, x100 => volumegrouplaw04_DiskCandidates_l4_b x25 r90 (volumegrouplaw04_DiskCandidates_l4 x25 r90 n) x99 x100

def volumegrouplaw04_DiskCandidates_l5_b (x25 : ArrS) (w27 : Int) (r114 : (List Bool)) (rec : (List Sec) → Nat → Option (((List Sec)) ⊕ (((List Sec) × ArrS) ⊕ Bool))) (x123 : List Sec) (x124 : Nat) : Option (((List Sec)) ⊕ (((List Sec) × ArrS) ⊕ Bool)) :=
  if (((x124 : Nat) : Int) < (5 : Int)) then
    lt ((rdV ((rsS ({ x25 with fuse := (((1 : Int) + (w27.tmod (5 : Int)))).toNat }) r114)) (0 : Int) (((x124 : Nat) : Int)))) fun w125 =>
    lt ((rdC ((rsS ({ x25 with fuse := (((1 : Int) + (w27.tmod (5 : Int)))).toNat }) r114)) (0 : Int) (((x124 : Nat) : Int)))) fun w126 =>
    if (w126 ≠ (0 : Int)) then
      some (.inr (.inr false))
    else
      grd (decide (smallT x123 = true)) <|
      if (¬ (rdTR x123 (((x124 : Nat) : Int)) w125) = true) then
        some (.inr (.inr false))
      else
        rec ((rdTS x123 (((x124 : Nat) : Int)) w125 true)) (x124 + 1)
  else
    some (.inl x123)

def volumegrouplaw04_DiskCandidates_l5 (x25 : ArrS) (w27 : Int) (r114 : (List Bool)) : Nat → (List Sec) → Nat → Option (((List Sec)) ⊕ (((List Sec) × ArrS) ⊕ Bool))
  | 0, _, _ => none
  | n + 1, x123, x124 => volumegrouplaw04_DiskCandidates_l5_b x25 w27 r114 (volumegrouplaw04_DiskCandidates_l5 x25 w27 r114 n) x123 x124

def volumegrouplaw04_DiskCandidates_l6_b (x25 : ArrS) (r140 : (List Bool)) (rec : (List Sec) → Nat → Option (((List Sec)) ⊕ (((List Sec) × ArrS) ⊕ Bool))) (x149 : List Sec) (x150 : Nat) : Option (((List Sec)) ⊕ (((List Sec) × ArrS) ⊕ Bool)) :=
  if (((x150 : Nat) : Int) < (5 : Int)) then
    if ((rdC (rsS x25 r140) (0 : Int) (((x150 : Nat) : Int))) ≠ (0 : Int)) then
      some (.inr (.inr false))
    else
      grd (decide (smallT x149 = true)) <|
      if (¬ (rdTR x149 (((x150 : Nat) : Int)) ((rdV (rsS x25 r140) (0 : Int) (((x150 : Nat) : Int))))) = true) then
        some (.inr (.inr false))
      else
        rec ((rdTS x149 (((x150 : Nat) : Int)) ((rdV (rsS x25 r140) (0 : Int) (((x150 : Nat) : Int)))) true)) (x150 + 1)
  else
    some (.inl x149)

def volumegrouplaw04_DiskCandidates_l6 (x25 : ArrS) (r140 : (List Bool)) : Nat → (List Sec) → Nat → Option (((List Sec)) ⊕ (((List Sec) × ArrS) ⊕ Bool))
  | 0, _, _ => none
  | n + 1, x149, x150 => volumegrouplaw04_DiskCandidates_l6_b x25 r140 (volumegrouplaw04_DiskCandidates_l6 x25 r140 n) x149 x150

def volumegrouplaw04_DiskCandidates_l1_b (l : List volumegroupmake_Step) (rec : (List Sec) → ArrS → Nat → Option (((List Sec) × ArrS) ⊕ Bool)) (x24 : List Sec) (x25 : ArrS) (x26 : Nat) : Option (((List Sec) × ArrS) ⊕ Bool) :=
  if (((x26 : Nat) : Int) < ((l.length : Nat) : Int)) then
    grd (inI64 ((((((l.getD x26 (⟨0, 0, 0, 0⟩ : volumegroupmake_Step))).At).tmod (5 : Int)) + (5 : Int)))) <|
    lt ((((((l.getD x26 (⟨0, 0, 0, 0⟩ : volumegroupmake_Step))).At).tmod (5 : Int)) + (5 : Int))) fun w27 =>
    if (((l.getD x26 (⟨0, 0, 0, 0⟩ : volumegroupmake_Step))).Kind = (0 : Int)) then
      grd (inLen x25.writes) <|
      grd (decide (smallT x24 = true)) <|
      if (((wrS x25 (0 : Int) ((w27.tmod (5 : Int))) (((l.getD x26 (⟨0, 0, 0, 0⟩ : volumegroupmake_Step))).Value))).down = true ∨ (((l.getD x26 (⟨0, 0, 0, 0⟩ : volumegroupmake_Step))).Kind = (3 : Int))) then
        Option.bind (volumegroupmake_Keep (((l.getD x26 (⟨0, 0, 0, 0⟩ : volumegroupmake_Step))).Keep)) fun r40 =>
        grd (inLen ((wrS x25 (0 : Int) ((w27.tmod (5 : Int))) (((l.getD x26 (⟨0, 0, 0, 0⟩ : volumegroupmake_Step))).Value))).writes) <|
        seqO (volumegrouplaw04_DiskCandidates_l2 l x25 x26 w27 r40 FUEL ((failedT ((wroteT x24 ((w27.tmod (5 : Int))) (((l.getD x26 (⟨0, 0, 0, 0⟩ : volumegroupmake_Step))).Value) ((decide ((wrR x25 (0 : Int) ((w27.tmod (5 : Int)))) = (0 : Int)))))))) 0) fun a48 =>
        rec a48 ((rsS ((wrS x25 (0 : Int) ((w27.tmod (5 : Int))) (((l.getD x26 (⟨0, 0, 0, 0⟩ : volumegroupmake_Step))).Value))) r40)) (x26 + 1)
      else
        rec ((wroteT x24 ((w27.tmod (5 : Int))) (((l.getD x26 (⟨0, 0, 0, 0⟩ : volumegroupmake_Step))).Value) ((decide ((wrR x25 (0 : Int) ((w27.tmod (5 : Int)))) = (0 : Int)))))) ((wrS x25 (0 : Int) ((w27.tmod (5 : Int))) (((l.getD x26 (⟨0, 0, 0, 0⟩ : volumegroupmake_Step))).Value))) (x26 + 1)
    else
      if (((l.getD x26 (⟨0, 0, 0, 0⟩ : volumegroupmake_Step))).Kind = (2 : Int)) then
        grd (inLen x25.writes) <|
        if ((flC x25 (0 : Int)) = (0 : Int)) then
          if (((flS x25 (0 : Int))).down = true ∨ (((l.getD x26 (⟨0, 0, 0, 0⟩ : volumegroupmake_Step))).Kind = (3 : Int))) then
            Option.bind (volumegroupmake_Keep (((l.getD x26 (⟨0, 0, 0, 0⟩ : volumegroupmake_Step))).Keep)) fun r66 =>
            grd (inLen ((flS x25 (0 : Int))).writes) <|
            seqO (volumegrouplaw04_DiskCandidates_l3 x25 r66 FUEL ((failedT (flushedT x24))) 0) fun a74 =>
            rec a74 ((rsS ((flS x25 (0 : Int))) r66)) (x26 + 1)
          else
            rec (flushedT x24) ((flS x25 (0 : Int))) (x26 + 1)
        else
          if (((flS x25 (0 : Int))).down = true ∨ (((l.getD x26 (⟨0, 0, 0, 0⟩ : volumegroupmake_Step))).Kind = (3 : Int))) then
            Option.bind (volumegroupmake_Keep (((l.getD x26 (⟨0, 0, 0, 0⟩ : volumegroupmake_Step))).Keep)) fun r90 =>
            grd (inLen ((flS x25 (0 : Int))).writes) <|
            seqO (volumegrouplaw04_DiskCandidates_l4 x25 r90 FUEL (failedT x24) 0) fun a98 =>
            rec a98 ((rsS ((flS x25 (0 : Int))) r90)) (x26 + 1)
          else
            rec x24 ((flS x25 (0 : Int))) (x26 + 1)
      else
        if (((l.getD x26 (⟨0, 0, 0, 0⟩ : volumegroupmake_Step))).Kind = (4 : Int)) then
          grd (inI64 (((1 : Int) + (w27.tmod (5 : Int))))) <|
          grd (inI64 (((1 : Int) + (w27.tmod (5 : Int))))) <|
          if (({ x25 with fuse := (((1 : Int) + (w27.tmod (5 : Int)))).toNat }).down = true ∨ (((l.getD x26 (⟨0, 0, 0, 0⟩ : volumegroupmake_Step))).Kind = (3 : Int))) then
            Option.bind (volumegroupmake_Keep (((l.getD x26 (⟨0, 0, 0, 0⟩ : volumegroupmake_Step))).Keep)) fun r114 =>
            grd (inLen ({ x25 with fuse := (((1 : Int) + (w27.tmod (5 : Int)))).toNat }).writes) <|
            seqO (volumegrouplaw04_DiskCandidates_l5 x25 w27 r114 FUEL (failedT x24) 0) fun a122 =>
            rec a122 ((rsS ({ x25 with fuse := (((1 : Int) + (w27.tmod (5 : Int)))).toNat }) r114)) (x26 + 1)
          else
            rec x24 ({ x25 with fuse := (((1 : Int) + (w27.tmod (5 : Int)))).toNat }) (x26 + 1)
        else
          if (x25.down = true ∨ (((l.getD x26 (⟨0, 0, 0, 0⟩ : volumegroupmake_Step))).Kind = (3 : Int))) then
            Option.bind (volumegroupmake_Keep (((l.getD x26 (⟨0, 0, 0, 0⟩ : volumegroupmake_Step))).Keep)) fun r140 =>
            grd (inLen x25.writes) <|
            seqO (volumegrouplaw04_DiskCandidates_l6 x25 r140 FUEL (failedT x24) 0) fun a148 =>
            rec a148 (rsS x25 r140) (x26 + 1)
          else
            rec x24 x25 (x26 + 1)
  else
    some (.inl (x24, x25))

def volumegrouplaw04_DiskCandidates_l1 (l : List volumegroupmake_Step) : Nat → (List Sec) → ArrS → Nat → Option (((List Sec) × ArrS) ⊕ Bool)
  | 0, _, _, _ => none
  | n + 1, x24, x25, x26 => volumegrouplaw04_DiskCandidates_l1_b l (volumegrouplaw04_DiskCandidates_l1 l n) x24 x25 x26

def volumegrouplaw04_DiskCandidates (l : List volumegroupmake_Step) : Option (Bool) :=
  Option.bind (volumegroupmake_Few l) fun r2 =>
  if (¬ r2 = true) then
    Option.bind (volumegrouplaw04_awake) fun r4 =>
    some r4
  else
    grd (inLen ([(5 : Int)]).length) <|
    if ((newC ([(5 : Int)])) ≠ (0 : Int)) then
      some false
    else
      Option.elim (newO ([(5 : Int)])) (
        some false) fun o14 =>
      grd (decide ((List.replicate 5 0).length ≤ 65536)) <|
      seqO (volumegrouplaw04_DiskCandidates_l1 l FUEL ((trkT (List.replicate 5 0))) o14 0) fun a23 =>
      Option.bind (volumegrouplaw04_awake) fun r153 =>
      some r153

theorem L_volumegrouplaw04_DiskCandidates {W : World} {Al : HP} {vl : Value} {l : List volumegroupmake_Step} {r : Bool} (rl : Reads Al tyvolumegroupmake_Step vl l) (h : volumegrouplaw04_DiskCandidates l = some r) :
    CSpec Try.prog W 3 [vl] [Al] (fun x : Unit => .bool r) (fun _ => True) (fun x F => Al :: F) := by
  refine CSpec.of_body Try.func3 rfl Try.ntmps3 rfl (fun F => ?_)
  show CJ _ _ _ _ _ _ (_ :: F)
  unfold volumegrouplaw04_DiskCandidates at h
  refine CJ_pure (len_of rl del0) (fun hlen1 => ?_)
  refine CJ_seq ?_
  refine CJ_region ?_
  refine RJ_op rfl (OJ_P (P_assign rfl) rfl ?_)
  refine RJ_nil ?_
  refine QJ_then ?_
  refine CJ_seq ?_
  refine CJ_seq ?_
  refine CJ_region ?_
  refine RJ_op rfl (OJ_P (P_move rfl) rfl ?_)
  obtain ⟨r2, hr3, h⟩ := bind_e h
  refine RJ_op rfl (O_call (L_volumegroupmake_Few rl hr3) rfl Try.call8 (Dels.cons del0 Dels.nil) rfl (fun _ _ => ?_))
  refine RJ_op rfl (OJ_P (P_not rfl) rfl ?_)
  refine RJ_nil ?_
  refine QJ_then ?_
  refine CJ_condP rfl (bT_not Iff.rfl) (fun hg1 => ?_) (fun hg1 => ?_)
  ·
    replace h := ite_t hg1 h
    refine CJ_seq ?_
    refine CJ_region ?_
    obtain ⟨r4, hr5, h⟩ := bind_e h
    refine RJ_op rfl (O_call (L_volumegrouplaw04_awake hr5) rfl Try.call9 Dels.nil rfl (fun _ _ => ?_))
    refine RJ_op rfl (OJ_P (P_assign rfl) rfl ?_)
    refine RJ_nil ?_
    refine QJ_then ?_
    refine CJ_ret ?_
    refine QJ_then_ret ?_
    have hE := Option.some.inj h
    subst hE
    refine QJ_end (res1 Try.results3 rfl) ?_
    refine CSpec.close () ?_ ?_ Ent.refl
    · rfl
    · trivial
  ·
    replace h := ite_f hg1 h
    refine CJ_skip ?_
    refine QJ_then ?_
    refine CJ_seq ?_
    refine CJ_region ?_
    refine RJ_op rfl (O_buildSlice rfl (bs_29_1_0 _) rfl (fun b6 => ?_))
    refine RJ_ent (Ent.trans (Ent.take del0 Ent.refl) (sl_of_lit (t := tyI) (m := 1) [(5 : Int)] rfl rfl rfl (by decide))) ?_
    obtain ⟨hg2, h⟩ := grd_Le h
    refine RJ_op rfl (O_call (c_NewO (Reads.sl _ _ _) hg2) rfl Try.call10 (Dels.cons del0 Dels.nil) rfl (fun X7 _ => ?_))
    refine RJ_op rfl (OJ_P (P_move rfl) rfl ?_)
    refine RJ_op rfl (OJ_P (P_extract rfl rfl) rfl ?_)
    refine RJ_op rfl (OJ_P (P_extract rfl rfl) rfl ?_)
    refine RJ_op rfl (OJ_P (P_assign rfl) rfl ?_)
    refine RJ_op rfl (OJ_P (P_assign rfl) rfl ?_)
    refine RJ_nil ?_
    refine QJ_then ?_
    refine CJ_seq ?_
    refine CJ_seq ?_
    refine CJ_region ?_
    refine RJ_op rfl (OJ_P (P_move rfl) rfl ?_)
    refine RJ_op rfl (OJ_P (P_neq (a := (newC ([(5 : Int)]))) (b := (0 : Int)) rfl rfl) rfl ?_)
    refine RJ_op rfl (OJ_P (P_move rfl) rfl ?_)
    refine RJ_mbF rfl rfl rfl (fun hG9 => have hP10 : ¬ ((newC ([(5 : Int)])) ≠ (0 : Int)) := nP (bT_dec) hG9; VJ_P (P_move rfl)) ?_
    refine RJ_splitP 22 rfl bT_dec (fun hg3B hg3 => ?_) (fun hg3B hg3 => ?_)
    ·
      replace h := ite_t hg3 h
      refine RJ_gn (GY_no rfl rfl rfl hg3B) rfl rfl ?_
      refine RJ_op rfl (OJ_P (P_pickT rfl hg3B rfl) rfl ?_)
      refine RJ_nil ?_
      refine QJ_then ?_
      refine CJ_condT rfl rfl ?_
      refine CJ_seq ?_
      refine CJ_region ?_
      refine RJ_op rfl (OJ_P (P_assign rfl) rfl ?_)
      refine RJ_nil ?_
      refine QJ_then ?_
      refine CJ_ret ?_
      refine QJ_then_ret ?_
      have hE := Option.some.inj h
      subst hE
      refine QJ_end (res1 Try.results3 rfl) ?_
      refine CSpec.close () ?_ ?_ (Ent.take del2 (Ent.drop (Ent.drop Ent.refl)))
      · rfl
      · trivial
    ·
      replace h := ite_f hg3 h
      rcases opt_e h with ⟨ht13, h⟩ | ⟨o14, ht13, h⟩
      ·
        rw [ht13]
        refine RJ_ent (Ent.take del1 (Ent.take del1 (Ent.drop Ent.refl))) ?_
        refine RJ_gy (GY_yes rfl rfl rfl hg3B) (OJ_P (P_eqlNN (mbx (not_f hg3B) rfl) rfl Try.underlying25) rfl ?_)
        refine RJ_op rfl (OJ_P (P_pickF rfl hg3B rfl) rfl ?_)
        refine RJ_nil ?_
        refine QJ_then ?_
        refine CJ_condT rfl rfl ?_
        refine CJ_seq ?_
        refine CJ_region ?_
        refine RJ_op rfl (OJ_P (P_assign rfl) rfl ?_)
        refine RJ_nil ?_
        refine QJ_then ?_
        refine CJ_ret ?_
        refine QJ_then_ret ?_
        have hE := Option.some.inj h
        subst hE
        refine QJ_end (res1 Try.results3 rfl) ?_
        refine CSpec.close () ?_ ?_ (Ent.take del1 (Ent.drop Ent.refl))
        · rfl
        · trivial
      ·
        rw [ht13]
        refine RJ_ent (Ent.takeC (A' := Arr X7 o14) del0 rfl Ent.refl) ?_
        refine RJ_gy (GY_yes rfl rfl rfl hg3B) (OJ_P (P_eqlPN (mbx (not_f hg3B) rfl) rfl Try.underlying25) rfl ?_)
        refine RJ_op rfl (OJ_P (P_pickF rfl hg3B rfl) rfl ?_)
        refine RJ_nil ?_
        refine QJ_then ?_
        refine CJ_condF rfl rfl ?_
        refine CJ_skip ?_
        refine QJ_then ?_
        refine CJ_seq ?_
        refine CJ_region ?_
        refine RJ_op rfl (O_make (t := tyU) (m := 5) (x0 := 0) (z := _) (bytes := _) rfl rfl rfl rfl Try.underlying32 ⟨Try.t33, by kernel_rfl, rfl, rfl, rfl⟩ rfl (by omega) (by decide) rfl (fun b15 => ?_))
        obtain ⟨hg4, h⟩ := grd_de h
        refine RJ_op rfl (O_call (c_Tracked (Reads.sl _ _ _) hg4) rfl Try.call11 (Dels.cons del0 Dels.nil) rfl (fun X16 _ => ?_))
        refine RJ_op rfl (OJ_P (P_assign rfl) rfl ?_)
        refine RJ_nil ?_
        refine QJ_then ?_
        refine CJ_seq ?_
        refine CJ_seq ?_
        refine CJ_region ?_
        refine RJ_op rfl (OJ_P (P_assign rfl) rfl ?_)
        refine RJ_nil ?_
        refine QJ_then ?_
        obtain ⟨y20, hl18, hK19⟩ := seq_e h
        refine CJ_cutT (X := (List Sec) × ArrS) [2, 6, 7, 8, 9, 10, 28, 29, 30, 31, 32, 33, 34, 35, 36, 37, 38, 39, 40, 41, 42, 43, 44, 45, 46, 47, 48, 49, 50, 51, 52, 53, 54, 55, 56, 57, 58, 59, 60, 61, 62, 63, 64, 65, 66, 67, 68, 69, 70, 71, 72, 73, 74, 75, 76, 77, 78, 79, 80, 81, 82, 83, 84, 85, 86, 87, 88, 89, 90, 91, 92, 93, 94, 95, 96, 97, 98, 99, 100, 101, 102, 103, 104, 105, 106, 107, 108, 109, 110, 111, 112, 113, 114, 115, 116, 117] (fun a23 => ([] : Slots)) (fun a23 R => Trk X16 a23.1 :: Arr X7 a23.2 :: R) (fun a23 => y20 = .inl a23) (Dels.cons del0 (Dels.cons del1 Dels.nil)) ?_ ?_
        ·
          refine CJ_block ?_
          refine CJ_loopR (X := Nat × (List Sec) × ArrS × Nat) [2, 6, 7, 8, 9, 10, 28, 29, 30, 31, 32, 33, 34, 35, 36, 37, 38, 39, 40, 41, 42, 43, 44, 45, 46, 47, 48, 49, 50, 51, 52, 53, 54, 55, 56, 57, 58, 59, 60, 61, 62, 63, 64, 65, 66, 67, 68, 69, 70, 71, 72, 73, 74, 75, 76, 77, 78, 79, 80, 81, 82, 83, 84, 85, 86, 87, 88, 89, 90, 91, 92, 93, 94, 95, 96, 97, 98, 99, 100, 101, 102, 103, 104, 105, 106, 107, 108, 109, 110, 111, 112, 113, 114, 115, 116, 117] (fun ⟨n, x24, x25, x26⟩ => ([(6, .int .i64 (((x26 : Nat) : Int)))] : Slots)) (fun ⟨n, x24, x25, x26⟩ R => Trk X16 x24 :: Arr X7 x25 :: R) (fun ⟨n, x24, x25, x26⟩ => volumegrouplaw04_DiskCandidates_l1 l n x24 x25 x26 = some y20) (fun ⟨n, x24, x25, x26⟩ => n) ⟨FUEL, (trkT (List.replicate 5 0)), o14, 0⟩ ?_ ?_ (Ent.take del0 (Ent.take del1 Ent.refl)) ?_
          · exact hl18
          · exact ⟨rfl, True.intro⟩
          ·
            rintro ⟨n, x24, x25, x26⟩ h
            cases n with
            | zero => exact none_e h
            | succ n => ?_
            replace h : volumegrouplaw04_DiskCandidates_l1_b l (volumegrouplaw04_DiskCandidates_l1 l n) x24 x25 x26 = some y20 := h
            unfold volumegrouplaw04_DiskCandidates_l1_b at h
            show CJ _ _ _ _ _ (([(6, .int .i64 (((x26 : Nat) : Int)))] : Slots) ++ forget _ _) (Trk X16 x24 :: Arr X7 x25 :: _)
            refine CJ_seq ?_
            refine CJ_seq ?_
            refine CJ_region ?_
            refine RJ_op rfl (OJ_P (P_move rfl) rfl ?_)
            refine RJ_op rfl (OJ_P (P_move rfl) rfl ?_)
            refine RJ_op rfl (OJ_V (V_len rfl foc4 rl Try.runUnderlying22) rfl ?_)
            refine RJ_op rfl (OJ_P (P_lss (a := ((x26 : Nat) : Int)) (b := ((l.length : Nat) : Int)) rfl rfl) rfl ?_)
            refine RJ_nil ?_
            refine QJ_then ?_
            refine CJ_condP rfl bT_dec (fun hg5 => ?_) (fun hg5 => ?_)
            ·
              replace h := ite_t hg5 h
              refine CJ_skip ?_
              refine QJ_then ?_
              refine CJ_seq ?_
              refine CJ_block ?_
              refine CJ_seq ?_
              refine CJ_region ?_
              refine RJ_op rfl (OJ_P (P_move rfl) rfl ?_)
              refine RJ_op rfl (OJ_P (P_move rfl) rfl ?_)
              refine RJ_op rfl (OJ_V (V_index (i := x26) rfl rfl rfl (by omega) foc4 rl Try.runUnderlying22 Try.sizeOf35) rfl ?_)
              refine RJ_op rfl (OJ_P (P_fieldE rfl ⟨_, _, _, Try.runUnderlying35, rfl, rfl, Try.sizeOf3, rfl⟩) rfl ?_)
              refine RJ_op rfl (OJ_V (V_loadE rfl rfl (by omega) foc4 rl rfl rfl Try.isAgg3) rfl ?_)
              refine RJ_op rfl (OJ_P (P_remT (a := ((l.getD x26 (⟨0, 0, 0, 0⟩ : volumegroupmake_Step))).At) (b := (5 : Int)) rfl rfl (by decide)) rfl ?_)
              obtain ⟨hg6, h⟩ := grd_Ie h
              refine RJ_op rfl (OJ_P (P_add (a := ((((l.getD x26 (⟨0, 0, 0, 0⟩ : volumegroupmake_Step))).At).tmod (5 : Int))) (b := (5 : Int)) rfl rfl hg6) rfl ?_)
              obtain ⟨w27, hw27, h⟩ := lt_e h
              rw [← hw27]
              refine RJ_op rfl (OJ_P (P_remT (a := w27) (b := (5 : Int)) rfl rfl (by decide)) rfl ?_)
              refine RJ_op rfl (OJ_P (P_assign rfl) rfl ?_)
              refine RJ_nil ?_
              refine QJ_then ?_
              refine CJ_seq ?_
              refine CJ_seq ?_
              refine CJ_region ?_
              refine RJ_op rfl (OJ_P (P_move rfl) rfl ?_)
              refine RJ_op rfl (OJ_P (P_move rfl) rfl ?_)
              refine RJ_op rfl (OJ_V (V_index (i := x26) rfl rfl rfl (by omega) foc4 rl Try.runUnderlying22 Try.sizeOf35) rfl ?_)
              refine RJ_op rfl (OJ_P (P_fieldE rfl ⟨_, _, _, Try.runUnderlying35, rfl, rfl, Try.sizeOf3, rfl⟩) rfl ?_)
              refine RJ_op rfl (OJ_V (V_loadE rfl rfl (by omega) foc4 rl rfl rfl Try.isAgg3) rfl ?_)
              refine RJ_nil ?_
              refine QJ_then ?_
              refine CJ_block ?_
              refine CJ_seq ?_
              refine CJ_region ?_
              refine RJ_op rfl (OJ_P (P_eql (a := ((l.getD x26 (⟨0, 0, 0, 0⟩ : volumegroupmake_Step))).Kind) (b := (0 : Int)) rfl rfl) rfl ?_)
              refine RJ_op rfl (OJ_P (P_assign rfl) rfl ?_)
              refine RJ_nil ?_
              refine QJ_then ?_
              refine CJ_condP rfl bT_dec (fun hg7 => ?_) (fun hg7 => ?_)
              ·
                replace h := ite_t hg7 h
                refine AJ_start [sl tyU (.slice (some ⟨b15, 0, none⟩) 5 5) (List.replicate 5 0), sl tyI (.slice (some ⟨b6, 0, none⟩) 1 1) ([(5 : Int)]), Al] 65536 (by kernel_rfl) rfl ?_
                refine AJ_takeP 0 1 rfl (by kernel_rfl) rfl (GY_none rfl) (P_move rfl) rfl (fun _ _ _ _ h => h) ?_
                refine AJ_takeP 1 3 rfl (by kernel_rfl) rfl (GY_none rfl) (P_move rfl) rfl (fun _ _ _ _ h => h) ?_
                refine AJ_takeP 2 7 rfl (by kernel_rfl) rfl (GY_none rfl) (P_move rfl) rfl (fun _ _ _ _ h => h) ?_
                refine AJ_takeP 3 15 rfl (by kernel_rfl) rfl (GY_none rfl) (P_move rfl) rfl (fun _ _ _ _ h => h) ?_
                refine AJ_takeV 4 31 rfl (by kernel_rfl) rfl (by kernel_rfl) (by kernel_rfl) (GY_none rfl) (Ent.take del2 (Ent.take del2 (Ent.take del2 Ent.done))) (V_index (i := x26) rfl rfl rfl (by omega) foc2 rl Try.runUnderlying22 Try.sizeOf35) rfl (fun _ _ _ _ h => h) ?_
                refine AJ_takeP 5 63 rfl (by kernel_rfl) rfl (GY_none rfl) (P_fieldE rfl ⟨_, _, _, Try.runUnderlying35, rfl, rfl, Try.sizeOf33, rfl⟩) rfl (fun _ _ _ _ h => h) ?_
                refine AJ_takeV 6 127 rfl (by kernel_rfl) rfl (by kernel_rfl) (by kernel_rfl) (GY_none rfl) (Ent.take del2 (Ent.take del2 (Ent.take del2 Ent.done))) (V_loadE rfl rfl (by omega) foc2 rl rfl rfl Try.isAgg33) rfl (fun _ _ _ _ h => h) ?_
                refine AJ_takeP 7 255 rfl (by kernel_rfl) rfl (GY_none rfl) (P_move rfl) rfl (fun _ _ _ _ h => h) ?_
                refine AJ_takeP 8 511 rfl (by kernel_rfl) rfl (GY_none rfl) (P_move rfl) rfl (fun _ _ _ _ h => h) ?_
                refine AJ_takeP 9 1023 rfl (by kernel_rfl) rfl (GY_none rfl) (P_move rfl) rfl (fun _ _ _ _ h => h) ?_
                refine AJ_takeP 10 2047 rfl (by kernel_rfl) rfl (GY_none rfl) (P_move rfl) rfl (fun _ _ _ _ h => h) ?_
                refine AJ_takeV 11 4095 rfl (by kernel_rfl) rfl (by kernel_rfl) (by kernel_rfl) (GY_none rfl) (Ent.take del2 (Ent.take del2 (Ent.take del2 Ent.done))) (V_index (i := x26) rfl rfl rfl (by omega) foc2 rl Try.runUnderlying22 Try.sizeOf35) rfl (fun _ _ _ _ h => h) ?_
                refine AJ_takeP 12 8191 rfl (by kernel_rfl) rfl (GY_none rfl) (P_fieldE rfl ⟨_, _, _, Try.runUnderlying35, rfl, rfl, Try.sizeOf33, rfl⟩) rfl (fun _ _ _ _ h => h) ?_
                refine AJ_takeV 13 16383 rfl (by kernel_rfl) rfl (by kernel_rfl) (by kernel_rfl) (GY_none rfl) (Ent.take del2 (Ent.take del2 (Ent.take del2 Ent.done))) (V_loadE rfl rfl (by omega) foc2 rl rfl rfl Try.isAgg33) rfl (fun _ _ _ _ h => h) ?_
                obtain ⟨hg8, h⟩ := grd_Le h
                refine AJ_op 14 32767 rfl (by kernel_rfl) rfl (GY_none rfl) (O_call (c_Write hg8 (v := ((l.getD x26 (⟨0, 0, 0, 0⟩ : volumegroupmake_Step))).Value)) rfl Try.call13 (Dels.cons del1 Dels.nil) rfl (fun _ _ => ?_))
                refine ⟨fun _ => (Ent.take del2 (Ent.take del2 (Ent.take del2 Ent.done))), ?_⟩
                refine AJ_takeP 15 65535 rfl (by kernel_rfl) rfl (GY_none rfl) (P_eql (a := (wrR x25 (0 : Int) ((w27.tmod (5 : Int))))) (b := (0 : Int)) rfl rfl) rfl (fun _ _ _ _ h => h) ?_
                obtain ⟨hg9, h⟩ := grd_de h
                refine AJ_op 16 131071 rfl (by kernel_rfl) rfl (GY_none rfl) (O_call (c_Wrote (smallT_at hg9) (v := ((l.getD x26 (⟨0, 0, 0, 0⟩ : volumegroupmake_Step))).Value)) rfl Try.call12 (Dels.cons del1 Dels.nil) rfl (fun _ _ => ?_))
                refine ⟨fun h => absurd h (by decide), ?_⟩
                refine AJ_done (by kernel_rfl) ?_
                refine QJ_block_normal ?_
                refine QJ_then ?_
                refine CJ_seq ?_
                refine CJ_region ?_
                refine RJ_op rfl (OJ_P (P_move rfl) rfl ?_)
                refine RJ_op rfl (O_call (c_Down) rfl Try.call17 (Dels.cons del1 Dels.nil) rfl (fun _ _ => ?_))
                refine RJ_op rfl (OJ_P (P_move rfl) rfl ?_)
                refine RJ_mbF rfl rfl rfl (fun hG28 => have hP29 : ¬ ((wrS x25 (0 : Int) ((w27.tmod (5 : Int))) (((l.getD x26 (⟨0, 0, 0, 0⟩ : volumegroupmake_Step))).Value))).down = true := nP (Iff.rfl) hG28; VJ_P (P_move rfl)) ?_
                refine RJ_mbF rfl rfl rfl (fun hG30 => have hP31 : ¬ ((wrS x25 (0 : Int) ((w27.tmod (5 : Int))) (((l.getD x26 (⟨0, 0, 0, 0⟩ : volumegroupmake_Step))).Value))).down = true := nP (Iff.rfl) hG30; VJ_P (P_move rfl)) ?_
                refine RJ_mbF rfl rfl rfl (fun hG32 => have hP33 : ¬ ((wrS x25 (0 : Int) ((w27.tmod (5 : Int))) (((l.getD x26 (⟨0, 0, 0, 0⟩ : volumegroupmake_Step))).Value))).down = true := nP (Iff.rfl) hG32; V_index (i := x26) (mbx hG32 rfl) (mbx hG32 rfl) rfl (by omega) foc4 rl Try.runUnderlying22 Try.sizeOf35) ?_
                refine RJ_mbF rfl rfl rfl (fun hG34 => have hP35 : ¬ ((wrS x25 (0 : Int) ((w27.tmod (5 : Int))) (((l.getD x26 (⟨0, 0, 0, 0⟩ : volumegroupmake_Step))).Value))).down = true := nP (Iff.rfl) hG34; VJ_P (P_fieldE (mbx hG34 rfl) ⟨_, _, _, Try.runUnderlying35, rfl, rfl, Try.sizeOf3, rfl⟩)) ?_
                refine RJ_mbF rfl rfl rfl (fun hG36 => have hP37 : ¬ ((wrS x25 (0 : Int) ((w27.tmod (5 : Int))) (((l.getD x26 (⟨0, 0, 0, 0⟩ : volumegroupmake_Step))).Value))).down = true := nP (Iff.rfl) hG36; V_loadE (mbx hG36 rfl) rfl (by omega) foc4 rl rfl rfl Try.isAgg3) ?_
                refine RJ_mbF rfl rfl rfl (fun hG38 => have hP39 : ¬ ((wrS x25 (0 : Int) ((w27.tmod (5 : Int))) (((l.getD x26 (⟨0, 0, 0, 0⟩ : volumegroupmake_Step))).Value))).down = true := nP (Iff.rfl) hG38; VJ_P (P_eql (a := ((l.getD x26 (⟨0, 0, 0, 0⟩ : volumegroupmake_Step))).Kind) (b := (3 : Int)) (mbx hG38 rfl) rfl)) ?_
                refine RJ_op rfl (OJ_P (P_pickOr rfl rfl (fun hh => mbx (not_f hh) rfl)) rfl ?_)
                refine RJ_nil ?_
                refine QJ_then ?_
                refine CJ_condP rfl (bT_or Iff.rfl bT_dec) (fun hg10 => ?_) (fun hg10 => ?_)
                ·
                  replace h := ite_t hg10 h
                  refine CJ_seq ?_
                  refine CJ_region ?_
                  refine RJ_op rfl (OJ_P (P_move rfl) rfl ?_)
                  refine RJ_op rfl (O_call (c_Failed) rfl Try.call18 (Dels.cons del1 Dels.nil) rfl (fun _ _ => ?_))
                  refine RJ_nil ?_
                  refine QJ_then ?_
                  refine CJ_seq ?_
                  refine CJ_region ?_
                  refine RJ_op rfl (OJ_P (P_move rfl) rfl ?_)
                  refine RJ_op rfl (OJ_P (P_move rfl) rfl ?_)
                  refine RJ_op rfl (OJ_P (P_move rfl) rfl ?_)
                  refine RJ_op rfl (OJ_V (V_index (i := x26) rfl rfl rfl (by omega) foc4 rl Try.runUnderlying22 Try.sizeOf35) rfl ?_)
                  refine RJ_op rfl (OJ_P (P_fieldE rfl ⟨_, _, _, Try.runUnderlying35, rfl, rfl, Try.sizeOf33, rfl⟩) rfl ?_)
                  refine RJ_op rfl (OJ_V (V_loadE rfl rfl (by omega) foc4 rl rfl rfl Try.isAgg33) rfl ?_)
                  obtain ⟨r40, hr41, h⟩ := bind_e h
                  refine RJ_op rfl (O_call (L_volumegroupmake_Keep hr41) rfl Try.call20 Dels.nil rfl (fun X42 _ => ?_))
                  obtain ⟨hg11, h⟩ := grd_Le h
                  refine RJ_op rfl (O_call (c_Restart (Reads.sl _ _ _) hg11) rfl Try.call19 (Dels.cons del2 (Dels.cons del0 Dels.nil)) rfl (fun _ _ => ?_))
                  refine RJ_nil ?_
                  refine QJ_then ?_
                  refine CJ_seq ?_
                  refine CJ_region ?_
                  refine RJ_op rfl (OJ_P (P_assign rfl) rfl ?_)
                  refine RJ_nil ?_
                  refine QJ_then ?_
                  obtain ⟨y46, hl44, hK45⟩ := seq_e h
                  refine CJ_cutQ (X := (List Sec)) [2, 8, 9, 10, 99, 100, 101, 102, 103, 104, 105, 106, 107, 108, 109, 110, 111, 112, 113, 114, 115, 116, 117] (fun a48 => ([] : Slots)) (fun a48 R => Trk X16 a48 :: R) (fun a48 => y46 = .inl a48) (Dels.cons del2 Dels.nil) ?_ ?_
                  ·
                    refine CJ_block ?_
                    refine CJ_loopR (X := Nat × (List Sec) × Nat) [2, 8, 9, 10, 99, 100, 101, 102, 103, 104, 105, 106, 107, 108, 109, 110, 111, 112, 113, 114, 115, 116, 117] (fun ⟨n, x49, x50⟩ => ([(8, .int .i64 (((x50 : Nat) : Int)))] : Slots)) (fun ⟨n, x49, x50⟩ R => Trk X16 x49 :: R) (fun ⟨n, x49, x50⟩ => volumegrouplaw04_DiskCandidates_l2 l x25 x26 w27 r40 n x49 x50 = some y46) (fun ⟨n, x49, x50⟩ => n) ⟨FUEL, (failedT ((wroteT x24 ((w27.tmod (5 : Int))) (((l.getD x26 (⟨0, 0, 0, 0⟩ : volumegroupmake_Step))).Value) ((decide ((wrR x25 (0 : Int) ((w27.tmod (5 : Int)))) = (0 : Int))))))), 0⟩ ?_ ?_ (Ent.take del2 Ent.refl) ?_
                    · exact hl44
                    · exact ⟨rfl, True.intro⟩
                    ·
                      rintro ⟨n, x49, x50⟩ h
                      cases n with
                      | zero => exact none_e h
                      | succ n => ?_
                      replace h : volumegrouplaw04_DiskCandidates_l2_b l x25 x26 w27 r40 (volumegrouplaw04_DiskCandidates_l2 l x25 x26 w27 r40 n) x49 x50 = some y46 := h
                      unfold volumegrouplaw04_DiskCandidates_l2_b at h
                      show CJ _ _ _ _ _ (([(8, .int .i64 (((x50 : Nat) : Int)))] : Slots) ++ forget _ _) (Trk X16 x49 :: _)
                      refine CJ_seq ?_
                      refine CJ_seq ?_
                      refine CJ_region ?_
                      refine RJ_op rfl (OJ_P (P_move rfl) rfl ?_)
                      refine RJ_op rfl (OJ_P (P_lss (a := ((x50 : Nat) : Int)) (b := (5 : Int)) rfl rfl) rfl ?_)
                      refine RJ_nil ?_
                      refine QJ_then ?_
                      refine CJ_condP rfl bT_dec (fun hg12 => ?_) (fun hg12 => ?_)
                      ·
                        replace h := ite_t hg12 h
                        refine CJ_skip ?_
                        refine QJ_then ?_
                        refine CJ_seq ?_
                        refine CJ_block ?_
                        refine CJ_seq ?_
                        refine CJ_region ?_
                        refine RJ_op rfl (OJ_P (P_move rfl) rfl ?_)
                        refine RJ_op rfl (OJ_P (P_move rfl) rfl ?_)
                        refine RJ_op rfl (O_call (c_Read) rfl Try.call21 (Dels.cons del1 Dels.nil) rfl (fun _ _ => ?_))
                        refine RJ_op rfl (OJ_P (P_move rfl) rfl ?_)
                        refine RJ_op rfl (OJ_P (P_extract rfl rfl) rfl ?_)
                        obtain ⟨w51, hw51, h⟩ := lt_e h
                        rw [← hw51]
                        refine RJ_op rfl (OJ_P (P_extract rfl rfl) rfl ?_)
                        obtain ⟨w52, hw52, h⟩ := lt_e h
                        rw [← hw52]
                        refine RJ_op rfl (OJ_P (P_assign rfl) rfl ?_)
                        refine RJ_op rfl (OJ_P (P_assign rfl) rfl ?_)
                        refine RJ_nil ?_
                        refine QJ_then ?_
                        refine CJ_seq ?_
                        refine CJ_region ?_
                        refine RJ_op rfl (OJ_P (P_move rfl) rfl ?_)
                        refine RJ_op rfl (OJ_P (P_neq (a := w52) (b := (0 : Int)) rfl rfl) rfl ?_)
                        refine RJ_op rfl (OJ_P (P_move rfl) rfl ?_)
                        refine RJ_splitP 111 rfl bT_dec (fun hg13B hg13 => ?_) (fun hg13B hg13 => ?_)
                        ·
                          replace h := ite_t hg13 h
                          refine RJ_gn (GY_no rfl rfl rfl hg13B) rfl rfl ?_
                          refine RJ_gn (GY_no rfl rfl rfl hg13B) rfl rfl ?_
                          refine RJ_gn (GY_no rfl rfl rfl hg13B) rfl rfl ?_
                          refine RJ_gn (GY_no rfl rfl rfl hg13B) rfl rfl ?_
                          refine RJ_gn (GY_no rfl rfl rfl hg13B) rfl rfl ?_
                          refine RJ_op rfl (OJ_P (P_pickT rfl hg13B rfl) rfl ?_)
                          refine RJ_nil ?_
                          refine QJ_then ?_
                          refine CJ_condT rfl rfl ?_
                          refine CJ_seq ?_
                          refine CJ_region ?_
                          refine RJ_op rfl (OJ_P (P_assign rfl) rfl ?_)
                          refine RJ_nil ?_
                          refine QJ_then ?_
                          refine CJ_ret ?_
                          refine QJ_block_ret ?_
                          refine QJ_then_ret ?_
                          refine QJ_round_ret ?_
                          refine QJ_block_ret ?_
                          refine QJ_then_ret ?_
                          refine QJ_block_ret ?_
                          refine QJ_then_ret ?_
                          refine QJ_round_ret ?_
                          refine QJ_block_ret ?_
                          refine QJ_then_ret ?_
                          have hE := Option.some.inj h
                          replace hE := seq_inr hK45 hE.symm
                          replace hE := seq_inr hK19 hE.symm
                          subst hE
                          refine QJ_end (res1 Try.results3 rfl) ?_
                          refine CSpec.close () ?_ ?_ (Ent.take del5 (Ent.drop (Ent.drop (Ent.drop (Ent.drop (Ent.drop Ent.refl))))))
                          · rfl
                          · trivial
                        ·
                          replace h := ite_f hg13 h
                          refine RJ_gy (GY_yes rfl rfl rfl hg13B) (OJ_P (P_move rfl) rfl ?_)
                          refine RJ_gy (GY_yes rfl rfl rfl hg13B) (OJ_P (P_move rfl) rfl ?_)
                          refine RJ_gy (GY_yes rfl rfl rfl hg13B) (OJ_P (P_move rfl) rfl ?_)
                          obtain ⟨hg14, h⟩ := grd_de h
                          refine RJ_gy (GY_yes rfl rfl rfl hg13B) (O_call (c_Reads (smallT_at hg14) (v := w51)) rfl Try.call22 (Dels.cons del1 Dels.nil) rfl (fun _ _ => ?_))
                          refine RJ_gy (GY_yes rfl rfl rfl hg13B) (OJ_P (P_not rfl) rfl ?_)
                          refine RJ_op rfl (OJ_P (P_pickF rfl hg13B rfl) rfl ?_)
                          refine RJ_nil ?_
                          refine QJ_then ?_
                          refine CJ_condP rfl (bT_not Iff.rfl) (fun hg15 => ?_) (fun hg15 => ?_)
                          ·
                            replace h := ite_t hg15 h
                            refine CJ_seq ?_
                            refine CJ_region ?_
                            refine RJ_op rfl (OJ_P (P_assign rfl) rfl ?_)
                            refine RJ_nil ?_
                            refine QJ_then ?_
                            refine CJ_ret ?_
                            refine QJ_block_ret ?_
                            refine QJ_then_ret ?_
                            refine QJ_round_ret ?_
                            refine QJ_block_ret ?_
                            refine QJ_then_ret ?_
                            refine QJ_block_ret ?_
                            refine QJ_then_ret ?_
                            refine QJ_round_ret ?_
                            refine QJ_block_ret ?_
                            refine QJ_then_ret ?_
                            have hE := Option.some.inj h
                            replace hE := seq_inr hK45 hE.symm
                            replace hE := seq_inr hK19 hE.symm
                            subst hE
                            refine QJ_end (res1 Try.results3 rfl) ?_
                            refine CSpec.close () ?_ ?_ (Ent.take del5 (Ent.drop (Ent.drop (Ent.drop (Ent.drop (Ent.drop Ent.refl))))))
                            · rfl
                            · trivial
                          ·
                            replace h := ite_f hg15 h
                            refine CJ_skip ?_
                            refine QJ_block_normal ?_
                            refine QJ_then ?_
                            refine CJ_region ?_
                            refine RJ_op rfl (OJ_P (P_move rfl) rfl ?_)
                            refine RJ_op rfl (OJ_P (PJ_eq (P_add (a := ((x50 : Nat) : Int)) (b := (1 : Int)) rfl rfl (by omega)) rfl) rfl ?_)
                            refine RJ_op rfl (OJ_P (P_assign rfl) rfl ?_)
                            refine RJ_nil ?_
                            refine QJ_nextR ⟨n, (rdTS x49 (((x50 : Nat) : Int)) w51 true), (x50 + 1)⟩ (Nat.lt_succ_self _) ?_ (by repeat (first | exact Kp.base | exact Kp.self | refine Kp.cons rfl ?_ | refine Kp.forget rfl ?_)) ?_ Ent.refl
                            · exact h
                            · exact ⟨rfl, True.intro⟩
                      ·
                        replace h := ite_f hg12 h
                        refine CJ_exit ?_
                        refine QJ_then_exit ?_
                        refine QJ_round_exit ?_
                        refine QJ_block_here ?_
                        refine QJ_cutR x49 ?_ (by repeat (first | exact Kp.base | exact Kp.self | refine Kp.cons rfl ?_ | refine Kp.forget rfl ?_)) ?_ Ent.refl
                        · exact (Option.some.inj h).symm
                        · exact True.intro
                  ·
                    rintro a48 hy53
                    replace h := seq_inl hK45 hy53
                    show QJ _ _ _ _ (([] : Slots) ++ forget _ _) (Trk X16 a48 :: _)
                    refine QJ_block_normal ?_
                    refine QJ_then ?_
                    refine CJ_region ?_
                    refine RJ_op rfl (OJ_P (P_move rfl) rfl ?_)
                    refine RJ_op rfl (OJ_P (PJ_eq (P_add (a := ((x26 : Nat) : Int)) (b := (1 : Int)) rfl rfl (by omega)) rfl) rfl ?_)
                    refine RJ_op rfl (OJ_P (P_assign rfl) rfl ?_)
                    refine RJ_nil ?_
                    refine QJ_nextR ⟨n, a48, (rsS ((wrS x25 (0 : Int) ((w27.tmod (5 : Int))) (((l.getD x26 (⟨0, 0, 0, 0⟩ : volumegroupmake_Step))).Value))) r40), (x26 + 1)⟩ (Nat.lt_succ_self _) ?_ (by repeat (first | exact Kp.base | exact Kp.self | refine Kp.cons rfl ?_ | refine Kp.forget rfl ?_)) ?_ (Ent.take del0 (Ent.take del0 (Ent.take del1 (Ent.take del1 (Ent.take del1 (Ent.drop Ent.refl))))))
                    · exact h
                    · exact ⟨rfl, True.intro⟩
                ·
                  replace h := ite_f hg10 h
                  refine CJ_skip ?_
                  refine QJ_block_normal ?_
                  refine QJ_then ?_
                  refine CJ_region ?_
                  refine RJ_op rfl (OJ_P (P_move rfl) rfl ?_)
                  refine RJ_op rfl (OJ_P (PJ_eq (P_add (a := ((x26 : Nat) : Int)) (b := (1 : Int)) rfl rfl (by omega)) rfl) rfl ?_)
                  refine RJ_op rfl (OJ_P (P_assign rfl) rfl ?_)
                  refine RJ_nil ?_
                  refine QJ_nextR ⟨n, (wroteT x24 ((w27.tmod (5 : Int))) (((l.getD x26 (⟨0, 0, 0, 0⟩ : volumegroupmake_Step))).Value) ((decide ((wrR x25 (0 : Int) ((w27.tmod (5 : Int)))) = (0 : Int))))), (wrS x25 (0 : Int) ((w27.tmod (5 : Int))) (((l.getD x26 (⟨0, 0, 0, 0⟩ : volumegroupmake_Step))).Value)), (x26 + 1)⟩ (Nat.lt_succ_self _) ?_ (by repeat (first | exact Kp.base | exact Kp.self | refine Kp.cons rfl ?_ | refine Kp.forget rfl ?_)) ?_ (Ent.take del1 Ent.refl)
                  · exact h
                  · exact ⟨rfl, True.intro⟩
              ·
                replace h := ite_f hg7 h
                refine CJ_seq ?_
                refine CJ_region ?_
                refine RJ_op rfl (OJ_P (P_eql (a := ((l.getD x26 (⟨0, 0, 0, 0⟩ : volumegroupmake_Step))).Kind) (b := (2 : Int)) rfl rfl) rfl ?_)
                refine RJ_op rfl (OJ_P (P_assign rfl) rfl ?_)
                refine RJ_nil ?_
                refine QJ_then ?_
                refine CJ_condP rfl bT_dec (fun hg16 => ?_) (fun hg16 => ?_)
                ·
                  replace h := ite_t hg16 h
                  refine CJ_seq ?_
                  refine CJ_region ?_
                  refine RJ_op rfl (OJ_P (P_move rfl) rfl ?_)
                  obtain ⟨hg17, h⟩ := grd_Le h
                  refine RJ_op rfl (O_call (c_FlushD hg17) rfl Try.call14 (Dels.cons del1 Dels.nil) rfl (fun _ _ => ?_))
                  refine RJ_op rfl (OJ_P (P_eql (a := (flC x25 (0 : Int))) (b := (0 : Int)) rfl rfl) rfl ?_)
                  refine RJ_nil ?_
                  refine QJ_then ?_
                  refine CJ_condP rfl bT_dec (fun hg18 => ?_) (fun hg18 => ?_)
                  ·
                    replace h := ite_t hg18 h
                    refine CJ_region ?_
                    refine RJ_op rfl (OJ_P (P_move rfl) rfl ?_)
                    refine RJ_op rfl (O_call (c_Flushed) rfl Try.call15 (Dels.cons del1 Dels.nil) rfl (fun _ _ => ?_))
                    refine RJ_nil ?_
                    refine QJ_block_normal ?_
                    refine QJ_then ?_
                    refine CJ_seq ?_
                    refine CJ_region ?_
                    refine RJ_op rfl (OJ_P (P_move rfl) rfl ?_)
                    refine RJ_op rfl (O_call (c_Down) rfl Try.call17 (Dels.cons del1 Dels.nil) rfl (fun _ _ => ?_))
                    refine RJ_op rfl (OJ_P (P_move rfl) rfl ?_)
                    refine RJ_mbF rfl rfl rfl (fun hG54 => have hP55 : ¬ ((flS x25 (0 : Int))).down = true := nP (Iff.rfl) hG54; VJ_P (P_move rfl)) ?_
                    refine RJ_mbF rfl rfl rfl (fun hG56 => have hP57 : ¬ ((flS x25 (0 : Int))).down = true := nP (Iff.rfl) hG56; VJ_P (P_move rfl)) ?_
                    refine RJ_mbF rfl rfl rfl (fun hG58 => have hP59 : ¬ ((flS x25 (0 : Int))).down = true := nP (Iff.rfl) hG58; V_index (i := x26) (mbx hG58 rfl) (mbx hG58 rfl) rfl (by omega) foc4 rl Try.runUnderlying22 Try.sizeOf35) ?_
                    refine RJ_mbF rfl rfl rfl (fun hG60 => have hP61 : ¬ ((flS x25 (0 : Int))).down = true := nP (Iff.rfl) hG60; VJ_P (P_fieldE (mbx hG60 rfl) ⟨_, _, _, Try.runUnderlying35, rfl, rfl, Try.sizeOf3, rfl⟩)) ?_
                    refine RJ_mbF rfl rfl rfl (fun hG62 => have hP63 : ¬ ((flS x25 (0 : Int))).down = true := nP (Iff.rfl) hG62; V_loadE (mbx hG62 rfl) rfl (by omega) foc4 rl rfl rfl Try.isAgg3) ?_
                    refine RJ_mbF rfl rfl rfl (fun hG64 => have hP65 : ¬ ((flS x25 (0 : Int))).down = true := nP (Iff.rfl) hG64; VJ_P (P_eql (a := ((l.getD x26 (⟨0, 0, 0, 0⟩ : volumegroupmake_Step))).Kind) (b := (3 : Int)) (mbx hG64 rfl) rfl)) ?_
                    refine RJ_op rfl (OJ_P (P_pickOr rfl rfl (fun hh => mbx (not_f hh) rfl)) rfl ?_)
                    refine RJ_nil ?_
                    refine QJ_then ?_
                    refine CJ_condP rfl (bT_or Iff.rfl bT_dec) (fun hg19 => ?_) (fun hg19 => ?_)
                    ·
                      replace h := ite_t hg19 h
                      refine CJ_seq ?_
                      refine CJ_region ?_
                      refine RJ_op rfl (OJ_P (P_move rfl) rfl ?_)
                      refine RJ_op rfl (O_call (c_Failed) rfl Try.call18 (Dels.cons del1 Dels.nil) rfl (fun _ _ => ?_))
                      refine RJ_nil ?_
                      refine QJ_then ?_
                      refine CJ_seq ?_
                      refine CJ_region ?_
                      refine RJ_op rfl (OJ_P (P_move rfl) rfl ?_)
                      refine RJ_op rfl (OJ_P (P_move rfl) rfl ?_)
                      refine RJ_op rfl (OJ_P (P_move rfl) rfl ?_)
                      refine RJ_op rfl (OJ_V (V_index (i := x26) rfl rfl rfl (by omega) foc4 rl Try.runUnderlying22 Try.sizeOf35) rfl ?_)
                      refine RJ_op rfl (OJ_P (P_fieldE rfl ⟨_, _, _, Try.runUnderlying35, rfl, rfl, Try.sizeOf33, rfl⟩) rfl ?_)
                      refine RJ_op rfl (OJ_V (V_loadE rfl rfl (by omega) foc4 rl rfl rfl Try.isAgg33) rfl ?_)
                      obtain ⟨r66, hr67, h⟩ := bind_e h
                      refine RJ_op rfl (O_call (L_volumegroupmake_Keep hr67) rfl Try.call20 Dels.nil rfl (fun X68 _ => ?_))
                      obtain ⟨hg20, h⟩ := grd_Le h
                      refine RJ_op rfl (O_call (c_Restart (Reads.sl _ _ _) hg20) rfl Try.call19 (Dels.cons del2 (Dels.cons del0 Dels.nil)) rfl (fun _ _ => ?_))
                      refine RJ_nil ?_
                      refine QJ_then ?_
                      refine CJ_seq ?_
                      refine CJ_region ?_
                      refine RJ_op rfl (OJ_P (P_assign rfl) rfl ?_)
                      refine RJ_nil ?_
                      refine QJ_then ?_
                      obtain ⟨y72, hl70, hK71⟩ := seq_e h
                      refine CJ_cutQ (X := (List Sec)) [2, 8, 9, 10, 99, 100, 101, 102, 103, 104, 105, 106, 107, 108, 109, 110, 111, 112, 113, 114, 115, 116, 117] (fun a74 => ([] : Slots)) (fun a74 R => Trk X16 a74 :: R) (fun a74 => y72 = .inl a74) (Dels.cons del2 Dels.nil) ?_ ?_
                      ·
                        refine CJ_block ?_
                        refine CJ_loopR (X := Nat × (List Sec) × Nat) [2, 8, 9, 10, 99, 100, 101, 102, 103, 104, 105, 106, 107, 108, 109, 110, 111, 112, 113, 114, 115, 116, 117] (fun ⟨n, x75, x76⟩ => ([(8, .int .i64 (((x76 : Nat) : Int)))] : Slots)) (fun ⟨n, x75, x76⟩ R => Trk X16 x75 :: R) (fun ⟨n, x75, x76⟩ => volumegrouplaw04_DiskCandidates_l3 x25 r66 n x75 x76 = some y72) (fun ⟨n, x75, x76⟩ => n) ⟨FUEL, (failedT (flushedT x24)), 0⟩ ?_ ?_ (Ent.take del2 Ent.refl) ?_
                        · exact hl70
                        · exact ⟨rfl, True.intro⟩
                        ·
                          rintro ⟨n, x75, x76⟩ h
                          cases n with
                          | zero => exact none_e h
                          | succ n => ?_
                          replace h : volumegrouplaw04_DiskCandidates_l3_b x25 r66 (volumegrouplaw04_DiskCandidates_l3 x25 r66 n) x75 x76 = some y72 := h
                          unfold volumegrouplaw04_DiskCandidates_l3_b at h
                          show CJ _ _ _ _ _ (([(8, .int .i64 (((x76 : Nat) : Int)))] : Slots) ++ forget _ _) (Trk X16 x75 :: _)
                          refine CJ_seq ?_
                          refine CJ_seq ?_
                          refine CJ_region ?_
                          refine RJ_op rfl (OJ_P (P_move rfl) rfl ?_)
                          refine RJ_op rfl (OJ_P (P_lss (a := ((x76 : Nat) : Int)) (b := (5 : Int)) rfl rfl) rfl ?_)
                          refine RJ_nil ?_
                          refine QJ_then ?_
                          refine CJ_condP rfl bT_dec (fun hg21 => ?_) (fun hg21 => ?_)
                          ·
                            replace h := ite_t hg21 h
                            refine CJ_skip ?_
                            refine QJ_then ?_
                            refine CJ_seq ?_
                            refine CJ_block ?_
                            refine CJ_seq ?_
                            refine CJ_region ?_
                            refine RJ_op rfl (OJ_P (P_move rfl) rfl ?_)
                            refine RJ_op rfl (OJ_P (P_move rfl) rfl ?_)
                            refine RJ_op rfl (O_call (c_Read) rfl Try.call21 (Dels.cons del1 Dels.nil) rfl (fun _ _ => ?_))
                            refine RJ_op rfl (OJ_P (P_move rfl) rfl ?_)
                            refine RJ_op rfl (OJ_P (P_extract rfl rfl) rfl ?_)
                            refine RJ_op rfl (OJ_P (P_extract rfl rfl) rfl ?_)
                            refine RJ_op rfl (OJ_P (P_assign rfl) rfl ?_)
                            refine RJ_op rfl (OJ_P (P_assign rfl) rfl ?_)
                            refine RJ_nil ?_
                            refine QJ_then ?_
                            refine CJ_seq ?_
                            refine CJ_region ?_
                            refine RJ_op rfl (OJ_P (P_move rfl) rfl ?_)
                            refine RJ_op rfl (OJ_P (P_neq (a := (rdC ((rsS ((flS x25 (0 : Int))) r66)) (0 : Int) (((x76 : Nat) : Int)))) (b := (0 : Int)) rfl rfl) rfl ?_)
                            refine RJ_op rfl (OJ_P (P_move rfl) rfl ?_)
                            refine RJ_splitP 111 rfl bT_dec (fun hg22B hg22 => ?_) (fun hg22B hg22 => ?_)
                            ·
                              replace h := ite_t hg22 h
                              refine RJ_gn (GY_no rfl rfl rfl hg22B) rfl rfl ?_
                              refine RJ_gn (GY_no rfl rfl rfl hg22B) rfl rfl ?_
                              refine RJ_gn (GY_no rfl rfl rfl hg22B) rfl rfl ?_
                              refine RJ_gn (GY_no rfl rfl rfl hg22B) rfl rfl ?_
                              refine RJ_gn (GY_no rfl rfl rfl hg22B) rfl rfl ?_
                              refine RJ_op rfl (OJ_P (P_pickT rfl hg22B rfl) rfl ?_)
                              refine RJ_nil ?_
                              refine QJ_then ?_
                              refine CJ_condT rfl rfl ?_
                              refine CJ_seq ?_
                              refine CJ_region ?_
                              refine RJ_op rfl (OJ_P (P_assign rfl) rfl ?_)
                              refine RJ_nil ?_
                              refine QJ_then ?_
                              refine CJ_ret ?_
                              refine QJ_block_ret ?_
                              refine QJ_then_ret ?_
                              refine QJ_round_ret ?_
                              refine QJ_block_ret ?_
                              refine QJ_then_ret ?_
                              refine QJ_block_ret ?_
                              refine QJ_then_ret ?_
                              refine QJ_round_ret ?_
                              refine QJ_block_ret ?_
                              refine QJ_then_ret ?_
                              have hE := Option.some.inj h
                              replace hE := seq_inr hK71 hE.symm
                              replace hE := seq_inr hK19 hE.symm
                              subst hE
                              refine QJ_end (res1 Try.results3 rfl) ?_
                              refine CSpec.close () ?_ ?_ (Ent.take del5 (Ent.drop (Ent.drop (Ent.drop (Ent.drop (Ent.drop Ent.refl))))))
                              · rfl
                              · trivial
                            ·
                              replace h := ite_f hg22 h
                              refine RJ_gy (GY_yes rfl rfl rfl hg22B) (OJ_P (P_move rfl) rfl ?_)
                              refine RJ_gy (GY_yes rfl rfl rfl hg22B) (OJ_P (P_move rfl) rfl ?_)
                              refine RJ_gy (GY_yes rfl rfl rfl hg22B) (OJ_P (P_move rfl) rfl ?_)
                              obtain ⟨hg23, h⟩ := grd_de h
                              refine RJ_gy (GY_yes rfl rfl rfl hg22B) (O_call (c_Reads (smallT_at hg23) (v := (rdV ((rsS ((flS x25 (0 : Int))) r66)) (0 : Int) (((x76 : Nat) : Int))))) rfl Try.call22 (Dels.cons del1 Dels.nil) rfl (fun _ _ => ?_))
                              refine RJ_gy (GY_yes rfl rfl rfl hg22B) (OJ_P (P_not rfl) rfl ?_)
                              refine RJ_op rfl (OJ_P (P_pickF rfl hg22B rfl) rfl ?_)
                              refine RJ_nil ?_
                              refine QJ_then ?_
                              refine CJ_condP rfl (bT_not Iff.rfl) (fun hg24 => ?_) (fun hg24 => ?_)
                              ·
                                replace h := ite_t hg24 h
                                refine CJ_seq ?_
                                refine CJ_region ?_
                                refine RJ_op rfl (OJ_P (P_assign rfl) rfl ?_)
                                refine RJ_nil ?_
                                refine QJ_then ?_
                                refine CJ_ret ?_
                                refine QJ_block_ret ?_
                                refine QJ_then_ret ?_
                                refine QJ_round_ret ?_
                                refine QJ_block_ret ?_
                                refine QJ_then_ret ?_
                                refine QJ_block_ret ?_
                                refine QJ_then_ret ?_
                                refine QJ_round_ret ?_
                                refine QJ_block_ret ?_
                                refine QJ_then_ret ?_
                                have hE := Option.some.inj h
                                replace hE := seq_inr hK71 hE.symm
                                replace hE := seq_inr hK19 hE.symm
                                subst hE
                                refine QJ_end (res1 Try.results3 rfl) ?_
                                refine CSpec.close () ?_ ?_ (Ent.take del5 (Ent.drop (Ent.drop (Ent.drop (Ent.drop (Ent.drop Ent.refl))))))
                                · rfl
                                · trivial
                              ·
                                replace h := ite_f hg24 h
                                refine CJ_skip ?_
                                refine QJ_block_normal ?_
                                refine QJ_then ?_
                                refine CJ_region ?_
                                refine RJ_op rfl (OJ_P (P_move rfl) rfl ?_)
                                refine RJ_op rfl (OJ_P (PJ_eq (P_add (a := ((x76 : Nat) : Int)) (b := (1 : Int)) rfl rfl (by omega)) rfl) rfl ?_)
                                refine RJ_op rfl (OJ_P (P_assign rfl) rfl ?_)
                                refine RJ_nil ?_
                                refine QJ_nextR ⟨n, (rdTS x75 (((x76 : Nat) : Int)) ((rdV ((rsS ((flS x25 (0 : Int))) r66)) (0 : Int) (((x76 : Nat) : Int)))) true), (x76 + 1)⟩ (Nat.lt_succ_self _) ?_ (by repeat (first | exact Kp.base | exact Kp.self | refine Kp.cons rfl ?_ | refine Kp.forget rfl ?_)) ?_ Ent.refl
                                · exact h
                                · exact ⟨rfl, True.intro⟩
                          ·
                            replace h := ite_f hg21 h
                            refine CJ_exit ?_
                            refine QJ_then_exit ?_
                            refine QJ_round_exit ?_
                            refine QJ_block_here ?_
                            refine QJ_cutR x75 ?_ (by repeat (first | exact Kp.base | exact Kp.self | refine Kp.cons rfl ?_ | refine Kp.forget rfl ?_)) ?_ Ent.refl
                            · exact (Option.some.inj h).symm
                            · exact True.intro
                      ·
                        rintro a74 hy77
                        replace h := seq_inl hK71 hy77
                        show QJ _ _ _ _ (([] : Slots) ++ forget _ _) (Trk X16 a74 :: _)
                        refine QJ_block_normal ?_
                        refine QJ_then ?_
                        refine CJ_region ?_
                        refine RJ_op rfl (OJ_P (P_move rfl) rfl ?_)
                        refine RJ_op rfl (OJ_P (PJ_eq (P_add (a := ((x26 : Nat) : Int)) (b := (1 : Int)) rfl rfl (by omega)) rfl) rfl ?_)
                        refine RJ_op rfl (OJ_P (P_assign rfl) rfl ?_)
                        refine RJ_nil ?_
                        refine QJ_nextR ⟨n, a74, (rsS ((flS x25 (0 : Int))) r66), (x26 + 1)⟩ (Nat.lt_succ_self _) ?_ (by repeat (first | exact Kp.base | exact Kp.self | refine Kp.cons rfl ?_ | refine Kp.forget rfl ?_)) ?_ (Ent.take del0 (Ent.take del0 (Ent.take del1 (Ent.take del1 (Ent.take del1 (Ent.drop Ent.refl))))))
                        · exact h
                        · exact ⟨rfl, True.intro⟩
                    ·
                      replace h := ite_f hg19 h
                      refine CJ_skip ?_
                      refine QJ_block_normal ?_
                      refine QJ_then ?_
                      refine CJ_region ?_
                      refine RJ_op rfl (OJ_P (P_move rfl) rfl ?_)
                      refine RJ_op rfl (OJ_P (PJ_eq (P_add (a := ((x26 : Nat) : Int)) (b := (1 : Int)) rfl rfl (by omega)) rfl) rfl ?_)
                      refine RJ_op rfl (OJ_P (P_assign rfl) rfl ?_)
                      refine RJ_nil ?_
                      refine QJ_nextR ⟨n, (flushedT x24), (flS x25 (0 : Int)), (x26 + 1)⟩ (Nat.lt_succ_self _) ?_ (by repeat (first | exact Kp.base | exact Kp.self | refine Kp.cons rfl ?_ | refine Kp.forget rfl ?_)) ?_ (Ent.take del1 Ent.refl)
                      · exact h
                      · exact ⟨rfl, True.intro⟩
                  ·
                    replace h := ite_f hg18 h
                    refine CJ_skip ?_
                    refine QJ_block_normal ?_
                    refine QJ_then ?_
                    refine CJ_seq ?_
                    refine CJ_region ?_
                    refine RJ_op rfl (OJ_P (P_move rfl) rfl ?_)
                    refine RJ_op rfl (O_call (c_Down) rfl Try.call17 (Dels.cons del0 Dels.nil) rfl (fun _ _ => ?_))
                    refine RJ_op rfl (OJ_P (P_move rfl) rfl ?_)
                    refine RJ_mbF rfl rfl rfl (fun hG78 => have hP79 : ¬ ((flS x25 (0 : Int))).down = true := nP (Iff.rfl) hG78; VJ_P (P_move rfl)) ?_
                    refine RJ_mbF rfl rfl rfl (fun hG80 => have hP81 : ¬ ((flS x25 (0 : Int))).down = true := nP (Iff.rfl) hG80; VJ_P (P_move rfl)) ?_
                    refine RJ_mbF rfl rfl rfl (fun hG82 => have hP83 : ¬ ((flS x25 (0 : Int))).down = true := nP (Iff.rfl) hG82; V_index (i := x26) (mbx hG82 rfl) (mbx hG82 rfl) rfl (by omega) foc4 rl Try.runUnderlying22 Try.sizeOf35) ?_
                    refine RJ_mbF rfl rfl rfl (fun hG84 => have hP85 : ¬ ((flS x25 (0 : Int))).down = true := nP (Iff.rfl) hG84; VJ_P (P_fieldE (mbx hG84 rfl) ⟨_, _, _, Try.runUnderlying35, rfl, rfl, Try.sizeOf3, rfl⟩)) ?_
                    refine RJ_mbF rfl rfl rfl (fun hG86 => have hP87 : ¬ ((flS x25 (0 : Int))).down = true := nP (Iff.rfl) hG86; V_loadE (mbx hG86 rfl) rfl (by omega) foc4 rl rfl rfl Try.isAgg3) ?_
                    refine RJ_mbF rfl rfl rfl (fun hG88 => have hP89 : ¬ ((flS x25 (0 : Int))).down = true := nP (Iff.rfl) hG88; VJ_P (P_eql (a := ((l.getD x26 (⟨0, 0, 0, 0⟩ : volumegroupmake_Step))).Kind) (b := (3 : Int)) (mbx hG88 rfl) rfl)) ?_
                    refine RJ_op rfl (OJ_P (P_pickOr rfl rfl (fun hh => mbx (not_f hh) rfl)) rfl ?_)
                    refine RJ_nil ?_
                    refine QJ_then ?_
                    refine CJ_condP rfl (bT_or Iff.rfl bT_dec) (fun hg25 => ?_) (fun hg25 => ?_)
                    ·
                      replace h := ite_t hg25 h
                      refine CJ_seq ?_
                      refine CJ_region ?_
                      refine RJ_op rfl (OJ_P (P_move rfl) rfl ?_)
                      refine RJ_op rfl (O_call (c_Failed) rfl Try.call18 (Dels.cons del1 Dels.nil) rfl (fun _ _ => ?_))
                      refine RJ_nil ?_
                      refine QJ_then ?_
                      refine CJ_seq ?_
                      refine CJ_region ?_
                      refine RJ_op rfl (OJ_P (P_move rfl) rfl ?_)
                      refine RJ_op rfl (OJ_P (P_move rfl) rfl ?_)
                      refine RJ_op rfl (OJ_P (P_move rfl) rfl ?_)
                      refine RJ_op rfl (OJ_V (V_index (i := x26) rfl rfl rfl (by omega) foc4 rl Try.runUnderlying22 Try.sizeOf35) rfl ?_)
                      refine RJ_op rfl (OJ_P (P_fieldE rfl ⟨_, _, _, Try.runUnderlying35, rfl, rfl, Try.sizeOf33, rfl⟩) rfl ?_)
                      refine RJ_op rfl (OJ_V (V_loadE rfl rfl (by omega) foc4 rl rfl rfl Try.isAgg33) rfl ?_)
                      obtain ⟨r90, hr91, h⟩ := bind_e h
                      refine RJ_op rfl (O_call (L_volumegroupmake_Keep hr91) rfl Try.call20 Dels.nil rfl (fun X92 _ => ?_))
                      obtain ⟨hg26, h⟩ := grd_Le h
                      refine RJ_op rfl (O_call (c_Restart (Reads.sl _ _ _) hg26) rfl Try.call19 (Dels.cons del2 (Dels.cons del0 Dels.nil)) rfl (fun _ _ => ?_))
                      refine RJ_nil ?_
                      refine QJ_then ?_
                      refine CJ_seq ?_
                      refine CJ_region ?_
                      refine RJ_op rfl (OJ_P (P_assign rfl) rfl ?_)
                      refine RJ_nil ?_
                      refine QJ_then ?_
                      obtain ⟨y96, hl94, hK95⟩ := seq_e h
                      refine CJ_cutQ (X := (List Sec)) [2, 8, 9, 10, 99, 100, 101, 102, 103, 104, 105, 106, 107, 108, 109, 110, 111, 112, 113, 114, 115, 116, 117] (fun a98 => ([] : Slots)) (fun a98 R => Trk X16 a98 :: R) (fun a98 => y96 = .inl a98) (Dels.cons del2 Dels.nil) ?_ ?_
                      ·
                        refine CJ_block ?_
                        refine CJ_loopR (X := Nat × (List Sec) × Nat) [2, 8, 9, 10, 99, 100, 101, 102, 103, 104, 105, 106, 107, 108, 109, 110, 111, 112, 113, 114, 115, 116, 117] (fun ⟨n, x99, x100⟩ => ([(8, .int .i64 (((x100 : Nat) : Int)))] : Slots)) (fun ⟨n, x99, x100⟩ R => Trk X16 x99 :: R) (fun ⟨n, x99, x100⟩ => volumegrouplaw04_DiskCandidates_l4 x25 r90 n x99 x100 = some y96) (fun ⟨n, x99, x100⟩ => n) ⟨FUEL, (failedT x24), 0⟩ ?_ ?_ (Ent.take del2 Ent.refl) ?_
                        · exact hl94
                        · exact ⟨rfl, True.intro⟩
                        ·
                          rintro ⟨n, x99, x100⟩ h
                          cases n with
                          | zero => exact none_e h
                          | succ n => ?_
                          replace h : volumegrouplaw04_DiskCandidates_l4_b x25 r90 (volumegrouplaw04_DiskCandidates_l4 x25 r90 n) x99 x100 = some y96 := h
                          unfold volumegrouplaw04_DiskCandidates_l4_b at h
                          show CJ _ _ _ _ _ (([(8, .int .i64 (((x100 : Nat) : Int)))] : Slots) ++ forget _ _) (Trk X16 x99 :: _)
                          refine CJ_seq ?_
                          refine CJ_seq ?_
                          refine CJ_region ?_
                          refine RJ_op rfl (OJ_P (P_move rfl) rfl ?_)
                          refine RJ_op rfl (OJ_P (P_lss (a := ((x100 : Nat) : Int)) (b := (5 : Int)) rfl rfl) rfl ?_)
                          refine RJ_nil ?_
                          refine QJ_then ?_
                          refine CJ_condP rfl bT_dec (fun hg27 => ?_) (fun hg27 => ?_)
                          ·
                            replace h := ite_t hg27 h
                            refine CJ_skip ?_
                            refine QJ_then ?_
                            refine CJ_seq ?_
                            refine CJ_block ?_
                            refine CJ_seq ?_
                            refine CJ_region ?_
                            refine RJ_op rfl (OJ_P (P_move rfl) rfl ?_)
                            refine RJ_op rfl (OJ_P (P_move rfl) rfl ?_)
                            refine RJ_op rfl (O_call (c_Read) rfl Try.call21 (Dels.cons del1 Dels.nil) rfl (fun _ _ => ?_))
                            refine RJ_op rfl (OJ_P (P_move rfl) rfl ?_)
                            refine RJ_op rfl (OJ_P (P_extract rfl rfl) rfl ?_)
                            refine RJ_op rfl (OJ_P (P_extract rfl rfl) rfl ?_)
                            refine RJ_op rfl (OJ_P (P_assign rfl) rfl ?_)
                            refine RJ_op rfl (OJ_P (P_assign rfl) rfl ?_)
                            refine RJ_nil ?_
                            refine QJ_then ?_
                            refine CJ_seq ?_
                            refine CJ_region ?_
                            refine RJ_op rfl (OJ_P (P_move rfl) rfl ?_)
                            refine RJ_op rfl (OJ_P (P_neq (a := (rdC ((rsS ((flS x25 (0 : Int))) r90)) (0 : Int) (((x100 : Nat) : Int)))) (b := (0 : Int)) rfl rfl) rfl ?_)
                            refine RJ_op rfl (OJ_P (P_move rfl) rfl ?_)
                            refine RJ_splitP 111 rfl bT_dec (fun hg28B hg28 => ?_) (fun hg28B hg28 => ?_)
                            ·
                              replace h := ite_t hg28 h
                              refine RJ_gn (GY_no rfl rfl rfl hg28B) rfl rfl ?_
                              refine RJ_gn (GY_no rfl rfl rfl hg28B) rfl rfl ?_
                              refine RJ_gn (GY_no rfl rfl rfl hg28B) rfl rfl ?_
                              refine RJ_gn (GY_no rfl rfl rfl hg28B) rfl rfl ?_
                              refine RJ_gn (GY_no rfl rfl rfl hg28B) rfl rfl ?_
                              refine RJ_op rfl (OJ_P (P_pickT rfl hg28B rfl) rfl ?_)
                              refine RJ_nil ?_
                              refine QJ_then ?_
                              refine CJ_condT rfl rfl ?_
                              refine CJ_seq ?_
                              refine CJ_region ?_
                              refine RJ_op rfl (OJ_P (P_assign rfl) rfl ?_)
                              refine RJ_nil ?_
                              refine QJ_then ?_
                              refine CJ_ret ?_
                              refine QJ_block_ret ?_
                              refine QJ_then_ret ?_
                              refine QJ_round_ret ?_
                              refine QJ_block_ret ?_
                              refine QJ_then_ret ?_
                              refine QJ_block_ret ?_
                              refine QJ_then_ret ?_
                              refine QJ_round_ret ?_
                              refine QJ_block_ret ?_
                              refine QJ_then_ret ?_
                              have hE := Option.some.inj h
                              replace hE := seq_inr hK95 hE.symm
                              replace hE := seq_inr hK19 hE.symm
                              subst hE
                              refine QJ_end (res1 Try.results3 rfl) ?_
                              refine CSpec.close () ?_ ?_ (Ent.take del5 (Ent.drop (Ent.drop (Ent.drop (Ent.drop (Ent.drop Ent.refl))))))
                              · rfl
                              · trivial
                            ·
                              replace h := ite_f hg28 h
                              refine RJ_gy (GY_yes rfl rfl rfl hg28B) (OJ_P (P_move rfl) rfl ?_)
                              refine RJ_gy (GY_yes rfl rfl rfl hg28B) (OJ_P (P_move rfl) rfl ?_)
                              refine RJ_gy (GY_yes rfl rfl rfl hg28B) (OJ_P (P_move rfl) rfl ?_)
                              obtain ⟨hg29, h⟩ := grd_de h
                              refine RJ_gy (GY_yes rfl rfl rfl hg28B) (O_call (c_Reads (smallT_at hg29) (v := (rdV ((rsS ((flS x25 (0 : Int))) r90)) (0 : Int) (((x100 : Nat) : Int))))) rfl Try.call22 (Dels.cons del1 Dels.nil) rfl (fun _ _ => ?_))
                              refine RJ_gy (GY_yes rfl rfl rfl hg28B) (OJ_P (P_not rfl) rfl ?_)
                              refine RJ_op rfl (OJ_P (P_pickF rfl hg28B rfl) rfl ?_)
                              refine RJ_nil ?_
                              refine QJ_then ?_
                              refine CJ_condP rfl (bT_not Iff.rfl) (fun hg30 => ?_) (fun hg30 => ?_)
                              ·
                                replace h := ite_t hg30 h
                                refine CJ_seq ?_
                                refine CJ_region ?_
                                refine RJ_op rfl (OJ_P (P_assign rfl) rfl ?_)
                                refine RJ_nil ?_
                                refine QJ_then ?_
                                refine CJ_ret ?_
                                refine QJ_block_ret ?_
                                refine QJ_then_ret ?_
                                refine QJ_round_ret ?_
                                refine QJ_block_ret ?_
                                refine QJ_then_ret ?_
                                refine QJ_block_ret ?_
                                refine QJ_then_ret ?_
                                refine QJ_round_ret ?_
                                refine QJ_block_ret ?_
                                refine QJ_then_ret ?_
                                have hE := Option.some.inj h
                                replace hE := seq_inr hK95 hE.symm
                                replace hE := seq_inr hK19 hE.symm
                                subst hE
                                refine QJ_end (res1 Try.results3 rfl) ?_
                                refine CSpec.close () ?_ ?_ (Ent.take del5 (Ent.drop (Ent.drop (Ent.drop (Ent.drop (Ent.drop Ent.refl))))))
                                · rfl
                                · trivial
                              ·
                                replace h := ite_f hg30 h
                                refine CJ_skip ?_
                                refine QJ_block_normal ?_
                                refine QJ_then ?_
                                refine CJ_region ?_
                                refine RJ_op rfl (OJ_P (P_move rfl) rfl ?_)
                                refine RJ_op rfl (OJ_P (PJ_eq (P_add (a := ((x100 : Nat) : Int)) (b := (1 : Int)) rfl rfl (by omega)) rfl) rfl ?_)
                                refine RJ_op rfl (OJ_P (P_assign rfl) rfl ?_)
                                refine RJ_nil ?_
                                refine QJ_nextR ⟨n, (rdTS x99 (((x100 : Nat) : Int)) ((rdV ((rsS ((flS x25 (0 : Int))) r90)) (0 : Int) (((x100 : Nat) : Int)))) true), (x100 + 1)⟩ (Nat.lt_succ_self _) ?_ (by repeat (first | exact Kp.base | exact Kp.self | refine Kp.cons rfl ?_ | refine Kp.forget rfl ?_)) ?_ Ent.refl
                                · exact h
                                · exact ⟨rfl, True.intro⟩
                          ·
                            replace h := ite_f hg27 h
                            refine CJ_exit ?_
                            refine QJ_then_exit ?_
                            refine QJ_round_exit ?_
                            refine QJ_block_here ?_
                            refine QJ_cutR x99 ?_ (by repeat (first | exact Kp.base | exact Kp.self | refine Kp.cons rfl ?_ | refine Kp.forget rfl ?_)) ?_ Ent.refl
                            · exact (Option.some.inj h).symm
                            · exact True.intro
                      ·
                        rintro a98 hy101
                        replace h := seq_inl hK95 hy101
                        show QJ _ _ _ _ (([] : Slots) ++ forget _ _) (Trk X16 a98 :: _)
                        refine QJ_block_normal ?_
                        refine QJ_then ?_
                        refine CJ_region ?_
                        refine RJ_op rfl (OJ_P (P_move rfl) rfl ?_)
                        refine RJ_op rfl (OJ_P (PJ_eq (P_add (a := ((x26 : Nat) : Int)) (b := (1 : Int)) rfl rfl (by omega)) rfl) rfl ?_)
                        refine RJ_op rfl (OJ_P (P_assign rfl) rfl ?_)
                        refine RJ_nil ?_
                        refine QJ_nextR ⟨n, a98, (rsS ((flS x25 (0 : Int))) r90), (x26 + 1)⟩ (Nat.lt_succ_self _) ?_ (by repeat (first | exact Kp.base | exact Kp.self | refine Kp.cons rfl ?_ | refine Kp.forget rfl ?_)) ?_ (Ent.take del0 (Ent.take del0 (Ent.take del1 (Ent.take del1 (Ent.take del1 (Ent.drop Ent.refl))))))
                        · exact h
                        · exact ⟨rfl, True.intro⟩
                    ·
                      replace h := ite_f hg25 h
                      refine CJ_skip ?_
                      refine QJ_block_normal ?_
                      refine QJ_then ?_
                      refine CJ_region ?_
                      refine RJ_op rfl (OJ_P (P_move rfl) rfl ?_)
                      refine RJ_op rfl (OJ_P (PJ_eq (P_add (a := ((x26 : Nat) : Int)) (b := (1 : Int)) rfl rfl (by omega)) rfl) rfl ?_)
                      refine RJ_op rfl (OJ_P (P_assign rfl) rfl ?_)
                      refine RJ_nil ?_
                      refine QJ_nextR ⟨n, x24, (flS x25 (0 : Int)), (x26 + 1)⟩ (Nat.lt_succ_self _) ?_ (by repeat (first | exact Kp.base | exact Kp.self | refine Kp.cons rfl ?_ | refine Kp.forget rfl ?_)) ?_ (Ent.take del1 Ent.refl)
                      · exact h
                      · exact ⟨rfl, True.intro⟩
                ·
                  replace h := ite_f hg16 h
                  refine CJ_seq ?_
                  refine CJ_region ?_
                  refine RJ_op rfl (OJ_P (P_eql (a := ((l.getD x26 (⟨0, 0, 0, 0⟩ : volumegroupmake_Step))).Kind) (b := (4 : Int)) rfl rfl) rfl ?_)
                  refine RJ_op rfl (OJ_P (P_assign rfl) rfl ?_)
                  refine RJ_nil ?_
                  refine QJ_then ?_
                  refine CJ_condP rfl bT_dec (fun hg31 => ?_) (fun hg31 => ?_)
                  ·
                    replace h := ite_t hg31 h
                    refine CJ_region ?_
                    refine RJ_op rfl (OJ_P (P_move rfl) rfl ?_)
                    refine RJ_op rfl (OJ_P (P_move rfl) rfl ?_)
                    obtain ⟨hg32, h⟩ := grd_Ie h
                    refine RJ_op rfl (OJ_P (P_add (a := (1 : Int)) (b := (w27.tmod (5 : Int))) rfl rfl hg32) rfl ?_)
                    obtain ⟨hg33, h⟩ := grd_Ie h
                    refine RJ_op rfl (O_call (c_FuseD hg33.2) rfl Try.call16 (Dels.cons del1 Dels.nil) rfl (fun _ _ => ?_))
                    refine RJ_nil ?_
                    refine QJ_block_normal ?_
                    refine QJ_then ?_
                    refine CJ_seq ?_
                    refine CJ_region ?_
                    refine RJ_op rfl (OJ_P (P_move rfl) rfl ?_)
                    refine RJ_op rfl (O_call (c_Down) rfl Try.call17 (Dels.cons del0 Dels.nil) rfl (fun _ _ => ?_))
                    refine RJ_op rfl (OJ_P (P_move rfl) rfl ?_)
                    refine RJ_mbF rfl rfl rfl (fun hG102 => have hP103 : ¬ ({ x25 with fuse := (((1 : Int) + (w27.tmod (5 : Int)))).toNat }).down = true := nP (Iff.rfl) hG102; VJ_P (P_move rfl)) ?_
                    refine RJ_mbF rfl rfl rfl (fun hG104 => have hP105 : ¬ ({ x25 with fuse := (((1 : Int) + (w27.tmod (5 : Int)))).toNat }).down = true := nP (Iff.rfl) hG104; VJ_P (P_move rfl)) ?_
                    refine RJ_mbF rfl rfl rfl (fun hG106 => have hP107 : ¬ ({ x25 with fuse := (((1 : Int) + (w27.tmod (5 : Int)))).toNat }).down = true := nP (Iff.rfl) hG106; V_index (i := x26) (mbx hG106 rfl) (mbx hG106 rfl) rfl (by omega) foc4 rl Try.runUnderlying22 Try.sizeOf35) ?_
                    refine RJ_mbF rfl rfl rfl (fun hG108 => have hP109 : ¬ ({ x25 with fuse := (((1 : Int) + (w27.tmod (5 : Int)))).toNat }).down = true := nP (Iff.rfl) hG108; VJ_P (P_fieldE (mbx hG108 rfl) ⟨_, _, _, Try.runUnderlying35, rfl, rfl, Try.sizeOf3, rfl⟩)) ?_
                    refine RJ_mbF rfl rfl rfl (fun hG110 => have hP111 : ¬ ({ x25 with fuse := (((1 : Int) + (w27.tmod (5 : Int)))).toNat }).down = true := nP (Iff.rfl) hG110; V_loadE (mbx hG110 rfl) rfl (by omega) foc4 rl rfl rfl Try.isAgg3) ?_
                    refine RJ_mbF rfl rfl rfl (fun hG112 => have hP113 : ¬ ({ x25 with fuse := (((1 : Int) + (w27.tmod (5 : Int)))).toNat }).down = true := nP (Iff.rfl) hG112; VJ_P (P_eql (a := ((l.getD x26 (⟨0, 0, 0, 0⟩ : volumegroupmake_Step))).Kind) (b := (3 : Int)) (mbx hG112 rfl) rfl)) ?_
                    refine RJ_op rfl (OJ_P (P_pickOr rfl rfl (fun hh => mbx (not_f hh) rfl)) rfl ?_)
                    refine RJ_nil ?_
                    refine QJ_then ?_
                    refine CJ_condP rfl (bT_or Iff.rfl bT_dec) (fun hg34 => ?_) (fun hg34 => ?_)
                    ·
                      replace h := ite_t hg34 h
                      refine CJ_seq ?_
                      refine CJ_region ?_
                      refine RJ_op rfl (OJ_P (P_move rfl) rfl ?_)
                      refine RJ_op rfl (O_call (c_Failed) rfl Try.call18 (Dels.cons del1 Dels.nil) rfl (fun _ _ => ?_))
                      refine RJ_nil ?_
                      refine QJ_then ?_
                      refine CJ_seq ?_
                      refine CJ_region ?_
                      refine RJ_op rfl (OJ_P (P_move rfl) rfl ?_)
                      refine RJ_op rfl (OJ_P (P_move rfl) rfl ?_)
                      refine RJ_op rfl (OJ_P (P_move rfl) rfl ?_)
                      refine RJ_op rfl (OJ_V (V_index (i := x26) rfl rfl rfl (by omega) foc4 rl Try.runUnderlying22 Try.sizeOf35) rfl ?_)
                      refine RJ_op rfl (OJ_P (P_fieldE rfl ⟨_, _, _, Try.runUnderlying35, rfl, rfl, Try.sizeOf33, rfl⟩) rfl ?_)
                      refine RJ_op rfl (OJ_V (V_loadE rfl rfl (by omega) foc4 rl rfl rfl Try.isAgg33) rfl ?_)
                      obtain ⟨r114, hr115, h⟩ := bind_e h
                      refine RJ_op rfl (O_call (L_volumegroupmake_Keep hr115) rfl Try.call20 Dels.nil rfl (fun X116 _ => ?_))
                      obtain ⟨hg35, h⟩ := grd_Le h
                      refine RJ_op rfl (O_call (c_Restart (Reads.sl _ _ _) hg35) rfl Try.call19 (Dels.cons del2 (Dels.cons del0 Dels.nil)) rfl (fun _ _ => ?_))
                      refine RJ_nil ?_
                      refine QJ_then ?_
                      refine CJ_seq ?_
                      refine CJ_region ?_
                      refine RJ_op rfl (OJ_P (P_assign rfl) rfl ?_)
                      refine RJ_nil ?_
                      refine QJ_then ?_
                      obtain ⟨y120, hl118, hK119⟩ := seq_e h
                      refine CJ_cutQ (X := (List Sec)) [2, 8, 9, 10, 99, 100, 101, 102, 103, 104, 105, 106, 107, 108, 109, 110, 111, 112, 113, 114, 115, 116, 117] (fun a122 => ([] : Slots)) (fun a122 R => Trk X16 a122 :: R) (fun a122 => y120 = .inl a122) (Dels.cons del2 Dels.nil) ?_ ?_
                      ·
                        refine CJ_block ?_
                        refine CJ_loopR (X := Nat × (List Sec) × Nat) [2, 8, 9, 10, 99, 100, 101, 102, 103, 104, 105, 106, 107, 108, 109, 110, 111, 112, 113, 114, 115, 116, 117] (fun ⟨n, x123, x124⟩ => ([(8, .int .i64 (((x124 : Nat) : Int)))] : Slots)) (fun ⟨n, x123, x124⟩ R => Trk X16 x123 :: R) (fun ⟨n, x123, x124⟩ => volumegrouplaw04_DiskCandidates_l5 x25 w27 r114 n x123 x124 = some y120) (fun ⟨n, x123, x124⟩ => n) ⟨FUEL, (failedT x24), 0⟩ ?_ ?_ (Ent.take del2 Ent.refl) ?_
                        · exact hl118
                        · exact ⟨rfl, True.intro⟩
                        ·
                          rintro ⟨n, x123, x124⟩ h
                          cases n with
                          | zero => exact none_e h
                          | succ n => ?_
                          replace h : volumegrouplaw04_DiskCandidates_l5_b x25 w27 r114 (volumegrouplaw04_DiskCandidates_l5 x25 w27 r114 n) x123 x124 = some y120 := h
                          unfold volumegrouplaw04_DiskCandidates_l5_b at h
                          show CJ _ _ _ _ _ (([(8, .int .i64 (((x124 : Nat) : Int)))] : Slots) ++ forget _ _) (Trk X16 x123 :: _)
                          refine CJ_seq ?_
                          refine CJ_seq ?_
                          refine CJ_region ?_
                          refine RJ_op rfl (OJ_P (P_move rfl) rfl ?_)
                          refine RJ_op rfl (OJ_P (P_lss (a := ((x124 : Nat) : Int)) (b := (5 : Int)) rfl rfl) rfl ?_)
                          refine RJ_nil ?_
                          refine QJ_then ?_
                          refine CJ_condP rfl bT_dec (fun hg36 => ?_) (fun hg36 => ?_)
                          ·
                            replace h := ite_t hg36 h
                            refine CJ_skip ?_
                            refine QJ_then ?_
                            refine CJ_seq ?_
                            refine CJ_block ?_
                            refine CJ_seq ?_
                            refine CJ_region ?_
                            refine RJ_op rfl (OJ_P (P_move rfl) rfl ?_)
                            refine RJ_op rfl (OJ_P (P_move rfl) rfl ?_)
                            refine RJ_op rfl (O_call (c_Read) rfl Try.call21 (Dels.cons del1 Dels.nil) rfl (fun _ _ => ?_))
                            refine RJ_op rfl (OJ_P (P_move rfl) rfl ?_)
                            refine RJ_op rfl (OJ_P (P_extract rfl rfl) rfl ?_)
                            obtain ⟨w125, hw125, h⟩ := lt_e h
                            rw [← hw125]
                            refine RJ_op rfl (OJ_P (P_extract rfl rfl) rfl ?_)
                            obtain ⟨w126, hw126, h⟩ := lt_e h
                            rw [← hw126]
                            refine RJ_op rfl (OJ_P (P_assign rfl) rfl ?_)
                            refine RJ_op rfl (OJ_P (P_assign rfl) rfl ?_)
                            refine RJ_nil ?_
                            refine QJ_then ?_
                            refine CJ_seq ?_
                            refine CJ_region ?_
                            refine RJ_op rfl (OJ_P (P_move rfl) rfl ?_)
                            refine RJ_op rfl (OJ_P (P_neq (a := w126) (b := (0 : Int)) rfl rfl) rfl ?_)
                            refine RJ_op rfl (OJ_P (P_move rfl) rfl ?_)
                            refine RJ_splitP 111 rfl bT_dec (fun hg37B hg37 => ?_) (fun hg37B hg37 => ?_)
                            ·
                              replace h := ite_t hg37 h
                              refine RJ_gn (GY_no rfl rfl rfl hg37B) rfl rfl ?_
                              refine RJ_gn (GY_no rfl rfl rfl hg37B) rfl rfl ?_
                              refine RJ_gn (GY_no rfl rfl rfl hg37B) rfl rfl ?_
                              refine RJ_gn (GY_no rfl rfl rfl hg37B) rfl rfl ?_
                              refine RJ_gn (GY_no rfl rfl rfl hg37B) rfl rfl ?_
                              refine RJ_op rfl (OJ_P (P_pickT rfl hg37B rfl) rfl ?_)
                              refine RJ_nil ?_
                              refine QJ_then ?_
                              refine CJ_condT rfl rfl ?_
                              refine CJ_seq ?_
                              refine CJ_region ?_
                              refine RJ_op rfl (OJ_P (P_assign rfl) rfl ?_)
                              refine RJ_nil ?_
                              refine QJ_then ?_
                              refine CJ_ret ?_
                              refine QJ_block_ret ?_
                              refine QJ_then_ret ?_
                              refine QJ_round_ret ?_
                              refine QJ_block_ret ?_
                              refine QJ_then_ret ?_
                              refine QJ_block_ret ?_
                              refine QJ_then_ret ?_
                              refine QJ_round_ret ?_
                              refine QJ_block_ret ?_
                              refine QJ_then_ret ?_
                              have hE := Option.some.inj h
                              replace hE := seq_inr hK119 hE.symm
                              replace hE := seq_inr hK19 hE.symm
                              subst hE
                              refine QJ_end (res1 Try.results3 rfl) ?_
                              refine CSpec.close () ?_ ?_ (Ent.take del5 (Ent.drop (Ent.drop (Ent.drop (Ent.drop (Ent.drop Ent.refl))))))
                              · rfl
                              · trivial
                            ·
                              replace h := ite_f hg37 h
                              refine RJ_gy (GY_yes rfl rfl rfl hg37B) (OJ_P (P_move rfl) rfl ?_)
                              refine RJ_gy (GY_yes rfl rfl rfl hg37B) (OJ_P (P_move rfl) rfl ?_)
                              refine RJ_gy (GY_yes rfl rfl rfl hg37B) (OJ_P (P_move rfl) rfl ?_)
                              obtain ⟨hg38, h⟩ := grd_de h
                              refine RJ_gy (GY_yes rfl rfl rfl hg37B) (O_call (c_Reads (smallT_at hg38) (v := w125)) rfl Try.call22 (Dels.cons del1 Dels.nil) rfl (fun _ _ => ?_))
                              refine RJ_gy (GY_yes rfl rfl rfl hg37B) (OJ_P (P_not rfl) rfl ?_)
                              refine RJ_op rfl (OJ_P (P_pickF rfl hg37B rfl) rfl ?_)
                              refine RJ_nil ?_
                              refine QJ_then ?_
                              refine CJ_condP rfl (bT_not Iff.rfl) (fun hg39 => ?_) (fun hg39 => ?_)
                              ·
                                replace h := ite_t hg39 h
                                refine CJ_seq ?_
                                refine CJ_region ?_
                                refine RJ_op rfl (OJ_P (P_assign rfl) rfl ?_)
                                refine RJ_nil ?_
                                refine QJ_then ?_
                                refine CJ_ret ?_
                                refine QJ_block_ret ?_
                                refine QJ_then_ret ?_
                                refine QJ_round_ret ?_
                                refine QJ_block_ret ?_
                                refine QJ_then_ret ?_
                                refine QJ_block_ret ?_
                                refine QJ_then_ret ?_
                                refine QJ_round_ret ?_
                                refine QJ_block_ret ?_
                                refine QJ_then_ret ?_
                                have hE := Option.some.inj h
                                replace hE := seq_inr hK119 hE.symm
                                replace hE := seq_inr hK19 hE.symm
                                subst hE
                                refine QJ_end (res1 Try.results3 rfl) ?_
                                refine CSpec.close () ?_ ?_ (Ent.take del5 (Ent.drop (Ent.drop (Ent.drop (Ent.drop (Ent.drop Ent.refl))))))
                                · rfl
                                · trivial
                              ·
                                replace h := ite_f hg39 h
                                refine CJ_skip ?_
                                refine QJ_block_normal ?_
                                refine QJ_then ?_
                                refine CJ_region ?_
                                refine RJ_op rfl (OJ_P (P_move rfl) rfl ?_)
                                refine RJ_op rfl (OJ_P (PJ_eq (P_add (a := ((x124 : Nat) : Int)) (b := (1 : Int)) rfl rfl (by omega)) rfl) rfl ?_)
                                refine RJ_op rfl (OJ_P (P_assign rfl) rfl ?_)
                                refine RJ_nil ?_
                                refine QJ_nextR ⟨n, (rdTS x123 (((x124 : Nat) : Int)) w125 true), (x124 + 1)⟩ (Nat.lt_succ_self _) ?_ (by repeat (first | exact Kp.base | exact Kp.self | refine Kp.cons rfl ?_ | refine Kp.forget rfl ?_)) ?_ Ent.refl
                                · exact h
                                · exact ⟨rfl, True.intro⟩
                          ·
                            replace h := ite_f hg36 h
                            refine CJ_exit ?_
                            refine QJ_then_exit ?_
                            refine QJ_round_exit ?_
                            refine QJ_block_here ?_
                            refine QJ_cutR x123 ?_ (by repeat (first | exact Kp.base | exact Kp.self | refine Kp.cons rfl ?_ | refine Kp.forget rfl ?_)) ?_ Ent.refl
                            · exact (Option.some.inj h).symm
                            · exact True.intro
                      ·
                        rintro a122 hy127
                        replace h := seq_inl hK119 hy127
                        show QJ _ _ _ _ (([] : Slots) ++ forget _ _) (Trk X16 a122 :: _)
                        refine QJ_block_normal ?_
                        refine QJ_then ?_
                        refine CJ_region ?_
                        refine RJ_op rfl (OJ_P (P_move rfl) rfl ?_)
                        refine RJ_op rfl (OJ_P (PJ_eq (P_add (a := ((x26 : Nat) : Int)) (b := (1 : Int)) rfl rfl (by omega)) rfl) rfl ?_)
                        refine RJ_op rfl (OJ_P (P_assign rfl) rfl ?_)
                        refine RJ_nil ?_
                        refine QJ_nextR ⟨n, a122, (rsS ({ x25 with fuse := (((1 : Int) + (w27.tmod (5 : Int)))).toNat }) r114), (x26 + 1)⟩ (Nat.lt_succ_self _) ?_ (by repeat (first | exact Kp.base | exact Kp.self | refine Kp.cons rfl ?_ | refine Kp.forget rfl ?_)) ?_ (Ent.take del0 (Ent.take del0 (Ent.take del1 (Ent.take del1 (Ent.take del1 (Ent.drop Ent.refl))))))
                        · exact h
                        · exact ⟨rfl, True.intro⟩
                    ·
                      replace h := ite_f hg34 h
                      refine CJ_skip ?_
                      refine QJ_block_normal ?_
                      refine QJ_then ?_
                      refine CJ_region ?_
                      refine RJ_op rfl (OJ_P (P_move rfl) rfl ?_)
                      refine RJ_op rfl (OJ_P (PJ_eq (P_add (a := ((x26 : Nat) : Int)) (b := (1 : Int)) rfl rfl (by omega)) rfl) rfl ?_)
                      refine RJ_op rfl (OJ_P (P_assign rfl) rfl ?_)
                      refine RJ_nil ?_
                      refine QJ_nextR ⟨n, x24, { x25 with fuse := (((1 : Int) + (w27.tmod (5 : Int)))).toNat }, (x26 + 1)⟩ (Nat.lt_succ_self _) ?_ (by repeat (first | exact Kp.base | exact Kp.self | refine Kp.cons rfl ?_ | refine Kp.forget rfl ?_)) ?_ (Ent.take del1 Ent.refl)
                      · exact h
                      · exact ⟨rfl, True.intro⟩
                  ·
                    replace h := ite_f hg31 h
                    refine CJ_skip ?_
                    refine QJ_block_normal ?_
                    refine QJ_then ?_
                    refine CJ_seq ?_
                    refine CJ_region ?_
                    refine RJ_op rfl (OJ_P (P_move rfl) rfl ?_)
                    refine RJ_op rfl (O_call (c_Down) rfl Try.call17 (Dels.cons del1 Dels.nil) rfl (fun _ _ => ?_))
                    refine RJ_op rfl (OJ_P (P_move rfl) rfl ?_)
                    refine RJ_mbF rfl rfl rfl (fun hG128 => have hP129 : ¬ x25.down = true := nP (Iff.rfl) hG128; VJ_P (P_move rfl)) ?_
                    refine RJ_mbF rfl rfl rfl (fun hG130 => have hP131 : ¬ x25.down = true := nP (Iff.rfl) hG130; VJ_P (P_move rfl)) ?_
                    refine RJ_mbF rfl rfl rfl (fun hG132 => have hP133 : ¬ x25.down = true := nP (Iff.rfl) hG132; V_index (i := x26) (mbx hG132 rfl) (mbx hG132 rfl) rfl (by omega) foc4 rl Try.runUnderlying22 Try.sizeOf35) ?_
                    refine RJ_mbF rfl rfl rfl (fun hG134 => have hP135 : ¬ x25.down = true := nP (Iff.rfl) hG134; VJ_P (P_fieldE (mbx hG134 rfl) ⟨_, _, _, Try.runUnderlying35, rfl, rfl, Try.sizeOf3, rfl⟩)) ?_
                    refine RJ_mbF rfl rfl rfl (fun hG136 => have hP137 : ¬ x25.down = true := nP (Iff.rfl) hG136; V_loadE (mbx hG136 rfl) rfl (by omega) foc4 rl rfl rfl Try.isAgg3) ?_
                    refine RJ_mbF rfl rfl rfl (fun hG138 => have hP139 : ¬ x25.down = true := nP (Iff.rfl) hG138; VJ_P (P_eql (a := ((l.getD x26 (⟨0, 0, 0, 0⟩ : volumegroupmake_Step))).Kind) (b := (3 : Int)) (mbx hG138 rfl) rfl)) ?_
                    refine RJ_op rfl (OJ_P (P_pickOr rfl rfl (fun hh => mbx (not_f hh) rfl)) rfl ?_)
                    refine RJ_nil ?_
                    refine QJ_then ?_
                    refine CJ_condP rfl (bT_or Iff.rfl bT_dec) (fun hg40 => ?_) (fun hg40 => ?_)
                    ·
                      replace h := ite_t hg40 h
                      refine CJ_seq ?_
                      refine CJ_region ?_
                      refine RJ_op rfl (OJ_P (P_move rfl) rfl ?_)
                      refine RJ_op rfl (O_call (c_Failed) rfl Try.call18 (Dels.cons del1 Dels.nil) rfl (fun _ _ => ?_))
                      refine RJ_nil ?_
                      refine QJ_then ?_
                      refine CJ_seq ?_
                      refine CJ_region ?_
                      refine RJ_op rfl (OJ_P (P_move rfl) rfl ?_)
                      refine RJ_op rfl (OJ_P (P_move rfl) rfl ?_)
                      refine RJ_op rfl (OJ_P (P_move rfl) rfl ?_)
                      refine RJ_op rfl (OJ_V (V_index (i := x26) rfl rfl rfl (by omega) foc4 rl Try.runUnderlying22 Try.sizeOf35) rfl ?_)
                      refine RJ_op rfl (OJ_P (P_fieldE rfl ⟨_, _, _, Try.runUnderlying35, rfl, rfl, Try.sizeOf33, rfl⟩) rfl ?_)
                      refine RJ_op rfl (OJ_V (V_loadE rfl rfl (by omega) foc4 rl rfl rfl Try.isAgg33) rfl ?_)
                      obtain ⟨r140, hr141, h⟩ := bind_e h
                      refine RJ_op rfl (O_call (L_volumegroupmake_Keep hr141) rfl Try.call20 Dels.nil rfl (fun X142 _ => ?_))
                      obtain ⟨hg41, h⟩ := grd_Le h
                      refine RJ_op rfl (O_call (c_Restart (Reads.sl _ _ _) hg41) rfl Try.call19 (Dels.cons del2 (Dels.cons del0 Dels.nil)) rfl (fun _ _ => ?_))
                      refine RJ_nil ?_
                      refine QJ_then ?_
                      refine CJ_seq ?_
                      refine CJ_region ?_
                      refine RJ_op rfl (OJ_P (P_assign rfl) rfl ?_)
                      refine RJ_nil ?_
                      refine QJ_then ?_
                      obtain ⟨y146, hl144, hK145⟩ := seq_e h
                      refine CJ_cutQ (X := (List Sec)) [2, 8, 9, 10, 99, 100, 101, 102, 103, 104, 105, 106, 107, 108, 109, 110, 111, 112, 113, 114, 115, 116, 117] (fun a148 => ([] : Slots)) (fun a148 R => Trk X16 a148 :: R) (fun a148 => y146 = .inl a148) (Dels.cons del2 Dels.nil) ?_ ?_
                      ·
                        refine CJ_block ?_
                        refine CJ_loopR (X := Nat × (List Sec) × Nat) [2, 8, 9, 10, 99, 100, 101, 102, 103, 104, 105, 106, 107, 108, 109, 110, 111, 112, 113, 114, 115, 116, 117] (fun ⟨n, x149, x150⟩ => ([(8, .int .i64 (((x150 : Nat) : Int)))] : Slots)) (fun ⟨n, x149, x150⟩ R => Trk X16 x149 :: R) (fun ⟨n, x149, x150⟩ => volumegrouplaw04_DiskCandidates_l6 x25 r140 n x149 x150 = some y146) (fun ⟨n, x149, x150⟩ => n) ⟨FUEL, (failedT x24), 0⟩ ?_ ?_ (Ent.take del2 Ent.refl) ?_
                        · exact hl144
                        · exact ⟨rfl, True.intro⟩
                        ·
                          rintro ⟨n, x149, x150⟩ h
                          cases n with
                          | zero => exact none_e h
                          | succ n => ?_
                          replace h : volumegrouplaw04_DiskCandidates_l6_b x25 r140 (volumegrouplaw04_DiskCandidates_l6 x25 r140 n) x149 x150 = some y146 := h
                          unfold volumegrouplaw04_DiskCandidates_l6_b at h
                          show CJ _ _ _ _ _ (([(8, .int .i64 (((x150 : Nat) : Int)))] : Slots) ++ forget _ _) (Trk X16 x149 :: _)
                          refine CJ_seq ?_
                          refine CJ_seq ?_
                          refine CJ_region ?_
                          refine RJ_op rfl (OJ_P (P_move rfl) rfl ?_)
                          refine RJ_op rfl (OJ_P (P_lss (a := ((x150 : Nat) : Int)) (b := (5 : Int)) rfl rfl) rfl ?_)
                          refine RJ_nil ?_
                          refine QJ_then ?_
                          refine CJ_condP rfl bT_dec (fun hg42 => ?_) (fun hg42 => ?_)
                          ·
                            replace h := ite_t hg42 h
                            refine CJ_skip ?_
                            refine QJ_then ?_
                            refine CJ_seq ?_
                            refine CJ_block ?_
                            refine CJ_seq ?_
                            refine CJ_region ?_
                            refine RJ_op rfl (OJ_P (P_move rfl) rfl ?_)
                            refine RJ_op rfl (OJ_P (P_move rfl) rfl ?_)
                            refine RJ_op rfl (O_call (c_Read) rfl Try.call21 (Dels.cons del1 Dels.nil) rfl (fun _ _ => ?_))
                            refine RJ_op rfl (OJ_P (P_move rfl) rfl ?_)
                            refine RJ_op rfl (OJ_P (P_extract rfl rfl) rfl ?_)
                            refine RJ_op rfl (OJ_P (P_extract rfl rfl) rfl ?_)
                            refine RJ_op rfl (OJ_P (P_assign rfl) rfl ?_)
                            refine RJ_op rfl (OJ_P (P_assign rfl) rfl ?_)
                            refine RJ_nil ?_
                            refine QJ_then ?_
                            refine CJ_seq ?_
                            refine CJ_region ?_
                            refine RJ_op rfl (OJ_P (P_move rfl) rfl ?_)
                            refine RJ_op rfl (OJ_P (P_neq (a := (rdC (rsS x25 r140) (0 : Int) (((x150 : Nat) : Int)))) (b := (0 : Int)) rfl rfl) rfl ?_)
                            refine RJ_op rfl (OJ_P (P_move rfl) rfl ?_)
                            refine RJ_splitP 111 rfl bT_dec (fun hg43B hg43 => ?_) (fun hg43B hg43 => ?_)
                            ·
                              replace h := ite_t hg43 h
                              refine RJ_gn (GY_no rfl rfl rfl hg43B) rfl rfl ?_
                              refine RJ_gn (GY_no rfl rfl rfl hg43B) rfl rfl ?_
                              refine RJ_gn (GY_no rfl rfl rfl hg43B) rfl rfl ?_
                              refine RJ_gn (GY_no rfl rfl rfl hg43B) rfl rfl ?_
                              refine RJ_gn (GY_no rfl rfl rfl hg43B) rfl rfl ?_
                              refine RJ_op rfl (OJ_P (P_pickT rfl hg43B rfl) rfl ?_)
                              refine RJ_nil ?_
                              refine QJ_then ?_
                              refine CJ_condT rfl rfl ?_
                              refine CJ_seq ?_
                              refine CJ_region ?_
                              refine RJ_op rfl (OJ_P (P_assign rfl) rfl ?_)
                              refine RJ_nil ?_
                              refine QJ_then ?_
                              refine CJ_ret ?_
                              refine QJ_block_ret ?_
                              refine QJ_then_ret ?_
                              refine QJ_round_ret ?_
                              refine QJ_block_ret ?_
                              refine QJ_then_ret ?_
                              refine QJ_block_ret ?_
                              refine QJ_then_ret ?_
                              refine QJ_round_ret ?_
                              refine QJ_block_ret ?_
                              refine QJ_then_ret ?_
                              have hE := Option.some.inj h
                              replace hE := seq_inr hK145 hE.symm
                              replace hE := seq_inr hK19 hE.symm
                              subst hE
                              refine QJ_end (res1 Try.results3 rfl) ?_
                              refine CSpec.close () ?_ ?_ (Ent.take del5 (Ent.drop (Ent.drop (Ent.drop (Ent.drop (Ent.drop Ent.refl))))))
                              · rfl
                              · trivial
                            ·
                              replace h := ite_f hg43 h
                              refine RJ_gy (GY_yes rfl rfl rfl hg43B) (OJ_P (P_move rfl) rfl ?_)
                              refine RJ_gy (GY_yes rfl rfl rfl hg43B) (OJ_P (P_move rfl) rfl ?_)
                              refine RJ_gy (GY_yes rfl rfl rfl hg43B) (OJ_P (P_move rfl) rfl ?_)
                              obtain ⟨hg44, h⟩ := grd_de h
                              refine RJ_gy (GY_yes rfl rfl rfl hg43B) (O_call (c_Reads (smallT_at hg44) (v := (rdV (rsS x25 r140) (0 : Int) (((x150 : Nat) : Int))))) rfl Try.call22 (Dels.cons del1 Dels.nil) rfl (fun _ _ => ?_))
                              refine RJ_gy (GY_yes rfl rfl rfl hg43B) (OJ_P (P_not rfl) rfl ?_)
                              refine RJ_op rfl (OJ_P (P_pickF rfl hg43B rfl) rfl ?_)
                              refine RJ_nil ?_
                              refine QJ_then ?_
                              refine CJ_condP rfl (bT_not Iff.rfl) (fun hg45 => ?_) (fun hg45 => ?_)
                              ·
                                replace h := ite_t hg45 h
                                refine CJ_seq ?_
                                refine CJ_region ?_
                                refine RJ_op rfl (OJ_P (P_assign rfl) rfl ?_)
                                refine RJ_nil ?_
                                refine QJ_then ?_
                                refine CJ_ret ?_
                                refine QJ_block_ret ?_
                                refine QJ_then_ret ?_
                                refine QJ_round_ret ?_
                                refine QJ_block_ret ?_
                                refine QJ_then_ret ?_
                                refine QJ_block_ret ?_
                                refine QJ_then_ret ?_
                                refine QJ_round_ret ?_
                                refine QJ_block_ret ?_
                                refine QJ_then_ret ?_
                                have hE := Option.some.inj h
                                replace hE := seq_inr hK145 hE.symm
                                replace hE := seq_inr hK19 hE.symm
                                subst hE
                                refine QJ_end (res1 Try.results3 rfl) ?_
                                refine CSpec.close () ?_ ?_ (Ent.take del5 (Ent.drop (Ent.drop (Ent.drop (Ent.drop (Ent.drop Ent.refl))))))
                                · rfl
                                · trivial
                              ·
                                replace h := ite_f hg45 h
                                refine CJ_skip ?_
                                refine QJ_block_normal ?_
                                refine QJ_then ?_
                                refine CJ_region ?_
                                refine RJ_op rfl (OJ_P (P_move rfl) rfl ?_)
                                refine RJ_op rfl (OJ_P (PJ_eq (P_add (a := ((x150 : Nat) : Int)) (b := (1 : Int)) rfl rfl (by omega)) rfl) rfl ?_)
                                refine RJ_op rfl (OJ_P (P_assign rfl) rfl ?_)
                                refine RJ_nil ?_
                                refine QJ_nextR ⟨n, (rdTS x149 (((x150 : Nat) : Int)) ((rdV (rsS x25 r140) (0 : Int) (((x150 : Nat) : Int)))) true), (x150 + 1)⟩ (Nat.lt_succ_self _) ?_ (by repeat (first | exact Kp.base | exact Kp.self | refine Kp.cons rfl ?_ | refine Kp.forget rfl ?_)) ?_ Ent.refl
                                · exact h
                                · exact ⟨rfl, True.intro⟩
                          ·
                            replace h := ite_f hg42 h
                            refine CJ_exit ?_
                            refine QJ_then_exit ?_
                            refine QJ_round_exit ?_
                            refine QJ_block_here ?_
                            refine QJ_cutR x149 ?_ (by repeat (first | exact Kp.base | exact Kp.self | refine Kp.cons rfl ?_ | refine Kp.forget rfl ?_)) ?_ Ent.refl
                            · exact (Option.some.inj h).symm
                            · exact True.intro
                      ·
                        rintro a148 hy151
                        replace h := seq_inl hK145 hy151
                        show QJ _ _ _ _ (([] : Slots) ++ forget _ _) (Trk X16 a148 :: _)
                        refine QJ_block_normal ?_
                        refine QJ_then ?_
                        refine CJ_region ?_
                        refine RJ_op rfl (OJ_P (P_move rfl) rfl ?_)
                        refine RJ_op rfl (OJ_P (PJ_eq (P_add (a := ((x26 : Nat) : Int)) (b := (1 : Int)) rfl rfl (by omega)) rfl) rfl ?_)
                        refine RJ_op rfl (OJ_P (P_assign rfl) rfl ?_)
                        refine RJ_nil ?_
                        refine QJ_nextR ⟨n, a148, (rsS x25 r140), (x26 + 1)⟩ (Nat.lt_succ_self _) ?_ (by repeat (first | exact Kp.base | exact Kp.self | refine Kp.cons rfl ?_ | refine Kp.forget rfl ?_)) ?_ (Ent.take del0 (Ent.take del0 (Ent.take del1 (Ent.take del1 (Ent.take del1 (Ent.drop Ent.refl))))))
                        · exact h
                        · exact ⟨rfl, True.intro⟩
                    ·
                      replace h := ite_f hg40 h
                      refine CJ_skip ?_
                      refine QJ_block_normal ?_
                      refine QJ_then ?_
                      refine CJ_region ?_
                      refine RJ_op rfl (OJ_P (P_move rfl) rfl ?_)
                      refine RJ_op rfl (OJ_P (PJ_eq (P_add (a := ((x26 : Nat) : Int)) (b := (1 : Int)) rfl rfl (by omega)) rfl) rfl ?_)
                      refine RJ_op rfl (OJ_P (P_assign rfl) rfl ?_)
                      refine RJ_nil ?_
                      refine QJ_nextR ⟨n, x24, x25, (x26 + 1)⟩ (Nat.lt_succ_self _) ?_ (by repeat (first | exact Kp.base | exact Kp.self | refine Kp.cons rfl ?_ | refine Kp.forget rfl ?_)) ?_ (Ent.take del1 Ent.refl)
                      · exact h
                      · exact ⟨rfl, True.intro⟩
            ·
              replace h := ite_f hg5 h
              refine CJ_exit ?_
              refine QJ_then_exit ?_
              refine QJ_round_exit ?_
              refine QJ_block_here ?_
              refine QJ_cutR (x24, x25) ?_ (by repeat (first | exact Kp.base | exact Kp.self | refine Kp.cons rfl ?_ | refine Kp.forget rfl ?_)) ?_ Ent.refl
              · exact (Option.some.inj h).symm
              · exact True.intro
        ·
          rintro a23 hy152
          replace h := seq_inl hK19 hy152
          show CJ _ _ _ _ _ (([] : Slots) ++ forget _ _) (Trk X16 a23.1 :: Arr X7 a23.2 :: _)
          refine CJ_seq ?_
          refine CJ_region ?_
          obtain ⟨r153, hr154, h⟩ := bind_e h
          refine RJ_op rfl (O_call (L_volumegrouplaw04_awake hr154) rfl Try.call9 Dels.nil rfl (fun _ _ => ?_))
          refine RJ_op rfl (OJ_P (P_assign rfl) rfl ?_)
          refine RJ_nil ?_
          refine QJ_then ?_
          refine CJ_ret ?_
          have hE := Option.some.inj h
          subst hE
          refine QJ_end (res1 Try.results3 rfl) ?_
          refine CSpec.close () ?_ ?_ (Ent.take del4 (Ent.drop (Ent.drop (Ent.drop (Ent.drop Ent.refl)))))
          · rfl
          · trivial

end Go.Proofs
