/- YteboelcolfoddaaCDiskI: contracts of functions of the program, walked rule by rule; printed by vg.py. -/
import Derived.Test.YteboelcolfoddaaCDisk1
import Derived.Test.YteboelcolfoddaaVgS
set_option linter.unusedSimpArgs false
set_option maxRecDepth 20000
namespace Go.Proofs
open Go.VG
theorem CDiskI_bs_22_0_ : BuildsSlice Try.prog 22 0 [] 27 [] := fun w => by kernel_rfl

theorem reads_none {α : Type} {t : Ty α} {A : HP} {n c : Nat} {xs : List α} (hr : Reads A t (.slice none n c) xs) {R : List HP} (h : PH) (hh : stars (A :: R) h) : xs = [] := by
  obtain ⟨h1, h2, _, _, ha, _⟩ := hh
  rcases hr h1 ha with ⟨_, rfl⟩ | ⟨a, cap, he, _⟩
  · rfl
  · cases he
/-- What an image is. -/
def imC (s : ArrS) (d : Int) : Int := if inR s d then 0 else 1
def imL (s : ArrS) (d : Int) : List UInt64 := if inR s d then (s.drv.getD d.toNat d0).now else []
theorem eqB {xs ys : List UInt64} {k : Nat} (hn : ((xs.getD k 0).toNat : Int) ≠ ((ys.getD k 0).toNat : Int)) : decide (xs = ys) = false := by
  refine decide_eq_false fun e => ?_
  subst e; exact hn rfl
theorem eqA {xs ys : List UInt64} (hl : xs.length = ys.length) (h : ∀ j, j < xs.length → ((xs.getD j 0).toNat : Int) = ((ys.getD j 0).toNat : Int)) : decide (xs = ys) = true := by
  refine decide_eq_true (List.ext_getElem hl fun j h1 h2 => ?_)
  have := h j h1
  rw [show xs.getD j 0 = xs[j] by simp [List.getD, h1], show ys.getD j 0 = ys[j] by simp [List.getD, h2]] at this
  exact UInt64.toNat_inj.1 (by omega)

theorem c_CloneU {W : World} {A : HP} {v : Sl3} {xs : List UInt64} (hA : Reads A tyU v.v xs) (hl : xs.length ≤ 1048576) :
    CSpec Try.prog W 40 [v.v] [A] (fun x : Sl3 => x.v) (fun _ => True) (fun x F => sl tyU x.v xs :: A :: F) := by
  refine CSpec.of_body Try.func40 rfl Try.ntmps40 rfl (fun F => ?_)
  show CJ _ _ _ _ _ _ (_ :: F)
  refine CJ_seq ?_
  refine CJ_region ?_
  refine RJ_op rfl (OJ_P (P_assign rfl) rfl ?_)
  refine RJ_nil ?_
  refine QJ_then ?_
  refine CJ_seq ?_
  refine CJ_seq ?_
  refine CJ_region ?_
  refine RJ_op rfl (OJ_P (P_move rfl) rfl ?_)
  refine RJ_op rfl (OJ_P (P_eqlSN rfl rfl Try.underlying22) rfl ?_)
  refine RJ_nil ?_
  refine QJ_then ?_
  first | (refine CJ_condD rfl (fun hg1 => ?_) (fun hg1 => ?_)) | (refine CJ_condN rfl (fun hg1 => ?_) (fun hg1 => ?_)) | (refine CJ_cond rfl (fun hg1 => ?_) (fun hg1 => ?_))
  ·
    refine CJ_seq ?_
    refine CJ_region ?_
    refine RJ_op rfl (OJ_P (P_assign rfl) rfl ?_)
    refine RJ_nil ?_
    refine QJ_then ?_
    refine CJ_ret ?_
    refine QJ_then_ret ?_
    refine QJ_end (res1 Try.results40 rfl) ?_
    obtain ⟨vp, vn, vc⟩ := v
    obtain rfl : vp = none := by simpa using hg1
    refine fun w hs => ?_
    obtain rfl := reads_none hA _ hs.heap.choose_spec
    revert w hs
    show ∀ w, St W w _ → _
    refine CSpec.close ⟨none, 0, 0⟩ ?_ ?_ (Ent.trans (fun h hh => sl_nil (t := tyU) h hh) Ent.refl)
    · rfl
    · trivial
  ·
    refine CJ_skip ?_
    refine QJ_then ?_
    refine CJ_seq ?_
    refine CJ_region ?_
    refine RJ_op rfl (O_buildSlice rfl (CDiskI_bs_22_0_) rfl (fun b1 => ?_))
    refine RJ_ent (Ent.trans (Ent.take del0 Ent.refl) (sl_of_lit (t := tyU) (m := 0) [] rfl rfl rfl (by decide))) ?_
    refine RJ_op rfl (OJ_P (P_move rfl) rfl ?_)
    refine RJ_op rfl (O_append (t := tyU) (bytes := 8) rfl rfl del0 foc0 hA Try.underlying22 ok_tyU (by simp only [List.length_append, List.length_cons, List.length_nil, maxLen] at *; omega) (by simp only [List.length_append, List.length_cons, List.length_nil, maxLen] at *; omega) rfl (fun p2 c3 => ?_))
    refine RJ_op rfl (OJ_P (P_assign rfl) rfl ?_)
    refine RJ_nil ?_
    refine QJ_then ?_
    refine CJ_ret ?_
    refine QJ_end (res1 Try.results40 rfl) ?_
    refine CSpec.close ⟨p2, _, c3⟩ ?_ ?_ (Ent.take del0 (Ent.take del0 Ent.refl))
    · rfl
    · trivial

end Go.Proofs
