/- copy into a part of a row. -/
import Derived.Scope
import Derived.Test.YtomomnpnkfgnnaaVgN
namespace Go.VG
section
variable {X0 X1 X2 X3 X4 X5 X6 X7 X8 X9 X10 X11 X12 X13 X14 X15 X16 X17 X18 X19 X20 X21 X22 X23 X24 X25 X26 X27 X28 A : HP} {R : List HP}
theorem foc12 : Foc (X0 :: X1 :: X2 :: X3 :: X4 :: X5 :: X6 :: X7 :: X8 :: X9 :: X10 :: X11 :: A :: R) A (fun X => X0 :: X1 :: X2 :: X3 :: X4 :: X5 :: X6 :: X7 :: X8 :: X9 :: X10 :: X11 :: X :: R) := ⟨rfl, [X0, X1, X2, X3, X4, X5, X6, X7, X8, X9, X10, X11], R, fun _ => rfl⟩
theorem del12 : Del (X0 :: X1 :: X2 :: X3 :: X4 :: X5 :: X6 :: X7 :: X8 :: X9 :: X10 :: X11 :: A :: R) A (X0 :: X1 :: X2 :: X3 :: X4 :: X5 :: X6 :: X7 :: X8 :: X9 :: X10 :: X11 :: R) := Del.of (L := [X0, X1, X2, X3, X4, X5, X6, X7, X8, X9, X10, X11])
theorem foc13 : Foc (X0 :: X1 :: X2 :: X3 :: X4 :: X5 :: X6 :: X7 :: X8 :: X9 :: X10 :: X11 :: X12 :: A :: R) A (fun X => X0 :: X1 :: X2 :: X3 :: X4 :: X5 :: X6 :: X7 :: X8 :: X9 :: X10 :: X11 :: X12 :: X :: R) := ⟨rfl, [X0, X1, X2, X3, X4, X5, X6, X7, X8, X9, X10, X11, X12], R, fun _ => rfl⟩
theorem del13 : Del (X0 :: X1 :: X2 :: X3 :: X4 :: X5 :: X6 :: X7 :: X8 :: X9 :: X10 :: X11 :: X12 :: A :: R) A (X0 :: X1 :: X2 :: X3 :: X4 :: X5 :: X6 :: X7 :: X8 :: X9 :: X10 :: X11 :: X12 :: R) := Del.of (L := [X0, X1, X2, X3, X4, X5, X6, X7, X8, X9, X10, X11, X12])
theorem foc14 : Foc (X0 :: X1 :: X2 :: X3 :: X4 :: X5 :: X6 :: X7 :: X8 :: X9 :: X10 :: X11 :: X12 :: X13 :: A :: R) A (fun X => X0 :: X1 :: X2 :: X3 :: X4 :: X5 :: X6 :: X7 :: X8 :: X9 :: X10 :: X11 :: X12 :: X13 :: X :: R) := ⟨rfl, [X0, X1, X2, X3, X4, X5, X6, X7, X8, X9, X10, X11, X12, X13], R, fun _ => rfl⟩
theorem del14 : Del (X0 :: X1 :: X2 :: X3 :: X4 :: X5 :: X6 :: X7 :: X8 :: X9 :: X10 :: X11 :: X12 :: X13 :: A :: R) A (X0 :: X1 :: X2 :: X3 :: X4 :: X5 :: X6 :: X7 :: X8 :: X9 :: X10 :: X11 :: X12 :: X13 :: R) := Del.of (L := [X0, X1, X2, X3, X4, X5, X6, X7, X8, X9, X10, X11, X12, X13])
theorem foc15 : Foc (X0 :: X1 :: X2 :: X3 :: X4 :: X5 :: X6 :: X7 :: X8 :: X9 :: X10 :: X11 :: X12 :: X13 :: X14 :: A :: R) A (fun X => X0 :: X1 :: X2 :: X3 :: X4 :: X5 :: X6 :: X7 :: X8 :: X9 :: X10 :: X11 :: X12 :: X13 :: X14 :: X :: R) := ⟨rfl, [X0, X1, X2, X3, X4, X5, X6, X7, X8, X9, X10, X11, X12, X13, X14], R, fun _ => rfl⟩
theorem del15 : Del (X0 :: X1 :: X2 :: X3 :: X4 :: X5 :: X6 :: X7 :: X8 :: X9 :: X10 :: X11 :: X12 :: X13 :: X14 :: A :: R) A (X0 :: X1 :: X2 :: X3 :: X4 :: X5 :: X6 :: X7 :: X8 :: X9 :: X10 :: X11 :: X12 :: X13 :: X14 :: R) := Del.of (L := [X0, X1, X2, X3, X4, X5, X6, X7, X8, X9, X10, X11, X12, X13, X14])
theorem foc16 : Foc (X0 :: X1 :: X2 :: X3 :: X4 :: X5 :: X6 :: X7 :: X8 :: X9 :: X10 :: X11 :: X12 :: X13 :: X14 :: X15 :: A :: R) A (fun X => X0 :: X1 :: X2 :: X3 :: X4 :: X5 :: X6 :: X7 :: X8 :: X9 :: X10 :: X11 :: X12 :: X13 :: X14 :: X15 :: X :: R) := ⟨rfl, [X0, X1, X2, X3, X4, X5, X6, X7, X8, X9, X10, X11, X12, X13, X14, X15], R, fun _ => rfl⟩
theorem del16 : Del (X0 :: X1 :: X2 :: X3 :: X4 :: X5 :: X6 :: X7 :: X8 :: X9 :: X10 :: X11 :: X12 :: X13 :: X14 :: X15 :: A :: R) A (X0 :: X1 :: X2 :: X3 :: X4 :: X5 :: X6 :: X7 :: X8 :: X9 :: X10 :: X11 :: X12 :: X13 :: X14 :: X15 :: R) := Del.of (L := [X0, X1, X2, X3, X4, X5, X6, X7, X8, X9, X10, X11, X12, X13, X14, X15])
theorem foc17 : Foc (X0 :: X1 :: X2 :: X3 :: X4 :: X5 :: X6 :: X7 :: X8 :: X9 :: X10 :: X11 :: X12 :: X13 :: X14 :: X15 :: X16 :: A :: R) A (fun X => X0 :: X1 :: X2 :: X3 :: X4 :: X5 :: X6 :: X7 :: X8 :: X9 :: X10 :: X11 :: X12 :: X13 :: X14 :: X15 :: X16 :: X :: R) := ⟨rfl, [X0, X1, X2, X3, X4, X5, X6, X7, X8, X9, X10, X11, X12, X13, X14, X15, X16], R, fun _ => rfl⟩
theorem del17 : Del (X0 :: X1 :: X2 :: X3 :: X4 :: X5 :: X6 :: X7 :: X8 :: X9 :: X10 :: X11 :: X12 :: X13 :: X14 :: X15 :: X16 :: A :: R) A (X0 :: X1 :: X2 :: X3 :: X4 :: X5 :: X6 :: X7 :: X8 :: X9 :: X10 :: X11 :: X12 :: X13 :: X14 :: X15 :: X16 :: R) := Del.of (L := [X0, X1, X2, X3, X4, X5, X6, X7, X8, X9, X10, X11, X12, X13, X14, X15, X16])
theorem foc18 : Foc (X0 :: X1 :: X2 :: X3 :: X4 :: X5 :: X6 :: X7 :: X8 :: X9 :: X10 :: X11 :: X12 :: X13 :: X14 :: X15 :: X16 :: X17 :: A :: R) A (fun X => X0 :: X1 :: X2 :: X3 :: X4 :: X5 :: X6 :: X7 :: X8 :: X9 :: X10 :: X11 :: X12 :: X13 :: X14 :: X15 :: X16 :: X17 :: X :: R) := ⟨rfl, [X0, X1, X2, X3, X4, X5, X6, X7, X8, X9, X10, X11, X12, X13, X14, X15, X16, X17], R, fun _ => rfl⟩
theorem del18 : Del (X0 :: X1 :: X2 :: X3 :: X4 :: X5 :: X6 :: X7 :: X8 :: X9 :: X10 :: X11 :: X12 :: X13 :: X14 :: X15 :: X16 :: X17 :: A :: R) A (X0 :: X1 :: X2 :: X3 :: X4 :: X5 :: X6 :: X7 :: X8 :: X9 :: X10 :: X11 :: X12 :: X13 :: X14 :: X15 :: X16 :: X17 :: R) := Del.of (L := [X0, X1, X2, X3, X4, X5, X6, X7, X8, X9, X10, X11, X12, X13, X14, X15, X16, X17])
theorem foc19 : Foc (X0 :: X1 :: X2 :: X3 :: X4 :: X5 :: X6 :: X7 :: X8 :: X9 :: X10 :: X11 :: X12 :: X13 :: X14 :: X15 :: X16 :: X17 :: X18 :: A :: R) A (fun X => X0 :: X1 :: X2 :: X3 :: X4 :: X5 :: X6 :: X7 :: X8 :: X9 :: X10 :: X11 :: X12 :: X13 :: X14 :: X15 :: X16 :: X17 :: X18 :: X :: R) := ⟨rfl, [X0, X1, X2, X3, X4, X5, X6, X7, X8, X9, X10, X11, X12, X13, X14, X15, X16, X17, X18], R, fun _ => rfl⟩
theorem del19 : Del (X0 :: X1 :: X2 :: X3 :: X4 :: X5 :: X6 :: X7 :: X8 :: X9 :: X10 :: X11 :: X12 :: X13 :: X14 :: X15 :: X16 :: X17 :: X18 :: A :: R) A (X0 :: X1 :: X2 :: X3 :: X4 :: X5 :: X6 :: X7 :: X8 :: X9 :: X10 :: X11 :: X12 :: X13 :: X14 :: X15 :: X16 :: X17 :: X18 :: R) := Del.of (L := [X0, X1, X2, X3, X4, X5, X6, X7, X8, X9, X10, X11, X12, X13, X14, X15, X16, X17, X18])
theorem foc20 : Foc (X0 :: X1 :: X2 :: X3 :: X4 :: X5 :: X6 :: X7 :: X8 :: X9 :: X10 :: X11 :: X12 :: X13 :: X14 :: X15 :: X16 :: X17 :: X18 :: X19 :: A :: R) A (fun X => X0 :: X1 :: X2 :: X3 :: X4 :: X5 :: X6 :: X7 :: X8 :: X9 :: X10 :: X11 :: X12 :: X13 :: X14 :: X15 :: X16 :: X17 :: X18 :: X19 :: X :: R) := ⟨rfl, [X0, X1, X2, X3, X4, X5, X6, X7, X8, X9, X10, X11, X12, X13, X14, X15, X16, X17, X18, X19], R, fun _ => rfl⟩
theorem del20 : Del (X0 :: X1 :: X2 :: X3 :: X4 :: X5 :: X6 :: X7 :: X8 :: X9 :: X10 :: X11 :: X12 :: X13 :: X14 :: X15 :: X16 :: X17 :: X18 :: X19 :: A :: R) A (X0 :: X1 :: X2 :: X3 :: X4 :: X5 :: X6 :: X7 :: X8 :: X9 :: X10 :: X11 :: X12 :: X13 :: X14 :: X15 :: X16 :: X17 :: X18 :: X19 :: R) := Del.of (L := [X0, X1, X2, X3, X4, X5, X6, X7, X8, X9, X10, X11, X12, X13, X14, X15, X16, X17, X18, X19])
theorem foc21 : Foc (X0 :: X1 :: X2 :: X3 :: X4 :: X5 :: X6 :: X7 :: X8 :: X9 :: X10 :: X11 :: X12 :: X13 :: X14 :: X15 :: X16 :: X17 :: X18 :: X19 :: X20 :: A :: R) A (fun X => X0 :: X1 :: X2 :: X3 :: X4 :: X5 :: X6 :: X7 :: X8 :: X9 :: X10 :: X11 :: X12 :: X13 :: X14 :: X15 :: X16 :: X17 :: X18 :: X19 :: X20 :: X :: R) := ⟨rfl, [X0, X1, X2, X3, X4, X5, X6, X7, X8, X9, X10, X11, X12, X13, X14, X15, X16, X17, X18, X19, X20], R, fun _ => rfl⟩
theorem del21 : Del (X0 :: X1 :: X2 :: X3 :: X4 :: X5 :: X6 :: X7 :: X8 :: X9 :: X10 :: X11 :: X12 :: X13 :: X14 :: X15 :: X16 :: X17 :: X18 :: X19 :: X20 :: A :: R) A (X0 :: X1 :: X2 :: X3 :: X4 :: X5 :: X6 :: X7 :: X8 :: X9 :: X10 :: X11 :: X12 :: X13 :: X14 :: X15 :: X16 :: X17 :: X18 :: X19 :: X20 :: R) := Del.of (L := [X0, X1, X2, X3, X4, X5, X6, X7, X8, X9, X10, X11, X12, X13, X14, X15, X16, X17, X18, X19, X20])
theorem foc22 : Foc (X0 :: X1 :: X2 :: X3 :: X4 :: X5 :: X6 :: X7 :: X8 :: X9 :: X10 :: X11 :: X12 :: X13 :: X14 :: X15 :: X16 :: X17 :: X18 :: X19 :: X20 :: X21 :: A :: R) A (fun X => X0 :: X1 :: X2 :: X3 :: X4 :: X5 :: X6 :: X7 :: X8 :: X9 :: X10 :: X11 :: X12 :: X13 :: X14 :: X15 :: X16 :: X17 :: X18 :: X19 :: X20 :: X21 :: X :: R) := ⟨rfl, [X0, X1, X2, X3, X4, X5, X6, X7, X8, X9, X10, X11, X12, X13, X14, X15, X16, X17, X18, X19, X20, X21], R, fun _ => rfl⟩
theorem del22 : Del (X0 :: X1 :: X2 :: X3 :: X4 :: X5 :: X6 :: X7 :: X8 :: X9 :: X10 :: X11 :: X12 :: X13 :: X14 :: X15 :: X16 :: X17 :: X18 :: X19 :: X20 :: X21 :: A :: R) A (X0 :: X1 :: X2 :: X3 :: X4 :: X5 :: X6 :: X7 :: X8 :: X9 :: X10 :: X11 :: X12 :: X13 :: X14 :: X15 :: X16 :: X17 :: X18 :: X19 :: X20 :: X21 :: R) := Del.of (L := [X0, X1, X2, X3, X4, X5, X6, X7, X8, X9, X10, X11, X12, X13, X14, X15, X16, X17, X18, X19, X20, X21])
theorem foc23 : Foc (X0 :: X1 :: X2 :: X3 :: X4 :: X5 :: X6 :: X7 :: X8 :: X9 :: X10 :: X11 :: X12 :: X13 :: X14 :: X15 :: X16 :: X17 :: X18 :: X19 :: X20 :: X21 :: X22 :: A :: R) A (fun X => X0 :: X1 :: X2 :: X3 :: X4 :: X5 :: X6 :: X7 :: X8 :: X9 :: X10 :: X11 :: X12 :: X13 :: X14 :: X15 :: X16 :: X17 :: X18 :: X19 :: X20 :: X21 :: X22 :: X :: R) := ⟨rfl, [X0, X1, X2, X3, X4, X5, X6, X7, X8, X9, X10, X11, X12, X13, X14, X15, X16, X17, X18, X19, X20, X21, X22], R, fun _ => rfl⟩
theorem del23 : Del (X0 :: X1 :: X2 :: X3 :: X4 :: X5 :: X6 :: X7 :: X8 :: X9 :: X10 :: X11 :: X12 :: X13 :: X14 :: X15 :: X16 :: X17 :: X18 :: X19 :: X20 :: X21 :: X22 :: A :: R) A (X0 :: X1 :: X2 :: X3 :: X4 :: X5 :: X6 :: X7 :: X8 :: X9 :: X10 :: X11 :: X12 :: X13 :: X14 :: X15 :: X16 :: X17 :: X18 :: X19 :: X20 :: X21 :: X22 :: R) := Del.of (L := [X0, X1, X2, X3, X4, X5, X6, X7, X8, X9, X10, X11, X12, X13, X14, X15, X16, X17, X18, X19, X20, X21, X22])
theorem foc24 : Foc (X0 :: X1 :: X2 :: X3 :: X4 :: X5 :: X6 :: X7 :: X8 :: X9 :: X10 :: X11 :: X12 :: X13 :: X14 :: X15 :: X16 :: X17 :: X18 :: X19 :: X20 :: X21 :: X22 :: X23 :: A :: R) A (fun X => X0 :: X1 :: X2 :: X3 :: X4 :: X5 :: X6 :: X7 :: X8 :: X9 :: X10 :: X11 :: X12 :: X13 :: X14 :: X15 :: X16 :: X17 :: X18 :: X19 :: X20 :: X21 :: X22 :: X23 :: X :: R) := ⟨rfl, [X0, X1, X2, X3, X4, X5, X6, X7, X8, X9, X10, X11, X12, X13, X14, X15, X16, X17, X18, X19, X20, X21, X22, X23], R, fun _ => rfl⟩
theorem del24 : Del (X0 :: X1 :: X2 :: X3 :: X4 :: X5 :: X6 :: X7 :: X8 :: X9 :: X10 :: X11 :: X12 :: X13 :: X14 :: X15 :: X16 :: X17 :: X18 :: X19 :: X20 :: X21 :: X22 :: X23 :: A :: R) A (X0 :: X1 :: X2 :: X3 :: X4 :: X5 :: X6 :: X7 :: X8 :: X9 :: X10 :: X11 :: X12 :: X13 :: X14 :: X15 :: X16 :: X17 :: X18 :: X19 :: X20 :: X21 :: X22 :: X23 :: R) := Del.of (L := [X0, X1, X2, X3, X4, X5, X6, X7, X8, X9, X10, X11, X12, X13, X14, X15, X16, X17, X18, X19, X20, X21, X22, X23])
theorem foc25 : Foc (X0 :: X1 :: X2 :: X3 :: X4 :: X5 :: X6 :: X7 :: X8 :: X9 :: X10 :: X11 :: X12 :: X13 :: X14 :: X15 :: X16 :: X17 :: X18 :: X19 :: X20 :: X21 :: X22 :: X23 :: X24 :: A :: R) A (fun X => X0 :: X1 :: X2 :: X3 :: X4 :: X5 :: X6 :: X7 :: X8 :: X9 :: X10 :: X11 :: X12 :: X13 :: X14 :: X15 :: X16 :: X17 :: X18 :: X19 :: X20 :: X21 :: X22 :: X23 :: X24 :: X :: R) := ⟨rfl, [X0, X1, X2, X3, X4, X5, X6, X7, X8, X9, X10, X11, X12, X13, X14, X15, X16, X17, X18, X19, X20, X21, X22, X23, X24], R, fun _ => rfl⟩
theorem del25 : Del (X0 :: X1 :: X2 :: X3 :: X4 :: X5 :: X6 :: X7 :: X8 :: X9 :: X10 :: X11 :: X12 :: X13 :: X14 :: X15 :: X16 :: X17 :: X18 :: X19 :: X20 :: X21 :: X22 :: X23 :: X24 :: A :: R) A (X0 :: X1 :: X2 :: X3 :: X4 :: X5 :: X6 :: X7 :: X8 :: X9 :: X10 :: X11 :: X12 :: X13 :: X14 :: X15 :: X16 :: X17 :: X18 :: X19 :: X20 :: X21 :: X22 :: X23 :: X24 :: R) := Del.of (L := [X0, X1, X2, X3, X4, X5, X6, X7, X8, X9, X10, X11, X12, X13, X14, X15, X16, X17, X18, X19, X20, X21, X22, X23, X24])
theorem foc26 : Foc (X0 :: X1 :: X2 :: X3 :: X4 :: X5 :: X6 :: X7 :: X8 :: X9 :: X10 :: X11 :: X12 :: X13 :: X14 :: X15 :: X16 :: X17 :: X18 :: X19 :: X20 :: X21 :: X22 :: X23 :: X24 :: X25 :: A :: R) A (fun X => X0 :: X1 :: X2 :: X3 :: X4 :: X5 :: X6 :: X7 :: X8 :: X9 :: X10 :: X11 :: X12 :: X13 :: X14 :: X15 :: X16 :: X17 :: X18 :: X19 :: X20 :: X21 :: X22 :: X23 :: X24 :: X25 :: X :: R) := ⟨rfl, [X0, X1, X2, X3, X4, X5, X6, X7, X8, X9, X10, X11, X12, X13, X14, X15, X16, X17, X18, X19, X20, X21, X22, X23, X24, X25], R, fun _ => rfl⟩
theorem del26 : Del (X0 :: X1 :: X2 :: X3 :: X4 :: X5 :: X6 :: X7 :: X8 :: X9 :: X10 :: X11 :: X12 :: X13 :: X14 :: X15 :: X16 :: X17 :: X18 :: X19 :: X20 :: X21 :: X22 :: X23 :: X24 :: X25 :: A :: R) A (X0 :: X1 :: X2 :: X3 :: X4 :: X5 :: X6 :: X7 :: X8 :: X9 :: X10 :: X11 :: X12 :: X13 :: X14 :: X15 :: X16 :: X17 :: X18 :: X19 :: X20 :: X21 :: X22 :: X23 :: X24 :: X25 :: R) := Del.of (L := [X0, X1, X2, X3, X4, X5, X6, X7, X8, X9, X10, X11, X12, X13, X14, X15, X16, X17, X18, X19, X20, X21, X22, X23, X24, X25])
theorem foc27 : Foc (X0 :: X1 :: X2 :: X3 :: X4 :: X5 :: X6 :: X7 :: X8 :: X9 :: X10 :: X11 :: X12 :: X13 :: X14 :: X15 :: X16 :: X17 :: X18 :: X19 :: X20 :: X21 :: X22 :: X23 :: X24 :: X25 :: X26 :: A :: R) A (fun X => X0 :: X1 :: X2 :: X3 :: X4 :: X5 :: X6 :: X7 :: X8 :: X9 :: X10 :: X11 :: X12 :: X13 :: X14 :: X15 :: X16 :: X17 :: X18 :: X19 :: X20 :: X21 :: X22 :: X23 :: X24 :: X25 :: X26 :: X :: R) := ⟨rfl, [X0, X1, X2, X3, X4, X5, X6, X7, X8, X9, X10, X11, X12, X13, X14, X15, X16, X17, X18, X19, X20, X21, X22, X23, X24, X25, X26], R, fun _ => rfl⟩
theorem del27 : Del (X0 :: X1 :: X2 :: X3 :: X4 :: X5 :: X6 :: X7 :: X8 :: X9 :: X10 :: X11 :: X12 :: X13 :: X14 :: X15 :: X16 :: X17 :: X18 :: X19 :: X20 :: X21 :: X22 :: X23 :: X24 :: X25 :: X26 :: A :: R) A (X0 :: X1 :: X2 :: X3 :: X4 :: X5 :: X6 :: X7 :: X8 :: X9 :: X10 :: X11 :: X12 :: X13 :: X14 :: X15 :: X16 :: X17 :: X18 :: X19 :: X20 :: X21 :: X22 :: X23 :: X24 :: X25 :: X26 :: R) := Del.of (L := [X0, X1, X2, X3, X4, X5, X6, X7, X8, X9, X10, X11, X12, X13, X14, X15, X16, X17, X18, X19, X20, X21, X22, X23, X24, X25, X26])
theorem foc28 : Foc (X0 :: X1 :: X2 :: X3 :: X4 :: X5 :: X6 :: X7 :: X8 :: X9 :: X10 :: X11 :: X12 :: X13 :: X14 :: X15 :: X16 :: X17 :: X18 :: X19 :: X20 :: X21 :: X22 :: X23 :: X24 :: X25 :: X26 :: X27 :: A :: R) A (fun X => X0 :: X1 :: X2 :: X3 :: X4 :: X5 :: X6 :: X7 :: X8 :: X9 :: X10 :: X11 :: X12 :: X13 :: X14 :: X15 :: X16 :: X17 :: X18 :: X19 :: X20 :: X21 :: X22 :: X23 :: X24 :: X25 :: X26 :: X27 :: X :: R) := ⟨rfl, [X0, X1, X2, X3, X4, X5, X6, X7, X8, X9, X10, X11, X12, X13, X14, X15, X16, X17, X18, X19, X20, X21, X22, X23, X24, X25, X26, X27], R, fun _ => rfl⟩
theorem del28 : Del (X0 :: X1 :: X2 :: X3 :: X4 :: X5 :: X6 :: X7 :: X8 :: X9 :: X10 :: X11 :: X12 :: X13 :: X14 :: X15 :: X16 :: X17 :: X18 :: X19 :: X20 :: X21 :: X22 :: X23 :: X24 :: X25 :: X26 :: X27 :: A :: R) A (X0 :: X1 :: X2 :: X3 :: X4 :: X5 :: X6 :: X7 :: X8 :: X9 :: X10 :: X11 :: X12 :: X13 :: X14 :: X15 :: X16 :: X17 :: X18 :: X19 :: X20 :: X21 :: X22 :: X23 :: X24 :: X25 :: X26 :: X27 :: R) := Del.of (L := [X0, X1, X2, X3, X4, X5, X6, X7, X8, X9, X10, X11, X12, X13, X14, X15, X16, X17, X18, X19, X20, X21, X22, X23, X24, X25, X26, X27])
end
/-- Something under which a slice reads. -/
theorem CJ_scope {P : Program} {n : Env} {W : World} {Q : Exit → Act → World → Prop} {s : Slots} {H : List HP} {c : Code} (h : CJ P n W (Exit.noGoto Q) c s H) (hnr : n.r = none := by rfl) : CJ P n W Q (.scope c) s H := fun a w hf hs => by
  have h1 := h a w hf hs
  rw [hnr] at h1 ⊢
  exact (wpIn_wide (n := 0)).2 (wp_scope_straight ((wpIn_wide (n := 0)).1 h1))
theorem QJ_scope_normal {n : Env} {W : World} {Q : Exit → Act → World → Prop} {s : Slots} {H : List HP} (h : QJ n W Q .normal s H) : QJ n W (Exit.noGoto Q) .normal s H := h
theorem QJ_scope_ret {n : Env} {W : World} {Q : Exit → Act → World → Prop} {s : Slots} {H : List HP} (h : QJ n W Q .ret s H) : QJ n W (Exit.noGoto Q) .ret s H := h
theorem QJ_scope_exit {n : Env} {W : World} {Q : Exit → Act → World → Prop} {s : Slots} {H : List HP} {id : Nat} (h : QJ n W Q (.exit id) s H) : QJ n W (Exit.noGoto Q) (.exit id) s H := h
theorem res4 {P : Program} {n : Env} {W : World} {s : Slots} {H : List HP} {fn : Func} {t u p q : Tmp} {v x y z : Value} (h : fn.results = #[.tmp t, .tmp u, .tmp p, .tmp q]) (hv : look s t = some v) (hx : look s u = some x) (hy : look s p = some y) (hz : look s q = some z) :
    ∀ a w, Fits n s a → St W w H → (results fn a.tmps).run P w = .ok (.tuple #[v, x, y, z]) w := fun a w hf _ => by
  have h1 := hf.slot t v hv
  have h2 := hf.slot u x hx
  have h3 := hf.slot p y hy
  have h4 := hf.slot q z hz
  simp [results, h, Array.getD_eq_getD_getElem?, h1, h2, h3, h4]
theorem VJ_entX {P : Program} {n : Env} {W : World} {o : Oper} {s : Slots} {H : List HP} {v : Value} {α : Type} {H' : α → List HP} (hH : EntX H H') (h : ∀ x, VJ P n W o s (H' x) v) : VJ P n W o s H v :=
  fun q w hf hs => let ⟨gg, hgg⟩ := hs.heap; let ⟨x, hx⟩ := hH _ hgg; h x q w hf ⟨hs.os, hs.tape, hs.output, gg, hx⟩
theorem reads_take {α : Type} {t : Ty α} {A : HP} {v : Value} {xs : List α} {h : Nat} (hr : Reads A t v ((xs.take h).drop 0)) : Reads A t v (xs.take h) := hr
def RdP {α : Type} (t : Ty α) (v : Value) (xs : List α) : HP := ex fun A : HP => starX [emp (Reads A t v xs), A]
theorem RdP_mk {α : Type} {t : Ty α} {v : Value} {xs : List α} {A : HP} (h : Reads A t v xs) {R : List HP} : Ent (A :: R) (RdP t v xs :: R) :=
  fun _ hg => stars_ex.2 ⟨A, stars_starX.2 (stars_emp.2 ⟨h, hg⟩)⟩
theorem Reads.rdp {α : Type} (t : Ty α) (v : Value) (xs : List α) : Reads (RdP t v xs) t v xs := by
  rintro g ⟨A, hA⟩
  have h1 : stars [emp (Reads A t v xs), A] g := by
    have := stars_starX.1 (stars_one hA)
    simpa using this
  obtain ⟨hr, h2⟩ := stars_emp.1 h1
  obtain ⟨h3, h4, hd, rfl, hA', _⟩ := h2
  exact (hr h3 hA').mono hd
theorem oneCell_oval {α : Type} {o : Option α} {b : Nat} : (oval o b).oneCell' = true := by cases o <;> rfl
theorem oneCell_oif {α : Type} {o : Option α} {h : IfH} : (oif o h).oneCell' = true := by cases o <;> rfl
/-- A pointer of a known type in an interface, or nil. -/
def oifc {α : Type} (T : Nat) (o : Option α) (b : Nat) : Value := match o with
  | none => .nilIface
  | some _ => .iface T (ptr b 0)
theorem oneCell_oifc {α : Type} {T : Nat} {o : Option α} {b : Nat} : (oifc T o b).oneCell' = true := by cases o <;> rfl
def copiedAt {α : Type} (xs : List α) (l h : Nat) (ys : List α) : List α := xs.take l ++ (ys.take (min ys.length (h - l)) ++ xs.drop (l + min ys.length (h - l)))
theorem copiedAt_length {α : Type} {xs ys : List α} {l h : Nat} (hlh : l ≤ h) (hh : h ≤ xs.length) : (copiedAt xs l h ys).length = xs.length := by simp [copiedAt]; omega
section
variable {P : Program} {n : Env} {W : World} {s : Slots} {H : List HP} {K : Slots → List HP → Prop} {d : Nat} {dst : Option Tmp} {ty : TypeId} {pos : String} {after : Array Edge} {g : Option (Nat × Bool)}
variable {α : Type} {t : Ty α} {A : HP} {C : HP → List HP} {v : Value} {xs ys : List α} {bytes : Nat}
theorem O_copyS {x y : Operand} {T T' E : TypeId} {l h : Nat} {u : Value} {F : List HP} (hlh : l ≤ h) (hh : h ≤ xs.length) (hx : ev s x = some (sliceV t.sz v l h)) (hy : ev s y = some u) (hdel : Del H (sl t v xs) F) (hf' : Foc F A C) (hr : Reads A t u ys) (hT : P.underlying T = some (.slice t.T)) (hok : ElemOk P t bytes)
    (hd : Nat.blt d n.n = true) (hk : K ((d, .int .i64 ((min ys.length (h - l) : Nat) : Int)) :: s) (sl t v (copiedAt xs l h ys) :: F)) :
    OJ P n W ⟨some d, .call { callee := .builtin .copy, args := #[x, y], argTypes := #[T, T'] }, E, pos, after, g⟩ s H K :=
  OJ_eff (fun q w hf hs => by
    obtain ⟨i, z, hi, hz, hsz, hb, hzc⟩ := hok.info
    have hs1 := hs.perm hdel.out
    have hu := hr.at hf' hs1.tail
    have hlenu : ∃ a c, u = .slice a ys.length c := by
      rcases hu with ⟨rfl, rfl⟩ | ⟨a, cap, rfl, _⟩
      · exact ⟨none, 0, rfl⟩
      · exact ⟨_, _, rfl⟩
    obtain ⟨ua, uc, rfl⟩ := hlenu
    have hfirst : ∀ m, m ≤ ys.length → (Builtin.firstCells t.sz m (.slice ua ys.length uc)).run P w = .ok (flat t (ys.take m)).toArray w := by
      intro m hm
      rcases hu with ⟨he, rfl⟩ | ⟨a0, cap, he, hcap, _, hsp, hcells⟩
      · injection he with h1 h2 h3; subst h1
        have : m = 0 := by simpa using hm
        subst this
        simp [Builtin.firstCells, flat]
      · injection he with h1 h2 h3; subst h1
        have hl := run_loadCells_list (P := P) w a0 (flat t (ys.take m)) (fun j x hj => by
          have hne : 0 < ys.length := by
            cases ys with
            | nil => simp [flat] at hj
            | cons y r => simp
          rw [addr_add _ _ (hsp hne)]
          have hjl : j < (flat t (ys.take m)).length := by
            rcases Nat.lt_or_ge j (flat t (ys.take m)).length with h | h
            · exact h
            · rw [List.getElem?_eq_none h] at hj; cases hj
          rw [flat_length, List.length_take, Nat.min_eq_left hm] at hjl
          have h1 : j / t.sz < m := Nat.div_lt_of_lt_mul (by rw [Nat.mul_comm]; exact hjl)
          have h2 : j % t.sz < t.sz := Nat.mod_lt _ t.pos
          have h3 : j / t.sz * t.sz + j % t.sz = j := by rw [Nat.mul_comm]; exact Nat.div_add_mod j t.sz
          have h4 := flat_get t (ys.take m) (j / t.sz) (j % t.sz) (by rw [List.length_take]; omega) h2
          have h5 : (ys.take m).getD (j / t.sz) t.dflt = ys.getD (j / t.sz) t.dflt := by simp [List.getD, h1]
          rw [h3, hj, h5] at h4
          have := hcells (j / t.sz) (j % t.sz) x (by omega) h2 h4.symm
          rw [h3] at this
          exact cell_of_cellAt this)
        rw [flat_length, List.length_take, Nat.min_eq_left hm] at hl
        simp [Builtin.firstCells, hl]
    have hxe := hf.eval hx
    by_cases hm0 : min ys.length (h - l) = 0
    · have hsame : copiedAt xs l h ys = xs := by simp [copiedAt, hm0]
      refine ⟨_, w, _, ?_, by rw [hsame]; exact hs1, hk⟩
      have h0 := hfirst 0 (Nat.zero_le _)
      obtain ⟨a', c', hv'⟩ : ∃ a' c', sliceV t.sz v l h = .slice a' (h - l) c' := by
        rcases sl_open hs1 with ⟨rfl, rfl, _⟩ | ⟨b0, cap0, cur, rfl, _⟩
        · have : h = 0 := by simpa using hh
          subst this
          exact ⟨_, _, rfl⟩
        · exact ⟨_, _, rfl⟩
      rw [hv'] at hxe
      simp [execOp, resolve, invoke, builtin, hxe, hf.eval hy, Builtin.copy_, run_underlying hT, sizeOf, typeInfo, hi, Builtin.lenOf, hsz, hm0, h0, goInt]
      cases a' <;> simp [flat, storeCells]
    · have hmin : min ys.length (h - l) ≤ ys.length := Nat.min_le_left _ _
      have hml : min ys.length (h - l) ≤ h - l := Nat.min_le_right _ _
      rcases sl_open hs1 with ⟨rfl, rfl, hF⟩ | ⟨b0, cap0, cur, rfl, hc, hm, hs', ht, h2⟩
      · exfalso
        have : h = 0 := by simpa using hh
        omega
      · have hcl : ¬ cap0 = l := by omega
        simp only [sliceV, hcl, if_false, Option.map_some] at hxe
        generalize hM : min ys.length (h - l) = M at *
        have hfl := hfirst M hmin
        have hlen : (flat t (ys.take M)).length = M * t.sz := by rw [flat_length, List.length_take, Nat.min_eq_left hmin]
        have hle : (l + M) * t.sz ≤ xs.length * t.sz := Nat.mul_le_mul_right _ (by omega)
        rw [Nat.add_mul] at hle
        have hcs : xs.length * t.sz ≤ cap0 * t.sz := Nat.mul_le_mul_right _ hc
        have hst := run_storeCells_at P b0 (l * t.sz) t.T (flat t (ys.take M)) 0 cur w h2.blk (by rw [hlen, hs']; omega) (flat_one t _)
        simp only [Nat.add_zero] at hst
        have hcp : flat t (copiedAt xs l h ys) = flat t (xs.take l) ++ (flat t (ys.take M) ++ flat t (xs.drop (l + M))) := by rw [copiedAt, hM, flat_append, flat_append]
        generalize flat t (ys.take M) = Y at *
        refine ⟨_, w.setRow b0 (cur.toList.take (l * t.sz) ++ Y ++ cur.toList.drop (l * t.sz + Y.length)).toArray, _, ?_, ?_, hk⟩
        rotate_left
        · have h3 := h2.setRow (c' := (cur.toList.take (l * t.sz) ++ Y ++ cur.toList.drop (l * t.sz + Y.length)).toArray)
          have hcl2 : (copiedAt xs l h ys).length = xs.length := copiedAt_length hlh hh
          have h4 := sl_shut (t := t) (xs := copiedAt xs l h ys) (b := b0) (cap := cap0) (by rw [hcl2]; exact hc) hm (by
            simp only [List.size_toArray, List.length_append, List.length_take, List.length_drop, Array.length_toList, hlen, hs']; omega) (by
            rw [hcl2, hcp, ← flat_take, ← flat_drop, ← ht, hlen, Nat.add_mul]
            apply List.ext_getElem?
            intro j
            have e1 : (cur.toList.take (l * t.sz)).length = l * t.sz := by rw [List.length_take, Array.length_toList, hs']; omega
            have e2 : ((cur.toList.take (xs.length * t.sz)).take (l * t.sz)).length = l * t.sz := by rw [List.take_take, Nat.min_eq_left (by omega), e1]
            simp only [List.append_assoc]
            by_cases hj0 : j < xs.length * t.sz
            · rw [List.getElem?_take, if_pos hj0]
              simp only [List.getElem?_append, e1, e2, hlen]
              by_cases h5 : j < l * t.sz
              · simp only [h5, if_true, List.getElem?_take, hj0]
              · simp only [h5, if_false]
                by_cases h6 : j - l * t.sz < M * t.sz
                · simp only [h6, if_true]
                · simp only [h6, if_false, List.getElem?_drop, List.getElem?_take]
                  rw [if_pos (by omega)]
            · rw [List.getElem?_take, if_neg hj0, List.getElem?_eq_none]
              simp only [List.length_append, e2, hlen, List.length_drop, List.length_take, Array.length_toList, hs']
              omega) h3
          rw [hcl2] at h4
          exact h4
        · have hadd : (⟨b0, 0, none⟩ : Addr).add (l * t.sz) = ⟨b0, l * t.sz, none⟩ := by simp [Addr.add]; try omega
          rw [hadd] at hxe
          simp [execOp, resolve, invoke, builtin, hxe, hf.eval hy, Builtin.copy_, run_underlying hT, sizeOf, typeInfo, hi, Builtin.lenOf, hsz, hM, hfl, hst, goInt]) hd
/-- One of three may come up. -/
theorem AJ_three {l : List Oper} {Q : Exit → Act → World → Prop} {Hr : List HP} {tl fuel m : Nat} {o1 o2 o3 : Oper} (i1 i2 i3 : Nat) (m1 m2 m3 : Nat) (hi1 : l[i1]? = some o1) (hi2 : l[i2]? = some o2) (hi3 : l[i3]? = some o3) (hr : readyAre l.toArray m [i1, i2, i3] = true) (hm1 : m ||| 2 ^ i1 = m1) (hm2 : m ||| 2 ^ i2 = m2) (hm3 : m ||| 2 ^ i3 = m3) (hg1 : GY l.toArray s o1 true) (hg2 : GY l.toArray s o2 true) (hg3 : GY l.toArray s o3 true)
    (h1 : OJ P n W o1 s H fun s' H' => (tl.testBit i1 = false → Ent H' Hr) ∧ AJ P n W l Q Hr tl fuel m1 s' H')
    (h2 : OJ P n W o2 s H fun s' H' => (tl.testBit i2 = false → Ent H' Hr) ∧ AJ P n W l Q Hr tl fuel m2 s' H')
    (h3 : OJ P n W o3 s H fun s' H' => (tl.testBit i3 = false → Ent H' Hr) ∧ AJ P n W l Q Hr tl fuel m3 s' H') : AJ P n W l Q Hr tl (fuel + 1) m s H := by
  intro a w hf hs
  have hr' : Region.ready .any l.toArray (listedOf l.toArray.size m) = [i1, i2, i3] := by simpa [readyAre] using hr
  refine ⟨fun h0 => (by rw [hr'] at h0; cases h0), fun j hj => ?_⟩
  rw [hr'] at hj
  simp only [List.mem_cons, List.not_mem_nil, or_false] at hj
  rcases hj with rfl | rfl | rfl
  · rw [listedOf_set, hm1]
    exact wpOp_of_OJ hi1 hg1 h1 hf hs fun s' H' a' w' hk hf' hs' => ⟨fun ht _ => hs'.imp (hk.1 ht), hk.2 a' w' hf' hs'⟩
  · rw [listedOf_set, hm2]
    exact wpOp_of_OJ hi2 hg2 h2 hf hs fun s' H' a' w' hk hf' hs' => ⟨fun ht _ => hs'.imp (hk.1 ht), hk.2 a' w' hf' hs'⟩
  · rw [listedOf_set, hm3]
    exact wpOp_of_OJ hi3 hg3 h3 hf hs fun s' H' a' w' hk hf' hs' => ⟨fun ht _ => hs'.imp (hk.1 ht), hk.2 a' w' hf' hs'⟩
end
end Go.VG
