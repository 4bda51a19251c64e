/-
  The statement WorldLoses (law 23): where all letters are lost nobody decides anything. Part 27 of 30. No condition stands ahead of the statement. Parts of this text were printed by a program of ours.
-/
import Derived.Test.YtmpmildpioebhaaGreatDoorW23
set_option linter.all false
set_option maxRecDepth 100000
set_option maxHeartbeats 4000000
noncomputable section
namespace Go.Vm
open Go
theorem F4_0_0 (L c:Nat):(S4_0.run fun hp=>evW 4 0 L c [S4_1,S4_2] hp) = .br (okW S4_0 4 0 L c) (.br (okW S4_0 4 0 L c) (okW S4_0 4 0 L c)):=by kernel_rfl
theorem F4_1_1 (L c:Nat):(S4_1.run fun hp=>evW 4 1 L c [S4_3] hp) = .br (okW S4_1 4 1 L c) (.br (okW S4_1 4 1 L c) (okW S4_1 4 1 L c)):=by kernel_rfl
theorem F4_1_2 (L c:Nat):(S4_2.run fun hp=>evW 4 1 L c [S4_3] hp) = .br (okW S4_2 4 1 L c) (.br (okW S4_2 4 1 L c) (okW S4_2 4 1 L c)):=by kernel_rfl
theorem F4_2_3 (L c:Nat):(S4_3.run fun hp=>evW 4 2 L c [S4_4] hp) = .br (okW S4_3 4 2 L c) (.br (okW S4_3 4 2 L c) (okW S4_3 4 2 L c)):=by kernel_rfl
theorem F4_3_4 (L c:Nat):(S4_4.run fun hp=>evW 4 3 L c [S4_5] hp) = .br (okW S4_4 4 3 L c) (.br (okW S4_4 4 3 L c) (.br (okW S4_4 4 3 L c) (okW S4_4 4 3 L c))):=by kernel_rfl
theorem F4_4_5 (L c:Nat):(S4_5.run fun hp=>evW 4 4 L c [S4_4] hp) = .br (okW S4_5 4 4 L c) (.br (okW S4_5 4 4 L c) (.br (okW S4_5 4 4 L c) (okW S4_5 4 4 L c))):=by kernel_rfl
theorem F4_5_4 (L c:Nat):(S4_4.run fun hp=>evW 4 5 L c [S4_5] hp) = .br (okW S4_4 4 5 L c) (.br (okW S4_4 4 5 L c) (.br (okW S4_4 4 5 L c) (okW S4_4 4 5 L c))):=by kernel_rfl
theorem F4_6_5 (L c:Nat):(S4_5.run fun hp=>evW 4 6 L c [S4_4] hp) = .br (okW S4_5 4 6 L c) (.br (okW S4_5 4 6 L c) (.br (okW S4_5 4 6 L c) (okW S4_5 4 6 L c))):=by kernel_rfl
theorem F4_7_4 (L c:Nat):(S4_4.run fun hp=>evW 4 7 L c [S4_5] hp) = .br (okW S4_4 4 7 L c) (.br (okW S4_4 4 7 L c) (.br (okW S4_4 4 7 L c) (okW S4_4 4 7 L c))):=by kernel_rfl
theorem F4_8_5 (L c:Nat):(S4_5.run fun hp=>evW 4 8 L c [S4_4] hp) = .br (okW S4_5 4 8 L c) (.br (okW S4_5 4 8 L c) (.br (okW S4_5 4 8 L c) (okW S4_5 4 8 L c))):=by kernel_rfl
theorem F4_9_4 (L c:Nat):(S4_4.run fun hp=>evW 4 9 L c [S4_5] hp) = .br (okW S4_4 4 9 L c) (.br (okW S4_4 4 9 L c) (.br (okW S4_4 4 9 L c) (okW S4_4 4 9 L c))):=by kernel_rfl
theorem F4_10_5 (L c:Nat):(S4_5.run fun hp=>evW 4 10 L c [S4_4] hp) = .br (okW S4_5 4 10 L c) (.br (okW S4_5 4 10 L c) (.br (okW S4_5 4 10 L c) (okW S4_5 4 10 L c))):=by kernel_rfl
theorem F4_11_4 (L c:Nat):(S4_4.run fun hp=>evW 4 11 L c [S4_5] hp) = .br (okW S4_4 4 11 L c) (.br (okW S4_4 4 11 L c) (.br (okW S4_4 4 11 L c) (okW S4_4 4 11 L c))):=by kernel_rfl
theorem F4_12_5 (L c:Nat):(S4_5.run fun hp=>evW 4 12 L c [S4_4] hp) = .br (okW S4_5 4 12 L c) (.br (okW S4_5 4 12 L c) (.br (okW S4_5 4 12 L c) (okW S4_5 4 12 L c))):=by kernel_rfl
theorem F4_13_4 (L c:Nat):(S4_4.run fun hp=>evW 4 13 L c [S4_5] hp) = .br (okW S4_4 4 13 L c) (.br (okW S4_4 4 13 L c) (.br (okW S4_4 4 13 L c) (okW S4_4 4 13 L c))):=by kernel_rfl
theorem F4_14_5 (L c:Nat):(S4_5.run fun hp=>evW 4 14 L c [S4_4] hp) = .br (okW S4_5 4 14 L c) (.br (okW S4_5 4 14 L c) (.br (okW S4_5 4 14 L c) (okW S4_5 4 14 L c))):=by kernel_rfl
theorem F4_15_4 (L c:Nat):(S4_4.run fun hp=>evW 4 15 L c [S4_5] hp) = .br (okW S4_4 4 15 L c) (.br (okW S4_4 4 15 L c) (.br (okW S4_4 4 15 L c) (okW S4_4 4 15 L c))):=by kernel_rfl
theorem F4_16_5 (L c:Nat):(S4_5.run fun hp=>evW 4 16 L c [S4_4] hp) = .br (okW S4_5 4 16 L c) (.br (okW S4_5 4 16 L c) (.br (okW S4_5 4 16 L c) (okW S4_5 4 16 L c))):=by kernel_rfl
theorem F4_17_4 (L c:Nat):(S4_4.run fun hp=>evW 4 17 L c [S4_5] hp) = .br (okW S4_4 4 17 L c) (.br (okW S4_4 4 17 L c) (.br (okW S4_4 4 17 L c) (okW S4_4 4 17 L c))):=by kernel_rfl
theorem F4_18_5 (L c:Nat):(S4_5.run fun hp=>evW 4 18 L c [S4_4] hp) = .br (okW S4_5 4 18 L c) (.br (okW S4_5 4 18 L c) (.br (okW S4_5 4 18 L c) (okW S4_5 4 18 L c))):=by kernel_rfl
theorem F4_19_4 (L c:Nat):(S4_4.run fun hp=>evW 4 19 L c [S4_5] hp) = .br (okW S4_4 4 19 L c) (.br (okW S4_4 4 19 L c) (.br (okW S4_4 4 19 L c) (okW S4_4 4 19 L c))):=by kernel_rfl
theorem Fin4_0:(S4_0.run fun hp=>evFin 4 hp) = .ok (.b true) hpE:=by kernel_rfl
theorem Fin4_1:(S4_1.run fun hp=>evFin 4 hp) = .ok (.b true) hpE:=by kernel_rfl
theorem Fin4_2:(S4_2.run fun hp=>evFin 4 hp) = .ok (.b true) hpE:=by kernel_rfl
theorem Fin4_3:(S4_3.run fun hp=>evFin 4 hp) = .ok (.b true) hpE:=by kernel_rfl
theorem Fin4_4:(S4_4.run fun hp=>evFin 4 hp) = .ok (.b true) hpE:=by kernel_rfl
theorem Fin4_5:(S4_5.run fun hp=>evFin 4 hp) = .ok (.b true) hpE:=by kernel_rfl
theorem Made4:evMade 4 [S4_0] = .ok .u hpE:=by kernel_rfl
end Go.Vm
