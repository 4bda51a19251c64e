/-
  The statement WorldLoses (law 23): where all letters are lost nobody decides anything. Part 25 of 30. No condition stands ahead of the statement. Parts of this text were printed by a program of ours.
-/
import Derived.Test.YtmpmildpioebhaaGreatDoorW23
set_option linter.all false
set_option maxRecDepth 100000
set_option maxHeartbeats 4000000
noncomputable section
namespace Go.Vm
open Go
theorem F2_0_0 (L c:Nat):(S2_0.run fun hp=>evW 2 0 L c [S2_1,S2_2] hp) = .br (okW S2_0 2 0 L c) (.br (okW S2_0 2 0 L c) (okW S2_0 2 0 L c)):=by kernel_rfl
theorem F2_1_1 (L c:Nat):(S2_1.run fun hp=>evW 2 1 L c [S2_3] hp) = .br (okW S2_1 2 1 L c) (.br (okW S2_1 2 1 L c) (okW S2_1 2 1 L c)):=by kernel_rfl
theorem F2_1_2 (L c:Nat):(S2_2.run fun hp=>evW 2 1 L c [S2_3] hp) = .br (okW S2_2 2 1 L c) (.br (okW S2_2 2 1 L c) (okW S2_2 2 1 L c)):=by kernel_rfl
theorem F2_2_3 (L c:Nat):(S2_3.run fun hp=>evW 2 2 L c [S2_4] hp) = .br (okW S2_3 2 2 L c) (.br (okW S2_3 2 2 L c) (okW S2_3 2 2 L c)):=by kernel_rfl
theorem F2_3_4 (L c:Nat):(S2_4.run fun hp=>evW 2 3 L c [S2_5] hp) = .br (okW S2_4 2 3 L c) (.br (okW S2_4 2 3 L c) (.br (okW S2_4 2 3 L c) (okW S2_4 2 3 L c))):=by kernel_rfl
theorem F2_4_5 (L c:Nat):(S2_5.run fun hp=>evW 2 4 L c [S2_4] hp) = .br (okW S2_5 2 4 L c) (.br (okW S2_5 2 4 L c) (.br (okW S2_5 2 4 L c) (okW S2_5 2 4 L c))):=by kernel_rfl
theorem F2_5_4 (L c:Nat):(S2_4.run fun hp=>evW 2 5 L c [S2_5] hp) = .br (okW S2_4 2 5 L c) (.br (okW S2_4 2 5 L c) (.br (okW S2_4 2 5 L c) (okW S2_4 2 5 L c))):=by kernel_rfl
theorem F2_6_5 (L c:Nat):(S2_5.run fun hp=>evW 2 6 L c [S2_4] hp) = .br (okW S2_5 2 6 L c) (.br (okW S2_5 2 6 L c) (.br (okW S2_5 2 6 L c) (okW S2_5 2 6 L c))):=by kernel_rfl
theorem F2_7_4 (L c:Nat):(S2_4.run fun hp=>evW 2 7 L c [S2_5] hp) = .br (okW S2_4 2 7 L c) (.br (okW S2_4 2 7 L c) (.br (okW S2_4 2 7 L c) (okW S2_4 2 7 L c))):=by kernel_rfl
theorem F2_8_5 (L c:Nat):(S2_5.run fun hp=>evW 2 8 L c [S2_4] hp) = .br (okW S2_5 2 8 L c) (.br (okW S2_5 2 8 L c) (.br (okW S2_5 2 8 L c) (okW S2_5 2 8 L c))):=by kernel_rfl
theorem F2_9_4 (L c:Nat):(S2_4.run fun hp=>evW 2 9 L c [S2_5] hp) = .br (okW S2_4 2 9 L c) (.br (okW S2_4 2 9 L c) (.br (okW S2_4 2 9 L c) (okW S2_4 2 9 L c))):=by kernel_rfl
theorem F2_10_5 (L c:Nat):(S2_5.run fun hp=>evW 2 10 L c [S2_4] hp) = .br (okW S2_5 2 10 L c) (.br (okW S2_5 2 10 L c) (.br (okW S2_5 2 10 L c) (okW S2_5 2 10 L c))):=by kernel_rfl
theorem F2_11_4 (L c:Nat):(S2_4.run fun hp=>evW 2 11 L c [S2_5] hp) = .br (okW S2_4 2 11 L c) (.br (okW S2_4 2 11 L c) (.br (okW S2_4 2 11 L c) (okW S2_4 2 11 L c))):=by kernel_rfl
theorem F2_12_5 (L c:Nat):(S2_5.run fun hp=>evW 2 12 L c [S2_4] hp) = .br (okW S2_5 2 12 L c) (.br (okW S2_5 2 12 L c) (.br (okW S2_5 2 12 L c) (okW S2_5 2 12 L c))):=by kernel_rfl
theorem F2_13_4 (L c:Nat):(S2_4.run fun hp=>evW 2 13 L c [S2_5] hp) = .br (okW S2_4 2 13 L c) (.br (okW S2_4 2 13 L c) (.br (okW S2_4 2 13 L c) (okW S2_4 2 13 L c))):=by kernel_rfl
theorem F2_14_5 (L c:Nat):(S2_5.run fun hp=>evW 2 14 L c [S2_4] hp) = .br (okW S2_5 2 14 L c) (.br (okW S2_5 2 14 L c) (.br (okW S2_5 2 14 L c) (okW S2_5 2 14 L c))):=by kernel_rfl
theorem F2_15_4 (L c:Nat):(S2_4.run fun hp=>evW 2 15 L c [S2_5] hp) = .br (okW S2_4 2 15 L c) (.br (okW S2_4 2 15 L c) (.br (okW S2_4 2 15 L c) (okW S2_4 2 15 L c))):=by kernel_rfl
theorem F2_16_5 (L c:Nat):(S2_5.run fun hp=>evW 2 16 L c [S2_4] hp) = .br (okW S2_5 2 16 L c) (.br (okW S2_5 2 16 L c) (.br (okW S2_5 2 16 L c) (okW S2_5 2 16 L c))):=by kernel_rfl
theorem F2_17_4 (L c:Nat):(S2_4.run fun hp=>evW 2 17 L c [S2_5] hp) = .br (okW S2_4 2 17 L c) (.br (okW S2_4 2 17 L c) (.br (okW S2_4 2 17 L c) (okW S2_4 2 17 L c))):=by kernel_rfl
theorem F2_18_5 (L c:Nat):(S2_5.run fun hp=>evW 2 18 L c [S2_4] hp) = .br (okW S2_5 2 18 L c) (.br (okW S2_5 2 18 L c) (.br (okW S2_5 2 18 L c) (okW S2_5 2 18 L c))):=by kernel_rfl
theorem F2_19_4 (L c:Nat):(S2_4.run fun hp=>evW 2 19 L c [S2_5] hp) = .br (okW S2_4 2 19 L c) (.br (okW S2_4 2 19 L c) (.br (okW S2_4 2 19 L c) (okW S2_4 2 19 L c))):=by kernel_rfl
theorem Fin2_0:(S2_0.run fun hp=>evFin 2 hp) = .ok (.b true) hpE:=by kernel_rfl
theorem Fin2_1:(S2_1.run fun hp=>evFin 2 hp) = .ok (.b true) hpE:=by kernel_rfl
theorem Fin2_2:(S2_2.run fun hp=>evFin 2 hp) = .ok (.b true) hpE:=by kernel_rfl
theorem Fin2_3:(S2_3.run fun hp=>evFin 2 hp) = .ok (.b true) hpE:=by kernel_rfl
theorem Fin2_4:(S2_4.run fun hp=>evFin 2 hp) = .ok (.b true) hpE:=by kernel_rfl
theorem Fin2_5:(S2_5.run fun hp=>evFin 2 hp) = .ok (.b true) hpE:=by kernel_rfl
theorem Made2:evMade 2 [S2_0] = .ok .u hpE:=by kernel_rfl
end Go.Vm
