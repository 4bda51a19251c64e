/-
  The statement WorldLoses (law 23): where all letters are lost nobody decides anything. Part 26 of 30. No condition stands ahead of the statement. Parts of this text were printed by a program of ours.
-/
import Derived.Test.YtmpmildpioebhaaGreatDoorW23
set_option linter.all false
set_option maxRecDepth 100000
set_option maxHeartbeats 4000000
noncomputable section
namespace Go.Vm
open Go
theorem F3_0_0 (L c:Nat):(S3_0.run fun hp=>evW 3 0 L c [S3_1,S3_2] hp) = .br (okW S3_0 3 0 L c) (.br (okW S3_0 3 0 L c) (okW S3_0 3 0 L c)):=by kernel_rfl
theorem F3_1_1 (L c:Nat):(S3_1.run fun hp=>evW 3 1 L c [S3_3] hp) = .br (okW S3_1 3 1 L c) (.br (okW S3_1 3 1 L c) (okW S3_1 3 1 L c)):=by kernel_rfl
theorem F3_1_2 (L c:Nat):(S3_2.run fun hp=>evW 3 1 L c [S3_3] hp) = .br (okW S3_2 3 1 L c) (.br (okW S3_2 3 1 L c) (okW S3_2 3 1 L c)):=by kernel_rfl
theorem F3_2_3 (L c:Nat):(S3_3.run fun hp=>evW 3 2 L c [S3_4] hp) = .br (okW S3_3 3 2 L c) (.br (okW S3_3 3 2 L c) (okW S3_3 3 2 L c)):=by kernel_rfl
theorem F3_3_4 (L c:Nat):(S3_4.run fun hp=>evW 3 3 L c [S3_5] hp) = .br (okW S3_4 3 3 L c) (.br (okW S3_4 3 3 L c) (.br (okW S3_4 3 3 L c) (okW S3_4 3 3 L c))):=by kernel_rfl
theorem F3_4_5 (L c:Nat):(S3_5.run fun hp=>evW 3 4 L c [S3_4] hp) = .br (okW S3_5 3 4 L c) (.br (okW S3_5 3 4 L c) (.br (okW S3_5 3 4 L c) (okW S3_5 3 4 L c))):=by kernel_rfl
theorem F3_5_4 (L c:Nat):(S3_4.run fun hp=>evW 3 5 L c [S3_5] hp) = .br (okW S3_4 3 5 L c) (.br (okW S3_4 3 5 L c) (.br (okW S3_4 3 5 L c) (okW S3_4 3 5 L c))):=by kernel_rfl
theorem F3_6_5 (L c:Nat):(S3_5.run fun hp=>evW 3 6 L c [S3_4] hp) = .br (okW S3_5 3 6 L c) (.br (okW S3_5 3 6 L c) (.br (okW S3_5 3 6 L c) (okW S3_5 3 6 L c))):=by kernel_rfl
theorem F3_7_4 (L c:Nat):(S3_4.run fun hp=>evW 3 7 L c [S3_5] hp) = .br (okW S3_4 3 7 L c) (.br (okW S3_4 3 7 L c) (.br (okW S3_4 3 7 L c) (okW S3_4 3 7 L c))):=by kernel_rfl
theorem F3_8_5 (L c:Nat):(S3_5.run fun hp=>evW 3 8 L c [S3_4] hp) = .br (okW S3_5 3 8 L c) (.br (okW S3_5 3 8 L c) (.br (okW S3_5 3 8 L c) (okW S3_5 3 8 L c))):=by kernel_rfl
theorem F3_9_4 (L c:Nat):(S3_4.run fun hp=>evW 3 9 L c [S3_5] hp) = .br (okW S3_4 3 9 L c) (.br (okW S3_4 3 9 L c) (.br (okW S3_4 3 9 L c) (okW S3_4 3 9 L c))):=by kernel_rfl
theorem F3_10_5 (L c:Nat):(S3_5.run fun hp=>evW 3 10 L c [S3_4] hp) = .br (okW S3_5 3 10 L c) (.br (okW S3_5 3 10 L c) (.br (okW S3_5 3 10 L c) (okW S3_5 3 10 L c))):=by kernel_rfl
theorem F3_11_4 (L c:Nat):(S3_4.run fun hp=>evW 3 11 L c [S3_5] hp) = .br (okW S3_4 3 11 L c) (.br (okW S3_4 3 11 L c) (.br (okW S3_4 3 11 L c) (okW S3_4 3 11 L c))):=by kernel_rfl
theorem F3_12_5 (L c:Nat):(S3_5.run fun hp=>evW 3 12 L c [S3_4] hp) = .br (okW S3_5 3 12 L c) (.br (okW S3_5 3 12 L c) (.br (okW S3_5 3 12 L c) (okW S3_5 3 12 L c))):=by kernel_rfl
theorem F3_13_4 (L c:Nat):(S3_4.run fun hp=>evW 3 13 L c [S3_5] hp) = .br (okW S3_4 3 13 L c) (.br (okW S3_4 3 13 L c) (.br (okW S3_4 3 13 L c) (okW S3_4 3 13 L c))):=by kernel_rfl
theorem F3_14_5 (L c:Nat):(S3_5.run fun hp=>evW 3 14 L c [S3_4] hp) = .br (okW S3_5 3 14 L c) (.br (okW S3_5 3 14 L c) (.br (okW S3_5 3 14 L c) (okW S3_5 3 14 L c))):=by kernel_rfl
theorem F3_15_4 (L c:Nat):(S3_4.run fun hp=>evW 3 15 L c [S3_5] hp) = .br (okW S3_4 3 15 L c) (.br (okW S3_4 3 15 L c) (.br (okW S3_4 3 15 L c) (okW S3_4 3 15 L c))):=by kernel_rfl
theorem F3_16_5 (L c:Nat):(S3_5.run fun hp=>evW 3 16 L c [S3_4] hp) = .br (okW S3_5 3 16 L c) (.br (okW S3_5 3 16 L c) (.br (okW S3_5 3 16 L c) (okW S3_5 3 16 L c))):=by kernel_rfl
theorem F3_17_4 (L c:Nat):(S3_4.run fun hp=>evW 3 17 L c [S3_5] hp) = .br (okW S3_4 3 17 L c) (.br (okW S3_4 3 17 L c) (.br (okW S3_4 3 17 L c) (okW S3_4 3 17 L c))):=by kernel_rfl
theorem F3_18_5 (L c:Nat):(S3_5.run fun hp=>evW 3 18 L c [S3_4] hp) = .br (okW S3_5 3 18 L c) (.br (okW S3_5 3 18 L c) (.br (okW S3_5 3 18 L c) (okW S3_5 3 18 L c))):=by kernel_rfl
theorem F3_19_4 (L c:Nat):(S3_4.run fun hp=>evW 3 19 L c [S3_5] hp) = .br (okW S3_4 3 19 L c) (.br (okW S3_4 3 19 L c) (.br (okW S3_4 3 19 L c) (okW S3_4 3 19 L c))):=by kernel_rfl
theorem Fin3_0:(S3_0.run fun hp=>evFin 3 hp) = .ok (.b true) hpE:=by kernel_rfl
theorem Fin3_1:(S3_1.run fun hp=>evFin 3 hp) = .ok (.b true) hpE:=by kernel_rfl
theorem Fin3_2:(S3_2.run fun hp=>evFin 3 hp) = .ok (.b true) hpE:=by kernel_rfl
theorem Fin3_3:(S3_3.run fun hp=>evFin 3 hp) = .ok (.b true) hpE:=by kernel_rfl
theorem Fin3_4:(S3_4.run fun hp=>evFin 3 hp) = .ok (.b true) hpE:=by kernel_rfl
theorem Fin3_5:(S3_5.run fun hp=>evFin 3 hp) = .ok (.b true) hpE:=by kernel_rfl
theorem Made3:evMade 3 [S3_0] = .ok .u hpE:=by kernel_rfl
end Go.Vm
