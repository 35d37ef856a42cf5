/-
  Known calls of the law's run, each a closed run by the kernel (10).
-/
import Derived.Test.YtdkbkilgmmenkaaGreatDoorF9
set_option linter.all false
namespace Go.Am.X
set_option maxRecDepth 100000
theorem c74p : Pure X.P 305 [t0, .sl 1 [[w 28]], .sl 1 [[w 64]]] (.agg [t0, .sl 1 [[w 7]], .sl 1 [[w 16]]]) := Xrun [c73] (by kernel_rfl) (by kernel_rfl) (by kernel_rfl)
noncomputable def c74 : Fact X.P := ⟨_, _, _, c74p⟩
theorem c75p : Pure X.P 185 [.agg [t0, .sl 1 [[w 3]], .sl 1 [[w 16]]], .agg [t0, .sl 1 [[w 1]], .sl 1 [[w 4]]]] (.agg [t0, .sl 1 [[w 7]], .sl 1 [[w 16]]]) := Xrun [c69, c26, c74] (by kernel_rfl) (by kernel_rfl) (by kernel_rfl)
noncomputable def c75 : Fact X.P := ⟨_, _, _, c75p⟩
theorem c76p : Pure X.P 137 [.agg [.sl 1 [[i 0], [i 1], [i 2]], .sl 3 [[i 2, i 0, i 1], [i 1, i 0, i 2], [i 0, i 3, i 1]], i 4], .sl 3 [[t0, .sl 1 [[w 1]], .sl 1 [[w 4]]], [t0, .sl 1 [[w 1]], .sl 1 [[w 2]]], [t0, .sl 1 [[w 1]], .sl 1 [[w 2]]]]] (.sl 3 [[t0, .sl 1 [[w 1]], .sl 1 [[w 2]]], [t0, .sl 1 [[w 1]], .sl 1 [[w 4]]], [t0, .sl 1 [[w 7]], .sl 1 [[w 16]]]]) := Xrun [c18, c34, c58, c59, c60, c61, c62, c63, c64, c26, c65, c68, c71, c72, c75] (by kernel_rfl) (by kernel_rfl) (by kernel_rfl)
noncomputable def c76 : Fact X.P := ⟨_, _, _, c76p⟩
theorem c77p : Pure X.P 434 [.sl 1 [[w 7]], .sl 1 [[w 16]]] (.sl 1 [[w 1]]) := Xrun [] (by kernel_rfl) (by kernel_rfl) (by kernel_rfl)
noncomputable def c77 : Fact X.P := ⟨_, _, _, c77p⟩
theorem c78p : Pure X.P 139 [.sl 1 [[w 7]]] (st [55]) := Xrun [] (by kernel_rfl) (by kernel_rfl) (by kernel_rfl)
noncomputable def c78 : Fact X.P := ⟨_, _, _, c78p⟩
end Go.Am.X
