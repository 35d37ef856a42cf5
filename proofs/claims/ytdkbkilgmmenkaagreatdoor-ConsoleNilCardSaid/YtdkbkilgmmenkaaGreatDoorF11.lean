/-
  Known calls of the law's run, each a closed run by the kernel (11).
-/
import Derived.Test.YtdkbkilgmmenkaaGreatDoorF10
set_option linter.all false
namespace Go.Am.X
set_option maxRecDepth 100000
theorem c79p : Pure X.P 139 [.sl 1 [[w 16]]] (st [49, 54]) := Xrun [] (by kernel_rfl) (by kernel_rfl) (by kernel_rfl)
noncomputable def c79 : Fact X.P := ⟨_, _, _, c79p⟩
theorem c80p : Pure X.P 274 [.agg [i 3, .sl 3 [[i 2, i 0, .sl 1 [[i 1], [i 2]]], [i 3, i 0, .sl 1 [[i 0], [i 3]]]], i 4], i 2] (.tup [t0, nI]) := Xrun [] (by kernel_rfl) (by kernel_rfl) (by kernel_rfl)
noncomputable def c80 : Fact X.P := ⟨_, _, _, c80p⟩
noncomputable def c81 : Fact X.P := ⟨96, [.sl 1 [[st [98]]], st [32]], st [98], Xjoin [[98]] [32] [98] (by decide) (by decide) (by kernel_rfl)⟩
theorem c82p : Pure X.P 274 [.agg [i 3, .sl 3 [[i 2, i 0, .sl 1 [[i 1], [i 2]]], [i 3, i 0, .sl 1 [[i 0], [i 3]]]], i 4], i 3] (.tup [t1, nI]) := Xrun [] (by kernel_rfl) (by kernel_rfl) (by kernel_rfl)
noncomputable def c82 : Fact X.P := ⟨_, _, _, c82p⟩
theorem c83p : Pure X.P 274 [.agg [i 3, .sl 3 [[i 2, i 0, .sl 1 [[i 1], [i 2]]], [i 3, i 0, .sl 1 [[i 0], [i 3]]]], i 4], i 6] (.tup [t1, nI]) := Xrun [] (by kernel_rfl) (by kernel_rfl) (by kernel_rfl)
noncomputable def c83 : Fact X.P := ⟨_, _, _, c83p⟩
noncomputable def c84 : Fact X.P := ⟨96, [.sl 1 [[st [97]], [st [99]]], st [32]], st [97, 32, 99], Xjoin [[97], [99]] [32] [97, 32, 99] (by decide) (by decide) (by kernel_rfl)⟩
theorem c85p : Pure X.P 274 [.agg [i 3, .sl 3 [[i 2, i 0, .sl 1 [[i 1], [i 2]]], [i 3, i 0, .sl 1 [[i 0], [i 3]]]], i 4], i 0] (.tup [t0, nI]) := Xrun [] (by kernel_rfl) (by kernel_rfl) (by kernel_rfl)
noncomputable def c85 : Fact X.P := ⟨_, _, _, c85p⟩
def v2 : AV := .sl 1 [[st [43, 109, 111, 100, 101, 108, 32, 109, 59, 32, 101, 118, 101, 110, 116, 32, 97, 32, 112, 32, 49, 47, 52, 59, 32, 101, 118, 101, 110, 116, 32, 98, 32, 112, 32, 49, 47, 50, 59, 32, 101, 118, 101, 110, 116, 32, 99, 32, 112, 32, 49, 47, 50, 59]], [st [43, 103, 97, 116, 101, 32, 103, 32, 97, 110, 100, 32, 98, 32, 99, 59, 32, 103, 97, 116, 101, 32, 116, 32, 111, 114, 32, 97, 32, 103, 59, 32, 116, 111, 112, 32, 116, 59]], [st [108, 111, 97, 100]], [st [99, 117, 116, 115]], [st [112, 114, 111, 98]], [st [119, 97, 116, 99, 104]], [st [102, 97, 105, 108, 32, 98]], [st [115, 116, 97, 116, 117, 115]]]
def v3 : AV := .sl 1 [[st [111, 107]], [st [111, 107]], [st [111, 107]], [st [97, 10, 98, 32, 99]], [st [55, 47, 49, 54]], [st [111, 107]], [st [116, 111, 112, 32, 48]], [st [102, 97, 105, 108, 101, 100, 32, 98, 10, 116, 111, 112, 32, 48, 10, 99, 114, 105, 116, 105, 99, 97, 108, 32, 97, 32, 99, 10, 104, 101, 97, 108, 105, 110, 103, 32, 45]]]
theorem c86p : Pure X.P 7 [v2] (v3) := Xrun [c41, c37, c38, c39, c40, c43, c44, c50, c52, c53, c54, c55, c56, c57, c47, c76, c77, c78, c79, c80, c81, c82, c83, c84, c85] (by kernel_rfl) (by kernel_rfl) (by kernel_rfl)
noncomputable def c86 : Fact X.P := ⟨_, _, _, c86p⟩
end Go.Am.X
