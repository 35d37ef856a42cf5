/-
  Known calls of the law's run, each a closed run by the kernel (5).
-/
import Derived.Test.YtdkbkilgmmenkaaGreatDoorF4
set_option linter.all false
namespace Go.Am.X
set_option maxRecDepth 100000
theorem c42p : Pure X.P 319 [.agg [st [109], st [116], v1, .nil, .sl 7 [[st [103], i 0, i 0, .sl 1 [[st [98]], [st [99]]], t0, .nil, .nil], [st [116], i 1, i 0, .sl 1 [[st [97]], [st [103]]], t0, .nil, .nil]], .nil, .nil, .nil], i (-1), st [116]] (.tup [i 2, i (-1), i 1, nI]) := Xrun [c37, c38, c39, c40] (by kernel_rfl) (by kernel_rfl) (by kernel_rfl)
noncomputable def c42 : Fact X.P := ⟨_, _, _, c42p⟩
theorem c43p : Pure X.P 178 [.agg [st [109], st [116], v1, .nil, .sl 7 [[st [103], i 0, i 0, .sl 1 [[st [98]], [st [99]]], t0, .nil, .nil], [st [116], i 1, i 0, .sl 1 [[st [97]], [st [103]]], t0, .nil, .nil]], .nil, .nil, .nil], st [116]] (.tup [.agg [i 3, .sl 3 [[i 2, i 0, .sl 1 [[i 1], [i 2]]], [i 3, i 0, .sl 1 [[i 0], [i 3]]]], i 4], nI]) := Xrun [c42] (by kernel_rfl) (by kernel_rfl) (by kernel_rfl)
noncomputable def c43 : Fact X.P := ⟨_, _, _, c43p⟩
theorem c44p : Pure X.P 124 [.agg [i 3, .sl 3 [[i 2, i 0, .sl 1 [[i 1], [i 2]]], [i 3, i 0, .sl 1 [[i 0], [i 3]]]], i 4]] (.tup [.sl 1 [[i 0], [i 1], [i 2]], nI]) := Xrun [] (by kernel_rfl) (by kernel_rfl) (by kernel_rfl)
noncomputable def c44 : Fact X.P := ⟨_, _, _, c44p⟩
theorem c45p : Pure X.P 128 [.agg [i 3, .sl 3 [[i 2, i 0, .sl 1 [[i 1], [i 2]]], [i 3, i 0, .sl 1 [[i 0], [i 3]]]], i 4]] (.tup [.agg [i 3, .sl 3 [[i 2, i 0, .sl 1 [[i 1], [i 2]]], [i 3, i 0, .sl 1 [[i 0], [i 3]]]], i 4], nI]) := Xrun [] (by kernel_rfl) (by kernel_rfl) (by kernel_rfl)
noncomputable def c45 : Fact X.P := ⟨_, _, _, c45p⟩
theorem c46p : Pure X.P 151 [.agg [i 3, .sl 3 [[i 2, i 0, .sl 1 [[i 1], [i 2]]], [i 3, i 0, .sl 1 [[i 0], [i 3]]]], i 4]] (.tup [i 2, i 4, nI]) := Xrun [] (by kernel_rfl) (by kernel_rfl) (by kernel_rfl)
noncomputable def c46 : Fact X.P := ⟨_, _, _, c46p⟩
theorem c47p : Pure X.P 68 [.agg [i 3, .sl 3 [[i 2, i 0, .sl 1 [[i 1], [i 2]]], [i 3, i 0, .sl 1 [[i 0], [i 3]]]], i 4], .sl 1 [[i 0], [i 1], [i 2]]] (.tup [.agg [.sl 1 [[i 0], [i 1], [i 2]], .sl 3 [[i 2, i 0, i 1], [i 1, i 0, i 2], [i 0, i 3, i 1]], i 4], nI]) := Xrun [c46, c45] (by kernel_rfl) (by kernel_rfl) (by kernel_rfl)
noncomputable def c47 : Fact X.P := ⟨_, _, _, c47p⟩
end Go.Am.X
