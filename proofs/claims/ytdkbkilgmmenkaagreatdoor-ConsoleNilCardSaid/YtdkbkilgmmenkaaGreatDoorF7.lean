/-
  Known calls of the law's run, each a closed run by the kernel (7).
-/
import Derived.Test.YtdkbkilgmmenkaaGreatDoorF6
set_option linter.all false
namespace Go.Am.X
set_option maxRecDepth 100000
theorem c50p : Pure X.P 125 [.agg [i 3, .sl 3 [[i 2, i 0, .sl 1 [[i 1], [i 2]]], [i 3, i 0, .sl 1 [[i 0], [i 3]]]], i 4], .sl 1 [[i 0], [i 1], [i 2]]] (.tup [.agg [.sl 3 [[i 2, i 0, i 1], [i 1, i 0, i 2], [i 0, i 3, i 1]], i 4], nI]) := Xrun [c45, c47, c49] (by kernel_rfl) (by kernel_rfl) (by kernel_rfl)
noncomputable def c50 : Fact X.P := ⟨_, _, _, c50p⟩
theorem c51p : Pure X.P 417 [.agg [.sl 3 [[i 2, i 0, i 1], [i 1, i 0, i 2], [i 0, i 3, i 1]], i 4]] (nI) := Xrun [] (by kernel_rfl) (by kernel_rfl) (by kernel_rfl)
noncomputable def c51 : Fact X.P := ⟨_, _, _, c51p⟩
theorem c52p : Pure X.P 126 [.agg [.sl 3 [[i 2, i 0, i 1], [i 1, i 0, i 2], [i 0, i 3, i 1]], i 4]] (.tup [.sl 1 [[i 1], [i 6]], nI]) := Xrun [c51] (by kernel_rfl) (by kernel_rfl) (by kernel_rfl)
noncomputable def c52 : Fact X.P := ⟨_, _, _, c52p⟩
noncomputable def c53 : Fact X.P := ⟨96, [.sl 1 [[st [97]]], st [32]], st [97], Xjoin [[97]] [32] [97] (by decide) (by decide) (by kernel_rfl)⟩
noncomputable def c54 : Fact X.P := ⟨96, [.sl 1 [[st [98]], [st [99]]], st [32]], st [98, 32, 99], Xjoin [[98], [99]] [32] [98, 32, 99] (by decide) (by decide) (by kernel_rfl)⟩
noncomputable def c55 : Fact X.P := ⟨96, [.sl 1 [[st [97]], [st [98, 32, 99]]], st [10]], st [97, 10, 98, 32, 99], Xjoin [[97], [98, 32, 99]] [10] [97, 10, 98, 32, 99] (by decide) (by decide) (by kernel_rfl)⟩
theorem c56p : Pure X.P 133 [.agg [st [109], st [116], v1, .nil, .sl 7 [[st [103], i 0, i 0, .sl 1 [[st [98]], [st [99]]], t0, .nil, .nil], [st [116], i 1, i 0, .sl 1 [[st [97]], [st [103]]], t0, .nil, .nil]], .nil, .nil, .nil]] (.tup [.sl 3 [[t0, .sl 1 [[w 1]], .sl 1 [[w 4]]], [t0, .sl 1 [[w 1]], .sl 1 [[w 2]]], [t0, .sl 1 [[w 1]], .sl 1 [[w 2]]]], nI]) := Xrun [c37, c38, c39, c40] (by kernel_rfl) (by kernel_rfl) (by kernel_rfl)
noncomputable def c56 : Fact X.P := ⟨_, _, _, c56p⟩
theorem c57p : Pure X.P 432 [.sl 3 [[t0, .sl 1 [[w 1]], .sl 1 [[w 4]]], [t0, .sl 1 [[w 1]], .sl 1 [[w 2]]], [t0, .sl 1 [[w 1]], .sl 1 [[w 2]]]], .fn 282 []] (i (-1)) := Xrun [c26, c34] (by kernel_rfl) (by kernel_rfl) (by kernel_rfl)
noncomputable def c57 : Fact X.P := ⟨_, _, _, c57p⟩
theorem c58p : Pure X.P 305 [t1, .sl 1 [[w 1]], .sl 1 [[w 2]]] (.agg [t1, .sl 1 [[w 1]], .sl 1 [[w 2]]]) := Xrun [c34] (by kernel_rfl) (by kernel_rfl) (by kernel_rfl)
noncomputable def c58 : Fact X.P := ⟨_, _, _, c58p⟩
theorem c59p : Pure X.P 185 [.agg [t0, .sl 1 [[w 1]], .sl 1 [[w 1]]], .agg [t1, .sl 1 [[w 1]], .sl 1 [[w 2]]]] (.agg [t0, .sl 1 [[w 1]], .sl 1 [[w 2]]]) := Xrun [c19, c34, c35] (by kernel_rfl) (by kernel_rfl) (by kernel_rfl)
noncomputable def c59 : Fact X.P := ⟨_, _, _, c59p⟩
end Go.Am.X
