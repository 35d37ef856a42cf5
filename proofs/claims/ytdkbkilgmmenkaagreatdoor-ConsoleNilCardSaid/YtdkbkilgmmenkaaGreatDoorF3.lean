/-
  Known calls of the law's run, each a closed run by the kernel (3).
-/
import Derived.Test.YtdkbkilgmmenkaaGreatDoorF2
set_option linter.all false
namespace Go.Am.X
set_option maxRecDepth 100000
theorem c32p : Pure X.P 185 [.agg [t0, .nil, .nil], .agg [t0, .sl 1 [[w 2]], .sl 1 [[w 1]]]] (.agg [t0, .sl 1 [[w 2]], .sl 1 [[w 1]]]) := Xrun [c31, c30] (by kernel_rfl) (by kernel_rfl) (by kernel_rfl)
noncomputable def c32 : Fact X.P := ⟨_, _, _, c32p⟩
theorem c33p : Pure X.P 623 [st [50]] (.agg [t0, .sl 1 [[w 2]], .sl 1 [[w 1]]]) := Xrun [c16, c17, c30, c32] (by kernel_rfl) (by kernel_rfl) (by kernel_rfl)
noncomputable def c33 : Fact X.P := ⟨_, _, _, c33p⟩
theorem c34p : Pure X.P 434 [.sl 1 [[w 1]], .sl 1 [[w 2]]] (.sl 1 [[w 1]]) := Xrun [] (by kernel_rfl) (by kernel_rfl) (by kernel_rfl)
noncomputable def c34 : Fact X.P := ⟨_, _, _, c34p⟩
theorem c35p : Pure X.P 305 [t0, .sl 1 [[w 1]], .sl 1 [[w 2]]] (.agg [t0, .sl 1 [[w 1]], .sl 1 [[w 2]]]) := Xrun [c34] (by kernel_rfl) (by kernel_rfl) (by kernel_rfl)
noncomputable def c35 : Fact X.P := ⟨_, _, _, c35p⟩
theorem c36p : Pure X.P 499 [st [49, 47, 50]] (.tup [.agg [t0, .sl 1 [[w 1]], .sl 1 [[w 2]]], nI]) := Xrun [c29, c21, c33, c19, c31, c35] (by kernel_rfl) (by kernel_rfl) (by kernel_rfl)
noncomputable def c36 : Fact X.P := ⟨_, _, _, c36p⟩
def v1 : AV := .sl 11 [[st [97], t0, .sl 1 [[w 1]], .sl 1 [[w 4]], t0, .nil, .nil, t0, .nil, .nil, i 0], [st [98], t0, .sl 1 [[w 1]], .sl 1 [[w 2]], t0, .nil, .nil, t0, .nil, .nil, i 0], [st [99], t0, .sl 1 [[w 1]], .sl 1 [[w 2]], t0, .nil, .nil, t0, .nil, .nil, i 0]]
theorem c37p : Pure X.P 223 [.agg [st [109], st [116], v1, .nil, .sl 7 [[st [103], i 0, i 0, .sl 1 [[st [98]], [st [99]]], t0, .nil, .nil], [st [116], i 1, i 0, .sl 1 [[st [97]], [st [103]]], t0, .nil, .nil]], .nil, .nil, .nil]] (nI) := Xrun [c26, c34] (by kernel_rfl) (by kernel_rfl) (by kernel_rfl)
noncomputable def c37 : Fact X.P := ⟨_, _, _, c37p⟩
end Go.Am.X
