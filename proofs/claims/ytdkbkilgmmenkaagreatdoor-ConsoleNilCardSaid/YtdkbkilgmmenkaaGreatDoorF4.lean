/-
  Known calls of the law's run, each a closed run by the kernel (4).
-/
import Derived.Test.YtdkbkilgmmenkaaGreatDoorF3
set_option linter.all false
namespace Go.Am.X
set_option maxRecDepth 100000
theorem c38p : Pure X.P 225 [.agg [st [109], st [116], v1, .nil, .sl 7 [[st [103], i 0, i 0, .sl 1 [[st [98]], [st [99]]], t0, .nil, .nil], [st [116], i 1, i 0, .sl 1 [[st [97]], [st [103]]], t0, .nil, .nil]], .nil, .nil, .nil], i (-1)] (nI) := Xrun [] (by kernel_rfl) (by kernel_rfl) (by kernel_rfl)
noncomputable def c38 : Fact X.P := ⟨_, _, _, c38p⟩
theorem c39p : Pure X.P 226 [.agg [st [109], st [116], v1, .nil, .sl 7 [[st [103], i 0, i 0, .sl 1 [[st [98]], [st [99]]], t0, .nil, .nil], [st [116], i 1, i 0, .sl 1 [[st [97]], [st [103]]], t0, .nil, .nil]], .nil, .nil, .nil], i (-1), .nil] (.tup [.nil, nI]) := Xrun [] (by kernel_rfl) (by kernel_rfl) (by kernel_rfl)
noncomputable def c39 : Fact X.P := ⟨_, _, _, c39p⟩
theorem c40p : Pure X.P 230 [.agg [st [109], st [116], v1, .nil, .sl 7 [[st [103], i 0, i 0, .sl 1 [[st [98]], [st [99]]], t0, .nil, .nil], [st [116], i 1, i 0, .sl 1 [[st [97]], [st [103]]], t0, .nil, .nil]], .nil, .nil, .nil]] (t0) := Xrun [] (by kernel_rfl) (by kernel_rfl) (by kernel_rfl)
noncomputable def c40 : Fact X.P := ⟨_, _, _, c40p⟩
theorem c41p : Pure X.P 49 [st [109, 111, 100, 101, 108, 32, 109, 59, 32, 101, 118, 101, 110, 116, 32, 97, 32, 112, 32, 49, 47, 52, 59, 32, 101, 118, 101, 110, 116, 32, 98, 32, 112, 32, 49, 47, 50, 59, 32, 101, 118, 101, 110, 116, 32, 99, 32, 112, 32, 49, 47, 50, 59, 10, 103, 97, 116, 101, 32, 103, 32, 97, 110, 100, 32, 98, 32, 99, 59, 32, 103, 97, 116, 101, 32, 116, 32, 111, 114, 32, 97, 32, 103, 59, 32, 116, 111, 112, 32, 116, 59, 10]] (.tup [.agg [st [109], st [116], v1, .nil, .sl 7 [[st [103], i 0, i 0, .sl 1 [[st [98]], [st [99]]], t0, .nil, .nil], [st [116], i 1, i 0, .sl 1 [[st [97]], [st [103]]], t0, .nil, .nil]], .nil, .nil, .nil], nI]) := Xrun [c14, c28, c36, c37, c38, c39, c40] (by kernel_rfl) (by kernel_rfl) (by kernel_rfl)
noncomputable def c41 : Fact X.P := ⟨_, _, _, c41p⟩
end Go.Am.X
