/-
  Known calls of the law's run, each a closed run by the kernel (6).
-/
import Derived.Test.YtdkbkilgmmenkaaGreatDoorF5
set_option linter.all false
namespace Go.Am.X
set_option maxRecDepth 100000
theorem c48p : Pure X.P 172 [.agg [.sl 1 [[i 0], [i 1], [i 2]], .sl 3 [[i 2, i 0, i 1], [i 1, i 0, i 2], [i 0, i 3, i 1]], i 4]] (nI) := Xrun [] (by kernel_rfl) (by kernel_rfl) (by kernel_rfl)
noncomputable def c48 : Fact X.P := ⟨_, _, _, c48p⟩
theorem c49p : Pure X.P 259 [.agg [.sl 1 [[i 0], [i 1], [i 2]], .sl 3 [[i 2, i 0, i 1], [i 1, i 0, i 2], [i 0, i 3, i 1]], i 4]] (.tup [.agg [.sl 3 [[i 2, i 0, i 1], [i 1, i 0, i 2], [i 0, i 3, i 1]], i 4], nI]) := Xrun [c48] (by kernel_rfl) (by kernel_rfl) (by kernel_rfl)
noncomputable def c49 : Fact X.P := ⟨_, _, _, c49p⟩
end Go.Am.X
