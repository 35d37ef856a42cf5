/-
  Known calls of the law's run, each a closed run by the kernel (12).
-/
import Derived.Test.YtdkbkilgmmenkaaGreatDoorF11
set_option linter.all false
namespace Go.Am.X
set_option maxRecDepth 100000
theorem c87p : Pure X.P 4 [] (t1) := Xrun [c86] (by kernel_rfl) (by kernel_rfl) (by kernel_rfl)
noncomputable def c87 : Fact X.P := ⟨_, _, _, c87p⟩
end Go.Am.X
