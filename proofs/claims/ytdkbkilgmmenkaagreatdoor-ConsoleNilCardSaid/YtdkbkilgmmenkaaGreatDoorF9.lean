/-
  Known calls of the law's run, each a closed run by the kernel (9).
-/
import Derived.Test.YtdkbkilgmmenkaaGreatDoorF8
set_option linter.all false
namespace Go.Am.X
set_option maxRecDepth 100000
theorem c68p : Pure X.P 185 [.agg [t0, .sl 1 [[w 1]], .sl 1 [[w 1]]], .agg [t1, .sl 1 [[w 1]], .sl 1 [[w 4]]]] (.agg [t0, .sl 1 [[w 3]], .sl 1 [[w 4]]]) := Xrun [c19, c26, c67] (by kernel_rfl) (by kernel_rfl) (by kernel_rfl)
noncomputable def c68 : Fact X.P := ⟨_, _, _, c68p⟩
theorem c69p : Pure X.P 434 [.sl 1 [[w 3]], .sl 1 [[w 16]]] (.sl 1 [[w 1]]) := Xrun [] (by kernel_rfl) (by kernel_rfl) (by kernel_rfl)
noncomputable def c69 : Fact X.P := ⟨_, _, _, c69p⟩
theorem c70p : Pure X.P 305 [t0, .sl 1 [[w 3]], .sl 1 [[w 16]]] (.agg [t0, .sl 1 [[w 3]], .sl 1 [[w 16]]]) := Xrun [c69] (by kernel_rfl) (by kernel_rfl) (by kernel_rfl)
noncomputable def c70 : Fact X.P := ⟨_, _, _, c70p⟩
theorem c71p : Pure X.P 163 [.agg [t0, .sl 1 [[w 3]], .sl 1 [[w 4]]], .agg [t0, .sl 1 [[w 1]], .sl 1 [[w 4]]]] (.agg [t0, .sl 1 [[w 3]], .sl 1 [[w 16]]]) := Xrun [c66, c26, c70] (by kernel_rfl) (by kernel_rfl) (by kernel_rfl)
noncomputable def c71 : Fact X.P := ⟨_, _, _, c71p⟩
theorem c72p : Pure X.P 163 [.agg [t0, .sl 1 [[w 1]], .sl 1 [[w 4]]], .agg [t0, .sl 1 [[w 1]], .sl 1 [[w 1]]]] (.agg [t0, .sl 1 [[w 1]], .sl 1 [[w 4]]]) := Xrun [c26, c19, c27] (by kernel_rfl) (by kernel_rfl) (by kernel_rfl)
noncomputable def c72 : Fact X.P := ⟨_, _, _, c72p⟩
theorem c73p : Pure X.P 434 [.sl 1 [[w 28]], .sl 1 [[w 64]]] (.sl 1 [[w 4]]) := Xrun [] (by kernel_rfl) (by kernel_rfl) (by kernel_rfl)
noncomputable def c73 : Fact X.P := ⟨_, _, _, c73p⟩
end Go.Am.X
