/-
  Known calls of the law's run, each a closed run by the kernel (8).
-/
import Derived.Test.YtdkbkilgmmenkaaGreatDoorF7
set_option linter.all false
namespace Go.Am.X
set_option maxRecDepth 100000
theorem c60p : Pure X.P 163 [.agg [t0, .sl 1 [[w 1]], .sl 1 [[w 2]]], .agg [t0, .nil, .nil]] (.agg [t0, .nil, .nil]) := Xrun [c34] (by kernel_rfl) (by kernel_rfl) (by kernel_rfl)
noncomputable def c60 : Fact X.P := ⟨_, _, _, c60p⟩
theorem c61p : Pure X.P 163 [.agg [t0, .sl 1 [[w 1]], .sl 1 [[w 2]]], .agg [t0, .sl 1 [[w 1]], .sl 1 [[w 1]]]] (.agg [t0, .sl 1 [[w 1]], .sl 1 [[w 2]]]) := Xrun [c34, c19, c35] (by kernel_rfl) (by kernel_rfl) (by kernel_rfl)
noncomputable def c61 : Fact X.P := ⟨_, _, _, c61p⟩
theorem c62p : Pure X.P 185 [.agg [t0, .nil, .nil], .agg [t0, .sl 1 [[w 1]], .sl 1 [[w 2]]]] (.agg [t0, .sl 1 [[w 1]], .sl 1 [[w 2]]]) := Xrun [c34, c35] (by kernel_rfl) (by kernel_rfl) (by kernel_rfl)
noncomputable def c62 : Fact X.P := ⟨_, _, _, c62p⟩
theorem c63p : Pure X.P 163 [.agg [t0, .sl 1 [[w 1]], .sl 1 [[w 2]]], .agg [t0, .sl 1 [[w 1]], .sl 1 [[w 2]]]] (.agg [t0, .sl 1 [[w 1]], .sl 1 [[w 4]]]) := Xrun [c34, c27] (by kernel_rfl) (by kernel_rfl) (by kernel_rfl)
noncomputable def c63 : Fact X.P := ⟨_, _, _, c63p⟩
theorem c64p : Pure X.P 185 [.agg [t0, .nil, .nil], .agg [t0, .sl 1 [[w 1]], .sl 1 [[w 4]]]] (.agg [t0, .sl 1 [[w 1]], .sl 1 [[w 4]]]) := Xrun [c26, c27] (by kernel_rfl) (by kernel_rfl) (by kernel_rfl)
noncomputable def c64 : Fact X.P := ⟨_, _, _, c64p⟩
theorem c65p : Pure X.P 305 [t1, .sl 1 [[w 1]], .sl 1 [[w 4]]] (.agg [t1, .sl 1 [[w 1]], .sl 1 [[w 4]]]) := Xrun [c26] (by kernel_rfl) (by kernel_rfl) (by kernel_rfl)
noncomputable def c65 : Fact X.P := ⟨_, _, _, c65p⟩
theorem c66p : Pure X.P 434 [.sl 1 [[w 3]], .sl 1 [[w 4]]] (.sl 1 [[w 1]]) := Xrun [] (by kernel_rfl) (by kernel_rfl) (by kernel_rfl)
noncomputable def c66 : Fact X.P := ⟨_, _, _, c66p⟩
theorem c67p : Pure X.P 305 [t0, .sl 1 [[w 3]], .sl 1 [[w 4]]] (.agg [t0, .sl 1 [[w 3]], .sl 1 [[w 4]]]) := Xrun [c66] (by kernel_rfl) (by kernel_rfl) (by kernel_rfl)
noncomputable def c67 : Fact X.P := ⟨_, _, _, c67p⟩
end Go.Am.X
