/-
  Known calls of the law's run, each a closed run by the kernel (2).
-/
import Derived.Test.YtdkbkilgmmenkaaGreatDoorF1
set_option linter.all false
namespace Go.Am.X
set_option maxRecDepth 100000
theorem c23p : Pure X.P 285 [.agg [t0, .sl 1 [[w 4]], .sl 1 [[w 1]]]] (t1) := Xrun [] (by kernel_rfl) (by kernel_rfl) (by kernel_rfl)
noncomputable def c23 : Fact X.P := ⟨_, _, _, c23p⟩
theorem c24p : Pure X.P 185 [.agg [t0, .nil, .nil], .agg [t0, .sl 1 [[w 4]], .sl 1 [[w 1]]]] (.agg [t0, .sl 1 [[w 4]], .sl 1 [[w 1]]]) := Xrun [c23, c22] (by kernel_rfl) (by kernel_rfl) (by kernel_rfl)
noncomputable def c24 : Fact X.P := ⟨_, _, _, c24p⟩
theorem c25p : Pure X.P 623 [st [52]] (.agg [t0, .sl 1 [[w 4]], .sl 1 [[w 1]]]) := Xrun [c16, c17, c22, c24] (by kernel_rfl) (by kernel_rfl) (by kernel_rfl)
noncomputable def c25 : Fact X.P := ⟨_, _, _, c25p⟩
theorem c26p : Pure X.P 434 [.sl 1 [[w 1]], .sl 1 [[w 4]]] (.sl 1 [[w 1]]) := Xrun [] (by kernel_rfl) (by kernel_rfl) (by kernel_rfl)
noncomputable def c26 : Fact X.P := ⟨_, _, _, c26p⟩
theorem c27p : Pure X.P 305 [t0, .sl 1 [[w 1]], .sl 1 [[w 4]]] (.agg [t0, .sl 1 [[w 1]], .sl 1 [[w 4]]]) := Xrun [c26] (by kernel_rfl) (by kernel_rfl) (by kernel_rfl)
noncomputable def c27 : Fact X.P := ⟨_, _, _, c27p⟩
theorem c28p : Pure X.P 499 [st [49, 47, 52]] (.tup [.agg [t0, .sl 1 [[w 1]], .sl 1 [[w 4]]], nI]) := Xrun [c15, c21, c25, c19, c23, c27] (by kernel_rfl) (by kernel_rfl) (by kernel_rfl)
noncomputable def c28 : Fact X.P := ⟨_, _, _, c28p⟩
noncomputable def c29 : Fact X.P := ⟨679, [st [49, 47, 50], .val (.int .u8 47)], i 1, ext_pure (vs := [S [49, 47, 50], (.int .u8 47)]) (v := .int .i64 1) fun _ => by kernel_rfl⟩
theorem c30p : Pure X.P 305 [t0, .sl 1 [[w 2]], .sl 1 [[w 1]]] (.agg [t0, .sl 1 [[w 2]], .sl 1 [[w 1]]]) := Xrun [] (by kernel_rfl) (by kernel_rfl) (by kernel_rfl)
noncomputable def c30 : Fact X.P := ⟨_, _, _, c30p⟩
theorem c31p : Pure X.P 285 [.agg [t0, .sl 1 [[w 2]], .sl 1 [[w 1]]]] (t1) := Xrun [] (by kernel_rfl) (by kernel_rfl) (by kernel_rfl)
noncomputable def c31 : Fact X.P := ⟨_, _, _, c31p⟩
end Go.Am.X
