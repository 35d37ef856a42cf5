/-
  Known calls of the law's run, each a closed run by the kernel (1).
-/
import Derived.Test.YtdkbkilgmmenkaaGreatDoorF0
set_option linter.all false
namespace Go.Am.X
set_option maxRecDepth 100000
noncomputable def c15 : Fact X.P := ⟨679, [st [49, 47, 52], .val (.int .u8 47)], i 1, ext_pure (vs := [S [49, 47, 52], (.int .u8 47)]) (v := .int .i64 1) fun _ => by kernel_rfl⟩
theorem c16p : Pure X.P 305 [t0, .sl 1 [[w 10]], .sl 1 [[w 1]]] (.agg [t0, .sl 1 [[w 10]], .sl 1 [[w 1]]]) := Xrun [] (by kernel_rfl) (by kernel_rfl) (by kernel_rfl)
noncomputable def c16 : Fact X.P := ⟨_, _, _, c16p⟩
theorem c17p : Pure X.P 285 [.agg [t0, .sl 1 [[w 10]], .sl 1 [[w 1]]]] (t1) := Xrun [] (by kernel_rfl) (by kernel_rfl) (by kernel_rfl)
noncomputable def c17 : Fact X.P := ⟨_, _, _, c17p⟩
theorem c18p : Pure X.P 305 [t0, .sl 1 [[w 1]], .sl 1 [[w 1]]] (.agg [t0, .sl 1 [[w 1]], .sl 1 [[w 1]]]) := Xrun [] (by kernel_rfl) (by kernel_rfl) (by kernel_rfl)
noncomputable def c18 : Fact X.P := ⟨_, _, _, c18p⟩
theorem c19p : Pure X.P 285 [.agg [t0, .sl 1 [[w 1]], .sl 1 [[w 1]]]] (t1) := Xrun [] (by kernel_rfl) (by kernel_rfl) (by kernel_rfl)
noncomputable def c19 : Fact X.P := ⟨_, _, _, c19p⟩
theorem c20p : Pure X.P 185 [.agg [t0, .nil, .nil], .agg [t0, .sl 1 [[w 1]], .sl 1 [[w 1]]]] (.agg [t0, .sl 1 [[w 1]], .sl 1 [[w 1]]]) := Xrun [c19, c18] (by kernel_rfl) (by kernel_rfl) (by kernel_rfl)
noncomputable def c20 : Fact X.P := ⟨_, _, _, c20p⟩
theorem c21p : Pure X.P 623 [st [49]] (.agg [t0, .sl 1 [[w 1]], .sl 1 [[w 1]]]) := Xrun [c16, c17, c18, c20] (by kernel_rfl) (by kernel_rfl) (by kernel_rfl)
noncomputable def c21 : Fact X.P := ⟨_, _, _, c21p⟩
theorem c22p : Pure X.P 305 [t0, .sl 1 [[w 4]], .sl 1 [[w 1]]] (.agg [t0, .sl 1 [[w 4]], .sl 1 [[w 1]]]) := Xrun [] (by kernel_rfl) (by kernel_rfl) (by kernel_rfl)
noncomputable def c22 : Fact X.P := ⟨_, _, _, c22p⟩
end Go.Am.X
