/-
  Known calls of the law's run, each a closed run by the kernel (0).
-/
import Derived.Test.YtdkbkilgmmenkaaGreatDoorEnv
set_option linter.all false
namespace Go.Am.X
set_option maxRecDepth 100000
noncomputable def c0 : Fact X.P := ⟨679, [st [32, 9, 10, 13], .val (.int .u8 109)], i (-1), ext_pure (vs := [S [32, 9, 10, 13], (.int .u8 109)]) (v := .int .i64 (-1)) fun _ => by kernel_rfl⟩
noncomputable def c1 : Fact X.P := ⟨679, [st [32, 9, 10, 13], .val (.int .u8 32)], i 0, ext_pure (vs := [S [32, 9, 10, 13], (.int .u8 32)]) (v := .int .i64 0) fun _ => by kernel_rfl⟩
noncomputable def c2 : Fact X.P := ⟨679, [st [32, 9, 10, 13], .val (.int .u8 59)], i (-1), ext_pure (vs := [S [32, 9, 10, 13], (.int .u8 59)]) (v := .int .i64 (-1)) fun _ => by kernel_rfl⟩
noncomputable def c3 : Fact X.P := ⟨679, [st [123, 125, 59, 58, 64], .val (.int .u8 59)], i 2, ext_pure (vs := [S [123, 125, 59, 58, 64], (.int .u8 59)]) (v := .int .i64 2) fun _ => by kernel_rfl⟩
noncomputable def c4 : Fact X.P := ⟨679, [st [32, 9, 10, 13], .val (.int .u8 101)], i (-1), ext_pure (vs := [S [32, 9, 10, 13], (.int .u8 101)]) (v := .int .i64 (-1)) fun _ => by kernel_rfl⟩
noncomputable def c5 : Fact X.P := ⟨679, [st [32, 9, 10, 13], .val (.int .u8 97)], i (-1), ext_pure (vs := [S [32, 9, 10, 13], (.int .u8 97)]) (v := .int .i64 (-1)) fun _ => by kernel_rfl⟩
noncomputable def c6 : Fact X.P := ⟨679, [st [32, 9, 10, 13], .val (.int .u8 112)], i (-1), ext_pure (vs := [S [32, 9, 10, 13], (.int .u8 112)]) (v := .int .i64 (-1)) fun _ => by kernel_rfl⟩
noncomputable def c7 : Fact X.P := ⟨679, [st [32, 9, 10, 13], .val (.int .u8 49)], i (-1), ext_pure (vs := [S [32, 9, 10, 13], (.int .u8 49)]) (v := .int .i64 (-1)) fun _ => by kernel_rfl⟩
noncomputable def c8 : Fact X.P := ⟨679, [st [32, 9, 10, 13], .val (.int .u8 98)], i (-1), ext_pure (vs := [S [32, 9, 10, 13], (.int .u8 98)]) (v := .int .i64 (-1)) fun _ => by kernel_rfl⟩
noncomputable def c9 : Fact X.P := ⟨679, [st [32, 9, 10, 13], .val (.int .u8 99)], i (-1), ext_pure (vs := [S [32, 9, 10, 13], (.int .u8 99)]) (v := .int .i64 (-1)) fun _ => by kernel_rfl⟩
noncomputable def c10 : Fact X.P := ⟨679, [st [32, 9, 10, 13], .val (.int .u8 10)], i 2, ext_pure (vs := [S [32, 9, 10, 13], (.int .u8 10)]) (v := .int .i64 2) fun _ => by kernel_rfl⟩
noncomputable def c11 : Fact X.P := ⟨679, [st [32, 9, 10, 13], .val (.int .u8 103)], i (-1), ext_pure (vs := [S [32, 9, 10, 13], (.int .u8 103)]) (v := .int .i64 (-1)) fun _ => by kernel_rfl⟩
noncomputable def c12 : Fact X.P := ⟨679, [st [32, 9, 10, 13], .val (.int .u8 116)], i (-1), ext_pure (vs := [S [32, 9, 10, 13], (.int .u8 116)]) (v := .int .i64 (-1)) fun _ => by kernel_rfl⟩
noncomputable def c13 : Fact X.P := ⟨679, [st [32, 9, 10, 13], .val (.int .u8 111)], i (-1), ext_pure (vs := [S [32, 9, 10, 13], (.int .u8 111)]) (v := .int .i64 (-1)) fun _ => by kernel_rfl⟩
def v0 : AV := .sl 5 [[i 0, st [109, 111, 100, 101, 108], i 0, i 1, i 1], [i 0, st [109], i 6, i 1, i 7], [i 2, st [59], i 7, i 1, i 8], [i 0, st [101, 118, 101, 110, 116], i 9, i 1, i 10], [i 0, st [97], i 15, i 1, i 16], [i 0, st [112], i 17, i 1, i 18], [i 1, st [49, 47, 52], i 19, i 1, i 20], [i 2, st [59], i 22, i 1, i 23], [i 0, st [101, 118, 101, 110, 116], i 24, i 1, i 25], [i 0, st [98], i 30, i 1, i 31], [i 0, st [112], i 32, i 1, i 33], [i 1, st [49, 47, 50], i 34, i 1, i 35], [i 2, st [59], i 37, i 1, i 38], [i 0, st [101, 118, 101, 110, 116], i 39, i 1, i 40], [i 0, st [99], i 45, i 1, i 46], [i 0, st [112], i 47, i 1, i 48], [i 1, st [49, 47, 50], i 49, i 1, i 50], [i 2, st [59], i 52, i 1, i 53], [i 0, st [103, 97, 116, 101], i 54, i 2, i 1], [i 0, st [103], i 59, i 2, i 6], [i 0, st [97, 110, 100], i 61, i 2, i 8], [i 0, st [98], i 65, i 2, i 12], [i 0, st [99], i 67, i 2, i 14], [i 2, st [59], i 68, i 2, i 15], [i 0, st [103, 97, 116, 101], i 70, i 2, i 17], [i 0, st [116], i 75, i 2, i 22], [i 0, st [111, 114], i 77, i 2, i 24], [i 0, st [97], i 80, i 2, i 27], [i 0, st [103], i 82, i 2, i 29], [i 2, st [59], i 83, i 2, i 30], [i 0, st [116, 111, 112], i 85, i 2, i 32], [i 0, st [116], i 89, i 2, i 36], [i 2, st [59], i 90, i 2, i 37]]
theorem c14p : Pure X.P 212 [st [109, 111, 100, 101, 108, 32, 109, 59, 32, 101, 118, 101, 110, 116, 32, 97, 32, 112, 32, 49, 47, 52, 59, 32, 101, 118, 101, 110, 116, 32, 98, 32, 112, 32, 49, 47, 50, 59, 32, 101, 118, 101, 110, 116, 32, 99, 32, 112, 32, 49, 47, 50, 59, 10, 103, 97, 116, 101, 32, 103, 32, 97, 110, 100, 32, 98, 32, 99, 59, 32, 103, 97, 116, 101, 32, 116, 32, 111, 114, 32, 97, 32, 103, 59, 32, 116, 111, 112, 32, 116, 59, 10]] (.tup [v0, nI]) := Xrun [c0, c1, c2, c3, c4, c5, c6, c7, c8, c9, c10, c11, c12, c13] (by kernel_rfl) (by kernel_rfl) (by kernel_rfl)
noncomputable def c14 : Fact X.P := ⟨_, _, _, c14p⟩
end Go.Am.X
