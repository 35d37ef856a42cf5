/-
  The row's tie: what the row lists is what the program's text lays (the given tie's facts, one by one).
-/
import Derived.Test.YtdkbkilgmmenkaaGreatDoorRows
import Derived.LaidByTextLater
import Derived.LaidOnce
import Derived.SevenTiedAt
namespace Go.Proofs.YtdkbkilgmmenkaaGreatDoor
open Go
abbrev laid4 : List (String × DataW Unit) := [("internal/strconv.uint64pow10", Rows.laid_internal_strconv_uint64pow10), ("math/bits.deBruijn32tab", Rows.laid_math_bits_deBruijn32tab), ("math/bits.deBruijn64tab", Rows.laid_math_bits_deBruijn64tab), ("unicode/utf8.acceptRanges", Rows.laid_unicode_utf8_acceptRanges)]
theorem tie_w1 : Tryz.prog.worded (varsWordLater true) = true := by kernel_rfl
theorem tie_w2 : Tryz.prog.worded (varsWordLater !true) = false := by kernel_rfl
theorem tie_w3 : Tryz.prog.worded rootWordLater = true := by kernel_rfl
theorem tie_k : laid4.map (fun x => Tryz.prog.kindOfLater x.1) = [LaidKind.data, .data, .data, .data].map some := by kernel_rfl
theorem tie_g : (Tryz.prog.funcNamed "gosem.cut.vars").isSome = true := by kernel_rfl
theorem tie_n : varsNamedLaterB Tryz.prog (varsId Tryz.prog) laid4 = true := by kernel_rfl
theorem tie_r : ∀ os tape, doorLeaves Tryz.prog 400 8 1000 laid4 os tape = some (laid4.filter fun x => x.2.handleName?.isNone, (funcsListed laid4).map (·.2.funcsOut)) := fun _ _ => by kernel_rfl
theorem tie4 : Tryz.prog.laidByTextLater laid4 [.data, .data, .data, .data] true :=
  Program.laidByTextLater_by_one 400 8 1000 tie_w1 tie_w2 tie_w3 tie_k tie_g tie_n tie_r
theorem pin_first : Tryz.pinned.checked.prog.pinnedFits "unicode/utf8.first" = true := by kernel_rfl
theorem pin_kind : Tryz.pinned.checked.prog.headLifts.contains "ownunsafe" = false := by kernel_rfl
theorem fits5 : Tryz.pinned.checked.prog.listedFits [("internal/strconv.uint64pow10", Rows.laid_internal_strconv_uint64pow10), ("math/bits.deBruijn32tab", Rows.laid_math_bits_deBruijn32tab), ("math/bits.deBruijn64tab", Rows.laid_math_bits_deBruijn64tab), ("unicode/utf8.first", Rows.laid_unicode_utf8_first), ("unicode/utf8.acceptRanges", Rows.laid_unicode_utf8_acceptRanges)] = true := by
  unfold Program.listedFits
  rw [pin_kind]
  kernel_rfl
theorem row_tie : Rows.consoleNilRow.laidByTextAt .later Tryz.pinned [.data, .data, .data, .pinned, .data] true :=
  OpenClaim.laidByTextAt_pinned rfl rfl tie4 rfl rfl rfl rfl (fun y hy _e => by
    simp only [Rows.consoleNilRow, List.zip_cons_cons, List.zip_nil_right, List.mem_cons, List.mem_nil_iff, or_false] at hy
    rcases hy with rfl | rfl | rfl | rfl | rfl
    · cases _e
    · cases _e
    · cases _e
    · exact ⟨pin_first, by kernel_rfl⟩
    · cases _e) fits5
end Go.Proofs.YtdkbkilgmmenkaaGreatDoor
