/-
  No function of the program starts a goroutine; the closed facts of the card, one by one. (No statement of the claim's own is proved here.)
-/
import Derived.Test.YtdkbkilgmmenkaaGreatDoorRows
import Derived.Test.YtdkbkilgmmenkaaGreatDoorRoad
import Derived.SevenTiedAt
import GoSem.ClaimGoes
set_option linter.all false
namespace Go.Proofs.YtdkbkilgmmenkaaGreatDoor
open Go Go.Am
def noGo (fn : Func) : Bool := !fn.goes
theorem goes_of {P : Program} (h : P.funcs.toList.all noGo = true) (f : Nat) : P.goes f = false := by
  have key : ∀ fn ∈ P.funcs.toList, fn.goes = false := fun fn hf => by
    have := List.all_eq_true.1 h fn hf
    simpa [noGo] using this
  unfold Program.goes
  have e1 : P.funcs.any Func.goes = false := by
    rw [← Array.any_toList, List.any_eq_false]
    intro fn hf
    rw [key fn hf]; simp
  have e2 : ((P.closure f).any fun g => (P.funcs[g]?).any Func.goes) = false := by
    rw [List.any_eq_false]
    intro g _
    cases hg : P.funcs[g]? with
    | none => simp
    | some fn => simp [key fn (Array.mem_toList_iff.2 (Array.mem_of_getElem? hg))]
  rw [e1, e2, Bool.and_false]; rfl
theorem gon0 : ((Tryz.prog.funcs.toList.drop 0).take 100).all noGo = true := by kernel_rfl
theorem gon1 : ((Tryz.prog.funcs.toList.drop 100).take 100).all noGo = true := by kernel_rfl
theorem gon2 : ((Tryz.prog.funcs.toList.drop 200).take 100).all noGo = true := by kernel_rfl
theorem gon3 : ((Tryz.prog.funcs.toList.drop 300).take 100).all noGo = true := by kernel_rfl
theorem gon4 : ((Tryz.prog.funcs.toList.drop 400).take 100).all noGo = true := by kernel_rfl
theorem gon5 : ((Tryz.prog.funcs.toList.drop 500).take 100).all noGo = true := by kernel_rfl
theorem gon6 : ((Tryz.prog.funcs.toList.drop 600).take 100).all noGo = true := by kernel_rfl
theorem gon7 : ((Tryz.prog.funcs.toList.drop 700).take 100).all noGo = true := by kernel_rfl
theorem gonend : (Tryz.prog.funcs.toList.drop 800).all noGo = true := by kernel_rfl
theorem gons : Tryz.prog.funcs.toList.all noGo = true := drop_zero_all _ _ (drop_all' noGo Tryz.prog.funcs.toList 0 100 100 rfl gon0 (drop_all' noGo Tryz.prog.funcs.toList 100 100 200 rfl gon1 (drop_all' noGo Tryz.prog.funcs.toList 200 100 300 rfl gon2 (drop_all' noGo Tryz.prog.funcs.toList 300 100 400 rfl gon3 (drop_all' noGo Tryz.prog.funcs.toList 400 100 500 rfl gon4 (drop_all' noGo Tryz.prog.funcs.toList 500 100 600 rfl gon5 (drop_all' noGo Tryz.prog.funcs.toList 600 100 700 rfl gon6 (drop_all' noGo Tryz.prog.funcs.toList 700 100 800 rfl gon7 gonend))))))))
theorem cw : Rows.consoleNilRow.wfByText (OpenSpec.ofChange Rows.consoleNilSpec) = true := by kernel_rfl
theorem cm : Tryz.pinned.checked.prog.mainIs = some (true, "97405b66a0a63e0c82abf3ae34a08b1eaf56f9376babd5546e1a079606946301".toList) := by kernel_rfl
theorem cn : Tryz.prog.funcNamed Rows.consoleNilRow.func = some 3 := by kernel_rfl
theorem cl : false = Tryz.prog.looks [] := by kernel_rfl
theorem ca : ([9].all fun u => !Tryz.prog.wantsStandIn u) = true := by kernel_rfl
theorem pin_prog : Tryz.pinned.checked.prog = Tryz.prog := rfl
theorem row_start : Rows.consoleNilRow.start = .entering := rfl
theorem goes_row {P : Program} {c : OpenClaim} {f : Nat} (hs : c.start = .entering) (hn : P.funcNamed c.func = some f) (hg : P.goes f = false) : false = c.goesBy P := by
  unfold OpenClaim.goesBy Program.goesAt Program.goesFrom
  rw [hn, hs]
  simp [hg]
theorem cg : false = Rows.consoleNilRow.goesBy Tryz.pinned.checked.prog := by
  rw [pin_prog]
  exact goes_row row_start cn (goes_of gons 3)
end Go.Proofs.YtdkbkilgmmenkaaGreatDoor
