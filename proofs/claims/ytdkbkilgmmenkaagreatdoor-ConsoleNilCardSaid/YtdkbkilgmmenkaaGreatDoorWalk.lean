/-
  The law's call returns true, whatever the line, and turns nothing that was there.
-/
import Derived.Test.YtdkbkilgmmenkaaGreatDoorAm7
import Derived.Test.YtdkbkilgmmenkaaGreatDoorF12
set_option linter.all false
namespace Go.Am.X
open Go.Proofs
theorem walk (s : ByteArray) : Pure X.P 3 [.val (.string s)] t1 := Xrun [c87] (by kernel_rfl) (by kernel_rfl) (by kernel_rfl)
theorem enter3 (args : Array Value) (w : World) : (callFunc 3 args).run X.P w = .ok (.enter 3 args) w := by kernel_rfl
theorem law (s : ByteArray) (w : World) : Calls Tryz.prog 3 #[.string s] w fun e w' => e = .returned (.bool true) ∧ ∀ may, w.keptBut w' may :=
  law_of_pure (P := X.P) (vs := [.string s]) (walk s) w (by simp [RelL, Rel]) enter3
end Go.Am.X
