/- Written by a program (wip/myprint.py): the Go functions that the laws reach, each as a plain Lean function, and a proof that the machine's call answers as that function says. -/
import Derived.Test.YtpgmodghkamihaaDoorQTxt0
namespace Go.Proofs.YtpgmodghkamihaaDoor.QTxt
open Go.RowKit Go.Proofs.YtpgmodghkamihaaDoorW.PrintWords Go.Proofs.YtpgmodghkamihaaDoorW.PrintLast Go.Proofs.YtpgmodghkamihaaDoorW.PrintMore
attribute [local go_sem] max2_int min2_int max_two min_two max_three min_three max_four min_four   -- for this text's walks alone
set_option linter.unusedVariables false
set_option linter.unusedSimpArgs false

/-! ### strings_explode: function 51: given by hand -/
def strings_explode.f (_ : ByteArray) (_ : Int) : Option (List ByteArray) := none
theorem strings_explode.calls (a0 : ByteArray) (a1 : Int) (r : List ByteArray) (w : World) (h : strings_explode.f a0 a1 = some r) :
    Calls Tryd.prog 51 #[.string a0, .int .i64 a1] w fun e w' => ∃ v0_ : Value, e = .returned (v0_) ∧ Kd.R Kd.string 9 w' w.heap.size (fun _ => True) v0_ r ∧ Below w.heap.size w w' := by
  cases h


end Go.Proofs.YtpgmodghkamihaaDoor.QTxt
