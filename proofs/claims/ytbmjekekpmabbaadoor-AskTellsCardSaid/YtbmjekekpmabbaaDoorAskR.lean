/- The functions Right and Name of package ask, told in the print's form. Conditions: none. -/
import Derived.Test.YtbmjekekpmabbaaDoorAskName
set_option linter.unusedVariables false
set_option linter.unusedSimpArgs false
namespace Go.Proofs.YtbmjekekpmabbaaDoor.P
open Go.RowKit Go.Proofs.YtbmjekekpmabbaaDoorW.PrintWords Go.Proofs.YtbmjekekpmabbaaDoorW.PrintLast Go.Proofs.YtbmjekekpmabbaaDoorW.PrintMore

def ask_Right.f (a0 a1 a2 a3 a4 : Int) (a5 : ByteArray) : Option Bool := some (askB a0 a1 a2 a3 a4 a5)
theorem ask_Right.calls (a0 a1 a2 a3 a4 : Int) (a5 : ByteArray) (r : Bool) (w : World) (h : ask_Right.f a0 a1 a2 a3 a4 a5 = some r) :
    Calls Tryd.prog 18 #[.agg #[.int .i64 a0, .int .i64 a1, .int .i64 a2, .int .i64 a3, .int .i64 a4, .string a5]] w fun e w' => e = .returned (.bool r) ∧ Below w.heap.size w w' := by
  obtain rfl := Option.some.inj h
  exact ask_Right.told a0 a1 a2 a3 a4 a5 w
def ask_Name.f (a0 : Int) : Option ByteArray := some (nameOf a0)
theorem ask_Name.calls (a0 : Int) (r : ByteArray) (w : World) (h : ask_Name.f a0 = some r) :
    Calls Tryd.prog 19 #[.int .i64 a0] w fun e w' => e = .returned (.string r) ∧ Below w.heap.size w w' := by
  obtain rfl := Option.some.inj h
  exact name_calls a0 w
end Go.Proofs.YtbmjekekpmabbaaDoor.P
