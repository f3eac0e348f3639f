-- Printed by myprint.py (a program of this session's, over the kit's print): P
import Derived.Test.YtgnmpfjpcdidjaaP0
namespace Go.Proofs.Ytgnmpfjpcdidjaa.P
open Go.RowKit Go.Proofs.YtgnmpfjpcdidjaaW.PrintWords Go.Proofs.YtgnmpfjpcdidjaaW.PrintLast Go.Proofs.YtgnmpfjpcdidjaaW.PrintMore
set_option linter.unusedVariables false
set_option linter.unusedSimpArgs false

/-! ### cmp_isNaN_int: function 38 -/
def cmp_isNaN_int.f (a0 : Int) : Option (Bool) := some (a0 != a0)
set_option maxHeartbeats 8000000 in
set_option maxRecDepth 100000 in
theorem cmp_isNaN_int.calls (a0 : Int) (r : Bool) (w : World) (h : cmp_isNaN_int.f a0 = some r) :
    Calls Try.prog 38 #[.int .i64 a0] w fun e w' => e = .returned (.bool r) ∧ Drawn0 w w' := by
  have H : (some (a0 != a0)) = some r := h
  clear h
  obtain rfl := Option.some.inj H
  go_enter Try.func38, Try.ntmps38
  go_wp2
  go_ret
  exact ⟨by first | rfl | (simp; done) | (simp [*]; done), by repeat (first | exact Drawn0.refl _ | apply Drawn0.step)⟩

end Go.Proofs.Ytgnmpfjpcdidjaa.P
