-- Printed by myprint.py (a program of this session's, over the kit's print): P
import Derived.Test.YtcfhcnlbegblcaaP0
namespace Go.Proofs.Ytcfhcnlbegblcaa.P
open Go.RowKit Go.Proofs.YtcfhcnlbegblcaaW.PrintWords Go.Proofs.YtcfhcnlbegblcaaW.PrintLast Go.Proofs.YtcfhcnlbegblcaaW.PrintMore
attribute [local go_sem] max2_int min2_int max_two min_two max_three min_three max_four min_four   -- for this text's walks alone
set_option linter.unusedVariables false
set_option linter.unusedSimpArgs false

/-! ### sym_Of: function 13 -/
def sym_Of.f (a0 : Int) : Option (Int) := some (wrap64 ((wrap64 (a0)) + 1))
set_option maxHeartbeats 8000000 in
set_option maxRecDepth 100000 in
theorem sym_Of.calls (a0 : Int) (r : Int) (w : World) (h : sym_Of.f a0 = some r) :
    Calls Try.prog 13 #[.int .u8 a0] w fun e w' => e = .returned (.int .i64 r) ∧ Drawn0 w w' := by
  have H : (some (wrap64 ((wrap64 (a0)) + 1))) = some r := h
  clear h
  obtain rfl := Option.some.inj H
  go_enter Try.func13, Try.ntmps13
  go_wp2
  go_ret
  exact ⟨by first | rfl | (simp; done) | (simp [*]; done), by repeat (first | exact Drawn0.refl _ | apply Drawn0.step)⟩

end Go.Proofs.Ytcfhcnlbegblcaa.P
