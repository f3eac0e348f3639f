-- Printed by myprint.py (a program of this session's, over the kit's print): P
import Derived.Test.YtcfhcnlbegblcaaP0
namespace Go.Proofs.Ytcfhcnlbegblcaa.P
open Go.RowKit Go.Proofs.YtcfhcnlbegblcaaW.PrintWords Go.Proofs.YtcfhcnlbegblcaaW.PrintLast Go.Proofs.YtcfhcnlbegblcaaW.PrintMore
attribute [local go_sem] max2_int min2_int max_two min_two max_three min_three max_four min_four   -- for this text's walks alone
set_option linter.unusedVariables false
set_option linter.unusedSimpArgs false

/-! ### sym_Text: function 16 -/
def sym_Text.f (a0 : ByteArray) : Option (Bool) := some (decide ((a0.size : Int) ≤ 40))
set_option maxHeartbeats 8000000 in
set_option maxRecDepth 100000 in
theorem sym_Text.calls (a0 : ByteArray) (r : Bool) (w : World) (h : sym_Text.f a0 = some r) :
    Calls Try.prog 16 #[.string a0] w fun e w' => e = .returned (.bool r) ∧ Drawn0 w w' := by
  have H : (some (decide ((a0.size : Int) ≤ 40))) = some r := h
  clear h
  obtain rfl := Option.some.inj H
  go_enter Try.func16, Try.ntmps16
  go_wp2
  go_ret
  exact ⟨by first | rfl | (simp; done) | (simp [*]; done), by repeat (first | exact Drawn0.refl _ | apply Drawn0.step)⟩

/-- THE ONE PURE STATEMENT of sym_Text: yours. -/
def sym_Text.Pure : Prop := ∀ (a0 : ByteArray), a0.size ≤ 140737488351232 → sym_Text.f a0 = some true
theorem sym_Text.walk (P : sym_Text.Pure) (a0 : ByteArray) (w : World) (w0 : a0.size ≤ 140737488351232) :
    Calls Try.prog 16 #[.string a0] w fun e w' => e = .returned (.bool true) ∧ Below w.heap.size w w' := by
  have h := P a0 w0
  refine (sym_Text.calls a0 true w h).mono ?_
  rintro e w' ⟨rfl, hd⟩
  exact ⟨rfl, hd.below⟩

end Go.Proofs.Ytcfhcnlbegblcaa.P
