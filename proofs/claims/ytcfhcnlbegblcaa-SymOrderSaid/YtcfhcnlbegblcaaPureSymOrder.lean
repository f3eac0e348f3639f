/- SymOrder: bytes that rise have symbols that rise, each above the terminator and below Symbols. Conditions: none beyond the given statement's. -/
import Derived.Test.YtcfhcnlbegblcaaPSymOrderx1
namespace Go.Proofs.Ytcfhcnlbegblcaa.Pure
open Go.RowKit Go.Proofs.Ytcfhcnlbegblcaa.PSymOrder Go.Proofs.YtcfhcnlbegblcaaW.PrintWords Go.Proofs.YtcfhcnlbegblcaaW.PrintLast

set_option linter.unusedVariables false
set_option linter.unusedSimpArgs false

theorem SymOrder.u8_bd {a : Int} (w : (Lit.int .u8 a).wf = true) : 0 ≤ a ∧ a ≤ 255 := by
  simp only [Lit.wf, Bool.and_eq_true, decide_eq_true_eq] at w
  have e0 : IntKind.u8.min = 0 := rfl
  have e1 : IntKind.u8.max = 255 := rfl
  omega

theorem SymOrder.alive3 : scriniumlaw1_alive.f 4 = some true := by decide +kernel

theorem SymOrder.of_some (a : Int) (h0 : 0 ≤ a) (h1 : a ≤ 255) : sym_Of.f a = some (a + 1) := by
  unfold sym_Of.f wrap64
  congr 1
  omega

theorem SymOrder : scriniumlaw1_SymOrder.Pure := by
  intro a0 a1 w0 w1
  have b0 : 0 ≤ a0 ∧ a0 ≤ 255 := SymOrder.u8_bd w0
  have b1 : 0 ≤ a1 ∧ a1 ≤ 255 := SymOrder.u8_bd w1
  refine ⟨4, ?_⟩
  unfold scriniumlaw1_SymOrder.f
  rw [SymOrder.alive3, SymOrder.of_some a0 b0.1 b0.2, SymOrder.of_some a1 b1.1 b1.2]
  simp only [Option.bind_some, if_true]
  rw [if_pos, if_pos, if_pos]
  · congr 1
    simp
    omega
  · omega
  · by_cases h : a0 = a1
    · simp [h]
    · have e1 : (a0 + 1 == a1 + 1) = false := beq_eq_false_iff_ne.2 (by omega)
      have e2 : (a0 == a1) = false := beq_eq_false_iff_ne.2 h
      rw [e1, e2]
      rfl
  · by_cases h : a0 < a1 <;> simp [h]

end Go.Proofs.Ytcfhcnlbegblcaa.Pure
