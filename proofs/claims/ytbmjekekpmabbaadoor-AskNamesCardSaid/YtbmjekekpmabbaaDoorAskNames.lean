/- The statement AskNames, in plain Lean. Conditions: none. -/
import Derived.Test.YtbmjekekpmabbaaDoorAskRef
import Derived.Test.YtbmjekekpmabbaaDoorP10
set_option linter.unusedVariables false
set_option linter.unusedSimpArgs false
namespace Go.Proofs.YtbmjekekpmabbaaDoor.P
open Go.RowKit Go.Proofs.YtbmjekekpmabbaaDoorW.PrintWords Go.Proofs.YtbmjekekpmabbaaDoorW.PrintLast Go.Proofs.YtbmjekekpmabbaaDoorW.PrintMore

theorem name_some (a : Int) : (nameOf a).size ≤ 1000000 := by
  by_cases h : 1 ≤ a ∧ a ≤ 9
  · rcases (show a = 1 ∨ a = 2 ∨ a = 3 ∨ a = 4 ∨ a = 5 ∨ a = 6 ∨ a = 7 ∨ a = 8 ∨ a = 9 by omega) with rfl | rfl | rfl | rfl | rfl | rfl | rfl | rfl | rfl <;> decide +kernel
  · rw [name_out a (by omega)]; decide
set_option maxRecDepth 100000 in
theorem name_alone (a : Int) : (readOf (nameOf a)).isSome = (a == 8) := by
  by_cases h : 1 ≤ a ∧ a ≤ 9
  · rcases (show a = 1 ∨ a = 2 ∨ a = 3 ∨ a = 4 ∨ a = 5 ∨ a = 6 ∨ a = 7 ∨ a = 8 ∨ a = 9 by omega) with rfl | rfl | rfl | rfl | rfl | rfl | rfl | rfl | rfl <;> decide +kernel
  · rw [name_out a (by omega), beq_eq_false_iff_ne.2 (show a ≠ 8 by omega)]
    decide +kernel
theorem names_two : ∀ i < 9, ∀ j < 9, ((nameOf (((i + 1 : Nat) : Int))).toList == (nameOf ((j + 1 : Nat) : Int)).toList) = (i == j) := by decide +kernel
theorem name_full (a : Int) : ((nameOf a).toList != ([] : List UInt8)) = decide (1 ≤ a ∧ a ≤ 9) := by
  by_cases h : 1 ≤ a ∧ a ≤ 9
  · rw [decide_eq_true h]
    have := name_in a h.1 h.2
    cases hl : (nameOf a).toList with
    | nil => rw [hl] at this; cases this
    | cons x l => rfl
  · rw [decide_eq_false h, name_out a (by omega)]
    decide +kernel
theorem names_j (a b : Int) : scriniumlaw20_AskNames.j0 (29 + 1) a b (decide (1 ≤ a ∧ a ≤ 9)) = some true := by
  rw [scriniumlaw20_AskNames.j0]
  unfold ask_Name.f ask_Read.f
  rw [Option.bind_some, if_pos (name_some a), Option.bind_some, Option.bind_some, name_full, if_pos (beq_self_eq_true _)]
  have he : ((tupOf (readOf (nameOf a))).2.2.2.2.2.2 == (a == 8)) = true := by
    rw [show (tupOf (readOf (nameOf a))).2.2.2.2.2.2 = (readOf (nameOf a)).isSome from rfl, name_alone]
    exact beq_self_eq_true _
  rw [he]
  by_cases h : 1 ≤ a ∧ a ≤ 9
  · rw [if_pos (decide_eq_true h)]
    by_cases hab : a = b
    · rw [if_pos hab]
    · rw [if_neg hab, Option.bind_some, Option.bind_some, if_neg]
      intro e
      by_cases hb : 1 ≤ b ∧ b ≤ 9
      · have := names_two (a - 1).toNat (by omega) (b - 1).toNat (by omega)
        rw [show (((a - 1).toNat + 1 : Nat) : Int) = a by omega, show (((b - 1).toNat + 1 : Nat) : Int) = b by omega, beq_iff_eq.2 e] at this
        have := beq_iff_eq.1 this.symm
        omega
      · have h1 := name_full a
        have h2 := name_full b
        rw [decide_eq_true h, e] at h1
        rw [h1, decide_eq_false hb] at h2
        cases h2
  · rw [if_neg (by rw [decide_eq_false h]; decide)]
theorem names_pure (a b : Int) : scriniumlaw20_AskNames.f 30 a b = some true := by
  have hj := names_j a b
  unfold scriniumlaw20_AskNames.f
  rw [alive_at 30 (by decide), Option.bind_some, if_pos rfl]
  by_cases h1 : a ≥ 1
  · rw [if_pos h1]
    have e : decide (a ≤ 9) = decide (1 ≤ a ∧ a ≤ 9) := by
      by_cases h : a ≤ 9
      · rw [decide_eq_true h, decide_eq_true ⟨h1, h⟩]
      · rw [decide_eq_false h, decide_eq_false (fun h' => h h'.2)]
    rw [e]
    exact hj
  · rw [if_neg h1]
    rw [decide_eq_false (fun h' => h1 h'.1)] at hj
    exact hj
theorem names_calls (a b : Int) (w : World) (_ : (Lit.int .i64 a).wf = true) (_ : (Lit.int .i64 b).wf = true) : Calls Tryd.prog 6 #[.int .i64 a, .int .i64 b] w fun e w' => e = .returned (.bool true) ∧ Below w.heap.size w w' := scriniumlaw20_AskNames.calls 30 a b true w (names_pure a b)
end Go.Proofs.YtbmjekekpmabbaaDoor.P
