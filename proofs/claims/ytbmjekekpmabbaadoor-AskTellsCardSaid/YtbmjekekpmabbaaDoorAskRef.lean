/- The document's AskRight is the package's. Conditions: none. -/
import Derived.Test.YtbmjekekpmabbaaDoorAskAlive
import Derived.Test.YtbmjekekpmabbaaDoorP2
set_option linter.unusedVariables false
set_option linter.unusedSimpArgs false
namespace Go.Proofs.YtbmjekekpmabbaaDoor.P
open Go.RowKit Go.Proofs.YtbmjekekpmabbaaDoorW.PrintWords Go.Proofs.YtbmjekekpmabbaaDoorW.PrintLast Go.Proofs.YtbmjekekpmabbaaDoorW.PrintMore

theorem field_ok (has : ByteArray) (c : UInt8) (n : Int) : scriniumref1_field.f n (hasC has c) = some (letOk has c n) := by
  unfold scriniumref1_field.f letOk
  by_cases h0 : n ≥ 0
  · rw [if_pos h0, decide_eq_true (show 0 ≤ n from h0), Bool.true_and]
    by_cases h1 : n ≤ 65535
    · rw [if_pos h1, decide_eq_true h1, Bool.true_and]
      cases hasC has c with
      | true => simp
      | false =>
        rw [if_neg (by decide), Bool.or_false]
        by_cases h2 : n = 0
        · subst h2; rfl
        · rw [decide_eq_false (show ¬ n ≤ 0 by omega), beq_eq_false_iff_ne.2 h2]
    · rw [if_neg h1, decide_eq_false h1, Bool.false_and]
  · rw [if_neg h0, decide_eq_false (show ¬ 0 ≤ n from h0), Bool.false_and]
def hasB (k : Int) : Bool × Bool × Bool × Bool × Bool := (hasC (hasOf k) 116, hasC (hasOf k) 105, hasC (hasOf k) 102, hasC (hasOf k) 111, hasC (hasOf k) 115)
theorem fields_in (k : Int) (h1 : 1 ≤ k) (h2 : k ≤ 9) : scriniumref1_Fields.f 20 k = some (hasB k) := by
  rcases (show k = 1 ∨ k = 2 ∨ k = 3 ∨ k = 4 ∨ k = 5 ∨ k = 6 ∨ k = 7 ∨ k = 8 ∨ k = 9 by omega) with rfl | rfl | rfl | rfl | rfl | rfl | rfl | rfl | rfl <;> decide +kernel
theorem name_in (k : Int) (h1 : 1 ≤ k) (h2 : k ≤ 9) : (nameOf k).toList.isEmpty = false := by
  rcases (show k = 1 ∨ k = 2 ∨ k = 3 ∨ k = 4 ∨ k = 5 ∨ k = 6 ∨ k = 7 ∨ k = 8 ∨ k = 9 by omega) with rfl | rfl | rfl | rfl | rfl | rfl | rfl | rfl | rfl <;> decide +kernel
theorem name_out (k : Int) (h : k < 1 ∨ 9 < k) : nameOf k = ⟨#[]⟩ := by
  by_cases h0 : k = 0
  · subst h0; rfl
  · exact (of_first k (by omega)).1
theorem askRight_same (kind id fr tt snap : Int) (text : ByteArray) : scriniumref1_AskRight.f 20 kind id fr tt snap text = some (askB kind id fr tt snap text) := by
  by_cases hin : 1 ≤ kind ∧ kind ≤ 9
  · unfold scriniumref1_AskRight.f
    rw [fields_in kind hin.1 hin.2, Option.bind_some, if_pos hin.1, if_pos hin.2]
    unfold hasB askB
    rw [name_in kind hin.1 hin.2]
    dsimp only
    simp only [field_ok, Option.bind_some]
    by_cases hs : (text.size : Int) ≤ 40
    · rw [if_pos hs, decide_eq_true hs]
      cases hasC (hasOf kind) 116 <;> cases letOk (hasOf kind) 105 id <;> cases letOk (hasOf kind) 102 fr <;> cases letOk (hasOf kind) 111 tt <;> cases letOk (hasOf kind) 115 snap <;> simp
      all_goals (cases text.toList <;> simp)
    · rw [if_neg hs, decide_eq_false hs]
      simp
  · have hn := name_out kind (by omega)
    have ha : askB kind id fr tt snap text = false := by
      unfold askB
      rw [hn, show (⟨#[]⟩ : ByteArray).toList.isEmpty = true by decide +kernel]
      rfl
    rw [ha]
    unfold scriniumref1_AskRight.f
    have hf : ∃ q, scriniumref1_Fields.f 20 kind = some q := by
      unfold scriniumref1_Fields.f
      rw [if_neg (by omega), if_neg (by omega), if_neg (by omega), beq_eq_false_iff_ne.2 (show kind ≠ 4 by omega), scriniumref1_Fields.j0, if_neg (by decide), if_neg (by omega), if_neg (by omega), beq_eq_false_iff_ne.2 (show kind ≠ 9 by omega), scriniumref1_Fields.j1, if_neg (by decide), if_neg (by omega)]
      exact ⟨_, rfl⟩
    obtain ⟨q, hq⟩ := hf
    rw [hq, Option.bind_some]
    by_cases h1 : kind ≥ 1
    · rw [if_pos h1, if_neg (by omega)]
    · rw [if_neg h1]
theorem fields_at (k : Int) (h1 : 1 ≤ k) (h2 : k ≤ 9) (n : Nat) (h : 20 ≤ n) : scriniumref1_Fields.f n k = some (hasB k) := at_rounds (fun n => scriniumref1_Fields.mono k n) h (fields_in k h1 h2)
theorem askRight_at (a : AskV) (n : Nat) (h : 20 ≤ n) : scriniumref1_AskRight.f n a.kind a.id a.fr a.tt a.snap a.text = some a.ok := at_rounds (fun n => scriniumref1_AskRight.mono _ _ _ _ _ _ n) h (askRight_same a.kind a.id a.fr a.tt a.snap a.text)
end Go.Proofs.YtbmjekekpmabbaaDoor.P
