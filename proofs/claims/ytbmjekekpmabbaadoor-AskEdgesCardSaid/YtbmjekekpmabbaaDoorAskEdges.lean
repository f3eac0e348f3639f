/- The statement AskEdges, in plain Lean. Conditions: none. -/
import Derived.Test.YtbmjekekpmabbaaDoorAskRef
import Derived.Test.YtbmjekekpmabbaaDoorP11
set_option linter.unusedVariables false
set_option linter.unusedSimpArgs false
namespace Go.Proofs.YtbmjekekpmabbaaDoor.P
open Go.RowKit Go.Proofs.YtbmjekekpmabbaaDoorW.PrintWords Go.Proofs.YtbmjekekpmabbaaDoorW.PrintLast Go.Proofs.YtbmjekekpmabbaaDoorW.PrintMore

theorem letOk_zero (has : ByteArray) (c : UInt8) : letOk has c 0 = true := by
  unfold letOk
  simp
theorem empty_isE : (⟨#[]⟩ : ByteArray).toList.isEmpty = true := by decide +kernel
/-- What a field may be. -/
theorem edge_one (has : ByteArray) (c : UInt8) (v : Int) : letOk has c v = (decide (v = 0) || (hasC has c && (decide (v > 0) && decide (v ≤ 65535)))) := by
  unfold letOk
  cases hasC has c with
  | true =>
    by_cases h0 : v = 0
    · subst h0; rfl
    · by_cases h1 : 0 ≤ v
      · rw [decide_eq_true h1, decide_eq_false h0, decide_eq_true (show v > 0 by omega)]
        simp
      · rw [decide_eq_false h1, decide_eq_false h0, decide_eq_false (show ¬ v > 0 by omega)]
        rfl
  | false =>
    by_cases h0 : v = 0
    · subst h0; rfl
    · rw [decide_eq_false h0]
      by_cases h1 : 0 ≤ v
      · rw [decide_eq_false (show ¬ v ≤ 0 by omega)]
        simp
      · rw [decide_eq_false h1]
        rfl
def edgeR (h : Bool) (v : Int) : Bool := decide (v = 0) || (h && (decide (v > 0) && decide (v ≤ 65535)))
theorem edge_fin (h : Bool) (v : Int) (r : Bool) (hr : r = edgeR h v) : (if v = 0 then some (r == true) else (if h = true then (if v > 0 then some (r == decide (v ≤ 65535)) else some (r == false)) else some (r == false))) = some true := by
  subst hr
  unfold edgeR
  by_cases h0 : v = 0
  · rw [if_pos h0, decide_eq_true h0]; rfl
  · rw [if_neg h0, decide_eq_false h0]
    cases h with
    | true =>
      by_cases h1 : v > 0
      · rw [if_pos rfl, if_pos h1, decide_eq_true h1]
        simp
      · rw [if_pos rfl, if_neg h1, decide_eq_false h1]
        rfl
    | false => rfl
theorem edge_askB (k a b c d : Int) (h1 : 1 ≤ k) (h2 : k ≤ 9) : askB k a b c d ⟨#[]⟩ = (letOk (hasOf k) 105 a && (letOk (hasOf k) 102 b && (letOk (hasOf k) 111 c && letOk (hasOf k) 115 d))) := by
  unfold askB
  rw [name_in k h1 h2, empty_isE]
  rfl
theorem edges_pure (a0 a1 a2 : Int) : scriniumlaw20_AskEdges.f 30 a0 a1 a2 = some true := by
  unfold scriniumlaw20_AskEdges.f
  by_cases h1 : a0 < 1
  · rw [if_pos h1]
    simp [scriniumlaw20_AskEdges.j0, alive_at]
  · rw [if_neg h1]
    by_cases h9 : a0 > 9
    · rw [if_pos h9]
      simp [scriniumlaw20_AskEdges.j0, alive_at]
    · rw [if_neg h9, alive_at 30 (by decide), Option.bind_some]
      show scriniumlaw20_AskEdges.j0 (29 + 1) a0 a1 a2 false = some true
      rw [scriniumlaw20_AskEdges.j0]
      rw [if_neg (by decide), fields_at a0 (by omega) (by omega) 29 (by decide), Option.bind_some, Option.bind_some]
      have hm : 0 ≤ Int.tmod (wrap64 (Int.tmod a1 4 + 4)) 4 ∧ Int.tmod (wrap64 (Int.tmod a1 4 + 4)) 4 < 4 := by
        have e1 : -4 < Int.tmod a1 4 ∧ Int.tmod a1 4 < 4 := ⟨Int.lt_tmod_of_pos a1 (by decide), Int.tmod_lt_of_pos a1 (by decide)⟩
        rw [IntWalk.wrap64_in _ (by omega), Int.tmod_eq_emod_of_nonneg (by omega)]
        omega
      obtain ⟨x, hx⟩ : ∃ x, Int.tmod (wrap64 (Int.tmod a1 4 + 4)) 4 = x := ⟨_, rfl⟩
      rw [hx] at hm ⊢
      rw [if_pos hm.1]
      unfold hasB
      dsimp only
      rw [if_pos (show x < (([hasC (hasOf a0) 105, hasC (hasOf a0) 102, hasC (hasOf a0) 111, hasC (hasOf a0) 115] : List Bool).length : Int) from hm.2)]
      have hx4 : x = 0 ∨ x = 1 ∨ x = 2 ∨ x = 3 := by omega
      clear hx hm
      unfold ask_Right.f
      simp only [edge_askB a0 _ _ _ _ (show 1 ≤ a0 by omega) (show a0 ≤ 9 by omega), letOk_zero, Bool.true_and, Bool.and_true, Option.bind_some]
      rcases hx4 with rfl | rfl | rfl | rfl
      · exact edge_fin (hasC (hasOf a0) 105) a2 _ (edge_one _ _ _)
      · exact edge_fin (hasC (hasOf a0) 102) a2 _ (edge_one _ _ _)
      · exact edge_fin (hasC (hasOf a0) 111) a2 _ (edge_one _ _ _)
      · exact edge_fin (hasC (hasOf a0) 115) a2 _ (edge_one _ _ _)
theorem edges_calls (a0 a1 a2 : Int) (w : World) (_ : (Lit.int .i64 a0).wf = true) (_ : (Lit.int .i64 a1).wf = true) (_ : (Lit.int .i64 a2).wf = true) : Calls Tryd.prog 7 #[.int .i64 a0, .int .i64 a1, .int .i64 a2] w fun e w' => e = .returned (.bool true) ∧ Below w.heap.size w w' := scriniumlaw20_AskEdges.calls 30 a0 a1 a2 true w (edges_pure a0 a1 a2)
end Go.Proofs.YtbmjekekpmabbaaDoor.P
