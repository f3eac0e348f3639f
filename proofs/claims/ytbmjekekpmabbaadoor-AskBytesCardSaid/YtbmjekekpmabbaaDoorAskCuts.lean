/- The statement AskCuts, in plain Lean. Conditions: none. -/
import Derived.Test.YtbmjekekpmabbaaDoorAskPut
import Derived.Test.YtbmjekekpmabbaaDoorP9
set_option linter.unusedVariables false
set_option linter.unusedSimpArgs false
namespace Go.Proofs.YtbmjekekpmabbaaDoor.P
open Go.RowKit Go.Proofs.YtbmjekekpmabbaaDoorW.PrintWords Go.Proofs.YtbmjekekpmabbaaDoorW.PrintLast Go.Proofs.YtbmjekekpmabbaaDoorW.PrintMore

theorem mod_place (x n : Int) (h : 0 < n) (hn : n ≤ 1000000) : 0 ≤ Int.tmod (wrap64 (Int.tmod x n + n)) n ∧ Int.tmod (wrap64 (Int.tmod x n + n)) n < n := by
  have e1 : -n < Int.tmod x n ∧ Int.tmod x n < n := ⟨Int.lt_tmod_of_pos x h, Int.tmod_lt_of_pos x h⟩
  rw [IntWalk.wrap64_in _ (by omega), Int.tmod_eq_emod_of_nonneg (by omega)]
  exact ⟨Int.emod_nonneg _ (by omega), Int.emod_lt_of_pos _ h⟩
theorem tup_some (o : Option AskV) : (tupOf o).2.2.2.2.2.2 = o.isSome := rfl
theorem cuts_j (a : AskV) (a1 : Int) (a2 : ByteArray) (ht : ¬ (a.text.size : Int) > 100) (h2 : a2.toList ≠ []) (h4 : ¬ (a2.size : Int) > 40) : scriniumlaw20_AskCuts.j0 (29 + 1) a1 a2 false a.kind a.id a.fr a.tt a.snap a.text = some true := by
  rw [scriniumlaw20_AskCuts.j0, if_neg (by decide), put_at a 29 (by decide) (by omega), Option.bind_some]
  cases ho : a.ok with
  | false =>
    rw [putO_no ho]
    dsimp only
    rw [if_neg (by decide), empty_nil]
  | true =>
    have hsz := putK_size a
    have h3 : 0 < a2.size := by
      rw [bl_size]
      unfold bl
      rw [← Lib.toList_data]
      exact List.length_pos_iff.2 h2
    rw [putO_ok ho]
    dsimp only
    rw [if_pos rfl, if_pos (by rw [IntWalk.wrap64_in _ (by omega)]; omega), if_neg (by omega)]
    obtain ⟨x, hx⟩ : ∃ x, Int.tmod (wrap64 (Int.tmod a1 ((putK a).size : Int) + ((putK a).size : Int))) ((putK a).size : Int) = x := ⟨_, rfl⟩
    obtain ⟨m1, m2⟩ := mod_place a1 ((putK a).size : Int) (by omega) (by omega)
    rw [hx] at m1 m2 ⊢
    rw [if_pos m1, if_pos (by omega)]
    unfold ask_Get.f
    rw [if_pos (by rw [ByteArray.size_extract]; omega), Option.bind_some, if_pos (by omega), if_pos (by rw [ByteArray.size_append]; omega), Option.bind_some, tup_some, tup_some, get_cut ho x.toNat (by omega), get_long ho a2 h3]
    rfl
theorem cuts_pure (a : AskV) (a1 : Int) (a2 : ByteArray) : scriniumlaw20_AskCuts.f 30 a.kind a.id a.fr a.tt a.snap a.text a1 a2 = some true := by
  have hj : ∀ (x : Int) (y : ByteArray), scriniumlaw20_AskCuts.j0 30 x y true a.kind a.id a.fr a.tt a.snap a.text = some true := fun x y => by simp [scriniumlaw20_AskCuts.j0, alive_at]
  unfold scriniumlaw20_AskCuts.f
  by_cases h1 : (a.text.size : Int) > 100
  · rw [if_pos h1, hj]
  · rw [if_neg h1]
    by_cases h2 : a2.toList = []
    · rw [if_pos h2, hj]
    · rw [if_neg h2]
      by_cases h3 : (a2.size : Int) > 40
      · rw [if_pos h3, hj]
      · rw [if_neg h3, alive_at 30 (by decide), Option.bind_some]
        exact cuts_j a a1 a2 h1 h2 h3
theorem cuts_calls (k i f t s : Int) (x : ByteArray) (a1 : Int) (a2 : ByteArray) (w : World) (_ : ((Lit.int .i64 k).wf = true ∧ (Lit.int .i64 i).wf = true ∧ (Lit.int .i64 f).wf = true ∧ (Lit.int .i64 t).wf = true ∧ (Lit.int .i64 s).wf = true)) (_ : x.size ≤ 9223372036854775807) (_ : (Lit.int .i64 a1).wf = true) (_ : a2.size ≤ 140737488351232) : Calls Tryd.prog 5 #[.agg #[.int .i64 k, .int .i64 i, .int .i64 f, .int .i64 t, .int .i64 s, .string x], .int .i64 a1, .string a2] w fun e w' => e = .returned (.bool true) ∧ Below w.heap.size w w' := scriniumlaw20_AskCuts.calls 30 k i f t s x a1 a2 true w (cuts_pure ⟨k, i, f, t, s, x⟩ a1 a2)
end Go.Proofs.YtbmjekekpmabbaaDoor.P
