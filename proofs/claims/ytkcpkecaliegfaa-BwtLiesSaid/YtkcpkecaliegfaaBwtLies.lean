/- The plain law of BwtLies, and its walk. Conditions: the row's. -/
import Derived.Test.YtkcpkecaliegfaaBwtC
import Derived.Test.YtkcpkecaliegfaaP18
set_option linter.unusedVariables false
set_option linter.unusedSimpArgs false
namespace Go.Proofs.Ytkcpkecaliegfaa.P
open Go.RowKit Go.Proofs.YtkcpkecaliegfaaW.PrintWords Go.Proofs.YtkcpkecaliegfaaW.PrintLast Go.Proofs.YtkcpkecaliegfaaW.PrintMore

theorem lies_at (a : Int) (n : Nat) (hn : 0 < n ∧ n ≤ 1000) (ha : -9223372036854775808 ≤ a ∧ a ≤ 9223372036854775807) : ∃ q : Nat, q < n ∧ Int.tmod (wrap64 ((Int.tmod a (n : Int)) + (n : Int))) (n : Int) = (q : Int) := by
  have h1 := Int.tmod_lt_of_pos a (show (0 : Int) < (n : Int) by omega)
  have h2 := Int.lt_tmod_of_pos a (show (0 : Int) < (n : Int) by omega)
  rw [w64i _ (by omega), Int.tmod_eq_emod_of_nonneg (by omega)]
  have h3 := Int.emod_nonneg (Int.tmod a (n : Int) + (n : Int)) (show (n : Int) ≠ 0 by omega)
  have h4 := Int.emod_lt_of_pos (Int.tmod a (n : Int) + (n : Int)) (show (0 : Int) < (n : Int) by omega)
  exact ⟨((Int.tmod a (n : Int) + (n : Int)) % (n : Int)).toNat, by omega, by omega⟩
theorem BwtLies_ev (l : List ByteArray) (a s : Int) (ha : -9223372036854775808 ≤ a ∧ a ≤ 9223372036854775807) (hs : ∀ s ∈ l, s.size ≤ 140737488351232) (hl : l.length * 16 ≤ 140737488351232) : Ev (fun k => scriniumlaw4_BwtLies.f k l a s) true := by
  have ht : Ev (fun k => scriniumlaw4_BwtLies.j0 k l a s true) true := by
    refine Ev.step (fun k => ?_) (Ev.bind alive4_ev (Ev.now _))
    rw [scriniumlaw4_BwtLies.j0, if_pos rfl]
  unfold scriniumlaw4_BwtLies.f
  refine Ev.bind (few_ev l hs hl) ?_
  by_cases hf : fewB l = true
  case neg => exact ev_else hf ht
  refine ev_if hf (ev_some ?_)
  by_cases hR : rightB l = true
  case neg => exact ev_else hR ht
  refine ev_if hR ?_
  by_cases h0 : (l.length : Int) = 0
  · exact ev_if h0 ht
  refine ev_else h0 ?_
  by_cases h1 : s < 0
  · exact ev_if h1 ht
  refine ev_else h1 ?_
  by_cases h2 : s ≥ 257
  · exact ev_if h2 ht
  refine ev_else h2 ?_
  refine Ev.bind alive4_ev ?_
  show Ev (fun k => scriniumlaw4_BwtLies.j0 k l a s false) true
  have hsl := symbols_le l
  have hsn : (symbolsOf l).length = l.length + sumTo l := (symbolsOf_length l).trans (sorted_length l hR)
  refine Ev.step (f := fun k => (rows_Symbols.f k l).bind fun t378 => _) (fun k => by rw [scriniumlaw4_BwtLies.j0, if_neg (by simp)]) ?_
  refine Ev.bind (symbols_ev l) ?_
  obtain ⟨q, hq, he⟩ := lies_at a (symbolsOf l).length (by omega) ha
  rw [he]
  refine ev_else (by omega) (ev_if (by omega) (ev_if (by omega) ?_))
  by_cases hsame : rd (symbolsOf l) (q : Int) = s
  · exact ev_if hsame (Ev.now _)
  refine ev_else hsame (ev_if (by show 0 + (symbolsOf l).length < _; omega) (ev_some ?_))
  rw [List.nil_append, Int.toNat_natCast]
  refine ev_if (by omega) (ev_some ?_)
  have hne : symbolsOf l ≠ (symbolsOf l).set q s := by
    intro h
    apply hsame
    rw [rd_get _ q hq]
    have : (symbolsOf l)[q] = ((symbolsOf l).set q s)[q]'(by rw [List.length_set]; exact hq) := by congr 1
    rw [this, List.getElem_set_self]
  obtain ⟨r, hr, hcase⟩ := docs_any ((symbolsOf l).set q s) (by rw [List.length_set]; omega)
  refine Ev.bind hr ?_
  rcases hcase with rfl | ⟨d, rfl, hd⟩
  · exact ev_else (by decide) (ev_if rfl (Ev.now _))
  · have hdl : d ≠ l := fun h => hne (by rw [h] at hd; exact hd)
    refine ev_if rfl (Ev.bind (f := fun k t390 => (if t390 = true then (some false) else ((rows_Symbols.f k d).bind fun t391 => ((scriniumbook_SameInts.f k t391 ((symbolsOf l).set q s)).bind fun t394 => (some t394))))) (sameTexts_ev d l (by omega)) ?_)
    · rw [decide_eq_false hdl]
      refine ev_else (by decide) (Ev.bind (symbols_ev d) (Ev.bind (sameInts_ev _ _ (by have := symbols_le d; omega)) ?_))
      rw [decide_eq_true hd]
      exact Ev.now _
theorem BwtLies_all (A0 : Option Addr) (c0 : Nat) (l0 : List ByteArray) (a1 a2 : Int) (w : World) (hC : Kd.C Kd.string w A0 l0.length l0) (hc : l0.length ≤ c0) (hs : ∀ s ∈ l0, s.size ≤ 140737488351232) (hl : l0.length * 16 ≤ 140737488351232) (h1 : (Lit.int .i64 a1).wf = true) (_ : (Lit.int .i64 a2).wf = true) :
    Calls Try.prog 16 #[.slice A0 l0.length c0, .int .i64 a1, .int .i64 a2] w fun e w' => e = .returned (.bool true) ∧ Below w.heap.size w w' := by
  obtain ⟨k, h⟩ := (BwtLies_ev l0 a1 a2 (wf_range a1 h1) hs hl).rounds
  exact scriniumlaw4_BwtLies.calls k A0 c0 l0 a1 a2 true w hC hc h
end Go.Proofs.Ytkcpkecaliegfaa.P
