/- The plain law of BwtNext, and its walk. Conditions: the row's. -/
import Derived.Test.YtkcpkecaliegfaaBwtC
import Derived.Test.YtkcpkecaliegfaaP14
set_option linter.unusedVariables false
set_option linter.unusedSimpArgs false
namespace Go.Proofs.Ytkcpkecaliegfaa.P
open Go.RowKit Go.Proofs.YtkcpkecaliegfaaW.PrintWords Go.Proofs.YtkcpkecaliegfaaW.PrintLast Go.Proofs.YtkcpkecaliegfaaW.PrintMore

theorem nexts_l (l : List ByteArray) (hl : rightB l = true) : ∀ (m j : Nat), m = (sortedRows l).length - j → j ≤ (sortedRows l).length →
    Ev (fun k => scriniumlaw4_BwtNext.l0 k (sortedRows l) (symbolsOf l) ((sortedRows l).length : Int) (j : Int)) true := by
  have hsl := symbols_le l
  have hln := symbolsOf_length l
  have hc := col_symbols l
  intro m
  induction m with
  | zero =>
    intro j hm hj
    obtain rfl : j = (sortedRows l).length := by omega
    refine Ev.step (f := fun _ => some true) (fun k => ?_) (Ev.now _)
    rw [scriniumlaw4_BwtNext.l0, if_neg (by omega)]
  | succ m ih =>
    intro j hm hj
    have hjl : j < (sortedRows l).length := by omega
    have hrec := ih (j + 1) (by omega) (by omega)
    have hsy := sym_row l j hjl
    have hw : wrap64 ((j : Int) + 1) = ((j + 1 : Nat) : Int) := w64 (j + 1) (by omega)
    by_cases h0 : (sortedRows l)[j].f1 > 0
    · obtain ⟨hlt, hrow⟩ := next_row l hl j hjl h0
      have hb := bt_range (docAt l (sortedRows l)[j].f0) ((sortedRows l)[j].f1 - 1)
      have hne : symOf (symbolsOf l) j ≠ 0 := by
        rw [hsy]
        unfold symAt
        rw [if_pos h0]
        omega
      have hok := rowOk_iff.1 (sortedRows_ok l _ (List.getElem_mem hjl))
      have hsz := right_doc hl (sortedRows l)[j].f0
      refine Ev.step (f := fun k => (bwt_Next.f k (j : Int) (symbolsOf l)).bind fun bt328 => _) (fun k => by rw [scriniumlaw4_BwtNext.l0, if_pos (by omega)]) ?_
      refine Ev.bind ⟨(symbolsOf l).length + 2, fun k hk => next_ok (symbolsOf l) (by omega) j (by omega) hc hne k hk⟩ ?_
      refine ev_if (by omega) (ev_if (by omega) ?_)
      rw [rd_row _ j hjl, decide_eq_true h0]
      refine ev_else (by simp) (ev_if rfl (ev_else (by dsimp only; omega) (ev_else (by dsimp only; omega) (ev_if (by dsimp only; omega) (ev_if (by dsimp only; omega) ?_)))))
      dsimp only
      rw [rd_row _ _ hlt, hrow, hw, w64i _ (by omega)]
      exact ev_else (by simp) hrec
    · have hz : rd (symbolsOf l) (j : Int) = 0 := by
        rw [rd_get _ j (by omega), ← symOf_get _ j (by omega), hsy]
        unfold symAt
        rw [if_neg h0]
      refine Ev.step (f := fun k => (bwt_Next.f k (j : Int) (symbolsOf l)).bind fun bt328 => _) (fun k => by rw [scriniumlaw4_BwtNext.l0, if_pos (by omega)]) ?_
      refine Ev.bind ⟨1, fun k hk => next_none (symbolsOf l) (by omega) (j : Int) (Or.inr (Or.inr (Or.inr hz))) k hk⟩ ?_
      refine ev_if (by omega) (ev_if (by omega) ?_)
      rw [rd_row _ j hjl, decide_eq_false h0]
      refine ev_else (by decide) (ev_else (by decide) ?_)
      rw [hw]
      exact hrec
theorem BwtNext_ev (l : List ByteArray) (hs : ∀ s ∈ l, s.size ≤ 140737488351232) (hl : l.length * 16 ≤ 140737488351232) : Ev (fun k => scriniumlaw4_BwtNext.f k l) true := by
  have ht : Ev (fun k => scriniumlaw4_BwtNext.j0 k l true) true := by
    refine Ev.step (fun k => ?_) (Ev.bind alive4_ev (Ev.now _))
    rw [scriniumlaw4_BwtNext.j0, if_pos rfl]
  unfold scriniumlaw4_BwtNext.f
  refine Ev.bind (few_ev l hs hl) ?_
  by_cases hf : fewB l = true
  case neg => exact ev_else hf ht
  refine ev_if hf (ev_some ?_)
  by_cases hR : rightB l = true
  case neg => exact ev_else hR ht
  refine ev_if hR ?_
  refine Ev.bind alive4_ev ?_
  show Ev (fun k => scriniumlaw4_BwtNext.j0 k l false) true
  have hln := symbolsOf_length l
  refine Ev.step (fun k => ?_) (Ev.bind (f := fun k t325 => (if ((sortedRows l).length : Int) = (t325.length : Int) then (scriniumlaw4_BwtNext.l0 k (sortedRows l) t325 ((sortedRows l).length : Int) 0) else (some false))) (symbols_ev l) (ev_if (by omega) (nexts_l l hR _ 0 rfl (Nat.zero_le _))))
  have hS : rows_Sorted.f l = some (sortedRows l) := rfl
  rw [scriniumlaw4_BwtNext.j0, if_neg (by simp), hS, Option.bind_some]
theorem BwtNext_all (A0 : Option Addr) (c0 : Nat) (l0 : List ByteArray) (w : World) (hC : Kd.C Kd.string w A0 l0.length l0) (hc : l0.length ≤ c0) (hs : ∀ s ∈ l0, s.size ≤ 140737488351232) (hl : l0.length * 16 ≤ 140737488351232) :
    Calls Try.prog 11 #[.slice A0 l0.length c0] w fun e w' => e = .returned (.bool true) ∧ Below w.heap.size w w' := by
  obtain ⟨k, h⟩ := (BwtNext_ev l0 hs hl).rounds
  exact scriniumlaw4_BwtNext.calls k A0 c0 l0 true w hC hc h
end Go.Proofs.Ytkcpkecaliegfaa.P
