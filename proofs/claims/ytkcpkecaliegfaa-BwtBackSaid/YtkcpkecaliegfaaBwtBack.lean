/- The plain law of BwtBack, and its walk. Conditions: the row's. -/
import Derived.Test.YtkcpkecaliegfaaBwtC
import Derived.Test.YtkcpkecaliegfaaP13
set_option linter.unusedVariables false
set_option linter.unusedSimpArgs false
namespace Go.Proofs.Ytkcpkecaliegfaa.P
open Go.RowKit Go.Proofs.YtkcpkecaliegfaaW.PrintWords Go.Proofs.YtkcpkecaliegfaaW.PrintLast Go.Proofs.YtkcpkecaliegfaaW.PrintMore

theorem BwtBack_ev (l : List ByteArray) (hs : ∀ s ∈ l, s.size ≤ 140737488351232) (hl : l.length * 16 ≤ 140737488351232) : Ev (fun k => scriniumlaw4_BwtBack.f k l) true := by
  have ht : Ev (fun k => scriniumlaw4_BwtBack.j0 k l true) true := by
    refine Ev.step (fun k => ?_) (Ev.bind alive4_ev (Ev.now _))
    rw [scriniumlaw4_BwtBack.j0, if_pos rfl]
  unfold scriniumlaw4_BwtBack.f
  refine Ev.bind (few_ev l hs hl) ?_
  by_cases hf : fewB l = true
  case neg => exact ev_else hf ht
  refine ev_if hf (ev_some ?_)
  by_cases hR : rightB l = true
  case neg => exact ev_else hR ht
  refine ev_if hR ?_
  refine Ev.bind alive4_ev ?_
  show Ev (fun k => scriniumlaw4_BwtBack.j0 k l false) true
  have hlen := right_len hR
  refine Ev.step (f := fun k => (rows_Symbols.f k l).bind fun t310 => _) (fun k => by rw [scriniumlaw4_BwtBack.j0, if_neg (by simp)]) ?_
  refine Ev.bind (symbols_ev l) ?_
  refine Ev.bind (docs_back l hR) ?_
  refine ev_if rfl ?_
  refine Ev.bind (ev_is (sameTexts_ev l l (by omega)) (decide_eq_true rfl)) ?_
  exact Ev.now _
theorem BwtBack_all (A0 : Option Addr) (c0 : Nat) (l0 : List ByteArray) (w : World) (hC : Kd.C Kd.string w A0 l0.length l0) (hc : l0.length ≤ c0) (hs : ∀ s ∈ l0, s.size ≤ 140737488351232) (hl : l0.length * 16 ≤ 140737488351232) :
    Calls Try.prog 10 #[.slice A0 l0.length c0] w fun e w' => e = .returned (.bool true) ∧ Below w.heap.size w w' := by
  obtain ⟨k, h⟩ := (BwtBack_ev l0 hs hl).rounds
  exact scriniumlaw4_BwtBack.calls k A0 c0 l0 true w hC hc h
end Go.Proofs.Ytkcpkecaliegfaa.P
