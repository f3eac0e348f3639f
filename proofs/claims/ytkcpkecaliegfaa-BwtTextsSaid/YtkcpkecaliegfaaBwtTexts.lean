/- The plain law of BwtTexts, and its walk. Conditions: the row's. -/
import Derived.Test.YtkcpkecaliegfaaBwtC
import Derived.Test.YtkcpkecaliegfaaP17
set_option linter.unusedVariables false
set_option linter.unusedSimpArgs false
namespace Go.Proofs.Ytkcpkecaliegfaa.P
open Go.RowKit Go.Proofs.YtkcpkecaliegfaaW.PrintWords Go.Proofs.YtkcpkecaliegfaaW.PrintLast Go.Proofs.YtkcpkecaliegfaaW.PrintMore

theorem texts_l (l : List ByteArray) (hl : rightB l = true) : ∀ (m j : Nat), m = l.length - j → j ≤ l.length → Ev (fun k => scriniumlaw4_BwtTexts.l0 k l (symbolsOf l) (l.length : Int) (j : Int)) true := by
  have hlen := right_len hl
  have hsl := symbols_le l
  intro m
  induction m with
  | zero =>
    intro j hm hj
    obtain rfl : j = l.length := by omega
    have h1 : textB (symbolsOf l) (l.length : Int) = (⟨#[]⟩, false) := by
      unfold textB
      rw [if_neg (fun h => by have := h.2.2; rw [rank_zero l hl] at this; omega)]
    have h2 : textB (symbolsOf l) (-1) = (⟨#[]⟩, false) := by
      unfold textB
      rw [if_neg (fun h => by have := h.2.1; omega)]
    refine Ev.step (f := fun _ => some true) (fun k => ?_) (Ev.now _)
    rw [scriniumlaw4_BwtTexts.l0, if_neg (by omega), text_f _ (by omega), text_f _ (by omega), h1, h2]
    rfl
  | succ m ih =>
    intro j hm hj
    have hjl : j < l.length := by omega
    have hrec := ih (j + 1) (by omega) (by omega)
    refine Ev.step (fun k => ?_) hrec
    rw [scriniumlaw4_BwtTexts.l0, if_pos (by omega), text_f _ (by omega), text_back l hl j hjl, Option.bind_some, if_pos rfl, if_pos (by omega), if_pos (by omega), rd_doc l j hjl, if_pos rfl, show wrap64 ((j : Int) + 1) = ((j + 1 : Nat) : Int) from w64 (j + 1) (by omega)]
theorem BwtTexts_ev (l : List ByteArray) (hs : ∀ s ∈ l, s.size ≤ 140737488351232) (hl : l.length * 16 ≤ 140737488351232) : Ev (fun k => scriniumlaw4_BwtTexts.f k l) true := by
  have ht : Ev (fun k => scriniumlaw4_BwtTexts.j0 k l true) true := by
    refine Ev.step (fun k => ?_) (Ev.bind alive4_ev (Ev.now _))
    rw [scriniumlaw4_BwtTexts.j0, if_pos rfl]
  unfold scriniumlaw4_BwtTexts.f
  refine Ev.bind (few_ev l hs hl) ?_
  by_cases hf : fewB l = true
  case neg => exact ev_else hf ht
  refine ev_if hf (ev_some ?_)
  by_cases hR : rightB l = true
  case neg => exact ev_else hR ht
  refine ev_if hR ?_
  refine Ev.bind alive4_ev ?_
  show Ev (fun k => scriniumlaw4_BwtTexts.j0 k l false) true
  refine Ev.step (fun k => ?_) (Ev.bind (f := fun k t362 => scriniumlaw4_BwtTexts.l0 k l t362 (l.length : Int) 0) (symbols_ev l) (texts_l l hR _ 0 rfl (Nat.zero_le _)))
  rw [scriniumlaw4_BwtTexts.j0, if_neg (by simp)]
theorem BwtTexts_all (A0 : Option Addr) (c0 : Nat) (l0 : List ByteArray) (w : World) (hC : Kd.C Kd.string w A0 l0.length l0) (hc : l0.length ≤ c0) (hs : ∀ s ∈ l0, s.size ≤ 140737488351232) (hl : l0.length * 16 ≤ 140737488351232) :
    Calls Try.prog 15 #[.slice A0 l0.length c0] w fun e w' => e = .returned (.bool true) ∧ Below w.heap.size w w' := by
  obtain ⟨k, h⟩ := (BwtTexts_ev l0 hs hl).rounds
  exact scriniumlaw4_BwtTexts.calls k A0 c0 l0 true w hC hc h
end Go.Proofs.Ytkcpkecaliegfaa.P
