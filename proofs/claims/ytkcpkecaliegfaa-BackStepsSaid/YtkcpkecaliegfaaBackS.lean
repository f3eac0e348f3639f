/- The plain law of BackSteps, and its walk. Conditions: the row's. -/
import Derived.Test.YtkcpkecaliegfaaBackB
import Derived.Test.YtkcpkecaliegfaaP9
set_option linter.unusedVariables false
set_option linter.unusedSimpArgs false
namespace Go.Proofs.Ytkcpkecaliegfaa.P
open Go.RowKit Go.Proofs.YtkcpkecaliegfaaW.PrintWords Go.Proofs.YtkcpkecaliegfaaW.PrintLast Go.Proofs.YtkcpkecaliegfaaW.PrintMore

theorem occ_nil_list (l : List ByteArray) (hl : rightB l = true) : occOf l [] = (sortedRows l).length := by rw [occ_nil, (sortedRows_perm l hl).length_eq]
theorem steps_end (l : List ByteArray) (hl : rightB l = true) (p : ByteArray) (hp : p.size ≤ 20) (j : Nat) (hj : j ≤ p.size) (he : j = 0 ∨ occOf l ((bytesOf p).drop j) = 0) :
    Ev (fun k => (back_Range.f k p (symbolsOf l)).bind fun bt202 => (if ((lowOf l ((bytesOf p).drop j) : Nat) : Int) ≥ (highOf l ((bytesOf p).drop j) : Int) then (if bt202.1 = 0 then (some (bt202.2 == 0)) else (some false)) else (if bt202.1 = (lowOf l ((bytesOf p).drop j) : Int) then (some (bt202.2 == (highOf l ((bytesOf p).drop j) : Int))) else (some false)))) true := by
  refine Ev.bind (range_ev l hl p (by omega)) ?_
  have hq := high_eq l hl ((bytesOf p).drop j)
  have hle := occ_drop_le l hl (bytesOf p) (fun x hx => (bytes_pos p x hx).1) j
  unfold rangeOf
  by_cases h : occOf l ((bytesOf p).drop j) = 0
  · rw [if_pos (show occOf l (bytesOf p) = 0 by omega)]
    refine ev_if (by omega) ?_
    exact Ev.now _
  · have hj0 : j = 0 := by omega
    subst hj0
    rw [List.drop_zero] at *
    rw [if_neg h]
    refine ev_else (by omega) ?_
    refine ev_if rfl ?_
    dsimp only
    rw [beq_self_eq_true]
    exact Ev.now _
theorem steps_l (l : List ByteArray) (hl : rightB l = true) (p : ByteArray) (hp : p.size ≤ 20) : ∀ j : Nat, j ≤ p.size →
    Ev (fun k => scriniumlaw5_BackSteps.l0 k p (symbolsOf l) (lowOf l ((bytesOf p).drop j) : Int) (highOf l ((bytesOf p).drop j) : Int) ((j : Int) - 1)) true := by
  have hsl := symbols_le l
  have hln := symbolsOf_length l
  intro j
  induction j with
  | zero =>
    intro hj
    refine Ev.step (fun k => ?_) (steps_end l hl p hp 0 (Nat.zero_le _) (Or.inl rfl))
    rw [scriniumlaw5_BackSteps.l0, if_neg (by omega)]
  | succ j ih =>
    intro hj
    have hb := bt_range p (j : Int)
    have hd := drop_cons p j (by omega)
    have hlo := low_cons l hl (bt p (j : Int)) hb.1 ((bytesOf p).drop (j + 1))
    have hhi := high_cons l hl (bt p (j : Int)) hb.1 ((bytesOf p).drop (j + 1))
    rw [← hd] at hlo hhi
    have l1 := low_le l ((bytesOf p).drop (j + 1))
    have l2 := high_le l ((bytesOf p).drop (j + 1))
    have hq := high_eq l hl ((bytesOf p).drop (j + 1))
    by_cases h : occOf l ((bytesOf p).drop (j + 1)) = 0
    · refine Ev.step (fun k => ?_) (steps_end l hl p hp (j + 1) hj (Or.inr h))
      rw [scriniumlaw5_BackSteps.l0, if_pos (by omega), if_neg (by omega)]
    · have hst : Ev (fun k => back_Step.f k (wrap64 (wrap64 (bt p (j : Int)) + 1)) (lowOf l ((bytesOf p).drop (j + 1)) : Int) (highOf l ((bytesOf p).drop (j + 1)) : Int) (symbolsOf l)) ((lowOf l ((bytesOf p).drop j) : Int), (highOf l ((bytesOf p).drop j) : Int)) := by
        rw [w64i (bt p (j : Int)) (by omega), w64i (bt p (j : Int) + 1) (by omega)]
        refine ⟨(symbolsOf l).length + 2, fun k hk => ?_⟩
        have hst := step_ok (symbolsOf l) (bt p (j : Int) + 1) (lowOf l ((bytesOf p).drop (j + 1)) : Int) (highOf l ((bytesOf p).drop (j + 1)) : Int) (by omega) (col_symbols l) (by omega) k hk
        rw [clamp_nat _ _ (by omega), clamp_nat _ _ (by omega), ← hlo, ← hhi] at hst
        exact hst
      refine Ev.step (fun k => ?_) (Ev.bind (f := fun k bt198 => scriniumlaw5_BackSteps.l0 k p (symbolsOf l) bt198.1 bt198.2 ((j : Int) - 1)) hst (ih (by omega)))
      rw [scriniumlaw5_BackSteps.l0, if_pos (by omega), if_pos (by omega), if_pos (by omega), if_pos (by omega), show ((j + 1 : Nat) : Int) - 1 = (j : Int) by omega, w64i ((j : Int) - 1) (by omega)]
theorem BackSteps_ev (l : List ByteArray) (p : ByteArray) (hs : ∀ s ∈ l, s.size ≤ 140737488351232) (hl : l.length * 16 ≤ 140737488351232) : Ev (fun k => scriniumlaw5_BackSteps.f k l p) true := by
  have ht : Ev (fun k => scriniumlaw5_BackSteps.j0 k l p true) true := by
    refine Ev.step (fun k => ?_) (Ev.bind alive5_ev (Ev.now _))
    rw [scriniumlaw5_BackSteps.j0, if_pos rfl]
  unfold scriniumlaw5_BackSteps.f
  refine Ev.bind (few_ev l hs hl) ?_
  by_cases hf : fewB l = true
  case neg => exact ev_else hf ht
  refine ev_if hf (ev_some ?_)
  by_cases hR : rightB l = true
  case neg => exact ev_else hR ht
  refine ev_if hR ?_
  by_cases hp : (p.size : Int) > 20
  · exact ev_if hp ht
  refine ev_else hp (Ev.bind alive5_ev ?_)
  show Ev (fun k => scriniumlaw5_BackSteps.j0 k l p false) true
  have h := steps_l l hR p (by omega) p.size (Nat.le_refl _)
  have hd : (bytesOf p).drop p.size = [] := drop_nil p p.size rfl
  rw [hd, low_nil, high_nil, ← symbolsOf_length] at h
  refine Ev.step (fun k => ?_) (Ev.bind (f := fun k t195 => scriniumlaw5_BackSteps.l0 k p t195 0 (t195.length : Int) ((p.size : Int) - 1)) (symbols_ev l) h)
  rw [scriniumlaw5_BackSteps.j0, if_neg (by simp), w64i ((p.size : Int) - 1) (by omega)]
theorem BackSteps_all (A0 : Option Addr) (c0 : Nat) (l0 : List ByteArray) (a1 : ByteArray) (w : World) (hC : Kd.C Kd.string w A0 l0.length l0) (hc : l0.length ≤ c0) (hs : ∀ s ∈ l0, s.size ≤ 140737488351232) (hl : l0.length * 16 ≤ 140737488351232) (_ : a1.size ≤ 140737488351232) :
    Calls Try.prog 6 #[.slice A0 l0.length c0, .string a1] w fun e w' => e = .returned (.bool true) ∧ Below w.heap.size w w' := by
  obtain ⟨k, h⟩ := (BackSteps_ev l0 a1 hs hl).rounds
  exact scriniumlaw5_BackSteps.calls k A0 c0 l0 a1 true w hC hc h
end Go.Proofs.Ytkcpkecaliegfaa.P
