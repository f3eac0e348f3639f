/- The plain law of BackTwice, and its walk. Conditions: the row's. -/
import Derived.Test.YtkcpkecaliegfaaBackB
import Derived.Test.YtkcpkecaliegfaaP10
set_option linter.unusedVariables false
set_option linter.unusedSimpArgs false
namespace Go.Proofs.Ytkcpkecaliegfaa.P
open Go.RowKit Go.Proofs.YtkcpkecaliegfaaW.PrintWords Go.Proofs.YtkcpkecaliegfaaW.PrintLast Go.Proofs.YtkcpkecaliegfaaW.PrintMore

theorem right_twice {l : List ByteArray} (h : rightB l = true) (hn : 2 * l.length ≤ 10) : rightB (l ++ l) = true := by
  unfold rightB at *
  rw [Bool.and_eq_true, decide_eq_true_eq, Bool.not_eq_true'] at h
  rw [List.length_append, decide_eq_true (by omega), List.any_append, h.2]
  rfl
theorem BackTwice_ev (l : List ByteArray) (p : ByteArray) (hs : ∀ s ∈ l, s.size ≤ 140737488351232) (hl : l.length * 16 ≤ 140737488351232) : Ev (fun k => scriniumlaw5_BackTwice.f k l p) true := by
  have ht : Ev (fun k => scriniumlaw5_BackTwice.j0 k l p true) true := by
    refine Ev.step (fun k => ?_) (Ev.bind alive5_ev (Ev.now _))
    rw [scriniumlaw5_BackTwice.j0, if_pos rfl]
  unfold scriniumlaw5_BackTwice.f
  refine Ev.bind (few_ev l hs hl) ?_
  by_cases hf : fewB l = true
  case neg => exact ev_else hf ht
  refine ev_if hf ?_
  by_cases h10 : wrap64 (2 * (l.length : Int)) > 10
  · exact ev_if h10 ht
  have h10' : 2 * l.length ≤ 10 := by
    rw [w64i _ (by omega)] at h10
    omega
  refine ev_else h10 (ev_some ?_)
  by_cases hR : rightB l = true
  case neg => exact ev_else hR ht
  refine ev_if hR ?_
  by_cases hp : (p.size : Int) > 20
  · exact ev_if hp ht
  refine ev_else hp (Ev.bind alive5_ev ?_)
  show Ev (fun k => scriniumlaw5_BackTwice.j0 k l p false) true
  have hR2 := right_twice hR h10'
  have o1 := occ_twice l (bytesOf p)
  have n1 := naive_len (l ++ l) (bytesOf p)
  have n2 := naive_len l (bytesOf p)
  have b1 := high_eq l hR (bytesOf p)
  have b2 := high_le l (bytesOf p)
  have b3 := sortedRows_le l
  refine Ev.step (f := fun k => (rows_Symbols.f k (l ++ l)).bind fun t214 => ((back_Count.f k p t214).bind fun t217 => ((rows_Symbols.f k l).bind fun t218 => ((back_Count.f k p t218).bind fun t221 => (if t217 = (wrap64 (2 * t221)) then ((back_Naive.f k p (l ++ l)).bind fun t222 => ((back_Naive.f k p l).bind fun t225 => (some ((t222.length : Int) == (wrap64 (2 * (t225.length : Int))))))) else (some false)))))) (fun k => ?_) ?_
  · rw [scriniumlaw5_BackTwice.j0, if_neg (by simp), if_pos (by show 0 + l.length < _; omega), Option.bind_some, List.nil_append, if_pos (by omega), Option.bind_some]
  · refine Ev.bind (symbols_ev (l ++ l)) (Ev.bind (count_ev _ hR2 p (by omega)) (Ev.bind (symbols_ev l) (Ev.bind (count_ev _ hR p (by omega)) ?_)))
    refine ev_if (by rw [w64i _ (by omega)]; omega) ?_
    refine Ev.bind (naive_ev _ hR2 p) (Ev.bind (naive_ev _ hR p) ?_)
    rw [n1, n2, w64i _ (by omega), o1]
    have e : ((2 * occOf l (bytesOf p) : Nat) : Int) = 2 * (occOf l (bytesOf p) : Int) := by omega
    rw [e, beq_self_eq_true]
    exact Ev.now _
theorem BackTwice_all (A0 : Option Addr) (c0 : Nat) (l0 : List ByteArray) (a1 : ByteArray) (w : World) (hC : Kd.C Kd.string w A0 l0.length l0) (hc : l0.length ≤ c0) (hs : ∀ s ∈ l0, s.size ≤ 140737488351232) (hl : l0.length * 16 ≤ 140737488351232) (_ : a1.size ≤ 140737488351232) :
    Calls Try.prog 7 #[.slice A0 l0.length c0, .string a1] w fun e w' => e = .returned (.bool true) ∧ Below w.heap.size w w' := by
  obtain ⟨k, h⟩ := (BackTwice_ev l0 a1 hs hl).rounds
  exact scriniumlaw5_BackTwice.calls k A0 c0 l0 a1 true w hC hc h
end Go.Proofs.Ytkcpkecaliegfaa.P
