/- The plain law of BwtSizes, and its walk. Conditions: the row's. -/
import Derived.Test.YtkcpkecaliegfaaBwtC
import Derived.Test.YtkcpkecaliegfaaP20
set_option linter.unusedVariables false
set_option linter.unusedSimpArgs false
namespace Go.Proofs.Ytkcpkecaliegfaa.P
open Go.RowKit Go.Proofs.YtkcpkecaliegfaaW.PrintWords Go.Proofs.YtkcpkecaliegfaaW.PrintLast Go.Proofs.YtkcpkecaliegfaaW.PrintMore

theorem sizes_end (l : List ByteArray) (hl : rightB l = true) (h0 : l.length ≠ 0) (x : Int) (less : Bool) : Ev (fun k => scriniumlaw4_BwtSizes.j2 k l x less (symbolsOf l) ((symbolsOf l).length : Int) false) true := by
  have hsl := symbols_le l
  have hlen := right_len hl
  have hsn : (symbolsOf l).length = l.length + sumTo l := (symbolsOf_length l).trans (sorted_length l hl)
  have key : ∀ m : List Int, m.length ≤ 1000 → m.length ≠ (symbolsOf l).length → Ev (fun k => (bwt_Docs.f k m).bind fun bt436 => (if bt436.2 = true then ((scriniumbook_SameTexts.f k bt436.1 l).bind fun t440 => (some (!t440))) else (some true))) true := by
    intro m hm hne
    obtain ⟨r, hr, hcase⟩ := docs_any m (by omega)
    refine Ev.bind hr ?_
    rcases hcase with rfl | ⟨d, rfl, hd⟩
    · exact ev_else (by decide) (Ev.now _)
    · have hdl : d ≠ l := fun h => hne (by rw [← hd, h])
      refine ev_if rfl ?_
      refine Ev.bind (ev_is (sameTexts_ev d l (by omega)) (decide_eq_false hdl)) ?_
      exact Ev.now _
  cases less with
  | true =>
    have hw : wrap64 (((symbolsOf l).length : Int) - 1) = (((symbolsOf l).length - 1 : Nat) : Int) := by rw [w64i _ (by omega)]; omega
    refine Ev.step (fun k => ?_) (key ((symbolsOf l).take ((symbolsOf l).length - 1)) (by rw [List.length_take]; omega) (by rw [List.length_take]; omega))
    rw [scriniumlaw4_BwtSizes.j2, if_neg (by simp), if_pos (by show 0 + (symbolsOf l).length < _; omega), Option.bind_some, List.nil_append, if_pos (by omega), if_pos rfl, hw, if_pos (by omega), if_pos (by omega), Int.toNat_natCast]
  | false =>
    refine Ev.step (fun k => ?_) (key (symbolsOf l ++ [x]) (by rw [List.length_append, List.length_singleton]; omega) (by rw [List.length_append, List.length_singleton]; omega))
    rw [scriniumlaw4_BwtSizes.j2, if_neg (by simp), if_pos (by show 0 + (symbolsOf l).length < _; omega), Option.bind_some, List.nil_append, if_pos (by omega), if_neg (by simp)]
theorem sizes_l (l : List ByteArray) (hl : rightB l = true) (h0 : l.length ≠ 0) (hf : sumTo l ≤ 160) (x : Int) (less : Bool) : ∀ (m j : Nat), m = l.length - j → j ≤ l.length →
    Ev (fun k => scriniumlaw4_BwtSizes.l0 k l x less (symbolsOf l) ((l.length + sumTo (l.take j) : Nat) : Int) l (l.length : Int) (j : Int)) true := by
  have hlen := right_len hl
  have hsn : (symbolsOf l).length = l.length + sumTo l := (symbolsOf_length l).trans (sorted_length l hl)
  intro m
  induction m with
  | zero =>
    intro j hm hj
    obtain rfl : j = l.length := by omega
    have h := sizes_end l hl h0 x less
    refine Ev.step (fun k => ?_) h
    rw [scriniumlaw4_BwtSizes.l0, if_neg (by omega), List.take_length, ← hsn, if_pos rfl]
    congr 1
    rw [beq_eq_false_iff_ne]
    omega
  | succ m ih =>
    intro j hm hj
    have hjl : j < l.length := by omega
    have hrec := ih (j + 1) (by omega) (by omega)
    have h1 := sum_take l j hjl
    have h2 := sum_take_le l (j + 1)
    refine Ev.step (fun k => ?_) hrec
    rw [scriniumlaw4_BwtSizes.l0, if_pos (by omega), if_pos (by omega), if_pos (by omega), rd_doc l j hjl, show wrap64 ((j : Int) + 1) = ((j + 1 : Nat) : Int) from w64 (j + 1) (by omega), h1]
    rw [show ((l.length + sumTo (l.take j) : Nat) : Int) + (l[j].size : Int) = ((l.length + (sumTo (l.take j) + l[j].size) : Nat) : Int) by omega, w64 _ (by omega)]
theorem BwtSizes_ev (l : List ByteArray) (x : Int) (less : Bool) (hs : ∀ s ∈ l, s.size ≤ 140737488351232) (hl : l.length * 16 ≤ 140737488351232) : Ev (fun k => scriniumlaw4_BwtSizes.f k l x less) true := by
  have ht : Ev (fun k => scriniumlaw4_BwtSizes.j0 k l x less true) true := by
    refine Ev.step (fun k => ?_) (Ev.bind alive4_ev (Ev.now _))
    rw [scriniumlaw4_BwtSizes.j0, if_pos rfl]
  unfold scriniumlaw4_BwtSizes.f
  refine Ev.bind (few_ev l hs hl) ?_
  by_cases hf : fewB l = true
  case neg => exact ev_else hf ht
  refine ev_if hf (ev_some ?_)
  by_cases hR : rightB l = true
  case neg => exact ev_else hR ht
  refine ev_if hR ?_
  by_cases h0 : (l.length : Int) = 0
  · exact ev_if h0 ht
  refine ev_else h0 ?_
  by_cases h1 : x < 0
  · exact ev_if h1 ht
  refine ev_else h1 ?_
  by_cases h2 : x ≥ 257
  · exact ev_if h2 ht
  refine ev_else h2 ?_
  refine Ev.bind alive4_ev ?_
  show Ev (fun k => scriniumlaw4_BwtSizes.j0 k l x less false) true
  have hsum : sumTo l ≤ 160 := by
    unfold fewB at hf
    rw [Bool.and_eq_true, decide_eq_true_eq, decide_eq_true_eq] at hf
    exact hf.2
  have h := sizes_l l hR (by omega) hsum x less _ 0 rfl (Nat.zero_le _)
  refine Ev.step (fun k => ?_) (Ev.bind (f := fun k t422 => scriniumlaw4_BwtSizes.l0 k l x less t422 (l.length : Int) l (l.length : Int) 0) (symbols_ev l) h)
  rw [scriniumlaw4_BwtSizes.j0, if_neg (by simp)]
theorem BwtSizes_all (A0 : Option Addr) (c0 : Nat) (l0 : List ByteArray) (a1 : Int) (a2 : Bool) (w : World) (hC : Kd.C Kd.string w A0 l0.length l0) (hc : l0.length ≤ c0) (hs : ∀ s ∈ l0, s.size ≤ 140737488351232) (hl : l0.length * 16 ≤ 140737488351232) (_ : (Lit.int .i64 a1).wf = true) :
    Calls Try.prog 18 #[.slice A0 l0.length c0, .int .i64 a1, .bool a2] w fun e w' => e = .returned (.bool true) ∧ Below w.heap.size w w' := by
  obtain ⟨k, h⟩ := (BwtSizes_ev l0 a1 a2 hs hl).rounds
  exact scriniumlaw4_BwtSizes.calls k A0 c0 l0 a1 a2 true w hC hc h
end Go.Proofs.Ytkcpkecaliegfaa.P
