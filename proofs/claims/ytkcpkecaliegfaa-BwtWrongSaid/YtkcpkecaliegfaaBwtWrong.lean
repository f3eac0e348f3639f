/- The plain law of BwtWrong, and its walk. Conditions: the row's. -/
import Derived.Test.YtkcpkecaliegfaaBwtC
import Derived.Test.YtkcpkecaliegfaaP19
set_option linter.unusedVariables false
set_option linter.unusedSimpArgs false
namespace Go.Proofs.Ytkcpkecaliegfaa.P
open Go.RowKit Go.Proofs.YtkcpkecaliegfaaW.PrintWords Go.Proofs.YtkcpkecaliegfaaW.PrintLast Go.Proofs.YtkcpkecaliegfaaW.PrintMore

theorem BwtWrong_ev (l : List Int) (bad s i : Int) (hl : l.length * 8 ≤ 140737488351232) : Ev (fun k => scriniumlaw4_BwtWrong.f k l bad s i) true := by
  have ht : Ev (fun k => scriniumlaw4_BwtWrong.j0 k l bad s i true) true := by
    refine Ev.step (fun k => ?_) (Ev.bind alive4_ev (Ev.now _))
    rw [scriniumlaw4_BwtWrong.j0, if_pos rfl]
  unfold scriniumlaw4_BwtWrong.f
  by_cases h100 : (l.length : Int) > 100
  · exact ev_if h100 ht
  refine ev_else h100 ?_
  have key : badB bad = true → Ev (fun k => scriniumlaw4_BwtWrong.j0 k l bad s i false) true := by
    intro hb
    have hc : colB (l ++ [bad]) = false := by
      unfold colB
      rw [List.any_append, List.any_cons, hb, Bool.true_or, Bool.or_true]
      rfl
    have hlen : (l ++ [bad]).length ≤ 1000000 := by rw [List.length_append, List.length_singleton]; omega
    obtain ⟨M, hM⟩ : ∃ M, l ++ [bad] = M := ⟨_, rfl⟩
    rw [hM] at hc hlen
    refine Ev.step (f := fun k => (bwt_Next.f k i M).bind fun bt404 => _) (fun k => by
      rw [scriniumlaw4_BwtWrong.j0, if_neg (by simp), if_pos (by show 0 + l.length < _; omega), Option.bind_some, List.nil_append, if_pos (by omega), Option.bind_some, hM]) ?_
    refine Ev.bind ⟨1, fun k hk => next_none M hlen i (Or.inl hc) k hk⟩ ?_
    have hT : textB M 0 = (⟨#[]⟩, false) := by
      unfold textB
      rw [if_neg (fun h => by have := h.1; rw [hc] at this; cases this)]
    rw [text_f M hlen, hT]
    refine ev_some ?_
    have hD : Ev (fun k => bwt_Docs.f k M) ([], false) := by
      have hcf : bwt_Right.f M = some (colB M) := col_f _ hlen
      unfold bwt_Docs.f
      rw [hcf, hc]
      exact ev_some (ev_else (by decide) (Ev.now _))
    refine Ev.bind hD ?_
    rw [col_f M hlen, hc]
    refine ev_some (ev_else (by decide) ?_)
    refine Ev.bind (ev_is (counts_ev M hlen) (show _ = ([] : List Int) by rw [hc]; rfl)) ?_
    refine ev_if rfl ?_
    refine Ev.bind (show Ev (fun k => bwt_Rank.f k s i M) (0 : Int) from ⟨M.length + 1, fun k hk => by
      show bwt_Rank.f k s i M = _
      rw [rank_ok M s i hlen k hk, hc]
      rfl⟩) ?_
    refine Ev.bind (show Ev (fun k => bwt_Before.f k s M) (0 : Int) from ⟨M.length + 1, fun k hk => by
      show bwt_Before.f k s M = _
      rw [before_ok M s hlen k hk, hc]
      rfl⟩) ?_
    refine ev_if (by rw [w64i _ (by omega)]; rfl) (ev_else (by decide) (ev_else (by decide) (Ev.now _)))
  by_cases h0 : bad ≥ 0
  · refine ev_if h0 ?_
    by_cases h1 : bad < 257
    · exact ev_if h1 ht
    · refine ev_else h1 (Ev.bind alive4_ev (key ?_))
      unfold badB
      rw [decide_eq_true (show 257 ≤ bad by omega), Bool.or_true]
  · refine ev_else h0 (Ev.bind alive4_ev (key ?_))
    unfold badB
    rw [decide_eq_true (show bad < 0 by omega), Bool.true_or]
theorem BwtWrong_all (A0 : Option Addr) (c0 : Nat) (l0 : List Int) (a1 a2 a3 : Int) (w : World) (hC : Kd.C (Kd.int .i64) w A0 l0.length l0) (hc : l0.length ≤ c0) (hs : ∀ x ∈ l0, (Lit.int .i64 x).wf = true) (hl : l0.length * 8 ≤ 140737488351232) (_ : (Lit.int .i64 a1).wf = true) (_ : (Lit.int .i64 a2).wf = true) (_ : (Lit.int .i64 a3).wf = true) :
    Calls Try.prog 17 #[.slice A0 l0.length c0, .int .i64 a1, .int .i64 a2, .int .i64 a3] w fun e w' => e = .returned (.bool true) ∧ Below w.heap.size w w' := by
  obtain ⟨k, h⟩ := (BwtWrong_ev l0 a1 a2 a3 hl).rounds
  exact scriniumlaw4_BwtWrong.calls k A0 c0 l0 a1 a2 a3 true w hC hc h
end Go.Proofs.Ytkcpkecaliegfaa.P
