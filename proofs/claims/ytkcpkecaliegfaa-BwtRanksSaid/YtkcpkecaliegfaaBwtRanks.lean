/- The plain law of BwtRanks, and its walk. Conditions: the row's. -/
import Derived.Test.YtkcpkecaliegfaaBwtC
import Derived.Test.YtkcpkecaliegfaaP16
set_option linter.unusedVariables false
set_option linter.unusedSimpArgs false
namespace Go.Proofs.Ytkcpkecaliegfaa.P
open Go.RowKit Go.Proofs.YtkcpkecaliegfaaW.PrintWords Go.Proofs.YtkcpkecaliegfaaW.PrintLast Go.Proofs.YtkcpkecaliegfaaW.PrintMore

theorem ranks_l (l : List Int) (hn : l.length ≤ 120) (hc : colB l = true) (x : Int) : ∀ (m j : Nat), m = l.length - j → j ≤ l.length →
    Ev (fun k => scriniumlaw4_BwtRanks.l0 k l x (rank x j l : Int) (l.length : Int) (j : Int)) true := by
  intro m
  induction m with
  | zero =>
    intro j hm hj
    obtain rfl : j = l.length := by omega
    have c1 : clampN (wrap64 ((l.length : Int) + 5)) l.length = l.length := by
      rw [w64i _ (by omega)]
      unfold clampN mn mx
      split <;> split <;> omega
    have c2 : clampN (-5) l.length = 0 := by
      unfold clampN mn mx
      split <;> split <;> omega
    refine Ev.step (f := fun k => (bwt_Rank.f k x (wrap64 ((l.length : Int) + 5)) l).bind fun t351 => _) (fun k => by rw [scriniumlaw4_BwtRanks.l0, if_neg (by omega)]) ?_
    refine Ev.bind (show Ev (fun k => bwt_Rank.f k x (wrap64 ((l.length : Int) + 5)) l) (rank x l.length l : Int) from ⟨l.length + 1, fun k hk => by
      show bwt_Rank.f k x (wrap64 ((l.length : Int) + 5)) l = _
      rw [rank_ok l x _ (by omega) k hk, hc, if_pos rfl, c1]⟩) ?_
    refine ev_if rfl ?_
    refine Ev.bind (show Ev (fun k => bwt_Rank.f k x (-5) l) (0 : Int) from ⟨l.length + 1, fun k hk => by
      show bwt_Rank.f k x (-5) l = _
      rw [rank_ok l x _ (by omega) k hk, hc, if_pos rfl, c2]
      rfl⟩) ?_
    exact Ev.now _
  | succ m ih =>
    intro j hm hj
    have hjl : j < l.length := by omega
    have hrec := ih (j + 1) (by omega) (by omega)
    have hle := rank_le x j l
    have hr : rank x (j + 1) l = rank x j l + if decide (l[j] = x) = true then 1 else 0 := by
      unfold rank
      rw [List.take_succ_eq_append_getElem hjl, List.countP_append, List.countP_cons, List.countP_nil, Nat.zero_add]
    rw [hr] at hrec
    refine Ev.step (f := fun k => (bwt_Rank.f k x (j : Int) l).bind fun t353 => _) (fun k => by rw [scriniumlaw4_BwtRanks.l0, if_pos (by omega)]) ?_
    refine Ev.bind (rank_ev l (by omega) hc x j (by omega)) ?_
    refine ev_if rfl (ev_if (by omega) (ev_if (by omega) ?_))
    rw [rd_get l j hjl, show wrap64 ((j : Int) + 1) = ((j + 1 : Nat) : Int) from w64 (j + 1) (by omega)]
    by_cases h : l[j] = x
    · refine ev_if h ?_
      rw [if_pos (decide_eq_true h)] at hrec
      rw [show wrap64 ((rank x j l : Int) + 1) = ((rank x j l + 1 : Nat) : Int) from w64 (_ + 1) (by omega)]
      exact hrec
    · refine ev_else h ?_
      rw [if_neg (by simpa using h)] at hrec
      exact hrec
theorem BwtRanks_ev (l : List Int) (x : Int) (hl : l.length * 8 ≤ 140737488351232) : Ev (fun k => scriniumlaw4_BwtRanks.f k l x) true := by
  have ht : Ev (fun k => scriniumlaw4_BwtRanks.j0 k l x true) true := by
    refine Ev.step (fun k => ?_) (Ev.bind alive4_ev (Ev.now _))
    rw [scriniumlaw4_BwtRanks.j0, if_pos rfl]
  unfold scriniumlaw4_BwtRanks.f
  by_cases h120 : (l.length : Int) > 120
  · exact ev_if h120 ht
  refine ev_else h120 ?_
  rw [col_f l (by omega)]
  refine ev_some ?_
  by_cases hc : colB l = true
  case neg => exact ev_else hc ht
  refine ev_if hc (Ev.bind alive4_ev ?_)
  show Ev (fun k => scriniumlaw4_BwtRanks.j0 k l x false) true
  have h := ranks_l l (by omega) hc x _ 0 rfl (Nat.zero_le _)
  refine Ev.step (fun k => ?_) h
  rw [scriniumlaw4_BwtRanks.j0, if_neg (by simp)]
  rfl
theorem BwtRanks_all (A0 : Option Addr) (c0 : Nat) (l0 : List Int) (a1 : Int) (w : World) (hC : Kd.C (Kd.int .i64) w A0 l0.length l0) (hc : l0.length ≤ c0) (hs : ∀ x ∈ l0, (Lit.int .i64 x).wf = true) (hl : l0.length * 8 ≤ 140737488351232) (_ : (Lit.int .i64 a1).wf = true) :
    Calls Try.prog 13 #[.slice A0 l0.length c0, .int .i64 a1] w fun e w' => e = .returned (.bool true) ∧ Below w.heap.size w w' := by
  obtain ⟨k, h⟩ := (BwtRanks_ev l0 a1 hl).rounds
  exact scriniumlaw4_BwtRanks.calls k A0 c0 l0 a1 true w hC hc h
end Go.Proofs.Ytkcpkecaliegfaa.P
