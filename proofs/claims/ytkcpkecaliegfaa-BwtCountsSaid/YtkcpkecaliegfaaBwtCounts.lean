/- The plain law of BwtCounts, and its walk. Conditions: the row's. -/
import Derived.Test.YtkcpkecaliegfaaBwtC
import Derived.Test.YtkcpkecaliegfaaP15
set_option linter.unusedVariables false
set_option linter.unusedSimpArgs false
namespace Go.Proofs.Ytkcpkecaliegfaa.P
open Go.RowKit Go.Proofs.YtkcpkecaliegfaaW.PrintWords Go.Proofs.YtkcpkecaliegfaaW.PrintLast Go.Proofs.YtkcpkecaliegfaaW.PrintMore

theorem counts_len (s : List Int) : (countsOf s).length = 257 := by unfold countsOf; rw [List.length_map, List.length_range]
theorem counts_get (s : List Int) (v : Nat) (hv : v < 257) : rd (countsOf s) (v : Int) = ((s.countP (fun y => decide (y = (v : Int))) : Nat) : Int) := by
  rw [rd_get _ v (by rw [counts_len]; exact hv)]
  simp only [countsOf, List.getElem_map, List.getElem_range]
theorem before_succ (s : List Int) (v : Int) : before (v + 1) s = before v s + s.countP (fun y => decide (y = v)) := by
  unfold before
  rw [← countP_split]
  · apply List.countP_congr
    intro y _
    rw [Bool.or_eq_true, decide_eq_true_eq, decide_eq_true_eq, decide_eq_true_eq]
    omega
  · intro y h
    rw [decide_eq_true_eq] at h
    exact decide_eq_false (by omega)
theorem col_mem (s : List Int) (hc : colB s = true) (y : Int) (hy : y ∈ s) : 0 ≤ y ∧ y ≤ 256 := by
  unfold colB at hc
  rw [Bool.not_eq_true'] at hc
  have h1 := List.any_eq_false.1 hc _ hy
  unfold badB at h1
  simp at h1
  omega
theorem before_zero (s : List Int) (hc : colB s = true) : before 0 s = 0 := by
  unfold before
  refine List.countP_eq_zero.2 fun y hy => ?_
  have := col_mem s hc y hy
  rw [decide_eq_false (by omega)]
  decide
theorem before_all (s : List Int) (hc : colB s = true) : before 257 s = s.length := by
  unfold before
  refine List.countP_eq_length.2 fun y hy => ?_
  have := col_mem s hc y hy
  exact decide_eq_true (by omega)
theorem before_ev (s : List Int) (hn : s.length ≤ 1000000) (hc : colB s = true) (x : Int) : Ev (fun k => bwt_Before.f k x s) (before x s : Int) := ⟨s.length + 1, fun k hk => by
  show bwt_Before.f k x s = _
  rw [before_ok s x hn k hk, hc, if_pos rfl]⟩
theorem counts_end (l : List Int) (hn : l.length ≤ 160) (hc : colB l = true) (v : Nat) (hv : v < 257) :
    Ev (fun k => (bwt_Before.f k (wrap64 ((v : Int) + 1)) l).bind fun t341 => ((bwt_Before.f k (v : Int) l).bind fun t342 => (if 0 ≤ (v : Int) then (if (v : Int) < ((countsOf l).length : Int) then (if t341 = (wrap64 (t342 + (rd (countsOf l) (v : Int)))) then ((bwt_Before.f k 0 l).bind fun t344 => (if t344 = 0 then ((bwt_Before.f k 257 l).bind fun t345 => (if t345 = (l.length : Int) then ((bwt_Rank.f k (v : Int) (l.length : Int) l).bind fun t346 => (some (t346 == (rd (countsOf l) (v : Int))))) else (some false))) else (some false))) else (some false)) else (none)) else (none)))) true := by
  have hle := before_le ((v : Int) + 1) l
  have hsu := before_succ l (v : Int)
  rw [w64i _ (by omega)]
  refine Ev.bind (before_ev l (by omega) hc _) ?_
  refine Ev.bind (before_ev l (by omega) hc _) ?_
  rw [counts_get l v hv]
  refine ev_if (by omega) (ev_if (by rw [counts_len]; omega) (ev_if (by rw [← Int.natCast_add, ← hsu, w64 _ (by omega)]) ?_))
  refine Ev.bind (ev_is (before_ev l (by omega) hc 0) (by rw [before_zero l hc]; rfl)) (ev_if rfl ?_)
  refine Ev.bind (ev_is (before_ev l (by omega) hc 257) (by rw [before_all l hc])) (ev_if rfl ?_)
  refine Ev.bind (rank_ev l (by omega) hc (v : Int) l.length (Nat.le_refl _)) ?_
  unfold rank
  rw [List.take_length, beq_self_eq_true]
  exact Ev.now _
theorem sums_l (l : List Int) (hn : l.length ≤ 160) (hc : colB l = true) (v : Nat) (hv : v < 257) : ∀ (m j : Nat), m = 257 - j → j ≤ 257 →
    Ev (fun k => scriniumlaw4_BwtCounts.l0 k l (v : Int) (countsOf l) (before (j : Int) l : Int) (countsOf l) ((countsOf l).length : Int) (j : Int)) true := by
  have hcl := counts_len l
  intro m
  induction m with
  | zero =>
    intro j hm hj
    obtain rfl : j = 257 := by omega
    have hb := before_all l hc
    refine Ev.step (fun k => ?_) (counts_end l hn hc v hv)
    rw [scriniumlaw4_BwtCounts.l0, if_neg (by omega), if_pos (show (before ((257 : Nat) : Int) l : Int) = (l.length : Int) from congrArg Int.ofNat hb)]
  | succ m ih =>
    intro j hm hj
    have hrec := ih (j + 1) (by omega) (by omega)
    have hsu := before_succ l (j : Int)
    have hle := before_le ((j : Int) + 1) l
    refine Ev.step (fun k => ?_) hrec
    rw [scriniumlaw4_BwtCounts.l0, if_pos (by omega), if_pos (by omega), if_pos (by omega), counts_get l j (by omega), ← Int.natCast_add, ← hsu, w64 _ (by omega), show wrap64 ((j : Int) + 1) = ((j + 1 : Nat) : Int) from w64 (j + 1) (by omega)]
    rfl
theorem BwtCounts_ev (l : List Int) (x : Int) (hl : l.length * 8 ≤ 140737488351232) : Ev (fun k => scriniumlaw4_BwtCounts.f k l x) true := by
  have ht : Ev (fun k => scriniumlaw4_BwtCounts.j0 k l x true) true := by
    refine Ev.step (fun k => ?_) (Ev.bind alive4_ev (Ev.now _))
    rw [scriniumlaw4_BwtCounts.j0, if_pos rfl]
  unfold scriniumlaw4_BwtCounts.f
  by_cases h160 : (l.length : Int) > 160
  · exact ev_if h160 ht
  refine ev_else h160 ?_
  by_cases h0 : x < 0
  · exact ev_if h0 ht
  refine ev_else h0 ?_
  by_cases h1 : x ≥ 257
  · exact ev_if h1 ht
  refine ev_else h1 ?_
  rw [col_f l (by omega)]
  refine ev_some ?_
  by_cases hc : colB l = true
  case neg => exact ev_else hc ht
  refine ev_if hc (Ev.bind alive4_ev ?_)
  show Ev (fun k => scriniumlaw4_BwtCounts.j0 k l x false) true
  obtain ⟨v, rfl⟩ : ∃ v : Nat, x = v := ⟨x.toNat, by omega⟩
  have h := sums_l l (by omega) hc v (by omega) _ 0 rfl (by omega)
  have hz : before ((0 : Nat) : Int) l = 0 := before_zero l hc
  rw [hz] at h
  refine Ev.step (f := fun k => (bwt_Counts.f k l).bind fun t337 => _) (fun k => by rw [scriniumlaw4_BwtCounts.j0, if_neg (by simp)]) ?_
  refine Ev.bind (ev_is (counts_ev l (by omega)) (if_pos hc)) ?_
  exact ev_if (by rw [counts_len]; rfl) h
theorem BwtCounts_all (A0 : Option Addr) (c0 : Nat) (l0 : List Int) (a1 : Int) (w : World) (hC : Kd.C (Kd.int .i64) w A0 l0.length l0) (hc : l0.length ≤ c0) (hs : ∀ x ∈ l0, (Lit.int .i64 x).wf = true) (hl : l0.length * 8 ≤ 140737488351232) (_ : (Lit.int .i64 a1).wf = true) :
    Calls Try.prog 12 #[.slice A0 l0.length c0, .int .i64 a1] w fun e w' => e = .returned (.bool true) ∧ Below w.heap.size w w' := by
  obtain ⟨k, h⟩ := (BwtCounts_ev l0 a1 hl).rounds
  exact scriniumlaw4_BwtCounts.calls k A0 c0 l0 a1 true w hC hc h
end Go.Proofs.Ytkcpkecaliegfaa.P
