/- What the document's Column, Rank and Before compute: the same as package bwt's. Conditions: the list is not too long. -/
import Derived.Test.YtkcpkecaliegfaaGreatBackZ
import Derived.Test.YtkcpkecaliegfaaGreatPb
set_option linter.unusedVariables false
set_option linter.unusedSimpArgs false
namespace Go.Proofs.YtkcpkecaliegfaaGreat.P
open Go.RowKit Go.Proofs.YtkcpkecaliegfaaGreatW.PrintWords Go.Proofs.YtkcpkecaliegfaaGreatW.PrintLast Go.Proofs.YtkcpkecaliegfaaGreatW.PrintMore

theorem refCol_l (s : List Int) (hn : s.length ≤ 1000000) : ∀ (m j k : Nat), m = s.length - j → j ≤ s.length → m + 1 ≤ k → scriniumref1_Column.l0 k s (j : Int) = some (!(s.drop j).any badB) := by
 intro m
 induction m with
 | zero =>
  intro j k hm hj hk
  obtain ⟨k1, rfl⟩ : ∃ k1, k = k1 + 1 := ⟨k - 1, by omega⟩
  obtain rfl : j = s.length := by omega
  rw [scriniumref1_Column.l0, if_neg (by omega), List.drop_eq_nil_of_le (Nat.le_refl _)]
  rfl
 | succ m ih =>
  intro j k hm hj hk
  obtain ⟨k1, rfl⟩ : ∃ k1, k = k1 + 1 := ⟨k - 1, by omega⟩
  have hjl : j < s.length := by omega
  have hrec := ih (j + 1) k1 (by omega) (by omega) (by omega)
  have hw : wrap64 ((j : Int) + 1) = ((j + 1 : Nat) : Int) := w64 (j + 1) (by omega)
  rw [scriniumref1_Column.l0, if_pos (by omega), if_pos (by omega), rd_get s j hjl, hw, List.drop_eq_getElem_cons hjl, List.any_cons]
  by_cases h1 : s[j] < 0
  ·rw [if_pos h1, show badB s[j] = true by unfold badB; rw [decide_eq_true h1]; rfl]
   rfl
  ·rw [if_neg h1]
   by_cases h2 : s[j] ≥ 257
   ·rw [if_pos h2, show badB s[j] = true by unfold badB; rw [decide_eq_true (show 257 ≤ s[j] from h2), Bool.or_true]]
    rfl
   ·rw [if_neg h2, hrec, show badB s[j] = false by unfold badB; rw [decide_eq_false h1, decide_eq_false (show ¬ 257 ≤ s[j] from h2)]; rfl, Bool.false_or]
theorem refCol_ev (s : List Int) (hn : s.length ≤ 1000000) : Ev (fun k => scriniumref1_Column.f k s) (colB s) := ⟨s.length + 1, fun k hk => refCol_l s hn s.length 0 k (by omega) (Nat.zero_le _) (by omega)⟩
theorem colB_end {s : List Int} (hn : s.length ≤ 1000000) {α : Type} (x y : α) : Ev (fun k => (scriniumref1_Column.f k s).bind fun t => if t = true then some x else some y) (if colB s then x else y) := by
 refine Ev.bind (refCol_ev s hn) ?_
 cases colB s with
 | true => exact Ev.congr (fun _ => if_pos rfl) (Ev.now _)
 | false => exact Ev.congr (fun _ => if_neg (by decide)) (Ev.now _)
theorem refBefore_l (s : List Int) (x : Int) (hn : s.length ≤ 1000000) : ∀ (m j : Nat), m = s.length - j → j ≤ s.length →
  Ev (fun k => scriniumref1_Before.l0 k x s (((s.take j).countP (fun y => decide (y < x)) : Nat) : Int) (j : Int)) (if colB s then (before x s : Int) else 0) := by
 intro m
 induction m with
 | zero =>
  intro j hm hj
  obtain rfl : j = s.length := by omega
  refine Ev.step (fun k => ?_) (colB_end hn (before x s : Int) 0)
  rw [scriniumref1_Before.l0, if_neg (by omega), List.take_length]
  rfl
 | succ m ih =>
  intro j hm hj
  have hjl : j < s.length := by omega
  have hrec := ih (j + 1) (by omega) (by omega)
  have hw : wrap64 ((j : Int) + 1) = ((j + 1 : Nat) : Int) := w64 (j + 1) (by omega)
  rw [List.take_succ_eq_append_getElem hjl, List.countP_append, List.countP_cons, List.countP_nil, Nat.zero_add] at hrec
  have hle : (s.take j).countP (fun y => decide (y < x)) ≤ s.length := Nat.le_trans List.countP_le_length (List.length_take_le' _ _)
  refine Ev.step (fun k => ?_) hrec
  rw [scriniumref1_Before.l0, if_pos (by omega), if_pos (by omega), rd_get s j hjl, hw]
  by_cases h : s[j] < x
  ·rw [if_pos h, if_pos (decide_eq_true h), show wrap64 ((((s.take j).countP (fun y => decide (y < x)) : Nat) : Int) + 1) = (((s.take j).countP (fun y => decide (y < x)) + 1 : Nat) : Int) from w64 (_ + 1) (by omega)]
  ·rw [if_neg h, if_neg (by simpa using h)]
   rfl
theorem refBefore_ev (s : List Int) (x : Int) (hn : s.length ≤ 1000000) : Ev (fun k => scriniumref1_Before.f k x s) (if colB s then (before x s : Int) else 0) := refBefore_l s x hn s.length 0 rfl (Nat.zero_le _)
theorem clamp_iff (i : Int) (n j : Nat) (h : j < n) : (j : Int) < i ↔ j < clampN i n := by
 unfold clampN mn mx
 split <;> split <;> omega
theorem clamp_len (i : Int) (n : Nat) : clampN i n ≤ n := by
 have := clamp_in i n
 unfold clampN
 omega
theorem refRank_l (s : List Int) (x i : Int) (hn : s.length ≤ 1000000) : ∀ (m j : Nat), m = clampN i s.length - j → j ≤ clampN i s.length →
  Ev (fun k => scriniumref1_Rank.l0 k x i s (((s.take j).countP (fun y => decide (y = x)) : Nat) : Int) (j : Int)) (if colB s then (rank x (clampN i s.length) s : Int) else 0) := by
 have hcl := clamp_len i s.length
 intro m
 induction m with
 | zero =>
  intro j hm hj
  obtain rfl : j = clampN i s.length := by omega
  have hend : Ev (fun k => scriniumref1_Rank.j1 k x i s (((s.take (clampN i s.length)).countP (fun y => decide (y = x)) : Nat) : Int) (clampN i s.length : Int) false) (if colB s then (rank x (clampN i s.length) s : Int) else 0) := by
   refine Ev.step (fun k => ?_) (colB_end hn (rank x (clampN i s.length) s : Int) 0)
   rw [scriniumref1_Rank.j1, if_neg (by decide)]
   rfl
  refine Ev.step (fun k => ?_) hend
  rw [scriniumref1_Rank.l0]
  by_cases h : ((clampN i s.length : Nat) : Int) < (s.length : Int)
  ·have := fun e => Nat.lt_irrefl _ ((clamp_iff i s.length (clampN i s.length) (by omega)).1 e)
   rw [if_pos h, decide_eq_false this]
  ·rw [if_neg h]
 | succ m ih =>
  intro j hm hj
  have hjl : j < s.length := by omega
  have hrec := ih (j + 1) (by omega) (by omega)
  have hw : wrap64 ((j : Int) + 1) = ((j + 1 : Nat) : Int) := w64 (j + 1) (by omega)
  rw [List.take_succ_eq_append_getElem hjl, List.countP_append, List.countP_cons, List.countP_nil, Nat.zero_add] at hrec
  have hle : (s.take j).countP (fun y => decide (y = x)) ≤ s.length := Nat.le_trans List.countP_le_length (List.length_take_le' _ _)
  refine Ev.step (f := fun k => scriniumref1_Rank.j1 k x i s (((s.take j).countP (fun y => decide (y = x)) : Nat) : Int) (j : Int) true) (fun k => ?_) (Ev.step (fun k => ?_) hrec)
  ·rw [scriniumref1_Rank.l0, if_pos (by omega), decide_eq_true ((clamp_iff i s.length j hjl).2 (by omega))]
  ·rw [scriniumref1_Rank.j1, if_pos rfl, if_pos (by omega), if_pos (by omega), rd_get s j hjl, hw]
   by_cases h : s[j] = x
   ·rw [if_pos h, if_pos (decide_eq_true h), show wrap64 ((((s.take j).countP (fun y => decide (y = x)) : Nat) : Int) + 1) = (((s.take j).countP (fun y => decide (y = x)) + 1 : Nat) : Int) from w64 (_ + 1) (by omega)]
   ·rw [if_neg h, if_neg (by simpa using h)]
    rfl
theorem refRank_ev (s : List Int) (x i : Int) (hn : s.length ≤ 1000000) : Ev (fun k => scriniumref1_Rank.f k x i s) (if colB s then (rank x (clampN i s.length) s : Int) else 0) := refRank_l s x i hn _ 0 rfl (Nat.zero_le _)
end Go.Proofs.YtkcpkecaliegfaaGreat.P
