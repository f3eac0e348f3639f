/- The plain laws of Next and Text: the row that is one byte longer, a document out of symbols; what Reverse computes. Conditions: lists of at most a million symbols. -/
import Derived.Test.YtkcpkecaliegfaaGreatBackZ
import Derived.Test.YtkcpkecaliegfaaGreatPh
import Derived.Test.YtkcpkecaliegfaaGreatPj
set_option linter.unusedVariables false
set_option linter.unusedSimpArgs false
namespace Go.Proofs.YtkcpkecaliegfaaGreat.P
open Go.RowKit Go.Proofs.YtkcpkecaliegfaaGreatW.PrintWords Go.Proofs.YtkcpkecaliegfaaGreatW.PrintLast Go.Proofs.YtkcpkecaliegfaaGreatW.PrintMore

theorem symOf_get (s : List Int) (i : Nat) (h : i < s.length) : symOf s i = s[i] := by
 unfold symOf
 rw [List.getD_eq_getElem?_getD, List.getElem?_eq_getElem h]
 rfl
theorem next_ok (s : List Int) (hn : s.length ≤ 1000000) (i : Nat) (hi : i < s.length) (hc : colB s = true) (h0 : symOf s i ≠ 0) (k : Nat) (hk : s.length + 2 ≤ k) : bwt_Next.f k (i : Int) s = some ((nextOf s i : Int), true) := by
 obtain ⟨k1, rfl⟩ : ∃ k1, k = k1 + 1 := ⟨k - 1, by omega⟩
 have hr : rd s (i : Int) = symOf s i := by rw [rd_get s i hi, symOf_get s i hi]
 have hlt := before_rank_lt s i hi
 unfold bwt_Next.f
 rw [col_f s hn, Option.bind_some, hc, if_pos rfl, if_neg (by omega), if_neg (by omega), if_pos (by omega), if_pos (by omega), hr, beq_eq_false_iff_ne.2 h0]
 rw [bwt_Next.j0, if_neg (by simp), if_pos (by omega), if_pos (by omega), hr, before_ok s _ hn k1 (by omega), rank_ok s _ _ hn k1 (by omega), Option.bind_some, Option.bind_some, hc, if_pos rfl, if_pos rfl, clamp_nat _ _ (by omega), ← Int.natCast_add]
 unfold nextOf at hlt ⊢
 rw [w64 _ (by omega)]
theorem next_none (s : List Int) (hn : s.length ≤ 1000000) (i : Int) (h : colB s = false ∨ i < 0 ∨ (s.length : Int) ≤ i ∨ rd s i = 0) (k : Nat) (hk : 1 ≤ k) : bwt_Next.f k i s = some (0, false) := by
 obtain ⟨k1, rfl⟩ : ∃ k1, k = k1 + 1 := ⟨k - 1, by omega⟩
 have hj : bwt_Next.j0 (k1 + 1) i s true = some (0, false) := by rw [bwt_Next.j0, if_pos rfl]
 unfold bwt_Next.f
 rw [col_f s hn, Option.bind_some]
 cases hc : colB s with
 | false => rw [if_neg (by simp)]; exact hj
 | true =>
  rw [if_pos rfl]
  by_cases h1 : i < 0
  ·rw [if_pos h1]; exact hj
  rw [if_neg h1]
  by_cases h2 : i ≥ (s.length : Int)
  ·rw [if_pos h2]; exact hj
  have h3 : rd s i = 0 := by
   rcases h with h | h | h | h
   ·rw [hc] at h; cases h
   ·omega
   ·omega
   ·exact h
  rw [if_neg h2, if_pos (by omega), if_pos (by omega), h3]
  exact hj
def textR : Option (List Int) → ByteArray × Bool
 | some xs => (strOfNums xs, true)
 | none => (⟨#[]⟩, false)
/-- A document out of symbols, as Text tells it. -/
def textB (s : List Int) (d : Int) : ByteArray × Bool := if colB s = true ∧ 0 ≤ d ∧ d < (rank 0 s.length s : Int) then textR (textGo s s.length d.toNat []) else (⟨#[]⟩, false)
def bwt_Text.f (a0 : Int) (l1 : List Int) : Option (ByteArray × Bool) := if l1.length ≤ 1000000 then some (textB l1 a0) else none
theorem text_end (s : List Int) (row n : Nat) (acc : List Int) (h : symOf s row < 1) : textGo s n row acc = some acc := by cases n <;> (unfold textGo; rw [if_pos h])
theorem text_step (s : List Int) (row m : Nat) (acc : List Int) (h : ¬ symOf s row < 1) : textGo s (m + 1) row acc = textGo s m (nextOf s row) ((symOf s row - 1) :: acc) := by
 conv => lhs; unfold textGo
 rw [if_neg h]
theorem text_zero (s : List Int) (row : Nat) (acc : List Int) (h : ¬ symOf s row < 1) : textGo s 0 row acc = none := by unfold textGo; rw [if_neg h]
theorem col_sym (s : List Int) (hc : colB s = true) (i : Nat) (h : i < s.length) : 0 ≤ symOf s i ∧ symOf s i ≤ 256 := by
 have hm : symOf s i ∈ s := by
  rw [symOf_get s i h]
  exact List.getElem_mem h
 unfold colB at hc
 rw [Bool.not_eq_true'] at hc
 have h1 := List.any_eq_false.1 hc _ hm
 unfold badB at h1
 simp at h1
 omega
theorem set_eq (xs : List Int) (i : Nat) (v : Int) (j : Nat) : (xs.set i v)[j]? = if i = j then (if j < xs.length then some v else none) else xs[j]? := by
 rw [List.getElem?_set]
 by_cases h : i = j
 ·subst h
  rw [if_pos rfl]
 ·rw [if_neg h, if_neg h]
/-- Two ends exchanged, step by step: what is behind the ends is turned already. -/
theorem reverse_l (xs : List Int) (hx : xs.length ≤ 1000000) : ∀ (m i : Nat) (ys : List Int), m = xs.length - 2 * i → 2 * i ≤ xs.length + 1 → ys.length = xs.length →
  (∀ j, j < xs.length → ys[j]? = if j < i ∨ xs.length - i ≤ j then xs[xs.length - 1 - j]? else xs[j]?) →
  ∃ k, slices_Reverse_byte_byte.l0 k ys (i : Int) ((xs.length : Int) - 1 - i) = some xs.reverse := by
 intro m
 induction m using Nat.strongRecOn with
 | _ m ih =>
  intro i ys hm hi hl hy
  by_cases hlt : (i : Int) < (xs.length : Int) - 1 - i
  ·have hi2 : 2 * i + 1 < xs.length := by omega
   have r1 : rd ys (i : Int) = ys[i]'(by omega) := rd_get ys i (by omega)
   obtain ⟨q, hq⟩ : ∃ q : Nat, q = xs.length - 1 - i := ⟨_, rfl⟩
   have hqi : (xs.length : Int) - 1 - i = (q : Int) := by omega
   have r2 : rd ys (q : Int) = ys[q]'(by omega) := rd_get ys q (by omega)
   have e1 : ys[i]? = xs[i]? := by rw [hy i (by omega), if_neg (by omega)]
   have e2 : ys[q]? = xs[q]? := by rw [hy q (by omega), if_neg (by omega)]
   rw [List.getElem?_eq_getElem (show i < ys.length by omega)] at e1
   rw [List.getElem?_eq_getElem (show q < ys.length by omega)] at e2
   obtain ⟨k, hk⟩ := ih (xs.length - 2 * (i + 1)) (by omega) (i + 1) ((ys.set i (ys[q]'(by omega))).set q (ys[i]'(by omega))) rfl (by omega) (by simp [hl]) (by
    intro j hj
    rw [set_eq, set_eq, List.length_set]
    by_cases hjq : q = j
    ·subst hjq
     rw [if_pos rfl, if_pos (by omega), if_pos (by omega), e1]
     congr 1
     omega
    ·rw [if_neg hjq]
     by_cases hji : i = j
     ·subst hji
      rw [if_pos rfl, if_pos (by omega), if_pos (by omega), e2]
      congr 1
     ·rw [if_neg hji, hy j hj]
      by_cases hc : j < i ∨ xs.length - i ≤ j
      ·rw [if_pos hc, if_pos (by omega)]
      ·rw [if_neg hc, if_neg (by omega)])
   refine ⟨k + 1, ?_⟩
   rw [slices_Reverse_byte_byte.l0, if_pos hlt, hqi, if_pos (by omega), if_pos (by omega), if_pos (by omega), if_pos (by omega), r1, r2, Int.toNat_natCast, Int.toNat_natCast]
   rw [show wrap64 ((i : Int) + 1) = ((i + 1 : Nat) : Int) from w64 (i + 1) (by omega), w64i ((q : Int) - 1) (by omega), show (q : Int) - 1 = (xs.length : Int) - 1 - ((i + 1 : Nat) : Int) by omega]
   exact hk
  ·refine ⟨1, ?_⟩
   rw [slices_Reverse_byte_byte.l0, if_neg hlt]
   congr 1
   apply List.ext_getElem?
   intro j
   by_cases hj : j < xs.length
   ·rw [hy j hj, List.getElem?_reverse hj]
    by_cases hc : j < i ∨ xs.length - i ≤ j
    ·rw [if_pos hc]
    ·rw [if_neg hc]
     congr 1
     omega
   ·rw [List.getElem?_eq_none (by omega), List.getElem?_eq_none (by rw [List.length_reverse]; omega)]
theorem reverse_ok (acc : List Int) (h : acc.length ≤ 1000000) : ∃ k, slices_Reverse_byte_byte.f k acc.reverse = some acc := by
 obtain ⟨k, hk⟩ := reverse_l acc.reverse (by rw [List.length_reverse]; exact h) _ 0 acc.reverse rfl (by omega) rfl (by
  intro j hj
  rw [if_neg (by omega)])
 refine ⟨k, ?_⟩
 unfold slices_Reverse_byte_byte.f
 rw [List.reverse_reverse] at hk
 rw [w64i _ (by rw [List.length_reverse]; omega)]
 rw [show ((acc.reverse.length : Int) - 1 - ((0 : Nat) : Int)) = (acc.reverse.length : Int) - 1 by omega] at hk
 exact hk
end Go.Proofs.YtkcpkecaliegfaaGreat.P
