/- Of sorted suffixes and the symbols ahead of them: the rows of a pattern, one byte more ahead, and the row that is one byte longer. Conditions: none. -/
import Derived.Test.YtkcpkecaliegfaaSort
set_option linter.unusedVariables false
set_option linter.unusedSimpArgs false
namespace Go.Proofs.Ytkcpkecaliegfaa.P
open Go.RowKit Go.Proofs.YtkcpkecaliegfaaW.PrintWords Go.Proofs.YtkcpkecaliegfaaW.PrintLast Go.Proofs.YtkcpkecaliegfaaW.PrintMore

/-- Is a suffix less than a pattern, and does not begin with it? -/
def ltP : List Int → List Int → Bool
  | _, [] => false
  | [], _ :: _ => true
  | a :: s, b :: p => if a = b then ltP s p else decide (a < b)
/-- Does a suffix begin with a pattern? -/
def preP : List Int → List Int → Bool
  | _, [] => true
  | [], _ :: _ => false
  | a :: s, b :: p => if a = b then preP s p else false
def leP (s p : List Int) : Bool := ltP s p || preP s p

theorem ltP_nil (s : List Int) : ltP s [] = false := by cases s <;> rfl
theorem preP_nil (s : List Int) : preP s [] = true := by cases s <;> rfl
theorem leP_nil (s : List Int) : leP s [] = true := by unfold leP; rw [preP_nil, Bool.or_true]
theorem ltP_down : ∀ (s t p : List Int) (d e : Int), ltS s d t e = true → ltP t p = true → ltP s p = true
  | _, t, [], _, _, _, h2 => by rw [ltP_nil] at h2; cases h2
  | [], _, _ :: _, _, _, _, _ => by simp [ltP]
  | _ :: _, [], _ :: _, _, _, h1, _ => by simp [ltS] at h1
  | a :: s, b :: t, c :: p, d, e, h1, h2 => by
    simp only [ltS, ltP] at h1 h2 ⊢
    by_cases hab : a = b
    · rw [if_pos hab] at h1
      by_cases hbc : b = c
      · rw [if_pos hbc] at h2
        rw [if_pos (hab.trans hbc)]
        exact ltP_down s t p d e h1 h2
      · rw [if_neg hbc, decide_eq_true_eq] at h2
        rw [if_neg (by omega), decide_eq_true_eq]
        omega
    · rw [if_neg hab, decide_eq_true_eq] at h1
      by_cases hbc : b = c
      · rw [if_neg (by omega), decide_eq_true_eq]
        omega
      · rw [if_neg hbc, decide_eq_true_eq] at h2
        rw [if_neg (by omega), decide_eq_true_eq]
        omega
theorem leP_cons (a b : Int) (s p : List Int) : leP (a :: s) (b :: p) = if a = b then leP s p else decide (a < b) := by
  unfold leP
  simp only [ltP, preP]
  by_cases h : a = b
  · rw [if_pos h, if_pos h, if_pos h]
  · rw [if_neg h, if_neg h, if_neg h, Bool.or_false]
theorem leP_nil_cons (b : Int) (p : List Int) : leP [] (b :: p) = true := rfl
theorem leP_down : ∀ (s t p : List Int) (d e : Int), ltS s d t e = true → leP t p = true → leP s p = true
  | s, t, [], _, _, _, _ => leP_nil s
  | [], _, _ :: _, _, _, _, _ => rfl
  | _ :: _, [], _ :: _, _, _, h1, _ => by simp [ltS] at h1
  | a :: s, b :: t, c :: p, d, e, h1, h2 => by
    rw [leP_cons] at h2 ⊢
    simp only [ltS] at h1
    by_cases hab : a = b
    · rw [if_pos hab] at h1
      by_cases hbc : b = c
      · rw [if_pos hbc] at h2
        rw [if_pos (hab.trans hbc)]
        exact leP_down s t p d e h1 h2
      · rw [if_neg hbc, decide_eq_true_eq] at h2
        rw [if_neg (by omega), decide_eq_true_eq]
        omega
    · rw [if_neg hab, decide_eq_true_eq] at h1
      by_cases hbc : b = c
      · rw [if_neg (by omega), decide_eq_true_eq]
        omega
      · rw [if_neg hbc, decide_eq_true_eq] at h2
        rw [if_neg (by omega), decide_eq_true_eq]
        omega
theorem ltP_not_pre : ∀ s p : List Int, ltP s p = true → preP s p = false
  | s, [], h => by rw [ltP_nil] at h; cases h
  | [], _ :: _, _ => rfl
  | a :: s, b :: p, h => by
    simp only [ltP] at h
    simp only [preP]
    by_cases hab : a = b
    · rw [if_pos hab] at h
      rw [if_pos hab]
      exact ltP_not_pre s p h
    · rw [if_neg hab]

theorem filter_take {α : Type} (lt : α → α → Bool) (P : α → Bool) : ∀ R : List α, R.Pairwise (fun a b => lt a b = true) → (∀ a b, a ∈ R → b ∈ R → lt a b = true → P b = true → P a = true) → R.filter P = R.take (R.countP P)
  | [], _, _ => rfl
  | a :: R, hs, hd => by
    rw [List.pairwise_cons] at hs
    cases ha : P a with
    | true =>
      rw [List.filter_cons_of_pos ha, List.countP_cons_of_pos ha, List.take_succ_cons, filter_take lt P R hs.2 (fun x y hx hy => hd x y (List.mem_cons_of_mem _ hx) (List.mem_cons_of_mem _ hy))]
    | false =>
      have h0 : ∀ b ∈ R, ¬ P b = true := fun b hb hP => by
        have := hd a b List.mem_cons_self (List.mem_cons_of_mem _ hb) (hs.1 b hb) hP
        rw [ha] at this; cases this
      have hf : (a :: R).filter P = [] := by
        rw [List.filter_cons_of_neg (by rw [ha]; decide)]
        exact List.filter_eq_nil_iff.2 h0
      have hc : (a :: R).countP P = 0 := by
        rw [List.countP_cons_of_neg (by rw [ha]; decide)]
        exact List.countP_eq_zero.2 h0
      rw [hf, hc, List.take_zero]
theorem count_take {α : Type} (lt : α → α → Bool) (P Q : α → Bool) (R : List α) (hs : R.Pairwise (fun a b => lt a b = true)) (hd : ∀ a b, a ∈ R → b ∈ R → lt a b = true → P b = true → P a = true) :
    (R.take (R.countP P)).countP Q = R.countP (fun x => Q x && P x) := by
  rw [← filter_take lt P R hs hd, List.countP_filter]
theorem get_take {α : Type} (lt : α → α → Bool) (P : α → Bool) (R : List α) (hs : R.Pairwise (fun a b => lt a b = true)) (hd : ∀ a b, a ∈ R → b ∈ R → lt a b = true → P b = true → P a = true) (i : Nat) (hi : i < R.length) :
    P R[i] = decide (i < R.countP P) := by
  have hf := filter_take lt P R hs hd
  by_cases h : i < R.countP P
  · rw [decide_eq_true h]
    have hm : R[i] ∈ R.filter P := by
      rw [hf]
      exact List.mem_take_iff_getElem.2 ⟨i, by omega, rfl⟩
    exact (List.mem_filter.1 hm).2
  · rw [decide_eq_false h]
    cases hP : P R[i] with
    | false => rfl
    | true =>
      exfalso
      have h1 : ∀ j, (hj : j ≤ i) → P (R[j]'(by omega)) = true := by
        intro j hj
        by_cases hji : j = i
        · subst hji; exact hP
        · exact hd _ _ (List.getElem_mem _) (List.getElem_mem _) ((List.pairwise_iff_getElem.1 hs) j i (by omega) hi (by omega)) hP
      have h2 : (R.take (i + 1)).countP P = i + 1 := by
        have : (R.take (i + 1)).countP P = (R.take (i + 1)).length := by
          rw [List.countP_eq_length]
          intro x hx
          obtain ⟨j, hj, rfl⟩ := List.mem_take_iff_getElem.1 hx
          exact h1 j (by omega)
        rw [this, List.length_take]; omega
      have h3 : (R.take (i + 1)).countP P ≤ R.countP P := (List.take_sublist _ _).countP_le
      omega
theorem countP_split {α : Type} (P Q : α → Bool) (h : ∀ x, P x = true → Q x = false) (R : List α) : R.countP (fun x => P x || Q x) = R.countP P + R.countP Q := by
  induction R with
  | nil => rfl
  | cons a R ih =>
    rw [List.countP_cons, List.countP_cons, List.countP_cons, ih]
    have := h a
    cases h1 : P a <;> cases h2 : Q a <;> simp_all <;> omega
/-- Of a text of n bytes: what holds of the byte behind a place, at all places, is what holds of the byte ahead of it. -/
theorem count_shift (z : Bool) (h : Nat → Bool) (n : Nat) : (List.range (n + 1)).countP (fun i => if i < n then h i else z) = (List.range (n + 1)).countP (fun i => if 0 < i then h (i - 1) else z) := by
  have h1 : (List.range (n + 1)).countP (fun i => if i < n then h i else z) = (List.range n).countP h + (if z then 1 else 0) := by
    rw [List.range_succ, List.countP_append]
    congr 1
    · apply List.countP_congr
      intro i hi
      rw [if_pos (List.mem_range.1 hi)]
    · simp [List.countP_cons]
  have h2 : (List.range (n + 1)).countP (fun i => if 0 < i then h (i - 1) else z) = (List.range n).countP h + (if z then 1 else 0) := by
    rw [List.range_succ_eq_map, List.countP_cons, List.countP_map]
    congr 1
  rw [h1, h2]
theorem count_rowsTo (l : List ByteArray) (F G : S34 → Bool) (h : ∀ d : Nat, (List.range ((docAt l (d : Int)).size + 1)).countP (fun i => F ⟨(d : Int), (i : Nat)⟩) = (List.range ((docAt l (d : Int)).size + 1)).countP (fun i => G ⟨(d : Int), (i : Nat)⟩)) :
    ∀ D : Nat, (rowsTo l D).countP F = (rowsTo l D).countP G
  | 0 => rfl
  | D + 1 => by
    rw [rowsTo, List.countP_append, List.countP_append, count_rowsTo l F G h D]
    congr 1
    unfold rowsOf
    rw [List.countP_map, List.countP_map]
    exact h D
def firstOf (z : Bool) (h : Int → Int → List Int → Bool) (d : Int) : List Int → Bool
  | [] => z
  | b :: s => h b d s
/-- What holds of the first byte of the suffixes, and of the rest, holds as often of the symbol ahead of a row, and of that. -/
theorem count_sym (l : List ByteArray) (z : Bool) (h : Int → Int → List Int → Bool) :
    (allRows l).countP (fun r => firstOf z h r.f0 (suf l r.f0 r.f1)) = (allRows l).countP (fun r => if r.f1 > 0 then h (bt (docAt l r.f0) (r.f1 - 1)) r.f0 (suf l r.f0 r.f1) else z) := by
  refine count_rowsTo l _ _ (fun d => ?_) l.length
  have hs := count_shift z (fun i => h (bt (docAt l (d : Int)) (i : Int)) d ((bytesOf (docAt l (d : Int))).drop (i + 1))) (docAt l (d : Int)).size
  have h1 : (List.range ((docAt l (d : Int)).size + 1)).countP (fun i => firstOf z h (d : Int) (suf l (d : Int) (i : Nat))) = (List.range ((docAt l (d : Int)).size + 1)).countP (fun i => if i < (docAt l (d : Int)).size then h (bt (docAt l (d : Int)) (i : Int)) d ((bytesOf (docAt l (d : Int))).drop (i + 1)) else z) := by
    apply List.countP_congr
    intro i hi
    have hi' := List.mem_range.1 hi
    unfold suf
    rw [Int.toNat_natCast]
    by_cases hlt : i < (docAt l (d : Int)).size
    · rw [if_pos hlt, drop_cons _ _ hlt]
      exact Iff.rfl
    · rw [if_neg hlt, drop_nil _ _ (by omega)]
      exact Iff.rfl
  have h2 : (List.range ((docAt l (d : Int)).size + 1)).countP (fun i => if ((i : Nat) : Int) > 0 then h (bt (docAt l (d : Int)) (((i : Nat) : Int) - 1)) (d : Int) (suf l (d : Int) ((i : Nat) : Int)) else z) = (List.range ((docAt l (d : Int)).size + 1)).countP (fun i => if 0 < i then (fun i : Nat => h (bt (docAt l (d : Int)) (i : Int)) d ((bytesOf (docAt l (d : Int))).drop (i + 1))) (i - 1) else z) := by
    apply List.countP_congr
    intro i hi
    by_cases h0 : 0 < i
    · have e : (i : Int) - 1 = ((i - 1 : Nat) : Int) := by omega
      have e2 : i - 1 + 1 = i := by omega
      rw [if_pos h0, if_pos (show (i : Int) > 0 by omega), e]
      unfold suf
      dsimp only
      rw [Int.toNat_natCast, e2]
    · rw [if_neg h0, if_neg (show ¬ (i : Int) > 0 by omega)]
  exact h1.trans (hs.trans h2.symm)
def before (x : Int) (s : List Int) : Nat := s.countP (fun y => decide (y < x))
def rank (x : Int) (i : Nat) (s : List Int) : Nat := (s.take i).countP (fun y => decide (y = x))
theorem symAt_range (l : List ByteArray) (r : S34) : 0 ≤ symAt l r ∧ symAt l r ≤ 256 := by
  unfold symAt
  have := bt_range (docAt l r.f0) (r.f1 - 1)
  split <;> omega
/-- One byte ahead: how many rows are less. -/
theorem step_count (l : List ByteArray) (hl : rightB l = true) (c : Int) (hc : 0 ≤ c) (K : Int → List Int → Bool)
    (hK : ∀ a b : S34, a ∈ sortedRows l → b ∈ sortedRows l → ltB l a b = true → K b.f0 (suf l b.f0 b.f1) = true → K a.f0 (suf l a.f0 a.f1) = true) :
    (sortedRows l).countP (fun r => firstOf true (fun b d t => if b = c then K d t else decide (b < c)) r.f0 (suf l r.f0 r.f1)) =
      before (c + 1) (symbolsOf l) + rank (c + 1) ((sortedRows l).countP (fun r => K r.f0 (suf l r.f0 r.f1))) (symbolsOf l) := by
  have hp := sortedRows_perm l hl
  rw [hp.countP_eq, count_sym l true, ← hp.countP_eq]
  unfold before rank symbolsOf
  rw [← List.map_take, List.countP_map, List.countP_map, count_take (ltB l) _ _ _ (sorted_rises l hl) hK, ← countP_split]
  · apply List.countP_congr
    intro r _
    rw [Bool.eq_iff_iff.1 (?_ : _ = _)]
    dsimp only [Function.comp]
    unfold symAt
    by_cases h1 : r.f1 > 0
    · rw [if_pos h1, if_pos h1]
      by_cases h2 : bt (docAt l r.f0) (r.f1 - 1) = c
      · rw [if_pos h2, decide_eq_false (by omega), decide_eq_true (by omega), Bool.false_or, Bool.true_and]
      · rw [if_neg h2]
        rw [decide_eq_false (show ¬ bt (docAt l r.f0) (r.f1 - 1) + 1 = c + 1 by omega), Bool.false_and, Bool.or_false]
        apply decide_eq_decide.2
        omega
    · rw [if_neg h1, if_neg h1, decide_eq_true (by omega), Bool.true_or]
  · intro r hr
    dsimp only [Function.comp] at hr ⊢
    rw [decide_eq_true_eq] at hr
    rw [decide_eq_false (by omega), Bool.false_and]

/-! ### the rows of a pattern -/
def lowOf (l : List ByteArray) (p : List Int) : Nat := (sortedRows l).countP (fun r => ltP (suf l r.f0 r.f1) p)
def highOf (l : List ByteArray) (p : List Int) : Nat := (sortedRows l).countP (fun r => leP (suf l r.f0 r.f1) p)
def occOf (l : List ByteArray) (p : List Int) : Nat := (allRows l).countP (fun r => preP (suf l r.f0 r.f1) p)
theorem ltB_S {l : List ByteArray} {a b : S34} (h : ltB l a b = true) : ltS (suf l a.f0 a.f1) a.f0 (suf l b.f0 b.f1) b.f0 = true := by
  unfold ltB lessB at h
  rw [Bool.and_eq_true, Bool.and_eq_true] at h
  exact h.2.2
theorem low_nil (l : List ByteArray) : lowOf l [] = 0 := by
  unfold lowOf
  exact List.countP_eq_zero.2 fun r _ => by rw [ltP_nil]; decide
theorem high_nil (l : List ByteArray) : highOf l [] = (sortedRows l).length := by
  unfold highOf
  exact List.countP_eq_length.2 fun r _ => leP_nil _
theorem high_eq (l : List ByteArray) (hl : rightB l = true) (p : List Int) : highOf l p = lowOf l p + occOf l p := by
  unfold highOf lowOf occOf leP
  rw [countP_split _ _ (fun r h => ltP_not_pre _ _ h), (sortedRows_perm l hl).countP_eq (p := fun r => preP (suf l r.f0 r.f1) p)]
theorem low_cons (l : List ByteArray) (hl : rightB l = true) (c : Int) (hc : 0 ≤ c) (p : List Int) : lowOf l (c :: p) = before (c + 1) (symbolsOf l) + rank (c + 1) (lowOf l p) (symbolsOf l) := by
  have h := step_count l hl c hc (fun _ t => ltP t p) (fun a b _ _ h k => ltP_down _ _ _ _ _ (ltB_S h) k)
  unfold lowOf
  rw [← h]
  apply List.countP_congr
  intro r _
  cases suf l r.f0 r.f1 <;> exact Iff.rfl
theorem high_cons (l : List ByteArray) (hl : rightB l = true) (c : Int) (hc : 0 ≤ c) (p : List Int) : highOf l (c :: p) = before (c + 1) (symbolsOf l) + rank (c + 1) (highOf l p) (symbolsOf l) := by
  have h := step_count l hl c hc (fun _ t => leP t p) (fun a b _ _ h k => leP_down _ _ _ _ _ (ltB_S h) k)
  unfold highOf
  rw [← h]
  apply List.countP_congr
  intro r _
  cases suf l r.f0 r.f1 with
  | nil => exact Iff.rfl
  | cons b t => rw [leP_cons]; exact Iff.rfl
theorem rank_mono (x : Int) (s : List Int) {i j : Nat} (h : i ≤ j) : rank x i s ≤ rank x j s := by
  unfold rank
  exact List.Sublist.countP_le (List.take_sublist_take_left h)
theorem rank_le_add (x : Int) (s : List Int) (i k : Nat) : rank x (i + k) s ≤ rank x i s + k := by
  unfold rank
  rw [List.take_add, List.countP_append]
  have h1 := List.countP_le_length (p := fun y => decide (y = x)) (l := (s.drop i).take k)
  have h2 : ((s.drop i).take k).length ≤ k := List.length_take_le _ _
  omega
theorem occ_cons_le (l : List ByteArray) (hl : rightB l = true) (c : Int) (hc : 0 ≤ c) (p : List Int) : occOf l (c :: p) ≤ occOf l p := by
  have h1 := high_eq l hl (c :: p)
  have h2 := high_eq l hl p
  rw [low_cons l hl c hc p, high_cons l hl c hc p, h2] at h1
  have h3 := rank_le_add (c + 1) (symbolsOf l) (lowOf l p) (occOf l p)
  omega
theorem low_le (l : List ByteArray) (p : List Int) : lowOf l p ≤ (sortedRows l).length := List.countP_le_length
theorem high_le (l : List ByteArray) (p : List Int) : highOf l p ≤ (sortedRows l).length := List.countP_le_length
/-- The rows from low to high are those that begin with the pattern. -/
theorem row_pre (l : List ByteArray) (hl : rightB l = true) (p : List Int) (i : Nat) (hi : i < (sortedRows l).length) :
    preP (suf l (sortedRows l)[i].f0 (sortedRows l)[i].f1) p = (decide (lowOf l p ≤ i) && decide (i < highOf l p)) := by
  have h1 := get_take (ltB l) (fun r => ltP (suf l r.f0 r.f1) p) (sortedRows l) (sorted_rises l hl) (fun a b _ _ h k => ltP_down _ _ _ _ _ (ltB_S h) k) i hi
  have h2 := get_take (ltB l) (fun r => leP (suf l r.f0 r.f1) p) (sortedRows l) (sorted_rises l hl) (fun a b _ _ h k => leP_down _ _ _ _ _ (ltB_S h) k) i hi
  change _ = decide (i < lowOf l p) at h1
  change _ = decide (i < highOf l p) at h2
  unfold leP at h2
  cases h3 : ltP (suf l (sortedRows l)[i].f0 (sortedRows l)[i].f1) p with
  | true =>
    rw [ltP_not_pre _ _ h3]
    rw [h3] at h1
    have := of_decide_eq_true h1.symm
    rw [decide_eq_false (show ¬ lowOf l p ≤ i by omega), Bool.false_and]
  | false =>
    rw [h3] at h1
    rw [h3, Bool.false_or] at h2
    have := of_decide_eq_false h1.symm
    rw [h2, decide_eq_true (show lowOf l p ≤ i by omega), Bool.true_and]
/-- The row that is one byte longer. -/
theorem next_count (l : List ByteArray) (hl : rightB l = true) (i : Nat) (hi : i < (sortedRows l).length) (h0 : (sortedRows l)[i].f1 > 0) (j : Nat) (hj : j < (sortedRows l).length)
    (hr : (sortedRows l)[j] = ⟨(sortedRows l)[i].f0, (sortedRows l)[i].f1 - 1⟩) :
    j = before (symAt l (sortedRows l)[i]) (symbolsOf l) + rank (symAt l (sortedRows l)[i]) i (symbolsOf l) := by
  have index : ∀ (a : Nat) (ha : a < (sortedRows l).length), (sortedRows l).countP (fun r => ltB l r (sortedRows l)[a]) = a := by
    intro a ha
    have hg := get_take (ltB l) (fun r => ltB l r (sortedRows l)[a]) (sortedRows l) (sorted_rises l hl) (fun x y _ _ h k => ltB_trans h k)
    have hle : (sortedRows l).countP (fun r => ltB l r (sortedRows l)[a]) ≤ (sortedRows l).length := List.countP_le_length
    have h1 := hg a ha
    rw [ltB_irrefl] at h1
    have h1' := of_decide_eq_false h1.symm
    by_cases hlt : (sortedRows l).countP (fun r => ltB l r (sortedRows l)[a]) < a
    · exfalso
      have h2 := hg ((sortedRows l).countP (fun r => ltB l r (sortedRows l)[a])) (by omega)
      rw [decide_eq_false (by omega)] at h2
      have h3 := (List.pairwise_iff_getElem.1 (sorted_rises l hl)) _ a (by omega) ha hlt
      rw [h3] at h2
      cases h2
    · omega
  have ok : ∀ (a : Nat) (ha : a < (sortedRows l).length), okR l (sortedRows l)[a] = true := fun a ha => sortedRows_ok l _ (List.getElem_mem ha)
  have hb := bt_range (docAt l (sortedRows l)[i].f0) ((sortedRows l)[i].f1 - 1)
  have hsym : symAt l (sortedRows l)[i] = bt (docAt l (sortedRows l)[i].f0) ((sortedRows l)[i].f1 - 1) + 1 := by unfold symAt; rw [if_pos h0]
  have hoki := rowOk_iff.1 (ok i hi)
  have hsuf : suf l (sortedRows l)[i].f0 ((sortedRows l)[i].f1 - 1) = bt (docAt l (sortedRows l)[i].f0) ((sortedRows l)[i].f1 - 1) :: suf l (sortedRows l)[i].f0 (sortedRows l)[i].f1 := by
    unfold suf
    have e1 : ((sortedRows l)[i].f1 - 1).toNat + 1 = (sortedRows l)[i].f1.toNat := by omega
    have e2 : (((sortedRows l)[i].f1 - 1).toNat : Int) = (sortedRows l)[i].f1 - 1 := by omega
    rw [drop_cons _ _ (by omega), e1, e2]
  have ltrow : ∀ (a : Nat) (ha : a < (sortedRows l).length), ∀ r ∈ sortedRows l, ltB l r (sortedRows l)[a] = ltS (suf l r.f0 r.f1) r.f0 (suf l (sortedRows l)[a].f0 (sortedRows l)[a].f1) (sortedRows l)[a].f0 := by
    intro a ha r hr
    have h1 : rowOk l r.f0 r.f1 = true := sortedRows_ok l r hr
    have h2 : rowOk l (sortedRows l)[a].f0 (sortedRows l)[a].f1 = true := ok a ha
    unfold ltB lessB
    rw [h1, h2, Bool.true_and, Bool.true_and]
  have hst := step_count l hl (bt (docAt l (sortedRows l)[i].f0) ((sortedRows l)[i].f1 - 1)) hb.1 (fun d t => ltS t d (suf l (sortedRows l)[i].f0 (sortedRows l)[i].f1) (sortedRows l)[i].f0)
    (fun a b _ _ h k => ltS_trans _ _ _ _ _ _ (ltB_S h) k)
  rw [← hsym] at hst
  have e1 : (sortedRows l).countP (fun r => ltS (suf l r.f0 r.f1) r.f0 (suf l (sortedRows l)[i].f0 (sortedRows l)[i].f1) (sortedRows l)[i].f0) = i := by
    refine (List.countP_congr ?_).trans (index i hi)
    intro r hr
    rw [ltrow i hi r hr]
  rw [e1] at hst
  rw [← hst]
  refine (index j hj).symm.trans (List.countP_congr ?_)
  intro r hr'
  rw [ltrow j hj r hr', hr, hsuf]
  cases suf l r.f0 r.f1 <;> exact Iff.rfl
end Go.Proofs.Ytkcpkecaliegfaa.P
