/- Of sorted suffixes and their symbols: the rows of a pattern, one byte more ahead, how often a pattern stands, the way from a row to its document. Conditions: none. -/
import Derived.Test.YtkcpkecaliegfaaGreatSort
set_option linter.unusedVariables false
set_option linter.unusedSimpArgs false
namespace Go.Proofs.YtkcpkecaliegfaaGreat.P
open Go.RowKit Go.Proofs.YtkcpkecaliegfaaGreatW.PrintWords Go.Proofs.YtkcpkecaliegfaaGreatW.PrintLast Go.Proofs.YtkcpkecaliegfaaGreatW.PrintMore

/-- Is a suffix less than a pattern, and does not begin with it? -/
def ltP : List Int → List Int → Bool
  | _, [] => false
  | [], _ :: _ => true
  | a :: s, b :: p => if a = b then ltP s p else decide (a < b)
/-- Does a suffix begin with a pattern? -/
def preP : List Int → List Int → Bool
  | _, [] => true
  | [], _ :: _ => false
  | a :: s, b :: p => if a = b then preP s p else false
def leP (s p : List Int) : Bool := ltP s p || preP s p

theorem ltP_nil (s : List Int) : ltP s [] = false := by cases s <;> rfl
theorem preP_nil (s : List Int) : preP s [] = true := by cases s <;> rfl
theorem leP_nil (s : List Int) : leP s [] = true := by unfold leP; rw [preP_nil, Bool.or_true]
theorem ltP_down : ∀ (s t p : List Int) (d e : Int), ltS s d t e = true → ltP t p = true → ltP s p = true
  | _, t, [], _, _, _, h2 => by rw [ltP_nil] at h2; cases h2
  | [], _, _ :: _, _, _, _, _ => by simp [ltP]
  | _ :: _, [], _ :: _, _, _, h1, _ => by simp [ltS] at h1
  | a :: s, b :: t, c :: p, d, e, h1, h2 => by
    simp only [ltS, ltP] at h1 h2 ⊢
    by_cases hab : a = b
    · rw [if_pos hab] at h1
      by_cases hbc : b = c
      · rw [if_pos hbc] at h2
        rw [if_pos (hab.trans hbc)]
        exact ltP_down s t p d e h1 h2
      · rw [if_neg hbc, decide_eq_true_eq] at h2
        rw [if_neg (by omega), decide_eq_true_eq]
        omega
    · rw [if_neg hab, decide_eq_true_eq] at h1
      by_cases hbc : b = c
      · rw [if_neg (by omega), decide_eq_true_eq]
        omega
      · rw [if_neg hbc, decide_eq_true_eq] at h2
        rw [if_neg (by omega), decide_eq_true_eq]
        omega
theorem leP_cons (a b : Int) (s p : List Int) : leP (a :: s) (b :: p) = if a = b then leP s p else decide (a < b) := by
  unfold leP
  simp only [ltP, preP]
  by_cases h : a = b
  · rw [if_pos h, if_pos h, if_pos h]
  · rw [if_neg h, if_neg h, if_neg h, Bool.or_false]
theorem leP_nil_cons (b : Int) (p : List Int) : leP [] (b :: p) = true := rfl
theorem leP_down : ∀ (s t p : List Int) (d e : Int), ltS s d t e = true → leP t p = true → leP s p = true
  | s, t, [], _, _, _, _ => leP_nil s
  | [], _, _ :: _, _, _, _, _ => rfl
  | _ :: _, [], _ :: _, _, _, h1, _ => by simp [ltS] at h1
  | a :: s, b :: t, c :: p, d, e, h1, h2 => by
    rw [leP_cons] at h2 ⊢
    simp only [ltS] at h1
    by_cases hab : a = b
    · rw [if_pos hab] at h1
      by_cases hbc : b = c
      · rw [if_pos hbc] at h2
        rw [if_pos (hab.trans hbc)]
        exact leP_down s t p d e h1 h2
      · rw [if_neg hbc, decide_eq_true_eq] at h2
        rw [if_neg (by omega), decide_eq_true_eq]
        omega
    · rw [if_neg hab, decide_eq_true_eq] at h1
      by_cases hbc : b = c
      · rw [if_neg (by omega), decide_eq_true_eq]
        omega
      · rw [if_neg hbc, decide_eq_true_eq] at h2
        rw [if_neg (by omega), decide_eq_true_eq]
        omega
theorem ltP_not_pre : ∀ s p : List Int, ltP s p = true → preP s p = false
  | s, [], h => by rw [ltP_nil] at h; cases h
  | [], _ :: _, _ => rfl
  | a :: s, b :: p, h => by
    simp only [ltP] at h
    simp only [preP]
    by_cases hab : a = b
    · rw [if_pos hab] at h
      rw [if_pos hab]
      exact ltP_not_pre s p h
    · rw [if_neg hab]

theorem filter_take {α : Type} (lt : α → α → Bool) (P : α → Bool) : ∀ R : List α, R.Pairwise (fun a b => lt a b = true) → (∀ a b, a ∈ R → b ∈ R → lt a b = true → P b = true → P a = true) → R.filter P = R.take (R.countP P)
  | [], _, _ => rfl
  | a :: R, hs, hd => by
    rw [List.pairwise_cons] at hs
    cases ha : P a with
    | true =>
      rw [List.filter_cons_of_pos ha, List.countP_cons_of_pos ha, List.take_succ_cons, filter_take lt P R hs.2 (fun x y hx hy => hd x y (List.mem_cons_of_mem _ hx) (List.mem_cons_of_mem _ hy))]
    | false =>
      have h0 : ∀ b ∈ R, ¬ P b = true := fun b hb hP => by
        have := hd a b List.mem_cons_self (List.mem_cons_of_mem _ hb) (hs.1 b hb) hP
        rw [ha] at this; cases this
      have hf : (a :: R).filter P = [] := by
        rw [List.filter_cons_of_neg (by rw [ha]; decide)]
        exact List.filter_eq_nil_iff.2 h0
      have hc : (a :: R).countP P = 0 := by
        rw [List.countP_cons_of_neg (by rw [ha]; decide)]
        exact List.countP_eq_zero.2 h0
      rw [hf, hc, List.take_zero]
theorem count_take {α : Type} (lt : α → α → Bool) (P Q : α → Bool) (R : List α) (hs : R.Pairwise (fun a b => lt a b = true)) (hd : ∀ a b, a ∈ R → b ∈ R → lt a b = true → P b = true → P a = true) :
    (R.take (R.countP P)).countP Q = R.countP (fun x => Q x && P x) := by
  rw [← filter_take lt P R hs hd, List.countP_filter]
theorem get_take {α : Type} (lt : α → α → Bool) (P : α → Bool) (R : List α) (hs : R.Pairwise (fun a b => lt a b = true)) (hd : ∀ a b, a ∈ R → b ∈ R → lt a b = true → P b = true → P a = true) (i : Nat) (hi : i < R.length) :
    P R[i] = decide (i < R.countP P) := by
  have hf := filter_take lt P R hs hd
  by_cases h : i < R.countP P
  · rw [decide_eq_true h]
    have hm : R[i] ∈ R.filter P := by
      rw [hf]
      exact List.mem_take_iff_getElem.2 ⟨i, by omega, rfl⟩
    exact (List.mem_filter.1 hm).2
  · rw [decide_eq_false h]
    cases hP : P R[i] with
    | false => rfl
    | true =>
      exfalso
      have h1 : ∀ j, (hj : j ≤ i) → P (R[j]'(by omega)) = true := by
        intro j hj
        by_cases hji : j = i
        · subst hji; exact hP
        · exact hd _ _ (List.getElem_mem _) (List.getElem_mem _) ((List.pairwise_iff_getElem.1 hs) j i (by omega) hi (by omega)) hP
      have h2 : (R.take (i + 1)).countP P = i + 1 := by
        have : (R.take (i + 1)).countP P = (R.take (i + 1)).length := by
          rw [List.countP_eq_length]
          intro x hx
          obtain ⟨j, hj, rfl⟩ := List.mem_take_iff_getElem.1 hx
          exact h1 j (by omega)
        rw [this, List.length_take]; omega
      have h3 : (R.take (i + 1)).countP P ≤ R.countP P := (List.take_sublist _ _).countP_le
      omega
theorem countP_split {α : Type} (P Q : α → Bool) (h : ∀ x, P x = true → Q x = false) (R : List α) : R.countP (fun x => P x || Q x) = R.countP P + R.countP Q := by
  induction R with
  | nil => rfl
  | cons a R ih =>
    rw [List.countP_cons, List.countP_cons, List.countP_cons, ih]
    have := h a
    cases h1 : P a <;> cases h2 : Q a <;> simp_all <;> omega
/-- Of a text of n bytes: what holds of the byte behind a place, at all places, is what holds of the byte ahead of it. -/
theorem count_shift (z : Bool) (h : Nat → Bool) (n : Nat) : (List.range (n + 1)).countP (fun i => if i < n then h i else z) = (List.range (n + 1)).countP (fun i => if 0 < i then h (i - 1) else z) := by
  have h1 : (List.range (n + 1)).countP (fun i => if i < n then h i else z) = (List.range n).countP h + (if z then 1 else 0) := by
    rw [List.range_succ, List.countP_append]
    congr 1
    · apply List.countP_congr
      intro i hi
      rw [if_pos (List.mem_range.1 hi)]
    · simp [List.countP_cons]
  have h2 : (List.range (n + 1)).countP (fun i => if 0 < i then h (i - 1) else z) = (List.range n).countP h + (if z then 1 else 0) := by
    rw [List.range_succ_eq_map, List.countP_cons, List.countP_map]
    congr 1
  rw [h1, h2]
theorem count_rowsTo (l : List ByteArray) (F G : S75 → Bool) (h : ∀ d : Nat, (List.range ((docAt l (d : Int)).size + 1)).countP (fun i => F ⟨(d : Int), (i : Nat)⟩) = (List.range ((docAt l (d : Int)).size + 1)).countP (fun i => G ⟨(d : Int), (i : Nat)⟩)) :
    ∀ D : Nat, (rowsTo l D).countP F = (rowsTo l D).countP G
  | 0 => rfl
  | D + 1 => by
    rw [rowsTo, List.countP_append, List.countP_append, count_rowsTo l F G h D]
    congr 1
    unfold rowsOf
    rw [List.countP_map, List.countP_map]
    exact h D
def firstOf (z : Bool) (h : Int → Int → List Int → Bool) (d : Int) : List Int → Bool
  | [] => z
  | b :: s => h b d s
/-- What holds of the first byte of the suffixes, and of the rest, holds as often of the symbol ahead of a row, and of that. -/
theorem count_sym (l : List ByteArray) (z : Bool) (h : Int → Int → List Int → Bool) :
    (allRows l).countP (fun r => firstOf z h r.f0 (suf l r.f0 r.f1)) = (allRows l).countP (fun r => if r.f1 > 0 then h (bt (docAt l r.f0) (r.f1 - 1)) r.f0 (suf l r.f0 r.f1) else z) := by
  refine count_rowsTo l _ _ (fun d => ?_) l.length
  have hs := count_shift z (fun i => h (bt (docAt l (d : Int)) (i : Int)) d ((bytesOf (docAt l (d : Int))).drop (i + 1))) (docAt l (d : Int)).size
  have h1 : (List.range ((docAt l (d : Int)).size + 1)).countP (fun i => firstOf z h (d : Int) (suf l (d : Int) (i : Nat))) = (List.range ((docAt l (d : Int)).size + 1)).countP (fun i => if i < (docAt l (d : Int)).size then h (bt (docAt l (d : Int)) (i : Int)) d ((bytesOf (docAt l (d : Int))).drop (i + 1)) else z) := by
    apply List.countP_congr
    intro i hi
    have hi' := List.mem_range.1 hi
    unfold suf
    rw [Int.toNat_natCast]
    by_cases hlt : i < (docAt l (d : Int)).size
    · rw [if_pos hlt, drop_cons _ _ hlt]
      exact Iff.rfl
    · rw [if_neg hlt, drop_nil _ _ (by omega)]
      exact Iff.rfl
  have h2 : (List.range ((docAt l (d : Int)).size + 1)).countP (fun i => if ((i : Nat) : Int) > 0 then h (bt (docAt l (d : Int)) (((i : Nat) : Int) - 1)) (d : Int) (suf l (d : Int) ((i : Nat) : Int)) else z) = (List.range ((docAt l (d : Int)).size + 1)).countP (fun i => if 0 < i then (fun i : Nat => h (bt (docAt l (d : Int)) (i : Int)) d ((bytesOf (docAt l (d : Int))).drop (i + 1))) (i - 1) else z) := by
    apply List.countP_congr
    intro i hi
    by_cases h0 : 0 < i
    · have e : (i : Int) - 1 = ((i - 1 : Nat) : Int) := by omega
      have e2 : i - 1 + 1 = i := by omega
      rw [if_pos h0, if_pos (show (i : Int) > 0 by omega), e]
      unfold suf
      dsimp only
      rw [Int.toNat_natCast, e2]
    · rw [if_neg h0, if_neg (show ¬ (i : Int) > 0 by omega)]
  exact h1.trans (hs.trans h2.symm)
def before (x : Int) (s : List Int) : Nat := s.countP (fun y => decide (y < x))
def rank (x : Int) (i : Nat) (s : List Int) : Nat := (s.take i).countP (fun y => decide (y = x))
theorem symAt_range (l : List ByteArray) (r : S75) : 0 ≤ symAt l r ∧ symAt l r ≤ 256 := by
  unfold symAt
  have := bt_range (docAt l r.f0) (r.f1 - 1)
  split <;> omega
/-- One byte ahead: how many rows are less. -/
theorem step_count (l : List ByteArray) (hl : rightB l = true) (c : Int) (hc : 0 ≤ c) (K : Int → List Int → Bool)
    (hK : ∀ a b : S75, a ∈ sortedRows l → b ∈ sortedRows l → ltB l a b = true → K b.f0 (suf l b.f0 b.f1) = true → K a.f0 (suf l a.f0 a.f1) = true) :
    (sortedRows l).countP (fun r => firstOf true (fun b d t => if b = c then K d t else decide (b < c)) r.f0 (suf l r.f0 r.f1)) =
      before (c + 1) (symbolsOf l) + rank (c + 1) ((sortedRows l).countP (fun r => K r.f0 (suf l r.f0 r.f1))) (symbolsOf l) := by
  have hp := sortedRows_perm l hl
  rw [hp.countP_eq, count_sym l true, ← hp.countP_eq]
  unfold before rank symbolsOf
  rw [← List.map_take, List.countP_map, List.countP_map, count_take (ltB l) _ _ _ (sorted_rises l hl) hK, ← countP_split]
  · apply List.countP_congr
    intro r _
    rw [Bool.eq_iff_iff.1 (?_ : _ = _)]
    dsimp only [Function.comp]
    unfold symAt
    by_cases h1 : r.f1 > 0
    · rw [if_pos h1, if_pos h1]
      by_cases h2 : bt (docAt l r.f0) (r.f1 - 1) = c
      · rw [if_pos h2, decide_eq_false (by omega), decide_eq_true (by omega), Bool.false_or, Bool.true_and]
      · rw [if_neg h2]
        rw [decide_eq_false (show ¬ bt (docAt l r.f0) (r.f1 - 1) + 1 = c + 1 by omega), Bool.false_and, Bool.or_false]
        apply decide_eq_decide.2
        omega
    · rw [if_neg h1, if_neg h1, decide_eq_true (by omega), Bool.true_or]
  · intro r hr
    dsimp only [Function.comp] at hr ⊢
    rw [decide_eq_true_eq] at hr
    rw [decide_eq_false (by omega), Bool.false_and]

/-! ### the rows of a pattern -/
def lowOf (l : List ByteArray) (p : List Int) : Nat := (sortedRows l).countP (fun r => ltP (suf l r.f0 r.f1) p)
def highOf (l : List ByteArray) (p : List Int) : Nat := (sortedRows l).countP (fun r => leP (suf l r.f0 r.f1) p)
def occOf (l : List ByteArray) (p : List Int) : Nat := (allRows l).countP (fun r => preP (suf l r.f0 r.f1) p)
theorem ltB_S {l : List ByteArray} {a b : S75} (h : ltB l a b = true) : ltS (suf l a.f0 a.f1) a.f0 (suf l b.f0 b.f1) b.f0 = true := by
  unfold ltB lessB at h
  rw [Bool.and_eq_true, Bool.and_eq_true] at h
  exact h.2.2
theorem low_nil (l : List ByteArray) : lowOf l [] = 0 := by
  unfold lowOf
  exact List.countP_eq_zero.2 fun r _ => by rw [ltP_nil]; decide
theorem high_nil (l : List ByteArray) : highOf l [] = (sortedRows l).length := by
  unfold highOf
  exact List.countP_eq_length.2 fun r _ => leP_nil _
theorem high_eq (l : List ByteArray) (hl : rightB l = true) (p : List Int) : highOf l p = lowOf l p + occOf l p := by
  unfold highOf lowOf occOf leP
  rw [countP_split _ _ (fun r h => ltP_not_pre _ _ h), (sortedRows_perm l hl).countP_eq (p := fun r => preP (suf l r.f0 r.f1) p)]
theorem low_cons (l : List ByteArray) (hl : rightB l = true) (c : Int) (hc : 0 ≤ c) (p : List Int) : lowOf l (c :: p) = before (c + 1) (symbolsOf l) + rank (c + 1) (lowOf l p) (symbolsOf l) := by
  have h := step_count l hl c hc (fun _ t => ltP t p) (fun a b _ _ h k => ltP_down _ _ _ _ _ (ltB_S h) k)
  unfold lowOf
  rw [← h]
  apply List.countP_congr
  intro r _
  cases suf l r.f0 r.f1 <;> exact Iff.rfl
theorem high_cons (l : List ByteArray) (hl : rightB l = true) (c : Int) (hc : 0 ≤ c) (p : List Int) : highOf l (c :: p) = before (c + 1) (symbolsOf l) + rank (c + 1) (highOf l p) (symbolsOf l) := by
  have h := step_count l hl c hc (fun _ t => leP t p) (fun a b _ _ h k => leP_down _ _ _ _ _ (ltB_S h) k)
  unfold highOf
  rw [← h]
  apply List.countP_congr
  intro r _
  cases suf l r.f0 r.f1 with
  | nil => exact Iff.rfl
  | cons b t => rw [leP_cons]; exact Iff.rfl
theorem rank_mono (x : Int) (s : List Int) {i j : Nat} (h : i ≤ j) : rank x i s ≤ rank x j s := by
  unfold rank
  exact List.Sublist.countP_le (List.take_sublist_take_left h)
theorem rank_le_add (x : Int) (s : List Int) (i k : Nat) : rank x (i + k) s ≤ rank x i s + k := by
  unfold rank
  rw [List.take_add, List.countP_append]
  have h1 := List.countP_le_length (p := fun y => decide (y = x)) (l := (s.drop i).take k)
  have h2 : ((s.drop i).take k).length ≤ k := List.length_take_le _ _
  omega
theorem occ_cons_le (l : List ByteArray) (hl : rightB l = true) (c : Int) (hc : 0 ≤ c) (p : List Int) : occOf l (c :: p) ≤ occOf l p := by
  have h1 := high_eq l hl (c :: p)
  have h2 := high_eq l hl p
  rw [low_cons l hl c hc p, high_cons l hl c hc p, h2] at h1
  have h3 := rank_le_add (c + 1) (symbolsOf l) (lowOf l p) (occOf l p)
  omega
theorem low_le (l : List ByteArray) (p : List Int) : lowOf l p ≤ (sortedRows l).length := List.countP_le_length
theorem high_le (l : List ByteArray) (p : List Int) : highOf l p ≤ (sortedRows l).length := List.countP_le_length
/-- The rows from low to high are those that begin with the pattern. -/
theorem row_pre (l : List ByteArray) (hl : rightB l = true) (p : List Int) (i : Nat) (hi : i < (sortedRows l).length) :
    preP (suf l (sortedRows l)[i].f0 (sortedRows l)[i].f1) p = (decide (lowOf l p ≤ i) && decide (i < highOf l p)) := by
  have h1 := get_take (ltB l) (fun r => ltP (suf l r.f0 r.f1) p) (sortedRows l) (sorted_rises l hl) (fun a b _ _ h k => ltP_down _ _ _ _ _ (ltB_S h) k) i hi
  have h2 := get_take (ltB l) (fun r => leP (suf l r.f0 r.f1) p) (sortedRows l) (sorted_rises l hl) (fun a b _ _ h k => leP_down _ _ _ _ _ (ltB_S h) k) i hi
  change _ = decide (i < lowOf l p) at h1
  change _ = decide (i < highOf l p) at h2
  unfold leP at h2
  cases h3 : ltP (suf l (sortedRows l)[i].f0 (sortedRows l)[i].f1) p with
  | true =>
    rw [ltP_not_pre _ _ h3]
    rw [h3] at h1
    have := of_decide_eq_true h1.symm
    rw [decide_eq_false (show ¬ lowOf l p ≤ i by omega), Bool.false_and]
  | false =>
    rw [h3] at h1
    rw [h3, Bool.false_or] at h2
    have := of_decide_eq_false h1.symm
    rw [h2, decide_eq_true (show lowOf l p ≤ i by omega), Bool.true_and]
/-- The row that is one byte longer. -/
theorem next_count (l : List ByteArray) (hl : rightB l = true) (i : Nat) (hi : i < (sortedRows l).length) (h0 : (sortedRows l)[i].f1 > 0) (j : Nat) (hj : j < (sortedRows l).length)
    (hr : (sortedRows l)[j] = ⟨(sortedRows l)[i].f0, (sortedRows l)[i].f1 - 1⟩) :
    j = before (symAt l (sortedRows l)[i]) (symbolsOf l) + rank (symAt l (sortedRows l)[i]) i (symbolsOf l) := by
  have index : ∀ (a : Nat) (ha : a < (sortedRows l).length), (sortedRows l).countP (fun r => ltB l r (sortedRows l)[a]) = a := by
    intro a ha
    have hg := get_take (ltB l) (fun r => ltB l r (sortedRows l)[a]) (sortedRows l) (sorted_rises l hl) (fun x y _ _ h k => ltB_trans h k)
    have hle : (sortedRows l).countP (fun r => ltB l r (sortedRows l)[a]) ≤ (sortedRows l).length := List.countP_le_length
    have h1 := hg a ha
    rw [ltB_irrefl] at h1
    have h1' := of_decide_eq_false h1.symm
    by_cases hlt : (sortedRows l).countP (fun r => ltB l r (sortedRows l)[a]) < a
    · exfalso
      have h2 := hg ((sortedRows l).countP (fun r => ltB l r (sortedRows l)[a])) (by omega)
      rw [decide_eq_false (by omega)] at h2
      have h3 := (List.pairwise_iff_getElem.1 (sorted_rises l hl)) _ a (by omega) ha hlt
      rw [h3] at h2
      cases h2
    · omega
  have ok : ∀ (a : Nat) (ha : a < (sortedRows l).length), okR l (sortedRows l)[a] = true := fun a ha => sortedRows_ok l _ (List.getElem_mem ha)
  have hb := bt_range (docAt l (sortedRows l)[i].f0) ((sortedRows l)[i].f1 - 1)
  have hsym : symAt l (sortedRows l)[i] = bt (docAt l (sortedRows l)[i].f0) ((sortedRows l)[i].f1 - 1) + 1 := by unfold symAt; rw [if_pos h0]
  have hoki := rowOk_iff.1 (ok i hi)
  have hsuf : suf l (sortedRows l)[i].f0 ((sortedRows l)[i].f1 - 1) = bt (docAt l (sortedRows l)[i].f0) ((sortedRows l)[i].f1 - 1) :: suf l (sortedRows l)[i].f0 (sortedRows l)[i].f1 := by
    unfold suf
    have e1 : ((sortedRows l)[i].f1 - 1).toNat + 1 = (sortedRows l)[i].f1.toNat := by omega
    have e2 : (((sortedRows l)[i].f1 - 1).toNat : Int) = (sortedRows l)[i].f1 - 1 := by omega
    rw [drop_cons _ _ (by omega), e1, e2]
  have ltrow : ∀ (a : Nat) (ha : a < (sortedRows l).length), ∀ r ∈ sortedRows l, ltB l r (sortedRows l)[a] = ltS (suf l r.f0 r.f1) r.f0 (suf l (sortedRows l)[a].f0 (sortedRows l)[a].f1) (sortedRows l)[a].f0 := by
    intro a ha r hr
    have h1 : rowOk l r.f0 r.f1 = true := sortedRows_ok l r hr
    have h2 : rowOk l (sortedRows l)[a].f0 (sortedRows l)[a].f1 = true := ok a ha
    unfold ltB lessB
    rw [h1, h2, Bool.true_and, Bool.true_and]
  have hst := step_count l hl (bt (docAt l (sortedRows l)[i].f0) ((sortedRows l)[i].f1 - 1)) hb.1 (fun d t => ltS t d (suf l (sortedRows l)[i].f0 (sortedRows l)[i].f1) (sortedRows l)[i].f0)
    (fun a b _ _ h k => ltS_trans _ _ _ _ _ _ (ltB_S h) k)
  rw [← hsym] at hst
  have e1 : (sortedRows l).countP (fun r => ltS (suf l r.f0 r.f1) r.f0 (suf l (sortedRows l)[i].f0 (sortedRows l)[i].f1) (sortedRows l)[i].f0) = i := by
    refine (List.countP_congr ?_).trans (index i hi)
    intro r hr
    rw [ltrow i hi r hr]
  rw [e1] at hst
  rw [← hst]
  refine (index j hj).symm.trans (List.countP_congr ?_)
  intro r hr'
  rw [ltrow j hj r hr', hr, hsuf]
  cases suf l r.f0 r.f1 <;> exact Iff.rfl
/-! ### how often a pattern stands -/
theorem occ_long_zero (l : List ByteArray) (p : List Int) : (allRows l).countP (fun r => decide (r.f1 > 0) && (decide (bt (docAt l r.f0) (r.f1 - 1) < 0) && preP (suf l r.f0 r.f1) p)) = 0 := by
  refine List.countP_eq_zero.2 fun r _ => ?_
  have := bt_range (docAt l r.f0) (r.f1 - 1)
  rw [decide_eq_false (show ¬ bt (docAt l r.f0) (r.f1 - 1) < 0 by omega), Bool.false_and, Bool.and_false]
  decide
/-- The places of p, with a byte ahead of it that is less than k. -/
def longOf (l : List ByteArray) (p : List Int) (k : Int) : Nat := (allRows l).countP (fun r => decide (r.f1 > 0) && (decide (bt (docAt l r.f0) (r.f1 - 1) < k) && preP (suf l r.f0 r.f1) p))
theorem occ_cons (l : List ByteArray) (p : List Int) (b : Int) : occOf l (b :: p) = (allRows l).countP (fun r => decide (r.f1 > 0) && (decide (bt (docAt l r.f0) (r.f1 - 1) = b) && preP (suf l r.f0 r.f1) p)) := by
  have h := count_sym l false (fun x _ t => decide (x = b) && preP t p)
  unfold occOf
  refine Eq.trans ?_ (h.trans ?_)
  · apply List.countP_congr
    intro r _
    cases suf l r.f0 r.f1 with
    | nil => exact Iff.rfl
    | cons a t =>
      show (if a = b then preP t p else false) = true ↔ (decide (a = b) && preP t p) = true
      by_cases h : a = b
      · rw [if_pos h, decide_eq_true h, Bool.true_and]
      · rw [if_neg h, decide_eq_false h, Bool.false_and]
  · apply List.countP_congr
    intro r _
    by_cases h : r.f1 > 0
    · rw [if_pos h, decide_eq_true h, Bool.true_and]
    · rw [if_neg h, decide_eq_false h, Bool.false_and]
theorem long_succ (l : List ByteArray) (p : List Int) (k : Int) : longOf l p (k + 1) = longOf l p k + occOf l (k :: p) := by
  unfold longOf
  rw [occ_cons, ← countP_split]
  · apply List.countP_congr
    intro r _
    cases preP (suf l r.f0 r.f1) p
    · simp
    · simp only [Bool.and_true, Bool.and_eq_true, Bool.or_eq_true, decide_eq_true_eq]
      omega
  · intro r h
    simp only [Bool.and_eq_true, decide_eq_true_eq] at h
    rw [decide_eq_false (show ¬ bt (docAt l r.f0) (r.f1 - 1) = k by omega), Bool.false_and, Bool.and_false]
/-- The documents that begin with p. -/
def headsOf (l : List ByteArray) (p : List Int) : Nat := l.countP (fun s => preP (bytesOf s) p)
theorem docAt_get (l : List ByteArray) (D : Nat) (h : D < l.length) : docAt l (D : Int) = l[D] := by
  unfold docAt rdOf
  rw [Int.toNat_natCast, List.getD_eq_getElem?_getD, List.getElem?_eq_getElem h]
  rfl
theorem heads_rows (l : List ByteArray) (p : List Int) : ∀ D : Nat, D ≤ l.length → (rowsTo l D).countP (fun r => !decide (r.f1 > 0) && preP (suf l r.f0 r.f1) p) = headsOf (l.take D) p
  | 0, _ => rfl
  | D + 1, h => by
    rw [rowsTo, List.countP_append, heads_rows l p D (by omega)]
    unfold headsOf
    rw [List.take_succ_eq_append_getElem (by omega), List.countP_append]
    congr 1
    unfold rowsOf
    rw [List.countP_map, List.range_succ_eq_map, List.countP_cons, List.countP_map]
    have h0 : ∀ i ∈ List.range (docAt l (D : Int)).size, ¬ (((fun r : S75 => !decide (r.f1 > 0) && preP (suf l r.f0 r.f1) p) ∘ fun i : Nat => (⟨(D : Int), (i : Int)⟩ : S75)) ∘ Nat.succ) i = true := by
      intro i _
      dsimp only [Function.comp]
      rw [decide_eq_true (show ((Nat.succ i : Nat) : Int) > 0 by omega), Bool.not_true, Bool.false_and]
      decide
    rw [List.countP_eq_zero.2 h0, Nat.zero_add]
    have hs : suf l (D : Int) ((0 : Nat) : Int) = bytesOf l[D] := by
      unfold suf
      rw [docAt_get l D (by omega)]
      rfl
    have e : ((fun r : S75 => !decide (r.f1 > 0) && preP (suf l r.f0 r.f1) p) ∘ fun i : Nat => (⟨(D : Int), (i : Int)⟩ : S75)) 0 = preP (bytesOf l[D]) p := by
      show (!decide (((0 : Nat) : Int) > 0) && preP (suf l (D : Int) ((0 : Nat) : Int)) p) = _
      rw [hs]
      rfl
    rw [e]
    simp [List.countP_cons]
theorem long_all (l : List ByteArray) (p : List Int) : longOf l p 256 + headsOf l p = occOf l p := by
  have h := heads_rows l p l.length (Nat.le_refl _)
  rw [List.take_length] at h
  unfold longOf occOf
  rw [← h]
  show _ + (allRows l).countP _ = _
  rw [← countP_split]
  · apply List.countP_congr
    intro r _
    have := bt_range (docAt l r.f0) (r.f1 - 1)
    rw [decide_eq_true (show bt (docAt l r.f0) (r.f1 - 1) < 256 by omega), Bool.true_and]
    cases decide (r.f1 > 0) <;> simp
  · intro r h
    simp only [Bool.and_eq_true, decide_eq_true_eq] at h
    rw [decide_eq_true h.1, Bool.not_true, Bool.false_and]
def occIn (s : ByteArray) (p : List Int) : Nat := (List.range (s.size + 1)).countP (fun i => preP ((bytesOf s).drop i) p)
theorem occ_rows (l : List ByteArray) (p : List Int) : ∀ D : Nat, D ≤ l.length → (rowsTo l D).countP (fun r => preP (suf l r.f0 r.f1) p) = ((l.take D).map (fun s => occIn s p)).sum
  | 0, _ => rfl
  | D + 1, h => by
    rw [rowsTo, List.countP_append, occ_rows l p D (by omega), List.take_succ_eq_append_getElem (by omega), List.map_append, List.sum_append]
    congr 1
    unfold rowsOf
    rw [List.countP_map, docAt_get l D (by omega)]
    simp only [List.map_cons, List.map_nil, List.sum_cons, List.sum_nil, Nat.add_zero]
    unfold occIn
    apply List.countP_congr
    intro i _
    dsimp only [Function.comp]
    unfold suf
    rw [docAt_get l D (by omega), Int.toNat_natCast]
theorem occ_sum (l : List ByteArray) (p : List Int) : occOf l p = (l.map (fun s => occIn s p)).sum := by
  have h := occ_rows l p l.length (Nat.le_refl _)
  rw [List.take_length] at h
  exact h
theorem occ_append (l m : List ByteArray) (p : List Int) : occOf (l ++ m) p = occOf l p + occOf m p := by
  rw [occ_sum, occ_sum, occ_sum, List.map_append, List.sum_append]
theorem occ_twice (l : List ByteArray) (p : List Int) : occOf (l ++ l) p = 2 * occOf l p := by rw [occ_append]; omega
theorem pre_length : ∀ s p : List Int, preP s p = true → p.length ≤ s.length
  | s, [], _ => Nat.zero_le _
  | [], _ :: _, h => by cases h
  | a :: s, b :: p, h => by
    simp only [preP] at h
    by_cases hab : a = b
    · rw [if_pos hab] at h
      have := pre_length s p h
      simp only [List.length_cons]
      omega
    · rw [if_neg hab] at h; cases h
theorem pre_self : ∀ s : List Int, preP s s = true
  | [] => rfl
  | a :: s => by simp only [preP]; exact pre_self s
theorem occ_none (l : List ByteArray) (p : List Int) (h : ∀ s ∈ l, s.size < p.length) : occOf l p = 0 := by
  rw [occ_sum]
  induction l with
  | nil => rfl
  | cons s l ih =>
    rw [List.map_cons, List.sum_cons, ih (fun t ht => h t (List.mem_cons_of_mem _ ht))]
    have : occIn s p = 0 := by
      unfold occIn
      refine List.countP_eq_zero.2 fun i _ hp => ?_
      have h1 := pre_length _ _ hp
      have h2 := h s List.mem_cons_self
      rw [List.length_drop, bytesOf_length] at h1
      omega
    omega
theorem occ_self (l : List ByteArray) (s : ByteArray) (h : s ∈ l) : 1 ≤ occOf l (bytesOf s) := by
  rw [occ_sum]
  induction l with
  | nil => cases h
  | cons t l ih =>
    rw [List.map_cons, List.sum_cons]
    rcases List.mem_cons.1 h with rfl | hm
    · have : 1 ≤ occIn s (bytesOf s) := by
        unfold occIn
        refine List.one_le_countP_iff.2 ⟨0, List.mem_range.2 (by omega), ?_⟩
        rw [List.drop_zero]
        exact pre_self _
      omega
    · have := ih hm
      omega
theorem occ_nil (l : List ByteArray) : occOf l [] = (allRows l).length := by
  unfold occOf
  exact List.countP_eq_length.2 fun r _ => preP_nil _
/-- One byte's places in a text. -/
theorem occ_byte (s : ByteArray) (b : Int) : occIn s [b] = (bytesOf s).countP (fun x => decide (x = b)) := by
  have key : ∀ x : List Int, (List.range (x.length + 1)).countP (fun i => preP (x.drop i) [b]) = x.countP (fun y => decide (y = b)) := by
    intro x
    induction x with
    | nil => rfl
    | cons a x ih =>
      rw [List.range_succ_eq_map, List.countP_cons, List.countP_map, List.countP_cons, List.length_cons]
      rw [← ih]
      congr 1
      rw [List.drop_zero]
      simp only [preP, preP_nil]
      by_cases h : a = b
      · rw [if_pos h, decide_eq_true h]
      · rw [if_neg h, decide_eq_false h]
  have h := key (bytesOf s)
  rw [bytesOf_length] at h
  exact h
/-! ### the first rows; documents out of symbols -/
theorem index_of (l : List ByteArray) (hl : rightB l = true) (a : Nat) (ha : a < (sortedRows l).length) : (sortedRows l).countP (fun r => ltB l r (sortedRows l)[a]) = a := by
  have hg := get_take (ltB l) (fun r => ltB l r (sortedRows l)[a]) (sortedRows l) (sorted_rises l hl) (fun x y _ _ h k => ltB_trans h k)
  have hle : (sortedRows l).countP (fun r => ltB l r (sortedRows l)[a]) ≤ (sortedRows l).length := List.countP_le_length
  have h1 := hg a ha
  rw [ltB_irrefl] at h1
  have h1' := of_decide_eq_false h1.symm
  by_cases hlt : (sortedRows l).countP (fun r => ltB l r (sortedRows l)[a]) < a
  · exfalso
    have h2 := hg ((sortedRows l).countP (fun r => ltB l r (sortedRows l)[a])) (by omega)
    rw [decide_eq_false (by omega)] at h2
    have h3 := (List.pairwise_iff_getElem.1 (sorted_rises l hl)) _ a (by omega) ha hlt
    rw [h3] at h2
    cases h2
  · omega
theorem count_terms (l : List ByteArray) (d : Nat) : ∀ D : Nat, D ≤ l.length → (rowsTo l D).countP (fun r => decide (r.f1 = ((docAt l r.f0).size : Int)) && decide (r.f0 < (d : Int))) = min D d
  | 0, _ => by rw [Nat.zero_min]; rfl
  | D + 1, h => by
    rw [rowsTo, List.countP_append, count_terms l d D (by omega)]
    unfold rowsOf
    rw [List.countP_map, List.range_succ, List.countP_append]
    have h0 : (List.range (docAt l (D : Int)).size).countP ((fun r : S75 => decide (r.f1 = ((docAt l r.f0).size : Int)) && decide (r.f0 < (d : Int))) ∘ fun i : Nat => (⟨(D : Int), (i : Int)⟩ : S75)) = 0 := by
      refine List.countP_eq_zero.2 fun i hi => ?_
      have := List.mem_range.1 hi
      dsimp only [Function.comp]
      rw [decide_eq_false (by omega), Bool.false_and]
      decide
    rw [h0, Nat.zero_add]
    simp only [List.countP_cons, List.countP_nil, Function.comp, decide_true, Bool.true_and, decide_eq_true_eq, Nat.zero_add]
    split <;> omega
/-- The first rows are the terminators', in the order of the documents. -/
theorem row_term (l : List ByteArray) (hl : rightB l = true) (d : Nat) (hd : d < l.length) : ∃ h : d < (sortedRows l).length, (sortedRows l)[d] = ⟨(d : Int), ((docAt l (d : Int)).size : Int)⟩ := by
  have hm : (⟨(d : Int), ((docAt l (d : Int)).size : Int)⟩ : S75) ∈ sortedRows l := (mem_sorted l hl _).2 (rowOk_iff.2 ⟨by dsimp only; omega, by dsimp only; omega, by dsimp only; omega, by dsimp only; omega⟩)
  obtain ⟨i, hi, he⟩ := List.mem_iff_getElem.1 hm
  have h1 := index_of l hl i hi
  rw [he, (sortedRows_perm l hl).countP_eq] at h1
  have h2 := count_terms l d l.length (Nat.le_refl _)
  have h3 : (allRows l).countP (fun r => ltB l r ⟨(d : Int), ((docAt l (d : Int)).size : Int)⟩) = (rowsTo l l.length).countP (fun r => decide (r.f1 = ((docAt l r.f0).size : Int)) && decide (r.f0 < (d : Int))) := by
    apply List.countP_congr
    intro r hr
    have hok : rowOk l r.f0 r.f1 = true := sortedRows_ok l r ((sortedRows_perm l hl).mem_iff.2 hr)
    have hok2 : rowOk l (d : Int) ((docAt l (d : Int)).size : Int) = true := rowOk_iff.2 ⟨by omega, by omega, by omega, by omega⟩
    obtain ⟨o1, o2, o3, o4⟩ := rowOk_iff.1 hok
    unfold ltB lessB
    dsimp only
    rw [hok, hok2, Bool.true_and, Bool.true_and]
    have hs : suf l (d : Int) ((docAt l (d : Int)).size : Int) = [] := by
      unfold suf
      rw [Int.toNat_natCast, drop_nil _ _ rfl]
    rw [hs]
    by_cases h : r.f1 = ((docAt l r.f0).size : Int)
    · have hr0 : suf l r.f0 r.f1 = [] := by
        unfold suf
        rw [drop_nil _ _ (by omega)]
      rw [hr0, decide_eq_true h, Bool.true_and]
      exact Iff.rfl
    · have hr0 : suf l r.f0 r.f1 = bt (docAt l r.f0) (r.f1.toNat : Int) :: (bytesOf (docAt l r.f0)).drop (r.f1.toNat + 1) := by
        unfold suf
        rw [drop_cons _ _ (by omega)]
      rw [hr0, decide_eq_false h, Bool.false_and]
      exact Iff.rfl
  rw [h3, h2] at h1
  have hid : i = d := by omega
  subst hid
  exact ⟨hi, he⟩
/-- How many rows have the terminator ahead. -/
theorem rank_zero (l : List ByteArray) (hl : rightB l = true) : rank 0 (symbolsOf l).length (symbolsOf l) = l.length := by
  have key : ∀ D : Nat, D ≤ l.length → (rowsTo l D).countP (fun r => decide (symAt l r = 0)) = D := by
    intro D
    induction D with
    | zero => intro _; rfl
    | succ D ih =>
      intro h
      rw [rowsTo, List.countP_append, ih (by omega)]
      unfold rowsOf
      rw [List.countP_map, List.range_succ_eq_map, List.countP_cons, List.countP_map]
      have h0 : (List.range (docAt l (D : Int)).size).countP (((fun r : S75 => decide (symAt l r = 0)) ∘ fun i : Nat => (⟨(D : Int), (i : Int)⟩ : S75)) ∘ Nat.succ) = 0 := by
        refine List.countP_eq_zero.2 fun i _ => ?_
        dsimp only [Function.comp]
        unfold symAt
        have := bt_range (docAt l (D : Int)) (((Nat.succ i : Nat) : Int) - 1)
        rw [if_pos (show ((Nat.succ i : Nat) : Int) > 0 by omega), decide_eq_false (by dsimp only; omega)]
        decide
      have e : ((fun r : S75 => decide (symAt l r = 0)) ∘ fun i : Nat => (⟨(D : Int), (i : Int)⟩ : S75)) 0 = true := by
        show decide (symAt l ⟨(D : Int), ((0 : Nat) : Int)⟩ = 0) = true
        unfold symAt
        rw [if_neg (by dsimp only; omega)]
        decide
      rw [h0, e]
      simp
  unfold rank
  rw [List.take_length]
  unfold symbolsOf
  rw [List.countP_map]
  show (sortedRows l).countP (fun r => decide (symAt l r = 0)) = _
  rw [(sortedRows_perm l hl).countP_eq]
  exact key l.length (Nat.le_refl _)

/-- A symbol of a list; 0 behind its end. -/
def symOf (s : List Int) (i : Nat) : Int := s.getD i 0
def nextOf (s : List Int) (i : Nat) : Nat := before (symOf s i) s + rank (symOf s i) i s
/-- The bytes that are met on the way from a row on, up to a terminator: at most f of them. -/
def textGo (s : List Int) : Nat → Nat → List Int → Option (List Int)
  | 0, row, acc => if symOf s row < 1 then some acc else none
  | f + 1, row, acc => if symOf s row < 1 then some acc else textGo s f (nextOf s row) ((symOf s row - 1) :: acc)
theorem before_rank_lt (s : List Int) (i : Nat) (h : i < s.length) : nextOf s i < s.length := by
  unfold nextOf before rank
  have h1 : (s.take (i + 1)).countP (fun y => decide (y = symOf s i)) = (s.take i).countP (fun y => decide (y = symOf s i)) + 1 := by
    rw [List.take_succ_eq_append_getElem h, List.countP_append]
    have : s[i] = symOf s i := by unfold symOf; rw [List.getD_eq_getElem?_getD, List.getElem?_eq_getElem h]; rfl
    simp [List.countP_cons, this]
  have h2 : (s.take (i + 1)).countP (fun y => decide (y = symOf s i)) ≤ s.countP (fun y => decide (y = symOf s i)) := (List.take_sublist _ _).countP_le
  have h3 := countP_split (fun y => decide (y < symOf s i)) (fun y => decide (y = symOf s i)) (fun x hx => by rw [decide_eq_true_eq] at hx; exact decide_eq_false (by omega)) s
  have h4 := List.countP_le_length (p := fun x => decide (x < symOf s i) || decide (x = symOf s i)) (l := s)
  omega
theorem sym_row (l : List ByteArray) (i : Nat) (h : i < (sortedRows l).length) : symOf (symbolsOf l) i = symAt l (sortedRows l)[i] := by
  unfold symOf symbolsOf
  rw [List.getD_eq_getElem?_getD, List.getElem?_map, List.getElem?_eq_getElem h]
  rfl
theorem next_row (l : List ByteArray) (hl : rightB l = true) (i : Nat) (hi : i < (sortedRows l).length) (h0 : (sortedRows l)[i].f1 > 0) :
    ∃ h : nextOf (symbolsOf l) i < (sortedRows l).length, (sortedRows l)[nextOf (symbolsOf l) i] = ⟨(sortedRows l)[i].f0, (sortedRows l)[i].f1 - 1⟩ := by
  have hok := rowOk_iff.1 (sortedRows_ok l _ (List.getElem_mem hi))
  have hm : (⟨(sortedRows l)[i].f0, (sortedRows l)[i].f1 - 1⟩ : S75) ∈ sortedRows l := (mem_sorted l hl _).2 (rowOk_iff.2 ⟨hok.1, hok.2.1, by dsimp only; omega, by dsimp only; omega⟩)
  obtain ⟨j, hj, he⟩ := List.mem_iff_getElem.1 hm
  have h1 := next_count l hl i hi h0 j hj he
  rw [← sym_row l i hi] at h1
  have h2 : nextOf (symbolsOf l) i = j := h1.symm
  subst h2
  exact ⟨hj, he⟩
theorem text_row (l : List ByteArray) (hl : rightB l = true) : ∀ (n i f : Nat) (hi : i < (sortedRows l).length), (sortedRows l)[i].f1 = (n : Int) → n ≤ f →
    textGo (symbolsOf l) f i ((bytesOf (docAt l (sortedRows l)[i].f0)).drop n) = some (bytesOf (docAt l (sortedRows l)[i].f0)) := by
  intro n
  induction n with
  | zero =>
    intro i f hi hn hf
    have hs : symOf (symbolsOf l) i < 1 := by
      rw [sym_row l i hi]
      unfold symAt
      rw [if_neg (by omega)]
      decide
    cases f <;> (unfold textGo; rw [if_pos hs, List.drop_zero])
  | succ n ih =>
    intro i f hi hn hf
    obtain ⟨f, rfl⟩ : ∃ g, f = g + 1 := ⟨f - 1, by omega⟩
    obtain ⟨hj, he⟩ := next_row l hl i hi (by omega)
    have hok := rowOk_iff.1 (sortedRows_ok l _ (List.getElem_mem hi))
    have hsy : symOf (symbolsOf l) i = bt (docAt l (sortedRows l)[i].f0) (n : Int) + 1 := by
      rw [sym_row l i hi]
      unfold symAt
      rw [if_pos (by omega), show (sortedRows l)[i].f1 - 1 = (n : Int) by omega]
    have hb := bt_range (docAt l (sortedRows l)[i].f0) (n : Int)
    have h1 := ih (nextOf (symbolsOf l) i) f hj (by rw [he]; dsimp only; omega) (by omega)
    rw [he] at h1
    dsimp only at h1
    rw [drop_cons _ n (by omega)] at h1
    unfold textGo
    rw [if_neg (by omega), hsy, show bt (docAt l (sortedRows l)[i].f0) (n : Int) + 1 - 1 = bt (docAt l (sortedRows l)[i].f0) (n : Int) by omega]
    exact h1
theorem size_le_rows (l : List ByteArray) (hl : rightB l = true) (d : Nat) (hd : d < l.length) : (docAt l (d : Int)).size ≤ (sortedRows l).length := by
  have h : (sortedRows l).countP (fun r => decide (r.f0 = (d : Int))) ≤ (sortedRows l).length := List.countP_le_length
  rw [(sortedRows_perm l hl).countP_eq] at h
  have key : ∀ D : Nat, d < D → D ≤ l.length → (docAt l (d : Int)).size + 1 ≤ (rowsTo l D).countP (fun r => decide (r.f0 = (d : Int))) := by
    intro D
    induction D with
    | zero => intro h; omega
    | succ D ih =>
      intro h1 h2
      rw [rowsTo, List.countP_append]
      by_cases hd : d = D
      · subst hd
        have : (rowsOf l d ((docAt l (d : Int)).size + 1)).countP (fun r => decide (r.f0 = (d : Int))) = (rowsOf l d ((docAt l (d : Int)).size + 1)).length := by
          refine List.countP_eq_length.2 fun r hr => ?_
          unfold rowsOf at hr
          obtain ⟨i, _, rfl⟩ := List.mem_map.1 hr
          exact decide_eq_true rfl
        rw [this]
        unfold rowsOf
        rw [List.length_map, List.length_range]
        omega
      · have := ih (by omega) (by omega)
        omega
  have := key l.length hd (Nat.le_refl _)
  unfold allRows at h
  omega
/-- A document, out of the symbols. -/
theorem text_doc (l : List ByteArray) (hl : rightB l = true) (d : Nat) (hd : d < l.length) : textGo (symbolsOf l) (symbolsOf l).length d [] = some (bytesOf l[d]) := by
  obtain ⟨hi, he⟩ := row_term l hl d hd
  have hsz := size_le_rows l hl d hd
  have h := text_row l hl (docAt l (d : Int)).size d (symbolsOf l).length hi (by rw [he]) (by rw [symbolsOf_length]; exact hsz)
  rw [he] at h
  dsimp only at h
  rw [drop_nil _ _ rfl, docAt_get l d hd] at h
  exact h
end Go.Proofs.YtkcpkecaliegfaaGreat.P
