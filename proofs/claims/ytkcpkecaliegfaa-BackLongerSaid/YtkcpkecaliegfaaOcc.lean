/- Of documents: how often a pattern stands in them, with a byte ahead, in more documents. Conditions: none. -/
import Derived.Test.YtkcpkecaliegfaaTheo
set_option linter.unusedVariables false
set_option linter.unusedSimpArgs false
namespace Go.Proofs.Ytkcpkecaliegfaa.P
open Go.RowKit Go.Proofs.YtkcpkecaliegfaaW.PrintWords Go.Proofs.YtkcpkecaliegfaaW.PrintLast Go.Proofs.YtkcpkecaliegfaaW.PrintMore

/-! ### how often a pattern stands -/
theorem occ_long_zero (l : List ByteArray) (p : List Int) : (allRows l).countP (fun r => decide (r.f1 > 0) && (decide (bt (docAt l r.f0) (r.f1 - 1) < 0) && preP (suf l r.f0 r.f1) p)) = 0 := by
  refine List.countP_eq_zero.2 fun r _ => ?_
  have := bt_range (docAt l r.f0) (r.f1 - 1)
  rw [decide_eq_false (show ¬ bt (docAt l r.f0) (r.f1 - 1) < 0 by omega), Bool.false_and, Bool.and_false]
  decide
/-- The places of p, with a byte ahead of it that is less than k. -/
def longOf (l : List ByteArray) (p : List Int) (k : Int) : Nat := (allRows l).countP (fun r => decide (r.f1 > 0) && (decide (bt (docAt l r.f0) (r.f1 - 1) < k) && preP (suf l r.f0 r.f1) p))
theorem occ_cons (l : List ByteArray) (p : List Int) (b : Int) : occOf l (b :: p) = (allRows l).countP (fun r => decide (r.f1 > 0) && (decide (bt (docAt l r.f0) (r.f1 - 1) = b) && preP (suf l r.f0 r.f1) p)) := by
  have h := count_sym l false (fun x _ t => decide (x = b) && preP t p)
  unfold occOf
  refine Eq.trans ?_ (h.trans ?_)
  · apply List.countP_congr
    intro r _
    cases suf l r.f0 r.f1 with
    | nil => exact Iff.rfl
    | cons a t =>
      show (if a = b then preP t p else false) = true ↔ (decide (a = b) && preP t p) = true
      by_cases h : a = b
      · rw [if_pos h, decide_eq_true h, Bool.true_and]
      · rw [if_neg h, decide_eq_false h, Bool.false_and]
  · apply List.countP_congr
    intro r _
    by_cases h : r.f1 > 0
    · rw [if_pos h, decide_eq_true h, Bool.true_and]
    · rw [if_neg h, decide_eq_false h, Bool.false_and]
theorem long_succ (l : List ByteArray) (p : List Int) (k : Int) : longOf l p (k + 1) = longOf l p k + occOf l (k :: p) := by
  unfold longOf
  rw [occ_cons, ← countP_split]
  · apply List.countP_congr
    intro r _
    cases preP (suf l r.f0 r.f1) p
    · simp
    · simp only [Bool.and_true, Bool.and_eq_true, Bool.or_eq_true, decide_eq_true_eq]
      omega
  · intro r h
    simp only [Bool.and_eq_true, decide_eq_true_eq] at h
    rw [decide_eq_false (show ¬ bt (docAt l r.f0) (r.f1 - 1) = k by omega), Bool.false_and, Bool.and_false]
/-- The documents that begin with p. -/
def headsOf (l : List ByteArray) (p : List Int) : Nat := l.countP (fun s => preP (bytesOf s) p)
theorem docAt_get (l : List ByteArray) (D : Nat) (h : D < l.length) : docAt l (D : Int) = l[D] := by
  unfold docAt rdOf
  rw [Int.toNat_natCast, List.getD_eq_getElem?_getD, List.getElem?_eq_getElem h]
  rfl
theorem heads_rows (l : List ByteArray) (p : List Int) : ∀ D : Nat, D ≤ l.length → (rowsTo l D).countP (fun r => !decide (r.f1 > 0) && preP (suf l r.f0 r.f1) p) = headsOf (l.take D) p
  | 0, _ => rfl
  | D + 1, h => by
    rw [rowsTo, List.countP_append, heads_rows l p D (by omega)]
    unfold headsOf
    rw [List.take_succ_eq_append_getElem (by omega), List.countP_append]
    congr 1
    unfold rowsOf
    rw [List.countP_map, List.range_succ_eq_map, List.countP_cons, List.countP_map]
    have h0 : ∀ i ∈ List.range (docAt l (D : Int)).size, ¬ (((fun r : S34 => !decide (r.f1 > 0) && preP (suf l r.f0 r.f1) p) ∘ fun i : Nat => (⟨(D : Int), (i : Int)⟩ : S34)) ∘ Nat.succ) i = true := by
      intro i _
      dsimp only [Function.comp]
      rw [decide_eq_true (show ((Nat.succ i : Nat) : Int) > 0 by omega), Bool.not_true, Bool.false_and]
      decide
    rw [List.countP_eq_zero.2 h0, Nat.zero_add]
    have hs : suf l (D : Int) ((0 : Nat) : Int) = bytesOf l[D] := by
      unfold suf
      rw [docAt_get l D (by omega)]
      rfl
    have e : ((fun r : S34 => !decide (r.f1 > 0) && preP (suf l r.f0 r.f1) p) ∘ fun i : Nat => (⟨(D : Int), (i : Int)⟩ : S34)) 0 = preP (bytesOf l[D]) p := by
      show (!decide (((0 : Nat) : Int) > 0) && preP (suf l (D : Int) ((0 : Nat) : Int)) p) = _
      rw [hs]
      rfl
    rw [e]
    simp [List.countP_cons]
theorem long_all (l : List ByteArray) (p : List Int) : longOf l p 256 + headsOf l p = occOf l p := by
  have h := heads_rows l p l.length (Nat.le_refl _)
  rw [List.take_length] at h
  unfold longOf occOf
  rw [← h]
  show _ + (allRows l).countP _ = _
  rw [← countP_split]
  · apply List.countP_congr
    intro r _
    have := bt_range (docAt l r.f0) (r.f1 - 1)
    rw [decide_eq_true (show bt (docAt l r.f0) (r.f1 - 1) < 256 by omega), Bool.true_and]
    cases decide (r.f1 > 0) <;> simp
  · intro r h
    simp only [Bool.and_eq_true, decide_eq_true_eq] at h
    rw [decide_eq_true h.1, Bool.not_true, Bool.false_and]
def occIn (s : ByteArray) (p : List Int) : Nat := (List.range (s.size + 1)).countP (fun i => preP ((bytesOf s).drop i) p)
theorem occ_rows (l : List ByteArray) (p : List Int) : ∀ D : Nat, D ≤ l.length → (rowsTo l D).countP (fun r => preP (suf l r.f0 r.f1) p) = ((l.take D).map (fun s => occIn s p)).sum
  | 0, _ => rfl
  | D + 1, h => by
    rw [rowsTo, List.countP_append, occ_rows l p D (by omega), List.take_succ_eq_append_getElem (by omega), List.map_append, List.sum_append]
    congr 1
    unfold rowsOf
    rw [List.countP_map, docAt_get l D (by omega)]
    simp only [List.map_cons, List.map_nil, List.sum_cons, List.sum_nil, Nat.add_zero]
    unfold occIn
    apply List.countP_congr
    intro i _
    dsimp only [Function.comp]
    unfold suf
    rw [docAt_get l D (by omega), Int.toNat_natCast]
theorem occ_sum (l : List ByteArray) (p : List Int) : occOf l p = (l.map (fun s => occIn s p)).sum := by
  have h := occ_rows l p l.length (Nat.le_refl _)
  rw [List.take_length] at h
  exact h
theorem occ_append (l m : List ByteArray) (p : List Int) : occOf (l ++ m) p = occOf l p + occOf m p := by
  rw [occ_sum, occ_sum, occ_sum, List.map_append, List.sum_append]
theorem occ_twice (l : List ByteArray) (p : List Int) : occOf (l ++ l) p = 2 * occOf l p := by rw [occ_append]; omega
theorem pre_length : ∀ s p : List Int, preP s p = true → p.length ≤ s.length
  | s, [], _ => Nat.zero_le _
  | [], _ :: _, h => by cases h
  | a :: s, b :: p, h => by
    simp only [preP] at h
    by_cases hab : a = b
    · rw [if_pos hab] at h
      have := pre_length s p h
      simp only [List.length_cons]
      omega
    · rw [if_neg hab] at h; cases h
theorem pre_self : ∀ s : List Int, preP s s = true
  | [] => rfl
  | a :: s => by simp only [preP]; exact pre_self s
theorem occ_none (l : List ByteArray) (p : List Int) (h : ∀ s ∈ l, s.size < p.length) : occOf l p = 0 := by
  rw [occ_sum]
  induction l with
  | nil => rfl
  | cons s l ih =>
    rw [List.map_cons, List.sum_cons, ih (fun t ht => h t (List.mem_cons_of_mem _ ht))]
    have : occIn s p = 0 := by
      unfold occIn
      refine List.countP_eq_zero.2 fun i _ hp => ?_
      have h1 := pre_length _ _ hp
      have h2 := h s List.mem_cons_self
      rw [List.length_drop, bytesOf_length] at h1
      omega
    omega
theorem occ_self (l : List ByteArray) (s : ByteArray) (h : s ∈ l) : 1 ≤ occOf l (bytesOf s) := by
  rw [occ_sum]
  induction l with
  | nil => cases h
  | cons t l ih =>
    rw [List.map_cons, List.sum_cons]
    rcases List.mem_cons.1 h with rfl | hm
    · have : 1 ≤ occIn s (bytesOf s) := by
        unfold occIn
        refine List.one_le_countP_iff.2 ⟨0, List.mem_range.2 (by omega), ?_⟩
        rw [List.drop_zero]
        exact pre_self _
      omega
    · have := ih hm
      omega
theorem occ_nil (l : List ByteArray) : occOf l [] = (allRows l).length := by
  unfold occOf
  exact List.countP_eq_length.2 fun r _ => preP_nil _
/-- One byte's places in a text. -/
theorem occ_byte (s : ByteArray) (b : Int) : occIn s [b] = (bytesOf s).countP (fun x => decide (x = b)) := by
  have key : ∀ x : List Int, (List.range (x.length + 1)).countP (fun i => preP (x.drop i) [b]) = x.countP (fun y => decide (y = b)) := by
    intro x
    induction x with
    | nil => rfl
    | cons a x ih =>
      rw [List.range_succ_eq_map, List.countP_cons, List.countP_map, List.countP_cons, List.length_cons]
      rw [← ih]
      congr 1
      rw [List.drop_zero]
      simp only [preP, preP_nil]
      by_cases h : a = b
      · rw [if_pos h, decide_eq_true h]
      · rw [if_neg h, decide_eq_false h]
  have h := key (bytesOf s)
  rw [bytesOf_length] at h
  exact h
end Go.Proofs.Ytkcpkecaliegfaa.P
