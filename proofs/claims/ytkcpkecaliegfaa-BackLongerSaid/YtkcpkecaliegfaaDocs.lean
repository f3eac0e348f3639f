/- Of documents and their symbols: the first rows, the terminators' number, and the way from a row to its document's bytes. Conditions: none. -/
import Derived.Test.YtkcpkecaliegfaaOcc
set_option linter.unusedVariables false
set_option linter.unusedSimpArgs false
namespace Go.Proofs.Ytkcpkecaliegfaa.P
open Go.RowKit Go.Proofs.YtkcpkecaliegfaaW.PrintWords Go.Proofs.YtkcpkecaliegfaaW.PrintLast Go.Proofs.YtkcpkecaliegfaaW.PrintMore

/-! ### the first rows; documents out of symbols -/
theorem index_of (l : List ByteArray) (hl : rightB l = true) (a : Nat) (ha : a < (sortedRows l).length) : (sortedRows l).countP (fun r => ltB l r (sortedRows l)[a]) = a := by
  have hg := get_take (ltB l) (fun r => ltB l r (sortedRows l)[a]) (sortedRows l) (sorted_rises l hl) (fun x y _ _ h k => ltB_trans h k)
  have hle : (sortedRows l).countP (fun r => ltB l r (sortedRows l)[a]) ≤ (sortedRows l).length := List.countP_le_length
  have h1 := hg a ha
  rw [ltB_irrefl] at h1
  have h1' := of_decide_eq_false h1.symm
  by_cases hlt : (sortedRows l).countP (fun r => ltB l r (sortedRows l)[a]) < a
  · exfalso
    have h2 := hg ((sortedRows l).countP (fun r => ltB l r (sortedRows l)[a])) (by omega)
    rw [decide_eq_false (by omega)] at h2
    have h3 := (List.pairwise_iff_getElem.1 (sorted_rises l hl)) _ a (by omega) ha hlt
    rw [h3] at h2
    cases h2
  · omega
theorem count_terms (l : List ByteArray) (d : Nat) : ∀ D : Nat, D ≤ l.length → (rowsTo l D).countP (fun r => decide (r.f1 = ((docAt l r.f0).size : Int)) && decide (r.f0 < (d : Int))) = min D d
  | 0, _ => by rw [Nat.zero_min]; rfl
  | D + 1, h => by
    rw [rowsTo, List.countP_append, count_terms l d D (by omega)]
    unfold rowsOf
    rw [List.countP_map, List.range_succ, List.countP_append]
    have h0 : (List.range (docAt l (D : Int)).size).countP ((fun r : S34 => decide (r.f1 = ((docAt l r.f0).size : Int)) && decide (r.f0 < (d : Int))) ∘ fun i : Nat => (⟨(D : Int), (i : Int)⟩ : S34)) = 0 := by
      refine List.countP_eq_zero.2 fun i hi => ?_
      have := List.mem_range.1 hi
      dsimp only [Function.comp]
      rw [decide_eq_false (by omega), Bool.false_and]
      decide
    rw [h0, Nat.zero_add]
    simp only [List.countP_cons, List.countP_nil, Function.comp, decide_true, Bool.true_and, decide_eq_true_eq, Nat.zero_add]
    split <;> omega
/-- The first rows are the terminators', in the order of the documents. -/
theorem row_term (l : List ByteArray) (hl : rightB l = true) (d : Nat) (hd : d < l.length) : ∃ h : d < (sortedRows l).length, (sortedRows l)[d] = ⟨(d : Int), ((docAt l (d : Int)).size : Int)⟩ := by
  have hm : (⟨(d : Int), ((docAt l (d : Int)).size : Int)⟩ : S34) ∈ sortedRows l := (mem_sorted l hl _).2 (rowOk_iff.2 ⟨by dsimp only; omega, by dsimp only; omega, by dsimp only; omega, by dsimp only; omega⟩)
  obtain ⟨i, hi, he⟩ := List.mem_iff_getElem.1 hm
  have h1 := index_of l hl i hi
  rw [he, (sortedRows_perm l hl).countP_eq] at h1
  have h2 := count_terms l d l.length (Nat.le_refl _)
  have h3 : (allRows l).countP (fun r => ltB l r ⟨(d : Int), ((docAt l (d : Int)).size : Int)⟩) = (rowsTo l l.length).countP (fun r => decide (r.f1 = ((docAt l r.f0).size : Int)) && decide (r.f0 < (d : Int))) := by
    apply List.countP_congr
    intro r hr
    have hok : rowOk l r.f0 r.f1 = true := sortedRows_ok l r ((sortedRows_perm l hl).mem_iff.2 hr)
    have hok2 : rowOk l (d : Int) ((docAt l (d : Int)).size : Int) = true := rowOk_iff.2 ⟨by omega, by omega, by omega, by omega⟩
    obtain ⟨o1, o2, o3, o4⟩ := rowOk_iff.1 hok
    unfold ltB lessB
    dsimp only
    rw [hok, hok2, Bool.true_and, Bool.true_and]
    have hs : suf l (d : Int) ((docAt l (d : Int)).size : Int) = [] := by
      unfold suf
      rw [Int.toNat_natCast, drop_nil _ _ rfl]
    rw [hs]
    by_cases h : r.f1 = ((docAt l r.f0).size : Int)
    · have hr0 : suf l r.f0 r.f1 = [] := by
        unfold suf
        rw [drop_nil _ _ (by omega)]
      rw [hr0, decide_eq_true h, Bool.true_and]
      exact Iff.rfl
    · have hr0 : suf l r.f0 r.f1 = bt (docAt l r.f0) (r.f1.toNat : Int) :: (bytesOf (docAt l r.f0)).drop (r.f1.toNat + 1) := by
        unfold suf
        rw [drop_cons _ _ (by omega)]
      rw [hr0, decide_eq_false h, Bool.false_and]
      exact Iff.rfl
  rw [h3, h2] at h1
  have hid : i = d := by omega
  subst hid
  exact ⟨hi, he⟩
/-- How many rows have the terminator ahead. -/
theorem rank_zero (l : List ByteArray) (hl : rightB l = true) : rank 0 (symbolsOf l).length (symbolsOf l) = l.length := by
  have key : ∀ D : Nat, D ≤ l.length → (rowsTo l D).countP (fun r => decide (symAt l r = 0)) = D := by
    intro D
    induction D with
    | zero => intro _; rfl
    | succ D ih =>
      intro h
      rw [rowsTo, List.countP_append, ih (by omega)]
      unfold rowsOf
      rw [List.countP_map, List.range_succ_eq_map, List.countP_cons, List.countP_map]
      have h0 : (List.range (docAt l (D : Int)).size).countP (((fun r : S34 => decide (symAt l r = 0)) ∘ fun i : Nat => (⟨(D : Int), (i : Int)⟩ : S34)) ∘ Nat.succ) = 0 := by
        refine List.countP_eq_zero.2 fun i _ => ?_
        dsimp only [Function.comp]
        unfold symAt
        have := bt_range (docAt l (D : Int)) (((Nat.succ i : Nat) : Int) - 1)
        rw [if_pos (show ((Nat.succ i : Nat) : Int) > 0 by omega), decide_eq_false (by dsimp only; omega)]
        decide
      have e : ((fun r : S34 => decide (symAt l r = 0)) ∘ fun i : Nat => (⟨(D : Int), (i : Int)⟩ : S34)) 0 = true := by
        show decide (symAt l ⟨(D : Int), ((0 : Nat) : Int)⟩ = 0) = true
        unfold symAt
        rw [if_neg (by dsimp only; omega)]
        decide
      rw [h0, e]
      simp
  unfold rank
  rw [List.take_length]
  unfold symbolsOf
  rw [List.countP_map]
  show (sortedRows l).countP (fun r => decide (symAt l r = 0)) = _
  rw [(sortedRows_perm l hl).countP_eq]
  exact key l.length (Nat.le_refl _)

/-- A symbol of a list; 0 behind its end. -/
def symOf (s : List Int) (i : Nat) : Int := s.getD i 0
def nextOf (s : List Int) (i : Nat) : Nat := before (symOf s i) s + rank (symOf s i) i s
/-- The bytes that are met on the way from a row on, up to a terminator: at most f of them. -/
def textGo (s : List Int) : Nat → Nat → List Int → Option (List Int)
  | 0, row, acc => if symOf s row < 1 then some acc else none
  | f + 1, row, acc => if symOf s row < 1 then some acc else textGo s f (nextOf s row) ((symOf s row - 1) :: acc)
theorem before_rank_lt (s : List Int) (i : Nat) (h : i < s.length) : nextOf s i < s.length := by
  unfold nextOf before rank
  have h1 : (s.take (i + 1)).countP (fun y => decide (y = symOf s i)) = (s.take i).countP (fun y => decide (y = symOf s i)) + 1 := by
    rw [List.take_succ_eq_append_getElem h, List.countP_append]
    have : s[i] = symOf s i := by unfold symOf; rw [List.getD_eq_getElem?_getD, List.getElem?_eq_getElem h]; rfl
    simp [List.countP_cons, this]
  have h2 : (s.take (i + 1)).countP (fun y => decide (y = symOf s i)) ≤ s.countP (fun y => decide (y = symOf s i)) := (List.take_sublist _ _).countP_le
  have h3 := countP_split (fun y => decide (y < symOf s i)) (fun y => decide (y = symOf s i)) (fun x hx => by rw [decide_eq_true_eq] at hx; exact decide_eq_false (by omega)) s
  have h4 := List.countP_le_length (p := fun x => decide (x < symOf s i) || decide (x = symOf s i)) (l := s)
  omega
theorem sym_row (l : List ByteArray) (i : Nat) (h : i < (sortedRows l).length) : symOf (symbolsOf l) i = symAt l (sortedRows l)[i] := by
  unfold symOf symbolsOf
  rw [List.getD_eq_getElem?_getD, List.getElem?_map, List.getElem?_eq_getElem h]
  rfl
theorem next_row (l : List ByteArray) (hl : rightB l = true) (i : Nat) (hi : i < (sortedRows l).length) (h0 : (sortedRows l)[i].f1 > 0) :
    ∃ h : nextOf (symbolsOf l) i < (sortedRows l).length, (sortedRows l)[nextOf (symbolsOf l) i] = ⟨(sortedRows l)[i].f0, (sortedRows l)[i].f1 - 1⟩ := by
  have hok := rowOk_iff.1 (sortedRows_ok l _ (List.getElem_mem hi))
  have hm : (⟨(sortedRows l)[i].f0, (sortedRows l)[i].f1 - 1⟩ : S34) ∈ sortedRows l := (mem_sorted l hl _).2 (rowOk_iff.2 ⟨hok.1, hok.2.1, by dsimp only; omega, by dsimp only; omega⟩)
  obtain ⟨j, hj, he⟩ := List.mem_iff_getElem.1 hm
  have h1 := next_count l hl i hi h0 j hj he
  rw [← sym_row l i hi] at h1
  have h2 : nextOf (symbolsOf l) i = j := h1.symm
  subst h2
  exact ⟨hj, he⟩
theorem text_row (l : List ByteArray) (hl : rightB l = true) : ∀ (n i f : Nat) (hi : i < (sortedRows l).length), (sortedRows l)[i].f1 = (n : Int) → n ≤ f →
    textGo (symbolsOf l) f i ((bytesOf (docAt l (sortedRows l)[i].f0)).drop n) = some (bytesOf (docAt l (sortedRows l)[i].f0)) := by
  intro n
  induction n with
  | zero =>
    intro i f hi hn hf
    have hs : symOf (symbolsOf l) i < 1 := by
      rw [sym_row l i hi]
      unfold symAt
      rw [if_neg (by omega)]
      decide
    cases f <;> (unfold textGo; rw [if_pos hs, List.drop_zero])
  | succ n ih =>
    intro i f hi hn hf
    obtain ⟨f, rfl⟩ : ∃ g, f = g + 1 := ⟨f - 1, by omega⟩
    obtain ⟨hj, he⟩ := next_row l hl i hi (by omega)
    have hok := rowOk_iff.1 (sortedRows_ok l _ (List.getElem_mem hi))
    have hsy : symOf (symbolsOf l) i = bt (docAt l (sortedRows l)[i].f0) (n : Int) + 1 := by
      rw [sym_row l i hi]
      unfold symAt
      rw [if_pos (by omega), show (sortedRows l)[i].f1 - 1 = (n : Int) by omega]
    have hb := bt_range (docAt l (sortedRows l)[i].f0) (n : Int)
    have h1 := ih (nextOf (symbolsOf l) i) f hj (by rw [he]; dsimp only; omega) (by omega)
    rw [he] at h1
    dsimp only at h1
    rw [drop_cons _ n (by omega)] at h1
    unfold textGo
    rw [if_neg (by omega), hsy, show bt (docAt l (sortedRows l)[i].f0) (n : Int) + 1 - 1 = bt (docAt l (sortedRows l)[i].f0) (n : Int) by omega]
    exact h1
theorem size_le_rows (l : List ByteArray) (hl : rightB l = true) (d : Nat) (hd : d < l.length) : (docAt l (d : Int)).size ≤ (sortedRows l).length := by
  have h : (sortedRows l).countP (fun r => decide (r.f0 = (d : Int))) ≤ (sortedRows l).length := List.countP_le_length
  rw [(sortedRows_perm l hl).countP_eq] at h
  have key : ∀ D : Nat, d < D → D ≤ l.length → (docAt l (d : Int)).size + 1 ≤ (rowsTo l D).countP (fun r => decide (r.f0 = (d : Int))) := by
    intro D
    induction D with
    | zero => intro h; omega
    | succ D ih =>
      intro h1 h2
      rw [rowsTo, List.countP_append]
      by_cases hd : d = D
      · subst hd
        have : (rowsOf l d ((docAt l (d : Int)).size + 1)).countP (fun r => decide (r.f0 = (d : Int))) = (rowsOf l d ((docAt l (d : Int)).size + 1)).length := by
          refine List.countP_eq_length.2 fun r hr => ?_
          unfold rowsOf at hr
          obtain ⟨i, _, rfl⟩ := List.mem_map.1 hr
          exact decide_eq_true rfl
        rw [this]
        unfold rowsOf
        rw [List.length_map, List.length_range]
        omega
      · have := ih (by omega) (by omega)
        omega
  have := key l.length hd (Nat.le_refl _)
  unfold allRows at h
  omega
/-- A document, out of the symbols. -/
theorem text_doc (l : List ByteArray) (hl : rightB l = true) (d : Nat) (hd : d < l.length) : textGo (symbolsOf l) (symbolsOf l).length d [] = some (bytesOf l[d]) := by
  obtain ⟨hi, he⟩ := row_term l hl d hd
  have hsz := size_le_rows l hl d hd
  have h := text_row l hl (docAt l (d : Int)).size d (symbolsOf l).length hi (by rw [he]) (by rw [symbolsOf_length]; exact hsz)
  rw [he] at h
  dsimp only at h
  rw [drop_nil _ _ rfl, docAt_get l d hd] at h
  exact h
end Go.Proofs.Ytkcpkecaliegfaa.P
