/- All suffixes of documents, sorted: the plain list, that it is a permutation of all, rising, and the one list that is so. Conditions: none. -/
import Derived.Test.YthoapfagcdbpeaaRowsO
set_option linter.unusedVariables false
set_option linter.unusedSimpArgs false
namespace Go.Proofs.Ythoapfagcdbpeaa.P
open Go.RowKit Go.Proofs.YthoapfagcdbpeaaW.PrintWords Go.Proofs.YthoapfagcdbpeaaW.PrintLast Go.Proofs.YthoapfagcdbpeaaW.PrintMore

/-- The rows of one document, of the first d documents. -/
def rowsOf (l : List ByteArray) (d n : Nat) : List S24 := (List.range n).map fun i : Nat => (⟨(d : Int), (i : Int)⟩ : S24)
def rowsTo (l : List ByteArray) : Nat → List S24
  | 0 => []
  | d + 1 => rowsTo l d ++ rowsOf l d ((docAt l d).size + 1)
def allRows (l : List ByteArray) : List S24 := rowsTo l l.length
def okR (l : List ByteArray) (r : S24) : Bool := rowOk l r.f0 r.f1
def ltB (l : List ByteArray) (a b : S24) : Bool := lessB l a.f0 a.f1 b.f0 b.f1
def leB (l : List ByteArray) (a b : S24) : Bool := !ltB l b a

theorem rowsOf_succ (l : List ByteArray) (d n : Nat) : rowsOf l d (n + 1) = rowsOf l d n ++ [⟨(d : Int), (n : Int)⟩] := by
  simp [rowsOf, List.range_succ]
theorem rowsOf_length (l : List ByteArray) (d n : Nat) : (rowsOf l d n).length = n := by simp [rowsOf]
theorem mem_rowsTo (l : List ByteArray) (r : S24) (D : Nat) (h : r ∈ rowsTo l D) : ∃ d i : Nat, d < D ∧ i ≤ (docAt l d).size ∧ r = ⟨(d : Int), (i : Int)⟩ := by
  induction D with
  | zero => cases h
  | succ D ih =>
    simp only [rowsTo, List.mem_append] at h
    rcases h with h | h
    · obtain ⟨d, i, h1, h2, h3⟩ := ih h
      exact ⟨d, i, by omega, h2, h3⟩
    · simp only [rowsOf, List.mem_map, List.mem_range] at h
      obtain ⟨i, h1, h2⟩ := h
      exact ⟨D, i, by omega, by omega, h2.symm⟩
theorem allRows_ok (l : List ByteArray) (r : S24) (h : r ∈ allRows l) : okR l r = true := by
  obtain ⟨d, i, h1, h2, rfl⟩ := mem_rowsTo l r l.length h
  exact rowOk_iff.2 ⟨by dsimp only; omega, by dsimp only; omega, by dsimp only; omega, by dsimp only; omega⟩

theorem ltB_irrefl (l : List ByteArray) (a : S24) : ltB l a a = false := by
  unfold ltB lessB
  rw [ltS_irrefl, Bool.and_false, Bool.and_false]
theorem ltB_trans {l : List ByteArray} {a b c : S24} (h : ltB l a b = true) (k : ltB l b c = true) : ltB l a c = true := by
  unfold ltB lessB at *
  simp only [Bool.and_eq_true] at *
  exact ⟨h.1, k.2.1, ltS_trans _ _ _ _ _ _ h.2.2 k.2.2⟩
theorem ltB_asymm {l : List ByteArray} {a b : S24} (h : ltB l a b = true) : ltB l b a = false := by
  cases hb : ltB l b a with
  | false => rfl
  | true =>
    have := ltB_trans h hb
    rw [ltB_irrefl] at this
    cases this
theorem ltB_total {l : List ByteArray} {a b : S24} (ha : okR l a = true) (hb : okR l b = true) (h : ltB l a b = false) (k : ltB l b a = false) : a = b := by
  have h1 : ltR l ⟨(a.f0, a.f1), ha⟩ ⟨(b.f0, b.f1), hb⟩ = false := by rw [← lessB_ok]; exact h
  have h2 : ltR l ⟨(b.f0, b.f1), hb⟩ ⟨(a.f0, a.f1), ha⟩ = false := by rw [← lessB_ok]; exact k
  have h3 := congrArg Subtype.val (ltR_total h1 h2)
  simp only [Prod.mk.injEq] at h3
  cases a
  cases b
  simp only at h3
  rw [h3.1, h3.2]

/-- All suffixes, in order. -/
def sortedRows (l : List ByteArray) : List S24 := if rightB l then (allRows l).mergeSort (leB l) else []

theorem leB_trans_on (l : List ByteArray) : ∀ a b c : S24, okR l a = true → okR l b = true → okR l c = true → leB l a b = true → leB l b c = true → leB l a c = true := by
  intro a b c ha hb hc h1 h2
  unfold leB at *
  simp only [Bool.not_eq_true'] at *
  cases hca : ltB l c a with
  | false => rfl
  | true =>
    cases hab : ltB l a b with
    | true =>
      have := ltB_trans hca hab
      rw [h2] at this
      cases this
    | false =>
      have := ltB_total ha hb hab h1
      subst this
      rw [h2] at hca
      cases hca

/-- What is a permutation of all, and rises, is the sorted list. -/
theorem pairwise_unique {α : Type} (lt : α → α → Bool) (tot : ∀ a b, lt a b = true → lt b a = false) :
    ∀ (s t : List α), s.Perm t → s.Pairwise (fun a b => lt a b = true) → t.Pairwise (fun a b => lt a b = true) → s = t
  | [], t, hp, _, _ => (List.Perm.nil_eq hp)
  | a :: s, [], hp, _, _ => by have := hp.length_eq; simp at this
  | a :: s, b :: t, hp, hs, ht => by
    rw [List.pairwise_cons] at hs ht
    have hab : a = b := by
      have h1 : a ∈ b :: t := hp.mem_iff.1 List.mem_cons_self
      have h2 : b ∈ a :: s := hp.mem_iff.2 List.mem_cons_self
      rcases List.mem_cons.1 h1 with h | h
      · exact h
      · rcases List.mem_cons.1 h2 with h' | h'
        · exact h'.symm
        · have k1 := ht.1 a h
          have k2 := hs.1 b h'
          rw [tot _ _ k1] at k2
          cases k2
    subst hab
    rw [pairwise_unique lt tot s t (List.Perm.cons_inv hp) hs.2 ht.2]

end Go.Proofs.Ythoapfagcdbpeaa.P
