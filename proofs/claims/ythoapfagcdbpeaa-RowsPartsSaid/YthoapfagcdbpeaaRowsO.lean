/- Of the suffixes of documents: the plain function that tells which of two is less; it is a strict order, and total. Conditions: none. -/
import Derived.Test.YthoapfagcdbpeaaRowsG
set_option linter.unusedVariables false
set_option linter.unusedSimpArgs false
namespace Go.Proofs.Ythoapfagcdbpeaa.P
open Go.RowKit Go.Proofs.YthoapfagcdbpeaaW.PrintWords Go.Proofs.YthoapfagcdbpeaaW.PrintLast Go.Proofs.YthoapfagcdbpeaaW.PrintMore

/-- Of two suffixes, of the documents d and e: is the first one less? -/
def ltS : List Int → Int → List Int → Int → Bool
  | [], d, [], e => decide (d < e)
  | [], _, _ :: _, _ => true
  | _ :: _, _, [], _ => false
  | a :: s, d, b :: t, e => if a = b then ltS s d t e else decide (a < b)
def suf (l : List ByteArray) (d i : Int) : List Int := (bytesOf (docAt l d)).drop i.toNat
def lessB (l : List ByteArray) (d i e j : Int) : Bool := rowOk l d i && (rowOk l e j && ltS (suf l d i) d (suf l e j) e)
def rows_Less.f (l0 : List ByteArray) (a1_0 a1_1 a2_0 a2_1 : Int) : Option Bool := if (docAt l0 a1_0).size ≤ 140737488351232 then some (lessB l0 a1_0 a1_1 a2_0 a2_1) else none

theorem drop_cons (S : ByteArray) (k : Nat) (h : k < S.size) : (bytesOf S).drop k = bt S k :: (bytesOf S).drop (k + 1) := by
  have hl : k < (bytesOf S).length := by rw [bytesOf_length]; exact h
  rw [List.drop_eq_getElem_cons hl]
  congr 1
  rw [← rd_bytesOf]
  simp [rd, List.getD_eq_getElem?_getD, List.getElem?_eq_getElem hl]
theorem drop_nil (S : ByteArray) (k : Nat) (h : k = S.size) : (bytesOf S).drop k = [] := List.drop_eq_nil_of_le (by rw [bytesOf_length]; omega)
theorem ltS_end {S T : ByteArray} {k : Nat} {d e : Int} (h1 : k = S.size) (h2 : k = T.size) : ltS ((bytesOf S).drop k) d ((bytesOf T).drop k) e = decide (d < e) := by
  rw [drop_nil S k h1, drop_nil T k h2]; rfl
theorem ltS_short {S T : ByteArray} {k : Nat} {d e : Int} (h1 : k = S.size) (h2 : k < T.size) : ltS ((bytesOf S).drop k) d ((bytesOf T).drop k) e = true := by
  rw [drop_nil S k h1, drop_cons T k h2]; rfl
theorem ltS_long {S T : ByteArray} {k : Nat} {d e : Int} (h1 : k < S.size) (h2 : k = T.size) : ltS ((bytesOf S).drop k) d ((bytesOf T).drop k) e = false := by
  rw [drop_nil T k h2, drop_cons S k h1]; rfl
theorem ltS_step {S T : ByteArray} {k : Nat} (d e : Int) (h1 : k < S.size) (h2 : k < T.size) :
    ltS ((bytesOf S).drop k) d ((bytesOf T).drop k) e = if bt S k = bt T k then ltS ((bytesOf S).drop (k + 1)) d ((bytesOf T).drop (k + 1)) e else decide (bt S k < bt T k) := by
  rw [drop_cons S k h1, drop_cons T k h2]; rfl

theorem bytesOf_extract (s : ByteArray) (i : Nat) : bytesOf (s.extract i s.size) = (bytesOf s).drop i := by
  unfold bytesOf
  rw [ByteArray.data_extract, Array.toList_extract, List.extract_eq_take_drop, List.map_take, List.map_drop]
  rw [List.take_of_length_le]
  rw [List.length_drop, List.length_map, Array.length_toList]
  exact Nat.le_refl _


/-! ### the order -/
theorem ltS_irrefl (s : List Int) (d : Int) : ltS s d s d = false := by
  induction s with
  | nil => simp [ltS]
  | cons a s ih => simp [ltS, ih]
theorem ltS_trans : ∀ (s t u : List Int) (d e f : Int), ltS s d t e = true → ltS t e u f = true → ltS s d u f = true
  | [], [], [], d, e, f, h1, h2 => by simp [ltS] at *; omega
  | [], [], _ :: _, d, e, f, h1, h2 => by simp [ltS]
  | [], _ :: _, [], d, e, f, h1, h2 => by simp [ltS] at h2
  | [], _ :: _, _ :: _, d, e, f, h1, h2 => by simp [ltS]
  | _ :: _, [], _, d, e, f, h1, h2 => by simp [ltS] at h1
  | _ :: _, _ :: _, [], d, e, f, h1, h2 => by simp [ltS] at h2
  | a :: s, b :: t, c :: u, d, e, f, h1, h2 => by
    simp only [ltS] at h1 h2 ⊢
    by_cases hab : a = b
    · rw [if_pos hab] at h1
      by_cases hbc : b = c
      · rw [if_pos hbc] at h2
        rw [if_pos (hab.trans hbc)]
        exact ltS_trans s t u d e f h1 h2
      · rw [if_neg hbc, decide_eq_true_eq] at h2
        rw [if_neg (by omega), decide_eq_true_eq]
        omega
    · rw [if_neg hab, decide_eq_true_eq] at h1
      by_cases hbc : b = c
      · rw [if_neg (by omega), decide_eq_true_eq]
        omega
      · rw [if_neg hbc, decide_eq_true_eq] at h2
        rw [if_neg (by omega), decide_eq_true_eq]
        omega
theorem ltS_total : ∀ (s t : List Int) (d e : Int), ltS s d t e = false → ltS t e s d = false → s = t ∧ d = e
  | [], [], d, e, h1, h2 => by simp [ltS] at *; omega
  | [], _ :: _, d, e, h1, h2 => by simp [ltS] at h1
  | _ :: _, [], d, e, h1, h2 => by simp [ltS] at h2
  | a :: s, b :: t, d, e, h1, h2 => by
    simp only [ltS] at h1 h2
    by_cases hab : a = b
    · rw [if_pos hab] at h1
      rw [if_pos hab.symm] at h2
      obtain ⟨h3, h4⟩ := ltS_total s t d e h1 h2
      exact ⟨by rw [hab, h3], h4⟩
    · rw [if_neg hab, decide_eq_false_iff_not] at h1
      rw [if_neg (fun h => hab h.symm), decide_eq_false_iff_not] at h2
      omega

/-- A row of documents, as two numbers. -/
abbrev RowOf (l : List ByteArray) := { r : Int × Int // rowOk l r.1 r.2 = true }
def ltR (l : List ByteArray) (a b : RowOf l) : Bool := ltS (suf l a.1.1 a.1.2) a.1.1 (suf l b.1.1 b.1.2) b.1.1
theorem lessB_ok {l : List ByteArray} (a b : RowOf l) : lessB l a.1.1 a.1.2 b.1.1 b.1.2 = ltR l a b := by
  unfold lessB ltR
  rw [a.2, b.2]
  rfl
theorem rowOk_iff {l : List ByteArray} {d i : Int} : rowOk l d i = true ↔ 0 ≤ d ∧ d < l.length ∧ 0 ≤ i ∧ i ≤ ((docAt l d).size : Int) := by
  unfold rowOk
  simp only [Bool.and_eq_true, decide_eq_true_eq]
theorem suf_length {l : List ByteArray} {d i : Int} (h : rowOk l d i = true) : ((suf l d i).length : Int) = (docAt l d).size - i := by
  have h' := rowOk_iff.1 h
  unfold suf
  rw [List.length_drop, bytesOf_length]
  omega
theorem ltR_irrefl {l : List ByteArray} (a : RowOf l) : ltR l a a = false := ltS_irrefl _ _
theorem ltR_trans {l : List ByteArray} {a b c : RowOf l} (h : ltR l a b = true) (k : ltR l b c = true) : ltR l a c = true := ltS_trans _ _ _ _ _ _ h k
theorem ltR_total {l : List ByteArray} {a b : RowOf l} (h : ltR l a b = false) (k : ltR l b a = false) : a = b := by
  obtain ⟨h1, h2⟩ := ltS_total _ _ _ _ h k
  have l1 := suf_length a.2
  have l2 := suf_length b.2
  rw [h1, h2] at l1
  apply Subtype.ext
  apply Prod.ext
  · exact h2
  · omega

end Go.Proofs.Ythoapfagcdbpeaa.P
