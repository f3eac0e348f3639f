/- The plain laws of the printed functions of package model: Right, texts; of the document's Place and SameDocs. Conditions: none. -/
import Derived.Test.YtibhenengpdahaaP10
import Derived.Test.YtibhenengpdahaaP8
import Derived.Test.YtibhenengpdahaaP9
import Derived.Test.YtibhenengpdahaaP4
import Derived.Test.YtibhenengpdahaaP5
set_option linter.unusedVariables false
set_option linter.unusedSimpArgs false
namespace Go.Proofs.Ytibhenengpdahaa.P
open Go.RowKit Go.Proofs.YtibhenengpdahaaW.PrintWords Go.Proofs.YtibhenengpdahaaW.PrintLast Go.Proofs.YtibhenengpdahaaW.PrintMore

def textsOf (l : List S42) : List ByteArray := l.map S42.f1
/-- Each number is a number, and no two are one; the texts may be. -/
def idsOk (l : List S42) (n : Nat) : Bool := (List.range n).all fun i => decide (1 ≤ (l.getD i z42).f0) && decide ((i : Int) ≤ findOf l (l.getD i z42).f0)
def modelB (l : List S42) : Bool := idsOk l l.length && rightB (textsOf l)
theorem w64d (n : Nat) (h : n ≤ 1000000) : wrap64 (n : Int) = (n : Int) := by
  unfold wrap64
  omega
theorem texts_l (l : List S42) (h : l.length ≤ 1000000) : ∀ (m j k : Nat), m = l.length - j → j ≤ l.length → m + 1 ≤ k → model_texts.l0 k (textsOf (l.take j)) l (l.length : Int) (j : Int) = some (textsOf l) := by
  intro m
  induction m with
  | zero =>
    intro j k hm hj hk
    obtain rfl : j = l.length := by omega
    obtain ⟨k1, rfl⟩ : ∃ k1, k = k1 + 1 := ⟨k - 1, by omega⟩
    rw [model_texts.l0, if_neg (by omega), List.take_length]
  | succ m ih =>
    intro j k hm hj hk
    obtain ⟨k1, rfl⟩ : ∃ k1, k = k1 + 1 := ⟨k - 1, by omega⟩
    have hjl : j < l.length := by omega
    have hrec := ih (j + 1) k1 (by omega) (by omega) (by omega)
    have hw : wrap64 ((j : Int) + 1) = ((j + 1 : Nat) : Int) := w64d (j + 1) (by omega)
    have hs : textsOf (l.take (j + 1)) = textsOf (l.take j) ++ [l[j].f1] := by
      unfold textsOf
      rw [List.take_succ_eq_append_getElem hjl, List.map_append]
      rfl
    rw [hs] at hrec
    rw [model_texts.l0, if_pos (by omega), if_pos (by omega), if_pos (by omega), rd_doc_get l j hjl, hw]
    rw [if_pos (by unfold textsOf; rw [List.length_map, List.length_take]; omega)]
    exact hrec
theorem texts_ok (l : List S42) (h : l.length ≤ 1000000) (k : Nat) (hk : l.length + 1 ≤ k) : model_texts.f k l = some (textsOf l) := texts_l l h l.length 0 k (by omega) (Nat.zero_le _) hk
theorem right_l (l : List S42) (h : l.length ≤ 1000000) : ∀ (m j k : Nat), m = l.length - j → j ≤ l.length → l.length + m + 2 ≤ k → model_Right.l0 k l l (l.length : Int) (j : Int) = some ((List.range' j m).all (fun i => decide (1 ≤ (l.getD i z42).f0) && decide ((i : Int) ≤ findOf l (l.getD i z42).f0)) && rightB (textsOf l)) := by
  intro m
  induction m with
  | zero =>
    intro j k hm hj hk
    obtain rfl : j = l.length := by omega
    obtain ⟨k1, rfl⟩ : ∃ k1, k = k1 + 1 := ⟨k - 1, by omega⟩
    rw [model_Right.l0, if_neg (by omega), texts_ok l h k1 (by omega)]
    rfl
  | succ m ih =>
    intro j k hm hj hk
    obtain ⟨k1, rfl⟩ : ∃ k1, k = k1 + 1 := ⟨k - 1, by omega⟩
    have hjl : j < l.length := by omega
    have hrec := ih (j + 1) k1 (by omega) (by omega) (by omega)
    have hw : wrap64 ((j : Int) + 1) = ((j + 1 : Nat) : Int) := w64d (j + 1) (by omega)
    have hg : l.getD j z42 = l[j] := by rw [List.getD_eq_getElem?_getD, List.getElem?_eq_getElem hjl]; rfl
    rw [List.range'_succ, List.all_cons, hg]
    rw [model_Right.l0, if_pos (by omega), if_pos (by omega), if_pos (by omega), rd_doc_get l j hjl, hw]
    by_cases h1 : l[j].f0 < 1
    · rw [if_pos h1, decide_eq_false (show ¬ 1 ≤ l[j].f0 by omega)]
      rfl
    · rw [if_neg h1, decide_eq_true (show 1 ≤ l[j].f0 by omega), Bool.true_and]
      show (some (findOf l l[j].f0)).bind _ = _
      rw [Option.bind_some]
      by_cases h2 : findOf l l[j].f0 < (j : Int)
      · rw [if_pos h2, decide_eq_false (show ¬ (j : Int) ≤ findOf l l[j].f0 by omega)]
        rfl
      · rw [if_neg h2, decide_eq_true (show (j : Int) ≤ findOf l l[j].f0 by omega), Bool.true_and]
        exact hrec
theorem modelRight_ok (l : List S42) (h : l.length ≤ 1000000) (k : Nat) (hk : 2 * l.length + 2 ≤ k) : model_Right.f k l = some (modelB l) := by
  have h1 := right_l l h l.length 0 k (by omega) (Nat.zero_le _) (by omega)
  unfold model_Right.f
  refine Eq.trans h1 ?_
  unfold modelB idsOk
  rw [List.range_eq_range']
theorem modelB_len {l : List S42} (h : modelB l = true) : l.length ≤ 10 := by
  unfold modelB rightB textsOf at h
  simp only [Bool.and_eq_true, decide_eq_true_eq, List.length_map] at h
  exact h.2.1
/-- A part of a document. -/
def partOf (l : List S42) (id fr tt : Int) : ByteArray × Int :=
  if findOf l id < 0 then (⟨#[]⟩, 4) else if fr < 0 ∨ tt < fr ∨ (((rd_T42 l (findOf l id)).f1).size : Int) < tt then (⟨#[]⟩, 3) else (((rd_T42 l (findOf l id)).f1).extract fr.toNat tt.toNat, 0)
theorem find_lt (l : List S42) (id : Int) : findOf l id < (l.length : Int) := by
  unfold findOf
  cases h : l.findIdx? (fun d => d.f0 == id) with
  | none => show (-1 : Int) < _; omega
  | some i =>
    rw [List.findIdx?_eq_some_iff_getElem] at h
    obtain ⟨hi, _⟩ := h
    show (i : Int) < _
    omega
theorem part_ok (l : List S42) (id fr tt : Int) : model_part.f l id fr tt = some (partOf l id fr tt) := by
  have hlt := find_lt l id
  unfold model_part.f partOf
  show (some (findOf l id)).bind _ = _
  rw [Option.bind_some]
  by_cases h1 : findOf l id < 0
  · rw [if_pos h1, if_pos h1]
  rw [if_neg h1, if_neg h1]
  by_cases h2 : fr < 0
  · rw [if_pos h2, if_pos (Or.inl h2)]
  rw [if_neg h2]
  by_cases h3 : fr > tt
  · rw [if_pos h3, if_pos (Or.inr (Or.inl h3))]
  rw [if_neg h3, if_pos (by omega), if_pos hlt]
  by_cases h4 : tt > (((rd_T42 l (findOf l id)).f1).size : Int)
  · rw [if_pos h4, if_pos (Or.inr (Or.inr h4))]
  rw [if_neg h4, if_pos (by omega), if_pos (by omega), if_pos (by omega), if_neg (by omega)]
end Go.Proofs.Ytibhenengpdahaa.P
