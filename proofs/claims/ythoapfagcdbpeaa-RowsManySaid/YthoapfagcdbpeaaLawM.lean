/- The plain law of RowsMany, and its walk. Conditions: the row's. -/
import Derived.Test.YthoapfagcdbpeaaPure0
import Derived.Test.YthoapfagcdbpeaaSort
import Derived.Test.YthoapfagcdbpeaaP11
set_option linter.unusedVariables false
set_option linter.unusedSimpArgs false
namespace Go.Proofs.Ythoapfagcdbpeaa.P
open Go.RowKit Go.Proofs.YthoapfagcdbpeaaW.PrintWords Go.Proofs.YthoapfagcdbpeaaW.PrintLast Go.Proofs.YthoapfagcdbpeaaW.PrintMore

theorem doc_app (l m : List ByteArray) (d : Int) (h0 : 0 ≤ d) (h1 : d < (l.length : Int)) : docAt (l ++ m) d = docAt l d := by
  unfold docAt rdOf
  rw [List.getD_eq_getElem?_getD, List.getD_eq_getElem?_getD, List.getElem?_append_left (by omega)]
theorem rowOk_app (l : List ByteArray) (s : ByteArray) (d i : Int) (h : d ≠ (l.length : Int)) : rowOk (l ++ [s]) d i = rowOk l d i := by
  rw [Bool.eq_iff_iff, rowOk_iff, rowOk_iff, List.length_append]
  constructor
  · intro ⟨h1, h2, h3, h4⟩
    have h2' : d < (l.length : Int) + 1 := by simpa using h2
    rw [doc_app l [s] d h1 (by omega)] at h4
    exact ⟨h1, by omega, h3, h4⟩
  · intro ⟨h1, h2, h3, h4⟩
    rw [doc_app l [s] d h1 h2]
    exact ⟨h1, by simp; omega, h3, h4⟩
theorem lt_app (l : List ByteArray) (s : ByteArray) (a b : S24) (ha : a.f0 ≠ (l.length : Int)) (hb : b.f0 ≠ (l.length : Int)) : ltB (l ++ [s]) a b = ltB l a b := by
  unfold ltB lessB
  rw [rowOk_app l s _ _ ha, rowOk_app l s _ _ hb]
  by_cases h1 : rowOk l a.f0 a.f1 = true
  · by_cases h2 : rowOk l b.f0 b.f1 = true
    · obtain ⟨x1, x2, _, _⟩ := rowOk_iff.1 h1
      obtain ⟨y1, y2, _, _⟩ := rowOk_iff.1 h2
      unfold suf
      rw [doc_app l [s] _ x1 x2, doc_app l [s] _ y1 y2]
    · have : rowOk l b.f0 b.f1 = false := by simpa using h2
      rw [this]
      simp
  · have : rowOk l a.f0 a.f1 = false := by simpa using h1
    rw [this]
    simp
theorem right_app {l : List ByteArray} {s : ByteArray} (h : rightB (l ++ [s]) = true) : rightB l = true := by
  unfold rightB at *
  rw [Bool.and_eq_true, decide_eq_true_eq, Bool.not_eq_true', List.any_append, Bool.or_eq_false_iff, List.length_append] at h
  rw [h.2.1, decide_eq_true (by have := h.1; simp at this; omega)]
  rfl
def oldB (n : Int) (r : S24) : Bool := !decide (r.f0 = n)
theorem many_is (l : List ByteArray) (s : ByteArray) (h : rightB (l ++ [s]) = true) : (sortedRows (l ++ [s])).filter (oldB l.length) = sortedRows l := by
  refine sorted_is l (right_app h) _ ?_ ?_
  · intro r
    rw [List.mem_filter, mem_sorted _ h]
    unfold oldB okR
    constructor
    · intro ⟨h1, h2⟩
      have h3 : r.f0 ≠ (l.length : Int) := by simpa using h2
      rwa [rowOk_app l s _ _ h3] at h1
    · intro h1
      have h3 : r.f0 ≠ (l.length : Int) := by have := rowOk_iff.1 h1; omega
      rw [rowOk_app l s _ _ h3]
      exact ⟨h1, by simpa using h3⟩
  · refine List.Pairwise.imp_of_mem ?_ ((sorted_rises _ h).sublist List.filter_sublist)
    intro a b ha hb hab
    have h1 := (List.mem_filter.1 ha).2
    have h2 := (List.mem_filter.1 hb).2
    unfold oldB at h1 h2
    rwa [lt_app l s a b (by simpa using h1) (by simpa using h2)] at hab
theorem many_l (l : List ByteArray) (s : ByteArray) (A B : List S24) (hl : l.length ≤ 10) (hs : s.size ≤ 40) (hA : A.length ≤ 410) (hB : B.length ≤ 410) (hf : B.filter (oldB l.length) = A) (hlen : B.length = A.length + s.size + 1) : ∀ (m j k : Nat), m = B.length - j → j ≤ B.length → m + 1 ≤ k →
    scriniumlaw3_RowsMany.l0 k l s A B (((B.take j).countP (oldB l.length) : Nat) : Int) B (B.length : Int) (j : Int) = some true := by
  intro m
  induction m with
  | zero =>
    intro j k hm hj hk
    obtain ⟨k1, rfl⟩ : ∃ k1, k = k1 + 1 := ⟨k - 1, by omega⟩
    obtain rfl : j = B.length := by omega
    rw [scriniumlaw3_RowsMany.l0, if_neg (by omega), List.take_length]
    have hc : B.countP (oldB l.length) = A.length := by rw [← hf, List.countP_eq_length_filter]
    rw [if_pos (by omega), w64i ((A.length : Int) + (s.size : Int)) (by omega), w64i ((A.length : Int) + (s.size : Int) + 1) (by omega)]
    congr 1
    rw [beq_iff_eq]
    omega
  | succ m ih =>
    intro j k hm hj hk
    obtain ⟨k1, rfl⟩ : ∃ k1, k = k1 + 1 := ⟨k - 1, by omega⟩
    have hjl : j < B.length := by omega
    have hrec := ih (j + 1) k1 (by omega) (by omega) (by omega)
    have hw : wrap64 ((j : Int) + 1) = ((j + 1 : Nat) : Int) := w64 (j + 1) (by omega)
    have htk : B.take (j + 1) = B.take j ++ [B[j]] := List.take_succ_eq_append_getElem hjl
    rw [htk, List.countP_append, List.countP_cons, List.countP_nil, Nat.zero_add] at hrec
    rw [scriniumlaw3_RowsMany.l0]
    rw [if_pos (by omega), if_pos (by omega), if_pos (by omega), rd_row B j hjl, hw]
    by_cases ho : B[j].f0 = (l.length : Int)
    · rw [if_pos ho]
      have : oldB l.length B[j] = false := by unfold oldB; rw [decide_eq_true ho]; rfl
      rw [this, if_neg (by simp), Nat.add_zero] at hrec
      exact hrec
    · rw [if_neg ho]
      have hold : oldB l.length B[j] = true := by unfold oldB; rw [decide_eq_false ho]; rfl
      rw [hold, if_pos rfl] at hrec
      have hsplit : A = (B.take j).filter (oldB l.length) ++ (B[j] :: (B.drop (j + 1)).filter (oldB l.length)) := by
        rw [← hf]
        conv => lhs; rw [← List.take_append_drop j B, List.drop_eq_getElem_cons hjl]
        rw [List.filter_append, List.filter_cons_of_pos hold]
      have hcl : (B.take j).countP (oldB l.length) = ((B.take j).filter (oldB l.length)).length := List.countP_eq_length_filter
      obtain ⟨q, hq⟩ : ∃ q, (B.take j).countP (oldB l.length) = q := ⟨_, rfl⟩
      rw [hq] at hcl hrec ⊢
      have hqA : q < A.length := by
        rw [hsplit, List.length_append, List.length_cons]
        omega
      have hAq : A[q] = B[j] := by
        have : A[q]? = some B[j] := by
          rw [hsplit, List.getElem?_append_right (by omega), show q - ((B.take j).filter (oldB l.length)).length = 0 by omega]
          rfl
        rw [List.getElem?_eq_getElem hqA] at this
        exact Option.some.inj this
      rw [if_neg (by omega), if_pos (by omega), if_pos (by omega), rd_row A q hqA, hAq, if_neg (by simp)]
      rw [show wrap64 ((q : Int) + 1) = ((q + 1 : Nat) : Int) from w64 (q + 1) (by omega)]
      exact hrec
theorem RowsMany_pure (l : List ByteArray) (s : ByteArray) (hs : ∀ s ∈ l, s.size ≤ 140737488351232) (hl : l.length * 16 ≤ 140737488351232) : ∃ k, scriniumlaw3_RowsMany.f k l s = some true := by
  obtain ⟨q, hq⟩ : ∃ q : Nat, q = l.length + 600 := ⟨_, rfl⟩
  refine ⟨q, ?_⟩
  have ht : scriniumlaw3_RowsMany.j0 q l s true = some true := by
    obtain ⟨k, rfl⟩ : ∃ k, q = k + 1 := ⟨q - 1, by omega⟩
    rw [scriniumlaw3_RowsMany.j0, if_pos rfl, alive_ok k (by omega)]
    rfl
  unfold scriniumlaw3_RowsMany.f
  rw [few_all l hs hl q (by omega), Option.bind_some]
  by_cases hf : fewB l = true
  case neg => rw [if_neg hf]; exact ht
  rw [if_pos hf]
  by_cases h10 : (l.length : Int) ≥ 10
  · rw [if_pos h10]; exact ht
  rw [if_neg h10, if_pos (by show 0 + l.length < _; omega), Option.bind_some, List.nil_append, if_pos (by omega)]
  have hr : rows_Right.f (l ++ [s]) = some (rightB (l ++ [s])) := rfl
  rw [hr, Option.bind_some]
  by_cases hR : rightB (l ++ [s]) = true
  case neg => rw [if_neg hR]; exact ht
  rw [if_pos hR, alive_ok q (by omega), Option.bind_some]
  show scriniumlaw3_RowsMany.j0 q l s false = some true
  obtain ⟨k, rfl⟩ : ∃ k, q = k + 1 := ⟨q - 1, by omega⟩
  have hS1 : rows_Sorted.f l = some (sortedRows l) := rfl
  have hS2 : rows_Sorted.f (l ++ [s]) = some (sortedRows (l ++ [s])) := rfl
  have hs40 : s.size ≤ 40 := by
    have h1 := right_doc hR (l.length : Int)
    have h2 : docAt (l ++ [s]) (l.length : Int) = s := by
      unfold docAt rdOf
      rw [Int.toNat_natCast, List.getD_eq_getElem?_getD, List.getElem?_append_right (by omega), Nat.sub_self]
      rfl
    rwa [h2] at h1
  have hlen : (sortedRows (l ++ [s])).length = (sortedRows l).length + s.size + 1 := by
    rw [sorted_length _ hR, sorted_length _ (right_app hR)]
    unfold sumTo
    simp
    omega
  have hb1 := sortedRows_le l
  have hb2 := sortedRows_le (l ++ [s])
  rw [scriniumlaw3_RowsMany.j0, if_neg (by simp), hS1, Option.bind_some, if_pos (by show 0 + l.length < _; omega), Option.bind_some, List.nil_append, if_pos (by omega), hS2, Option.bind_some]
  exact many_l l s (sortedRows l) (sortedRows (l ++ [s])) (by omega) hs40 hb1 hb2 (many_is l s hR) hlen _ 0 k rfl (Nat.zero_le _) (by omega)
theorem RowsMany_all (A0 : Option Addr) (c0 : Nat) (l0 : List ByteArray) (a1 : ByteArray) (w : World) (hC : Kd.C Kd.string w A0 l0.length l0) (hc : l0.length ≤ c0) (hs : ∀ s ∈ l0, s.size ≤ 140737488351232) (hl : l0.length * 16 ≤ 140737488351232) (_ : a1.size ≤ 140737488351232) :
    Calls Try.prog 9 #[.slice A0 l0.length c0, .string a1] w fun e w' => e = .returned (.bool true) ∧ Below w.heap.size w w' := by
  obtain ⟨k, h⟩ := RowsMany_pure l0 a1 hs hl
  exact scriniumlaw3_RowsMany.calls k A0 c0 l0 a1 true w hC hc h
end Go.Proofs.Ythoapfagcdbpeaa.P
