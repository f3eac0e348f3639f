/- The plain law of RowsTerminators, and its walk. Conditions: the row's. -/
import Derived.Test.YthoapfagcdbpeaaPure0
import Derived.Test.YthoapfagcdbpeaaDocs
import Derived.Test.YthoapfagcdbpeaaP5
set_option linter.unusedVariables false
set_option linter.unusedSimpArgs false
namespace Go.Proofs.Ythoapfagcdbpeaa.P
open Go.RowKit Go.Proofs.YthoapfagcdbpeaaW.PrintWords Go.Proofs.YthoapfagcdbpeaaW.PrintLast Go.Proofs.YthoapfagcdbpeaaW.PrintMore

theorem term_only (l : List ByteArray) (hl : rightB l = true) (i : Nat) (hi : i < (sortedRows l).length) (h : (sortedRows l)[i].f1 = ((docAt l (sortedRows l)[i].f0).size : Int)) : i < l.length := by
  have hok := rowOk_iff.1 (sortedRows_ok l _ (List.getElem_mem hi))
  obtain ⟨d, hd⟩ : ∃ d : Nat, (sortedRows l)[i].f0 = d := ⟨(sortedRows l)[i].f0.toNat, by omega⟩
  have hdl : d < l.length := by omega
  obtain ⟨hdi, he⟩ := row_term l hl d hdl
  have heq : (sortedRows l)[i] = (sortedRows l)[d] := by
    rw [he]
    rw [hd] at h
    cases hr : (sortedRows l)[i] with
    | mk a b =>
      rw [hr] at h hd
      dsimp only at h hd
      subst hd
      rw [h]
  have h1 := index_of l hl i hi
  have h2 := index_of l hl d hdi
  rw [heq] at h1
  omega
theorem zeros_le (s : List Int) (j : Nat) : rank 0 j s ≤ s.length := Nat.le_trans List.countP_le_length (List.length_take_le' _ _)
theorem terms_l1 (l : List ByteArray) (hl : rightB l = true) : ∀ (m j k : Nat), m = (sortedRows l).length - j → j ≤ (sortedRows l).length → 3 * m + 1 ≤ k →
    scriniumlaw3_RowsTerminators.l1 k l (sortedRows l) (symbolsOf l) (rank 0 j (symbolsOf l) : Int) ((sortedRows l).length : Int) (j : Int) = some true := by
  have hlen := right_len hl
  have hsl := sortedRows_le l
  have hln := symbolsOf_length l
  intro m
  induction m with
  | zero =>
    intro j k hm hj hk
    obtain ⟨k1, rfl⟩ : ∃ k1, k = k1 + 1 := ⟨k - 1, by omega⟩
    obtain rfl : j = (sortedRows l).length := by omega
    have hz := rank_zero l hl
    rw [hln] at hz
    rw [scriniumlaw3_RowsTerminators.l1, if_neg (by omega), hz, beq_self_eq_true]
  | succ m ih =>
    intro j k hm hj hk
    obtain ⟨k1, rfl⟩ : ∃ k1, k = k1 + 3 := ⟨k - 3, by omega⟩
    have hjl : j < (sortedRows l).length := by omega
    have hrec := ih (j + 1) k1 (by omega) (by omega) (by omega)
    have hw : wrap64 ((j : Int) + 1) = ((j + 1 : Nat) : Int) := w64 (j + 1) (by omega)
    have hok := rowOk_iff.1 (sortedRows_ok l _ (List.getElem_mem hjl))
    have hjs : j < (symbolsOf l).length := by omega
    have hr : rank 0 (j + 1) (symbolsOf l) = rank 0 j (symbolsOf l) + if decide ((symbolsOf l)[j] = 0) = true then 1 else 0 := by
      unfold rank
      rw [List.take_succ_eq_append_getElem hjs, List.countP_append, List.countP_cons, List.countP_nil, Nat.zero_add]
    have hle := zeros_le (symbolsOf l) j
    have hrd : rd (symbolsOf l) (j : Int) = (symbolsOf l)[j] := by
      unfold rd
      rw [Int.toNat_natCast, List.getD_eq_getElem?_getD, List.getElem?_eq_getElem hjs]
      rfl
    have hdoc : (rdOf ByteArray.empty l (sortedRows l)[j].f0) = docAt l (sortedRows l)[j].f0 := rfl
    rw [hr] at hrec
    rw [scriniumlaw3_RowsTerminators.l1, if_pos (by omega), if_pos (by omega), if_pos (by omega), rd_row _ j hjl, if_neg (by omega), decide_eq_false (by omega)]
    rw [scriniumlaw3_RowsTerminators.j4, if_neg (by simp), if_pos (by omega), if_pos (by omega), rd_row _ j hjl, if_pos (by omega), if_pos (by omega), hdoc]
    have hj5 : scriniumlaw3_RowsTerminators.j5 (k1 + 1) l (sortedRows l) (symbolsOf l) (rank 0 j (symbolsOf l) : Int) (j : Int) ((sortedRows l).length : Int) (j : Int) false = some true := by
      rw [scriniumlaw3_RowsTerminators.j5, if_neg (by simp), if_pos (by omega), if_pos (by omega), hrd, hw]
      by_cases hz : (symbolsOf l)[j] = 0
      · rw [if_pos (decide_eq_true hz)] at hrec
        rw [if_pos hz, show wrap64 ((rank 0 j (symbolsOf l) : Int) + 1) = ((rank 0 j (symbolsOf l) + 1 : Nat) : Int) from w64 (_ + 1) (by omega)]
        exact hrec
      · rw [if_neg (by simpa using hz)] at hrec
        rw [if_neg hz]
        exact hrec
    by_cases hlt : j < l.length
    · obtain ⟨_, he⟩ := row_term l hl j hlt
      rw [if_neg (by
        rw [he]
        dsimp only
        rw [decide_eq_true (show (j : Int) < (l.length : Int) by omega), beq_self_eq_true]
        decide), if_pos (by omega)]
      have : ((sortedRows l)[j].f0 != (j : Int)) = false := by rw [he]; simp
      rw [this]
      exact hj5
    · have hne : ¬ (sortedRows l)[j].f1 = ((docAt l (sortedRows l)[j].f0).size : Int) := fun h => hlt (term_only l hl j hjl h)
      rw [if_neg (by
        rw [decide_eq_false (show ¬ (j : Int) < (l.length : Int) by omega), beq_eq_false_iff_ne.2 hne]
        decide), if_neg (by omega)]
      exact hj5
theorem terms_l0 (l : List ByteArray) (hl : rightB l = true) (hf : sumTo l ≤ 160) : ∀ (m j k : Nat), m = l.length - j → j ≤ l.length → 2000 + m ≤ k →
    scriniumlaw3_RowsTerminators.l0 k l (sortedRows l) (symbolsOf l) ((l.length + sumTo (l.take j) : Nat) : Int) (l.length : Int) (j : Int) = some true := by
  have hlen := right_len hl
  have hsl := sortedRows_le l
  have hso := sorted_length l hl
  have hln := symbolsOf_length l
  intro m
  induction m with
  | zero =>
    intro j k hm hj hk
    obtain ⟨k1, rfl⟩ : ∃ k1, k = k1 + 2 := ⟨k - 2, by omega⟩
    obtain rfl : j = l.length := by omega
    rw [scriniumlaw3_RowsTerminators.l0, if_neg (by omega), List.take_length, ← hso, if_pos rfl]
    have : (((symbolsOf l).length : Int) != ((sortedRows l).length : Int)) = false := by rw [hln]; simp
    rw [this, scriniumlaw3_RowsTerminators.j2, if_neg (by simp)]
    exact terms_l1 l hl _ 0 k1 rfl (Nat.zero_le _) (by omega)
  | succ m ih =>
    intro j k hm hj hk
    obtain ⟨k1, rfl⟩ : ∃ k1, k = k1 + 1 := ⟨k - 1, by omega⟩
    have hjl : j < l.length := by omega
    have hrec := ih (j + 1) k1 (by omega) (by omega) (by omega)
    have h1 := sum_take l j hjl
    have h2 := sum_take_le l (j + 1)
    rw [scriniumlaw3_RowsTerminators.l0, if_pos (by omega), if_pos (by omega), if_pos (by omega), rd_doc l j hjl, show wrap64 ((j : Int) + 1) = ((j + 1 : Nat) : Int) from w64 (j + 1) (by omega)]
    rw [show ((l.length + sumTo (l.take j) : Nat) : Int) + (l[j].size : Int) = ((l.length + sumTo (l.take (j + 1)) : Nat) : Int) by omega, w64 _ (by omega)]
    exact hrec
theorem RowsTerminators_pure (l : List ByteArray) (hs : ∀ s ∈ l, s.size ≤ 140737488351232) (hl : l.length * 16 ≤ 140737488351232) : ∃ k, scriniumlaw3_RowsTerminators.f k l = some true := by
  obtain ⟨q, hq⟩ : ∃ q : Nat, q = l.length + 5000 := ⟨_, rfl⟩
  refine ⟨q, ?_⟩
  have ht : scriniumlaw3_RowsTerminators.j0 q l true = some true := by
    obtain ⟨k, rfl⟩ : ∃ k, q = k + 1 := ⟨q - 1, by omega⟩
    rw [scriniumlaw3_RowsTerminators.j0, if_pos rfl, alive_ok k (by omega)]
    rfl
  unfold scriniumlaw3_RowsTerminators.f
  rw [few_all l hs hl q (by omega), Option.bind_some]
  by_cases hf : fewB l = true
  case neg => rw [if_neg hf]; exact ht
  have hr : rows_Right.f l = some (rightB l) := rfl
  rw [if_pos hf, hr, Option.bind_some]
  by_cases hR : rightB l = true
  case neg => rw [if_neg hR]; exact ht
  rw [if_pos hR, alive_ok q (by omega), Option.bind_some]
  show scriniumlaw3_RowsTerminators.j0 q l false = some true
  obtain ⟨k, rfl⟩ : ∃ k, q = k + 1 := ⟨q - 1, by omega⟩
  have hS : rows_Sorted.f l = some (sortedRows l) := rfl
  have hsum : sumTo l ≤ 160 := by
    unfold fewB at hf
    rw [Bool.and_eq_true, decide_eq_true_eq, decide_eq_true_eq] at hf
    exact hf.2
  rw [scriniumlaw3_RowsTerminators.j0, if_neg (by simp), hS, Option.bind_some, symbols_ok l k (by omega), Option.bind_some]
  exact terms_l0 l hR hsum l.length 0 k (by omega) (Nat.zero_le _) (by omega)
theorem RowsTerminators_all (A0 : Option Addr) (c0 : Nat) (l0 : List ByteArray) (w : World) (hC : Kd.C Kd.string w A0 l0.length l0) (hc : l0.length ≤ c0) (hs : ∀ s ∈ l0, s.size ≤ 140737488351232) (hl : l0.length * 16 ≤ 140737488351232) :
    Calls Try.prog 5 #[.slice A0 l0.length c0] w fun e w' => e = .returned (.bool true) ∧ Below w.heap.size w w' := by
  obtain ⟨k, h⟩ := RowsTerminators_pure l0 hs hl
  exact scriniumlaw3_RowsTerminators.calls k A0 c0 l0 true w hC hc h
end Go.Proofs.Ythoapfagcdbpeaa.P
