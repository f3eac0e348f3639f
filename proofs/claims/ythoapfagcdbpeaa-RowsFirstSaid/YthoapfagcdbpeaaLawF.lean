/- The plain law of RowsFirst, and its walk. Conditions: the row's: sizes, and how the list lies in memory. -/
import Derived.Test.YthoapfagcdbpeaaPure0
import Derived.Test.YthoapfagcdbpeaaDocs
import Derived.Test.YthoapfagcdbpeaaP10
set_option linter.unusedVariables false
set_option linter.unusedSimpArgs false
namespace Go.Proofs.Ythoapfagcdbpeaa.P
open Go.RowKit Go.Proofs.YthoapfagcdbpeaaW.PrintWords Go.Proofs.YthoapfagcdbpeaaW.PrintLast Go.Proofs.YthoapfagcdbpeaaW.PrintMore

theorem nil_iff (s : ByteArray) : s.toList = ([] : List UInt8) ↔ s.size = 0 := by
  rw [ByteArray.toList_eq, ← data_length, List.length_eq_zero_iff]
theorem syms_len (l : List ByteArray) (hl : rightB l = true) : (symbolsOf l).length = l.length + sumTo l := (symbolsOf_length l).trans (sorted_length l hl)
theorem sym_term (l : List ByteArray) (hl : rightB l = true) (d : Nat) (hd : d < l.length) : rd (symbolsOf l) (d : Int) = if l[d].size = 0 then 0 else bt l[d] ((l[d].size : Int) - 1) + 1 := by
  obtain ⟨hi, he⟩ := row_term l hl d hd
  have h1 : rd (symbolsOf l) (d : Int) = symOf (symbolsOf l) d := by unfold rd symOf; rw [Int.toNat_natCast]
  rw [h1, sym_row l d hi, he]
  unfold symAt
  dsimp only
  rw [docAt_get l d hd]
  by_cases h : l[d].size = 0
  · rw [if_pos h, if_neg (by omega)]
  · rw [if_neg h, if_pos (by omega)]
theorem first_l (l : List ByteArray) (hl : rightB l = true) : ∀ (m j k : Nat), m = l.length - j → j ≤ l.length → m + 1 ≤ k → scriniumlaw3_RowsFirst.l0 k (symbolsOf l) l (l.length : Int) (j : Int) = some true := by
  have hlen := right_len hl
  have hsl := syms_len l hl
  intro m
  induction m with
  | zero =>
    intro j k hm hj hk
    obtain ⟨k1, rfl⟩ : ∃ k1, k = k1 + 1 := ⟨k - 1, by omega⟩
    rw [scriniumlaw3_RowsFirst.l0, if_neg (by omega)]
  | succ m ih =>
    intro j k hm hj hk
    obtain ⟨k1, rfl⟩ : ∃ k1, k = k1 + 1 := ⟨k - 1, by omega⟩
    have hjl : j < l.length := by omega
    have hrec := ih (j + 1) k1 (by omega) (by omega) (by omega)
    have hw : wrap64 ((j : Int) + 1) = ((j + 1 : Nat) : Int) := w64 (j + 1) (by omega)
    have hsy := sym_term l hl j hjl
    have hz : l[j].size ≤ 40 := by have := right_doc hl (j : Int); rwa [docAt_get l j hjl] at this
    rw [scriniumlaw3_RowsFirst.l0]
    rw [if_pos (by omega), if_pos (by omega), if_pos (by omega), rd_doc l j hjl, hw]
    by_cases h : l[j].size = 0
    · rw [if_pos ((nil_iff _).2 h), if_pos (by omega)]
      rw [if_pos h] at hsy
      rw [if_pos hsy]
      exact hrec
    · rw [if_neg (fun h2 => h ((nil_iff _).1 h2))]
      rw [if_neg h] at hsy
      have hb := bt_range l[j] ((l[j].size : Int) - 1)
      rw [w64i ((l[j].size : Int) - 1) (by omega), w64i (bt l[j] ((l[j].size : Int) - 1)) (by omega), w64i (bt l[j] ((l[j].size : Int) - 1) + 1) (by omega)]
      rw [if_pos (by omega), if_pos (by omega), if_pos (by omega), if_pos hsy]
      exact hrec
theorem RowsFirst_pure (l : List ByteArray) (hs : ∀ s ∈ l, s.size ≤ 140737488351232) (hl : l.length * 16 ≤ 140737488351232) : ∃ k, scriniumlaw3_RowsFirst.f k l = some true := by
  obtain ⟨q, hq⟩ : ∃ q : Nat, q = l.length + 500 := ⟨_, rfl⟩
  refine ⟨q, ?_⟩
  have ht : scriniumlaw3_RowsFirst.j0 q l true = some true := by
    obtain ⟨k, rfl⟩ : ∃ k, q = k + 1 := ⟨q - 1, by omega⟩
    rw [scriniumlaw3_RowsFirst.j0, if_pos rfl, alive_ok k (by omega)]
    rfl
  unfold scriniumlaw3_RowsFirst.f
  rw [few_all l hs hl q (by omega), Option.bind_some]
  by_cases hf : fewB l = true
  · have hr : rows_Right.f l = some (rightB l) := rfl
    rw [if_pos hf, hr, Option.bind_some]
    by_cases hR : rightB l = true
    · rw [if_pos hR, alive_ok q (by omega), Option.bind_some]
      show scriniumlaw3_RowsFirst.j0 q l false = some true
      obtain ⟨k, rfl⟩ : ∃ k, q = k + 1 := ⟨q - 1, by omega⟩
      have hsl := syms_len l hR
      rw [scriniumlaw3_RowsFirst.j0, if_neg (by simp), symbols_ok l k (by omega), Option.bind_some, if_neg (by omega)]
      exact first_l l hR l.length 0 k (by omega) (Nat.zero_le _) (by omega)
    · rw [if_neg hR]
      exact ht
  · rw [if_neg hf]
    exact ht
theorem RowsFirst_all (A0 : Option Addr) (c0 : Nat) (l0 : List ByteArray) (w : World) (hC : Kd.C Kd.string w A0 l0.length l0) (hc : l0.length ≤ c0) (hs : ∀ s ∈ l0, s.size ≤ 140737488351232) (hl : l0.length * 16 ≤ 140737488351232) :
    Calls Try.prog 12 #[.slice A0 l0.length c0] w fun e w' => e = .returned (.bool true) ∧ Below w.heap.size w w' := by
  obtain ⟨k, h⟩ := RowsFirst_pure l0 hs hl
  exact scriniumlaw3_RowsFirst.calls k A0 c0 l0 true w hC hc h
end Go.Proofs.Ythoapfagcdbpeaa.P
