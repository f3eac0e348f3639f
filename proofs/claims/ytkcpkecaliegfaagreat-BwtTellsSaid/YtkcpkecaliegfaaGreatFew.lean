/- The plain law of Few: the count of documents and of their bytes. Conditions: each document's size. -/
import Derived.Test.YtkcpkecaliegfaaGreatRwB
import Derived.Test.YtkcpkecaliegfaaGreatPj
set_option linter.unusedVariables false
set_option linter.unusedSimpArgs false
namespace Go.Proofs.YtkcpkecaliegfaaGreat.P
open Go.RowKit Go.Proofs.YtkcpkecaliegfaaGreatW.PrintWords Go.Proofs.YtkcpkecaliegfaaGreatW.PrintLast Go.Proofs.YtkcpkecaliegfaaGreatW.PrintMore

theorem up {α : Type} (f : Nat → Option α) (hm : ∀ k, LeO (f k) (f (k + 1))) {k : Nat} {r : α} (h : f k = some r) : ∀ j, k ≤ j → f j = some r := by
 intro j hj
 obtain ⟨d, rfl⟩ := Nat.le.dest hj
 induction d with
 | zero => exact h
 | succ d ih => exact hm (k + d) r (ih (by omega))
/-- The bytes of the documents behind the first j. -/
def sumTo (l : List ByteArray) : Nat := (l.map ByteArray.size).sum
theorem sum_le (M : Nat) : ∀ t : List ByteArray, (∀ s ∈ t, s.size ≤ M) → sumTo t ≤ t.length * M := by
 intro t
 induction t with
 | nil => intro _; exact Nat.zero_le _
 | cons x t ih =>
  intro h
  have h1 := h x List.mem_cons_self
  have h2 := ih (fun s hs => h s (List.mem_cons_of_mem _ hs))
  unfold sumTo at *
  rw [List.map_cons, List.sum_cons, List.length_cons, Nat.add_mul]
  omega
theorem sum_take (l : List ByteArray) (j : Nat) (h : j < l.length) : sumTo (l.take (j + 1)) = sumTo (l.take j) + l[j].size := by
 unfold sumTo
 rw [List.take_succ_eq_append_getElem h, List.map_append, List.sum_append]
 simp
theorem sum_take_le (l : List ByteArray) (j : Nat) : sumTo (l.take j) ≤ sumTo l := by
 have h := congrArg sumTo (List.take_append_drop j l)
 unfold sumTo at *
 rw [List.map_append, List.sum_append] at h
 omega
theorem rd_doc (l : List ByteArray) (j : Nat) (h : j < l.length) : rdOf ByteArray.empty l (j : Int) = l[j] := by
 unfold rdOf
 rw [Int.toNat_natCast, List.getD_eq_getElem?_getD, List.getElem?_eq_getElem h]
 rfl
theorem w64 (n : Nat) (h : n < 9223372036854775807) : wrap64 (n : Int) = (n : Int) := (i64_w _).symm.trans (IntWalk.i64_in _ (by omega))
theorem few_l (l : List ByteArray) (hs : sumTo l < 9223372036854775807) (hl : l.length < 9223372036854775806) : ∀ (m j k : Nat), m = l.length - j → j ≤ l.length → m + 1 ≤ k →
  scriniumlaw3_Few.l0 k l (sumTo (l.take j) : Int) (l.length : Int) (j : Int) = some (decide (l.length ≤ 14) && decide (sumTo l ≤ 160)) := by
 intro m
 induction m with
 | zero =>
  intro j k hm hj hk
  obtain ⟨k1, rfl⟩ : ∃ k1, k = k1 + 1 := ⟨k - 1, by omega⟩
  have : j = l.length := by omega
  subst this
  unfold scriniumlaw3_Few.l0
  rw [if_neg (by omega), List.take_length]
  by_cases h14 : l.length ≤ 14
  ·rw [if_pos (by omega), decide_eq_true h14, Bool.true_and]
   congr 1
   apply decide_eq_decide.2
   omega
  ·rw [if_neg (by omega), decide_eq_false h14, Bool.false_and]
 | succ m ih =>
  intro j k hm hj hk
  obtain ⟨k1, rfl⟩ : ∃ k1, k = k1 + 1 := ⟨k - 1, by omega⟩
  have hjl : j < l.length := by omega
  unfold scriniumlaw3_Few.l0
  rw [if_pos (by omega), if_pos (by omega), if_pos (by omega), rd_doc l j hjl]
  have h1 := sum_take l j hjl
  have h2 := sum_take_le l (j + 1)
  rw [← Int.natCast_add, ← h1, w64 _ (by omega)]
  rw [show ((j : Int) + 1) = ((j + 1 : Nat) : Int) from rfl, w64 _ (by omega)]
  exact ih (j + 1) k1 (by omega) (by omega) (by omega)
theorem few_ok (l : List ByteArray) (hs : sumTo l < 9223372036854775807) (hl : l.length < 9223372036854775806) (k : Nat) (hk : l.length + 1 ≤ k) :
  scriniumlaw3_Few.f k l = some (decide (l.length ≤ 14) && decide (sumTo l ≤ 160)) := by
 have := few_l l hs hl l.length 0 k (by omega) (Nat.zero_le _) hk
 unfold scriniumlaw3_Few.f
 exact this
/-- Few, whatever the documents: many of them are not few, however their bytes add up. -/
theorem few_many (l : List ByteArray) (hl : l.length < 9223372036854775806) (h14 : 14 < l.length) : ∀ (m j k : Nat) (n : Int), m = l.length - j → j ≤ l.length → m + 1 ≤ k →
  scriniumlaw3_Few.l0 k l n (l.length : Int) (j : Int) = some false := by
 intro m
 induction m with
 | zero =>
  intro j k n hm hj hk
  obtain ⟨k1, rfl⟩ : ∃ k1, k = k1 + 1 := ⟨k - 1, by omega⟩
  have : j = l.length := by omega
  subst this
  unfold scriniumlaw3_Few.l0
  rw [if_neg (by omega), if_neg (by omega)]
 | succ m ih =>
  intro j k n hm hj hk
  obtain ⟨k1, rfl⟩ : ∃ k1, k = k1 + 1 := ⟨k - 1, by omega⟩
  have hjl : j < l.length := by omega
  unfold scriniumlaw3_Few.l0
  rw [if_pos (by omega), if_pos (by omega), if_pos (by omega)]
  rw [show ((j : Int) + 1) = ((j + 1 : Nat) : Int) from rfl, w64 _ (by omega)]
  exact ih (j + 1) k1 _ (by omega) (by omega) (by omega)
def fewB (l : List ByteArray) : Bool := decide (l.length ≤ 14) && decide (sumTo l ≤ 160)
theorem few_all (l : List ByteArray) (hs : ∀ s ∈ l, s.size ≤ 140737488351232) (hl : l.length * 16 ≤ 140737488351232) (k : Nat) (hk : l.length + 1 ≤ k) : scriniumlaw3_Few.f k l = some (fewB l) := by
 by_cases h14 : l.length ≤ 14
 ·refine few_ok l ?_ (by omega) k hk
  have h1 := sum_le 140737488351232 l hs
  have h2 : l.length * 140737488351232 ≤ 14 * 140737488351232 := Nat.mul_le_mul_right _ h14
  exact Nat.lt_of_le_of_lt (Nat.le_trans h1 h2) (by decide)
 ·unfold fewB
  rw [decide_eq_false h14, Bool.false_and]
  have := few_many l (by omega) (by omega) l.length 0 k 0 (by omega) (Nat.zero_le _) hk
  unfold scriniumlaw3_Few.f
  exact this
end Go.Proofs.YtkcpkecaliegfaaGreat.P
