/- The plain law of RowsLengths. Conditions: none. -/
import Derived.Test.YthoapfagcdbpeaaPure0
import Derived.Test.YthoapfagcdbpeaaP8
set_option linter.unusedVariables false
set_option linter.unusedSimpArgs false
namespace Go.Proofs.Ythoapfagcdbpeaa.P
open Go.RowKit Go.Proofs.YthoapfagcdbpeaaW.PrintWords Go.Proofs.YthoapfagcdbpeaaW.PrintLast Go.Proofs.YthoapfagcdbpeaaW.PrintMore

def emp : ByteArray := ⟨#[]⟩
def lens (n : Nat) (S : ByteArray) : List ByteArray := if n = 0 then [] else List.replicate (n - 1) emp ++ [S]
theorem set_last (m : Nat) (S : ByteArray) : (List.replicate (m + 1) emp).set m S = List.replicate m emp ++ [S] := by
  induction m with
  | zero => rfl
  | succ m ih => rw [List.replicate_succ, List.set_cons_succ, ih, List.replicate_succ]; rfl
theorem lens_length (n : Nat) (S : ByteArray) : (lens n S).length = n := by
  unfold lens
  by_cases h : n = 0
  · rw [if_pos h, h]; rfl
  · rw [if_neg h, List.length_append, List.length_replicate]
    simp
    omega
theorem sum_rep (m : Nat) (S : ByteArray) : sumTo (List.replicate m emp ++ [S]) = S.size := by
  unfold sumTo
  rw [List.map_append, List.sum_append, List.map_replicate]
  have : (emp.size : Nat) = 0 := rfl
  rw [this]
  simp
theorem lens_right (n : Nat) (S : ByteArray) : rightB (lens n S) = (decide (n ≤ 10) && (decide (n = 0) || decide (S.size ≤ 40))) := by
  unfold rightB
  rw [lens_length]
  unfold lens
  by_cases h : n = 0
  · rw [if_pos h, decide_eq_true h]; simp [h]
  · rw [if_neg h, decide_eq_false h, Bool.false_or, List.any_append]
    have h1 : (List.replicate (n - 1) emp).any longB = false := by
      rw [List.any_eq_false]
      intro x hx
      rw [(List.mem_replicate.1 hx).2]
      decide
    rw [h1]
    congr 1
    simp only [List.any_cons, List.any_nil, Bool.or_false, Bool.false_or, longB]
    by_cases h2 : S.size ≤ 40
    · rw [decide_eq_true h2, decide_eq_false (by omega)]; rfl
    · rw [decide_eq_false h2, decide_eq_true (by omega)]; rfl
/-- The want of the law. -/
theorem lens_rows (n : Nat) (S : ByteArray) : (sortedRows (lens n S)).length = if rightB (lens n S) && decide (0 < n) then n + S.size else 0 := by
  cases h : rightB (lens n S) with
  | false => rw [sortedRows_none _ h]; rfl
  | true =>
    rw [sorted_length _ h, lens_length]
    by_cases hn : n = 0
    · subst hn; rfl
    · rw [Bool.true_and, if_pos (decide_eq_true (by omega))]
      unfold lens
      rw [if_neg hn, sum_rep]

theorem lengths_j4 (n z k : Nat) (S : ByteArray) (hz : S.size = z) (hn : n ≤ 14) (hz2 : z ≤ 60) (hk : 412 ≤ k) (b : Bool) (hb : rightB (lens n S) = b) (c : Bool) (hc : (b && decide (0 < n)) = c) :
    scriniumlaw3_RowsLengths.j4 k n z (lens n S) b 0 c = some true := by
  obtain ⟨k1, rfl⟩ : ∃ k1, k = k1 + 1 := ⟨k - 1, by omega⟩
  have hl := lens_rows n S
  rw [hb, hc, hz] at hl
  have hs := symbols_ok (lens n S) k1 (by omega)
  have hsl := symbolsOf_length (lens n S)
  rw [hl] at hsl
  have e1 : rows_Right.f (lens n S) = some b := by unfold rows_Right.f; rw [hb]
  have e2 : rows_Sorted.f (lens n S) = some (sortedRows (lens n S)) := by unfold rows_Sorted.f; exact Eq.refl _
  have hw : wrap64 ((n : Int) + (z : Int)) = ((n + z : Nat) : Int) := by rw [← Int.natCast_add]; exact w64 _ (by omega)
  clear hk hz hn hz2 hb
  generalize sortedRows (lens n S) = R at *
  generalize symbolsOf (lens n S) = Q at *
  unfold scriniumlaw3_RowsLengths.j4
  dsimp only
  rw [e1, e2, hs]
  cases c with
  | true =>
    have hl2 : R.length = n + z := hl.trans (if_pos rfl)
    have hq2 : Q.length = n + z := hsl.trans (if_pos rfl)
    rw [if_pos rfl, Option.bind_some, if_pos (beq_self_eq_true b), Option.bind_some, hl2, hw, if_pos rfl, Option.bind_some, hq2, beq_self_eq_true]
  | false =>
    have hl2 : R.length = 0 := hl.trans (if_neg Bool.false_ne_true)
    have hq2 : Q.length = 0 := hsl.trans (if_neg Bool.false_ne_true)
    rw [if_neg Bool.false_ne_true, Option.bind_some, if_pos (beq_self_eq_true b), Option.bind_some, hl2, if_pos (show ((0 : Nat) : Int) = 0 from rfl), Option.bind_some, hq2]
    rfl
theorem lengths_l0 (n z : Nat) (hn : n ≤ 14) (hz : z ≤ 60) : ∀ (m j k : Nat), m = n - j → j ≤ n → 430 + m ≤ k →
    scriniumlaw3_RowsLengths.l0 k n z (List.replicate j emp) j = some true := by
  intro m
  induction m with
  | succ m ih =>
    intro j k hm hj hk
    obtain ⟨k1, rfl⟩ : ∃ k1, k = k1 + 1 := ⟨k - 1, by omega⟩
    have hrec := ih (j + 1) k1 (by omega) (by omega) (by omega)
    have hj1 : wrap64 ((j : Int) + 1) = ((j + 1 : Nat) : Int) := w64i _ (by omega)
    have hr : List.replicate j emp ++ [(⟨#[]⟩ : ByteArray)] = List.replicate (j + 1) emp := List.replicate_succ'.symm
    unfold scriniumlaw3_RowsLengths.l0
    try dsimp only
    rw [if_pos (show (j : Int) < (n : Int) by omega), if_pos (show (List.replicate j emp).length < 8796093022208 by rw [List.length_replicate]; exact Nat.lt_of_le_of_lt (Nat.le_trans hj hn) (by decide)), hr, hj1]
    exact hrec
  | zero =>
    intro j k hm hj hk
    obtain ⟨k1, rfl⟩ : ∃ k1, k = k1 + 3 := ⟨k - 3, by omega⟩
    have : j = n := by omega
    subst this
    obtain ⟨S, hS⟩ : ∃ S, strOfNums (List.replicate z 0) = S := ⟨_, rfl⟩
    have hSz : S.size = z := by rw [← hS, strOfNums_size]; simp
    have key : scriniumlaw3_RowsLengths.j2 (k1 + 2) j z (lens j S) = some true := by
      have hR := lens_right j S
      have j3 : ∀ b : Bool, rightB (lens j S) = b → scriniumlaw3_RowsLengths.j3 (k1 + 1) j z (lens j S) b = some true := by
        intro b hb
        unfold scriniumlaw3_RowsLengths.j3
        try dsimp only
        have hd : decide ((j : Int) > 0) = decide (0 < j) := by apply decide_eq_decide.2; omega
        cases b with
        | true =>
          rw [if_pos rfl, hd]
          exact lengths_j4 j z k1 S hSz hn hz (by omega) true hb _ (Bool.true_and _)
        | false =>
          rw [if_neg (by simp)]
          exact lengths_j4 j z k1 S hSz hn hz (by omega) false hb false (Bool.false_and _)
      unfold scriniumlaw3_RowsLengths.j2
      try dsimp only
      by_cases h10 : j ≤ 10
      · rw [if_pos (show (j : Int) ≤ 10 by omega)]
        by_cases h0 : j = 0
        · rw [if_pos (show (j : Int) = 0 by omega)]
          exact j3 true (by rw [hR, decide_eq_true h10, decide_eq_true h0]; rfl)
        · rw [if_neg (show ¬ (j : Int) = 0 by omega)]
          refine j3 _ ?_
          rw [hR, decide_eq_true h10, decide_eq_false h0, Bool.true_and, Bool.false_or, hSz]
          apply decide_eq_decide.2
          omega
      · rw [if_neg (show ¬ (j : Int) ≤ 10 by omega)]
        exact j3 false (by rw [hR, decide_eq_false h10, Bool.false_and])
    unfold scriniumlaw3_RowsLengths.l0
    try dsimp only
    rw [if_neg (show ¬ (j : Int) < (j : Int) by omega)]
    by_cases h0 : j = 0
    · subst h0
      rw [if_neg (by omega)]
      exact key
    · have hw : wrap64 ((j : Int) - 1) = ((j - 1 : Nat) : Int) := by rw [w64i _ (by omega)]; omega
      obtain ⟨q, rfl⟩ : ∃ q, j = q + 1 := ⟨j - 1, by omega⟩
      have t1 : ((q + 1 : Nat) : Int) > 0 := by omega
      have t2 : (0 : Int) ≤ (z : Int) := by omega
      have t3 : ((z : Nat) : Int).toNat ≤ 281474976710656 := by rw [Int.toNat_natCast]; exact Nat.le_trans hz (by decide)
      have t4 : (0 : Int) ≤ ((q + 1 - 1 : Nat) : Int) := by omega
      have t5 : ((q + 1 - 1 : Nat) : Int) < ((List.replicate (q + 1) emp).length : Int) := by rw [List.length_replicate]; omega
      rw [if_pos t1, if_pos t2, if_pos t3, hw, if_pos t4, if_pos t5]
      have hset : (List.replicate (q + 1) emp).set ((q + 1 - 1 : Nat) : Int).toNat (strOfNums (List.replicate ((z : Nat) : Int).toNat 0)) = lens (q + 1) S := by
        rw [Int.toNat_natCast, Int.toNat_natCast, hS]
        exact set_last q S
      rw [hset]
      exact key
theorem lengths_j0 (k : Nat) (hk : 499 ≤ k) (a b : Int) : scriniumlaw3_RowsLengths.j0 (k + 1) a b true = some true := by
  unfold scriniumlaw3_RowsLengths.j0
  try dsimp only
  rw [if_pos rfl, alive_ok k (by omega)]
  rfl
theorem RowsLengths_pure : scriniumlaw3_RowsLengths.Pure := by
  intro a b _ _
  obtain ⟨k, hk⟩ : ∃ k : Nat, 499 ≤ k := ⟨499, Nat.le_refl _⟩
  refine ⟨k + 1, ?_⟩
  unfold scriniumlaw3_RowsLengths.f
  by_cases c1 : a < 0
  · rw [if_pos c1]; exact lengths_j0 k hk a b
  rw [if_neg c1]
  by_cases c2 : a > 14
  · rw [if_pos c2]; exact lengths_j0 k hk a b
  rw [if_neg c2]
  by_cases c3 : b < 0
  · rw [if_pos c3]; exact lengths_j0 k hk a b
  rw [if_neg c3]
  by_cases c4 : b > 60
  · rw [if_pos c4]; exact lengths_j0 k hk a b
  rw [if_neg c4, alive_ok (k + 1) (by omega)]
  obtain ⟨n, rfl⟩ : ∃ n : Nat, a = n := ⟨a.toNat, by omega⟩
  obtain ⟨z, rfl⟩ : ∃ z : Nat, b = z := ⟨b.toNat, by omega⟩
  show scriniumlaw3_RowsLengths.j0 (k + 1) n z false = some true
  unfold scriniumlaw3_RowsLengths.j0
  try dsimp only
  rw [if_neg (by simp)]
  exact lengths_l0 n z (by omega) (by omega) n 0 k (by omega) (Nat.zero_le _) (by omega)
theorem RowsLengths_all (a0 a1 : Int) (w : World) (w0 : (Lit.int .i64 a0).wf = true) (w1 : (Lit.int .i64 a1).wf = true) :
    Calls Try.prog 10 #[.int .i64 a0, .int .i64 a1] w fun e w' => e = .returned (.bool true) ∧ Below w.heap.size w w' := scriniumlaw3_RowsLengths.walk RowsLengths_pure a0 a1 w w0 w1
end Go.Proofs.Ythoapfagcdbpeaa.P
