/- Of sorted suffixes and their symbols: the rows of a pattern, one byte more ahead, how often a pattern stands, the way from a row to its document. Conditions: none. -/
import Derived.Test.YtkcpkecaliegfaaGreatSyms
import Derived.Test.YtkcpkecaliegfaaGreatPh
section
set_option linter.unusedVariables false
set_option linter.unusedSimpArgs false
namespace Go.Proofs.YtkcpkecaliegfaaGreat.P
open Go.RowKit Go.Proofs.YtkcpkecaliegfaaGreatW.PrintWords Go.Proofs.YtkcpkecaliegfaaGreatW.PrintLast Go.Proofs.YtkcpkecaliegfaaGreatW.PrintMore

theorem countP_split {α : Type} (P Q : α → Bool) (h : ∀ x, P x = true → Q x = false) (R : List α) : R.countP (fun x => P x || Q x) = R.countP P + R.countP Q := by
 induction R with
 | nil => rfl
 | cons a R ih =>
  rw [List.countP_cons, List.countP_cons, List.countP_cons, ih]
  have := h a
  cases h1 : P a <;> cases h2 : Q a <;> simp_all <;> omega
def before (x : Int) (s : List Int) : Nat := s.countP (fun y => decide (y < x))
def rank (x : Int) (i : Nat) (s : List Int) : Nat := (s.take i).countP (fun y => decide (y = x))
/-- A symbol of a list; 0 behind its end. -/
def symOf (s : List Int) (i : Nat) : Int := s.getD i 0
def nextOf (s : List Int) (i : Nat) : Nat := before (symOf s i) s + rank (symOf s i) i s
/-- The bytes that are met on the way from a row on, up to a terminator: at most f of them. -/
def textGo (s : List Int) : Nat → Nat → List Int → Option (List Int)
 | 0, row, acc => if symOf s row < 1 then some acc else none
 | f + 1, row, acc => if symOf s row < 1 then some acc else textGo s f (nextOf s row) ((symOf s row - 1) :: acc)
theorem before_rank_lt (s : List Int) (i : Nat) (h : i < s.length) : nextOf s i < s.length := by
 unfold nextOf before rank
 have h1 : (s.take (i + 1)).countP (fun y => decide (y = symOf s i)) = (s.take i).countP (fun y => decide (y = symOf s i)) + 1 := by
  rw [List.take_succ_eq_append_getElem h, List.countP_append]
  have : s[i] = symOf s i := by unfold symOf; rw [List.getD_eq_getElem?_getD, List.getElem?_eq_getElem h]; rfl
  simp [List.countP_cons, this]
 have h2 : (s.take (i + 1)).countP (fun y => decide (y = symOf s i)) ≤ s.countP (fun y => decide (y = symOf s i)) := (List.take_sublist _ _).countP_le
 have h3 := countP_split (fun y => decide (y < symOf s i)) (fun y => decide (y = symOf s i)) (fun x hx => by rw [decide_eq_true_eq] at hx; exact decide_eq_false (by omega)) s
 have h4 := List.countP_le_length (p := fun x => decide (x < symOf s i) || decide (x = symOf s i)) (l := s)
 omega
end Go.Proofs.YtkcpkecaliegfaaGreat.P

end
section
set_option linter.unusedVariables false
set_option linter.unusedSimpArgs false
namespace Go.Proofs.YtkcpkecaliegfaaGreat.P
open Go.RowKit Go.Proofs.YtkcpkecaliegfaaGreatW.PrintWords Go.Proofs.YtkcpkecaliegfaaGreatW.PrintLast Go.Proofs.YtkcpkecaliegfaaGreatW.PrintMore

theorem rd_get (s : List Int) (j : Nat) (h : j < s.length) : rd s (j : Int) = s[j] := by
 unfold rd
 rw [Int.toNat_natCast, List.getD_eq_getElem?_getD, List.getElem?_eq_getElem h]
 rfl
theorem col_f (s : List Int) (h : s.length ≤ 1000000) : bwt_Right.f s = some (colB s) := if_pos (by omega)
theorem before_l (s : List Int) (x : Int) (hn : s.length ≤ 1000000) : ∀ (m j k : Nat), m = s.length - j → j ≤ s.length → m + 1 ≤ k →
  bwt_Before.l0 k x (((s.take j).countP (fun y => decide (y < x)) : Nat) : Int) s (s.length : Int) (j : Int) = some (before x s : Int) := by
 intro m
 induction m with
 | zero =>
  intro j k hm hj hk
  obtain ⟨k1, rfl⟩ : ∃ k1, k = k1 + 1 := ⟨k - 1, by omega⟩
  obtain rfl : j = s.length := by omega
  rw [bwt_Before.l0, if_neg (by omega), List.take_length]
  rfl
 | succ m ih =>
  intro j k hm hj hk
  obtain ⟨k1, rfl⟩ : ∃ k1, k = k1 + 1 := ⟨k - 1, by omega⟩
  have hjl : j < s.length := by omega
  have hrec := ih (j + 1) k1 (by omega) (by omega) (by omega)
  have hw : wrap64 ((j : Int) + 1) = ((j + 1 : Nat) : Int) := w64 (j + 1) (by omega)
  rw [List.take_succ_eq_append_getElem hjl, List.countP_append, List.countP_cons, List.countP_nil, Nat.zero_add] at hrec
  have hle : (s.take j).countP (fun y => decide (y < x)) ≤ s.length := Nat.le_trans List.countP_le_length (List.length_take_le' _ _)
  rw [bwt_Before.l0, if_pos (by omega), if_pos (by omega), if_pos (by omega), rd_get s j hjl, hw]
  by_cases h : s[j] < x
  ·rw [if_pos (decide_eq_true h)] at hrec
   rw [if_pos h, show wrap64 ((((s.take j).countP (fun y => decide (y < x)) : Nat) : Int) + 1) = (((s.take j).countP (fun y => decide (y < x)) + 1 : Nat) : Int) from w64 (_ + 1) (by omega)]
   exact hrec
  ·rw [if_neg (by simpa using h), Nat.add_zero] at hrec
   rw [if_neg h]
   exact hrec
theorem before_ok (s : List Int) (x : Int) (hn : s.length ≤ 1000000) (k : Nat) (hk : s.length + 1 ≤ k) : bwt_Before.f k x s = some (if colB s then (before x s : Int) else 0) := by
 unfold bwt_Before.f
 rw [col_f s hn, Option.bind_some]
 cases h : colB s with
 | true =>
  rw [if_pos rfl, if_pos rfl]
  exact before_l s x hn s.length 0 k (by omega) (Nat.zero_le _) (by omega)
 | false => rw [if_neg (by simp), if_neg (by simp)]
theorem rank_l (s : List Int) (x : Int) (hn : s.length ≤ 1000000) : ∀ (m j k : Nat), m = s.length - j → j ≤ s.length → m + 1 ≤ k →
  bwt_Rank.l0 k x (((s.take j).countP (fun y => decide (y = x)) : Nat) : Int) s (s.length : Int) (j : Int) = some ((s.countP (fun y => decide (y = x)) : Nat) : Int) := by
 intro m
 induction m with
 | zero =>
  intro j k hm hj hk
  obtain ⟨k1, rfl⟩ : ∃ k1, k = k1 + 1 := ⟨k - 1, by omega⟩
  obtain rfl : j = s.length := by omega
  rw [bwt_Rank.l0, if_neg (by omega), List.take_length]
 | succ m ih =>
  intro j k hm hj hk
  obtain ⟨k1, rfl⟩ : ∃ k1, k = k1 + 1 := ⟨k - 1, by omega⟩
  have hjl : j < s.length := by omega
  have hrec := ih (j + 1) k1 (by omega) (by omega) (by omega)
  have hw : wrap64 ((j : Int) + 1) = ((j + 1 : Nat) : Int) := w64 (j + 1) (by omega)
  rw [List.take_succ_eq_append_getElem hjl, List.countP_append, List.countP_cons, List.countP_nil, Nat.zero_add] at hrec
  have hle : (s.take j).countP (fun y => decide (y = x)) ≤ s.length := Nat.le_trans List.countP_le_length (List.length_take_le' _ _)
  rw [bwt_Rank.l0, if_pos (by omega), if_pos (by omega), if_pos (by omega), rd_get s j hjl, hw]
  by_cases h : s[j] = x
  ·rw [if_pos (decide_eq_true h)] at hrec
   rw [if_pos h, show wrap64 ((((s.take j).countP (fun y => decide (y = x)) : Nat) : Int) + 1) = (((s.take j).countP (fun y => decide (y = x)) + 1 : Nat) : Int) from w64 (_ + 1) (by omega)]
   exact hrec
  ·rw [if_neg (by simpa using h), Nat.add_zero] at hrec
   rw [if_neg h]
   exact hrec
/-- A place, brought among the first n. -/
def clampN (i : Int) (n : Nat) : Nat := (mn (mx i 0) (n : Int)).toNat
theorem clamp_in (i : Int) (n : Nat) : 0 ≤ mn (mx i 0) (n : Int) ∧ mn (mx i 0) (n : Int) ≤ n := by
 unfold mn mx
 split <;> split <;> omega
theorem clamp_nat (i n : Nat) (h : i ≤ n) : clampN (i : Int) n = i := by
 unfold clampN mn mx
 split <;> split <;> omega
theorem rank_ok (s : List Int) (x i : Int) (hn : s.length ≤ 1000000) (k : Nat) (hk : s.length + 1 ≤ k) : bwt_Rank.f k x i s = some (if colB s then (rank x (clampN i s.length) s : Int) else 0) := by
 have hc := clamp_in i s.length
 unfold bwt_Rank.f
 rw [col_f s hn, Option.bind_some]
 cases h : colB s with
 | true =>
  rw [if_pos rfl, if_pos rfl, if_pos hc.1, if_pos hc.2]
  have hl : (s.take (clampN i s.length)).length ≤ s.length := List.length_take_le' _ _
  have := rank_l (s.take (clampN i s.length)) x (by omega) (s.take (clampN i s.length)).length 0 k (by omega) (Nat.zero_le _) (by omega)
  exact this
 | false => rw [if_neg (by simp), if_neg (by simp)]
theorem before_le (x : Int) (s : List Int) : before x s ≤ s.length := List.countP_le_length
theorem rank_le (x : Int) (i : Nat) (s : List Int) : rank x i s ≤ s.length := Nat.le_trans List.countP_le_length (List.length_take_le' _ _)
theorem symbols_le (l : List ByteArray) : (symbolsOf l).length ≤ 410 := by rw [symbolsOf_length]; exact sortedRows_le l
end Go.Proofs.YtkcpkecaliegfaaGreat.P

end
section
set_option linter.unusedVariables false
set_option linter.unusedSimpArgs false
namespace Go.Proofs.YtkcpkecaliegfaaGreat.P
open Go.RowKit Go.Proofs.YtkcpkecaliegfaaGreatW.PrintWords Go.Proofs.YtkcpkecaliegfaaGreatW.PrintLast Go.Proofs.YtkcpkecaliegfaaGreatW.PrintMore

theorem ev_if {α : Type} {c : Prop} [Decidable c] {a b : Nat → Option α} {r : α} (h : c) (k : Ev a r) : Ev (fun n => if c then a n else b n) r := Ev.congr (fun n => if_pos h) k
theorem ev_else {α : Type} {c : Prop} [Decidable c] {a b : Nat → Option α} {r : α} (h : ¬ c) (k : Ev b r) : Ev (fun n => if c then a n else b n) r := Ev.congr (fun n => if_neg h) k
theorem ev_some {α β : Type} {a : α} {f : Nat → α → Option β} {r : β} (k : Ev (fun n => f n a) r) : Ev (fun n => (some a).bind (f n)) r := k
theorem ev_is {α : Type} {g : Nat → Option α} {r q : α} (h : Ev g r) (e : r = q) : Ev g q := e ▸ h
theorem ev_from {α : Type} {g : Nat → Option α} {r : α} (K : Nat) (h : ∀ k, K ≤ k → g k = some r) : Ev g r := ⟨K, h⟩
theorem symbols_ev (l : List ByteArray) : Ev (fun k => rows_Symbols.f k l) (symbolsOf l) := ⟨411, fun k hk => symbols_ok l k hk⟩
end Go.Proofs.YtkcpkecaliegfaaGreat.P

end
