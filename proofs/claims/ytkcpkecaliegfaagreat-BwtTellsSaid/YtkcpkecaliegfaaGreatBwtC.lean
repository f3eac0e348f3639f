/- The plain laws of Docs, Counts, Equal, SameTexts and SameInts; the first call of the statements of bwt. Conditions: lists of at most a thousand symbols. -/
import Derived.Test.YtkcpkecaliegfaaGreatBackZ
import Derived.Test.YtkcpkecaliegfaaGreatBwtT
import Derived.Test.YtkcpkecaliegfaaGreatP37
import Derived.Test.YtkcpkecaliegfaaGreatP33
set_option linter.unusedVariables false
set_option linter.unusedSimpArgs false
namespace Go.Proofs.YtkcpkecaliegfaaGreat.P
open Go.RowKit Go.Proofs.YtkcpkecaliegfaaGreatW.PrintWords Go.Proofs.YtkcpkecaliegfaaGreatW.PrintLast Go.Proofs.YtkcpkecaliegfaaGreatW.PrintMore

theorem take_same {α : Type} (a b : List α) (j : Nat) (hj : j < a.length) (hl : a.length = b.length) : (a.drop j = b.drop j) ↔ (a[j] = b[j]'(by omega) ∧ a.drop (j + 1) = b.drop (j + 1)) := by
 rw [List.drop_eq_getElem_cons hj, List.drop_eq_getElem_cons (show j < b.length by omega), List.cons.injEq]
theorem equal_l (a b : List Int) (hl : a.length = b.length) (hn : a.length ≤ 1000000) : ∀ (m j k : Nat), m = a.length - j → j ≤ a.length → m + 1 ≤ k →
  slices_Equal_int_int.l0 k a b (a.length : Int) (j : Int) = some (decide (a.drop j = b.drop j)) := by
 intro m
 induction m with
 | zero =>
  intro j k hm hj hk
  obtain ⟨k1, rfl⟩ : ∃ k1, k = k1 + 1 := ⟨k - 1, by omega⟩
  rw [slices_Equal_int_int.l0, if_neg (by omega), List.drop_eq_nil_of_le (by omega), List.drop_eq_nil_of_le (by omega)]
  rfl
 | succ m ih =>
  intro j k hm hj hk
  obtain ⟨k1, rfl⟩ : ∃ k1, k = k1 + 1 := ⟨k - 1, by omega⟩
  have hjl : j < a.length := by omega
  have hrec := ih (j + 1) k1 (by omega) (by omega) (by omega)
  have ht := take_same a b j hjl hl
  rw [slices_Equal_int_int.l0, if_pos (by omega), if_pos (by omega), if_pos (by omega), if_pos (by omega), rd_get a j hjl, rd_get b j (by omega), show wrap64 ((j : Int) + 1) = ((j + 1 : Nat) : Int) from w64 (j + 1) (by omega)]
  by_cases h : a[j] = b[j]
  ·rw [if_pos h, hrec]
   congr 1
   rw [decide_eq_decide, ht]
   exact ⟨fun h2 => ⟨h, h2⟩, fun h2 => h2.2⟩
  ·rw [if_neg h]
   congr 1
   exact (decide_eq_false (fun h2 => h (ht.1 h2).1)).symm
theorem equal_ev (a b : List Int) (hn : a.length ≤ 1000000) : Ev (fun k => slices_Equal_int_int.f k a b) (decide (a = b)) := by
 refine ⟨a.length + 1, fun k hk => ?_⟩
 unfold slices_Equal_int_int.f
 dsimp only
 by_cases hl : a.length = b.length
 ·rw [if_pos (by omega)]
  exact equal_l a b hl hn _ 0 k rfl (Nat.zero_le _) (by omega)
 ·rw [if_neg (by omega)]
  congr 1
  exact (decide_eq_false (fun h => hl (by rw [h]))).symm
theorem text_f (s : List Int) (hn : s.length ≤ 1000000) (d : Int) : bwt_Text.f d s = some (textB s d) := if_pos hn
def outOf (s : List Int) (D : Nat) : List ByteArray := (List.range D).map fun d : Nat => (textB s (d : Int)).1
theorem out_succ (s : List Int) (D : Nat) : outOf s (D + 1) = outOf s D ++ [(textB s (D : Int)).1] := by
 unfold outOf
 rw [List.range_succ, List.map_append]
 rfl
theorem out_length (s : List Int) (D : Nat) : (outOf s D).length = D := by unfold outOf; rw [List.length_map, List.length_range]
def lastOf (s : List Int) (out : List ByteArray) : List ByteArray × Bool := if symbolsOf out = s then (out, true) else ([], false)
theorem docs_end (s : List Int) (out : List ByteArray) : Ev (fun k => (rows_Symbols.f k out).bind fun t263 => ((slices_Equal_int_int.f k t263 s).bind fun t266 => (if t266 = true then (some (out, true)) else (some (([] : List ByteArray), false))))) (lastOf s out) := by
 have hs := symbols_le out
 refine Ev.bind (symbols_ev out) (Ev.bind (equal_ev _ s (by omega)) ?_)
 unfold lastOf
 by_cases h : symbolsOf out = s
 ·rw [if_pos h]
  exact ev_if (decide_eq_true h) (Ev.now _)
 ·rw [if_neg h]
  exact ev_else (by rw [decide_eq_false h]; decide) (Ev.now _)
theorem docs_all (s : List Int) (hn : s.length ≤ 1000000) (R : Nat) (hR : R ≤ s.length) (hok : ∀ d : Nat, d < R → (textB s (d : Int)).2 = true) : ∀ (m D : Nat), m = R - D → D ≤ R →
  Ev (fun k => bwt_Docs.l0 k s (outOf s D) (R : Int) (D : Int)) (lastOf s (outOf s R)) := by
 intro m
 induction m with
 | zero =>
  intro D hm hD
  obtain rfl : D = R := by omega
  refine Ev.step (fun k => ?_) (docs_end s (outOf s D))
  rw [bwt_Docs.l0, if_neg (by omega)]
 | succ m ih =>
  intro D hm hD
  have hrec := ih (D + 1) (by omega) (by omega)
  have hol := out_length s D
  refine Ev.step (fun k => ?_) hrec
  rw [bwt_Docs.l0, if_pos (by omega), text_f s hn, Option.bind_some, if_pos (hok D (by omega)), if_pos (by omega), ← out_succ, show wrap64 ((D : Int) + 1) = ((D + 1 : Nat) : Int) from w64 (D + 1) (by omega)]
theorem docs_bad (s : List Int) (hn : s.length ≤ 1000000) (R : Nat) (hR : R ≤ s.length) (b : Nat) (hb : b < R) (hbad : (textB s (b : Int)).2 = false) : ∀ (m D : Nat), m = b - D → D ≤ b →
  Ev (fun k => bwt_Docs.l0 k s (outOf s D) (R : Int) (D : Int)) ([], false) := by
 intro m
 induction m with
 | zero =>
  intro D hm hD
  obtain rfl : D = b := by omega
  refine Ev.step (f := fun _ => some (([] : List ByteArray), false)) (fun k => ?_) (Ev.now _)
  rw [bwt_Docs.l0, if_pos (by omega), text_f s hn, Option.bind_some, if_neg (by rw [hbad]; decide)]
 | succ m ih =>
  intro D hm hD
  have hrec := ih (D + 1) (by omega) (by omega)
  have hol := out_length s D
  cases hT : (textB s (D : Int)).2 with
  | true =>
   refine Ev.step (fun k => ?_) hrec
   rw [bwt_Docs.l0, if_pos (by omega), text_f s hn, Option.bind_some, if_pos hT, if_pos (by omega), ← out_succ, show wrap64 ((D : Int) + 1) = ((D + 1 : Nat) : Int) from w64 (D + 1) (by omega)]
  | false =>
   refine Ev.step (f := fun _ => some (([] : List ByteArray), false)) (fun k => ?_) (Ev.now _)
   rw [bwt_Docs.l0, if_pos (by omega), text_f s hn, Option.bind_some, if_neg (by rw [hT]; decide)]
theorem rank_ev (s : List Int) (hn : s.length ≤ 1000000) (hc : colB s = true) (x : Int) (i : Nat) (hi : i ≤ s.length) : Ev (fun k => bwt_Rank.f k x (i : Int) s) (rank x i s : Int) :=
 ⟨s.length + 1, fun k hk => by
  show bwt_Rank.f k x (i : Int) s = _
  rw [rank_ok s x i hn k hk, hc, if_pos rfl, clamp_nat _ _ hi]⟩
def countsOf (s : List Int) : List Int := (List.range 257).map fun v : Nat => ((s.countP (fun y => decide (y = (v : Int))) : Nat) : Int)
theorem counts_set (s : List Int) (x : Int) (h0 : 0 ≤ x) (h1 : x < 257) : (countsOf s).set x.toNat (rd (countsOf s) x + 1) = countsOf (s ++ [x]) := by
 have hlen : ∀ t, (countsOf t).length = 257 := fun t => by unfold countsOf; rw [List.length_map, List.length_range]
 have hget : ∀ (t : List Int) (v : Nat) (hv : v < (countsOf t).length), (countsOf t)[v] = ((t.countP (fun y => decide (y = (v : Int))) : Nat) : Int) := fun t v hv => by
  simp only [countsOf, List.getElem_map, List.getElem_range]
 apply List.ext_getElem
 ·rw [List.length_set, hlen, hlen]
 ·intro v hv1 hv2
  rw [List.getElem_set, hget s, hget (s ++ [x]), List.countP_append, List.countP_cons, List.countP_nil, Nat.zero_add]
  by_cases h : x.toNat = v
  ·rw [if_pos h]
   have hx : x = (v : Int) := by omega
   subst hx
   rw [if_pos (decide_eq_true rfl), rd_get _ v (by rw [hlen]; omega), hget]
   omega
  ·rw [if_neg h]
   rw [if_neg (by simp; omega)]
   rfl
theorem counts_l (s : List Int) (hn : s.length ≤ 1000000) (hc : colB s = true) : ∀ (m j k : Nat), m = s.length - j → j ≤ s.length → m + 1 ≤ k →
  bwt_Counts.l0 k (countsOf (s.take j)) s (s.length : Int) (j : Int) = some (countsOf s) := by
 intro m
 induction m with
 | zero =>
  intro j k hm hj hk
  obtain ⟨k1, rfl⟩ : ∃ k1, k = k1 + 1 := ⟨k - 1, by omega⟩
  obtain rfl : j = s.length := by omega
  rw [bwt_Counts.l0, if_neg (by omega), List.take_length]
 | succ m ih =>
  intro j k hm hj hk
  obtain ⟨k1, rfl⟩ : ∃ k1, k = k1 + 1 := ⟨k - 1, by omega⟩
  have hjl : j < s.length := by omega
  have hrec := ih (j + 1) k1 (by omega) (by omega) (by omega)
  have hsy := col_sym s hc j hjl
  rw [symOf_get s j hjl] at hsy
  have hset := counts_set (s.take j) s[j] hsy.1 (by omega)
  rw [← List.take_succ_eq_append_getElem hjl] at hset
  rw [← hset] at hrec
  have hlen : (countsOf (s.take j)).length = 257 := by unfold countsOf; rw [List.length_map, List.length_range]
  have hrd : 0 ≤ rd (countsOf (s.take j)) s[j] ∧ rd (countsOf (s.take j)) s[j] ≤ 1000000 := by
   obtain ⟨v, hv⟩ : ∃ v : Nat, s[j] = (v : Int) := ⟨s[j].toNat, by omega⟩
   rw [hv, rd_get _ v (by rw [hlen]; omega)]
   simp only [countsOf, List.getElem_map, List.getElem_range]
   have h1 : (s.take j).countP (fun y => decide (y = (v : Int))) ≤ (s.take j).length := List.countP_le_length
   have h2 : (s.take j).length ≤ j := List.length_take_le _ _
   omega
  rw [bwt_Counts.l0, if_pos (by omega), if_pos (by omega), if_pos (by omega), rd_get s j hjl, if_pos hsy.1, if_pos (by omega), show wrap64 ((j : Int) + 1) = ((j + 1 : Nat) : Int) from w64 (j + 1) (by omega), w64i _ (by omega)]
  exact hrec
theorem counts_zero : List.replicate 257 (0 : Int) = countsOf [] := by
 apply List.ext_getElem
 ·rw [List.length_replicate]
  unfold countsOf
  rw [List.length_map, List.length_range]
 ·intro v h1 h2
  simp only [countsOf, List.getElem_replicate, List.getElem_map, List.countP_nil]
  rfl
theorem counts_ev (s : List Int) (hn : s.length ≤ 1000000) : Ev (fun k => bwt_Counts.f k s) (if colB s = true then countsOf s else []) := by
 refine ⟨s.length + 1, fun k hk => ?_⟩
 unfold bwt_Counts.f
 dsimp only
 rw [col_f s hn, Option.bind_some]
 by_cases hc : colB s = true
 ·rw [if_pos hc, if_pos hc, if_pos (by decide), counts_zero]
  exact counts_l s hn hc _ 0 k rfl (Nat.zero_le _) (by omega)
 ·rw [if_neg hc, if_neg hc]
theorem sorted_ab4 : sortedRows [(⟨#[97, 98]⟩ : ByteArray)] = [⟨0, 2⟩, ⟨0, 0⟩, ⟨0, 1⟩] := by
 refine (sorted_unique _ (by decide) _ ?_ ?_).symm
 ·have h : allRows [(⟨#[97, 98]⟩ : ByteArray)] = [⟨0, 0⟩, ⟨0, 1⟩, ⟨0, 2⟩] := by rfl
  rw [h]
  exact (List.perm_append_comm (l₁ := [(⟨0, 2⟩ : S75)]) (l₂ := [⟨0, 0⟩, ⟨0, 1⟩]))
 ·have h1 : ltB [(⟨#[97, 98]⟩ : ByteArray)] ⟨0, 0⟩ ⟨0, 2⟩ = false := by decide
  have h2 : ltB [(⟨#[97, 98]⟩ : ByteArray)] ⟨0, 1⟩ ⟨0, 2⟩ = false := by decide
  have h3 : ltB [(⟨#[97, 98]⟩ : ByteArray)] ⟨0, 1⟩ ⟨0, 0⟩ = false := by decide
  simp [h1, h2, h3]
theorem symbols_ab4 : symbolsOf [(⟨#[97, 98]⟩ : ByteArray)] = [99, 0, 98] := by
 unfold symbolsOf
 rw [sorted_ab4]
 decide +kernel
end Go.Proofs.YtkcpkecaliegfaaGreat.P
