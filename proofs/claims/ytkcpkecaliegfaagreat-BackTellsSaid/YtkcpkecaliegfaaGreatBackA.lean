/- The plain laws of the backward search's functions: what Before, Rank, Step, Range, Count and Naive compute. Conditions: lists of at most a million symbols. -/
import Derived.Test.YtkcpkecaliegfaaGreatDocs
import Derived.Test.YtkcpkecaliegfaaGreatPa
import Derived.Test.YtkcpkecaliegfaaGreatP3
set_option linter.unusedVariables false
set_option linter.unusedSimpArgs false
namespace Go.Proofs.YtkcpkecaliegfaaGreat.P
open Go.RowKit Go.Proofs.YtkcpkecaliegfaaGreatW.PrintWords Go.Proofs.YtkcpkecaliegfaaGreatW.PrintLast Go.Proofs.YtkcpkecaliegfaaGreatW.PrintMore

theorem rd_get (s : List Int) (j : Nat) (h : j < s.length) : rd s (j : Int) = s[j] := by
  unfold rd
  rw [Int.toNat_natCast, List.getD_eq_getElem?_getD, List.getElem?_eq_getElem h]
  rfl
theorem col_f (s : List Int) (h : s.length ≤ 1000000) : bwt_Right.f s = some (colB s) := if_pos (by omega)
theorem before_l (s : List Int) (x : Int) (hn : s.length ≤ 1000000) : ∀ (m j k : Nat), m = s.length - j → j ≤ s.length → m + 1 ≤ k →
    bwt_Before.l0 k x (((s.take j).countP (fun y => decide (y < x)) : Nat) : Int) s (s.length : Int) (j : Int) = some (before x s : Int) := by
  intro m
  induction m with
  | zero =>
    intro j k hm hj hk
    obtain ⟨k1, rfl⟩ : ∃ k1, k = k1 + 1 := ⟨k - 1, by omega⟩
    obtain rfl : j = s.length := by omega
    rw [bwt_Before.l0, if_neg (by omega), List.take_length]
    rfl
  | succ m ih =>
    intro j k hm hj hk
    obtain ⟨k1, rfl⟩ : ∃ k1, k = k1 + 1 := ⟨k - 1, by omega⟩
    have hjl : j < s.length := by omega
    have hrec := ih (j + 1) k1 (by omega) (by omega) (by omega)
    have hw : wrap64 ((j : Int) + 1) = ((j + 1 : Nat) : Int) := w64 (j + 1) (by omega)
    rw [List.take_succ_eq_append_getElem hjl, List.countP_append, List.countP_cons, List.countP_nil, Nat.zero_add] at hrec
    have hle : (s.take j).countP (fun y => decide (y < x)) ≤ s.length := Nat.le_trans List.countP_le_length (List.length_take_le' _ _)
    rw [bwt_Before.l0, if_pos (by omega), if_pos (by omega), if_pos (by omega), rd_get s j hjl, hw]
    by_cases h : s[j] < x
    · rw [if_pos (decide_eq_true h)] at hrec
      rw [if_pos h, show wrap64 ((((s.take j).countP (fun y => decide (y < x)) : Nat) : Int) + 1) = (((s.take j).countP (fun y => decide (y < x)) + 1 : Nat) : Int) from w64 (_ + 1) (by omega)]
      exact hrec
    · rw [if_neg (by simpa using h), Nat.add_zero] at hrec
      rw [if_neg h]
      exact hrec
theorem before_ok (s : List Int) (x : Int) (hn : s.length ≤ 1000000) (k : Nat) (hk : s.length + 1 ≤ k) : bwt_Before.f k x s = some (if colB s then (before x s : Int) else 0) := by
  unfold bwt_Before.f
  rw [col_f s hn, Option.bind_some]
  cases h : colB s with
  | true =>
    rw [if_pos rfl, if_pos rfl]
    exact before_l s x hn s.length 0 k (by omega) (Nat.zero_le _) (by omega)
  | false => rw [if_neg (by simp), if_neg (by simp)]
theorem rank_l (s : List Int) (x : Int) (hn : s.length ≤ 1000000) : ∀ (m j k : Nat), m = s.length - j → j ≤ s.length → m + 1 ≤ k →
    bwt_Rank.l0 k x (((s.take j).countP (fun y => decide (y = x)) : Nat) : Int) s (s.length : Int) (j : Int) = some ((s.countP (fun y => decide (y = x)) : Nat) : Int) := by
  intro m
  induction m with
  | zero =>
    intro j k hm hj hk
    obtain ⟨k1, rfl⟩ : ∃ k1, k = k1 + 1 := ⟨k - 1, by omega⟩
    obtain rfl : j = s.length := by omega
    rw [bwt_Rank.l0, if_neg (by omega), List.take_length]
  | succ m ih =>
    intro j k hm hj hk
    obtain ⟨k1, rfl⟩ : ∃ k1, k = k1 + 1 := ⟨k - 1, by omega⟩
    have hjl : j < s.length := by omega
    have hrec := ih (j + 1) k1 (by omega) (by omega) (by omega)
    have hw : wrap64 ((j : Int) + 1) = ((j + 1 : Nat) : Int) := w64 (j + 1) (by omega)
    rw [List.take_succ_eq_append_getElem hjl, List.countP_append, List.countP_cons, List.countP_nil, Nat.zero_add] at hrec
    have hle : (s.take j).countP (fun y => decide (y = x)) ≤ s.length := Nat.le_trans List.countP_le_length (List.length_take_le' _ _)
    rw [bwt_Rank.l0, if_pos (by omega), if_pos (by omega), if_pos (by omega), rd_get s j hjl, hw]
    by_cases h : s[j] = x
    · rw [if_pos (decide_eq_true h)] at hrec
      rw [if_pos h, show wrap64 ((((s.take j).countP (fun y => decide (y = x)) : Nat) : Int) + 1) = (((s.take j).countP (fun y => decide (y = x)) + 1 : Nat) : Int) from w64 (_ + 1) (by omega)]
      exact hrec
    · rw [if_neg (by simpa using h), Nat.add_zero] at hrec
      rw [if_neg h]
      exact hrec
/-- A place, brought among the first n. -/
def clampN (i : Int) (n : Nat) : Nat := (mn (mx i 0) (n : Int)).toNat
theorem clamp_in (i : Int) (n : Nat) : 0 ≤ mn (mx i 0) (n : Int) ∧ mn (mx i 0) (n : Int) ≤ n := by
  unfold mn mx
  split <;> split <;> omega
theorem clamp_nat (i n : Nat) (h : i ≤ n) : clampN (i : Int) n = i := by
  unfold clampN mn mx
  split <;> split <;> omega
theorem rank_ok (s : List Int) (x i : Int) (hn : s.length ≤ 1000000) (k : Nat) (hk : s.length + 1 ≤ k) : bwt_Rank.f k x i s = some (if colB s then (rank x (clampN i s.length) s : Int) else 0) := by
  have hc := clamp_in i s.length
  unfold bwt_Rank.f
  rw [col_f s hn, Option.bind_some]
  cases h : colB s with
  | true =>
    rw [if_pos rfl, if_pos rfl, if_pos hc.1, if_pos hc.2]
    have hl : (s.take (clampN i s.length)).length ≤ s.length := List.length_take_le' _ _
    have := rank_l (s.take (clampN i s.length)) x (by omega) (s.take (clampN i s.length)).length 0 k (by omega) (Nat.zero_le _) (by omega)
    exact this
  | false => rw [if_neg (by simp), if_neg (by simp)]
theorem before_le (x : Int) (s : List Int) : before x s ≤ s.length := List.countP_le_length
theorem rank_le (x : Int) (i : Nat) (s : List Int) : rank x i s ≤ s.length := Nat.le_trans List.countP_le_length (List.length_take_le' _ _)
theorem step_ok (s : List Int) (c lo hi : Int) (hn : s.length ≤ 1000000) (hs : colB s = true) (hc : 1 ≤ c ∧ c ≤ 256) (k : Nat) (hk : s.length + 2 ≤ k) :
    back_Step.f k c lo hi s = some (((before c s + rank c (clampN lo s.length) s : Nat) : Int), ((before c s + rank c (clampN hi s.length) s : Nat) : Int)) := by
  obtain ⟨k1, rfl⟩ : ∃ k1, k = k1 + 1 := ⟨k - 1, by omega⟩
  have h1 := before_le c s
  have h2 := rank_le c (clampN lo s.length) s
  have h3 := rank_le c (clampN hi s.length) s
  unfold back_Step.f
  rw [if_neg (by omega), if_neg (by omega), col_f s hn, Option.bind_some, hs]
  show back_Step.j0 (k1 + 1) c lo hi s false = _
  rw [back_Step.j0, if_neg (by simp), before_ok s c hn k1 (by omega), rank_ok s c lo hn k1 (by omega), rank_ok s c hi hn k1 (by omega), hs]
  simp only [if_true, Option.bind_some]
  rw [← Int.natCast_add, ← Int.natCast_add, w64 _ (by omega), w64 _ (by omega)]
theorem col_symbols (l : List ByteArray) : colB (symbolsOf l) = true := by
  unfold colB
  have : (symbolsOf l).any badB = false := by
    rw [List.any_eq_false]
    intro x hx
    obtain ⟨r, _, rfl⟩ := List.mem_map.1 hx
    have h := symAt_range l r
    unfold badB
    rw [decide_eq_false (by omega), decide_eq_false (by omega)]
    decide
  rw [this]
  rfl
theorem symbols_le (l : List ByteArray) : (symbolsOf l).length ≤ 410 := by rw [symbolsOf_length]; exact sortedRows_le l
/-- The rows of a pattern, as Range tells them. -/
def rangeOf (l : List ByteArray) (p : List Int) : Int × Int := if occOf l p = 0 then (0, 0) else ((lowOf l p : Int), (highOf l p : Int))
theorem occ_drop_le (l : List ByteArray) (hl : rightB l = true) (p : List Int) (hp : ∀ x ∈ p, 0 ≤ x) : ∀ j : Nat, occOf l p ≤ occOf l (p.drop j) := by
  intro j
  induction j with
  | zero => exact Nat.le_refl _
  | succ j ih =>
    by_cases h : j < p.length
    · have e := List.drop_eq_getElem_cons h
      rw [e] at ih
      exact Nat.le_trans ih (occ_cons_le l hl _ (hp _ (List.getElem_mem h)) _)
    · rw [List.drop_eq_nil_of_le (by omega)]
      rw [List.drop_eq_nil_of_le (by omega)] at ih
      exact ih
theorem bytes_pos (s : ByteArray) : ∀ x ∈ bytesOf s, 0 ≤ x ∧ x ≤ 255 := by
  intro x hx
  unfold bytesOf at hx
  obtain ⟨b, _, rfl⟩ := List.mem_map.1 hx
  have := b.toNat_lt
  omega
theorem range_l (l : List ByteArray) (hl : rightB l = true) (p : ByteArray) (hp : p.size ≤ 140737488351232) : ∀ (j k : Nat), j ≤ p.size → (j = p.size ∨ 0 < occOf l ((bytesOf p).drop j)) → 413 + j ≤ k →
    back_Range.l0 k p (symbolsOf l) (lowOf l ((bytesOf p).drop j) : Int) (highOf l ((bytesOf p).drop j) : Int) ((j : Int) - 1) = some (rangeOf l (bytesOf p)) := by
  have hsl := symbols_le l
  have hln := symbolsOf_length l
  intro j
  induction j with
  | zero =>
    intro k hj ho hk
    obtain ⟨k1, rfl⟩ : ∃ k1, k = k1 + 1 := ⟨k - 1, by omega⟩
    rw [back_Range.l0, if_neg (by omega), List.drop_zero]
    congr 1
    unfold rangeOf
    rw [List.drop_zero] at ho
    by_cases h : occOf l (bytesOf p) = 0
    · rw [if_pos h]
      have h0 : p.size = 0 := by omega
      have h1 : bytesOf p = [] := List.eq_nil_of_length_eq_zero (by rw [bytesOf_length]; exact h0)
      rw [h1] at h ⊢
      have h2 := high_eq l hl []
      rw [low_nil] at h2 ⊢
      rw [show highOf l [] = 0 by omega]
      rfl
    · rw [if_neg h]
  | succ j ih =>
    intro k hj ho hk
    obtain ⟨k1, rfl⟩ : ∃ k1, k = k1 + 1 := ⟨k - 1, by omega⟩
    have hb := bt_range p (j : Int)
    have hd := drop_cons p j (by omega)
    have hsym : sym_Of.f (bt p (j : Int)) = some (bt p (j : Int) + 1) := of_sym _ hb
    have hlo := low_cons l hl (bt p (j : Int)) hb.1 ((bytesOf p).drop (j + 1))
    have hhi := high_cons l hl (bt p (j : Int)) hb.1 ((bytesOf p).drop (j + 1))
    rw [← hd] at hlo hhi
    have l1 := low_le l ((bytesOf p).drop (j + 1))
    have l2 := high_le l ((bytesOf p).drop (j + 1))
    have hst := step_ok (symbolsOf l) (bt p (j : Int) + 1) (lowOf l ((bytesOf p).drop (j + 1)) : Int) (highOf l ((bytesOf p).drop (j + 1)) : Int) (by omega) (col_symbols l) (by omega) k1 (by omega)
    rw [clamp_nat _ _ (by omega), clamp_nat _ _ (by omega), ← hlo, ← hhi] at hst
    have hq := high_eq l hl ((bytesOf p).drop j)
    rw [back_Range.l0, if_pos (by omega), if_pos (by omega), if_pos (by omega), show ((j + 1 : Nat) : Int) - 1 = (j : Int) by omega, hsym, Option.bind_some, hst, Option.bind_some]
    dsimp only
    by_cases h : occOf l ((bytesOf p).drop j) = 0
    · rw [if_pos (by omega)]
      have h2 := occ_drop_le l hl (bytesOf p) (fun x hx => (bytes_pos p x hx).1) j
      unfold rangeOf
      rw [if_pos (by omega)]
    · rw [if_neg (by omega), w64i _ (by omega)]
      exact ih k1 (by omega) (Or.inr (by omega)) (by omega)
theorem range_ok (l : List ByteArray) (hl : rightB l = true) (p : ByteArray) (hp : p.size ≤ 140737488351232) (k : Nat) (hk : 420 + p.size ≤ k) : back_Range.f k p (symbolsOf l) = some (rangeOf l (bytesOf p)) := by
  have hsl := symbols_le l
  unfold back_Range.f
  rw [col_f _ (by omega), Option.bind_some, col_symbols, if_pos rfl, w64i _ (by omega)]
  have h := range_l l hl p hp p.size k (Nat.le_refl _) (Or.inl rfl) (by omega)
  have hd : (bytesOf p).drop p.size = [] := drop_nil p p.size rfl
  rw [hd, low_nil, high_nil, ← symbolsOf_length] at h
  exact h
theorem count_ok (l : List ByteArray) (hl : rightB l = true) (p : ByteArray) (hp : p.size ≤ 140737488351232) (k : Nat) (hk : 420 + p.size ≤ k) : back_Count.f k p (symbolsOf l) = some (occOf l (bytesOf p) : Int) := by
  unfold back_Count.f
  rw [range_ok l hl p hp k hk, Option.bind_some]
  have h1 := high_eq l hl (bytesOf p)
  have h2 := high_le l (bytesOf p)
  have h3 := sortedRows_le l
  unfold rangeOf
  by_cases h : occOf l (bytesOf p) = 0
  · rw [if_pos h, h]
    dsimp only
    rw [w64i _ (by omega)]
    rfl
  · rw [if_neg h]
    dsimp only
    rw [w64i _ (by omega)]
    congr 1
    omega

/-! ### where a pattern stands -/
theorem pre_take : ∀ xs ys : List UInt8, preP (xs.map fun b => (b.toNat : Int)) (ys.map fun b => (b.toNat : Int)) = (xs.take ys.length == ys)
  | xs, [] => by
    rw [List.map_nil, preP_nil]
    rfl
  | [], y :: ys => rfl
  | x :: xs, y :: ys => by
    rw [List.map_cons, List.map_cons, List.length_cons, List.take_succ_cons]
    simp only [preP]
    rw [List.cons_beq_cons, ← pre_take xs ys]
    by_cases h : x = y
    · subst h
      rw [if_pos rfl, beq_self_eq_true, Bool.true_and]
    · have h2 : ¬ (x.toNat : Int) = (y.toNat : Int) := fun he => h (UInt8.toNat_inj.1 (by omega))
      rw [if_neg h2, beq_eq_false_iff_ne.2 h, Bool.false_and]
theorem prefix_ok (a p : ByteArray) : strings_HasPrefix.f a p = some (preP (bytesOf a) (bytesOf p)) := by
  unfold strings_HasPrefix.f stringslite_HasPrefix.f
  by_cases h : (a.size : Int) ≥ (p.size : Int)
  · rw [if_pos h, if_pos (by omega), if_pos (by omega), Option.bind_some, Int.toNat_natCast]
    unfold bytesOf
    rw [pre_take, ByteArray.toList_eq, ByteArray.toList_eq, ByteArray.data_extract, Array.toList_extract, List.extract_eq_take_drop, List.drop_zero, Nat.sub_zero, data_length]
  · rw [if_neg h, Option.bind_some]
    cases hp : preP (bytesOf a) (bytesOf p) with
    | false => rfl
    | true =>
      have := pre_length _ _ hp
      rw [bytesOf_length, bytesOf_length] at this
      omega
def naiveTo (l : List ByteArray) (p : List Int) (D : Nat) : List S75 := (rowsTo l D).filter (fun r => preP (suf l r.f0 r.f1) p)
def naiveOf (l : List ByteArray) (p : List Int) : List S75 := naiveTo l p l.length
theorem naive_len (l : List ByteArray) (p : List Int) : (naiveOf l p).length = occOf l p := by
  unfold naiveOf naiveTo occOf allRows
  rw [List.countP_eq_length_filter]
theorem rows_lim (l : List ByteArray) (M : Nat) (hM : ∀ d : Int, (docAt l d).size ≤ M) : ∀ D : Nat, (rowsTo l D).length ≤ D * (M + 1)
  | 0 => Nat.zero_le _
  | D + 1 => by
    rw [rowsTo, List.length_append, rowsOf_length, Nat.add_mul, Nat.one_mul]
    have := rows_lim l M hM D
    have := hM (D : Int)
    omega
theorem naive_l1 (l : List ByteArray) (p : ByteArray) (r : List S75) (D : Nat) (hD : D < l.length) (hll : l.length ≤ 1000000) (hsz : (docAt l (D : Int)).size ≤ 1000000) (hlim : (rowsTo l (D + 1)).length ≤ 8000000000000)
    (hnext : Ev (fun k => back_Naive.l0 k p (naiveTo l (bytesOf p) (D + 1)) l (l.length : Int) ((D + 1 : Nat) : Int)) r) : ∀ (m i : Nat), m = (docAt l (D : Int)).size + 1 - i → i ≤ (docAt l (D : Int)).size + 1 →
    Ev (fun k => back_Naive.l1 k p (naiveTo l (bytesOf p) D ++ (rowsOf l D i).filter (fun r => preP (suf l r.f0 r.f1) (bytesOf p))) (D : Int) (docAt l (D : Int)) l (l.length : Int) (D : Int) (((docAt l (D : Int)).size + 1 : Nat) : Int) (i : Int)) r := by
  intro m
  induction m with
  | zero =>
    intro i hm hi
    obtain rfl : i = (docAt l (D : Int)).size + 1 := by omega
    have e : naiveTo l (bytesOf p) D ++ (rowsOf l D ((docAt l (D : Int)).size + 1)).filter (fun r => preP (suf l r.f0 r.f1) (bytesOf p)) = naiveTo l (bytesOf p) (D + 1) := by
      unfold naiveTo
      rw [rowsTo, List.filter_append]
    rw [e]
    refine Ev.step (fun k => ?_) hnext
    rw [back_Naive.l1, if_neg (by omega), show wrap64 ((D : Int) + 1) = ((D + 1 : Nat) : Int) from w64 (D + 1) (by omega)]
  | succ m ih =>
    intro i hm hi
    have hrec := ih (i + 1) (by omega) (by omega)
    rw [rowsOf_succ, List.filter_append, ← List.append_assoc] at hrec
    have hsuf : suf l (D : Int) (i : Int) = bytesOf ((docAt l (D : Int)).extract i (docAt l (D : Int)).size) := by
      unfold suf
      rw [bytesOf_extract, Int.toNat_natCast]
    have hlen : (naiveTo l (bytesOf p) D ++ (rowsOf l D i).filter (fun r => preP (suf l r.f0 r.f1) (bytesOf p))).length ≤ 8000000000000 := by
      rw [rowsTo, List.length_append, rowsOf_length] at hlim
      rw [List.length_append]
      have h1 : (naiveTo l (bytesOf p) D).length ≤ (rowsTo l D).length := List.length_filter_le _ _
      have h2 : ((rowsOf l D i).filter (fun r => preP (suf l r.f0 r.f1) (bytesOf p))).length ≤ (rowsOf l D i).length := List.length_filter_le _ _
      rw [rowsOf_length] at h2
      omega
    obtain ⟨X, hX⟩ : ∃ X, naiveTo l (bytesOf p) D ++ (rowsOf l D i).filter (fun r => preP (suf l r.f0 r.f1) (bytesOf p)) = X := ⟨_, rfl⟩
    rw [hX] at hrec hlen ⊢
    have hw : wrap64 ((i : Int) + 1) = ((i + 1 : Nat) : Int) := w64 (i + 1) (by omega)
    refine Ev.step (fun k => ?_) hrec
    rw [back_Naive.l1, if_pos (by omega), if_pos (by omega), if_pos (by omega), Int.toNat_natCast, prefix_ok, Option.bind_some, hw]
    by_cases h : preP (bytesOf ((docAt l (D : Int)).extract i (docAt l (D : Int)).size)) (bytesOf p) = true
    · rw [if_pos h, if_pos (by omega), List.filter_cons_of_pos (by dsimp only; rw [hsuf]; exact h), List.filter_nil]
    · rw [if_neg h, List.filter_cons_of_neg (by dsimp only; rw [hsuf]; exact h), List.filter_nil, List.append_nil]
theorem naive_l0 (l : List ByteArray) (p : ByteArray) (hll : l.length ≤ 1000000) (hsz : ∀ d : Int, (docAt l d).size ≤ 1000000) : ∀ (m D : Nat), m = l.length - D → D ≤ l.length →
    Ev (fun k => back_Naive.l0 k p (naiveTo l (bytesOf p) D) l (l.length : Int) (D : Int)) (naiveOf l (bytesOf p)) := by
  intro m
  induction m with
  | zero =>
    intro D hm hD
    obtain rfl : D = l.length := by omega
    refine Ev.step (f := fun _ => some (naiveOf l (bytesOf p))) (fun k => ?_) (Ev.now _)
    rw [back_Naive.l0, if_neg (by omega)]
    rfl
  | succ m ih =>
    intro D hm hD
    have hrec := ih (D + 1) (by omega) (by omega)
    have h1 := rows_lim l 1000000 hsz (D + 1)
    have h2 : (D + 1) * (1000000 + 1) ≤ 1000000 * 1000001 := Nat.mul_le_mul (by omega) (Nat.le_refl _)
    have h3 := naive_l1 l p _ D (by omega) hll (hsz _) (Nat.le_trans h1 (Nat.le_trans h2 (by decide))) hrec _ 0 rfl (Nat.zero_le _)
    have hw : wrap64 (((docAt l (D : Int)).size : Int) + 1) = (((docAt l (D : Int)).size + 1 : Nat) : Int) := w64 (_ + 1) (by have := hsz (D : Int); omega)
    rw [show rowsOf l D 0 = [] from rfl, List.filter_nil, List.append_nil] at h3
    refine Ev.step (fun k => ?_) h3
    have hdoc : rdOf ByteArray.empty l (D : Int) = docAt l (D : Int) := rfl
    rw [back_Naive.l0, if_pos (by omega), if_pos (by omega), if_pos (by omega), hdoc, hw]
    rfl
theorem naive_ok (l : List ByteArray) (p : ByteArray) (hll : l.length ≤ 1000000) (hsz : ∀ d : Int, (docAt l d).size ≤ 1000000) : Ev (fun k => back_Naive.f k p l) (naiveOf l (bytesOf p)) := naive_l0 l p hll hsz _ 0 rfl (Nat.zero_le _)
theorem doc_le (l : List ByteArray) (M : Nat) (hs : ∀ s ∈ l, s.size ≤ M) (d : Int) : (docAt l d).size ≤ M := by
  unfold docAt rdOf
  rw [List.getD_eq_getElem?_getD]
  cases h : l[d.toNat]? with
  | none => exact Nat.zero_le _
  | some s => exact hs s (List.mem_of_getElem? h)
theorem sum_mem (l : List ByteArray) (s : ByteArray) (h : s ∈ l) : s.size ≤ sumTo l := by
  unfold sumTo
  induction l with
  | nil => cases h
  | cons t l ih =>
    rw [List.map_cons, List.sum_cons]
    rcases List.mem_cons.1 h with rfl | hm
    · omega
    · have := ih hm; omega
theorem few_doc (l : List ByteArray) (h : fewB l = true) : l.length ≤ 14 ∧ ∀ d : Int, (docAt l d).size ≤ 160 := by
  unfold fewB at h
  rw [Bool.and_eq_true, decide_eq_true_eq, decide_eq_true_eq] at h
  exact ⟨h.1, doc_le l 160 (fun s hm => Nat.le_trans (sum_mem l s hm) h.2)⟩
end Go.Proofs.YtkcpkecaliegfaaGreat.P
