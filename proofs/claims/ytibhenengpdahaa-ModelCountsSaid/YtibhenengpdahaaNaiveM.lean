/- Where a pattern stands in documents: plain laws. Conditions: none. -/
import Derived.Test.YtibhenengpdahaaModelLaw
set_option linter.unusedVariables false
set_option linter.unusedSimpArgs false
namespace Go.Proofs.Ytibhenengpdahaa.P
open Go.RowKit Go.Proofs.YtibhenengpdahaaW.PrintWords Go.Proofs.YtibhenengpdahaaW.PrintLast Go.Proofs.YtibhenengpdahaaW.PrintMore

/-- Does p stand at i in s? -/
def hasAt (s p : ByteArray) (i : Nat) : Bool := decide (i + p.size ≤ s.size) && ((s.extract i (i + p.size)).toList == p.toList)
theorem prefix_at (s p : ByteArray) (i : Nat) (hi : i ≤ s.size) : strings_HasPrefix.f (s.extract i s.size) p = some (hasAt s p i) := by
  unfold strings_HasPrefix.f stringslite_HasPrefix.f hasAt
  have hs : (s.extract i s.size).size = s.size - i := by rw [ByteArray.size_extract]; omega
  by_cases h : ((s.extract i s.size).size : Int) ≥ (p.size : Int)
  · rw [if_pos h, if_pos (by omega), if_pos (by omega), Option.bind_some, Int.toNat_natCast, decide_eq_true (show i + p.size ≤ s.size by omega), Bool.true_and, ByteArray.extract_extract]
    rw [Nat.add_zero, Nat.min_eq_left (show i + p.size ≤ s.size by omega)]
  · rw [if_neg h, Option.bind_some, decide_eq_false (show ¬ i + p.size ≤ s.size by omega), Bool.false_and]
def spotsIn (d : Nat) (s p : ByteArray) (n : Nat) : List S57 := ((List.range n).filter (hasAt s p)).map fun i : Nat => (⟨(d : Int), (i : Int)⟩ : S57)
def textAt (l : List ByteArray) (d : Nat) : ByteArray := l.getD d ByteArray.empty
def naiveM (l : List ByteArray) (p : ByteArray) : Nat → List S57
  | 0 => []
  | D + 1 => naiveM l p D ++ spotsIn D (textAt l D) p ((textAt l D).size + 1)
theorem spotsIn_succ (d : Nat) (s p : ByteArray) (n : Nat) : spotsIn d s p (n + 1) = spotsIn d s p n ++ (if hasAt s p n = true then [⟨(d : Int), (n : Int)⟩] else []) := by
  unfold spotsIn
  rw [List.range_succ, List.filter_append, List.map_append]
  cases h : hasAt s p n with
  | true => rw [if_pos rfl, List.filter_cons_of_pos h]; rfl
  | false => rw [if_neg (by decide), List.filter_cons_of_neg (by rw [h]; decide)]; rfl
theorem spotsIn_le (d : Nat) (s p : ByteArray) (n : Nat) : (spotsIn d s p n).length ≤ n := by
  unfold spotsIn
  rw [List.length_map]
  exact Nat.le_trans (List.length_filter_le _ _) (by rw [List.length_range]; exact Nat.le_refl _)
theorem naiveM_le (l : List ByteArray) (p : ByteArray) (M : Nat) (hM : ∀ d, (textAt l d).size ≤ M) : ∀ D, (naiveM l p D).length ≤ D * (M + 1)
  | 0 => Nat.zero_le _
  | D + 1 => by
    rw [naiveM, List.length_append, Nat.add_mul, Nat.one_mul]
    have := naiveM_le l p M hM D
    have := spotsIn_le D (textAt l D) p ((textAt l D).size + 1)
    have := hM D
    omega
theorem w64n (n : Nat) (h : n ≤ 1000000000) : wrap64 (n : Int) = (n : Int) := by
  unfold wrap64
  omega
theorem naiveM_l1 (l : List ByteArray) (p : ByteArray) (r : List S57) (D : Nat) (hD : D < l.length) (hl : l.length ≤ 1000) (hM : ∀ d, (textAt l d).size ≤ 1000)
    (hnext : Ev (fun k => back_Naive.l0 k p (naiveM l p (D + 1)) l (l.length : Int) ((D + 1 : Nat) : Int)) r) : ∀ (m i : Nat), m = (textAt l D).size + 1 - i → i ≤ (textAt l D).size + 1 →
    Ev (fun k => back_Naive.l1 k p (naiveM l p D ++ spotsIn D (textAt l D) p i) (D : Int) (textAt l D) l (l.length : Int) (D : Int) (((textAt l D).size + 1 : Nat) : Int) (i : Int)) r := by
  intro m
  induction m with
  | zero =>
    intro i hm hi
    obtain rfl : i = (textAt l D).size + 1 := by omega
    refine Ev.step (fun k => ?_) hnext
    rw [back_Naive.l1, if_neg (by omega), show wrap64 ((D : Int) + 1) = ((D + 1 : Nat) : Int) from w64n (D + 1) (by omega)]
    rfl
  | succ m ih =>
    intro i hm hi
    have hrec := ih (i + 1) (by omega) (by omega)
    rw [spotsIn_succ, ← List.append_assoc] at hrec
    have h1 := naiveM_le l p 1000 hM D
    have h2 : D * (1000 + 1) ≤ 1000 * 1001 := Nat.mul_le_mul (by omega) (Nat.le_refl _)
    have h3 := spotsIn_le D (textAt l D) p i
    have h4 := hM D
    have hlen : (naiveM l p D ++ spotsIn D (textAt l D) p i).length < 8796093022208 := by rw [List.length_append]; omega
    have hw : wrap64 ((i : Int) + 1) = ((i + 1 : Nat) : Int) := w64n (i + 1) (by omega)
    refine Ev.step (fun k => ?_) hrec
    rw [back_Naive.l1, if_pos (by omega), if_pos (by omega), if_pos (by omega), Int.toNat_natCast, prefix_at _ _ _ (by omega), Option.bind_some, hw]
    cases h : hasAt (textAt l D) p i with
    | true => rw [if_pos rfl, if_pos rfl, if_pos hlen]
    | false => rw [if_neg (by decide), if_neg (by decide), List.append_nil]
theorem naiveM_l0 (l : List ByteArray) (p : ByteArray) (hl : l.length ≤ 1000) (hM : ∀ d, (textAt l d).size ≤ 1000) : ∀ (m D : Nat), m = l.length - D → D ≤ l.length →
    Ev (fun k => back_Naive.l0 k p (naiveM l p D) l (l.length : Int) (D : Int)) (naiveM l p l.length) := by
  intro m
  induction m with
  | zero =>
    intro D hm hD
    obtain rfl : D = l.length := by omega
    refine Ev.step (f := fun _ => some (naiveM l p l.length)) (fun k => ?_) (Ev.now _)
    rw [back_Naive.l0, if_neg (by omega)]
  | succ m ih =>
    intro D hm hD
    have hrec := ih (D + 1) (by omega) (by omega)
    have h3 := naiveM_l1 l p _ D (by omega) hl hM hrec _ 0 rfl (Nat.zero_le _)
    have h4 := hM D
    have hw : wrap64 (((textAt l D).size : Int) + 1) = (((textAt l D).size + 1 : Nat) : Int) := w64n (_ + 1) (by omega)
    rw [show spotsIn D (textAt l D) p 0 = [] from rfl, List.append_nil] at h3
    refine Ev.step (fun k => ?_) h3
    have hdoc : rdOf ByteArray.empty l (D : Int) = textAt l D := rfl
    rw [back_Naive.l0, if_pos (by omega), if_pos (by omega), if_pos (by omega), hdoc, hw]
    rfl
theorem naiveM_ok (l : List ByteArray) (p : ByteArray) (hl : l.length ≤ 1000) (hM : ∀ d, (textAt l d).size ≤ 1000) : ∃ k, back_Naive.f k p l = some (naiveM l p l.length) := Ev.rounds (naiveM_l0 l p hl hM _ 0 rfl (Nat.zero_le _))
theorem mem_spotsIn (d : Nat) (s p : ByteArray) (n : Nat) (x : S57) (h : x ∈ spotsIn d s p n) : ∃ i : Nat, i < n ∧ hasAt s p i = true ∧ x = ⟨(d : Int), (i : Int)⟩ := by
  unfold spotsIn at h
  obtain ⟨i, hi, rfl⟩ := List.mem_map.1 h
  obtain ⟨h1, h2⟩ := List.mem_filter.1 hi
  exact ⟨i, List.mem_range.1 h1, h2, rfl⟩
theorem mem_naiveM (l : List ByteArray) (p : ByteArray) : ∀ (D : Nat) (x : S57), x ∈ naiveM l p D → ∃ d i : Nat, d < D ∧ hasAt (textAt l d) p i = true ∧ x = ⟨(d : Int), (i : Int)⟩
  | 0, x, h => by cases h
  | D + 1, x, h => by
    rw [naiveM] at h
    rcases List.mem_append.1 h with h | h
    · obtain ⟨d, i, h1, h2, h3⟩ := mem_naiveM l p D x h
      exact ⟨d, i, by omega, h2, h3⟩
    · obtain ⟨i, _, h2, h3⟩ := mem_spotsIn _ _ _ _ _ h
      exact ⟨D, i, by omega, h2, h3⟩
def riseR (a b : S57) : Prop := a.f0 < b.f0 ∨ a.f0 = b.f0 ∧ a.f1 < b.f1
theorem spotsIn_rise (d : Nat) (s p : ByteArray) (n : Nat) : (spotsIn d s p n).Pairwise riseR := by
  unfold spotsIn
  rw [List.pairwise_map]
  refine List.Pairwise.imp ?_ (List.pairwise_lt_range.sublist List.filter_sublist)
  intro a b h
  exact Or.inr ⟨rfl, by show (a : Int) < (b : Int); omega⟩
theorem naiveM_rise (l : List ByteArray) (p : ByteArray) : ∀ D : Nat, (naiveM l p D).Pairwise riseR
  | 0 => List.Pairwise.nil
  | D + 1 => by
    rw [naiveM, List.pairwise_append]
    refine ⟨naiveM_rise l p D, spotsIn_rise _ _ _ _, ?_⟩
    intro a ha b hb
    obtain ⟨d, i, hd, _, rfl⟩ := mem_naiveM l p D a ha
    obtain ⟨j, _, _, rfl⟩ := mem_spotsIn _ _ _ _ _ hb
    exact Or.inl (by show (d : Int) < (D : Int); omega)
theorem naiveM_push (l : List ByteArray) (s p : ByteArray) : ∀ D, D ≤ l.length → naiveM (l ++ [s]) p D = naiveM l p D
  | 0, _ => rfl
  | D + 1, h => by
    have e : textAt (l ++ [s]) D = textAt l D := by
      unfold textAt
      rw [List.getD_eq_getElem?_getD, List.getD_eq_getElem?_getD, List.getElem?_append_left (by omega)]
    rw [naiveM, naiveM, naiveM_push l s p D (by omega), e]
theorem naiveM_more (l : List ByteArray) (s : ByteArray) : (naiveM l s l.length).length < (naiveM (l ++ [s]) s (l ++ [s]).length).length := by
  have e : textAt (l ++ [s]) l.length = s := by
    unfold textAt
    rw [List.getD_eq_getElem?_getD, List.getElem?_append_right (Nat.le_refl _), Nat.sub_self]
    rfl
  rw [List.length_append, List.length_singleton, naiveM, naiveM_push l s s _ (Nat.le_refl _), List.length_append, e]
  have h0 : hasAt s s 0 = true := by
    unfold hasAt
    rw [Nat.zero_add, decide_eq_true (Nat.le_refl _), Bool.true_and, beq_iff_eq]
    congr 1
    exact ByteArray.extract_zero_size
  have h1 : (⟨(l.length : Int), (0 : Int)⟩ : S57) ∈ spotsIn l.length s s (s.size + 1) := by
    unfold spotsIn
    exact List.mem_map.2 ⟨0, List.mem_filter.2 ⟨List.mem_range.2 (by omega), h0⟩, rfl⟩
  have h2 : 0 < (spotsIn l.length s s (s.size + 1)).length := List.length_pos_of_mem h1
  omega
end Go.Proofs.Ytibhenengpdahaa.P
