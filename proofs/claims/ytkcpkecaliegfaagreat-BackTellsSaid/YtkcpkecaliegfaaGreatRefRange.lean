/- What the document's Back, Range and Naive compute: the same as package back's, of every symbols and every documents. Conditions: the lists are not too long. -/
import Derived.Test.YtkcpkecaliegfaaGreatRefBwt
import Derived.Test.YtkcpkecaliegfaaGreatBackB
import Derived.Test.YtkcpkecaliegfaaGreatPc
set_option linter.unusedVariables false
set_option linter.unusedSimpArgs false
namespace Go.Proofs.YtkcpkecaliegfaaGreat.P
open Go.RowKit Go.Proofs.YtkcpkecaliegfaaGreatW.PrintWords Go.Proofs.YtkcpkecaliegfaaGreatW.PrintLast Go.Proofs.YtkcpkecaliegfaaGreatW.PrintMore

/-- A step, of every symbols. -/
def stepOf (s : List Int) (c lo hi : Int) : Int × Int := if 1 ≤ c ∧ c ≤ 256 ∧ colB s = true then (((before c s + rank c (clampN lo s.length) s : Nat) : Int), ((before c s + rank c (clampN hi s.length) s : Nat) : Int)) else (0, 0)
theorem step_any (s : List Int) (c lo hi : Int) (hn : s.length ≤ 1000000) : Ev (fun k => back_Step.f k c lo hi s) (stepOf s c lo hi) := by
  unfold stepOf
  by_cases h : 1 ≤ c ∧ c ≤ 256 ∧ colB s = true
  · rw [if_pos h]
    exact ⟨s.length + 2, fun k hk => step_ok s c lo hi hn h.2.2 ⟨h.1, h.2.1⟩ k hk⟩
  · rw [if_neg h]
    refine Ev.step (f := fun _ => some ((0 : Int), (0 : Int))) (fun k => ?_) (Ev.now _)
    unfold back_Step.f
    by_cases h1 : c < 1
    · rw [if_pos h1, back_Step.j0, if_pos rfl]
    · rw [if_neg h1]
      by_cases h2 : c ≥ 257
      · rw [if_pos h2, back_Step.j0, if_pos rfl]
      · rw [if_neg h2, col_f s hn, Option.bind_some, show colB s = false by
          cases hc : colB s with
          | false => rfl
          | true => exact absurd ⟨by omega, by omega, hc⟩ h]
        rw [show (!false) = true from rfl, back_Step.j0, if_pos rfl]
theorem refBack_ev (s : List Int) (c lo hi : Int) (hn : s.length ≤ 1000000) : Ev (fun k => scriniumref1_Back.f k c lo hi s) (stepOf s c lo hi) := by
  have hzero : Ev (fun k => scriniumref1_Back.j0 k c lo hi s true) ((0 : Int), (0 : Int)) := by
    refine Ev.step (f := fun _ => some ((0 : Int), (0 : Int))) (fun k => ?_) (Ev.now _)
    rw [scriniumref1_Back.j0, if_pos rfl]
  unfold stepOf
  by_cases h1 : c < 1
  · rw [if_neg (by omega)]
    refine Ev.congr (fun k => ?_) hzero
    unfold scriniumref1_Back.f
    rw [if_pos h1]
  · by_cases h2 : c ≥ 257
    · rw [if_neg (by omega)]
      refine Ev.congr (fun k => ?_) hzero
      unfold scriniumref1_Back.f
      rw [if_neg h1, if_pos h2]
    · refine Ev.congr (g := fun k => scriniumref1_Back.f k c lo hi s) (f := fun k => (scriniumref1_Column.f k s).bind fun t => scriniumref1_Back.j0 k c lo hi s (!t)) (fun k => ?_) (Ev.bind (refCol_ev s hn) ?_)
      · unfold scriniumref1_Back.f
        rw [if_neg h1, if_neg h2]
      · cases hc : colB s with
        | false => rw [if_neg (by simp)]; exact hzero
        | true =>
          rw [if_pos ⟨by omega, by omega, rfl⟩]
          have hb := before_le c s
          have hr1 := rank_le c (clampN lo s.length) s
          have hr2 := rank_le c (clampN hi s.length) s
          have B := refBefore_ev s c hn
          have R1 := refRank_ev s c lo hn
          have R2 := refRank_ev s c hi hn
          rw [hc, if_pos rfl] at B R1 R2
          refine Ev.step (f := fun k => (scriniumref1_Before.f k c s).bind fun t215 => ((scriniumref1_Rank.f k c lo s).bind fun t216 => ((scriniumref1_Before.f k c s).bind fun t217 => ((scriniumref1_Rank.f k c hi s).bind fun t218 => (some (wrap64 (t215 + t216), wrap64 (t217 + t218))))))) (fun k => ?_) ?_
          · show scriniumref1_Back.j0 (k + 1) c lo hi s false = _
            rw [scriniumref1_Back.j0, if_neg (by decide)]
          · refine Ev.bind B (Ev.bind R1 (Ev.bind B (Ev.bind R2 ?_)))
            rw [← Int.natCast_add, ← Int.natCast_add, w64 _ (by omega), w64 _ (by omega)]
            exact Ev.now _
/-- The rows of a pattern, byte by byte from the end on: j bytes are left. -/
def rangeGo (s : List Int) (p : ByteArray) : Nat → Int → Int → Int × Int
  | 0, lo, hi => (lo, hi)
  | j + 1, lo, hi => if (stepOf s (bt p (j : Int) + 1) lo hi).1 ≥ (stepOf s (bt p (j : Int) + 1) lo hi).2 then (0, 0) else rangeGo s p j (stepOf s (bt p (j : Int) + 1) lo hi).1 (stepOf s (bt p (j : Int) + 1) lo hi).2
def rangeAny (s : List Int) (p : ByteArray) : Int × Int := if colB s then rangeGo s p p.size 0 (s.length : Int) else (0, 0)
theorem range_go (s : List Int) (p : ByteArray) (hn : s.length ≤ 1000000) (hp : p.size ≤ 1000000) : ∀ (j : Nat) (lo hi : Int), j ≤ p.size → Ev (fun k => back_Range.l0 k p s lo hi ((j : Int) - 1)) (rangeGo s p j lo hi) := by
  intro j
  induction j with
  | zero =>
    intro lo hi hj
    refine Ev.step (f := fun _ => some (lo, hi)) (fun k => ?_) (Ev.now _)
    rw [back_Range.l0, if_neg (by omega)]
  | succ j ih =>
    intro lo hi hj
    have hb := bt_range p (j : Int)
    have e1 : ((j + 1 : Nat) : Int) - 1 = (j : Int) := by omega
    have hw : wrap64 ((j : Int) - 1) = (j : Int) - 1 := w64i _ (by omega)
    rw [e1]
    refine Ev.step (f := fun k => (back_Step.f k (bt p (j : Int) + 1) lo hi s).bind fun t => (if t.1 ≥ t.2 then (some ((0 : Int), (0 : Int))) else (back_Range.l0 k p s t.1 t.2 ((j : Int) - 1)))) (fun k => ?_) ?_
    · rw [back_Range.l0, if_pos (by omega), if_pos (by omega), if_pos (by omega), of_sym _ hb, Option.bind_some, hw]
    · refine Ev.bind (step_any s _ lo hi hn) ?_
      rw [rangeGo]
      by_cases h : (stepOf s (bt p (j : Int) + 1) lo hi).1 ≥ (stepOf s (bt p (j : Int) + 1) lo hi).2
      · rw [if_pos h]
        exact ev_if h (Ev.now _)
      · rw [if_neg h]
        exact ev_else h (ih _ _ (by omega))
theorem range_any (s : List Int) (p : ByteArray) (hn : s.length ≤ 1000000) (hp : p.size ≤ 1000000) : Ev (fun k => back_Range.f k p s) (rangeAny s p) := by
  unfold rangeAny
  refine Ev.congr (f := fun k => if colB s = true then back_Range.l0 k p s 0 (s.length : Int) ((p.size : Int) - 1) else some ((0 : Int), (0 : Int))) (fun k => ?_) ?_
  · unfold back_Range.f
    rw [col_f s hn, Option.bind_some, show wrap64 ((p.size : Int) - 1) = (p.size : Int) - 1 from w64i _ (by omega)]
  · cases hc : colB s with
    | true =>
      rw [if_pos rfl]
      exact Ev.congr (fun _ => if_pos rfl) (range_go s p hn hp p.size 0 _ (Nat.le_refl _))
    | false =>
      rw [if_neg (by decide)]
      exact Ev.congr (fun _ => if_neg (by decide)) (Ev.now _)
theorem refRange_go (s : List Int) (p : ByteArray) (hn : s.length ≤ 1000000) (hp : p.size ≤ 1000000) : ∀ (j : Nat) (lo hi : Int), j ≤ p.size → Ev (fun k => scriniumref1_Range.l0 k p s lo hi ((j : Int) - 1)) (rangeGo s p j lo hi) := by
  intro j
  induction j with
  | zero =>
    intro lo hi hj
    refine Ev.step (f := fun _ => some (lo, hi)) (fun k => ?_) (Ev.now _)
    rw [scriniumref1_Range.l0, if_neg (by omega)]
  | succ j ih =>
    intro lo hi hj
    have hb := bt_range p (j : Int)
    have e1 : ((j + 1 : Nat) : Int) - 1 = (j : Int) := by omega
    have hw : wrap64 ((j : Int) - 1) = (j : Int) - 1 := w64i _ (by omega)
    rw [e1]
    refine Ev.step (f := fun k => (scriniumref1_Back.f k (bt p (j : Int) + 1) lo hi s).bind fun t => (if t.1 ≥ t.2 then (some ((0 : Int), (0 : Int))) else (scriniumref1_Range.l0 k p s t.1 t.2 ((j : Int) - 1)))) (fun k => ?_) ?_
    · rw [scriniumref1_Range.l0, if_pos (by omega), if_pos (by omega), if_pos (by omega), hw, w64i (bt p (j : Int)) (by omega), w64i (bt p (j : Int) + 1) (by omega)]
    · refine Ev.bind (refBack_ev s _ lo hi hn) ?_
      rw [rangeGo]
      by_cases h : (stepOf s (bt p (j : Int) + 1) lo hi).1 ≥ (stepOf s (bt p (j : Int) + 1) lo hi).2
      · rw [if_pos h]
        exact ev_if h (Ev.now _)
      · rw [if_neg h]
        exact ev_else h (ih _ _ (by omega))
theorem refRange_any (s : List Int) (p : ByteArray) (hn : s.length ≤ 1000000) (hp : p.size ≤ 1000000) : Ev (fun k => scriniumref1_Range.f k p s) (rangeAny s p) := by
  unfold rangeAny
  refine Ev.congr (f := fun k => (scriniumref1_Column.f k s).bind fun t => if t = true then scriniumref1_Range.l0 k p s 0 (s.length : Int) ((p.size : Int) - 1) else some ((0 : Int), (0 : Int))) (fun k => ?_) (Ev.bind (refCol_ev s hn) ?_)
  · unfold scriniumref1_Range.f
    rw [show wrap64 ((p.size : Int) - 1) = (p.size : Int) - 1 from w64i _ (by omega)]
  · cases hc : colB s with
    | true =>
      rw [if_pos rfl]
      exact Ev.congr (fun _ => if_pos rfl) (refRange_go s p hn hp p.size 0 _ (Nat.le_refl _))
    | false =>
      rw [if_neg (by decide)]
      exact Ev.congr (fun _ => if_neg (by decide)) (Ev.now _)
theorem range_small (s : List Int) (p : ByteArray) (hn : s.length ≤ 1000000) : -9000000 ≤ (rangeAny s p).1 ∧ (rangeAny s p).1 ≤ 9000000 ∧ -9000000 ≤ (rangeAny s p).2 ∧ (rangeAny s p).2 ≤ 9000000 := by
  have hst : ∀ c lo hi, 0 ≤ (stepOf s c lo hi).1 ∧ (stepOf s c lo hi).1 ≤ 2000000 ∧ 0 ≤ (stepOf s c lo hi).2 ∧ (stepOf s c lo hi).2 ≤ 2000000 := by
    intro c lo hi
    unfold stepOf
    have hb := before_le c s
    have hr1 := rank_le c (clampN lo s.length) s
    have hr2 := rank_le c (clampN hi s.length) s
    split
    · refine ⟨Int.natCast_nonneg _, ?_, Int.natCast_nonneg _, ?_⟩ <;> omega
    · exact ⟨by decide, by decide, by decide, by decide⟩
  have hgo : ∀ (j : Nat) (lo hi : Int), 0 ≤ lo ∧ lo ≤ 2000000 ∧ 0 ≤ hi ∧ hi ≤ 2000000 → 0 ≤ (rangeGo s p j lo hi).1 ∧ (rangeGo s p j lo hi).1 ≤ 2000000 ∧ 0 ≤ (rangeGo s p j lo hi).2 ∧ (rangeGo s p j lo hi).2 ≤ 2000000 := by
    intro j
    induction j with
    | zero => intro lo hi h; exact h
    | succ j ih =>
      intro lo hi h
      rw [rangeGo]
      split
      · exact ⟨by decide, by decide, by decide, by decide⟩
      · exact ih _ _ (hst _ _ _)
  unfold rangeAny
  split
  · have := hgo p.size 0 (s.length : Int) ⟨by omega, by omega, by omega, by omega⟩
    omega
  · exact ⟨by decide, by decide, by decide, by decide⟩
theorem count_any (s : List Int) (p : ByteArray) (hn : s.length ≤ 1000000) (hp : p.size ≤ 1000000) : Ev (fun k => back_Count.f k p s) ((rangeAny s p).2 - (rangeAny s p).1) := by
  have h := range_small s p hn
  refine Ev.congr (f := fun k => (back_Range.f k p s).bind fun t => some (wrap64 (t.2 - t.1))) (fun k => rfl) (Ev.bind (range_any s p hn hp) ?_)
  rw [w64i _ (by omega)]
  exact Ev.now _
theorem cutPre (t p : ByteArray) (i : Nat) (h : i + p.size ≤ t.size) : preP ((bytesOf t).drop i) (bytesOf p) = ((t.extract i (i + p.size)).toList == p.toList) := by
  have e : (bytesOf t).drop i = (t.data.toList.drop i).map fun b => (b.toNat : Int) := by unfold bytesOf; rw [List.map_drop]
  have hp : p.data.toList.length = p.size := by rw [Array.length_toList]; rfl
  rw [e]
  unfold bytesOf
  rw [pre_take, ByteArray.toList_eq, ByteArray.toList_eq, ByteArray.data_extract, Array.toList_extract, List.extract_eq_take_drop, hp, Nat.add_sub_cancel_left]
theorem farPre (t p : ByteArray) (i : Nat) (hi : i ≤ t.size) (h : ¬ i + p.size ≤ t.size) : preP ((bytesOf t).drop i) (bytesOf p) = false := by
  cases hp : preP ((bytesOf t).drop i) (bytesOf p) with
  | false => rfl
  | true =>
    have := pre_length _ _ hp
    rw [List.length_drop, bytesOf_length, bytesOf_length] at this
    omega
theorem refNaive_l1 (l : List ByteArray) (p : ByteArray) (r : List S75) (D : Nat) (hD : D < l.length) (hll : l.length ≤ 1000000) (hp : p.size ≤ 1000000) (hsz : (docAt l (D : Int)).size ≤ 1000000) (hlim : (rowsTo l (D + 1)).length ≤ 8000000000000)
    (hnext : Ev (fun k => scriniumref1_Naive.l0 k p l (naiveTo l (bytesOf p) (D + 1)) ((D + 1 : Nat) : Int)) r) : ∀ (m i : Nat), m = (docAt l (D : Int)).size + 1 - i → i ≤ (docAt l (D : Int)).size + 1 →
    Ev (fun k => scriniumref1_Naive.l1 k p l (naiveTo l (bytesOf p) D ++ (rowsOf l D i).filter (fun r => preP (suf l r.f0 r.f1) (bytesOf p))) (D : Int) (i : Int)) r := by
  have hend : ∀ i : Nat, i ≤ (docAt l (D : Int)).size + 1 → ¬ i + p.size ≤ (docAt l (D : Int)).size → naiveTo l (bytesOf p) D ++ (rowsOf l D i).filter (fun r => preP (suf l r.f0 r.f1) (bytesOf p)) = naiveTo l (bytesOf p) (D + 1) := by
    intro i hi hfar
    have h1 : ∀ n : Nat, i + n = (docAt l (D : Int)).size + 1 → (rowsOf l D (i + n)).filter (fun r => preP (suf l r.f0 r.f1) (bytesOf p)) = (rowsOf l D i).filter (fun r => preP (suf l r.f0 r.f1) (bytesOf p)) := by
      intro n hn
      have h2 : ∀ q : Nat, q ≤ n → (rowsOf l D (i + q)).filter (fun r => preP (suf l r.f0 r.f1) (bytesOf p)) = (rowsOf l D i).filter (fun r => preP (suf l r.f0 r.f1) (bytesOf p)) := by
        intro q
        induction q with
        | zero => intro _; rfl
        | succ q ih =>
          intro hq
          rw [← Nat.add_assoc, rowsOf_succ, List.filter_append, ih (by omega), List.filter_cons_of_neg, List.filter_nil, List.append_nil]
          dsimp only
          unfold suf
          rw [Int.toNat_natCast, farPre _ _ _ (by omega) (by omega)]
          decide
      exact h2 n (Nat.le_refl _)
    unfold naiveTo
    rw [rowsTo, List.filter_append, ← h1 ((docAt l (D : Int)).size + 1 - i) (by omega), show i + ((docAt l (D : Int)).size + 1 - i) = (docAt l (D : Int)).size + 1 by omega]
  intro m
  induction m with
  | zero =>
    intro i hm hi
    obtain rfl : i = (docAt l (D : Int)).size + 1 := by omega
    rw [hend _ (Nat.le_refl _) (by omega)]
    refine Ev.step (fun k => ?_) hnext
    have hdoc : rdOf ByteArray.empty l (D : Int) = docAt l (D : Int) := rfl
    rw [scriniumref1_Naive.l1, if_pos (by omega), if_pos (by omega), hdoc, w64i _ (by omega), if_neg (by omega), show wrap64 ((D : Int) + 1) = ((D + 1 : Nat) : Int) from w64 (D + 1) (by omega)]
  | succ m ih =>
    intro i hm hi
    have hdoc : rdOf ByteArray.empty l (D : Int) = docAt l (D : Int) := rfl
    by_cases hfar : i + p.size ≤ (docAt l (D : Int)).size
    · have hrec := ih (i + 1) (by omega) (by omega)
      rw [rowsOf_succ, List.filter_append, ← List.append_assoc] at hrec
      have hsuf : suf l (D : Int) (i : Int) = (bytesOf (docAt l (D : Int))).drop i := by
        unfold suf
        rw [Int.toNat_natCast]
      have hlen : (naiveTo l (bytesOf p) D ++ (rowsOf l D i).filter (fun r => preP (suf l r.f0 r.f1) (bytesOf p))).length ≤ 8000000000000 := by
        rw [rowsTo, List.length_append, rowsOf_length] at hlim
        rw [List.length_append]
        have h1 : (naiveTo l (bytesOf p) D).length ≤ (rowsTo l D).length := List.length_filter_le _ _
        have h2 : ((rowsOf l D i).filter (fun r => preP (suf l r.f0 r.f1) (bytesOf p))).length ≤ (rowsOf l D i).length := List.length_filter_le _ _
        rw [rowsOf_length] at h2
        omega
      obtain ⟨X, hX⟩ : ∃ X, naiveTo l (bytesOf p) D ++ (rowsOf l D i).filter (fun r => preP (suf l r.f0 r.f1) (bytesOf p)) = X := ⟨_, rfl⟩
      rw [hX] at hrec hlen ⊢
      have g1 : (0 : Int) ≤ (D : Int) := by omega
      have g2 : (D : Int) < (l.length : Int) := by omega
      have g3 : ((i + p.size : Nat) : Int) ≤ ((docAt l (D : Int)).size : Int) := Int.ofNat_le.2 hfar
      have g4 : (0 : Int) ≤ (i : Int) := by omega
      have g5 : (i : Int) ≤ ((i + p.size : Nat) : Int) := by omega
      have g6 : X.length < 8796093022208 := by omega
      have g7 : i + p.size < 9223372036854775807 := by omega
      have hw : wrap64 ((i : Int) + 1) = ((i + 1 : Nat) : Int) := w64 (i + 1) (by omega)
      have hw2 : wrap64 ((i : Int) + (p.size : Int)) = ((i + p.size : Nat) : Int) := by rw [← Int.natCast_add]; exact w64 _ g7
      refine Ev.step (fun k => ?_) hrec
      rw [scriniumref1_Naive.l1, if_pos g1, if_pos g2, hdoc, hw2, if_pos g3, if_pos g4, if_pos g5, hw, Int.toNat_natCast, Int.toNat_natCast]
      have hc := cutPre (docAt l (D : Int)) p i hfar
      by_cases h : ((docAt l (D : Int)).extract i (i + p.size)).toList = p.toList
      · rw [if_pos h, if_pos g6, List.filter_cons_of_pos (by dsimp only; rw [hsuf, hc]; simpa using h), List.filter_nil]
      · rw [if_neg h, List.filter_cons_of_neg (by dsimp only; rw [hsuf, hc]; simpa using h), List.filter_nil, List.append_nil]
    · rw [hend i hi hfar]
      refine Ev.step (fun k => ?_) hnext
      rw [scriniumref1_Naive.l1, if_pos (by omega), if_pos (by omega), hdoc, w64i _ (by omega), if_neg (by omega), show wrap64 ((D : Int) + 1) = ((D + 1 : Nat) : Int) from w64 (D + 1) (by omega)]
theorem refNaive_l0 (l : List ByteArray) (p : ByteArray) (hll : l.length ≤ 1000000) (hp : p.size ≤ 1000000) (hsz : ∀ d : Int, (docAt l d).size ≤ 1000000) : ∀ (m D : Nat), m = l.length - D → D ≤ l.length →
    Ev (fun k => scriniumref1_Naive.l0 k p l (naiveTo l (bytesOf p) D) (D : Int)) (naiveOf l (bytesOf p)) := by
  intro m
  induction m with
  | zero =>
    intro D hm hD
    obtain rfl : D = l.length := by omega
    refine Ev.step (f := fun _ => some (naiveOf l (bytesOf p))) (fun k => ?_) (Ev.now _)
    rw [scriniumref1_Naive.l0, if_neg (by omega)]
    rfl
  | succ m ih =>
    intro D hm hD
    have hrec := ih (D + 1) (by omega) (by omega)
    have h1 := rows_lim l 1000000 hsz (D + 1)
    have h2 : (D + 1) * (1000000 + 1) ≤ 1000000 * 1000001 := Nat.mul_le_mul (by omega) (Nat.le_refl _)
    have h3 := refNaive_l1 l p _ D (by omega) hll hp (hsz _) (Nat.le_trans h1 (Nat.le_trans h2 (by decide))) hrec _ 0 rfl (Nat.zero_le _)
    rw [show rowsOf l D 0 = [] from rfl, List.filter_nil, List.append_nil] at h3
    refine Ev.step (fun k => ?_) h3
    rw [scriniumref1_Naive.l0, if_pos (by omega)]
    rfl
theorem refNaive_ok (l : List ByteArray) (p : ByteArray) (hll : l.length ≤ 1000000) (hp : p.size ≤ 1000000) (hsz : ∀ d : Int, (docAt l d).size ≤ 1000000) : Ev (fun k => scriniumref1_Naive.f k p l) (naiveOf l (bytesOf p)) := refNaive_l0 l p hll hp hsz _ 0 rfl (Nat.zero_le _)
end Go.Proofs.YtkcpkecaliegfaaGreat.P
