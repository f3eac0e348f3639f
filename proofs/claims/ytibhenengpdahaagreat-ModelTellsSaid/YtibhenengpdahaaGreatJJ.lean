/- The plain laws of the document's ModelRight, Texts, Naive, Place: they tell the same as package model's. Conditions: the lists are not too long. -/
import Derived.Test.YtibhenengpdahaaGreatJH
import Derived.Test.YtibhenengpdahaaGreatP12
import Derived.Test.YtibhenengpdahaaGreatJI
import Derived.Test.YtibhenengpdahaaGreatJC
import Derived.Test.YtibhenengpdahaaGreatAnswerI
section
set_option linter.unusedVariables false
set_option linter.unusedSimpArgs false
namespace Go.Proofs.YtibhenengpdahaaGreat.P
open Go.RowKit Go.Proofs.YtibhenengpdahaaGreatW.PrintWords Go.Proofs.YtibhenengpdahaaGreatW.PrintLast Go.Proofs.YtibhenengpdahaaGreatW.PrintMore

theorem place_l (l : List S27) (id : Int) (d : Nat) (hd : d < l.length) (hl : l.length ≤ 1000000) (he : l[d].f0 = id) (hb : ∀ j, (h : j < d) → l[j].f0 ≠ id) : ∀ (m j k : Nat), m = d - j → j ≤ d → m + 1 ≤ k → scriniumref1_Place.l0 k l id (j : Int) = some (d : Int) := by
 intro m
 induction m with
 | zero =>
  intro j k hm hj hk
  obtain rfl : j = d := by omega
  obtain ⟨k1, rfl⟩ : ∃ k1, k = k1 + 1 := ⟨k - 1, by omega⟩
  rw [scriniumref1_Place.l0, if_pos (by omega), if_pos (by omega), rd_doc_get l j hd, if_pos (by first | exact he | (rw [he]; simp) | simp [he])]
 | succ m ih =>
  intro j k hm hj hk
  obtain ⟨k1, rfl⟩ : ∃ k1, k = k1 + 1 := ⟨k - 1, by omega⟩
  have hrec := ih (j + 1) k1 (by omega) (by omega) (by omega)
  have hw : wrap64 ((j : Int) + 1) = ((j + 1 : Nat) : Int) := w64n (j + 1) (by omega)
  have hn := hb j (by omega)
  rw [scriniumref1_Place.l0, if_pos (by omega), if_pos (by omega), rd_doc_get l j (by omega), if_neg (by first | exact hn | simp [hn]), hw]
  exact hrec
theorem place_none (l : List S27) (id : Int) (hl : l.length ≤ 1000000) (hb : ∀ j, (h : j < l.length) → l[j].f0 ≠ id) : ∀ (m j k : Nat), m = l.length - j → j ≤ l.length → m + 1 ≤ k → scriniumref1_Place.l0 k l id (j : Int) = some (-1) := by
 intro m
 induction m with
 | zero =>
  intro j k hm hj hk
  obtain rfl : j = l.length := by omega
  obtain ⟨k1, rfl⟩ : ∃ k1, k = k1 + 1 := ⟨k - 1, by omega⟩
  rw [scriniumref1_Place.l0, if_neg (by omega)]
 | succ m ih =>
  intro j k hm hj hk
  obtain ⟨k1, rfl⟩ : ∃ k1, k = k1 + 1 := ⟨k - 1, by omega⟩
  have hrec := ih (j + 1) k1 (by omega) (by omega) (by omega)
  have hw : wrap64 ((j : Int) + 1) = ((j + 1 : Nat) : Int) := w64n (j + 1) (by omega)
  rw [scriniumref1_Place.l0, if_pos (by omega), if_pos (by omega), rd_doc_get l j (by omega), if_neg (hb j (by omega)), hw]
  exact hrec
/-- Where a number stands, as the document tells it. -/
theorem place_any (l : List S27) (id : Int) (hl : l.length ≤ 1000000) (k : Nat) (hk : l.length + 1 ≤ k) : scriniumref1_Place.f k l id = some (findOf l id) := by
 rcases find_cases l id with ⟨e1, h3⟩ | ⟨d, hd, e1, he, hb⟩
 ·rw [e1]
  exact place_none l id hl h3 l.length 0 _ rfl (Nat.zero_le _) hk
 ·rw [e1]
  exact place_l l id d hd hl he hb d 0 _ rfl (Nat.zero_le _) (by omega)
theorem refTexts_l (l : List S27) (h : l.length ≤ 1000000) : ∀ (m j k : Nat), m = l.length - j → j ≤ l.length → m + 1 ≤ k → scriniumref1_Texts.l0 k l (textsOf (l.take j)) (j : Int) = some (textsOf l) := by
 intro m
 induction m with
 | zero =>
  intro j k hm hj hk
  obtain rfl : j = l.length := by omega
  obtain ⟨k1, rfl⟩ : ∃ k1, k = k1 + 1 := ⟨k - 1, by omega⟩
  rw [scriniumref1_Texts.l0, if_neg (by omega), List.take_length]
 | succ m ih =>
  intro j k hm hj hk
  obtain ⟨k1, rfl⟩ : ∃ k1, k = k1 + 1 := ⟨k - 1, by omega⟩
  have hjl : j < l.length := by omega
  have hrec := ih (j + 1) k1 (by omega) (by omega) (by omega)
  have hw : wrap64 ((j : Int) + 1) = ((j + 1 : Nat) : Int) := w64d (j + 1) (by omega)
  have hs : textsOf (l.take (j + 1)) = textsOf (l.take j) ++ [l[j].f1] := by
   unfold textsOf
   rw [List.take_succ_eq_append_getElem hjl, List.map_append]
   rfl
  rw [hs] at hrec
  rw [scriniumref1_Texts.l0, if_pos (by omega), if_pos (by omega), rd_doc_get l j hjl, hw]
  rw [if_pos (by unfold textsOf; rw [List.length_map, List.length_take]; omega)]
  exact hrec
theorem refTexts_ok (l : List S27) (h : l.length ≤ 1000000) : scriniumref1_Texts.f (l.length + 1) l = some (textsOf l) := refTexts_l l h l.length 0 _ (by omega) (Nat.zero_le _) (Nat.le_refl _)
def refRow (l : List S27) (i : Nat) : Bool := decide (1 ≤ (l.getD i z27).f0) && (decide ((l.getD i z27).f1.size ≤ 40) && decide (findOf l (l.getD i z27).f0 = (i : Int)))
theorem refRight_l (l : List S27) (h : l.length ≤ 1000000) : ∀ (m j k : Nat), m = l.length - j → j ≤ l.length → l.length + m + 2 ≤ k → scriniumref1_ModelRight.l0 k l (j : Int) = some ((List.range' j m).all (refRow l) && decide ((l.length : Int) ≤ 10)) := by
 intro m
 induction m with
 | zero =>
  intro j k hm hj hk
  obtain rfl : j = l.length := by omega
  obtain ⟨k1, rfl⟩ : ∃ k1, k = k1 + 1 := ⟨k - 1, by omega⟩
  rw [scriniumref1_ModelRight.l0, if_neg (by omega)]
  rfl
 | succ m ih =>
  intro j k hm hj hk
  obtain ⟨k1, rfl⟩ : ∃ k1, k = k1 + 1 := ⟨k - 1, by omega⟩
  have hjl : j < l.length := by omega
  have hrec := ih (j + 1) k1 (by omega) (by omega) (by omega)
  have hw : wrap64 ((j : Int) + 1) = ((j + 1 : Nat) : Int) := w64d (j + 1) (by omega)
  have hg : l.getD j z27 = l[j] := by rw [List.getD_eq_getElem?_getD, List.getElem?_eq_getElem hjl]; rfl
  rw [List.range'_succ, List.all_cons, show refRow l j = _ from rfl]
  unfold refRow
  rw [hg, scriniumref1_ModelRight.l0, if_pos (by omega), if_pos (by omega), rd_doc_get l j hjl, hw]
  by_cases h1 : l[j].f0 < 1
  ·rw [if_pos h1, decide_eq_false (show ¬ 1 ≤ l[j].f0 by omega)]
   rfl
  rw [if_neg h1, decide_eq_true (show 1 ≤ l[j].f0 by omega), Bool.true_and]
  by_cases h2 : (l[j].f1.size : Int) > 40
  ·rw [if_pos h2, decide_eq_false (show ¬ l[j].f1.size ≤ 40 by omega)]
   rfl
  rw [if_neg h2, decide_eq_true (show l[j].f1.size ≤ 40 by omega), Bool.true_and, place_any l _ h k1 (by omega), Option.bind_some]
  by_cases h3 : findOf l l[j].f0 = (j : Int)
  ·rw [if_pos h3, decide_eq_true h3, Bool.true_and]
   exact hrec
  ·rw [if_neg h3, decide_eq_false h3]
   rfl
theorem refRight_iff (l : List S27) : ((List.range' 0 l.length).all (refRow l) && decide ((l.length : Int) ≤ 10)) = true ↔ Docs0 l := by
 have hg : ∀ i, (hi : i < l.length) → l.getD i z27 = l[i] := fun i hi => by rw [List.getD_eq_getElem?_getD, List.getElem?_eq_getElem hi]; rfl
 rw [Bool.and_eq_true, List.all_eq_true, decide_eq_true_eq, ← List.range_eq_range']
 constructor
 ·rintro ⟨h, hl⟩
  have h' : ∀ i, (hi : i < l.length) → 1 ≤ l[i].f0 ∧ l[i].f1.size ≤ 40 ∧ findOf l l[i].f0 = (i : Int) := by
   intro i hi
   have := h i (List.mem_range.2 hi)
   unfold refRow at this
   rw [hg i hi, Bool.and_eq_true, Bool.and_eq_true, decide_eq_true_eq, decide_eq_true_eq, decide_eq_true_eq] at this
   exact this
  refine ⟨by omega, fun d hd => ?_, ?_, fun d hd => ?_⟩
  ·obtain ⟨i, hi, rfl⟩ := List.getElem_of_mem hd
   exact (h' i hi).1
  ·rw [List.pairwise_iff_getElem]
   intro i j hi hj hij e
   have h2 := (h' j hj).2.2
   have h3 := (h' i hi).2.2
   rw [e] at h3
   omega
  ·obtain ⟨i, hi, rfl⟩ := List.getElem_of_mem hd
   exact (h' i hi).2.1
 ·intro h
  refine ⟨fun i hi => ?_, by have := h.len; omega⟩
  rw [List.mem_range] at hi
  unfold refRow
  rw [hg i hi, Bool.and_eq_true, Bool.and_eq_true, decide_eq_true_eq, decide_eq_true_eq, decide_eq_true_eq]
  exact ⟨h.pos _ (List.getElem_mem hi), h.short _ (List.getElem_mem hi), find_self h i hi⟩
theorem refRight_ok (l : List S27) (h : l.length ≤ 1000000) : scriniumref1_ModelRight.f (2 * l.length + 2) l = some (modelB l) := by
 refine Eq.trans (refRight_l l h l.length 0 _ (by omega) (Nat.zero_le _) (by omega)) ?_
 congr 1
 rw [Bool.eq_iff_iff, refRight_iff, modelB_iff]
theorem hasAt_out (s p : ByteArray) (i : Nat) (h : s.size < i + p.size) : hasAt s p i = false := by
 unfold hasAt
 rw [decide_eq_false (by omega), Bool.false_and]
theorem spotsIn_rest (d : Nat) (s p : ByteArray) (i : Nat) (h : s.size < i + p.size) : ∀ n, spotsIn d s p (i + n) = spotsIn d s p i
 | 0 => rfl
 | n + 1 => by
  rw [← Nat.add_assoc, spotsIn_succ, hasAt_out s p (i + n) (by omega), if_neg (by decide), List.append_nil]
  exact spotsIn_rest d s p i h n
theorem refNaiveM_l1 (l : List ByteArray) (p : ByteArray) (r : List S68) (D : Nat) (hD : D < l.length) (hl : l.length ≤ 1000) (hM : ∀ d, (textAt l d).size ≤ 1000) (hp : p.size ≤ 1000)
  (hnext : Ev (fun k => scriniumref1_Naive.l0 k p l (naiveM l p (D + 1)) ((D + 1 : Nat) : Int)) r) : ∀ (m i : Nat), m = (textAt l D).size + 1 - i → i ≤ (textAt l D).size + 1 →
  Ev (fun k => scriniumref1_Naive.l1 k p l (naiveM l p D ++ spotsIn D (textAt l D) p i) (D : Int) (i : Int)) r := by
 intro m
 have hdoc : rdOf ByteArray.empty l (D : Int) = textAt l D := rfl
 have hend : ∀ i, i ≤ (textAt l D).size + 1 → (textAt l D).size < i + p.size → Ev (fun k => scriniumref1_Naive.l1 k p l (naiveM l p D ++ spotsIn D (textAt l D) p i) (D : Int) (i : Int)) r := by
  intro i hi ho
  have h4 := hM D
  have hr := spotsIn_rest D (textAt l D) p i ho ((textAt l D).size + 1 - i)
  rw [show i + ((textAt l D).size + 1 - i) = (textAt l D).size + 1 by omega] at hr
  rw [← hr]
  have g0 : (0 : Int) ≤ (D : Int) := by omega
  have g1 : (D : Int) < (l.length : Int) := by omega
  have g2 : ¬ ((i + p.size : Nat) : Int) ≤ ((textAt l D).size : Int) := by omega
  have g5 : i + p.size ≤ 1000000000 := by omega
  have g6 : D + 1 ≤ 1000000000 := by omega
  have hw : wrap64 ((i : Int) + (p.size : Int)) = ((i + p.size : Nat) : Int) := by rw [← Int.natCast_add]; exact w64n _ g5
  refine Ev.step (fun k => ?_) hnext
  rw [scriniumref1_Naive.l1, if_pos g0, if_pos g1, hdoc, hw, if_neg g2, show wrap64 ((D : Int) + 1) = ((D + 1 : Nat) : Int) from w64n (D + 1) g6]
  rfl
 induction m with
 | zero =>
  intro i hm hi
  by_cases ho : (textAt l D).size < i + p.size
  ·exact hend i hi ho
  ·omega
 | succ m ih =>
  intro i hm hi
  by_cases ho : (textAt l D).size < i + p.size
  ·exact hend i hi ho
  have hrec := ih (i + 1) (by omega) (by omega)
  rw [spotsIn_succ, ← List.append_assoc] at hrec
  have h1 := naiveM_le l p 1000 hM D
  have h2 : D * (1000 + 1) ≤ 1000 * 1001 := Nat.mul_le_mul (by omega) (Nat.le_refl _)
  have h3 := spotsIn_le D (textAt l D) p i
  have h4 := hM D
  have hlen : (naiveM l p D ++ spotsIn D (textAt l D) p i).length < 8796093022208 := by rw [List.length_append]; omega
  have g0 : (0 : Int) ≤ (D : Int) := by omega
  have g1 : (D : Int) < (l.length : Int) := by omega
  have g2 : ((i + p.size : Nat) : Int) ≤ ((textAt l D).size : Int) := by omega
  have g3 : (0 : Int) ≤ (i : Int) := by omega
  have g4 : (i : Int) ≤ ((i + p.size : Nat) : Int) := by omega
  have g5 : i + p.size ≤ 1000000000 := by omega
  have g6 : i + 1 ≤ 1000000000 := by omega
  have g7 : i + p.size ≤ (textAt l D).size := by omega
  have hh : hasAt (textAt l D) p i = (((textAt l D).extract i (i + p.size)).toList == p.toList) := by
   unfold hasAt
   rw [decide_eq_true g7, Bool.true_and]
  have hw : wrap64 ((i : Int) + 1) = ((i + 1 : Nat) : Int) := w64n (i + 1) g6
  have hw2 : wrap64 ((i : Int) + (p.size : Int)) = ((i + p.size : Nat) : Int) := by rw [← Int.natCast_add]; exact w64n _ g5
  refine Ev.step (fun k => ?_) hrec
  rw [scriniumref1_Naive.l1, if_pos g0, if_pos g1, hdoc, hw2, if_pos g2, if_pos g3, if_pos g4, hw, Int.toNat_natCast, Int.toNat_natCast, hh]
  by_cases h : ((textAt l D).extract i (i + p.size)).toList = p.toList
  ·rw [if_pos h, if_pos (beq_iff_eq.2 h), if_pos hlen]
  ·rw [if_neg h, if_neg (by simpa using h), List.append_nil]
theorem refNaiveM_l0 (l : List ByteArray) (p : ByteArray) (hl : l.length ≤ 1000) (hM : ∀ d, (textAt l d).size ≤ 1000) (hp : p.size ≤ 1000) : ∀ (m D : Nat), m = l.length - D → D ≤ l.length →
  Ev (fun k => scriniumref1_Naive.l0 k p l (naiveM l p D) (D : Int)) (naiveM l p l.length) := by
 intro m
 induction m with
 | zero =>
  intro D hm hD
  obtain rfl : D = l.length := by omega
  refine Ev.step (f := fun _ => some (naiveM l p l.length)) (fun k => ?_) (Ev.now _)
  rw [scriniumref1_Naive.l0, if_neg (by omega)]
 | succ m ih =>
  intro D hm hD
  have hrec := ih (D + 1) (by omega) (by omega)
  have h3 := refNaiveM_l1 l p _ D (by omega) hl hM hp hrec _ 0 rfl (Nat.zero_le _)
  rw [show spotsIn D (textAt l D) p 0 = [] from rfl, List.append_nil] at h3
  refine Ev.step (fun k => ?_) h3
  rw [scriniumref1_Naive.l0, if_pos (by omega)]
  rfl
theorem refNaiveM_ok (l : List ByteArray) (p : ByteArray) (hl : l.length ≤ 1000) (hM : ∀ d, (textAt l d).size ≤ 1000) (hp : p.size ≤ 1000) : ∃ k, scriniumref1_Naive.f k p l = some (naiveM l p l.length) := Ev.rounds (refNaiveM_l0 l p hl hM hp _ 0 rfl (Nat.zero_le _))
end Go.Proofs.YtibhenengpdahaaGreat.P

end
section
set_option linter.unusedVariables false
set_option linter.unusedSimpArgs false
namespace Go.Proofs.YtibhenengpdahaaGreat.P
open Go.RowKit Go.Proofs.YtibhenengpdahaaGreatW.PrintWords Go.Proofs.YtibhenengpdahaaGreatW.PrintLast Go.Proofs.YtibhenengpdahaaGreatW.PrintMore

theorem texts_size {l : List S27} (h : Docs0 l) (d : Nat) : (textAt (textsOf l) d).size ≤ 1000 := by
 unfold textAt
 rw [List.getD_eq_getElem?_getD]
 cases e : (textsOf l)[d]? with
 | none => exact Nat.zero_le _
 | some s =>
  obtain ⟨x, hx, rfl⟩ := List.mem_map.1 (List.mem_of_getElem? e)
  exact Nat.le_trans (h.short x hx) (by decide)
theorem naive_docs {l : List S27} (h : Docs0 l) (p : ByteArray) : ∃ k, back_Naive.f k p (textsOf l) = some (naiveM (textsOf l) p l.length) := by
 have h1 := naiveM_ok (textsOf l) p (by unfold textsOf; rw [List.length_map]; have := h.len; omega) (texts_size h)
 unfold textsOf at h1 ⊢
 rwa [List.length_map] at h1
theorem refNaive_docs {l : List S27} (h : Docs0 l) (p : ByteArray) (hp : p.size ≤ 1000) : ∃ k, scriniumref1_Naive.f k p (textsOf l) = some (naiveM (textsOf l) p l.length) := by
 have h1 := refNaiveM_ok (textsOf l) p (by unfold textsOf; rw [List.length_map]; have := h.len; omega) (texts_size h) hp
 unfold textsOf at h1 ⊢
 rwa [List.length_map] at h1
theorem naive_small {l : List S27} (h : Docs0 l) (p : ByteArray) : (naiveM (textsOf l) p l.length).length ≤ 10010 := by
 have h1 := naiveM_le (textsOf l) p 1000 (texts_size h) l.length
 have h2 : l.length * (1000 + 1) ≤ 10 * 1001 := Nat.mul_le_mul (by have := h.len; omega) (Nat.le_refl _)
 omega
theorem naive_in (l : List S27) (p : ByteArray) : ∀ x ∈ naiveM (textsOf l) p l.length, 0 ≤ x.f0 ∧ x.f0 < (l.length : Int) := by
 intro x hx
 obtain ⟨d, o, h1, h2, rfl⟩ := mem_naiveM (textsOf l) p l.length x hx
 exact ⟨by show (0 : Int) ≤ (d : Int); omega, by show (d : Int) < (l.length : Int); omega⟩
/-- A reply. -/
structure Rep where
 er : Int
 n : Int
 tx : ByteArray
 spots : List S61
 docs : List S27
 lens : List Int
 at_ : Value
/-- Is a request none that is answered? -/
def noneB (l : List S27) (kind id fr tt snap : Int) (text : ByteArray) : Prop := mayB l kind id fr tt snap text = false ∨ kind < 3 ∨ 7 < kind
instance (l : List S27) (kind id fr tt snap : Int) (text : ByteArray) : Decidable (noneB l kind id fr tt snap text) := inferInstanceAs (Decidable (_ ∨ _))
/-- The reply to a request. -/
def replyOf (l : List S27) (kind id fr tt snap : Int) (text : ByteArray) : Rep :=
 if noneB l kind id fr tt snap text then ⟨1, 0, ⟨#[]⟩, [], [], [], zeroC⟩
 else if kind = 3 then ⟨0, ((naiveM (textsOf l) text l.length).length : Int), ⟨#[]⟩, [], [], [], zeroC⟩
 else if kind = 4 then ⟨0, ((naiveM (textsOf l) text l.length).length : Int), ⟨#[]⟩, (naiveM (textsOf l) text l.length).map (spotOf l), [], [], zeroC⟩
 else if kind = 5 then ⟨(partOf l id fr tt).2, 0, (partOf l id fr tt).1, [], [], [], zeroC⟩
 else if kind = 6 then ⟨0, (l.length : Int), ⟨#[]⟩, [], l.map bareDoc, l.map lenOf, zeroC⟩
 else ⟨(partOf l id 0 tt).2, 0, ⟨#[]⟩, [], [], [], if (partOf l id 0 tt).2 = 0 then endOf (partOf l id 0 tt).1 else zeroC⟩
theorem may_docs {l : List S27} {kind id fr tt snap : Int} {text : ByteArray} (h : ¬ noneB l kind id fr tt snap text) : mayB l kind id fr tt snap text = true ∧ Docs0 l ∧ 3 ≤ kind ∧ kind ≤ 7 := by
 have hm : mayB l kind id fr tt snap text = true := by
  cases h' : mayB l kind id fr tt snap text with
  | true => rfl
  | false => exact absurd (Or.inl h') h
 refine ⟨hm, (modelB_iff l).1 (by unfold mayB at hm; rw [Bool.and_eq_true] at hm; exact hm.1), ?_, ?_⟩
 ·have : ¬ kind < 3 := fun e => h (Or.inr (Or.inl e))
  omega
 ·have : ¬ 7 < kind := fun e => h (Or.inr (Or.inr e))
  omega
/-- A reply as it is handed back. -/
def Rep.val (r : Rep) (A1 : Option Addr) (c1 : Nat) (A2 : Option Addr) (c2 : Nat) (A3 : Option Addr) (c3 : Nat) : Value :=
 .agg (repCells r.er r.n r.tx (.slice A1 r.spots.length c1) (.slice A2 r.docs.length c2) (.slice A3 r.lens.length c3) r.at_).toArray
/-- What a call that answers so leaves. -/
structure Told (r : Rep) (w : World) (e : Ending) (w' : World) : Prop where
 mk :: (val : ∃ A1 c1 A2 c2 A3 c3, e = .returned (r.val A1 c1 A2 c2 A3 c3) ∧ Kd.R k61 61 w' w.heap.size (fun _ => True) (.slice A1 r.spots.length c1) r.spots ∧ Kd.R k27 27 w' w.heap.size (fun _ => True) (.slice A2 r.docs.length c2) r.docs ∧
  Kd.R (Kd.int .i64) 3 w' w.heap.size (fun _ => True) (.slice A3 r.lens.length c3) r.lens) (below : Below w.heap.size w w')
theorem answer_owns (A0 : Option Addr) (c0 : Nat) (l0 : List S27) (kind id fr tt snap : Int) (text : ByteArray) (w : World) (hr0 : Kd.C k27 w A0 l0.length l0) (hc0 : l0.length ≤ c0) (hl : l0.length ≤ 1000000) :
  Calls Tryz.prog 6 #[.slice A0 l0.length c0, .agg #[.int .i64 kind, .int .i64 id, .int .i64 fr, .int .i64 tt, .int .i64 snap, .string text]] w (Told (replyOf l0 kind id fr tt snap text) w) := by
 have N1 : ∀ w' b, Kd.R k61 61 w' b (fun _ => True) (.slice none ([] : List S61).length 0) [] := fun w' b => Kd.R_nil _ _ _ _ _
 have N2 : ∀ w' b, Kd.R k27 27 w' b (fun _ => True) (.slice none ([] : List S27).length 0) [] := fun w' b => Kd.R_nil _ _ _ _ _
 have N3 : ∀ w' b, Kd.R (Kd.int .i64) 3 w' b (fun _ => True) (.slice none ([] : List Int).length 0) [] := fun w' b => Kd.R_nil _ _ _ _ _
 unfold replyOf
 by_cases hb : noneB l0 kind id fr tt snap text
 ·rw [if_pos hb]
  refine (answer_bad A0 c0 l0 kind id fr tt snap text w hr0 hc0 hl hb).mono ?_
  rintro e w' ⟨rfl, hw⟩
  exact ⟨⟨none, 0, none, 0, none, 0, rfl, N1 _ _, N2 _ _, N3 _ _⟩, hw⟩
 ·rw [if_neg hb]
  obtain ⟨hm, D0, h3, h7⟩ := may_docs hb
  rcases (show kind = 3 ∨ kind = 4 ∨ kind = 5 ∨ kind = 6 ∨ kind = 7 by omega) with hk | hk | hk | hk | hk
  ·rw [if_pos hk]
   obtain ⟨kn, hkn⟩ := naive_docs D0 text
   refine (answer_count A0 c0 l0 kind id fr tt snap text w hr0 hc0 hl hm hk _ kn hkn).mono ?_
   rintro e w' ⟨rfl, hw⟩
   exact ⟨⟨none, 0, none, 0, none, 0, rfl, N1 _ _, N2 _ _, N3 _ _⟩, hw⟩
  ·rw [if_neg (by omega), if_pos hk]
   obtain ⟨kn, hkn⟩ := naive_docs D0 text
   refine (answer_locate A0 c0 l0 kind id fr tt snap text w hr0 hc0 hl hm hk _ kn hkn (naive_in l0 text) (by have := naive_small D0 text; omega)).mono ?_
   rintro e w' ⟨Av, cv, rfl, hR, hw⟩
   refine ⟨⟨Av, cv, none, 0, none, 0, ?_, ?_, N2 _ _, N3 _ _⟩, hw⟩
   ·unfold Rep.val
    dsimp only
    rw [List.length_map]
    rfl
   ·dsimp only
    rw [List.length_map]
    exact hR
  ·rw [if_neg (by omega), if_neg (by omega), if_pos hk]
   refine (answer_extract A0 c0 l0 kind id fr tt snap text w hr0 hc0 hl hm hk).mono ?_
   rintro e w' ⟨rfl, hw⟩
   exact ⟨⟨none, 0, none, 0, none, 0, rfl, N1 _ _, N2 _ _, N3 _ _⟩, hw⟩
  ·rw [if_neg (by omega), if_neg (by omega), if_neg (by omega), if_pos hk]
   refine (answer_list A0 c0 l0 kind id fr tt snap text w hr0 hc0 hl hm hk).mono ?_
   rintro e w' ⟨A1, c1, A2, c2, rfl, hD, hI, hw⟩
   refine ⟨⟨none, 0, A1, c1, A2, c2, ?_, N1 _ _, ?_, ?_⟩, hw⟩
   ·unfold Rep.val
    dsimp only
    rw [List.length_map, List.length_map]
    rfl
   ·dsimp only
    rw [List.length_map]
    exact hD
   ·dsimp only
    rw [List.length_map]
    exact hI
  ·rw [if_neg (by omega), if_neg (by omega), if_neg (by omega), if_neg (by omega)]
   refine (answer_plot A0 c0 l0 kind id fr tt snap text w hr0 hc0 hl hm hk).mono ?_
   rintro e w' ⟨rfl, hw⟩
   exact ⟨⟨none, 0, none, 0, none, 0, rfl, N1 _ _, N2 _ _, N3 _ _⟩, hw⟩
end Go.Proofs.YtibhenengpdahaaGreat.P

end
