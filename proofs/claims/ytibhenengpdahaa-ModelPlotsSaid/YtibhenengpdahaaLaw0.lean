/- The first call of the model's laws. Conditions: none. -/
import Derived.Test.YtibhenengpdahaaAnsA
section
set_option linter.unusedVariables false
set_option linter.unusedSimpArgs false
namespace Go.Proofs.Ytibhenengpdahaa.P
open Go.RowKit Go.Proofs.YtibhenengpdahaaW.PrintWords Go.Proofs.YtibhenengpdahaaW.PrintLast Go.Proofs.YtibhenengpdahaaW.PrintMore

def abaT : ByteArray := ⟨#[97, 98, 97]⟩
def aT : ByteArray := ⟨#[97]⟩
theorem alive_change : changeOf [] 1 0 0 0 0 abaT 7 = ([⟨7, abaT⟩], 0) := by
  have h : mayB [] 1 0 0 0 0 abaT = true := by decide +kernel
  unfold changeOf
  rw [if_pos ⟨h, by decide, by decide⟩, if_neg (by decide), if_neg (by decide), if_neg (by decide)]
  rfl
theorem alive_may : mayB [⟨7, abaT⟩] 4 0 0 0 0 aT = true := by decide +kernel
theorem alive_naive : back_Naive.f 20 aT (textsOf [⟨7, abaT⟩]) = some [⟨0, 0⟩, ⟨0, 2⟩] := by kernel_rfl
theorem alive_right : modelB [⟨7, abaT⟩] = true := by decide +kernel
theorem eqA39 (d : Nat) (w : World) (x0 y0 x1 y1 : Int) :
    (Op.equalIn (d + 2) 39 (.agg #[.int .i64 x0, .int .i64 x1]) (.agg #[.int .i64 y0, .int .i64 y1])).run Try.prog w = .ok (x0 == y0 && x1 == y1) w := by
  refine eqA_of Try.underlying39 (by kernel_rfl) ?_
  refine eqf_cons (by rfl) (by go_simp; rfl) (by go_simp; rfl) (by go_simp) ?_
  exact eqf_last (by rfl) (by go_simp; rfl) (by go_simp; rfl) (by go_simp)
theorem run_store_cx {P : Program} {a : Addr} {m} {w : World} (k : FloatKind) (x y : Nat) : (store a (.complex k x y) m).run P w = stored P w a (.complex k x y) m := run_store P w a _ m rfl
theorem alive_at0 {w : World} {A : Option Addr} (h : Kd.C k42 w A 1 [⟨7, abaT⟩]) : ∃ ad, A = some ad ∧ w.cell? ad = some (.int .i64 7) ∧ w.cell? ⟨ad.block, ad.off + 1, none⟩ = some (.string ⟨#[97, 98, 97]⟩) := at_T42 h 0 (by decide) (by decide)
theorem alive_at1 {w : World} {A : Option Addr} (h : Kd.C k57 w A 2 [⟨7, 0⟩, ⟨7, 2⟩]) : ∃ ad, A = some ad ∧ w.cell? ⟨ad.block, ad.off + 2, none⟩ = some (.int .i64 7) ∧ w.cell? ⟨ad.block, ad.off + 2 + 1, none⟩ = some (.int .i64 2) := at_T57 h 1 (by decide) (by decide)
attribute [local go_sem high] eqA42 eqA39
attribute [local go_sem] run_store_cx
set_option maxRecDepth 100000 in
set_option maxHeartbeats 4000000 in
theorem aliveM_calls (w : World) : Calls Try.prog 10 #[] w fun e w' => e = .returned (.bool true) ∧ Below w.heap.size w w' := by
  have CH := Aside0.mk (change_calls none 0 [] 1 0 0 0 0 abaT 7 w (Kd.C_nil _ _) (Nat.le_refl _) (by decide))
  rw [alive_change] at CH
  have LO := Aside0.mk (fun A c w' hr hc => answer_locate A c [⟨7, abaT⟩] 4 0 0 0 0 aT w' hr hc (by decide) alive_may rfl _ 20 alive_naive (by intro x hx; simp at hx; rcases hx with rfl | rfl <;> decide) (by decide))
  unfold repCells nilS zeroC at LO
  have MR := Aside0.mk (fun A c w' hr hc => model_Right.calls 4 A c [⟨7, abaT⟩] true w' hr hc ((modelRight_ok _ (by decide) 4 (by decide)).trans (by rw [alive_right])))
  go_enter Try.func10, Try.ntmps10
  go_wp2_with fail
  refine CH.out.mono ?_
  rintro en w1 ⟨A1, c1, rfl, hc1, hC1, hb⟩
  have HB1 := Aside0.mk hb
  go_wp2_with fail
  refine (LO.out A1 c1 w1 hC1 hc1).mono ?_
  rintro en w2 ⟨A2, c2, rfl, hC2, hb2⟩
  have HB2 := Aside0.mk (below_step HB1.out hb2)
  have hb23 : Below w2.heap.size w2 (w2.alloc (.cells #[.int .i64 0, .int .i64 0, .int .i64 2, .string ⟨#[]⟩, .slice A2 2 c2, .slice none 0 0, .slice none 0 0, .complex .f64 0 0] 34)) := below_alloc (Below.refl _ _) _
  have HB3 := Aside0.mk (below_step HB2.out hb23)
  have HC1c := Aside0.mk hc1
  have HC3 := Aside0.mk (Kd.C_below (Kd.C_below hC1 hb2) hb23)
  obtain ⟨ad, hA, x0, x1⟩ := alive_at0 HC3.out
  obtain ⟨asp, hS, y0, y1⟩ := alive_at1 (Kd.C_below hC2 hb23)
  subst hA hS
  clear hb hb2 hb23 hC2 hC1 hc1
  go_wp2_with fail
  refine (MR.out _ _ _ HC3.out HC1c.out).mono ?_
  rintro en w4 ⟨rfl, hb4⟩
  have HB4 := Aside0.mk (below_step HB3.out hb4)
  go_wp2_with fail
  all_goals go_ret
  exact ⟨rfl, HB4.out⟩
end Go.Proofs.Ytibhenengpdahaa.P

end
section
set_option linter.unusedVariables false
set_option linter.unusedSimpArgs false
namespace Go.Proofs.Ytibhenengpdahaa.P
open Go.RowKit Go.Proofs.YtibhenengpdahaaW.PrintWords Go.Proofs.YtibhenengpdahaaW.PrintLast Go.Proofs.YtibhenengpdahaaW.PrintMore

theorem find_cases (l : List S42) (id : Int) : (findOf l id = -1 ∧ ∀ j, (h : j < l.length) → l[j].f0 ≠ id) ∨ ∃ k, ∃ (hk : k < l.length), findOf l id = (k : Int) ∧ l[k].f0 = id ∧ ∀ j, (h : j < k) → l[j].f0 ≠ id := by
  unfold findOf
  cases h : l.findIdx? (fun d => d.f0 == id) with
  | none =>
    left
    refine ⟨rfl, fun j hj => ?_⟩
    rw [List.findIdx?_eq_none_iff] at h
    have := h l[j] (List.getElem_mem hj)
    simpa using this
  | some i =>
    right
    rw [List.findIdx?_eq_some_iff_getElem] at h
    obtain ⟨hi, h1, h2⟩ := h
    exact ⟨i, hi, rfl, by simpa using h1, fun j hj => by simpa using h2 j hj⟩
/-- What documents may be. -/
structure Docs0 (l : List S42) : Prop where
  mk :: (len : l.length ≤ 10) (pos : ∀ d ∈ l, 1 ≤ d.f0) (own : l.Pairwise (fun a b => a.f0 ≠ b.f0)) (short : ∀ d ∈ l, d.f1.size ≤ 40)
theorem idsOk_iff (l : List S42) : idsOk l l.length = true ↔ (∀ d ∈ l, 1 ≤ d.f0) ∧ l.Pairwise (fun a b => a.f0 ≠ b.f0) := by
  have hg : ∀ i, (hi : i < l.length) → l.getD i z42 = l[i] := fun i hi => by rw [List.getD_eq_getElem?_getD, List.getElem?_eq_getElem hi]; rfl
  unfold idsOk
  rw [List.all_eq_true]
  constructor
  · intro h
    have h' : ∀ i, (hi : i < l.length) → 1 ≤ l[i].f0 ∧ (i : Int) ≤ findOf l l[i].f0 := by
      intro i hi
      have := h i (List.mem_range.2 hi)
      rw [hg i hi, Bool.and_eq_true, decide_eq_true_eq, decide_eq_true_eq] at this
      exact this
    refine ⟨fun d hd => ?_, ?_⟩
    · obtain ⟨i, hi, rfl⟩ := List.getElem_of_mem hd
      exact (h' i hi).1
    · rw [List.pairwise_iff_getElem]
      intro i j hi hj hij e
      have h2 := (h' j hj).2
      rcases find_cases l l[j].f0 with ⟨e1, h3⟩ | ⟨k, hk, e1, _, h3⟩
      · exact h3 i hi e
      · rw [e1] at h2
        exact h3 i (by omega) e
  · rintro ⟨h1, h2⟩ i hi
    rw [List.mem_range] at hi
    rw [hg i hi, Bool.and_eq_true, decide_eq_true_eq, decide_eq_true_eq]
    refine ⟨h1 _ (List.getElem_mem hi), ?_⟩
    rw [List.pairwise_iff_getElem] at h2
    rw [find_at l l[i].f0 i hi (fun j hj => h2 j i (by omega) hi hj) rfl]
    exact Int.le_refl _
theorem modelB_iff (l : List S42) : modelB l = true ↔ Docs0 l := by
  unfold modelB rightB textsOf
  rw [Bool.and_eq_true, Bool.and_eq_true, idsOk_iff, decide_eq_true_eq, List.length_map, Bool.not_eq_true', List.any_eq_false]
  constructor
  · rintro ⟨⟨h1, h2⟩, h3, h4⟩
    refine ⟨h3, h1, h2, fun d hd => ?_⟩
    have := h4 d.f1 (List.mem_map_of_mem hd)
    unfold longB at this
    rw [decide_eq_true_eq] at this
    omega
  · rintro ⟨h3, h1, h2, h4⟩
    refine ⟨⟨h1, h2⟩, h3, fun s hs => ?_⟩
    obtain ⟨d, hd, rfl⟩ := List.mem_map.1 hs
    unfold longB
    rw [decide_eq_true_eq]
    have := h4 d hd
    omega
theorem find_self {l : List S42} (h : Docs0 l) (k : Nat) (hk : k < l.length) : findOf l l[k].f0 = (k : Int) := by
  have h2 := h.own
  rw [List.pairwise_iff_getElem] at h2
  exact find_at l l[k].f0 k hk (fun j hj => h2 j k (by omega) hk hj) rfl
theorem find_neg {l : List S42} {id : Int} (h : findOf l id < 0) : ∀ d ∈ l, d.f0 ≠ id := by
  rcases find_cases l id with ⟨_, h3⟩ | ⟨k, hk, e1, _, h3⟩
  · intro d hd
    obtain ⟨i, hi, rfl⟩ := List.getElem_of_mem hd
    exact h3 i hi
  · omega
theorem find_neg_of {l : List S42} {id : Int} (h : ∀ d ∈ l, d.f0 ≠ id) : findOf l id = -1 := find_none l id fun j hj => h _ (List.getElem_mem hj)
theorem docs_erase {l : List S42} (h : Docs0 l) (k : Nat) : Docs0 (l.eraseIdx k) := by
  have hs : (l.eraseIdx k).Sublist l := List.eraseIdx_sublist l k
  exact ⟨Nat.le_trans hs.length_le h.len, fun d hd => h.pos d (hs.subset hd), h.own.sublist hs, fun d hd => h.short d (hs.subset hd)⟩
theorem docs_push {l : List S42} (h : Docs0 l) (id : Int) (text : ByteArray) (hl : l.length < 10) (h1 : 1 ≤ id) (h2 : ∀ d ∈ l, d.f0 ≠ id) (h3 : text.size ≤ 40) : Docs0 (l ++ [⟨id, text⟩]) := by
  refine ⟨by rw [List.length_append]; simp; omega, fun d hd => ?_, ?_, fun d hd => ?_⟩
  · rcases List.mem_append.1 hd with hd | hd
    · exact h.pos d hd
    · obtain rfl : d = ⟨id, text⟩ := by simpa using hd
      exact h1
  · rw [List.pairwise_append]
    refine ⟨h.own, List.pairwise_singleton _ _, fun a ha b hb => ?_⟩
    obtain rfl : b = ⟨id, text⟩ := by simpa using hb
    exact h2 a ha
  · rcases List.mem_append.1 hd with hd | hd
    · exact h.short d hd
    · obtain rfl : d = ⟨id, text⟩ := by simpa using hd
      exact h3
theorem find_erased {l : List S42} (h : Docs0 l) (k : Nat) (hk : k < l.length) : ∀ d ∈ l.eraseIdx k, d.f0 ≠ l[k].f0 := by
  intro d hd e
  obtain ⟨j, hj, rfl⟩ := List.getElem_of_mem hd
  rw [List.getElem_eraseIdx] at e
  have h2 := h.own
  rw [List.pairwise_iff_getElem] at h2
  rw [List.length_eraseIdx, if_pos hk] at hj
  split at e
  · exact h2 j k (by omega) hk (by omega) e
  · exact h2 k (j + 1) hk (by omega) (by omega) e.symm
theorem erase_get (l : List S42) (k j : Nat) (hk : k < l.length) (hj : j < l.length - 1) : (l.eraseIdx k)[j]? = l[if j < k then j else j + 1]? := by
  rw [List.getElem?_eraseIdx]
  split <;> rfl
/-! Which requests may be. -/
theorem letOk0 (has : ByteArray) (c : UInt8) : letOk has c 0 = true := by
  unfold letOk
  simp
theorem letOk_has (has : ByteArray) (c : UInt8) (n : Int) (h : hasC has c = true) : letOk has c n = (decide (0 ≤ n) && decide (n ≤ 65535)) := by
  unfold letOk
  rw [h]
  simp
theorem ask_insert (text : ByteArray) : askB 1 0 0 0 0 text = decide ((text.size : Int) ≤ 40) := by
  unfold askB
  simp only [letOk0, show hasC (hasOf 1) 116 = true by decide +kernel, show (nameOf 1).toList.isEmpty = false by decide +kernel, Bool.or_true, Bool.and_true, Bool.not_false, Bool.true_and]
theorem ask_delete (id : Int) : askB 2 id 0 0 0 ⟨#[]⟩ = (decide (0 ≤ id) && decide (id ≤ 65535)) := by
  unfold askB
  rw [letOk_has _ _ _ (show hasC (hasOf 2) 105 = true by decide +kernel)]
  simp only [letOk0, show (nameOf 2).toList.isEmpty = false by decide +kernel, Bool.and_true, Bool.not_false, Bool.true_and]
  rw [show (decide (((⟨#[]⟩ : ByteArray).size : Int) ≤ 40)) = true by decide, show (⟨#[]⟩ : ByteArray).toList.isEmpty = true by decide +kernel]
  simp
theorem ask_text (k : Int) (text : ByteArray) (h : k = 3 ∨ k = 4) : askB k 0 0 0 0 text = decide ((text.size : Int) ≤ 40) := by
  unfold askB
  rcases h with rfl | rfl
  · simp only [letOk0, show hasC (hasOf 3) 116 = true by decide +kernel, show (nameOf 3).toList.isEmpty = false by decide +kernel, Bool.or_true, Bool.and_true, Bool.not_false, Bool.true_and]
  · simp only [letOk0, show hasC (hasOf 4) 116 = true by decide +kernel, show (nameOf 4).toList.isEmpty = false by decide +kernel, Bool.or_true, Bool.and_true, Bool.not_false, Bool.true_and]
theorem ask_extract (id fr tt : Int) : askB 5 id fr tt 0 ⟨#[]⟩ = ((decide (0 ≤ id) && decide (id ≤ 65535)) && ((decide (0 ≤ fr) && decide (fr ≤ 65535)) && (decide (0 ≤ tt) && decide (tt ≤ 65535)))) := by
  unfold askB
  rw [letOk_has _ _ _ (show hasC (hasOf 5) 105 = true by decide +kernel), letOk_has _ _ _ (show hasC (hasOf 5) 102 = true by decide +kernel), letOk_has _ _ _ (show hasC (hasOf 5) 111 = true by decide +kernel)]
  simp only [letOk0, show (nameOf 5).toList.isEmpty = false by decide +kernel, Bool.and_true, Bool.not_false, Bool.true_and]
  rw [show (decide (((⟨#[]⟩ : ByteArray).size : Int) ≤ 40)) = true by decide, show (⟨#[]⟩ : ByteArray).toList.isEmpty = true by decide +kernel]
  simp
theorem ask_list : askB 6 0 0 0 0 ⟨#[]⟩ = true := by decide +kernel
theorem ask_plot (id tt : Int) : askB 7 id 0 tt 0 ⟨#[]⟩ = ((decide (0 ≤ id) && decide (id ≤ 65535)) && (decide (0 ≤ tt) && decide (tt ≤ 65535))) := by
  unfold askB
  rw [letOk_has _ _ _ (show hasC (hasOf 7) 105 = true by decide +kernel), letOk_has _ _ _ (show hasC (hasOf 7) 111 = true by decide +kernel)]
  simp only [letOk0, show (nameOf 7).toList.isEmpty = false by decide +kernel, Bool.and_true, Bool.not_false, Bool.true_and]
  rw [show (decide (((⟨#[]⟩ : ByteArray).size : Int) ≤ 40)) = true by decide, show (⟨#[]⟩ : ByteArray).toList.isEmpty = true by decide +kernel]
  simp
/-! What becomes of documents. -/
theorem change_delete {l : List S42} (h : Docs0 l) (k : Nat) (hk : k < l.length) (hi : l[k].f0 ≤ 65535) : changeOf l 2 l[k].f0 0 0 0 ⟨#[]⟩ 0 = (l.eraseIdx k, 0) := by
  have h1 := h.pos _ (List.getElem_mem hk)
  have hm : mayB l 2 l[k].f0 0 0 0 ⟨#[]⟩ = true := by
    unfold mayB
    rw [(modelB_iff l).2 h, ask_delete, decide_eq_true (by omega), decide_eq_true hi]
    rfl
  unfold changeOf
  rw [if_pos ⟨hm, by decide, by decide⟩, if_pos rfl, find_self h k hk, if_neg (by omega), Int.toNat_natCast]
theorem change_insert {l : List S42} (h : Docs0 l) (id : Int) (text : ByteArray) (hl : l.length < 10) (h1 : 1 ≤ id) (h2 : ∀ d ∈ l, d.f0 ≠ id) (h3 : text.size ≤ 40) : changeOf l 1 0 0 0 0 text id = (l ++ [⟨id, text⟩], 0) := by
  have hm : mayB l 1 0 0 0 0 text = true := by
    unfold mayB
    rw [(modelB_iff l).2 h, ask_insert, decide_eq_true (by omega)]
    rfl
  unfold changeOf
  rw [if_pos ⟨hm, by decide, by decide⟩, if_neg (by decide), find_neg_of h2, if_neg (by omega), if_neg (by omega)]
end Go.Proofs.Ytibhenengpdahaa.P

end
section
set_option linter.unusedVariables false
set_option linter.unusedSimpArgs false
namespace Go.Proofs.Ytibhenengpdahaa.P
open Go.RowKit Go.Proofs.YtibhenengpdahaaW.PrintWords Go.Proofs.YtibhenengpdahaaW.PrintLast Go.Proofs.YtibhenengpdahaaW.PrintMore

/-- Does p stand at i in s? -/
def hasAt (s p : ByteArray) (i : Nat) : Bool := decide (i + p.size ≤ s.size) && ((s.extract i (i + p.size)).toList == p.toList)
theorem prefix_at (s p : ByteArray) (i : Nat) (hi : i ≤ s.size) : strings_HasPrefix.f (s.extract i s.size) p = some (hasAt s p i) := by
  unfold strings_HasPrefix.f stringslite_HasPrefix.f hasAt
  have hs : (s.extract i s.size).size = s.size - i := by rw [ByteArray.size_extract]; omega
  by_cases h : ((s.extract i s.size).size : Int) ≥ (p.size : Int)
  · rw [if_pos h, if_pos (by omega), if_pos (by omega), Option.bind_some, Int.toNat_natCast, decide_eq_true (show i + p.size ≤ s.size by omega), Bool.true_and, ByteArray.extract_extract]
    rw [Nat.add_zero, Nat.min_eq_left (show i + p.size ≤ s.size by omega)]
  · rw [if_neg h, Option.bind_some, decide_eq_false (show ¬ i + p.size ≤ s.size by omega), Bool.false_and]
def spotsIn (d : Nat) (s p : ByteArray) (n : Nat) : List S57 := ((List.range n).filter (hasAt s p)).map fun i : Nat => (⟨(d : Int), (i : Int)⟩ : S57)
def textAt (l : List ByteArray) (d : Nat) : ByteArray := l.getD d ByteArray.empty
def naiveM (l : List ByteArray) (p : ByteArray) : Nat → List S57
  | 0 => []
  | D + 1 => naiveM l p D ++ spotsIn D (textAt l D) p ((textAt l D).size + 1)
theorem spotsIn_succ (d : Nat) (s p : ByteArray) (n : Nat) : spotsIn d s p (n + 1) = spotsIn d s p n ++ (if hasAt s p n = true then [⟨(d : Int), (n : Int)⟩] else []) := by
  unfold spotsIn
  rw [List.range_succ, List.filter_append, List.map_append]
  cases h : hasAt s p n with
  | true => rw [if_pos rfl, List.filter_cons_of_pos h]; rfl
  | false => rw [if_neg (by decide), List.filter_cons_of_neg (by rw [h]; decide)]; rfl
theorem spotsIn_le (d : Nat) (s p : ByteArray) (n : Nat) : (spotsIn d s p n).length ≤ n := by
  unfold spotsIn
  rw [List.length_map]
  exact Nat.le_trans (List.length_filter_le _ _) (by rw [List.length_range]; exact Nat.le_refl _)
theorem naiveM_le (l : List ByteArray) (p : ByteArray) (M : Nat) (hM : ∀ d, (textAt l d).size ≤ M) : ∀ D, (naiveM l p D).length ≤ D * (M + 1)
  | 0 => Nat.zero_le _
  | D + 1 => by
    rw [naiveM, List.length_append, Nat.add_mul, Nat.one_mul]
    have := naiveM_le l p M hM D
    have := spotsIn_le D (textAt l D) p ((textAt l D).size + 1)
    have := hM D
    omega
theorem w64n (n : Nat) (h : n ≤ 1000000000) : wrap64 (n : Int) = (n : Int) := by
  unfold wrap64
  omega
theorem naiveM_l1 (l : List ByteArray) (p : ByteArray) (r : List S57) (D : Nat) (hD : D < l.length) (hl : l.length ≤ 1000) (hM : ∀ d, (textAt l d).size ≤ 1000)
    (hnext : Ev (fun k => back_Naive.l0 k p (naiveM l p (D + 1)) l (l.length : Int) ((D + 1 : Nat) : Int)) r) : ∀ (m i : Nat), m = (textAt l D).size + 1 - i → i ≤ (textAt l D).size + 1 →
    Ev (fun k => back_Naive.l1 k p (naiveM l p D ++ spotsIn D (textAt l D) p i) (D : Int) (textAt l D) l (l.length : Int) (D : Int) (((textAt l D).size + 1 : Nat) : Int) (i : Int)) r := by
  intro m
  induction m with
  | zero =>
    intro i hm hi
    obtain rfl : i = (textAt l D).size + 1 := by omega
    refine Ev.step (fun k => ?_) hnext
    rw [back_Naive.l1, if_neg (by omega), show wrap64 ((D : Int) + 1) = ((D + 1 : Nat) : Int) from w64n (D + 1) (by omega)]
    rfl
  | succ m ih =>
    intro i hm hi
    have hrec := ih (i + 1) (by omega) (by omega)
    rw [spotsIn_succ, ← List.append_assoc] at hrec
    have h1 := naiveM_le l p 1000 hM D
    have h2 : D * (1000 + 1) ≤ 1000 * 1001 := Nat.mul_le_mul (by omega) (Nat.le_refl _)
    have h3 := spotsIn_le D (textAt l D) p i
    have h4 := hM D
    have hlen : (naiveM l p D ++ spotsIn D (textAt l D) p i).length < 8796093022208 := by rw [List.length_append]; omega
    have hw : wrap64 ((i : Int) + 1) = ((i + 1 : Nat) : Int) := w64n (i + 1) (by omega)
    refine Ev.step (fun k => ?_) hrec
    rw [back_Naive.l1, if_pos (by omega), if_pos (by omega), if_pos (by omega), Int.toNat_natCast, prefix_at _ _ _ (by omega), Option.bind_some, hw]
    cases h : hasAt (textAt l D) p i with
    | true => rw [if_pos rfl, if_pos rfl, if_pos hlen]
    | false => rw [if_neg (by decide), if_neg (by decide), List.append_nil]
theorem naiveM_l0 (l : List ByteArray) (p : ByteArray) (hl : l.length ≤ 1000) (hM : ∀ d, (textAt l d).size ≤ 1000) : ∀ (m D : Nat), m = l.length - D → D ≤ l.length →
    Ev (fun k => back_Naive.l0 k p (naiveM l p D) l (l.length : Int) (D : Int)) (naiveM l p l.length) := by
  intro m
  induction m with
  | zero =>
    intro D hm hD
    obtain rfl : D = l.length := by omega
    refine Ev.step (f := fun _ => some (naiveM l p l.length)) (fun k => ?_) (Ev.now _)
    rw [back_Naive.l0, if_neg (by omega)]
  | succ m ih =>
    intro D hm hD
    have hrec := ih (D + 1) (by omega) (by omega)
    have h3 := naiveM_l1 l p _ D (by omega) hl hM hrec _ 0 rfl (Nat.zero_le _)
    have h4 := hM D
    have hw : wrap64 (((textAt l D).size : Int) + 1) = (((textAt l D).size + 1 : Nat) : Int) := w64n (_ + 1) (by omega)
    rw [show spotsIn D (textAt l D) p 0 = [] from rfl, List.append_nil] at h3
    refine Ev.step (fun k => ?_) h3
    have hdoc : rdOf ByteArray.empty l (D : Int) = textAt l D := rfl
    rw [back_Naive.l0, if_pos (by omega), if_pos (by omega), if_pos (by omega), hdoc, hw]
    rfl
theorem naiveM_ok (l : List ByteArray) (p : ByteArray) (hl : l.length ≤ 1000) (hM : ∀ d, (textAt l d).size ≤ 1000) : ∃ k, back_Naive.f k p l = some (naiveM l p l.length) := Ev.rounds (naiveM_l0 l p hl hM _ 0 rfl (Nat.zero_le _))
theorem mem_spotsIn (d : Nat) (s p : ByteArray) (n : Nat) (x : S57) (h : x ∈ spotsIn d s p n) : ∃ i : Nat, i < n ∧ hasAt s p i = true ∧ x = ⟨(d : Int), (i : Int)⟩ := by
  unfold spotsIn at h
  obtain ⟨i, hi, rfl⟩ := List.mem_map.1 h
  obtain ⟨h1, h2⟩ := List.mem_filter.1 hi
  exact ⟨i, List.mem_range.1 h1, h2, rfl⟩
theorem mem_naiveM (l : List ByteArray) (p : ByteArray) : ∀ (D : Nat) (x : S57), x ∈ naiveM l p D → ∃ d i : Nat, d < D ∧ hasAt (textAt l d) p i = true ∧ x = ⟨(d : Int), (i : Int)⟩
  | 0, x, h => by cases h
  | D + 1, x, h => by
    rw [naiveM] at h
    rcases List.mem_append.1 h with h | h
    · obtain ⟨d, i, h1, h2, h3⟩ := mem_naiveM l p D x h
      exact ⟨d, i, by omega, h2, h3⟩
    · obtain ⟨i, _, h2, h3⟩ := mem_spotsIn _ _ _ _ _ h
      exact ⟨D, i, by omega, h2, h3⟩
def riseR (a b : S57) : Prop := a.f0 < b.f0 ∨ a.f0 = b.f0 ∧ a.f1 < b.f1
theorem spotsIn_rise (d : Nat) (s p : ByteArray) (n : Nat) : (spotsIn d s p n).Pairwise riseR := by
  unfold spotsIn
  rw [List.pairwise_map]
  refine List.Pairwise.imp ?_ (List.pairwise_lt_range.sublist List.filter_sublist)
  intro a b h
  exact Or.inr ⟨rfl, by show (a : Int) < (b : Int); omega⟩
theorem naiveM_rise (l : List ByteArray) (p : ByteArray) : ∀ D : Nat, (naiveM l p D).Pairwise riseR
  | 0 => List.Pairwise.nil
  | D + 1 => by
    rw [naiveM, List.pairwise_append]
    refine ⟨naiveM_rise l p D, spotsIn_rise _ _ _ _, ?_⟩
    intro a ha b hb
    obtain ⟨d, i, hd, _, rfl⟩ := mem_naiveM l p D a ha
    obtain ⟨j, _, _, rfl⟩ := mem_spotsIn _ _ _ _ _ hb
    exact Or.inl (by show (d : Int) < (D : Int); omega)
theorem naiveM_push (l : List ByteArray) (s p : ByteArray) : ∀ D, D ≤ l.length → naiveM (l ++ [s]) p D = naiveM l p D
  | 0, _ => rfl
  | D + 1, h => by
    have e : textAt (l ++ [s]) D = textAt l D := by
      unfold textAt
      rw [List.getD_eq_getElem?_getD, List.getD_eq_getElem?_getD, List.getElem?_append_left (by omega)]
    rw [naiveM, naiveM, naiveM_push l s p D (by omega), e]
theorem naiveM_more (l : List ByteArray) (s : ByteArray) : (naiveM l s l.length).length < (naiveM (l ++ [s]) s (l ++ [s]).length).length := by
  have e : textAt (l ++ [s]) l.length = s := by
    unfold textAt
    rw [List.getD_eq_getElem?_getD, List.getElem?_append_right (Nat.le_refl _), Nat.sub_self]
    rfl
  rw [List.length_append, List.length_singleton, naiveM, naiveM_push l s s _ (Nat.le_refl _), List.length_append, e]
  have h0 : hasAt s s 0 = true := by
    unfold hasAt
    rw [Nat.zero_add, decide_eq_true (Nat.le_refl _), Bool.true_and, beq_iff_eq]
    congr 1
    exact ByteArray.extract_zero_size
  have h1 : (⟨(l.length : Int), (0 : Int)⟩ : S57) ∈ spotsIn l.length s s (s.size + 1) := by
    unfold spotsIn
    exact List.mem_map.2 ⟨0, List.mem_filter.2 ⟨List.mem_range.2 (by omega), h0⟩, rfl⟩
  have h2 : 0 < (spotsIn l.length s s (s.size + 1)).length := List.length_pos_of_mem h1
  omega
end Go.Proofs.Ytibhenengpdahaa.P

end
