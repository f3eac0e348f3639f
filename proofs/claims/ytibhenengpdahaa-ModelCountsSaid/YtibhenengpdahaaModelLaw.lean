/- The plain laws of documents: what may be, and stays so; what of requests may be. Conditions: none. -/
import Derived.Test.YtibhenengpdahaaAliveM
set_option linter.unusedVariables false
set_option linter.unusedSimpArgs false
namespace Go.Proofs.Ytibhenengpdahaa.P
open Go.RowKit Go.Proofs.YtibhenengpdahaaW.PrintWords Go.Proofs.YtibhenengpdahaaW.PrintLast Go.Proofs.YtibhenengpdahaaW.PrintMore

theorem find_cases (l : List S42) (id : Int) : (findOf l id = -1 ∧ ∀ j, (h : j < l.length) → l[j].f0 ≠ id) ∨ ∃ k, ∃ (hk : k < l.length), findOf l id = (k : Int) ∧ l[k].f0 = id ∧ ∀ j, (h : j < k) → l[j].f0 ≠ id := by
  unfold findOf
  cases h : l.findIdx? (fun d => d.f0 == id) with
  | none =>
    left
    refine ⟨rfl, fun j hj => ?_⟩
    rw [List.findIdx?_eq_none_iff] at h
    have := h l[j] (List.getElem_mem hj)
    simpa using this
  | some i =>
    right
    rw [List.findIdx?_eq_some_iff_getElem] at h
    obtain ⟨hi, h1, h2⟩ := h
    exact ⟨i, hi, rfl, by simpa using h1, fun j hj => by simpa using h2 j hj⟩
/-- What documents may be. -/
structure Docs0 (l : List S42) : Prop where
  mk :: (len : l.length ≤ 10) (pos : ∀ d ∈ l, 1 ≤ d.f0) (own : l.Pairwise (fun a b => a.f0 ≠ b.f0)) (short : ∀ d ∈ l, d.f1.size ≤ 40)
theorem idsOk_iff (l : List S42) : idsOk l l.length = true ↔ (∀ d ∈ l, 1 ≤ d.f0) ∧ l.Pairwise (fun a b => a.f0 ≠ b.f0) := by
  have hg : ∀ i, (hi : i < l.length) → l.getD i z42 = l[i] := fun i hi => by rw [List.getD_eq_getElem?_getD, List.getElem?_eq_getElem hi]; rfl
  unfold idsOk
  rw [List.all_eq_true]
  constructor
  · intro h
    have h' : ∀ i, (hi : i < l.length) → 1 ≤ l[i].f0 ∧ (i : Int) ≤ findOf l l[i].f0 := by
      intro i hi
      have := h i (List.mem_range.2 hi)
      rw [hg i hi, Bool.and_eq_true, decide_eq_true_eq, decide_eq_true_eq] at this
      exact this
    refine ⟨fun d hd => ?_, ?_⟩
    · obtain ⟨i, hi, rfl⟩ := List.getElem_of_mem hd
      exact (h' i hi).1
    · rw [List.pairwise_iff_getElem]
      intro i j hi hj hij e
      have h2 := (h' j hj).2
      rcases find_cases l l[j].f0 with ⟨e1, h3⟩ | ⟨k, hk, e1, _, h3⟩
      · exact h3 i hi e
      · rw [e1] at h2
        exact h3 i (by omega) e
  · rintro ⟨h1, h2⟩ i hi
    rw [List.mem_range] at hi
    rw [hg i hi, Bool.and_eq_true, decide_eq_true_eq, decide_eq_true_eq]
    refine ⟨h1 _ (List.getElem_mem hi), ?_⟩
    rw [List.pairwise_iff_getElem] at h2
    rw [find_at l l[i].f0 i hi (fun j hj => h2 j i (by omega) hi hj) rfl]
    exact Int.le_refl _
theorem modelB_iff (l : List S42) : modelB l = true ↔ Docs0 l := by
  unfold modelB rightB textsOf
  rw [Bool.and_eq_true, Bool.and_eq_true, idsOk_iff, decide_eq_true_eq, List.length_map, Bool.not_eq_true', List.any_eq_false]
  constructor
  · rintro ⟨⟨h1, h2⟩, h3, h4⟩
    refine ⟨h3, h1, h2, fun d hd => ?_⟩
    have := h4 d.f1 (List.mem_map_of_mem hd)
    unfold longB at this
    rw [decide_eq_true_eq] at this
    omega
  · rintro ⟨h3, h1, h2, h4⟩
    refine ⟨⟨h1, h2⟩, h3, fun s hs => ?_⟩
    obtain ⟨d, hd, rfl⟩ := List.mem_map.1 hs
    unfold longB
    rw [decide_eq_true_eq]
    have := h4 d hd
    omega
theorem find_self {l : List S42} (h : Docs0 l) (k : Nat) (hk : k < l.length) : findOf l l[k].f0 = (k : Int) := by
  have h2 := h.own
  rw [List.pairwise_iff_getElem] at h2
  exact find_at l l[k].f0 k hk (fun j hj => h2 j k (by omega) hk hj) rfl
theorem find_neg {l : List S42} {id : Int} (h : findOf l id < 0) : ∀ d ∈ l, d.f0 ≠ id := by
  rcases find_cases l id with ⟨_, h3⟩ | ⟨k, hk, e1, _, h3⟩
  · intro d hd
    obtain ⟨i, hi, rfl⟩ := List.getElem_of_mem hd
    exact h3 i hi
  · omega
theorem find_neg_of {l : List S42} {id : Int} (h : ∀ d ∈ l, d.f0 ≠ id) : findOf l id = -1 := find_none l id fun j hj => h _ (List.getElem_mem hj)
theorem docs_erase {l : List S42} (h : Docs0 l) (k : Nat) : Docs0 (l.eraseIdx k) := by
  have hs : (l.eraseIdx k).Sublist l := List.eraseIdx_sublist l k
  exact ⟨Nat.le_trans hs.length_le h.len, fun d hd => h.pos d (hs.subset hd), h.own.sublist hs, fun d hd => h.short d (hs.subset hd)⟩
theorem docs_push {l : List S42} (h : Docs0 l) (id : Int) (text : ByteArray) (hl : l.length < 10) (h1 : 1 ≤ id) (h2 : ∀ d ∈ l, d.f0 ≠ id) (h3 : text.size ≤ 40) : Docs0 (l ++ [⟨id, text⟩]) := by
  refine ⟨by rw [List.length_append]; simp; omega, fun d hd => ?_, ?_, fun d hd => ?_⟩
  · rcases List.mem_append.1 hd with hd | hd
    · exact h.pos d hd
    · obtain rfl : d = ⟨id, text⟩ := by simpa using hd
      exact h1
  · rw [List.pairwise_append]
    refine ⟨h.own, List.pairwise_singleton _ _, fun a ha b hb => ?_⟩
    obtain rfl : b = ⟨id, text⟩ := by simpa using hb
    exact h2 a ha
  · rcases List.mem_append.1 hd with hd | hd
    · exact h.short d hd
    · obtain rfl : d = ⟨id, text⟩ := by simpa using hd
      exact h3
theorem find_erased {l : List S42} (h : Docs0 l) (k : Nat) (hk : k < l.length) : ∀ d ∈ l.eraseIdx k, d.f0 ≠ l[k].f0 := by
  intro d hd e
  obtain ⟨j, hj, rfl⟩ := List.getElem_of_mem hd
  rw [List.getElem_eraseIdx] at e
  have h2 := h.own
  rw [List.pairwise_iff_getElem] at h2
  rw [List.length_eraseIdx, if_pos hk] at hj
  split at e
  · exact h2 j k (by omega) hk (by omega) e
  · exact h2 k (j + 1) hk (by omega) (by omega) e.symm
theorem erase_get (l : List S42) (k j : Nat) (hk : k < l.length) (hj : j < l.length - 1) : (l.eraseIdx k)[j]? = l[if j < k then j else j + 1]? := by
  rw [List.getElem?_eraseIdx]
  split <;> rfl
/-! Which requests may be. -/
theorem letOk0 (has : ByteArray) (c : UInt8) : letOk has c 0 = true := by
  unfold letOk
  simp
theorem letOk_has (has : ByteArray) (c : UInt8) (n : Int) (h : hasC has c = true) : letOk has c n = (decide (0 ≤ n) && decide (n ≤ 65535)) := by
  unfold letOk
  rw [h]
  simp
theorem ask_insert (text : ByteArray) : askB 1 0 0 0 0 text = decide ((text.size : Int) ≤ 40) := by
  unfold askB
  simp only [letOk0, show hasC (hasOf 1) 116 = true by decide +kernel, show (nameOf 1).toList.isEmpty = false by decide +kernel, Bool.or_true, Bool.and_true, Bool.not_false, Bool.true_and]
theorem ask_delete (id : Int) : askB 2 id 0 0 0 ⟨#[]⟩ = (decide (0 ≤ id) && decide (id ≤ 65535)) := by
  unfold askB
  rw [letOk_has _ _ _ (show hasC (hasOf 2) 105 = true by decide +kernel)]
  simp only [letOk0, show (nameOf 2).toList.isEmpty = false by decide +kernel, Bool.and_true, Bool.not_false, Bool.true_and]
  rw [show (decide (((⟨#[]⟩ : ByteArray).size : Int) ≤ 40)) = true by decide, show (⟨#[]⟩ : ByteArray).toList.isEmpty = true by decide +kernel]
  simp
theorem ask_text (k : Int) (text : ByteArray) (h : k = 3 ∨ k = 4) : askB k 0 0 0 0 text = decide ((text.size : Int) ≤ 40) := by
  unfold askB
  rcases h with rfl | rfl
  · simp only [letOk0, show hasC (hasOf 3) 116 = true by decide +kernel, show (nameOf 3).toList.isEmpty = false by decide +kernel, Bool.or_true, Bool.and_true, Bool.not_false, Bool.true_and]
  · simp only [letOk0, show hasC (hasOf 4) 116 = true by decide +kernel, show (nameOf 4).toList.isEmpty = false by decide +kernel, Bool.or_true, Bool.and_true, Bool.not_false, Bool.true_and]
theorem ask_extract (id fr tt : Int) : askB 5 id fr tt 0 ⟨#[]⟩ = ((decide (0 ≤ id) && decide (id ≤ 65535)) && ((decide (0 ≤ fr) && decide (fr ≤ 65535)) && (decide (0 ≤ tt) && decide (tt ≤ 65535)))) := by
  unfold askB
  rw [letOk_has _ _ _ (show hasC (hasOf 5) 105 = true by decide +kernel), letOk_has _ _ _ (show hasC (hasOf 5) 102 = true by decide +kernel), letOk_has _ _ _ (show hasC (hasOf 5) 111 = true by decide +kernel)]
  simp only [letOk0, show (nameOf 5).toList.isEmpty = false by decide +kernel, Bool.and_true, Bool.not_false, Bool.true_and]
  rw [show (decide (((⟨#[]⟩ : ByteArray).size : Int) ≤ 40)) = true by decide, show (⟨#[]⟩ : ByteArray).toList.isEmpty = true by decide +kernel]
  simp
theorem ask_list : askB 6 0 0 0 0 ⟨#[]⟩ = true := by decide +kernel
theorem ask_plot (id tt : Int) : askB 7 id 0 tt 0 ⟨#[]⟩ = ((decide (0 ≤ id) && decide (id ≤ 65535)) && (decide (0 ≤ tt) && decide (tt ≤ 65535))) := by
  unfold askB
  rw [letOk_has _ _ _ (show hasC (hasOf 7) 105 = true by decide +kernel), letOk_has _ _ _ (show hasC (hasOf 7) 111 = true by decide +kernel)]
  simp only [letOk0, show (nameOf 7).toList.isEmpty = false by decide +kernel, Bool.and_true, Bool.not_false, Bool.true_and]
  rw [show (decide (((⟨#[]⟩ : ByteArray).size : Int) ≤ 40)) = true by decide, show (⟨#[]⟩ : ByteArray).toList.isEmpty = true by decide +kernel]
  simp
/-! What becomes of documents. -/
theorem change_delete {l : List S42} (h : Docs0 l) (k : Nat) (hk : k < l.length) (hi : l[k].f0 ≤ 65535) : changeOf l 2 l[k].f0 0 0 0 ⟨#[]⟩ 0 = (l.eraseIdx k, 0) := by
  have h1 := h.pos _ (List.getElem_mem hk)
  have hm : mayB l 2 l[k].f0 0 0 0 ⟨#[]⟩ = true := by
    unfold mayB
    rw [(modelB_iff l).2 h, ask_delete, decide_eq_true (by omega), decide_eq_true hi]
    rfl
  unfold changeOf
  rw [if_pos ⟨hm, by decide, by decide⟩, if_pos rfl, find_self h k hk, if_neg (by omega), Int.toNat_natCast]
theorem change_insert {l : List S42} (h : Docs0 l) (id : Int) (text : ByteArray) (hl : l.length < 10) (h1 : 1 ≤ id) (h2 : ∀ d ∈ l, d.f0 ≠ id) (h3 : text.size ≤ 40) : changeOf l 1 0 0 0 0 text id = (l ++ [⟨id, text⟩], 0) := by
  have hm : mayB l 1 0 0 0 0 text = true := by
    unfold mayB
    rw [(modelB_iff l).2 h, ask_insert, decide_eq_true (by omega)]
    rfl
  unfold changeOf
  rw [if_pos ⟨hm, by decide, by decide⟩, if_neg (by decide), find_neg_of h2, if_neg (by omega), if_neg (by omega)]
end Go.Proofs.Ytibhenengpdahaa.P
