/- Plain laws for ModelPlots: where a number stands; one document alone; the part of a document that is put in. Conditions: none. -/
import Derived.Test.YtibhenengpdahaaSameReply
import Derived.Test.YtibhenengpdahaaCounts
set_option linter.unusedVariables false
set_option linter.unusedSimpArgs false
namespace Go.Proofs.Ytibhenengpdahaa.P
open Go.RowKit Go.Proofs.YtibhenengpdahaaW.PrintWords Go.Proofs.YtibhenengpdahaaW.PrintLast Go.Proofs.YtibhenengpdahaaW.PrintMore

theorem place_none (l : List S42) (id : Int) (hl : l.length ≤ 1000000) (hb : ∀ j, (h : j < l.length) → l[j].f0 ≠ id) : ∀ (m j k : Nat), m = l.length - j → j ≤ l.length → m + 1 ≤ k → scriniumref1_Place.l0 k l id (j : Int) = some (-1) := by
  intro m
  induction m with
  | zero =>
    intro j k hm hj hk
    obtain rfl : j = l.length := by omega
    obtain ⟨k1, rfl⟩ : ∃ k1, k = k1 + 1 := ⟨k - 1, by omega⟩
    rw [scriniumref1_Place.l0, if_neg (by omega)]
  | succ m ih =>
    intro j k hm hj hk
    obtain ⟨k1, rfl⟩ : ∃ k1, k = k1 + 1 := ⟨k - 1, by omega⟩
    have hrec := ih (j + 1) k1 (by omega) (by omega) (by omega)
    have hw : wrap64 ((j : Int) + 1) = ((j + 1 : Nat) : Int) := w64n (j + 1) (by omega)
    rw [scriniumref1_Place.l0, if_pos (by omega), if_pos (by omega), rd_doc_get l j (by omega), if_neg (hb j (by omega)), hw]
    exact hrec
/-- Where a number stands, as the document tells it. -/
theorem place_find (l : List S42) (id : Int) (hl : l.length ≤ 1000000) : scriniumref1_Place.f (l.length + 1) l id = some (findOf l id) := by
  rcases find_cases l id with ⟨e1, h3⟩ | ⟨k, hk, e1, he, hb⟩
  · rw [e1]
    exact place_none l id hl h3 l.length 0 _ rfl (Nat.zero_le _) (Nat.le_refl _)
  · rw [e1]
    exact place_l l id k hk hl he hb k 0 _ rfl (Nat.zero_le _) (by omega)
theorem reps_doc {W : World} {base : Nat} {ok : Nat → Prop} (id : Int) (text : ByteArray) : Reps (k42.M W base ok) k42.sz [⟨id, text⟩] [.int .i64 id, .string text] := by
  refine ⟨rfl, fun j p hj => ?_⟩
  obtain rfl : j = 0 := by
    rcases Nat.eq_zero_or_pos j with h | h
    · exact h
    · rw [List.getElem?_eq_none (by simp; omega)] at hj; cases hj
  obtain rfl : p = ⟨id, text⟩ := by simpa using hj.symm
  exact k42_mkM _ _ _ _
theorem doc_own_ne {W : World} {b g : Nat} {ok : Nat → Prop} {v : Value} {D : List S42} {cs : Array Value} (h : Kd.R k42 42 W b ok v D) (hg : W.heap[g]? = some (.cells cs 34 (0, 0))) : some g ≠ v.ownBlock := by
  intro e
  obtain ⟨_, o1⟩ := Kd.R_own h
  obtain ⟨c1, g1⟩ := own_typed o1 g e.symm
  rw [hg] at g1
  injection g1 with g1
  injection g1 with _ h3
  exact absurd h3 (by decide)
theorem docs_front {l : List S42} (h : Docs0 l) (id : Int) (text : ByteArray) (hl : l.length < 10) (h1 : 1 ≤ id) (h2 : ∀ d ∈ l, d.f0 ≠ id) (h3 : text.size ≤ 40) : Docs0 (⟨id, text⟩ :: l) := by
  refine ⟨by rw [List.length_cons]; omega, fun d hd => ?_, ?_, fun d hd => ?_⟩
  · rcases List.mem_cons.1 hd with rfl | hd
    · exact h1
    · exact h.pos d hd
  · exact List.pairwise_cons.2 ⟨fun a ha e => h2 a ha e.symm, h.own⟩
  · rcases List.mem_cons.1 hd with rfl | hd
    · exact h3
    · exact h.short d hd
theorem part_whole {l : List S42} (h : Docs0 l) (k : Nat) (hk : k < l.length) (id : Int) (text : ByteArray) (hd : l[k] = ⟨id, text⟩) : partOf l id 0 (text.size : Int) = (text, 0) := by
  have h1 := part_in h k hk 0 text.size (Nat.zero_le _) (by rw [hd]; exact Nat.le_refl _)
  rw [hd] at h1
  dsimp only at h1
  rw [ByteArray.extract_zero_size] at h1
  exact h1
theorem part_absent (l : List S42) (id fr tt : Int) (h : ∀ d ∈ l, d.f0 ≠ id) : partOf l id fr tt = (⟨#[]⟩, 4) := by
  unfold partOf
  rw [find_neg_of h, if_pos (by decide)]
end Go.Proofs.Ytibhenengpdahaa.P
