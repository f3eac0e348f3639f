/- A slice of strings, and one of whole numbers, among a law's arguments, opened as a plain list: what lies in memory, and how large it is. Conditions: the row's weights. -/
import Derived.Test.YtkcpkecaliegfaaGreatP0
import Derived.SizedLaws
import Derived.SliceStrings
import Derived.ChangeSlices
set_option linter.unusedVariables false
set_option linter.unusedSimpArgs false
namespace Go.Proofs.YtkcpkecaliegfaaGreat.P
open Go.RowKit Go.Proofs.YtkcpkecaliegfaaGreatW.PrintWords Go.Proofs.YtkcpkecaliegfaaGreatW.PrintLast Go.Proofs.YtkcpkecaliegfaaGreatW.PrintMore
open Go.ChangeShapes Go.WideShapes

theorem weight_elem {H : Type} {P : Program} {e : TypeId} : ∀ {ds : List (DataW H)} {d : DataW H}, d ∈ ds → ∀ n ∈ d.weights P e, n ∈ DataW.weightsAll P e ds
  | d0 :: ds, d, hd, n, hn => by
    simp only [DataW.weightsAll, List.mem_append]
    rcases List.mem_cons.1 hd with rfl | h
    · exact Or.inl hn
    · exact Or.inr (weight_elem h n hn)

theorem open_texts {H : Type} {enc : TypeId × Value → H} {P : Program} {W : World} {base : Nat} {spare : Nat → Bool} {held : Bool} {t e : TypeId} {a : Option Addr} {len cap : Nat} {d : DataW H} {ps : List MemPlace} {ts : List TypeId} {ds : List (DataW H)} {j : Nat}
    (hsz : (DataW.weightsEach P ts ds).all (· ≤ reachBytes) = true) (ht : ts[j]? = some t) (hd : ds[j]? = some d) (hu : P.underlying t = some (.slice e)) (he : P.underlying e = some .string) (hc : P.cellsOf e = 1) (hB : P.bytesOf e = 16)
    (h : DataW.Trod enc P W base spare held t (.slice a len cap) d ps) : ∃ l : List ByteArray, len = l.length ∧ l.length ≤ cap ∧ Kd.C Kd.string W a l.length l ∧ (∀ s ∈ l, s.size ≤ 140737488351232) ∧ l.length * 16 ≤ 140737488351232 := by
  obtain ⟨fuel, hf⟩ := h
  rcases open_strings hu he hc hf with ⟨hcs, _⟩ | ⟨x, l, c, ss, hcs, _, hl, hm, hz, hx, hcell, _⟩
  · simp [Value.cells] at hcs
    obtain ⟨rfl, rfl, rfl⟩ := hcs
    exact ⟨[], rfl, Nat.zero_le _, Kd.C_of_reads (d := ByteArray.empty) (h1 := fun _ => rfl) ⟨rfl, by decide, fun h => absurd h (Nat.lt_irrefl 0)⟩, (fun s hs => by cases hs), by decide⟩
  · simp [Value.cells] at hcs
    obtain ⟨rfl, rfl, rfl⟩ := hcs
    obtain ⟨hx, _⟩ := Prod.mk.inj hx
    subst hx
    have hw := DataW.weights_mem_each (P := P) ht hd
    have hall : ∀ n ∈ (DataW.slice (strs (ss.take len)) (strs (ss.drop len)) : DataW H).weights P t, n ≤ reachBytes := fun n hn => by simpa using List.all_eq_true.1 hsz n (hw n hn)
    have hl2 : len ≤ ss.length := by
      rw [hz]
      split
      · exact hl
      · exact Nat.le_refl _
    have htl : (ss.take len).length = len := by rw [List.length_take]; omega
    refine ⟨ss.take len, htl.symm, by omega, ?_, ?_, ?_⟩
    · refine Kd.C_of_reads (d := ByteArray.empty) (h1 := fun _ => rfl) ⟨rfl, by rw [htl]; unfold maxLen at hm; omega, fun _ => ⟨x, rfl, fun i hi => ?_⟩⟩
      rw [htl] at hi
      rw [hcell i (by omega)]
      congr 2
      rw [List.getD_eq_getElem?_getD, List.getD_eq_getElem?_getD, List.getElem?_take_of_lt hi]
    · intro s hs
      have h1 : (DataW.lit (.string s.data.toList) : DataW H) ∈ strs (H := H) (ss.take len) := List.mem_map.2 ⟨s, hs, rfl⟩
      have h2 : s.data.toList.length ∈ (DataW.slice (strs (ss.take len)) (strs (ss.drop len)) : DataW H).weights P t := by
        simp only [DataW.weights, hu, List.mem_cons, List.mem_append]
        exact Or.inr (Or.inl (weight_elem h1 _ (by simp [DataW.weights])))
      have h3 := hall _ h2
      rw [Array.length_toList] at h3
      exact h3
    · have h2 : ((strs (H := H) (ss.take len)).length + (strs (H := H) (ss.drop len)).length) * P.bytesOf e ∈ (DataW.slice (strs (ss.take len)) (strs (ss.drop len)) : DataW H).weights P t := by
        simp [DataW.weights, hu]
      have h3 := hall _ h2
      rw [hB] at h3
      unfold strs at h3
      rw [List.length_map, List.length_map, List.length_drop, htl] at h3
      have h4 : reachBytes = 140737488351232 := rfl
      omega

theorem open_nums {H : Type} {enc : TypeId × Value → H} {P : Program} {W : World} {base : Nat} {spare : Nat → Bool} {held : Bool} {t e : TypeId} {a : Option Addr} {len cap : Nat} {d : DataW H} {ps : List MemPlace} {ts : List TypeId} {ds : List (DataW H)} {j : Nat}
    (hsz : (DataW.weightsEach P ts ds).all (· ≤ reachBytes) = true) (ht : ts[j]? = some t) (hd : ds[j]? = some d) (hu : P.underlying t = some (.slice e)) (he : P.underlying e = some (.int .i64)) (hc : P.cellsOf e = 1) (hB : P.bytesOf e = 8)
    (h : DataW.Trod enc P W base spare held t (.slice a len cap) d ps) : ∃ l : List Int, len = l.length ∧ l.length ≤ cap ∧ Kd.C (Kd.int .i64) W a l.length l ∧ (∀ x ∈ l, (Lit.int .i64 x).wf = true) ∧ l.length * 8 ≤ 140737488351232 := by
  obtain ⟨fuel, hf⟩ := h
  rcases open_ints hu he hc hf with ⟨hcs, _⟩ | ⟨x, l, c, zs, hcs, _, hl, hm, hz, hx, hcell, hwf⟩
  · simp [Value.cells] at hcs
    obtain ⟨rfl, rfl, rfl⟩ := hcs
    exact ⟨[], rfl, Nat.zero_le _, Kd.C_of_reads (d := (0 : Int)) (h1 := fun _ => rfl) ⟨rfl, by decide, fun h => absurd h (Nat.lt_irrefl 0)⟩, (fun s hs => by cases hs), by decide⟩
  · simp [Value.cells] at hcs
    obtain ⟨rfl, rfl, rfl⟩ := hcs
    obtain ⟨hx, _⟩ := Prod.mk.inj hx
    subst hx
    have hl2 : len ≤ zs.length := by
      rw [hz]
      split
      · exact hl
      · exact Nat.le_refl _
    have htl : (zs.take len).length = len := by rw [List.length_take]; omega
    refine ⟨zs.take len, htl.symm, by omega, ?_, ?_, ?_⟩
    · refine Kd.C_of_reads (d := (0 : Int)) (h1 := fun _ => rfl) ⟨rfl, by rw [htl]; unfold maxLen at hm; omega, fun _ => ⟨x, rfl, fun i hi => ?_⟩⟩
      rw [htl] at hi
      rw [hcell i (by omega)]
      congr 2
      rw [List.getD_eq_getElem?_getD, List.getD_eq_getElem?_getD, List.getElem?_take_of_lt hi]
    · exact fun y hy => hwf y (List.mem_of_mem_take hy)
    · have h3 := sized_slice hsz ht hd hu
      rw [hB] at h3
      unfold lits at h3
      rw [List.length_map, List.length_map, List.length_drop, htl] at h3
      have h4 : reachBytes = 140737488351232 := rfl
      omega
end Go.Proofs.YtkcpkecaliegfaaGreat.P
