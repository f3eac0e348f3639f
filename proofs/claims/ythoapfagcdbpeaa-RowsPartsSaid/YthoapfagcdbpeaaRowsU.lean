/- The row that the sort leaves is the sorted list of all suffixes. Conditions: none. -/
import Derived.Test.YthoapfagcdbpeaaRowsT
import Derived.Shelf.SlSortCmp.WholeK
set_option linter.unusedVariables false
set_option linter.unusedSimpArgs false
namespace Go.Proofs.Ythoapfagcdbpeaa.P
open Go.Sort (flatK size_flatK get_flatK HoldsK putRowK SWO PermIn SortedIn)
open Go.RowKit Go.Proofs.YthoapfagcdbpeaaW.PrintWords Go.Proofs.YthoapfagcdbpeaaW.PrintLast Go.Proofs.YthoapfagcdbpeaaW.PrintMore

/-- What the closure tells of two rows. -/
def cmpR (l : List ByteArray) (x y : RowOf l) : Int := if ltB l (unR x) (unR y) then -1 else 1
theorem ltOf_cmpR (l : List ByteArray) (x y : RowOf l) : ltOf (cmpR l) x y = ltB l (unR x) (unR y) := by
  unfold ltOf cmpR
  cases ltB l (unR x) (unR y) <;> rfl
theorem okR_un {l : List ByteArray} (x : RowOf l) : okR l (unR x) = true := x.2
theorem unR_inj {l : List ByteArray} {x y : RowOf l} (h : unR x = unR y) : x = y := by
  obtain ⟨⟨a, b⟩, hx⟩ := x
  obtain ⟨⟨c, d⟩, hy⟩ := y
  unfold unR at h
  simp only [S24.mk.injEq] at h
  obtain ⟨rfl, rfl⟩ := h
  rfl
theorem swoR (l : List ByteArray) : SWO (ltOf (cmpR l)) where
  irrefl x := by rw [ltOf_cmpR]; exact ltB_irrefl _ _
  trans x y z h1 h2 := by rw [ltOf_cmpR] at *; exact ltB_trans h1 h2
  ntrans x y z h1 h2 := by
    rw [ltOf_cmpR] at *
    cases h3 : ltB l (unR x) (unR z) with
    | false => rfl
    | true =>
      cases h4 : ltB l (unR y) (unR x) with
      | true =>
        have := ltB_trans h4 h3
        rw [h2] at this
        cases this
      | false =>
        have := ltB_total (okR_un x) (okR_un y) h1 h4
        rw [← this] at h2
        rw [h2] at h3
        cases h3

/-- All suffixes, as rows that are. -/
def allOf (l : List ByteArray) : Array (RowOf l) := ((allRows l).pmap (fun r h => (⟨(r.f0, r.f1), h⟩ : RowOf l)) (fun r hr => allRows_ok l r hr)).toArray
theorem map_allOf (l : List ByteArray) : (allOf l).toList.map unR = allRows l := by
  unfold allOf
  rw [List.toList_toArray, List.map_pmap]
  have : ∀ (xs : List S24) (H : ∀ r ∈ xs, okR l r = true), xs.pmap (fun r h => unR (⟨(r.f0, r.f1), h⟩ : RowOf l)) H = xs := by
    intro xs H
    induction xs with
    | nil => rfl
    | cons x xs ih => rw [List.pmap_cons, ih]; rfl
  exact this _ _
theorem size_allOf (l : List ByteArray) : (allOf l).size = (allRows l).length := by
  have := congrArg List.length (map_allOf l)
  rw [List.length_map, Array.length_toList] at this
  exact this

theorem mem_rowsTo' (l : List ByteArray) (D : Nat) (r : S24) (h : r ∈ rowsTo l D) : r.f0 < D := by
  obtain ⟨d, i, h1, h2, rfl⟩ := mem_rowsTo l r D h
  dsimp only
  omega
theorem rowsTo_nodup (l : List ByteArray) (D : Nat) : (rowsTo l D).Nodup := by
  induction D with
  | zero => exact List.nodup_nil
  | succ D ih =>
    rw [rowsTo, List.nodup_append]
    refine ⟨ih, ?_, ?_⟩
    · unfold rowsOf
      rw [List.Nodup, List.pairwise_map]
      refine List.Pairwise.imp ?_ (List.nodup_range (n := (docAt l D).size + 1))
      intro a b hab he
      injection he with _ he
      omega
    · intro a ha b hb he
      subst he
      have h1 := mem_rowsTo' l D a ha
      unfold rowsOf at hb
      obtain ⟨i, _, rfl⟩ := List.mem_map.1 hb
      dsimp only at h1
      omega

/-- A permutation of all suffixes that rises is the sorted list. -/
theorem sorted_unique (l : List ByteArray) (hr : rightB l = true) (xs : List S24) (hp : xs.Perm (allRows l)) (hs : xs.Pairwise (fun a b => ltB l b a = false)) : xs = sortedRows l := by
  have hN : (allRows l).Nodup := rowsTo_nodup l l.length
  have key : ∀ ys : List S24, ys.Perm (allRows l) → ys.Pairwise (fun a b => ltB l b a = false) → ys.Pairwise (fun a b => ltB l a b = true) := by
    intro ys hy hw
    have hn : ys.Nodup := hy.nodup_iff.2 hN
    have hok : ∀ r ∈ ys, okR l r = true := fun r h => allRows_ok l r (hy.mem_iff.1 h)
    have h2 : ys.Pairwise (fun a b => a ≠ b ∧ ltB l b a = false) := List.Pairwise.and hn hw
    refine List.Pairwise.imp_of_mem ?_ h2
    intro a b ha hb ⟨h3, h4⟩
    cases h5 : ltB l a b with
    | true => rfl
    | false => exact absurd (ltB_total (hok a ha) (hok b hb) h5 h4) h3
  have hsort : sortedRows l = (allRows l).mergeSort (leB l) := by unfold sortedRows; rw [if_pos hr]
  have hp2 : (sortedRows l).Perm (allRows l) := by rw [hsort]; exact List.mergeSort_perm _ _
  have hs2 : (sortedRows l).Pairwise (fun a b => ltB l b a = false) := by
    rw [hsort]
    have hm : ((allOf l).toList.mergeSort (fun x y => leB l (unR x) (unR y))).map unR = (allRows l).mergeSort (leB l) := by
      rw [← map_allOf l]
      exact List.map_mergeSort (fun _ _ _ _ => rfl)
    rw [← hm, List.pairwise_map]
    have := List.pairwise_mergeSort (le := fun x y : RowOf l => leB l (unR x) (unR y)) (fun a b c h1 h2 => leB_trans_on l _ _ _ (okR_un a) (okR_un b) (okR_un c) h1 h2) (fun a b => by
      unfold leB
      cases h1 : ltB l (unR b) (unR a) with
      | false => rfl
      | true => rw [ltB_asymm h1]; rfl) (allOf l).toList
    refine List.Pairwise.imp ?_ this
    intro a b h
    unfold leB at h
    simpa using h
  exact pairwise_unique (ltB l) (fun a b h => ltB_asymm h) xs (sortedRows l) (hp.trans hp2.symm) (key xs hp hs) (key _ hp2 hs2)

theorem sort_left (l : List ByteArray) [Inhabited (RowOf l)] (hr : rightB l = true) (d' : Array (RowOf l)) (hp : PermIn 0 (allOf l).size (allOf l) d') (hs : SortedIn (ltOf (cmpR l)) 0 (allOf l).size d') : d'.toList.map unR = sortedRows l := by
  obtain ⟨h1, h2, h3⟩ := hp
  have e1 : d'.extract 0 (allOf l).size = d' := by rw [← h1]; exact Array.extract_size ..
  have e2 : (allOf l).extract 0 (allOf l).size = allOf l := Array.extract_size ..
  rw [e1, e2] at h3
  refine sorted_unique l hr _ (by rw [← map_allOf l]; exact h3.map unR) ?_
  rw [List.pairwise_map, List.pairwise_iff_getElem]
  intro i j hi hj hij
  rw [Array.length_toList] at hi hj
  have := hs i j (Nat.zero_le _) hij (by rw [← h1]; exact hj)
  rw [ltOf_cmpR, getElem!_pos d' i hi, getElem!_pos d' j hj] at this
  rw [Array.getElem_toList, Array.getElem_toList]
  exact this
end Go.Proofs.Ythoapfagcdbpeaa.P
