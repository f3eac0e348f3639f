/- The sorted list of all suffixes: what lies in it, and that it rises. Conditions: none. -/
import Derived.Test.YtkcpkecaliegfaaGreatSyms
set_option linter.unusedVariables false
set_option linter.unusedSimpArgs false
namespace Go.Proofs.YtkcpkecaliegfaaGreat.P
open Go.RowKit Go.Proofs.YtkcpkecaliegfaaGreatW.PrintWords Go.Proofs.YtkcpkecaliegfaaGreatW.PrintLast Go.Proofs.YtkcpkecaliegfaaGreatW.PrintMore

theorem mem_rowsTo_mk (l : List ByteArray) (D d i : Nat) (h1 : d < D) (h2 : i ≤ (docAt l (d : Int)).size) : (⟨(d : Int), (i : Int)⟩ : S75) ∈ rowsTo l D := by
  induction D with
  | zero => omega
  | succ D ih =>
    rw [rowsTo, List.mem_append]
    by_cases hd : d = D
    · subst hd
      refine Or.inr ?_
      unfold rowsOf
      exact List.mem_map.2 ⟨i, List.mem_range.2 (by omega), rfl⟩
    · exact Or.inl (ih (by omega))
theorem mem_allRows (l : List ByteArray) (r : S75) : r ∈ allRows l ↔ okR l r = true := by
  constructor
  · exact allRows_ok l r
  · intro h
    obtain ⟨o1, o2, o3, o4⟩ := rowOk_iff.1 h
    obtain ⟨d, hd⟩ : ∃ d : Nat, r.f0 = d := ⟨r.f0.toNat, by omega⟩
    obtain ⟨i, hi⟩ : ∃ i : Nat, r.f1 = i := ⟨r.f1.toNat, by omega⟩
    cases r
    dsimp only at *
    subst hd hi
    exact mem_rowsTo_mk l l.length d i (by omega) (by omega)
theorem mem_sorted (l : List ByteArray) (h : rightB l = true) (r : S75) : r ∈ sortedRows l ↔ okR l r = true :=
  (sortedRows_perm l h).mem_iff.trans (mem_allRows l r)
theorem sorted_rises (l : List ByteArray) (h : rightB l = true) : (sortedRows l).Pairwise (fun a b => ltB l a b = true) := by
  have hN : (allRows l).Nodup := rowsTo_nodup l l.length
  have hp := sortedRows_perm l h
  have hn : (sortedRows l).Nodup := hp.nodup_iff.2 hN
  have hok := sortedRows_ok l
  have hs2 : (sortedRows l).Pairwise (fun a b => ltB l b a = false) := by
    unfold sortedRows
    rw [if_pos h]
    have hm : ((allOf l).toList.mergeSort (fun x y => leB l (unR x) (unR y))).map unR = (allRows l).mergeSort (leB l) := by
      rw [← map_allOf l]
      exact List.map_mergeSort (fun _ _ _ _ => rfl)
    rw [← hm, List.pairwise_map]
    have := List.pairwise_mergeSort (le := fun x y : RowOf l => leB l (unR x) (unR y)) (fun a b c h1 h2 => leB_trans_on l _ _ _ (okR_un a) (okR_un b) (okR_un c) h1 h2) (fun a b => by
      unfold leB
      cases h1 : ltB l (unR b) (unR a) with
      | false => rfl
      | true => rw [ltB_asymm h1]; rfl) (allOf l).toList
    refine List.Pairwise.imp ?_ this
    intro a b h
    unfold leB at h
    simpa using h
  refine List.Pairwise.imp_of_mem ?_ (List.Pairwise.and hn hs2)
  intro a b ha hb ⟨h3, h4⟩
  cases h5 : ltB l a b with
  | true => rfl
  | false => exact absurd (ltB_total (hok a ha) (hok b hb) h5 h4) h3
/-- What rises, and holds each suffix, is the sorted list. -/
theorem sorted_is (l : List ByteArray) (h : rightB l = true) (xs : List S75) (hm : ∀ r, r ∈ xs ↔ okR l r = true) (hs : xs.Pairwise (fun a b => ltB l a b = true)) : xs = sortedRows l := by
  have hn : xs.Nodup := hs.imp (fun {a b} hab he => by rw [he, ltB_irrefl] at hab; cases hab)
  have hN : (allRows l).Nodup := rowsTo_nodup l l.length
  refine sorted_unique l h xs ((List.perm_ext_iff_of_nodup hn hN).2 fun r => (hm r).trans (mem_allRows l r).symm) (hs.imp fun h => ltB_asymm h)
end Go.Proofs.YtkcpkecaliegfaaGreat.P
