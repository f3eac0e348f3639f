/- The rows that a range cuts out are those where a text stands: their keys, each once. Conditions: none. -/
import Derived.Test.YtkcpkecaliegfaaNaiveP
set_option linter.unusedVariables false
set_option linter.unusedSimpArgs false
namespace Go.Proofs.Ytkcpkecaliegfaa.P
open Go.RowKit Go.Proofs.YtkcpkecaliegfaaW.PrintWords Go.Proofs.YtkcpkecaliegfaaW.PrintLast Go.Proofs.YtkcpkecaliegfaaW.PrintMore

theorem rem_at (a : Int) (n : Nat) (hn : 0 < n ∧ n ≤ 1000) : ∃ m : Int, Int.tmod a (n : Int) = m ∧ -1000 ≤ m ∧ ∃ q : Nat, q < n ∧ Int.tmod (m + (n : Int)) (n : Int) = (q : Int) := by
  have h1 := Int.tmod_lt_of_pos a (show (0 : Int) < (n : Int) by omega)
  have h2 := Int.lt_tmod_of_pos a (show (0 : Int) < (n : Int) by omega)
  refine ⟨_, rfl, by omega, ?_⟩
  rw [Int.tmod_eq_emod_of_nonneg (by omega)]
  have h3 := Int.emod_nonneg (Int.tmod a (n : Int) + (n : Int)) (show (n : Int) ≠ 0 by omega)
  have h4 := Int.emod_lt_of_pos (Int.tmod a (n : Int) + (n : Int)) (show (0 : Int) < (n : Int) by omega)
  exact ⟨((Int.tmod a (n : Int) + (n : Int)) % (n : Int)).toNat, by omega, by omega⟩
/-- The rows of the range. -/
def cutOf (l : List ByteArray) (p : List Int) : List S34 := ((sortedRows l).take (highOf l p)).drop (lowOf l p)
theorem cut_len (l : List ByteArray) (hl : rightB l = true) (p : List Int) : (cutOf l p).length = occOf l p := by
  have h1 := high_eq l hl p
  have h2 := high_le l p
  unfold cutOf
  rw [List.length_drop, List.length_take]
  omega
theorem row_ext {a b : S34} (h : keyR a = keyR b) : a = b := by
  have e0 : a.f0 = b.f0 := congrArg Prod.fst h
  have e1 : a.f1 = b.f1 := congrArg Prod.snd h
  cases a
  cases b
  cases e0
  cases e1
  rfl
theorem keys_fresh2 (R : List S34) (h : R.Nodup) (k : Nat) (hk : k < R.length) : keyR R[k] ∉ keysOf (R.take k) := by
  intro hm
  obtain ⟨r, hr, he⟩ := List.mem_map.1 hm
  obtain ⟨i, hi, rfl⟩ := List.mem_take_iff_getElem.1 hr
  have := (List.pairwise_iff_getElem.1 h) i k (by omega) hk (by omega)
  exact this (row_ext he)
theorem cut_nodup (l : List ByteArray) (hl : rightB l = true) (p : List Int) : (cutOf l p).Nodup := by
  have hp := sortedRows_perm l hl
  have hn : (sortedRows l).Nodup := hp.nodup_iff.2 (rowsTo_nodup l l.length)
  exact hn.sublist ((List.drop_sublist _ _).trans (List.take_sublist _ _))
theorem cut_keys (l : List ByteArray) (hl : rightB l = true) (p : List Int) (k : Nat) (hk : k < (naiveOf l p).length) : keyR (naiveOf l p)[k] ∈ keysOf (cutOf l p) := by
  have hm : (naiveOf l p)[k] ∈ naiveOf l p := List.getElem_mem hk
  generalize (naiveOf l p)[k] = r at hm ⊢
  unfold naiveOf naiveTo at hm
  obtain ⟨h1, h2⟩ := List.mem_filter.1 hm
  have h3 : r ∈ sortedRows l := (sortedRows_perm l hl).mem_iff.2 h1
  obtain ⟨j, hj, rfl⟩ := List.mem_iff_getElem.1 h3
  rw [row_pre l hl p j hj, Bool.and_eq_true, decide_eq_true_eq, decide_eq_true_eq] at h2
  have h4 := high_le l p
  refine List.mem_map.2 ⟨(sortedRows l)[j], ?_, rfl⟩
  unfold cutOf
  refine List.mem_iff_getElem.2 ⟨j - lowOf l p, by rw [List.length_drop, List.length_take]; omega, ?_⟩
  rw [List.getElem_drop, List.getElem_take]
  congr 1
  omega
theorem find_occ (l : List ByteArray) (D i e : Nat) (hD : D < l.length) (hi : i ≤ e) (he : e ≤ (docAt l (D : Int)).size) : 0 < occOf l (bytesOf ((docAt l (D : Int)).extract i e)) := by
  have hs : ((docAt l (D : Int)).extract i e).size = e - i := by rw [ByteArray.size_extract]; omega
  have h := pre_cut (docAt l (D : Int)) ((docAt l (D : Int)).extract i e) i (by omega)
  rw [hs, Nat.add_sub_cancel' hi, beq_self_eq_true] at h
  have hm := (mem_naive l (bytesOf ((docAt l (D : Int)).extract i e)) D i hD (by omega)).2 h
  rw [← naive_len]
  obtain ⟨r, hr, _⟩ := List.mem_map.1 hm
  exact List.length_pos_of_mem hr
end Go.Proofs.Ytkcpkecaliegfaa.P
