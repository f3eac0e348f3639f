/- The keys of rows: each once; which stand in the sorted list. Conditions: none. -/
import Derived.Test.YthoapfagcdbpeaaSort
import Derived.Test.YthoapfagcdbpeaaMapB
set_option linter.unusedVariables false
set_option linter.unusedSimpArgs false
namespace Go.Proofs.Ythoapfagcdbpeaa.P
open Go.RowKit Go.Proofs.YthoapfagcdbpeaaW.PrintWords Go.Proofs.YthoapfagcdbpeaaW.PrintLast Go.Proofs.YthoapfagcdbpeaaW.PrintMore

def keyR (r : S24) : Int × Int := (r.f0, r.f1)
def keysOf (R : List S24) : List (Int × Int) := R.map keyR
theorem keys_succ (R : List S24) (k : Nat) (hk : k < R.length) : keysOf (R.take (k + 1)) = keysOf (R.take k) ++ [keyR R[k]] := by
  unfold keysOf
  rw [List.take_succ_eq_append_getElem hk, List.map_append]
  rfl
theorem row_ext {a b : S24} (h : keyR a = keyR b) : a = b := by
  have e0 : a.f0 = b.f0 := congrArg Prod.fst h
  have e1 : a.f1 = b.f1 := congrArg Prod.snd h
  cases a
  cases b
  cases e0
  cases e1
  rfl
theorem keys_fresh2 (R : List S24) (h : R.Nodup) (k : Nat) (hk : k < R.length) : keyR R[k] ∉ keysOf (R.take k) := by
  intro hm
  obtain ⟨r, hr, he⟩ := List.mem_map.1 hm
  obtain ⟨i, hi, rfl⟩ := List.mem_take_iff_getElem.1 hr
  have := (List.pairwise_iff_getElem.1 h) i k (by omega) hk (by omega)
  exact this (row_ext he)
theorem sorted_nodup (l : List ByteArray) (hl : rightB l = true) : (sortedRows l).Nodup := (sortedRows_perm l hl).nodup_iff.2 (rowsTo_nodup l l.length)
theorem sorted_keys (l : List ByteArray) (hl : rightB l = true) (D i : Nat) (hD : D < l.length) (hi : i ≤ (docAt l (D : Int)).size) : ((D : Int), (i : Int)) ∈ keysOf (sortedRows l) :=
  List.mem_map.2 ⟨⟨(D : Int), (i : Int)⟩, (sortedRows_perm l hl).mem_iff.2 (mem_rowsTo_mk l l.length D i hD hi), rfl⟩
theorem sorted_less (l : List ByteArray) (hl : rightB l = true) (q : Nat) (h : q + 1 < (sortedRows l).length) :
    lessB l (sortedRows l)[q].f0 (sortedRows l)[q].f1 (sortedRows l)[q + 1].f0 (sortedRows l)[q + 1].f1 = true ∧ lessB l (sortedRows l)[q + 1].f0 (sortedRows l)[q + 1].f1 (sortedRows l)[q].f0 (sortedRows l)[q].f1 = false := by
  have h1 : ltB l (sortedRows l)[q] (sortedRows l)[q + 1] = true := (List.pairwise_iff_getElem.1 (sorted_rises l hl)) q (q + 1) (by omega) h (by omega)
  exact ⟨h1, ltB_asymm h1⟩
end Go.Proofs.Ythoapfagcdbpeaa.P
