/- Where a pattern stands: the places rise, no two are one; in which of them it stands. Conditions: none. -/
import Derived.Test.YtkcpkecaliegfaaBackB
import Derived.Test.YtkcpkecaliegfaaMapB
set_option linter.unusedVariables false
set_option linter.unusedSimpArgs false
namespace Go.Proofs.Ytkcpkecaliegfaa.P
open Go.RowKit Go.Proofs.YtkcpkecaliegfaaW.PrintWords Go.Proofs.YtkcpkecaliegfaaW.PrintLast Go.Proofs.YtkcpkecaliegfaaW.PrintMore

def riseR (a b : S34) : Prop := a.f0 < b.f0 ∨ a.f0 = b.f0 ∧ a.f1 < b.f1
theorem rowsOf_rise (l : List ByteArray) (d n : Nat) : (rowsOf l d n).Pairwise riseR := by
  unfold rowsOf
  rw [List.pairwise_map]
  refine List.Pairwise.imp ?_ List.pairwise_lt_range
  intro a b h
  exact Or.inr ⟨rfl, by show (a : Int) < (b : Int); omega⟩
theorem rowsTo_rise (l : List ByteArray) : ∀ D : Nat, (rowsTo l D).Pairwise riseR
  | 0 => List.Pairwise.nil
  | D + 1 => by
    rw [rowsTo, List.pairwise_append]
    refine ⟨rowsTo_rise l D, rowsOf_rise l D _, ?_⟩
    intro a ha b hb
    obtain ⟨d, i, hd, _, rfl⟩ := mem_rowsTo l a D ha
    unfold rowsOf at hb
    obtain ⟨j, _, rfl⟩ := List.mem_map.1 hb
    exact Or.inl (by show (d : Int) < (D : Int); omega)
theorem naive_rise (l : List ByteArray) (p : List Int) : (naiveOf l p).Pairwise riseR := (rowsTo_rise l _).sublist List.filter_sublist
def keyR (r : S34) : Int × Int := (r.f0, r.f1)
def keysOf (R : List S34) : List (Int × Int) := R.map keyR
theorem keys_fresh (R : List S34) (h : R.Pairwise riseR) (k : Nat) (hk : k < R.length) : keyR R[k] ∉ keysOf (R.take k) := by
  intro hm
  obtain ⟨r, hr, he⟩ := List.mem_map.1 hm
  obtain ⟨i, hi, rfl⟩ := List.mem_take_iff_getElem.1 hr
  have hlt : i < k := by omega
  have h1 := (List.pairwise_iff_getElem.1 h) i k (by omega) hk hlt
  have e0 : R[i].f0 = R[k].f0 := congrArg Prod.fst he
  have e1 : R[i].f1 = R[k].f1 := congrArg Prod.snd he
  unfold riseR at h1
  omega
theorem keys_succ (R : List S34) (k : Nat) (hk : k < R.length) : keysOf (R.take (k + 1)) = keysOf (R.take k) ++ [keyR R[k]] := by
  unfold keysOf
  rw [List.take_succ_eq_append_getElem hk, List.map_append]
  rfl
theorem mem_naive (l : List ByteArray) (p : List Int) (D i : Nat) (hD : D < l.length) (hi : i ≤ (docAt l (D : Int)).size) : ((D : Int), (i : Int)) ∈ keysOf (naiveOf l p) ↔ preP ((bytesOf (docAt l (D : Int))).drop i) p = true := by
  unfold keysOf naiveOf naiveTo
  constructor
  · intro h
    obtain ⟨r, hr, he⟩ := List.mem_map.1 h
    have h1 := (List.mem_filter.1 hr).2
    have e0 : r.f0 = (D : Int) := congrArg Prod.fst he
    have e1 : r.f1 = (i : Int) := congrArg Prod.snd he
    rw [e0, e1] at h1
    unfold suf at h1
    rwa [Int.toNat_natCast] at h1
  · intro h
    refine List.mem_map.2 ⟨⟨(D : Int), (i : Int)⟩, List.mem_filter.2 ⟨mem_rowsTo_mk l l.length D i hD hi, ?_⟩, rfl⟩
    dsimp only
    unfold suf
    rw [Int.toNat_natCast]
    exact h
theorem pre_cut (t p : ByteArray) (i : Nat) (h : i + p.size ≤ t.size) : preP ((bytesOf t).drop i) (bytesOf p) = ((t.extract i (i + p.size)).toList == p.toList) := by
  have e : (bytesOf t).drop i = (t.data.toList.drop i).map fun b => (b.toNat : Int) := by unfold bytesOf; rw [List.map_drop]
  rw [e]
  unfold bytesOf
  rw [pre_take, ByteArray.toList_eq, ByteArray.toList_eq, ByteArray.data_extract, Array.toList_extract, List.extract_eq_take_drop, data_length, Nat.add_sub_cancel_left]
theorem pre_far (t p : ByteArray) (i : Nat) (hi : i ≤ t.size) (h : ¬ i + p.size ≤ t.size) : preP ((bytesOf t).drop i) (bytesOf p) = false := by
  cases hp : preP ((bytesOf t).drop i) (bytesOf p) with
  | false => rfl
  | true =>
    have := pre_length _ _ hp
    rw [List.length_drop, bytesOf_length, bytesOf_length] at this
    omega
end Go.Proofs.Ytkcpkecaliegfaa.P
