/- A text's words: where a text is cut at blanks, in plain Lean. Conditions: none. -/
import Derived.Test.YtbmjekekpmabbaaDoorP0
import Derived.Lib.Bytealg
import Derived.Lib.Strings
set_option linter.unusedVariables false
set_option linter.unusedSimpArgs false
namespace Go.Proofs.YtbmjekekpmabbaaDoor.P

def bl (s : ByteArray) : List UInt8 := s.data.toList
def ofL (l : List UInt8) : ByteArray := ⟨l.toArray⟩
theorem bl_ofL (l : List UInt8) : bl (ofL l) = l := rfl
theorem ofL_bl (s : ByteArray) : ofL (bl s) = s := rfl
theorem bl_inj {s t : ByteArray} (h : bl s = bl t) : s = t := by rw [← ofL_bl s, h, ofL_bl]
theorem bl_size (s : ByteArray) : s.size = (bl s).length := Lib.size_eq s
theorem bl_append (s t : ByteArray) : bl (s ++ t) = bl s ++ bl t := by simp [bl]
theorem bl_extract (s : ByteArray) (a b : Nat) : bl (s.extract a b) = ((bl s).drop a).take (b - a) := Lib.extract_data s a b
/-- The pieces between blanks. -/
def splitL : List UInt8 → List (List UInt8)
  | [] => [[]]
  | c :: l => if c = 32 then [] :: splitL l else match splitL l with | [] => [[c]] | x :: xs => (c :: x) :: xs
theorem splitL_ne : ∀ l, splitL l ≠ []
  | [] => by simp [splitL]
  | c :: l => by
    unfold splitL
    split
    · simp
    · split <;> simp
theorem splitL_count : ∀ l, (splitL l).length = l.count 32 + 1
  | [] => rfl
  | c :: l => by
    have ih := splitL_count l
    unfold splitL
    by_cases h : c = 32
    · rw [if_pos h, h]
      simp [ih]
    · rw [if_neg h, List.count_cons_of_ne h]
      cases hs : splitL l with
      | nil => exact absurd hs (splitL_ne l)
      | cons x xs => rw [hs] at ih; simpa using ih
theorem splitL_none : ∀ l : List UInt8, Lib.indexByte l 32 = -1 → splitL l = [l]
  | [], _ => rfl
  | c :: l, h => by
    unfold Lib.indexByte at h
    by_cases hc : c = 32
    · rw [hc] at h; simp at h
    · have hb : (c == (32 : UInt8)) = false := beq_eq_false_iff_ne.2 hc
      rw [hb] at h
      have h2 : Lib.indexByte l 32 = -1 := by
        have := Lib.indexByte_ge l 32
        by_cases h3 : Lib.indexByte l 32 = -1
        · exact h3
        · have h4 : (Lib.indexByte l 32 == -1) = false := beq_eq_false_iff_ne.2 h3
          rw [h4] at h
          simp at h
          omega
      unfold splitL
      rw [if_neg hc, splitL_none l h2]
theorem splitL_some : ∀ (l : List UInt8) (m : Nat), Lib.indexByte l 32 = m → m < l.length ∧ splitL l = l.take m :: splitL (l.drop (m + 1))
  | [], m, h => by simp [Lib.indexByte] at h
  | c :: l, m, h => by
    unfold Lib.indexByte at h
    by_cases hc : c = 32
    · rw [hc] at h
      simp at h
      obtain rfl : m = 0 := by omega
      refine ⟨by simp, ?_⟩
      rw [hc]
      simp [splitL]
    · have hb : (c == (32 : UInt8)) = false := beq_eq_false_iff_ne.2 hc
      rw [hb] at h
      by_cases h3 : Lib.indexByte l 32 = -1
      · rw [h3] at h; simp at h
      · have h4 : (Lib.indexByte l 32 == -1) = false := beq_eq_false_iff_ne.2 h3
        rw [h4] at h
        simp at h
        obtain ⟨m', rfl⟩ : ∃ m', m = m' + 1 := ⟨m - 1, by have := Lib.indexByte_ge l 32; omega⟩
        obtain ⟨h5, h6⟩ := splitL_some l m' (by omega)
        refine ⟨by simpa using h5, ?_⟩
        rw [splitL, if_neg hc, h6]
        simp
def splitB (s : ByteArray) : List ByteArray := (splitL (bl s)).map ofL
theorem splitB_len (s : ByteArray) : (splitB s).length = (bl s).count 32 + 1 := by unfold splitB; rw [List.length_map, splitL_count]
theorem splitB_none {s : ByteArray} (h : Lib.indexByte s.data.toList 32 = -1) : splitB s = [s] := by
  unfold splitB
  rw [splitL_none (bl s) h]
  rfl
theorem splitB_some {s : ByteArray} {m : Nat} (h : Lib.indexByte s.data.toList 32 = m) : m < s.size ∧ splitB s = s.extract 0 m :: splitB (s.extract (m + 1) s.size) := by
  obtain ⟨h1, h2⟩ := splitL_some _ _ h
  refine ⟨by rw [bl_size]; exact h1, ?_⟩
  have e1 : s.extract 0 m = ofL ((bl s).take m) := bl_inj (by rw [bl_extract, bl_ofL]; simp)
  have e2 : bl (s.extract (m + 1) s.size) = (bl s).drop (m + 1) := by rw [bl_extract, List.take_of_length_le]; rw [List.length_drop, bl_size]; exact Nat.le_refl _
  unfold splitB
  rw [e2, show splitL (bl s) = splitL s.data.toList from rfl, h2, List.map_cons, e1]
  rfl
theorem splitB_one {s : ByteArray} (h : (splitB s).length = 1) : splitB s = [s] := by
  have hc : (bl s).count 32 = 0 := by rw [splitB_len] at h; omega
  by_cases h1 : Lib.indexByte s.data.toList 32 = -1
  · exact splitB_none h1
  · obtain ⟨m, hm⟩ : ∃ m : Nat, Lib.indexByte s.data.toList 32 = m := ⟨(Lib.indexByte s.data.toList 32).toNat, by have := Lib.indexByte_ge s.data.toList 32; omega⟩
    obtain ⟨_, h2⟩ := splitB_some hm
    rw [h2, List.length_cons, splitB_len] at h
    omega
theorem splitB_two {s : ByteArray} (h : (splitB s).length ≠ 1) : ∃ m : Nat, Lib.indexByte s.data.toList 32 = m := by
  by_cases h1 : Lib.indexByte s.data.toList 32 = -1
  · rw [splitB_none h1] at h
    exact absurd rfl h
  · exact ⟨(Lib.indexByte s.data.toList 32).toNat, by have := Lib.indexByte_ge s.data.toList 32; omega⟩
theorem count_size (s : ByteArray) : (bl s).count 32 ≤ s.size := by rw [bl_size]; exact List.count_le_length
/-- A line's words. -/
def full (w : ByteArray) : Bool := !w.toList.isEmpty
def wordsOf (s : ByteArray) : List ByteArray := (splitB s).filter full
end Go.Proofs.YtbmjekekpmabbaaDoor.P
