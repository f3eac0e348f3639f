/- The marks of lists of whole numbers, and lists that are alike: plain laws. Conditions: lengths are small. -/
import Derived.Test.YtcfhcnlbegblcaaBookE
import Derived.Test.YtcfhcnlbegblcaaP2
set_option linter.unusedVariables false
set_option linter.unusedSimpArgs false
namespace Go.Proofs.Ytcfhcnlbegblcaa.P
open Go.RowKit Go.Proofs.YtcfhcnlbegblcaaW.PrintWords Go.Proofs.YtcfhcnlbegblcaaW.PrintLast Go.Proofs.YtcfhcnlbegblcaaW.PrintMore

/-- The mark at k of list i. -/
def markI (i : Int) (k : Nat) : Int := wrap64 ((wrap64 ((wrap64 ((-1000000) * i)) - (k : Int))) - 7)
def marksI (i : Int) (a n : Nat) : List Int := (List.range' a n).map (markI i)
theorem marksI_len (i : Int) (a n : Nat) : (marksI i a n).length = n := by
  unfold marksI
  rw [List.length_map, List.length_range']
theorem marksI_succ (i : Int) (a n : Nat) : marksI i a (n + 1) = marksI i a n ++ [markI i (a + n)] := by
  unfold marksI
  rw [List.range'_1_concat, List.map_append]
  rfl
theorem marksI_append (i : Int) (a n m : Nat) : marksI i a n ++ marksI i (a + n) m = marksI i a (n + m) := by
  unfold marksI
  rw [← List.map_append, List.range'_append_1]
theorem bw64 (n : Nat) (h : n ≤ 1000000000) : wrap64 (n : Int) = (n : Int) := by
  unfold wrap64
  omega
theorem markInts_l (i : Int) (a n : Nat) (hn : a + n ≤ 1000000) : ∀ (m j k : Nat), m = n - j → j ≤ n → m + 1 ≤ k → scriniumbook_markInts.l0 k i (a : Int) (n : Int) (marksI i a j) ((a + j : Nat) : Int) = some (marksI i a n) := by
  have hw : wrap64 ((a : Int) + (n : Int)) = ((a + n : Nat) : Int) := bw64 (a + n) (by omega)
  intro m
  induction m with
  | zero =>
    intro j k hm hj hk
    obtain rfl : j = n := by omega
    obtain ⟨k1, rfl⟩ : ∃ k1, k = k1 + 1 := ⟨k - 1, by omega⟩
    rw [scriniumbook_markInts.l0, hw, if_neg (by omega)]
  | succ m ih =>
    intro j k hm hj hk
    obtain ⟨k1, rfl⟩ : ∃ k1, k = k1 + 1 := ⟨k - 1, by omega⟩
    have hrec := ih (j + 1) k1 (by omega) (by omega) (by omega)
    have hw2 : wrap64 (((a + j : Nat) : Int) + 1) = ((a + (j + 1) : Nat) : Int) := bw64 (a + j + 1) (by omega)
    rw [scriniumbook_markInts.l0, hw, if_pos (by omega), if_pos (by rw [marksI_len]; omega), hw2]
    rw [marksI_succ] at hrec
    exact hrec
theorem markInts_ok (i : Int) (a n : Nat) (hn : a + n ≤ 1000000) : scriniumbook_markInts.f (n + 1) i (a : Int) (n : Int) = some (marksI i a n) := markInts_l i a n hn n 0 _ rfl (Nat.zero_le _) (Nat.le_refl _)
theorem sameInts_l (l : List Int) (hl : l.length ≤ 1000000) : ∀ (m j k : Nat), m = l.length - j → j ≤ l.length → m + 1 ≤ k → scriniumbook_SameInts.l0 k l l (j : Int) = some true := by
  intro m
  induction m with
  | zero =>
    intro j k hm hj hk
    obtain rfl : j = l.length := by omega
    obtain ⟨k1, rfl⟩ : ∃ k1, k = k1 + 1 := ⟨k - 1, by omega⟩
    rw [scriniumbook_SameInts.l0, if_neg (by omega)]
  | succ m ih =>
    intro j k hm hj hk
    obtain ⟨k1, rfl⟩ : ∃ k1, k = k1 + 1 := ⟨k - 1, by omega⟩
    have hrec := ih (j + 1) k1 (by omega) (by omega) (by omega)
    have hw : wrap64 ((j : Int) + 1) = ((j + 1 : Nat) : Int) := bw64 (j + 1) (by omega)
    rw [scriniumbook_SameInts.l0, if_pos (by omega), if_pos (by omega), if_pos (by omega), hw, if_pos rfl]
    exact hrec
theorem sameInts_ok (l : List Int) (hl : l.length ≤ 1000000) (k : Nat) (hk : l.length + 1 ≤ k) : scriniumbook_SameInts.f k l l = some true := by
  unfold scriniumbook_SameInts.f
  rw [if_pos rfl]
  exact sameInts_l l hl l.length 0 _ rfl (Nat.zero_le _) hk
/-- Lists that hold marks, each its own. -/
def markedL (xss : List (List Int)) : Prop := ∀ i, (h : i < xss.length) → xss[i] = marksI (i : Int) 0 xss[i].length ∧ xss[i].length ≤ 1000000
theorem rd_lists_get (xss : List (List Int)) (j : Nat) (h : j < xss.length) : xss.getD (j : Int).toNat ([] : List Int) = xss[j] := by
  rw [Int.toNat_natCast, List.getD_eq_getElem?_getD, List.getElem?_eq_getElem h]
  rfl
theorem markInts_any (i : Int) (n k : Nat) (hn : n ≤ 1000000) (hk : n + 1 ≤ k) : scriniumbook_markInts.f k i 0 (n : Int) = some (marksI i 0 n) := markInts_l i 0 n (by omega) n 0 k rfl (Nat.zero_le _) hk
theorem markedInts_l (xss : List (List Int)) (hl : xss.length ≤ 1000) (hx : markedL xss) : ∀ (m j k : Nat), m = xss.length - j → j ≤ xss.length → m + 1000002 ≤ k → scriniumbook_markedInts.l0 k xss (j : Int) = some true := by
  intro m
  induction m with
  | zero =>
    intro j k hm hj hk
    obtain rfl : j = xss.length := by omega
    obtain ⟨k1, rfl⟩ : ∃ k1, k = k1 + 1 := ⟨k - 1, by omega⟩
    rw [scriniumbook_markedInts.l0, if_neg (by omega)]
  | succ m ih =>
    intro j k hm hj hk
    obtain ⟨k1, rfl⟩ : ∃ k1, k = k1 + 1 := ⟨k - 1, by omega⟩
    have hrec := ih (j + 1) k1 (by omega) (by omega) (by omega)
    have hjl : j < xss.length := by omega
    obtain ⟨h1, h2⟩ := hx j hjl
    have hw : wrap64 ((j : Int) + 1) = ((j + 1 : Nat) : Int) := bw64 (j + 1) (by omega)
    rw [scriniumbook_markedInts.l0, if_pos (by omega), if_pos (by omega), show (rd_L1 xss (j : Int)) = xss[j] from rd_lists_get xss j hjl, markInts_any _ _ _ h2 (by omega), Option.bind_some, ← h1, sameInts_ok _ h2 _ (by omega), Option.bind_some, if_pos rfl, hw]
    exact hrec
theorem markedInts_ok (xss : List (List Int)) (hl : xss.length ≤ 1000) (hx : markedL xss) : scriniumbook_markedInts.f 1001003 xss = some true := markedInts_l xss hl hx xss.length 0 _ rfl (Nat.zero_le _) (by omega)
end Go.Proofs.Ytcfhcnlbegblcaa.P
