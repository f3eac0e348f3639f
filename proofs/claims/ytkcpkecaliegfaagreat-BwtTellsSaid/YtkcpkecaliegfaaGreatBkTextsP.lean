/- Lists of one kind (Texts): their marks, what is alike, what is copied: plain laws and contracts. Conditions: lengths are small. -/
import Derived.Test.YtkcpkecaliegfaaGreatBkC
import Derived.Test.YtkcpkecaliegfaaGreatPi
set_option linter.unusedVariables false
set_option linter.unusedSimpArgs false
namespace Go.Proofs.YtkcpkecaliegfaaGreat.P
open Go.RowKit Go.Proofs.YtkcpkecaliegfaaGreatW.PrintWords Go.Proofs.YtkcpkecaliegfaaGreatW.PrintLast Go.Proofs.YtkcpkecaliegfaaGreatW.PrintMore

theorem flatTexts : Flat Kd.string (fun x => [Value.string x]) := Flat.scalar _ _
theorem infoTexts1 : ((Tryz.prog).info? 9).map (fun i => (i.zero, i.size, i.bytes)) = some (some (.string ByteArray.empty), 1, 16) := by kernel_rfl
theorem infoTexts : ∃ i z, (Tryz.prog).info? 9 = some i ∧ i.zero = some z ∧ i.size = (Kd.string).sz ∧ i.bytes = 16 ∧ z.cells.size = (Kd.string).sz := by
 have h : ((Tryz.prog).info? 9).map (fun i => (i.zero, i.size, i.bytes)) = some (some (.string ByteArray.empty), 1, 16) := by kernel_rfl
 obtain ⟨i, hi, he⟩ := Option.map_eq_some_iff.1 h
 simp only [Prod.mk.injEq] at he
 exact ⟨i, .string ByteArray.empty, hi, he.1, he.2.1, he.2.2, rfl⟩
theorem infoTextsL : ((Tryz.prog).info? 23).map (fun i => (i.zero, i.size, i.bytes)) = some (some (.slice none 0 0), 1, 24) := by kernel_rfl
theorem lneTexts : (23 : TypeId) ≠ 9 := by decide
theorem sameTexts_l (l : List ByteArray) (hl : l.length ≤ 1000000) : ∀ (m j k : Nat), m = l.length - j → j ≤ l.length → m + 1 ≤ k → scriniumbook_SameTexts.l0 k l l (j : Int) = some true := by
 intro m
 induction m with
 | zero =>
  intro j k hm hj hk
  obtain rfl : j = l.length := by omega
  obtain ⟨k1, rfl⟩ : ∃ k1, k = k1 + 1 := ⟨k - 1, by omega⟩
  rw [scriniumbook_SameTexts.l0, if_neg (by omega)]
 | succ m ih =>
  intro j k hm hj hk
  obtain ⟨k1, rfl⟩ : ∃ k1, k = k1 + 1 := ⟨k - 1, by omega⟩
  have hrec := ih (j + 1) k1 (by omega) (by omega) (by omega)
  have hw : wrap64 ((j : Int) + 1) = ((j + 1 : Nat) : Int) := bw64 (j + 1) (by omega)
  rw [scriniumbook_SameTexts.l0, if_pos (by omega), if_pos (by omega), if_pos (by omega), hw, if_pos (by simp)]
  exact hrec
theorem sameTexts_ok (l : List ByteArray) (hl : l.length ≤ 1000000) (k : Nat) (hk : l.length + 1 ≤ k) : scriniumbook_SameTexts.f k l l = some true := by
 unfold scriniumbook_SameTexts.f
 rw [if_pos rfl]
 exact sameTexts_l l hl l.length 0 _ rfl (Nat.zero_le _) hk
theorem sameTexts_calls (a a' : Option Addr) (k k' : Nat) (xs : List ByteArray) (w : World) (hC : Kd.C Kd.string w a xs.length xs) (hC' : Kd.C Kd.string w a' xs.length xs) (hk : xs.length ≤ k) (hk' : xs.length ≤ k') (hs : xs.length ≤ 1000000) :
  Calls Tryz.prog 35 #[.slice a xs.length k, .slice a' xs.length k'] w fun e w' => e = .returned (.bool true) ∧ Below w.heap.size w w' :=
 (scriniumbook_SameTexts.calls (xs.length + 1) a k xs a' k' xs true w hC hk hC' hk' (sameTexts_ok xs hs _ (Nat.le_refl _))).mono fun _ _ h => ⟨h.1, h.2.below⟩
theorem copyTexts_ok (l : List ByteArray) (h : l.length ≤ 900000) : scriniumbook_copyTexts.f l = some l := by
 unfold scriniumbook_copyTexts.f
 rw [if_pos (by rw [List.length_nil]; omega), List.nil_append]
theorem copyTexts_calls (a : Option Addr) (k : Nat) (xs : List ByteArray) (w : World) (hC : Kd.C Kd.string w a xs.length xs) (hk : xs.length ≤ k) (h : xs.length ≤ 900000) :
  Calls Tryz.prog 79 #[.slice a xs.length k] w fun e w' => ∃ v, e = .returned v ∧ Kd.R Kd.string 9 w' w.heap.size (fun _ => True) v xs ∧ Below w.heap.size w w' :=
 scriniumbook_copyTexts.calls a k xs xs w hC hk (copyTexts_ok xs h)
/-- The mark at k of list i. -/
def mkTexts (i : Int) (k : Nat) : ByteArray := (scriniumbook_name.f i (k : Int)).getD ByteArray.empty
theorem markTexts_l (i : Int) (a n : Nat) (hn : a + n ≤ 1000000) : ∀ (m j k : Nat), m = n - j → j ≤ n → m + 1 ≤ k → scriniumbook_markTexts.l0 k i (a : Int) (n : Int) (marksOf mkTexts i a j) ((a + j : Nat) : Int) = some (marksOf mkTexts i a n) := by
 have hw : wrap64 ((a : Int) + (n : Int)) = ((a + n : Nat) : Int) := bw64 (a + n) (by omega)
 intro m
 induction m with
 | zero =>
  intro j k hm hj hk
  obtain rfl : j = n := by omega
  obtain ⟨k1, rfl⟩ : ∃ k1, k = k1 + 1 := ⟨k - 1, by omega⟩
  rw [scriniumbook_markTexts.l0, hw, if_neg (by omega)]
 | succ m ih =>
  intro j k hm hj hk
  obtain ⟨k1, rfl⟩ : ∃ k1, k = k1 + 1 := ⟨k - 1, by omega⟩
  have hrec := ih (j + 1) k1 (by omega) (by omega) (by omega)
  have hw2 : wrap64 (((a + j : Nat) : Int) + 1) = ((a + (j + 1) : Nat) : Int) := bw64 (a + j + 1) (by omega)
  rw [scriniumbook_markTexts.l0, hw, if_pos (by omega), show scriniumbook_name.f i ((a + j : Nat) : Int) = some (mkTexts i (a + j)) from rfl, Option.bind_some, if_pos (by rw [marks_len]; omega), hw2]
  rw [marks_succ] at hrec
  exact hrec
theorem markTexts_ok (i : Int) (a n k : Nat) (hn : a + n ≤ 1000000) (hk : n + 1 ≤ k) : scriniumbook_markTexts.f k i (a : Int) (n : Int) = some (marksOf mkTexts i a n) := markTexts_l i a n hn n 0 k rfl (Nat.zero_le _) hk
theorem markTexts_calls (i a n : Nat) (w : World) (hi : i ≤ 1000) (h : a + n ≤ 1000000) : Calls Tryz.prog 91 #[.int .i64 (i : Int), .int .i64 (a : Int), .int .i64 (n : Int)] w fun e w' => ∃ v, e = .returned v ∧ Kd.R Kd.string 9 w' w.heap.size (fun _ => True) v (marksOf mkTexts (i : Int) a n) ∧ Below w.heap.size w w' :=
 scriniumbook_markTexts.calls (n + 1) (i : Int) (a : Int) (n : Int) (marksOf mkTexts (i : Int) a n) w (markTexts_ok _ _ _ _ h (Nat.le_refl _))
end Go.Proofs.YtkcpkecaliegfaaGreat.P
