/- The line and the request that a law makes of a kind and its numbers, in plain Lean. Conditions: none. -/
import Derived.Test.YtbmjekekpmabbaaDoorAskWhole
set_option linter.unusedVariables false
set_option linter.unusedSimpArgs false
namespace Go.Proofs.YtbmjekekpmabbaaDoor.P
open Go.RowKit Go.Proofs.YtbmjekekpmabbaaDoorW.PrintWords Go.Proofs.YtbmjekekpmabbaaDoorW.PrintLast Go.Proofs.YtbmjekekpmabbaaDoorW.PrintMore

def vOf (x : Int) : Int := Int.tmod (Int.tmod x 65536 + 65536) 65536
theorem vOf_rng (x : Int) : 0 ≤ vOf x ∧ vOf x ≤ 65535 := by
  unfold vOf
  have h1 := Int.tmod_lt_of_pos x (show (0 : Int) < 65536 by decide)
  have h2 := Int.lt_tmod_of_pos x (show (0 : Int) < 65536 by decide)
  rw [Int.tmod_eq_emod_of_nonneg (by omega)]
  omega
def flag (k : Int) (i : Nat) : Bool := if i = 0 then (hasB k).2.1 else if i = 1 then (hasB k).2.2.1 else if i = 2 then (hasB k).2.2.2.1 else (hasB k).2.2.2.2
def setI (a : AskV) (i : Nat) (v : Int) : AskV := if i = 0 then { a with id := v } else if i = 1 then { a with fr := v } else if i = 2 then { a with tt := v } else { a with snap := v }
def aTo (k : Int) (v : Nat → Int) (a0 : AskV) : Nat → AskV
  | 0 => a0
  | i + 1 => if flag k i = true then setI (aTo k v a0 i) i (v i) else aTo k v a0 i
def lTo (k : Int) (v : Nat → Int) (l0 : ByteArray) : Nat → ByteArray
  | 0 => l0
  | i + 1 => if flag k i = true then lTo k v l0 i ++ (⟨#[32]⟩ ++ digB (v i)) else lTo k v l0 i
def a0Of (k : Int) (text : ByteArray) : AskV := if (hasB k).1 = true then { zeroV with kind := k, text := text } else { zeroV with kind := k }
def l0Of (k : Int) (text : ByteArray) : ByteArray := if (hasB k).1 = true then nameOf k ++ (⟨#[32]⟩ ++ hexB text) else nameOf k
theorem setI_cells (a : AskV) (i : Nat) (v : Int) (h : i ≤ 3) : (setI a i v).cells = a.cells.setIfInBounds (i + 1) (.int .i64 v) := by
  rcases (show i = 0 ∨ i = 1 ∨ i = 2 ∨ i = 3 by omega) with rfl | rfl | rfl | rfl <;> rfl
theorem sizes_lt (k : Int) (v : Nat → Int) (l0 : ByteArray) : ∀ i, (lTo k v l0 i).size ≤ l0.size + 6 * i
  | 0 => Nat.le_refl _
  | i + 1 => by
    have ih := sizes_lt k v l0 i
    unfold lTo
    split
    · have := digB_small (v i)
      simp only [ByteArray.size_append]
      have h1 : (⟨#[32]⟩ : ByteArray).size = 1 := rfl
      omega
    · omega
theorem name_small (k : Int) : (nameOf k).size ≤ 20 := by
  by_cases h : 1 ≤ k ∧ k ≤ 9
  · rcases (show k = 1 ∨ k = 2 ∨ k = 3 ∨ k = 4 ∨ k = 5 ∨ k = 6 ∨ k = 7 ∨ k = 8 ∨ k = 9 by omega) with rfl | rfl | rfl | rfl | rfl | rfl | rfl | rfl | rfl <;> decide +kernel
  · rw [name_out k (by omega)]; decide
theorem l0_small (k : Int) (text : ByteArray) (h : text.size ≤ 40) : (l0Of k text).size ≤ 102 := by
  have h1 := name_small k
  have h2 := hexB_size text
  have h3 : (⟨#[32]⟩ : ByteArray).size = 1 := rfl
  unfold l0Of
  split
  · simp only [ByteArray.size_append]
    omega
  · omega
theorem has_flags (k : Int) (h1 : 1 ≤ k) (h2 : k ≤ 9) : hasB k = ((hasBytes k).contains 116, (hasBytes k).contains 105, (hasBytes k).contains 102, (hasBytes k).contains 111, (hasBytes k).contains 115) := by
  obtain ⟨_, e0, e1, e2, e3, e4⟩ := has_bytes k h1 h2
  unfold hasB
  rw [e0, e1, e2, e3, e4]
theorem say_ok (k : Int) (h1 : 1 ≤ k) (h2 : k ≤ 9) (v : Nat → Int) (hv : ∀ i, 0 ≤ v i ∧ v i ≤ 65535) (text : ByteArray) (hx : text.size ≤ 40) : (aTo k v (a0Of k text) 4).ok = true := by
  have v0 := hv 0
  have v1 := hv 1
  have v2 := hv 2
  have v3 := hv 3
  obtain ⟨_, e0, e1, e2, e3, e4⟩ := has_bytes k h1 h2
  have hf := has_flags k h1 h2
  have hn := name_in k h1 h2
  have z0 : (⟨#[]⟩ : ByteArray).size = 0 := rfl
  clear hv
  rcases (show k = 1 ∨ k = 2 ∨ k = 3 ∨ k = 4 ∨ k = 5 ∨ k = 6 ∨ k = 7 ∨ k = 8 ∨ k = 9 by omega) with rfl | rfl | rfl | rfl | rfl | rfl | rfl | rfl | rfl
  all_goals
    simp [hasBytes] at e0 e1 e2 e3 e4 hf
    simp [AskV.ok, askB, aTo, flag, hf, setI, a0Of, zeroV, letOk, hn, z0, e0, e1, e2, e3, e4]
    try omega
theorem say_bl (k : Int) (h1 : 1 ≤ k) (h2 : k ≤ 9) (v : Nat → Int) (text : ByteArray) : bl (lTo k v (l0Of k text) 4) = bl (nameOf (aTo k v (a0Of k text) 4).kind) ++ joinW 0 ((bytesOf (hasOf (aTo k v (a0Of k text) 4).kind)).map fun c => bl (wordC (aTo k v (a0Of k text) 4) c)) := by
  obtain ⟨e5, e0, e1, e2, e3, e4⟩ := has_bytes k h1 h2
  have hf := has_flags k h1 h2
  have hk : (aTo k v (a0Of k text) 4).kind = k := by
    clear e5 e0 e1 e2 e3 e4
    rcases (show k = 1 ∨ k = 2 ∨ k = 3 ∨ k = 4 ∨ k = 5 ∨ k = 6 ∨ k = 7 ∨ k = 8 ∨ k = 9 by omega) with rfl | rfl | rfl | rfl | rfl | rfl | rfl | rfl | rfl
    all_goals
      simp [hasBytes] at hf
      simp [aTo, flag, hf, setI, a0Of, zeroV]
  rw [hk, e5]
  have b32 : bl (⟨#[32]⟩ : ByteArray) = [32] := rfl
  clear e5 hk e0 e1 e2 e3 e4
  rcases (show k = 1 ∨ k = 2 ∨ k = 3 ∨ k = 4 ∨ k = 5 ∨ k = 6 ∨ k = 7 ∨ k = 8 ∨ k = 9 by omega) with rfl | rfl | rfl | rfl | rfl | rfl | rfl | rfl | rfl
  all_goals
    simp [hasBytes] at hf
    simp [hasBytes, lTo, aTo, flag, hf, setI, a0Of, l0Of, zeroV, joinW, wordC, fieldC, bl_append, b32]
theorem say_reads (k : Int) (h1 : 1 ≤ k) (h2 : k ≤ 9) (v : Nat → Int) (hv : ∀ i, 0 ≤ v i ∧ v i ≤ 65535) (text : ByteArray) (hx : text.size ≤ 40) : readOf (lTo k v (l0Of k text) 4) = some (aTo k v (a0Of k text) 4) :=
  read_line (say_ok k h1 h2 v hv text hx) (say_bl k h1 h2 v text)
end Go.Proofs.YtbmjekekpmabbaaDoor.P
