/- A line's words, a number's digits, a text's hex digits, in plain Lean. Conditions: none. -/
import Derived.Test.YtbmjekekpmabbaaDoorAskPut
import Derived.Test.YtbmjekekpmabbaaDoorP6
set_option linter.unusedVariables false
set_option linter.unusedSimpArgs false
namespace Go.Proofs.YtbmjekekpmabbaaDoor.P
open Go.RowKit Go.Proofs.YtbmjekekpmabbaaDoorW.PrintWords Go.Proofs.YtbmjekekpmabbaaDoorW.PrintLast Go.Proofs.YtbmjekekpmabbaaDoorW.PrintMore

theorem split_word : ∀ (w : List UInt8), (32 : UInt8) ∉ w → splitL w = [w]
  | [], _ => rfl
  | c :: w, h => by
    rw [List.mem_cons, not_or] at h
    rw [splitL, if_neg (fun e => h.1 e.symm), split_word w h.2]
theorem split_app : ∀ (w : List UInt8), (32 : UInt8) ∉ w → ∀ l, splitL (w ++ 32 :: l) = w :: splitL l
  | [], _, l => by simp [splitL]
  | c :: w, h, l => by
    rw [List.mem_cons, not_or] at h
    rw [List.cons_append, splitL, if_neg (fun e => h.1 e.symm), split_app w h.2]
def wordsL (l : List UInt8) : List (List UInt8) := (splitL l).filter (fun w => !w.isEmpty)
theorem full_ofL (x : List UInt8) : full (ofL x) = !x.isEmpty := by
  unfold full
  rw [Lib.toList_data, show (ofL x).data.toList = x from bl_ofL x]
theorem words_L (s : ByteArray) : wordsOf s = (wordsL (bl s)).map ofL := by
  unfold wordsOf splitB wordsL
  rw [List.filter_map]
  congr 1
  exact List.filter_congr fun x _ => full_ofL x
theorem ne_isE {w : List UInt8} (h : w ≠ []) : (!w.isEmpty) = true := by cases w with | nil => exact absurd rfl h | cons a l => rfl
theorem wordsL_app (w : List UInt8) (h : (32 : UInt8) ∉ w) (hn : w ≠ []) (l : List UInt8) : wordsL (w ++ 32 :: l) = w :: wordsL l := by
  unfold wordsL
  rw [split_app w h]
  exact List.filter_cons_of_pos (p := fun w : List UInt8 => !w.isEmpty) (ne_isE hn)
theorem wordsL_sp (l : List UInt8) : wordsL (32 :: l) = wordsL l := by
  unfold wordsL
  rw [show splitL (32 :: l) = [] :: splitL l by simp [splitL]]
  rfl
theorem wordsL_sps : ∀ (k : Nat) (l : List UInt8), wordsL (List.replicate k 32 ++ l) = wordsL l
  | 0, _ => rfl
  | k + 1, l => by rw [List.replicate_succ, List.cons_append, wordsL_sp, wordsL_sps k l]
theorem wordsL_word (w : List UInt8) (h : (32 : UInt8) ∉ w) (hn : w ≠ []) : wordsL w = [w] := by
  unfold wordsL
  rw [split_word w h]
  exact List.filter_cons_of_pos (p := fun w : List UInt8 => !w.isEmpty) (l := []) (ne_isE hn)
/-- A word. -/
def IsW (w : List UInt8) : Prop := w ≠ [] ∧ (32 : UInt8) ∉ w
def joinW (k : Nat) : List (List UInt8) → List UInt8
  | [] => []
  | w :: ws => List.replicate (k + 1) 32 ++ (w ++ joinW k ws)
theorem wordsL_join (k : Nat) : ∀ (ws : List (List UInt8)) (n : List UInt8), IsW n → (∀ w ∈ ws, IsW w) → wordsL (n ++ joinW k ws) = n :: ws
  | [], n, hn, _ => by rw [joinW, List.append_nil, wordsL_word n hn.2 hn.1]
  | w :: ws, n, hn, hw => by
    rw [joinW, List.replicate_succ, List.cons_append, wordsL_app n hn.2 hn.1, wordsL_sps, wordsL_join k ws w (hw w List.mem_cons_self) (fun x hx => hw x (List.mem_cons_of_mem _ hx))]
theorem join_last (k : Nat) : ∀ (ws : List (List UInt8)) (n : List UInt8), IsW n → (∀ w ∈ ws, IsW w) → ∃ x w, n ++ joinW k ws = x ++ w ∧ IsW w
  | [], n, hn, _ => ⟨[], n, by rw [joinW, List.append_nil]; rfl, hn⟩
  | w :: ws, n, hn, hw => by
    obtain ⟨x, y, h1, h2⟩ := join_last k ws w (hw w List.mem_cons_self) (fun x hx => hw x (List.mem_cons_of_mem _ hx))
    exact ⟨n ++ (List.replicate (k + 1) 32 ++ x), y, by rw [joinW, h1]; simp, h2⟩
theorem last_word (x w : List UInt8) (h : IsW w) : (x ++ w)[(x ++ w).length - 1]? ≠ some 32 := by
  obtain ⟨hn, h32⟩ := h
  have hl : 0 < w.length := List.length_pos_iff.2 hn
  rw [List.length_append, List.getElem?_append_right (by omega)]
  intro e
  exact h32 (List.mem_of_getElem? e)
theorem first_word (n l : List UInt8) (h : IsW n) : (n ++ l)[0]? ≠ some 32 := by
  obtain ⟨hn, h32⟩ := h
  have hl : 0 < n.length := List.length_pos_iff.2 hn
  rw [List.getElem?_append_left hl]
  intro e
  exact h32 (List.mem_of_getElem? e)
theorem edge_of {s : ByteArray} {l : List UInt8} (h : bl s = l) : edgeB s = (l[0]? != some 32 && l[l.length - 1]? != some 32) := by
  unfold edgeB
  rw [bl_size, h]
theorem edge_join {s : ByteArray} {k : Nat} {n : List UInt8} {ws : List (List UInt8)} (h : bl s = n ++ joinW k ws) (hn : IsW n) (hw : ∀ w ∈ ws, IsW w) : edgeB s = true := by
  obtain ⟨x, w, h1, h2⟩ := join_last k ws n hn hw
  rw [edge_of h, bne_iff_ne.2 (first_word n _ hn), h1, bne_iff_ne.2 (last_word x w h2)]
  rfl
theorem read_words {s : ByteArray} {n : List UInt8} {ws : List (List UInt8)} (hw : wordsL (bl s) = n :: ws) (he : edgeB s = true) :
    readOf s = if kindP (ofL n) = 0 ∨ ws.length ≠ (hasOf (kindP (ofL n))).size then none else (fillL (bytesOf (hasOf (kindP (ofL n)))) (ws.map ofL) { zeroV with kind := kindP (ofL n) }).bind fun a => if a.ok = true then some a else none := by
  have h1 : wordsOf s = ofL n :: ws.map ofL := by rw [words_L, hw]; rfl
  have h2 : wd s 0 = ofL n := by unfold wd; rw [h1]; rfl
  unfold readOf
  rw [h2, h1, he, if_neg (by simp)]
  by_cases hc : kindP (ofL n) = 0 ∨ ws.length ≠ (hasOf (kindP (ofL n))).size
  · rw [if_pos hc, if_pos]
    rcases hc with hc | hc
    · exact Or.inl hc
    · refine Or.inr fun e => hc ?_
      rw [List.length_cons, List.length_map] at e
      omega
  · rw [if_neg hc, if_neg]
    · rfl
    · rintro (h | h)
      · exact hc (Or.inl h)
      · refine hc (Or.inr fun e => h ?_)
        rw [List.length_cons, List.length_map]
        omega
theorem read_join {s : ByteArray} {k : Nat} {n : List UInt8} {ws : List (List UInt8)} (h : bl s = n ++ joinW k ws) (hn : IsW n) (hw : ∀ w ∈ ws, IsW w) :
    readOf s = if kindP (ofL n) = 0 ∨ ws.length ≠ (hasOf (kindP (ofL n))).size then none else (fillL (bytesOf (hasOf (kindP (ofL n)))) (ws.map ofL) { zeroV with kind := kindP (ofL n) }).bind fun a => if a.ok = true then some a else none :=
  read_words (by rw [h]; exact wordsL_join k ws n hn hw) (edge_join h hn hw)
theorem read_edge {s : ByteArray} (h : edgeB s = false) : readOf s = none := by
  unfold readOf
  rw [if_pos (Or.inr h)]
set_option maxRecDepth 100000 in
theorem kind_name (k : Int) (h1 : 1 ≤ k) (h2 : k ≤ 9) : kindP (nameOf k) = k := by
  rcases (show k = 1 ∨ k = 2 ∨ k = 3 ∨ k = 4 ∨ k = 5 ∨ k = 6 ∨ k = 7 ∨ k = 8 ∨ k = 9 by omega) with rfl | rfl | rfl | rfl | rfl | rfl | rfl | rfl | rfl <;> decide +kernel
theorem name_word (k : Int) (h1 : 1 ≤ k) (h2 : k ≤ 9) : IsW (bl (nameOf k)) := by
  rcases (show k = 1 ∨ k = 2 ∨ k = 3 ∨ k = 4 ∨ k = 5 ∨ k = 6 ∨ k = 7 ∨ k = 8 ∨ k = 9 by omega) with rfl | rfl | rfl | rfl | rfl | rfl | rfl | rfl | rfl <;> exact ⟨by decide +kernel, by decide +kernel⟩
/- Digits. -/
def digL : Nat → Int → List Int
  | 0, _ => []
  | f + 1, n => (if n ≥ 10 then digL f (n / 10) else []) ++ [48 + n % 10]
theorem dig_rng : ∀ (f : Nat) (n : Int), ∀ x ∈ digL f n, 48 ≤ x ∧ x ≤ 57
  | 0, _, x, h => by simp [digL] at h
  | f + 1, n, x, h => by
    unfold digL at h
    rcases List.mem_append.1 h with h | h
    · split at h
      · exact dig_rng f _ x h
      · simp at h
    · simp at h
      omega
theorem dig_ne (f : Nat) (n : Int) : digL (f + 1) n ≠ [] := by simp [digL]
theorem dig_head : ∀ (f : Nat) (n : Int), 1 ≤ n → n < 10 ^ f → ∃ c l, digL f n = c :: l ∧ 49 ≤ c
  | 0, n, h1, h2 => by simp at h2; omega
  | f + 1, n, h1, h2 => by
    unfold digL
    by_cases h : n ≥ 10
    · rw [if_pos h]
      obtain ⟨c, l, e, hc⟩ := dig_head f (n / 10) (by omega) (by rw [Int.pow_succ] at h2; omega)
      exact ⟨c, l ++ [48 + n % 10], by rw [e]; rfl, hc⟩
    · rw [if_neg h]
      exact ⟨48 + n % 10, [], rfl, by omega⟩
theorem numL_app : ∀ (xs ys : List Int) (m : Int), numL m (xs ++ ys) = (numL m xs).bind fun t => numL t ys
  | [], ys, m => rfl
  | x :: xs, ys, m => by
    rw [List.cons_append, numL, numL]
    split
    · rfl
    · exact numL_app xs ys _
theorem numL_dig : ∀ (f : Nat) (n : Int), 0 ≤ n → n < 10 ^ f → n ≤ 655359 → numL 0 (digL f n) = some n
  | 0, n, h0, h1, _ => by
    have : n = 0 := by simp at h1; omega
    subst this
    rfl
  | f + 1, n, h0, h1, h2 => by
    unfold digL
    by_cases h : n ≥ 10
    · rw [if_pos h, numL_app, numL_dig f (n / 10) (by omega) (by rw [Int.pow_succ] at h1; omega) (by omega), Option.bind_some, numL, if_neg (by omega), numL]
      congr 1
      omega
    · rw [if_neg h, List.nil_append, numL, if_neg (by omega), numL]
      congr 1
      omega
def digB (n : Int) : ByteArray := strOfNums (digL 5 n)
theorem digB_bytes (n : Int) : bytesOf (digB n) = digL 5 n := strOf_bytes _ fun x hx => by have := dig_rng 5 n x hx; omega
theorem digB_size (n : Int) : 1 ≤ (digB n).size := by
  rw [← bytesOf_length, digB_bytes]
  exact List.length_pos_iff.2 (dig_ne 4 n)
theorem dig_len : ∀ (f : Nat) (n : Int), (digL f n).length ≤ f
  | 0, _ => Nat.le_refl _
  | f + 1, n => by
    unfold digL
    rw [List.length_append]
    split
    · have := dig_len f (n / 10); simp; omega
    · simp
theorem digB_small (n : Int) : (digB n).size ≤ 5 := by rw [← bytesOf_length, digB_bytes]; exact dig_len 5 n
theorem mem_bl {s : ByteArray} {c : UInt8} (h : c ∈ bl s) : (c.toNat : Int) ∈ bytesOf s := List.mem_map.2 ⟨c, h, rfl⟩
theorem digB_word (n : Int) : IsW (bl (digB n)) := by
  refine ⟨fun e => ?_, fun h => ?_⟩
  · have := digB_size n
    rw [bl_size, e] at this
    simp at this
  · have h1 := mem_bl h
    rw [digB_bytes] at h1
    have := dig_rng 5 n _ h1
    simp at this
theorem num_dig (n : Int) (h0 : 0 ≤ n) (h1 : n ≤ 65535) : numP (digB n) = some n := by
  unfold numP
  rw [if_neg, digB_bytes, numL_dig 5 n h0 (by omega) (by omega), Option.bind_some, if_pos h1]
  rintro (h | ⟨h2, h3⟩)
  · have := digB_size n; omega
  · by_cases hz : n = 0
    · subst hz
      exact absurd h2 (by decide)
    · obtain ⟨c, l, e, hc⟩ := dig_head 5 n (by omega) (by omega)
      have h4 := bytes_at (s := digB n) (k := 0) (by omega)
      rw [digB_bytes, e] at h4
      injection h4 with h4
      have h5 : bt (digB n) ((0 : Nat) : Int) = 48 := h3
      omega
theorem dig_step (x : Int) (h0 : 0 ≤ x) (h1 : x ≤ 1000000) : (wrap64 (48 + Int.tmod x 10)) % 256 = 48 + x % 10 ∧ wrap64 (Int.tdiv x 10) = x / 10 := by
  rw [Int.tmod_eq_emod_of_nonneg h0, Int.tdiv_eq_ediv_of_nonneg h0, IntWalk.wrap64_in _ (by omega), IntWalk.wrap64_in _ (by omega)]
  omega
theorem str_app (xs ys : List Int) : strOfNums xs ++ strOfNums ys = strOfNums (xs ++ ys) := by
  apply bl_inj
  rw [bl_append]
  unfold bl
  rw [strOfNums_data, strOfNums_data, strOfNums_data, List.map_append]
theorem digits_l : ∀ (f : Nat) (n : Int) (s : ByteArray), 0 < n → n < 10 ^ f → n ≤ 1000000 → s.size + f ≤ 100 → scriniumlaw20_digits.l0 (f + 1) s n = some (strOfNums (digL f n) ++ s)
  | 0, n, s, h0, h1, _, _ => by simp at h1; omega
  | f + 1, n, s, h0, h1, h2, h3 => by
    rw [scriniumlaw20_digits.l0, if_pos h0, Option.bind_some]
    obtain ⟨e1, e2⟩ := dig_step n (by omega) h2
    rw [e1, e2, strOfNums_size, if_pos (by simp; omega)]
    unfold digL
    by_cases h : n ≥ 10
    · rw [if_pos h, digits_l f (n / 10) _ (by omega) (by rw [Int.pow_succ] at h1; omega) (by omega) (by rw [ByteArray.size_append, strOfNums_size]; simp; omega), ← ByteArray.append_assoc, str_app]
    · rw [if_neg h, List.nil_append, show n / 10 = 0 by omega, scriniumlaw20_digits.l0, if_neg (by omega), if_neg]
      intro e
      have hs : (strOfNums [48 + n % 10] ++ s).size = 0 := by
        rw [bl_size]
        unfold bl
        rw [← Lib.toList_data, e]
        rfl
      rw [ByteArray.size_append, strOfNums_size] at hs
      simp at hs
theorem digits_ok (n : Int) (h0 : 0 ≤ n) (h1 : n ≤ 99999) : scriniumlaw20_digits.f 6 n = some (digB n) := by
  unfold scriniumlaw20_digits.f
  by_cases hz : n = 0
  · subst hz
    decide +kernel
  · rw [digits_l 5 n _ (by omega) (by omega) (by omega) (by decide)]
    congr 1
    apply bl_inj
    rw [bl_append]
    simp [bl, digB]
theorem digits_at (n : Int) (k : Nat) (hk : 6 ≤ k) (h0 : 0 ≤ n) (h1 : n ≤ 99999) : scriniumlaw20_digits.f k n = some (digB n) := at_rounds (fun k => scriniumlaw20_digits.mono n k) hk (digits_ok n h0 h1)
end Go.Proofs.YtbmjekekpmabbaaDoor.P
