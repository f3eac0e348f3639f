/- A line's words, a number's digits, a text's hex digits, in plain Lean. Conditions: none. -/
import Derived.Test.YtbmjekekpmabbaaDoorAskPut
import Derived.Test.YtbmjekekpmabbaaDoorP6
import Derived.Test.YtbmjekekpmabbaaDoorP3
import Derived.Test.YtbmjekekpmabbaaDoorP5
section
set_option linter.unusedVariables false
set_option linter.unusedSimpArgs false
namespace Go.Proofs.YtbmjekekpmabbaaDoor.P
open Go.RowKit Go.Proofs.YtbmjekekpmabbaaDoorW.PrintWords Go.Proofs.YtbmjekekpmabbaaDoorW.PrintLast Go.Proofs.YtbmjekekpmabbaaDoorW.PrintMore

theorem split_word : ∀ (w : List UInt8), (32 : UInt8) ∉ w → splitL w = [w]
  | [], _ => rfl
  | c :: w, h => by
    rw [List.mem_cons, not_or] at h
    rw [splitL, if_neg (fun e => h.1 e.symm), split_word w h.2]
theorem split_app : ∀ (w : List UInt8), (32 : UInt8) ∉ w → ∀ l, splitL (w ++ 32 :: l) = w :: splitL l
  | [], _, l => by simp [splitL]
  | c :: w, h, l => by
    rw [List.mem_cons, not_or] at h
    rw [List.cons_append, splitL, if_neg (fun e => h.1 e.symm), split_app w h.2]
def wordsL (l : List UInt8) : List (List UInt8) := (splitL l).filter (fun w => !w.isEmpty)
theorem full_ofL (x : List UInt8) : full (ofL x) = !x.isEmpty := by
  unfold full
  rw [Lib.toList_data, show (ofL x).data.toList = x from bl_ofL x]
theorem words_L (s : ByteArray) : wordsOf s = (wordsL (bl s)).map ofL := by
  unfold wordsOf splitB wordsL
  rw [List.filter_map]
  congr 1
  exact List.filter_congr fun x _ => full_ofL x
theorem ne_isE {w : List UInt8} (h : w ≠ []) : (!w.isEmpty) = true := by cases w with | nil => exact absurd rfl h | cons a l => rfl
theorem wordsL_app (w : List UInt8) (h : (32 : UInt8) ∉ w) (hn : w ≠ []) (l : List UInt8) : wordsL (w ++ 32 :: l) = w :: wordsL l := by
  unfold wordsL
  rw [split_app w h]
  exact List.filter_cons_of_pos (p := fun w : List UInt8 => !w.isEmpty) (ne_isE hn)
theorem wordsL_sp (l : List UInt8) : wordsL (32 :: l) = wordsL l := by
  unfold wordsL
  rw [show splitL (32 :: l) = [] :: splitL l by simp [splitL]]
  rfl
theorem wordsL_sps : ∀ (k : Nat) (l : List UInt8), wordsL (List.replicate k 32 ++ l) = wordsL l
  | 0, _ => rfl
  | k + 1, l => by rw [List.replicate_succ, List.cons_append, wordsL_sp, wordsL_sps k l]
theorem wordsL_word (w : List UInt8) (h : (32 : UInt8) ∉ w) (hn : w ≠ []) : wordsL w = [w] := by
  unfold wordsL
  rw [split_word w h]
  exact List.filter_cons_of_pos (p := fun w : List UInt8 => !w.isEmpty) (l := []) (ne_isE hn)
/-- A word. -/
def IsW (w : List UInt8) : Prop := w ≠ [] ∧ (32 : UInt8) ∉ w
def joinW (k : Nat) : List (List UInt8) → List UInt8
  | [] => []
  | w :: ws => List.replicate (k + 1) 32 ++ (w ++ joinW k ws)
theorem wordsL_join (k : Nat) : ∀ (ws : List (List UInt8)) (n : List UInt8), IsW n → (∀ w ∈ ws, IsW w) → wordsL (n ++ joinW k ws) = n :: ws
  | [], n, hn, _ => by rw [joinW, List.append_nil, wordsL_word n hn.2 hn.1]
  | w :: ws, n, hn, hw => by
    rw [joinW, List.replicate_succ, List.cons_append, wordsL_app n hn.2 hn.1, wordsL_sps, wordsL_join k ws w (hw w List.mem_cons_self) (fun x hx => hw x (List.mem_cons_of_mem _ hx))]
theorem join_last (k : Nat) : ∀ (ws : List (List UInt8)) (n : List UInt8), IsW n → (∀ w ∈ ws, IsW w) → ∃ x w, n ++ joinW k ws = x ++ w ∧ IsW w
  | [], n, hn, _ => ⟨[], n, by rw [joinW, List.append_nil]; rfl, hn⟩
  | w :: ws, n, hn, hw => by
    obtain ⟨x, y, h1, h2⟩ := join_last k ws w (hw w List.mem_cons_self) (fun x hx => hw x (List.mem_cons_of_mem _ hx))
    exact ⟨n ++ (List.replicate (k + 1) 32 ++ x), y, by rw [joinW, h1]; simp, h2⟩
theorem last_word (x w : List UInt8) (h : IsW w) : (x ++ w)[(x ++ w).length - 1]? ≠ some 32 := by
  obtain ⟨hn, h32⟩ := h
  have hl : 0 < w.length := List.length_pos_iff.2 hn
  rw [List.length_append, List.getElem?_append_right (by omega)]
  intro e
  exact h32 (List.mem_of_getElem? e)
theorem first_word (n l : List UInt8) (h : IsW n) : (n ++ l)[0]? ≠ some 32 := by
  obtain ⟨hn, h32⟩ := h
  have hl : 0 < n.length := List.length_pos_iff.2 hn
  rw [List.getElem?_append_left hl]
  intro e
  exact h32 (List.mem_of_getElem? e)
theorem edge_of {s : ByteArray} {l : List UInt8} (h : bl s = l) : edgeB s = (l[0]? != some 32 && l[l.length - 1]? != some 32) := by
  unfold edgeB
  rw [bl_size, h]
theorem edge_join {s : ByteArray} {k : Nat} {n : List UInt8} {ws : List (List UInt8)} (h : bl s = n ++ joinW k ws) (hn : IsW n) (hw : ∀ w ∈ ws, IsW w) : edgeB s = true := by
  obtain ⟨x, w, h1, h2⟩ := join_last k ws n hn hw
  rw [edge_of h, bne_iff_ne.2 (first_word n _ hn), h1, bne_iff_ne.2 (last_word x w h2)]
  rfl
theorem read_words {s : ByteArray} {n : List UInt8} {ws : List (List UInt8)} (hw : wordsL (bl s) = n :: ws) (he : edgeB s = true) :
    readOf s = if kindP (ofL n) = 0 ∨ ws.length ≠ (hasOf (kindP (ofL n))).size then none else (fillL (bytesOf (hasOf (kindP (ofL n)))) (ws.map ofL) { zeroV with kind := kindP (ofL n) }).bind fun a => if a.ok = true then some a else none := by
  have h1 : wordsOf s = ofL n :: ws.map ofL := by rw [words_L, hw]; rfl
  have h2 : wd s 0 = ofL n := by unfold wd; rw [h1]; rfl
  unfold readOf
  rw [h2, h1, he, if_neg (by simp)]
  by_cases hc : kindP (ofL n) = 0 ∨ ws.length ≠ (hasOf (kindP (ofL n))).size
  · rw [if_pos hc, if_pos]
    rcases hc with hc | hc
    · exact Or.inl hc
    · refine Or.inr fun e => hc ?_
      rw [List.length_cons, List.length_map] at e
      omega
  · rw [if_neg hc, if_neg]
    · rfl
    · rintro (h | h)
      · exact hc (Or.inl h)
      · refine hc (Or.inr fun e => h ?_)
        rw [List.length_cons, List.length_map]
        omega
theorem read_join {s : ByteArray} {k : Nat} {n : List UInt8} {ws : List (List UInt8)} (h : bl s = n ++ joinW k ws) (hn : IsW n) (hw : ∀ w ∈ ws, IsW w) :
    readOf s = if kindP (ofL n) = 0 ∨ ws.length ≠ (hasOf (kindP (ofL n))).size then none else (fillL (bytesOf (hasOf (kindP (ofL n)))) (ws.map ofL) { zeroV with kind := kindP (ofL n) }).bind fun a => if a.ok = true then some a else none :=
  read_words (by rw [h]; exact wordsL_join k ws n hn hw) (edge_join h hn hw)
theorem read_edge {s : ByteArray} (h : edgeB s = false) : readOf s = none := by
  unfold readOf
  rw [if_pos (Or.inr h)]
set_option maxRecDepth 100000 in
theorem kind_name (k : Int) (h1 : 1 ≤ k) (h2 : k ≤ 9) : kindP (nameOf k) = k := by
  rcases (show k = 1 ∨ k = 2 ∨ k = 3 ∨ k = 4 ∨ k = 5 ∨ k = 6 ∨ k = 7 ∨ k = 8 ∨ k = 9 by omega) with rfl | rfl | rfl | rfl | rfl | rfl | rfl | rfl | rfl <;> decide +kernel
theorem name_word (k : Int) (h1 : 1 ≤ k) (h2 : k ≤ 9) : IsW (bl (nameOf k)) := by
  rcases (show k = 1 ∨ k = 2 ∨ k = 3 ∨ k = 4 ∨ k = 5 ∨ k = 6 ∨ k = 7 ∨ k = 8 ∨ k = 9 by omega) with rfl | rfl | rfl | rfl | rfl | rfl | rfl | rfl | rfl <;> exact ⟨by decide +kernel, by decide +kernel⟩
/- Digits. -/
def digL : Nat → Int → List Int
  | 0, _ => []
  | f + 1, n => (if n ≥ 10 then digL f (n / 10) else []) ++ [48 + n % 10]
theorem dig_rng : ∀ (f : Nat) (n : Int), ∀ x ∈ digL f n, 48 ≤ x ∧ x ≤ 57
  | 0, _, x, h => by simp [digL] at h
  | f + 1, n, x, h => by
    unfold digL at h
    rcases List.mem_append.1 h with h | h
    · split at h
      · exact dig_rng f _ x h
      · simp at h
    · simp at h
      omega
theorem dig_ne (f : Nat) (n : Int) : digL (f + 1) n ≠ [] := by simp [digL]
theorem dig_head : ∀ (f : Nat) (n : Int), 1 ≤ n → n < 10 ^ f → ∃ c l, digL f n = c :: l ∧ 49 ≤ c
  | 0, n, h1, h2 => by simp at h2; omega
  | f + 1, n, h1, h2 => by
    unfold digL
    by_cases h : n ≥ 10
    · rw [if_pos h]
      obtain ⟨c, l, e, hc⟩ := dig_head f (n / 10) (by omega) (by rw [Int.pow_succ] at h2; omega)
      exact ⟨c, l ++ [48 + n % 10], by rw [e]; rfl, hc⟩
    · rw [if_neg h]
      exact ⟨48 + n % 10, [], rfl, by omega⟩
theorem numL_app : ∀ (xs ys : List Int) (m : Int), numL m (xs ++ ys) = (numL m xs).bind fun t => numL t ys
  | [], ys, m => rfl
  | x :: xs, ys, m => by
    rw [List.cons_append, numL, numL]
    split
    · rfl
    · exact numL_app xs ys _
theorem numL_dig : ∀ (f : Nat) (n : Int), 0 ≤ n → n < 10 ^ f → n ≤ 655359 → numL 0 (digL f n) = some n
  | 0, n, h0, h1, _ => by
    have : n = 0 := by simp at h1; omega
    subst this
    rfl
  | f + 1, n, h0, h1, h2 => by
    unfold digL
    by_cases h : n ≥ 10
    · rw [if_pos h, numL_app, numL_dig f (n / 10) (by omega) (by rw [Int.pow_succ] at h1; omega) (by omega), Option.bind_some, numL, if_neg (by omega), numL]
      congr 1
      omega
    · rw [if_neg h, List.nil_append, numL, if_neg (by omega), numL]
      congr 1
      omega
def digB (n : Int) : ByteArray := strOfNums (digL 5 n)
theorem digB_bytes (n : Int) : bytesOf (digB n) = digL 5 n := strOf_bytes _ fun x hx => by have := dig_rng 5 n x hx; omega
theorem digB_size (n : Int) : 1 ≤ (digB n).size := by
  rw [← bytesOf_length, digB_bytes]
  exact List.length_pos_iff.2 (dig_ne 4 n)
theorem dig_len : ∀ (f : Nat) (n : Int), (digL f n).length ≤ f
  | 0, _ => Nat.le_refl _
  | f + 1, n => by
    unfold digL
    rw [List.length_append]
    split
    · have := dig_len f (n / 10); simp; omega
    · simp
theorem digB_small (n : Int) : (digB n).size ≤ 5 := by rw [← bytesOf_length, digB_bytes]; exact dig_len 5 n
theorem mem_bl {s : ByteArray} {c : UInt8} (h : c ∈ bl s) : (c.toNat : Int) ∈ bytesOf s := List.mem_map.2 ⟨c, h, rfl⟩
theorem digB_word (n : Int) : IsW (bl (digB n)) := by
  refine ⟨fun e => ?_, fun h => ?_⟩
  · have := digB_size n
    rw [bl_size, e] at this
    simp at this
  · have h1 := mem_bl h
    rw [digB_bytes] at h1
    have := dig_rng 5 n _ h1
    simp at this
theorem num_dig (n : Int) (h0 : 0 ≤ n) (h1 : n ≤ 65535) : numP (digB n) = some n := by
  unfold numP
  rw [if_neg, digB_bytes, numL_dig 5 n h0 (by omega) (by omega), Option.bind_some, if_pos h1]
  rintro (h | ⟨h2, h3⟩)
  · have := digB_size n; omega
  · by_cases hz : n = 0
    · subst hz
      exact absurd h2 (by decide)
    · obtain ⟨c, l, e, hc⟩ := dig_head 5 n (by omega) (by omega)
      have h4 := bytes_at (s := digB n) (k := 0) (by omega)
      rw [digB_bytes, e] at h4
      injection h4 with h4
      have h5 : bt (digB n) ((0 : Nat) : Int) = 48 := h3
      omega
theorem dig_step (x : Int) (h0 : 0 ≤ x) (h1 : x ≤ 1000000) : (wrap64 (48 + Int.tmod x 10)) % 256 = 48 + x % 10 ∧ wrap64 (Int.tdiv x 10) = x / 10 := by
  rw [Int.tmod_eq_emod_of_nonneg h0, Int.tdiv_eq_ediv_of_nonneg h0, IntWalk.wrap64_in _ (by omega), IntWalk.wrap64_in _ (by omega)]
  omega
theorem str_app (xs ys : List Int) : strOfNums xs ++ strOfNums ys = strOfNums (xs ++ ys) := by
  apply bl_inj
  rw [bl_append]
  unfold bl
  rw [strOfNums_data, strOfNums_data, strOfNums_data, List.map_append]
theorem digits_l : ∀ (f : Nat) (n : Int) (s : ByteArray), 0 < n → n < 10 ^ f → n ≤ 1000000 → s.size + f ≤ 100 → scriniumlaw20_digits.l0 (f + 1) s n = some (strOfNums (digL f n) ++ s)
  | 0, n, s, h0, h1, _, _ => by simp at h1; omega
  | f + 1, n, s, h0, h1, h2, h3 => by
    rw [scriniumlaw20_digits.l0, if_pos h0, Option.bind_some]
    obtain ⟨e1, e2⟩ := dig_step n (by omega) h2
    rw [e1, e2, strOfNums_size, if_pos (by simp; omega)]
    unfold digL
    by_cases h : n ≥ 10
    · rw [if_pos h, digits_l f (n / 10) _ (by omega) (by rw [Int.pow_succ] at h1; omega) (by omega) (by rw [ByteArray.size_append, strOfNums_size]; simp; omega), ← ByteArray.append_assoc, str_app]
    · rw [if_neg h, List.nil_append, show n / 10 = 0 by omega, scriniumlaw20_digits.l0, if_neg (by omega), if_neg]
      intro e
      have hs : (strOfNums [48 + n % 10] ++ s).size = 0 := by
        rw [bl_size]
        unfold bl
        rw [← Lib.toList_data, e]
        rfl
      rw [ByteArray.size_append, strOfNums_size] at hs
      simp at hs
theorem digits_ok (n : Int) (h0 : 0 ≤ n) (h1 : n ≤ 99999) : scriniumlaw20_digits.f 6 n = some (digB n) := by
  unfold scriniumlaw20_digits.f
  by_cases hz : n = 0
  · subst hz
    decide +kernel
  · rw [digits_l 5 n _ (by omega) (by omega) (by omega) (by decide)]
    congr 1
    apply bl_inj
    rw [bl_append]
    simp [bl, digB]
theorem digits_at (n : Int) (k : Nat) (hk : 6 ≤ k) (h0 : 0 ≤ n) (h1 : n ≤ 99999) : scriniumlaw20_digits.f k n = some (digB n) := at_rounds (fun k => scriniumlaw20_digits.mono n k) hk (digits_ok n h0 h1)
end Go.Proofs.YtbmjekekpmabbaaDoor.P

end
section
set_option linter.unusedVariables false
set_option linter.unusedSimpArgs false
namespace Go.Proofs.YtbmjekekpmabbaaDoor.P
open Go.RowKit Go.Proofs.YtbmjekekpmabbaaDoorW.PrintWords Go.Proofs.YtbmjekekpmabbaaDoorW.PrintLast Go.Proofs.YtbmjekekpmabbaaDoorW.PrintMore

theorem wl (x y : Int) (h : -9223372036854775808 ≤ x ∧ x ≤ 9223372036854775807) (e : x = y) : wrap64 x = y := by rw [IntWalk.wrap64_in _ (by omega)]; exact e
theorem refName_same (k : Int) : scriniumref1_Name.f k = some (nameOf k) := by
  by_cases h : 1 ≤ k ∧ k ≤ 9
  · rcases (show k = 1 ∨ k = 2 ∨ k = 3 ∨ k = 4 ∨ k = 5 ∨ k = 6 ∨ k = 7 ∨ k = 8 ∨ k = 9 by omega) with rfl | rfl | rfl | rfl | rfl | rfl | rfl | rfl | rfl <;> decide +kernel
  · rw [name_out k (by omega)]
    unfold scriniumref1_Name.f
    rw [if_neg (by omega), if_neg (by omega), if_neg (by omega), if_neg (by omega), if_neg (by omega), if_neg (by omega), if_neg (by omega), if_neg (by omega), if_neg (by omega)]
theorem and_255 (x : Int) (h0 : 0 ≤ x) (h1 : x ≤ 9223372036854775807) : Go.bits .and .i64 x 255 = x % 256 := by
  obtain ⟨a, rfl⟩ := Int.eq_ofNat_of_zero_le h0
  show IntKind.i64.wrap ((BitVec.ofInt 64 (a : Int) &&& BitVec.ofInt 64 ((255 : Nat) : Int)).toNat : Int) = _
  rw [BitVec.toNat_and, ofInt_u64 _ (by omega), ofInt_u64 _ (by omega), show (255 : Nat) = 2 ^ 8 - 1 from rfl, Nat.and_two_pow_sub_one_eq_mod, IntWalk.i64_in _ (by omega)]
  omega
theorem big_one (x : Int) (h0 : 0 ≤ x) (h1 : x ≤ 65535) : scriniumref1_big.f 3 x 1 = some (strOfNums [x % 256]) := by
  unfold scriniumref1_big.f
  rw [if_pos (by decide), if_pos (by decide), show wrap64 (1 - 1) = 0 from wl _ _ (by decide) (by decide), show (1 : Int).toNat = 1 from rfl]
  rw [scriniumref1_big.l0, if_pos (by decide), if_pos (by decide), if_pos (by decide), and_255 x h0 (by omega), show wrap64 (0 - 1) = -1 from wl _ _ (by decide) (by decide), scriniumref1_big.l0, if_neg (by decide)]
  show some (strOfNums [x % 256 % 256]) = _
  rw [show x % 256 % 256 = x % 256 by omega]
theorem big_two (x : Int) (h0 : 0 ≤ x) (h1 : x ≤ 65535) : scriniumref1_big.f 4 x 2 = some (strOfNums [x / 256 % 256, x % 256]) := by
  unfold scriniumref1_big.f
  rw [if_pos (by decide), if_pos (by decide), show wrap64 (2 - 1) = 1 from wl _ _ (by decide) (by decide), show (2 : Int).toNat = 2 from rfl]
  rw [scriniumref1_big.l0, if_pos (by decide), if_pos (by decide), if_pos (by decide), and_255 x h0 (by omega), show wrap64 (1 - 1) = 0 from wl _ _ (by decide) (by decide)]
  rw [scriniumref1_big.l0, if_pos (by decide), if_pos (by decide), if_pos (by simp), and_255 (x / 256) (by omega) (by omega), show wrap64 (0 - 1) = -1 from wl _ _ (by decide) (by decide), scriniumref1_big.l0, if_neg (by decide)]
  show some (strOfNums [x / 256 % 256 % 256, x % 256 % 256]) = _
  rw [show x % 256 % 256 = x % 256 by omega, show x / 256 % 256 % 256 = x / 256 % 256 by omega]
theorem str_cat (xs ys : List Int) : strOfNums xs ++ strOfNums ys = strOfNums (xs ++ ys) := by
  apply bl_inj
  rw [bl_append]
  unfold bl
  rw [strOfNums_data, strOfNums_data, strOfNums_data, List.map_append]
theorem refPut_same (a : AskV) (hs : a.text.size ≤ 1000000) : scriniumref1_AskPut.f 20 a.kind a.id a.fr a.tt a.snap a.text = some ((putO a).1, (putO a).2) := by
  unfold scriniumref1_AskPut.f
  rw [askRight_at a 20 (Nat.le_refl _), Option.bind_some]
  cases h : a.ok with
  | false => rw [if_neg (by decide), putO_no h]
  | true =>
    obtain ⟨k, i, f, t, s, x⟩ := ok_rng h
    have b1 : ∀ y : Int, 0 ≤ y → y ≤ 65535 → scriniumref1_big.f 20 y 1 = some (strOfNums [y % 256]) := fun y h0 h1 => at_rounds (fun n => scriniumref1_big.mono y 1 n) (by decide) (big_one y h0 h1)
    have b2 : ∀ y : Int, 0 ≤ y → y ≤ 65535 → scriniumref1_big.f 20 y 2 = some (strOfNums [y / 256 % 256, y % 256]) := fun y h0 h1 => at_rounds (fun n => scriniumref1_big.mono y 2 n) (by decide) (big_two y h0 h1)
    rw [if_pos rfl, b1 _ (by omega) (by omega), b2 _ i.1 i.2, b2 _ f.1 f.2, b2 _ t.1 t.2, b2 _ s.1 s.2, b1 _ (by omega) (by omega)]
    simp only [Option.bind_some, str_cat, strOfNums_size]
    rw [if_pos (by simp), if_pos (by simp), if_pos (by simp), if_pos (by simp), if_pos (by simp), if_pos (by simp; omega), putO_ok h]
    rfl
theorem bt_ext {s : ByteArray} {i j k : Nat} (h : i + k < j) (hj : j ≤ s.size) : bt (s.extract i j) (k : Int) = bt s ((i + k : Nat) : Int) := by
  have h1 := bytes_at (s := s.extract i j) (k := k) (by rw [ByteArray.size_extract]; omega)
  have e : bytesOf (s.extract i j) = ((bytesOf s).drop i).take (j - i) := by
    unfold bytesOf
    rw [Lib.extract_data, List.map_take, List.map_drop]
  rw [e, List.getElem?_take_of_lt (by omega), List.getElem?_drop, bytes_at (by omega)] at h1
  injection h1 with h1
  exact h1.symm
theorem of_two (s : ByteArray) (h : s.size = 2) : scriniumref1_of.f 4 s = some (bt s 0 * 256 + bt s 1) := by
  obtain ⟨p0, p1⟩ := bt_range s 0
  obtain ⟨q0, q1⟩ := bt_range s 1
  unfold scriniumref1_of.f
  rw [scriniumref1_of.l0, if_pos (by omega), if_pos (by decide), show wrap64 (0 * 256) = 0 * 256 from wl _ _ (by decide) (by decide), IntWalk.wrap64_in (bt s 0) (by omega), or_i64 0 (bt s 0) (by decide) (by decide) p0 p1, show (0 : Int) * 256 + bt s 0 = bt s 0 by omega, show wrap64 (0 + 1) = 1 from wl _ _ (by decide) (by decide)]
  rw [scriniumref1_of.l0, if_pos (by omega), if_pos (by decide), IntWalk.wrap64_in (bt s 0 * 256) (by omega), IntWalk.wrap64_in (bt s 1) (by omega), or_i64 (bt s 0) (bt s 1) p0 p1 q0 q1, show wrap64 (1 + 1) = 2 from wl _ _ (by decide) (by decide)]
  rw [scriniumref1_of.l0, if_neg (by omega)]
theorem of_at (s : ByteArray) (i : Nat) (h : 2 * i + 3 ≤ s.size) (hi : i ≤ 3) : scriniumref1_of.f 20 (s.extract (1 + 2 * i) (3 + 2 * i)) = some (numAt s (i : Int)) := by
  refine at_rounds (fun n => scriniumref1_of.mono _ n) (show 4 ≤ 20 by decide) ?_
  rw [of_two _ (by rw [ByteArray.size_extract]; omega)]
  have e0 := bt_ext (s := s) (i := 1 + 2 * i) (j := 3 + 2 * i) (k := 0) (by omega) (by omega)
  have e1 := bt_ext (s := s) (i := 1 + 2 * i) (j := 3 + 2 * i) (k := 1) (by omega) (by omega)
  rw [show (0 : Int) = ((0 : Nat) : Int) from rfl, show (1 : Int) = ((1 : Nat) : Int) from rfl, e0, e1]
  unfold numAt
  rw [show ((1 + 2 * i + 0 : Nat) : Int) = 1 + 2 * (i : Int) by omega, show ((1 + 2 * i + 1 : Nat) : Int) = 2 + 2 * (i : Int) by omega]
/-- Bytes of the right length are those of the request that they tell. -/
theorem put_back (s : ByteArray) (h : (getV s).ok = true) (hs : (s.size : Int) = 10 + bt s 9) : putK (getV s) = s := by
  apply bytes_inj
  rw [putK_bytes]
  have ht : bytesOf (getV s).text = (bytesOf s).drop 10 := by
    show bytesOf (s.extract 10 s.size) = _
    unfold bytesOf
    rw [Lib.extract_data, List.take_of_length_le (by rw [List.length_drop, ← Lib.size_eq]; exact Nat.le_refl _), List.map_drop]
  have hsz : ((getV s).text.size : Int) = bt s 9 := by
    have : (getV s).text.size = s.size - 10 := by
      rw [← bytesOf_length, ht, List.length_drop, bytesOf_length]
    obtain ⟨r0, _⟩ := bt_range s 9
    omega
  have hb : ∀ i : Nat, i < 10 → (bytesOf s)[i]? = some (bt s (i : Int)) := fun i hi => bytes_at (by obtain ⟨r0, _⟩ := bt_range s 9; omega)
  have hp : putB (getV s) = (bytesOf s).take 10 := by
    unfold putB
    rw [hsz]
    show [bt s 0 % 256, numAt s 0 / 256 % 256, numAt s 0 % 256, numAt s 1 / 256 % 256, numAt s 1 % 256, numAt s 2 / 256 % 256, numAt s 2 % 256, numAt s 3 / 256 % 256, numAt s 3 % 256, bt s 9 % 256] = _
    have r := bt_range s
    have r0 := r 0
    have r1 := r 1
    have r2 := r 2
    have r3 := r 3
    have r4 := r 4
    have r5 := r 5
    have r6 := r 6
    have r7 := r 7
    have r8 := r 8
    have r9 := r 9
    have n0 : numAt s 0 = bt s 1 * 256 + bt s 2 := rfl
    have n1 : numAt s 1 = bt s 3 * 256 + bt s 4 := rfl
    have n2 : numAt s 2 = bt s 5 * 256 + bt s 6 := rfl
    have n3 : numAt s 3 = bt s 7 * 256 + bt s 8 := rfl
    have e0 : bt s 0 % 256 = bt s 0 := by omega
    have e1 : numAt s 0 / 256 % 256 = bt s 1 := by omega
    have e2 : numAt s 0 % 256 = bt s 2 := by omega
    have e3 : numAt s 1 / 256 % 256 = bt s 3 := by omega
    have e4 : numAt s 1 % 256 = bt s 4 := by omega
    have e5 : numAt s 2 / 256 % 256 = bt s 5 := by omega
    have e6 : numAt s 2 % 256 = bt s 6 := by omega
    have e7 : numAt s 3 / 256 % 256 = bt s 7 := by omega
    have e8 : numAt s 3 % 256 = bt s 8 := by omega
    have e9 : bt s 9 % 256 = bt s 9 := by omega
    rw [e0, e1, e2, e3, e4, e5, e6, e7, e8, e9]
    apply List.ext_getElem?
    intro i
    by_cases hi : i < 10
    · rw [List.getElem?_take_of_lt hi, hb i hi]
      rcases (show i = 0 ∨ i = 1 ∨ i = 2 ∨ i = 3 ∨ i = 4 ∨ i = 5 ∨ i = 6 ∨ i = 7 ∨ i = 8 ∨ i = 9 by omega) with rfl | rfl | rfl | rfl | rfl | rfl | rfl | rfl | rfl | rfl <;> rfl
    · rw [List.getElem?_eq_none (by show 10 ≤ i; omega), List.getElem?_eq_none (by rw [List.length_take]; omega)]
  rw [hp, ht, List.take_append_drop]
theorem num_big {v : Int} (h : 65535 < v) : ∀ l, ((numL v l).bind fun n => if n ≤ 65535 then some n else none) = none
  | [] => by unfold numL; rw [Option.bind_some, if_neg (by omega)]
  | c :: l => by unfold numL; rw [if_pos (by omega)]; rfl
theorem refNum_l (s : ByteArray) (hs : s.size ≤ 5) : ∀ (n i : Nat) (v : Int), i + n = s.size → 0 ≤ v → v < 10 ^ i → ∃ r, scriniumref1_number.l0 (n + 1) s v (i : Int) = some (r, ((numL v ((bytesOf s).drop i)).bind fun n => if n ≤ 65535 then some n else none).isSome) ∧ ∀ m, ((numL v ((bytesOf s).drop i)).bind fun n => if n ≤ 65535 then some n else none) = some m → r = m
  | 0, i, v, hi, h0, h1 => by
    rw [scriniumref1_number.l0, if_neg (by omega), List.drop_eq_nil_of_le (by rw [bytesOf_length]; omega)]
    unfold numL
    rw [Option.bind_some]
    by_cases h : v ≤ 65535
    · rw [if_pos h, decide_eq_true h]
      exact ⟨v, rfl, fun m hm => by injection hm⟩
    · rw [if_neg h, decide_eq_false h]
      exact ⟨v, rfl, fun m hm => by cases hm⟩
  | n + 1, i, v, hi, h0, h1 => by
    obtain ⟨r0, r1⟩ := bt_range s (i : Int)
    have hp : (10 : Int) ^ i ≤ 10000 := by
      rcases (show i = 0 ∨ i = 1 ∨ i = 2 ∨ i = 3 ∨ i = 4 by omega) with rfl | rfl | rfl | rfl | rfl <;> decide
    have hp2 : (10 : Int) ^ (i + 1) = 10 * 10 ^ i := by rw [Int.pow_succ]; omega
    rw [scriniumref1_number.l0, if_pos (by omega), if_pos (by omega), bytes_drop (by omega)]
    by_cases hc : bt s (i : Int) < 48
    · rw [if_pos hc]
      unfold numL
      rw [if_pos (Or.inl hc)]
      exact ⟨0, rfl, fun m hm => by cases hm⟩
    · rw [if_neg hc]
      by_cases hc2 : bt s (i : Int) > 57
      · rw [if_pos hc2]
        unfold numL
        rw [if_pos (Or.inr (Or.inl (by omega)))]
        exact ⟨0, rfl, fun m hm => by cases hm⟩
      · rw [if_neg hc2, IntWalk.wrap64_in (v * 10) (by omega), show (bt s (i : Int) - 48) % 256 = bt s (i : Int) - 48 by omega, IntWalk.wrap64_in _ (by omega), IntWalk.wrap64_in _ (by omega), show (i : Int) + 1 = ((i + 1 : Nat) : Int) by omega]
        obtain ⟨r, h2, h3⟩ := refNum_l s hs n (i + 1) (v * 10 + (bt s (i : Int) - 48)) (by omega) (by omega) (by rw [hp2]; omega)
        refine ⟨r, ?_, ?_⟩
        · rw [h2]
          congr 2
          show _ = ((numL v (bt s (i : Int) :: (bytesOf s).drop (i + 1))).bind _).isSome
          by_cases hv : 65535 < v
          · rw [num_big (v := v) hv, num_big (v := v * 10 + (bt s (i : Int) - 48)) (by omega)]
          · rw [show numL v (bt s (i : Int) :: (bytesOf s).drop (i + 1)) = numL (10 * v + (bt s (i : Int) - 48)) ((bytesOf s).drop (i + 1)) by rw [numL, if_neg (by omega)], show 10 * v = v * 10 by omega]
        · intro m hm
          apply h3
          by_cases hv : 65535 < v
          · rw [num_big hv] at hm
            cases hm
          · rw [show numL v (bt s (i : Int) :: (bytesOf s).drop (i + 1)) = numL (10 * v + (bt s (i : Int) - 48)) ((bytesOf s).drop (i + 1)) by rw [numL, if_neg (by omega)], show 10 * v = v * 10 by omega] at hm
            exact hm
/-- Many digits, the first of which is no 0, tell too great a number. -/
theorem num_grows : ∀ (l : List Int) (v : Int), 0 ≤ v → v * 10 ^ l.length ≤ ((numL v l).getD (v * 10 ^ l.length))
  | [], v, h => by simp [numL]
  | c :: l, v, h => by
    unfold numL
    split
    · exact Int.le_refl _
    · rename_i hc
      have ih := num_grows l (10 * v + (c - 48)) (by omega)
      have hp : (0 : Int) ≤ 10 ^ l.length := Int.pow_nonneg (by decide)
      have h1 : v * 10 ^ (c :: l).length ≤ (10 * v + (c - 48)) * 10 ^ l.length := by
        rw [List.length_cons, Int.pow_succ, show v * (10 ^ l.length * 10) = (10 * v) * 10 ^ l.length by rw [Int.mul_comm (10 ^ l.length) 10, ← Int.mul_assoc, Int.mul_comm v 10]]
        exact Int.mul_le_mul_of_nonneg_right (by omega) hp
      cases hl : numL (10 * v + (c - 48)) l with
      | none => exact Int.le_refl _
      | some m =>
        rw [hl] at ih
        exact Int.le_trans h1 ih
theorem numP_long (s : ByteArray) (h : 5 < s.size) : numP s = none := by
  unfold numP
  by_cases h0 : s.size = 0 ∨ (1 < s.size ∧ bt s 0 = 48)
  · rw [if_pos h0]
  · rw [if_neg h0]
    have h48 : bt s 0 ≠ 48 := fun e => h0 (Or.inr ⟨by omega, e⟩)
    have hb := bytes_drop (s := s) (k := 0) (by omega)
    rw [List.drop_zero] at hb
    rw [hb]
    show ((numL 0 (bt s 0 :: (bytesOf s).drop 1)).bind _) = none
    unfold numL
    split
    · rfl
    · rename_i hc
      have hg := num_grows ((bytesOf s).drop 1) (10 * 0 + (bt s 0 - 48)) (by omega)
      cases hl : numL (10 * 0 + (bt s 0 - 48)) ((bytesOf s).drop 1) with
      | none => rfl
      | some m =>
        rw [hl] at hg
        have hlen : ((bytesOf s).drop 1).length = s.size - 1 := by rw [List.length_drop, bytesOf_length]
        rw [hlen] at hg
        obtain ⟨q, hq⟩ : ∃ q, s.size - 1 = q + 5 := ⟨s.size - 6, by omega⟩
        rw [hq, Int.pow_add] at hg
        have hp : (1 : Int) ≤ 10 ^ q := Int.pow_pos (by decide)
        have h1 : (1 : Int) * (1 * 100000) ≤ (10 * 0 + (bt s 0 - 48)) * (10 ^ q * 10 ^ 5) :=
          Int.mul_le_mul (by omega) (Int.mul_le_mul hp (by decide) (by decide) (by omega)) (by decide) (by omega)
        have h2 : (1 : Int) * (1 * 100000) ≤ m := Int.le_trans h1 hg
        rw [Option.bind_some, if_neg (by omega)]
theorem refNum_same (s : ByteArray) (hs : s.size ≤ 1000000) : ∃ r, scriniumref1_number.f 7 s = some (r, (numP s).isSome) ∧ ∀ m, numP s = some m → r = m := by
  have hno : ∀ k, scriniumref1_number.j0 (k + 1) s true = some (0, false) := fun k => by rw [scriniumref1_number.j0, if_pos rfl]
  unfold scriniumref1_number.f
  by_cases h0 : s.toList = []
  · rw [if_pos h0, hno]
    have hz : s.size = 0 := by rw [Lib.toList_data] at h0; rw [bl_size]; unfold bl; rw [h0]; rfl
    unfold numP
    rw [if_pos (Or.inl hz)]
    exact ⟨0, rfl, fun m hm => by cases hm⟩
  · rw [if_neg h0]
    have hz : 0 < s.size := by
      rw [bl_size]
      unfold bl
      rw [← Lib.toList_data]
      exact List.length_pos_iff.2 h0
    by_cases h5 : (s.size : Int) > 5
    · rw [if_pos h5, hno]
      refine ⟨0, ?_, ?_⟩
      · rw [numP_long s (by omega)]
        rfl
      · rw [numP_long s (by omega)]
        exact fun m hm => by cases hm
    · rw [if_neg h5]
      have key : ∃ r, scriniumref1_number.l0 6 s 0 0 = some (r, ((numL 0 (bytesOf s)).bind fun n => if n ≤ 65535 then some n else none).isSome) ∧ ∀ m, ((numL 0 (bytesOf s)).bind fun n => if n ≤ 65535 then some n else none) = some m → r = m := by
        obtain ⟨r, h2, h3⟩ := refNum_l s (by omega) s.size 0 0 (by omega) (by decide) (by decide)
        rw [List.drop_zero] at h2 h3
        exact ⟨r, at_rounds (fun n => (scriniumref1_number.mono_l n).2 s 0 0) (by omega) h2, h3⟩
      have hj : scriniumref1_number.j0 7 s false = scriniumref1_number.l0 6 s 0 0 := by rw [scriniumref1_number.j0, if_neg (by decide)]
      by_cases h1 : (s.size : Int) > 1
      · rw [if_pos h1, if_pos (by omega)]
        by_cases h48 : bt s 0 = 48
        · rw [beq_iff_eq.2 h48, hno]
          unfold numP
          rw [if_pos (Or.inr ⟨by omega, h48⟩)]
          exact ⟨0, rfl, fun m hm => by cases hm⟩
        · rw [beq_eq_false_iff_ne.2 h48, hj]
          unfold numP
          rw [if_neg (by rintro (h | h); omega; exact h48 h.2)]
          exact key
      · rw [if_neg h1, hj]
        unfold numP
        rw [if_neg (by rintro (h | h); omega; omega)]
        exact key
theorem hexD_same (c : Int) (h0 : 0 ≤ c) (h1 : c ≤ 255) (k : Nat) (hk : 1 ≤ k) : scriniumref1_digit.f k c = some (hexI c) := by
  obtain ⟨k, rfl⟩ : ∃ j, k = j + 1 := ⟨k - 1, by omega⟩
  unfold scriniumref1_digit.f hexI
  by_cases a : c ≥ 48
  · rw [if_pos a, scriniumref1_digit.j0]
    by_cases b : c ≤ 57
    · rw [decide_eq_true b, if_pos rfl]
      congr 1
      rw [if_pos ⟨a, b⟩]
      omega
    · rw [decide_eq_false b, if_neg (by decide)]
      by_cases d : c ≥ 97
      · rw [if_pos d]
        by_cases e : c ≤ 102
        · rw [if_pos e]
          congr 1
          rw [if_neg (by omega), if_pos (by omega)]
          omega
        · rw [if_neg e]
          congr 1
          rw [if_neg (by omega), if_neg (by omega)]
      · rw [if_neg d]
        congr 1
        rw [if_neg (by omega), if_neg (by omega)]
  · rw [if_neg a, scriniumref1_digit.j0, if_neg (by decide), if_neg (by omega)]
    congr 1
    rw [if_neg (by omega), if_neg (by omega)]
theorem unhex_l (s : ByteArray) (hs : s.size ≤ 1000000) (he : s.size % 2 = 0) : ∀ (n i : Nat) (acc : ByteArray), i + 2 * n = s.size → acc.size ≤ i → ∃ r, scriniumref1_unhex.l0 (2 * n + 2) s acc (i : Int) = some (r, (hexP ((bytesOf s).drop i)).isSome) ∧ ∀ t, hexP ((bytesOf s).drop i) = some t → r = acc ++ strOfNums t
  | 0, i, acc, hi, ha => by
    rw [scriniumref1_unhex.l0, if_neg (by omega), List.drop_eq_nil_of_le (by rw [bytesOf_length]; omega)]
    refine ⟨acc, rfl, fun t ht => ?_⟩
    obtain rfl : [] = t := Option.some.inj ht
    apply bl_inj
    rw [bl_append]
    simp [bl, strOfNums]
  | n + 1, i, acc, hi, ha => by
    obtain ⟨p0, p1⟩ := bt_range s (i : Int)
    obtain ⟨q0, q1⟩ := bt_range s ((i + 1 : Nat) : Int)
    have d1 := hexD_same (bt s (i : Int)) p0 p1
    have d2 := hexD_same (bt s ((i + 1 : Nat) : Int)) q0 q1
    have g1 := hexI_rng (bt s (i : Int))
    have g2 := hexI_rng (bt s ((i + 1 : Nat) : Int))
    have w1 : wrap64 ((i : Int) + 1) = ((i + 1 : Nat) : Int) := wl _ _ (by omega) (by omega)
    have w2 : wrap64 ((i : Int) + 2) = ((i + 2 : Nat) : Int) := wl _ _ (by omega) (by omega)
    rw [bytes_drop (show i < s.size by omega), bytes_drop (show i + 1 < s.size by omega), hexP_two, scriniumref1_unhex.l0, if_pos (by omega), if_pos (by omega), d1 _ (by omega), Option.bind_some]
    by_cases hn1 : hexI (bt s (i : Int)) < 0
    · rw [if_pos hn1, scriniumref1_unhex.j2, if_pos rfl, if_neg (by omega)]
      exact ⟨_, rfl, fun t ht => by cases ht⟩
    · rw [if_neg hn1, w1, if_pos (by omega), if_pos (by omega), d2 _ (by omega), Option.bind_some]
      by_cases hn2 : hexI (bt s ((i + 1 : Nat) : Int)) < 0
      · rw [decide_eq_true hn2, scriniumref1_unhex.j2, if_pos rfl, if_neg (by omega)]
        exact ⟨_, rfl, fun t ht => by cases ht⟩
      · rw [decide_eq_false hn2, show 2 * (n + 1) + 1 = (2 * n + 2) + 1 from rfl, scriniumref1_unhex.j2, if_neg (by decide), if_pos (by omega), if_pos (by omega), d1 _ (by omega), Option.bind_some, w1, if_pos (by omega), if_pos (by omega), d2 _ (by omega), Option.bind_some]
        rw [IntWalk.wrap64_in (hexI (bt s (i : Int)) * 16) (by omega), IntWalk.wrap64_in _ (by omega), Option.bind_some, strOfNums_size, if_pos (by simp; omega), w2, if_pos ⟨by omega, by omega⟩, show (hexI (bt s (i : Int)) * 16 + hexI (bt s ((i + 1 : Nat) : Int))) % 256 = 16 * hexI (bt s (i : Int)) + hexI (bt s ((i + 1 : Nat) : Int)) by omega]
        obtain ⟨r, h2, h3⟩ := unhex_l s hs he n (i + 2) (acc ++ strOfNums [16 * hexI (bt s (i : Int)) + hexI (bt s ((i + 1 : Nat) : Int))]) (by omega) (by rw [ByteArray.size_append, strOfNums_size]; simp; omega)
        refine ⟨r, by rw [h2, show i + 1 + 1 = i + 2 from rfl]; cases hexP ((bytesOf s).drop (i + 2)) <;> rfl, fun t ht => ?_⟩
        cases hx : hexP ((bytesOf s).drop (i + 2)) with
        | none => rw [show i + 1 + 1 = i + 2 from rfl, hx] at ht; cases ht
        | some u =>
          rw [show i + 1 + 1 = i + 2 from rfl, hx] at ht
          obtain rfl := Option.some.inj ht
          rw [h3 u hx, ByteArray.append_assoc, str_cat]
          rfl
theorem unhex_same (s : ByteArray) (hs : s.size ≤ 1000000) : ∃ r, scriniumref1_unhex.f (s.size + 3) s = some (r, (textP s).isSome) ∧ ∀ t, textP s = some t → r = t := by
  have hno : ∀ k, scriniumref1_unhex.j0 (k + 1) s true = some (⟨#[]⟩, false) := fun k => by rw [scriniumref1_unhex.j0, if_pos rfl]
  unfold scriniumref1_unhex.f textP
  by_cases h : s.toList = [45]
  · rw [if_pos h, if_pos h]
    exact ⟨_, rfl, fun t ht => Option.some.inj ht⟩
  · rw [if_neg h, if_neg h]
    by_cases h0 : s.toList = []
    · have hz : s.size = 0 := by rw [Lib.toList_data] at h0; rw [bl_size]; unfold bl; rw [h0]; rfl
      rw [if_pos h0, hno, if_pos (Or.inl hz)]
      exact ⟨_, rfl, fun t ht => by cases ht⟩
    · have hz : 0 < s.size := by
        rw [bl_size]
        unfold bl
        rw [← Lib.toList_data]
        exact List.length_pos_iff.2 h0
      rw [if_neg h0]
      by_cases he : s.size % 2 = 1
      · rw [bne_iff_ne.2 (show ((s.size : Int) % 2) ≠ 0 by omega), hno, if_pos (Or.inr he)]
        exact ⟨_, rfl, fun t ht => by cases ht⟩
      · rw [bne_eq_false_iff_eq.2 (show ((s.size : Int) % 2) = 0 by omega), scriniumref1_unhex.j0, if_neg (by decide), if_neg (by rintro (h | h); omega; exact he h)]
        obtain ⟨r, h2, h3⟩ := unhex_l s hs (by omega) (s.size / 2) 0 ⟨#[]⟩ (by omega) (Nat.le_refl _)
        rw [show 2 * (s.size / 2) = s.size by omega, List.drop_zero] at h2
        rw [List.drop_zero] at h3
        refine ⟨r, by rw [show (0 : Int) = ((0 : Nat) : Int) from rfl, h2]; cases hexP (bytesOf s) <;> rfl, fun t ht => ?_⟩
        cases hx : hexP (bytesOf s) with
        | none => rw [hx] at ht; cases ht
        | some u =>
          rw [hx] at ht
          obtain rfl := Option.some.inj ht
          rw [h3 u hx]
          apply bl_inj
          rw [bl_append]
          simp [bl]
end Go.Proofs.YtbmjekekpmabbaaDoor.P

end
section
set_option linter.unusedVariables false
set_option linter.unusedSimpArgs false
namespace Go.Proofs.YtbmjekekpmabbaaDoor.P
open Go.RowKit Go.Proofs.YtbmjekekpmabbaaDoorW.PrintWords Go.Proofs.YtbmjekekpmabbaaDoorW.PrintLast Go.Proofs.YtbmjekekpmabbaaDoorW.PrintMore

/-- The words of the bytes ahead of at are W; from at to i there is no blank. -/
def CutI (l : List UInt8) (i at_ : Nat) (W : List (List UInt8)) : Prop := wordsL l = W ++ wordsL (l.drop at_) ∧ (32 : UInt8) ∉ (l.drop at_).take (i - at_) ∧ at_ ≤ i
theorem cut_start (l : List UInt8) : CutI l 0 0 [] := ⟨by simp, by simp, Nat.le_refl _⟩
theorem cut_on {l : List UInt8} {i at_ : Nat} {W : List (List UInt8)} (h : CutI l i at_ W) (hi : i < l.length) (hb : l[i]? ≠ some 32) : CutI l (i + 1) at_ W := by
  obtain ⟨h1, h2, h3⟩ := h
  refine ⟨h1, ?_, by omega⟩
  rw [show i + 1 - at_ = (i - at_) + 1 by omega, List.take_add_one, List.getElem?_drop, show at_ + (i - at_) = i by omega]
  intro hm
  rcases List.mem_append.1 hm with hm | hm
  · exact h2 hm
  · cases hx : l[i]? with
    | none => rw [hx] at hm; simp at hm
    | some x =>
      rw [hx] at hm hb
      simp at hm
      exact hb (by rw [← hm])
theorem drop_split {l : List UInt8} {i at_ : Nat} (ha : at_ ≤ i) (hi : i < l.length) : l.drop at_ = (l.drop at_).take (i - at_) ++ l[i] :: l.drop (i + 1) := by
  conv => lhs; rw [← List.take_append_drop (i - at_) (l.drop at_)]
  congr 1
  rw [List.drop_drop, show at_ + (i - at_) = i by omega, List.drop_eq_getElem_cons hi]
theorem cut_word {l : List UInt8} {i at_ : Nat} {W : List (List UInt8)} (h : CutI l i at_ W) (hi : i < l.length) (hb : l[i]? = some 32) (hl : at_ < i) : CutI l (i + 1) (i + 1) (W ++ [(l.drop at_).take (i - at_)]) := by
  obtain ⟨h1, h2, h3⟩ := h
  refine ⟨?_, by simp, Nat.le_refl _⟩
  have hx : l[i] = 32 := by
    rw [List.getElem?_eq_getElem hi] at hb
    exact Option.some.inj hb
  rw [h1, drop_split h3 hi, hx, wordsL_app _ h2 (by
    intro e
    have := congrArg List.length e
    rw [List.length_take, List.length_drop] at this
    simp at this
    omega)]
  rw [List.append_assoc, ← hx, ← drop_split h3 hi]
  rfl
theorem cut_none {l : List UInt8} {i : Nat} {W : List (List UInt8)} (h : CutI l i i W) (hi : i < l.length) (hb : l[i]? = some 32) : CutI l (i + 1) (i + 1) W := by
  obtain ⟨h1, h2, h3⟩ := h
  refine ⟨?_, by simp, Nat.le_refl _⟩
  have hx : l[i] = 32 := by
    rw [List.getElem?_eq_getElem hi] at hb
    exact Option.some.inj hb
  rw [h1, List.drop_eq_getElem_cons hi, hx, wordsL_sp]
theorem cut_last {l : List UInt8} {at_ : Nat} {W : List (List UInt8)} (h : CutI l l.length at_ W) (hl : at_ < l.length) : wordsL l = W ++ [(l.drop at_).take (l.length - at_)] := by
  obtain ⟨h1, h2, h3⟩ := h
  have e : (l.drop at_).take (l.length - at_) = l.drop at_ := List.take_of_length_le (by rw [List.length_drop]; omega)
  rw [e] at h2 ⊢
  rw [h1]
  congr 1
  exact wordsL_word _ h2 (by
    intro e
    have := congrArg List.length e
    rw [List.length_drop] at this
    simp at this
    omega)
theorem cut_end {l : List UInt8} {W : List (List UInt8)} (h : CutI l l.length l.length W) : wordsL l = W := by
  rw [h.1, List.drop_eq_nil_of_le (Nat.le_refl _)]
  show W ++ [] = W
  rw [List.append_nil]
theorem bl_cut (s : ByteArray) (i j : Nat) (h : j ≤ s.size) : bl (s.extract i j) = ((bl s).drop i).take (j - i) := by
  unfold bl
  rw [Lib.extract_data]
theorem words_of {s : ByteArray} {ws : List ByteArray} (h : wordsL (bl s) = ws.map bl) : wordsOf s = ws := by
  rw [words_L, h, List.map_map]
  conv => rhs; rw [← List.map_id ws]
  exact List.map_congr_left fun x _ => ofL_bl x
theorem bl_bt {s : ByteArray} {i : Nat} (h : i < s.size) : ((bl s)[i]? = some 32) = (bt s (i : Int) = 32) := by
  have h1 := bytes_at h
  unfold bytesOf at h1
  rw [List.getElem?_map] at h1
  show (s.data.toList[i]? = some 32) = _
  cases hx : s.data.toList[i]? with
  | none => rw [hx] at h1; cases h1
  | some x =>
    rw [hx] at h1
    have h2 : ((x.toNat : Nat) : Int) = bt s (i : Int) := Option.some.inj h1
    rw [← h2]
    apply propext
    constructor
    · intro h
      rw [Option.some.inj h]
      rfl
    · intro h
      congr 1
      apply UInt8.toNat_inj.1
      have : (32 : UInt8).toNat = 32 := rfl
      omega
def cOf (i : Nat) : Int := if i = 0 then 105 else if i = 1 then 102 else if i = 2 then 111 else 115
def flagR (K : Int) (i : Nat) : Bool := if i = 0 then (hasB K).2.1 else if i = 1 then (hasB K).2.2.1 else if i = 2 then (hasB K).2.2.2.1 else (hasB K).2.2.2.2
def restN (K : Int) (k : Nat) : Nat → List Int
  | 0 => []
  | n + 1 => (if flagR K k = true then [cOf k] else []) ++ restN K (k + 1) n
def restL (K : Int) (k : Nat) : List Int := restN K k (4 - k)
theorem restL_step (K : Int) (k : Nat) (h : k < 4) : restL K k = (if flagR K k = true then [cOf k] else []) ++ restL K (k + 1) := by
  unfold restL
  rw [show 4 - k = (4 - (k + 1)) + 1 by omega]
  rfl
def fillR (L : List Int) (ws : List ByteArray) (a : AskV) : Option AskV := if ws.length ≠ L.length then none else fillL L ws a
def okO (a : AskV) : Option AskV := if a.ok = true then some a else none
theorem letters_rest (K : Int) (h1 : 1 ≤ K) (h2 : K ≤ 9) : bytesOf (hasOf K) = (if (hasB K).1 = true then [116] else []) ++ restL K 0 := by
  rcases (show K = 1 ∨ K = 2 ∨ K = 3 ∨ K = 4 ∨ K = 5 ∨ K = 6 ∨ K = 7 ∨ K = 8 ∨ K = 9 by omega) with rfl | rfl | rfl | rfl | rfl | rfl | rfl | rfl | rfl <;> decide +kernel
theorem fill_skip {K : Int} {k : Nat} (h : k < 4) (hf : flagR K k = false) (ws : List ByteArray) (a : AskV) : fillR (restL K k) ws a = fillR (restL K (k + 1)) ws a := by
  rw [restL_step K k h, hf]
  rfl
theorem fill_nil {K : Int} {k : Nat} (h : k < 4) (hf : flagR K k = true) (a : AskV) : fillR (restL K k) [] a = none := by
  rw [restL_step K k h, hf]
  unfold fillR
  rw [if_pos]
  simp
theorem cOf_not (k : Nat) : cOf k ≠ 116 := by unfold cOf; split <;> (try split) <;> (try split) <;> decide
theorem fill_num {K : Int} {k : Nat} (h : k < 4) (hf : flagR K k = true) (w : ByteArray) (ws : List ByteArray) (a : AskV) : fillR (restL K k) (w :: ws) a = (numP w).bind fun n => fillR (restL K (k + 1)) ws (a.setN (cOf k) n) := by
  rw [restL_step K k h, hf, if_pos rfl]
  unfold fillR
  show (if ws.length + 1 ≠ (restL K (k + 1)).length + 1 then none else fillL (cOf k :: restL K (k + 1)) (w :: ws) a) = _
  by_cases hl : ws.length = (restL K (k + 1)).length
  · rw [if_neg (by omega)]
    rw [show fillL (cOf k :: restL K (k + 1)) (w :: ws) a = (numP w).bind (fun n => fillL (restL K (k + 1)) ws (a.setN (cOf k) n)) by
      show (if cOf k = 116 then _ else _) = _
      rw [if_neg (cOf_not k)]]
    congr 1
    funext n
    rw [if_neg (by omega)]
  · rw [if_pos (by omega)]
    cases numP w with
    | none => rfl
    | some n =>
      show none = if ws.length ≠ (restL K (k + 1)).length then none else _
      rw [if_pos hl]
theorem fill_end {K : Int} (ws : List ByteArray) (a : AskV) : fillR (restL K 4) ws a = if ws.length = 0 then some a else none := by
  unfold fillR
  show (if ws.length ≠ 0 then none else fillL [] ws a) = _
  by_cases h : ws.length = 0
  · rw [if_neg (by omega), if_pos h]
    rfl
  · rw [if_pos h, if_neg h]
theorem fill_text (L : List Int) (w : ByteArray) (ws : List ByteArray) (a : AskV) : fillR (116 :: L) (w :: ws) a = (textP w).bind fun t => fillR L ws { a with text := t } := by
  unfold fillR
  show (if ws.length + 1 ≠ L.length + 1 then none else fillL (116 :: L) (w :: ws) a) = _
  by_cases hl : ws.length = L.length
  · rw [if_neg (by omega)]
    show (if (116 : Int) = 116 then _ else _) = _
    rw [if_pos rfl]
    congr 1
    funext n
    rw [if_neg (by omega)]
  · rw [if_pos (by omega)]
    cases textP w with
    | none => rfl
    | some n =>
      show none = if ws.length ≠ L.length then none else _
      rw [if_pos hl]
theorem fill_text_nil (L : List Int) (a : AskV) : fillR (116 :: L) [] a = none := by
  unfold fillR
  rw [if_pos]
  simp
theorem read_fill (line : ByteArray) (hn : (wordsOf line).length ≠ 0) (he : edgeB line = true) (hk : kindP (wd line 0) ≠ 0) (K : Int) (hK : kindP (wd line 0) = K) (h1 : 1 ≤ K) (h2 : K ≤ 9) : readOf line = (fillR ((if (hasB K).1 = true then [116] else []) ++ restL K 0) ((wordsOf line).drop 1) { zeroV with kind := K }).bind okO := by
  unfold readOf
  rw [if_neg (fun h => h.elim hn (fun h => by rw [he] at h; cases h)), hK, ← letters_rest K h1 h2]
  unfold fillR
  rw [List.length_drop, bytesOf_length]
  by_cases hl : (wordsOf line).length = 1 + (hasOf K).size
  · rw [if_neg (by rintro (h | h); exact hk (by rw [hK]; exact h); exact h hl), if_neg (by omega)]
    rfl
  · rw [if_pos (Or.inr hl), if_pos (by omega)]
    rfl
theorem kindP_rng (w : ByteArray) : 0 ≤ kindP w ∧ kindP w ≤ 9 := kindTo_rng w 9
end Go.Proofs.YtbmjekekpmabbaaDoor.P

end
section
set_option linter.unusedVariables false
set_option linter.unusedSimpArgs false
namespace Go.Proofs.YtbmjekekpmabbaaDoor.P
open Go.RowKit Go.Proofs.YtbmjekekpmabbaaDoorW.PrintWords Go.Proofs.YtbmjekekpmabbaaDoorW.PrintLast Go.Proofs.YtbmjekekpmabbaaDoorW.PrintMore

def refRead.T18 : Bool × List (List Nat × List Nat) := (true, [([], []), ([0], [0]), ([], []), ([2], [2]), ([3], [3]), ([1, 4], [1, 4])])
def refRead.B18 : List Nat := [0, 1, 0, 4, 12, 31]
theorem refRead.tab18 : rtab .any (opsOf Tryd.f17 18) = refRead.T18 := by kernel_rfl
theorem refRead.bits18 : waitsOk refRead.T18.2 refRead.B18 = true := by kernel_rfl
def refRead.T38 : Bool × List (List Nat × List Nat) := (true, [([], []), ([0], [0]), ([], []), ([2], [2]), ([], []), ([4], [4]), ([], []), ([6], [6]), ([0, 1], []), ([8, 1, 0, 1], [1, 8]), ([0, 1, 2, 3, 8, 9], []), ([10, 3, 9, 0, 1, 2, 3, 8, 9], [3, 10]), ([0, 1, 2, 3, 4, 5, 8, 9, 10, 11], []), ([12, 5, 11, 0, 1, 2, 3, 4, 5, 8, 9, 10, 11], [5, 12]), ([0, 1, 2, 3, 4, 5, 6, 7, 8, 9, 10, 11, 12, 13], []), ([14, 7, 13, 0, 1, 2, 3, 4, 5, 6, 7, 8, 9, 10, 11, 12, 13], [7, 14])])
def refRead.B38 : List Nat := [0, 1, 0, 4, 0, 16, 0, 64, 3, 259, 783, 1807, 3903, 7999, 16383, 32767]
theorem refRead.tab38 : rtab .any (opsOf Tryd.f17 38) = refRead.T38 := by kernel_rfl
theorem refRead.bits38 : waitsOk refRead.T38.2 refRead.B38 = true := by kernel_rfl
theorem rread_end {W : World} {g : Nat} {a0 : AskV} (tmps : Array Value) (o : Option AskV) (hp : tmps.getD 2 undef = .pointer (some ⟨g, 0, none⟩)) (h3 : tmps.getD 3 undef = .bool o.isSome) (h : W.heap[g]? = some (.cells (o.getD zeroV).cells 23 (0, 0))) :
    (results Tryd.f17 tmps).run Tryd.prog W = .ok (outOf o) W := by
  have := results_ct (P := Tryd.prog) (fn := Tryd.f17) (p := 2) (u := 3) (ty := 23) rfl tmps W g 23 (o.getD zeroV).cells (0, 0) _ hp h Tryd.underlying23 rfl askInfo
  rw [this, h3]
  cases o <;> rfl
theorem blk_grown2 {W w1 : World} {r : Option Nat} {g : Nat} {t : TypeId} {cs : Array Value} (h : W.heap[g]? = some (.cells cs t (0, 0))) (hg : W.grownBy w1 r) (hne : r ≠ some g) : w1.heap[g]? = some (.cells cs t (0, 0)) :=
  (hg.block g (blk_lt h) (fun e => hne e.symm)).trans h
theorem fields_all (K : Int) (h0 : 0 ≤ K) (h9 : K ≤ 9) : scriniumref1_Fields.f 20 K = some (hasB K) := by
  by_cases h : K = 0
  · subst h
    decide +kernel
  · exact fields_in K (by omega) h9
def fourR (a b c d : Bool) (i : Nat) : Bool := if i = 0 then a else if i = 1 then b else if i = 2 then c else d
def EdgeI (line : ByteArray) (i : Nat) : Prop := (1 ≤ i → 0 < line.size ∧ bt line 0 ≠ 32) ∧ (i = line.size + 1 → bt line ((line.size : Int) - 1) ≠ 32)
theorem edge_no {line : ByteArray} (h : 0 < line.size) (hb : bt line 0 = 32 ∨ bt line ((line.size : Int) - 1) = 32) : readOf line = none := by
  apply read_edge
  rw [edge_of (l := bl line) rfl]
  have e1 := bl_bt (s := line) (i := 0) h
  have e2 := bl_bt (s := line) (i := line.size - 1) (by omega)
  rw [show ((line.size - 1 : Nat) : Int) = (line.size : Int) - 1 by omega] at e2
  rw [show ((0 : Nat) : Int) = 0 from rfl] at e1
  have el : (bl line).length = line.size := (bl_size line).symm
  rw [el]
  rcases hb with hb | hb
  · rw [← e1] at hb
    rw [hb]
    rfl
  · rw [← e2] at hb
    rw [hb]
    simp
theorem edge_yes {line : ByteArray} (h : EdgeI line (line.size + 1)) : edgeB line = true := by
  obtain ⟨h1, h2⟩ := h
  obtain ⟨h0, h1⟩ := h1 (by omega)
  have h2 := h2 rfl
  rw [edge_of (l := bl line) rfl]
  have e1 := bl_bt (s := line) (i := 0) h0
  have e2 := bl_bt (s := line) (i := line.size - 1) (by omega)
  rw [show ((line.size - 1 : Nat) : Int) = (line.size : Int) - 1 by omega] at e2
  rw [show ((0 : Nat) : Int) = 0 from rfl] at e1
  have el : (bl line).length = line.size := (bl_size line).symm
  rw [el, bne_iff_ne.2 (by rw [ne_eq, e1]; exact h1), bne_iff_ne.2 (by rw [ne_eq, e2]; exact h2)]
  rfl
theorem none_words {line : ByteArray} (h : (wordsOf line).length = 0) : readOf line = none := by
  unfold readOf
  rw [if_pos (Or.inl h)]
theorem empty_words {line : ByteArray} (h : line.size = 0) : readOf line = none := by
  have e : bl line = [] := List.eq_nil_of_length_eq_zero (by rw [← bl_size]; exact h)
  apply none_words
  rw [words_L, e]
  rfl
set_option maxRecDepth 100000 in
set_option maxHeartbeats 4000000 in
theorem rread_calls (line : ByteArray) (w : World) (hs : line.size ≤ 1000000) :
    Calls Tryd.prog 17 #[.string line] w fun e w' => e = .returned (outOf (readOf line)) ∧ Below w.heap.size w w' := by
  obtain ⟨W1, hW1⟩ : ∃ W1, w.alloc (.cells zeroV.cells 23) = W1 := ⟨_, rfl⟩
  have HB1 : Aside0 (Below w.heap.size w W1) := ⟨by rw [← hW1]; exact below_alloc (Below.refl _ _) _⟩
  obtain ⟨rb, hrb⟩ : ∃ rb, w.heap.size = rb := ⟨_, rfl⟩
  have RB1 : Aside0 (W1.heap[rb]? = some (.cells zeroV.cells 23 (0, 0))) := ⟨by rw [← hW1, ← hrb]; exact blk_new _ _⟩
  have RG : Aside0 (w.heap.size ≤ rb) := ⟨Nat.le_of_eq hrb⟩
  have W1E : Aside0 (w.alloc (.cells #[.int .i64 0, .int .i64 0, .int .i64 0, .int .i64 0, .int .i64 0, .string ⟨#[]⟩] 23) = W1) := ⟨hW1⟩
  have RBE := Aside0.mk hrb
  have HS := Aside0.mk hs
  have hR0 : Aside0 (Kd.string.R 9 W1 w.heap.size (fun _ => True) (.slice none 0 0) []) := ⟨Kd.R_nil _ _ _ _ _⟩
  obtain ⟨n, hn⟩ : ∃ n, line.size = n := ⟨_, rfl⟩
  have HN := Aside0.mk hn
  clear hW1 hrb
  go_enter Tryd.func17, Tryd.ntmps17
  go_wp2_with fail
  rw [W1E.out, RBE.out]
  go_loopw [4, 5, 6] (fun s4 s5 s6 wr => ∃ (i at_ : Nat) (W : List ByteArray), s5 = .int .i64 (at_ : Int) ∧ s6 = .int .i64 (i : Int) ∧ Aside0 (i ≤ n + 1 ∧ at_ ≤ i ∧ W.length ≤ i ∧ ((i ≤ n ∧ CutI (bl line) i at_ (W.map bl)) ∨ (i = n + 1 ∧ wordsL (bl line) = W.map bl)) ∧ EdgeI line i) ∧ Aside0 (Kd.string.R 9 wr w.heap.size (fun _ => True) s4 W) ∧ Aside0 (wr.heap[rb]? = some (.cells zeroV.cells 23 (0, 0))) ∧ Aside0 (Below w.heap.size w wr)) (fun _ _ s6 _ => n + 1 - (intOf s6).toNat)
  case atStart => exact ⟨0, 0, [], rfl, rfl, ⟨⟨by omega, Nat.le_refl _, Nat.le_refl _, Or.inl ⟨by omega, cut_start _⟩, ⟨fun h => by omega, fun h => by omega⟩⟩⟩, hR0, RB1, HB1⟩
  case round =>
    clear RB1 HB1 hR0
    obtain ⟨i, at_, W, rfl, rfl, HI, HO, RB, HB⟩ := hrel
    obtain ⟨hi, hat, hwl, hcut, hedge⟩ := HI.out
    by_cases hend : i = n + 1
    · have c1 : decide ((i : Int) ≤ (n : Int)) = false := decide_eq_false (by omega)
      have d1 : (i ≤ n) = False := eq_false (by omega)
      have hwords : wordsOf line = W := words_of (hcut.elim (fun h => by omega) (fun h => h.2))
      have hed : edgeB line = true := edge_yes (by rw [hn, ← hend]; exact hedge)
      obtain ⟨A, c, hv, hcap, hC⟩ := Kd.R_reads HO.out
      have hrd : ReadsOf Value.string ⟨#[]⟩ wr A W.length W := Kd.reads_of_C (enc := Value.string) (d := ByteArray.empty) (h1 := fun _ => rfl) hC
      have hplain : W.length ≠ 0 → ∃ g, A = some ⟨g, 0, none⟩ := fun h0 => by
        obtain ⟨inner, ho⟩ := Kd.R_own HO.out
        rcases ho.2 with ⟨_, h⟩ | ⟨g, cap, cur, h, _⟩
        · exact absurd h h0
        · rw [hv] at h
          injection h with h
          exact ⟨g, h⟩
      subst hv
      have hwz : ∀ x ∈ W, x.size ≤ 1000000 := by
        rw [← hwords]
        intro x hx
        obtain ⟨j, hj⟩ := List.getElem?_of_mem hx
        have h1 := word_size line (j : Int)
        unfold rdOf at h1
        rw [Int.toNat_natCast, List.getD_eq_getElem?_getD, hj] at h1
        exact Nat.le_trans h1 hs
      obtain ⟨m, hm⟩ : ∃ m, W.length = m := ⟨_, rfl⟩
      rw [hm] at hcap hrd hwl hplain
      have HPL := Aside0.mk hplain
      have HWS := Aside0.mk hwords
      have HED := Aside0.mk hed
      have HM := Aside0.mk hm
      have HCAP := Aside0.mk hcap
      have HRD := Aside0.mk hrd
      have HWZ := Aside0.mk hwz
      have HML : Aside0 (m ≤ 1000001) := ⟨by have := HS.out; omega⟩
      rw [hm]
      clear HI hi hat hwl hcut hedge hend hwords hed hC HO hcap hrd hwz hm hplain
      obtain ⟨wo, hwo⟩ : ∃ wo, wo = wr := ⟨_, rfl⟩
      subst hwo
      by_cases hm0 : m = 0
      · have HNO : Aside0 (readOf line = none) := ⟨none_words (by rw [HWS.out, HM.out]; exact hm0)⟩
        subst hm0
        obtain ⟨y0, y1, y2, y3, y4, y5, f0, f1, f2, f3, f4, f5⟩ := six_facts RB.out
        have hend := six_blk (a := zeroV) RB.out
        have hbl := six_below (a := zeroV) HB.out RG.out
        have HEND := Aside0.mk hend
        have HBL := Aside0.mk hbl
        clear hend hbl
        go_wp2_with fail
        refine bodyPost_ret (w := sixSet _ rb zeroV) (rread_end (g := rb) (a0 := zeroV) _ none rfl rfl HEND.out) rfl ⟨?_, HBL.out⟩
        rw [HNO.out]
      · have c2 : ((m : Int) == 0) = false := beq_eq_false_iff_ne.2 (by omega)
        have c2b : (m == 0) = false := beq_eq_false_iff_ne.2 hm0
        obtain ⟨g, rfl⟩ := HPL.out hm0
        obtain ⟨ab, hab⟩ : ∃ ab, wo.heap.size = ab := ⟨_, rfl⟩
        obtain ⟨W3, hW3⟩ : ∃ W3, wo.alloc (.cells zeroV.cells 23) = W3 := ⟨_, rfl⟩
        have W3E : Aside0 (wo.alloc (.cells #[.int .i64 0, .int .i64 0, .int .i64 0, .int .i64 0, .int .i64 0, .string ⟨#[]⟩] 23) = W3) := ⟨hW3⟩
        have BE := Aside0.mk hab
        have hb3 : Below wo.heap.size wo W3 := by rw [← hW3]; exact below_alloc (Below.refl _ _) _
        have AB : Aside0 (W3.heap[ab]? = some (.cells zeroV.cells 23 (0, 0))) := ⟨by rw [← hW3, ← hab]; exact blk_new _ _⟩
        have HB2 : Aside0 (Below wo.heap.size wo W3) := ⟨hb3⟩
        have BG : Aside0 (wo.heap.size ≤ ab) := ⟨Nat.le_of_eq hab⟩
        clear hW3 hab hb3
        go_wp2_with fail
        rw [W3E.out, BE.out]
        go_loopw [8] (fun s8 wq => ∃ j : Nat, s8 = .int .i64 (j : Int) ∧ 1 ≤ j ∧ j ≤ 10 ∧ Aside0 (wq.heap[ab]? = some (.cells ({ zeroV with kind := kindTo (rdOf ⟨#[]⟩ W 0) (j - 1) } : AskV).cells 23 (0, 0))) ∧ Aside0 (Below wo.heap.size wo wq)) (fun s8 _ => 10 - (intOf s8).toNat)
        case atStart => exact ⟨1, rfl, Nat.le_refl _, by decide, AB, HB2⟩
        case round =>
          clear AB HB2
          obtain ⟨j, rfl, hj1, hj, AB, HB2⟩ := hrel
          by_cases hlt : j < 10
          · have c1 : decide ((j : Int) ≤ 9) = true := decide_eq_true (by omega)
            obtain ⟨ad, had, hw0⟩ := (HRD.out.below HB2.out).at_ 0 (Int.le_refl _) (by omega)
            obtain rfl := Option.some.inj had
            rw [show (0 : Int).toNat = 0 from rfl, add_plain] at hw0
            have v6 : ((0 : Int) < (m : Int)) = True := eq_true (by omega)
            have v7 : (0 < m) = True := eq_true (by omega)
            have v8 : IntKind.i64.wrap ((j : Int) + 1) = ((j + 1 : Nat) : Int) := by rw [IntWalk.i64_in _ (by omega)]; omega
            have NC := Aside0.mk (fun w => scriniumref1_Name.calls (j : Int) _ w (refName_same (j : Int)))
            go_wp2_with fail
            refine start_ (n := 6) (S := fun w' => Below wr.heap.size wr w') (ds := []) #[false, false, false, false, false, false] (by kernel_rfl) rfl rfl (below_drew1 (Below.refl _ _)) (fun hHeld => ?_)
            refine with_tabW refRead.tab18 refRead.bits18 (fun HT_ HW_ => ?_)
            refine take_ (i := 0) (N := some 71) (v := ?_) (a' := ?_) #[true, false, false, false, false, false] rfl rfl (take_ofW HT_.out HW_.out (by kernel_rfl)) (fun _ _ _ h => h) (Or.inl ⟨by rfl, ?_⟩) hHeld ?_ ?_
            rotate_left
            · intro w' s
              go_simp
              with_reducible rfl
            rotate_left
            · simp only [Act.put, List.setIfInBounds_toArray, List.set_cons_zero, List.set_cons_succ, i64_w, i32_w]
              rfl
            refine take_ (i := 2) (N := some 73) (v := ?_) (a' := ?_) #[true, false, true, false, false, false] rfl rfl (take_ofW HT_.out HW_.out (by kernel_rfl)) (fun _ _ _ h => h) (Or.inl ⟨by rfl, ?_⟩) hHeld ?_ ?_
            rotate_left
            · intro w' s
              go_simp
              with_reducible rfl
            rotate_left
            · simp only [Act.put, List.setIfInBounds_toArray, List.set_cons_zero, List.set_cons_succ, i64_w, i32_w]
              rfl
            refine take_ (i := 3) (N := some 74) (v := ?_) (a' := ?_) #[true, false, true, true, false, false] rfl rfl (take_ofW HT_.out HW_.out (by kernel_rfl)) (fun _ _ _ h => h) (Or.inl ⟨by rfl, ?_⟩) hHeld ?_ ?_
            rotate_left
            · intro w' s
              go_simp
              with_reducible rfl
            rotate_left
            · simp only [Act.put, List.setIfInBounds_toArray, List.set_cons_zero, List.set_cons_succ, i64_w, i32_w]
              rfl
            refine take_ (i := 4) (N := some 75) (v := ?_) (a' := ?_) #[true, false, true, true, true, false] rfl rfl (take_ofW HT_.out HW_.out (by kernel_rfl)) (fun _ _ _ h => h) (Or.inl ⟨by rfl, ?_⟩) hHeld ?_ ?_
            rotate_left
            · intro w' s
              have s0 := pw_cell_below s hw0
              go_simp
              with_reducible rfl
            rotate_left
            · simp only [Act.put, List.setIfInBounds_toArray, List.set_cons_zero, List.set_cons_succ, i64_w, i32_w]
              rfl
            refine one_ (i := 1) (N := some 72) #[true, true, true, true, true, false] rfl rfl (one_of HT_.out (by kernel_rfl)) (by decide) (fun K hK => ?_)
            refine goes_ Tryd.func20 (by kernel_rfl) rfl #[.int .i64 (j : Int)] (by rfl) rfl rfl (by (try simp only [List.map_toArray, List.map_cons, List.map_nil]); first | done | rfl) ?_
            refine (NC.out _).mono ?_
            rintro en wn ⟨rfl, hd⟩
            refine ⟨_, rfl, ?_⟩
            have hS3 := below_step hHeld hd.below
            clear hd
            refine hK.out _ _ hS3 (fun hHeld => ?_)
            clear hK K
            refine norm_ (a' := ?_) ?_ ?_
            rotate_left
            · show Act.put _ (some 72) _ = _
              simp only [Act.put, List.setIfInBounds_toArray, List.set_cons_zero, List.set_cons_succ, i64_w, i32_w]
              rfl
            refine take_ (i := 5) (N := some 76) (v := ?_) (a' := ?_) #[true, true, true, true, true, true] rfl rfl (take_ofW HT_.out HW_.out (by kernel_rfl)) (fun _ _ _ h => h) (Or.inl ⟨by rfl, ?_⟩) hHeld ?_ ?_
            rotate_left
            · intro w' s
              go_simp
              with_reducible rfl
            rotate_left
            · simp only [Act.put, List.setIfInBounds_toArray, List.set_cons_zero, List.set_cons_succ, i64_w, i32_w]
              rfl
            refine done_ (done_of HT_.out (by kernel_rfl)) ?_
            have ABN := Aside0.mk (blk_below AB.out hHeld)
            have HBN := Aside0.mk (below_step HB2.out hHeld)
            have HJ : Aside0 (kindTo (rdOf ⟨#[]⟩ W 0) j = if ((nameOf (j : Int)).toList == (rdOf ⟨#[]⟩ W 0).toList) = true then (j : Int) else kindTo (rdOf ⟨#[]⟩ W 0) (j - 1)) := ⟨by
              obtain ⟨i, rfl⟩ : ∃ i, j = i + 1 := ⟨j - 1, by omega⟩
              rfl⟩
            clear hw0 hHeld v6 v7
            obtain ⟨q, hq⟩ : ∃ q, ((nameOf (j : Int)).toList == (rdOf ⟨#[]⟩ W 0).toList) = q := ⟨_, rfl⟩
            rw [hq] at HJ
            rw [hq]
            clear hq
            cases q with
            | true =>
              obtain ⟨y0, y1, y2, y3, y4, y5, f0, f1, f2, f3, f4, f5⟩ := six_facts ABN.out
              clear y1 y2 y3 y4 y5 f1 f2 f3 f4 f5
              go_wp2_with fail
              refine ⟨⟨j + 1, by go_num, by omega, by omega, ⟨?_⟩, ⟨below_set HBN.out BG.out⟩⟩, ?_⟩
              · rw [Nat.add_sub_cancel, HJ.out, if_pos rfl]
                exact blk_set ABN.out 0 _
              · simp [intOf]
                omega
            | false =>
              go_wp2_with fail
              refine ⟨⟨j + 1, by go_num, by omega, by omega, ⟨?_⟩, HBN⟩, ?_⟩
              · rw [Nat.add_sub_cancel, HJ.out, if_neg (by decide)]
                exact ABN.out
              · simp [intOf]
                omega
          · have hj10 : j - 1 = 9 := by omega
            have c1 : decide ((j : Int) ≤ 9) = false := decide_eq_false (by omega)
            rw [hj10, show kindTo (rdOf ⟨#[]⟩ W 0) 9 = kindP (rdOf ⟨#[]⟩ W 0) from rfl] at AB
            have hrng := kindP_rng (rdOf ⟨#[]⟩ W 0)
            obtain ⟨kd, hK⟩ : ∃ kd, kindP (rdOf ⟨#[]⟩ W 0) = kd := ⟨_, rfl⟩
            have hKw : kindP (wd line 0) = kd := by unfold wd; rw [HWS.out]; exact hK
            have HKW := Aside0.mk hKw
            rw [hK] at AB hrng
            have KR := Aside0.mk hrng
            have FC := Aside0.mk (fun w => scriniumref1_Fields.calls 20 kd _ _ _ _ _ w (fields_all kd hrng.1 hrng.2))
            have HRB := Aside0.mk (blk_below RB.out HB2.out)
            have HBW := Aside0.mk (below_step HB.out HB2.out)
            have HRQ := Aside0.mk (HRD.out.below HB2.out)
            have BGW : Aside0 (w.heap.size ≤ ab) := ⟨by have := BE.out; have := HB.out.size; omega⟩
            have RBL : Aside0 (rb ≠ ab) := ⟨by have := blk_lt RB.out; have := BE.out; omega⟩
            have y0 : wr.cell? ⟨ab, 0, none⟩ = some (.int .i64 kd) := (six_facts AB.out).1
            have HRO := Aside0.mk HRD.out
            clear hj hj1 hj10 hlt hKw hK hrng RB HB HRD BE W3E
            go_wp2_with fail
            refine (FC.out _).mono ?_
            rintro en w5 ⟨rfl, hd⟩
            have AB5 := Aside0.mk (blk_below AB.out hd.below)
            have RB := Aside0.mk (blk_below HRB.out hd.below)
            have HB := Aside0.mk (below_step HBW.out hd.below)
            have HRD := Aside0.mk (HRQ.out.below hd.below)
            have HBO := Aside0.mk (below_step HB2.out hd.below)
            clear hd FC AB HRB HBW HRQ y0 HB2
            have AB := AB5
            clear AB5
            have hfirst : ∃ (tb ib f0 ob sb : Bool), (hasC (hasOf kd) 116 = tb ∧ hasC (hasOf kd) 105 = ib ∧ hasC (hasOf kd) 102 = f0 ∧ hasC (hasOf kd) 111 = ob ∧ hasC (hasOf kd) 115 = sb) := ⟨_, _, _, _, _, rfl, rfl, rfl, rfl, rfl⟩
            obtain ⟨tb, ib, f0, ob, sb, et, ei, ef, eo, es⟩ := hfirst
            rw [et, ei, ef, eo, es]
            have FT : Aside0 (hasB kd = (tb, ib, f0, ob, sb)) := ⟨by unfold hasB; rw [et, ei, ef, eo, es]⟩
            have FLG : Aside0 (∀ j, flagR kd j = fourR ib f0 ob sb j) := ⟨fun j => by unfold flagR fourR; rw [FT.out]⟩
            clear et ei ef eo es
            obtain ⟨iS, hiS, hzS⟩ := Option.map_eq_some_iff.1 infoStr
            have hszS : iS.size = 1 := by simp only [Prod.mk.injEq] at hzS; exact hzS.2.1
            have HCUT : Aside0 (∀ (A : Option Addr) (n c : Nat), 1 ≤ n → ∃ A' : Option Addr, (∀ W : World, (Instr.slice 34 (.slice A n c) (some (.int .i64 1)) none none).run Tryd.prog W = .ok (.slice A' (n - 1) (c - 1)) W) ∧ ∀ (w : World) (xs : List ByteArray), n ≤ c → ReadsOf Value.string ⟨#[]⟩ w A n xs → ReadsOf Value.string ⟨#[]⟩ w A' (n - 1) (xs.drop 1)) := ⟨fun A n c h => print_cut_of (P := Tryd.prog) Value.string (⟨#[]⟩ : ByteArray) 34 9 .i64 Tryd.underlying34 hiS hszS A n c 1 h⟩
            clear hzS hszS hiS
            obtain ⟨A1, hcut, hr1⟩ := HCUT.out (some ⟨g, 0, none⟩) m c (by omega)
            have HR1 := Aside0.mk (hr1 w5 W HCAP.out HRD.out)
            have HRO1 := Aside0.mk (hr1 wo W HCAP.out HRO.out)
            obtain ⟨m1, hm1⟩ : ∃ m1, m = m1 + 1 := ⟨m - 1, by omega⟩
            have e1 : m - 1 = m1 := by omega
            rw [e1] at hcut HR1 HRO1
            have HM1 := Aside0.mk hm1
            have y0 : w5.cell? ⟨ab, 0, none⟩ = some (.int .i64 kd) := (six_facts AB.out).1
            obtain ⟨ws, hws⟩ : ∃ ws, W.drop 1 = ws := ⟨_, rfl⟩
            rw [hws] at HR1 HRO1
            have HWL : Aside0 (ws.length = m1) := ⟨by rw [← hws, List.length_drop, HM.out]; exact e1⟩
            have HWZ1 : Aside0 (∀ x ∈ ws, x.size ≤ 1000000) := ⟨fun x hx => HWZ.out x (List.mem_of_mem_drop (by rw [hws]; exact hx))⟩
            have HIN : Aside0 (1 ≤ kd → readOf line = (fillR ((if tb = true then [116] else []) ++ restL kd 0) ws { zeroV with kind := kd }).bind okO) := ⟨fun h => by
              have := read_fill line (by rw [HWS.out, HM.out]; exact hm0) HED.out (by rw [HKW.out]; omega) kd HKW.out h KR.out.2
              rw [FT.out, HWS.out, hws] at this
              exact this⟩
            have HK0 : Aside0 (kd = 0 → readOf line = none) := ⟨fun h => by
              unfold readOf
              rw [if_neg (show ¬ ((wordsOf line).length = 0 ∨ edgeB line = false) from fun h => h.elim (by rw [HWS.out, HM.out]; exact hm0) (fun h => by rw [HED.out] at h; cases h)), if_pos (Or.inl (by rw [HKW.out]; exact h))]⟩
            clear hr1 e1 hm1 hws
            cases tb
            case' false =>
              obtain ⟨bk, hbk⟩ : ∃ bk, decide (kd > 0) = bk := ⟨_, rfl⟩
              obtain ⟨TXT, hTX⟩ : ∃ x : ByteArray, x = ⟨#[]⟩ := ⟨_, rfl⟩
              have HT : Aside0 (bk = true → readOf line = (fillR (restL kd 0) ws ⟨kd, 0, 0, 0, 0, TXT⟩).bind okO) := ⟨fun h => by rw [hTX]; exact HIN.out (by rw [← hbk] at h; have := of_decide_eq_true h; omega)⟩
              have HF : Aside0 (bk = false → readOf line = none) := ⟨fun h => HK0.out (by rw [← hbk] at h; have := of_decide_eq_false h; have := KR.out; omega)⟩
              have c3 : decide (0 < kd) = bk := hbk
              obtain ⟨cc0, hcc0⟩ : ∃ q, c - 1 = q := ⟨_, rfl⟩
              rw [hcc0] at hcut
              have HM1 : Aside0 (m1 ≤ cc0) := ⟨by have := HM1.out; have := HCAP.out; omega⟩
              have AB : Aside0 (w5.heap[ab]? = some (.cells (⟨kd, 0, 0, 0, 0, TXT⟩ : AskV).cells 23 (0, 0))) := ⟨by rw [hTX]; exact AB.out⟩
              clear hbk HIN HK0 HRD hcc0 hTX
              go_wp2_with fail
              clear y0
              obtain ⟨wF, hwF⟩ : ∃ x, x = w5 := ⟨_, rfl⟩
              subst hwF
              obtain ⟨rs1, hrs1⟩ : ∃ x, x = ws := ⟨_, rfl⟩
              subst hrs1
            case' true =>
              have hk1 : 1 ≤ kd := by
                have := KR.out
                by_cases h : kd = 0
                · have h0 : (hasB 0).1 = false := by decide +kernel
                  rw [h] at FT
                  rw [FT.out] at h0
                  cases h0
                · omega
              have c3 : decide (kd > 0) = true := decide_eq_true (by omega)
              have d3 : (0 < kd) = True := eq_true (by omega)
              have hT := HIN.out hk1
              rw [if_pos rfl] at hT
              rcases ws with _ | ⟨x, rs1⟩
              · skip
                obtain rfl : m1 = 0 := HWL.out.symm
                have HNO : Aside0 (readOf line = none) := ⟨by rw [hT]; exact congrArg (fun o => Option.bind o okO) (fill_text_nil (restL kd 0) _)⟩
                clear hT hk1 HIN HK0
                obtain ⟨y0, y1, y2, y3, y4, y5, f0, f1, f2, f3, f4, f5⟩ := six_facts RB.out
                have hend := six_blk (a := zeroV) RB.out
                have hbl := six_below (a := zeroV) HB.out RG.out
                have HEND := Aside0.mk hend
                have HBL := Aside0.mk hbl
                clear hend hbl
                go_wp2_with fail
                refine bodyPost_ret (w := sixSet _ rb zeroV) (rread_end (g := rb) (a0 := zeroV) _ none rfl rfl HEND.out) rfl ⟨?_, HBL.out⟩
                rw [HNO.out]
              replace hT : readOf line = ((textP x).bind fun t => fillR (restL kd 0) rs1 { ({ zeroV with kind := kd } : AskV) with text := t }).bind okO := by rw [hT]; exact congrArg (fun o => Option.bind o okO) (fill_text (restL kd 0) x rs1 _)
              have hmm : 1 ≤ m1 := by rw [← HWL.out, List.length_cons]; omega
              have c6 : ((m1 : Int) == 0) = false := beq_eq_false_iff_ne.2 (by omega)
              have c7 : (m1 == 0) = false := beq_eq_false_iff_ne.2 (by omega)
              have v6 : ((0 : Int) < (m1 : Int)) = True := eq_true (by omega)
              have v7 : (0 < m1) = True := eq_true (by omega)
              obtain ⟨ad, had, hcw⟩ := HR1.out.at_ 0 (Int.le_refl _) (by omega)
              subst had
              rw [show (0 : Int).toNat = 0 from rfl, Addr.add_zero', show rdOf ⟨#[]⟩ (x :: rs1) 0 = x from rfl] at hcw
              obtain ⟨cc0, hcc0⟩ : ∃ q, c - 1 = q := ⟨_, rfl⟩
              rw [hcc0] at hcut
              have hmc : m1 ≤ cc0 := by have := HM1.out; have := HCAP.out; omega
              obtain ⟨A2, hcut2, hr2⟩ := HCUT.out (some ad) m1 cc0 hmm
              have HRO2 := Aside0.mk (hr2 wo (x :: rs1) hmc HRO1.out)
              obtain ⟨TXT, hnum, hnv⟩ := unhex_same x (HWZ1.out x List.mem_cons_self)
              have NC := Aside0.mk (fun w => scriniumref1_unhex.calls (x.size + 3) x TXT _ w hnum)
              obtain ⟨bk, hb⟩ : ∃ b, (textP x).isSome = b := ⟨_, rfl⟩
              rw [hb] at NC
              have HT : Aside0 (bk = true → readOf line = (fillR (restL kd 0) rs1 ⟨kd, 0, 0, 0, 0, TXT⟩).bind okO) := ⟨fun h => by
                rw [h] at hb
                obtain ⟨q, hq2⟩ := Option.isSome_iff_exists.1 hb
                rw [hT, hq2, hnv q hq2]
                rfl⟩
              have HF : Aside0 (bk = false → readOf line = none) := ⟨fun h => by
                rw [h] at hb
                have hn : textP x = none := Option.not_isSome_iff_eq_none.1 (by rw [hb]; decide)
                rw [hT, hn]
                rfl⟩
              have HM2 : Aside0 (m1 - 1 ≤ cc0 - 1) := ⟨by omega⟩
              have HWL2 : Aside0 (rs1.length = m1 - 1) := ⟨by rw [← HWL.out, List.length_cons]; omega⟩
              have HWZ2 : Aside0 (∀ y ∈ rs1, y.size ≤ 1000000) := ⟨fun y hy => HWZ1.out y (List.mem_cons_of_mem _ hy)⟩
              clear hT hb hnum hnv hr2 hmm hmc hcc0 hk1 HIN HK0 HM1 HWL HWZ1 HRD
              go_wp2_with fail
              refine (NC.out _).mono ?_
              rintro en w6 ⟨rfl, hd⟩
              have AB6 := blk_below AB.out hd
              have RB6 := blk_below RB.out hd
              have HB6 := below_step HB.out hd
              have HBO6 := below_step HBO.out hd
              have cf : w6.cell? ⟨ab, 5, none⟩ = some (.string ⟨#[]⟩) := blk_cell AB6 5
              have ff := blk_frozen AB6 5
              obtain ⟨wF, hwS⟩ : ∃ W, w6.setCell ⟨ab, 5, none⟩ (.string TXT) = W := ⟨_, rfl⟩
              have AB : Aside0 (wF.heap[ab]? = some (.cells (⟨kd, 0, 0, 0, 0, TXT⟩ : AskV).cells 23 (0, 0))) := ⟨by rw [← hwS]; exact blk_set AB6 5 _⟩
              have RB : Aside0 (wF.heap[rb]? = some (.cells zeroV.cells 23 (0, 0))) := ⟨by rw [← hwS]; exact blk_far RB6 (p := ⟨ab, 5, none⟩) RBL.out _⟩
              have HB : Aside0 (Below w.heap.size w wF) := ⟨by rw [← hwS]; exact below_set HB6 BGW.out⟩
              have HR1 : Aside0 (ReadsOf Value.string ⟨#[]⟩ wF A2 (m1 - 1) rs1) := ⟨HRO2.out.below (by rw [← hwS]; exact below_set HBO6 BG.out)⟩
              have HWS6 := Aside0.mk hwS
              have HSS : Aside0 (w6.heap.size = wF.heap.size) := ⟨by rw [← hwS]; simp⟩
              have HM1 := HM2
              have HWL := HWL2
              have HWZ1 := HWZ2
              clear hd AB6 RB6 HB6 HBO6 hwS NC y0 hcw HRO2
              go_wp2_with fail
              rw [HWS6.out, HSS.out]
              clear HWS6 cf ff hcut2
            all_goals
              obtain ⟨fb, hfb⟩ : ∃ fb, wF.heap.size = fb := ⟨_, rfl⟩
              obtain ⟨W8, hW8⟩ : ∃ W8, wF.alloc (.cells #[.bool ib, .bool f0, .bool ob, .bool sb] 4) = W8 := ⟨_, rfl⟩
              obtain ⟨W9, hW9⟩ : ∃ W9, W8.alloc (.cells #[.int .i64 0, .int .i64 0, .int .i64 0, .int .i64 0] 62) = W9 := ⟨_, rfl⟩
              rw [hW8, hW9, hfb]
              have hs8 : W8.heap.size = fb + 1 := by rw [← hfb, ← hW8]; exact Array.size_push _
              have hd8 : Below wF.heap.size wF W8 := by rw [← hW8]; exact below_alloc (Below.refl _ _) _
              have hd9 : Below W8.heap.size W8 W9 := by rw [← hW9]; exact below_alloc (Below.refl _ _) _
              have HF9 := Aside0.mk (below_step hd8 hd9)
              have hf8 : W8.heap[fb]? = some (.cells #[.bool ib, .bool f0, .bool ob, .bool sb] 4 (0, 0)) := by rw [← hW8, ← hfb]; exact blk_new _ _
              have FB9 := Aside0.mk (blk_below hf8 hd9)
              have VB9 : Aside0 (W9.heap[fb + 1]? = some (.cells #[.int .i64 0, .int .i64 0, .int .i64 0, .int .i64 0] 62 (0, 0))) := ⟨by rw [← hW9, ← hs8]; exact blk_new _ _⟩
              have FG : Aside0 (wF.heap.size ≤ fb) := ⟨Nat.le_of_eq hfb⟩
              have ABL : Aside0 (fb + 1 ≠ ab) := ⟨by have := blk_lt AB.out; omega⟩
              clear hfb hW8 hW9 hs8 hd8 hd9 hf8 hcut
              go_loopw [4, 14, 17] (fun s4 s14 s17 wq => ∃ (k mm cc : Nat) (A : Option Addr) (rest : List ByteArray) (bq : Bool) (v0 v1 v2 v3 : Int), s4 = .slice A mm cc ∧ s14 = .bool bq ∧ s17 = .int .i64 (k : Int) ∧ Aside0 (k ≤ 4 ∧ mm ≤ cc ∧ rest.length = mm ∧ ∀ x ∈ rest, x.size ≤ 1000000) ∧ Aside0 (bq = true → readOf line = (fillR (restL kd k) rest ⟨kd, v0, v1, v2, v3, TXT⟩).bind okO) ∧ Aside0 (bq = false → readOf line = none) ∧ Aside0 (ReadsOf Value.string ⟨#[]⟩ wF A mm rest) ∧ Aside0 (wq.heap[fb + 1]? = some (.cells #[.int .i64 v0, .int .i64 v1, .int .i64 v2, .int .i64 v3] 62 (0, 0))) ∧ Aside0 (wq.heap[fb]? = some (.cells #[.bool ib, .bool f0, .bool ob, .bool sb] 4 (0, 0))) ∧ Aside0 (Below wF.heap.size wF wq)) (fun _ _ s17 _ => 4 - (intOf s17).toNat)
              case atStart => exact ⟨0, _, _, _, rs1, bk, 0, 0, 0, 0, rfl, rfl, rfl, ⟨by decide, HM1.out, HWL.out, HWZ1.out⟩, HT, HF, HR1, VB9, FB9, HF9⟩
              case round =>
                clear VB9 FB9 HF9 HT HF HR1 HWL HWZ1
                obtain ⟨k, mm, cc, A, rest, bq, v0, v1, v2, v3, rfl, rfl, rfl, HI, HT, HF, HRF, VB, FB, HFW⟩ := hrel
                have hk4 := HI.out.1
                by_cases hk : k < 4
                · cases bq with
                  | false =>
                    have c5 : decide ((k : Int) < 4) = true := decide_eq_true (by omega)
                    have d5 : (k < 4) = True := eq_true hk
                    have HNO : Aside0 (readOf line = none) := ⟨HF.out rfl⟩
                    clear hk hk4 HT HF
                    go_wp2_with fail
                    refine start_ (n := 16) (S := fun w' => w'.heap[fb + 1]? = some (.cells #[.int .i64 v0, .int .i64 v1, .int .i64 v2, .int .i64 v3] 62 (0, 0))) (ds := []) #[false, false, false, false, false, false, false, false, false, false, false, false, false, false, false, false] (by kernel_rfl) rfl rfl (blk_below VB.out (below_drew1 (Below.refl _ _))) (fun hHeld => ?_)
                    refine with_tabW refRead.tab38 refRead.bits38 (fun HT_ HW_ => ?_)
                    obtain ⟨wd0, hwd⟩ : ∃ W, wr.drew = W := ⟨_, rfl⟩
                    have hdd : Below wr.heap.size wr wd0 := by rw [← hwd]; exact below_drew1 (Below.refl _ _)
                    rw [hwd] at hHeld
                    rw [hwd]
                    have AB0 : Aside0 (wd0.heap[ab]? = some (.cells (⟨kd, 0, 0, 0, 0, TXT⟩ : AskV).cells 23 (0, 0))) := ⟨blk_below (blk_below AB.out HFW.out) hdd⟩
                    have RB0 := Aside0.mk (blk_below (blk_below RB.out HFW.out) hdd)
                    have HB0 := Aside0.mk (below_step (below_step HB.out HFW.out) hdd)
                    clear hwd hdd
                    refine take_ (i := 0) (N := some 143) (v := ?_) (a' := ?_) #[true, false, false, false, false, false, false, false, false, false, false, false, false, false, false, false] rfl rfl (take_ofW HT_.out HW_.out (by kernel_rfl)) (fun _ _ _ h => h) (Or.inl ⟨by rfl, ?_⟩) hHeld ?_ ?_
                    rotate_left
                    · intro w' s
                      go_simp
                      with_reducible rfl
                    rotate_left
                    · simp only [Act.put, List.setIfInBounds_toArray, List.set_cons_zero, List.set_cons_succ, i64_w, i32_w]
                      rfl
                    refine take_ (i := 1) (N := some 144) (v := ?_) (a' := ?_) #[true, true, false, false, false, false, false, false, false, false, false, false, false, false, false, false] rfl rfl (take_ofW HT_.out HW_.out (by kernel_rfl)) (fun _ _ _ h => h) (Or.inl ⟨by rfl, ?_⟩) hHeld ?_ ?_
                    rotate_left
                    · intro w' s
                      have s0 : w'.cell? ⟨fb + 1, 0, none⟩ = some (.int .i64 v0) := blk_cell s 0
                      go_simp
                      with_reducible rfl
                    rotate_left
                    · simp only [Act.put, List.setIfInBounds_toArray, List.set_cons_zero, List.set_cons_succ, i64_w, i32_w]
                      rfl
                    refine take_ (i := 2) (N := some 145) (v := ?_) (a' := ?_) #[true, true, true, false, false, false, false, false, false, false, false, false, false, false, false, false] rfl rfl (take_ofW HT_.out HW_.out (by kernel_rfl)) (fun _ _ _ h => h) (Or.inl ⟨by rfl, ?_⟩) hHeld ?_ ?_
                    rotate_left
                    · intro w' s
                      go_simp
                      with_reducible rfl
                    rotate_left
                    · simp only [Act.put, List.setIfInBounds_toArray, List.set_cons_zero, List.set_cons_succ, i64_w, i32_w]
                      rfl
                    refine take_ (i := 3) (N := some 146) (v := ?_) (a' := ?_) #[true, true, true, true, false, false, false, false, false, false, false, false, false, false, false, false] rfl rfl (take_ofW HT_.out HW_.out (by kernel_rfl)) (fun _ _ _ h => h) (Or.inl ⟨by rfl, ?_⟩) hHeld ?_ ?_
                    rotate_left
                    · intro w' s
                      have s0 : w'.cell? ⟨fb + 1, 1, none⟩ = some (.int .i64 v1) := blk_cell s 1
                      go_simp
                      with_reducible rfl
                    rotate_left
                    · simp only [Act.put, List.setIfInBounds_toArray, List.set_cons_zero, List.set_cons_succ, i64_w, i32_w]
                      rfl
                    refine take_ (i := 4) (N := some 147) (v := ?_) (a' := ?_) #[true, true, true, true, true, false, false, false, false, false, false, false, false, false, false, false] rfl rfl (take_ofW HT_.out HW_.out (by kernel_rfl)) (fun _ _ _ h => h) (Or.inl ⟨by rfl, ?_⟩) hHeld ?_ ?_
                    rotate_left
                    · intro w' s
                      go_simp
                      with_reducible rfl
                    rotate_left
                    · simp only [Act.put, List.setIfInBounds_toArray, List.set_cons_zero, List.set_cons_succ, i64_w, i32_w]
                      rfl
                    refine take_ (i := 5) (N := some 148) (v := ?_) (a' := ?_) #[true, true, true, true, true, true, false, false, false, false, false, false, false, false, false, false] rfl rfl (take_ofW HT_.out HW_.out (by kernel_rfl)) (fun _ _ _ h => h) (Or.inl ⟨by rfl, ?_⟩) hHeld ?_ ?_
                    rotate_left
                    · intro w' s
                      have s0 : w'.cell? ⟨fb + 1, 2, none⟩ = some (.int .i64 v2) := blk_cell s 2
                      go_simp
                      with_reducible rfl
                    rotate_left
                    · simp only [Act.put, List.setIfInBounds_toArray, List.set_cons_zero, List.set_cons_succ, i64_w, i32_w]
                      rfl
                    refine take_ (i := 6) (N := some 149) (v := ?_) (a' := ?_) #[true, true, true, true, true, true, true, false, false, false, false, false, false, false, false, false] rfl rfl (take_ofW HT_.out HW_.out (by kernel_rfl)) (fun _ _ _ h => h) (Or.inl ⟨by rfl, ?_⟩) hHeld ?_ ?_
                    rotate_left
                    · intro w' s
                      go_simp
                      with_reducible rfl
                    rotate_left
                    · simp only [Act.put, List.setIfInBounds_toArray, List.set_cons_zero, List.set_cons_succ, i64_w, i32_w]
                      rfl
                    refine take_ (i := 7) (N := some 150) (v := ?_) (a' := ?_) #[true, true, true, true, true, true, true, true, false, false, false, false, false, false, false, false] rfl rfl (take_ofW HT_.out HW_.out (by kernel_rfl)) (fun _ _ _ h => h) (Or.inl ⟨by rfl, ?_⟩) hHeld ?_ ?_
                    rotate_left
                    · intro w' s
                      have s0 : w'.cell? ⟨fb + 1, 3, none⟩ = some (.int .i64 v3) := blk_cell s 3
                      go_simp
                      with_reducible rfl
                    rotate_left
                    · simp only [Act.put, List.setIfInBounds_toArray, List.set_cons_zero, List.set_cons_succ, i64_w, i32_w]
                      rfl
                    refine take_ (i := 8) (N := some 151) (v := ?_) (a' := ?_) #[true, true, true, true, true, true, true, true, true, false, false, false, false, false, false, false] rfl rfl (take_ofW HT_.out HW_.out (by kernel_rfl)) (fun _ _ _ h => h) (Or.inl ⟨by rfl, ?_⟩) hHeld ?_ ?_
                    rotate_left
                    · intro w' s
                      go_simp
                      with_reducible rfl
                    rotate_left
                    · simp only [Act.put, List.setIfInBounds_toArray, List.set_cons_zero, List.set_cons_succ, i64_w, i32_w]
                      rfl
                    refine one_ (i := 9) (N := none) #[true, true, true, true, true, true, true, true, true, true, false, false, false, false, false, false] rfl rfl (one_of HT_.out (by kernel_rfl)) (by decide) (fun K hK => ?_)
                    have cf := blk_cell AB0.out 1
                    have ff := blk_frozen AB0.out 1
                    rw [show (_ : Array Value)[1]? = some (.int .i64 0) from rfl] at cf
                    refine skip_ (w1 := wd0.setCell ⟨ab, 1, none⟩ (.int .i64 v0)) (by rfl) rfl (by first | (go_simp; done) | (go_simp; rfl)) ?_
                    obtain ⟨wd1, hwd⟩ : ∃ W, wd0.setCell ⟨ab, 1, none⟩ (.int .i64 v0) = W := ⟨_, rfl⟩
                    have AB1 : Aside0 (wd1.heap[ab]? = some (.cells (⟨kd, v0, 0, 0, 0, TXT⟩ : AskV).cells 23 (0, 0))) := ⟨by rw [← hwd]; exact blk_set AB0.out 1 _⟩
                    have RB1 : Aside0 (wd1.heap[rb]? = some (.cells zeroV.cells 23 (0, 0))) := ⟨by rw [← hwd]; exact blk_far RB0.out (p := ⟨ab, 1, none⟩) RBL.out _⟩
                    have HB1 : Aside0 (Below w.heap.size w wd1) := ⟨by rw [← hwd]; exact below_set HB0.out BGW.out⟩
                    have hS := blk_far hHeld (p := ⟨ab, 1, none⟩) ABL.out (.int .i64 v0)
                    rw [hwd] at hS
                    rw [hwd]
                    clear hwd cf ff AB0 RB0 HB0
                    refine hK.out _ _ hS (fun hHeld => ?_)
                    clear hK K
                    refine take_ (i := 10) (N := some 152) (v := ?_) (a' := ?_) #[true, true, true, true, true, true, true, true, true, true, true, false, false, false, false, false] rfl rfl (take_ofW HT_.out HW_.out (by kernel_rfl)) (fun _ _ _ h => h) (Or.inl ⟨by rfl, ?_⟩) hHeld ?_ ?_
                    rotate_left
                    · intro w' s
                      go_simp
                      with_reducible rfl
                    rotate_left
                    · simp only [Act.put, List.setIfInBounds_toArray, List.set_cons_zero, List.set_cons_succ, i64_w, i32_w]
                      rfl
                    refine one_ (i := 11) (N := none) #[true, true, true, true, true, true, true, true, true, true, true, true, false, false, false, false] rfl rfl (one_of HT_.out (by kernel_rfl)) (by decide) (fun K hK => ?_)
                    have cf := blk_cell AB1.out 2
                    have ff := blk_frozen AB1.out 2
                    rw [show (_ : Array Value)[2]? = some (.int .i64 0) from rfl] at cf
                    refine skip_ (w1 := wd1.setCell ⟨ab, 2, none⟩ (.int .i64 v1)) (by rfl) rfl (by first | (go_simp; done) | (go_simp; rfl)) ?_
                    obtain ⟨wd2, hwd⟩ : ∃ W, wd1.setCell ⟨ab, 2, none⟩ (.int .i64 v1) = W := ⟨_, rfl⟩
                    have AB2 : Aside0 (wd2.heap[ab]? = some (.cells (⟨kd, v0, v1, 0, 0, TXT⟩ : AskV).cells 23 (0, 0))) := ⟨by rw [← hwd]; exact blk_set AB1.out 2 _⟩
                    have RB2 : Aside0 (wd2.heap[rb]? = some (.cells zeroV.cells 23 (0, 0))) := ⟨by rw [← hwd]; exact blk_far RB1.out (p := ⟨ab, 2, none⟩) RBL.out _⟩
                    have HB2 : Aside0 (Below w.heap.size w wd2) := ⟨by rw [← hwd]; exact below_set HB1.out BGW.out⟩
                    have hS := blk_far hHeld (p := ⟨ab, 2, none⟩) ABL.out (.int .i64 v1)
                    rw [hwd] at hS
                    rw [hwd]
                    clear hwd cf ff AB1 RB1 HB1
                    refine hK.out _ _ hS (fun hHeld => ?_)
                    clear hK K
                    refine take_ (i := 12) (N := some 153) (v := ?_) (a' := ?_) #[true, true, true, true, true, true, true, true, true, true, true, true, true, false, false, false] rfl rfl (take_ofW HT_.out HW_.out (by kernel_rfl)) (fun _ _ _ h => h) (Or.inl ⟨by rfl, ?_⟩) hHeld ?_ ?_
                    rotate_left
                    · intro w' s
                      go_simp
                      with_reducible rfl
                    rotate_left
                    · simp only [Act.put, List.setIfInBounds_toArray, List.set_cons_zero, List.set_cons_succ, i64_w, i32_w]
                      rfl
                    refine one_ (i := 13) (N := none) #[true, true, true, true, true, true, true, true, true, true, true, true, true, true, false, false] rfl rfl (one_of HT_.out (by kernel_rfl)) (by decide) (fun K hK => ?_)
                    have cf := blk_cell AB2.out 3
                    have ff := blk_frozen AB2.out 3
                    rw [show (_ : Array Value)[3]? = some (.int .i64 0) from rfl] at cf
                    refine skip_ (w1 := wd2.setCell ⟨ab, 3, none⟩ (.int .i64 v2)) (by rfl) rfl (by first | (go_simp; done) | (go_simp; rfl)) ?_
                    obtain ⟨wd3, hwd⟩ : ∃ W, wd2.setCell ⟨ab, 3, none⟩ (.int .i64 v2) = W := ⟨_, rfl⟩
                    have AB3 : Aside0 (wd3.heap[ab]? = some (.cells (⟨kd, v0, v1, v2, 0, TXT⟩ : AskV).cells 23 (0, 0))) := ⟨by rw [← hwd]; exact blk_set AB2.out 3 _⟩
                    have RB3 : Aside0 (wd3.heap[rb]? = some (.cells zeroV.cells 23 (0, 0))) := ⟨by rw [← hwd]; exact blk_far RB2.out (p := ⟨ab, 3, none⟩) RBL.out _⟩
                    have HB3 : Aside0 (Below w.heap.size w wd3) := ⟨by rw [← hwd]; exact below_set HB2.out BGW.out⟩
                    have hS := blk_far hHeld (p := ⟨ab, 3, none⟩) ABL.out (.int .i64 v2)
                    rw [hwd] at hS
                    rw [hwd]
                    clear hwd cf ff AB2 RB2 HB2
                    refine hK.out _ _ hS (fun hHeld => ?_)
                    clear hK K
                    refine take_ (i := 14) (N := some 154) (v := ?_) (a' := ?_) #[true, true, true, true, true, true, true, true, true, true, true, true, true, true, true, false] rfl rfl (take_ofW HT_.out HW_.out (by kernel_rfl)) (fun _ _ _ h => h) (Or.inl ⟨by rfl, ?_⟩) hHeld ?_ ?_
                    rotate_left
                    · intro w' s
                      go_simp
                      with_reducible rfl
                    rotate_left
                    · simp only [Act.put, List.setIfInBounds_toArray, List.set_cons_zero, List.set_cons_succ, i64_w, i32_w]
                      rfl
                    refine one_ (i := 15) (N := none) #[true, true, true, true, true, true, true, true, true, true, true, true, true, true, true, true] rfl rfl (one_of HT_.out (by kernel_rfl)) (by decide) (fun K hK => ?_)
                    have cf := blk_cell AB3.out 4
                    have ff := blk_frozen AB3.out 4
                    rw [show (_ : Array Value)[4]? = some (.int .i64 0) from rfl] at cf
                    refine skip_ (w1 := wd3.setCell ⟨ab, 4, none⟩ (.int .i64 v3)) (by rfl) rfl (by first | (go_simp; done) | (go_simp; rfl)) ?_
                    obtain ⟨wd4, hwd⟩ : ∃ W, wd3.setCell ⟨ab, 4, none⟩ (.int .i64 v3) = W := ⟨_, rfl⟩
                    have AB4 : Aside0 (wd4.heap[ab]? = some (.cells (⟨kd, v0, v1, v2, v3, TXT⟩ : AskV).cells 23 (0, 0))) := ⟨by rw [← hwd]; exact blk_set AB3.out 4 _⟩
                    have RB4 : Aside0 (wd4.heap[rb]? = some (.cells zeroV.cells 23 (0, 0))) := ⟨by rw [← hwd]; exact blk_far RB3.out (p := ⟨ab, 4, none⟩) RBL.out _⟩
                    have HB4 : Aside0 (Below w.heap.size w wd4) := ⟨by rw [← hwd]; exact below_set HB3.out BGW.out⟩
                    have hS := blk_far hHeld (p := ⟨ab, 4, none⟩) ABL.out (.int .i64 v3)
                    rw [hwd] at hS
                    rw [hwd]
                    clear hwd cf ff AB3 RB3 HB3
                    refine hK.out _ _ hS (fun hHeld => ?_)
                    clear hK K
                    refine done_ (done_of HT_.out (by kernel_rfl)) ?_
                    have RB := RB4
                    have HB := HB4
                    obtain ⟨y0, y1, y2, y3, y4, y5, f0, f1, f2, f3, f4, f5⟩ := six_facts RB.out
                    have hend := six_blk (a := zeroV) RB.out
                    have hbl := six_below (a := zeroV) HB.out RG.out
                    have HEND := Aside0.mk hend
                    have HBL := Aside0.mk hbl
                    clear hend hbl
                    go_wp2_with fail
                    refine bodyPost_ret (w := sixSet _ rb zeroV) (rread_end (g := rb) (a0 := zeroV) _ none rfl rfl HEND.out) rfl ⟨?_, HBL.out⟩
                    rw [HNO.out]
                  | true =>
                    rcases (show k = 0 ∨ k = 1 ∨ k = 2 ∨ k = 3 by omega) with rfl | rfl | rfl | rfl
                    · have k1 := blk_cell FB.out 0
                      rw [show (#[Value.bool ib, Value.bool f0, Value.bool ob, Value.bool sb] : Array Value)[0]? = some (.bool ib) from rfl] at k1
                      have hq : flagR kd 0 = ib := FLG.out 0
                      have hT := HT.out rfl
                      clear HT HF hk hk4
                      cases ib with
                      | false =>
                        have HT2 : Aside0 (true = true → readOf line = (fillR (restL kd 1) rest ⟨kd, v0, v1, v2, v3, TXT⟩).bind okO) := ⟨fun _ => by rw [hT, fill_skip (by decide) hq]⟩
                        have HF2 : Aside0 (true = false → readOf line = none) := ⟨fun h => by cases h⟩
                        have HI2 : Aside0 (1 ≤ 4 ∧ mm ≤ cc ∧ rest.length = mm ∧ ∀ x ∈ rest, x.size ≤ 1000000) := ⟨by decide, HI.out.2⟩
                        clear hT hq
                        go_wp2_with fail
                        refine ⟨⟨1, mm, cc, A, rest, true, v0, v1, v2, v3, rfl, rfl, by go_num, HI2, HT2, HF2, HRF, VB, FB, HFW⟩, ?_⟩
                        simp [intOf]
                      | true =>
                        obtain ⟨_, hmc, hrl, hrz⟩ := HI.out
                        cases rest with
                        | nil =>
                          obtain rfl : mm = 0 := hrl.symm
                          rw [fill_nil (by decide) hq] at hT
                          have HNO : Aside0 (readOf line = none) := ⟨hT⟩
                          have RB9 := Aside0.mk (blk_below RB.out HFW.out)
                          have HB9 := Aside0.mk (below_step HB.out HFW.out)
                          clear hT hq hmc hrl hrz RB HB
                          have RB := RB9
                          have HB := HB9
                          obtain ⟨y0, y1, y2, y3, y4, y5, f0, f1, f2, f3, f4, f5⟩ := six_facts RB.out
                          have hend := six_blk (a := zeroV) RB.out
                          have hbl := six_below (a := zeroV) HB.out RG.out
                          have HEND := Aside0.mk hend
                          have HBL := Aside0.mk hbl
                          clear hend hbl
                          go_wp2_with fail
                          refine bodyPost_ret (w := sixSet _ rb zeroV) (rread_end (g := rb) (a0 := zeroV) _ none rfl rfl HEND.out) rfl ⟨?_, HBL.out⟩
                          rw [HNO.out]
                        | cons x xs =>
                          rw [fill_num (by decide) hq] at hT
                          have hmm : 1 ≤ mm := by rw [← hrl, List.length_cons]; omega
                          have c6 : ((mm : Int) == 0) = false := beq_eq_false_iff_ne.2 (by omega)
                          have c7 : (mm == 0) = false := beq_eq_false_iff_ne.2 (by omega)
                          have v6 : ((0 : Int) < (mm : Int)) = True := eq_true (by omega)
                          have v7 : (0 < mm) = True := eq_true (by omega)
                          obtain ⟨ad, had, hcw⟩ := (HRF.out.below HFW.out).at_ 0 (Int.le_refl _) (by omega)
                          subst had
                          rw [show (0 : Int).toNat = 0 from rfl, Addr.add_zero', show rdOf ⟨#[]⟩ (x :: xs) 0 = x from rfl] at hcw
                          obtain ⟨A', hcut, hr1⟩ := HCUT.out (some ad) mm cc hmm
                          have HRF2 := Aside0.mk (hr1 wF (x :: xs) hmc HRF.out)
                          obtain ⟨r, hnum, hnv⟩ := refNum_same x (hrz x List.mem_cons_self)
                          have NC := Aside0.mk (fun w => scriniumref1_number.calls 7 x r _ w hnum)
                          obtain ⟨b, hb⟩ : ∃ b, (numP x).isSome = b := ⟨_, rfl⟩
                          rw [hb] at NC
                          have HT2 : Aside0 (b = true → readOf line = (fillR (restL kd 1) xs ⟨kd, r, v1, v2, v3, TXT⟩).bind okO) := ⟨fun h => by
                            rw [h] at hb
                            obtain ⟨q, hq2⟩ := Option.isSome_iff_exists.1 hb
                            rw [hT, hq2, hnv q hq2]
                            rfl⟩
                          have HF2 : Aside0 (b = false → readOf line = none) := ⟨fun h => by
                            rw [h] at hb
                            have hn : numP x = none := Option.not_isSome_iff_eq_none.1 (by rw [hb]; decide)
                            rw [hT, hn]
                            rfl⟩
                          have HI2 : Aside0 (1 ≤ 4 ∧ mm - 1 ≤ cc - 1 ∧ xs.length = mm - 1 ∧ ∀ y ∈ xs, y.size ≤ 1000000) := ⟨by decide, by omega, by rw [← hrl, List.length_cons]; omega, fun y hy => hrz y (List.mem_cons_of_mem _ hy)⟩
                          clear hT hq hrl hrz hb hnum hnv hr1 hmm hmc HI
                          go_wp2_with fail
                          refine (NC.out _).mono ?_
                          rintro en w7 ⟨rfl, hd⟩
                          have VB7 := Aside0.mk (blk_below VB.out hd.below)
                          have FB7 := Aside0.mk (blk_below FB.out hd.below)
                          have HF7 := Aside0.mk (below_step HFW.out hd.below)
                          have cf : w7.cell? ⟨fb + 1, 0, none⟩ = some (.int .i64 v0) := blk_cell VB7.out 0
                          have ff := blk_frozen VB7.out 0
                          clear hd VB FB HFW k1 hcw NC
                          go_wp2_with fail
                          refine ⟨⟨1, mm - 1, cc - 1, A', xs, b, r, v1, v2, v3, rfl, rfl, by go_num, HI2, HT2, HF2, HRF2, ⟨blk_set VB7.out 0 _⟩, ⟨blk_far FB7.out (p := ⟨fb + 1, 0, none⟩) (by show fb ≠ fb + 1; omega) _⟩, ⟨below_set HF7.out (by have := FG.out; show _ ≤ fb + 1; omega)⟩⟩, ?_⟩
                          simp [intOf]
                    · have k1 := blk_cell FB.out 1
                      rw [show (#[Value.bool ib, Value.bool f0, Value.bool ob, Value.bool sb] : Array Value)[1]? = some (.bool f0) from rfl] at k1
                      have hq : flagR kd 1 = f0 := FLG.out 1
                      have hT := HT.out rfl
                      clear HT HF hk hk4
                      cases f0 with
                      | false =>
                        have HT2 : Aside0 (true = true → readOf line = (fillR (restL kd 2) rest ⟨kd, v0, v1, v2, v3, TXT⟩).bind okO) := ⟨fun _ => by rw [hT, fill_skip (by decide) hq]⟩
                        have HF2 : Aside0 (true = false → readOf line = none) := ⟨fun h => by cases h⟩
                        have HI2 : Aside0 (2 ≤ 4 ∧ mm ≤ cc ∧ rest.length = mm ∧ ∀ x ∈ rest, x.size ≤ 1000000) := ⟨by decide, HI.out.2⟩
                        clear hT hq
                        go_wp2_with fail
                        refine ⟨⟨2, mm, cc, A, rest, true, v0, v1, v2, v3, rfl, rfl, by go_num, HI2, HT2, HF2, HRF, VB, FB, HFW⟩, ?_⟩
                        simp [intOf]
                      | true =>
                        obtain ⟨_, hmc, hrl, hrz⟩ := HI.out
                        cases rest with
                        | nil =>
                          obtain rfl : mm = 0 := hrl.symm
                          rw [fill_nil (by decide) hq] at hT
                          have HNO : Aside0 (readOf line = none) := ⟨hT⟩
                          have RB9 := Aside0.mk (blk_below RB.out HFW.out)
                          have HB9 := Aside0.mk (below_step HB.out HFW.out)
                          clear hT hq hmc hrl hrz RB HB
                          have RB := RB9
                          have HB := HB9
                          obtain ⟨y0, y1, y2, y3, y4, y5, f0, f1, f2, f3, f4, f5⟩ := six_facts RB.out
                          have hend := six_blk (a := zeroV) RB.out
                          have hbl := six_below (a := zeroV) HB.out RG.out
                          have HEND := Aside0.mk hend
                          have HBL := Aside0.mk hbl
                          clear hend hbl
                          go_wp2_with fail
                          refine bodyPost_ret (w := sixSet _ rb zeroV) (rread_end (g := rb) (a0 := zeroV) _ none rfl rfl HEND.out) rfl ⟨?_, HBL.out⟩
                          rw [HNO.out]
                        | cons x xs =>
                          rw [fill_num (by decide) hq] at hT
                          have hmm : 1 ≤ mm := by rw [← hrl, List.length_cons]; omega
                          have c6 : ((mm : Int) == 0) = false := beq_eq_false_iff_ne.2 (by omega)
                          have c7 : (mm == 0) = false := beq_eq_false_iff_ne.2 (by omega)
                          have v6 : ((0 : Int) < (mm : Int)) = True := eq_true (by omega)
                          have v7 : (0 < mm) = True := eq_true (by omega)
                          obtain ⟨ad, had, hcw⟩ := (HRF.out.below HFW.out).at_ 0 (Int.le_refl _) (by omega)
                          subst had
                          rw [show (0 : Int).toNat = 0 from rfl, Addr.add_zero', show rdOf ⟨#[]⟩ (x :: xs) 0 = x from rfl] at hcw
                          obtain ⟨A', hcut, hr1⟩ := HCUT.out (some ad) mm cc hmm
                          have HRF2 := Aside0.mk (hr1 wF (x :: xs) hmc HRF.out)
                          obtain ⟨r, hnum, hnv⟩ := refNum_same x (hrz x List.mem_cons_self)
                          have NC := Aside0.mk (fun w => scriniumref1_number.calls 7 x r _ w hnum)
                          obtain ⟨b, hb⟩ : ∃ b, (numP x).isSome = b := ⟨_, rfl⟩
                          rw [hb] at NC
                          have HT2 : Aside0 (b = true → readOf line = (fillR (restL kd 2) xs ⟨kd, v0, r, v2, v3, TXT⟩).bind okO) := ⟨fun h => by
                            rw [h] at hb
                            obtain ⟨q, hq2⟩ := Option.isSome_iff_exists.1 hb
                            rw [hT, hq2, hnv q hq2]
                            rfl⟩
                          have HF2 : Aside0 (b = false → readOf line = none) := ⟨fun h => by
                            rw [h] at hb
                            have hn : numP x = none := Option.not_isSome_iff_eq_none.1 (by rw [hb]; decide)
                            rw [hT, hn]
                            rfl⟩
                          have HI2 : Aside0 (2 ≤ 4 ∧ mm - 1 ≤ cc - 1 ∧ xs.length = mm - 1 ∧ ∀ y ∈ xs, y.size ≤ 1000000) := ⟨by decide, by omega, by rw [← hrl, List.length_cons]; omega, fun y hy => hrz y (List.mem_cons_of_mem _ hy)⟩
                          clear hT hq hrl hrz hb hnum hnv hr1 hmm hmc HI
                          go_wp2_with fail
                          refine (NC.out _).mono ?_
                          rintro en w7 ⟨rfl, hd⟩
                          have VB7 := Aside0.mk (blk_below VB.out hd.below)
                          have FB7 := Aside0.mk (blk_below FB.out hd.below)
                          have HF7 := Aside0.mk (below_step HFW.out hd.below)
                          have cf : w7.cell? ⟨fb + 1, 1, none⟩ = some (.int .i64 v1) := blk_cell VB7.out 1
                          have ff := blk_frozen VB7.out 1
                          clear hd VB FB HFW k1 hcw NC
                          go_wp2_with fail
                          refine ⟨⟨2, mm - 1, cc - 1, A', xs, b, v0, r, v2, v3, rfl, rfl, by go_num, HI2, HT2, HF2, HRF2, ⟨blk_set VB7.out 1 _⟩, ⟨blk_far FB7.out (p := ⟨fb + 1, 1, none⟩) (by show fb ≠ fb + 1; omega) _⟩, ⟨below_set HF7.out (by have := FG.out; show _ ≤ fb + 1; omega)⟩⟩, ?_⟩
                          simp [intOf]
                    · have k1 := blk_cell FB.out 2
                      rw [show (#[Value.bool ib, Value.bool f0, Value.bool ob, Value.bool sb] : Array Value)[2]? = some (.bool ob) from rfl] at k1
                      have hq : flagR kd 2 = ob := FLG.out 2
                      have hT := HT.out rfl
                      clear HT HF hk hk4
                      cases ob with
                      | false =>
                        have HT2 : Aside0 (true = true → readOf line = (fillR (restL kd 3) rest ⟨kd, v0, v1, v2, v3, TXT⟩).bind okO) := ⟨fun _ => by rw [hT, fill_skip (by decide) hq]⟩
                        have HF2 : Aside0 (true = false → readOf line = none) := ⟨fun h => by cases h⟩
                        have HI2 : Aside0 (3 ≤ 4 ∧ mm ≤ cc ∧ rest.length = mm ∧ ∀ x ∈ rest, x.size ≤ 1000000) := ⟨by decide, HI.out.2⟩
                        clear hT hq
                        go_wp2_with fail
                        refine ⟨⟨3, mm, cc, A, rest, true, v0, v1, v2, v3, rfl, rfl, by go_num, HI2, HT2, HF2, HRF, VB, FB, HFW⟩, ?_⟩
                        simp [intOf]
                      | true =>
                        obtain ⟨_, hmc, hrl, hrz⟩ := HI.out
                        cases rest with
                        | nil =>
                          obtain rfl : mm = 0 := hrl.symm
                          rw [fill_nil (by decide) hq] at hT
                          have HNO : Aside0 (readOf line = none) := ⟨hT⟩
                          have RB9 := Aside0.mk (blk_below RB.out HFW.out)
                          have HB9 := Aside0.mk (below_step HB.out HFW.out)
                          clear hT hq hmc hrl hrz RB HB
                          have RB := RB9
                          have HB := HB9
                          obtain ⟨y0, y1, y2, y3, y4, y5, f0, f1, f2, f3, f4, f5⟩ := six_facts RB.out
                          have hend := six_blk (a := zeroV) RB.out
                          have hbl := six_below (a := zeroV) HB.out RG.out
                          have HEND := Aside0.mk hend
                          have HBL := Aside0.mk hbl
                          clear hend hbl
                          go_wp2_with fail
                          refine bodyPost_ret (w := sixSet _ rb zeroV) (rread_end (g := rb) (a0 := zeroV) _ none rfl rfl HEND.out) rfl ⟨?_, HBL.out⟩
                          rw [HNO.out]
                        | cons x xs =>
                          rw [fill_num (by decide) hq] at hT
                          have hmm : 1 ≤ mm := by rw [← hrl, List.length_cons]; omega
                          have c6 : ((mm : Int) == 0) = false := beq_eq_false_iff_ne.2 (by omega)
                          have c7 : (mm == 0) = false := beq_eq_false_iff_ne.2 (by omega)
                          have v6 : ((0 : Int) < (mm : Int)) = True := eq_true (by omega)
                          have v7 : (0 < mm) = True := eq_true (by omega)
                          obtain ⟨ad, had, hcw⟩ := (HRF.out.below HFW.out).at_ 0 (Int.le_refl _) (by omega)
                          subst had
                          rw [show (0 : Int).toNat = 0 from rfl, Addr.add_zero', show rdOf ⟨#[]⟩ (x :: xs) 0 = x from rfl] at hcw
                          obtain ⟨A', hcut, hr1⟩ := HCUT.out (some ad) mm cc hmm
                          have HRF2 := Aside0.mk (hr1 wF (x :: xs) hmc HRF.out)
                          obtain ⟨r, hnum, hnv⟩ := refNum_same x (hrz x List.mem_cons_self)
                          have NC := Aside0.mk (fun w => scriniumref1_number.calls 7 x r _ w hnum)
                          obtain ⟨b, hb⟩ : ∃ b, (numP x).isSome = b := ⟨_, rfl⟩
                          rw [hb] at NC
                          have HT2 : Aside0 (b = true → readOf line = (fillR (restL kd 3) xs ⟨kd, v0, v1, r, v3, TXT⟩).bind okO) := ⟨fun h => by
                            rw [h] at hb
                            obtain ⟨q, hq2⟩ := Option.isSome_iff_exists.1 hb
                            rw [hT, hq2, hnv q hq2]
                            rfl⟩
                          have HF2 : Aside0 (b = false → readOf line = none) := ⟨fun h => by
                            rw [h] at hb
                            have hn : numP x = none := Option.not_isSome_iff_eq_none.1 (by rw [hb]; decide)
                            rw [hT, hn]
                            rfl⟩
                          have HI2 : Aside0 (3 ≤ 4 ∧ mm - 1 ≤ cc - 1 ∧ xs.length = mm - 1 ∧ ∀ y ∈ xs, y.size ≤ 1000000) := ⟨by decide, by omega, by rw [← hrl, List.length_cons]; omega, fun y hy => hrz y (List.mem_cons_of_mem _ hy)⟩
                          clear hT hq hrl hrz hb hnum hnv hr1 hmm hmc HI
                          go_wp2_with fail
                          refine (NC.out _).mono ?_
                          rintro en w7 ⟨rfl, hd⟩
                          have VB7 := Aside0.mk (blk_below VB.out hd.below)
                          have FB7 := Aside0.mk (blk_below FB.out hd.below)
                          have HF7 := Aside0.mk (below_step HFW.out hd.below)
                          have cf : w7.cell? ⟨fb + 1, 2, none⟩ = some (.int .i64 v2) := blk_cell VB7.out 2
                          have ff := blk_frozen VB7.out 2
                          clear hd VB FB HFW k1 hcw NC
                          go_wp2_with fail
                          refine ⟨⟨3, mm - 1, cc - 1, A', xs, b, v0, v1, r, v3, rfl, rfl, by go_num, HI2, HT2, HF2, HRF2, ⟨blk_set VB7.out 2 _⟩, ⟨blk_far FB7.out (p := ⟨fb + 1, 2, none⟩) (by show fb ≠ fb + 1; omega) _⟩, ⟨below_set HF7.out (by have := FG.out; show _ ≤ fb + 1; omega)⟩⟩, ?_⟩
                          simp [intOf]
                    · have k1 := blk_cell FB.out 3
                      rw [show (#[Value.bool ib, Value.bool f0, Value.bool ob, Value.bool sb] : Array Value)[3]? = some (.bool sb) from rfl] at k1
                      have hq : flagR kd 3 = sb := FLG.out 3
                      have hT := HT.out rfl
                      clear HT HF hk hk4
                      cases sb with
                      | false =>
                        have HT2 : Aside0 (true = true → readOf line = (fillR (restL kd 4) rest ⟨kd, v0, v1, v2, v3, TXT⟩).bind okO) := ⟨fun _ => by rw [hT, fill_skip (by decide) hq]⟩
                        have HF2 : Aside0 (true = false → readOf line = none) := ⟨fun h => by cases h⟩
                        have HI2 : Aside0 (4 ≤ 4 ∧ mm ≤ cc ∧ rest.length = mm ∧ ∀ x ∈ rest, x.size ≤ 1000000) := ⟨by decide, HI.out.2⟩
                        clear hT hq
                        go_wp2_with fail
                        refine ⟨⟨4, mm, cc, A, rest, true, v0, v1, v2, v3, rfl, rfl, by go_num, HI2, HT2, HF2, HRF, VB, FB, HFW⟩, ?_⟩
                        simp [intOf]
                      | true =>
                        obtain ⟨_, hmc, hrl, hrz⟩ := HI.out
                        cases rest with
                        | nil =>
                          obtain rfl : mm = 0 := hrl.symm
                          rw [fill_nil (by decide) hq] at hT
                          have HNO : Aside0 (readOf line = none) := ⟨hT⟩
                          have RB9 := Aside0.mk (blk_below RB.out HFW.out)
                          have HB9 := Aside0.mk (below_step HB.out HFW.out)
                          clear hT hq hmc hrl hrz RB HB
                          have RB := RB9
                          have HB := HB9
                          obtain ⟨y0, y1, y2, y3, y4, y5, f0, f1, f2, f3, f4, f5⟩ := six_facts RB.out
                          have hend := six_blk (a := zeroV) RB.out
                          have hbl := six_below (a := zeroV) HB.out RG.out
                          have HEND := Aside0.mk hend
                          have HBL := Aside0.mk hbl
                          clear hend hbl
                          go_wp2_with fail
                          refine bodyPost_ret (w := sixSet _ rb zeroV) (rread_end (g := rb) (a0 := zeroV) _ none rfl rfl HEND.out) rfl ⟨?_, HBL.out⟩
                          rw [HNO.out]
                        | cons x xs =>
                          rw [fill_num (by decide) hq] at hT
                          have hmm : 1 ≤ mm := by rw [← hrl, List.length_cons]; omega
                          have c6 : ((mm : Int) == 0) = false := beq_eq_false_iff_ne.2 (by omega)
                          have c7 : (mm == 0) = false := beq_eq_false_iff_ne.2 (by omega)
                          have v6 : ((0 : Int) < (mm : Int)) = True := eq_true (by omega)
                          have v7 : (0 < mm) = True := eq_true (by omega)
                          obtain ⟨ad, had, hcw⟩ := (HRF.out.below HFW.out).at_ 0 (Int.le_refl _) (by omega)
                          subst had
                          rw [show (0 : Int).toNat = 0 from rfl, Addr.add_zero', show rdOf ⟨#[]⟩ (x :: xs) 0 = x from rfl] at hcw
                          obtain ⟨A', hcut, hr1⟩ := HCUT.out (some ad) mm cc hmm
                          have HRF2 := Aside0.mk (hr1 wF (x :: xs) hmc HRF.out)
                          obtain ⟨r, hnum, hnv⟩ := refNum_same x (hrz x List.mem_cons_self)
                          have NC := Aside0.mk (fun w => scriniumref1_number.calls 7 x r _ w hnum)
                          obtain ⟨b, hb⟩ : ∃ b, (numP x).isSome = b := ⟨_, rfl⟩
                          rw [hb] at NC
                          have HT2 : Aside0 (b = true → readOf line = (fillR (restL kd 4) xs ⟨kd, v0, v1, v2, r, TXT⟩).bind okO) := ⟨fun h => by
                            rw [h] at hb
                            obtain ⟨q, hq2⟩ := Option.isSome_iff_exists.1 hb
                            rw [hT, hq2, hnv q hq2]
                            rfl⟩
                          have HF2 : Aside0 (b = false → readOf line = none) := ⟨fun h => by
                            rw [h] at hb
                            have hn : numP x = none := Option.not_isSome_iff_eq_none.1 (by rw [hb]; decide)
                            rw [hT, hn]
                            rfl⟩
                          have HI2 : Aside0 (4 ≤ 4 ∧ mm - 1 ≤ cc - 1 ∧ xs.length = mm - 1 ∧ ∀ y ∈ xs, y.size ≤ 1000000) := ⟨by decide, by omega, by rw [← hrl, List.length_cons]; omega, fun y hy => hrz y (List.mem_cons_of_mem _ hy)⟩
                          clear hT hq hrl hrz hb hnum hnv hr1 hmm hmc HI
                          go_wp2_with fail
                          refine (NC.out _).mono ?_
                          rintro en w7 ⟨rfl, hd⟩
                          have VB7 := Aside0.mk (blk_below VB.out hd.below)
                          have FB7 := Aside0.mk (blk_below FB.out hd.below)
                          have HF7 := Aside0.mk (below_step HFW.out hd.below)
                          have cf : w7.cell? ⟨fb + 1, 3, none⟩ = some (.int .i64 v3) := blk_cell VB7.out 3
                          have ff := blk_frozen VB7.out 3
                          clear hd VB FB HFW k1 hcw NC
                          go_wp2_with fail
                          refine ⟨⟨4, mm - 1, cc - 1, A', xs, b, v0, v1, v2, r, rfl, rfl, by go_num, HI2, HT2, HF2, HRF2, ⟨blk_set VB7.out 3 _⟩, ⟨blk_far FB7.out (p := ⟨fb + 1, 3, none⟩) (by show fb ≠ fb + 1; omega) _⟩, ⟨below_set HF7.out (by have := FG.out; show _ ≤ fb + 1; omega)⟩⟩, ?_⟩
                          simp [intOf]
                · obtain rfl : k = 4 := by omega
                  clear hk hk4
                  go_wp2_with fail
                  refine start_ (n := 16) (S := fun w' => w'.heap[fb + 1]? = some (.cells #[.int .i64 v0, .int .i64 v1, .int .i64 v2, .int .i64 v3] 62 (0, 0))) (ds := []) #[false, false, false, false, false, false, false, false, false, false, false, false, false, false, false, false] (by kernel_rfl) rfl rfl (blk_below VB.out (below_drew1 (Below.refl _ _))) (fun hHeld => ?_)
                  refine with_tabW refRead.tab38 refRead.bits38 (fun HT_ HW_ => ?_)
                  obtain ⟨wd0, hwd⟩ : ∃ W, wr.drew = W := ⟨_, rfl⟩
                  have hdd : Below wr.heap.size wr wd0 := by rw [← hwd]; exact below_drew1 (Below.refl _ _)
                  rw [hwd] at hHeld
                  rw [hwd]
                  have AB0 : Aside0 (wd0.heap[ab]? = some (.cells (⟨kd, 0, 0, 0, 0, TXT⟩ : AskV).cells 23 (0, 0))) := ⟨blk_below (blk_below AB.out HFW.out) hdd⟩
                  have RB0 := Aside0.mk (blk_below (blk_below RB.out HFW.out) hdd)
                  have HB0 := Aside0.mk (below_step (below_step HB.out HFW.out) hdd)
                  clear hwd hdd
                  refine take_ (i := 0) (N := some 143) (v := ?_) (a' := ?_) #[true, false, false, false, false, false, false, false, false, false, false, false, false, false, false, false] rfl rfl (take_ofW HT_.out HW_.out (by kernel_rfl)) (fun _ _ _ h => h) (Or.inl ⟨by rfl, ?_⟩) hHeld ?_ ?_
                  rotate_left
                  · intro w' s
                    go_simp
                    with_reducible rfl
                  rotate_left
                  · simp only [Act.put, List.setIfInBounds_toArray, List.set_cons_zero, List.set_cons_succ, i64_w, i32_w]
                    rfl
                  refine take_ (i := 1) (N := some 144) (v := ?_) (a' := ?_) #[true, true, false, false, false, false, false, false, false, false, false, false, false, false, false, false] rfl rfl (take_ofW HT_.out HW_.out (by kernel_rfl)) (fun _ _ _ h => h) (Or.inl ⟨by rfl, ?_⟩) hHeld ?_ ?_
                  rotate_left
                  · intro w' s
                    have s0 : w'.cell? ⟨fb + 1, 0, none⟩ = some (.int .i64 v0) := blk_cell s 0
                    go_simp
                    with_reducible rfl
                  rotate_left
                  · simp only [Act.put, List.setIfInBounds_toArray, List.set_cons_zero, List.set_cons_succ, i64_w, i32_w]
                    rfl
                  refine take_ (i := 2) (N := some 145) (v := ?_) (a' := ?_) #[true, true, true, false, false, false, false, false, false, false, false, false, false, false, false, false] rfl rfl (take_ofW HT_.out HW_.out (by kernel_rfl)) (fun _ _ _ h => h) (Or.inl ⟨by rfl, ?_⟩) hHeld ?_ ?_
                  rotate_left
                  · intro w' s
                    go_simp
                    with_reducible rfl
                  rotate_left
                  · simp only [Act.put, List.setIfInBounds_toArray, List.set_cons_zero, List.set_cons_succ, i64_w, i32_w]
                    rfl
                  refine take_ (i := 3) (N := some 146) (v := ?_) (a' := ?_) #[true, true, true, true, false, false, false, false, false, false, false, false, false, false, false, false] rfl rfl (take_ofW HT_.out HW_.out (by kernel_rfl)) (fun _ _ _ h => h) (Or.inl ⟨by rfl, ?_⟩) hHeld ?_ ?_
                  rotate_left
                  · intro w' s
                    have s0 : w'.cell? ⟨fb + 1, 1, none⟩ = some (.int .i64 v1) := blk_cell s 1
                    go_simp
                    with_reducible rfl
                  rotate_left
                  · simp only [Act.put, List.setIfInBounds_toArray, List.set_cons_zero, List.set_cons_succ, i64_w, i32_w]
                    rfl
                  refine take_ (i := 4) (N := some 147) (v := ?_) (a' := ?_) #[true, true, true, true, true, false, false, false, false, false, false, false, false, false, false, false] rfl rfl (take_ofW HT_.out HW_.out (by kernel_rfl)) (fun _ _ _ h => h) (Or.inl ⟨by rfl, ?_⟩) hHeld ?_ ?_
                  rotate_left
                  · intro w' s
                    go_simp
                    with_reducible rfl
                  rotate_left
                  · simp only [Act.put, List.setIfInBounds_toArray, List.set_cons_zero, List.set_cons_succ, i64_w, i32_w]
                    rfl
                  refine take_ (i := 5) (N := some 148) (v := ?_) (a' := ?_) #[true, true, true, true, true, true, false, false, false, false, false, false, false, false, false, false] rfl rfl (take_ofW HT_.out HW_.out (by kernel_rfl)) (fun _ _ _ h => h) (Or.inl ⟨by rfl, ?_⟩) hHeld ?_ ?_
                  rotate_left
                  · intro w' s
                    have s0 : w'.cell? ⟨fb + 1, 2, none⟩ = some (.int .i64 v2) := blk_cell s 2
                    go_simp
                    with_reducible rfl
                  rotate_left
                  · simp only [Act.put, List.setIfInBounds_toArray, List.set_cons_zero, List.set_cons_succ, i64_w, i32_w]
                    rfl
                  refine take_ (i := 6) (N := some 149) (v := ?_) (a' := ?_) #[true, true, true, true, true, true, true, false, false, false, false, false, false, false, false, false] rfl rfl (take_ofW HT_.out HW_.out (by kernel_rfl)) (fun _ _ _ h => h) (Or.inl ⟨by rfl, ?_⟩) hHeld ?_ ?_
                  rotate_left
                  · intro w' s
                    go_simp
                    with_reducible rfl
                  rotate_left
                  · simp only [Act.put, List.setIfInBounds_toArray, List.set_cons_zero, List.set_cons_succ, i64_w, i32_w]
                    rfl
                  refine take_ (i := 7) (N := some 150) (v := ?_) (a' := ?_) #[true, true, true, true, true, true, true, true, false, false, false, false, false, false, false, false] rfl rfl (take_ofW HT_.out HW_.out (by kernel_rfl)) (fun _ _ _ h => h) (Or.inl ⟨by rfl, ?_⟩) hHeld ?_ ?_
                  rotate_left
                  · intro w' s
                    have s0 : w'.cell? ⟨fb + 1, 3, none⟩ = some (.int .i64 v3) := blk_cell s 3
                    go_simp
                    with_reducible rfl
                  rotate_left
                  · simp only [Act.put, List.setIfInBounds_toArray, List.set_cons_zero, List.set_cons_succ, i64_w, i32_w]
                    rfl
                  refine take_ (i := 8) (N := some 151) (v := ?_) (a' := ?_) #[true, true, true, true, true, true, true, true, true, false, false, false, false, false, false, false] rfl rfl (take_ofW HT_.out HW_.out (by kernel_rfl)) (fun _ _ _ h => h) (Or.inl ⟨by rfl, ?_⟩) hHeld ?_ ?_
                  rotate_left
                  · intro w' s
                    go_simp
                    with_reducible rfl
                  rotate_left
                  · simp only [Act.put, List.setIfInBounds_toArray, List.set_cons_zero, List.set_cons_succ, i64_w, i32_w]
                    rfl
                  refine one_ (i := 9) (N := none) #[true, true, true, true, true, true, true, true, true, true, false, false, false, false, false, false] rfl rfl (one_of HT_.out (by kernel_rfl)) (by decide) (fun K hK => ?_)
                  have cf := blk_cell AB0.out 1
                  have ff := blk_frozen AB0.out 1
                  rw [show (_ : Array Value)[1]? = some (.int .i64 0) from rfl] at cf
                  refine skip_ (w1 := wd0.setCell ⟨ab, 1, none⟩ (.int .i64 v0)) (by rfl) rfl (by first | (go_simp; done) | (go_simp; rfl)) ?_
                  obtain ⟨wd1, hwd⟩ : ∃ W, wd0.setCell ⟨ab, 1, none⟩ (.int .i64 v0) = W := ⟨_, rfl⟩
                  have AB1 : Aside0 (wd1.heap[ab]? = some (.cells (⟨kd, v0, 0, 0, 0, TXT⟩ : AskV).cells 23 (0, 0))) := ⟨by rw [← hwd]; exact blk_set AB0.out 1 _⟩
                  have RB1 : Aside0 (wd1.heap[rb]? = some (.cells zeroV.cells 23 (0, 0))) := ⟨by rw [← hwd]; exact blk_far RB0.out (p := ⟨ab, 1, none⟩) RBL.out _⟩
                  have HB1 : Aside0 (Below w.heap.size w wd1) := ⟨by rw [← hwd]; exact below_set HB0.out BGW.out⟩
                  have hS := blk_far hHeld (p := ⟨ab, 1, none⟩) ABL.out (.int .i64 v0)
                  rw [hwd] at hS
                  rw [hwd]
                  clear hwd cf ff AB0 RB0 HB0
                  refine hK.out _ _ hS (fun hHeld => ?_)
                  clear hK K
                  refine take_ (i := 10) (N := some 152) (v := ?_) (a' := ?_) #[true, true, true, true, true, true, true, true, true, true, true, false, false, false, false, false] rfl rfl (take_ofW HT_.out HW_.out (by kernel_rfl)) (fun _ _ _ h => h) (Or.inl ⟨by rfl, ?_⟩) hHeld ?_ ?_
                  rotate_left
                  · intro w' s
                    go_simp
                    with_reducible rfl
                  rotate_left
                  · simp only [Act.put, List.setIfInBounds_toArray, List.set_cons_zero, List.set_cons_succ, i64_w, i32_w]
                    rfl
                  refine one_ (i := 11) (N := none) #[true, true, true, true, true, true, true, true, true, true, true, true, false, false, false, false] rfl rfl (one_of HT_.out (by kernel_rfl)) (by decide) (fun K hK => ?_)
                  have cf := blk_cell AB1.out 2
                  have ff := blk_frozen AB1.out 2
                  rw [show (_ : Array Value)[2]? = some (.int .i64 0) from rfl] at cf
                  refine skip_ (w1 := wd1.setCell ⟨ab, 2, none⟩ (.int .i64 v1)) (by rfl) rfl (by first | (go_simp; done) | (go_simp; rfl)) ?_
                  obtain ⟨wd2, hwd⟩ : ∃ W, wd1.setCell ⟨ab, 2, none⟩ (.int .i64 v1) = W := ⟨_, rfl⟩
                  have AB2 : Aside0 (wd2.heap[ab]? = some (.cells (⟨kd, v0, v1, 0, 0, TXT⟩ : AskV).cells 23 (0, 0))) := ⟨by rw [← hwd]; exact blk_set AB1.out 2 _⟩
                  have RB2 : Aside0 (wd2.heap[rb]? = some (.cells zeroV.cells 23 (0, 0))) := ⟨by rw [← hwd]; exact blk_far RB1.out (p := ⟨ab, 2, none⟩) RBL.out _⟩
                  have HB2 : Aside0 (Below w.heap.size w wd2) := ⟨by rw [← hwd]; exact below_set HB1.out BGW.out⟩
                  have hS := blk_far hHeld (p := ⟨ab, 2, none⟩) ABL.out (.int .i64 v1)
                  rw [hwd] at hS
                  rw [hwd]
                  clear hwd cf ff AB1 RB1 HB1
                  refine hK.out _ _ hS (fun hHeld => ?_)
                  clear hK K
                  refine take_ (i := 12) (N := some 153) (v := ?_) (a' := ?_) #[true, true, true, true, true, true, true, true, true, true, true, true, true, false, false, false] rfl rfl (take_ofW HT_.out HW_.out (by kernel_rfl)) (fun _ _ _ h => h) (Or.inl ⟨by rfl, ?_⟩) hHeld ?_ ?_
                  rotate_left
                  · intro w' s
                    go_simp
                    with_reducible rfl
                  rotate_left
                  · simp only [Act.put, List.setIfInBounds_toArray, List.set_cons_zero, List.set_cons_succ, i64_w, i32_w]
                    rfl
                  refine one_ (i := 13) (N := none) #[true, true, true, true, true, true, true, true, true, true, true, true, true, true, false, false] rfl rfl (one_of HT_.out (by kernel_rfl)) (by decide) (fun K hK => ?_)
                  have cf := blk_cell AB2.out 3
                  have ff := blk_frozen AB2.out 3
                  rw [show (_ : Array Value)[3]? = some (.int .i64 0) from rfl] at cf
                  refine skip_ (w1 := wd2.setCell ⟨ab, 3, none⟩ (.int .i64 v2)) (by rfl) rfl (by first | (go_simp; done) | (go_simp; rfl)) ?_
                  obtain ⟨wd3, hwd⟩ : ∃ W, wd2.setCell ⟨ab, 3, none⟩ (.int .i64 v2) = W := ⟨_, rfl⟩
                  have AB3 : Aside0 (wd3.heap[ab]? = some (.cells (⟨kd, v0, v1, v2, 0, TXT⟩ : AskV).cells 23 (0, 0))) := ⟨by rw [← hwd]; exact blk_set AB2.out 3 _⟩
                  have RB3 : Aside0 (wd3.heap[rb]? = some (.cells zeroV.cells 23 (0, 0))) := ⟨by rw [← hwd]; exact blk_far RB2.out (p := ⟨ab, 3, none⟩) RBL.out _⟩
                  have HB3 : Aside0 (Below w.heap.size w wd3) := ⟨by rw [← hwd]; exact below_set HB2.out BGW.out⟩
                  have hS := blk_far hHeld (p := ⟨ab, 3, none⟩) ABL.out (.int .i64 v2)
                  rw [hwd] at hS
                  rw [hwd]
                  clear hwd cf ff AB2 RB2 HB2
                  refine hK.out _ _ hS (fun hHeld => ?_)
                  clear hK K
                  refine take_ (i := 14) (N := some 154) (v := ?_) (a' := ?_) #[true, true, true, true, true, true, true, true, true, true, true, true, true, true, true, false] rfl rfl (take_ofW HT_.out HW_.out (by kernel_rfl)) (fun _ _ _ h => h) (Or.inl ⟨by rfl, ?_⟩) hHeld ?_ ?_
                  rotate_left
                  · intro w' s
                    go_simp
                    with_reducible rfl
                  rotate_left
                  · simp only [Act.put, List.setIfInBounds_toArray, List.set_cons_zero, List.set_cons_succ, i64_w, i32_w]
                    rfl
                  refine one_ (i := 15) (N := none) #[true, true, true, true, true, true, true, true, true, true, true, true, true, true, true, true] rfl rfl (one_of HT_.out (by kernel_rfl)) (by decide) (fun K hK => ?_)
                  have cf := blk_cell AB3.out 4
                  have ff := blk_frozen AB3.out 4
                  rw [show (_ : Array Value)[4]? = some (.int .i64 0) from rfl] at cf
                  refine skip_ (w1 := wd3.setCell ⟨ab, 4, none⟩ (.int .i64 v3)) (by rfl) rfl (by first | (go_simp; done) | (go_simp; rfl)) ?_
                  obtain ⟨wd4, hwd⟩ : ∃ W, wd3.setCell ⟨ab, 4, none⟩ (.int .i64 v3) = W := ⟨_, rfl⟩
                  have AB4 : Aside0 (wd4.heap[ab]? = some (.cells (⟨kd, v0, v1, v2, v3, TXT⟩ : AskV).cells 23 (0, 0))) := ⟨by rw [← hwd]; exact blk_set AB3.out 4 _⟩
                  have RB4 : Aside0 (wd4.heap[rb]? = some (.cells zeroV.cells 23 (0, 0))) := ⟨by rw [← hwd]; exact blk_far RB3.out (p := ⟨ab, 4, none⟩) RBL.out _⟩
                  have HB4 : Aside0 (Below w.heap.size w wd4) := ⟨by rw [← hwd]; exact below_set HB3.out BGW.out⟩
                  have hS := blk_far hHeld (p := ⟨ab, 4, none⟩) ABL.out (.int .i64 v3)
                  rw [hwd] at hS
                  rw [hwd]
                  clear hwd cf ff AB3 RB3 HB3
                  refine hK.out _ _ hS (fun hHeld => ?_)
                  clear hK K
                  refine done_ (done_of HT_.out (by kernel_rfl)) ?_
                  have RB := RB4
                  have HB := HB4
                  cases bq with
                  | false =>
                    have HNO : Aside0 (readOf line = none) := ⟨HF.out rfl⟩
                    obtain ⟨y0, y1, y2, y3, y4, y5, f0, f1, f2, f3, f4, f5⟩ := six_facts RB.out
                    have hend := six_blk (a := zeroV) RB.out
                    have hbl := six_below (a := zeroV) HB.out RG.out
                    have HEND := Aside0.mk hend
                    have HBL := Aside0.mk hbl
                    clear hend hbl
                    go_wp2_with fail
                    refine bodyPost_ret (w := sixSet _ rb zeroV) (rread_end (g := rb) (a0 := zeroV) _ none rfl rfl HEND.out) rfl ⟨?_, HBL.out⟩
                    rw [HNO.out]
                  | true =>
                    have hr := HT.out rfl
                    rw [fill_end] at hr
                    by_cases hm : mm = 0
                    · rw [if_pos (by rw [HI.out.2.2.1]; exact hm)] at hr
                      have e1 : (mm : Int) = 0 := by omega
                      have d1 : decide ((mm : Int) > 0) = false := decide_eq_false (by omega)
                      have d2 : decide (0 < mm) = false := decide_eq_false (by omega)
                      obtain ⟨a, ha⟩ : ∃ a : AskV, ⟨kd, v0, v1, v2, v3, TXT⟩ = a := ⟨_, rfl⟩
                      have RT := Aside0.mk (fun w => scriniumref1_AskRight.calls 20 kd v0 v1 v2 v3 TXT _ w (askRight_at ⟨kd, v0, v1, v2, v3, TXT⟩ 20 (Nat.le_refl _)))
                      have HR := Aside0.mk hr
                      obtain ⟨y0, y1, y2, y3, y4, y5, _⟩ := six_facts AB4.out
                      clear hr e1 hm
                      go_wp2_with fail
                      refine (RT.out _).mono ?_
                      rintro en w7 ⟨rfl, hd⟩
                      have AB7 := Aside0.mk (blk_below AB4.out hd)
                      have RB7 := Aside0.mk (blk_below RB.out hd)
                      have HB7 := Aside0.mk (below_step HB.out hd)
                      have HR2 : Aside0 (readOf line = okO ⟨kd, v0, v1, v2, v3, TXT⟩) := ⟨HR.out⟩
                      clear hd y0 y1 y2 y3 y4 y5 AB4 RB HB HR ha
                      have RB := RB7
                      have HB := HB7
                      cases hok : (⟨kd, v0, v1, v2, v3, TXT⟩ : AskV).ok with
                      | false =>
                        have HNO : Aside0 (readOf line = none) := ⟨by rw [HR2.out]; unfold okO; rw [hok]; rfl⟩
                        clear hok
                        obtain ⟨y0, y1, y2, y3, y4, y5, f0, f1, f2, f3, f4, f5⟩ := six_facts RB.out
                        have hend := six_blk (a := zeroV) RB.out
                        have hbl := six_below (a := zeroV) HB.out RG.out
                        have HEND := Aside0.mk hend
                        have HBL := Aside0.mk hbl
                        clear hend hbl
                        go_wp2_with fail
                        refine bodyPost_ret (w := sixSet _ rb zeroV) (rread_end (g := rb) (a0 := zeroV) _ none rfl rfl HEND.out) rfl ⟨?_, HBL.out⟩
                        rw [HNO.out]
                      | true =>
                        have HNO : Aside0 (readOf line = some ⟨kd, v0, v1, v2, v3, TXT⟩) := ⟨by rw [HR2.out]; unfold okO; rw [hok]; rfl⟩
                        obtain ⟨z0, z1, z2, z3, z4, z5, _⟩ := six_facts AB7.out
                        obtain ⟨y0, y1, y2, y3, y4, y5, f0, f1, f2, f3, f4, f5⟩ := six_facts RB.out
                        have hend := six_blk (a := ⟨kd, v0, v1, v2, v3, TXT⟩) RB.out
                        have hbl := six_below (a := ⟨kd, v0, v1, v2, v3, TXT⟩) HB.out RG.out
                        have HEND := Aside0.mk hend
                        have HBL := Aside0.mk hbl
                        clear hend hbl hok
                        go_wp2_with fail
                        refine bodyPost_ret (w := sixSet _ rb ⟨kd, v0, v1, v2, v3, TXT⟩) (rread_end (g := rb) (a0 := ⟨kd, v0, v1, v2, v3, TXT⟩) _ (some ⟨kd, v0, v1, v2, v3, TXT⟩) rfl rfl HEND.out) rfl ⟨?_, HBL.out⟩
                        rw [HNO.out]
                    · rw [if_neg (by rw [HI.out.2.2.1]; exact hm)] at hr
                      have HNO : Aside0 (readOf line = none) := ⟨hr⟩
                      have d1 : decide ((mm : Int) > 0) = true := decide_eq_true (by omega)
                      have d2 : decide (0 < mm) = true := decide_eq_true (by omega)
                      have d3 : (0 < mm) = True := eq_true (by omega)
                      clear hr hm
                      obtain ⟨y0, y1, y2, y3, y4, y5, f0, f1, f2, f3, f4, f5⟩ := six_facts RB.out
                      have hend := six_blk (a := zeroV) RB.out
                      have hbl := six_below (a := zeroV) HB.out RG.out
                      have HEND := Aside0.mk hend
                      have HBL := Aside0.mk hbl
                      clear hend hbl
                      go_wp2_with fail
                      refine bodyPost_ret (w := sixSet _ rb zeroV) (rread_end (g := rb) (a0 := zeroV) _ none rfl rfl HEND.out) rfl ⟨?_, HBL.out⟩
                      rw [HNO.out]
    · have c1 : decide ((i : Int) ≤ (n : Int)) = true := decide_eq_true (by omega)
      have d1 : (i ≤ n) = True := eq_true (by omega)
      replace hcut := hcut.elim (fun h => h.2) (fun h => absurd h.1 hend)
      by_cases hin : i = n
      · subst hin
        have c2 : ((i : Int) == (i : Int)) = true := beq_iff_eq.2 rfl
        by_cases h0 : i = 0
        · have c3 : ((i : Int) == 0) = true := beq_iff_eq.2 (by omega)
          have d3 : (i == 0) = true := beq_iff_eq.2 (by omega)
          have HNO : Aside0 (readOf line = none) := ⟨empty_words (by omega)⟩
          clear HI hi hat hwl hcut hedge hend h0
          obtain ⟨y0, y1, y2, y3, y4, y5, f0, f1, f2, f3, f4, f5⟩ := six_facts RB.out
          have hend := six_blk (a := zeroV) RB.out
          have hbl := six_below (a := zeroV) HB.out RG.out
          have HEND := Aside0.mk hend
          have HBL := Aside0.mk hbl
          clear hend hbl
          go_wp2_with fail
          refine bodyPost_ret (w := sixSet _ rb zeroV) (rread_end (g := rb) (a0 := zeroV) _ none rfl rfl HEND.out) rfl ⟨?_, HBL.out⟩
          rw [HNO.out]
        · have c3 : ((i : Int) == 0) = false := beq_eq_false_iff_ne.2 (by omega)
          have d3 : (i == 0) = false := beq_eq_false_iff_ne.2 (by omega)
          have b1 := bt_at line ((i - 1 : Nat) : Int)
          rw [Int.toNat_natCast, show ((i - 1 : Nat) : Int) = (i : Int) - 1 by omega] at b1
          have v1 : (0 ≤ (i : Int) - 1) = True := eq_true (by omega)
          have v1b : (1 ≤ (i : Int)) = True := eq_true (by omega)
          have v1c : (i - 1 < line.size) = True := eq_true (by omega)
          have v2 : ((i : Int) - 1 < (i : Int)) = True := eq_true (by omega)
          have v2b : ((i : Int) - 1 < (line.size : Int)) = True := eq_true (by omega)
          have v3 : IntKind.i64.wrap ((i : Int) - 1) = (i : Int) - 1 := IntWalk.i64_in _ (by have := HS.out; omega)
          have v4 : (((i : Int) - 1).toNat < line.size) = True := eq_true (by omega)
          have v5 : IntKind.i64.wrap ((i : Int) + 1) = ((i + 1 : Nat) : Int) := by rw [IntWalk.i64_in _ (by have := HS.out; omega)]; omega
          by_cases hb32 : bt line ((i : Int) - 1) = 32
          · have c4 : (bt line ((i : Int) - 1) == 32) = true := beq_iff_eq.2 hb32
            have HNO : Aside0 (readOf line = none) := ⟨edge_no (by omega) (Or.inr (by rw [show (line.size : Int) - 1 = (i : Int) - 1 by omega]; exact hb32))⟩
            clear HI hi hat hwl hcut hedge hend h0 hb32
            obtain ⟨y0, y1, y2, y3, y4, y5, f0, f1, f2, f3, f4, f5⟩ := six_facts RB.out
            have hend := six_blk (a := zeroV) RB.out
            have hbl := six_below (a := zeroV) HB.out RG.out
            have HEND := Aside0.mk hend
            have HBL := Aside0.mk hbl
            clear hend hbl
            go_wp2_with fail
            refine bodyPost_ret (w := sixSet _ rb zeroV) (rread_end (g := rb) (a0 := zeroV) _ none rfl rfl HEND.out) rfl ⟨?_, HBL.out⟩
            rw [HNO.out]
          · have c4 : (bt line ((i : Int) - 1) == 32) = false := beq_eq_false_iff_ne.2 hb32
            have HE : Aside0 (EdgeI line (i + 1)) := ⟨⟨fun _ => hedge.1 (by omega), fun _ => by rw [show (line.size : Int) - 1 = (i : Int) - 1 by omega]; exact hb32⟩⟩
            have hlen : (bl line).length = i := by rw [← bl_size]; omega
            by_cases hlt : at_ < i
            · have HC : Aside0 ((i + 1 ≤ i ∧ CutI (bl line) (i + 1) (i + 1) (W.map bl ++ [((bl line).drop at_).take (i - at_)])) ∨ (i + 1 = i + 1 ∧ wordsL (bl line) = W.map bl ++ [((bl line).drop at_).take (i - at_)])) := ⟨Or.inr ⟨by omega, by
                have h := hcut
                rw [← hlen] at h hlt ⊢
                exact cut_last h hlt⟩⟩
              have LW : Aside0 (W.length ≤ 1000000) := ⟨by have := HS.out; omega⟩
              have HSZ : Aside0 (w.heap.size ≤ wr.heap.size) := ⟨HB.out.size⟩
              have e4 : decide ((i : Int) > (at_ : Int)) = true := decide_eq_true (by omega)
              have d4 : (at_ < i) = True := eq_true (by omega)
              have d5 : (at_ ≤ i) = True := eq_true (by omega)
              have d6 : ((at_ : Int) ≤ (i : Int)) = True := eq_true (by omega)
              have d7 : ((i : Int) ≤ (i : Int)) = True := eq_true (by omega)
              have REL : Aside0 (i + 1 ≤ i + 1 ∧ i + 1 ≤ i + 1 ∧ (W ++ [line.extract at_ i]).length ≤ i + 1 ∧ ((i + 1 ≤ i ∧ CutI (bl line) (i + 1) (i + 1) ((W ++ [line.extract at_ i]).map bl)) ∨ (i + 1 = i + 1 ∧ wordsL (bl line) = (W ++ [line.extract at_ i]).map bl)) ∧ EdgeI line (i + 1)) := ⟨by
                refine ⟨by omega, Nat.le_refl _, by rw [List.length_append, List.length_singleton]; omega, ?_, HE.out⟩
                rw [List.map_append, List.map_cons, List.map_nil, bl_cut line at_ i (by omega)]
                exact HC.out⟩
              clear hi hat hwl hcut hedge hend HI
              go_wp2_with (first | ((with_reducible refine gate_builtin (b := .append) (xs := #[.tmp 53, .tmp 58]) rfl ?_); at_builtin; refine Kd.R_append Kd.string (w0 := w) w.heap.size rfl (.tmp 53) (.tmp 58) 34 9 (.string ⟨#[]⟩) 16 rfl Tryd.underlying34 infoStr rfl (by decide) (by decide) _ W (line.extract at_ i) [.string (line.extract at_ i)] (fun _ => True) (fun _ => False) rfl (by first | (go_simp; done) | (go_simp; rfl)) (by rfl) (fun _ hk => hk.elim) (fun _ _ => trivial) HO.out HB.out HSZ.out (by have := LW.out; omega) ?_; intro v8 w8 ho hb hg hat; have GA := Aside0.mk hg; have HO8 := Aside0.mk ho; have HB8 := Aside0.mk hb; clear ho hb hg hat))
              have RB8 := Aside0.mk (blk_grown2 RB.out GA.out (fun e => Kd.R_ne HO.out RB.out (by decide) e.symm))
              refine ⟨⟨i + 1, i + 1, W ++ [line.extract at_ i], by go_num, by go_num, REL, HO8, RB8, HB8⟩, ?_⟩
              have := REL.out.1
              simp [intOf] <;> omega
            · have HC : Aside0 ((i + 1 ≤ i ∧ CutI (bl line) (i + 1) (i + 1) (W.map bl)) ∨ (i + 1 = i + 1 ∧ wordsL (bl line) = W.map bl)) := ⟨Or.inr ⟨by omega, by
                have h := hcut
                obtain rfl : at_ = i := by omega
                rw [← hlen] at h
                exact cut_end h⟩⟩
              have e4 : decide ((i : Int) > (at_ : Int)) = false := decide_eq_false (by omega)
              have d4 : (at_ < i) = False := eq_false (by omega)
              have REL : Aside0 (i + 1 ≤ i + 1 ∧ i + 1 ≤ i + 1 ∧ W.length ≤ i + 1 ∧ ((i + 1 ≤ i ∧ CutI (bl line) (i + 1) (i + 1) (W.map bl)) ∨ (i + 1 = i + 1 ∧ wordsL (bl line) = W.map bl)) ∧ EdgeI line (i + 1)) := ⟨by omega, Nat.le_refl _, by omega, HC.out, HE.out⟩
              clear hi hat hwl hcut hedge hend HI
              go_wp2_with fail
              refine ⟨⟨i + 1, i + 1, W, by go_num, by go_num, REL, HO, RB, HB⟩, ?_⟩
              have := REL.out.1
              simp [intOf] <;> omega
      · have c2 : ((i : Int) == (n : Int)) = false := beq_eq_false_iff_ne.2 (by omega)
        have d2 : (i == n) = false := beq_eq_false_iff_ne.2 hin
        have b1 := bt_at line (i : Int)
        rw [Int.toNat_natCast] at b1
        have v1 : (0 ≤ (i : Int)) = True := eq_true (by omega)
        have v2 : ((i : Int) < (n : Int)) = True := eq_true (by omega)
        have v2b : ((i : Int) < (line.size : Int)) = True := eq_true (by omega)
        have v4 : (i < line.size) = True := eq_true (by omega)
        have v4b : (i < n) = True := eq_true (by omega)
        have v5 : IntKind.i64.wrap ((i : Int) + 1) = ((i + 1 : Nat) : Int) := by rw [IntWalk.i64_in _ (by have := HS.out; omega)]; omega
        have hlen : i < (bl line).length := by rw [← bl_size]; omega
        have hbb := bl_bt (s := line) (i := i) (by omega)
        by_cases hb32 : bt line (i : Int) = 32
        · have c4 : (bt line (i : Int) == 32) = true := beq_iff_eq.2 hb32
          rw [← hbb] at hb32
          by_cases h0 : i = 0
          · have c3 : ((i : Int) == 0) = true := beq_iff_eq.2 (by omega)
            have d3 : (i == 0) = true := beq_iff_eq.2 (by omega)
            have HNO : Aside0 (readOf line = none) := ⟨edge_no (by omega) (Or.inl (by rw [hbb] at hb32; rw [h0] at hb32; exact hb32))⟩
            clear HI hi hat hwl hcut hedge hend h0 hb32 hbb hlen
            obtain ⟨y0, y1, y2, y3, y4, y5, f0, f1, f2, f3, f4, f5⟩ := six_facts RB.out
            have hend := six_blk (a := zeroV) RB.out
            have hbl := six_below (a := zeroV) HB.out RG.out
            have HEND := Aside0.mk hend
            have HBL := Aside0.mk hbl
            clear hend hbl
            go_wp2_with fail
            refine bodyPost_ret (w := sixSet _ rb zeroV) (rread_end (g := rb) (a0 := zeroV) _ none rfl rfl HEND.out) rfl ⟨?_, HBL.out⟩
            rw [HNO.out]
          · have c3 : ((i : Int) == 0) = false := beq_eq_false_iff_ne.2 (by omega)
            have d3 : (i == 0) = false := beq_eq_false_iff_ne.2 h0
            have HE : Aside0 (EdgeI line (i + 1)) := ⟨⟨fun _ => hedge.1 (by omega), fun h => by omega⟩⟩
            by_cases hlt : at_ < i
            · have HC : Aside0 ((i + 1 ≤ n ∧ CutI (bl line) (i + 1) (i + 1) (W.map bl ++ [((bl line).drop at_).take (i - at_)])) ∨ (i + 1 = n + 1 ∧ wordsL (bl line) = W.map bl ++ [((bl line).drop at_).take (i - at_)])) := ⟨Or.inl ⟨by omega, cut_word hcut hlen hb32 hlt⟩⟩
              clear hb32 hbb hlen
              have LW : Aside0 (W.length ≤ 1000000) := ⟨by have := HS.out; omega⟩
              have HSZ : Aside0 (w.heap.size ≤ wr.heap.size) := ⟨HB.out.size⟩
              have e4 : decide ((i : Int) > (at_ : Int)) = true := decide_eq_true (by omega)
              have d4 : (at_ < i) = True := eq_true (by omega)
              have d5 : (at_ ≤ i) = True := eq_true (by omega)
              have d6 : ((at_ : Int) ≤ (i : Int)) = True := eq_true (by omega)
              have d7 : ((i : Int) ≤ (n : Int)) = True := eq_true (by omega)
              have REL : Aside0 (i + 1 ≤ n + 1 ∧ i + 1 ≤ i + 1 ∧ (W ++ [line.extract at_ i]).length ≤ i + 1 ∧ ((i + 1 ≤ n ∧ CutI (bl line) (i + 1) (i + 1) ((W ++ [line.extract at_ i]).map bl)) ∨ (i + 1 = n + 1 ∧ wordsL (bl line) = (W ++ [line.extract at_ i]).map bl)) ∧ EdgeI line (i + 1)) := ⟨by
                refine ⟨by omega, Nat.le_refl _, by rw [List.length_append, List.length_singleton]; omega, ?_, HE.out⟩
                rw [List.map_append, List.map_cons, List.map_nil, bl_cut line at_ i (by omega)]
                exact HC.out⟩
              clear hi hat hwl hcut hedge hend HI
              go_wp2_with (first | ((with_reducible refine gate_builtin (b := .append) (xs := #[.tmp 53, .tmp 58]) rfl ?_); at_builtin; refine Kd.R_append Kd.string (w0 := w) w.heap.size rfl (.tmp 53) (.tmp 58) 34 9 (.string ⟨#[]⟩) 16 rfl Tryd.underlying34 infoStr rfl (by decide) (by decide) _ W (line.extract at_ i) [.string (line.extract at_ i)] (fun _ => True) (fun _ => False) rfl (by first | (go_simp; done) | (go_simp; rfl)) (by rfl) (fun _ hk => hk.elim) (fun _ _ => trivial) HO.out HB.out HSZ.out (by have := LW.out; omega) ?_; intro v8 w8 ho hb hg hat; have GA := Aside0.mk hg; have HO8 := Aside0.mk ho; have HB8 := Aside0.mk hb; clear ho hb hg hat))
              have RB8 := Aside0.mk (blk_grown2 RB.out GA.out (fun e => Kd.R_ne HO.out RB.out (by decide) e.symm))
              refine ⟨⟨i + 1, i + 1, W ++ [line.extract at_ i], by go_num, by go_num, REL, HO8, RB8, HB8⟩, ?_⟩
              have := REL.out.1
              simp [intOf] <;> omega
            · have HC : Aside0 ((i + 1 ≤ n ∧ CutI (bl line) (i + 1) (i + 1) (W.map bl)) ∨ (i + 1 = n + 1 ∧ wordsL (bl line) = W.map bl)) := ⟨Or.inl ⟨by omega, by
                obtain rfl : at_ = i := by omega
                exact cut_none hcut hlen hb32⟩⟩
              clear hb32 hbb hlen
              have e4 : decide ((i : Int) > (at_ : Int)) = false := decide_eq_false (by omega)
              have d4 : (at_ < i) = False := eq_false (by omega)
              have REL : Aside0 (i + 1 ≤ n + 1 ∧ i + 1 ≤ i + 1 ∧ W.length ≤ i + 1 ∧ ((i + 1 ≤ n ∧ CutI (bl line) (i + 1) (i + 1) (W.map bl)) ∨ (i + 1 = n + 1 ∧ wordsL (bl line) = W.map bl)) ∧ EdgeI line (i + 1)) := ⟨by omega, Nat.le_refl _, by omega, HC.out, HE.out⟩
              clear hi hat hwl hcut hedge hend HI
              go_wp2_with fail
              refine ⟨⟨i + 1, i + 1, W, by go_num, by go_num, REL, HO, RB, HB⟩, ?_⟩
              have := REL.out.1
              simp [intOf] <;> omega
        · have c4 : (bt line (i : Int) == 32) = false := beq_eq_false_iff_ne.2 hb32
          have REL : Aside0 (i + 1 ≤ n + 1 ∧ at_ ≤ i + 1 ∧ W.length ≤ i + 1 ∧ ((i + 1 ≤ n ∧ CutI (bl line) (i + 1) at_ (W.map bl)) ∨ (i + 1 = n + 1 ∧ wordsL (bl line) = W.map bl)) ∧ EdgeI line (i + 1)) := ⟨by
            refine ⟨by omega, by omega, by omega, Or.inl ⟨by omega, cut_on hcut hlen (by rw [ne_eq, hbb]; exact hb32)⟩, ⟨fun _ => ?_, fun h => by omega⟩⟩
            by_cases h0 : i = 0
            · rw [h0] at hb32
              exact ⟨by omega, hb32⟩
            · exact hedge.1 (by omega)⟩
          clear hi hat hwl hcut hedge hend HI hb32 hbb hlen
          go_wp2_with fail
          refine ⟨⟨i + 1, at_, W, rfl, by go_num, REL, HO, RB, HB⟩, ?_⟩
          have := REL.out.1
          simp [intOf]
          omega
end Go.Proofs.YtbmjekekpmabbaaDoor.P

end
section
set_option linter.unusedVariables false
set_option linter.unusedSimpArgs false
namespace Go.Proofs.YtbmjekekpmabbaaDoor.P
open Go.RowKit Go.Proofs.YtbmjekekpmabbaaDoorW.PrintWords Go.Proofs.YtbmjekekpmabbaaDoorW.PrintLast Go.Proofs.YtbmjekekpmabbaaDoorW.PrintMore

def refGet.T3 : Bool × List (List Nat × List Nat) := (true, [([], []), ([0], [0]), ([1], [1]), ([], []), ([3], [3]), ([4], [4]), ([], []), ([6], [6]), ([7, 5], [7]), ([], []), ([9], [9]), ([10, 8], [10]), ([], []), ([12], [12]), ([13, 11], [13]), ([], []), ([15], [15]), ([2, 5, 8, 11, 14, 16], [2, 5, 8, 11, 14, 16]), ([], []), ([18, 17, 14, 0, 1, 2, 3, 4, 5, 6, 7, 8, 9, 10, 11, 12, 13, 14, 15, 16, 17, 18], [17, 18])])
def refGet.B3 : List Nat := [0, 1, 3, 0, 8, 24, 0, 64, 248, 0, 512, 2040, 0, 4096, 16376, 0, 32768, 131071, 0, 524287]
theorem refGet.tab3 : rtab .any (opsOf Tryd.f15 3) = refGet.T3 := by kernel_rfl
theorem refGet.bits3 : waitsOk refGet.T3.2 refGet.B3 = true := by kernel_rfl
theorem rget_end {W : World} {g : Nat} {a0 : AskV} (tmps : Array Value) (o : Option AskV) (hp : tmps.getD 2 undef = .pointer (some ⟨g, 0, none⟩)) (h3 : tmps.getD 3 undef = .bool o.isSome) (h : W.heap[g]? = some (.cells (o.getD zeroV).cells 23 (0, 0))) :
    (results Tryd.f15 tmps).run Tryd.prog W = .ok (outOf o) W := by
  have := results_ct (P := Tryd.prog) (fn := Tryd.f15) (p := 2) (u := 3) (ty := 23) rfl tmps W g 23 (o.getD zeroV).cells (0, 0) _ hp h Tryd.underlying23 rfl askInfo
  rw [this, h3]
  cases o <;> rfl
set_option maxRecDepth 100000 in
set_option maxHeartbeats 4000000 in
theorem rget_calls (s : ByteArray) (w : World) (hs : s.size ≤ 1000000) :
    Calls Tryd.prog 15 #[.string s] w fun e w' => e = .returned (outOf (getOf s)) ∧ Below w.heap.size w w' := by
  obtain ⟨W1, hW1⟩ : ∃ W1, w.alloc (.cells zeroV.cells 23) = W1 := ⟨_, rfl⟩
  have HB : Aside0 (Below w.heap.size w W1) := ⟨by rw [← hW1]; exact below_alloc (Below.refl _ _) _⟩
  obtain ⟨rb, hrb⟩ : ∃ rb, w.heap.size = rb := ⟨_, rfl⟩
  have RB : Aside0 (W1.heap[rb]? = some (.cells zeroV.cells 23 (0, 0))) := ⟨by rw [← hW1, ← hrb]; exact blk_new _ _⟩
  have RG : Aside0 (w.heap.size ≤ rb) := ⟨Nat.le_of_eq hrb⟩
  have W1E : Aside0 (w.alloc (.cells #[.int .i64 0, .int .i64 0, .int .i64 0, .int .i64 0, .int .i64 0, .string ⟨#[]⟩] 23) = W1) := ⟨hW1⟩
  have RBE := Aside0.mk hrb
  have HS := Aside0.mk hs
  clear hW1 hrb hs
  by_cases hsh : s.size < 10
  · have HN : Aside0 (getOf s = none) := ⟨by unfold getOf; rw [if_pos hsh]⟩
    have c1 : decide ((s.size : Int) < 10) = true := decide_eq_true (by omega)
    clear hsh
    go_enter Tryd.func15, Tryd.ntmps15
    go_wp2_with fail
    rw [W1E.out, RBE.out]
    refine bodyPost_ret (rget_end (g := rb) (a0 := zeroV) _ none rfl rfl RB.out) rfl ⟨?_, by rw [← RBE.out]; exact HB.out⟩
    rw [HN.out]
  · have c1 : decide ((s.size : Int) < 10) = false := decide_eq_false (by omega)
    have b9 := bt_at s 9
    rw [show (9 : Int).toNat = 9 from rfl] at b9
    have p9 : ((9 : Int) < (s.size : Int)) = True := eq_true (by omega)
    have q9 : (9 < s.size) = True := eq_true (by omega)
    obtain ⟨t0, t1⟩ := bt_range s 9
    have v9 : wrap64 (bt s 9) = bt s 9 := IntWalk.wrap64_in _ (by omega)
    have u9 : IntKind.i64.wrap (bt s 9) = bt s 9 := IntWalk.i64_in _ (by omega)
    have v19 : wrap64 (10 + bt s 9) = 10 + bt s 9 := IntWalk.wrap64_in _ (by omega)
    have u19 : IntKind.i64.wrap (10 + bt s 9) = 10 + bt s 9 := IntWalk.i64_in _ (by omega)
    by_cases he : (s.size : Int) = 10 + bt s 9
    · have c2 : ((s.size : Int) != 10 + bt s 9) = false := bne_eq_false_iff_eq.2 he
      have o0 : scriniumref1_of.f 20 (s.extract 1 3) = some (numAt s 0) := of_at s 0 (by omega) (by decide)
      have o1 : scriniumref1_of.f 20 (s.extract 3 5) = some (numAt s 1) := of_at s 1 (by omega) (by decide)
      have o2 : scriniumref1_of.f 20 (s.extract 5 7) = some (numAt s 2) := of_at s 2 (by omega) (by decide)
      have o3 : scriniumref1_of.f 20 (s.extract 7 9) = some (numAt s 3) := of_at s 3 (by omega) (by decide)
      have NC0 := Aside0.mk (fun w => scriniumref1_of.calls 20 _ _ w o0)
      have NC1 := Aside0.mk (fun w => scriniumref1_of.calls 20 _ _ w o1)
      have NC2 := Aside0.mk (fun w => scriniumref1_of.calls 20 _ _ w o2)
      have NC3 := Aside0.mk (fun w => scriniumref1_of.calls 20 _ _ w o3)
      have RT := Aside0.mk (fun w => scriniumref1_AskRight.calls 20 (getV s).kind (getV s).id (getV s).fr (getV s).tt (getV s).snap (getV s).text _ w (askRight_at (getV s) 20 (Nat.le_refl _)))
      have HGT : Aside0 (getOf s = if (getV s).ok = true then some (getV s) else none) := ⟨by
        unfold getOf
        rw [if_neg hsh]
        by_cases hok : (getV s).ok = true
        · rw [if_pos hok, if_pos ⟨hok, by rw [put_back s hok he]⟩]
        · rw [if_neg hok, if_neg (fun h => hok h.1)]⟩
      have p1 : ((0 : Int) < (s.size : Int)) = True := eq_true (by omega)
      have p2 : (0 < s.size) = True := eq_true (by omega)
      have p3 : ((3 : Int) ≤ (s.size : Int)) = True := eq_true (by omega)
      have p4 : (3 ≤ s.size) = True := eq_true (by omega)
      have p5 : ((5 : Int) ≤ (s.size : Int)) = True := eq_true (by omega)
      have p6 : (5 ≤ s.size) = True := eq_true (by omega)
      have p7 : ((7 : Int) ≤ (s.size : Int)) = True := eq_true (by omega)
      have p8 : (7 ≤ s.size) = True := eq_true (by omega)
      have p10 : ((9 : Int) ≤ (s.size : Int)) = True := eq_true (by omega)
      have p11 : (9 ≤ s.size) = True := eq_true (by omega)
      have p12 : ((10 : Int) ≤ (s.size : Int)) = True := eq_true (by omega)
      have p13 : (10 ≤ s.size) = True := eq_true (by omega)
      have b1 := bt_at s 0
      rw [show (0 : Int).toNat = 0 from rfl] at b1
      obtain ⟨r0, r1⟩ := bt_range s 0
      have v1 : wrap64 (bt s 0) = bt s 0 := IntWalk.wrap64_in _ (by omega)
      have v2 : IntKind.i64.wrap (bt s 0) = bt s 0 := IntWalk.i64_in _ (by omega)
      clear hsh he o0 o1 o2 o3
      go_enter Tryd.func15, Tryd.ntmps15
      go_wp2_with fail
      rw [W1E.out, RBE.out]
      refine start_ (n := 20) (S := fun w' => Below W1.heap.size W1 w') (ds := []) #[false, false, false, false, false, false, false, false, false, false, false, false, false, false, false, false, false, false, false, false] (by kernel_rfl) rfl rfl (below_drew1 (Below.refl _ _)) (fun hHeld => ?_)
      refine with_tabW refGet.tab3 refGet.bits3 (fun HT_ HW_ => ?_)
      refine take_ (i := 0) (N := some 18) (v := ?_) (a' := ?_) #[true, false, false, false, false, false, false, false, false, false, false, false, false, false, false, false, false, false, false, false] rfl rfl (take_ofW HT_.out HW_.out (by kernel_rfl)) (fun _ _ _ h => h) (Or.inl ⟨by rfl, ?_⟩) hHeld ?_ ?_
      rotate_left
      · intro w' sg
        go_simp
        with_reducible rfl
      rotate_left
      · simp only [Act.put, List.setIfInBounds_toArray, List.set_cons_zero, List.set_cons_succ, i64_w, i32_w]
        rfl
      refine take_ (i := 1) (N := some 19) (v := ?_) (a' := ?_) #[true, true, false, false, false, false, false, false, false, false, false, false, false, false, false, false, false, false, false, false] rfl rfl (take_ofW HT_.out HW_.out (by kernel_rfl)) (fun _ _ _ h => h) (Or.inl ⟨by rfl, ?_⟩) hHeld ?_ ?_
      rotate_left
      · intro w' sg
        go_simp
        with_reducible rfl
      rotate_left
      · simp only [Act.put, List.setIfInBounds_toArray, List.set_cons_zero, List.set_cons_succ, i64_w, i32_w]
        rfl
      refine take_ (i := 2) (N := some 20) (v := ?_) (a' := ?_) #[true, true, true, false, false, false, false, false, false, false, false, false, false, false, false, false, false, false, false, false] rfl rfl (take_ofW HT_.out HW_.out (by kernel_rfl)) (fun _ _ _ h => h) (Or.inl ⟨by rfl, ?_⟩) hHeld ?_ ?_
      rotate_left
      · intro w' sg
        go_simp
        with_reducible rfl
      rotate_left
      · simp only [Act.put, List.setIfInBounds_toArray, List.set_cons_zero, List.set_cons_succ, i64_w, i32_w]
        rfl
      refine take_ (i := 3) (N := some 21) (v := ?_) (a' := ?_) #[true, true, true, true, false, false, false, false, false, false, false, false, false, false, false, false, false, false, false, false] rfl rfl (take_ofW HT_.out HW_.out (by kernel_rfl)) (fun _ _ _ h => h) (Or.inl ⟨by rfl, ?_⟩) hHeld ?_ ?_
      rotate_left
      · intro w' sg
        go_simp
        with_reducible rfl
      rotate_left
      · simp only [Act.put, List.setIfInBounds_toArray, List.set_cons_zero, List.set_cons_succ, i64_w, i32_w]
        rfl
      refine take_ (i := 4) (N := some 22) (v := ?_) (a' := ?_) #[true, true, true, true, true, false, false, false, false, false, false, false, false, false, false, false, false, false, false, false] rfl rfl (take_ofW HT_.out HW_.out (by kernel_rfl)) (fun _ _ _ h => h) (Or.inl ⟨by rfl, ?_⟩) hHeld ?_ ?_
      rotate_left
      · intro w' sg
        go_simp
        with_reducible rfl
      rotate_left
      · simp only [Act.put, List.setIfInBounds_toArray, List.set_cons_zero, List.set_cons_succ, i64_w, i32_w]
        rfl
      refine take_ (i := 6) (N := some 24) (v := ?_) (a' := ?_) #[true, true, true, true, true, false, true, false, false, false, false, false, false, false, false, false, false, false, false, false] rfl rfl (take_ofW HT_.out HW_.out (by kernel_rfl)) (fun _ _ _ h => h) (Or.inl ⟨by rfl, ?_⟩) hHeld ?_ ?_
      rotate_left
      · intro w' sg
        go_simp
        with_reducible rfl
      rotate_left
      · simp only [Act.put, List.setIfInBounds_toArray, List.set_cons_zero, List.set_cons_succ, i64_w, i32_w]
        rfl
      refine take_ (i := 7) (N := some 25) (v := ?_) (a' := ?_) #[true, true, true, true, true, false, true, true, false, false, false, false, false, false, false, false, false, false, false, false] rfl rfl (take_ofW HT_.out HW_.out (by kernel_rfl)) (fun _ _ _ h => h) (Or.inl ⟨by rfl, ?_⟩) hHeld ?_ ?_
      rotate_left
      · intro w' sg
        go_simp
        with_reducible rfl
      rotate_left
      · simp only [Act.put, List.setIfInBounds_toArray, List.set_cons_zero, List.set_cons_succ, i64_w, i32_w]
        rfl
      refine take_ (i := 9) (N := some 27) (v := ?_) (a' := ?_) #[true, true, true, true, true, false, true, true, false, true, false, false, false, false, false, false, false, false, false, false] rfl rfl (take_ofW HT_.out HW_.out (by kernel_rfl)) (fun _ _ _ h => h) (Or.inl ⟨by rfl, ?_⟩) hHeld ?_ ?_
      rotate_left
      · intro w' sg
        go_simp
        with_reducible rfl
      rotate_left
      · simp only [Act.put, List.setIfInBounds_toArray, List.set_cons_zero, List.set_cons_succ, i64_w, i32_w]
        rfl
      refine take_ (i := 10) (N := some 28) (v := ?_) (a' := ?_) #[true, true, true, true, true, false, true, true, false, true, true, false, false, false, false, false, false, false, false, false] rfl rfl (take_ofW HT_.out HW_.out (by kernel_rfl)) (fun _ _ _ h => h) (Or.inl ⟨by rfl, ?_⟩) hHeld ?_ ?_
      rotate_left
      · intro w' sg
        go_simp
        with_reducible rfl
      rotate_left
      · simp only [Act.put, List.setIfInBounds_toArray, List.set_cons_zero, List.set_cons_succ, i64_w, i32_w]
        rfl
      refine take_ (i := 12) (N := some 30) (v := ?_) (a' := ?_) #[true, true, true, true, true, false, true, true, false, true, true, false, true, false, false, false, false, false, false, false] rfl rfl (take_ofW HT_.out HW_.out (by kernel_rfl)) (fun _ _ _ h => h) (Or.inl ⟨by rfl, ?_⟩) hHeld ?_ ?_
      rotate_left
      · intro w' sg
        go_simp
        with_reducible rfl
      rotate_left
      · simp only [Act.put, List.setIfInBounds_toArray, List.set_cons_zero, List.set_cons_succ, i64_w, i32_w]
        rfl
      refine take_ (i := 13) (N := some 31) (v := ?_) (a' := ?_) #[true, true, true, true, true, false, true, true, false, true, true, false, true, true, false, false, false, false, false, false] rfl rfl (take_ofW HT_.out HW_.out (by kernel_rfl)) (fun _ _ _ h => h) (Or.inl ⟨by rfl, ?_⟩) hHeld ?_ ?_
      rotate_left
      · intro w' sg
        go_simp
        with_reducible rfl
      rotate_left
      · simp only [Act.put, List.setIfInBounds_toArray, List.set_cons_zero, List.set_cons_succ, i64_w, i32_w]
        rfl
      refine take_ (i := 15) (N := some 33) (v := ?_) (a' := ?_) #[true, true, true, true, true, false, true, true, false, true, true, false, true, true, false, true, false, false, false, false] rfl rfl (take_ofW HT_.out HW_.out (by kernel_rfl)) (fun _ _ _ h => h) (Or.inl ⟨by rfl, ?_⟩) hHeld ?_ ?_
      rotate_left
      · intro w' sg
        go_simp
        with_reducible rfl
      rotate_left
      · simp only [Act.put, List.setIfInBounds_toArray, List.set_cons_zero, List.set_cons_succ, i64_w, i32_w]
        rfl
      refine take_ (i := 16) (N := some 34) (v := ?_) (a' := ?_) #[true, true, true, true, true, false, true, true, false, true, true, false, true, true, false, true, true, false, false, false] rfl rfl (take_ofW HT_.out HW_.out (by kernel_rfl)) (fun _ _ _ h => h) (Or.inl ⟨by rfl, ?_⟩) hHeld ?_ ?_
      rotate_left
      · intro w' sg
        go_simp
        with_reducible rfl
      rotate_left
      · simp only [Act.put, List.setIfInBounds_toArray, List.set_cons_zero, List.set_cons_succ, i64_w, i32_w]
        rfl
      refine join_ (σ := Nat) 1 #[true, true, true, true, true, true, true, true, true, true, true, true, true, true, true, true, true, true, true, false] (fun gb => [(23, .int .i64 (numAt s 0)), (26, .int .i64 (numAt s 1)), (29, .int .i64 (numAt s 2)), (32, .int .i64 (numAt s 3)), (35, .agg #[.int .i64 (bt s 0), .int .i64 (numAt s 0), .int .i64 (numAt s 1), .int .i64 (numAt s 2), .int .i64 (numAt s 3), .string (s.extract 10 s.size)]), (4, .pointer (some ⟨gb, 0, none⟩))]) (fun gb w' => w'.heap[gb]? = some (.cells #[.int .i64 0, .int .i64 0, .int .i64 0, .int .i64 0, .int .i64 0, .string (⟨#[]⟩ : ByteArray)] 23 (0, 0)) ∧ W1.heap.size ≤ gb ∧ Below W1.heap.size W1 w') ?_ ?_
      rotate_left
      · intro hjoin
        refine two_ (i := 5) (j := 18) (Ni := some 23) (Nj := some 4) #[true, true, true, true, true, true, true, true, false, true, true, false, true, true, false, true, true, false, false, false] #[true, true, true, true, true, false, true, true, false, true, true, false, true, true, false, true, true, false, true, false] rfl rfl rfl rfl (two_of HT_.out (by kernel_rfl)) (by decide) (by decide) (fun K hK => ?_) (fun K hK => ?_)
        · refine goes_ Tryd.func27 (by kernel_rfl) rfl #[.string (s.extract 1 3)] (by rfl) rfl rfl (by (try simp only [List.map_toArray, List.map_cons, List.map_nil]); first | done | rfl) ?_
          refine (NC0.out _).mono ?_
          rintro en wn ⟨rfl, hd⟩
          refine ⟨_, rfl, ?_⟩
          have hS := below_step hHeld hd.below
          clear hd
          refine hK.out _ _ hS (fun _ => ?_)
          clear hK K hHeld
          have hHeld := hS
          clear hS
          refine norm_ (a' := ?_) ?_ ?_
          rotate_left
          · show Act.put _ (some 23) _ = _
            simp only [Act.put, List.setIfInBounds_toArray, List.set_cons_zero, List.set_cons_succ, i64_w, i32_w]
            rfl
          refine two_ (i := 8) (j := 18) (Ni := some 26) (Nj := some 4) #[true, true, true, true, true, true, true, true, true, true, true, false, true, true, false, true, true, false, false, false] #[true, true, true, true, true, true, true, true, false, true, true, false, true, true, false, true, true, false, true, false] rfl rfl rfl rfl (two_of HT_.out (by kernel_rfl)) (by decide) (by decide) (fun K hK => ?_) (fun K hK => ?_)
          · refine goes_ Tryd.func27 (by kernel_rfl) rfl #[.string (s.extract 3 5)] (by rfl) rfl rfl (by (try simp only [List.map_toArray, List.map_cons, List.map_nil]); first | done | rfl) ?_
            refine (NC1.out _).mono ?_
            rintro en wn ⟨rfl, hd⟩
            refine ⟨_, rfl, ?_⟩
            have hS := below_step hHeld hd.below
            clear hd
            refine hK.out _ _ hS (fun _ => ?_)
            clear hK K hHeld
            have hHeld := hS
            clear hS
            refine norm_ (a' := ?_) ?_ ?_
            rotate_left
            · show Act.put _ (some 26) _ = _
              simp only [Act.put, List.setIfInBounds_toArray, List.set_cons_zero, List.set_cons_succ, i64_w, i32_w]
              rfl
            refine two_ (i := 11) (j := 18) (Ni := some 29) (Nj := some 4) #[true, true, true, true, true, true, true, true, true, true, true, true, true, true, false, true, true, false, false, false] #[true, true, true, true, true, true, true, true, true, true, true, false, true, true, false, true, true, false, true, false] rfl rfl rfl rfl (two_of HT_.out (by kernel_rfl)) (by decide) (by decide) (fun K hK => ?_) (fun K hK => ?_)
            · refine goes_ Tryd.func27 (by kernel_rfl) rfl #[.string (s.extract 5 7)] (by rfl) rfl rfl (by (try simp only [List.map_toArray, List.map_cons, List.map_nil]); first | done | rfl) ?_
              refine (NC2.out _).mono ?_
              rintro en wn ⟨rfl, hd⟩
              refine ⟨_, rfl, ?_⟩
              have hS := below_step hHeld hd.below
              clear hd
              refine hK.out _ _ hS (fun _ => ?_)
              clear hK K hHeld
              have hHeld := hS
              clear hS
              refine norm_ (a' := ?_) ?_ ?_
              rotate_left
              · show Act.put _ (some 29) _ = _
                simp only [Act.put, List.setIfInBounds_toArray, List.set_cons_zero, List.set_cons_succ, i64_w, i32_w]
                rfl
              refine two_ (i := 14) (j := 18) (Ni := some 32) (Nj := some 4) #[true, true, true, true, true, true, true, true, true, true, true, true, true, true, true, true, true, false, false, false] #[true, true, true, true, true, true, true, true, true, true, true, true, true, true, false, true, true, false, true, false] rfl rfl rfl rfl (two_of HT_.out (by kernel_rfl)) (by decide) (by decide) (fun K hK => ?_) (fun K hK => ?_)
              · refine goes_ Tryd.func27 (by kernel_rfl) rfl #[.string (s.extract 7 9)] (by rfl) rfl rfl (by (try simp only [List.map_toArray, List.map_cons, List.map_nil]); first | done | rfl) ?_
                refine (NC3.out _).mono ?_
                rintro en wn ⟨rfl, hd⟩
                refine ⟨_, rfl, ?_⟩
                have hS := below_step hHeld hd.below
                clear hd
                refine hK.out _ _ hS (fun _ => ?_)
                clear hK K hHeld
                have hHeld := hS
                clear hS
                refine norm_ (a' := ?_) ?_ ?_
                rotate_left
                · show Act.put _ (some 32) _ = _
                  simp only [Act.put, List.setIfInBounds_toArray, List.set_cons_zero, List.set_cons_succ, i64_w, i32_w]
                  rfl
                refine take_ (i := 17) (N := some 35) (v := ?_) (a' := ?_) #[true, true, true, true, true, true, true, true, true, true, true, true, true, true, true, true, true, true, false, false] rfl rfl (take_ofW HT_.out HW_.out (by kernel_rfl)) (fun _ _ _ h => h) (Or.inl ⟨by rfl, ?_⟩) hHeld ?_ ?_
                rotate_left
                · intro w' sg
                  go_simp
                  with_reducible rfl
                rotate_left
                · simp only [Act.put, List.setIfInBounds_toArray, List.set_cons_zero, List.set_cons_succ, i64_w, i32_w]
                  rfl
                refine one_ (i := 18) (N := some 4) #[true, true, true, true, true, true, true, true, true, true, true, true, true, true, true, true, true, true, true, false] rfl rfl (one_of HT_.out (by kernel_rfl)) (by decide) (fun K hK => ?_)
                refine box_step ?hg (N := 4) ?hd (cs := #[.int .i64 0, .int .i64 0, .int .i64 0, .int .i64 0, .int .i64 0, .string (⟨#[]⟩ : ByteArray)]) (t := 23) ?hr ?_; (case hd => rfl); (case hg => rfl); (case hr => first | (go_simp; done) | (go_simp; rfl))
                intro gb hg wn hbox hb
                have hS := below_step hHeld hb
                have hgb : W1.heap.size ≤ gb := by rw [hg]; exact hHeld.size
                clear hb hg
                refine hK.out _ _ hS (fun _ => ?_)
                clear hK K hHeld
                have hHeld := hS
                clear hS
                refine norm_ (a' := ?_) ?_ ?_
                rotate_left
                · show Act.put _ (some 4) _ = _
                  simp only [Act.put, List.setIfInBounds_toArray, List.set_cons_zero, List.set_cons_succ, i64_w, i32_w]
                  rfl
                exact norm_ (by first | (simp only [putAll, Act.put, List.setIfInBounds_toArray, List.set_cons_zero, List.set_cons_succ]; done) | (simp only [putAll, Act.put, List.setIfInBounds_toArray, List.set_cons_zero, List.set_cons_succ]; rfl)) (hjoin gb _ ⟨hbox, hgb, hHeld⟩)
              · refine box_step ?hg (N := 4) ?hd (cs := #[.int .i64 0, .int .i64 0, .int .i64 0, .int .i64 0, .int .i64 0, .string (⟨#[]⟩ : ByteArray)]) (t := 23) ?hr ?_; (case hd => rfl); (case hg => rfl); (case hr => first | (go_simp; done) | (go_simp; rfl))
                intro gb hg wn hbox hb
                have hS := below_step hHeld hb
                have hgb : W1.heap.size ≤ gb := by rw [hg]; exact hHeld.size
                clear hb hg
                refine hK.out _ _ hS (fun _ => ?_)
                clear hK K hHeld
                have hHeld := hS
                clear hS
                refine norm_ (a' := ?_) ?_ ?_
                rotate_left
                · show Act.put _ (some 4) _ = _
                  simp only [Act.put, List.setIfInBounds_toArray, List.set_cons_zero, List.set_cons_succ, i64_w, i32_w]
                  rfl
                refine one_ (i := 14) (N := some 32) #[true, true, true, true, true, true, true, true, true, true, true, true, true, true, true, true, true, false, true, false] rfl rfl (one_of HT_.out (by kernel_rfl)) (by decide) (fun K hK => ?_)
                refine goes_ Tryd.func27 (by kernel_rfl) rfl #[.string (s.extract 7 9)] (by rfl) rfl rfl (by (try simp only [List.map_toArray, List.map_cons, List.map_nil]); first | done | rfl) ?_
                refine (NC3.out _).mono ?_
                rintro en wn ⟨rfl, hd⟩
                refine ⟨_, rfl, ?_⟩
                have hS := below_step hHeld hd.below
                have hbox2 := blk_below hbox hd.below
                clear hbox
                have hbox := hbox2
                clear hbox2
                clear hd
                refine hK.out _ _ hS (fun _ => ?_)
                clear hK K hHeld
                have hHeld := hS
                clear hS
                refine norm_ (a' := ?_) ?_ ?_
                rotate_left
                · show Act.put _ (some 32) _ = _
                  simp only [Act.put, List.setIfInBounds_toArray, List.set_cons_zero, List.set_cons_succ, i64_w, i32_w]
                  rfl
                refine take_ (i := 17) (N := some 35) (v := ?_) (a' := ?_) #[true, true, true, true, true, true, true, true, true, true, true, true, true, true, true, true, true, true, true, false] rfl rfl (take_ofW HT_.out HW_.out (by kernel_rfl)) (fun _ _ _ h => h) (Or.inl ⟨by rfl, ?_⟩) hHeld ?_ ?_
                rotate_left
                · intro w' sg
                  go_simp
                  with_reducible rfl
                rotate_left
                · simp only [Act.put, List.setIfInBounds_toArray, List.set_cons_zero, List.set_cons_succ, i64_w, i32_w]
                  rfl
                exact norm_ (by first | (simp only [putAll, Act.put, List.setIfInBounds_toArray, List.set_cons_zero, List.set_cons_succ]; done) | (simp only [putAll, Act.put, List.setIfInBounds_toArray, List.set_cons_zero, List.set_cons_succ]; rfl)) (hjoin gb _ ⟨hbox, hgb, hHeld⟩)
            · refine box_step ?hg (N := 4) ?hd (cs := #[.int .i64 0, .int .i64 0, .int .i64 0, .int .i64 0, .int .i64 0, .string (⟨#[]⟩ : ByteArray)]) (t := 23) ?hr ?_; (case hd => rfl); (case hg => rfl); (case hr => first | (go_simp; done) | (go_simp; rfl))
              intro gb hg wn hbox hb
              have hS := below_step hHeld hb
              have hgb : W1.heap.size ≤ gb := by rw [hg]; exact hHeld.size
              clear hb hg
              refine hK.out _ _ hS (fun _ => ?_)
              clear hK K hHeld
              have hHeld := hS
              clear hS
              refine norm_ (a' := ?_) ?_ ?_
              rotate_left
              · show Act.put _ (some 4) _ = _
                simp only [Act.put, List.setIfInBounds_toArray, List.set_cons_zero, List.set_cons_succ, i64_w, i32_w]
                rfl
              refine one_ (i := 11) (N := some 29) #[true, true, true, true, true, true, true, true, true, true, true, true, true, true, false, true, true, false, true, false] rfl rfl (one_of HT_.out (by kernel_rfl)) (by decide) (fun K hK => ?_)
              refine goes_ Tryd.func27 (by kernel_rfl) rfl #[.string (s.extract 5 7)] (by rfl) rfl rfl (by (try simp only [List.map_toArray, List.map_cons, List.map_nil]); first | done | rfl) ?_
              refine (NC2.out _).mono ?_
              rintro en wn ⟨rfl, hd⟩
              refine ⟨_, rfl, ?_⟩
              have hS := below_step hHeld hd.below
              have hbox2 := blk_below hbox hd.below
              clear hbox
              have hbox := hbox2
              clear hbox2
              clear hd
              refine hK.out _ _ hS (fun _ => ?_)
              clear hK K hHeld
              have hHeld := hS
              clear hS
              refine norm_ (a' := ?_) ?_ ?_
              rotate_left
              · show Act.put _ (some 29) _ = _
                simp only [Act.put, List.setIfInBounds_toArray, List.set_cons_zero, List.set_cons_succ, i64_w, i32_w]
                rfl
              refine one_ (i := 14) (N := some 32) #[true, true, true, true, true, true, true, true, true, true, true, true, true, true, true, true, true, false, true, false] rfl rfl (one_of HT_.out (by kernel_rfl)) (by decide) (fun K hK => ?_)
              refine goes_ Tryd.func27 (by kernel_rfl) rfl #[.string (s.extract 7 9)] (by rfl) rfl rfl (by (try simp only [List.map_toArray, List.map_cons, List.map_nil]); first | done | rfl) ?_
              refine (NC3.out _).mono ?_
              rintro en wn ⟨rfl, hd⟩
              refine ⟨_, rfl, ?_⟩
              have hS := below_step hHeld hd.below
              have hbox2 := blk_below hbox hd.below
              clear hbox
              have hbox := hbox2
              clear hbox2
              clear hd
              refine hK.out _ _ hS (fun _ => ?_)
              clear hK K hHeld
              have hHeld := hS
              clear hS
              refine norm_ (a' := ?_) ?_ ?_
              rotate_left
              · show Act.put _ (some 32) _ = _
                simp only [Act.put, List.setIfInBounds_toArray, List.set_cons_zero, List.set_cons_succ, i64_w, i32_w]
                rfl
              refine take_ (i := 17) (N := some 35) (v := ?_) (a' := ?_) #[true, true, true, true, true, true, true, true, true, true, true, true, true, true, true, true, true, true, true, false] rfl rfl (take_ofW HT_.out HW_.out (by kernel_rfl)) (fun _ _ _ h => h) (Or.inl ⟨by rfl, ?_⟩) hHeld ?_ ?_
              rotate_left
              · intro w' sg
                go_simp
                with_reducible rfl
              rotate_left
              · simp only [Act.put, List.setIfInBounds_toArray, List.set_cons_zero, List.set_cons_succ, i64_w, i32_w]
                rfl
              exact norm_ (by first | (simp only [putAll, Act.put, List.setIfInBounds_toArray, List.set_cons_zero, List.set_cons_succ]; done) | (simp only [putAll, Act.put, List.setIfInBounds_toArray, List.set_cons_zero, List.set_cons_succ]; rfl)) (hjoin gb _ ⟨hbox, hgb, hHeld⟩)
          · refine box_step ?hg (N := 4) ?hd (cs := #[.int .i64 0, .int .i64 0, .int .i64 0, .int .i64 0, .int .i64 0, .string (⟨#[]⟩ : ByteArray)]) (t := 23) ?hr ?_; (case hd => rfl); (case hg => rfl); (case hr => first | (go_simp; done) | (go_simp; rfl))
            intro gb hg wn hbox hb
            have hS := below_step hHeld hb
            have hgb : W1.heap.size ≤ gb := by rw [hg]; exact hHeld.size
            clear hb hg
            refine hK.out _ _ hS (fun _ => ?_)
            clear hK K hHeld
            have hHeld := hS
            clear hS
            refine norm_ (a' := ?_) ?_ ?_
            rotate_left
            · show Act.put _ (some 4) _ = _
              simp only [Act.put, List.setIfInBounds_toArray, List.set_cons_zero, List.set_cons_succ, i64_w, i32_w]
              rfl
            refine one_ (i := 8) (N := some 26) #[true, true, true, true, true, true, true, true, true, true, true, false, true, true, false, true, true, false, true, false] rfl rfl (one_of HT_.out (by kernel_rfl)) (by decide) (fun K hK => ?_)
            refine goes_ Tryd.func27 (by kernel_rfl) rfl #[.string (s.extract 3 5)] (by rfl) rfl rfl (by (try simp only [List.map_toArray, List.map_cons, List.map_nil]); first | done | rfl) ?_
            refine (NC1.out _).mono ?_
            rintro en wn ⟨rfl, hd⟩
            refine ⟨_, rfl, ?_⟩
            have hS := below_step hHeld hd.below
            have hbox2 := blk_below hbox hd.below
            clear hbox
            have hbox := hbox2
            clear hbox2
            clear hd
            refine hK.out _ _ hS (fun _ => ?_)
            clear hK K hHeld
            have hHeld := hS
            clear hS
            refine norm_ (a' := ?_) ?_ ?_
            rotate_left
            · show Act.put _ (some 26) _ = _
              simp only [Act.put, List.setIfInBounds_toArray, List.set_cons_zero, List.set_cons_succ, i64_w, i32_w]
              rfl
            refine one_ (i := 11) (N := some 29) #[true, true, true, true, true, true, true, true, true, true, true, true, true, true, false, true, true, false, true, false] rfl rfl (one_of HT_.out (by kernel_rfl)) (by decide) (fun K hK => ?_)
            refine goes_ Tryd.func27 (by kernel_rfl) rfl #[.string (s.extract 5 7)] (by rfl) rfl rfl (by (try simp only [List.map_toArray, List.map_cons, List.map_nil]); first | done | rfl) ?_
            refine (NC2.out _).mono ?_
            rintro en wn ⟨rfl, hd⟩
            refine ⟨_, rfl, ?_⟩
            have hS := below_step hHeld hd.below
            have hbox2 := blk_below hbox hd.below
            clear hbox
            have hbox := hbox2
            clear hbox2
            clear hd
            refine hK.out _ _ hS (fun _ => ?_)
            clear hK K hHeld
            have hHeld := hS
            clear hS
            refine norm_ (a' := ?_) ?_ ?_
            rotate_left
            · show Act.put _ (some 29) _ = _
              simp only [Act.put, List.setIfInBounds_toArray, List.set_cons_zero, List.set_cons_succ, i64_w, i32_w]
              rfl
            refine one_ (i := 14) (N := some 32) #[true, true, true, true, true, true, true, true, true, true, true, true, true, true, true, true, true, false, true, false] rfl rfl (one_of HT_.out (by kernel_rfl)) (by decide) (fun K hK => ?_)
            refine goes_ Tryd.func27 (by kernel_rfl) rfl #[.string (s.extract 7 9)] (by rfl) rfl rfl (by (try simp only [List.map_toArray, List.map_cons, List.map_nil]); first | done | rfl) ?_
            refine (NC3.out _).mono ?_
            rintro en wn ⟨rfl, hd⟩
            refine ⟨_, rfl, ?_⟩
            have hS := below_step hHeld hd.below
            have hbox2 := blk_below hbox hd.below
            clear hbox
            have hbox := hbox2
            clear hbox2
            clear hd
            refine hK.out _ _ hS (fun _ => ?_)
            clear hK K hHeld
            have hHeld := hS
            clear hS
            refine norm_ (a' := ?_) ?_ ?_
            rotate_left
            · show Act.put _ (some 32) _ = _
              simp only [Act.put, List.setIfInBounds_toArray, List.set_cons_zero, List.set_cons_succ, i64_w, i32_w]
              rfl
            refine take_ (i := 17) (N := some 35) (v := ?_) (a' := ?_) #[true, true, true, true, true, true, true, true, true, true, true, true, true, true, true, true, true, true, true, false] rfl rfl (take_ofW HT_.out HW_.out (by kernel_rfl)) (fun _ _ _ h => h) (Or.inl ⟨by rfl, ?_⟩) hHeld ?_ ?_
            rotate_left
            · intro w' sg
              go_simp
              with_reducible rfl
            rotate_left
            · simp only [Act.put, List.setIfInBounds_toArray, List.set_cons_zero, List.set_cons_succ, i64_w, i32_w]
              rfl
            exact norm_ (by first | (simp only [putAll, Act.put, List.setIfInBounds_toArray, List.set_cons_zero, List.set_cons_succ]; done) | (simp only [putAll, Act.put, List.setIfInBounds_toArray, List.set_cons_zero, List.set_cons_succ]; rfl)) (hjoin gb _ ⟨hbox, hgb, hHeld⟩)
        · refine box_step ?hg (N := 4) ?hd (cs := #[.int .i64 0, .int .i64 0, .int .i64 0, .int .i64 0, .int .i64 0, .string (⟨#[]⟩ : ByteArray)]) (t := 23) ?hr ?_; (case hd => rfl); (case hg => rfl); (case hr => first | (go_simp; done) | (go_simp; rfl))
          intro gb hg wn hbox hb
          have hS := below_step hHeld hb
          have hgb : W1.heap.size ≤ gb := by rw [hg]; exact hHeld.size
          clear hb hg
          refine hK.out _ _ hS (fun _ => ?_)
          clear hK K hHeld
          have hHeld := hS
          clear hS
          refine norm_ (a' := ?_) ?_ ?_
          rotate_left
          · show Act.put _ (some 4) _ = _
            simp only [Act.put, List.setIfInBounds_toArray, List.set_cons_zero, List.set_cons_succ, i64_w, i32_w]
            rfl
          refine one_ (i := 5) (N := some 23) #[true, true, true, true, true, true, true, true, false, true, true, false, true, true, false, true, true, false, true, false] rfl rfl (one_of HT_.out (by kernel_rfl)) (by decide) (fun K hK => ?_)
          refine goes_ Tryd.func27 (by kernel_rfl) rfl #[.string (s.extract 1 3)] (by rfl) rfl rfl (by (try simp only [List.map_toArray, List.map_cons, List.map_nil]); first | done | rfl) ?_
          refine (NC0.out _).mono ?_
          rintro en wn ⟨rfl, hd⟩
          refine ⟨_, rfl, ?_⟩
          have hS := below_step hHeld hd.below
          have hbox2 := blk_below hbox hd.below
          clear hbox
          have hbox := hbox2
          clear hbox2
          clear hd
          refine hK.out _ _ hS (fun _ => ?_)
          clear hK K hHeld
          have hHeld := hS
          clear hS
          refine norm_ (a' := ?_) ?_ ?_
          rotate_left
          · show Act.put _ (some 23) _ = _
            simp only [Act.put, List.setIfInBounds_toArray, List.set_cons_zero, List.set_cons_succ, i64_w, i32_w]
            rfl
          refine one_ (i := 8) (N := some 26) #[true, true, true, true, true, true, true, true, true, true, true, false, true, true, false, true, true, false, true, false] rfl rfl (one_of HT_.out (by kernel_rfl)) (by decide) (fun K hK => ?_)
          refine goes_ Tryd.func27 (by kernel_rfl) rfl #[.string (s.extract 3 5)] (by rfl) rfl rfl (by (try simp only [List.map_toArray, List.map_cons, List.map_nil]); first | done | rfl) ?_
          refine (NC1.out _).mono ?_
          rintro en wn ⟨rfl, hd⟩
          refine ⟨_, rfl, ?_⟩
          have hS := below_step hHeld hd.below
          have hbox2 := blk_below hbox hd.below
          clear hbox
          have hbox := hbox2
          clear hbox2
          clear hd
          refine hK.out _ _ hS (fun _ => ?_)
          clear hK K hHeld
          have hHeld := hS
          clear hS
          refine norm_ (a' := ?_) ?_ ?_
          rotate_left
          · show Act.put _ (some 26) _ = _
            simp only [Act.put, List.setIfInBounds_toArray, List.set_cons_zero, List.set_cons_succ, i64_w, i32_w]
            rfl
          refine one_ (i := 11) (N := some 29) #[true, true, true, true, true, true, true, true, true, true, true, true, true, true, false, true, true, false, true, false] rfl rfl (one_of HT_.out (by kernel_rfl)) (by decide) (fun K hK => ?_)
          refine goes_ Tryd.func27 (by kernel_rfl) rfl #[.string (s.extract 5 7)] (by rfl) rfl rfl (by (try simp only [List.map_toArray, List.map_cons, List.map_nil]); first | done | rfl) ?_
          refine (NC2.out _).mono ?_
          rintro en wn ⟨rfl, hd⟩
          refine ⟨_, rfl, ?_⟩
          have hS := below_step hHeld hd.below
          have hbox2 := blk_below hbox hd.below
          clear hbox
          have hbox := hbox2
          clear hbox2
          clear hd
          refine hK.out _ _ hS (fun _ => ?_)
          clear hK K hHeld
          have hHeld := hS
          clear hS
          refine norm_ (a' := ?_) ?_ ?_
          rotate_left
          · show Act.put _ (some 29) _ = _
            simp only [Act.put, List.setIfInBounds_toArray, List.set_cons_zero, List.set_cons_succ, i64_w, i32_w]
            rfl
          refine one_ (i := 14) (N := some 32) #[true, true, true, true, true, true, true, true, true, true, true, true, true, true, true, true, true, false, true, false] rfl rfl (one_of HT_.out (by kernel_rfl)) (by decide) (fun K hK => ?_)
          refine goes_ Tryd.func27 (by kernel_rfl) rfl #[.string (s.extract 7 9)] (by rfl) rfl rfl (by (try simp only [List.map_toArray, List.map_cons, List.map_nil]); first | done | rfl) ?_
          refine (NC3.out _).mono ?_
          rintro en wn ⟨rfl, hd⟩
          refine ⟨_, rfl, ?_⟩
          have hS := below_step hHeld hd.below
          have hbox2 := blk_below hbox hd.below
          clear hbox
          have hbox := hbox2
          clear hbox2
          clear hd
          refine hK.out _ _ hS (fun _ => ?_)
          clear hK K hHeld
          have hHeld := hS
          clear hS
          refine norm_ (a' := ?_) ?_ ?_
          rotate_left
          · show Act.put _ (some 32) _ = _
            simp only [Act.put, List.setIfInBounds_toArray, List.set_cons_zero, List.set_cons_succ, i64_w, i32_w]
            rfl
          refine take_ (i := 17) (N := some 35) (v := ?_) (a' := ?_) #[true, true, true, true, true, true, true, true, true, true, true, true, true, true, true, true, true, true, true, false] rfl rfl (take_ofW HT_.out HW_.out (by kernel_rfl)) (fun _ _ _ h => h) (Or.inl ⟨by rfl, ?_⟩) hHeld ?_ ?_
          rotate_left
          · intro w' sg
            go_simp
            with_reducible rfl
          rotate_left
          · simp only [Act.put, List.setIfInBounds_toArray, List.set_cons_zero, List.set_cons_succ, i64_w, i32_w]
            rfl
          exact norm_ (by first | (simp only [putAll, Act.put, List.setIfInBounds_toArray, List.set_cons_zero, List.set_cons_succ]; done) | (simp only [putAll, Act.put, List.setIfInBounds_toArray, List.set_cons_zero, List.set_cons_succ]; rfl)) (hjoin gb _ ⟨hbox, hgb, hHeld⟩)
      clear hHeld
      rintro gb w5 ⟨hbox, hgb, hHeld⟩
      refine norm_ (a' := ?_) ?_ ?_
      rotate_left
      · simp only [putAll, Act.put, List.setIfInBounds_toArray, List.set_cons_zero, List.set_cons_succ, i64_w, i32_w]
        rfl
      have AB := Aside0.mk (show w5.heap[gb]? = some (.cells zeroV.cells 23 (0, 0)) from hbox)
      obtain ⟨y0, y1, y2, y3, y4, y5, f0, f1, f2, f3, f4, f5⟩ := six_facts AB.out
      have HH := Aside0.mk hHeld
      have HGB := Aside0.mk hgb
      refine one_ (i := 19) (N := none) #[true, true, true, true, true, true, true, true, true, true, true, true, true, true, true, true, true, true, true, true] rfl rfl (one_of HT_.out (by kernel_rfl)) (by decide) (fun K hK => ?_)
      refine skip_ (w1 := sixSet w5 gb (getV s)) (by rfl) rfl (by first | (go_simp; done) | (go_simp; rfl)) (hK.out _ _ (six_below hHeld hgb) (fun _ => ?_))
      clear hK K y0 y1 y2 y3 y4 y5 f0 f1 f2 f3 f4 f5 hHeld hgb hbox
      refine done_ (done_of HT_.out (by kernel_rfl)) ?_
      have AB2 := Aside0.mk (six_blk (a := getV s) AB.out)
      have HH2 := Aside0.mk (six_below (a := getV s) HH.out HGB.out)
      obtain ⟨w6, hw6⟩ : ∃ w6, sixSet w5 gb (getV s) = w6 := ⟨_, rfl⟩
      rw [hw6] at AB2 HH2
      rw [hw6]
      clear hw6 AB HH
      obtain ⟨y0, y1, y2, y3, y4, y5, _⟩ := six_facts AB2.out
      clear p1 p2 p3 p4 p5 p6 p7 p8 p10 p11 p12 p13 b1 r0 r1 v1 v2 b9 p9 q9 v9 u9 v19 u19 c2 t0 t1
      go_wp2_with fail
      refine (RT.out _).mono ?_
      rintro en w7 ⟨rfl, hb⟩
      have HBN := Aside0.mk (below_step HB.out (below_step HH2.out hb))
      have RBN := Aside0.mk (blk_below (blk_below RB.out HH2.out) hb)
      have ABN := Aside0.mk (blk_below AB2.out hb)
      clear hb HB RB y0 y1 y2 y3 y4 y5
      have RB := RBN
      have HB := HBN
      clear RBN HBN
      cases hok : (getV s).ok with
      | false =>
        have HN : Aside0 (getOf s = none) := ⟨by rw [HGT.out, hok]; rfl⟩
        clear hok
        obtain ⟨y0, y1, y2, y3, y4, y5, f0, f1, f2, f3, f4, f5⟩ := six_facts RB.out
        have hend := six_blk (a := zeroV) RB.out
        have hbl := six_below (a := zeroV) HB.out RG.out
        have HEND := Aside0.mk hend
        have HBL := Aside0.mk hbl
        clear hend hbl
        go_wp2_with fail
        refine bodyPost_ret (w := sixSet _ rb zeroV) (rget_end (g := rb) (a0 := zeroV) _ none rfl rfl HEND.out) rfl ⟨?_, HBL.out⟩
        rw [HN.out]
      | true =>
        have HN : Aside0 (getOf s = some (getV s)) := ⟨by rw [HGT.out, hok]; rfl⟩
        clear hok
        obtain ⟨z0, z1, z2, z3, z4, z5, _⟩ := six_facts ABN.out
        obtain ⟨y0, y1, y2, y3, y4, y5, f0, f1, f2, f3, f4, f5⟩ := six_facts RB.out
        have hend := six_blk (a := getV s) RB.out
        have hbl := six_below (a := getV s) HB.out RG.out
        have HEND := Aside0.mk hend
        have HBL := Aside0.mk hbl
        clear hend hbl
        go_wp2_with fail
        refine bodyPost_ret (w := sixSet _ rb (getV s)) (rget_end (g := rb) (a0 := getV s) _ (some (getV s)) rfl rfl HEND.out) rfl ⟨?_, HBL.out⟩
        rw [HN.out]
    · have HN : Aside0 (getOf s = none) := ⟨by
        cases hg : getOf s with
        | none => rfl
        | some c =>
          obtain ⟨h1, h2⟩ := get_sized hg
          exact absurd (by omega) he⟩
      have c2 : ((s.size : Int) != 10 + bt s 9) = true := bne_iff_ne.2 he
      clear hsh he
      go_enter Tryd.func15, Tryd.ntmps15
      go_wp2_with fail
      rw [W1E.out, RBE.out]
      refine bodyPost_ret (rget_end (g := rb) (a0 := zeroV) _ none rfl rfl RB.out) rfl ⟨?_, by rw [← RBE.out]; exact HB.out⟩
      rw [HN.out]
end Go.Proofs.YtbmjekekpmabbaaDoor.P

end
