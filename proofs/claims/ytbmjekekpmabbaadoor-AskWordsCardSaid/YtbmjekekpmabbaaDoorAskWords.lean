/- The statement AskWords, in plain Lean. Conditions: none. -/
import Derived.Test.YtbmjekekpmabbaaDoorAskLine
import Derived.Test.YtbmjekekpmabbaaDoorP13
set_option linter.unusedVariables false
set_option linter.unusedSimpArgs false
namespace Go.Proofs.YtbmjekekpmabbaaDoor.P
open Go.RowKit Go.Proofs.YtbmjekekpmabbaaDoorW.PrintWords Go.Proofs.YtbmjekekpmabbaaDoorW.PrintLast Go.Proofs.YtbmjekekpmabbaaDoorW.PrintMore

def deleteL : List UInt8 := [100, 101, 108, 101, 116, 101]
theorem delete_word : IsW deleteL := ⟨by decide, by decide⟩
set_option maxRecDepth 100000 in
theorem delete_kind : kindP (ofL deleteL) = 2 := by decide +kernel
theorem delete_has : bytesOf (hasOf 2) = [105] ∧ (hasOf 2).size = 1 := by decide +kernel
theorem cons_word {c : UInt8} {w : List UInt8} (hc : c ≠ 32) (h : (32 : UInt8) ∉ w) : IsW (c :: w) := ⟨by simp, by rw [List.mem_cons, not_or]; exact ⟨fun e => hc e.symm, h⟩⟩
/-- A line of 'delete' and one word. -/
theorem read_delete {s : ByteArray} {w : List UInt8} (h : bl s = deleteL ++ joinW 0 [w]) (hw : IsW w) : readOf s = (numP (ofL w)).bind fun n => if (AskV.ok ⟨2, n, 0, 0, 0, ⟨#[]⟩⟩) = true then some ⟨2, n, 0, 0, 0, ⟨#[]⟩⟩ else none := by
  rw [read_join h delete_word (by intro x hx; rw [List.mem_singleton] at hx; rw [hx]; exact hw), delete_kind, delete_has.1, delete_has.2, if_neg (by simp)]
  show (fillL [105] [ofL w] _).bind _ = _
  unfold fillL
  rw [if_neg (by decide)]
  cases numP (ofL w) <;> rfl
theorem ok_delete (n : Int) (h0 : 1 ≤ n) (h1 : n ≤ 65535) : AskV.ok ⟨2, n, 0, 0, 0, ⟨#[]⟩⟩ = true := by
  unfold AskV.ok askB
  have e : (nameOf 2).toList.isEmpty = false := by decide +kernel
  have e2 : hasC (hasOf 2) 105 = true := by decide +kernel
  have e3 : (⟨#[]⟩ : ByteArray).toList.isEmpty = true := by decide +kernel
  have z : ∀ c, letOk (hasOf 2) c 0 = true := fun c => by unfold letOk; simp
  dsimp only
  rw [e, z, z, z, e3]
  unfold letOk
  rw [e2, decide_eq_true (show (0 : Int) ≤ n by omega), decide_eq_true h1]
  simp
  decide
theorem num_zero {w : List UInt8} (hw : w ≠ []) : numP (ofL (48 :: w)) = none := by
  have hs : (ofL (48 :: w)).size = w.length + 1 := by rw [bl_size, bl_ofL]; rfl
  have h0 := (bt_is (s := ofL (48 :: w)) (k := 0) (by omega) 48).2 rfl
  unfold numP
  rw [if_pos (Or.inr ⟨by have := List.length_pos_iff.2 hw; omega, h0⟩)]
theorem num_sign {c : UInt8} {w : List UInt8} (hc : c < 48) : numP (ofL (c :: w)) = none := by
  unfold numP
  split
  · rfl
  · have e : bytesOf (ofL (c :: w)) = (c.toNat : Int) :: w.map fun b => (b.toNat : Int) := rfl
    have hc2 : c.toNat < 48 := hc
    rw [e, numL, if_pos (Or.inl (by omega))]
    rfl
theorem kind_none {w : ByteArray} (h : ∀ k : Nat, k < 9 → (nameOf ((k + 1 : Nat) : Int)).toList ≠ w.toList) : kindP w = 0 := by
  have : ∀ n, n ≤ 9 → kindTo w n = 0 := by
    intro n
    induction n with
    | zero => intro _; rfl
    | succ n ih =>
      intro hn
      rw [kindTo, if_neg (by rw [beq_iff_eq]; exact h n (by omega))]
      exact ih (by omega)
  exact this 9 (Nat.le_refl _)
set_option maxRecDepth 100000 in
theorem names_bytes : ∀ k < 9, (9 : UInt8) ∉ bl (nameOf ((k + 1 : Nat) : Int)) ∧ (68 : UInt8) ∉ bl (nameOf ((k + 1 : Nat) : Int)) := by decide +kernel
theorem read_nokind {s : ByteArray} {n : List UInt8} {ws : List (List UInt8)} (h : bl s = n ++ joinW 0 ws) (hn : IsW n) (hw : ∀ w ∈ ws, IsW w) (c : UInt8) (hc : c ∈ n) (hk : ∀ k < 9, c ∉ bl (nameOf ((k + 1 : Nat) : Int))) : readOf s = none := by
  rw [read_join h hn hw, if_pos (Or.inl (kind_none fun k h9 e => ?_))]
  have e2 := toList_inj e
  have := hk k h9
  rw [e2, bl_ofL] at this
  exact this hc
theorem two_words {s : ByteArray} {w x : List UInt8} (h : bl s = deleteL ++ joinW 0 [w, x]) (hw : IsW w) (hx : IsW x) : readOf s = none := by
  rw [read_join h delete_word (by intro y hy; simp at hy; rcases hy with rfl | rfl; exact hw; exact hx), if_pos (Or.inr (by rw [delete_kind, delete_has.2]; simp))]
def wordsY (d : ByteArray) : List ByteArray := [(⟨#[100, 101, 108, 101, 116, 101, 32, 48]⟩ : ByteArray) ++ d, (⟨#[100, 101, 108, 101, 116, 101, 32, 45]⟩ : ByteArray) ++ d, (⟨#[100, 101, 108, 101, 116, 101, 32, 43]⟩ : ByteArray) ++ d, (⟨#[100, 101, 108, 101, 116, 101, 32, 54, 53, 53, 51, 54]⟩ : ByteArray), (⟨#[100, 101, 108, 101, 116, 101]⟩ : ByteArray), (((⟨#[100, 101, 108, 101, 116, 101, 32]⟩ : ByteArray) ++ d) ++ (⟨#[32]⟩ : ByteArray)) ++ d, (⟨#[105, 110, 115, 101, 114, 116, 32, 65, 48]⟩ : ByteArray), (⟨#[105, 110, 115, 101, 114, 116, 32, 97, 98, 99]⟩ : ByteArray), (⟨#[105, 110, 115, 101, 114, 116]⟩ : ByteArray), (⟨#[105, 110, 115, 101, 114, 116, 32, 45, 45]⟩ : ByteArray), (⟨#[99, 111, 117, 110, 116, 32, 54, 49]⟩ : ByteArray), (⟨#[99, 111, 117, 110, 116, 32, 54, 49, 32, 48, 32, 48]⟩ : ByteArray), (⟨#[68, 101, 108, 101, 116, 101, 32]⟩ : ByteArray) ++ d, (⟨#[100, 101, 108, 101, 116, 101, 9]⟩ : ByteArray) ++ d]
set_option maxRecDepth 100000 in
theorem consts_none : ∀ s ∈ ([⟨#[100, 101, 108, 101, 116, 101, 32, 54, 53, 53, 51, 54]⟩, ⟨#[100, 101, 108, 101, 116, 101]⟩, ⟨#[105, 110, 115, 101, 114, 116, 32, 65, 48]⟩, ⟨#[105, 110, 115, 101, 114, 116, 32, 97, 98, 99]⟩, ⟨#[105, 110, 115, 101, 114, 116]⟩, ⟨#[105, 110, 115, 101, 114, 116, 32, 45, 45]⟩, ⟨#[99, 111, 117, 110, 116, 32, 54, 49]⟩, ⟨#[99, 111, 117, 110, 116, 32, 54, 49, 32, 48, 32, 48]⟩] : List ByteArray), (readOf s).isNone = true ∧ s.size ≤ 100 := by decide +kernel
theorem const_none {s : ByteArray} (h : (readOf s).isNone = true ∧ s.size ≤ 100) : readOf s = none ∧ s.size ≤ 1000000 := ⟨Option.isNone_iff_eq_none.1 h.1, by omega⟩
theorem words_none (n : Int) : ∀ y ∈ wordsY (digB n), readOf y = none ∧ y.size ≤ 1000000 := by
  obtain ⟨hd0, hd⟩ := digB_word n
  have hsm := digB_small n
  intro y hy
  simp only [wordsY, List.mem_cons, List.not_mem_nil, or_false] at hy
  rcases hy with rfl | rfl | rfl | rfl | rfl | rfl | rfl | rfl | rfl | rfl | rfl | rfl | rfl | rfl
  · refine ⟨?_, by rw [ByteArray.size_append]; have : (⟨#[100, 101, 108, 101, 116, 101, 32, 48]⟩ : ByteArray).size = 8 := rfl; omega⟩
    rw [read_delete (w := 48 :: bl (digB n)) (by rw [bl_append]; simp [deleteL, joinW, bl]) (cons_word (by decide) hd), num_zero hd0]
    rfl
  · refine ⟨?_, by rw [ByteArray.size_append]; have : (⟨#[100, 101, 108, 101, 116, 101, 32, 45]⟩ : ByteArray).size = 8 := rfl; omega⟩
    rw [read_delete (w := 45 :: bl (digB n)) (by rw [bl_append]; simp [deleteL, joinW, bl]) (cons_word (by decide) hd), num_sign (by decide)]
    rfl
  · refine ⟨?_, by rw [ByteArray.size_append]; have : (⟨#[100, 101, 108, 101, 116, 101, 32, 43]⟩ : ByteArray).size = 8 := rfl; omega⟩
    rw [read_delete (w := 43 :: bl (digB n)) (by rw [bl_append]; simp [deleteL, joinW, bl]) (cons_word (by decide) hd), num_sign (by decide)]
    rfl
  · exact const_none (consts_none _ (by simp))
  · exact const_none (consts_none _ (by simp))
  · refine ⟨two_words (w := bl (digB n)) (x := bl (digB n)) (by simp [bl_append, deleteL, joinW, bl]) (digB_word n) (digB_word n), ?_⟩
    rw [ByteArray.size_append, ByteArray.size_append, ByteArray.size_append]
    have : (⟨#[100, 101, 108, 101, 116, 101, 32]⟩ : ByteArray).size = 7 := rfl
    have : (⟨#[32]⟩ : ByteArray).size = 1 := rfl
    omega
  · exact const_none (consts_none _ (by simp))
  · exact const_none (consts_none _ (by simp))
  · exact const_none (consts_none _ (by simp))
  · exact const_none (consts_none _ (by simp))
  · exact const_none (consts_none _ (by simp))
  · exact const_none (consts_none _ (by simp))
  · refine ⟨read_nokind (n := [68, 101, 108, 101, 116, 101]) (ws := [bl (digB n)]) (by simp [bl_append, joinW, bl]) ⟨by decide, by decide⟩ (by intro x hx; rw [List.mem_singleton] at hx; rw [hx]; exact digB_word n) 68 (by decide) (fun k hk => (names_bytes k hk).2), ?_⟩
    rw [ByteArray.size_append]
    have : (⟨#[68, 101, 108, 101, 116, 101, 32]⟩ : ByteArray).size = 7 := rfl
    omega
  · refine ⟨read_nokind (n := [100, 101, 108, 101, 116, 101, 9] ++ bl (digB n)) (ws := []) (by simp [bl_append, joinW, bl]) ⟨by simp, by rw [List.mem_append, not_or]; exact ⟨by decide, hd⟩⟩ (by simp) 9 (by simp) (fun k hk => (names_bytes k hk).1), ?_⟩
    rw [ByteArray.size_append]
    have : (⟨#[100, 101, 108, 101, 116, 101, 9]⟩ : ByteArray).size = 7 := rfl
    omega
set_option maxRecDepth 100000 in
theorem insert_none : ask_Read.f (⟨#[105, 110, 115, 101, 114, 116, 32, 45]⟩ : ByteArray) = some (1, 0, 0, 0, 0, ⟨#[]⟩, true) := by kernel_rfl
theorem words_l (n : Int) (ys : List ByteArray) (hl : ys.length = 14) (h : ∀ y ∈ ys, readOf y = none ∧ y.size ≤ 1000000) : ∀ j : Nat, j ≤ 14 → scriniumlaw20_AskWords.l0 (j + 1) n true ys 14 ((14 - j : Nat) : Int) 2 n 0 0 0 (⟨#[]⟩ : ByteArray) = some true
  | 0, _ => by
    rw [scriniumlaw20_AskWords.l0, if_neg (by decide), insert_none, Option.bind_some, if_pos rfl, if_pos (by rw [empty_nil]; simp), if_pos rfl, empty_nil]
    rfl
  | j + 1, hj => by
    have hm : rdOf ByteArray.empty ys ((14 - (j + 1) : Nat) : Int) ∈ ys := by
      unfold rdOf
      rw [Int.toNat_natCast, List.getD_eq_getElem?_getD, List.getElem?_eq_getElem (by omega)]
      exact List.getElem_mem _
    obtain ⟨h1, h2⟩ := h _ hm
    rw [scriniumlaw20_AskWords.l0, if_pos (by omega), if_pos (by omega), if_pos (by rw [hl]; omega)]
    unfold ask_Read.f
    rw [if_pos h2, h1, Option.bind_some, if_neg (by decide), IntWalk.wrap64_in _ (by omega), show ((14 - (j + 1) : Nat) : Int) + 1 = ((14 - j : Nat) : Int) by omega]
    exact words_l n ys hl h j (by omega)
theorem words_j (n : Int) (h0 : 1 ≤ n) (h1 : n ≤ 65535) : scriniumlaw20_AskWords.j0 (29 + 1) n false = some true := by
  have hd : bl ((⟨#[100, 101, 108, 101, 116, 101, 32]⟩ : ByteArray) ++ digB n) = deleteL ++ joinW 0 [bl (digB n)] := by simp [bl_append, deleteL, joinW, bl]
  have hsm := digB_small n
  have s7 : (⟨#[100, 101, 108, 101, 116, 101, 32]⟩ : ByteArray).size = 7 := rfl
  have s1 : (⟨#[32]⟩ : ByteArray).size = 1 := rfl
  have hr : ask_Read.f ((⟨#[100, 101, 108, 101, 116, 101, 32]⟩ : ByteArray) ++ digB n) = some (2, n, 0, 0, 0, ⟨#[]⟩, true) := by
    unfold ask_Read.f
    rw [if_pos (by rw [ByteArray.size_append]; omega), read_delete hd (digB_word n), ofL_bl, num_dig n (by omega) h1, Option.bind_some, if_pos (ok_delete n h0 h1)]
    rfl
  rw [scriniumlaw20_AskWords.j0, if_neg (by decide), digits_at n 29 (by decide) (by omega) (by omega), Option.bind_some, if_pos (by omega), hr, Option.bind_some, if_pos (by omega), if_pos (by rw [ByteArray.size_append]; omega), if_pos (by rw [ByteArray.size_append, ByteArray.size_append]; omega), Option.bind_some]
  exact at_rounds (fun k => (scriniumlaw20_AskWords.mono_l k).2 _ _ _ _ _ _ _ _ _ _ _) (show 15 ≤ 29 by decide) (words_l n (wordsY (digB n)) rfl (words_none n) 14 (Nat.le_refl _))
theorem words_pure (n : Int) : scriniumlaw20_AskWords.f 30 n = some true := by
  have hj : scriniumlaw20_AskWords.j0 30 n true = some true := by simp [scriniumlaw20_AskWords.j0, alive_at]
  unfold scriniumlaw20_AskWords.f
  by_cases h1 : n < 1
  · rw [if_pos h1, hj]
  · rw [if_neg h1]
    by_cases h2 : n > 65535
    · rw [if_pos h2, hj]
    · rw [if_neg h2, alive_at 30 (by decide), Option.bind_some]
      exact words_j n (by omega) (by omega)
theorem words_calls20 (n : Int) (w : World) (_ : (Lit.int .i64 n).wf = true) : Calls Tryd.prog 9 #[.int .i64 n] w fun e w' => e = .returned (.bool true) ∧ Below w.heap.size w w' := scriniumlaw20_AskWords.calls 30 n true w (words_pure n)
end Go.Proofs.YtbmjekekpmabbaaDoor.P
