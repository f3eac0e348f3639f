/- strings.Trim at a blank: whether a line begins or ends with one. Conditions: the line is not too long. -/
import Derived.Test.YtbmjekekpmabbaaDoorAskCut
import Derived.Test.YtbmjekekpmabbaaDoorP2
set_option linter.unusedVariables false
set_option linter.unusedSimpArgs false
namespace Go.Proofs.YtbmjekekpmabbaaDoor.P
open Go.RowKit Go.Proofs.YtbmjekekpmabbaaDoorW.PrintWords Go.Proofs.YtbmjekekpmabbaaDoorW.PrintLast Go.Proofs.YtbmjekekpmabbaaDoorW.PrintMore

theorem bt_get {s : ByteArray} {k : Nat} (h : k < s.size) : ∃ c, (bl s)[k]? = some c ∧ bt s (k : Int) = (c.toNat : Int) := by
  refine ⟨s[k]'h, ?_, ?_⟩
  · have h' : k < s.data.size := h
    show s.data.toList[k]? = _
    rw [List.getElem?_eq_getElem (by simpa using h')]
    simp
    rfl
  · unfold bt
    rw [dif_pos (by simpa using h)]
    rfl
theorem bt_is {s : ByteArray} {k : Nat} (h : k < s.size) (c : UInt8) : bt s (k : Int) = (c.toNat : Int) ↔ (bl s)[k]? = some c := by
  obtain ⟨d, h1, h2⟩ := bt_get h
  rw [h1, h2]
  constructor
  · intro e
    have : d.toNat = c.toNat := by exact_mod_cast e
    rw [UInt8.toNat_inj.1 this]
  · intro e
    injection e with e
    rw [e]
theorem left_some : ∀ (n : Nat) (s : ByteArray), s.size = n → ∃ k r, strings_trimLeftByte.l0 k s 32 = some r ∧ r.size ≤ s.size ∧ ((bl s)[0]? = some 32 → r.size < s.size) ∧ ((bl s)[0]? ≠ some 32 → r = s) := by
  intro n
  induction n with
  | zero =>
    intro s hs
    have : bl s = [] := List.eq_nil_of_length_eq_zero (by rw [← bl_size]; exact hs)
    refine ⟨1, s, ?_, Nat.le_refl _, fun h => by rw [this] at h; simp at h, fun _ => rfl⟩
    simp only [strings_trimLeftByte.l0]
    rw [if_neg (by omega)]
  | succ n ih =>
    intro s hs
    by_cases hc : bt s 0 = 32
    · have h32 : (bl s)[0]? = some 32 := (bt_is (k := 0) (by omega) 32).1 hc
      have hsz : (s.extract 1 s.size).size = n := by rw [ByteArray.size_extract]; omega
      obtain ⟨k, r, h1, h2, _, _⟩ := ih (s.extract 1 s.size) hsz
      refine ⟨k + 1, r, ?_, by omega, fun _ => by omega, fun h => absurd h32 h⟩
      simp only [strings_trimLeftByte.l0]
      rw [if_pos (by omega), if_pos (by omega), if_pos hc, if_pos (by omega)]
      exact h1
    · have h32 : (bl s)[0]? ≠ some 32 := fun e => hc ((bt_is (k := 0) (by omega) 32).2 e)
      refine ⟨1, s, ?_, Nat.le_refl _, fun h => absurd h h32, fun _ => rfl⟩
      simp only [strings_trimLeftByte.l0]
      rw [if_pos (by omega), if_pos (by omega), if_neg hc]
theorem right_some : ∀ (n : Nat) (s : ByteArray), s.size = n → n ≤ 1000000 → ∃ k r, strings_trimRightByte.l0 k s 32 = some r ∧ r.size ≤ s.size ∧ ((bl s)[s.size - 1]? = some 32 → r.size < s.size) ∧ ((bl s)[s.size - 1]? ≠ some 32 → r = s) := by
  intro n
  induction n with
  | zero =>
    intro s hs _
    have : bl s = [] := List.eq_nil_of_length_eq_zero (by rw [← bl_size]; exact hs)
    refine ⟨1, s, ?_, Nat.le_refl _, fun h => by rw [this] at h; simp at h, fun _ => rfl⟩
    simp only [strings_trimRightByte.l0]
    rw [if_neg (by omega)]
  | succ n ih =>
    intro s hs hn
    have hw : wrap64 ((s.size : Int) - 1) = ((s.size - 1 : Nat) : Int) := by rw [IntWalk.wrap64_in _ (by omega)]; omega
    by_cases hc : bt s ((s.size - 1 : Nat) : Int) = 32
    · have h32 : (bl s)[s.size - 1]? = some 32 := (bt_is (k := s.size - 1) (by omega) 32).1 hc
      have hsz : (s.extract 0 (s.size - 1)).size = n := by rw [ByteArray.size_extract]; omega
      obtain ⟨k, r, h1, h2, _, _⟩ := ih (s.extract 0 (s.size - 1)) hsz (by omega)
      refine ⟨k + 1, r, ?_, by omega, fun _ => by omega, fun h => absurd h32 h⟩
      simp only [strings_trimRightByte.l0]
      rw [hw, if_pos (by omega), if_pos (by omega), if_pos (by omega), if_pos hc, if_pos (by omega), Int.toNat_natCast]
      exact h1
    · have h32 : (bl s)[s.size - 1]? ≠ some 32 := fun e => hc ((bt_is (k := s.size - 1) (by omega) 32).2 e)
      refine ⟨1, s, ?_, Nat.le_refl _, fun h => absurd h h32, fun _ => rfl⟩
      simp only [strings_trimRightByte.l0]
      rw [hw, if_pos (by omega), if_pos (by omega), if_pos (by omega), if_neg hc]
/-- A line that neither begins nor ends with a blank. -/
def edgeB (s : ByteArray) : Bool := (bl s)[0]? != some 32 && (bl s)[s.size - 1]? != some 32
theorem trim_some (s : ByteArray) (hs : s.size ≤ 1000000) : ∃ k r t, strings_trimRightByte.f k s 32 = some r ∧ strings_trimLeftByte.f k r 32 = some t ∧ (t.toList != s.toList) = !edgeB s := by
  obtain ⟨k1, r, h1, h2, h3, h4⟩ := right_some s.size s rfl hs
  obtain ⟨k2, t, g1, g2, g3, g4⟩ := left_some r.size r rfl
  refine ⟨max k1 k2, r, t, at_rounds (fun k => strings_trimRightByte.mono_l k _ _) (Nat.le_max_left _ _) h1, at_rounds (fun k => strings_trimLeftByte.mono_l k _ _) (Nat.le_max_right _ _) g1, ?_⟩
  unfold edgeB
  have lt : t.size < s.size → (t.toList != s.toList) = true := fun h => by
    rw [bne_iff_ne]
    intro e
    have : t.data.toList = s.data.toList := by rw [← Lib.toList_data, ← Lib.toList_data]; exact e
    have := bl_inj this
    rw [this] at h
    exact Nat.lt_irrefl _ h
  by_cases e1 : (bl s)[s.size - 1]? = some 32
  · rw [lt (by have := h3 e1; omega), e1]
    simp
  · have hr := h4 e1
    subst hr
    by_cases e0 : (bl r)[0]? = some 32
    · rw [lt (g3 e0), e0]
      simp
    · rw [g4 e0]
      simp [e0, e1]
set_option maxRecDepth 100000 in
set_option maxHeartbeats 4000000 in
theorem trim_calls (s : ByteArray) (w : World) (hs : s.size ≤ 1000000) :
    Calls Tryd.prog 29 #[.string s, .string ⟨#[32]⟩] w fun e w' => ∃ t, e = .returned (.string t) ∧ (t.toList != s.toList) = !edgeB s ∧ Drawn0 w w' := by
  obtain ⟨k, r, t, h1, h2, h3⟩ := trim_some s hs
  have RC : Aside0 (∀ w, Calls Tryd.prog 43 #[.string s, .int .u8 32] w fun e w' => e = .returned (.string r) ∧ ∃ m, w' = w.drewN m) := ⟨fun w => (strings_trimRightByte.calls k s 32 r w h1).mono fun _ _ ⟨he, hd⟩ => ⟨he, hd.1⟩⟩
  have LC : Aside0 (∀ w, Calls Tryd.prog 42 #[.string r, .int .u8 32] w fun e w' => e = .returned (.string t) ∧ ∃ m, w' = w.drewN m) := ⟨fun w => (strings_trimLeftByte.calls k r 32 t w h2).mono fun _ _ ⟨he, hd⟩ => ⟨he, hd.1⟩⟩
  have hx : (((⟨#[32]⟩ : ByteArray)[0]'(by decide)).toNat : Int) = 32 := by decide
  have HT := Aside0.mk h3
  clear h1 h2 h3
  cases he : s.toList.isEmpty with
  | true =>
    have hn : s.toList = [] := List.isEmpty_iff.1 he
    have c1 : (s.toList == []) = true := beq_iff_eq.2 hn
    have HN := Aside0.mk hn
    clear he hn
    go_enter Tryd.func29, Tryd.ntmps29
    go_wp2_with fail
    go_ret
    have hb : bl s = [] := by unfold bl; rw [← Lib.toList_data]; exact HN.out
    exact ⟨s, rfl, by unfold edgeB; rw [hb]; simp, Drawn0.refl _⟩
  | false =>
    have c1 : (s.toList == []) = false := by
      cases h : s.toList with
      | nil => rw [h] at he; cases he
      | cons a l => rfl
    clear he
    go_enter Tryd.func29, Tryd.ntmps29
    go_wp2_with fail
    go_quiet (first
      | (go_at_call 43; refine Calls.quiet_of (RC.out _))
      | (go_at_call 42; refine Calls.quiet_of (LC.out _)))
    go_wp2_with fail
    go_ret
    exact ⟨t, rfl, HT.out, ⟨⟨nq, rfl⟩⟩⟩
end Go.Proofs.YtbmjekekpmabbaaDoor.P
