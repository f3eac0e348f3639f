/- The document's AskRight is the package's. Conditions: none. -/
import Derived.Test.YtibhenengpdahaaLaw0
import Derived.Test.YtibhenengpdahaaP7
import Derived.Test.YtibhenengpdahaaAnsI
import Derived.Test.YtibhenengpdahaaAnswerP
import Derived.Test.YtibhenengpdahaaThere
section
set_option linter.unusedVariables false
set_option linter.unusedSimpArgs false
namespace Go.Proofs.Ytibhenengpdahaa.P
open Go.RowKit Go.Proofs.YtibhenengpdahaaW.PrintWords Go.Proofs.YtibhenengpdahaaW.PrintLast Go.Proofs.YtibhenengpdahaaW.PrintMore

theorem field_ok (has : ByteArray) (c : UInt8) (n : Int) : scriniumref1_field.f n (hasC has c) = some (letOk has c n) := by
  unfold scriniumref1_field.f letOk
  by_cases h0 : n ≥ 0
  · rw [if_pos h0, decide_eq_true (show 0 ≤ n from h0), Bool.true_and]
    by_cases h1 : n ≤ 65535
    · rw [if_pos h1, decide_eq_true h1, Bool.true_and]
      cases hasC has c with
      | true => simp
      | false =>
        rw [if_neg (by decide), Bool.or_false]
        by_cases h2 : n = 0
        · subst h2; rfl
        · rw [decide_eq_false (show ¬ n ≤ 0 by omega), beq_eq_false_iff_ne.2 h2]
    · rw [if_neg h1, decide_eq_false h1, Bool.false_and]
  · rw [if_neg h0, decide_eq_false (show ¬ 0 ≤ n from h0), Bool.false_and]
def hasB (k : Int) : Bool × Bool × Bool × Bool × Bool := (hasC (hasOf k) 116, hasC (hasOf k) 105, hasC (hasOf k) 102, hasC (hasOf k) 111, hasC (hasOf k) 115)
theorem fields_in (k : Int) (h1 : 1 ≤ k) (h2 : k ≤ 9) : scriniumref1_Fields.f 20 k = some (hasB k) := by
  rcases (show k = 1 ∨ k = 2 ∨ k = 3 ∨ k = 4 ∨ k = 5 ∨ k = 6 ∨ k = 7 ∨ k = 8 ∨ k = 9 by omega) with rfl | rfl | rfl | rfl | rfl | rfl | rfl | rfl | rfl <;> decide +kernel
theorem name_in (k : Int) (h1 : 1 ≤ k) (h2 : k ≤ 9) : (nameOf k).toList.isEmpty = false := by
  rcases (show k = 1 ∨ k = 2 ∨ k = 3 ∨ k = 4 ∨ k = 5 ∨ k = 6 ∨ k = 7 ∨ k = 8 ∨ k = 9 by omega) with rfl | rfl | rfl | rfl | rfl | rfl | rfl | rfl | rfl <;> decide +kernel
theorem name_out (k : Int) (h : k < 1 ∨ 9 < k) : nameOf k = ⟨#[]⟩ := by
  by_cases h0 : k = 0
  · subst h0; rfl
  · exact (of_first k (by omega)).1
theorem askRight_same (kind id fr tt snap : Int) (text : ByteArray) : scriniumref1_AskRight.f 20 kind id fr tt snap text = some (askB kind id fr tt snap text) := by
  by_cases hin : 1 ≤ kind ∧ kind ≤ 9
  · unfold scriniumref1_AskRight.f
    rw [fields_in kind hin.1 hin.2, Option.bind_some, if_pos hin.1, if_pos hin.2]
    unfold hasB askB
    rw [name_in kind hin.1 hin.2]
    dsimp only
    simp only [field_ok, Option.bind_some]
    by_cases hs : (text.size : Int) ≤ 40
    · rw [if_pos hs, decide_eq_true hs]
      cases hasC (hasOf kind) 116 <;> cases letOk (hasOf kind) 105 id <;> cases letOk (hasOf kind) 102 fr <;> cases letOk (hasOf kind) 111 tt <;> cases letOk (hasOf kind) 115 snap <;> simp
      all_goals (cases text.toList <;> simp)
    · rw [if_neg hs, decide_eq_false hs]
      simp
  · have hn := name_out kind (by omega)
    have ha : askB kind id fr tt snap text = false := by
      unfold askB
      rw [hn, show (⟨#[]⟩ : ByteArray).toList.isEmpty = true by decide +kernel]
      rfl
    rw [ha]
    unfold scriniumref1_AskRight.f
    have hf : ∃ q, scriniumref1_Fields.f 20 kind = some q := by
      unfold scriniumref1_Fields.f
      rw [if_neg (by omega), if_neg (by omega), if_neg (by omega), beq_eq_false_iff_ne.2 (show kind ≠ 4 by omega), scriniumref1_Fields.j0, if_neg (by decide), if_neg (by omega), if_neg (by omega), beq_eq_false_iff_ne.2 (show kind ≠ 9 by omega), scriniumref1_Fields.j1, if_neg (by decide), if_neg (by omega)]
      exact ⟨_, rfl⟩
    obtain ⟨q, hq⟩ := hf
    rw [hq, Option.bind_some]
    by_cases h1 : kind ≥ 1
    · rw [if_pos h1, if_neg (by omega)]
    · rw [if_neg h1]
end Go.Proofs.Ytibhenengpdahaa.P

end
section
set_option linter.unusedVariables false
set_option linter.unusedSimpArgs false
namespace Go.Proofs.Ytibhenengpdahaa.P
open Go.RowKit Go.Proofs.YtibhenengpdahaaW.PrintWords Go.Proofs.YtibhenengpdahaaW.PrintLast Go.Proofs.YtibhenengpdahaaW.PrintMore

theorem part_errno (l : List S42) (id fr tt : Int) : (partOf l id fr tt).2 ≠ 1 := by
  unfold partOf
  split
  · show (4 : Int) ≠ 1; decide
  · split
    · show (3 : Int) ≠ 1; decide
    · show (0 : Int) ≠ 1; decide
/-- The reply is one; it is refused just where it must be. -/
theorem answer_any (A0 : Option Addr) (c0 : Nat) (l0 : List S42) (kind id fr tt snap : Int) (text : ByteArray) (w : World) (hr0 : Kd.C k42 w A0 l0.length l0) (hc0 : l0.length ≤ c0) (hl : l0.length ≤ 1000000) :
    Calls Try.prog 12 #[.slice A0 l0.length c0, .agg #[.int .i64 kind, .int .i64 id, .int .i64 fr, .int .i64 tt, .int .i64 snap, .string text]] w fun e w' =>
      ∃ (er n : Int) (tx : ByteArray) (A1 : Option Addr) (n1 c1 : Nat) (A2 : Option Addr) (n2 c2 : Nat) (A3 : Option Addr) (n3 c3 : Nat) (x y : Nat),
        e = .returned (.agg #[.int .i64 er, .int .i64 0, .int .i64 n, .string tx, .slice A1 n1 c1, .slice A2 n2 c2, .slice A3 n3 c3, .complex .f64 x y]) ∧
        ((mayB l0 kind id fr tt snap text = false ∨ kind < 3 ∨ 7 < kind) → er = 1 ∧ n = 0) ∧ (¬ (mayB l0 kind id fr tt snap text = false ∨ kind < 3 ∨ 7 < kind) → er ≠ 1) ∧ Below w.heap.size w w' := by
  by_cases hb : mayB l0 kind id fr tt snap text = false ∨ kind < 3 ∨ 7 < kind
  · refine (answer_bad A0 c0 l0 kind id fr tt snap text w hr0 hc0 hl hb).mono ?_
    rintro e w' ⟨rfl, hw⟩
    exact ⟨1, 0, ⟨#[]⟩, none, 0, 0, none, 0, 0, none, 0, 0, 0, 0, rfl, fun _ => ⟨rfl, rfl⟩, fun h => absurd hb h, hw⟩
  · have hm : mayB l0 kind id fr tt snap text = true := by
      cases h : mayB l0 kind id fr tt snap text with
      | true => rfl
      | false => exact absurd (Or.inl h) hb
    have D0 : Docs0 l0 := (modelB_iff l0).1 (by unfold mayB at hm; rw [Bool.and_eq_true] at hm; exact hm.1)
    rcases (show kind = 3 ∨ kind = 4 ∨ kind = 5 ∨ kind = 6 ∨ kind = 7 by omega) with hk | hk | hk | hk | hk
    · obtain ⟨kn, hkn⟩ := naive_docs D0 text
      refine (answer_count A0 c0 l0 kind id fr tt snap text w hr0 hc0 hl hm hk _ kn hkn).mono ?_
      rintro e w' ⟨rfl, hw⟩
      exact ⟨0, _, ⟨#[]⟩, none, 0, 0, none, 0, 0, none, 0, 0, 0, 0, rfl, fun h => absurd h hb, fun _ => by decide, hw⟩
    · obtain ⟨kn, hkn⟩ := naive_docs D0 text
      have hRl : (naiveM (textsOf l0) text l0.length).length ≤ 1000000 := by
        have h1 := naiveM_le (textsOf l0) text 1000 (texts_size D0) l0.length
        have h2 : l0.length * (1000 + 1) ≤ 14 * 1001 := Nat.mul_le_mul (by have := D0.len; omega) (Nat.le_refl _)
        omega
      have hval : ∀ x ∈ naiveM (textsOf l0) text l0.length, 0 ≤ x.f0 ∧ x.f0 < (l0.length : Int) := by
        intro x hx
        obtain ⟨d, o, h1, h2, rfl⟩ := mem_naiveM (textsOf l0) text l0.length x hx
        exact ⟨by show (0 : Int) ≤ (d : Int); omega, by show (d : Int) < (l0.length : Int); omega⟩
      refine (answer_locate A0 c0 l0 kind id fr tt snap text w hr0 hc0 hl hm hk _ kn hkn hval hRl).mono ?_
      rintro e w' ⟨Av, cv, rfl, _, hw⟩
      exact ⟨0, _, ⟨#[]⟩, Av, _, cv, none, 0, 0, none, 0, 0, 0, 0, rfl, fun h => absurd h hb, fun _ => by decide, hw⟩
    · refine (answer_extract A0 c0 l0 kind id fr tt snap text w hr0 hc0 hl hm hk).mono ?_
      rintro e w' ⟨rfl, hw⟩
      exact ⟨_, 0, _, none, 0, 0, none, 0, 0, none, 0, 0, 0, 0, rfl, fun h => absurd h hb, fun _ => part_errno _ _ _ _, hw⟩
    · refine (answer_list A0 c0 l0 kind id fr tt snap text w hr0 hc0 hl hm hk).mono ?_
      rintro e w' ⟨A1, c1, A2, c2, rfl, _, _, hw⟩
      exact ⟨0, _, ⟨#[]⟩, none, 0, 0, A1, _, c1, A2, _, c2, 0, 0, rfl, fun h => absurd h hb, fun _ => by decide, hw⟩
    · refine (answer_plot A0 c0 l0 kind id fr tt snap text w hr0 hc0 hl hm hk).mono ?_
      rintro e w' ⟨rfl, hw⟩
      by_cases h0 : (partOf l0 id 0 tt).2 = 0
      · rw [if_pos h0]
        exact ⟨_, 0, ⟨#[]⟩, none, 0, 0, none, 0, 0, none, 0, 0, _, _, rfl, fun h => absurd h hb, fun _ => part_errno _ _ _ _, hw⟩
      · rw [if_neg h0]
        exact ⟨_, 0, ⟨#[]⟩, none, 0, 0, none, 0, 0, none, 0, 0, 0, 0, rfl, fun h => absurd h hb, fun _ => part_errno _ _ _ _, hw⟩
/-- What a change that is let in makes. -/
theorem change_cases (l : List S42) (kind id fr tt snap : Int) (text : ByteArray) (nid : Int) :
    ((mayB l kind id fr tt snap text = false ∨ kind < 1 ∨ 2 < kind) → changeOf l kind id fr tt snap text nid = ([], 1)) ∧
    (¬ (mayB l kind id fr tt snap text = false ∨ kind < 1 ∨ 2 < kind) → (changeOf l kind id fr tt snap text nid).2 = 0 ∧ Docs0 (changeOf l kind id fr tt snap text nid).1 ∨ (changeOf l kind id fr tt snap text nid).2 ≠ 0 ∧ (changeOf l kind id fr tt snap text nid).1 = l) := by
  constructor
  · intro h
    unfold changeOf
    rw [if_neg]
    rintro ⟨h1, h2, h3⟩
    rcases h with h | h | h
    · rw [h1] at h; cases h
    · omega
    · omega
  · intro h
    have hm : mayB l kind id fr tt snap text = true := by
      cases h' : mayB l kind id fr tt snap text with
      | true => rfl
      | false => exact absurd (Or.inl h') h
    have D0 : Docs0 l := (modelB_iff l).1 (by unfold mayB at hm; rw [Bool.and_eq_true] at hm; exact hm.1)
    by_cases hk : kind = 2
    · have hE : changeOf l kind id fr tt snap text nid = if findOf l id < 0 then (l, 4) else (l.eraseIdx (findOf l id).toNat, 0) := by
        unfold changeOf
        rw [if_pos ⟨hm, by omega, by omega⟩, if_pos hk]
      rw [hE]
      by_cases h1 : findOf l id < 0
      · rw [if_pos h1]; exact Or.inr ⟨by show (4 : Int) ≠ 0; decide, rfl⟩
      · rw [if_neg h1]; exact Or.inl ⟨rfl, docs_erase D0 _⟩
    · have hk1 : kind = 1 := by omega
      have hE : changeOf l kind id fr tt snap text nid = if nid < 1 ∨ 0 ≤ findOf l nid then (l, 1) else if 10 ≤ l.length then (l, 8) else (l ++ [⟨nid, text⟩], 0) := by
        unfold changeOf
        rw [if_pos ⟨hm, by omega, by omega⟩, if_neg hk]
      rw [hE]
      by_cases h1 : nid < 1 ∨ 0 ≤ findOf l nid
      · rw [if_pos h1]; exact Or.inr ⟨by show (1 : Int) ≠ 0; decide, rfl⟩
      · rw [if_neg h1]
        by_cases h2 : 10 ≤ l.length
        · rw [if_pos h2]; exact Or.inr ⟨by show (8 : Int) ≠ 0; decide, rfl⟩
        · rw [if_neg h2]
          refine Or.inl ⟨rfl, docs_push D0 nid text (by omega) (by omega) (find_neg (by omega)) ?_⟩
          unfold mayB askB at hm
          simp only [Bool.and_eq_true, decide_eq_true_eq] at hm
          omega
end Go.Proofs.Ytibhenengpdahaa.P

end
