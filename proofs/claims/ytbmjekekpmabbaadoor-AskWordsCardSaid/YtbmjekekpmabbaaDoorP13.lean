-- Printed by myprint.py (a program of this session's, over the kit's print): P
import Derived.Test.YtbmjekekpmabbaaDoorP0
import Derived.Test.YtbmjekekpmabbaaDoorP1
import Derived.Test.YtbmjekekpmabbaaDoorP6
import Derived.Test.YtbmjekekpmabbaaDoorP8
import Derived.Test.YtbmjekekpmabbaaDoorAskG
namespace Go.Proofs.YtbmjekekpmabbaaDoor.P
open Go.RowKit Go.Proofs.YtbmjekekpmabbaaDoorW.PrintWords Go.Proofs.YtbmjekekpmabbaaDoorW.PrintLast Go.Proofs.YtbmjekekpmabbaaDoorW.PrintMore
attribute [local go_sem] max2_int min2_int max_two min_two max_three min_three max_four min_four   -- for this text's walks alone
set_option linter.unusedVariables false
set_option linter.unusedSimpArgs false

attribute [local go_sem high] eqA23
/-! ### scriniumlaw20_AskWords: function 9 -/
mutual
def scriniumlaw20_AskWords.j0 : Nat → Int → Bool → Option (Bool)
  | 0, _, _ => none
  | k + 1, x0, x21 => if x21 = true then ((scriniumlaw20_alive.f k).bind fun t375 => (some t375)) else ((scriniumlaw20_digits.f k x0).bind fun t376 => (if 7 + t376.size ≤ 9223372036854775807 then ((ask_Read.f ((⟨#[100, 101, 108, 101, 116, 101, 32]⟩ : ByteArray) ++ t376)).bind fun bt377 => (if 8 + t376.size ≤ 9223372036854775807 then (if ((⟨#[100, 101, 108, 101, 116, 101, 32]⟩ : ByteArray) ++ t376).size + 1 ≤ 9223372036854775807 then (if (((⟨#[100, 101, 108, 101, 116, 101, 32]⟩ : ByteArray) ++ t376) ++ (⟨#[32]⟩ : ByteArray)).size + t376.size ≤ 9223372036854775807 then ((some (([(⟨#[100, 101, 108, 101, 116, 101, 32, 48]⟩ : ByteArray) ++ t376, (⟨#[100, 101, 108, 101, 116, 101, 32, 45]⟩ : ByteArray) ++ t376, (⟨#[100, 101, 108, 101, 116, 101, 32, 43]⟩ : ByteArray) ++ t376, (⟨#[100, 101, 108, 101, 116, 101, 32, 54, 53, 53, 51, 54]⟩ : ByteArray), (⟨#[100, 101, 108, 101, 116, 101]⟩ : ByteArray), (((⟨#[100, 101, 108, 101, 116, 101, 32]⟩ : ByteArray) ++ t376) ++ (⟨#[32]⟩ : ByteArray)) ++ t376, (⟨#[105, 110, 115, 101, 114, 116, 32, 65, 48]⟩ : ByteArray), (⟨#[105, 110, 115, 101, 114, 116, 32, 97, 98, 99]⟩ : ByteArray), (⟨#[105, 110, 115, 101, 114, 116]⟩ : ByteArray), (⟨#[105, 110, 115, 101, 114, 116, 32, 45, 45]⟩ : ByteArray), (⟨#[99, 111, 117, 110, 116, 32, 54, 49]⟩ : ByteArray), (⟨#[99, 111, 117, 110, 116, 32, 54, 49, 32, 48, 32, 48]⟩ : ByteArray), (⟨#[68, 101, 108, 101, 116, 101, 32]⟩ : ByteArray) ++ t376, (⟨#[100, 101, 108, 101, 116, 101, 9]⟩ : ByteArray) ++ t376] : List ByteArray) : List ByteArray)).bind fun y385 => (scriniumlaw20_AskWords.l0 k x0 bt377.2.2.2.2.2.2 y385 (y385.length : Int) 0 bt377.1 bt377.2.1 bt377.2.2.1 bt377.2.2.2.1 bt377.2.2.2.2.1 bt377.2.2.2.2.2.1)) else (none)) else (none)) else (none))) else (none)))
def scriniumlaw20_AskWords.l0 : Nat → Int → Bool → List ByteArray → Int → Int → Int → Int → Int → Int → Int → ByteArray → Option (Bool)
  | 0, _, _, _, _, _, _, _, _, _, _, _ => none
  | k + 1, x0, x5, x46, x47, x48, x385000, x385001, x385002, x385003, x385004, x385005 => if x48 < x47 then (if 0 ≤ x48 then (if x48 < (x46.length : Int) then ((ask_Read.f (rdOf ByteArray.empty x46 x48)).bind fun bt389 => (if bt389.2.2.2.2.2.2 = true then (some false) else (scriniumlaw20_AskWords.l0 k x0 x5 x46 x47 (wrap64 (x48 + 1)) x385000 x385001 x385002 x385003 x385004 x385005))) else (none)) else (none)) else ((ask_Read.f (⟨#[105, 110, 115, 101, 114, 116, 32, 45]⟩ : ByteArray)).bind fun bt397 => (if x5 = true then (if (x385000 == 2 && (x385001 == x0 && (x385002 == 0 && (x385003 == 0 && (x385004 == 0 && (x385005.toList == ([] : List UInt8))))))) = true then (if bt397.2.2.2.2.2.2 = true then (some (bt397.1 == 1 && (bt397.2.1 == 0 && (bt397.2.2.1 == 0 && (bt397.2.2.2.1 == 0 && (bt397.2.2.2.2.1 == 0 && (bt397.2.2.2.2.2.1.toList == ([] : List UInt8)))))))) else (some false)) else (some false)) else (some false)))
end
def scriniumlaw20_AskWords.f (k : Nat) (a0 : Int) : Option (Bool) := if a0 < 1 then (scriniumlaw20_AskWords.j0 k a0 true) else (if a0 > 65535 then (scriniumlaw20_AskWords.j0 k a0 true) else ((scriniumlaw20_alive.f k).bind fun t374 => (scriniumlaw20_AskWords.j0 k a0 (!t374))))
theorem scriniumlaw20_AskWords.mono_l : ∀ k, (∀ y0 y1, LeO (scriniumlaw20_AskWords.j0 k y0 y1) (scriniumlaw20_AskWords.j0 (k + 1) y0 y1)) ∧ (∀ y0 y1 y2 y3 y4 y5 y6 y7 y8 y9 y10, LeO (scriniumlaw20_AskWords.l0 k y0 y1 y2 y3 y4 y5 y6 y7 y8 y9 y10) (scriniumlaw20_AskWords.l0 (k + 1) y0 y1 y2 y3 y4 y5 y6 y7 y8 y9 y10))
  | 0 => ⟨fun _ _ r h => by simp [scriniumlaw20_AskWords.j0] at h, fun _ _ _ _ _ _ _ _ _ _ _ r h => by simp [scriniumlaw20_AskWords.l0] at h⟩
  | k + 1 => by
    obtain ⟨ih0, ih1⟩ := scriniumlaw20_AskWords.mono_l k
    refine ⟨?_, ?_⟩
    · intro y0 y1
      unfold scriniumlaw20_AskWords.j0
      repeat' first
      | (with_reducible exact ih0 _ _)
      | (with_reducible exact ih1 _ _ _ _ _ _ _ _ _ _ _)
      | (with_reducible exact scriniumlaw20_alive.mono _)
      | (with_reducible exact scriniumlaw20_digits.mono _ _)
      | (with_reducible exact LeO.refl _)
      | (with_reducible exact LeO.none _)
      | (with_reducible refine LeO.ite ?_ ?_)
      | (with_reducible refine LeO.bind ?_ (fun _ => ?_))
      | exact ih0 _ _
      | exact ih1 _ _ _ _ _ _ _ _ _ _ _
      | exact scriniumlaw20_alive.mono _
      | exact scriniumlaw20_digits.mono _ _
      | exact LeO.none _
      | refine LeO.ite ?_ ?_
      | refine LeO.bind ?_ (fun _ => ?_)
    · intro y0 y1 y2 y3 y4 y5 y6 y7 y8 y9 y10
      unfold scriniumlaw20_AskWords.l0
      repeat' first
      | (with_reducible exact ih0 _ _)
      | (with_reducible exact ih1 _ _ _ _ _ _ _ _ _ _ _)
      | (with_reducible exact scriniumlaw20_alive.mono _)
      | (with_reducible exact scriniumlaw20_digits.mono _ _)
      | (with_reducible exact LeO.refl _)
      | (with_reducible exact LeO.none _)
      | (with_reducible refine LeO.ite ?_ ?_)
      | (with_reducible refine LeO.bind ?_ (fun _ => ?_))
      | exact ih0 _ _
      | exact ih1 _ _ _ _ _ _ _ _ _ _ _
      | exact scriniumlaw20_alive.mono _
      | exact scriniumlaw20_digits.mono _ _
      | exact LeO.none _
      | refine LeO.ite ?_ ?_
      | refine LeO.bind ?_ (fun _ => ?_)
theorem scriniumlaw20_AskWords.mono : ∀ a0 k, LeO (scriniumlaw20_AskWords.f k a0) (scriniumlaw20_AskWords.f (k + 1) a0) := by
  intro a0 k
  obtain ⟨ih0, ih1⟩ := scriniumlaw20_AskWords.mono_l k
  unfold scriniumlaw20_AskWords.f
  repeat' first
      | (with_reducible exact ih0 _ _)
      | (with_reducible exact ih1 _ _ _ _ _ _ _ _ _ _ _)
      | (with_reducible exact scriniumlaw20_alive.mono _)
      | (with_reducible exact scriniumlaw20_digits.mono _ _)
      | (with_reducible exact LeO.refl _)
      | (with_reducible exact LeO.none _)
      | (with_reducible refine LeO.ite ?_ ?_)
      | (with_reducible refine LeO.bind ?_ (fun _ => ?_))
      | exact ih0 _ _
      | exact ih1 _ _ _ _ _ _ _ _ _ _ _
      | exact scriniumlaw20_alive.mono _
      | exact scriniumlaw20_digits.mono _ _
      | exact LeO.none _
      | refine LeO.ite ?_ ?_
      | refine LeO.bind ?_ (fun _ => ?_)
set_option maxHeartbeats 8000000 in
set_option maxRecDepth 100000 in
theorem scriniumlaw20_AskWords.calls (k : Nat) (a0 : Int) (r : Bool) (w : World) (h : scriniumlaw20_AskWords.f k a0 = some r) :
    Calls Tryd.prog 9 #[.int .i64 a0] w fun e w' => e = .returned (.bool r) ∧ Below w.heap.size w w' := by
  have hu23 := Tryd.underlying23
  have HB := Aside0.mk (Below.refl w.heap.size w)
  have H : (if a0 < 1 then (scriniumlaw20_AskWords.j0 k a0 true) else (if a0 > 65535 then (scriniumlaw20_AskWords.j0 k a0 true) else ((scriniumlaw20_alive.f k).bind fun t374 => (scriniumlaw20_AskWords.j0 k a0 (!t374))))) = some r := h
  clear h
  have HC2 := Aside0.mk H
  clear H
  go_enter Tryd.func9, Tryd.ntmps9
  go_upto_region 1 with (fail)
  go_cut [21] (fun v21 wc => ∃ (kq : Nat) (x21_1 : Bool), v21 = .bool x21_1 ∧ Aside0 (scriniumlaw20_AskWords.j0 kq a0 x21_1 = some r) ∧ Aside0 (kq ≤ k) ∧ Aside0 (Below w.heap.size w wc))
  case first =>
    have H := HC2.out
    clear HC2
    by_cases c3 : a0 < 1
    · rw [if_pos c3] at H
      have c3b0 : decide (a0 < 1) = true := decide_eq_true c3
      clear c3
      (first | rw [c3b0] | (simp only [i64_w, i32_w]; rw [c3b0]) | skip)
      have H' := Aside0.mk H
      clear H
      go_wp2
      go_meet
      case rel => exact ⟨_, (true), (by first | rfl | (simp; done) | (simp [*]; done)), H', ⟨by first | omega | exact Nat.le_refl _⟩, ⟨by repeat (first | (with_reducible first | exact HB.out | apply below_alloc | apply pw_below_drewN | apply below_drew1) | exact HB.out)⟩⟩
    · rw [if_neg c3] at H
      have c3b0 : decide (a0 < 1) = false := decide_eq_false c3
      clear c3
      (first | rw [c3b0] | (simp only [i64_w, i32_w]; rw [c3b0]) | skip)
      by_cases c4 : a0 > 65535
      · rw [if_pos c4] at H
        have c4b0 : decide (65535 < a0) = true := decide_eq_true c4
        clear c4
        have H' := Aside0.mk H
        clear H
        go_wp2
        go_meet
        case rel => exact ⟨_, (true), (by first | rfl | (simp; done) | (simp [*]; done)), H', ⟨by first | omega | exact Nat.le_refl _⟩, ⟨by repeat (first | (with_reducible first | exact HB.out | apply below_alloc | apply pw_below_drewN | apply below_drew1) | exact HB.out)⟩⟩
      · rw [if_neg c4] at H
        have c4b0 : decide (65535 < a0) = false := decide_eq_false c4
        clear c4
        replace H := Option.bind_eq_some_iff.mp H
        obtain ⟨t374, A50, H⟩ := H
        replace H : (scriniumlaw20_AskWords.j0 k a0 (!t374)) = some r := H
        have A5 := Aside0.mk A50
        clear A50
        have H' := Aside0.mk H
        clear H
        go_wp2_with (first | (go_at_call 11; (with_reducible refine (scriniumlaw20_alive.calls k  t374 _ A5.out).mono ?_); rintro e w6 ⟨rfl, hb⟩; have n0_ := Aside0.mk (below_step (by repeat (first | (with_reducible first | exact HB.out | apply below_alloc | apply pw_below_drewN | apply below_drew1) | exact HB.out)) hb); clear HB; have HB := n0_; clear n0_; (try clear hb); (try clear hb2); (try clear hk); (try clear hi)))
        go_meet
        case rel => exact ⟨_, (!t374), (by first | rfl | (simp; done) | (simp [*]; done)), H', ⟨by first | omega | exact Nat.le_refl _⟩, ⟨by repeat (first | (with_reducible first | exact HB.out | apply below_alloc | apply pw_below_drewN | apply below_drew1) | exact HB.out)⟩⟩
  case rest =>
    clear HC2
    try clear p2
    try clear c3
    try clear c3b0
    try clear c4
    try clear c4b0
    obtain ⟨kq, x21_1, rfl, HA, HJ1, HB⟩ := hcut
    cases kq with
    | zero => exact absurd HA.out (by simp [scriniumlaw20_AskWords.j0])
    | succ kj1 =>
      have H := HA.out
      clear HA
      simp only [scriniumlaw20_AskWords.j0] at H
      by_cases c7 : x21_1 = true
      · subst c7
        have H1 : ((scriniumlaw20_alive.f kj1).bind fun t375 => (some t375)) = some r := by rw [if_pos rfl] at H; exact H
        clear H
        have H := H1
        clear H1
        replace H := Option.bind_eq_some_iff.mp H
        obtain ⟨t375, A80, H⟩ := H
        replace H : (some t375) = some r := H
        have A8 := Aside0.mk A80
        clear A80
        obtain rfl := Option.some.inj H
        go_wp2_with (first | ((with_reducible refine gate_callee (f := 11) rfl ?_); refine goesL_ (some 22) rfl rfl Tryd.func11 (by kernel_rfl) rfl #[] rfl (by (try simp only [List.map_toArray, List.map_cons, List.map_nil]); first | done | rfl | (simp only [List.length_drop, List.length_take]; rfl)) ?_; (with_reducible refine (scriniumlaw20_alive.calls kj1  t375 _ A8.out).mono ?_); rintro e w9 ⟨rfl, hb⟩; refine ⟨_, rfl, ?_⟩; have n0_ := Aside0.mk (below_step (by repeat (first | (with_reducible first | exact HB.out | apply below_alloc | apply pw_below_drewN | apply below_drew1) | exact HB.out)) hb); clear HB; have HB := n0_; clear n0_; (try clear hb); (try clear hb2); (try clear hk); (try clear hi)))
        go_ret
        exact ⟨by first | rfl | (simp [errW_none, errW_some] <;> rfl) | (simp [*, errW_none, errW_some] <;> rfl), by repeat (first | (with_reducible first | exact HB.out | apply below_alloc | apply pw_below_drewN | apply below_drew1) | exact HB.out)⟩
      · replace c7 := Bool.eq_false_iff.mpr c7
        subst c7
        have H1 : ((scriniumlaw20_digits.f kj1 a0).bind fun t376 => (if 7 + t376.size ≤ 9223372036854775807 then ((ask_Read.f ((⟨#[100, 101, 108, 101, 116, 101, 32]⟩ : ByteArray) ++ t376)).bind fun bt377 => (if 8 + t376.size ≤ 9223372036854775807 then (if ((⟨#[100, 101, 108, 101, 116, 101, 32]⟩ : ByteArray) ++ t376).size + 1 ≤ 9223372036854775807 then (if (((⟨#[100, 101, 108, 101, 116, 101, 32]⟩ : ByteArray) ++ t376) ++ (⟨#[32]⟩ : ByteArray)).size + t376.size ≤ 9223372036854775807 then ((some (([(⟨#[100, 101, 108, 101, 116, 101, 32, 48]⟩ : ByteArray) ++ t376, (⟨#[100, 101, 108, 101, 116, 101, 32, 45]⟩ : ByteArray) ++ t376, (⟨#[100, 101, 108, 101, 116, 101, 32, 43]⟩ : ByteArray) ++ t376, (⟨#[100, 101, 108, 101, 116, 101, 32, 54, 53, 53, 51, 54]⟩ : ByteArray), (⟨#[100, 101, 108, 101, 116, 101]⟩ : ByteArray), (((⟨#[100, 101, 108, 101, 116, 101, 32]⟩ : ByteArray) ++ t376) ++ (⟨#[32]⟩ : ByteArray)) ++ t376, (⟨#[105, 110, 115, 101, 114, 116, 32, 65, 48]⟩ : ByteArray), (⟨#[105, 110, 115, 101, 114, 116, 32, 97, 98, 99]⟩ : ByteArray), (⟨#[105, 110, 115, 101, 114, 116]⟩ : ByteArray), (⟨#[105, 110, 115, 101, 114, 116, 32, 45, 45]⟩ : ByteArray), (⟨#[99, 111, 117, 110, 116, 32, 54, 49]⟩ : ByteArray), (⟨#[99, 111, 117, 110, 116, 32, 54, 49, 32, 48, 32, 48]⟩ : ByteArray), (⟨#[68, 101, 108, 101, 116, 101, 32]⟩ : ByteArray) ++ t376, (⟨#[100, 101, 108, 101, 116, 101, 9]⟩ : ByteArray) ++ t376] : List ByteArray) : List ByteArray)).bind fun y385 => (scriniumlaw20_AskWords.l0 kj1 a0 bt377.2.2.2.2.2.2 y385 (y385.length : Int) 0 bt377.1 bt377.2.1 bt377.2.2.1 bt377.2.2.2.1 bt377.2.2.2.2.1 bt377.2.2.2.2.2.1)) else (none)) else (none)) else (none))) else (none))) = some r := by rw [if_neg (show ¬ (false = true) by decide)] at H; exact H
        clear H
        have H := H1
        clear H1
        replace H := Option.bind_eq_some_iff.mp H
        obtain ⟨t376, A100, H⟩ := H
        replace H : (if 7 + t376.size ≤ 9223372036854775807 then ((ask_Read.f ((⟨#[100, 101, 108, 101, 116, 101, 32]⟩ : ByteArray) ++ t376)).bind fun bt377 => (if 8 + t376.size ≤ 9223372036854775807 then (if ((⟨#[100, 101, 108, 101, 116, 101, 32]⟩ : ByteArray) ++ t376).size + 1 ≤ 9223372036854775807 then (if (((⟨#[100, 101, 108, 101, 116, 101, 32]⟩ : ByteArray) ++ t376) ++ (⟨#[32]⟩ : ByteArray)).size + t376.size ≤ 9223372036854775807 then ((some (([(⟨#[100, 101, 108, 101, 116, 101, 32, 48]⟩ : ByteArray) ++ t376, (⟨#[100, 101, 108, 101, 116, 101, 32, 45]⟩ : ByteArray) ++ t376, (⟨#[100, 101, 108, 101, 116, 101, 32, 43]⟩ : ByteArray) ++ t376, (⟨#[100, 101, 108, 101, 116, 101, 32, 54, 53, 53, 51, 54]⟩ : ByteArray), (⟨#[100, 101, 108, 101, 116, 101]⟩ : ByteArray), (((⟨#[100, 101, 108, 101, 116, 101, 32]⟩ : ByteArray) ++ t376) ++ (⟨#[32]⟩ : ByteArray)) ++ t376, (⟨#[105, 110, 115, 101, 114, 116, 32, 65, 48]⟩ : ByteArray), (⟨#[105, 110, 115, 101, 114, 116, 32, 97, 98, 99]⟩ : ByteArray), (⟨#[105, 110, 115, 101, 114, 116]⟩ : ByteArray), (⟨#[105, 110, 115, 101, 114, 116, 32, 45, 45]⟩ : ByteArray), (⟨#[99, 111, 117, 110, 116, 32, 54, 49]⟩ : ByteArray), (⟨#[99, 111, 117, 110, 116, 32, 54, 49, 32, 48, 32, 48]⟩ : ByteArray), (⟨#[68, 101, 108, 101, 116, 101, 32]⟩ : ByteArray) ++ t376, (⟨#[100, 101, 108, 101, 116, 101, 9]⟩ : ByteArray) ++ t376] : List ByteArray) : List ByteArray)).bind fun y385 => (scriniumlaw20_AskWords.l0 kj1 a0 bt377.2.2.2.2.2.2 y385 (y385.length : Int) 0 bt377.1 bt377.2.1 bt377.2.2.1 bt377.2.2.2.1 bt377.2.2.2.2.1 bt377.2.2.2.2.2.1)) else (none)) else (none)) else (none))) else (none)) = some r := H
        have A10 := Aside0.mk A100
        clear A100
        by_cases c11 : 7 + t376.size ≤ 9223372036854775807
        · rw [if_pos c11] at H
          have c11b0 := eq_true c11
          have c11b1 : decide (7 + t376.size ≤ 9223372036854775807) = true := decide_eq_true c11
          try have c11b2 : (9223372036854775807 < 7 + t376.size) = False := eq_false (Nat.not_lt.2 c11)
          replace H := Option.bind_eq_some_iff.mp H
          obtain ⟨⟨t377, t378, t379, t380, t381, t382, t383⟩, A120, H⟩ := H
          replace H : (if 8 + t376.size ≤ 9223372036854775807 then (if ((⟨#[100, 101, 108, 101, 116, 101, 32]⟩ : ByteArray) ++ t376).size + 1 ≤ 9223372036854775807 then (if (((⟨#[100, 101, 108, 101, 116, 101, 32]⟩ : ByteArray) ++ t376) ++ (⟨#[32]⟩ : ByteArray)).size + t376.size ≤ 9223372036854775807 then ((some (([(⟨#[100, 101, 108, 101, 116, 101, 32, 48]⟩ : ByteArray) ++ t376, (⟨#[100, 101, 108, 101, 116, 101, 32, 45]⟩ : ByteArray) ++ t376, (⟨#[100, 101, 108, 101, 116, 101, 32, 43]⟩ : ByteArray) ++ t376, (⟨#[100, 101, 108, 101, 116, 101, 32, 54, 53, 53, 51, 54]⟩ : ByteArray), (⟨#[100, 101, 108, 101, 116, 101]⟩ : ByteArray), (((⟨#[100, 101, 108, 101, 116, 101, 32]⟩ : ByteArray) ++ t376) ++ (⟨#[32]⟩ : ByteArray)) ++ t376, (⟨#[105, 110, 115, 101, 114, 116, 32, 65, 48]⟩ : ByteArray), (⟨#[105, 110, 115, 101, 114, 116, 32, 97, 98, 99]⟩ : ByteArray), (⟨#[105, 110, 115, 101, 114, 116]⟩ : ByteArray), (⟨#[105, 110, 115, 101, 114, 116, 32, 45, 45]⟩ : ByteArray), (⟨#[99, 111, 117, 110, 116, 32, 54, 49]⟩ : ByteArray), (⟨#[99, 111, 117, 110, 116, 32, 54, 49, 32, 48, 32, 48]⟩ : ByteArray), (⟨#[68, 101, 108, 101, 116, 101, 32]⟩ : ByteArray) ++ t376, (⟨#[100, 101, 108, 101, 116, 101, 9]⟩ : ByteArray) ++ t376] : List ByteArray) : List ByteArray)).bind fun y385 => (scriniumlaw20_AskWords.l0 kj1 a0 t383 y385 (y385.length : Int) 0 t377 t378 t379 t380 t381 t382)) else (none)) else (none)) else (none)) = some r := H
          have A12 := Aside0.mk A120
          clear A120
          by_cases c13 : 8 + t376.size ≤ 9223372036854775807
          · rw [if_pos c13] at H
            have c13b0 := eq_true c13
            have c13b1 : decide (8 + t376.size ≤ 9223372036854775807) = true := decide_eq_true c13
            try have c13b2 : (9223372036854775807 < 8 + t376.size) = False := eq_false (Nat.not_lt.2 c13)
            by_cases c14 : ((⟨#[100, 101, 108, 101, 116, 101, 32]⟩ : ByteArray) ++ t376).size + 1 ≤ 9223372036854775807
            · rw [if_pos c14] at H
              have c14b0 := eq_true c14
              have c14b1 : decide (((⟨#[100, 101, 108, 101, 116, 101, 32]⟩ : ByteArray) ++ t376).size + 1 ≤ 9223372036854775807) = true := decide_eq_true c14
              try have c14b2 : (9223372036854775807 < ((⟨#[100, 101, 108, 101, 116, 101, 32]⟩ : ByteArray) ++ t376).size + 1) = False := eq_false (Nat.not_lt.2 c14)
              (try (have c14b3s := c14b2; simp only [ByteArray.size_append] at c14b3s))
              by_cases c15 : (((⟨#[100, 101, 108, 101, 116, 101, 32]⟩ : ByteArray) ++ t376) ++ (⟨#[32]⟩ : ByteArray)).size + t376.size ≤ 9223372036854775807
              · rw [if_pos c15] at H
                have c15b0 := eq_true c15
                have c15b1 : decide ((((⟨#[100, 101, 108, 101, 116, 101, 32]⟩ : ByteArray) ++ t376) ++ (⟨#[32]⟩ : ByteArray)).size + t376.size ≤ 9223372036854775807) = true := decide_eq_true c15
                try have c15b2 : (9223372036854775807 < (((⟨#[100, 101, 108, 101, 116, 101, 32]⟩ : ByteArray) ++ t376) ++ (⟨#[32]⟩ : ByteArray)).size + t376.size) = False := eq_false (Nat.not_lt.2 c15)
                (try (have c15b3s := c15b2; simp only [ByteArray.size_append] at c15b3s))
                obtain ⟨y385, hy385⟩ : ∃ y_ : List ByteArray, y_ = (([(⟨#[100, 101, 108, 101, 116, 101, 32, 48]⟩ : ByteArray) ++ t376, (⟨#[100, 101, 108, 101, 116, 101, 32, 45]⟩ : ByteArray) ++ t376, (⟨#[100, 101, 108, 101, 116, 101, 32, 43]⟩ : ByteArray) ++ t376, (⟨#[100, 101, 108, 101, 116, 101, 32, 54, 53, 53, 51, 54]⟩ : ByteArray), (⟨#[100, 101, 108, 101, 116, 101]⟩ : ByteArray), (((⟨#[100, 101, 108, 101, 116, 101, 32]⟩ : ByteArray) ++ t376) ++ (⟨#[32]⟩ : ByteArray)) ++ t376, (⟨#[105, 110, 115, 101, 114, 116, 32, 65, 48]⟩ : ByteArray), (⟨#[105, 110, 115, 101, 114, 116, 32, 97, 98, 99]⟩ : ByteArray), (⟨#[105, 110, 115, 101, 114, 116]⟩ : ByteArray), (⟨#[105, 110, 115, 101, 114, 116, 32, 45, 45]⟩ : ByteArray), (⟨#[99, 111, 117, 110, 116, 32, 54, 49]⟩ : ByteArray), (⟨#[99, 111, 117, 110, 116, 32, 54, 49, 32, 48, 32, 48]⟩ : ByteArray), (⟨#[68, 101, 108, 101, 116, 101, 32]⟩ : ByteArray) ++ t376, (⟨#[100, 101, 108, 101, 116, 101, 9]⟩ : ByteArray) ++ t376] : List ByteArray)) := ⟨_, rfl⟩
                replace H : (scriniumlaw20_AskWords.l0 kj1 a0 t383 y385 (y385.length : Int) 0 t377 t378 t379 t380 t381 t382) = some r := by first | (rw [hy385]; with_reducible exact H) | (have H2_ := (Option.bind_some _ _).symm.trans H; rw [hy385]; with_reducible exact H2_) | (have H2_ := (Option.bind_some _ _).symm.trans H; with_reducible exact H2_) | with_reducible exact H | (rw [hy385]; exact H) | exact H
                have Ny385 := Aside0.mk hy385
                clear hy385
                have H' := Aside0.mk H
                clear H
                go_wp2_with (first | ((with_reducible refine gate_callee (f := 23) rfl ?_); refine goesL_ (some 24) rfl rfl Tryd.func23 (by kernel_rfl) rfl #[.int .i64 a0] rfl (by (try simp only [List.map_toArray, List.map_cons, List.map_nil]); first | done | rfl | (simp only [List.length_drop, List.length_take]; rfl)) ?_; (with_reducible refine (scriniumlaw20_digits.calls kj1 a0 t376 _ A10.out).mono ?_); rintro e w16 ⟨rfl, hb⟩; refine ⟨_, rfl, ?_⟩; have n0_ := Aside0.mk (below_step (by repeat (first | (with_reducible first | exact HB.out | apply below_alloc | apply pw_below_drewN | apply below_drew1) | exact HB.out)) hb); clear HB; have HB := n0_; clear n0_; (try clear hb); (try clear hb2); (try clear hk); (try clear hi)) | ((with_reducible refine gate_callee (f := 16) rfl ?_); refine goesL_ (some 28) rfl rfl Tryd.func16 (by kernel_rfl) rfl #[.string ((⟨#[100, 101, 108, 101, 116, 101, 32]⟩ : ByteArray) ++ t376)] rfl (by (try simp only [List.map_toArray, List.map_cons, List.map_nil]); first | done | rfl | (simp only [List.length_drop, List.length_take]; rfl)) ?_; (with_reducible refine (ask_Read.calls ((⟨#[100, 101, 108, 101, 116, 101, 32]⟩ : ByteArray) ++ t376) t377 t378 t379 t380 t381 t382 t383 _ A12.out).mono ?_); rintro e w17 ⟨rfl, hb⟩; refine ⟨_, rfl, ?_⟩; have n0_ := Aside0.mk (below_step (by repeat (first | (with_reducible first | exact HB.out | apply below_alloc | apply pw_below_drewN | apply below_drew1) | exact HB.out)) hb); clear HB; have HB := n0_; clear n0_; (try clear hb); (try clear hb2); (try clear hk); (try clear hi)) | ((with_reducible refine gate_dst (N := 4) rfl ?_); refine box_event ?hg (N := 4) ?hd (cs := #[.int .i64 0, .int .i64 0, .int .i64 0, .int .i64 0, .int .i64 0, .string (⟨#[]⟩ : ByteArray)]) (t := 23) ?hr ?_; (case hd => rfl); (case hg => rfl); (case hr => first | (go_simp; done) | (go_simp; rfl)); intro gb384 hg w18 hbox hb; have n0_ := Aside0.mk (below_step (by repeat (first | (with_reducible first | exact HB.out | apply below_alloc | apply pw_below_drewN | apply below_drew1) | exact HB.out)) hb); have n1_ := Aside0.mk (hbox); have n2_ := Aside0.mk ((by rw [hg]; exact (below_size (by repeat (first | (with_reducible first | exact HB.out | apply below_alloc | apply pw_below_drewN | apply below_drew1) | exact HB.out))) : w.heap.size ≤ gb384)); have n3_ := Aside0.mk ((by rw [hg]; exact (below_size (by repeat (first | (with_reducible first | exact HB.out | apply below_alloc | apply pw_below_drewN | apply below_drew1) | exact HB.out))) : w.heap.size ≤ gb384)); clear HB; have HB := n0_; have BK384 := n1_; have GW384 := n2_; have GE384 := n3_; clear n0_ n1_ n2_ n3_; clear hb hbox hg; have hcz19_0 : w18.cell? ⟨gb384, 0, none⟩ = some (.int .i64 0) := (blk_cell BK384.out 0).trans rfl; have hcz19_1 : w18.cell? ⟨gb384, 1, none⟩ = some (.int .i64 0) := (blk_cell BK384.out 1).trans rfl; have hcz19_2 : w18.cell? ⟨gb384, 2, none⟩ = some (.int .i64 0) := (blk_cell BK384.out 2).trans rfl; have hcz19_3 : w18.cell? ⟨gb384, 3, none⟩ = some (.int .i64 0) := (blk_cell BK384.out 3).trans rfl; have hcz19_4 : w18.cell? ⟨gb384, 4, none⟩ = some (.int .i64 0) := (blk_cell BK384.out 4).trans rfl; have hcz19_5 : w18.cell? ⟨gb384, 5, none⟩ = some (.string (⟨#[]⟩ : ByteArray)) := (blk_cell BK384.out 5).trans rfl; have hfz19_0 := blk_frozen BK384.out 0; have hfz19_1 := blk_frozen BK384.out 1; have hfz19_2 := blk_frozen BK384.out 2; have hfz19_3 := blk_frozen BK384.out 3; have hfz19_4 := blk_frozen BK384.out 4; have hfz19_5 := blk_frozen BK384.out 5) | ((with_reducible refine gate_dst (N := 46) rfl ?_); refine Kd.R_lit Kd.string _ 9 ?hg (N := 46) ?hd (xs := ([(⟨#[100, 101, 108, 101, 116, 101, 32, 48]⟩ : ByteArray) ++ t376, (⟨#[100, 101, 108, 101, 116, 101, 32, 45]⟩ : ByteArray) ++ t376, (⟨#[100, 101, 108, 101, 116, 101, 32, 43]⟩ : ByteArray) ++ t376, (⟨#[100, 101, 108, 101, 116, 101, 32, 54, 53, 53, 51, 54]⟩ : ByteArray), (⟨#[100, 101, 108, 101, 116, 101]⟩ : ByteArray), (((⟨#[100, 101, 108, 101, 116, 101, 32]⟩ : ByteArray) ++ t376) ++ (⟨#[32]⟩ : ByteArray)) ++ t376, (⟨#[105, 110, 115, 101, 114, 116, 32, 65, 48]⟩ : ByteArray), (⟨#[105, 110, 115, 101, 114, 116, 32, 97, 98, 99]⟩ : ByteArray), (⟨#[105, 110, 115, 101, 114, 116]⟩ : ByteArray), (⟨#[105, 110, 115, 101, 114, 116, 32, 45, 45]⟩ : ByteArray), (⟨#[99, 111, 117, 110, 116, 32, 54, 49]⟩ : ByteArray), (⟨#[99, 111, 117, 110, 116, 32, 54, 49, 32, 48, 32, 48]⟩ : ByteArray), (⟨#[68, 101, 108, 101, 116, 101, 32]⟩ : ByteArray) ++ t376, (⟨#[100, 101, 108, 101, 116, 101, 9]⟩ : ByteArray) ++ t376] : List ByteArray)) (inner := [.string ((⟨#[100, 101, 108, 101, 116, 101, 32, 48]⟩ : ByteArray) ++ t376), .string ((⟨#[100, 101, 108, 101, 116, 101, 32, 45]⟩ : ByteArray) ++ t376), .string ((⟨#[100, 101, 108, 101, 116, 101, 32, 43]⟩ : ByteArray) ++ t376), .string (⟨#[100, 101, 108, 101, 116, 101, 32, 54, 53, 53, 51, 54]⟩ : ByteArray), .string (⟨#[100, 101, 108, 101, 116, 101]⟩ : ByteArray), .string ((((⟨#[100, 101, 108, 101, 116, 101, 32]⟩ : ByteArray) ++ t376) ++ (⟨#[32]⟩ : ByteArray)) ++ t376), .string (⟨#[105, 110, 115, 101, 114, 116, 32, 65, 48]⟩ : ByteArray), .string (⟨#[105, 110, 115, 101, 114, 116, 32, 97, 98, 99]⟩ : ByteArray), .string (⟨#[105, 110, 115, 101, 114, 116]⟩ : ByteArray), .string (⟨#[105, 110, 115, 101, 114, 116, 32, 45, 45]⟩ : ByteArray), .string (⟨#[99, 111, 117, 110, 116, 32, 54, 49]⟩ : ByteArray), .string (⟨#[99, 111, 117, 110, 116, 32, 54, 49, 32, 48, 32, 48]⟩ : ByteArray), .string ((⟨#[68, 101, 108, 101, 116, 101, 32]⟩ : ByteArray) ++ t376), .string ((⟨#[100, 101, 108, 101, 116, 101, 9]⟩ : ByteArray) ++ t376)]) (ok := fun _ => True) (okp := fun _ => True) ?hr ?hp (fun _ hk => hk) trivial (Below.refl _ _) (Nat.le_refl _) (by simp) ?_; (case hd => rfl); (case hg => rfl); (case hr => first | (go_simp; done) | (go_simp; rfl)); (case hp => exact (Reps.one (show Kd.M Kd.string _ _ _ ((⟨#[100, 101, 108, 101, 116, 101, 32, 48]⟩ : ByteArray) ++ t376) [.string ((⟨#[100, 101, 108, 101, 116, 101, 32, 48]⟩ : ByteArray) ++ t376)] from rfl) (Reps.one (show Kd.M Kd.string _ _ _ ((⟨#[100, 101, 108, 101, 116, 101, 32, 45]⟩ : ByteArray) ++ t376) [.string ((⟨#[100, 101, 108, 101, 116, 101, 32, 45]⟩ : ByteArray) ++ t376)] from rfl) (Reps.one (show Kd.M Kd.string _ _ _ ((⟨#[100, 101, 108, 101, 116, 101, 32, 43]⟩ : ByteArray) ++ t376) [.string ((⟨#[100, 101, 108, 101, 116, 101, 32, 43]⟩ : ByteArray) ++ t376)] from rfl) (Reps.one (show Kd.M Kd.string _ _ _ (⟨#[100, 101, 108, 101, 116, 101, 32, 54, 53, 53, 51, 54]⟩ : ByteArray) [.string (⟨#[100, 101, 108, 101, 116, 101, 32, 54, 53, 53, 51, 54]⟩ : ByteArray)] from rfl) (Reps.one (show Kd.M Kd.string _ _ _ (⟨#[100, 101, 108, 101, 116, 101]⟩ : ByteArray) [.string (⟨#[100, 101, 108, 101, 116, 101]⟩ : ByteArray)] from rfl) (Reps.one (show Kd.M Kd.string _ _ _ ((((⟨#[100, 101, 108, 101, 116, 101, 32]⟩ : ByteArray) ++ t376) ++ (⟨#[32]⟩ : ByteArray)) ++ t376) [.string ((((⟨#[100, 101, 108, 101, 116, 101, 32]⟩ : ByteArray) ++ t376) ++ (⟨#[32]⟩ : ByteArray)) ++ t376)] from rfl) (Reps.one (show Kd.M Kd.string _ _ _ (⟨#[105, 110, 115, 101, 114, 116, 32, 65, 48]⟩ : ByteArray) [.string (⟨#[105, 110, 115, 101, 114, 116, 32, 65, 48]⟩ : ByteArray)] from rfl) (Reps.one (show Kd.M Kd.string _ _ _ (⟨#[105, 110, 115, 101, 114, 116, 32, 97, 98, 99]⟩ : ByteArray) [.string (⟨#[105, 110, 115, 101, 114, 116, 32, 97, 98, 99]⟩ : ByteArray)] from rfl) (Reps.one (show Kd.M Kd.string _ _ _ (⟨#[105, 110, 115, 101, 114, 116]⟩ : ByteArray) [.string (⟨#[105, 110, 115, 101, 114, 116]⟩ : ByteArray)] from rfl) (Reps.one (show Kd.M Kd.string _ _ _ (⟨#[105, 110, 115, 101, 114, 116, 32, 45, 45]⟩ : ByteArray) [.string (⟨#[105, 110, 115, 101, 114, 116, 32, 45, 45]⟩ : ByteArray)] from rfl) (Reps.one (show Kd.M Kd.string _ _ _ (⟨#[99, 111, 117, 110, 116, 32, 54, 49]⟩ : ByteArray) [.string (⟨#[99, 111, 117, 110, 116, 32, 54, 49]⟩ : ByteArray)] from rfl) (Reps.one (show Kd.M Kd.string _ _ _ (⟨#[99, 111, 117, 110, 116, 32, 54, 49, 32, 48, 32, 48]⟩ : ByteArray) [.string (⟨#[99, 111, 117, 110, 116, 32, 54, 49, 32, 48, 32, 48]⟩ : ByteArray)] from rfl) (Reps.one (show Kd.M Kd.string _ _ _ ((⟨#[68, 101, 108, 101, 116, 101, 32]⟩ : ByteArray) ++ t376) [.string ((⟨#[68, 101, 108, 101, 116, 101, 32]⟩ : ByteArray) ++ t376)] from rfl) (Reps.one (show Kd.M Kd.string _ _ _ ((⟨#[100, 101, 108, 101, 116, 101, 9]⟩ : ByteArray) ++ t376) [.string ((⟨#[100, 101, 108, 101, 116, 101, 9]⟩ : ByteArray) ++ t376)] from rfl) (Reps.none _ _)))))))))))))))); intro v386 w20 ho21 hb hg_ hnew_; clear hg_ hnew_; (first | rw [← Ny385.out] at ho21 | (simp only [Int.reduceToNat] at ho21; rw [← Ny385.out] at ho21)); have n0_ := Aside0.mk (Kd.R_lower ho21 (below_size (by repeat (first | (with_reducible first | exact HB.out | apply below_alloc | apply pw_below_drewN | apply below_drew1 | refine below_set ?_ GE384.out) | exact HB.out)))); have n1_ := Aside0.mk (blk_below (g := gb384) (o := .cells #[.int .i64 t377, .int .i64 t378, .int .i64 t379, .int .i64 t380, .int .i64 t381, .string t382] 23 (0, 0)) (by (with_reducible repeat (first | refine blk_drewN ?_ _ | refine blk_drew ?_ | refine blk_alloc ?_ _)); refine blk_put (cs := #[.int .i64 t377, .int .i64 t378, .int .i64 t379, .int .i64 t380, .int .i64 t381, .string (⟨#[]⟩ : ByteArray)]) ?_ 5 _ rfl; (with_reducible repeat (first | refine blk_drewN ?_ _ | refine blk_drew ?_ | refine blk_alloc ?_ _)); refine blk_put (cs := #[.int .i64 t377, .int .i64 t378, .int .i64 t379, .int .i64 t380, .int .i64 0, .string (⟨#[]⟩ : ByteArray)]) ?_ 4 _ rfl; (with_reducible repeat (first | refine blk_drewN ?_ _ | refine blk_drew ?_ | refine blk_alloc ?_ _)); refine blk_put (cs := #[.int .i64 t377, .int .i64 t378, .int .i64 t379, .int .i64 0, .int .i64 0, .string (⟨#[]⟩ : ByteArray)]) ?_ 3 _ rfl; (with_reducible repeat (first | refine blk_drewN ?_ _ | refine blk_drew ?_ | refine blk_alloc ?_ _)); refine blk_put (cs := #[.int .i64 t377, .int .i64 t378, .int .i64 0, .int .i64 0, .int .i64 0, .string (⟨#[]⟩ : ByteArray)]) ?_ 2 _ rfl; (with_reducible repeat (first | refine blk_drewN ?_ _ | refine blk_drew ?_ | refine blk_alloc ?_ _)); refine blk_put (cs := #[.int .i64 t377, .int .i64 0, .int .i64 0, .int .i64 0, .int .i64 0, .string (⟨#[]⟩ : ByteArray)]) ?_ 1 _ rfl; (with_reducible repeat (first | refine blk_drewN ?_ _ | refine blk_drew ?_ | refine blk_alloc ?_ _)); refine blk_put (cs := #[.int .i64 0, .int .i64 0, .int .i64 0, .int .i64 0, .int .i64 0, .string (⟨#[]⟩ : ByteArray)]) ?_ 0 _ rfl; (with_reducible repeat (first | refine blk_drewN ?_ _ | refine blk_drew ?_ | refine blk_alloc ?_ _)); exact BK384.out) hb); have n2_ := Aside0.mk (below_step (by repeat (first | (with_reducible first | exact HB.out | apply below_alloc | apply pw_below_drewN | apply below_drew1 | refine below_set ?_ GE384.out) | exact HB.out)) hb); clear BK384; clear HB; have HO387 := n0_; have BK384 := n1_; have HB := n2_; clear n0_ n1_ n2_; clear hb ho21; obtain ⟨Ao22, co22, eo22⟩ := Kd.R_slice HO387.out; subst eo22))
                go_loopg [48] kj1 (fun kq v48 w' => ∃ (x48_2 : Int), v48 = .int .i64 x48_2 ∧ Aside0 (scriniumlaw20_AskWords.l0 kq a0 t383 y385 (y385.length : Int) x48_2 t377 t378 t379 t380 t381 t382 = some r) ∧ Aside0 (kq ≤ kj1) ∧ Aside0 (Kd.R Kd.string 9 w' w.heap.size (fun _ => True) (.slice Ao22 y385.length co22) y385) ∧ Aside0 (w'.heap[gb384]? = some (.cells #[.int .i64 t377, .int .i64 t378, .int .i64 t379, .int .i64 t380, .int .i64 t381, .string t382] 23 (0, 0))) ∧ Aside0 (Below w.heap.size w w'))
                case atStart => exact ⟨(0), (by first | rfl | (simp; done) | (simp [*]; done)), H', ⟨Nat.le_refl _⟩, ⟨by (with_reducible repeat (first | apply Kd.R_alloc | apply Kd.R_drewN | apply Kd.R_drew)); exact HO387.out⟩, ⟨by (with_reducible repeat (first | refine blk_drewN ?_ _ | refine blk_drew ?_ | refine blk_alloc ?_ _)); exact BK384.out⟩, ⟨by repeat (first | (with_reducible first | exact HB.out | apply below_alloc | apply pw_below_drewN | apply below_drew1 | refine below_set ?_ GE384.out) | exact HB.out)⟩⟩
                case round =>
                  clear H'
                  try clear c1
                  try clear c2
                  try clear p2
                  try clear c3
                  try clear c3b0
                  try clear c4
                  try clear c4b0
                  try clear c7
                  try clear c9
                  try clear c11
                  try clear c11b0
                  try clear c11b1
                  try clear c11b2
                  try clear c13
                  try clear c13b0
                  try clear c13b1
                  try clear c13b2
                  try clear c14
                  try clear c14b0
                  try clear c14b1
                  try clear c14b2
                  try clear c15
                  try clear c15b0
                  try clear c15b1
                  try clear c15b2
                  try clear c16
                  try clear hcz19_0
                  try clear hcz19_1
                  try clear hcz19_2
                  try clear hcz19_3
                  try clear hcz19_4
                  try clear hcz19_5
                  try clear hfz19_0
                  try clear hfz19_1
                  try clear hfz19_2
                  try clear hfz19_3
                  try clear hfz19_4
                  try clear hfz19_5
                  try clear p2
                  obtain ⟨x48_2, rfl, HA, HK2, HO_46, BK384, HB⟩ := hrel
                  cases gk with
                  | zero => exact absurd HA.out (by simp [scriniumlaw20_AskWords.l0])
                  | succ k2 =>
                    have H := HA.out
                    clear HA
                    simp only [scriniumlaw20_AskWords.l0] at H
                    by_cases c23 : x48_2 < (y385.length : Int)
                    · rw [if_pos c23] at H
                      have c23b0 : decide (x48_2 < (y385.length : Int)) = true := decide_eq_true c23
                      clear c23
                      by_cases c24 : 0 ≤ x48_2
                      · rw [if_pos c24] at H
                        have c24b0 : decide (0 ≤ x48_2) = true := decide_eq_true c24
                        clear c24
                        by_cases c25 : x48_2 < (y385.length : Int)
                        · rw [if_pos c25] at H
                          have c25b0 : decide (x48_2 < (y385.length : Int)) = true := decide_eq_true c25
                          clear c25
                          replace H := Option.bind_eq_some_iff.mp H
                          obtain ⟨⟨t389, t390, t391, t392, t393, t394, t395⟩, A260, H⟩ := H
                          replace H : (if t395 = true then (some false) else (scriniumlaw20_AskWords.l0 k2 a0 t383 y385 (y385.length : Int) (wrap64 (x48_2 + 1)) t377 t378 t379 t380 t381 t382)) = some r := H
                          have A26 := Aside0.mk A260
                          clear A260
                          by_cases c27 : t395 = true
                          · subst c27
                            have H1 : (some false) = some r := by rw [if_pos rfl] at H; exact H
                            clear H
                            have H := H1
                            clear H1
                            obtain rfl := Option.some.inj H
                            have p388 : 0 ≤ (x48_2 : Int) := of_decide_eq_true (by first | (with_reducible assumption) | assumption)
                            have q388 : x48_2 < (y385.length : Int) := of_decide_eq_true (by first | (with_reducible assumption) | assumption)
                            obtain ⟨ad388, e388, hx388_0⟩ := Kd.at_string (Kd.R_reads' HO_46.out).2.2 x48_2 p388 q388
                            cases e388
                            replace p388 := eq_true p388
                            replace q388 := eq_true q388
                            go_wp2_with (first | ((with_reducible refine gate_callee (f := 16) rfl ?_); refine goesL_ (some 54) rfl rfl Tryd.func16 (by kernel_rfl) rfl #[.string (rdOf ByteArray.empty y385 x48_2)] rfl (by (try simp only [List.map_toArray, List.map_cons, List.map_nil]); first | done | rfl | (simp only [List.length_drop, List.length_take]; rfl)) ?_; (with_reducible refine (ask_Read.calls (rdOf ByteArray.empty y385 x48_2) t389 t390 t391 t392 t393 t394 true _ A26.out).mono ?_); rintro e w28 ⟨rfl, hb⟩; refine ⟨_, rfl, ?_⟩; have n0_ := Aside0.mk (Kd.R_below (by (with_reducible repeat (first | apply Kd.R_alloc | apply Kd.R_drewN | apply Kd.R_drew)); exact HO_46.out) hb); have n1_ := Aside0.mk (blk_below (g := gb384) (o := .cells #[.int .i64 t377, .int .i64 t378, .int .i64 t379, .int .i64 t380, .int .i64 t381, .string t382] 23 (0, 0)) (by (with_reducible repeat (first | refine blk_drewN ?_ _ | refine blk_drew ?_ | refine blk_alloc ?_ _)); exact BK384.out) hb); have n2_ := Aside0.mk (below_step (by repeat (first | (with_reducible first | exact HB.out | apply below_alloc | apply pw_below_drewN | apply below_drew1 | refine below_set ?_ GE384.out) | exact HB.out)) hb); clear HO_46; clear BK384; clear HB; have HO_46 := n0_; have BK384 := n1_; have HB := n2_; clear n0_ n1_ n2_; (try clear hb); (try clear hb2); (try clear hk); (try clear hi)) | ((with_reducible refine gate_dst (N := 8) rfl ?_); refine box_event ?hg (N := 8) ?hd (cs := #[.int .i64 0, .int .i64 0, .int .i64 0, .int .i64 0, .int .i64 0, .string (⟨#[]⟩ : ByteArray)]) (t := 23) ?hr ?_; (case hd => rfl); (case hg => rfl); (case hr => first | (go_simp; done) | (go_simp; rfl)); intro gb396 hg w29 hbox hb; have n0_ := Aside0.mk (Kd.R_below (by (with_reducible repeat (first | apply Kd.R_alloc | apply Kd.R_drewN | apply Kd.R_drew)); exact HO_46.out) hb); have n1_ := Aside0.mk (blk_below (g := gb384) (o := .cells #[.int .i64 t377, .int .i64 t378, .int .i64 t379, .int .i64 t380, .int .i64 t381, .string t382] 23 (0, 0)) (by (with_reducible repeat (first | refine blk_drewN ?_ _ | refine blk_drew ?_ | refine blk_alloc ?_ _)); exact BK384.out) hb); have n2_ := Aside0.mk (below_step (by repeat (first | (with_reducible first | exact HB.out | apply below_alloc | apply pw_below_drewN | apply below_drew1 | refine below_set ?_ GE384.out) | exact HB.out)) hb); have n3_ := Aside0.mk (hbox); have n4_ := Aside0.mk ((by rw [hg]; exact (below_size (by repeat (first | (with_reducible first | exact HB.out | apply below_alloc | apply pw_below_drewN | apply below_drew1 | refine below_set ?_ GE384.out) | exact HB.out))) : w.heap.size ≤ gb396)); have n5_ := Aside0.mk ((by rw [hg]; exact (below_size (by repeat (first | (with_reducible first | exact HB.out | apply below_alloc | apply pw_below_drewN | apply below_drew1 | refine below_set ?_ GE384.out) | exact HB.out))) : w.heap.size ≤ gb396)); have n6_ := Aside0.mk ((by rw [hg]; exact Nat.ne_of_lt (blk_lt (g := gb384) (o := .cells #[.int .i64 t377, .int .i64 t378, .int .i64 t379, .int .i64 t380, .int .i64 t381, .string t382] 23 (0, 0)) (by (with_reducible repeat (first | refine blk_drewN ?_ _ | refine blk_drew ?_ | refine blk_alloc ?_ _)); exact BK384.out)) : gb384 ≠ gb396)); have n7_ := Aside0.mk ((by rw [hg]; exact Nat.ne_of_gt (blk_lt (g := gb384) (o := .cells #[.int .i64 t377, .int .i64 t378, .int .i64 t379, .int .i64 t380, .int .i64 t381, .string t382] 23 (0, 0)) (by (with_reducible repeat (first | refine blk_drewN ?_ _ | refine blk_drew ?_ | refine blk_alloc ?_ _)); exact BK384.out)) : gb396 ≠ gb384)); clear HO_46; clear BK384; clear HB; have HO_46 := n0_; have BK384 := n1_; have HB := n2_; have BK396 := n3_; have GW396 := n4_; have GE396 := n5_; have NB384_396 := n6_; have NB396_384 := n7_; clear n0_ n1_ n2_ n3_ n4_ n5_ n6_ n7_; clear hb hbox hg; have hnb30 := NB396_384.out; have hnc30 := NB384_396.out; have hcz31_0 : w29.cell? ⟨gb396, 0, none⟩ = some (.int .i64 0) := (blk_cell BK396.out 0).trans rfl; have hcz31_1 : w29.cell? ⟨gb396, 1, none⟩ = some (.int .i64 0) := (blk_cell BK396.out 1).trans rfl; have hcz31_2 : w29.cell? ⟨gb396, 2, none⟩ = some (.int .i64 0) := (blk_cell BK396.out 2).trans rfl; have hcz31_3 : w29.cell? ⟨gb396, 3, none⟩ = some (.int .i64 0) := (blk_cell BK396.out 3).trans rfl; have hcz31_4 : w29.cell? ⟨gb396, 4, none⟩ = some (.int .i64 0) := (blk_cell BK396.out 4).trans rfl; have hcz31_5 : w29.cell? ⟨gb396, 5, none⟩ = some (.string (⟨#[]⟩ : ByteArray)) := (blk_cell BK396.out 5).trans rfl; have hfz31_0 := blk_frozen BK396.out 0; have hfz31_1 := blk_frozen BK396.out 1; have hfz31_2 := blk_frozen BK396.out 2; have hfz31_3 := blk_frozen BK396.out 3; have hfz31_4 := blk_frozen BK396.out 4; have hfz31_5 := blk_frozen BK396.out 5))
                            go_ret
                            exact ⟨by first | rfl | (simp [errW_none, errW_some] <;> rfl) | (simp [*, errW_none, errW_some] <;> rfl), by repeat (first | (with_reducible first | exact HB.out | apply below_alloc | apply pw_below_drewN | apply below_drew1 | refine below_set ?_ GE384.out | refine below_set ?_ GE396.out) | exact HB.out)⟩
                          · replace c27 := Bool.eq_false_iff.mpr c27
                            subst c27
                            have H1 : (scriniumlaw20_AskWords.l0 k2 a0 t383 y385 (y385.length : Int) (wrap64 (x48_2 + 1)) t377 t378 t379 t380 t381 t382) = some r := by rw [if_neg (show ¬ (false = true) by decide)] at H; exact H
                            clear H
                            have H := H1
                            clear H1
                            have H' := Aside0.mk H
                            clear H
                            have p388 : 0 ≤ (x48_2 : Int) := of_decide_eq_true (by first | (with_reducible assumption) | assumption)
                            have q388 : x48_2 < (y385.length : Int) := of_decide_eq_true (by first | (with_reducible assumption) | assumption)
                            obtain ⟨ad388, e388, hx388_0⟩ := Kd.at_string (Kd.R_reads' HO_46.out).2.2 x48_2 p388 q388
                            cases e388
                            replace p388 := eq_true p388
                            replace q388 := eq_true q388
                            go_wp2_with (first | ((with_reducible refine gate_callee (f := 16) rfl ?_); refine goesL_ (some 54) rfl rfl Tryd.func16 (by kernel_rfl) rfl #[.string (rdOf ByteArray.empty y385 x48_2)] rfl (by (try simp only [List.map_toArray, List.map_cons, List.map_nil]); first | done | rfl | (simp only [List.length_drop, List.length_take]; rfl)) ?_; (with_reducible refine (ask_Read.calls (rdOf ByteArray.empty y385 x48_2) t389 t390 t391 t392 t393 t394 false _ A26.out).mono ?_); rintro e w32 ⟨rfl, hb⟩; refine ⟨_, rfl, ?_⟩; have n0_ := Aside0.mk (Kd.R_below (by (with_reducible repeat (first | apply Kd.R_alloc | apply Kd.R_drewN | apply Kd.R_drew)); exact HO_46.out) hb); have n1_ := Aside0.mk (blk_below (g := gb384) (o := .cells #[.int .i64 t377, .int .i64 t378, .int .i64 t379, .int .i64 t380, .int .i64 t381, .string t382] 23 (0, 0)) (by (with_reducible repeat (first | refine blk_drewN ?_ _ | refine blk_drew ?_ | refine blk_alloc ?_ _)); exact BK384.out) hb); have n2_ := Aside0.mk (below_step (by repeat (first | (with_reducible first | exact HB.out | apply below_alloc | apply pw_below_drewN | apply below_drew1 | refine below_set ?_ GE384.out) | exact HB.out)) hb); clear HO_46; clear BK384; clear HB; have HO_46 := n0_; have BK384 := n1_; have HB := n2_; clear n0_ n1_ n2_; (try clear hb); (try clear hb2); (try clear hk); (try clear hi)) | ((with_reducible refine gate_dst (N := 8) rfl ?_); refine box_event ?hg (N := 8) ?hd (cs := #[.int .i64 0, .int .i64 0, .int .i64 0, .int .i64 0, .int .i64 0, .string (⟨#[]⟩ : ByteArray)]) (t := 23) ?hr ?_; (case hd => rfl); (case hg => rfl); (case hr => first | (go_simp; done) | (go_simp; rfl)); intro gb396 hg w33 hbox hb; have n0_ := Aside0.mk (Kd.R_below (by (with_reducible repeat (first | apply Kd.R_alloc | apply Kd.R_drewN | apply Kd.R_drew)); exact HO_46.out) hb); have n1_ := Aside0.mk (blk_below (g := gb384) (o := .cells #[.int .i64 t377, .int .i64 t378, .int .i64 t379, .int .i64 t380, .int .i64 t381, .string t382] 23 (0, 0)) (by (with_reducible repeat (first | refine blk_drewN ?_ _ | refine blk_drew ?_ | refine blk_alloc ?_ _)); exact BK384.out) hb); have n2_ := Aside0.mk (below_step (by repeat (first | (with_reducible first | exact HB.out | apply below_alloc | apply pw_below_drewN | apply below_drew1 | refine below_set ?_ GE384.out) | exact HB.out)) hb); have n3_ := Aside0.mk (hbox); have n4_ := Aside0.mk ((by rw [hg]; exact (below_size (by repeat (first | (with_reducible first | exact HB.out | apply below_alloc | apply pw_below_drewN | apply below_drew1 | refine below_set ?_ GE384.out) | exact HB.out))) : w.heap.size ≤ gb396)); have n5_ := Aside0.mk ((by rw [hg]; exact (below_size (by repeat (first | (with_reducible first | exact HB.out | apply below_alloc | apply pw_below_drewN | apply below_drew1 | refine below_set ?_ GE384.out) | exact HB.out))) : w.heap.size ≤ gb396)); have n6_ := Aside0.mk ((by rw [hg]; exact Nat.ne_of_lt (blk_lt (g := gb384) (o := .cells #[.int .i64 t377, .int .i64 t378, .int .i64 t379, .int .i64 t380, .int .i64 t381, .string t382] 23 (0, 0)) (by (with_reducible repeat (first | refine blk_drewN ?_ _ | refine blk_drew ?_ | refine blk_alloc ?_ _)); exact BK384.out)) : gb384 ≠ gb396)); have n7_ := Aside0.mk ((by rw [hg]; exact Nat.ne_of_gt (blk_lt (g := gb384) (o := .cells #[.int .i64 t377, .int .i64 t378, .int .i64 t379, .int .i64 t380, .int .i64 t381, .string t382] 23 (0, 0)) (by (with_reducible repeat (first | refine blk_drewN ?_ _ | refine blk_drew ?_ | refine blk_alloc ?_ _)); exact BK384.out)) : gb396 ≠ gb384)); clear HO_46; clear BK384; clear HB; have HO_46 := n0_; have BK384 := n1_; have HB := n2_; have BK396 := n3_; have GW396 := n4_; have GE396 := n5_; have NB384_396 := n6_; have NB396_384 := n7_; clear n0_ n1_ n2_ n3_ n4_ n5_ n6_ n7_; clear hb hbox hg; have hnb34 := NB396_384.out; have hnc34 := NB384_396.out; have hcz35_0 : w33.cell? ⟨gb396, 0, none⟩ = some (.int .i64 0) := (blk_cell BK396.out 0).trans rfl; have hcz35_1 : w33.cell? ⟨gb396, 1, none⟩ = some (.int .i64 0) := (blk_cell BK396.out 1).trans rfl; have hcz35_2 : w33.cell? ⟨gb396, 2, none⟩ = some (.int .i64 0) := (blk_cell BK396.out 2).trans rfl; have hcz35_3 : w33.cell? ⟨gb396, 3, none⟩ = some (.int .i64 0) := (blk_cell BK396.out 3).trans rfl; have hcz35_4 : w33.cell? ⟨gb396, 4, none⟩ = some (.int .i64 0) := (blk_cell BK396.out 4).trans rfl; have hcz35_5 : w33.cell? ⟨gb396, 5, none⟩ = some (.string (⟨#[]⟩ : ByteArray)) := (blk_cell BK396.out 5).trans rfl; have hfz35_0 := blk_frozen BK396.out 0; have hfz35_1 := blk_frozen BK396.out 1; have hfz35_2 := blk_frozen BK396.out 2; have hfz35_3 := blk_frozen BK396.out 3; have hfz35_4 := blk_frozen BK396.out 4; have hfz35_5 := blk_frozen BK396.out 5))
                            go_roundg k2
                            case measure => have := HJ1.out; have := HK2.out; omega
                            case rel => exact ⟨(wrap64 (x48_2 + 1)), (by first | rfl | (simp; done) | (simp [*]; done)), H', ⟨by have := HJ1.out; have := HK2.out; omega⟩, ⟨by (with_reducible repeat (first | apply Kd.R_alloc | apply Kd.R_drewN | apply Kd.R_drew)); exact Kd.R_mono (Kd.R_far (p := ⟨gb396, 5, none⟩) (Kd.R_far (p := ⟨gb396, 4, none⟩) (Kd.R_far (p := ⟨gb396, 3, none⟩) (Kd.R_far (p := ⟨gb396, 2, none⟩) (Kd.R_far (p := ⟨gb396, 1, none⟩) (Kd.R_far (p := ⟨gb396, 0, none⟩) (Kd.R_types HO_46.out BK396.out (by decide)) (fun _ hk => hk.2) (.int .i64 t389)) (fun _ hk => hk.2) (.int .i64 t390)) (fun _ hk => hk.2) (.int .i64 t391)) (fun _ hk => hk.2) (.int .i64 t392)) (fun _ hk => hk.2) (.int .i64 t393)) (fun _ hk => hk.2) (.string t394)) (fun _ hk => trivial)⟩, ⟨by (with_reducible repeat (first | refine blk_drewN ?_ _ | refine blk_drew ?_ | refine blk_alloc ?_ _)); refine blk_far ?_ NB384_396.out _; (with_reducible repeat (first | refine blk_drewN ?_ _ | refine blk_drew ?_ | refine blk_alloc ?_ _)); refine blk_far ?_ NB384_396.out _; (with_reducible repeat (first | refine blk_drewN ?_ _ | refine blk_drew ?_ | refine blk_alloc ?_ _)); refine blk_far ?_ NB384_396.out _; (with_reducible repeat (first | refine blk_drewN ?_ _ | refine blk_drew ?_ | refine blk_alloc ?_ _)); refine blk_far ?_ NB384_396.out _; (with_reducible repeat (first | refine blk_drewN ?_ _ | refine blk_drew ?_ | refine blk_alloc ?_ _)); refine blk_far ?_ NB384_396.out _; (with_reducible repeat (first | refine blk_drewN ?_ _ | refine blk_drew ?_ | refine blk_alloc ?_ _)); refine blk_far ?_ NB384_396.out _; (with_reducible repeat (first | refine blk_drewN ?_ _ | refine blk_drew ?_ | refine blk_alloc ?_ _)); exact BK384.out⟩, ⟨by repeat (first | (with_reducible first | exact HB.out | apply below_alloc | apply pw_below_drewN | apply below_drew1 | refine below_set ?_ GE384.out | refine below_set ?_ GE396.out) | exact HB.out)⟩⟩
                        · rw [if_neg c25] at H
                          exact absurd H (by simp)
                      · rw [if_neg c24] at H
                        exact absurd H (by simp)
                    · rw [if_neg c23] at H
                      have c23b0 : decide (x48_2 < (y385.length : Int)) = false := decide_eq_false c23
                      clear c23
                      replace H := Option.bind_eq_some_iff.mp H
                      obtain ⟨⟨t397, t398, t399, t400, t401, t402, t403⟩, A360, H⟩ := H
                      replace H : (if t383 = true then (if (t377 == 2 && (t378 == a0 && (t379 == 0 && (t380 == 0 && (t381 == 0 && (t382.toList == ([] : List UInt8))))))) = true then (if t403 = true then (some (t397 == 1 && (t398 == 0 && (t399 == 0 && (t400 == 0 && (t401 == 0 && (t402.toList == ([] : List UInt8)))))))) else (some false)) else (some false)) else (some false)) = some r := H
                      have A36 := Aside0.mk A360
                      clear A360
                      by_cases c37 : t383 = true
                      · subst c37
                        have H1 : (if (t377 == 2 && (t378 == a0 && (t379 == 0 && (t380 == 0 && (t381 == 0 && (t382.toList == ([] : List UInt8))))))) = true then (if t403 = true then (some (t397 == 1 && (t398 == 0 && (t399 == 0 && (t400 == 0 && (t401 == 0 && (t402.toList == ([] : List UInt8)))))))) else (some false)) else (some false)) = some r := by rw [if_pos rfl] at H; exact H
                        clear H
                        have H := H1
                        clear H1
                        by_cases c38 : (t377 == 2 && (t378 == a0 && (t379 == 0 && (t380 == 0 && (t381 == 0 && (t382.toList == ([] : List UInt8))))))) = true
                        · rw [if_pos c38] at H
                          have c38b0 : (t377 == 2 && (t378 == a0 && (t379 == 0 && (t380 == 0 && (t381 == 0 && (t382.toList == ([] : List UInt8))))))) = true := c38
                          have c38z : (t377 == 2 && (t378 == a0 && (t379 == 0 && (t380 == 0 && (t381 == 0 && t382.toList.isEmpty))))) = true := by simpa using c38b0
                          (try (have c38b1 : decide (t377 = 2 && (t378 == a0 && (t379 == 0 && (t380 == 0 && (t381 == 0 && (t382.toList == ([] : List UInt8))))))) = true := by simpa using c38))
                          (try (have c38b2 : (t377 == 2 && (t378 == a0 && (t379 == 0 && (t380 == 0 && (t381 == 0 && (t382.toList == ([] : List UInt8))))))) = true := by simpa using c38))
                          clear c38
                          by_cases c39 : t403 = true
                          · subst c39
                            have H1 : (some (t397 == 1 && (t398 == 0 && (t399 == 0 && (t400 == 0 && (t401 == 0 && (t402.toList == ([] : List UInt8)))))))) = some r := by rw [if_pos rfl] at H; exact H
                            clear H
                            have H := H1
                            clear H1
                            obtain rfl := Option.some.inj H
                            go_wp2_with (first | ((with_reducible refine gate_callee (f := 16) rfl ?_); refine goesL_ (some 60) rfl rfl Tryd.func16 (by kernel_rfl) rfl #[.string (⟨#[105, 110, 115, 101, 114, 116, 32, 45]⟩ : ByteArray)] rfl (by (try simp only [List.map_toArray, List.map_cons, List.map_nil]); first | done | rfl | (simp only [List.length_drop, List.length_take]; rfl)) ?_; (with_reducible refine (ask_Read.calls (⟨#[105, 110, 115, 101, 114, 116, 32, 45]⟩ : ByteArray) t397 t398 t399 t400 t401 t402 true _ A36.out).mono ?_); rintro e w40 ⟨rfl, hb⟩; refine ⟨_, rfl, ?_⟩; have n0_ := Aside0.mk (Kd.R_below (by (with_reducible repeat (first | apply Kd.R_alloc | apply Kd.R_drewN | apply Kd.R_drew)); exact HO_46.out) hb); have n1_ := Aside0.mk (blk_below (g := gb384) (o := .cells #[.int .i64 t377, .int .i64 t378, .int .i64 t379, .int .i64 t380, .int .i64 t381, .string t382] 23 (0, 0)) (by (with_reducible repeat (first | refine blk_drewN ?_ _ | refine blk_drew ?_ | refine blk_alloc ?_ _)); exact BK384.out) hb); have n2_ := Aside0.mk (below_step (by repeat (first | (with_reducible first | exact HB.out | apply below_alloc | apply pw_below_drewN | apply below_drew1 | refine below_set ?_ GE384.out) | exact HB.out)) hb); clear HO_46; clear BK384; clear HB; have HO_46 := n0_; have BK384 := n1_; have HB := n2_; clear n0_ n1_ n2_; (try clear hb); (try clear hb2); (try clear hk); (try clear hi)) | ((with_reducible refine gate_dst (N := 10) rfl ?_); refine box_event ?hg (N := 10) ?hd (cs := #[.int .i64 0, .int .i64 0, .int .i64 0, .int .i64 0, .int .i64 0, .string (⟨#[]⟩ : ByteArray)]) (t := 23) ?hr ?_; (case hd => rfl); (case hg => rfl); (case hr => first | (go_simp; done) | (go_simp; rfl)); intro gb404 hg w41 hbox hb; have n0_ := Aside0.mk (Kd.R_below (by (with_reducible repeat (first | apply Kd.R_alloc | apply Kd.R_drewN | apply Kd.R_drew)); exact HO_46.out) hb); have n1_ := Aside0.mk (blk_below (g := gb384) (o := .cells #[.int .i64 t377, .int .i64 t378, .int .i64 t379, .int .i64 t380, .int .i64 t381, .string t382] 23 (0, 0)) (by (with_reducible repeat (first | refine blk_drewN ?_ _ | refine blk_drew ?_ | refine blk_alloc ?_ _)); exact BK384.out) hb); have n2_ := Aside0.mk (below_step (by repeat (first | (with_reducible first | exact HB.out | apply below_alloc | apply pw_below_drewN | apply below_drew1 | refine below_set ?_ GE384.out) | exact HB.out)) hb); have n3_ := Aside0.mk (hbox); have n4_ := Aside0.mk ((by rw [hg]; exact (below_size (by repeat (first | (with_reducible first | exact HB.out | apply below_alloc | apply pw_below_drewN | apply below_drew1 | refine below_set ?_ GE384.out) | exact HB.out))) : w.heap.size ≤ gb404)); have n5_ := Aside0.mk ((by rw [hg]; exact (below_size (by repeat (first | (with_reducible first | exact HB.out | apply below_alloc | apply pw_below_drewN | apply below_drew1 | refine below_set ?_ GE384.out) | exact HB.out))) : w.heap.size ≤ gb404)); have n6_ := Aside0.mk ((by rw [hg]; exact Nat.ne_of_lt (blk_lt (g := gb384) (o := .cells #[.int .i64 t377, .int .i64 t378, .int .i64 t379, .int .i64 t380, .int .i64 t381, .string t382] 23 (0, 0)) (by (with_reducible repeat (first | refine blk_drewN ?_ _ | refine blk_drew ?_ | refine blk_alloc ?_ _)); exact BK384.out)) : gb384 ≠ gb404)); have n7_ := Aside0.mk ((by rw [hg]; exact Nat.ne_of_gt (blk_lt (g := gb384) (o := .cells #[.int .i64 t377, .int .i64 t378, .int .i64 t379, .int .i64 t380, .int .i64 t381, .string t382] 23 (0, 0)) (by (with_reducible repeat (first | refine blk_drewN ?_ _ | refine blk_drew ?_ | refine blk_alloc ?_ _)); exact BK384.out)) : gb404 ≠ gb384)); clear HO_46; clear BK384; clear HB; have HO_46 := n0_; have BK384 := n1_; have HB := n2_; have BK404 := n3_; have GW404 := n4_; have GE404 := n5_; have NB384_404 := n6_; have NB404_384 := n7_; clear n0_ n1_ n2_ n3_ n4_ n5_ n6_ n7_; clear hb hbox hg; have hnb42 := NB404_384.out; have hnc42 := NB384_404.out; have hcz43_0 : w41.cell? ⟨gb404, 0, none⟩ = some (.int .i64 0) := (blk_cell BK404.out 0).trans rfl; have hcz43_1 : w41.cell? ⟨gb404, 1, none⟩ = some (.int .i64 0) := (blk_cell BK404.out 1).trans rfl; have hcz43_2 : w41.cell? ⟨gb404, 2, none⟩ = some (.int .i64 0) := (blk_cell BK404.out 2).trans rfl; have hcz43_3 : w41.cell? ⟨gb404, 3, none⟩ = some (.int .i64 0) := (blk_cell BK404.out 3).trans rfl; have hcz43_4 : w41.cell? ⟨gb404, 4, none⟩ = some (.int .i64 0) := (blk_cell BK404.out 4).trans rfl; have hcz43_5 : w41.cell? ⟨gb404, 5, none⟩ = some (.string (⟨#[]⟩ : ByteArray)) := (blk_cell BK404.out 5).trans rfl; have hfz43_0 := blk_frozen BK404.out 0; have hfz43_1 := blk_frozen BK404.out 1; have hfz43_2 := blk_frozen BK404.out 2; have hfz43_3 := blk_frozen BK404.out 3; have hfz43_4 := blk_frozen BK404.out 4; have hfz43_5 := blk_frozen BK404.out 5; have hcz44_0 : w41.cell? ⟨gb384, 0, none⟩ = some (.int .i64 t377) := (blk_cell BK384.out 0).trans rfl; have hcz44_1 : w41.cell? ⟨gb384, 1, none⟩ = some (.int .i64 t378) := (blk_cell BK384.out 1).trans rfl; have hcz44_2 : w41.cell? ⟨gb384, 2, none⟩ = some (.int .i64 t379) := (blk_cell BK384.out 2).trans rfl; have hcz44_3 : w41.cell? ⟨gb384, 3, none⟩ = some (.int .i64 t380) := (blk_cell BK384.out 3).trans rfl; have hcz44_4 : w41.cell? ⟨gb384, 4, none⟩ = some (.int .i64 t381) := (blk_cell BK384.out 4).trans rfl; have hcz44_5 : w41.cell? ⟨gb384, 5, none⟩ = some (.string t382) := (blk_cell BK384.out 5).trans rfl; have hfz44_0 := blk_frozen BK384.out 0; have hfz44_1 := blk_frozen BK384.out 1; have hfz44_2 := blk_frozen BK384.out 2; have hfz44_3 := blk_frozen BK384.out 3; have hfz44_4 := blk_frozen BK384.out 4; have hfz44_5 := blk_frozen BK384.out 5))
                            go_ret
                            exact ⟨by first | rfl | (simp [errW_none, errW_some] <;> rfl) | (simp [*, errW_none, errW_some] <;> rfl), by repeat (first | (with_reducible first | exact HB.out | apply below_alloc | apply pw_below_drewN | apply below_drew1 | refine below_set ?_ GE384.out | refine below_set ?_ GE404.out) | exact HB.out)⟩
                          · replace c39 := Bool.eq_false_iff.mpr c39
                            subst c39
                            have H1 : (some false) = some r := by rw [if_neg (show ¬ (false = true) by decide)] at H; exact H
                            clear H
                            have H := H1
                            clear H1
                            obtain rfl := Option.some.inj H
                            go_wp2_with (first | ((with_reducible refine gate_callee (f := 16) rfl ?_); refine goesL_ (some 60) rfl rfl Tryd.func16 (by kernel_rfl) rfl #[.string (⟨#[105, 110, 115, 101, 114, 116, 32, 45]⟩ : ByteArray)] rfl (by (try simp only [List.map_toArray, List.map_cons, List.map_nil]); first | done | rfl | (simp only [List.length_drop, List.length_take]; rfl)) ?_; (with_reducible refine (ask_Read.calls (⟨#[105, 110, 115, 101, 114, 116, 32, 45]⟩ : ByteArray) t397 t398 t399 t400 t401 t402 false _ A36.out).mono ?_); rintro e w45 ⟨rfl, hb⟩; refine ⟨_, rfl, ?_⟩; have n0_ := Aside0.mk (Kd.R_below (by (with_reducible repeat (first | apply Kd.R_alloc | apply Kd.R_drewN | apply Kd.R_drew)); exact HO_46.out) hb); have n1_ := Aside0.mk (blk_below (g := gb384) (o := .cells #[.int .i64 t377, .int .i64 t378, .int .i64 t379, .int .i64 t380, .int .i64 t381, .string t382] 23 (0, 0)) (by (with_reducible repeat (first | refine blk_drewN ?_ _ | refine blk_drew ?_ | refine blk_alloc ?_ _)); exact BK384.out) hb); have n2_ := Aside0.mk (below_step (by repeat (first | (with_reducible first | exact HB.out | apply below_alloc | apply pw_below_drewN | apply below_drew1 | refine below_set ?_ GE384.out) | exact HB.out)) hb); clear HO_46; clear BK384; clear HB; have HO_46 := n0_; have BK384 := n1_; have HB := n2_; clear n0_ n1_ n2_; (try clear hb); (try clear hb2); (try clear hk); (try clear hi)) | ((with_reducible refine gate_dst (N := 10) rfl ?_); refine box_event ?hg (N := 10) ?hd (cs := #[.int .i64 0, .int .i64 0, .int .i64 0, .int .i64 0, .int .i64 0, .string (⟨#[]⟩ : ByteArray)]) (t := 23) ?hr ?_; (case hd => rfl); (case hg => rfl); (case hr => first | (go_simp; done) | (go_simp; rfl)); intro gb404 hg w46 hbox hb; have n0_ := Aside0.mk (Kd.R_below (by (with_reducible repeat (first | apply Kd.R_alloc | apply Kd.R_drewN | apply Kd.R_drew)); exact HO_46.out) hb); have n1_ := Aside0.mk (blk_below (g := gb384) (o := .cells #[.int .i64 t377, .int .i64 t378, .int .i64 t379, .int .i64 t380, .int .i64 t381, .string t382] 23 (0, 0)) (by (with_reducible repeat (first | refine blk_drewN ?_ _ | refine blk_drew ?_ | refine blk_alloc ?_ _)); exact BK384.out) hb); have n2_ := Aside0.mk (below_step (by repeat (first | (with_reducible first | exact HB.out | apply below_alloc | apply pw_below_drewN | apply below_drew1 | refine below_set ?_ GE384.out) | exact HB.out)) hb); have n3_ := Aside0.mk (hbox); have n4_ := Aside0.mk ((by rw [hg]; exact (below_size (by repeat (first | (with_reducible first | exact HB.out | apply below_alloc | apply pw_below_drewN | apply below_drew1 | refine below_set ?_ GE384.out) | exact HB.out))) : w.heap.size ≤ gb404)); have n5_ := Aside0.mk ((by rw [hg]; exact (below_size (by repeat (first | (with_reducible first | exact HB.out | apply below_alloc | apply pw_below_drewN | apply below_drew1 | refine below_set ?_ GE384.out) | exact HB.out))) : w.heap.size ≤ gb404)); have n6_ := Aside0.mk ((by rw [hg]; exact Nat.ne_of_lt (blk_lt (g := gb384) (o := .cells #[.int .i64 t377, .int .i64 t378, .int .i64 t379, .int .i64 t380, .int .i64 t381, .string t382] 23 (0, 0)) (by (with_reducible repeat (first | refine blk_drewN ?_ _ | refine blk_drew ?_ | refine blk_alloc ?_ _)); exact BK384.out)) : gb384 ≠ gb404)); have n7_ := Aside0.mk ((by rw [hg]; exact Nat.ne_of_gt (blk_lt (g := gb384) (o := .cells #[.int .i64 t377, .int .i64 t378, .int .i64 t379, .int .i64 t380, .int .i64 t381, .string t382] 23 (0, 0)) (by (with_reducible repeat (first | refine blk_drewN ?_ _ | refine blk_drew ?_ | refine blk_alloc ?_ _)); exact BK384.out)) : gb404 ≠ gb384)); clear HO_46; clear BK384; clear HB; have HO_46 := n0_; have BK384 := n1_; have HB := n2_; have BK404 := n3_; have GW404 := n4_; have GE404 := n5_; have NB384_404 := n6_; have NB404_384 := n7_; clear n0_ n1_ n2_ n3_ n4_ n5_ n6_ n7_; clear hb hbox hg; have hnb47 := NB404_384.out; have hnc47 := NB384_404.out; have hcz48_0 : w46.cell? ⟨gb404, 0, none⟩ = some (.int .i64 0) := (blk_cell BK404.out 0).trans rfl; have hcz48_1 : w46.cell? ⟨gb404, 1, none⟩ = some (.int .i64 0) := (blk_cell BK404.out 1).trans rfl; have hcz48_2 : w46.cell? ⟨gb404, 2, none⟩ = some (.int .i64 0) := (blk_cell BK404.out 2).trans rfl; have hcz48_3 : w46.cell? ⟨gb404, 3, none⟩ = some (.int .i64 0) := (blk_cell BK404.out 3).trans rfl; have hcz48_4 : w46.cell? ⟨gb404, 4, none⟩ = some (.int .i64 0) := (blk_cell BK404.out 4).trans rfl; have hcz48_5 : w46.cell? ⟨gb404, 5, none⟩ = some (.string (⟨#[]⟩ : ByteArray)) := (blk_cell BK404.out 5).trans rfl; have hfz48_0 := blk_frozen BK404.out 0; have hfz48_1 := blk_frozen BK404.out 1; have hfz48_2 := blk_frozen BK404.out 2; have hfz48_3 := blk_frozen BK404.out 3; have hfz48_4 := blk_frozen BK404.out 4; have hfz48_5 := blk_frozen BK404.out 5; have hcz49_0 : w46.cell? ⟨gb384, 0, none⟩ = some (.int .i64 t377) := (blk_cell BK384.out 0).trans rfl; have hcz49_1 : w46.cell? ⟨gb384, 1, none⟩ = some (.int .i64 t378) := (blk_cell BK384.out 1).trans rfl; have hcz49_2 : w46.cell? ⟨gb384, 2, none⟩ = some (.int .i64 t379) := (blk_cell BK384.out 2).trans rfl; have hcz49_3 : w46.cell? ⟨gb384, 3, none⟩ = some (.int .i64 t380) := (blk_cell BK384.out 3).trans rfl; have hcz49_4 : w46.cell? ⟨gb384, 4, none⟩ = some (.int .i64 t381) := (blk_cell BK384.out 4).trans rfl; have hcz49_5 : w46.cell? ⟨gb384, 5, none⟩ = some (.string t382) := (blk_cell BK384.out 5).trans rfl; have hfz49_0 := blk_frozen BK384.out 0; have hfz49_1 := blk_frozen BK384.out 1; have hfz49_2 := blk_frozen BK384.out 2; have hfz49_3 := blk_frozen BK384.out 3; have hfz49_4 := blk_frozen BK384.out 4; have hfz49_5 := blk_frozen BK384.out 5))
                            go_ret
                            exact ⟨by first | rfl | (simp [errW_none, errW_some] <;> rfl) | (simp [*, errW_none, errW_some] <;> rfl), by repeat (first | (with_reducible first | exact HB.out | apply below_alloc | apply pw_below_drewN | apply below_drew1 | refine below_set ?_ GE384.out | refine below_set ?_ GE404.out) | exact HB.out)⟩
                        · rw [if_neg c38] at H
                          have c38b0 : (t377 == 2 && (t378 == a0 && (t379 == 0 && (t380 == 0 && (t381 == 0 && (t382.toList == ([] : List UInt8))))))) = false := by simpa using c38
                          have c38z : (t377 == 2 && (t378 == a0 && (t379 == 0 && (t380 == 0 && (t381 == 0 && t382.toList.isEmpty))))) = false := by simpa using c38b0
                          (try (have c38b1 : decide (t377 = 2 && (t378 == a0 && (t379 == 0 && (t380 == 0 && (t381 == 0 && (t382.toList == ([] : List UInt8))))))) = false := by simpa using c38))
                          (try (have c38b2 : (t377 == 2 && (t378 == a0 && (t379 == 0 && (t380 == 0 && (t381 == 0 && (t382.toList == ([] : List UInt8))))))) = false := by simpa using c38))
                          (try (have c38b3 : ¬ (t377 = 2 && (t378 == a0 && (t379 == 0 && (t380 == 0 && (t381 == 0 && (t382.toList == ([] : List UInt8))))))) := by simpa using c38))
                          clear c38
                          obtain rfl := Option.some.inj H
                          go_wp2_with (first | ((with_reducible refine gate_callee (f := 16) rfl ?_); refine goesL_ (some 60) rfl rfl Tryd.func16 (by kernel_rfl) rfl #[.string (⟨#[105, 110, 115, 101, 114, 116, 32, 45]⟩ : ByteArray)] rfl (by (try simp only [List.map_toArray, List.map_cons, List.map_nil]); first | done | rfl | (simp only [List.length_drop, List.length_take]; rfl)) ?_; (with_reducible refine (ask_Read.calls (⟨#[105, 110, 115, 101, 114, 116, 32, 45]⟩ : ByteArray) t397 t398 t399 t400 t401 t402 t403 _ A36.out).mono ?_); rintro e w50 ⟨rfl, hb⟩; refine ⟨_, rfl, ?_⟩; have n0_ := Aside0.mk (Kd.R_below (by (with_reducible repeat (first | apply Kd.R_alloc | apply Kd.R_drewN | apply Kd.R_drew)); exact HO_46.out) hb); have n1_ := Aside0.mk (blk_below (g := gb384) (o := .cells #[.int .i64 t377, .int .i64 t378, .int .i64 t379, .int .i64 t380, .int .i64 t381, .string t382] 23 (0, 0)) (by (with_reducible repeat (first | refine blk_drewN ?_ _ | refine blk_drew ?_ | refine blk_alloc ?_ _)); exact BK384.out) hb); have n2_ := Aside0.mk (below_step (by repeat (first | (with_reducible first | exact HB.out | apply below_alloc | apply pw_below_drewN | apply below_drew1 | refine below_set ?_ GE384.out) | exact HB.out)) hb); clear HO_46; clear BK384; clear HB; have HO_46 := n0_; have BK384 := n1_; have HB := n2_; clear n0_ n1_ n2_; (try clear hb); (try clear hb2); (try clear hk); (try clear hi)) | ((with_reducible refine gate_dst (N := 10) rfl ?_); refine box_event ?hg (N := 10) ?hd (cs := #[.int .i64 0, .int .i64 0, .int .i64 0, .int .i64 0, .int .i64 0, .string (⟨#[]⟩ : ByteArray)]) (t := 23) ?hr ?_; (case hd => rfl); (case hg => rfl); (case hr => first | (go_simp; done) | (go_simp; rfl)); intro gb404 hg w51 hbox hb; have n0_ := Aside0.mk (Kd.R_below (by (with_reducible repeat (first | apply Kd.R_alloc | apply Kd.R_drewN | apply Kd.R_drew)); exact HO_46.out) hb); have n1_ := Aside0.mk (blk_below (g := gb384) (o := .cells #[.int .i64 t377, .int .i64 t378, .int .i64 t379, .int .i64 t380, .int .i64 t381, .string t382] 23 (0, 0)) (by (with_reducible repeat (first | refine blk_drewN ?_ _ | refine blk_drew ?_ | refine blk_alloc ?_ _)); exact BK384.out) hb); have n2_ := Aside0.mk (below_step (by repeat (first | (with_reducible first | exact HB.out | apply below_alloc | apply pw_below_drewN | apply below_drew1 | refine below_set ?_ GE384.out) | exact HB.out)) hb); have n3_ := Aside0.mk (hbox); have n4_ := Aside0.mk ((by rw [hg]; exact (below_size (by repeat (first | (with_reducible first | exact HB.out | apply below_alloc | apply pw_below_drewN | apply below_drew1 | refine below_set ?_ GE384.out) | exact HB.out))) : w.heap.size ≤ gb404)); have n5_ := Aside0.mk ((by rw [hg]; exact (below_size (by repeat (first | (with_reducible first | exact HB.out | apply below_alloc | apply pw_below_drewN | apply below_drew1 | refine below_set ?_ GE384.out) | exact HB.out))) : w.heap.size ≤ gb404)); have n6_ := Aside0.mk ((by rw [hg]; exact Nat.ne_of_lt (blk_lt (g := gb384) (o := .cells #[.int .i64 t377, .int .i64 t378, .int .i64 t379, .int .i64 t380, .int .i64 t381, .string t382] 23 (0, 0)) (by (with_reducible repeat (first | refine blk_drewN ?_ _ | refine blk_drew ?_ | refine blk_alloc ?_ _)); exact BK384.out)) : gb384 ≠ gb404)); have n7_ := Aside0.mk ((by rw [hg]; exact Nat.ne_of_gt (blk_lt (g := gb384) (o := .cells #[.int .i64 t377, .int .i64 t378, .int .i64 t379, .int .i64 t380, .int .i64 t381, .string t382] 23 (0, 0)) (by (with_reducible repeat (first | refine blk_drewN ?_ _ | refine blk_drew ?_ | refine blk_alloc ?_ _)); exact BK384.out)) : gb404 ≠ gb384)); clear HO_46; clear BK384; clear HB; have HO_46 := n0_; have BK384 := n1_; have HB := n2_; have BK404 := n3_; have GW404 := n4_; have GE404 := n5_; have NB384_404 := n6_; have NB404_384 := n7_; clear n0_ n1_ n2_ n3_ n4_ n5_ n6_ n7_; clear hb hbox hg; have hnb52 := NB404_384.out; have hnc52 := NB384_404.out; have hcz53_0 : w51.cell? ⟨gb404, 0, none⟩ = some (.int .i64 0) := (blk_cell BK404.out 0).trans rfl; have hcz53_1 : w51.cell? ⟨gb404, 1, none⟩ = some (.int .i64 0) := (blk_cell BK404.out 1).trans rfl; have hcz53_2 : w51.cell? ⟨gb404, 2, none⟩ = some (.int .i64 0) := (blk_cell BK404.out 2).trans rfl; have hcz53_3 : w51.cell? ⟨gb404, 3, none⟩ = some (.int .i64 0) := (blk_cell BK404.out 3).trans rfl; have hcz53_4 : w51.cell? ⟨gb404, 4, none⟩ = some (.int .i64 0) := (blk_cell BK404.out 4).trans rfl; have hcz53_5 : w51.cell? ⟨gb404, 5, none⟩ = some (.string (⟨#[]⟩ : ByteArray)) := (blk_cell BK404.out 5).trans rfl; have hfz53_0 := blk_frozen BK404.out 0; have hfz53_1 := blk_frozen BK404.out 1; have hfz53_2 := blk_frozen BK404.out 2; have hfz53_3 := blk_frozen BK404.out 3; have hfz53_4 := blk_frozen BK404.out 4; have hfz53_5 := blk_frozen BK404.out 5; have hcz54_0 : w51.cell? ⟨gb384, 0, none⟩ = some (.int .i64 t377) := (blk_cell BK384.out 0).trans rfl; have hcz54_1 : w51.cell? ⟨gb384, 1, none⟩ = some (.int .i64 t378) := (blk_cell BK384.out 1).trans rfl; have hcz54_2 : w51.cell? ⟨gb384, 2, none⟩ = some (.int .i64 t379) := (blk_cell BK384.out 2).trans rfl; have hcz54_3 : w51.cell? ⟨gb384, 3, none⟩ = some (.int .i64 t380) := (blk_cell BK384.out 3).trans rfl; have hcz54_4 : w51.cell? ⟨gb384, 4, none⟩ = some (.int .i64 t381) := (blk_cell BK384.out 4).trans rfl; have hcz54_5 : w51.cell? ⟨gb384, 5, none⟩ = some (.string t382) := (blk_cell BK384.out 5).trans rfl; have hfz54_0 := blk_frozen BK384.out 0; have hfz54_1 := blk_frozen BK384.out 1; have hfz54_2 := blk_frozen BK384.out 2; have hfz54_3 := blk_frozen BK384.out 3; have hfz54_4 := blk_frozen BK384.out 4; have hfz54_5 := blk_frozen BK384.out 5))
                          go_ret
                          exact ⟨by first | rfl | (simp [errW_none, errW_some] <;> rfl) | (simp [*, errW_none, errW_some] <;> rfl), by repeat (first | (with_reducible first | exact HB.out | apply below_alloc | apply pw_below_drewN | apply below_drew1 | refine below_set ?_ GE384.out | refine below_set ?_ GE404.out) | exact HB.out)⟩
                      · replace c37 := Bool.eq_false_iff.mpr c37
                        subst c37
                        have H1 : (some false) = some r := by rw [if_neg (show ¬ (false = true) by decide)] at H; exact H
                        clear H
                        have H := H1
                        clear H1
                        obtain rfl := Option.some.inj H
                        go_wp2_with (first | ((with_reducible refine gate_callee (f := 16) rfl ?_); refine goesL_ (some 60) rfl rfl Tryd.func16 (by kernel_rfl) rfl #[.string (⟨#[105, 110, 115, 101, 114, 116, 32, 45]⟩ : ByteArray)] rfl (by (try simp only [List.map_toArray, List.map_cons, List.map_nil]); first | done | rfl | (simp only [List.length_drop, List.length_take]; rfl)) ?_; (with_reducible refine (ask_Read.calls (⟨#[105, 110, 115, 101, 114, 116, 32, 45]⟩ : ByteArray) t397 t398 t399 t400 t401 t402 t403 _ A36.out).mono ?_); rintro e w55 ⟨rfl, hb⟩; refine ⟨_, rfl, ?_⟩; have n0_ := Aside0.mk (Kd.R_below (by (with_reducible repeat (first | apply Kd.R_alloc | apply Kd.R_drewN | apply Kd.R_drew)); exact HO_46.out) hb); have n1_ := Aside0.mk (blk_below (g := gb384) (o := .cells #[.int .i64 t377, .int .i64 t378, .int .i64 t379, .int .i64 t380, .int .i64 t381, .string t382] 23 (0, 0)) (by (with_reducible repeat (first | refine blk_drewN ?_ _ | refine blk_drew ?_ | refine blk_alloc ?_ _)); exact BK384.out) hb); have n2_ := Aside0.mk (below_step (by repeat (first | (with_reducible first | exact HB.out | apply below_alloc | apply pw_below_drewN | apply below_drew1 | refine below_set ?_ GE384.out) | exact HB.out)) hb); clear HO_46; clear BK384; clear HB; have HO_46 := n0_; have BK384 := n1_; have HB := n2_; clear n0_ n1_ n2_; (try clear hb); (try clear hb2); (try clear hk); (try clear hi)) | ((with_reducible refine gate_dst (N := 10) rfl ?_); refine box_event ?hg (N := 10) ?hd (cs := #[.int .i64 0, .int .i64 0, .int .i64 0, .int .i64 0, .int .i64 0, .string (⟨#[]⟩ : ByteArray)]) (t := 23) ?hr ?_; (case hd => rfl); (case hg => rfl); (case hr => first | (go_simp; done) | (go_simp; rfl)); intro gb404 hg w56 hbox hb; have n0_ := Aside0.mk (Kd.R_below (by (with_reducible repeat (first | apply Kd.R_alloc | apply Kd.R_drewN | apply Kd.R_drew)); exact HO_46.out) hb); have n1_ := Aside0.mk (blk_below (g := gb384) (o := .cells #[.int .i64 t377, .int .i64 t378, .int .i64 t379, .int .i64 t380, .int .i64 t381, .string t382] 23 (0, 0)) (by (with_reducible repeat (first | refine blk_drewN ?_ _ | refine blk_drew ?_ | refine blk_alloc ?_ _)); exact BK384.out) hb); have n2_ := Aside0.mk (below_step (by repeat (first | (with_reducible first | exact HB.out | apply below_alloc | apply pw_below_drewN | apply below_drew1 | refine below_set ?_ GE384.out) | exact HB.out)) hb); have n3_ := Aside0.mk (hbox); have n4_ := Aside0.mk ((by rw [hg]; exact (below_size (by repeat (first | (with_reducible first | exact HB.out | apply below_alloc | apply pw_below_drewN | apply below_drew1 | refine below_set ?_ GE384.out) | exact HB.out))) : w.heap.size ≤ gb404)); have n5_ := Aside0.mk ((by rw [hg]; exact (below_size (by repeat (first | (with_reducible first | exact HB.out | apply below_alloc | apply pw_below_drewN | apply below_drew1 | refine below_set ?_ GE384.out) | exact HB.out))) : w.heap.size ≤ gb404)); have n6_ := Aside0.mk ((by rw [hg]; exact Nat.ne_of_lt (blk_lt (g := gb384) (o := .cells #[.int .i64 t377, .int .i64 t378, .int .i64 t379, .int .i64 t380, .int .i64 t381, .string t382] 23 (0, 0)) (by (with_reducible repeat (first | refine blk_drewN ?_ _ | refine blk_drew ?_ | refine blk_alloc ?_ _)); exact BK384.out)) : gb384 ≠ gb404)); have n7_ := Aside0.mk ((by rw [hg]; exact Nat.ne_of_gt (blk_lt (g := gb384) (o := .cells #[.int .i64 t377, .int .i64 t378, .int .i64 t379, .int .i64 t380, .int .i64 t381, .string t382] 23 (0, 0)) (by (with_reducible repeat (first | refine blk_drewN ?_ _ | refine blk_drew ?_ | refine blk_alloc ?_ _)); exact BK384.out)) : gb404 ≠ gb384)); clear HO_46; clear BK384; clear HB; have HO_46 := n0_; have BK384 := n1_; have HB := n2_; have BK404 := n3_; have GW404 := n4_; have GE404 := n5_; have NB384_404 := n6_; have NB404_384 := n7_; clear n0_ n1_ n2_ n3_ n4_ n5_ n6_ n7_; clear hb hbox hg; have hnb57 := NB404_384.out; have hnc57 := NB384_404.out; have hcz58_0 : w56.cell? ⟨gb404, 0, none⟩ = some (.int .i64 0) := (blk_cell BK404.out 0).trans rfl; have hcz58_1 : w56.cell? ⟨gb404, 1, none⟩ = some (.int .i64 0) := (blk_cell BK404.out 1).trans rfl; have hcz58_2 : w56.cell? ⟨gb404, 2, none⟩ = some (.int .i64 0) := (blk_cell BK404.out 2).trans rfl; have hcz58_3 : w56.cell? ⟨gb404, 3, none⟩ = some (.int .i64 0) := (blk_cell BK404.out 3).trans rfl; have hcz58_4 : w56.cell? ⟨gb404, 4, none⟩ = some (.int .i64 0) := (blk_cell BK404.out 4).trans rfl; have hcz58_5 : w56.cell? ⟨gb404, 5, none⟩ = some (.string (⟨#[]⟩ : ByteArray)) := (blk_cell BK404.out 5).trans rfl; have hfz58_0 := blk_frozen BK404.out 0; have hfz58_1 := blk_frozen BK404.out 1; have hfz58_2 := blk_frozen BK404.out 2; have hfz58_3 := blk_frozen BK404.out 3; have hfz58_4 := blk_frozen BK404.out 4; have hfz58_5 := blk_frozen BK404.out 5))
                        go_ret
                        exact ⟨by first | rfl | (simp [errW_none, errW_some] <;> rfl) | (simp [*, errW_none, errW_some] <;> rfl), by repeat (first | (with_reducible first | exact HB.out | apply below_alloc | apply pw_below_drewN | apply below_drew1 | refine below_set ?_ GE384.out | refine below_set ?_ GE404.out) | exact HB.out)⟩
              · rw [if_neg c15] at H
                exact absurd H (by simp)
            · rw [if_neg c14] at H
              exact absurd H (by simp)
          · rw [if_neg c13] at H
            exact absurd H (by simp)
        · rw [if_neg c11] at H
          exact absurd H (by simp)

/-- THE ONE PURE STATEMENT of scriniumlaw20_AskWords: yours. -/
def scriniumlaw20_AskWords.Pure : Prop := ∀ (a0 : Int), (Lit.int .i64 a0).wf = true → ∃ k, scriniumlaw20_AskWords.f k a0 = some true
theorem scriniumlaw20_AskWords.walk (P : scriniumlaw20_AskWords.Pure) (a0 : Int) (w : World) (w0 : (Lit.int .i64 a0).wf = true) :
    Calls Tryd.prog 9 #[.int .i64 a0] w fun e w' => e = .returned (.bool true) ∧ Below w.heap.size w w' := by
  obtain ⟨k, h⟩ := P a0 w0
  refine (scriniumlaw20_AskWords.calls k a0 true w h).mono ?_
  rintro e w' ⟨rfl, hd⟩
  exact ⟨rfl, hd⟩

end Go.Proofs.YtbmjekekpmabbaaDoor.P
