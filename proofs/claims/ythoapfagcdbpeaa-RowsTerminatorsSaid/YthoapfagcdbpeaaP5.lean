-- Printed by myprint.py (a program of this session's, over the kit's print): P
import Derived.Test.YthoapfagcdbpeaaP0
import Derived.Test.YthoapfagcdbpeaaP2
import Derived.Test.YthoapfagcdbpeaaP3
import Derived.Test.YthoapfagcdbpeaaRowsA
import Derived.Test.YthoapfagcdbpeaaRowsB
namespace Go.Proofs.Ythoapfagcdbpeaa.P
open Go.RowKit Go.Proofs.YthoapfagcdbpeaaW.PrintWords Go.Proofs.YthoapfagcdbpeaaW.PrintLast Go.Proofs.YthoapfagcdbpeaaW.PrintMore
attribute [local go_sem] max2_int min2_int max_two min_two max_three min_three max_four min_four   -- for this text's walks alone
set_option linter.unusedVariables false
set_option linter.unusedSimpArgs false

/-! ### scriniumlaw3_RowsTerminators: function 5 -/
mutual
def scriniumlaw3_RowsTerminators.j0 : Nat → List ByteArray → Bool → Option (Bool)
  | 0, _, _ => none
  | k + 1, x0, x20 => if x20 = true then ((scriniumlaw3_alive.f k).bind fun t162 => (some t162)) else ((rows_Sorted.f x0).bind fun t163 => ((rows_Symbols.f k x0).bind fun t166 => (scriniumlaw3_RowsTerminators.l0 k x0 t163 t166 (x0.length : Int) (x0.length : Int) 0)))
def scriniumlaw3_RowsTerminators.l0 : Nat → List ByteArray → List (S24) → List Int → Int → Int → Int → Option (Bool)
  | 0, _, _, _, _, _, _ => none
  | k + 1, x0, x3, x4, x5, x29, x30 => if x30 < x29 then (if 0 ≤ x30 then (if x30 < (x0.length : Int) then (scriniumlaw3_RowsTerminators.l0 k x0 x3 x4 (wrap64 (x5 + ((rdOf ByteArray.empty x0 x30).size : Int))) x29 (wrap64 (x30 + 1))) else (none)) else (none)) else (if (x3.length : Int) = x5 then (scriniumlaw3_RowsTerminators.j2 k x0 x3 x4 ((x4.length : Int) != x5)) else (scriniumlaw3_RowsTerminators.j2 k x0 x3 x4 true))
def scriniumlaw3_RowsTerminators.j2 : Nat → List ByteArray → List (S24) → List Int → Bool → Option (Bool)
  | 0, _, _, _, _ => none
  | k + 1, x0, x3, x4, x50 => if x50 = true then (some false) else (scriniumlaw3_RowsTerminators.l1 k x0 x3 x4 0 (x3.length : Int) 0)
def scriniumlaw3_RowsTerminators.l1 : Nat → List ByteArray → List (S24) → List Int → Int → Int → Int → Option (Bool)
  | 0, _, _, _, _, _, _ => none
  | k + 1, x0, x3, x4, x7, x52, x53 => if x53 < x52 then (if 0 ≤ x53 then (if x53 < (x3.length : Int) then (if ((rd_T24 x3 x53).f0) < 0 then (scriniumlaw3_RowsTerminators.j4 k x0 x3 x4 x7 x53 x52 x53 true) else (scriniumlaw3_RowsTerminators.j4 k x0 x3 x4 x7 x53 x52 x53 (decide (((rd_T24 x3 x53).f0) ≥ (x0.length : Int))))) else (none)) else (none)) else (some (x7 == (x0.length : Int)))
def scriniumlaw3_RowsTerminators.j4 : Nat → List ByteArray → List (S24) → List Int → Int → Int → Int → Int → Bool → Option (Bool)
  | 0, _, _, _, _, _, _, _, _ => none
  | k + 1, x0, x3, x4, x7, x8, x52, x53, x71 => if x71 = true then (some false) else (if 0 ≤ x8 then (if x8 < (x3.length : Int) then (if 0 ≤ ((rd_T24 x3 x8).f0) then (if ((rd_T24 x3 x8).f0) < (x0.length : Int) then (if ((decide (x8 < (x0.length : Int))) != (((rd_T24 x3 x8).f1) == ((rdOf ByteArray.empty x0 ((rd_T24 x3 x8).f0)).size : Int))) = true then (scriniumlaw3_RowsTerminators.j5 k x0 x3 x4 x7 x8 x52 x53 true) else (if x8 < (x0.length : Int) then (scriniumlaw3_RowsTerminators.j5 k x0 x3 x4 x7 x8 x52 x53 (((rd_T24 x3 x8).f0) != x8)) else (scriniumlaw3_RowsTerminators.j5 k x0 x3 x4 x7 x8 x52 x53 false))) else (none)) else (none)) else (none)) else (none))
def scriniumlaw3_RowsTerminators.j5 : Nat → List ByteArray → List (S24) → List Int → Int → Int → Int → Int → Bool → Option (Bool)
  | 0, _, _, _, _, _, _, _, _ => none
  | k + 1, x0, x3, x4, x7, x8, x52, x53, x106 => if x106 = true then (some false) else (if 0 ≤ x8 then (if x8 < (x4.length : Int) then (if (rd x4 x8) = 0 then (scriniumlaw3_RowsTerminators.l1 k x0 x3 x4 (wrap64 (x7 + 1)) x52 (wrap64 (x53 + 1))) else (scriniumlaw3_RowsTerminators.l1 k x0 x3 x4 x7 x52 (wrap64 (x53 + 1)))) else (none)) else (none))
end
def scriniumlaw3_RowsTerminators.f (k : Nat) (l0 : List ByteArray) : Option (Bool) := (scriniumlaw3_Few.f k l0).bind fun t159 => (if t159 = true then ((rows_Right.f l0).bind fun t160 => (if t160 = true then ((scriniumlaw3_alive.f k).bind fun t161 => (scriniumlaw3_RowsTerminators.j0 k l0 (!t161))) else (scriniumlaw3_RowsTerminators.j0 k l0 true))) else (scriniumlaw3_RowsTerminators.j0 k l0 true))
theorem scriniumlaw3_RowsTerminators.mono_l : ∀ k, (∀ y0 y1, LeO (scriniumlaw3_RowsTerminators.j0 k y0 y1) (scriniumlaw3_RowsTerminators.j0 (k + 1) y0 y1)) ∧ (∀ y0 y1 y2 y3 y4 y5, LeO (scriniumlaw3_RowsTerminators.l0 k y0 y1 y2 y3 y4 y5) (scriniumlaw3_RowsTerminators.l0 (k + 1) y0 y1 y2 y3 y4 y5)) ∧ (∀ y0 y1 y2 y3, LeO (scriniumlaw3_RowsTerminators.j2 k y0 y1 y2 y3) (scriniumlaw3_RowsTerminators.j2 (k + 1) y0 y1 y2 y3)) ∧ (∀ y0 y1 y2 y3 y4 y5, LeO (scriniumlaw3_RowsTerminators.l1 k y0 y1 y2 y3 y4 y5) (scriniumlaw3_RowsTerminators.l1 (k + 1) y0 y1 y2 y3 y4 y5)) ∧ (∀ y0 y1 y2 y3 y4 y5 y6 y7, LeO (scriniumlaw3_RowsTerminators.j4 k y0 y1 y2 y3 y4 y5 y6 y7) (scriniumlaw3_RowsTerminators.j4 (k + 1) y0 y1 y2 y3 y4 y5 y6 y7)) ∧ (∀ y0 y1 y2 y3 y4 y5 y6 y7, LeO (scriniumlaw3_RowsTerminators.j5 k y0 y1 y2 y3 y4 y5 y6 y7) (scriniumlaw3_RowsTerminators.j5 (k + 1) y0 y1 y2 y3 y4 y5 y6 y7))
  | 0 => ⟨fun _ _ r h => by simp [scriniumlaw3_RowsTerminators.j0] at h, fun _ _ _ _ _ _ r h => by simp [scriniumlaw3_RowsTerminators.l0] at h, fun _ _ _ _ r h => by simp [scriniumlaw3_RowsTerminators.j2] at h, fun _ _ _ _ _ _ r h => by simp [scriniumlaw3_RowsTerminators.l1] at h, fun _ _ _ _ _ _ _ _ r h => by simp [scriniumlaw3_RowsTerminators.j4] at h, fun _ _ _ _ _ _ _ _ r h => by simp [scriniumlaw3_RowsTerminators.j5] at h⟩
  | k + 1 => by
    obtain ⟨ih0, ih1, ih2, ih3, ih4, ih5⟩ := scriniumlaw3_RowsTerminators.mono_l k
    refine ⟨?_, ?_, ?_, ?_, ?_, ?_⟩
    · intro y0 y1
      unfold scriniumlaw3_RowsTerminators.j0
      repeat' first
      | (with_reducible exact ih0 _ _)
      | (with_reducible exact ih1 _ _ _ _ _ _)
      | (with_reducible exact ih2 _ _ _ _)
      | (with_reducible exact ih3 _ _ _ _ _ _)
      | (with_reducible exact ih4 _ _ _ _ _ _ _ _)
      | (with_reducible exact ih5 _ _ _ _ _ _ _ _)
      | (with_reducible exact rows_Symbols.mono _ _)
      | (with_reducible exact scriniumlaw3_Few.mono _ _)
      | (with_reducible exact scriniumlaw3_alive.mono _)
      | (with_reducible exact LeO.refl _)
      | (with_reducible exact LeO.none _)
      | (with_reducible refine LeO.ite ?_ ?_)
      | (with_reducible refine LeO.bind ?_ (fun _ => ?_))
      | exact ih0 _ _
      | exact ih1 _ _ _ _ _ _
      | exact ih2 _ _ _ _
      | exact ih3 _ _ _ _ _ _
      | exact ih4 _ _ _ _ _ _ _ _
      | exact ih5 _ _ _ _ _ _ _ _
      | exact rows_Symbols.mono _ _
      | exact scriniumlaw3_Few.mono _ _
      | exact scriniumlaw3_alive.mono _
      | exact LeO.none _
      | refine LeO.ite ?_ ?_
      | refine LeO.bind ?_ (fun _ => ?_)
    · intro y0 y1 y2 y3 y4 y5
      unfold scriniumlaw3_RowsTerminators.l0
      repeat' first
      | (with_reducible exact ih0 _ _)
      | (with_reducible exact ih1 _ _ _ _ _ _)
      | (with_reducible exact ih2 _ _ _ _)
      | (with_reducible exact ih3 _ _ _ _ _ _)
      | (with_reducible exact ih4 _ _ _ _ _ _ _ _)
      | (with_reducible exact ih5 _ _ _ _ _ _ _ _)
      | (with_reducible exact rows_Symbols.mono _ _)
      | (with_reducible exact scriniumlaw3_Few.mono _ _)
      | (with_reducible exact scriniumlaw3_alive.mono _)
      | (with_reducible exact LeO.refl _)
      | (with_reducible exact LeO.none _)
      | (with_reducible refine LeO.ite ?_ ?_)
      | (with_reducible refine LeO.bind ?_ (fun _ => ?_))
      | exact ih0 _ _
      | exact ih1 _ _ _ _ _ _
      | exact ih2 _ _ _ _
      | exact ih3 _ _ _ _ _ _
      | exact ih4 _ _ _ _ _ _ _ _
      | exact ih5 _ _ _ _ _ _ _ _
      | exact rows_Symbols.mono _ _
      | exact scriniumlaw3_Few.mono _ _
      | exact scriniumlaw3_alive.mono _
      | exact LeO.none _
      | refine LeO.ite ?_ ?_
      | refine LeO.bind ?_ (fun _ => ?_)
    · intro y0 y1 y2 y3
      unfold scriniumlaw3_RowsTerminators.j2
      repeat' first
      | (with_reducible exact ih0 _ _)
      | (with_reducible exact ih1 _ _ _ _ _ _)
      | (with_reducible exact ih2 _ _ _ _)
      | (with_reducible exact ih3 _ _ _ _ _ _)
      | (with_reducible exact ih4 _ _ _ _ _ _ _ _)
      | (with_reducible exact ih5 _ _ _ _ _ _ _ _)
      | (with_reducible exact rows_Symbols.mono _ _)
      | (with_reducible exact scriniumlaw3_Few.mono _ _)
      | (with_reducible exact scriniumlaw3_alive.mono _)
      | (with_reducible exact LeO.refl _)
      | (with_reducible exact LeO.none _)
      | (with_reducible refine LeO.ite ?_ ?_)
      | (with_reducible refine LeO.bind ?_ (fun _ => ?_))
      | exact ih0 _ _
      | exact ih1 _ _ _ _ _ _
      | exact ih2 _ _ _ _
      | exact ih3 _ _ _ _ _ _
      | exact ih4 _ _ _ _ _ _ _ _
      | exact ih5 _ _ _ _ _ _ _ _
      | exact rows_Symbols.mono _ _
      | exact scriniumlaw3_Few.mono _ _
      | exact scriniumlaw3_alive.mono _
      | exact LeO.none _
      | refine LeO.ite ?_ ?_
      | refine LeO.bind ?_ (fun _ => ?_)
    · intro y0 y1 y2 y3 y4 y5
      unfold scriniumlaw3_RowsTerminators.l1
      repeat' first
      | (with_reducible exact ih0 _ _)
      | (with_reducible exact ih1 _ _ _ _ _ _)
      | (with_reducible exact ih2 _ _ _ _)
      | (with_reducible exact ih3 _ _ _ _ _ _)
      | (with_reducible exact ih4 _ _ _ _ _ _ _ _)
      | (with_reducible exact ih5 _ _ _ _ _ _ _ _)
      | (with_reducible exact rows_Symbols.mono _ _)
      | (with_reducible exact scriniumlaw3_Few.mono _ _)
      | (with_reducible exact scriniumlaw3_alive.mono _)
      | (with_reducible exact LeO.refl _)
      | (with_reducible exact LeO.none _)
      | (with_reducible refine LeO.ite ?_ ?_)
      | (with_reducible refine LeO.bind ?_ (fun _ => ?_))
      | exact ih0 _ _
      | exact ih1 _ _ _ _ _ _
      | exact ih2 _ _ _ _
      | exact ih3 _ _ _ _ _ _
      | exact ih4 _ _ _ _ _ _ _ _
      | exact ih5 _ _ _ _ _ _ _ _
      | exact rows_Symbols.mono _ _
      | exact scriniumlaw3_Few.mono _ _
      | exact scriniumlaw3_alive.mono _
      | exact LeO.none _
      | refine LeO.ite ?_ ?_
      | refine LeO.bind ?_ (fun _ => ?_)
    · intro y0 y1 y2 y3 y4 y5 y6 y7
      unfold scriniumlaw3_RowsTerminators.j4
      repeat' first
      | (with_reducible exact ih0 _ _)
      | (with_reducible exact ih1 _ _ _ _ _ _)
      | (with_reducible exact ih2 _ _ _ _)
      | (with_reducible exact ih3 _ _ _ _ _ _)
      | (with_reducible exact ih4 _ _ _ _ _ _ _ _)
      | (with_reducible exact ih5 _ _ _ _ _ _ _ _)
      | (with_reducible exact rows_Symbols.mono _ _)
      | (with_reducible exact scriniumlaw3_Few.mono _ _)
      | (with_reducible exact scriniumlaw3_alive.mono _)
      | (with_reducible exact LeO.refl _)
      | (with_reducible exact LeO.none _)
      | (with_reducible refine LeO.ite ?_ ?_)
      | (with_reducible refine LeO.bind ?_ (fun _ => ?_))
      | exact ih0 _ _
      | exact ih1 _ _ _ _ _ _
      | exact ih2 _ _ _ _
      | exact ih3 _ _ _ _ _ _
      | exact ih4 _ _ _ _ _ _ _ _
      | exact ih5 _ _ _ _ _ _ _ _
      | exact rows_Symbols.mono _ _
      | exact scriniumlaw3_Few.mono _ _
      | exact scriniumlaw3_alive.mono _
      | exact LeO.none _
      | refine LeO.ite ?_ ?_
      | refine LeO.bind ?_ (fun _ => ?_)
    · intro y0 y1 y2 y3 y4 y5 y6 y7
      unfold scriniumlaw3_RowsTerminators.j5
      repeat' first
      | (with_reducible exact ih0 _ _)
      | (with_reducible exact ih1 _ _ _ _ _ _)
      | (with_reducible exact ih2 _ _ _ _)
      | (with_reducible exact ih3 _ _ _ _ _ _)
      | (with_reducible exact ih4 _ _ _ _ _ _ _ _)
      | (with_reducible exact ih5 _ _ _ _ _ _ _ _)
      | (with_reducible exact rows_Symbols.mono _ _)
      | (with_reducible exact scriniumlaw3_Few.mono _ _)
      | (with_reducible exact scriniumlaw3_alive.mono _)
      | (with_reducible exact LeO.refl _)
      | (with_reducible exact LeO.none _)
      | (with_reducible refine LeO.ite ?_ ?_)
      | (with_reducible refine LeO.bind ?_ (fun _ => ?_))
      | exact ih0 _ _
      | exact ih1 _ _ _ _ _ _
      | exact ih2 _ _ _ _
      | exact ih3 _ _ _ _ _ _
      | exact ih4 _ _ _ _ _ _ _ _
      | exact ih5 _ _ _ _ _ _ _ _
      | exact rows_Symbols.mono _ _
      | exact scriniumlaw3_Few.mono _ _
      | exact scriniumlaw3_alive.mono _
      | exact LeO.none _
      | refine LeO.ite ?_ ?_
      | refine LeO.bind ?_ (fun _ => ?_)
theorem scriniumlaw3_RowsTerminators.mono : ∀ a0 k, LeO (scriniumlaw3_RowsTerminators.f k a0) (scriniumlaw3_RowsTerminators.f (k + 1) a0) := by
  intro a0 k
  obtain ⟨ih0, ih1, ih2, ih3, ih4, ih5⟩ := scriniumlaw3_RowsTerminators.mono_l k
  unfold scriniumlaw3_RowsTerminators.f
  repeat' first
      | (with_reducible exact ih0 _ _)
      | (with_reducible exact ih1 _ _ _ _ _ _)
      | (with_reducible exact ih2 _ _ _ _)
      | (with_reducible exact ih3 _ _ _ _ _ _)
      | (with_reducible exact ih4 _ _ _ _ _ _ _ _)
      | (with_reducible exact ih5 _ _ _ _ _ _ _ _)
      | (with_reducible exact rows_Symbols.mono _ _)
      | (with_reducible exact scriniumlaw3_Few.mono _ _)
      | (with_reducible exact scriniumlaw3_alive.mono _)
      | (with_reducible exact LeO.refl _)
      | (with_reducible exact LeO.none _)
      | (with_reducible refine LeO.ite ?_ ?_)
      | (with_reducible refine LeO.bind ?_ (fun _ => ?_))
      | exact ih0 _ _
      | exact ih1 _ _ _ _ _ _
      | exact ih2 _ _ _ _
      | exact ih3 _ _ _ _ _ _
      | exact ih4 _ _ _ _ _ _ _ _
      | exact ih5 _ _ _ _ _ _ _ _
      | exact rows_Symbols.mono _ _
      | exact scriniumlaw3_Few.mono _ _
      | exact scriniumlaw3_alive.mono _
      | exact LeO.none _
      | refine LeO.ite ?_ ?_
      | refine LeO.bind ?_ (fun _ => ?_)
set_option maxHeartbeats 8000000 in
set_option maxRecDepth 100000 in
theorem scriniumlaw3_RowsTerminators.calls (k : Nat) (A0 : Option Addr) (c0 : Nat) (l0 : List ByteArray) (r : Bool) (w : World) (hr0 : Kd.C Kd.string w A0 l0.length l0) (hc0 : l0.length ≤ c0) (h : scriniumlaw3_RowsTerminators.f k l0 = some r) :
    Calls Try.prog 5 #[.slice A0 l0.length c0] w fun e w' => e = .returned (.bool r) ∧ Below w.heap.size w w' := by
  have HR0 := Aside0.mk hr0
  have HC0 := Aside0.mk hc0
  clear hr0 hc0
  have HB := Aside0.mk (Below.refl w.heap.size w)
  have H : ((scriniumlaw3_Few.f k l0).bind fun t159 => (if t159 = true then ((rows_Right.f l0).bind fun t160 => (if t160 = true then ((scriniumlaw3_alive.f k).bind fun t161 => (scriniumlaw3_RowsTerminators.j0 k l0 (!t161))) else (scriniumlaw3_RowsTerminators.j0 k l0 true))) else (scriniumlaw3_RowsTerminators.j0 k l0 true))) = some r := h
  clear h
  have HC2 := Aside0.mk H
  clear H
  go_enter Try.func5, Try.ntmps5
  go_upto_region 1 with (fail)
  repeat (go_quiet (fail); go_upto_region 1 with (fail))
  go_cut [20] (fun v20 wc => ∃ (kq : Nat) (x20_1 : Bool), v20 = .bool x20_1 ∧ Aside0 (scriniumlaw3_RowsTerminators.j0 kq l0 x20_1 = some r) ∧ Aside0 (kq ≤ k) ∧ Aside0 (Below w.heap.size w wc))
  case first =>
    have H := HC2.out
    clear HC2
    replace H := Option.bind_eq_some_iff.mp H
    obtain ⟨t159, A30, H⟩ := H
    replace H : (if t159 = true then ((rows_Right.f l0).bind fun t160 => (if t160 = true then ((scriniumlaw3_alive.f k).bind fun t161 => (scriniumlaw3_RowsTerminators.j0 k l0 (!t161))) else (scriniumlaw3_RowsTerminators.j0 k l0 true))) else (scriniumlaw3_RowsTerminators.j0 k l0 true)) = some r := H
    have A3 := Aside0.mk A30
    clear A30
    by_cases c4 : t159 = true
    · subst c4
      have H1 : ((rows_Right.f l0).bind fun t160 => (if t160 = true then ((scriniumlaw3_alive.f k).bind fun t161 => (scriniumlaw3_RowsTerminators.j0 k l0 (!t161))) else (scriniumlaw3_RowsTerminators.j0 k l0 true))) = some r := by rw [if_pos rfl] at H; exact H
      clear H
      have H := H1
      clear H1
      replace H := Option.bind_eq_some_iff.mp H
      obtain ⟨t160, A50, H⟩ := H
      replace H : (if t160 = true then ((scriniumlaw3_alive.f k).bind fun t161 => (scriniumlaw3_RowsTerminators.j0 k l0 (!t161))) else (scriniumlaw3_RowsTerminators.j0 k l0 true)) = some r := H
      have A5 := Aside0.mk A50
      clear A50
      by_cases c6 : t160 = true
      · subst c6
        have H1 : ((scriniumlaw3_alive.f k).bind fun t161 => (scriniumlaw3_RowsTerminators.j0 k l0 (!t161))) = some r := by rw [if_pos rfl] at H; exact H
        clear H
        have H := H1
        clear H1
        replace H := Option.bind_eq_some_iff.mp H
        obtain ⟨t161, A70, H⟩ := H
        replace H : (scriniumlaw3_RowsTerminators.j0 k l0 (!t161)) = some r := H
        have A7 := Aside0.mk A70
        clear A70
        have H' := Aside0.mk H
        clear H
        go_wp2_with (first | (go_at_call 13; (with_reducible refine (scriniumlaw3_Few.calls k _ _ l0 true _ ?side1 ?side2 A3.out).mono ?_); (case side1 => repeat (first | exact (Kd.C_below HR0.out HB.out) | (with_reducible refine Kd.C_alloc ?_ _) | (with_reducible refine Kd.C_drewN ?_ _) | (with_reducible refine Kd.C_drew ?_))); (case side2 => exact HC0.out); rintro e w' ⟨rfl, ⟨nd, rfl⟩⟩; (try first | exact ⟨rfl, _, World.drewN_drewN _ _ _⟩ | exact ⟨rfl, _, Eq.trans (World.drewN_drewN _ _ _) (congrArg (World.drewN _) (Nat.add_assoc _ _ _))⟩)) | (go_at_call 26; (with_reducible refine (rows_Right.calls _ _ l0 true _ ?side1 ?side2 A5.out).mono ?_); (case side1 => repeat (first | exact (Kd.C_below HR0.out (by repeat (first | (with_reducible first | exact HB.out | apply below_alloc | apply pw_below_drewN | apply below_drew1) | exact HB.out))) | (with_reducible refine Kd.C_alloc ?_ _) | (with_reducible refine Kd.C_drewN ?_ _) | (with_reducible refine Kd.C_drew ?_))); (case side2 => exact HC0.out); rintro e w8 ⟨rfl, hb⟩; have n0_ := Aside0.mk (below_step (by repeat (first | (with_reducible first | exact HB.out | apply below_alloc | apply pw_below_drewN | apply below_drew1) | exact HB.out)) hb); clear HB; have HB := n0_; clear n0_; (try clear hb); (try clear hb2); (try clear hk); (try clear hi)) | (go_at_call 14; (with_reducible refine (scriniumlaw3_alive.calls k  t161 _ A7.out).mono ?_); rintro e w9 ⟨rfl, hb⟩; have n0_ := Aside0.mk (below_step (by repeat (first | (with_reducible first | exact HB.out | apply below_alloc | apply pw_below_drewN | apply below_drew1) | exact HB.out)) hb); clear HB; have HB := n0_; clear n0_; (try clear hb); (try clear hb2); (try clear hk); (try clear hi)))
        repeat (go_quiet (first | (go_at_call 13; (with_reducible refine (scriniumlaw3_Few.calls k _ _ l0 true _ ?side1 ?side2 A3.out).mono ?_); (case side1 => repeat (first | exact (Kd.C_below HR0.out HB.out) | (with_reducible refine Kd.C_alloc ?_ _) | (with_reducible refine Kd.C_drewN ?_ _) | (with_reducible refine Kd.C_drew ?_))); (case side2 => exact HC0.out); rintro e w' ⟨rfl, ⟨nd, rfl⟩⟩; (try first | exact ⟨rfl, _, World.drewN_drewN _ _ _⟩ | exact ⟨rfl, _, Eq.trans (World.drewN_drewN _ _ _) (congrArg (World.drewN _) (Nat.add_assoc _ _ _))⟩)) | (go_at_call 26; (with_reducible refine (rows_Right.calls _ _ l0 true _ ?side1 ?side2 A5.out).mono ?_); (case side1 => repeat (first | exact (Kd.C_below HR0.out (by repeat (first | (with_reducible first | exact HB.out | apply below_alloc | apply pw_below_drewN | apply below_drew1) | exact HB.out))) | (with_reducible refine Kd.C_alloc ?_ _) | (with_reducible refine Kd.C_drewN ?_ _) | (with_reducible refine Kd.C_drew ?_))); (case side2 => exact HC0.out); rintro e w8 ⟨rfl, hb⟩; have n0_ := Aside0.mk (below_step (by repeat (first | (with_reducible first | exact HB.out | apply below_alloc | apply pw_below_drewN | apply below_drew1) | exact HB.out)) hb); clear HB; have HB := n0_; clear n0_; (try clear hb); (try clear hb2); (try clear hk); (try clear hi)) | (go_at_call 14; (with_reducible refine (scriniumlaw3_alive.calls k  t161 _ A7.out).mono ?_); rintro e w9 ⟨rfl, hb⟩; have n0_ := Aside0.mk (below_step (by repeat (first | (with_reducible first | exact HB.out | apply below_alloc | apply pw_below_drewN | apply below_drew1) | exact HB.out)) hb); clear HB; have HB := n0_; clear n0_; (try clear hb); (try clear hb2); (try clear hk); (try clear hi))); try go_wp2_with (first | (go_at_call 13; (with_reducible refine (scriniumlaw3_Few.calls k _ _ l0 true _ ?side1 ?side2 A3.out).mono ?_); (case side1 => repeat (first | exact (Kd.C_below HR0.out HB.out) | (with_reducible refine Kd.C_alloc ?_ _) | (with_reducible refine Kd.C_drewN ?_ _) | (with_reducible refine Kd.C_drew ?_))); (case side2 => exact HC0.out); rintro e w' ⟨rfl, ⟨nd, rfl⟩⟩; (try first | exact ⟨rfl, _, World.drewN_drewN _ _ _⟩ | exact ⟨rfl, _, Eq.trans (World.drewN_drewN _ _ _) (congrArg (World.drewN _) (Nat.add_assoc _ _ _))⟩)) | (go_at_call 26; (with_reducible refine (rows_Right.calls _ _ l0 true _ ?side1 ?side2 A5.out).mono ?_); (case side1 => repeat (first | exact (Kd.C_below HR0.out (by repeat (first | (with_reducible first | exact HB.out | apply below_alloc | apply pw_below_drewN | apply below_drew1) | exact HB.out))) | (with_reducible refine Kd.C_alloc ?_ _) | (with_reducible refine Kd.C_drewN ?_ _) | (with_reducible refine Kd.C_drew ?_))); (case side2 => exact HC0.out); rintro e w8 ⟨rfl, hb⟩; have n0_ := Aside0.mk (below_step (by repeat (first | (with_reducible first | exact HB.out | apply below_alloc | apply pw_below_drewN | apply below_drew1) | exact HB.out)) hb); clear HB; have HB := n0_; clear n0_; (try clear hb); (try clear hb2); (try clear hk); (try clear hi)) | (go_at_call 14; (with_reducible refine (scriniumlaw3_alive.calls k  t161 _ A7.out).mono ?_); rintro e w9 ⟨rfl, hb⟩; have n0_ := Aside0.mk (below_step (by repeat (first | (with_reducible first | exact HB.out | apply below_alloc | apply pw_below_drewN | apply below_drew1) | exact HB.out)) hb); clear HB; have HB := n0_; clear n0_; (try clear hb); (try clear hb2); (try clear hk); (try clear hi))))
        go_meet
        case rel => exact ⟨_, (!t161), (by first | rfl | (simp; done) | (simp [*]; done)), H', ⟨by first | omega | exact Nat.le_refl _⟩, ⟨by repeat (first | (with_reducible first | exact HB.out | apply below_alloc | apply pw_below_drewN | apply below_drew1) | exact HB.out)⟩⟩
      · replace c6 := Bool.eq_false_iff.mpr c6
        subst c6
        have H1 : (scriniumlaw3_RowsTerminators.j0 k l0 true) = some r := by rw [if_neg (show ¬ (false = true) by decide)] at H; exact H
        clear H
        have H := H1
        clear H1
        have H' := Aside0.mk H
        clear H
        go_wp2_with (first | (go_at_call 13; (with_reducible refine (scriniumlaw3_Few.calls k _ _ l0 true _ ?side1 ?side2 A3.out).mono ?_); (case side1 => repeat (first | exact (Kd.C_below HR0.out HB.out) | (with_reducible refine Kd.C_alloc ?_ _) | (with_reducible refine Kd.C_drewN ?_ _) | (with_reducible refine Kd.C_drew ?_))); (case side2 => exact HC0.out); rintro e w' ⟨rfl, ⟨nd, rfl⟩⟩; (try first | exact ⟨rfl, _, World.drewN_drewN _ _ _⟩ | exact ⟨rfl, _, Eq.trans (World.drewN_drewN _ _ _) (congrArg (World.drewN _) (Nat.add_assoc _ _ _))⟩)) | (go_at_call 26; (with_reducible refine (rows_Right.calls _ _ l0 false _ ?side1 ?side2 A5.out).mono ?_); (case side1 => repeat (first | exact (Kd.C_below HR0.out (by repeat (first | (with_reducible first | exact HB.out | apply below_alloc | apply pw_below_drewN | apply below_drew1) | exact HB.out))) | (with_reducible refine Kd.C_alloc ?_ _) | (with_reducible refine Kd.C_drewN ?_ _) | (with_reducible refine Kd.C_drew ?_))); (case side2 => exact HC0.out); rintro e w10 ⟨rfl, hb⟩; have n0_ := Aside0.mk (below_step (by repeat (first | (with_reducible first | exact HB.out | apply below_alloc | apply pw_below_drewN | apply below_drew1) | exact HB.out)) hb); clear HB; have HB := n0_; clear n0_; (try clear hb); (try clear hb2); (try clear hk); (try clear hi)))
        repeat (go_quiet (first | (go_at_call 13; (with_reducible refine (scriniumlaw3_Few.calls k _ _ l0 true _ ?side1 ?side2 A3.out).mono ?_); (case side1 => repeat (first | exact (Kd.C_below HR0.out HB.out) | (with_reducible refine Kd.C_alloc ?_ _) | (with_reducible refine Kd.C_drewN ?_ _) | (with_reducible refine Kd.C_drew ?_))); (case side2 => exact HC0.out); rintro e w' ⟨rfl, ⟨nd, rfl⟩⟩; (try first | exact ⟨rfl, _, World.drewN_drewN _ _ _⟩ | exact ⟨rfl, _, Eq.trans (World.drewN_drewN _ _ _) (congrArg (World.drewN _) (Nat.add_assoc _ _ _))⟩)) | (go_at_call 26; (with_reducible refine (rows_Right.calls _ _ l0 false _ ?side1 ?side2 A5.out).mono ?_); (case side1 => repeat (first | exact (Kd.C_below HR0.out (by repeat (first | (with_reducible first | exact HB.out | apply below_alloc | apply pw_below_drewN | apply below_drew1) | exact HB.out))) | (with_reducible refine Kd.C_alloc ?_ _) | (with_reducible refine Kd.C_drewN ?_ _) | (with_reducible refine Kd.C_drew ?_))); (case side2 => exact HC0.out); rintro e w10 ⟨rfl, hb⟩; have n0_ := Aside0.mk (below_step (by repeat (first | (with_reducible first | exact HB.out | apply below_alloc | apply pw_below_drewN | apply below_drew1) | exact HB.out)) hb); clear HB; have HB := n0_; clear n0_; (try clear hb); (try clear hb2); (try clear hk); (try clear hi))); try go_wp2_with (first | (go_at_call 13; (with_reducible refine (scriniumlaw3_Few.calls k _ _ l0 true _ ?side1 ?side2 A3.out).mono ?_); (case side1 => repeat (first | exact (Kd.C_below HR0.out HB.out) | (with_reducible refine Kd.C_alloc ?_ _) | (with_reducible refine Kd.C_drewN ?_ _) | (with_reducible refine Kd.C_drew ?_))); (case side2 => exact HC0.out); rintro e w' ⟨rfl, ⟨nd, rfl⟩⟩; (try first | exact ⟨rfl, _, World.drewN_drewN _ _ _⟩ | exact ⟨rfl, _, Eq.trans (World.drewN_drewN _ _ _) (congrArg (World.drewN _) (Nat.add_assoc _ _ _))⟩)) | (go_at_call 26; (with_reducible refine (rows_Right.calls _ _ l0 false _ ?side1 ?side2 A5.out).mono ?_); (case side1 => repeat (first | exact (Kd.C_below HR0.out (by repeat (first | (with_reducible first | exact HB.out | apply below_alloc | apply pw_below_drewN | apply below_drew1) | exact HB.out))) | (with_reducible refine Kd.C_alloc ?_ _) | (with_reducible refine Kd.C_drewN ?_ _) | (with_reducible refine Kd.C_drew ?_))); (case side2 => exact HC0.out); rintro e w10 ⟨rfl, hb⟩; have n0_ := Aside0.mk (below_step (by repeat (first | (with_reducible first | exact HB.out | apply below_alloc | apply pw_below_drewN | apply below_drew1) | exact HB.out)) hb); clear HB; have HB := n0_; clear n0_; (try clear hb); (try clear hb2); (try clear hk); (try clear hi))))
        go_meet
        case rel => exact ⟨_, (true), (by first | rfl | (simp; done) | (simp [*]; done)), H', ⟨by first | omega | exact Nat.le_refl _⟩, ⟨by repeat (first | (with_reducible first | exact HB.out | apply below_alloc | apply pw_below_drewN | apply below_drew1) | exact HB.out)⟩⟩
    · replace c4 := Bool.eq_false_iff.mpr c4
      subst c4
      have H1 : (scriniumlaw3_RowsTerminators.j0 k l0 true) = some r := by rw [if_neg (show ¬ (false = true) by decide)] at H; exact H
      clear H
      have H := H1
      clear H1
      have H' := Aside0.mk H
      clear H
      go_wp2_with (first | (go_at_call 13; (with_reducible refine (scriniumlaw3_Few.calls k _ _ l0 false _ ?side1 ?side2 A3.out).mono ?_); (case side1 => repeat (first | exact (Kd.C_below HR0.out HB.out) | (with_reducible refine Kd.C_alloc ?_ _) | (with_reducible refine Kd.C_drewN ?_ _) | (with_reducible refine Kd.C_drew ?_))); (case side2 => exact HC0.out); rintro e w' ⟨rfl, ⟨nd, rfl⟩⟩; (try first | exact ⟨rfl, _, World.drewN_drewN _ _ _⟩ | exact ⟨rfl, _, Eq.trans (World.drewN_drewN _ _ _) (congrArg (World.drewN _) (Nat.add_assoc _ _ _))⟩)))
      repeat (go_quiet (first | (go_at_call 13; (with_reducible refine (scriniumlaw3_Few.calls k _ _ l0 false _ ?side1 ?side2 A3.out).mono ?_); (case side1 => repeat (first | exact (Kd.C_below HR0.out HB.out) | (with_reducible refine Kd.C_alloc ?_ _) | (with_reducible refine Kd.C_drewN ?_ _) | (with_reducible refine Kd.C_drew ?_))); (case side2 => exact HC0.out); rintro e w' ⟨rfl, ⟨nd, rfl⟩⟩; (try first | exact ⟨rfl, _, World.drewN_drewN _ _ _⟩ | exact ⟨rfl, _, Eq.trans (World.drewN_drewN _ _ _) (congrArg (World.drewN _) (Nat.add_assoc _ _ _))⟩))); try go_wp2_with (first | (go_at_call 13; (with_reducible refine (scriniumlaw3_Few.calls k _ _ l0 false _ ?side1 ?side2 A3.out).mono ?_); (case side1 => repeat (first | exact (Kd.C_below HR0.out HB.out) | (with_reducible refine Kd.C_alloc ?_ _) | (with_reducible refine Kd.C_drewN ?_ _) | (with_reducible refine Kd.C_drew ?_))); (case side2 => exact HC0.out); rintro e w' ⟨rfl, ⟨nd, rfl⟩⟩; (try first | exact ⟨rfl, _, World.drewN_drewN _ _ _⟩ | exact ⟨rfl, _, Eq.trans (World.drewN_drewN _ _ _) (congrArg (World.drewN _) (Nat.add_assoc _ _ _))⟩))))
      go_meet
      case rel => exact ⟨_, (true), (by first | rfl | (simp; done) | (simp [*]; done)), H', ⟨by first | omega | exact Nat.le_refl _⟩, ⟨by repeat (first | (with_reducible first | exact HB.out | apply below_alloc | apply pw_below_drewN | apply below_drew1) | exact HB.out)⟩⟩
  case rest =>
    clear HC2
    try clear p2
    try clear c4
    try clear c5
    try clear c6
    obtain ⟨kq, x20_1, rfl, HA, HJ1, HB⟩ := hcut
    cases kq with
    | zero => exact absurd HA.out (by simp [scriniumlaw3_RowsTerminators.j0])
    | succ kj1 =>
      have H := HA.out
      clear HA
      simp only [scriniumlaw3_RowsTerminators.j0] at H
      by_cases c11 : x20_1 = true
      · subst c11
        have H1 : ((scriniumlaw3_alive.f kj1).bind fun t162 => (some t162)) = some r := by rw [if_pos rfl] at H; exact H
        clear H
        have H := H1
        clear H1
        replace H := Option.bind_eq_some_iff.mp H
        obtain ⟨t162, A120, H⟩ := H
        replace H : (some t162) = some r := H
        have A12 := Aside0.mk A120
        clear A120
        obtain rfl := Option.some.inj H
        go_wp2_with (first | (go_at_call 14; (with_reducible refine (scriniumlaw3_alive.calls kj1  t162 _ A12.out).mono ?_); rintro e w13 ⟨rfl, hb⟩; have n0_ := Aside0.mk (below_step (by repeat (first | (with_reducible first | exact HB.out | apply below_alloc | apply pw_below_drewN | apply below_drew1) | exact HB.out)) hb); clear HB; have HB := n0_; clear n0_; (try clear hb); (try clear hb2); (try clear hk); (try clear hi)))
        repeat (go_quiet (first | (go_at_call 14; (with_reducible refine (scriniumlaw3_alive.calls kj1  t162 _ A12.out).mono ?_); rintro e w13 ⟨rfl, hb⟩; have n0_ := Aside0.mk (below_step (by repeat (first | (with_reducible first | exact HB.out | apply below_alloc | apply pw_below_drewN | apply below_drew1) | exact HB.out)) hb); clear HB; have HB := n0_; clear n0_; (try clear hb); (try clear hb2); (try clear hk); (try clear hi))); try go_wp2_with (first | (go_at_call 14; (with_reducible refine (scriniumlaw3_alive.calls kj1  t162 _ A12.out).mono ?_); rintro e w13 ⟨rfl, hb⟩; have n0_ := Aside0.mk (below_step (by repeat (first | (with_reducible first | exact HB.out | apply below_alloc | apply pw_below_drewN | apply below_drew1) | exact HB.out)) hb); clear HB; have HB := n0_; clear n0_; (try clear hb); (try clear hb2); (try clear hk); (try clear hi))))
        go_ret
        exact ⟨by first | rfl | (simp [errW_none, errW_some] <;> rfl) | (simp [*, errW_none, errW_some] <;> rfl), by repeat (first | (with_reducible first | exact HB.out | apply below_alloc | apply pw_below_drewN | apply below_drew1) | exact HB.out)⟩
      · replace c11 := Bool.eq_false_iff.mpr c11
        subst c11
        have H1 : ((rows_Sorted.f l0).bind fun t163 => ((rows_Symbols.f kj1 l0).bind fun t166 => (scriniumlaw3_RowsTerminators.l0 kj1 l0 t163 t166 (l0.length : Int) (l0.length : Int) 0))) = some r := by rw [if_neg (show ¬ (false = true) by decide)] at H; exact H
        clear H
        have H := H1
        clear H1
        replace H := Option.bind_eq_some_iff.mp H
        obtain ⟨t163, A140, H⟩ := H
        replace H : ((rows_Symbols.f kj1 l0).bind fun t166 => (scriniumlaw3_RowsTerminators.l0 kj1 l0 t163 t166 (l0.length : Int) (l0.length : Int) 0)) = some r := H
        have A14 := Aside0.mk A140
        clear A140
        replace H := Option.bind_eq_some_iff.mp H
        obtain ⟨t166, A150, H⟩ := H
        replace H : (scriniumlaw3_RowsTerminators.l0 kj1 l0 t163 t166 (l0.length : Int) (l0.length : Int) 0) = some r := H
        have A15 := Aside0.mk A150
        clear A150
        have H' := Aside0.mk H
        clear H
        go_wp2_with (first | (go_at_call 16; (with_reducible refine (rows_Sorted.calls _ _ l0 t163 _ ?side1 ?side2 A14.out).mono ?_); (case side1 => repeat (first | exact (Kd.C_below HR0.out HB.out) | (with_reducible refine Kd.C_alloc ?_ _) | (with_reducible refine Kd.C_drewN ?_ _) | (with_reducible refine Kd.C_drew ?_))); (case side2 => exact HC0.out); rintro e w16 ⟨v164, rfl, ho0, hb⟩; have n0_ := Aside0.mk (Kd.R_lower ho0 (below_size (by repeat (first | (with_reducible first | exact HB.out | apply below_alloc | apply pw_below_drewN | apply below_drew1) | exact HB.out)))); have n1_ := Aside0.mk (below_step (by repeat (first | (with_reducible first | exact HB.out | apply below_alloc | apply pw_below_drewN | apply below_drew1) | exact HB.out)) hb); clear HB; have HO165 := n0_; have HB := n1_; clear n0_ n1_; (try clear hb); (try clear hb2); (try clear hk); (try clear hi); (try clear ho0)) | (go_at_call 17; (with_reducible refine (rows_Symbols.calls kj1 _ _ l0 t166 _ ?side1 ?side2 A15.out).mono ?_); (case side1 => repeat (first | exact (Kd.C_below HR0.out HB.out) | (with_reducible refine Kd.C_alloc ?_ _) | (with_reducible refine Kd.C_drewN ?_ _) | (with_reducible refine Kd.C_drew ?_))); (case side2 => exact HC0.out); rintro e w17 ⟨v167, rfl, ho0, hb⟩; have n0_ := Aside0.mk (Kd.R_below (by (with_reducible repeat (first | apply Kd.R_alloc | apply Kd.R_drewN | apply Kd.R_drew)); exact HO165.out) hb); have n1_ := Aside0.mk (Kd.R_lower ho0 (below_size (by repeat (first | (with_reducible first | exact HB.out | apply below_alloc | apply pw_below_drewN | apply below_drew1) | exact HB.out)))); have n2_ := Aside0.mk (below_step (by repeat (first | (with_reducible first | exact HB.out | apply below_alloc | apply pw_below_drewN | apply below_drew1) | exact HB.out)) hb); clear HO165; clear HB; have HO165 := n0_; have HO168 := n1_; have HB := n2_; clear n0_ n1_ n2_; (try clear hb); (try clear hb2); (try clear hk); (try clear hi); (try clear ho0)))
        repeat (go_quiet (first | (go_at_call 16; (with_reducible refine (rows_Sorted.calls _ _ l0 t163 _ ?side1 ?side2 A14.out).mono ?_); (case side1 => repeat (first | exact (Kd.C_below HR0.out HB.out) | (with_reducible refine Kd.C_alloc ?_ _) | (with_reducible refine Kd.C_drewN ?_ _) | (with_reducible refine Kd.C_drew ?_))); (case side2 => exact HC0.out); rintro e w16 ⟨v164, rfl, ho0, hb⟩; have n0_ := Aside0.mk (Kd.R_lower ho0 (below_size (by repeat (first | (with_reducible first | exact HB.out | apply below_alloc | apply pw_below_drewN | apply below_drew1) | exact HB.out)))); have n1_ := Aside0.mk (below_step (by repeat (first | (with_reducible first | exact HB.out | apply below_alloc | apply pw_below_drewN | apply below_drew1) | exact HB.out)) hb); clear HB; have HO165 := n0_; have HB := n1_; clear n0_ n1_; (try clear hb); (try clear hb2); (try clear hk); (try clear hi); (try clear ho0)) | (go_at_call 17; (with_reducible refine (rows_Symbols.calls kj1 _ _ l0 t166 _ ?side1 ?side2 A15.out).mono ?_); (case side1 => repeat (first | exact (Kd.C_below HR0.out HB.out) | (with_reducible refine Kd.C_alloc ?_ _) | (with_reducible refine Kd.C_drewN ?_ _) | (with_reducible refine Kd.C_drew ?_))); (case side2 => exact HC0.out); rintro e w17 ⟨v167, rfl, ho0, hb⟩; have n0_ := Aside0.mk (Kd.R_below (by (with_reducible repeat (first | apply Kd.R_alloc | apply Kd.R_drewN | apply Kd.R_drew)); exact HO165.out) hb); have n1_ := Aside0.mk (Kd.R_lower ho0 (below_size (by repeat (first | (with_reducible first | exact HB.out | apply below_alloc | apply pw_below_drewN | apply below_drew1) | exact HB.out)))); have n2_ := Aside0.mk (below_step (by repeat (first | (with_reducible first | exact HB.out | apply below_alloc | apply pw_below_drewN | apply below_drew1) | exact HB.out)) hb); clear HO165; clear HB; have HO165 := n0_; have HO168 := n1_; have HB := n2_; clear n0_ n1_ n2_; (try clear hb); (try clear hb2); (try clear hk); (try clear hi); (try clear ho0))); try go_wp2_with (first | (go_at_call 16; (with_reducible refine (rows_Sorted.calls _ _ l0 t163 _ ?side1 ?side2 A14.out).mono ?_); (case side1 => repeat (first | exact (Kd.C_below HR0.out HB.out) | (with_reducible refine Kd.C_alloc ?_ _) | (with_reducible refine Kd.C_drewN ?_ _) | (with_reducible refine Kd.C_drew ?_))); (case side2 => exact HC0.out); rintro e w16 ⟨v164, rfl, ho0, hb⟩; have n0_ := Aside0.mk (Kd.R_lower ho0 (below_size (by repeat (first | (with_reducible first | exact HB.out | apply below_alloc | apply pw_below_drewN | apply below_drew1) | exact HB.out)))); have n1_ := Aside0.mk (below_step (by repeat (first | (with_reducible first | exact HB.out | apply below_alloc | apply pw_below_drewN | apply below_drew1) | exact HB.out)) hb); clear HB; have HO165 := n0_; have HB := n1_; clear n0_ n1_; (try clear hb); (try clear hb2); (try clear hk); (try clear hi); (try clear ho0)) | (go_at_call 17; (with_reducible refine (rows_Symbols.calls kj1 _ _ l0 t166 _ ?side1 ?side2 A15.out).mono ?_); (case side1 => repeat (first | exact (Kd.C_below HR0.out HB.out) | (with_reducible refine Kd.C_alloc ?_ _) | (with_reducible refine Kd.C_drewN ?_ _) | (with_reducible refine Kd.C_drew ?_))); (case side2 => exact HC0.out); rintro e w17 ⟨v167, rfl, ho0, hb⟩; have n0_ := Aside0.mk (Kd.R_below (by (with_reducible repeat (first | apply Kd.R_alloc | apply Kd.R_drewN | apply Kd.R_drew)); exact HO165.out) hb); have n1_ := Aside0.mk (Kd.R_lower ho0 (below_size (by repeat (first | (with_reducible first | exact HB.out | apply below_alloc | apply pw_below_drewN | apply below_drew1) | exact HB.out)))); have n2_ := Aside0.mk (below_step (by repeat (first | (with_reducible first | exact HB.out | apply below_alloc | apply pw_below_drewN | apply below_drew1) | exact HB.out)) hb); clear HO165; clear HB; have HO165 := n0_; have HO168 := n1_; have HB := n2_; clear n0_ n1_ n2_; (try clear hb); (try clear hb2); (try clear hk); (try clear hi); (try clear ho0))))
        go_loopg [5, 30] kj1 (fun kq v5 v30 w' => ∃ (x5_2 : Int) (x30_2 : Int), v5 = .int .i64 x5_2 ∧ v30 = .int .i64 x30_2 ∧ Aside0 (scriniumlaw3_RowsTerminators.l0 kq l0 t163 t166 x5_2 (l0.length : Int) x30_2 = some r) ∧ Aside0 (kq ≤ kj1) ∧ Aside0 (Kd.R k24 24 w' w.heap.size (fun _ => True) v164 t163) ∧ Aside0 (Kd.R (Kd.int .i64) 3 w' w.heap.size (fun _ => True) v167 t166) ∧ Aside0 (Below w.heap.size w w'))
        case atStart => exact ⟨((l0.length : Int)), (0), (by first | rfl | (simp; done) | (simp [*]; done)), (by first | rfl | (simp; done) | (simp [*]; done)), H', ⟨Nat.le_refl _⟩, ⟨by (with_reducible repeat (first | apply Kd.R_alloc | apply Kd.R_drewN | apply Kd.R_drew)); exact HO165.out⟩, ⟨by (with_reducible repeat (first | apply Kd.R_alloc | apply Kd.R_drewN | apply Kd.R_drew)); exact HO168.out⟩, ⟨by repeat (first | (with_reducible first | exact HB.out | apply below_alloc | apply pw_below_drewN | apply below_drew1) | exact HB.out)⟩⟩
        case round =>
          clear H'
          try clear c1
          try clear p2
          try clear c4
          try clear c5
          try clear c6
          try clear c11
          try clear p2
          obtain ⟨x5_2, x30_2, rfl, rfl, HA, HK2, HO_3, HO_4, HB⟩ := hrel
          cases gk with
          | zero => exact absurd HA.out (by simp [scriniumlaw3_RowsTerminators.l0])
          | succ k2 =>
            have H := HA.out
            clear HA
            simp only [scriniumlaw3_RowsTerminators.l0] at H
            by_cases c18 : x30_2 < (l0.length : Int)
            · rw [if_pos c18] at H
              have c18b0 : decide (x30_2 < (l0.length : Int)) = true := decide_eq_true c18
              clear c18
              by_cases c19 : 0 ≤ x30_2
              · rw [if_pos c19] at H
                have c19b0 : decide (0 ≤ x30_2) = true := decide_eq_true c19
                clear c19
                by_cases c20 : x30_2 < (l0.length : Int)
                · rw [if_pos c20] at H
                  have c20b0 : decide (x30_2 < (l0.length : Int)) = true := decide_eq_true c20
                  clear c20
                  have H' := Aside0.mk H
                  clear H
                  have p169 : 0 ≤ (x30_2 : Int) := of_decide_eq_true (by first | (with_reducible assumption) | assumption)
                  have q169 : x30_2 < (l0.length : Int) := of_decide_eq_true (by first | (with_reducible assumption) | assumption)
                  obtain ⟨ad169, e169, hx169_0⟩ := Kd.at_string HR0.out x30_2 p169 q169
                  cases e169
                  replace hx169_0 := (HB.out.cell (World.block_lt_of_cell? w _ hx169_0)).trans hx169_0
                  replace p169 := eq_true p169
                  replace q169 := eq_true q169
                  go_wp2
                  repeat (go_quiet (fail); try go_wp2)
                  go_roundg k2
                  case measure => have := HJ1.out; have := HK2.out; omega
                  case rel => exact ⟨(wrap64 (x5_2 + ((rdOf ByteArray.empty l0 x30_2).size : Int))), (wrap64 (x30_2 + 1)), (by first | rfl | (simp; done) | (simp [*]; done)), (by first | rfl | (simp; done) | (simp [*]; done)), H', ⟨by have := HJ1.out; have := HK2.out; omega⟩, ⟨by (with_reducible repeat (first | apply Kd.R_alloc | apply Kd.R_drewN | apply Kd.R_drew)); exact HO_3.out⟩, ⟨by (with_reducible repeat (first | apply Kd.R_alloc | apply Kd.R_drewN | apply Kd.R_drew)); exact HO_4.out⟩, ⟨by repeat (first | (with_reducible first | exact HB.out | apply below_alloc | apply pw_below_drewN | apply below_drew1) | exact HB.out)⟩⟩
                · rw [if_neg c20] at H
                  exact absurd H (by simp)
              · rw [if_neg c19] at H
                exact absurd H (by simp)
            · rw [if_neg c18] at H
              have c18b0 : decide (x30_2 < (l0.length : Int)) = false := decide_eq_false c18
              clear c18
              have HC21 := Aside0.mk H
              clear H
              go_upto_region 10 with (fail)
              repeat (go_quiet (fail); go_upto_region 10 with (fail))
              go_cut [50] (fun v50 wc => ∃ (kq : Nat) (x50_20 : Bool), v50 = .bool x50_20 ∧ Aside0 (scriniumlaw3_RowsTerminators.j2 kq l0 t163 t166 x50_20 = some r) ∧ Aside0 (kq ≤ k2) ∧ Aside0 (Kd.R k24 24 wc w.heap.size (fun _ => True) v164 t163) ∧ Aside0 (Kd.R (Kd.int .i64) 3 wc w.heap.size (fun _ => True) v167 t166) ∧ Aside0 (Below w.heap.size w wc))
              case first =>
                have H := HC21.out
                clear HC21
                by_cases c22 : (t163.length : Int) = x5_2
                · rw [if_pos c22] at H
                  have c22b0 : ((t163.length : Int) == x5_2) = true := beq_iff_eq.mpr c22
                  have c22b1 : ((t163.length : Int) != x5_2) = false := bne_eq_false_iff_eq.mpr c22
                  clear c22
                  (first | rw [c22b0] | (simp only [i64_w, i32_w]; rw [c22b0]) | skip)
                  have H' := Aside0.mk H
                  clear H
                  obtain ⟨Ao23, co23, eo23⟩ := Kd.R_slice HO_3.out
                  subst eo23
                  obtain ⟨Ao24, co24, eo24⟩ := Kd.R_slice HO_4.out
                  subst eo24
                  go_wp2
                  repeat (go_quiet (fail); try go_wp2)
                  go_meet
                  case rel => exact ⟨_, (((t166.length : Int) != x5_2)), (by first | rfl | (simp; done) | (simp [*]; done)), H', ⟨by have := HJ1.out; have := HK2.out; first | omega | exact Nat.le_refl _⟩, ⟨by (with_reducible repeat (first | apply Kd.R_alloc | apply Kd.R_drewN | apply Kd.R_drew)); exact HO_3.out⟩, ⟨by (with_reducible repeat (first | apply Kd.R_alloc | apply Kd.R_drewN | apply Kd.R_drew)); exact HO_4.out⟩, ⟨by repeat (first | (with_reducible first | exact HB.out | apply below_alloc | apply pw_below_drewN | apply below_drew1) | exact HB.out)⟩⟩
                · rw [if_neg c22] at H
                  have c22b0 : ((t163.length : Int) == x5_2) = false := beq_eq_false_iff_ne.mpr c22
                  have c22b1 : ((t163.length : Int) != x5_2) = true := bne_iff_ne.mpr c22
                  (first | rw [c22b0] | (simp only [i64_w, i32_w]; rw [c22b0]) | skip)
                  have H' := Aside0.mk H
                  clear H
                  obtain ⟨Ao25, co25, eo25⟩ := Kd.R_slice HO_3.out
                  subst eo25
                  go_wp2
                  repeat (go_quiet (fail); try go_wp2)
                  go_meet
                  case rel => exact ⟨_, (true), (by first | rfl | (simp; done) | (simp [*]; done)), H', ⟨by have := HJ1.out; have := HK2.out; first | omega | exact Nat.le_refl _⟩, ⟨by (with_reducible repeat (first | apply Kd.R_alloc | apply Kd.R_drewN | apply Kd.R_drew)); exact HO_3.out⟩, ⟨by (with_reducible repeat (first | apply Kd.R_alloc | apply Kd.R_drewN | apply Kd.R_drew)); exact HO_4.out⟩, ⟨by repeat (first | (with_reducible first | exact HB.out | apply below_alloc | apply pw_below_drewN | apply below_drew1) | exact HB.out)⟩⟩
              case rest =>
                clear HC21
                try clear c1
                try clear p1
                try clear q1
                try clear hx1
                try clear c2
                try clear p2
                try clear c4
                try clear c5
                try clear c6
                try clear p6
                try clear c11
                try clear p16
                try clear q16
                try clear hx16
                try clear c18
                try clear c18b0
                try clear c19
                try clear c19b0
                try clear c20
                try clear c20b0
                try clear c22
                try clear c22b0
                try clear c22b1
                try clear hx169_0
                try clear p169
                try clear p2
                try clear q169
                obtain ⟨kq, x50_20, rfl, HA, HJ20, HO_3, HO_4, HB⟩ := hcut
                cases kq with
                | zero => exact absurd HA.out (by simp [scriniumlaw3_RowsTerminators.j2])
                | succ kj20 =>
                  have H := HA.out
                  clear HA
                  simp only [scriniumlaw3_RowsTerminators.j2] at H
                  by_cases c26 : x50_20 = true
                  · subst c26
                    have H1 : (some false) = some r := by rw [if_pos rfl] at H; exact H
                    clear H
                    have H := H1
                    clear H1
                    obtain rfl := Option.some.inj H
                    go_wp2
                    repeat (go_quiet (fail); try go_wp2)
                    go_ret
                    exact ⟨by first | rfl | (simp [errW_none, errW_some] <;> rfl) | (simp [*, errW_none, errW_some] <;> rfl), by repeat (first | (with_reducible first | exact HB.out | apply below_alloc | apply pw_below_drewN | apply below_drew1) | exact HB.out)⟩
                  · replace c26 := Bool.eq_false_iff.mpr c26
                    subst c26
                    have H1 : (scriniumlaw3_RowsTerminators.l1 kj20 l0 t163 t166 0 (t163.length : Int) 0) = some r := by rw [if_neg (show ¬ (false = true) by decide)] at H; exact H
                    clear H
                    have H := H1
                    clear H1
                    have H' := Aside0.mk H
                    clear H
                    obtain ⟨Ao27, co27, eo27⟩ := Kd.R_slice HO_3.out
                    subst eo27
                    go_wp2
                    repeat (go_quiet (fail); try go_wp2)
                    go_loopg [7, 53] kj20 (fun kq v7 v53 w' => ∃ (x7_4 : Int) (x53_4 : Int), v7 = .int .i64 x7_4 ∧ v53 = .int .i64 x53_4 ∧ Aside0 (scriniumlaw3_RowsTerminators.l1 kq l0 t163 t166 x7_4 (t163.length : Int) x53_4 = some r) ∧ Aside0 (kq ≤ kj20) ∧ Aside0 (Kd.R k24 24 w' w.heap.size (fun _ => True) (.slice Ao27 t163.length co27) t163) ∧ Aside0 (Kd.R (Kd.int .i64) 3 w' w.heap.size (fun _ => True) v167 t166) ∧ Aside0 (Below w.heap.size w w'))
                    case atStart => exact ⟨(0), (0), (by first | rfl | (simp; done) | (simp [*]; done)), (by first | rfl | (simp; done) | (simp [*]; done)), H', ⟨Nat.le_refl _⟩, ⟨by (with_reducible repeat (first | apply Kd.R_alloc | apply Kd.R_drewN | apply Kd.R_drew)); exact HO_3.out⟩, ⟨by (with_reducible repeat (first | apply Kd.R_alloc | apply Kd.R_drewN | apply Kd.R_drew)); exact HO_4.out⟩, ⟨by repeat (first | (with_reducible first | exact HB.out | apply below_alloc | apply pw_below_drewN | apply below_drew1) | exact HB.out)⟩⟩
                    case round =>
                      clear H'
                      try clear c1
                      try clear p1
                      try clear q1
                      try clear hx1
                      try clear c2
                      try clear p2
                      try clear c4
                      try clear c5
                      try clear c6
                      try clear p6
                      try clear c11
                      try clear p16
                      try clear q16
                      try clear hx16
                      try clear c18
                      try clear c18b0
                      try clear c19
                      try clear c19b0
                      try clear c20
                      try clear c20b0
                      try clear c22
                      try clear c22b0
                      try clear c22b1
                      try clear c26
                      try clear hx169_0
                      try clear p1
                      try clear p16
                      try clear p169
                      try clear p2
                      try clear p6
                      try clear q1
                      try clear q16
                      try clear q169
                      obtain ⟨x7_4, x53_4, rfl, rfl, HA, HK4, HO_3, HO_4, HB⟩ := hrel
                      cases gk with
                      | zero => exact absurd HA.out (by simp [scriniumlaw3_RowsTerminators.l1])
                      | succ k4 =>
                        have H := HA.out
                        clear HA
                        simp only [scriniumlaw3_RowsTerminators.l1] at H
                        by_cases c28 : x53_4 < (t163.length : Int)
                        · rw [if_pos c28] at H
                          have c28b0 : decide (x53_4 < (t163.length : Int)) = true := decide_eq_true c28
                          clear c28
                          have HC29 := Aside0.mk H
                          clear H
                          go_upto_region 16 with (fail)
                          repeat (go_quiet (fail); go_upto_region 16 with (fail))
                          go_cut [71] (fun v71 wc => ∃ (kq : Nat) (x71_28 : Bool), v71 = .bool x71_28 ∧ Aside0 (scriniumlaw3_RowsTerminators.j4 kq l0 t163 t166 x7_4 x53_4 (t163.length : Int) x53_4 x71_28 = some r) ∧ Aside0 (kq ≤ k4) ∧ Aside0 (Kd.R k24 24 wc w.heap.size (fun _ => True) (.slice Ao27 t163.length co27) t163) ∧ Aside0 (Kd.R (Kd.int .i64) 3 wc w.heap.size (fun _ => True) v167 t166) ∧ Aside0 (Below w.heap.size w wc))
                          case first =>
                            have H := HC29.out
                            clear HC29
                            by_cases c30 : 0 ≤ x53_4
                            · rw [if_pos c30] at H
                              have c30b0 : decide (0 ≤ x53_4) = true := decide_eq_true c30
                              clear c30
                              (first | rw [c30b0] | (simp only [i64_w, i32_w]; rw [c30b0]) | skip)
                              by_cases c31 : x53_4 < (t163.length : Int)
                              · rw [if_pos c31] at H
                                have c31b0 : decide (x53_4 < (t163.length : Int)) = true := decide_eq_true c31
                                clear c31
                                by_cases c32 : ((rd_T24 t163 x53_4).f0) < 0
                                · rw [if_pos c32] at H
                                  have c32b0 : decide (((rd_T24 t163 x53_4).f0) < 0) = true := decide_eq_true c32
                                  clear c32
                                  have H' := Aside0.mk H
                                  clear H
                                  have p170 : 0 ≤ (x53_4 : Int) := of_decide_eq_true (by first | (with_reducible assumption) | assumption)
                                  have q170 : x53_4 < (t163.length : Int) := of_decide_eq_true (by first | (with_reducible assumption) | assumption)
                                  obtain ⟨ad170, e170, hx170_0, hx170_1⟩ := at_T24 (Kd.R_reads' HO_3.out).2.2 x53_4 p170 q170
                                  cases e170
                                  replace p170 := eq_true p170
                                  replace q170 := eq_true q170
                                  go_wp2
                                  repeat (go_quiet (fail); try go_wp2)
                                  go_meet
                                  case rel => exact ⟨_, (true), (by first | rfl | (simp; done) | (simp [*]; done)), H', ⟨by have := HJ1.out; have := HK2.out; have := HJ20.out; have := HK4.out; first | omega | exact Nat.le_refl _⟩, ⟨by (with_reducible repeat (first | apply Kd.R_alloc | apply Kd.R_drewN | apply Kd.R_drew)); exact HO_3.out⟩, ⟨by (with_reducible repeat (first | apply Kd.R_alloc | apply Kd.R_drewN | apply Kd.R_drew)); exact HO_4.out⟩, ⟨by repeat (first | (with_reducible first | exact HB.out | apply below_alloc | apply pw_below_drewN | apply below_drew1) | exact HB.out)⟩⟩
                                · rw [if_neg c32] at H
                                  have c32b0 : decide (((rd_T24 t163 x53_4).f0) < 0) = false := decide_eq_false c32
                                  clear c32
                                  have H' := Aside0.mk H
                                  clear H
                                  have p170 : 0 ≤ (x53_4 : Int) := of_decide_eq_true (by first | (with_reducible assumption) | assumption)
                                  have q170 : x53_4 < (t163.length : Int) := of_decide_eq_true (by first | (with_reducible assumption) | assumption)
                                  obtain ⟨ad170, e170, hx170_0, hx170_1⟩ := at_T24 (Kd.R_reads' HO_3.out).2.2 x53_4 p170 q170
                                  cases e170
                                  replace p170 := eq_true p170
                                  replace q170 := eq_true q170
                                  have p171 : 0 ≤ (x53_4 : Int) := of_decide_eq_true (by first | (with_reducible assumption) | assumption)
                                  have q171 : x53_4 < (t163.length : Int) := of_decide_eq_true (by first | (with_reducible assumption) | assumption)
                                  obtain ⟨ad171, e171, hx171_0, hx171_1⟩ := at_T24 (Kd.R_reads' HO_3.out).2.2 x53_4 p171 q171
                                  obtain rfl : ad170 = ad171 := (by injection e171)
                                  replace p171 := eq_true p171
                                  replace q171 := eq_true q171
                                  go_wp2
                                  repeat (go_quiet (fail); try go_wp2)
                                  go_meet
                                  case rel => exact ⟨_, (decide (((rd_T24 t163 x53_4).f0) ≥ (l0.length : Int))), (by first | rfl | (simp; done) | (simp [*]; done)), H', ⟨by have := HJ1.out; have := HK2.out; have := HJ20.out; have := HK4.out; first | omega | exact Nat.le_refl _⟩, ⟨by (with_reducible repeat (first | apply Kd.R_alloc | apply Kd.R_drewN | apply Kd.R_drew)); exact HO_3.out⟩, ⟨by (with_reducible repeat (first | apply Kd.R_alloc | apply Kd.R_drewN | apply Kd.R_drew)); exact HO_4.out⟩, ⟨by repeat (first | (with_reducible first | exact HB.out | apply below_alloc | apply pw_below_drewN | apply below_drew1) | exact HB.out)⟩⟩
                              · rw [if_neg c31] at H
                                exact absurd H (by simp)
                            · rw [if_neg c30] at H
                              exact absurd H (by simp)
                          case rest =>
                            clear HC29
                            try clear c1
                            try clear p1
                            try clear q1
                            try clear hx1
                            try clear c2
                            try clear p2
                            try clear c3
                            try clear c4
                            try clear c5
                            try clear c6
                            try clear p6
                            try clear c11
                            try clear p16
                            try clear q16
                            try clear hx16
                            try clear p17
                            try clear q17
                            try clear hx17
                            try clear c18
                            try clear c18b0
                            try clear c19
                            try clear c19b0
                            try clear c20
                            try clear c20b0
                            try clear c22
                            try clear c22b0
                            try clear c22b1
                            try clear c26
                            try clear c28
                            try clear c28b0
                            try clear c30
                            try clear c30b0
                            try clear c31
                            try clear c31b0
                            try clear c32
                            try clear c32b0
                            try clear hx169_0
                            try clear hx170_0
                            try clear hx170_1
                            try clear hx171_0
                            try clear hx171_1
                            try clear p1
                            try clear p16
                            try clear p169
                            try clear p170
                            try clear p171
                            try clear p2
                            try clear p6
                            try clear q1
                            try clear q16
                            try clear q169
                            try clear q170
                            try clear q171
                            obtain ⟨kq, x71_28, rfl, HA, HJ28, HO_3, HO_4, HB⟩ := hcut
                            cases kq with
                            | zero => exact absurd HA.out (by simp [scriniumlaw3_RowsTerminators.j4])
                            | succ kj28 =>
                              have H := HA.out
                              clear HA
                              simp only [scriniumlaw3_RowsTerminators.j4] at H
                              by_cases c33 : x71_28 = true
                              · subst c33
                                have H1 : (some false) = some r := by rw [if_pos rfl] at H; exact H
                                clear H
                                have H := H1
                                clear H1
                                obtain rfl := Option.some.inj H
                                go_wp2
                                repeat (go_quiet (fail); try go_wp2)
                                go_ret
                                exact ⟨by first | rfl | (simp [errW_none, errW_some] <;> rfl) | (simp [*, errW_none, errW_some] <;> rfl), by repeat (first | (with_reducible first | exact HB.out | apply below_alloc | apply pw_below_drewN | apply below_drew1) | exact HB.out)⟩
                              · replace c33 := Bool.eq_false_iff.mpr c33
                                subst c33
                                have H1 : (if 0 ≤ x53_4 then (if x53_4 < (t163.length : Int) then (if 0 ≤ ((rd_T24 t163 x53_4).f0) then (if ((rd_T24 t163 x53_4).f0) < (l0.length : Int) then (if ((decide (x53_4 < (l0.length : Int))) != (((rd_T24 t163 x53_4).f1) == ((rdOf ByteArray.empty l0 ((rd_T24 t163 x53_4).f0)).size : Int))) = true then (scriniumlaw3_RowsTerminators.j5 kj28 l0 t163 t166 x7_4 x53_4 (t163.length : Int) x53_4 true) else (if x53_4 < (l0.length : Int) then (scriniumlaw3_RowsTerminators.j5 kj28 l0 t163 t166 x7_4 x53_4 (t163.length : Int) x53_4 (((rd_T24 t163 x53_4).f0) != x53_4)) else (scriniumlaw3_RowsTerminators.j5 kj28 l0 t163 t166 x7_4 x53_4 (t163.length : Int) x53_4 false))) else (none)) else (none)) else (none)) else (none)) = some r := by rw [if_neg (show ¬ (false = true) by decide)] at H; exact H
                                clear H
                                have H := H1
                                clear H1
                                have HC34 := Aside0.mk H
                                clear H
                                go_upto_region 18 with (fail)
                                repeat (go_quiet (fail); go_upto_region 18 with (fail))
                                go_cut [106] (fun v106 wc => ∃ (kq : Nat) (x106_33 : Bool), v106 = .bool x106_33 ∧ Aside0 (scriniumlaw3_RowsTerminators.j5 kq l0 t163 t166 x7_4 x53_4 (t163.length : Int) x53_4 x106_33 = some r) ∧ Aside0 (kq ≤ kj28) ∧ Aside0 (Kd.R k24 24 wc w.heap.size (fun _ => True) (.slice Ao27 t163.length co27) t163) ∧ Aside0 (Kd.R (Kd.int .i64) 3 wc w.heap.size (fun _ => True) v167 t166) ∧ Aside0 (Below w.heap.size w wc))
                                case first =>
                                  have H := HC34.out
                                  clear HC34
                                  by_cases c35 : 0 ≤ x53_4
                                  · rw [if_pos c35] at H
                                    have c35b0 : decide (0 ≤ x53_4) = true := decide_eq_true c35
                                    clear c35
                                    (first | rw [c35b0] | (simp only [i64_w, i32_w]; rw [c35b0]) | skip)
                                    by_cases c36 : x53_4 < (t163.length : Int)
                                    · rw [if_pos c36] at H
                                      have c36b0 : decide (x53_4 < (t163.length : Int)) = true := decide_eq_true c36
                                      clear c36
                                      by_cases c37 : 0 ≤ ((rd_T24 t163 x53_4).f0)
                                      · rw [if_pos c37] at H
                                        have c37b0 : decide (0 ≤ ((rd_T24 t163 x53_4).f0)) = true := decide_eq_true c37
                                        clear c37
                                        by_cases c38 : ((rd_T24 t163 x53_4).f0) < (l0.length : Int)
                                        · rw [if_pos c38] at H
                                          have c38b0 : decide (((rd_T24 t163 x53_4).f0) < (l0.length : Int)) = true := decide_eq_true c38
                                          clear c38
                                          by_cases c39 : ((decide (x53_4 < (l0.length : Int))) != (((rd_T24 t163 x53_4).f1) == ((rdOf ByteArray.empty l0 ((rd_T24 t163 x53_4).f0)).size : Int))) = true
                                          · rw [if_pos c39] at H
                                            have c39b0 : ((decide (x53_4 < (l0.length : Int))) != (((rd_T24 t163 x53_4).f1) == ((rdOf ByteArray.empty l0 ((rd_T24 t163 x53_4).f0)).size : Int))) = true := c39
                                            (try (have c39b1 : decide ((decide (x53_4 < (l0.length : Int))) = (((rd_T24 t163 x53_4).f1) == ((rdOf ByteArray.empty l0 ((rd_T24 t163 x53_4).f0)).size : Int))) = false := by simpa using c39))
                                            (try (have c39b2 : ((decide (x53_4 < (l0.length : Int))) == (((rd_T24 t163 x53_4).f1) == ((rdOf ByteArray.empty l0 ((rd_T24 t163 x53_4).f0)).size : Int))) = false := by simpa using c39))
                                            (try (have c39b3 : ¬ ((decide (x53_4 < (l0.length : Int))) = (((rd_T24 t163 x53_4).f1) == ((rdOf ByteArray.empty l0 ((rd_T24 t163 x53_4).f0)).size : Int))) := by simpa using c39))
                                            clear c39
                                            have H' := Aside0.mk H
                                            clear H
                                            have p172 : 0 ≤ (x53_4 : Int) := of_decide_eq_true (by first | (with_reducible assumption) | assumption)
                                            have q172 : x53_4 < (t163.length : Int) := of_decide_eq_true (by first | (with_reducible assumption) | assumption)
                                            obtain ⟨ad172, e172, hx172_0, hx172_1⟩ := at_T24 (Kd.R_reads' HO_3.out).2.2 x53_4 p172 q172
                                            cases e172
                                            replace p172 := eq_true p172
                                            replace q172 := eq_true q172
                                            have p173 : 0 ≤ (x53_4 : Int) := of_decide_eq_true (by first | (with_reducible assumption) | assumption)
                                            have q173 : x53_4 < (t163.length : Int) := of_decide_eq_true (by first | (with_reducible assumption) | assumption)
                                            obtain ⟨ad173, e173, hx173_0, hx173_1⟩ := at_T24 (Kd.R_reads' HO_3.out).2.2 x53_4 p173 q173
                                            obtain rfl : ad172 = ad173 := (by injection e173)
                                            replace p173 := eq_true p173
                                            replace q173 := eq_true q173
                                            have p174 : 0 ≤ (((rd_T24 t163 x53_4).f0) : Int) := of_decide_eq_true (by first | (with_reducible assumption) | assumption)
                                            have q174 : ((rd_T24 t163 x53_4).f0) < (l0.length : Int) := of_decide_eq_true (by first | (with_reducible assumption) | assumption)
                                            obtain ⟨ad174, e174, hx174_0⟩ := Kd.at_string HR0.out ((rd_T24 t163 x53_4).f0) p174 q174
                                            cases e174
                                            replace hx174_0 := (HB.out.cell (World.block_lt_of_cell? w _ hx174_0)).trans hx174_0
                                            replace p174 := eq_true p174
                                            replace q174 := eq_true q174
                                            go_wp2
                                            repeat (go_quiet (fail); try go_wp2)
                                            go_meet
                                            case rel => exact ⟨_, (true), (by first | rfl | (simp; done) | (simp [*]; done)), H', ⟨by have := HJ1.out; have := HK2.out; have := HJ20.out; have := HK4.out; have := HJ28.out; first | omega | exact Nat.le_refl _⟩, ⟨by (with_reducible repeat (first | apply Kd.R_alloc | apply Kd.R_drewN | apply Kd.R_drew)); exact HO_3.out⟩, ⟨by (with_reducible repeat (first | apply Kd.R_alloc | apply Kd.R_drewN | apply Kd.R_drew)); exact HO_4.out⟩, ⟨by repeat (first | (with_reducible first | exact HB.out | apply below_alloc | apply pw_below_drewN | apply below_drew1) | exact HB.out)⟩⟩
                                          · rw [if_neg c39] at H
                                            have c39b0 : ((decide (x53_4 < (l0.length : Int))) != (((rd_T24 t163 x53_4).f1) == ((rdOf ByteArray.empty l0 ((rd_T24 t163 x53_4).f0)).size : Int))) = false := by simpa using c39
                                            (try (have c39b1 : decide ((decide (x53_4 < (l0.length : Int))) = (((rd_T24 t163 x53_4).f1) == ((rdOf ByteArray.empty l0 ((rd_T24 t163 x53_4).f0)).size : Int))) = true := by simpa using c39))
                                            (try (have c39b2 : ((decide (x53_4 < (l0.length : Int))) == (((rd_T24 t163 x53_4).f1) == ((rdOf ByteArray.empty l0 ((rd_T24 t163 x53_4).f0)).size : Int))) = true := by simpa using c39))
                                            clear c39
                                            by_cases c40 : x53_4 < (l0.length : Int)
                                            · rw [if_pos c40] at H
                                              have c40b0 : decide (x53_4 < (l0.length : Int)) = true := decide_eq_true c40
                                              have c39z : (((rd_T24 t163 x53_4).f1) == ((rdOf ByteArray.empty l0 ((rd_T24 t163 x53_4).f0)).size : Int)) = true := by
                                                have h := c39b0
                                                rw [c40b0] at h
                                                revert h
                                                cases (((rd_T24 t163 x53_4).f1) == ((rdOf ByteArray.empty l0 ((rd_T24 t163 x53_4).f0)).size : Int)) <;> simp
                                              clear c40
                                              have H' := Aside0.mk H
                                              clear H
                                              have p172 : 0 ≤ (x53_4 : Int) := of_decide_eq_true (by first | (with_reducible assumption) | assumption)
                                              have q172 : x53_4 < (t163.length : Int) := of_decide_eq_true (by first | (with_reducible assumption) | assumption)
                                              obtain ⟨ad172, e172, hx172_0, hx172_1⟩ := at_T24 (Kd.R_reads' HO_3.out).2.2 x53_4 p172 q172
                                              cases e172
                                              replace p172 := eq_true p172
                                              replace q172 := eq_true q172
                                              have p173 : 0 ≤ (x53_4 : Int) := of_decide_eq_true (by first | (with_reducible assumption) | assumption)
                                              have q173 : x53_4 < (t163.length : Int) := of_decide_eq_true (by first | (with_reducible assumption) | assumption)
                                              obtain ⟨ad173, e173, hx173_0, hx173_1⟩ := at_T24 (Kd.R_reads' HO_3.out).2.2 x53_4 p173 q173
                                              obtain rfl : ad172 = ad173 := (by injection e173)
                                              replace p173 := eq_true p173
                                              replace q173 := eq_true q173
                                              have p174 : 0 ≤ (((rd_T24 t163 x53_4).f0) : Int) := of_decide_eq_true (by first | (with_reducible assumption) | assumption)
                                              have q174 : ((rd_T24 t163 x53_4).f0) < (l0.length : Int) := of_decide_eq_true (by first | (with_reducible assumption) | assumption)
                                              obtain ⟨ad174, e174, hx174_0⟩ := Kd.at_string HR0.out ((rd_T24 t163 x53_4).f0) p174 q174
                                              cases e174
                                              replace hx174_0 := (HB.out.cell (World.block_lt_of_cell? w _ hx174_0)).trans hx174_0
                                              replace p174 := eq_true p174
                                              replace q174 := eq_true q174
                                              have p175 : 0 ≤ (x53_4 : Int) := of_decide_eq_true (by first | (with_reducible assumption) | assumption)
                                              have q175 : x53_4 < (t163.length : Int) := of_decide_eq_true (by first | (with_reducible assumption) | assumption)
                                              obtain ⟨ad175, e175, hx175_0, hx175_1⟩ := at_T24 (Kd.R_reads' HO_3.out).2.2 x53_4 p175 q175
                                              obtain rfl : ad172 = ad175 := (by injection e175)
                                              replace p175 := eq_true p175
                                              replace q175 := eq_true q175
                                              go_wp2
                                              repeat (go_quiet (fail); try go_wp2)
                                              go_meet
                                              case rel => exact ⟨_, ((((rd_T24 t163 x53_4).f0) != x53_4)), (by first | rfl | (simp; done) | (simp [*]; done)), H', ⟨by have := HJ1.out; have := HK2.out; have := HJ20.out; have := HK4.out; have := HJ28.out; first | omega | exact Nat.le_refl _⟩, ⟨by (with_reducible repeat (first | apply Kd.R_alloc | apply Kd.R_drewN | apply Kd.R_drew)); exact HO_3.out⟩, ⟨by (with_reducible repeat (first | apply Kd.R_alloc | apply Kd.R_drewN | apply Kd.R_drew)); exact HO_4.out⟩, ⟨by repeat (first | (with_reducible first | exact HB.out | apply below_alloc | apply pw_below_drewN | apply below_drew1) | exact HB.out)⟩⟩
                                            · rw [if_neg c40] at H
                                              have c40b0 : decide (x53_4 < (l0.length : Int)) = false := decide_eq_false c40
                                              have c39z : (((rd_T24 t163 x53_4).f1) == ((rdOf ByteArray.empty l0 ((rd_T24 t163 x53_4).f0)).size : Int)) = false := by
                                                have h := c39b0
                                                rw [c40b0] at h
                                                revert h
                                                cases (((rd_T24 t163 x53_4).f1) == ((rdOf ByteArray.empty l0 ((rd_T24 t163 x53_4).f0)).size : Int)) <;> simp
                                              clear c40
                                              have H' := Aside0.mk H
                                              clear H
                                              have p172 : 0 ≤ (x53_4 : Int) := of_decide_eq_true (by first | (with_reducible assumption) | assumption)
                                              have q172 : x53_4 < (t163.length : Int) := of_decide_eq_true (by first | (with_reducible assumption) | assumption)
                                              obtain ⟨ad172, e172, hx172_0, hx172_1⟩ := at_T24 (Kd.R_reads' HO_3.out).2.2 x53_4 p172 q172
                                              cases e172
                                              replace p172 := eq_true p172
                                              replace q172 := eq_true q172
                                              have p173 : 0 ≤ (x53_4 : Int) := of_decide_eq_true (by first | (with_reducible assumption) | assumption)
                                              have q173 : x53_4 < (t163.length : Int) := of_decide_eq_true (by first | (with_reducible assumption) | assumption)
                                              obtain ⟨ad173, e173, hx173_0, hx173_1⟩ := at_T24 (Kd.R_reads' HO_3.out).2.2 x53_4 p173 q173
                                              obtain rfl : ad172 = ad173 := (by injection e173)
                                              replace p173 := eq_true p173
                                              replace q173 := eq_true q173
                                              have p174 : 0 ≤ (((rd_T24 t163 x53_4).f0) : Int) := of_decide_eq_true (by first | (with_reducible assumption) | assumption)
                                              have q174 : ((rd_T24 t163 x53_4).f0) < (l0.length : Int) := of_decide_eq_true (by first | (with_reducible assumption) | assumption)
                                              obtain ⟨ad174, e174, hx174_0⟩ := Kd.at_string HR0.out ((rd_T24 t163 x53_4).f0) p174 q174
                                              cases e174
                                              replace hx174_0 := (HB.out.cell (World.block_lt_of_cell? w _ hx174_0)).trans hx174_0
                                              replace p174 := eq_true p174
                                              replace q174 := eq_true q174
                                              go_wp2
                                              repeat (go_quiet (fail); try go_wp2)
                                              go_meet
                                              case rel => exact ⟨_, (false), (by first | rfl | (simp; done) | (simp [*]; done)), H', ⟨by have := HJ1.out; have := HK2.out; have := HJ20.out; have := HK4.out; have := HJ28.out; first | omega | exact Nat.le_refl _⟩, ⟨by (with_reducible repeat (first | apply Kd.R_alloc | apply Kd.R_drewN | apply Kd.R_drew)); exact HO_3.out⟩, ⟨by (with_reducible repeat (first | apply Kd.R_alloc | apply Kd.R_drewN | apply Kd.R_drew)); exact HO_4.out⟩, ⟨by repeat (first | (with_reducible first | exact HB.out | apply below_alloc | apply pw_below_drewN | apply below_drew1) | exact HB.out)⟩⟩
                                        · rw [if_neg c38] at H
                                          exact absurd H (by simp)
                                      · rw [if_neg c37] at H
                                        exact absurd H (by simp)
                                    · rw [if_neg c36] at H
                                      exact absurd H (by simp)
                                  · rw [if_neg c35] at H
                                    exact absurd H (by simp)
                                case rest =>
                                  clear HC34
                                  try clear c1
                                  try clear p1
                                  try clear q1
                                  try clear hx1
                                  try clear c2
                                  try clear p2
                                  try clear c3
                                  try clear c4
                                  try clear c5
                                  try clear c6
                                  try clear p6
                                  try clear c11
                                  try clear p16
                                  try clear q16
                                  try clear hx16
                                  try clear p17
                                  try clear q17
                                  try clear hx17
                                  try clear c18
                                  try clear c18b0
                                  try clear c19
                                  try clear c19b0
                                  try clear c20
                                  try clear c20b0
                                  try clear c22
                                  try clear c22b0
                                  try clear c22b1
                                  try clear c26
                                  try clear c28
                                  try clear c28b0
                                  try clear c30
                                  try clear c30b0
                                  try clear c31
                                  try clear c31b0
                                  try clear c32
                                  try clear c32b0
                                  try clear c33
                                  try clear c35
                                  try clear c35b0
                                  try clear c36
                                  try clear c36b0
                                  try clear c37
                                  try clear c37b0
                                  try clear c38
                                  try clear c38b0
                                  try clear c39
                                  try clear c39b0
                                  try clear c39b1
                                  try clear c39b2
                                  try clear c40
                                  try clear c40b0
                                  try clear hx169_0
                                  try clear hx170_0
                                  try clear hx170_1
                                  try clear hx171_0
                                  try clear hx171_1
                                  try clear hx172_0
                                  try clear hx172_1
                                  try clear hx173_0
                                  try clear hx173_1
                                  try clear hx174_0
                                  try clear hx175_0
                                  try clear hx175_1
                                  try clear p1
                                  try clear p16
                                  try clear p169
                                  try clear p17
                                  try clear p170
                                  try clear p171
                                  try clear p172
                                  try clear p173
                                  try clear p174
                                  try clear p175
                                  try clear p2
                                  try clear p6
                                  try clear q1
                                  try clear q16
                                  try clear q169
                                  try clear q17
                                  try clear q170
                                  try clear q171
                                  try clear q172
                                  try clear q173
                                  try clear q174
                                  try clear q175
                                  obtain ⟨kq, x106_33, rfl, HA, HJ33, HO_3, HO_4, HB⟩ := hcut
                                  cases kq with
                                  | zero => exact absurd HA.out (by simp [scriniumlaw3_RowsTerminators.j5])
                                  | succ kj33 =>
                                    have H := HA.out
                                    clear HA
                                    simp only [scriniumlaw3_RowsTerminators.j5] at H
                                    by_cases c41 : x106_33 = true
                                    · subst c41
                                      have H1 : (some false) = some r := by rw [if_pos rfl] at H; exact H
                                      clear H
                                      have H := H1
                                      clear H1
                                      obtain rfl := Option.some.inj H
                                      go_wp2
                                      repeat (go_quiet (fail); try go_wp2)
                                      go_ret
                                      exact ⟨by first | rfl | (simp [errW_none, errW_some] <;> rfl) | (simp [*, errW_none, errW_some] <;> rfl), by repeat (first | (with_reducible first | exact HB.out | apply below_alloc | apply pw_below_drewN | apply below_drew1) | exact HB.out)⟩
                                    · replace c41 := Bool.eq_false_iff.mpr c41
                                      subst c41
                                      have H1 : (if 0 ≤ x53_4 then (if x53_4 < (t166.length : Int) then (if (rd t166 x53_4) = 0 then (scriniumlaw3_RowsTerminators.l1 kj33 l0 t163 t166 (wrap64 (x7_4 + 1)) (t163.length : Int) (wrap64 (x53_4 + 1))) else (scriniumlaw3_RowsTerminators.l1 kj33 l0 t163 t166 x7_4 (t163.length : Int) (wrap64 (x53_4 + 1)))) else (none)) else (none)) = some r := by rw [if_neg (show ¬ (false = true) by decide)] at H; exact H
                                      clear H
                                      have H := H1
                                      clear H1
                                      by_cases c42 : 0 ≤ x53_4
                                      · rw [if_pos c42] at H
                                        have c42b0 : decide (0 ≤ x53_4) = true := decide_eq_true c42
                                        clear c42
                                        by_cases c43 : x53_4 < (t166.length : Int)
                                        · rw [if_pos c43] at H
                                          have c43b0 : decide (x53_4 < (t166.length : Int)) = true := decide_eq_true c43
                                          clear c43
                                          by_cases c44 : (rd t166 x53_4) = 0
                                          · rw [if_pos c44] at H
                                            have c44b0 : ((rd t166 x53_4) == 0) = true := beq_iff_eq.mpr c44
                                            have c44b1 : ((rd t166 x53_4) != 0) = false := bne_eq_false_iff_eq.mpr c44
                                            clear c44
                                            have H' := Aside0.mk H
                                            clear H
                                            obtain ⟨Ao45, co45, eo45⟩ := Kd.R_slice HO_4.out
                                            subst eo45
                                            have p176 : 0 ≤ (x53_4 : Int) := of_decide_eq_true (by first | (with_reducible assumption) | assumption)
                                            have q176 : x53_4 < (t166.length : Int) := of_decide_eq_true (by first | (with_reducible assumption) | assumption)
                                            obtain ⟨ad176, e176, hx176_0⟩ := Kd.at_int (Kd.R_reads' HO_4.out).2.2 x53_4 p176 q176
                                            cases e176
                                            replace p176 := eq_true p176
                                            replace q176 := eq_true q176
                                            go_wp2
                                            repeat (go_quiet (fail); try go_wp2)
                                            go_roundg kj33
                                            case measure => have := HJ1.out; have := HK2.out; have := HJ20.out; have := HK4.out; have := HJ28.out; have := HJ33.out; omega
                                            case rel => exact ⟨(wrap64 (x7_4 + 1)), (wrap64 (x53_4 + 1)), (by first | rfl | (simp; done) | (simp [*]; done)), (by first | rfl | (simp; done) | (simp [*]; done)), H', ⟨by have := HJ1.out; have := HK2.out; have := HJ20.out; have := HK4.out; have := HJ28.out; have := HJ33.out; omega⟩, ⟨by (with_reducible repeat (first | apply Kd.R_alloc | apply Kd.R_drewN | apply Kd.R_drew)); exact HO_3.out⟩, ⟨by (with_reducible repeat (first | apply Kd.R_alloc | apply Kd.R_drewN | apply Kd.R_drew)); exact HO_4.out⟩, ⟨by repeat (first | (with_reducible first | exact HB.out | apply below_alloc | apply pw_below_drewN | apply below_drew1) | exact HB.out)⟩⟩
                                          · rw [if_neg c44] at H
                                            have c44b0 : ((rd t166 x53_4) == 0) = false := beq_eq_false_iff_ne.mpr c44
                                            have c44b1 : ((rd t166 x53_4) != 0) = true := bne_iff_ne.mpr c44
                                            have H' := Aside0.mk H
                                            clear H
                                            obtain ⟨Ao46, co46, eo46⟩ := Kd.R_slice HO_4.out
                                            subst eo46
                                            have p176 : 0 ≤ (x53_4 : Int) := of_decide_eq_true (by first | (with_reducible assumption) | assumption)
                                            have q176 : x53_4 < (t166.length : Int) := of_decide_eq_true (by first | (with_reducible assumption) | assumption)
                                            obtain ⟨ad176, e176, hx176_0⟩ := Kd.at_int (Kd.R_reads' HO_4.out).2.2 x53_4 p176 q176
                                            cases e176
                                            replace p176 := eq_true p176
                                            replace q176 := eq_true q176
                                            go_wp2
                                            repeat (go_quiet (fail); try go_wp2)
                                            go_roundg kj33
                                            case measure => have := HJ1.out; have := HK2.out; have := HJ20.out; have := HK4.out; have := HJ28.out; have := HJ33.out; omega
                                            case rel => exact ⟨(x7_4), (wrap64 (x53_4 + 1)), (by first | rfl | (simp; done) | (simp [*]; done)), (by first | rfl | (simp; done) | (simp [*]; done)), H', ⟨by have := HJ1.out; have := HK2.out; have := HJ20.out; have := HK4.out; have := HJ28.out; have := HJ33.out; omega⟩, ⟨by (with_reducible repeat (first | apply Kd.R_alloc | apply Kd.R_drewN | apply Kd.R_drew)); exact HO_3.out⟩, ⟨by (with_reducible repeat (first | apply Kd.R_alloc | apply Kd.R_drewN | apply Kd.R_drew)); exact HO_4.out⟩, ⟨by repeat (first | (with_reducible first | exact HB.out | apply below_alloc | apply pw_below_drewN | apply below_drew1) | exact HB.out)⟩⟩
                                        · rw [if_neg c43] at H
                                          exact absurd H (by simp)
                                      · rw [if_neg c42] at H
                                        exact absurd H (by simp)
                        · rw [if_neg c28] at H
                          have c28b0 : decide (x53_4 < (t163.length : Int)) = false := decide_eq_false c28
                          clear c28
                          obtain rfl := Option.some.inj H
                          go_wp2
                          repeat (go_quiet (fail); try go_wp2)
                          go_ret
                          exact ⟨by first | rfl | (simp [errW_none, errW_some] <;> rfl) | (simp [*, errW_none, errW_some] <;> rfl), by repeat (first | (with_reducible first | exact HB.out | apply below_alloc | apply pw_below_drewN | apply below_drew1) | exact HB.out)⟩

end Go.Proofs.Ythoapfagcdbpeaa.P
