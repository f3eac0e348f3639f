-- Printed by myprint.py (a program of this session's, over the kit's print): P
import Derived.Test.YthoapfagcdbpeaaP0
import Derived.Test.YthoapfagcdbpeaaP2
import Derived.Test.YthoapfagcdbpeaaP3
import Derived.Test.YthoapfagcdbpeaaRowsA
namespace Go.Proofs.Ythoapfagcdbpeaa.P
open Go.RowKit Go.Proofs.YthoapfagcdbpeaaW.PrintWords Go.Proofs.YthoapfagcdbpeaaW.PrintLast Go.Proofs.YthoapfagcdbpeaaW.PrintMore
attribute [local go_sem] max2_int min2_int max_two min_two max_three min_three max_four min_four   -- for this text's walks alone
set_option linter.unusedVariables false
set_option linter.unusedSimpArgs false

/-! ### scriniumlaw3_RowsFirst: function 12 -/
mutual
def scriniumlaw3_RowsFirst.j0 : Nat → List ByteArray → Bool → Option (Bool)
  | 0, _, _ => none
  | k + 1, x0, x18 => if x18 = true then ((scriniumlaw3_alive.f k).bind fun t242 => (some t242)) else ((rows_Symbols.f k x0).bind fun t243 => (if (t243.length : Int) < (x0.length : Int) then (some false) else (scriniumlaw3_RowsFirst.l0 k t243 x0 (x0.length : Int) 0)))
def scriniumlaw3_RowsFirst.l0 : Nat → List Int → List ByteArray → Int → Int → Option (Bool)
  | 0, _, _, _, _ => none
  | k + 1, x3, x27, x28, x29 => if x29 < x28 then (if 0 ≤ x29 then (if x29 < (x27.length : Int) then (if (rdOf ByteArray.empty x27 x29).toList = ([] : List UInt8) then (if x29 < (x3.length : Int) then (if (rd x3 x29) = 0 then (scriniumlaw3_RowsFirst.l0 k x3 x27 x28 (wrap64 (x29 + 1))) else (some false)) else (none)) else (if 0 ≤ (wrap64 (((rdOf ByteArray.empty x27 x29).size : Int) - 1)) then (if (wrap64 (((rdOf ByteArray.empty x27 x29).size : Int) - 1)) < ((rdOf ByteArray.empty x27 x29).size : Int) then (if x29 < (x3.length : Int) then (if (rd x3 x29) = (wrap64 ((wrap64 (bt (rdOf ByteArray.empty x27 x29) (wrap64 (((rdOf ByteArray.empty x27 x29).size : Int) - 1)))) + 1)) then (scriniumlaw3_RowsFirst.l0 k x3 x27 x28 (wrap64 (x29 + 1))) else (some false)) else (none)) else (none)) else (none))) else (none)) else (none)) else (some true)
end
def scriniumlaw3_RowsFirst.f (k : Nat) (l0 : List ByteArray) : Option (Bool) := (scriniumlaw3_Few.f k l0).bind fun t239 => (if t239 = true then ((rows_Right.f l0).bind fun t240 => (if t240 = true then ((scriniumlaw3_alive.f k).bind fun t241 => (scriniumlaw3_RowsFirst.j0 k l0 (!t241))) else (scriniumlaw3_RowsFirst.j0 k l0 true))) else (scriniumlaw3_RowsFirst.j0 k l0 true))
theorem scriniumlaw3_RowsFirst.mono_l : ∀ k, (∀ y0 y1, LeO (scriniumlaw3_RowsFirst.j0 k y0 y1) (scriniumlaw3_RowsFirst.j0 (k + 1) y0 y1)) ∧ (∀ y0 y1 y2 y3, LeO (scriniumlaw3_RowsFirst.l0 k y0 y1 y2 y3) (scriniumlaw3_RowsFirst.l0 (k + 1) y0 y1 y2 y3))
  | 0 => ⟨fun _ _ r h => by simp [scriniumlaw3_RowsFirst.j0] at h, fun _ _ _ _ r h => by simp [scriniumlaw3_RowsFirst.l0] at h⟩
  | k + 1 => by
    obtain ⟨ih0, ih1⟩ := scriniumlaw3_RowsFirst.mono_l k
    refine ⟨?_, ?_⟩
    · intro y0 y1
      unfold scriniumlaw3_RowsFirst.j0
      repeat' first
      | (with_reducible exact ih0 _ _)
      | (with_reducible exact ih1 _ _ _ _)
      | (with_reducible exact rows_Symbols.mono _ _)
      | (with_reducible exact scriniumlaw3_Few.mono _ _)
      | (with_reducible exact scriniumlaw3_alive.mono _)
      | (with_reducible exact LeO.refl _)
      | (with_reducible exact LeO.none _)
      | (with_reducible refine LeO.ite ?_ ?_)
      | (with_reducible refine LeO.bind ?_ (fun _ => ?_))
      | exact ih0 _ _
      | exact ih1 _ _ _ _
      | exact rows_Symbols.mono _ _
      | exact scriniumlaw3_Few.mono _ _
      | exact scriniumlaw3_alive.mono _
      | exact LeO.none _
      | refine LeO.ite ?_ ?_
      | refine LeO.bind ?_ (fun _ => ?_)
    · intro y0 y1 y2 y3
      unfold scriniumlaw3_RowsFirst.l0
      repeat' first
      | (with_reducible exact ih0 _ _)
      | (with_reducible exact ih1 _ _ _ _)
      | (with_reducible exact rows_Symbols.mono _ _)
      | (with_reducible exact scriniumlaw3_Few.mono _ _)
      | (with_reducible exact scriniumlaw3_alive.mono _)
      | (with_reducible exact LeO.refl _)
      | (with_reducible exact LeO.none _)
      | (with_reducible refine LeO.ite ?_ ?_)
      | (with_reducible refine LeO.bind ?_ (fun _ => ?_))
      | exact ih0 _ _
      | exact ih1 _ _ _ _
      | exact rows_Symbols.mono _ _
      | exact scriniumlaw3_Few.mono _ _
      | exact scriniumlaw3_alive.mono _
      | exact LeO.none _
      | refine LeO.ite ?_ ?_
      | refine LeO.bind ?_ (fun _ => ?_)
theorem scriniumlaw3_RowsFirst.mono : ∀ a0 k, LeO (scriniumlaw3_RowsFirst.f k a0) (scriniumlaw3_RowsFirst.f (k + 1) a0) := by
  intro a0 k
  obtain ⟨ih0, ih1⟩ := scriniumlaw3_RowsFirst.mono_l k
  unfold scriniumlaw3_RowsFirst.f
  repeat' first
      | (with_reducible exact ih0 _ _)
      | (with_reducible exact ih1 _ _ _ _)
      | (with_reducible exact rows_Symbols.mono _ _)
      | (with_reducible exact scriniumlaw3_Few.mono _ _)
      | (with_reducible exact scriniumlaw3_alive.mono _)
      | (with_reducible exact LeO.refl _)
      | (with_reducible exact LeO.none _)
      | (with_reducible refine LeO.ite ?_ ?_)
      | (with_reducible refine LeO.bind ?_ (fun _ => ?_))
      | exact ih0 _ _
      | exact ih1 _ _ _ _
      | exact rows_Symbols.mono _ _
      | exact scriniumlaw3_Few.mono _ _
      | exact scriniumlaw3_alive.mono _
      | exact LeO.none _
      | refine LeO.ite ?_ ?_
      | refine LeO.bind ?_ (fun _ => ?_)
set_option maxHeartbeats 8000000 in
set_option maxRecDepth 100000 in
theorem scriniumlaw3_RowsFirst.calls (k : Nat) (A0 : Option Addr) (c0 : Nat) (l0 : List ByteArray) (r : Bool) (w : World) (hr0 : Kd.C Kd.string w A0 l0.length l0) (hc0 : l0.length ≤ c0) (h : scriniumlaw3_RowsFirst.f k l0 = some r) :
    Calls Try.prog 12 #[.slice A0 l0.length c0] w fun e w' => e = .returned (.bool r) ∧ Below w.heap.size w w' := by
  have HR0 := Aside0.mk hr0
  have HC0 := Aside0.mk hc0
  clear hr0 hc0
  have HB := Aside0.mk (Below.refl w.heap.size w)
  have H : ((scriniumlaw3_Few.f k l0).bind fun t239 => (if t239 = true then ((rows_Right.f l0).bind fun t240 => (if t240 = true then ((scriniumlaw3_alive.f k).bind fun t241 => (scriniumlaw3_RowsFirst.j0 k l0 (!t241))) else (scriniumlaw3_RowsFirst.j0 k l0 true))) else (scriniumlaw3_RowsFirst.j0 k l0 true))) = some r := h
  clear h
  have HC2 := Aside0.mk H
  clear H
  go_enter Try.func12, Try.ntmps12
  go_upto_region 1 with (fail)
  go_cut [18] (fun v18 wc => ∃ (kq : Nat) (x18_1 : Bool), v18 = .bool x18_1 ∧ Aside0 (scriniumlaw3_RowsFirst.j0 kq l0 x18_1 = some r) ∧ Aside0 (kq ≤ k) ∧ Aside0 (Below w.heap.size w wc))
  case first =>
    have H := HC2.out
    clear HC2
    replace H := Option.bind_eq_some_iff.mp H
    obtain ⟨t239, A30, H⟩ := H
    replace H : (if t239 = true then ((rows_Right.f l0).bind fun t240 => (if t240 = true then ((scriniumlaw3_alive.f k).bind fun t241 => (scriniumlaw3_RowsFirst.j0 k l0 (!t241))) else (scriniumlaw3_RowsFirst.j0 k l0 true))) else (scriniumlaw3_RowsFirst.j0 k l0 true)) = some r := H
    have A3 := Aside0.mk A30
    clear A30
    by_cases c4 : t239 = true
    · subst c4
      have H1 : ((rows_Right.f l0).bind fun t240 => (if t240 = true then ((scriniumlaw3_alive.f k).bind fun t241 => (scriniumlaw3_RowsFirst.j0 k l0 (!t241))) else (scriniumlaw3_RowsFirst.j0 k l0 true))) = some r := by rw [if_pos rfl] at H; exact H
      clear H
      have H := H1
      clear H1
      replace H := Option.bind_eq_some_iff.mp H
      obtain ⟨t240, A50, H⟩ := H
      replace H : (if t240 = true then ((scriniumlaw3_alive.f k).bind fun t241 => (scriniumlaw3_RowsFirst.j0 k l0 (!t241))) else (scriniumlaw3_RowsFirst.j0 k l0 true)) = some r := H
      have A5 := Aside0.mk A50
      clear A50
      by_cases c6 : t240 = true
      · subst c6
        have H1 : ((scriniumlaw3_alive.f k).bind fun t241 => (scriniumlaw3_RowsFirst.j0 k l0 (!t241))) = some r := by rw [if_pos rfl] at H; exact H
        clear H
        have H := H1
        clear H1
        replace H := Option.bind_eq_some_iff.mp H
        obtain ⟨t241, A70, H⟩ := H
        replace H : (scriniumlaw3_RowsFirst.j0 k l0 (!t241)) = some r := H
        have A7 := Aside0.mk A70
        clear A70
        have H' := Aside0.mk H
        clear H
        go_wp2_with (first | ((with_reducible refine gate_callee (f := 13) rfl ?_); refine goesL_ (some 8) rfl rfl Try.func13 (by kernel_rfl) rfl #[.slice A0 l0.length c0] rfl (by (try simp only [List.map_toArray, List.map_cons, List.map_nil]); first | done | rfl | (simp only [List.length_drop, List.length_take]; rfl)) ?_; (with_reducible refine (scriniumlaw3_Few.calls k _ _ l0 true _ ?side1 ?side2 A3.out).mono ?_); (case side1 => repeat (first | exact (Kd.C_below HR0.out HB.out) | (with_reducible refine Kd.C_alloc ?_ _) | (with_reducible refine Kd.C_drewN ?_ _) | (with_reducible refine Kd.C_drew ?_))); (case side2 => exact HC0.out); rintro e w' ⟨rfl, ⟨nd, rfl⟩⟩; refine ⟨_, rfl, ?_⟩) | (go_at_call 26; (with_reducible refine (rows_Right.calls _ _ l0 true _ ?side1 ?side2 A5.out).mono ?_); (case side1 => repeat (first | exact (Kd.C_below HR0.out (by repeat (first | (with_reducible first | exact HB.out | apply below_alloc | apply pw_below_drewN | apply below_drew1) | exact HB.out))) | (with_reducible refine Kd.C_alloc ?_ _) | (with_reducible refine Kd.C_drewN ?_ _) | (with_reducible refine Kd.C_drew ?_))); (case side2 => exact HC0.out); rintro e w8 ⟨rfl, hb⟩; have n0_ := Aside0.mk (below_step (by repeat (first | (with_reducible first | exact HB.out | apply below_alloc | apply pw_below_drewN | apply below_drew1) | exact HB.out)) hb); clear HB; have HB := n0_; clear n0_; (try clear hb); (try clear hb2); (try clear hk); (try clear hi)) | (go_at_call 14; (with_reducible refine (scriniumlaw3_alive.calls k  t241 _ A7.out).mono ?_); rintro e w9 ⟨rfl, hb⟩; have n0_ := Aside0.mk (below_step (by repeat (first | (with_reducible first | exact HB.out | apply below_alloc | apply pw_below_drewN | apply below_drew1) | exact HB.out)) hb); clear HB; have HB := n0_; clear n0_; (try clear hb); (try clear hb2); (try clear hk); (try clear hi)))
        go_meet
        case rel => exact ⟨_, (!t241), (by first | rfl | (simp; done) | (simp [*]; done)), H', ⟨by first | omega | exact Nat.le_refl _⟩, ⟨by repeat (first | (with_reducible first | exact HB.out | apply below_alloc | apply pw_below_drewN | apply below_drew1) | exact HB.out)⟩⟩
      · replace c6 := Bool.eq_false_iff.mpr c6
        subst c6
        have H1 : (scriniumlaw3_RowsFirst.j0 k l0 true) = some r := by rw [if_neg (show ¬ (false = true) by decide)] at H; exact H
        clear H
        have H := H1
        clear H1
        have H' := Aside0.mk H
        clear H
        go_wp2_with (first | ((with_reducible refine gate_callee (f := 13) rfl ?_); refine goesL_ (some 8) rfl rfl Try.func13 (by kernel_rfl) rfl #[.slice A0 l0.length c0] rfl (by (try simp only [List.map_toArray, List.map_cons, List.map_nil]); first | done | rfl | (simp only [List.length_drop, List.length_take]; rfl)) ?_; (with_reducible refine (scriniumlaw3_Few.calls k _ _ l0 true _ ?side1 ?side2 A3.out).mono ?_); (case side1 => repeat (first | exact (Kd.C_below HR0.out HB.out) | (with_reducible refine Kd.C_alloc ?_ _) | (with_reducible refine Kd.C_drewN ?_ _) | (with_reducible refine Kd.C_drew ?_))); (case side2 => exact HC0.out); rintro e w' ⟨rfl, ⟨nd, rfl⟩⟩; refine ⟨_, rfl, ?_⟩) | (go_at_call 26; (with_reducible refine (rows_Right.calls _ _ l0 false _ ?side1 ?side2 A5.out).mono ?_); (case side1 => repeat (first | exact (Kd.C_below HR0.out (by repeat (first | (with_reducible first | exact HB.out | apply below_alloc | apply pw_below_drewN | apply below_drew1) | exact HB.out))) | (with_reducible refine Kd.C_alloc ?_ _) | (with_reducible refine Kd.C_drewN ?_ _) | (with_reducible refine Kd.C_drew ?_))); (case side2 => exact HC0.out); rintro e w10 ⟨rfl, hb⟩; have n0_ := Aside0.mk (below_step (by repeat (first | (with_reducible first | exact HB.out | apply below_alloc | apply pw_below_drewN | apply below_drew1) | exact HB.out)) hb); clear HB; have HB := n0_; clear n0_; (try clear hb); (try clear hb2); (try clear hk); (try clear hi)))
        go_meet
        case rel => exact ⟨_, (true), (by first | rfl | (simp; done) | (simp [*]; done)), H', ⟨by first | omega | exact Nat.le_refl _⟩, ⟨by repeat (first | (with_reducible first | exact HB.out | apply below_alloc | apply pw_below_drewN | apply below_drew1) | exact HB.out)⟩⟩
    · replace c4 := Bool.eq_false_iff.mpr c4
      subst c4
      have H1 : (scriniumlaw3_RowsFirst.j0 k l0 true) = some r := by rw [if_neg (show ¬ (false = true) by decide)] at H; exact H
      clear H
      have H := H1
      clear H1
      have H' := Aside0.mk H
      clear H
      go_wp2_with (first | ((with_reducible refine gate_callee (f := 13) rfl ?_); refine goesL_ (some 8) rfl rfl Try.func13 (by kernel_rfl) rfl #[.slice A0 l0.length c0] rfl (by (try simp only [List.map_toArray, List.map_cons, List.map_nil]); first | done | rfl | (simp only [List.length_drop, List.length_take]; rfl)) ?_; (with_reducible refine (scriniumlaw3_Few.calls k _ _ l0 false _ ?side1 ?side2 A3.out).mono ?_); (case side1 => repeat (first | exact (Kd.C_below HR0.out HB.out) | (with_reducible refine Kd.C_alloc ?_ _) | (with_reducible refine Kd.C_drewN ?_ _) | (with_reducible refine Kd.C_drew ?_))); (case side2 => exact HC0.out); rintro e w' ⟨rfl, ⟨nd, rfl⟩⟩; refine ⟨_, rfl, ?_⟩))
      go_meet
      case rel => exact ⟨_, (true), (by first | rfl | (simp; done) | (simp [*]; done)), H', ⟨by first | omega | exact Nat.le_refl _⟩, ⟨by repeat (first | (with_reducible first | exact HB.out | apply below_alloc | apply pw_below_drewN | apply below_drew1) | exact HB.out)⟩⟩
  case rest =>
    clear HC2
    try clear c1
    try clear p2
    try clear c4
    try clear c6
    obtain ⟨kq, x18_1, rfl, HA, HJ1, HB⟩ := hcut
    cases kq with
    | zero => exact absurd HA.out (by simp [scriniumlaw3_RowsFirst.j0])
    | succ kj1 =>
      have H := HA.out
      clear HA
      simp only [scriniumlaw3_RowsFirst.j0] at H
      by_cases c11 : x18_1 = true
      · subst c11
        have H1 : ((scriniumlaw3_alive.f kj1).bind fun t242 => (some t242)) = some r := by rw [if_pos rfl] at H; exact H
        clear H
        have H := H1
        clear H1
        replace H := Option.bind_eq_some_iff.mp H
        obtain ⟨t242, A120, H⟩ := H
        replace H : (some t242) = some r := H
        have A12 := Aside0.mk A120
        clear A120
        obtain rfl := Option.some.inj H
        go_wp2_with (first | ((with_reducible refine gate_callee (f := 14) rfl ?_); refine goesL_ (some 19) rfl rfl Try.func14 (by kernel_rfl) rfl #[] rfl (by (try simp only [List.map_toArray, List.map_cons, List.map_nil]); first | done | rfl | (simp only [List.length_drop, List.length_take]; rfl)) ?_; (with_reducible refine (scriniumlaw3_alive.calls kj1  t242 _ A12.out).mono ?_); rintro e w13 ⟨rfl, hb⟩; refine ⟨_, rfl, ?_⟩; have n0_ := Aside0.mk (below_step (by repeat (first | (with_reducible first | exact HB.out | apply below_alloc | apply pw_below_drewN | apply below_drew1) | exact HB.out)) hb); clear HB; have HB := n0_; clear n0_; (try clear hb); (try clear hb2); (try clear hk); (try clear hi)))
        go_ret
        exact ⟨by first | rfl | (simp [errW_none, errW_some] <;> rfl) | (simp [*, errW_none, errW_some] <;> rfl), by repeat (first | (with_reducible first | exact HB.out | apply below_alloc | apply pw_below_drewN | apply below_drew1) | exact HB.out)⟩
      · replace c11 := Bool.eq_false_iff.mpr c11
        subst c11
        have H1 : ((rows_Symbols.f kj1 l0).bind fun t243 => (if (t243.length : Int) < (l0.length : Int) then (some false) else (scriniumlaw3_RowsFirst.l0 kj1 t243 l0 (l0.length : Int) 0))) = some r := by rw [if_neg (show ¬ (false = true) by decide)] at H; exact H
        clear H
        have H := H1
        clear H1
        replace H := Option.bind_eq_some_iff.mp H
        obtain ⟨t243, A140, H⟩ := H
        replace H : (if (t243.length : Int) < (l0.length : Int) then (some false) else (scriniumlaw3_RowsFirst.l0 kj1 t243 l0 (l0.length : Int) 0)) = some r := H
        have A14 := Aside0.mk A140
        clear A140
        by_cases c15 : (t243.length : Int) < (l0.length : Int)
        · rw [if_pos c15] at H
          have c15b0 : decide ((t243.length : Int) < (l0.length : Int)) = true := decide_eq_true c15
          have c15b1 : decide (t243.length < l0.length) = true := decide_eq_true (Int.ofNat_lt.mp c15)
          clear c15
          obtain rfl := Option.some.inj H
          go_wp2_with (first | ((with_reducible refine gate_callee (f := 17) rfl ?_); refine goesL_ (some 21) rfl rfl Try.func17 (by kernel_rfl) rfl #[.slice A0 l0.length c0] rfl (by (try simp only [List.map_toArray, List.map_cons, List.map_nil]); first | done | rfl | (simp only [List.length_drop, List.length_take]; rfl)) ?_; (with_reducible refine (rows_Symbols.calls kj1 _ _ l0 t243 _ ?side1 ?side2 A14.out).mono ?_); (case side1 => repeat (first | exact (Kd.C_below HR0.out HB.out) | (with_reducible refine Kd.C_alloc ?_ _) | (with_reducible refine Kd.C_drewN ?_ _) | (with_reducible refine Kd.C_drew ?_))); (case side2 => exact HC0.out); rintro e w16 ⟨v244, rfl, ho0, hb⟩; refine ⟨_, rfl, ?_⟩; have n0_ := Aside0.mk (Kd.R_lower ho0 (below_size (by repeat (first | (with_reducible first | exact HB.out | apply below_alloc | apply pw_below_drewN | apply below_drew1) | exact HB.out)))); have n1_ := Aside0.mk (below_step (by repeat (first | (with_reducible first | exact HB.out | apply below_alloc | apply pw_below_drewN | apply below_drew1) | exact HB.out)) hb); clear HB; have HO245 := n0_; have HB := n1_; clear n0_ n1_; (try clear hb); (try clear hb2); (try clear hk); (try clear hi); (try clear ho0); obtain ⟨Ao17, co17, eo17⟩ := Kd.R_slice HO245.out; subst eo17))
          go_ret
          exact ⟨by first | rfl | (simp [errW_none, errW_some] <;> rfl) | (simp [*, errW_none, errW_some] <;> rfl), by repeat (first | (with_reducible first | exact HB.out | apply below_alloc | apply pw_below_drewN | apply below_drew1) | exact HB.out)⟩
        · rw [if_neg c15] at H
          have c15b0 : decide ((t243.length : Int) < (l0.length : Int)) = false := decide_eq_false c15
          have c15b1 : decide (t243.length < l0.length) = false := decide_eq_false (fun h => c15 (Int.ofNat_lt.mpr h))
          clear c15
          have H' := Aside0.mk H
          clear H
          go_wp2_with (first | ((with_reducible refine gate_callee (f := 17) rfl ?_); refine goesL_ (some 21) rfl rfl Try.func17 (by kernel_rfl) rfl #[.slice A0 l0.length c0] rfl (by (try simp only [List.map_toArray, List.map_cons, List.map_nil]); first | done | rfl | (simp only [List.length_drop, List.length_take]; rfl)) ?_; (with_reducible refine (rows_Symbols.calls kj1 _ _ l0 t243 _ ?side1 ?side2 A14.out).mono ?_); (case side1 => repeat (first | exact (Kd.C_below HR0.out HB.out) | (with_reducible refine Kd.C_alloc ?_ _) | (with_reducible refine Kd.C_drewN ?_ _) | (with_reducible refine Kd.C_drew ?_))); (case side2 => exact HC0.out); rintro e w18 ⟨v244, rfl, ho0, hb⟩; refine ⟨_, rfl, ?_⟩; have n0_ := Aside0.mk (Kd.R_lower ho0 (below_size (by repeat (first | (with_reducible first | exact HB.out | apply below_alloc | apply pw_below_drewN | apply below_drew1) | exact HB.out)))); have n1_ := Aside0.mk (below_step (by repeat (first | (with_reducible first | exact HB.out | apply below_alloc | apply pw_below_drewN | apply below_drew1) | exact HB.out)) hb); clear HB; have HO245 := n0_; have HB := n1_; clear n0_ n1_; (try clear hb); (try clear hb2); (try clear hk); (try clear hi); (try clear ho0); obtain ⟨Ao19, co19, eo19⟩ := Kd.R_slice HO245.out; subst eo19))
          go_loopg [29] kj1 (fun kq v29 w' => ∃ (x29_2 : Int), v29 = .int .i64 x29_2 ∧ Aside0 (scriniumlaw3_RowsFirst.l0 kq t243 l0 (l0.length : Int) x29_2 = some r) ∧ Aside0 (kq ≤ kj1) ∧ Aside0 (Kd.R (Kd.int .i64) 3 w' w.heap.size (fun _ => True) (.slice Ao19 t243.length co19) t243) ∧ Aside0 (Below w.heap.size w w'))
          case atStart => exact ⟨(0), (by first | rfl | (simp; done) | (simp [*]; done)), H', ⟨Nat.le_refl _⟩, ⟨by (with_reducible repeat (first | apply Kd.R_alloc | apply Kd.R_drewN | apply Kd.R_drew)); exact HO245.out⟩, ⟨by repeat (first | (with_reducible first | exact HB.out | apply below_alloc | apply pw_below_drewN | apply below_drew1) | exact HB.out)⟩⟩
          case round =>
            clear H'
            try clear c1
            try clear p2
            try clear c4
            try clear c6
            try clear c11
            try clear c12
            try clear c13
            try clear c14
            try clear c15
            try clear c15b0
            try clear c15b1
            try clear c17
            try clear p2
            obtain ⟨x29_2, rfl, HA, HK2, HO_3, HB⟩ := hrel
            cases gk with
            | zero => exact absurd HA.out (by simp [scriniumlaw3_RowsFirst.l0])
            | succ k2 =>
              have H := HA.out
              clear HA
              simp only [scriniumlaw3_RowsFirst.l0] at H
              by_cases c20 : x29_2 < (l0.length : Int)
              · rw [if_pos c20] at H
                have c20b0 : decide (x29_2 < (l0.length : Int)) = true := decide_eq_true c20
                clear c20
                by_cases c21 : 0 ≤ x29_2
                · rw [if_pos c21] at H
                  have c21b0 : decide (0 ≤ x29_2) = true := decide_eq_true c21
                  clear c21
                  by_cases c22 : x29_2 < (l0.length : Int)
                  · rw [if_pos c22] at H
                    have c22b0 : decide (x29_2 < (l0.length : Int)) = true := decide_eq_true c22
                    clear c22
                    by_cases c23 : (rdOf ByteArray.empty l0 x29_2).toList = ([] : List UInt8)
                    · rw [if_pos c23] at H
                      have c23b0 : ((rdOf ByteArray.empty l0 x29_2).toList == ([] : List UInt8)) = true := beq_iff_eq.mpr c23
                      have c23b1 : ((rdOf ByteArray.empty l0 x29_2).toList != ([] : List UInt8)) = false := bne_eq_false_iff_eq.mpr c23
                      clear c23
                      by_cases c24 : x29_2 < (t243.length : Int)
                      · rw [if_pos c24] at H
                        have c24b0 : decide (x29_2 < (t243.length : Int)) = true := decide_eq_true c24
                        clear c24
                        by_cases c25 : (rd t243 x29_2) = 0
                        · rw [if_pos c25] at H
                          have c25b0 : ((rd t243 x29_2) == 0) = true := beq_iff_eq.mpr c25
                          have c25b1 : ((rd t243 x29_2) != 0) = false := bne_eq_false_iff_eq.mpr c25
                          clear c25
                          have H' := Aside0.mk H
                          clear H
                          have p246 : 0 ≤ (x29_2 : Int) := of_decide_eq_true (by first | (with_reducible assumption) | assumption)
                          have q246 : x29_2 < (l0.length : Int) := of_decide_eq_true (by first | (with_reducible assumption) | assumption)
                          obtain ⟨ad246, e246, hx246_0⟩ := Kd.at_string HR0.out x29_2 p246 q246
                          cases e246
                          replace hx246_0 := (HB.out.cell (World.block_lt_of_cell? w _ hx246_0)).trans hx246_0
                          replace p246 := eq_true p246
                          replace q246 := eq_true q246
                          have p247 : 0 ≤ (x29_2 : Int) := of_decide_eq_true (by first | (with_reducible assumption) | assumption)
                          have q247 : x29_2 < (t243.length : Int) := of_decide_eq_true (by first | (with_reducible assumption) | assumption)
                          obtain ⟨ad247, e247, hx247_0⟩ := Kd.at_int (Kd.R_reads' HO_3.out).2.2 x29_2 p247 q247
                          cases e247
                          replace p247 := eq_true p247
                          replace q247 := eq_true q247
                          go_wp2
                          go_roundg k2
                          case measure => have := HJ1.out; have := HK2.out; omega
                          case rel => exact ⟨(wrap64 (x29_2 + 1)), (by first | rfl | (simp; done) | (simp [*]; done)), H', ⟨by have := HJ1.out; have := HK2.out; omega⟩, ⟨by (with_reducible repeat (first | apply Kd.R_alloc | apply Kd.R_drewN | apply Kd.R_drew)); exact HO_3.out⟩, ⟨by repeat (first | (with_reducible first | exact HB.out | apply below_alloc | apply pw_below_drewN | apply below_drew1) | exact HB.out)⟩⟩
                        · rw [if_neg c25] at H
                          have c25b0 : ((rd t243 x29_2) == 0) = false := beq_eq_false_iff_ne.mpr c25
                          have c25b1 : ((rd t243 x29_2) != 0) = true := bne_iff_ne.mpr c25
                          obtain rfl := Option.some.inj H
                          have p246 : 0 ≤ (x29_2 : Int) := of_decide_eq_true (by first | (with_reducible assumption) | assumption)
                          have q246 : x29_2 < (l0.length : Int) := of_decide_eq_true (by first | (with_reducible assumption) | assumption)
                          obtain ⟨ad246, e246, hx246_0⟩ := Kd.at_string HR0.out x29_2 p246 q246
                          cases e246
                          replace hx246_0 := (HB.out.cell (World.block_lt_of_cell? w _ hx246_0)).trans hx246_0
                          replace p246 := eq_true p246
                          replace q246 := eq_true q246
                          have p247 : 0 ≤ (x29_2 : Int) := of_decide_eq_true (by first | (with_reducible assumption) | assumption)
                          have q247 : x29_2 < (t243.length : Int) := of_decide_eq_true (by first | (with_reducible assumption) | assumption)
                          obtain ⟨ad247, e247, hx247_0⟩ := Kd.at_int (Kd.R_reads' HO_3.out).2.2 x29_2 p247 q247
                          cases e247
                          replace p247 := eq_true p247
                          replace q247 := eq_true q247
                          go_wp2
                          go_ret
                          exact ⟨by first | rfl | (simp [errW_none, errW_some] <;> rfl) | (simp [*, errW_none, errW_some] <;> rfl), by repeat (first | (with_reducible first | exact HB.out | apply below_alloc | apply pw_below_drewN | apply below_drew1) | exact HB.out)⟩
                      · rw [if_neg c24] at H
                        exact absurd H (by simp)
                    · rw [if_neg c23] at H
                      have c23b0 : ((rdOf ByteArray.empty l0 x29_2).toList == ([] : List UInt8)) = false := beq_eq_false_iff_ne.mpr c23
                      have c23b1 : ((rdOf ByteArray.empty l0 x29_2).toList != ([] : List UInt8)) = true := bne_iff_ne.mpr c23
                      obtain ⟨ji26, hji26⟩ : ∃ j_ : Int, (wrap64 (((rdOf ByteArray.empty l0 x29_2).size : Int) - 1)) = j_ := ⟨_, rfl⟩
                      replace H : (if 0 ≤ (ji26) then (if (ji26) < ((rdOf ByteArray.empty l0 x29_2).size : Int) then (if x29_2 < (t243.length : Int) then (if (rd t243 x29_2) = (wrap64 ((wrap64 (bt (rdOf ByteArray.empty l0 x29_2) (ji26))) + 1)) then (scriniumlaw3_RowsFirst.l0 k2 t243 l0 (l0.length : Int) (wrap64 (x29_2 + 1))) else (some false)) else (none)) else (none)) else (none)) = some r := by first | (rw [hji26] at H; exact H) | (simp only [hji26] at H ⊢; exact H)
                      have hji26w : (IntKind.i64.wrap (((rdOf ByteArray.empty l0 x29_2).size : Int) - 1)) = ji26 := (i64_w _).trans hji26
                      by_cases c27 : 0 ≤ (ji26)
                      · rw [if_pos c27] at H
                        have c27b0 : decide (0 ≤ (ji26)) = true := decide_eq_true c27
                        clear c27
                        by_cases c28 : (ji26) < ((rdOf ByteArray.empty l0 x29_2).size : Int)
                        · rw [if_pos c28] at H
                          have c28b0 : decide ((ji26) < ((rdOf ByteArray.empty l0 x29_2).size : Int)) = true := decide_eq_true c28
                          clear c28
                          by_cases c30 : x29_2 < (t243.length : Int)
                          · rw [if_pos c30] at H
                            have c30b0 : decide (x29_2 < (t243.length : Int)) = true := decide_eq_true c30
                            clear c30
                            by_cases c31 : (rd t243 x29_2) = (wrap64 ((wrap64 (bt (rdOf ByteArray.empty l0 x29_2) (ji26))) + 1))
                            · rw [if_pos c31] at H
                              have c31b0 : ((rd t243 x29_2) == (wrap64 ((wrap64 (bt (rdOf ByteArray.empty l0 x29_2) (ji26))) + 1))) = true := beq_iff_eq.mpr c31
                              have c31b1 : ((rd t243 x29_2) != (wrap64 ((wrap64 (bt (rdOf ByteArray.empty l0 x29_2) (ji26))) + 1))) = false := bne_eq_false_iff_eq.mpr c31
                              clear c31
                              have H' := Aside0.mk H
                              clear H
                              have p246 : 0 ≤ (x29_2 : Int) := of_decide_eq_true (by first | (with_reducible assumption) | assumption)
                              have q246 : x29_2 < (l0.length : Int) := of_decide_eq_true (by first | (with_reducible assumption) | assumption)
                              obtain ⟨ad246, e246, hx246_0⟩ := Kd.at_string HR0.out x29_2 p246 q246
                              cases e246
                              replace hx246_0 := (HB.out.cell (World.block_lt_of_cell? w _ hx246_0)).trans hx246_0
                              replace p246 := eq_true p246
                              replace q246 := eq_true q246
                              have p29 : 0 ≤ ((ji26) : Int) := of_decide_eq_true (by first | (with_reducible assumption) | assumption)
                              have q29 : (ji26) < ((rdOf ByteArray.empty l0 x29_2).size : Int) := of_decide_eq_true (by first | (with_reducible assumption) | assumption)
                              have hx29 := bt_at (rdOf ByteArray.empty l0 x29_2) (ji26)
                              replace p29 := eq_true p29
                              replace q29 := eq_true q29
                              have p248 : 0 ≤ (x29_2 : Int) := of_decide_eq_true (by first | (with_reducible assumption) | assumption)
                              have q248 : x29_2 < (t243.length : Int) := of_decide_eq_true (by first | (with_reducible assumption) | assumption)
                              obtain ⟨ad248, e248, hx248_0⟩ := Kd.at_int (Kd.R_reads' HO_3.out).2.2 x29_2 p248 q248
                              cases e248
                              replace p248 := eq_true p248
                              replace q248 := eq_true q248
                              go_wp2
                              go_roundg k2
                              case measure => have := HJ1.out; have := HK2.out; omega
                              case rel => exact ⟨(wrap64 (x29_2 + 1)), (by first | rfl | (simp; done) | (simp [*]; done)), H', ⟨by have := HJ1.out; have := HK2.out; omega⟩, ⟨by (with_reducible repeat (first | apply Kd.R_alloc | apply Kd.R_drewN | apply Kd.R_drew)); exact HO_3.out⟩, ⟨by repeat (first | (with_reducible first | exact HB.out | apply below_alloc | apply pw_below_drewN | apply below_drew1) | exact HB.out)⟩⟩
                            · rw [if_neg c31] at H
                              have c31b0 : ((rd t243 x29_2) == (wrap64 ((wrap64 (bt (rdOf ByteArray.empty l0 x29_2) (ji26))) + 1))) = false := beq_eq_false_iff_ne.mpr c31
                              have c31b1 : ((rd t243 x29_2) != (wrap64 ((wrap64 (bt (rdOf ByteArray.empty l0 x29_2) (ji26))) + 1))) = true := bne_iff_ne.mpr c31
                              obtain rfl := Option.some.inj H
                              have p246 : 0 ≤ (x29_2 : Int) := of_decide_eq_true (by first | (with_reducible assumption) | assumption)
                              have q246 : x29_2 < (l0.length : Int) := of_decide_eq_true (by first | (with_reducible assumption) | assumption)
                              obtain ⟨ad246, e246, hx246_0⟩ := Kd.at_string HR0.out x29_2 p246 q246
                              cases e246
                              replace hx246_0 := (HB.out.cell (World.block_lt_of_cell? w _ hx246_0)).trans hx246_0
                              replace p246 := eq_true p246
                              replace q246 := eq_true q246
                              have p29 : 0 ≤ ((ji26) : Int) := of_decide_eq_true (by first | (with_reducible assumption) | assumption)
                              have q29 : (ji26) < ((rdOf ByteArray.empty l0 x29_2).size : Int) := of_decide_eq_true (by first | (with_reducible assumption) | assumption)
                              have hx29 := bt_at (rdOf ByteArray.empty l0 x29_2) (ji26)
                              replace p29 := eq_true p29
                              replace q29 := eq_true q29
                              have p248 : 0 ≤ (x29_2 : Int) := of_decide_eq_true (by first | (with_reducible assumption) | assumption)
                              have q248 : x29_2 < (t243.length : Int) := of_decide_eq_true (by first | (with_reducible assumption) | assumption)
                              obtain ⟨ad248, e248, hx248_0⟩ := Kd.at_int (Kd.R_reads' HO_3.out).2.2 x29_2 p248 q248
                              cases e248
                              replace p248 := eq_true p248
                              replace q248 := eq_true q248
                              go_wp2
                              go_ret
                              exact ⟨by first | rfl | (simp [errW_none, errW_some] <;> rfl) | (simp only [← hji26]; first | rfl | (simp [errW_none, errW_some] <;> rfl)) | (simp [*, errW_none, errW_some] <;> rfl), by repeat (first | (with_reducible first | exact HB.out | apply below_alloc | apply pw_below_drewN | apply below_drew1) | exact HB.out)⟩
                          · rw [if_neg c30] at H
                            exact absurd H (by simp)
                        · rw [if_neg c28] at H
                          exact absurd H (by simp)
                      · rw [if_neg c27] at H
                        exact absurd H (by simp)
                  · rw [if_neg c22] at H
                    exact absurd H (by simp)
                · rw [if_neg c21] at H
                  exact absurd H (by simp)
              · rw [if_neg c20] at H
                have c20b0 : decide (x29_2 < (l0.length : Int)) = false := decide_eq_false c20
                clear c20
                obtain rfl := Option.some.inj H
                go_wp2
                go_ret
                exact ⟨by first | rfl | (simp [errW_none, errW_some] <;> rfl) | (simp [*, errW_none, errW_some] <;> rfl), by repeat (first | (with_reducible first | exact HB.out | apply below_alloc | apply pw_below_drewN | apply below_drew1) | exact HB.out)⟩

end Go.Proofs.Ythoapfagcdbpeaa.P
