-- Printed by myprint.py (a program of this session's, over the kit's print): P
import Derived.Test.YtcfhcnlbegblcaaP0
import Derived.Test.YtcfhcnlbegblcaaP4
import Derived.Test.YtcfhcnlbegblcaaP5
import Derived.Test.YtcfhcnlbegblcaaP6
import Derived.Test.YtcfhcnlbegblcaaP7
import Derived.Test.YtcfhcnlbegblcaaP8
namespace Go.Proofs.Ytcfhcnlbegblcaa.P
open Go.RowKit Go.Proofs.YtcfhcnlbegblcaaW.PrintWords Go.Proofs.YtcfhcnlbegblcaaW.PrintLast Go.Proofs.YtcfhcnlbegblcaaW.PrintMore
attribute [local go_sem] max2_int min2_int max_two min_two max_three min_three max_four min_four   -- for this text's walks alone
set_option linter.unusedVariables false
set_option linter.unusedSimpArgs false

/-! ### scriniumlaw1_alive: function 9 -/
def scriniumlaw1_alive.f (k : Nat)  : Option (Bool) := (sym_Byte.f 98).bind fun bt119 => ((sym_Of.f 97).bind fun t121 => (if t121 = 98 then (if bt119.2 = true then (if bt119.1 = 97 then ((sym_Bit.f 256 0).bind fun t122 => (if t122 = true then ((sym_Text.f (⟨#[]⟩ : ByteArray)).bind fun t123 => (if t123 = true then ((sym_All.f k (⟨#[97, 98]⟩ : ByteArray)).bind fun t124 => (some ((t124.length : Int) == 2))) else (some false))) else (some false))) else (some false)) else (some false)) else (some false)))
theorem scriniumlaw1_alive.mono : ∀ k, LeO (scriniumlaw1_alive.f k ) (scriniumlaw1_alive.f (k + 1) ) := by
  intro  k
  unfold scriniumlaw1_alive.f
  repeat' first
      | (with_reducible exact sym_All.mono _ _)
      | (with_reducible exact LeO.refl _)
      | (with_reducible exact LeO.none _)
      | (with_reducible refine LeO.ite ?_ ?_)
      | (with_reducible refine LeO.bind ?_ (fun _ => ?_))
      | exact sym_All.mono _ _
      | exact LeO.none _
      | refine LeO.ite ?_ ?_
      | refine LeO.bind ?_ (fun _ => ?_)
set_option maxHeartbeats 8000000 in
set_option maxRecDepth 100000 in
theorem scriniumlaw1_alive.calls (k : Nat)  (r : Bool) (w : World) (h : scriniumlaw1_alive.f k  = some r) :
    Calls Try.prog 9 #[] w fun e w' => e = .returned (.bool r) ∧ Below w.heap.size w w' := by
  have HB := Aside0.mk (Below.refl w.heap.size w)
  have H : ((sym_Byte.f 98).bind fun bt119 => ((sym_Of.f 97).bind fun t121 => (if t121 = 98 then (if bt119.2 = true then (if bt119.1 = 97 then ((sym_Bit.f 256 0).bind fun t122 => (if t122 = true then ((sym_Text.f (⟨#[]⟩ : ByteArray)).bind fun t123 => (if t123 = true then ((sym_All.f k (⟨#[97, 98]⟩ : ByteArray)).bind fun t124 => (some ((t124.length : Int) == 2))) else (some false))) else (some false))) else (some false)) else (some false)) else (some false)))) = some r := h
  clear h
  replace H := Option.bind_eq_some_iff.mp H
  obtain ⟨⟨t119, t120⟩, A10, H⟩ := H
  replace H : ((sym_Of.f 97).bind fun t121 => (if t121 = 98 then (if t120 = true then (if t119 = 97 then ((sym_Bit.f 256 0).bind fun t122 => (if t122 = true then ((sym_Text.f (⟨#[]⟩ : ByteArray)).bind fun t123 => (if t123 = true then ((sym_All.f k (⟨#[97, 98]⟩ : ByteArray)).bind fun t124 => (some ((t124.length : Int) == 2))) else (some false))) else (some false))) else (some false)) else (some false)) else (some false))) = some r := H
  have A1 := Aside0.mk A10
  clear A10
  replace H := Option.bind_eq_some_iff.mp H
  obtain ⟨t121, A20, H⟩ := H
  replace H : (if t121 = 98 then (if t120 = true then (if t119 = 97 then ((sym_Bit.f 256 0).bind fun t122 => (if t122 = true then ((sym_Text.f (⟨#[]⟩ : ByteArray)).bind fun t123 => (if t123 = true then ((sym_All.f k (⟨#[97, 98]⟩ : ByteArray)).bind fun t124 => (some ((t124.length : Int) == 2))) else (some false))) else (some false))) else (some false)) else (some false)) else (some false)) = some r := H
  have A2 := Aside0.mk A20
  clear A20
  by_cases c3 : t121 = 98
  · rw [if_pos c3] at H
    have c3b0 : (t121 == 98) = true := beq_iff_eq.mpr c3
    have c3b1 : (t121 != 98) = false := bne_eq_false_iff_eq.mpr c3
    clear c3
    by_cases c4 : t120 = true
    · subst c4
      have H1 : (if t119 = 97 then ((sym_Bit.f 256 0).bind fun t122 => (if t122 = true then ((sym_Text.f (⟨#[]⟩ : ByteArray)).bind fun t123 => (if t123 = true then ((sym_All.f k (⟨#[97, 98]⟩ : ByteArray)).bind fun t124 => (some ((t124.length : Int) == 2))) else (some false))) else (some false))) else (some false)) = some r := by rw [if_pos rfl] at H; exact H
      clear H
      have H := H1
      clear H1
      by_cases c5 : t119 = 97
      · rw [if_pos c5] at H
        have c5b0 : (t119 == 97) = true := beq_iff_eq.mpr c5
        have c5b1 : (t119 != 97) = false := bne_eq_false_iff_eq.mpr c5
        clear c5
        replace H := Option.bind_eq_some_iff.mp H
        obtain ⟨t122, A60, H⟩ := H
        replace H : (if t122 = true then ((sym_Text.f (⟨#[]⟩ : ByteArray)).bind fun t123 => (if t123 = true then ((sym_All.f k (⟨#[97, 98]⟩ : ByteArray)).bind fun t124 => (some ((t124.length : Int) == 2))) else (some false))) else (some false)) = some r := H
        have A6 := Aside0.mk A60
        clear A60
        by_cases c7 : t122 = true
        · subst c7
          have H1 : ((sym_Text.f (⟨#[]⟩ : ByteArray)).bind fun t123 => (if t123 = true then ((sym_All.f k (⟨#[97, 98]⟩ : ByteArray)).bind fun t124 => (some ((t124.length : Int) == 2))) else (some false))) = some r := by rw [if_pos rfl] at H; exact H
          clear H
          have H := H1
          clear H1
          replace H := Option.bind_eq_some_iff.mp H
          obtain ⟨t123, A80, H⟩ := H
          replace H : (if t123 = true then ((sym_All.f k (⟨#[97, 98]⟩ : ByteArray)).bind fun t124 => (some ((t124.length : Int) == 2))) else (some false)) = some r := H
          have A8 := Aside0.mk A80
          clear A80
          by_cases c9 : t123 = true
          · subst c9
            have H1 : ((sym_All.f k (⟨#[97, 98]⟩ : ByteArray)).bind fun t124 => (some ((t124.length : Int) == 2))) = some r := by rw [if_pos rfl] at H; exact H
            clear H
            have H := H1
            clear H1
            replace H := Option.bind_eq_some_iff.mp H
            obtain ⟨t124, A100, H⟩ := H
            replace H : (some ((t124.length : Int) == 2)) = some r := H
            have A10 := Aside0.mk A100
            clear A100
            obtain rfl := Option.some.inj H
            go_enter Try.func9, Try.ntmps9
            go_wp2_with (first | ((with_reducible refine gate_callee (f := 10) rfl ?_); refine goesL_ (some 4) rfl rfl Try.func10 (by kernel_rfl) rfl #[.int .i64 98] rfl (by (try simp only [List.map_toArray, List.map_cons, List.map_nil]); first | done | rfl | (simp only [List.length_drop, List.length_take]; rfl)) ?_; (with_reducible refine (sym_Byte.calls 98 t119 true _ A1.out).mono ?_); rintro e w' ⟨rfl, ⟨nd, rfl⟩⟩; refine ⟨_, rfl, ?_⟩) | ((with_reducible refine gate_callee (f := 13) rfl ?_); refine goesL_ (some 7) rfl rfl Try.func13 (by kernel_rfl) rfl #[.int .u8 97] rfl (by (try simp only [List.map_toArray, List.map_cons, List.map_nil]); first | done | rfl | (simp only [List.length_drop, List.length_take]; rfl)) ?_; (with_reducible refine (sym_Of.calls 97 t121 _ A2.out).mono ?_); rintro e w' ⟨rfl, ⟨nd, rfl⟩⟩; refine ⟨_, rfl, ?_⟩) | (go_at_call 14; (with_reducible refine (sym_Bit.calls 256 0 true _ A6.out).mono ?_); rintro e w' ⟨rfl, ⟨nd, rfl⟩⟩) | (go_at_call 16; (with_reducible refine (sym_Text.calls (⟨#[]⟩ : ByteArray) true _ A8.out).mono ?_); rintro e w' ⟨rfl, ⟨nd, rfl⟩⟩) | (go_at_call 11; (with_reducible refine (sym_All.calls k (⟨#[97, 98]⟩ : ByteArray) t124 _ A10.out).mono ?_); rintro e w11 ⟨v125, rfl, ho0, hb⟩; have n0_ := Aside0.mk (Kd.R_lower ho0 (below_size (by repeat (first | (with_reducible first | exact HB.out | apply below_alloc | apply pw_below_drewN | apply below_drew1) | exact HB.out)))); have n1_ := Aside0.mk (below_step (by repeat (first | (with_reducible first | exact HB.out | apply below_alloc | apply pw_below_drewN | apply below_drew1) | exact HB.out)) hb); clear HB; have HO126 := n0_; have HB := n1_; clear n0_ n1_; (try clear hb); (try clear hb2); (try clear hk); (try clear hi); (try clear ho0); obtain ⟨Ao12, co12, eo12⟩ := Kd.R_slice HO126.out; subst eo12))
            go_ret
            exact ⟨by first | rfl | (simp [errW_none, errW_some] <;> rfl) | (simp [*, errW_none, errW_some] <;> rfl), by repeat (first | (with_reducible first | exact HB.out | apply below_alloc | apply pw_below_drewN | apply below_drew1) | exact HB.out)⟩
          · replace c9 := Bool.eq_false_iff.mpr c9
            subst c9
            have H1 : (some false) = some r := by rw [if_neg (show ¬ (false = true) by decide)] at H; exact H
            clear H
            have H := H1
            clear H1
            obtain rfl := Option.some.inj H
            go_enter Try.func9, Try.ntmps9
            go_wp2_with (first | ((with_reducible refine gate_callee (f := 10) rfl ?_); refine goesL_ (some 4) rfl rfl Try.func10 (by kernel_rfl) rfl #[.int .i64 98] rfl (by (try simp only [List.map_toArray, List.map_cons, List.map_nil]); first | done | rfl | (simp only [List.length_drop, List.length_take]; rfl)) ?_; (with_reducible refine (sym_Byte.calls 98 t119 true _ A1.out).mono ?_); rintro e w' ⟨rfl, ⟨nd, rfl⟩⟩; refine ⟨_, rfl, ?_⟩) | ((with_reducible refine gate_callee (f := 13) rfl ?_); refine goesL_ (some 7) rfl rfl Try.func13 (by kernel_rfl) rfl #[.int .u8 97] rfl (by (try simp only [List.map_toArray, List.map_cons, List.map_nil]); first | done | rfl | (simp only [List.length_drop, List.length_take]; rfl)) ?_; (with_reducible refine (sym_Of.calls 97 t121 _ A2.out).mono ?_); rintro e w' ⟨rfl, ⟨nd, rfl⟩⟩; refine ⟨_, rfl, ?_⟩) | (go_at_call 14; (with_reducible refine (sym_Bit.calls 256 0 true _ A6.out).mono ?_); rintro e w' ⟨rfl, ⟨nd, rfl⟩⟩) | (go_at_call 16; (with_reducible refine (sym_Text.calls (⟨#[]⟩ : ByteArray) false _ A8.out).mono ?_); rintro e w' ⟨rfl, ⟨nd, rfl⟩⟩))
            go_ret
            exact ⟨by first | rfl | (simp [errW_none, errW_some] <;> rfl) | (simp [*, errW_none, errW_some] <;> rfl), by repeat (first | (with_reducible first | exact HB.out | apply below_alloc | apply pw_below_drewN | apply below_drew1) | exact HB.out)⟩
        · replace c7 := Bool.eq_false_iff.mpr c7
          subst c7
          have H1 : (some false) = some r := by rw [if_neg (show ¬ (false = true) by decide)] at H; exact H
          clear H
          have H := H1
          clear H1
          obtain rfl := Option.some.inj H
          go_enter Try.func9, Try.ntmps9
          go_wp2_with (first | ((with_reducible refine gate_callee (f := 10) rfl ?_); refine goesL_ (some 4) rfl rfl Try.func10 (by kernel_rfl) rfl #[.int .i64 98] rfl (by (try simp only [List.map_toArray, List.map_cons, List.map_nil]); first | done | rfl | (simp only [List.length_drop, List.length_take]; rfl)) ?_; (with_reducible refine (sym_Byte.calls 98 t119 true _ A1.out).mono ?_); rintro e w' ⟨rfl, ⟨nd, rfl⟩⟩; refine ⟨_, rfl, ?_⟩) | ((with_reducible refine gate_callee (f := 13) rfl ?_); refine goesL_ (some 7) rfl rfl Try.func13 (by kernel_rfl) rfl #[.int .u8 97] rfl (by (try simp only [List.map_toArray, List.map_cons, List.map_nil]); first | done | rfl | (simp only [List.length_drop, List.length_take]; rfl)) ?_; (with_reducible refine (sym_Of.calls 97 t121 _ A2.out).mono ?_); rintro e w' ⟨rfl, ⟨nd, rfl⟩⟩; refine ⟨_, rfl, ?_⟩) | (go_at_call 14; (with_reducible refine (sym_Bit.calls 256 0 false _ A6.out).mono ?_); rintro e w' ⟨rfl, ⟨nd, rfl⟩⟩))
          go_ret
          exact ⟨by first | rfl | (simp [errW_none, errW_some] <;> rfl) | (simp [*, errW_none, errW_some] <;> rfl), by repeat (first | (with_reducible first | exact HB.out | apply below_alloc | apply pw_below_drewN | apply below_drew1) | exact HB.out)⟩
      · rw [if_neg c5] at H
        have c5b0 : (t119 == 97) = false := beq_eq_false_iff_ne.mpr c5
        have c5b1 : (t119 != 97) = true := bne_iff_ne.mpr c5
        obtain rfl := Option.some.inj H
        go_enter Try.func9, Try.ntmps9
        go_wp2_with (first | ((with_reducible refine gate_callee (f := 10) rfl ?_); refine goesL_ (some 4) rfl rfl Try.func10 (by kernel_rfl) rfl #[.int .i64 98] rfl (by (try simp only [List.map_toArray, List.map_cons, List.map_nil]); first | done | rfl | (simp only [List.length_drop, List.length_take]; rfl)) ?_; (with_reducible refine (sym_Byte.calls 98 t119 true _ A1.out).mono ?_); rintro e w' ⟨rfl, ⟨nd, rfl⟩⟩; refine ⟨_, rfl, ?_⟩) | ((with_reducible refine gate_callee (f := 13) rfl ?_); refine goesL_ (some 7) rfl rfl Try.func13 (by kernel_rfl) rfl #[.int .u8 97] rfl (by (try simp only [List.map_toArray, List.map_cons, List.map_nil]); first | done | rfl | (simp only [List.length_drop, List.length_take]; rfl)) ?_; (with_reducible refine (sym_Of.calls 97 t121 _ A2.out).mono ?_); rintro e w' ⟨rfl, ⟨nd, rfl⟩⟩; refine ⟨_, rfl, ?_⟩))
        go_ret
        exact ⟨by first | rfl | (simp [errW_none, errW_some] <;> rfl) | (simp [*, errW_none, errW_some] <;> rfl), by repeat (first | (with_reducible first | exact HB.out | apply below_alloc | apply pw_below_drewN | apply below_drew1) | exact HB.out)⟩
    · replace c4 := Bool.eq_false_iff.mpr c4
      subst c4
      have H1 : (some false) = some r := by rw [if_neg (show ¬ (false = true) by decide)] at H; exact H
      clear H
      have H := H1
      clear H1
      obtain rfl := Option.some.inj H
      go_enter Try.func9, Try.ntmps9
      go_wp2_with (first | ((with_reducible refine gate_callee (f := 10) rfl ?_); refine goesL_ (some 4) rfl rfl Try.func10 (by kernel_rfl) rfl #[.int .i64 98] rfl (by (try simp only [List.map_toArray, List.map_cons, List.map_nil]); first | done | rfl | (simp only [List.length_drop, List.length_take]; rfl)) ?_; (with_reducible refine (sym_Byte.calls 98 t119 false _ A1.out).mono ?_); rintro e w' ⟨rfl, ⟨nd, rfl⟩⟩; refine ⟨_, rfl, ?_⟩) | ((with_reducible refine gate_callee (f := 13) rfl ?_); refine goesL_ (some 7) rfl rfl Try.func13 (by kernel_rfl) rfl #[.int .u8 97] rfl (by (try simp only [List.map_toArray, List.map_cons, List.map_nil]); first | done | rfl | (simp only [List.length_drop, List.length_take]; rfl)) ?_; (with_reducible refine (sym_Of.calls 97 t121 _ A2.out).mono ?_); rintro e w' ⟨rfl, ⟨nd, rfl⟩⟩; refine ⟨_, rfl, ?_⟩))
      go_ret
      exact ⟨by first | rfl | (simp [errW_none, errW_some] <;> rfl) | (simp [*, errW_none, errW_some] <;> rfl), by repeat (first | (with_reducible first | exact HB.out | apply below_alloc | apply pw_below_drewN | apply below_drew1) | exact HB.out)⟩
  · rw [if_neg c3] at H
    have c3b0 : (t121 == 98) = false := beq_eq_false_iff_ne.mpr c3
    have c3b1 : (t121 != 98) = true := bne_iff_ne.mpr c3
    obtain rfl := Option.some.inj H
    go_enter Try.func9, Try.ntmps9
    go_wp2_with (first | ((with_reducible refine gate_callee (f := 10) rfl ?_); refine goesL_ (some 4) rfl rfl Try.func10 (by kernel_rfl) rfl #[.int .i64 98] rfl (by (try simp only [List.map_toArray, List.map_cons, List.map_nil]); first | done | rfl | (simp only [List.length_drop, List.length_take]; rfl)) ?_; (with_reducible refine (sym_Byte.calls 98 t119 t120 _ A1.out).mono ?_); rintro e w' ⟨rfl, ⟨nd, rfl⟩⟩; refine ⟨_, rfl, ?_⟩) | ((with_reducible refine gate_callee (f := 13) rfl ?_); refine goesL_ (some 7) rfl rfl Try.func13 (by kernel_rfl) rfl #[.int .u8 97] rfl (by (try simp only [List.map_toArray, List.map_cons, List.map_nil]); first | done | rfl | (simp only [List.length_drop, List.length_take]; rfl)) ?_; (with_reducible refine (sym_Of.calls 97 t121 _ A2.out).mono ?_); rintro e w' ⟨rfl, ⟨nd, rfl⟩⟩; refine ⟨_, rfl, ?_⟩))
    go_ret
    exact ⟨by first | rfl | (simp [errW_none, errW_some] <;> rfl) | (simp [*, errW_none, errW_some] <;> rfl), by repeat (first | (with_reducible first | exact HB.out | apply below_alloc | apply pw_below_drewN | apply below_drew1) | exact HB.out)⟩

/-- THE ONE PURE STATEMENT of scriniumlaw1_alive: yours. -/
def scriniumlaw1_alive.Pure : Prop := ∃ k, scriniumlaw1_alive.f k  = some true
theorem scriniumlaw1_alive.walk (P : scriniumlaw1_alive.Pure)  (w : World)  :
    Calls Try.prog 9 #[] w fun e w' => e = .returned (.bool true) ∧ Below w.heap.size w w' := by
  obtain ⟨k, h⟩ := P  
  refine (scriniumlaw1_alive.calls k  true w h).mono ?_
  rintro e w' ⟨rfl, hd⟩
  exact ⟨rfl, hd⟩

end Go.Proofs.Ytcfhcnlbegblcaa.P
