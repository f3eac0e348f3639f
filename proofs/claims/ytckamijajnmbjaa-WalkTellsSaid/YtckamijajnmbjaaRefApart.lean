/- The functions Step and Apart of the document's answer. Conditions: a byte; places near enough. -/
import Derived.Test.YtckamijajnmbjaaWalkC
import Derived.Lib.MinMax
set_option linter.unusedVariables false
set_option linter.unusedSimpArgs false
namespace Go.Proofs.Ytckamijajnmbjaa.Wk
open Go.RowKit Go.Proofs.YtckamijajnmbjaaW.PrintWords Go.Proofs.YtckamijajnmbjaaW.PrintLast Go.Proofs.YtckamijajnmbjaaW.PrintMore Go.Proofs.Ytckamijajnmbjaa.Fpx

theorem mone_bits : fz (-1) = 13830554455654793216 := by decide +kernel
theorem refStep_calls (b : Int) (h0 : 0 ≤ b) (h1 : b ≤ 255) (w : World) :
    Calls Try.prog 23 #[.int .u8 b] w fun e w' => e = .returned (.complex .f64 (fz (sx b)) (fz (sy b))) ∧ Drawn0 w w' := by
  have hsx := sx_eq b
  have hsy := sy_eq b
  have i0 := fz_zero
  have i1 := one_bits
  have i2 := mone_bits
  obtain ⟨r, hr⟩ : ∃ r, b % 4 = r := ⟨_, rfl⟩
  rw [hr] at hsx hsy
  rcases (show r = 0 ∨ r = 1 ∨ r = 2 ∨ r = 3 by omega) with rfl | rfl | rfl | rfl
  all_goals
    simp at hsx hsy
    rw [hsx, hsy]
    have q0 := congrArg (fun x => x == (0 : Int)) hr
    have q1 := congrArg (fun x => x == (1 : Int)) hr
    have q2 := congrArg (fun x => x == (2 : Int)) hr

    simp at q0 q1 q2
    simp only [i0, i1, i2]
    clear hsx hsy i0 i1 i2
    go_enter Try.func23, Try.ntmps23
    go_wp2_with fail
    go_ret
    exact ⟨rfl, Drawn0.refl _⟩
theorem toI (n : Int) (h : small n) (w : World) : (convert 24 3 (.float .f64 (fz n))).run Try.prog w = .ok (.int .i64 n) w :=
  run_convert_float_int w 24 3 .f64 .i64 _ _ (by rw [Try.underlying24]; rfl) Try.underlying3 (toInt_val (Val_fz _ h) h)
theorem refApart_calls (a b c d : Int) (h1 : Nigh (a, b)) (h2 : Nigh (c, d)) (w : World) :
    Calls Try.prog 24 #[.complex .f64 (fz a) (fz b), .complex .f64 (fz c) (fz d)] w fun e w' => e = .returned (.int .i64 (farI a b c d)) ∧ Drawn0 w w' := by
  simp only [Nigh] at h1 h2
  have S : ∀ n : Int, -9007199254740992 < n → n < 9007199254740992 → small n := fun n h1 h2 => small_of h1 h2
  have ca := toI a (S _ (by omega) (by omega))
  have cb := toI b (S _ (by omega) (by omega))
  have cc := toI c (S _ (by omega) (by omega))
  have cd := toI d (S _ (by omega) (by omega))
  have hf : farI a b c d = max (a - c) (-(a - c)) + max (b - d) (-(b - d)) := by unfold farI; omega
  rw [hf]
  obtain ⟨x, hx⟩ : ∃ x, a - c = x := ⟨_, rfl⟩
  obtain ⟨y, hy⟩ : ∃ y, b - d = y := ⟨_, rfl⟩
  have e1 : IntKind.i64.wrap (a - c) = x := (IntWalk.i64_in _ (by omega)).trans hx
  have e2 : IntKind.i64.wrap (b - d) = y := (IntWalk.i64_in _ (by omega)).trans hy
  have e3 : IntKind.i64.wrap (-x) = -x := IntWalk.i64_in _ (by omega)
  have e4 : IntKind.i64.wrap (-y) = -y := IntWalk.i64_in _ (by omega)
  have e5 : IntKind.i64.wrap (max x (-x) + max y (-y)) = max x (-x) + max y (-y) := IntWalk.i64_in _ (by omega)
  rw [hx, hy]
  clear hf hx hy h1 h2 S
  go_enter Try.func24, Try.ntmps24
  go_wp2_with fail
  go_ret
  exact ⟨rfl, Drawn0.refl _⟩
end Go.Proofs.Ytckamijajnmbjaa.Wk
