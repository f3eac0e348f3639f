/- The law WalkJoins returns true. Conditions: none beyond the given statement's. -/
import Derived.Test.YtckamijajnmbjaaWalkC
set_option linter.unusedVariables false
set_option linter.unusedSimpArgs false
namespace Go.Proofs.Ytckamijajnmbjaa.Wk
open Go.RowKit Go.Proofs.YtckamijajnmbjaaW.PrintWords Go.Proofs.YtckamijajnmbjaaW.PrintLast Go.Proofs.YtckamijajnmbjaaW.PrintMore Go.Proofs.Ytckamijajnmbjaa.Fpx

set_option maxHeartbeats 1000000 in
theorem WalkJoins_main (s t : ByteArray) (hs : s.size ≤ 200) (ht : t.size ≤ 200) (w : World) :
    Calls Try.prog 5 #[.string s, .string t] w fun e w' => e = .returned (.bool true) ∧ Below w.heap.size w w' := by
  have bs := pos_bd (bytesOf s)
  have bt' := pos_bd (bytesOf t)
  have ft := pos_far (bytesOf t)
  rw [bytesOf_length] at bs bt' ft
  obtain ⟨a, b, hab⟩ : ∃ a b, pos (bytesOf s) = (a, b) := ⟨_, _, rfl⟩
  obtain ⟨c, d, hcd⟩ : ∃ c d, pos (bytesOf t) = (c, d) := ⟨_, _, rfl⟩
  have h1 : pos (bytesOf (s ++ t)) = (a + c, b + d) := by rw [bytesOf_append, pos_append, hab, hcd]
  have h2 : pos (bytesOf (t ++ s)) = (a + c, b + d) := by
    rw [bytesOf_append, pos_append, hab, hcd]
    simp only [Prod.mk.injEq]
    constructor <;> omega
  rw [hab] at bs
  rw [hcd] at bt' ft
  dsimp only at bs bt' ft
  have z1 : (s ++ t).size ≤ 100000 := by rw [ByteArray.size_append]; omega
  have z2 : (t ++ s).size ≤ 100000 := by rw [ByteArray.size_append]; omega
  have S : ∀ n : Int, -100000 ≤ n → n ≤ 100000 → small n := fun n h1 h2 => small_of (by omega) (by omega)
  have hadd : ∀ t w, (binOp .add t (.complex .f64 (fz a) (fz b)) (.complex .f64 (fz c) (fz d))).run Try.prog w = .ok (.complex .f64 (fz (a + c)) (fz (b + d))) w := fun t w =>
    run_addc t a b c d (S _ (by omega) (by omega)) (S _ (by omega) (by omega)) (S _ (by omega) (by omega)) (S _ (by omega) (by omega)) (S _ (by omega) (by omega)) (S _ (by omega) (by omega)) w
  have C1 := Aside0.mk (End_at s a b hab (by omega))
  have C2 := Aside0.mk (End_at t c d hcd (by omega))
  have C3 := Aside0.mk (End_at (s ++ t) _ _ h1 z1)
  have C4 := Aside0.mk (End_at (t ++ s) _ _ h2 z2)
  have D1 := Aside0.mk (Apart_at a b (a + c) (b + d) ⟨by dsimp only; omega, by dsimp only; omega, by dsimp only; omega, by dsimp only; omega⟩ ⟨by dsimp only; omega, by dsimp only; omega, by dsimp only; omega, by dsimp only; omega⟩)
  have e1 : farI a b (a + c) (b + d) = (c.natAbs : Int) + (d.natAbs : Int) := by unfold farI; omega
  have D2 := Aside0.mk (Apart_at 0 0 c d ⟨by dsimp only; omega, by dsimp only; omega, by dsimp only; omega, by dsimp only; omega⟩ ⟨by dsimp only; omega, by dsimp only; omega, by dsimp only; omega, by dsimp only; omega⟩)
  have e2 : farI 0 0 c d = (c.natAbs : Int) + (d.natAbs : Int) := by unfold farI; omega
  rw [e1] at D1
  rw [e2, fz_zero] at D2
  have g1 : decide (200 < (s.size : Int)) = false := decide_eq_false (by omega)
  have g2 : decide (200 < (t.size : Int)) = false := decide_eq_false (by omega)
  obtain ⟨f, hf⟩ : ∃ f : Int, (c.natAbs : Int) + (d.natAbs : Int) = f := ⟨_, rfl⟩
  rw [hf] at D1 D2 ft
  have f1 : decide (f ≤ (t.size : Int)) = true := decide_eq_true ft.1
  have f0 : 0 ≤ f := by omega
  have m1 : ((f - (t.size : Int)).tmod 2 == 0) = true := by
    rw [beq_iff_eq]
    exact Int.tmod_eq_zero_of_dvd (Int.dvd_of_emod_eq_zero ft.2)
  have AL := Aside0.mk alive_calls
  have HB : Aside0 (Below w.heap.size w w) := ⟨Below.refl _ _⟩
  clear hab hcd h1 h2 z1 z2 S e1 e2 hf bs bt'
  go_enter Try.func5, Try.ntmps5
  go_wp2_with (first
    | (go_at_call 11; (with_reducible refine (AL.out _).mono ?_); rintro e w' ⟨rfl, hb⟩; have n0_ := Aside0.mk (below_step (by repeat (first | (with_reducible first | exact HB.out | apply below_alloc | apply pw_below_drewN | apply below_drew1) | exact HB.out)) hb); clear HB; have HB := n0_; clear n0_ hb)
    | (go_at_call 17; (first | (with_reducible refine (C1.out _).mono ?_) | (with_reducible refine (C2.out _).mono ?_) | (with_reducible refine (C3.out _).mono ?_) | (with_reducible refine (C4.out _).mono ?_)); rintro e w' ⟨rfl, hb⟩; have n0_ := Aside0.mk (below_step (by repeat (first | (with_reducible first | exact HB.out | apply below_alloc | apply pw_below_drewN | apply below_drew1) | exact HB.out)) hb); clear HB; have HB := n0_; clear n0_ hb)
    | (go_at_call 13; (with_reducible refine (exact_yes _ _ _).mono ?_); rintro e w' ⟨rfl, ⟨nd, rfl⟩⟩)
    | (go_at_call 18; (first | (with_reducible refine (D1.out _).mono ?_) | (with_reducible refine (D2.out _).mono ?_)); rintro e w' ⟨rfl, ⟨nd, rfl⟩⟩))
  go_ret
  refine ⟨?_, by repeat (first | (with_reducible first | exact HB.out | apply below_alloc | apply pw_below_drewN | apply below_drew1) | exact HB.out)⟩
  rfl

theorem WalkJoins_all (s t : ByteArray) (w : World) (_ : s.size ≤ 140737488351232) (_ : t.size ≤ 140737488351232) :
    Calls Try.prog 5 #[.string s, .string t] w fun e w' => e = .returned (.bool true) ∧ Below w.heap.size w w' := by
  by_cases hs : s.size ≤ 200
  · by_cases ht : t.size ≤ 200
    · exact WalkJoins_main s t hs ht w
    · have g1 : decide (200 < (s.size : Int)) = false := decide_eq_false (by omega)
      have g2 : decide (200 < (t.size : Int)) = true := decide_eq_true (by omega)
      have AL := Aside0.mk alive_calls
      clear hs ht
      go_enter Try.func5, Try.ntmps5
      go_wp2_with fail
      refine (AL.out _).mono ?_
      rintro e w' ⟨rfl, hb⟩
      go_wp2_with fail
      go_ret
      exact ⟨rfl, hb⟩
  · have g1 : decide (200 < (s.size : Int)) = true := decide_eq_true (by omega)
    have AL := Aside0.mk alive_calls
    clear hs
    go_enter Try.func5, Try.ntmps5
    go_wp2_with fail
    refine (AL.out _).mono ?_
    rintro e w' ⟨rfl, hb⟩
    go_wp2_with fail
    go_ret
    exact ⟨rfl, hb⟩

end Go.Proofs.Ytckamijajnmbjaa.Wk
