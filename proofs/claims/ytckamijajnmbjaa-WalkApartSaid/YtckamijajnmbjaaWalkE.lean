/- The law WalkApart returns true. Conditions: none beyond the given statement's. -/
import Derived.Test.YtckamijajnmbjaaWalkC
set_option linter.unusedVariables false
set_option linter.unusedSimpArgs false
namespace Go.Proofs.Ytckamijajnmbjaa.Wk
open Go.RowKit Go.Proofs.YtckamijajnmbjaaW.PrintWords Go.Proofs.YtckamijajnmbjaaW.PrintLast Go.Proofs.YtckamijajnmbjaaW.PrintMore Go.Proofs.Ytckamijajnmbjaa.Fpx

theorem far_turn (q a b c d : Int) (h0 : 0 ≤ q) (h : q < 4) : farI (tx q a b) (ty q a b) (tx q c d) (ty q c d) = farI a b c d := by
  have : q = 0 ∨ q = 1 ∨ q = 2 ∨ q = 3 := by omega
  unfold farI tx ty
  rcases this with rfl | rfl | rfl | rfl <;> simp <;> omega
theorem turn_bd (q a b : Int) (B : Int) (h1 : -B ≤ a) (h2 : a ≤ B) (h3 : -B ≤ b) (h4 : b ≤ B) : -B ≤ tx q a b ∧ tx q a b ≤ B ∧ -B ≤ ty q a b ∧ ty q a b ≤ B := by
  unfold tx ty
  repeat' split
  all_goals omega

set_option maxHeartbeats 2000000 in
theorem WalkApart_main (s t u : ByteArray) (n : Int) (hs : s.size ≤ 100) (ht : t.size ≤ 100) (hu : u.size ≤ 100) (n1 : -1152921504606846976 ≤ n) (n2 : n ≤ 1152921504606846976) (w : World) :
    Calls Try.prog 7 #[.string s, .string t, .string u, .int .i64 n] w fun e w' => e = .returned (.bool true) ∧ Below w.heap.size w w' := by
  have bs := pos_bd (bytesOf s)
  have bt' := pos_bd (bytesOf t)
  have bu := pos_bd (bytesOf u)
  rw [bytesOf_length] at bs bt' bu
  obtain ⟨a1, a2, ha⟩ : ∃ a b, pos (bytesOf s) = (a, b) := ⟨_, _, rfl⟩
  obtain ⟨b1, b2, hb⟩ : ∃ a b, pos (bytesOf t) = (a, b) := ⟨_, _, rfl⟩
  obtain ⟨c1, c2, hc⟩ : ∃ a b, pos (bytesOf u) = (a, b) := ⟨_, _, rfl⟩
  rw [ha] at bs
  rw [hb] at bt'
  rw [hc] at bu
  dsimp only at bs bt' bu
  have C1 := Aside0.mk (End_at s a1 a2 ha (by omega))
  have C2 := Aside0.mk (End_at t b1 b2 hb (by omega))
  have C3 := Aside0.mk (End_at u c1 c2 hc (by omega))
  have na := nigh_mk (a := a1) (b := a2) (by omega) (by omega) (by omega) (by omega)
  have nb := nigh_mk (a := b1) (b := b2) (by omega) (by omega) (by omega) (by omega)
  have nc := nigh_mk (a := c1) (b := c2) (by omega) (by omega) (by omega) (by omega)
  obtain ⟨q, hq⟩ : ∃ q, n % 4 = q := ⟨_, rfl⟩
  have T1 := Aside0.mk (Turn_calls (fz a1) (fz a2) a1 a2 n (Near_fz _) (Near_fz _) (small100 (by omega) (by omega)) (small100 (by omega) (by omega)))
  have T2 := Aside0.mk (Turn_calls (fz b1) (fz b2) b1 b2 n (Near_fz _) (Near_fz _) (small100 (by omega) (by omega)) (small100 (by omega) (by omega)))
  rw [hq] at T1 T2
  have ta := turn_bd q a1 a2 100 (by omega) (by omega) (by omega) (by omega)
  have tb := turn_bd q b1 b2 100 (by omega) (by omega) (by omega) (by omega)
  have D0 := Aside0.mk (Apart_at a1 a2 a1 a2 na na)
  have D1 := Aside0.mk (Apart_at a1 a2 b1 b2 na nb)
  have D2 := Aside0.mk (Apart_at b1 b2 a1 a2 nb na)
  have D3 := Aside0.mk (Apart_at a1 a2 c1 c2 na nc)
  have D4 := Aside0.mk (Apart_at b1 b2 c1 c2 nb nc)
  have D5 := Aside0.mk (Apart_at (tx q a1 a2) (ty q a1 a2) (tx q b1 b2) (ty q b1 b2) (nigh_mk (by omega) (by omega) (by omega) (by omega)) (nigh_mk (by omega) (by omega) (by omega) (by omega)))
  rw [far_turn q a1 a2 b1 b2 (by omega) (by omega)] at D5
  have f0 : farI a1 a2 a1 a2 = 0 := by unfold farI; omega
  have f2 : farI b1 b2 a1 a2 = farI a1 a2 b1 b2 := by unfold farI; omega
  rw [f0] at D0
  rw [f2] at D2
  have tri : farI a1 a2 c1 c2 ≤ farI a1 a2 b1 b2 + farI b1 b2 c1 c2 := by unfold farI; omega
  have q1 : 0 ≤ farI a1 a2 b1 b2 ∧ farI a1 a2 b1 b2 ≤ 1000 := by unfold farI; omega
  have q2 : 0 ≤ farI a1 a2 c1 c2 ∧ farI a1 a2 c1 c2 ≤ 1000 := by unfold farI; omega
  have q3 : 0 ≤ farI b1 b2 c1 c2 ∧ farI b1 b2 c1 c2 ≤ 1000 := by unfold farI; omega
  have ez : farI a1 a2 b1 b2 = 0 ↔ (a1 = b1 ∧ a2 = b2) := by unfold farI; omega
  have z1 := eqf a1 b1 (small100 (by omega) (by omega)) (small100 (by omega) (by omega))
  have z2 := eqf a2 b2 (small100 (by omega) (by omega)) (small100 (by omega) (by omega))
  generalize tx q a1 a2 = p1 at *
  generalize ty q a1 a2 = p2 at *
  generalize tx q b1 b2 = r1 at *
  generalize ty q b1 b2 = r2 at *
  generalize farI a1 a2 b1 b2 = f at *
  generalize farI a1 a2 c1 c2 = g at *
  generalize farI b1 b2 c1 c2 = h at *
  have m1 : ((f == 0) == (decide (a1 = b1) && decide (a2 = b2))) = true := by
    by_cases hf : f = 0
    · have := ez.1 hf
      simp [hf, this.1, this.2]
    · have hn : ¬ (a1 = b1 ∧ a2 = b2) := fun hh => hf (ez.2 hh)
      have e1 : (f == 0) = false := beq_eq_false_iff_ne.2 hf
      have e2 : (decide (a1 = b1) && decide (a2 = b2)) = false := by rw [← Bool.decide_and]; exact decide_eq_false hn
      rw [e1, e2]
      rfl
  have M1 := Aside0.mk m1
  have ff : (f == f) = true := beq_self_eq_true f
  have gg : decide (g ≤ f + h) = true := decide_eq_true tri
  have g1 : decide (100 < (s.size : Int)) = false := decide_eq_false (by omega)
  have g2 : decide (100 < (t.size : Int)) = false := decide_eq_false (by omega)
  have g3 : decide (100 < (u.size : Int)) = false := decide_eq_false (by omega)
  have g4 : decide (n < -1152921504606846976) = false := decide_eq_false (by omega)
  have g5 : decide (1152921504606846976 < n) = false := decide_eq_false (by omega)
  have AL := Aside0.mk alive_calls
  have HB : Aside0 (Below w.heap.size w w) := ⟨Below.refl _ _⟩
  have q1a := q1.1
  have q1b := q1.2
  have q3a := q3.1
  have q3b := q3.2
  clear ha hb hc hq bs bt' bu na nb nc ta tb f0 f2 tri ez m1 n1 n2 hs ht hu q1 q2 q3
  go_enter Try.func7, Try.ntmps7
  go_wp2_with (first
    | (go_at_call 11; (with_reducible refine (AL.out _).mono ?_); rintro e w' ⟨rfl, hb⟩; have n0_ := Aside0.mk (below_step (by repeat (first | (with_reducible first | exact HB.out | apply below_alloc | apply pw_below_drewN | apply below_drew1) | exact HB.out)) hb); clear HB; have HB := n0_; clear n0_ hb)
    | (go_at_call 17; (first | (with_reducible refine (C1.out _).mono ?_) | (with_reducible refine (C2.out _).mono ?_) | (with_reducible refine (C3.out _).mono ?_)); rintro e w' ⟨rfl, hb⟩; have n0_ := Aside0.mk (below_step (by repeat (first | (with_reducible first | exact HB.out | apply below_alloc | apply pw_below_drewN | apply below_drew1) | exact HB.out)) hb); clear HB; have HB := n0_; clear n0_ hb)
    | (go_at_call 12; (first | (with_reducible refine (T1.out _).mono ?_) | (with_reducible refine (T2.out _).mono ?_)); rintro e w' ⟨rfl, ⟨nd, rfl⟩⟩)
    | (go_at_call 18; (first | (with_reducible refine (D0.out _).mono ?_) | (with_reducible refine (D1.out _).mono ?_) | (with_reducible refine (D2.out _).mono ?_) | (with_reducible refine (D3.out _).mono ?_) | (with_reducible refine (D4.out _).mono ?_) | (with_reducible refine (D5.out _).mono ?_)); rintro e w' ⟨rfl, ⟨nd, rfl⟩⟩))
  go_ret
  refine ⟨?_, by repeat (first | (with_reducible first | exact HB.out | apply below_alloc | apply pw_below_drewN | apply below_drew1) | exact HB.out)⟩
  exact congrArg (fun z => Ending.returned (.bool z)) M1.out

theorem WalkApart_all (s t u : ByteArray) (n : Int) (w : World) (_ : s.size ≤ 140737488351232) (_ : t.size ≤ 140737488351232) (_ : u.size ≤ 140737488351232) (_ : (Lit.int .i64 n).wf = true) :
    Calls Try.prog 7 #[.string s, .string t, .string u, .int .i64 n] w fun e w' => e = .returned (.bool true) ∧ Below w.heap.size w w' := by
  by_cases h0 : 100 < (s.size : Int)
  case pos =>
    have gg : decide (100 < (s.size : Int)) = true := decide_eq_true h0
    have AL := Aside0.mk alive_calls
    clear h0
    go_enter Try.func7, Try.ntmps7
    go_wp2_with fail
    refine (AL.out _).mono ?_
    rintro e w' ⟨rfl, hb⟩
    go_wp2_with fail
    go_ret
    exact ⟨rfl, hb⟩
  by_cases h1 : 100 < (t.size : Int)
  case pos =>
    have g0 : decide (100 < (s.size : Int)) = false := decide_eq_false h0
    have gg : decide (100 < (t.size : Int)) = true := decide_eq_true h1
    have AL := Aside0.mk alive_calls
    clear h0 h1
    go_enter Try.func7, Try.ntmps7
    go_wp2_with fail
    refine (AL.out _).mono ?_
    rintro e w' ⟨rfl, hb⟩
    go_wp2_with fail
    go_ret
    exact ⟨rfl, hb⟩
  by_cases h2 : 100 < (u.size : Int)
  case pos =>
    have g0 : decide (100 < (s.size : Int)) = false := decide_eq_false h0
    have g1 : decide (100 < (t.size : Int)) = false := decide_eq_false h1
    have gg : decide (100 < (u.size : Int)) = true := decide_eq_true h2
    have AL := Aside0.mk alive_calls
    clear h0 h1 h2
    go_enter Try.func7, Try.ntmps7
    go_wp2_with fail
    refine (AL.out _).mono ?_
    rintro e w' ⟨rfl, hb⟩
    go_wp2_with fail
    go_ret
    exact ⟨rfl, hb⟩
  by_cases h3 : n < -1152921504606846976
  case pos =>
    have g0 : decide (100 < (s.size : Int)) = false := decide_eq_false h0
    have g1 : decide (100 < (t.size : Int)) = false := decide_eq_false h1
    have g2 : decide (100 < (u.size : Int)) = false := decide_eq_false h2
    have gg : decide (n < -1152921504606846976) = true := decide_eq_true h3
    have AL := Aside0.mk alive_calls
    clear h0 h1 h2 h3
    go_enter Try.func7, Try.ntmps7
    go_wp2_with fail
    refine (AL.out _).mono ?_
    rintro e w' ⟨rfl, hb⟩
    go_wp2_with fail
    go_ret
    exact ⟨rfl, hb⟩
  by_cases h4 : 1152921504606846976 < n
  case pos =>
    have g0 : decide (100 < (s.size : Int)) = false := decide_eq_false h0
    have g1 : decide (100 < (t.size : Int)) = false := decide_eq_false h1
    have g2 : decide (100 < (u.size : Int)) = false := decide_eq_false h2
    have g3 : decide (n < -1152921504606846976) = false := decide_eq_false h3
    have gg : decide (1152921504606846976 < n) = true := decide_eq_true h4
    have AL := Aside0.mk alive_calls
    clear h0 h1 h2 h3 h4
    go_enter Try.func7, Try.ntmps7
    go_wp2_with fail
    refine (AL.out _).mono ?_
    rintro e w' ⟨rfl, hb⟩
    go_wp2_with fail
    go_ret
    exact ⟨rfl, hb⟩
  exact WalkApart_main s t u n (by omega) (by omega) (by omega) (by omega) (by omega) w

end Go.Proofs.Ytckamijajnmbjaa.Wk
