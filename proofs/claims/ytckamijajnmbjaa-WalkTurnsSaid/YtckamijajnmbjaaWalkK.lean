/- The law WalkTurns returns true. Conditions: none beyond the given statement's. -/
import Derived.Test.YtckamijajnmbjaaWalkC
set_option linter.unusedVariables false
set_option linter.unusedSimpArgs false
namespace Go.Proofs.Ytckamijajnmbjaa.Wk
open Go.RowKit Go.Proofs.YtckamijajnmbjaaW.PrintWords Go.Proofs.YtckamijajnmbjaaW.PrintLast Go.Proofs.YtckamijajnmbjaaW.PrintMore Go.Proofs.Ytckamijajnmbjaa.Fpx

attribute [local go_sem] run_negf

theorem plus_calls (n : Int) (hs : small n) (w : World) :
    Calls Try.prog 28 #[.float .f64 (fz n)] w fun e w' => e = .returned (.float .f64 (fz n)) ∧ Drawn0 w w' := by
  have he := eq_val (Val_fz n hs) val0
  by_cases h0 : n = 0
  · subst h0
    have hc : (FloatKind.f64.format.order (fz 0) 0 == some .eq) = true := by rw [fmt, he]; rfl
    rw [fz_zero] at hc ⊢
    clear he
    go_enter Try.func28, Try.ntmps28
    go_wp2
    go_ret
    exact ⟨rfl, Drawn0.refl _⟩
  · have hc : (FloatKind.f64.format.order (fz n) 0 == some .eq) = false := by rw [fmt, he]; simp [h0]
    clear he
    go_enter Try.func28, Try.ntmps28
    go_wp2
    go_ret
    exact ⟨rfl, Drawn0.refl _⟩

theorem neg_calls (n : Int) (hs : small n) (w : World) :
    Calls Try.prog 29 #[.float .f64 (fz n)] w fun e w' => e = .returned (.float .f64 (fz (-n))) ∧ Drawn0 w w' := by
  have he := eq_val (Val_fz n hs) val0
  by_cases h0 : n = 0
  · subst h0
    have hc : (FloatKind.f64.format.order (fz 0) 0 == some .eq) = true := by rw [fmt, he]; rfl
    rw [Int.neg_zero, fz_zero]
    rw [fz_zero] at hc
    clear he
    go_enter Try.func29, Try.ntmps29
    go_wp2
    go_ret
    exact ⟨rfl, Drawn0.refl _⟩
  · have hc : (FloatKind.f64.format.order (fz n) 0 == some .eq) = false := by rw [fmt, he]; simp [h0]
    have HN := Aside0.mk (neg_fz n h0 hs)
    clear he
    go_enter Try.func29, Try.ntmps29
    go_wp2
    go_ret
    exact ⟨congrArg (fun z => Ending.returned (.float .f64 z)) HN.out, Drawn0.refl _⟩

/-- Turned by so many quarters, one after the other. -/
def nx (x y : Int) : Nat → Int × Int
  | 0 => (x, y)
  | k + 1 => (-(nx x y k).2, (nx x y k).1)
theorem nx_small (x y : Int) (hx : small x) (hy : small y) (k : Nat) : small (nx x y k).1 ∧ small (nx x y k).2 := by
  induction k with
  | zero => exact ⟨hx, hy⟩
  | succ k ih => exact ⟨small_neg ih.2, ih.1⟩
theorem nx_t (x y : Int) (k : Nat) (h : k < 4) : nx x y k = (tx k x y, ty k x y) := by
  have : k = 0 ∨ k = 1 ∨ k = 2 ∨ k = 3 := by omega
  rcases this with rfl | rfl | rfl | rfl <;> simp [nx, tx, ty]

theorem ref_Turn_calls (x y n : Int) (hx : small x) (hy : small y) (h1 : -1152921504606846976 ≤ n) (h2 : n ≤ 1152921504606846976) (w : World) :
    Calls Try.prog 14 #[.complex .f64 (fz x) (fz y), .int .i64 n] w fun e w' => e = .returned (.complex .f64 (fz (tx (n % 4) x y)) (fz (ty (n % 4) x y))) ∧ Drawn0 w w' := by
  have q4 : n.tmod 4 = n % 4 ∨ n.tmod 4 = n % 4 - 4 := by
    have := Int.tmod_eq_emod (a := n) (b := 4)
    have hh : (4 : Int).natAbs = 4 := rfl
    split at this <;> omega
  have qb : -4 < n.tmod 4 ∧ n.tmod 4 < 4 := ⟨Int.lt_tmod_of_pos n (by omega), Int.tmod_lt_of_pos n (by omega)⟩
  obtain ⟨q, hq⟩ : ∃ q : Nat, n % 4 = q := ⟨(n % 4).toNat, by omega⟩
  have hq3 : q < 4 := by omega
  have hqq : (n.tmod 4 + 4).tmod 4 = (q : Int) := by
    rw [Int.tmod_eq_emod_of_nonneg (by omega)]
    omega
  have hfin := nx_t x y q hq3
  have NS := Aside0.mk (nx_small x y hx hy)
  have P1 := Aside0.mk (plus_calls x hx)
  have P2 := Aside0.mk (plus_calls y hy)
  have NX : Aside0 (∀ k, nx x y (k + 1) = (-(nx x y k).2, (nx x y k).1)) := ⟨fun _ => rfl⟩
  have N0 : Aside0 (nx x y 0 = (x, y)) := ⟨rfl⟩
  rw [hq]
  have HF := Aside0.mk hfin
  obtain ⟨t, ht⟩ : ∃ t, n.tmod 4 = t := ⟨_, rfl⟩
  rw [ht] at hqq qb
  have qb1 := qb.1
  have qb2 := qb.2
  clear q4 qb hq hfin
  go_enter Try.func14, Try.ntmps14
  go_wp2_with fail
  refine (P1.out _).mono ?_
  rintro e w1 ⟨rfl, ⟨n1, rfl⟩⟩
  go_wp2_with fail
  refine (P2.out _).mono ?_
  rintro e w1 ⟨rfl, ⟨n2, rfl⟩⟩
  go_wp2_with fail
  have HD0 : Aside0 (Drawn0 w (w.drewN (n1 + n2))) := ⟨⟨⟨_, rfl⟩⟩⟩
  go_loopw [5, 6, 7] (fun a b k wr => ∃ r : Nat, r ≤ q ∧ k = .int .i64 r ∧ Aside0 (a = .float .f64 (fz (nx x y (q - r)).1)) ∧ Aside0 (b = .float .f64 (fz (nx x y (q - r)).2)) ∧ Aside0 (Drawn0 w wr)) (fun _ _ k _ => (intOf k).toNat)
  case atStart => exact ⟨q, by omega, rfl, ⟨by rw [Nat.sub_self, N0.out]⟩, ⟨by rw [Nat.sub_self, N0.out]⟩, HD0⟩
  case round =>
    obtain ⟨r, hr, rfl, ha, hb, HD⟩ := hrel
    obtain ⟨rfl⟩ := ha
    obtain ⟨rfl⟩ := hb
    by_cases h0 : 0 < r
    · have hg : decide (0 < (r : Int)) = true := decide_eq_true (by omega)
      obtain ⟨j, hj⟩ : ∃ j, q - r = j := ⟨_, rfl⟩
      have hj' : q - (r - 1) = j + 1 := by omega
      rw [hj]
      have HJ := Aside0.mk hj'
      clear hj hj'
      go_wp2_with fail
      refine (neg_calls _ (NS.out j).2 _).mono ?_
      rintro e w3 ⟨rfl, hd⟩
      have HD3 := Aside0.mk (drawn_then HD.out hd)
      clear hd
      have hr1 : (r : Int) - 1 = ((r - 1 : Nat) : Int) := by omega
      go_wp2_with fail
      go_roundw
      case rel => exact ⟨r - 1, by omega, by go_num, ⟨by rw [HJ.out, NX.out]⟩, ⟨by rw [HJ.out, NX.out]⟩, HD3⟩
      case measure => simp [intOf]; omega
    · have hg : decide (0 < (r : Int)) = false := decide_eq_false (by omega)
      have h1 : q - r = q := by omega
      rw [h1, HF.out]
      go_wp2_with fail
      go_ret
      exact ⟨rfl, HD.out⟩

theorem turn_back (q x y : Int) (h0 : 0 ≤ q) (h : q < 4) : tx ((4 - q) % 4) (tx q x y) (ty q x y) = x ∧ ty ((4 - q) % 4) (tx q x y) (ty q x y) = y := by
  have : q = 0 ∨ q = 1 ∨ q = 2 ∨ q = 3 := by omega
  rcases this with rfl | rfl | rfl | rfl <;> simp [tx, ty]
theorem turn_more (q r x y : Int) (h0 : 0 ≤ q) (h : q < 4) (h1 : 0 ≤ r) (h2 : r < 4) : tx r (tx q x y) (ty q x y) = tx ((q + r) % 4) x y ∧ ty r (tx q x y) (ty q x y) = ty ((q + r) % 4) x y := by
  have hq : q = 0 ∨ q = 1 ∨ q = 2 ∨ q = 3 := by omega
  have hr : r = 0 ∨ r = 1 ∨ r = 2 ∨ r = 3 := by omega
  rcases hq with rfl | rfl | rfl | rfl <;> rcases hr with rfl | rfl | rfl | rfl <;> simp [tx, ty]

theorem Turn_at (x y q r : Int) (h : q % 4 = r) (hx : small x) (hy : small y) (w : World) :
    Calls Try.prog 12 #[.complex .f64 (fz x) (fz y), .int .i64 q] w fun e w' => e = .returned (.complex .f64 (fz (tx r x y)) (fz (ty r x y))) ∧ Drawn0 w w' := by
  have := Turn_calls (fz x) (fz y) x y q (Near_fz _) (Near_fz _) hx hy w
  rwa [h] at this
theorem ref_Turn_at (x y q r : Int) (h : q % 4 = r) (hx : small x) (hy : small y) (h1 : -1152921504606846976 ≤ q) (h2 : q ≤ 1152921504606846976) (w : World) :
    Calls Try.prog 14 #[.complex .f64 (fz x) (fz y), .int .i64 q] w fun e w' => e = .returned (.complex .f64 (fz (tx r x y)) (fz (ty r x y))) ∧ Drawn0 w w' := by
  have := ref_Turn_calls x y q hx hy h1 h2 w
  rwa [h] at this

set_option maxRecDepth 100000 in
set_option maxHeartbeats 4000000 in
theorem WalkTurns_main (x y n m : Int) (x1 : -1125899906842624 ≤ x) (y1 : -1125899906842624 ≤ y) (x2 : x ≤ 1125899906842624) (y2 : y ≤ 1125899906842624) (n1 : -1152921504606846976 ≤ n) (n2 : n ≤ 1152921504606846976) (m1 : -1152921504606846976 ≤ m) (m2 : m ≤ 1152921504606846976) (w : World) :
    Calls Try.prog 3 #[.int .i64 x, .int .i64 y, .int .i64 n, .int .i64 m] w fun e w' => e = .returned (.bool true) ∧ Below w.heap.size w w' := by
  have sx' : small x := small_of (by omega) (by omega)
  have sy' : small y := small_of (by omega) (by omega)
  obtain ⟨q, hq⟩ : ∃ q, n % 4 = q := ⟨_, rfl⟩
  obtain ⟨r, hr⟩ : ∃ r, m % 4 = r := ⟨_, rfl⟩
  have T1 := Aside0.mk (Turn_at x y n q hq sx' sy')
  have R1 := Aside0.mk (ref_Turn_at x y n q hq sx' sy' n1 n2)
  have T3 := Aside0.mk (Turn_at x y (n + 4) q (by omega) sx' sy')
  have T5 := Aside0.mk (Turn_at x y (n + m) ((q + r) % 4) (by omega) sx' sy')
  have tb := turn_back q x y (by omega) (by omega)
  have tm := turn_more q r x y (by omega) (by omega) (by omega) (by omega)
  have sa : small (tx q x y) ∧ small (ty q x y) := by
    unfold tx ty
    constructor <;> (repeat' split) <;> first | exact sx' | exact sy' | exact small_neg sx' | exact small_neg sy'
  have T2 := Aside0.mk (Turn_at (tx q x y) (ty q x y) (-n) ((4 - q) % 4) (by omega) sa.1 sa.2)
  have T4 := Aside0.mk (Turn_at (tx q x y) (ty q x y) m r hr sa.1 sa.2)
  rw [tb.1, tb.2] at T2
  rw [tm.1, tm.2] at T4
  have g0 : decide (x < -1125899906842624) = false := decide_eq_false (by omega)
  have g1 : decide (y < -1125899906842624) = false := decide_eq_false (by omega)
  have g2 : decide (1125899906842624 < x) = false := decide_eq_false (by omega)
  have g3 : decide (1125899906842624 < y) = false := decide_eq_false (by omega)
  have g4 : decide (n < -1152921504606846976) = false := decide_eq_false (by omega)
  have g5 : decide (1152921504606846976 < n) = false := decide_eq_false (by omega)
  have g6 : decide (m < -1152921504606846976) = false := decide_eq_false (by omega)
  have g7 : decide (1152921504606846976 < m) = false := decide_eq_false (by omega)
  have cx : floatOfInt .f64 x = fz x := rfl
  have cy : floatOfInt .f64 y = fz y := rfl
  have AL := Aside0.mk alive_calls
  have HB : Aside0 (Below w.heap.size w w) := ⟨Below.refl _ _⟩
  clear hq hr tb tm sa sx' sy'
  go_enter Try.func3, Try.ntmps3
  go_wp2_with (first
    | (go_at_call 11; (with_reducible refine (AL.out _).mono ?_); rintro e w' ⟨rfl, hb⟩; have n0_ := Aside0.mk (below_step (by repeat (first | (with_reducible first | exact HB.out | apply below_alloc | apply pw_below_drewN | apply below_drew1) | exact HB.out)) hb); clear HB; have HB := n0_; clear n0_ hb)
    | (go_at_call 12; (first | (with_reducible refine (T1.out _).mono ?_) | (with_reducible refine (T2.out _).mono ?_) | (with_reducible refine (T3.out _).mono ?_) | (with_reducible refine (T4.out _).mono ?_) | (with_reducible refine (T5.out _).mono ?_)); rintro e w' ⟨rfl, ⟨nd, rfl⟩⟩)
    | (go_at_call 14; (first | (with_reducible refine (R1.out _).mono ?_)); rintro e w' ⟨rfl, ⟨nd, rfl⟩⟩)
    | (go_at_call 13; (with_reducible refine (exact_yes _ _ _).mono ?_); rintro e w' ⟨rfl, ⟨nd, rfl⟩⟩))
  go_ret
  refine ⟨?_, by repeat (first | (with_reducible first | exact HB.out | apply below_alloc | apply pw_below_drewN | apply below_drew1) | exact HB.out)⟩
  rfl

theorem WalkTurns_all (x y n m : Int) (w : World) (_ : (Lit.int .i64 x).wf = true) (_ : (Lit.int .i64 y).wf = true) (_ : (Lit.int .i64 n).wf = true) (_ : (Lit.int .i64 m).wf = true) :
    Calls Try.prog 3 #[.int .i64 x, .int .i64 y, .int .i64 n, .int .i64 m] w fun e w' => e = .returned (.bool true) ∧ Below w.heap.size w w' := by
  by_cases h0 : x < -1125899906842624
  case pos =>
    have gg : decide (x < -1125899906842624) = true := decide_eq_true h0
    have AL := Aside0.mk alive_calls
    clear h0
    go_enter Try.func3, Try.ntmps3
    go_wp2_with fail
    refine (AL.out _).mono ?_
    rintro e w' ⟨rfl, hb⟩
    go_wp2_with fail
    go_ret
    exact ⟨rfl, hb⟩
  by_cases h1 : y < -1125899906842624
  case pos =>
    have g0 : decide (x < -1125899906842624) = false := decide_eq_false h0
    have gg : decide (y < -1125899906842624) = true := decide_eq_true h1
    have AL := Aside0.mk alive_calls
    clear h0 h1
    go_enter Try.func3, Try.ntmps3
    go_wp2_with fail
    refine (AL.out _).mono ?_
    rintro e w' ⟨rfl, hb⟩
    go_wp2_with fail
    go_ret
    exact ⟨rfl, hb⟩
  by_cases h2 : 1125899906842624 < x
  case pos =>
    have g0 : decide (x < -1125899906842624) = false := decide_eq_false h0
    have g1 : decide (y < -1125899906842624) = false := decide_eq_false h1
    have gg : decide (1125899906842624 < x) = true := decide_eq_true h2
    have AL := Aside0.mk alive_calls
    clear h0 h1 h2
    go_enter Try.func3, Try.ntmps3
    go_wp2_with fail
    refine (AL.out _).mono ?_
    rintro e w' ⟨rfl, hb⟩
    go_wp2_with fail
    go_ret
    exact ⟨rfl, hb⟩
  by_cases h3 : 1125899906842624 < y
  case pos =>
    have g0 : decide (x < -1125899906842624) = false := decide_eq_false h0
    have g1 : decide (y < -1125899906842624) = false := decide_eq_false h1
    have g2 : decide (1125899906842624 < x) = false := decide_eq_false h2
    have gg : decide (1125899906842624 < y) = true := decide_eq_true h3
    have AL := Aside0.mk alive_calls
    clear h0 h1 h2 h3
    go_enter Try.func3, Try.ntmps3
    go_wp2_with fail
    refine (AL.out _).mono ?_
    rintro e w' ⟨rfl, hb⟩
    go_wp2_with fail
    go_ret
    exact ⟨rfl, hb⟩
  by_cases h4 : n < -1152921504606846976
  case pos =>
    have g0 : decide (x < -1125899906842624) = false := decide_eq_false h0
    have g1 : decide (y < -1125899906842624) = false := decide_eq_false h1
    have g2 : decide (1125899906842624 < x) = false := decide_eq_false h2
    have g3 : decide (1125899906842624 < y) = false := decide_eq_false h3
    have gg : decide (n < -1152921504606846976) = true := decide_eq_true h4
    have AL := Aside0.mk alive_calls
    clear h0 h1 h2 h3 h4
    go_enter Try.func3, Try.ntmps3
    go_wp2_with fail
    refine (AL.out _).mono ?_
    rintro e w' ⟨rfl, hb⟩
    go_wp2_with fail
    go_ret
    exact ⟨rfl, hb⟩
  by_cases h5 : 1152921504606846976 < n
  case pos =>
    have g0 : decide (x < -1125899906842624) = false := decide_eq_false h0
    have g1 : decide (y < -1125899906842624) = false := decide_eq_false h1
    have g2 : decide (1125899906842624 < x) = false := decide_eq_false h2
    have g3 : decide (1125899906842624 < y) = false := decide_eq_false h3
    have g4 : decide (n < -1152921504606846976) = false := decide_eq_false h4
    have gg : decide (1152921504606846976 < n) = true := decide_eq_true h5
    have AL := Aside0.mk alive_calls
    clear h0 h1 h2 h3 h4 h5
    go_enter Try.func3, Try.ntmps3
    go_wp2_with fail
    refine (AL.out _).mono ?_
    rintro e w' ⟨rfl, hb⟩
    go_wp2_with fail
    go_ret
    exact ⟨rfl, hb⟩
  by_cases h6 : m < -1152921504606846976
  case pos =>
    have g0 : decide (x < -1125899906842624) = false := decide_eq_false h0
    have g1 : decide (y < -1125899906842624) = false := decide_eq_false h1
    have g2 : decide (1125899906842624 < x) = false := decide_eq_false h2
    have g3 : decide (1125899906842624 < y) = false := decide_eq_false h3
    have g4 : decide (n < -1152921504606846976) = false := decide_eq_false h4
    have g5 : decide (1152921504606846976 < n) = false := decide_eq_false h5
    have gg : decide (m < -1152921504606846976) = true := decide_eq_true h6
    have AL := Aside0.mk alive_calls
    clear h0 h1 h2 h3 h4 h5 h6
    go_enter Try.func3, Try.ntmps3
    go_wp2_with fail
    refine (AL.out _).mono ?_
    rintro e w' ⟨rfl, hb⟩
    go_wp2_with fail
    go_ret
    exact ⟨rfl, hb⟩
  by_cases h7 : 1152921504606846976 < m
  case pos =>
    have g0 : decide (x < -1125899906842624) = false := decide_eq_false h0
    have g1 : decide (y < -1125899906842624) = false := decide_eq_false h1
    have g2 : decide (1125899906842624 < x) = false := decide_eq_false h2
    have g3 : decide (1125899906842624 < y) = false := decide_eq_false h3
    have g4 : decide (n < -1152921504606846976) = false := decide_eq_false h4
    have g5 : decide (1152921504606846976 < n) = false := decide_eq_false h5
    have g6 : decide (m < -1152921504606846976) = false := decide_eq_false h6
    have gg : decide (1152921504606846976 < m) = true := decide_eq_true h7
    have AL := Aside0.mk alive_calls
    clear h0 h1 h2 h3 h4 h5 h6 h7
    go_enter Try.func3, Try.ntmps3
    go_wp2_with fail
    refine (AL.out _).mono ?_
    rintro e w' ⟨rfl, hb⟩
    go_wp2_with fail
    go_ret
    exact ⟨rfl, hb⟩
  exact WalkTurns_main x y n m (by omega) (by omega) (by omega) (by omega) (by omega) (by omega) (by omega) (by omega) w

end Go.Proofs.Ytckamijajnmbjaa.Wk
