/- The law WalkLong returns true. Conditions: none beyond the given statement's. -/
import Derived.Test.YtckamijajnmbjaaWalkC
set_option linter.unusedVariables false
set_option linter.unusedSimpArgs false
namespace Go.Proofs.Ytckamijajnmbjaa.Wk
open Go.RowKit Go.Proofs.YtckamijajnmbjaaW.PrintWords Go.Proofs.YtckamijajnmbjaaW.PrintLast Go.Proofs.YtckamijajnmbjaaW.PrintMore Go.Proofs.Ytckamijajnmbjaa.Fpx

def rep (s : ByteArray) : Nat → ByteArray
  | 0 => ⟨#[]⟩
  | k + 1 => rep s k ++ s
theorem rep_size (s : ByteArray) (k : Nat) : (rep s k).size = k * s.size := by
  induction k with
  | zero => simp [rep]; rfl
  | succ k ih => simp only [rep, ByteArray.size_append, ih, Nat.succ_mul]
theorem rep_pos (s : ByteArray) (a b : Int) (h : pos (bytesOf s) = (a, b)) (k : Nat) : pos (bytesOf (rep s k)) = (k * a, k * b) := by
  induction k with
  | zero => simp [rep, bytesOf, pos]
  | succ k ih =>
    simp only [rep, bytesOf_append, pos_append, ih, h, Prod.mk.injEq]
    constructor <;> rw [Int.natCast_add, Int.add_mul] <;> simp

theorem mulc (a b n : Int) (ha : small a) (hb : small b) (hn : small n) (h1 : small (a * n)) (h2 : small (b * n)) :
    ∃ r i, cMulBits (fz a) (fz b) (fz n) 0 = some (r, i) ∧ Val r (a * n) ∧ Val i (b * n) := by
  obtain ⟨p, hp, vp⟩ := mul_val (Val_fz a ha) (Val_fz n hn) h1
  obtain ⟨q, hq, vq⟩ := mul_val (Val_fz b hb) val0 (by rw [Int.mul_zero]; exact small0)
  rw [Int.mul_zero] at vq
  obtain ⟨r, hr, vr⟩ := sub_val vp vq (by rw [Int.sub_zero]; exact h1)
  obtain ⟨p2, hp2, vp2⟩ := mul_val (Val_fz a ha) val0 (by rw [Int.mul_zero]; exact small0)
  rw [Int.mul_zero] at vp2
  obtain ⟨q2, hq2, vq2⟩ := mul_val (Val_fz b hb) (Val_fz n hn) h2
  obtain ⟨i, hi, vi⟩ := add_val vp2 vq2 (by rw [Int.zero_add]; exact h2)
  rw [Int.sub_zero] at vr
  rw [Int.zero_add] at vi
  refine ⟨r, i, ?_, vr, vi⟩
  unfold cMulBits floatBits
  simp only [fmt, hp, hq, hr, hp2, hq2, hi, Option.bind_some]

theorem mul_bd (n a : Int) (h0 : 0 ≤ n) (h1 : n ≤ 20) (ha : -40 ≤ a) (hb : a ≤ 40) : -800 ≤ n * a ∧ n * a ≤ 800 := by
  have : n = 0 ∨ n = 1 ∨ n = 2 ∨ n = 3 ∨ n = 4 ∨ n = 5 ∨ n = 6 ∨ n = 7 ∨ n = 8 ∨ n = 9 ∨ n = 10 ∨ n = 11 ∨ n = 12 ∨ n = 13 ∨ n = 14 ∨ n = 15 ∨ n = 16 ∨ n = 17 ∨ n = 18 ∨ n = 19 ∨ n = 20 := by omega
  rcases this with h | h | h | h | h | h | h | h | h | h | h | h | h | h | h | h | h | h | h | h | h <;> subst h <;> omega

set_option maxRecDepth 100000 in
set_option maxHeartbeats 2000000 in
theorem WalkLong_main (s : ByteArray) (n : Int) (hs : s.size ≤ 40) (n1 : 0 ≤ n) (n2 : n ≤ 20) (w : World) :
    Calls Try.prog 9 #[.string s, .int .i64 n] w fun e w' => e = .returned (.bool true) ∧ Below w.heap.size w w' := by
  have bs := pos_bd (bytesOf s)
  have fs := pos_far (bytesOf s)
  rw [bytesOf_length] at bs fs
  obtain ⟨a, b, ha⟩ : ∃ a b, pos (bytesOf s) = (a, b) := ⟨_, _, rfl⟩
  rw [ha] at bs fs
  dsimp only at bs fs
  obtain ⟨m, rfl⟩ := Int.eq_ofNat_of_zero_le n1
  have ra := mul_bd m a n1 n2 (by omega) (by omega)
  have rb := mul_bd m b n1 n2 (by omega) (by omega)
  have hrep := rep_pos s a b ha m
  have C1 := Aside0.mk (End_at s a b ha (by omega))
  have hsz : (rep s m).size ≤ 100000 := by
    rw [rep_size]
    have : m * s.size ≤ 20 * 40 := Nat.mul_le_mul (by omega) hs
    omega
  have C2 := Aside0.mk (End_at (rep s m) _ _ hrep hsz)
  obtain ⟨r, i, hm, vr, vi⟩ := mulc a b m (small100 (by omega) (by omega)) (small100 (by omega) (by omega)) (small100 (by omega) (by omega)) (by rw [Int.mul_comm]; exact small100 (by omega) (by omega)) (by rw [Int.mul_comm]; exact small100 (by omega) (by omega))
  rw [Int.mul_comm] at vr vi
  have hmul : ∀ t w, (binOp .mul t (.complex .f64 (fz a) (fz b)) (.complex .f64 (floatOfInt .f64 (m : Int)) 0)).run Try.prog w = .ok (.complex .f64 r i) w := fun t w => run_complex_mul w t _ _ _ _ r i hm
  have z1 : (FloatKind.f64.format.order (fz (m * a)) r == some .eq) = true := by rw [fmt, eq_val (Val_fz _ (small100 (by omega) (by omega))) vr]; simp
  have z2 : (FloatKind.f64.format.order (fz (m * b)) i == some .eq) = true := by rw [fmt, eq_val (Val_fz _ (small100 (by omega) (by omega))) vi]; simp
  have D1 := Aside0.mk (Apart_at 0 0 a b (nigh_mk (by omega) (by omega) (by omega) (by omega)) (nigh_mk (by omega) (by omega) (by omega) (by omega)))
  have D2 := Aside0.mk (Apart_at 0 0 (m * a) (m * b) (nigh_mk (by omega) (by omega) (by omega) (by omega)) (nigh_mk (by omega) (by omega) (by omega) (by omega)))
  have e1 : farI 0 0 (m * a) (m * b) = m * farI 0 0 a b := by
    unfold farI
    have k1 : (0 - (m : Int) * a).natAbs = m * (0 - a).natAbs := by rw [Int.zero_sub, Int.zero_sub, Int.natAbs_neg, Int.natAbs_neg, Int.natAbs_mul, Int.natAbs_natCast]
    have k2 : (0 - (m : Int) * b).natAbs = m * (0 - b).natAbs := by rw [Int.zero_sub, Int.zero_sub, Int.natAbs_neg, Int.natAbs_neg, Int.natAbs_mul, Int.natAbs_natCast]
    rw [k1, k2, Int.mul_add, Int.natCast_mul, Int.natCast_mul]
  rw [e1] at D2
  rw [fz_zero] at D1 D2
  have f1 : farI 0 0 a b = (a.natAbs : Int) + (b.natAbs : Int) := by unfold farI; omega
  obtain ⟨f, hf⟩ : ∃ f, farI 0 0 a b = f := ⟨_, rfl⟩
  rw [hf] at D1 D2 f1
  have f2 : 0 ≤ f ∧ f ≤ 40 := by omega
  have f3 := mul_bd m f n1 n2 (by omega) (by omega)
  have f4 : 0 ≤ (m : Int) * f := Int.mul_nonneg (by omega) (by omega)
  have fl : decide (f ≤ (s.size : Int)) = true := decide_eq_true (by omega)
  have g1 : decide (40 < (s.size : Int)) = false := decide_eq_false (by omega)
  have g2 : decide ((m : Int) < 0) = false := decide_eq_false (by omega)
  have g3 : decide (20 < (m : Int)) = false := decide_eq_false (by omega)
  have AL := Aside0.mk alive_calls
  have HB : Aside0 (Below w.heap.size w w) := ⟨Below.refl _ _⟩
  have wf : IntKind.i64.wrap ((m : Int) * f) = (m : Int) * f := by rw [IntKind.wrap_i64]; omega
  have hwp : wrap64 ((m : Int) * f) = (m : Int) * f := by unfold wrap64; omega
  obtain ⟨p, hp⟩ : ∃ p, (m : Int) * f = p := ⟨_, rfl⟩
  rw [hp] at D2
  rw [hp] at hwp
  have hwp' : wrap64 ((m : Int) * f) = p := by rw [hp]; exact hwp
  clear hwp hp wf f4
  have pp : (p == p) = true := beq_self_eq_true _
  have f20 := f2.1
  have f21 := f2.2
  have R0 : Aside0 (rep s 0 = ⟨#[]⟩) := ⟨rfl⟩
  have RS : Aside0 (∀ k, rep s (k + 1) = rep s k ++ s) := ⟨fun _ => rfl⟩
  have RZ : Aside0 (∀ k, (rep s k).size = k * s.size) := ⟨rep_size s⟩
  clear bs fs ha ra rb hrep hsz vr vi e1 f1 hf f2 f3 hm
  go_enter Try.func9, Try.ntmps9
  go_wp2_with (go_at_call 11; (with_reducible refine (AL.out _).mono ?_); rintro e w' ⟨rfl, hb⟩; have n0_ := Aside0.mk (below_step (by repeat (first | (with_reducible first | exact HB.out | apply below_alloc | apply pw_below_drewN | apply below_drew1) | exact HB.out)) hb); clear HB; have HB := n0_; clear n0_ hb)
  go_loop [5, 6] (fun t k => ∃ j : Nat, j ≤ m ∧ k = .int .i64 j ∧ Aside0 (t = .string (rep s j))) (fun _ k => m - (intOf k).toNat)
  case atStart => exact ⟨0, by omega, rfl, ⟨by rw [R0.out]⟩⟩
  case round =>
    obtain ⟨j, hj, rfl, ht⟩ := hrel
    obtain ⟨rfl⟩ := ht
    have hrs : (rep s j).size ≤ 800 := by
      rw [RZ.out]
      have : j * s.size ≤ 20 * 40 := Nat.mul_le_mul (by omega) hs
      omega
    by_cases hlt : j < m
    · go_wp2_with fail
      go_round
      case rel => exact ⟨j + 1, by omega, by go_num, ⟨by rw [RS.out]⟩⟩
      case measure => simp [intOf]; omega
    · obtain rfl : j = m := by omega
      go_wp2_with (first
        | (go_at_call 17; (first | (with_reducible refine (C1.out _).mono ?_) | (with_reducible refine (C2.out _).mono ?_)); rintro e w' ⟨rfl, hb⟩; have n0_ := Aside0.mk (below_step (by repeat (first | (with_reducible first | exact HB.out | apply below_alloc | apply pw_below_drewN | apply below_drew1) | exact HB.out)) hb); clear HB; have HB := n0_; clear n0_ hb)
        | (go_at_call 18; (first | (with_reducible refine (D1.out _).mono ?_) | (with_reducible refine (D2.out _).mono ?_)); rintro e w' ⟨rfl, ⟨nd, rfl⟩⟩))
      go_ret
      refine ⟨?_, by repeat (first | (with_reducible first | exact HB.out | apply below_alloc | apply pw_below_drewN | apply below_drew1) | exact HB.out)⟩
      rfl

theorem WalkLong_all (s : ByteArray) (n : Int) (w : World) (_ : s.size ≤ 140737488351232) (_ : (Lit.int .i64 n).wf = true) :
    Calls Try.prog 9 #[.string s, .int .i64 n] w fun e w' => e = .returned (.bool true) ∧ Below w.heap.size w w' := by
  by_cases h0 : 40 < (s.size : Int)
  case pos =>
    have gg : decide (40 < (s.size : Int)) = true := decide_eq_true h0
    have AL := Aside0.mk alive_calls
    clear h0
    go_enter Try.func9, Try.ntmps9
    go_wp2_with fail
    refine (AL.out _).mono ?_
    rintro e w' ⟨rfl, hb⟩
    go_wp2_with fail
    go_ret
    exact ⟨rfl, hb⟩
  by_cases h1 : n < 0
  case pos =>
    have g0 : decide (40 < (s.size : Int)) = false := decide_eq_false h0
    have gg : decide (n < 0) = true := decide_eq_true h1
    have AL := Aside0.mk alive_calls
    clear h0 h1
    go_enter Try.func9, Try.ntmps9
    go_wp2_with fail
    refine (AL.out _).mono ?_
    rintro e w' ⟨rfl, hb⟩
    go_wp2_with fail
    go_ret
    exact ⟨rfl, hb⟩
  by_cases h2 : 20 < n
  case pos =>
    have g0 : decide (40 < (s.size : Int)) = false := decide_eq_false h0
    have g1 : decide (n < 0) = false := decide_eq_false h1
    have gg : decide (20 < n) = true := decide_eq_true h2
    have AL := Aside0.mk alive_calls
    clear h0 h1 h2
    go_enter Try.func9, Try.ntmps9
    go_wp2_with fail
    refine (AL.out _).mono ?_
    rintro e w' ⟨rfl, hb⟩
    go_wp2_with fail
    go_ret
    exact ⟨rfl, hb⟩
  exact WalkLong_main s n (by omega) (by omega) (by omega) w

end Go.Proofs.Ytckamijajnmbjaa.Wk
