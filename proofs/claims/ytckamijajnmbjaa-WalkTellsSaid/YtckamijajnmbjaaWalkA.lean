/- The functions of package walk compute whole-number walks exactly (contracts of plain, Turn, Step, Abs, Apart). Conditions: the parts are below 2^53 in size. -/
import Derived.Test.YtckamijajnmbjaaPWalkTurnsx0
import Derived.Test.YtckamijajnmbjaaFp
import Derived.WalkLawsBesides
set_option linter.unusedVariables false
set_option linter.unusedSimpArgs false
namespace Go.Proofs.Ytckamijajnmbjaa.Wk
open Go.RowKit Go.Proofs.YtckamijajnmbjaaW.PrintWords Go.Proofs.YtckamijajnmbjaaW.PrintLast Go.Proofs.YtckamijajnmbjaaW.PrintMore Go.Proofs.Ytckamijajnmbjaa.Fpx

theorem drawn_then {w w1 w2 : World} (h : Drawn0 w w1) (k : Drawn0 w1 w2) : Drawn0 w w2 := by
  obtain ⟨n, rfl⟩ := h.out
  obtain ⟨m, rfl⟩ := k.out
  exact ⟨⟨n + m, by rw [World.drewN_drewN]⟩⟩

theorem val0 : Val 0 0 := by
  have := Val_fz 0 small0
  rwa [fz_zero] at this

theorem plain_calls (x : Nat) (n : Int) (h : Near x n) (hs : small n) (w : World) :
    Calls Try.prog 26 #[.float .f64 x] w fun e w' => e = .returned (.float .f64 (fz n)) ∧ Drawn0 w w' := by
  have he := eq_val (h.val hs) val0
  by_cases h0 : n = 0
  · subst h0
    have hc : (FloatKind.f64.format.order x 0 == some .eq) = true := by rw [fmt, he]; rfl
    clear h he
    have HR := Aside0.mk fz_zero
    go_enter Try.func26, Try.ntmps26
    go_wp2
    go_ret
    exact ⟨congrArg (fun z => Ending.returned (.float .f64 z)) HR.out.symm, Drawn0.refl _⟩
  · have hx : x = fz n := by
      rcases h with h | ⟨h, _⟩
      · exact h
      · exact absurd h h0
    have hc : (FloatKind.f64.format.order x 0 == some .eq) = false := by rw [fmt, he]; simp [h0]
    clear h he
    have HX := Aside0.mk hx
    clear hx
    go_enter Try.func26, Try.ntmps26
    go_wp2
    go_ret
    exact ⟨congrArg (fun z => Ending.returned (.float .f64 z)) HX.out, Drawn0.refl _⟩

/-- A place turned by quarters. -/
def tx (q x y : Int) : Int := if q = 1 then -y else if q = 2 then -x else if q = 3 then y else x
def ty (q x y : Int) : Int := if q = 1 then x else if q = 2 then -y else if q = 3 then -x else y

theorem and3 (n : Int) : Go.bits .and .i64 n 3 = n % 4 := by
  have e : (BitVec.ofInt 64 n &&& BitVec.ofInt 64 3).toNat = (n % 4).toNat := by
    rw [BitVec.toNat_and, BitVec.toNat_ofInt, BitVec.toNat_ofInt]
    have h3 : ((3 : Int) % (2 ^ 64 : Nat)).toNat = 2 ^ 2 - 1 := by decide
    rw [h3, Nat.and_two_pow_sub_one_eq_mod]
    omega
  show IntKind.i64.wrap ((BitVec.ofInt 64 n &&& BitVec.ofInt 64 3).toNat : Int) = n % 4
  rw [e, IntKind.wrap_i64]
  omega

theorem run_negf {P : Program} (k : FloatKind) (b : Nat) (w : World) : Sem.run P (Op.unary .neg (.float k b)) w = .ok (.float k (Op.negFloat k b)) w := rfl
attribute [local go_sem] run_negf

theorem Near_negN {x : Nat} {n : Int} (h : Near x n) (hs : small n) : Near (Op.negFloat .f64 x) (-n) := by
  rcases h with rfl | ⟨rfl, rfl⟩
  · exact Near_neg n hs
  · exact .inl (by rw [neg_word true 0 (by decide)]; exact fz_zero.symm)

theorem small_neg {n : Int} (h : small n) : small (-n) := by unfold small at *; omega

set_option maxHeartbeats 1000000 in
theorem Turn_calls (a b : Nat) (x y q : Int) (ha : Near a x) (hb : Near b y) (hx : small x) (hy : small y) (w : World) :
    Calls Try.prog 12 #[.complex .f64 a b, .int .i64 q] w fun e w' => e = .returned (.complex .f64 (fz (tx (q % 4) x y)) (fz (ty (q % 4) x y))) ∧ Drawn0 w w' := by
  have hq := and3 q
  obtain ⟨r, hr⟩ : ∃ r, q % 4 = r := ⟨_, rfl⟩
  have hr0 : 0 ≤ r := by omega
  have hr3 : r < 4 := by omega
  rw [hr] at hq ⊢
  clear hr
  have hnx := Near_negN ha hx
  have hny := Near_negN hb hy
  have sx := small_neg hx
  have sy := small_neg hy
  rcases (show r = 0 ∨ r = 1 ∨ r = 2 ∨ r = 3 by omega) with rfl | rfl | rfl | rfl
  · go_enter Try.func12, Try.ntmps12
    go_wp2_with fail
    refine (plain_calls a x ha hx _).mono ?_
    rintro e w1 ⟨rfl, hd1⟩
    go_wp2_with fail
    refine (plain_calls b y hb hy _).mono ?_
    rintro e w2 ⟨rfl, hd2⟩
    go_wp2_with fail
    go_ret
    exact ⟨rfl, drawn_then hd1 hd2⟩
  · go_enter Try.func12, Try.ntmps12
    go_wp2_with fail
    refine (plain_calls _ _ hny sy _).mono ?_
    rintro e w1 ⟨rfl, hd1⟩
    go_wp2_with fail
    refine (plain_calls a x ha hx _).mono ?_
    rintro e w2 ⟨rfl, hd2⟩
    go_wp2_with fail
    go_ret
    exact ⟨rfl, drawn_then hd1 hd2⟩
  · go_enter Try.func12, Try.ntmps12
    go_wp2_with fail
    refine (plain_calls _ _ hnx sx _).mono ?_
    rintro e w1 ⟨rfl, hd1⟩
    go_wp2_with fail
    refine (plain_calls _ _ hny sy _).mono ?_
    rintro e w2 ⟨rfl, hd2⟩
    go_wp2_with fail
    go_ret
    exact ⟨rfl, drawn_then hd1 hd2⟩
  · go_enter Try.func12, Try.ntmps12
    go_wp2_with fail
    refine (plain_calls b y hb hy _).mono ?_
    rintro e w1 ⟨rfl, hd1⟩
    go_wp2_with fail
    refine (plain_calls _ _ hnx sx _).mono ?_
    rintro e w2 ⟨rfl, hd2⟩
    go_wp2_with fail
    go_ret
    exact ⟨rfl, drawn_then hd1 hd2⟩

theorem one_bits : fz 1 = 4607182418800017408 := by decide +kernel
theorem small1 : small 1 := by unfold small; decide

/-- A byte's step. -/
def sx (b : Int) : Int := tx (b % 4) 1 0
def sy (b : Int) : Int := ty (b % 4) 1 0
theorem sx_eq (b : Int) : sx b = if b % 4 = 0 then 1 else if b % 4 = 2 then -1 else 0 := by
  have : b % 4 = 0 ∨ b % 4 = 1 ∨ b % 4 = 2 ∨ b % 4 = 3 := by omega
  rcases this with h | h | h | h <;> simp [sx, tx, h]
theorem sy_eq (b : Int) : sy b = if b % 4 = 1 then 1 else if b % 4 = 3 then -1 else 0 := by
  have : b % 4 = 0 ∨ b % 4 = 1 ∨ b % 4 = 2 ∨ b % 4 = 3 := by omega
  rcases this with h | h | h | h <;> simp [sy, ty, h]
theorem step_bd (b : Int) : -1 ≤ sx b ∧ sx b ≤ 1 ∧ -1 ≤ sy b ∧ sy b ≤ 1 := by
  rw [sx_eq, sy_eq]
  split <;> split <;> (try split) <;> (try split) <;> omega

theorem Step_calls (b : Int) (h0 : 0 ≤ b) (h1 : b ≤ 255) (w : World) :
    Calls Try.prog 19 #[.int .u8 b] w fun e w' => e = .returned (.complex .f64 (fz (sx b)) (fz (sy b))) ∧ Drawn0 w w' := by
  have hc : Near 4607182418800017408 1 := .inl one_bits.symm
  have hd : Near 0 0 := .inl fz_zero.symm
  go_enter Try.func19, Try.ntmps19
  go_wp2_with fail
  refine (Turn_calls _ _ 1 0 b hc hd small1 small0 _).mono ?_
  rintro e w1 ⟨rfl, hd1⟩
  go_wp2_with fail
  go_ret
  exact ⟨rfl, hd1⟩

end Go.Proofs.Ytckamijajnmbjaa.Wk
