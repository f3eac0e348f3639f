/- Whole numbers below 2^53 as float64s: sums, differences, products, comparisons and conversions of them are exact. Conditions: the numbers are below 2^53 in size. -/
import Derived.Laws.FloatArith
import Derived.Laws.ComplexArith
namespace Go.Proofs.YtibhenengpdahaaGreat.Fpx
open Ieee
set_option linter.unusedVariables false
set_option linter.unusedSimpArgs false
set_option exponentiation.threshold 2000

theorem fmt : FloatKind.f64.format = Ieee.double := rfl
theorem cut_zero (neg : Bool) (n : Nat) : Toward.even.cut neg n 0 = n := by
 simp [Toward.cut, Nat.mod_one]

theorem log2_mul_two_pow (n d : Nat) (hn : 0 < n) : (n * 2 ^ d).log2 = n.log2 + d := by
 have h1 : n ≠ 0 := by omega
 have hp : 0 < 2 ^ d := Nat.two_pow_pos d
 have h2 : n * 2 ^ d ≠ 0 := Nat.ne_of_gt (Nat.mul_pos hn hp)
 rw [Nat.log2_eq_iff h2]
 have e1 := Nat.log2_self_le h1
 have e2 : n < 2 ^ (n.log2 + 1) := Nat.lt_log2_self
 constructor
 ·rw [Nat.pow_add]
  exact Nat.mul_le_mul_right _ e1
 ·rw [show n.log2 + d + 1 = (n.log2 + 1) + d by omega, Nat.pow_add]
  exact Nat.mul_lt_mul_of_pos_right e2 hp

theorem cut_exact (neg : Bool) (n d : Nat) (hn : 0 < n) : Toward.even.cut neg (n * 2 ^ d) d = n := by
 have hl := log2_mul_two_pow n d hn
 have hmin : min d ((n * 2 ^ d).log2 + 2) = d := by rw [hl]; omega
 have hp : 0 < 2 ^ d := Nat.two_pow_pos d
 unfold Toward.cut
 simp only [hmin, Nat.one_shiftLeft, Nat.mul_mod_left, Nat.mul_div_cancel n hp]
 have h0 : ¬ (2 ^ d < 2 * 0) := by omega
 have h1 : (2 ^ d == 2 * 0) = false := by rw [beq_eq_false_iff_ne]; omega
 simp [h1]

/-- The bits of a whole number. -/
def fz (n : Int) : Nat := floatOfInt .f64 n
theorem fz_eq (n : Int) : fz n = Ieee.double.nearest (decide (n < 0)) n.natAbs 0 := rfl

def small (n : Int) : Prop := n.natAbs < 2 ^ 53
theorem small0 : small 0 := by unfold small; decide
theorem small_of {n : Int} (h1 : -9007199254740992 < n) (h2 : n < 9007199254740992) : small n := by unfold small; omega

theorem log2_lt53 {a : Nat} (h0 : 0 < a) (h : a < 2 ^ 53) : a.log2 < 53 := (Nat.log2_lt (by omega)).2 h

theorem lp : Ieee.double.leastPlace = -1074 := by decide
theorem fb : Ieee.double.fractionBits = 52 := rfl
theorem bn : Ieee.double.binade = 2 ^ 52 := rfl
theorem ir : Ieee.double.infRung = 2047 * 2 ^ 52 := by decide
theorem sw : Ieee.double.signWeight = 2 ^ 63 := by decide

/-- The significand at full length. -/
theorem sig_bounds {a : Nat} (h0 : 0 < a) (h : a < 2 ^ 53) : 2 ^ 52 ≤ a * 2 ^ (52 - a.log2) ∧ a * 2 ^ (52 - a.log2) < 2 ^ 53 := by
 have hl := log2_lt53 h0 h
 have e1 := Nat.log2_self_le (show a ≠ 0 by omega)
 have e2 : a < 2 ^ (a.log2 + 1) := Nat.lt_log2_self
 have hp : 0 < 2 ^ (52 - a.log2) := Nat.two_pow_pos _
 constructor
 ·calc 2 ^ 52 = 2 ^ a.log2 * 2 ^ (52 - a.log2) := by rw [← Nat.pow_add]; congr 1; omega
   _ ≤ a * 2 ^ (52 - a.log2) := Nat.mul_le_mul_right _ e1
 ·calc a * 2 ^ (52 - a.log2) < 2 ^ (a.log2 + 1) * 2 ^ (52 - a.log2) := Nat.mul_lt_mul_of_pos_right e2 hp
   _ = 2 ^ 53 := by rw [← Nat.pow_add]; congr 1; omega

/-- What 'nearest' writes of a whole number that is told with j places behind the point. -/
theorem nearest_scaled (s : Bool) (a j : Nat) (h0 : 0 < a) (h : a < 2 ^ 53) :
  Ieee.double.nearest s (a * 2 ^ j) (-(j : Int)) = Ieee.double.word s ((a.log2 + 1022) * 2 ^ 52 + a * 2 ^ (52 - a.log2)) := by
 have hl := log2_lt53 h0 h
 have hb := sig_bounds h0 h
 have hne : a * 2 ^ j ≠ 0 := Nat.ne_of_gt (Nat.mul_pos h0 (Nat.two_pow_pos j))
 have hlg := log2_mul_two_pow a j h0
 have hlast : max (-(j : Int) + ((a * 2 ^ j).log2 : Int) - (Ieee.double.fractionBits : Int)) Ieee.double.leastPlace = (a.log2 : Int) - 52 := by
  rw [hlg, lp, fb]; omega
 unfold Format.nearest
 rw [if_neg hne]
 simp only [hlast]
 have hk : Toward.even.cut s ((a * 2 ^ j) <<< (-(j : Int) - ((a.log2 : Int) - 52)).toNat) ((a.log2 : Int) - 52 - -(j : Int)).toNat = a * 2 ^ (52 - a.log2) := by
  by_cases hj : j ≤ 52 - a.log2
  ·have e1 : (-(j : Int) - ((a.log2 : Int) - 52)).toNat = 52 - a.log2 - j := by omega
   have e2 : ((a.log2 : Int) - 52 - -(j : Int)).toNat = 0 := by omega
   rw [e1, e2, cut_zero, Nat.shiftLeft_eq, Nat.mul_assoc, ← Nat.pow_add]
   congr 2
   omega
  ·have e1 : (-(j : Int) - ((a.log2 : Int) - 52)).toNat = 0 := by omega
   have e2 : ((a.log2 : Int) - 52 - -(j : Int)).toNat = j - (52 - a.log2) := by omega
   rw [e1, e2, Nat.shiftLeft_zero]
   have e3 : a * 2 ^ j = a * 2 ^ (52 - a.log2) * 2 ^ (j - (52 - a.log2)) := by
    rw [Nat.mul_assoc, ← Nat.pow_add]
    congr 2
    omega
   rw [e3, cut_exact _ _ _ (by omega)]
 rw [hk, lp, bn, ir]
 have e4 : ((a.log2 : Int) - 52 - -1074).toNat = a.log2 + 1022 := by omega
 rw [e4, Nat.min_eq_left]
 generalize a * 2 ^ (52 - a.log2) = m at *
 generalize a.log2 = g at *
 omega

theorem nearest_zero (s : Bool) (e : Int) : Ieee.double.nearest s 0 e = Ieee.double.word s 0 := by simp [Format.nearest]

theorem fz_zero : fz 0 = 0 := by decide +kernel

theorem fz_pos (n : Int) (h0 : n ≠ 0) (h : small n) : fz n = Ieee.double.word (decide (n < 0)) ((n.natAbs.log2 + 1022) * 2 ^ 52 + n.natAbs * 2 ^ (52 - n.natAbs.log2)) := by
 have := nearest_scaled (decide (n < 0)) n.natAbs 0 (by omega) h
 rw [fz_eq]
 simpa using this

/-- What a word of a whole number reads as. -/
theorem read_word (s : Bool) (a : Nat) (h0 : 0 < a) (h : a < 2 ^ 53) :
  Ieee.double.read (Ieee.double.word s ((a.log2 + 1022) * 2 ^ 52 + a * 2 ^ (52 - a.log2))) = .number s (a * 2 ^ (52 - a.log2)) ((a.log2 : Int) - 52) := by
 have hl := log2_lt53 h0 h
 have hb := sig_bounds h0 h
 generalize hm : a * 2 ^ (52 - a.log2) = m at *
 generalize hg : a.log2 = g at *
 have hr : ((g + 1022) * 2 ^ 52 + m) < 2 ^ 63 := by
  have : g * 2 ^ 52 ≤ 52 * 2 ^ 52 := Nat.mul_le_mul_right _ (by omega)
  omega
 unfold Format.read Format.word
 rw [sw, bn, ir, lp]
 have hneg : ((if s = true then 2 ^ 63 + ((g + 1022) * 2 ^ 52 + m) else (g + 1022) * 2 ^ 52 + m) / 2 ^ 63 % 2 == 1) = s := by
  cases s
  ·simp only [Bool.false_eq_true, if_false]
   rw [Nat.div_eq_of_lt hr]
   rfl
  ·simp only [if_true]
   rw [Nat.add_div_left _ (by omega), Nat.div_eq_of_lt hr]
   rfl
 have hrung : (if s = true then 2 ^ 63 + ((g + 1022) * 2 ^ 52 + m) else (g + 1022) * 2 ^ 52 + m) % 2 ^ 63 = (g + 1022) * 2 ^ 52 + m := by
  cases s
  ·simp only [Bool.false_eq_true, if_false]
   exact Nat.mod_eq_of_lt hr
  ·simp only [if_true]
   rw [Nat.add_mod_left]
   exact Nat.mod_eq_of_lt hr
 simp only [hneg, hrung]
 have hdiv : ((g + 1022) * 2 ^ 52 + m) / 2 ^ 52 = g + 1023 := by omega
 have hmod : ((g + 1022) * 2 ^ 52 + m) % 2 ^ 52 = m - 2 ^ 52 := by omega
 rw [hdiv, hmod, if_neg (by omega), if_pos (by omega)]
 have e1 : 2 ^ 52 + (m - 2 ^ 52) = m := by omega
 have e2 : (-1074 + ((g + 1023 - 1 : Nat) : Int)) = (g : Int) - 52 := by omega
 rw [e1, e2]

theorem read_zero (s : Bool) : Ieee.double.read (Ieee.double.word s 0) = .number s 0 (-1074) := by cases s <;> decide +kernel

/-- The word stands for the whole number n. -/
def Val (x : Nat) (n : Int) : Prop := ∃ (s : Bool) (m j : Nat), Ieee.double.read x = .number s m (-(j : Int)) ∧ m = n.natAbs * 2 ^ j ∧ (n ≠ 0 → s = decide (n < 0))

theorem Val_fz (n : Int) (h : small n) : Val (fz n) n := by
 by_cases h0 : n = 0
 ·subst h0
  refine ⟨false, 0, 1074, ?_, by simp, fun h => absurd rfl h⟩
  rw [fz_zero]
  exact read_zero false
 ·have hl := log2_lt53 (show 0 < n.natAbs by omega) h
  refine ⟨decide (n < 0), n.natAbs * 2 ^ (52 - n.natAbs.log2), 52 - n.natAbs.log2, ?_, rfl, fun _ => rfl⟩
  rw [fz_pos n h0 h, read_word _ _ (by omega) h]
  congr 1
  omega

theorem Val_negzero : Val (Ieee.double.word true 0) 0 := ⟨true, 0, 1074, read_zero true, by simp, fun h => absurd rfl h⟩

/-- What is written of a whole number told with j places. -/
theorem write_num (s : Bool) (n : Int) (j : Nat) (h : small n) (hs : n ≠ 0 → s = decide (n < 0)) :
  Ieee.double.write (.number s (n.natAbs * 2 ^ j) (-(j : Int))) = if n = 0 then Ieee.double.word s 0 else fz n := by
 unfold Format.write
 dsimp only
 by_cases h0 : n = 0
 ·subst h0
  simp [nearest_zero]
 ·rw [if_neg h0, nearest_scaled s n.natAbs j (by omega) h, fz_pos n h0 h, hs h0]

theorem signed_eq (s : Bool) (n : Int) (j k : Nat) (hs : n ≠ 0 → s = decide (n < 0)) (hk : j ≤ k) :
  signed s (n.natAbs * 2 ^ j) (-(j : Int) - -(k : Int)).toNat = n * 2 ^ k := by
 have e : (-(j : Int) - -(k : Int)).toNat = k - j := by omega
 have e2 : n.natAbs * 2 ^ j * 2 ^ (k - j) = n.natAbs * 2 ^ k := by rw [Nat.mul_assoc, ← Nat.pow_add]; congr 2; omega
 unfold signed
 rw [e, Nat.shiftLeft_eq, e2]
 have hc : ((n.natAbs * 2 ^ k : Nat) : Int) = (n.natAbs : Int) * 2 ^ k := by rw [Int.natCast_mul, Int.natCast_pow]; rfl
 rw [hc]
 by_cases h0 : n = 0
 ·subst h0; simp
 ·rw [hs h0]
  by_cases hn : n < 0
  ·simp only [hn, decide_true, if_true]
   rw [← Int.neg_mul]
   congr 1
   omega
  ·simp only [hn, decide_false, Bool.false_eq_true, if_false]
   congr 1
   omega

theorem pow_pos' (k : Nat) : (0 : Int) < 2 ^ k := by
 have := Nat.two_pow_pos k
 have h : ((2 ^ k : Nat) : Int) = 2 ^ k := by rw [Int.natCast_pow]; rfl
 omega

theorem sum_val {s t : Bool} {a b : Int} {i j : Nat} (hs : a ≠ 0 → s = decide (a < 0)) (ht : b ≠ 0 → t = decide (b < 0)) (h : small (a + b)) :
  ∃ r, ((Datum.number s (a.natAbs * 2 ^ i) (-(i : Int))).sum (Datum.number t (b.natAbs * 2 ^ j) (-(j : Int)))).map Ieee.double.write = some r ∧
   r = if a + b = 0 then Ieee.double.word (s && t) 0 else fz (a + b) := by
 have hmin : min (-(i : Int)) (-(j : Int)) = -((max i j : Nat) : Int) := by omega
 unfold Datum.sum
 simp only [hmin, Option.map_some]
 rw [signed_eq s a i (max i j) hs (Nat.le_max_left _ _), signed_eq t b j (max i j) ht (Nat.le_max_right _ _), ← Int.add_mul]
 have hp := pow_pos' (max i j)
 have hab : ((a + b) * 2 ^ max i j).natAbs = (a + b).natAbs * 2 ^ max i j := by
  rw [Int.natAbs_mul]
  congr 1
 have hz : ((a + b) * 2 ^ max i j = 0) ↔ a + b = 0 := by
  constructor
  ·intro h
   rcases Int.mul_eq_zero.1 h with h | h
   ·exact h
   ·omega
  ·intro h; rw [h]; simp
 have hn : ((a + b) * 2 ^ max i j < 0) ↔ a + b < 0 := by
  constructor
  ·intro h
   by_cases h' : a + b < 0
   ·exact h'
   ·have := Int.mul_nonneg (show 0 ≤ a + b by omega) (Int.le_of_lt hp)
    omega
  ·intro h
   exact Int.mul_neg_of_neg_of_pos h hp
 refine ⟨_, rfl, ?_⟩
 rw [hab]
 by_cases h0 : a + b = 0
 ·rw [if_pos (hz.2 h0), if_pos h0]
  have hw := write_num (s && t) (a + b) (max i j) h (fun hh => absurd h0 hh)
  rw [if_pos h0] at hw
  exact hw
 ·rw [if_neg (fun hh => h0 (hz.1 hh)), if_neg h0]
  have hw := write_num (decide ((a + b) * 2 ^ max i j < 0)) (a + b) (max i j) h (fun _ => by simp only [hn])
  rw [if_neg h0] at hw
  exact hw

theorem add_fz (a b : Int) (ha : small a) (hb : small b) (h : small (a + b)) : Ieee.double.add (fz a) (fz b) = some (fz (a + b)) := by
 obtain ⟨s, m, i, h1, rfl, hs⟩ := Val_fz a ha
 obtain ⟨t, n, j, h2, rfl, ht⟩ := Val_fz b hb
 unfold Format.add
 rw [h1, h2]
 obtain ⟨r, hr, he⟩ := sum_val (i := i) (j := j) hs ht h
 rw [hr, he]
 congr 1
 by_cases h0 : a + b = 0
 ·rw [if_pos h0, h0, fz_zero]
  by_cases ha0 : a = 0
  ·subst ha0
   have hs' : s = false := by
    rw [fz_zero] at h1
    have := read_zero false
    have hw : Ieee.double.word false 0 = 0 := rfl
    rw [hw, h1] at this
    injection this
   rw [hs']
   rfl
  ·have hb0 : b ≠ 0 := by omega
   rw [hs ha0, ht hb0]
   by_cases hn : a < 0
   ·have : ¬ b < 0 := by omega
    simp [hn, this, Format.word]
   ·simp [hn, Format.word]
 ·rw [if_neg h0]

theorem order_val {x y : Nat} {a b : Int} (hx : Val x a) (hy : Val y b) : Ieee.double.order x y = some (compare a b) := by
 obtain ⟨s, m, i, h1, rfl, hs⟩ := hx
 obtain ⟨t, n, j, h2, rfl, ht⟩ := hy
 unfold Format.order
 rw [h1, h2]
 have hmin : min (-(i : Int)) (-(j : Int)) = -((max i j : Nat) : Int) := by omega
 simp only [Datum.order, hmin]
 rw [signed_eq s a i (max i j) hs (Nat.le_max_left _ _), signed_eq t b j (max i j) ht (Nat.le_max_right _ _)]
 have hp := pow_pos' (max i j)
 congr 1
 rcases Int.lt_trichotomy a b with h | h | h
 ·rw [Int.compare_eq_lt.2 h, Int.compare_eq_lt.2 (Int.mul_lt_mul_of_pos_right h hp)]
 ·subst h; simp
 ·rw [Int.compare_eq_gt.2 h, Int.compare_eq_gt.2 (Int.mul_lt_mul_of_pos_right h hp)]

theorem eq_val {x y : Nat} {a b : Int} (hx : Val x a) (hy : Val y b) : (Ieee.double.order x y == some .eq) = decide (a = b) := by
 rw [order_val hx hy]
 rcases Int.lt_trichotomy a b with h | h | h
 ·rw [Int.compare_eq_lt.2 h]
  have : a ≠ b := by omega
  simp [this]
 ·subst h; simp
 ·rw [Int.compare_eq_gt.2 h]
  have : a ≠ b := by omega
  simp [this]
theorem neg_word (s : Bool) (r : Nat) (h : r < 2 ^ 63) : Op.negFloat .f64 (Ieee.double.word s r) = Ieee.double.word (!s) r := by
 unfold Op.negFloat Format.word
 rw [sw]
 have e : FloatKind.f64.format.exponentBits + FloatKind.f64.format.fractionBits = 63 := rfl
 rw [e]
 have hx : r ^^^ 2 ^ 63 = 2 ^ 63 + r := by
  have e1 : (r ^^^ 2 ^ 63) / 2 ^ 63 = 1 := by
   rw [Nat.xor_div_two_pow, Nat.div_eq_of_lt h, Nat.div_self (Nat.two_pow_pos 63)]
   rfl
  have e2 : (r ^^^ 2 ^ 63) % 2 ^ 63 = r := by
   rw [Nat.xor_mod_two_pow, Nat.mod_eq_of_lt h, Nat.mod_self, Nat.xor_zero]
  have e3 := Nat.div_add_mod (r ^^^ 2 ^ 63) (2 ^ 63)
  rw [e1, e2] at e3
  omega
 cases s
 ·simpa using hx
 ·have h2 : 2 ^ 63 + r = r ^^^ 2 ^ 63 := hx.symm
  simp only [if_true, Bool.not_true, Bool.false_eq_true, if_false]
  rw [h2, Nat.xor_assoc, Nat.xor_self, Nat.xor_zero]

theorem neg_fz (n : Int) (h0 : n ≠ 0) (h : small n) : Op.negFloat .f64 (fz n) = fz (-n) := by
 have hl := log2_lt53 (show 0 < n.natAbs by omega) h
 have hb := sig_bounds (show 0 < n.natAbs by omega) h
 have hs : small (-n) := by unfold small at *; omega
 rw [fz_pos n h0 h, fz_pos (-n) (by omega) hs]
 have e : (-n).natAbs = n.natAbs := by omega
 rw [e, neg_word _ _ (by
  generalize n.natAbs * 2 ^ (52 - n.natAbs.log2) = m at *
  generalize n.natAbs.log2 = g at *
  omega)]
 congr 1
 by_cases hn : n < 0
 ·have : ¬ -n < 0 := by omega
  rw [decide_eq_true hn, decide_eq_false this]; rfl
 ·have : -n < 0 := by omega
  rw [decide_eq_false hn, decide_eq_true this]; rfl

theorem neg_zero : Op.negFloat .f64 (fz 0) = Ieee.double.word true 0 := by rw [fz_zero]; decide +kernel

/-- A part that may be -0. -/
def Near (x : Nat) (n : Int) : Prop := x = fz n ∨ (n = 0 ∧ x = Ieee.double.word true 0)
theorem Near.val {x : Nat} {n : Int} (h : Near x n) (hs : small n) : Val x n := by
 rcases h with rfl | ⟨rfl, rfl⟩
 ·exact Val_fz n hs
 ·exact Val_negzero
theorem Near_fz (n : Int) : Near (fz n) n := .inl rfl
theorem Near_neg (n : Int) (h : small n) : Near (Op.negFloat .f64 (fz n)) (-n) := by
 by_cases h0 : n = 0
 ·subst h0; exact .inr ⟨rfl, neg_zero⟩
 ·exact .inl (neg_fz n h0 h)

end Go.Proofs.YtibhenengpdahaaGreat.Fpx
