/- SymBits: a symbol is the number of its bits; two that have the same ones are one. Conditions: none beyond the given statement's. -/
import Derived.Test.YtcfhcnlbegblcaaPSymBitsx1
namespace Go.Proofs.Ytcfhcnlbegblcaa.Pure
open Go.RowKit Go.Proofs.Ytcfhcnlbegblcaa.PSymBits Go.Proofs.YtcfhcnlbegblcaaW.PrintWords Go.Proofs.YtcfhcnlbegblcaaW.PrintLast Go.Proofs.YtcfhcnlbegblcaaW.PrintMore

set_option linter.unusedVariables false
set_option linter.unusedSimpArgs false

theorem SymBits.alive4 : scriniumlaw1_alive.f 4 = some true := by decide +kernel

theorem SymBits.bit_tab : ∀ (s : Fin 257) (k : Fin 9), sym_Bit.f (s.val : Int) (k.val : Int) = some (decide (s.val / 2 ^ (8 - k.val) % 2 = 1)) := by
  decide +kernel

theorem SymBits.bit_some (s k : Int) (h0 : 0 ≤ s) (h1 : s < 257) (k0 : 0 ≤ k) (k1 : k < 9) : sym_Bit.f s k = some (decide (s.toNat / 2 ^ (8 - k.toNat) % 2 = 1)) := by
  have h := SymBits.bit_tab ⟨s.toNat, by omega⟩ ⟨k.toNat, by omega⟩
  simp only [Int.toNat_of_nonneg h0, Int.toNat_of_nonneg k0] at h
  exact h

theorem SymBits.round (k : Nat) (s t v i : Int) (same : Bool) (s0 : 0 ≤ s) (s1 : s < 257) (t0 : 0 ≤ t) (t1 : t < 257) (i0 : 0 ≤ i) (i1 : i < 9) (v0 : 0 ≤ v) (v1 : v < 256) :
    scriniumlaw1_SymBits.l0 (k + 1) s t v same i = scriniumlaw1_SymBits.l0 k s t (2 * v + (if s.toNat / 2 ^ (8 - i.toNat) % 2 = 1 then 1 else 0)) (same && decide (s.toNat / 2 ^ (8 - i.toNat) % 2 = t.toNat / 2 ^ (8 - i.toNat) % 2)) (i + 1) := by
  have e1 : wrap64 (v * 2) = 2 * v := by unfold wrap64; omega
  have e2 : wrap64 (2 * v + 1) = 2 * v + 1 := by unfold wrap64; omega
  have e3 : wrap64 (i + 1) = i + 1 := by unfold wrap64; omega
  simp only [scriniumlaw1_SymBits.l0]
  rw [if_pos i1, SymBits.bit_some s i s0 s1 i0 i1, SymBits.bit_some t i t0 t1 i0 i1]
  simp only [Option.bind_some, e1, e2, e3]
  have hs := Nat.mod_two_eq_zero_or_one (s.toNat / 2 ^ (8 - i.toNat))
  have ht := Nat.mod_two_eq_zero_or_one (t.toNat / 2 ^ (8 - i.toNat))
  rcases hs with hs | hs <;> rcases ht with ht | ht <;> cases same <;> simp [hs, ht]

theorem SymBits.half (a d : Nat) (h : d < 9) : a / 2 ^ (d + 1) = a / 2 ^ d / 2 := by
  rw [Nat.pow_succ, Nat.div_div_eq_div_mul]

theorem SymBits.loop (a b : Nat) (ha : a < 257) (hb : b < 257) (d : Nat) : ∀ i : Nat, i + d = 9 →
    scriniumlaw1_SymBits.l0 (d + 1) a b ((a / 2 ^ d : Nat) : Int) (decide (a / 2 ^ d = b / 2 ^ d)) i = some true := by
  induction d with
  | zero =>
    intro i hi
    simp only [scriniumlaw1_SymBits.l0]
    rw [if_neg (by omega)]
    by_cases h : a = b <;> simp [h]
    omega
  | succ d ih =>
    intro i hi
    have hp : a / 2 ^ d ≤ a := Nat.div_le_self _ _
    rw [SymBits.half a d (by omega), SymBits.half b d (by omega)]
    have e : 8 - (i : Int).toNat = d := by omega
    have hr := fun (v : Int) (same : Bool) (v0 : 0 ≤ v) (v1 : v < 256) => SymBits.round (d + 1) a b v i same (by omega) (by omega) (by omega) (by omega) (by omega) (by omega) v0 v1
    rw [e, Int.toNat_natCast, Int.toNat_natCast] at hr
    have h := ih (i + 1) (by omega)
    generalize a / 2 ^ d = c at *
    generalize b / 2 ^ d = f at *
    rw [hr _ _ (by omega) (by omega)]
    have ev : (2 * ((c / 2 : Nat) : Int) + (if c % 2 = 1 then 1 else 0)) = ((c : Nat) : Int) := by
      split <;> omega
    have es : (decide (c / 2 = f / 2) && decide (c % 2 = f % 2)) = decide (c = f) := by
      rw [← Bool.decide_and]
      congr 1
      rw [eq_iff_iff]
      omega
    rw [ev, es]
    have ei : ((i : Int) + 1) = ((i + 1 : Nat) : Int) := by omega
    rw [ei]
    exact h

theorem SymBits : scriniumlaw1_SymBits.Pure := by
  intro a0 a1 _ _
  refine ⟨12, ?_⟩
  have hal : ∀ x y : Int, scriniumlaw1_SymBits.j0 12 x y true = some true := by
    intro x y
    simp only [scriniumlaw1_SymBits.j0]
    rw [if_pos True.intro, at_rounds scriniumlaw1_alive.mono (by omega : 4 ≤ 11) SymBits.alive4]
    rfl
  unfold scriniumlaw1_SymBits.f
  by_cases h0 : a0 < 0
  · rw [if_pos h0]; exact hal _ _
  rw [if_neg h0]
  by_cases h1 : a1 < 0
  · rw [if_pos h1]; exact hal _ _
  rw [if_neg h1]
  by_cases h2 : a0 ≥ 257
  · rw [if_pos h2]; exact hal _ _
  rw [if_neg h2]
  by_cases h3 : a1 ≥ 257
  · rw [if_pos h3]; exact hal _ _
  rw [if_neg h3, at_rounds scriniumlaw1_alive.mono (by omega : 4 ≤ 12) SymBits.alive4]
  simp only [Option.bind_some, scriniumlaw1_SymBits.j0]
  rw [if_neg (by simp)]
  obtain ⟨a, rfl⟩ := Int.eq_ofNat_of_zero_le (show 0 ≤ a0 by omega)
  obtain ⟨b, rfl⟩ := Int.eq_ofNat_of_zero_le (show 0 ≤ a1 by omega)
  have h := SymBits.loop a b (by omega) (by omega) 9 0 (by omega)
  have ea : a / 2 ^ 9 = 0 := by omega
  have eb : b / 2 ^ 9 = 0 := by omega
  rw [ea, eb] at h
  have h' : scriniumlaw1_SymBits.l0 10 a b 0 true 0 = some true := h
  exact scriniumlaw1_SymBits.mono_l 10 |>.2 _ _ _ _ _ _ h'

end Go.Proofs.Ytcfhcnlbegblcaa.Pure
