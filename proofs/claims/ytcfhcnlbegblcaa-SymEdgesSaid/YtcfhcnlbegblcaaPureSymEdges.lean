/- SymEdges: a text of as many bytes as may be is one, of one more it is none; symbols that are none are no bytes and have no bits. Conditions: none beyond the given statement's. -/
import Derived.Test.YtcfhcnlbegblcaaPSymEdgesx1
namespace Go.Proofs.Ytcfhcnlbegblcaa.Pure
open Go.RowKit Go.Proofs.Ytcfhcnlbegblcaa.PSymEdges Go.Proofs.YtcfhcnlbegblcaaW.PrintWords Go.Proofs.YtcfhcnlbegblcaaW.PrintLast Go.Proofs.YtcfhcnlbegblcaaW.PrintMore

set_option linter.unusedVariables false
set_option linter.unusedSimpArgs false

theorem SymEdges.alive4 : scriniumlaw1_alive.f 4 = some true := by decide +kernel

theorem SymEdges.size (xs : List Int) : (strOfNums xs).size = xs.length := by
  unfold strOfNums
  simp [ByteArray.size]

theorem SymEdges : scriniumlaw1_SymEdges.Pure := by
  intro a0 a1 a2 _ _ _
  refine ⟨12, ?_⟩
  have hal : ∀ x y z : Int, scriniumlaw1_SymEdges.j0 12 x y z true = some true := by
    intro x y z
    simp only [scriniumlaw1_SymEdges.j0]
    rw [if_pos True.intro, at_rounds scriniumlaw1_alive.mono (by omega : 4 ≤ 11) SymEdges.alive4]
    rfl
  have main : ¬ a0 < 0 → ¬ a0 > 200 → (a1 < 0 ∨ 257 ≤ a1) → scriniumlaw1_SymEdges.j0 12 a0 a1 a2 false = some true := by
    intro h0 h1 h2
    have hb : sym_Byte.f a1 = some (0, false) := by
      unfold sym_Byte.f
      by_cases h : a1 < 1
      · rw [if_pos h]
      · rw [if_neg h, if_pos (by omega)]
    have hb0 : sym_Byte.f 0 = some (0, false) := by decide +kernel
    have hbit : sym_Bit.f a1 a2 = some false := by
      unfold sym_Bit.f
      by_cases h : a1 < 0
      · rw [if_pos h]
      · rw [if_neg h, if_pos (by omega)]
    have hb1 : sym_Bit.f 256 (-1) = some false := by decide +kernel
    have hb2 : sym_Bit.f 511 0 = some false := by decide +kernel
    have ht : sym_Text.f (strOfNums (List.replicate (a0 : Int).toNat 0)) = some (decide (a0 ≤ 40)) := by
      unfold sym_Text.f
      rw [SymEdges.size, List.length_replicate]
      congr 2
      rw [eq_iff_iff]
      omega
    simp only [scriniumlaw1_SymEdges.j0]
    rw [if_neg (by simp), hb, hb0]
    simp only [Option.bind_some]
    rw [if_pos (by omega), if_pos (by omega), ht, hbit, hb1, hb2]
    simp
  have alive12 : scriniumlaw1_alive.f 12 = some true := at_rounds scriniumlaw1_alive.mono (by omega : 4 ≤ 12) SymEdges.alive4
  unfold scriniumlaw1_SymEdges.f
  by_cases h0 : a0 < 0
  · rw [if_pos h0]; exact hal _ _ _
  rw [if_neg h0]
  by_cases h1 : a0 > 200
  · rw [if_pos h1]; exact hal _ _ _
  rw [if_neg h1]
  by_cases h2 : a1 ≥ 0
  · rw [if_pos h2]
    by_cases h3 : a1 < 257
    · rw [if_pos h3]; exact hal _ _ _
    · rw [if_neg h3, alive12]
      exact main h0 h1 (by omega)
  · rw [if_neg h2, alive12]
    exact main h0 h1 (by omega)

end Go.Proofs.Ytcfhcnlbegblcaa.Pure
