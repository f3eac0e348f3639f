/- The plain laws of rows: the first call. Conditions: none. -/
import Derived.Test.YthoapfagcdbpeaaSyms
import Derived.Test.YthoapfagcdbpeaaP15
set_option linter.unusedVariables false
set_option linter.unusedSimpArgs false
namespace Go.Proofs.Ythoapfagcdbpeaa.P
open Go.RowKit Go.Proofs.YthoapfagcdbpeaaW.PrintWords Go.Proofs.YthoapfagcdbpeaaW.PrintLast Go.Proofs.YthoapfagcdbpeaaW.PrintMore

def ab : ByteArray := ⟨#[97, 98]⟩
theorem sorted_ab : sortedRows [(⟨#[97, 98]⟩ : ByteArray)] = [⟨0, 2⟩, ⟨0, 0⟩, ⟨0, 1⟩] := by
  refine (sorted_unique _ (by decide) _ ?_ ?_).symm
  · have h : allRows [(⟨#[97, 98]⟩ : ByteArray)] = [⟨0, 0⟩, ⟨0, 1⟩, ⟨0, 2⟩] := by rfl
    rw [h]
    exact (List.perm_append_comm (l₁ := [(⟨0, 2⟩ : S24)]) (l₂ := [⟨0, 0⟩, ⟨0, 1⟩]))
  · have h1 : ltB [(⟨#[97, 98]⟩ : ByteArray)] ⟨0, 0⟩ ⟨0, 2⟩ = false := by decide
    have h2 : ltB [(⟨#[97, 98]⟩ : ByteArray)] ⟨0, 1⟩ ⟨0, 2⟩ = false := by decide
    have h3 : ltB [(⟨#[97, 98]⟩ : ByteArray)] ⟨0, 1⟩ ⟨0, 0⟩ = false := by decide
    simp [h1, h2, h3]

theorem symbols_ab : rows_Symbols.f 5 [(⟨#[97, 98]⟩ : ByteArray)] = some [99, 0, 98] := by
  unfold rows_Symbols.f rows_Sorted.f
  rw [sorted_ab]
  decide +kernel
theorem alive_ok (k : Nat) (hk : 5 ≤ k) : scriniumlaw3_alive.f k = some true := by
  refine up _ (fun k => scriniumlaw3_alive.mono k) (k := 5) ?_ k hk
  have h2 : scriniumbook_SameInts.f 5 [99, 0, 98] [99, 0, 98] = some true := by decide +kernel
  have h3 : rows_Less.f [(⟨#[97]⟩ : ByteArray), (⟨#[98]⟩ : ByteArray)] 0 1 1 1 = some true := by decide +kernel
  have h4 : rows_Right.f [(⟨#[97]⟩ : ByteArray)] = some true := by decide +kernel
  unfold scriniumlaw3_alive.f
  rw [symbols_ab]
  simp only [Option.bind_some, h2, h3, h4, if_true]
  unfold rows_Sorted.f
  rw [sorted_ab]
  rfl

end Go.Proofs.Ythoapfagcdbpeaa.P
