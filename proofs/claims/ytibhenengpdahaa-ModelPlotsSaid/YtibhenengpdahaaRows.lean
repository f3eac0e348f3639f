/-
  No cell of these rows narrows 'for every input' (looked for: loops, veiled, ifaces, maps, wideKeys, modest, calm, conditions, laid).
  DERIVED. THE GIVEN ROWS OF THIS SEAT. 6 by the template 'for every input the law returns true; each argument reads behind the call as it read before'; 0 by the template 'total and deterministic' (their statements: YtibhenengpdahaaTotals.lean).
  GIVEN WITH THE SEED: the statements are not yours to turn. If you find one false, say at which input.
  Laid BY PROGRAM, IN A SANDBOX (cutbox-rows.mjs): the forced cells as the released guide's own fill.sh prints them over the translation 8473e98fd279ba9b… (all of the seat's roots in one cut). By AI agents, Wed Nov 11 2026. No macro, syntax, notation, axiom, sorry.
-/
import Derived.Test.YtibhenengpdahaaChecked
import GoSem.Claim
import GoSem.ClaimJoined
import GoSem.ClaimMapViews
import Derived.JoinedTies
import Derived.KernelRfl
namespace Go.Proofs.Ytibhenengpdahaa
/- THE CELL 'sum', in the pinned program and in every row, IS THE sha256 OF THE DUMP (.gsa) THAT YtibhenengpdahaaProg.lean LOADS. Nothing in Lean hashes anything: it is a label: what it is worth is what the hold of that sum in a sandbox is worth. -/
noncomputable def Try.pinned : Pinned := { name := "ytibhenengpdahaa", sum := "8473e98fd279ba9b46d0ae97631e008b696203fab9592c4ce686dbe69c4a034a", checked := Try.checked }
namespace Rows
def none {H : Type} : Left H := { results := [], args := [] }

/-- 'scriniumlaw23.ModelThere': WHATEVER THE INPUT: true; the input reads as it did. -/
def modelThereSpec : ChangeSpec := { name := "modelThere", fn := fun _ => fun
  | [d1, d2, d3] => { results := [.lit (.bool true)], args := [d1, d2, d3] }
  | _ => none }
def modelThereRow : OpenClaim := { program := "ytibhenengpdahaa", sum := "8473e98fd279ba9b46d0ae97631e008b696203fab9592c4ce686dbe69c4a034a", func := "scrinium/scriniumlaw23.ModelThere", spec := "modelThere", inPlace := ["internal/bytealg.IndexByteString", "internal/bytealg.IndexString"], unfollowed := true, recurses := true, named := ["internal/bytealg.MaxLen"], apart := false }
def ModelThereSaid : Prop := modelThereRow.holds Try.pinned (OpenSpec.ofChange modelThereSpec)

/-- ITS FALSE NEIGHBOUR: 'it returns false'. Refute it at one input. -/
def modelThereWrong : ChangeSpec := { name := "modelThere", fn := fun _ => fun
  | [d1, d2, d3] => { results := [.lit (.bool false)], args := [d1, d2, d3] }
  | _ => none }
def ModelThereWrongFalsely : Prop := modelThereRow.holds Try.pinned (OpenSpec.ofChange modelThereWrong)

/-- 'scriniumlaw23.ModelCounts': WHATEVER THE INPUT: true; the input reads as it did. -/
def modelCountsSpec : ChangeSpec := { name := "modelCounts", fn := fun _ => fun
  | [d1, d2] => { results := [.lit (.bool true)], args := [d1, d2] }
  | _ => none }
def modelCountsRow : OpenClaim := { program := "ytibhenengpdahaa", sum := "8473e98fd279ba9b46d0ae97631e008b696203fab9592c4ce686dbe69c4a034a", func := "scrinium/scriniumlaw23.ModelCounts", spec := "modelCounts", inPlace := ["internal/bytealg.IndexByteString", "internal/bytealg.IndexString"], unfollowed := true, recurses := true, named := ["internal/bytealg.MaxLen"], apart := false }
def ModelCountsSaid : Prop := modelCountsRow.holds Try.pinned (OpenSpec.ofChange modelCountsSpec)

/-- ITS FALSE NEIGHBOUR: 'it returns false'. Refute it at one input. -/
def modelCountsWrong : ChangeSpec := { name := "modelCounts", fn := fun _ => fun
  | [d1, d2] => { results := [.lit (.bool false)], args := [d1, d2] }
  | _ => none }
def ModelCountsWrongFalsely : Prop := modelCountsRow.holds Try.pinned (OpenSpec.ofChange modelCountsWrong)

/-- 'scriniumlaw23.ModelParts': WHATEVER THE INPUT: true; the input reads as it did. -/
def modelPartsSpec : ChangeSpec := { name := "modelParts", fn := fun _ => fun
  | [d1, d2] => { results := [.lit (.bool true)], args := [d1, d2] }
  | _ => none }
def modelPartsRow : OpenClaim := { program := "ytibhenengpdahaa", sum := "8473e98fd279ba9b46d0ae97631e008b696203fab9592c4ce686dbe69c4a034a", func := "scrinium/scriniumlaw23.ModelParts", spec := "modelParts", inPlace := ["internal/bytealg.IndexByteString", "internal/bytealg.IndexString"], unfollowed := true, recurses := true, named := ["internal/bytealg.MaxLen"], apart := false }
def ModelPartsSaid : Prop := modelPartsRow.holds Try.pinned (OpenSpec.ofChange modelPartsSpec)

/-- ITS FALSE NEIGHBOUR: 'it returns false'. Refute it at one input. -/
def modelPartsWrong : ChangeSpec := { name := "modelParts", fn := fun _ => fun
  | [d1, d2] => { results := [.lit (.bool false)], args := [d1, d2] }
  | _ => none }
def ModelPartsWrongFalsely : Prop := modelPartsRow.holds Try.pinned (OpenSpec.ofChange modelPartsWrong)

/-- 'scriniumlaw23.ModelRefuses': WHATEVER THE INPUT: true; the input reads as it did. -/
def modelRefusesSpec : ChangeSpec := { name := "modelRefuses", fn := fun _ => fun
  | [d1, d2, d3] => { results := [.lit (.bool true)], args := [d1, d2, d3] }
  | _ => none }
def modelRefusesRow : OpenClaim := { program := "ytibhenengpdahaa", sum := "8473e98fd279ba9b46d0ae97631e008b696203fab9592c4ce686dbe69c4a034a", func := "scrinium/scriniumlaw23.ModelRefuses", spec := "modelRefuses", inPlace := ["internal/bytealg.IndexByteString", "internal/bytealg.IndexString"], unfollowed := true, recurses := true, named := ["internal/bytealg.MaxLen"], apart := false }
def ModelRefusesSaid : Prop := modelRefusesRow.holds Try.pinned (OpenSpec.ofChange modelRefusesSpec)

/-- ITS FALSE NEIGHBOUR: 'it returns false'. Refute it at one input. -/
def modelRefusesWrong : ChangeSpec := { name := "modelRefuses", fn := fun _ => fun
  | [d1, d2, d3] => { results := [.lit (.bool false)], args := [d1, d2, d3] }
  | _ => none }
def ModelRefusesWrongFalsely : Prop := modelRefusesRow.holds Try.pinned (OpenSpec.ofChange modelRefusesWrong)

/-- 'scriniumlaw23.ModelOrder': WHATEVER THE INPUT: true; the input reads as it did. -/
def modelOrderSpec : ChangeSpec := { name := "modelOrder", fn := fun _ => fun
  | [d1, d2] => { results := [.lit (.bool true)], args := [d1, d2] }
  | _ => none }
def modelOrderRow : OpenClaim := { program := "ytibhenengpdahaa", sum := "8473e98fd279ba9b46d0ae97631e008b696203fab9592c4ce686dbe69c4a034a", func := "scrinium/scriniumlaw23.ModelOrder", spec := "modelOrder", inPlace := ["internal/bytealg.IndexByteString", "internal/bytealg.IndexString"], unfollowed := true, recurses := true, named := ["internal/bytealg.MaxLen"], apart := false }
def ModelOrderSaid : Prop := modelOrderRow.holds Try.pinned (OpenSpec.ofChange modelOrderSpec)

/-- ITS FALSE NEIGHBOUR: 'it returns false'. Refute it at one input. -/
def modelOrderWrong : ChangeSpec := { name := "modelOrder", fn := fun _ => fun
  | [d1, d2] => { results := [.lit (.bool false)], args := [d1, d2] }
  | _ => none }
def ModelOrderWrongFalsely : Prop := modelOrderRow.holds Try.pinned (OpenSpec.ofChange modelOrderWrong)

/-- 'scriniumlaw23.ModelPlots': WHATEVER THE INPUT: true; the input reads as it did. -/
def modelPlotsSpec : ChangeSpec := { name := "modelPlots", fn := fun _ => fun
  | [d1, d2, d3] => { results := [.lit (.bool true)], args := [d1, d2, d3] }
  | _ => none }
def modelPlotsRow : OpenClaim := { program := "ytibhenengpdahaa", sum := "8473e98fd279ba9b46d0ae97631e008b696203fab9592c4ce686dbe69c4a034a", func := "scrinium/scriniumlaw23.ModelPlots", spec := "modelPlots", inPlace := ["internal/bytealg.IndexByteString", "internal/bytealg.IndexString"], unfollowed := true, recurses := true, named := ["internal/bytealg.MaxLen"], apart := false }
def ModelPlotsSaid : Prop := modelPlotsRow.holds Try.pinned (OpenSpec.ofChange modelPlotsSpec)

/-- ITS FALSE NEIGHBOUR: 'it returns false'. Refute it at one input. -/
def modelPlotsWrong : ChangeSpec := { name := "modelPlots", fn := fun _ => fun
  | [d1, d2, d3] => { results := [.lit (.bool false)], args := [d1, d2, d3] }
  | _ => none }
def ModelPlotsWrongFalsely : Prop := modelPlotsRow.holds Try.pinned (OpenSpec.ofChange modelPlotsWrong)

/- THE SECOND FORM. 'bulk': how many values and letters a reading holds, each counted each time it is reached (what is shared counts as often as it is met; a slice's spare places count too). A statement '..UptoSaid' is the law's where the arguments, and the package variables that the reading takes, are together of bulk at most 1048576: NARROWER than '..Said'. Prove '..Said' where nothing that the law and all that it calls make is longer than what came in: it says more and counts as full. Else prove '..UptoSaid'. A law counts once. -/
mutual
def uptoBulk {H : Type} : DataW H → Nat
  | .lit (.string bytes) => bytes.length + 1
  | .lit _ => 1
  | .nil => 1
  | .ptr d => uptoBulk d + 1
  | .slice elems spare => uptoBulkAll elems + uptoBulkAll spare + 1
  | .agg parts => uptoBulkAll parts + 1
  | .iface _ d => uptoBulk d + 1
  | .map entries => uptoBulkEntries entries + 1
  | .held _ => 1
def uptoBulkAll {H : Type} : List (DataW H) → Nat
  | [] => 0
  | d :: r => uptoBulk d + uptoBulkAll r
def uptoBulkEntries {H : Type} : List (Lit × DataW H) → Nat
  | [] => 0
  | x :: r => uptoBulkEntry x + uptoBulkEntries r
def uptoBulkEntry {H : Type} : Lit × DataW H → Nat
  | (.string bytes, d) => bytes.length + uptoBulk d + 1
  | (_, d) => uptoBulk d + 1
 end
def uptoSmall : (H : Type) → List (DataW H) → Bool := fun _ ds => decide (uptoBulkAll ds ≤ 1048576)
def OpenSpec.upto (s : _root_.Go.ChangeSpec) : _root_.Go.OpenSpec := { _root_.Go.OpenSpec.ofChange s with cond := some uptoSmall }

/-- 'scriniumlaw23.ModelThere', WHERE WHAT IT READS IS OF BULK AT MOST 1048576: true; the input reads as it did. -/
def modelThereUptoRow : OpenClaim := { program := "ytibhenengpdahaa", sum := "8473e98fd279ba9b46d0ae97631e008b696203fab9592c4ce686dbe69c4a034a", func := "scrinium/scriniumlaw23.ModelThere", spec := "modelThere", inPlace := ["internal/bytealg.IndexByteString", "internal/bytealg.IndexString"], unfollowed := true, recurses := true, named := ["internal/bytealg.MaxLen"], apart := false, narrowed := true }
def ModelThereUptoSaid : Prop := modelThereUptoRow.holds Try.pinned (OpenSpec.upto modelThereSpec)

/-- 'scriniumlaw23.ModelCounts', WHERE WHAT IT READS IS OF BULK AT MOST 1048576: true; the input reads as it did. -/
def modelCountsUptoRow : OpenClaim := { program := "ytibhenengpdahaa", sum := "8473e98fd279ba9b46d0ae97631e008b696203fab9592c4ce686dbe69c4a034a", func := "scrinium/scriniumlaw23.ModelCounts", spec := "modelCounts", inPlace := ["internal/bytealg.IndexByteString", "internal/bytealg.IndexString"], unfollowed := true, recurses := true, named := ["internal/bytealg.MaxLen"], apart := false, narrowed := true }
def ModelCountsUptoSaid : Prop := modelCountsUptoRow.holds Try.pinned (OpenSpec.upto modelCountsSpec)

/-- 'scriniumlaw23.ModelParts', WHERE WHAT IT READS IS OF BULK AT MOST 1048576: true; the input reads as it did. -/
def modelPartsUptoRow : OpenClaim := { program := "ytibhenengpdahaa", sum := "8473e98fd279ba9b46d0ae97631e008b696203fab9592c4ce686dbe69c4a034a", func := "scrinium/scriniumlaw23.ModelParts", spec := "modelParts", inPlace := ["internal/bytealg.IndexByteString", "internal/bytealg.IndexString"], unfollowed := true, recurses := true, named := ["internal/bytealg.MaxLen"], apart := false, narrowed := true }
def ModelPartsUptoSaid : Prop := modelPartsUptoRow.holds Try.pinned (OpenSpec.upto modelPartsSpec)

/-- 'scriniumlaw23.ModelRefuses', WHERE WHAT IT READS IS OF BULK AT MOST 1048576: true; the input reads as it did. -/
def modelRefusesUptoRow : OpenClaim := { program := "ytibhenengpdahaa", sum := "8473e98fd279ba9b46d0ae97631e008b696203fab9592c4ce686dbe69c4a034a", func := "scrinium/scriniumlaw23.ModelRefuses", spec := "modelRefuses", inPlace := ["internal/bytealg.IndexByteString", "internal/bytealg.IndexString"], unfollowed := true, recurses := true, named := ["internal/bytealg.MaxLen"], apart := false, narrowed := true }
def ModelRefusesUptoSaid : Prop := modelRefusesUptoRow.holds Try.pinned (OpenSpec.upto modelRefusesSpec)

/-- 'scriniumlaw23.ModelOrder', WHERE WHAT IT READS IS OF BULK AT MOST 1048576: true; the input reads as it did. -/
def modelOrderUptoRow : OpenClaim := { program := "ytibhenengpdahaa", sum := "8473e98fd279ba9b46d0ae97631e008b696203fab9592c4ce686dbe69c4a034a", func := "scrinium/scriniumlaw23.ModelOrder", spec := "modelOrder", inPlace := ["internal/bytealg.IndexByteString", "internal/bytealg.IndexString"], unfollowed := true, recurses := true, named := ["internal/bytealg.MaxLen"], apart := false, narrowed := true }
def ModelOrderUptoSaid : Prop := modelOrderUptoRow.holds Try.pinned (OpenSpec.upto modelOrderSpec)

/-- 'scriniumlaw23.ModelPlots', WHERE WHAT IT READS IS OF BULK AT MOST 1048576: true; the input reads as it did. -/
def modelPlotsUptoRow : OpenClaim := { program := "ytibhenengpdahaa", sum := "8473e98fd279ba9b46d0ae97631e008b696203fab9592c4ce686dbe69c4a034a", func := "scrinium/scriniumlaw23.ModelPlots", spec := "modelPlots", inPlace := ["internal/bytealg.IndexByteString", "internal/bytealg.IndexString"], unfollowed := true, recurses := true, named := ["internal/bytealg.MaxLen"], apart := false, narrowed := true }
def ModelPlotsUptoSaid : Prop := modelPlotsUptoRow.holds Try.pinned (OpenSpec.upto modelPlotsSpec)

end Rows
end Go.Proofs.Ytibhenengpdahaa
