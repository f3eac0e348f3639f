/-
  No cell of these rows narrows 'for every input' (looked for: loops, veiled, ifaces, maps, wideKeys, modest, calm, conditions, laid).
  DERIVED. THE GIVEN ROWS OF THIS SEAT. 10 by the template 'for every input the law returns true; each argument reads behind the call as it read before'; 0 by the template 'total and deterministic' (their statements: YthoapfagcdbpeaaTotals.lean).
  GIVEN WITH THE SEED: the statements are not yours to turn. If you find one false, say at which input.
  Laid BY PROGRAM, IN A SANDBOX (cutbox-rows.mjs): the forced cells as the released guide's own fill.sh prints them over the translation e223496499cf1220… (all of the seat's roots in one cut). By AI agents, Wed Nov 11 2026. No macro, syntax, notation, axiom, sorry.
-/
import Derived.Test.YthoapfagcdbpeaaChecked
import GoSem.Claim
import GoSem.ClaimJoined
import GoSem.ClaimMapViews
import Derived.JoinedTies
import Derived.KernelRfl
namespace Go.Proofs.Ythoapfagcdbpeaa
/- THE CELL 'sum', in the pinned program and in every row, IS THE sha256 OF THE DUMP (.gsa) THAT YthoapfagcdbpeaaProg.lean LOADS. Nothing in Lean hashes anything: it is a label: what it is worth is what the hold of that sum in a sandbox is worth. -/
noncomputable def Try.pinned : Pinned := { name := "ythoapfagcdbpeaa", sum := "e223496499cf122081990405d38d6c914de7d47df6ccc1f26c283695490eb7c5", checked := Try.checked }
namespace Rows
def none {H : Type} : Left H := { results := [], args := [] }

/-- 'scriniumlaw3.RowsTells': WHATEVER THE INPUT: true; the input reads as it did. -/
def rowsTellsSpec : ChangeSpec := { name := "rowsTells", fn := fun _ => fun
  | [d1, d2, d3] => { results := [.lit (.bool true)], args := [d1, d2, d3] }
  | _ => none }
def rowsTellsRow : OpenClaim := { program := "ythoapfagcdbpeaa", sum := "e223496499cf122081990405d38d6c914de7d47df6ccc1f26c283695490eb7c5", func := "scrinium/scriniumlaw3.RowsTells", spec := "rowsTells", unfollowed := true, recurses := true, plainKeys := false, apart := false }
def RowsTellsSaid : Prop := rowsTellsRow.holds Try.pinned (OpenSpec.ofChange rowsTellsSpec)

/-- ITS FALSE NEIGHBOUR: 'it returns false'. Refute it at one input. -/
def rowsTellsWrong : ChangeSpec := { name := "rowsTells", fn := fun _ => fun
  | [d1, d2, d3] => { results := [.lit (.bool false)], args := [d1, d2, d3] }
  | _ => none }
def RowsTellsWrongFalsely : Prop := rowsTellsRow.holds Try.pinned (OpenSpec.ofChange rowsTellsWrong)

/-- 'scriniumlaw3.RowsOrder': WHATEVER THE INPUT: true; the input reads as it did. -/
def rowsOrderSpec : ChangeSpec := { name := "rowsOrder", fn := fun _ => fun
  | [d1, d2, d3, d4] => { results := [.lit (.bool true)], args := [d1, d2, d3, d4] }
  | _ => none }
def rowsOrderRow : OpenClaim := { program := "ythoapfagcdbpeaa", sum := "e223496499cf122081990405d38d6c914de7d47df6ccc1f26c283695490eb7c5", func := "scrinium/scriniumlaw3.RowsOrder", spec := "rowsOrder", unfollowed := true, recurses := true, plainKeys := false, apart := false }
def RowsOrderSaid : Prop := rowsOrderRow.holds Try.pinned (OpenSpec.ofChange rowsOrderSpec)

/-- ITS FALSE NEIGHBOUR: 'it returns false'. Refute it at one input. -/
def rowsOrderWrong : ChangeSpec := { name := "rowsOrder", fn := fun _ => fun
  | [d1, d2, d3, d4] => { results := [.lit (.bool false)], args := [d1, d2, d3, d4] }
  | _ => none }
def RowsOrderWrongFalsely : Prop := rowsOrderRow.holds Try.pinned (OpenSpec.ofChange rowsOrderWrong)

/-- 'scriniumlaw3.RowsTerminators': WHATEVER THE INPUT: true; the input reads as it did. -/
def rowsTerminatorsSpec : ChangeSpec := { name := "rowsTerminators", fn := fun _ => fun
  | [d] => { results := [.lit (.bool true)], args := [d] }
  | _ => none }
def rowsTerminatorsRow : OpenClaim := { program := "ythoapfagcdbpeaa", sum := "e223496499cf122081990405d38d6c914de7d47df6ccc1f26c283695490eb7c5", func := "scrinium/scriniumlaw3.RowsTerminators", spec := "rowsTerminators", unfollowed := true, recurses := true, plainKeys := false, apart := false }
def RowsTerminatorsSaid : Prop := rowsTerminatorsRow.holds Try.pinned (OpenSpec.ofChange rowsTerminatorsSpec)

/-- ITS FALSE NEIGHBOUR: 'it returns false'. Refute it at one input. -/
def rowsTerminatorsWrong : ChangeSpec := { name := "rowsTerminators", fn := fun _ => fun
  | [d] => { results := [.lit (.bool false)], args := [d] }
  | _ => none }
def RowsTerminatorsWrongFalsely : Prop := rowsTerminatorsRow.holds Try.pinned (OpenSpec.ofChange rowsTerminatorsWrong)

/-- 'scriniumlaw3.RowsSorted': WHATEVER THE INPUT: true; the input reads as it did. -/
def rowsSortedSpec : ChangeSpec := { name := "rowsSorted", fn := fun _ => fun
  | [d] => { results := [.lit (.bool true)], args := [d] }
  | _ => none }
def rowsSortedRow : OpenClaim := { program := "ythoapfagcdbpeaa", sum := "e223496499cf122081990405d38d6c914de7d47df6ccc1f26c283695490eb7c5", func := "scrinium/scriniumlaw3.RowsSorted", spec := "rowsSorted", unfollowed := true, recurses := true, plainKeys := false, apart := false }
def RowsSortedSaid : Prop := rowsSortedRow.holds Try.pinned (OpenSpec.ofChange rowsSortedSpec)

/-- ITS FALSE NEIGHBOUR: 'it returns false'. Refute it at one input. -/
def rowsSortedWrong : ChangeSpec := { name := "rowsSorted", fn := fun _ => fun
  | [d] => { results := [.lit (.bool false)], args := [d] }
  | _ => none }
def RowsSortedWrongFalsely : Prop := rowsSortedRow.holds Try.pinned (OpenSpec.ofChange rowsSortedWrong)

/-- 'scriniumlaw3.RowsTwins': WHATEVER THE INPUT: true; the input reads as it did. -/
def rowsTwinsSpec : ChangeSpec := { name := "rowsTwins", fn := fun _ => fun
  | [d1, d2] => { results := [.lit (.bool true)], args := [d1, d2] }
  | _ => none }
def rowsTwinsRow : OpenClaim := { program := "ythoapfagcdbpeaa", sum := "e223496499cf122081990405d38d6c914de7d47df6ccc1f26c283695490eb7c5", func := "scrinium/scriniumlaw3.RowsTwins", spec := "rowsTwins", unfollowed := true, recurses := true, plainKeys := false, apart := false }
def RowsTwinsSaid : Prop := rowsTwinsRow.holds Try.pinned (OpenSpec.ofChange rowsTwinsSpec)

/-- ITS FALSE NEIGHBOUR: 'it returns false'. Refute it at one input. -/
def rowsTwinsWrong : ChangeSpec := { name := "rowsTwins", fn := fun _ => fun
  | [d1, d2] => { results := [.lit (.bool false)], args := [d1, d2] }
  | _ => none }
def RowsTwinsWrongFalsely : Prop := rowsTwinsRow.holds Try.pinned (OpenSpec.ofChange rowsTwinsWrong)

/-- 'scriniumlaw3.RowsParts': WHATEVER THE INPUT: true; the input reads as it did. -/
def rowsPartsSpec : ChangeSpec := { name := "rowsParts", fn := fun _ => fun
  | [d1, d2, d3] => { results := [.lit (.bool true)], args := [d1, d2, d3] }
  | _ => none }
def rowsPartsRow : OpenClaim := { program := "ythoapfagcdbpeaa", sum := "e223496499cf122081990405d38d6c914de7d47df6ccc1f26c283695490eb7c5", func := "scrinium/scriniumlaw3.RowsParts", spec := "rowsParts", unfollowed := true, recurses := true, plainKeys := false, apart := false }
def RowsPartsSaid : Prop := rowsPartsRow.holds Try.pinned (OpenSpec.ofChange rowsPartsSpec)

/-- ITS FALSE NEIGHBOUR: 'it returns false'. Refute it at one input. -/
def rowsPartsWrong : ChangeSpec := { name := "rowsParts", fn := fun _ => fun
  | [d1, d2, d3] => { results := [.lit (.bool false)], args := [d1, d2, d3] }
  | _ => none }
def RowsPartsWrongFalsely : Prop := rowsPartsRow.holds Try.pinned (OpenSpec.ofChange rowsPartsWrong)

/-- 'scriniumlaw3.RowsMany': WHATEVER THE INPUT: true; the input reads as it did. -/
def rowsManySpec : ChangeSpec := { name := "rowsMany", fn := fun _ => fun
  | [d1, d2] => { results := [.lit (.bool true)], args := [d1, d2] }
  | _ => none }
def rowsManyRow : OpenClaim := { program := "ythoapfagcdbpeaa", sum := "e223496499cf122081990405d38d6c914de7d47df6ccc1f26c283695490eb7c5", func := "scrinium/scriniumlaw3.RowsMany", spec := "rowsMany", unfollowed := true, recurses := true, plainKeys := false, apart := false }
def RowsManySaid : Prop := rowsManyRow.holds Try.pinned (OpenSpec.ofChange rowsManySpec)

/-- ITS FALSE NEIGHBOUR: 'it returns false'. Refute it at one input. -/
def rowsManyWrong : ChangeSpec := { name := "rowsMany", fn := fun _ => fun
  | [d1, d2] => { results := [.lit (.bool false)], args := [d1, d2] }
  | _ => none }
def RowsManyWrongFalsely : Prop := rowsManyRow.holds Try.pinned (OpenSpec.ofChange rowsManyWrong)

/-- 'scriniumlaw3.RowsLengths': WHATEVER THE INPUT: true; the input reads as it did. -/
def rowsLengthsSpec : ChangeSpec := { name := "rowsLengths", fn := fun _ => fun
  | [d1, d2] => { results := [.lit (.bool true)], args := [d1, d2] }
  | _ => none }
def rowsLengthsRow : OpenClaim := { program := "ythoapfagcdbpeaa", sum := "e223496499cf122081990405d38d6c914de7d47df6ccc1f26c283695490eb7c5", func := "scrinium/scriniumlaw3.RowsLengths", spec := "rowsLengths", unfollowed := true, recurses := true, plainKeys := false, apart := false }
def RowsLengthsSaid : Prop := rowsLengthsRow.holds Try.pinned (OpenSpec.ofChange rowsLengthsSpec)

/-- ITS FALSE NEIGHBOUR: 'it returns false'. Refute it at one input. -/
def rowsLengthsWrong : ChangeSpec := { name := "rowsLengths", fn := fun _ => fun
  | [d1, d2] => { results := [.lit (.bool false)], args := [d1, d2] }
  | _ => none }
def RowsLengthsWrongFalsely : Prop := rowsLengthsRow.holds Try.pinned (OpenSpec.ofChange rowsLengthsWrong)

/-- 'scriniumlaw3.RowsNone': WHATEVER THE INPUT: true; the input reads as it did. -/
def rowsNoneSpec : ChangeSpec := { name := "rowsNone", fn := fun _ => fun
  | [d1, d2, d3] => { results := [.lit (.bool true)], args := [d1, d2, d3] }
  | _ => none }
def rowsNoneRow : OpenClaim := { program := "ythoapfagcdbpeaa", sum := "e223496499cf122081990405d38d6c914de7d47df6ccc1f26c283695490eb7c5", func := "scrinium/scriniumlaw3.RowsNone", spec := "rowsNone", unfollowed := true, recurses := true, plainKeys := false, apart := false }
def RowsNoneSaid : Prop := rowsNoneRow.holds Try.pinned (OpenSpec.ofChange rowsNoneSpec)

/-- ITS FALSE NEIGHBOUR: 'it returns false'. Refute it at one input. -/
def rowsNoneWrong : ChangeSpec := { name := "rowsNone", fn := fun _ => fun
  | [d1, d2, d3] => { results := [.lit (.bool false)], args := [d1, d2, d3] }
  | _ => none }
def RowsNoneWrongFalsely : Prop := rowsNoneRow.holds Try.pinned (OpenSpec.ofChange rowsNoneWrong)

/-- 'scriniumlaw3.RowsFirst': WHATEVER THE INPUT: true; the input reads as it did. -/
def rowsFirstSpec : ChangeSpec := { name := "rowsFirst", fn := fun _ => fun
  | [d] => { results := [.lit (.bool true)], args := [d] }
  | _ => none }
def rowsFirstRow : OpenClaim := { program := "ythoapfagcdbpeaa", sum := "e223496499cf122081990405d38d6c914de7d47df6ccc1f26c283695490eb7c5", func := "scrinium/scriniumlaw3.RowsFirst", spec := "rowsFirst", unfollowed := true, recurses := true, plainKeys := false, apart := false }
def RowsFirstSaid : Prop := rowsFirstRow.holds Try.pinned (OpenSpec.ofChange rowsFirstSpec)

/-- ITS FALSE NEIGHBOUR: 'it returns false'. Refute it at one input. -/
def rowsFirstWrong : ChangeSpec := { name := "rowsFirst", fn := fun _ => fun
  | [d] => { results := [.lit (.bool false)], args := [d] }
  | _ => none }
def RowsFirstWrongFalsely : Prop := rowsFirstRow.holds Try.pinned (OpenSpec.ofChange rowsFirstWrong)

/- THE SECOND FORM. 'bulk': how many values and letters a reading holds, each counted each time it is reached (what is shared counts as often as it is met; a slice's spare places count too). A statement '..UptoSaid' is the law's where the arguments, and the package variables that the reading takes, are together of bulk at most 1048576: NARROWER than '..Said'. Prove '..Said' where nothing that the law and all that it calls make is longer than what came in: it says more and counts as full. Else prove '..UptoSaid'. A law counts once. -/
mutual
def uptoBulk {H : Type} : DataW H → Nat
  | .lit (.string bytes) => bytes.length + 1
  | .lit _ => 1
  | .nil => 1
  | .ptr d => uptoBulk d + 1
  | .slice elems spare => uptoBulkAll elems + uptoBulkAll spare + 1
  | .agg parts => uptoBulkAll parts + 1
  | .iface _ d => uptoBulk d + 1
  | .map entries => uptoBulkEntries entries + 1
  | .held _ => 1
def uptoBulkAll {H : Type} : List (DataW H) → Nat
  | [] => 0
  | d :: r => uptoBulk d + uptoBulkAll r
def uptoBulkEntries {H : Type} : List (Lit × DataW H) → Nat
  | [] => 0
  | x :: r => uptoBulkEntry x + uptoBulkEntries r
def uptoBulkEntry {H : Type} : Lit × DataW H → Nat
  | (.string bytes, d) => bytes.length + uptoBulk d + 1
  | (_, d) => uptoBulk d + 1
 end
def uptoSmall : (H : Type) → List (DataW H) → Bool := fun _ ds => decide (uptoBulkAll ds ≤ 1048576)
def OpenSpec.upto (s : _root_.Go.ChangeSpec) : _root_.Go.OpenSpec := { _root_.Go.OpenSpec.ofChange s with cond := some uptoSmall }

/-- 'scriniumlaw3.RowsTells', WHERE WHAT IT READS IS OF BULK AT MOST 1048576: true; the input reads as it did. -/
def rowsTellsUptoRow : OpenClaim := { program := "ythoapfagcdbpeaa", sum := "e223496499cf122081990405d38d6c914de7d47df6ccc1f26c283695490eb7c5", func := "scrinium/scriniumlaw3.RowsTells", spec := "rowsTells", unfollowed := true, recurses := true, plainKeys := false, apart := false, narrowed := true }
def RowsTellsUptoSaid : Prop := rowsTellsUptoRow.holds Try.pinned (OpenSpec.upto rowsTellsSpec)

/-- 'scriniumlaw3.RowsOrder', WHERE WHAT IT READS IS OF BULK AT MOST 1048576: true; the input reads as it did. -/
def rowsOrderUptoRow : OpenClaim := { program := "ythoapfagcdbpeaa", sum := "e223496499cf122081990405d38d6c914de7d47df6ccc1f26c283695490eb7c5", func := "scrinium/scriniumlaw3.RowsOrder", spec := "rowsOrder", unfollowed := true, recurses := true, plainKeys := false, apart := false, narrowed := true }
def RowsOrderUptoSaid : Prop := rowsOrderUptoRow.holds Try.pinned (OpenSpec.upto rowsOrderSpec)

/-- 'scriniumlaw3.RowsTerminators', WHERE WHAT IT READS IS OF BULK AT MOST 1048576: true; the input reads as it did. -/
def rowsTerminatorsUptoRow : OpenClaim := { program := "ythoapfagcdbpeaa", sum := "e223496499cf122081990405d38d6c914de7d47df6ccc1f26c283695490eb7c5", func := "scrinium/scriniumlaw3.RowsTerminators", spec := "rowsTerminators", unfollowed := true, recurses := true, plainKeys := false, apart := false, narrowed := true }
def RowsTerminatorsUptoSaid : Prop := rowsTerminatorsUptoRow.holds Try.pinned (OpenSpec.upto rowsTerminatorsSpec)

/-- 'scriniumlaw3.RowsSorted', WHERE WHAT IT READS IS OF BULK AT MOST 1048576: true; the input reads as it did. -/
def rowsSortedUptoRow : OpenClaim := { program := "ythoapfagcdbpeaa", sum := "e223496499cf122081990405d38d6c914de7d47df6ccc1f26c283695490eb7c5", func := "scrinium/scriniumlaw3.RowsSorted", spec := "rowsSorted", unfollowed := true, recurses := true, plainKeys := false, apart := false, narrowed := true }
def RowsSortedUptoSaid : Prop := rowsSortedUptoRow.holds Try.pinned (OpenSpec.upto rowsSortedSpec)

/-- 'scriniumlaw3.RowsTwins', WHERE WHAT IT READS IS OF BULK AT MOST 1048576: true; the input reads as it did. -/
def rowsTwinsUptoRow : OpenClaim := { program := "ythoapfagcdbpeaa", sum := "e223496499cf122081990405d38d6c914de7d47df6ccc1f26c283695490eb7c5", func := "scrinium/scriniumlaw3.RowsTwins", spec := "rowsTwins", unfollowed := true, recurses := true, plainKeys := false, apart := false, narrowed := true }
def RowsTwinsUptoSaid : Prop := rowsTwinsUptoRow.holds Try.pinned (OpenSpec.upto rowsTwinsSpec)

/-- 'scriniumlaw3.RowsParts', WHERE WHAT IT READS IS OF BULK AT MOST 1048576: true; the input reads as it did. -/
def rowsPartsUptoRow : OpenClaim := { program := "ythoapfagcdbpeaa", sum := "e223496499cf122081990405d38d6c914de7d47df6ccc1f26c283695490eb7c5", func := "scrinium/scriniumlaw3.RowsParts", spec := "rowsParts", unfollowed := true, recurses := true, plainKeys := false, apart := false, narrowed := true }
def RowsPartsUptoSaid : Prop := rowsPartsUptoRow.holds Try.pinned (OpenSpec.upto rowsPartsSpec)

/-- 'scriniumlaw3.RowsMany', WHERE WHAT IT READS IS OF BULK AT MOST 1048576: true; the input reads as it did. -/
def rowsManyUptoRow : OpenClaim := { program := "ythoapfagcdbpeaa", sum := "e223496499cf122081990405d38d6c914de7d47df6ccc1f26c283695490eb7c5", func := "scrinium/scriniumlaw3.RowsMany", spec := "rowsMany", unfollowed := true, recurses := true, plainKeys := false, apart := false, narrowed := true }
def RowsManyUptoSaid : Prop := rowsManyUptoRow.holds Try.pinned (OpenSpec.upto rowsManySpec)

/-- 'scriniumlaw3.RowsLengths', WHERE WHAT IT READS IS OF BULK AT MOST 1048576: true; the input reads as it did. -/
def rowsLengthsUptoRow : OpenClaim := { program := "ythoapfagcdbpeaa", sum := "e223496499cf122081990405d38d6c914de7d47df6ccc1f26c283695490eb7c5", func := "scrinium/scriniumlaw3.RowsLengths", spec := "rowsLengths", unfollowed := true, recurses := true, plainKeys := false, apart := false, narrowed := true }
def RowsLengthsUptoSaid : Prop := rowsLengthsUptoRow.holds Try.pinned (OpenSpec.upto rowsLengthsSpec)

/-- 'scriniumlaw3.RowsNone', WHERE WHAT IT READS IS OF BULK AT MOST 1048576: true; the input reads as it did. -/
def rowsNoneUptoRow : OpenClaim := { program := "ythoapfagcdbpeaa", sum := "e223496499cf122081990405d38d6c914de7d47df6ccc1f26c283695490eb7c5", func := "scrinium/scriniumlaw3.RowsNone", spec := "rowsNone", unfollowed := true, recurses := true, plainKeys := false, apart := false, narrowed := true }
def RowsNoneUptoSaid : Prop := rowsNoneUptoRow.holds Try.pinned (OpenSpec.upto rowsNoneSpec)

/-- 'scriniumlaw3.RowsFirst', WHERE WHAT IT READS IS OF BULK AT MOST 1048576: true; the input reads as it did. -/
def rowsFirstUptoRow : OpenClaim := { program := "ythoapfagcdbpeaa", sum := "e223496499cf122081990405d38d6c914de7d47df6ccc1f26c283695490eb7c5", func := "scrinium/scriniumlaw3.RowsFirst", spec := "rowsFirst", unfollowed := true, recurses := true, plainKeys := false, apart := false, narrowed := true }
def RowsFirstUptoSaid : Prop := rowsFirstUptoRow.holds Try.pinned (OpenSpec.upto rowsFirstSpec)

end Rows
end Go.Proofs.Ythoapfagcdbpeaa
