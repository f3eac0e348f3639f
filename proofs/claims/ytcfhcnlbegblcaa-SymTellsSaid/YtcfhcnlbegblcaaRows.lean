/-
  No cell of these rows narrows 'for every input' (looked for: loops, veiled, ifaces, maps, wideKeys, modest, calm, conditions, laid).
  DERIVED. THE GIVEN ROWS OF THIS SEAT. 6 by the template 'for every input the law returns true; each argument reads behind the call as it read before'; 0 by the template 'total and deterministic' (their statements: YtcfhcnlbegblcaaTotals.lean).
  GIVEN WITH THE SEED: the statements are not yours to turn. If you find one false, say at which input.
  Laid BY PROGRAM, IN A SANDBOX (cutbox-rows.mjs): the forced cells as the released guide's own fill.sh prints them over the translation 8a33eae874df6dd4… (all of the seat's roots in one cut). By AI agents, Wed Nov 11 2026. No macro, syntax, notation, axiom, sorry.
-/
import Derived.Test.YtcfhcnlbegblcaaChecked
import GoSem.Claim
import GoSem.ClaimJoined
import GoSem.ClaimMapViews
import Derived.JoinedTies
import Derived.KernelRfl
namespace Go.Proofs.Ytcfhcnlbegblcaa
/- THE CELL 'sum', in the pinned program and in every row, IS THE sha256 OF THE DUMP (.gsa) THAT YtcfhcnlbegblcaaProg.lean LOADS. Nothing in Lean hashes anything: it is a label: what it is worth is what the hold of that sum in a sandbox is worth. -/
noncomputable def Try.pinned : Pinned := { name := "ytcfhcnlbegblcaa", sum := "8a33eae874df6dd4aba7e483a40636daee3c2f40a59d2a4e261c9ca749e6a895", checked := Try.checked }
namespace Rows
def none {H : Type} : Left H := { results := [], args := [] }

/-- 'scriniumlaw1.SymTells': WHATEVER THE INPUT: true; the input reads as it did. -/
def symTellsSpec : ChangeSpec := { name := "symTells", fn := fun _ => fun
  | [d1, d2, d3, d4] => { results := [.lit (.bool true)], args := [d1, d2, d3, d4] }
  | _ => none }
def symTellsRow : OpenClaim := { program := "ytcfhcnlbegblcaa", sum := "8a33eae874df6dd4aba7e483a40636daee3c2f40a59d2a4e261c9ca749e6a895", func := "scrinium/scriniumlaw1.SymTells", spec := "symTells", apart := false }
def SymTellsSaid : Prop := symTellsRow.holds Try.pinned (OpenSpec.ofChange symTellsSpec)

/-- ITS FALSE NEIGHBOUR: 'it returns false'. Refute it at one input. -/
def symTellsWrong : ChangeSpec := { name := "symTells", fn := fun _ => fun
  | [d1, d2, d3, d4] => { results := [.lit (.bool false)], args := [d1, d2, d3, d4] }
  | _ => none }
def SymTellsWrongFalsely : Prop := symTellsRow.holds Try.pinned (OpenSpec.ofChange symTellsWrong)

/-- 'scriniumlaw1.SymBits': WHATEVER THE INPUT: true; the input reads as it did. -/
def symBitsSpec : ChangeSpec := { name := "symBits", fn := fun _ => fun
  | [d1, d2] => { results := [.lit (.bool true)], args := [d1, d2] }
  | _ => none }
def symBitsRow : OpenClaim := { program := "ytcfhcnlbegblcaa", sum := "8a33eae874df6dd4aba7e483a40636daee3c2f40a59d2a4e261c9ca749e6a895", func := "scrinium/scriniumlaw1.SymBits", spec := "symBits", apart := false }
def SymBitsSaid : Prop := symBitsRow.holds Try.pinned (OpenSpec.ofChange symBitsSpec)

/-- ITS FALSE NEIGHBOUR: 'it returns false'. Refute it at one input. -/
def symBitsWrong : ChangeSpec := { name := "symBits", fn := fun _ => fun
  | [d1, d2] => { results := [.lit (.bool false)], args := [d1, d2] }
  | _ => none }
def SymBitsWrongFalsely : Prop := symBitsRow.holds Try.pinned (OpenSpec.ofChange symBitsWrong)

/-- 'scriniumlaw1.SymOrder': WHATEVER THE INPUT: true; the input reads as it did. -/
def symOrderSpec : ChangeSpec := { name := "symOrder", fn := fun _ => fun
  | [d1, d2] => { results := [.lit (.bool true)], args := [d1, d2] }
  | _ => none }
def symOrderRow : OpenClaim := { program := "ytcfhcnlbegblcaa", sum := "8a33eae874df6dd4aba7e483a40636daee3c2f40a59d2a4e261c9ca749e6a895", func := "scrinium/scriniumlaw1.SymOrder", spec := "symOrder", apart := false }
def SymOrderSaid : Prop := symOrderRow.holds Try.pinned (OpenSpec.ofChange symOrderSpec)

/-- ITS FALSE NEIGHBOUR: 'it returns false'. Refute it at one input. -/
def symOrderWrong : ChangeSpec := { name := "symOrder", fn := fun _ => fun
  | [d1, d2] => { results := [.lit (.bool false)], args := [d1, d2] }
  | _ => none }
def SymOrderWrongFalsely : Prop := symOrderRow.holds Try.pinned (OpenSpec.ofChange symOrderWrong)

/-- 'scriniumlaw1.SymJoins': WHATEVER THE INPUT: true; the input reads as it did. -/
def symJoinsSpec : ChangeSpec := { name := "symJoins", fn := fun _ => fun
  | [d1, d2] => { results := [.lit (.bool true)], args := [d1, d2] }
  | _ => none }
def symJoinsRow : OpenClaim := { program := "ytcfhcnlbegblcaa", sum := "8a33eae874df6dd4aba7e483a40636daee3c2f40a59d2a4e261c9ca749e6a895", func := "scrinium/scriniumlaw1.SymJoins", spec := "symJoins", apart := false }
def SymJoinsSaid : Prop := symJoinsRow.holds Try.pinned (OpenSpec.ofChange symJoinsSpec)

/-- ITS FALSE NEIGHBOUR: 'it returns false'. Refute it at one input. -/
def symJoinsWrong : ChangeSpec := { name := "symJoins", fn := fun _ => fun
  | [d1, d2] => { results := [.lit (.bool false)], args := [d1, d2] }
  | _ => none }
def SymJoinsWrongFalsely : Prop := symJoinsRow.holds Try.pinned (OpenSpec.ofChange symJoinsWrong)

/-- 'scriniumlaw1.SymEdges': WHATEVER THE INPUT: true; the input reads as it did. -/
def symEdgesSpec : ChangeSpec := { name := "symEdges", fn := fun _ => fun
  | [d1, d2, d3] => { results := [.lit (.bool true)], args := [d1, d2, d3] }
  | _ => none }
def symEdgesRow : OpenClaim := { program := "ytcfhcnlbegblcaa", sum := "8a33eae874df6dd4aba7e483a40636daee3c2f40a59d2a4e261c9ca749e6a895", func := "scrinium/scriniumlaw1.SymEdges", spec := "symEdges", apart := false }
def SymEdgesSaid : Prop := symEdgesRow.holds Try.pinned (OpenSpec.ofChange symEdgesSpec)

/-- ITS FALSE NEIGHBOUR: 'it returns false'. Refute it at one input. -/
def symEdgesWrong : ChangeSpec := { name := "symEdges", fn := fun _ => fun
  | [d1, d2, d3] => { results := [.lit (.bool false)], args := [d1, d2, d3] }
  | _ => none }
def SymEdgesWrongFalsely : Prop := symEdgesRow.holds Try.pinned (OpenSpec.ofChange symEdgesWrong)

/-- 'scriniumlaw1.SymBack': WHATEVER THE INPUT: true; the input reads as it did. -/
def symBackSpec : ChangeSpec := { name := "symBack", fn := fun _ => fun
  | [d] => { results := [.lit (.bool true)], args := [d] }
  | _ => none }
def symBackRow : OpenClaim := { program := "ytcfhcnlbegblcaa", sum := "8a33eae874df6dd4aba7e483a40636daee3c2f40a59d2a4e261c9ca749e6a895", func := "scrinium/scriniumlaw1.SymBack", spec := "symBack", apart := false }
def SymBackSaid : Prop := symBackRow.holds Try.pinned (OpenSpec.ofChange symBackSpec)

/-- ITS FALSE NEIGHBOUR: 'it returns false'. Refute it at one input. -/
def symBackWrong : ChangeSpec := { name := "symBack", fn := fun _ => fun
  | [d] => { results := [.lit (.bool false)], args := [d] }
  | _ => none }
def SymBackWrongFalsely : Prop := symBackRow.holds Try.pinned (OpenSpec.ofChange symBackWrong)

/- THE SECOND FORM. 'bulk': how many values and letters a reading holds, each counted each time it is reached (what is shared counts as often as it is met; a slice's spare places count too). A statement '..UptoSaid' is the law's where the arguments, and the package variables that the reading takes, are together of bulk at most 1048576: NARROWER than '..Said'. Prove '..Said' where nothing that the law and all that it calls make is longer than what came in: it says more and counts as full. Else prove '..UptoSaid'. A law counts once. -/
mutual
def uptoBulk {H : Type} : DataW H → Nat
  | .lit (.string bytes) => bytes.length + 1
  | .lit _ => 1
  | .nil => 1
  | .ptr d => uptoBulk d + 1
  | .slice elems spare => uptoBulkAll elems + uptoBulkAll spare + 1
  | .agg parts => uptoBulkAll parts + 1
  | .iface _ d => uptoBulk d + 1
  | .map entries => uptoBulkEntries entries + 1
  | .held _ => 1
def uptoBulkAll {H : Type} : List (DataW H) → Nat
  | [] => 0
  | d :: r => uptoBulk d + uptoBulkAll r
def uptoBulkEntries {H : Type} : List (Lit × DataW H) → Nat
  | [] => 0
  | x :: r => uptoBulkEntry x + uptoBulkEntries r
def uptoBulkEntry {H : Type} : Lit × DataW H → Nat
  | (.string bytes, d) => bytes.length + uptoBulk d + 1
  | (_, d) => uptoBulk d + 1
 end
def uptoSmall : (H : Type) → List (DataW H) → Bool := fun _ ds => decide (uptoBulkAll ds ≤ 1048576)
def OpenSpec.upto (s : _root_.Go.ChangeSpec) : _root_.Go.OpenSpec := { _root_.Go.OpenSpec.ofChange s with cond := some uptoSmall }

/-- 'scriniumlaw1.SymTells', WHERE WHAT IT READS IS OF BULK AT MOST 1048576: true; the input reads as it did. -/
def symTellsUptoRow : OpenClaim := { program := "ytcfhcnlbegblcaa", sum := "8a33eae874df6dd4aba7e483a40636daee3c2f40a59d2a4e261c9ca749e6a895", func := "scrinium/scriniumlaw1.SymTells", spec := "symTells", apart := false, narrowed := true }
def SymTellsUptoSaid : Prop := symTellsUptoRow.holds Try.pinned (OpenSpec.upto symTellsSpec)

/-- 'scriniumlaw1.SymBits', WHERE WHAT IT READS IS OF BULK AT MOST 1048576: true; the input reads as it did. -/
def symBitsUptoRow : OpenClaim := { program := "ytcfhcnlbegblcaa", sum := "8a33eae874df6dd4aba7e483a40636daee3c2f40a59d2a4e261c9ca749e6a895", func := "scrinium/scriniumlaw1.SymBits", spec := "symBits", apart := false, narrowed := true }
def SymBitsUptoSaid : Prop := symBitsUptoRow.holds Try.pinned (OpenSpec.upto symBitsSpec)

/-- 'scriniumlaw1.SymOrder', WHERE WHAT IT READS IS OF BULK AT MOST 1048576: true; the input reads as it did. -/
def symOrderUptoRow : OpenClaim := { program := "ytcfhcnlbegblcaa", sum := "8a33eae874df6dd4aba7e483a40636daee3c2f40a59d2a4e261c9ca749e6a895", func := "scrinium/scriniumlaw1.SymOrder", spec := "symOrder", apart := false, narrowed := true }
def SymOrderUptoSaid : Prop := symOrderUptoRow.holds Try.pinned (OpenSpec.upto symOrderSpec)

/-- 'scriniumlaw1.SymJoins', WHERE WHAT IT READS IS OF BULK AT MOST 1048576: true; the input reads as it did. -/
def symJoinsUptoRow : OpenClaim := { program := "ytcfhcnlbegblcaa", sum := "8a33eae874df6dd4aba7e483a40636daee3c2f40a59d2a4e261c9ca749e6a895", func := "scrinium/scriniumlaw1.SymJoins", spec := "symJoins", apart := false, narrowed := true }
def SymJoinsUptoSaid : Prop := symJoinsUptoRow.holds Try.pinned (OpenSpec.upto symJoinsSpec)

/-- 'scriniumlaw1.SymEdges', WHERE WHAT IT READS IS OF BULK AT MOST 1048576: true; the input reads as it did. -/
def symEdgesUptoRow : OpenClaim := { program := "ytcfhcnlbegblcaa", sum := "8a33eae874df6dd4aba7e483a40636daee3c2f40a59d2a4e261c9ca749e6a895", func := "scrinium/scriniumlaw1.SymEdges", spec := "symEdges", apart := false, narrowed := true }
def SymEdgesUptoSaid : Prop := symEdgesUptoRow.holds Try.pinned (OpenSpec.upto symEdgesSpec)

/-- 'scriniumlaw1.SymBack', WHERE WHAT IT READS IS OF BULK AT MOST 1048576: true; the input reads as it did. -/
def symBackUptoRow : OpenClaim := { program := "ytcfhcnlbegblcaa", sum := "8a33eae874df6dd4aba7e483a40636daee3c2f40a59d2a4e261c9ca749e6a895", func := "scrinium/scriniumlaw1.SymBack", spec := "symBack", apart := false, narrowed := true }
def SymBackUptoSaid : Prop := symBackUptoRow.holds Try.pinned (OpenSpec.upto symBackSpec)

end Rows
end Go.Proofs.Ytcfhcnlbegblcaa
