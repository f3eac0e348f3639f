/-
  No cell of these rows narrows 'for every input' (looked for: loops, veiled, ifaces, maps, wideKeys, modest, calm, conditions, laid).
  DERIVED. THE GIVEN ROWS OF THIS SEAT. 8 by the template 'for every input the law returns true; each argument reads behind the call as it read before'; 0 by the template 'total and deterministic' (their statements: YtckamijajnmbjaaTotals.lean).
  GIVEN WITH THE SEED: the statements are not yours to turn. If you find one false, say at which input.
  Laid BY PROGRAM, IN A SANDBOX (cutbox-rows.mjs): the forced cells as the released guide's own fill.sh prints them over the translation 30f37f1d7db58f17… (all of the seat's roots in one cut). By AI agents, Wed Nov 11 2026. No macro, syntax, notation, axiom, sorry.
-/
import Derived.Test.YtckamijajnmbjaaChecked
import GoSem.Claim
import GoSem.ClaimJoined
import GoSem.ClaimMapViews
import Derived.JoinedTies
import Derived.KernelRfl
namespace Go.Proofs.Ytckamijajnmbjaa
/- THE CELL 'sum', in the pinned program and in every row, IS THE sha256 OF THE DUMP (.gsa) THAT YtckamijajnmbjaaProg.lean LOADS. Nothing in Lean hashes anything: it is a label: what it is worth is what the hold of that sum in a sandbox is worth. -/
noncomputable def Try.pinned : Pinned := { name := "ytckamijajnmbjaa", sum := "30f37f1d7db58f1772d8329005dca48ad593ace91ba899872c423e18354ed147", checked := Try.checked }
namespace Rows
def none {H : Type} : Left H := { results := [], args := [] }

/-- 'scriniumlaw2.WalkTurns': WHATEVER THE INPUT: true; the input reads as it did. -/
def walkTurnsSpec : ChangeSpec := { name := "walkTurns", fn := fun _ => fun
  | [d1, d2, d3, d4] => { results := [.lit (.bool true)], args := [d1, d2, d3, d4] }
  | _ => none }
def walkTurnsRow : OpenClaim := { program := "ytckamijajnmbjaa", sum := "30f37f1d7db58f1772d8329005dca48ad593ace91ba899872c423e18354ed147", func := "scrinium/scriniumlaw2.WalkTurns", spec := "walkTurns", inPlace := ["math.Float64bits"], apart := false }
def WalkTurnsSaid : Prop := walkTurnsRow.holds Try.pinned (OpenSpec.ofChange walkTurnsSpec)

/-- ITS FALSE NEIGHBOUR: 'it returns false'. Refute it at one input. -/
def walkTurnsWrong : ChangeSpec := { name := "walkTurns", fn := fun _ => fun
  | [d1, d2, d3, d4] => { results := [.lit (.bool false)], args := [d1, d2, d3, d4] }
  | _ => none }
def WalkTurnsWrongFalsely : Prop := walkTurnsRow.holds Try.pinned (OpenSpec.ofChange walkTurnsWrong)

/-- 'scriniumlaw2.WalkBoxes': WHATEVER THE INPUT: true; the input reads as it did. -/
def walkBoxesSpec : ChangeSpec := { name := "walkBoxes", fn := fun _ => fun
  | [d1, d2] => { results := [.lit (.bool true)], args := [d1, d2] }
  | _ => none }
def walkBoxesRow : OpenClaim := { program := "ytckamijajnmbjaa", sum := "30f37f1d7db58f1772d8329005dca48ad593ace91ba899872c423e18354ed147", func := "scrinium/scriniumlaw2.WalkBoxes", spec := "walkBoxes", apart := false }
def WalkBoxesSaid : Prop := walkBoxesRow.holds Try.pinned (OpenSpec.ofChange walkBoxesSpec)

/-- ITS FALSE NEIGHBOUR: 'it returns false'. Refute it at one input. -/
def walkBoxesWrong : ChangeSpec := { name := "walkBoxes", fn := fun _ => fun
  | [d1, d2] => { results := [.lit (.bool false)], args := [d1, d2] }
  | _ => none }
def WalkBoxesWrongFalsely : Prop := walkBoxesRow.holds Try.pinned (OpenSpec.ofChange walkBoxesWrong)

/-- 'scriniumlaw2.WalkJoins': WHATEVER THE INPUT: true; the input reads as it did. -/
def walkJoinsSpec : ChangeSpec := { name := "walkJoins", fn := fun _ => fun
  | [d1, d2] => { results := [.lit (.bool true)], args := [d1, d2] }
  | _ => none }
def walkJoinsRow : OpenClaim := { program := "ytckamijajnmbjaa", sum := "30f37f1d7db58f1772d8329005dca48ad593ace91ba899872c423e18354ed147", func := "scrinium/scriniumlaw2.WalkJoins", spec := "walkJoins", inPlace := ["math.Float64bits", "math.Float64frombits"], apart := false }
def WalkJoinsSaid : Prop := walkJoinsRow.holds Try.pinned (OpenSpec.ofChange walkJoinsSpec)

/-- ITS FALSE NEIGHBOUR: 'it returns false'. Refute it at one input. -/
def walkJoinsWrong : ChangeSpec := { name := "walkJoins", fn := fun _ => fun
  | [d1, d2] => { results := [.lit (.bool false)], args := [d1, d2] }
  | _ => none }
def WalkJoinsWrongFalsely : Prop := walkJoinsRow.holds Try.pinned (OpenSpec.ofChange walkJoinsWrong)

/-- 'scriniumlaw2.WalkSteps': WHATEVER THE INPUT: true; the input reads as it did. -/
def walkStepsSpec : ChangeSpec := { name := "walkSteps", fn := fun _ => fun
  | [d] => { results := [.lit (.bool true)], args := [d] }
  | _ => none }
def walkStepsRow : OpenClaim := { program := "ytckamijajnmbjaa", sum := "30f37f1d7db58f1772d8329005dca48ad593ace91ba899872c423e18354ed147", func := "scrinium/scriniumlaw2.WalkSteps", spec := "walkSteps", inPlace := ["math.Float64bits", "math.Float64frombits"], apart := false }
def WalkStepsSaid : Prop := walkStepsRow.holds Try.pinned (OpenSpec.ofChange walkStepsSpec)

/-- ITS FALSE NEIGHBOUR: 'it returns false'. Refute it at one input. -/
def walkStepsWrong : ChangeSpec := { name := "walkSteps", fn := fun _ => fun
  | [d] => { results := [.lit (.bool false)], args := [d] }
  | _ => none }
def WalkStepsWrongFalsely : Prop := walkStepsRow.holds Try.pinned (OpenSpec.ofChange walkStepsWrong)

/-- 'scriniumlaw2.WalkApart': WHATEVER THE INPUT: true; the input reads as it did. -/
def walkApartSpec : ChangeSpec := { name := "walkApart", fn := fun _ => fun
  | [d1, d2, d3, d4] => { results := [.lit (.bool true)], args := [d1, d2, d3, d4] }
  | _ => none }
def walkApartRow : OpenClaim := { program := "ytckamijajnmbjaa", sum := "30f37f1d7db58f1772d8329005dca48ad593ace91ba899872c423e18354ed147", func := "scrinium/scriniumlaw2.WalkApart", spec := "walkApart", inPlace := ["math.Float64bits", "math.Float64frombits"], apart := false }
def WalkApartSaid : Prop := walkApartRow.holds Try.pinned (OpenSpec.ofChange walkApartSpec)

/-- ITS FALSE NEIGHBOUR: 'it returns false'. Refute it at one input. -/
def walkApartWrong : ChangeSpec := { name := "walkApart", fn := fun _ => fun
  | [d1, d2, d3, d4] => { results := [.lit (.bool false)], args := [d1, d2, d3, d4] }
  | _ => none }
def WalkApartWrongFalsely : Prop := walkApartRow.holds Try.pinned (OpenSpec.ofChange walkApartWrong)

/-- 'scriniumlaw2.WalkBytes': WHATEVER THE INPUT: true; the input reads as it did. -/
def walkBytesSpec : ChangeSpec := { name := "walkBytes", fn := fun _ => fun
  | [d] => { results := [.lit (.bool true)], args := [d] }
  | _ => none }
def walkBytesRow : OpenClaim := { program := "ytckamijajnmbjaa", sum := "30f37f1d7db58f1772d8329005dca48ad593ace91ba899872c423e18354ed147", func := "scrinium/scriniumlaw2.WalkBytes", spec := "walkBytes", inPlace := ["math.Float64bits", "math.Float64frombits"], apart := false }
def WalkBytesSaid : Prop := walkBytesRow.holds Try.pinned (OpenSpec.ofChange walkBytesSpec)

/-- ITS FALSE NEIGHBOUR: 'it returns false'. Refute it at one input. -/
def walkBytesWrong : ChangeSpec := { name := "walkBytes", fn := fun _ => fun
  | [d] => { results := [.lit (.bool false)], args := [d] }
  | _ => none }
def WalkBytesWrongFalsely : Prop := walkBytesRow.holds Try.pinned (OpenSpec.ofChange walkBytesWrong)

/-- 'scriniumlaw2.WalkLong': WHATEVER THE INPUT: true; the input reads as it did. -/
def walkLongSpec : ChangeSpec := { name := "walkLong", fn := fun _ => fun
  | [d1, d2] => { results := [.lit (.bool true)], args := [d1, d2] }
  | _ => none }
def walkLongRow : OpenClaim := { program := "ytckamijajnmbjaa", sum := "30f37f1d7db58f1772d8329005dca48ad593ace91ba899872c423e18354ed147", func := "scrinium/scriniumlaw2.WalkLong", spec := "walkLong", inPlace := ["math.Float64bits", "math.Float64frombits"], apart := false }
def WalkLongSaid : Prop := walkLongRow.holds Try.pinned (OpenSpec.ofChange walkLongSpec)

/-- ITS FALSE NEIGHBOUR: 'it returns false'. Refute it at one input. -/
def walkLongWrong : ChangeSpec := { name := "walkLong", fn := fun _ => fun
  | [d1, d2] => { results := [.lit (.bool false)], args := [d1, d2] }
  | _ => none }
def WalkLongWrongFalsely : Prop := walkLongRow.holds Try.pinned (OpenSpec.ofChange walkLongWrong)

/-- 'scriniumlaw2.WalkTells': WHATEVER THE INPUT: true; the input reads as it did. -/
def walkTellsSpec : ChangeSpec := { name := "walkTells", fn := fun _ => fun
  | [d1, d2, d3] => { results := [.lit (.bool true)], args := [d1, d2, d3] }
  | _ => none }
def walkTellsRow : OpenClaim := { program := "ytckamijajnmbjaa", sum := "30f37f1d7db58f1772d8329005dca48ad593ace91ba899872c423e18354ed147", func := "scrinium/scriniumlaw2.WalkTells", spec := "walkTells", inPlace := ["math.Float64bits", "math.Float64frombits"], apart := false }
def WalkTellsSaid : Prop := walkTellsRow.holds Try.pinned (OpenSpec.ofChange walkTellsSpec)

/-- ITS FALSE NEIGHBOUR: 'it returns false'. Refute it at one input. -/
def walkTellsWrong : ChangeSpec := { name := "walkTells", fn := fun _ => fun
  | [d1, d2, d3] => { results := [.lit (.bool false)], args := [d1, d2, d3] }
  | _ => none }
def WalkTellsWrongFalsely : Prop := walkTellsRow.holds Try.pinned (OpenSpec.ofChange walkTellsWrong)

/- THE SECOND FORM. 'bulk': how many values and letters a reading holds, each counted each time it is reached (what is shared counts as often as it is met; a slice's spare places count too). A statement '..UptoSaid' is the law's where the arguments, and the package variables that the reading takes, are together of bulk at most 1048576: NARROWER than '..Said'. Prove '..Said' where nothing that the law and all that it calls make is longer than what came in: it says more and counts as full. Else prove '..UptoSaid'. A law counts once. -/
mutual
def uptoBulk {H : Type} : DataW H → Nat
  | .lit (.string bytes) => bytes.length + 1
  | .lit _ => 1
  | .nil => 1
  | .ptr d => uptoBulk d + 1
  | .slice elems spare => uptoBulkAll elems + uptoBulkAll spare + 1
  | .agg parts => uptoBulkAll parts + 1
  | .iface _ d => uptoBulk d + 1
  | .map entries => uptoBulkEntries entries + 1
  | .held _ => 1
def uptoBulkAll {H : Type} : List (DataW H) → Nat
  | [] => 0
  | d :: r => uptoBulk d + uptoBulkAll r
def uptoBulkEntries {H : Type} : List (Lit × DataW H) → Nat
  | [] => 0
  | x :: r => uptoBulkEntry x + uptoBulkEntries r
def uptoBulkEntry {H : Type} : Lit × DataW H → Nat
  | (.string bytes, d) => bytes.length + uptoBulk d + 1
  | (_, d) => uptoBulk d + 1
 end
def uptoSmall : (H : Type) → List (DataW H) → Bool := fun _ ds => decide (uptoBulkAll ds ≤ 1048576)
def OpenSpec.upto (s : _root_.Go.ChangeSpec) : _root_.Go.OpenSpec := { _root_.Go.OpenSpec.ofChange s with cond := some uptoSmall }

/-- 'scriniumlaw2.WalkTurns', WHERE WHAT IT READS IS OF BULK AT MOST 1048576: true; the input reads as it did. -/
def walkTurnsUptoRow : OpenClaim := { program := "ytckamijajnmbjaa", sum := "30f37f1d7db58f1772d8329005dca48ad593ace91ba899872c423e18354ed147", func := "scrinium/scriniumlaw2.WalkTurns", spec := "walkTurns", inPlace := ["math.Float64bits"], apart := false, narrowed := true }
def WalkTurnsUptoSaid : Prop := walkTurnsUptoRow.holds Try.pinned (OpenSpec.upto walkTurnsSpec)

/-- 'scriniumlaw2.WalkBoxes', WHERE WHAT IT READS IS OF BULK AT MOST 1048576: true; the input reads as it did. -/
def walkBoxesUptoRow : OpenClaim := { program := "ytckamijajnmbjaa", sum := "30f37f1d7db58f1772d8329005dca48ad593ace91ba899872c423e18354ed147", func := "scrinium/scriniumlaw2.WalkBoxes", spec := "walkBoxes", apart := false, narrowed := true }
def WalkBoxesUptoSaid : Prop := walkBoxesUptoRow.holds Try.pinned (OpenSpec.upto walkBoxesSpec)

/-- 'scriniumlaw2.WalkJoins', WHERE WHAT IT READS IS OF BULK AT MOST 1048576: true; the input reads as it did. -/
def walkJoinsUptoRow : OpenClaim := { program := "ytckamijajnmbjaa", sum := "30f37f1d7db58f1772d8329005dca48ad593ace91ba899872c423e18354ed147", func := "scrinium/scriniumlaw2.WalkJoins", spec := "walkJoins", inPlace := ["math.Float64bits", "math.Float64frombits"], apart := false, narrowed := true }
def WalkJoinsUptoSaid : Prop := walkJoinsUptoRow.holds Try.pinned (OpenSpec.upto walkJoinsSpec)

/-- 'scriniumlaw2.WalkSteps', WHERE WHAT IT READS IS OF BULK AT MOST 1048576: true; the input reads as it did. -/
def walkStepsUptoRow : OpenClaim := { program := "ytckamijajnmbjaa", sum := "30f37f1d7db58f1772d8329005dca48ad593ace91ba899872c423e18354ed147", func := "scrinium/scriniumlaw2.WalkSteps", spec := "walkSteps", inPlace := ["math.Float64bits", "math.Float64frombits"], apart := false, narrowed := true }
def WalkStepsUptoSaid : Prop := walkStepsUptoRow.holds Try.pinned (OpenSpec.upto walkStepsSpec)

/-- 'scriniumlaw2.WalkApart', WHERE WHAT IT READS IS OF BULK AT MOST 1048576: true; the input reads as it did. -/
def walkApartUptoRow : OpenClaim := { program := "ytckamijajnmbjaa", sum := "30f37f1d7db58f1772d8329005dca48ad593ace91ba899872c423e18354ed147", func := "scrinium/scriniumlaw2.WalkApart", spec := "walkApart", inPlace := ["math.Float64bits", "math.Float64frombits"], apart := false, narrowed := true }
def WalkApartUptoSaid : Prop := walkApartUptoRow.holds Try.pinned (OpenSpec.upto walkApartSpec)

/-- 'scriniumlaw2.WalkBytes', WHERE WHAT IT READS IS OF BULK AT MOST 1048576: true; the input reads as it did. -/
def walkBytesUptoRow : OpenClaim := { program := "ytckamijajnmbjaa", sum := "30f37f1d7db58f1772d8329005dca48ad593ace91ba899872c423e18354ed147", func := "scrinium/scriniumlaw2.WalkBytes", spec := "walkBytes", inPlace := ["math.Float64bits", "math.Float64frombits"], apart := false, narrowed := true }
def WalkBytesUptoSaid : Prop := walkBytesUptoRow.holds Try.pinned (OpenSpec.upto walkBytesSpec)

/-- 'scriniumlaw2.WalkLong', WHERE WHAT IT READS IS OF BULK AT MOST 1048576: true; the input reads as it did. -/
def walkLongUptoRow : OpenClaim := { program := "ytckamijajnmbjaa", sum := "30f37f1d7db58f1772d8329005dca48ad593ace91ba899872c423e18354ed147", func := "scrinium/scriniumlaw2.WalkLong", spec := "walkLong", inPlace := ["math.Float64bits", "math.Float64frombits"], apart := false, narrowed := true }
def WalkLongUptoSaid : Prop := walkLongUptoRow.holds Try.pinned (OpenSpec.upto walkLongSpec)

/-- 'scriniumlaw2.WalkTells', WHERE WHAT IT READS IS OF BULK AT MOST 1048576: true; the input reads as it did. -/
def walkTellsUptoRow : OpenClaim := { program := "ytckamijajnmbjaa", sum := "30f37f1d7db58f1772d8329005dca48ad593ace91ba899872c423e18354ed147", func := "scrinium/scriniumlaw2.WalkTells", spec := "walkTells", inPlace := ["math.Float64bits", "math.Float64frombits"], apart := false, narrowed := true }
def WalkTellsUptoSaid : Prop := walkTellsUptoRow.holds Try.pinned (OpenSpec.upto walkTellsSpec)

end Rows
end Go.Proofs.Ytckamijajnmbjaa
