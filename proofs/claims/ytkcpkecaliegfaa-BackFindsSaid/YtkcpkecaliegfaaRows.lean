/-
  No cell of these rows narrows 'for every input' (looked for: loops, veiled, ifaces, maps, wideKeys, modest, calm, conditions, laid).
  DERIVED. THE GIVEN ROWS OF THIS SEAT. 16 by the template 'for every input the law returns true; each argument reads behind the call as it read before'; 0 by the template 'total and deterministic' (their statements: YtkcpkecaliegfaaTotals.lean).
  GIVEN WITH THE SEED: the statements are not yours to turn. If you find one false, say at which input.
  Laid BY PROGRAM, IN A SANDBOX (cutbox-rows.mjs): the forced cells as the released guide's own fill.sh prints them over the translation 868f5a516cf9ac23… (all of the seat's roots in one cut). By AI agents, Wed Nov 11 2026. No macro, syntax, notation, axiom, sorry.
-/
import Derived.Test.YtkcpkecaliegfaaChecked
import GoSem.Claim
import GoSem.ClaimJoined
import GoSem.ClaimMapViews
import Derived.JoinedTies
import Derived.KernelRfl
namespace Go.Proofs.Ytkcpkecaliegfaa
/- THE CELL 'sum', in the pinned program and in every row, IS THE sha256 OF THE DUMP (.gsa) THAT YtkcpkecaliegfaaProg.lean LOADS. Nothing in Lean hashes anything: it is a label: what it is worth is what the hold of that sum in a sandbox is worth. -/
noncomputable def Try.pinned : Pinned := { name := "ytkcpkecaliegfaa", sum := "868f5a516cf9ac233f2226ebe358c9e257beb4a8a5862a8ece746080b0950c82", checked := Try.checked }
namespace Rows
def none {H : Type} : Left H := { results := [], args := [] }

/-- 'scriniumlaw5.BackFinds': WHATEVER THE INPUT: true; the input reads as it did. -/
def backFindsSpec : ChangeSpec := { name := "backFinds", fn := fun _ => fun
  | [d1, d2, d3, d4] => { results := [.lit (.bool true)], args := [d1, d2, d3, d4] }
  | _ => none }
def backFindsRow : OpenClaim := { program := "ytkcpkecaliegfaa", sum := "868f5a516cf9ac233f2226ebe358c9e257beb4a8a5862a8ece746080b0950c82", func := "scrinium/scriniumlaw5.BackFinds", spec := "backFinds", unfollowed := true, recurses := true, plainKeys := false, apart := false }
def BackFindsSaid : Prop := backFindsRow.holds Try.pinned (OpenSpec.ofChange backFindsSpec)

/-- ITS FALSE NEIGHBOUR: 'it returns false'. Refute it at one input. -/
def backFindsWrong : ChangeSpec := { name := "backFinds", fn := fun _ => fun
  | [d1, d2, d3, d4] => { results := [.lit (.bool false)], args := [d1, d2, d3, d4] }
  | _ => none }
def BackFindsWrongFalsely : Prop := backFindsRow.holds Try.pinned (OpenSpec.ofChange backFindsWrong)

/-- 'scriniumlaw5.BackLonger': WHATEVER THE INPUT: true; the input reads as it did. -/
def backLongerSpec : ChangeSpec := { name := "backLonger", fn := fun _ => fun
  | [d1, d2] => { results := [.lit (.bool true)], args := [d1, d2] }
  | _ => none }
def backLongerRow : OpenClaim := { program := "ytkcpkecaliegfaa", sum := "868f5a516cf9ac233f2226ebe358c9e257beb4a8a5862a8ece746080b0950c82", func := "scrinium/scriniumlaw5.BackLonger", spec := "backLonger", unfollowed := true, recurses := true, plainKeys := false, apart := false }
def BackLongerSaid : Prop := backLongerRow.holds Try.pinned (OpenSpec.ofChange backLongerSpec)

/-- ITS FALSE NEIGHBOUR: 'it returns false'. Refute it at one input. -/
def backLongerWrong : ChangeSpec := { name := "backLonger", fn := fun _ => fun
  | [d1, d2] => { results := [.lit (.bool false)], args := [d1, d2] }
  | _ => none }
def BackLongerWrongFalsely : Prop := backLongerRow.holds Try.pinned (OpenSpec.ofChange backLongerWrong)

/-- 'scriniumlaw5.BackWhole': WHATEVER THE INPUT: true; the input reads as it did. -/
def backWholeSpec : ChangeSpec := { name := "backWhole", fn := fun _ => fun
  | [d] => { results := [.lit (.bool true)], args := [d] }
  | _ => none }
def backWholeRow : OpenClaim := { program := "ytkcpkecaliegfaa", sum := "868f5a516cf9ac233f2226ebe358c9e257beb4a8a5862a8ece746080b0950c82", func := "scrinium/scriniumlaw5.BackWhole", spec := "backWhole", unfollowed := true, recurses := true, plainKeys := false, apart := false }
def BackWholeSaid : Prop := backWholeRow.holds Try.pinned (OpenSpec.ofChange backWholeSpec)

/-- ITS FALSE NEIGHBOUR: 'it returns false'. Refute it at one input. -/
def backWholeWrong : ChangeSpec := { name := "backWhole", fn := fun _ => fun
  | [d] => { results := [.lit (.bool false)], args := [d] }
  | _ => none }
def BackWholeWrongFalsely : Prop := backWholeRow.holds Try.pinned (OpenSpec.ofChange backWholeWrong)

/-- 'scriniumlaw5.BackSteps': WHATEVER THE INPUT: true; the input reads as it did. -/
def backStepsSpec : ChangeSpec := { name := "backSteps", fn := fun _ => fun
  | [d1, d2] => { results := [.lit (.bool true)], args := [d1, d2] }
  | _ => none }
def backStepsRow : OpenClaim := { program := "ytkcpkecaliegfaa", sum := "868f5a516cf9ac233f2226ebe358c9e257beb4a8a5862a8ece746080b0950c82", func := "scrinium/scriniumlaw5.BackSteps", spec := "backSteps", unfollowed := true, recurses := true, plainKeys := false, apart := false }
def BackStepsSaid : Prop := backStepsRow.holds Try.pinned (OpenSpec.ofChange backStepsSpec)

/-- ITS FALSE NEIGHBOUR: 'it returns false'. Refute it at one input. -/
def backStepsWrong : ChangeSpec := { name := "backSteps", fn := fun _ => fun
  | [d1, d2] => { results := [.lit (.bool false)], args := [d1, d2] }
  | _ => none }
def BackStepsWrongFalsely : Prop := backStepsRow.holds Try.pinned (OpenSpec.ofChange backStepsWrong)

/-- 'scriniumlaw5.BackTwice': WHATEVER THE INPUT: true; the input reads as it did. -/
def backTwiceSpec : ChangeSpec := { name := "backTwice", fn := fun _ => fun
  | [d1, d2] => { results := [.lit (.bool true)], args := [d1, d2] }
  | _ => none }
def backTwiceRow : OpenClaim := { program := "ytkcpkecaliegfaa", sum := "868f5a516cf9ac233f2226ebe358c9e257beb4a8a5862a8ece746080b0950c82", func := "scrinium/scriniumlaw5.BackTwice", spec := "backTwice", unfollowed := true, recurses := true, plainKeys := false, apart := false }
def BackTwiceSaid : Prop := backTwiceRow.holds Try.pinned (OpenSpec.ofChange backTwiceSpec)

/-- ITS FALSE NEIGHBOUR: 'it returns false'. Refute it at one input. -/
def backTwiceWrong : ChangeSpec := { name := "backTwice", fn := fun _ => fun
  | [d1, d2] => { results := [.lit (.bool false)], args := [d1, d2] }
  | _ => none }
def BackTwiceWrongFalsely : Prop := backTwiceRow.holds Try.pinned (OpenSpec.ofChange backTwiceWrong)

/-- 'scriniumlaw5.BackNaive': WHATEVER THE INPUT: true; the input reads as it did. -/
def backNaiveSpec : ChangeSpec := { name := "backNaive", fn := fun _ => fun
  | [d1, d2] => { results := [.lit (.bool true)], args := [d1, d2] }
  | _ => none }
def backNaiveRow : OpenClaim := { program := "ytkcpkecaliegfaa", sum := "868f5a516cf9ac233f2226ebe358c9e257beb4a8a5862a8ece746080b0950c82", func := "scrinium/scriniumlaw5.BackNaive", spec := "backNaive", unfollowed := true, recurses := true, plainKeys := false, apart := false }
def BackNaiveSaid : Prop := backNaiveRow.holds Try.pinned (OpenSpec.ofChange backNaiveSpec)

/-- ITS FALSE NEIGHBOUR: 'it returns false'. Refute it at one input. -/
def backNaiveWrong : ChangeSpec := { name := "backNaive", fn := fun _ => fun
  | [d1, d2] => { results := [.lit (.bool false)], args := [d1, d2] }
  | _ => none }
def BackNaiveWrongFalsely : Prop := backNaiveRow.holds Try.pinned (OpenSpec.ofChange backNaiveWrong)

/-- 'scriniumlaw5.BackBytes': WHATEVER THE INPUT: true; the input reads as it did. -/
def backBytesSpec : ChangeSpec := { name := "backBytes", fn := fun _ => fun
  | [d1, d2] => { results := [.lit (.bool true)], args := [d1, d2] }
  | _ => none }
def backBytesRow : OpenClaim := { program := "ytkcpkecaliegfaa", sum := "868f5a516cf9ac233f2226ebe358c9e257beb4a8a5862a8ece746080b0950c82", func := "scrinium/scriniumlaw5.BackBytes", spec := "backBytes", unfollowed := true, recurses := true, plainKeys := false, apart := false }
def BackBytesSaid : Prop := backBytesRow.holds Try.pinned (OpenSpec.ofChange backBytesSpec)

/-- ITS FALSE NEIGHBOUR: 'it returns false'. Refute it at one input. -/
def backBytesWrong : ChangeSpec := { name := "backBytes", fn := fun _ => fun
  | [d1, d2] => { results := [.lit (.bool false)], args := [d1, d2] }
  | _ => none }
def BackBytesWrongFalsely : Prop := backBytesRow.holds Try.pinned (OpenSpec.ofChange backBytesWrong)

/-- 'scriniumlaw4.BwtBack': WHATEVER THE INPUT: true; the input reads as it did. -/
def bwtBackSpec : ChangeSpec := { name := "bwtBack", fn := fun _ => fun
  | [d] => { results := [.lit (.bool true)], args := [d] }
  | _ => none }
def bwtBackRow : OpenClaim := { program := "ytkcpkecaliegfaa", sum := "868f5a516cf9ac233f2226ebe358c9e257beb4a8a5862a8ece746080b0950c82", func := "scrinium/scriniumlaw4.BwtBack", spec := "bwtBack", unfollowed := true, recurses := true, plainKeys := false, apart := false }
def BwtBackSaid : Prop := bwtBackRow.holds Try.pinned (OpenSpec.ofChange bwtBackSpec)

/-- ITS FALSE NEIGHBOUR: 'it returns false'. Refute it at one input. -/
def bwtBackWrong : ChangeSpec := { name := "bwtBack", fn := fun _ => fun
  | [d] => { results := [.lit (.bool false)], args := [d] }
  | _ => none }
def BwtBackWrongFalsely : Prop := bwtBackRow.holds Try.pinned (OpenSpec.ofChange bwtBackWrong)

/-- 'scriniumlaw4.BwtNext': WHATEVER THE INPUT: true; the input reads as it did. -/
def bwtNextSpec : ChangeSpec := { name := "bwtNext", fn := fun _ => fun
  | [d] => { results := [.lit (.bool true)], args := [d] }
  | _ => none }
def bwtNextRow : OpenClaim := { program := "ytkcpkecaliegfaa", sum := "868f5a516cf9ac233f2226ebe358c9e257beb4a8a5862a8ece746080b0950c82", func := "scrinium/scriniumlaw4.BwtNext", spec := "bwtNext", unfollowed := true, recurses := true, plainKeys := false, apart := false }
def BwtNextSaid : Prop := bwtNextRow.holds Try.pinned (OpenSpec.ofChange bwtNextSpec)

/-- ITS FALSE NEIGHBOUR: 'it returns false'. Refute it at one input. -/
def bwtNextWrong : ChangeSpec := { name := "bwtNext", fn := fun _ => fun
  | [d] => { results := [.lit (.bool false)], args := [d] }
  | _ => none }
def BwtNextWrongFalsely : Prop := bwtNextRow.holds Try.pinned (OpenSpec.ofChange bwtNextWrong)

/-- 'scriniumlaw4.BwtCounts': WHATEVER THE INPUT: true; the input reads as it did. -/
def bwtCountsSpec : ChangeSpec := { name := "bwtCounts", fn := fun _ => fun
  | [d1, d2] => { results := [.lit (.bool true)], args := [d1, d2] }
  | _ => none }
def bwtCountsRow : OpenClaim := { program := "ytkcpkecaliegfaa", sum := "868f5a516cf9ac233f2226ebe358c9e257beb4a8a5862a8ece746080b0950c82", func := "scrinium/scriniumlaw4.BwtCounts", spec := "bwtCounts", unfollowed := true, recurses := true, plainKeys := false, apart := false }
def BwtCountsSaid : Prop := bwtCountsRow.holds Try.pinned (OpenSpec.ofChange bwtCountsSpec)

/-- ITS FALSE NEIGHBOUR: 'it returns false'. Refute it at one input. -/
def bwtCountsWrong : ChangeSpec := { name := "bwtCounts", fn := fun _ => fun
  | [d1, d2] => { results := [.lit (.bool false)], args := [d1, d2] }
  | _ => none }
def BwtCountsWrongFalsely : Prop := bwtCountsRow.holds Try.pinned (OpenSpec.ofChange bwtCountsWrong)

/-- 'scriniumlaw4.BwtRanks': WHATEVER THE INPUT: true; the input reads as it did. -/
def bwtRanksSpec : ChangeSpec := { name := "bwtRanks", fn := fun _ => fun
  | [d1, d2] => { results := [.lit (.bool true)], args := [d1, d2] }
  | _ => none }
def bwtRanksRow : OpenClaim := { program := "ytkcpkecaliegfaa", sum := "868f5a516cf9ac233f2226ebe358c9e257beb4a8a5862a8ece746080b0950c82", func := "scrinium/scriniumlaw4.BwtRanks", spec := "bwtRanks", unfollowed := true, recurses := true, plainKeys := false, apart := false }
def BwtRanksSaid : Prop := bwtRanksRow.holds Try.pinned (OpenSpec.ofChange bwtRanksSpec)

/-- ITS FALSE NEIGHBOUR: 'it returns false'. Refute it at one input. -/
def bwtRanksWrong : ChangeSpec := { name := "bwtRanks", fn := fun _ => fun
  | [d1, d2] => { results := [.lit (.bool false)], args := [d1, d2] }
  | _ => none }
def BwtRanksWrongFalsely : Prop := bwtRanksRow.holds Try.pinned (OpenSpec.ofChange bwtRanksWrong)

/-- 'scriniumlaw4.BwtNexts': WHATEVER THE INPUT: true; the input reads as it did. -/
def bwtNextsSpec : ChangeSpec := { name := "bwtNexts", fn := fun _ => fun
  | [d] => { results := [.lit (.bool true)], args := [d] }
  | _ => none }
def bwtNextsRow : OpenClaim := { program := "ytkcpkecaliegfaa", sum := "868f5a516cf9ac233f2226ebe358c9e257beb4a8a5862a8ece746080b0950c82", func := "scrinium/scriniumlaw4.BwtNexts", spec := "bwtNexts", unfollowed := true, recurses := true, plainKeys := false, apart := false }
def BwtNextsSaid : Prop := bwtNextsRow.holds Try.pinned (OpenSpec.ofChange bwtNextsSpec)

/-- ITS FALSE NEIGHBOUR: 'it returns false'. Refute it at one input. -/
def bwtNextsWrong : ChangeSpec := { name := "bwtNexts", fn := fun _ => fun
  | [d] => { results := [.lit (.bool false)], args := [d] }
  | _ => none }
def BwtNextsWrongFalsely : Prop := bwtNextsRow.holds Try.pinned (OpenSpec.ofChange bwtNextsWrong)

/-- 'scriniumlaw4.BwtTexts': WHATEVER THE INPUT: true; the input reads as it did. -/
def bwtTextsSpec : ChangeSpec := { name := "bwtTexts", fn := fun _ => fun
  | [d] => { results := [.lit (.bool true)], args := [d] }
  | _ => none }
def bwtTextsRow : OpenClaim := { program := "ytkcpkecaliegfaa", sum := "868f5a516cf9ac233f2226ebe358c9e257beb4a8a5862a8ece746080b0950c82", func := "scrinium/scriniumlaw4.BwtTexts", spec := "bwtTexts", unfollowed := true, recurses := true, plainKeys := false, apart := false }
def BwtTextsSaid : Prop := bwtTextsRow.holds Try.pinned (OpenSpec.ofChange bwtTextsSpec)

/-- ITS FALSE NEIGHBOUR: 'it returns false'. Refute it at one input. -/
def bwtTextsWrong : ChangeSpec := { name := "bwtTexts", fn := fun _ => fun
  | [d] => { results := [.lit (.bool false)], args := [d] }
  | _ => none }
def BwtTextsWrongFalsely : Prop := bwtTextsRow.holds Try.pinned (OpenSpec.ofChange bwtTextsWrong)

/-- 'scriniumlaw4.BwtLies': WHATEVER THE INPUT: true; the input reads as it did. -/
def bwtLiesSpec : ChangeSpec := { name := "bwtLies", fn := fun _ => fun
  | [d1, d2, d3] => { results := [.lit (.bool true)], args := [d1, d2, d3] }
  | _ => none }
def bwtLiesRow : OpenClaim := { program := "ytkcpkecaliegfaa", sum := "868f5a516cf9ac233f2226ebe358c9e257beb4a8a5862a8ece746080b0950c82", func := "scrinium/scriniumlaw4.BwtLies", spec := "bwtLies", unfollowed := true, recurses := true, plainKeys := false, apart := false }
def BwtLiesSaid : Prop := bwtLiesRow.holds Try.pinned (OpenSpec.ofChange bwtLiesSpec)

/-- ITS FALSE NEIGHBOUR: 'it returns false'. Refute it at one input. -/
def bwtLiesWrong : ChangeSpec := { name := "bwtLies", fn := fun _ => fun
  | [d1, d2, d3] => { results := [.lit (.bool false)], args := [d1, d2, d3] }
  | _ => none }
def BwtLiesWrongFalsely : Prop := bwtLiesRow.holds Try.pinned (OpenSpec.ofChange bwtLiesWrong)

/-- 'scriniumlaw4.BwtWrong': WHATEVER THE INPUT: true; the input reads as it did. -/
def bwtWrongSpec : ChangeSpec := { name := "bwtWrong", fn := fun _ => fun
  | [d1, d2, d3, d4] => { results := [.lit (.bool true)], args := [d1, d2, d3, d4] }
  | _ => none }
def bwtWrongRow : OpenClaim := { program := "ytkcpkecaliegfaa", sum := "868f5a516cf9ac233f2226ebe358c9e257beb4a8a5862a8ece746080b0950c82", func := "scrinium/scriniumlaw4.BwtWrong", spec := "bwtWrong", unfollowed := true, recurses := true, plainKeys := false, apart := false }
def BwtWrongSaid : Prop := bwtWrongRow.holds Try.pinned (OpenSpec.ofChange bwtWrongSpec)

/-- ITS FALSE NEIGHBOUR: 'it returns false'. Refute it at one input. -/
def bwtWrongWrong : ChangeSpec := { name := "bwtWrong", fn := fun _ => fun
  | [d1, d2, d3, d4] => { results := [.lit (.bool false)], args := [d1, d2, d3, d4] }
  | _ => none }
def BwtWrongWrongFalsely : Prop := bwtWrongRow.holds Try.pinned (OpenSpec.ofChange bwtWrongWrong)

/-- 'scriniumlaw4.BwtSizes': WHATEVER THE INPUT: true; the input reads as it did. -/
def bwtSizesSpec : ChangeSpec := { name := "bwtSizes", fn := fun _ => fun
  | [d1, d2, d3] => { results := [.lit (.bool true)], args := [d1, d2, d3] }
  | _ => none }
def bwtSizesRow : OpenClaim := { program := "ytkcpkecaliegfaa", sum := "868f5a516cf9ac233f2226ebe358c9e257beb4a8a5862a8ece746080b0950c82", func := "scrinium/scriniumlaw4.BwtSizes", spec := "bwtSizes", unfollowed := true, recurses := true, plainKeys := false, apart := false }
def BwtSizesSaid : Prop := bwtSizesRow.holds Try.pinned (OpenSpec.ofChange bwtSizesSpec)

/-- ITS FALSE NEIGHBOUR: 'it returns false'. Refute it at one input. -/
def bwtSizesWrong : ChangeSpec := { name := "bwtSizes", fn := fun _ => fun
  | [d1, d2, d3] => { results := [.lit (.bool false)], args := [d1, d2, d3] }
  | _ => none }
def BwtSizesWrongFalsely : Prop := bwtSizesRow.holds Try.pinned (OpenSpec.ofChange bwtSizesWrong)

/- THE SECOND FORM. 'bulk': how many values and letters a reading holds, each counted each time it is reached (what is shared counts as often as it is met; a slice's spare places count too). A statement '..UptoSaid' is the law's where the arguments, and the package variables that the reading takes, are together of bulk at most 1048576: NARROWER than '..Said'. Prove '..Said' where nothing that the law and all that it calls make is longer than what came in: it says more and counts as full. Else prove '..UptoSaid'. A law counts once. -/
mutual
def uptoBulk {H : Type} : DataW H → Nat
  | .lit (.string bytes) => bytes.length + 1
  | .lit _ => 1
  | .nil => 1
  | .ptr d => uptoBulk d + 1
  | .slice elems spare => uptoBulkAll elems + uptoBulkAll spare + 1
  | .agg parts => uptoBulkAll parts + 1
  | .iface _ d => uptoBulk d + 1
  | .map entries => uptoBulkEntries entries + 1
  | .held _ => 1
def uptoBulkAll {H : Type} : List (DataW H) → Nat
  | [] => 0
  | d :: r => uptoBulk d + uptoBulkAll r
def uptoBulkEntries {H : Type} : List (Lit × DataW H) → Nat
  | [] => 0
  | x :: r => uptoBulkEntry x + uptoBulkEntries r
def uptoBulkEntry {H : Type} : Lit × DataW H → Nat
  | (.string bytes, d) => bytes.length + uptoBulk d + 1
  | (_, d) => uptoBulk d + 1
 end
def uptoSmall : (H : Type) → List (DataW H) → Bool := fun _ ds => decide (uptoBulkAll ds ≤ 1048576)
def OpenSpec.upto (s : _root_.Go.ChangeSpec) : _root_.Go.OpenSpec := { _root_.Go.OpenSpec.ofChange s with cond := some uptoSmall }

/-- 'scriniumlaw5.BackFinds', WHERE WHAT IT READS IS OF BULK AT MOST 1048576: true; the input reads as it did. -/
def backFindsUptoRow : OpenClaim := { program := "ytkcpkecaliegfaa", sum := "868f5a516cf9ac233f2226ebe358c9e257beb4a8a5862a8ece746080b0950c82", func := "scrinium/scriniumlaw5.BackFinds", spec := "backFinds", unfollowed := true, recurses := true, plainKeys := false, apart := false, narrowed := true }
def BackFindsUptoSaid : Prop := backFindsUptoRow.holds Try.pinned (OpenSpec.upto backFindsSpec)

/-- 'scriniumlaw5.BackLonger', WHERE WHAT IT READS IS OF BULK AT MOST 1048576: true; the input reads as it did. -/
def backLongerUptoRow : OpenClaim := { program := "ytkcpkecaliegfaa", sum := "868f5a516cf9ac233f2226ebe358c9e257beb4a8a5862a8ece746080b0950c82", func := "scrinium/scriniumlaw5.BackLonger", spec := "backLonger", unfollowed := true, recurses := true, plainKeys := false, apart := false, narrowed := true }
def BackLongerUptoSaid : Prop := backLongerUptoRow.holds Try.pinned (OpenSpec.upto backLongerSpec)

/-- 'scriniumlaw5.BackWhole', WHERE WHAT IT READS IS OF BULK AT MOST 1048576: true; the input reads as it did. -/
def backWholeUptoRow : OpenClaim := { program := "ytkcpkecaliegfaa", sum := "868f5a516cf9ac233f2226ebe358c9e257beb4a8a5862a8ece746080b0950c82", func := "scrinium/scriniumlaw5.BackWhole", spec := "backWhole", unfollowed := true, recurses := true, plainKeys := false, apart := false, narrowed := true }
def BackWholeUptoSaid : Prop := backWholeUptoRow.holds Try.pinned (OpenSpec.upto backWholeSpec)

/-- 'scriniumlaw5.BackSteps', WHERE WHAT IT READS IS OF BULK AT MOST 1048576: true; the input reads as it did. -/
def backStepsUptoRow : OpenClaim := { program := "ytkcpkecaliegfaa", sum := "868f5a516cf9ac233f2226ebe358c9e257beb4a8a5862a8ece746080b0950c82", func := "scrinium/scriniumlaw5.BackSteps", spec := "backSteps", unfollowed := true, recurses := true, plainKeys := false, apart := false, narrowed := true }
def BackStepsUptoSaid : Prop := backStepsUptoRow.holds Try.pinned (OpenSpec.upto backStepsSpec)

/-- 'scriniumlaw5.BackTwice', WHERE WHAT IT READS IS OF BULK AT MOST 1048576: true; the input reads as it did. -/
def backTwiceUptoRow : OpenClaim := { program := "ytkcpkecaliegfaa", sum := "868f5a516cf9ac233f2226ebe358c9e257beb4a8a5862a8ece746080b0950c82", func := "scrinium/scriniumlaw5.BackTwice", spec := "backTwice", unfollowed := true, recurses := true, plainKeys := false, apart := false, narrowed := true }
def BackTwiceUptoSaid : Prop := backTwiceUptoRow.holds Try.pinned (OpenSpec.upto backTwiceSpec)

/-- 'scriniumlaw5.BackNaive', WHERE WHAT IT READS IS OF BULK AT MOST 1048576: true; the input reads as it did. -/
def backNaiveUptoRow : OpenClaim := { program := "ytkcpkecaliegfaa", sum := "868f5a516cf9ac233f2226ebe358c9e257beb4a8a5862a8ece746080b0950c82", func := "scrinium/scriniumlaw5.BackNaive", spec := "backNaive", unfollowed := true, recurses := true, plainKeys := false, apart := false, narrowed := true }
def BackNaiveUptoSaid : Prop := backNaiveUptoRow.holds Try.pinned (OpenSpec.upto backNaiveSpec)

/-- 'scriniumlaw5.BackBytes', WHERE WHAT IT READS IS OF BULK AT MOST 1048576: true; the input reads as it did. -/
def backBytesUptoRow : OpenClaim := { program := "ytkcpkecaliegfaa", sum := "868f5a516cf9ac233f2226ebe358c9e257beb4a8a5862a8ece746080b0950c82", func := "scrinium/scriniumlaw5.BackBytes", spec := "backBytes", unfollowed := true, recurses := true, plainKeys := false, apart := false, narrowed := true }
def BackBytesUptoSaid : Prop := backBytesUptoRow.holds Try.pinned (OpenSpec.upto backBytesSpec)

/-- 'scriniumlaw4.BwtBack', WHERE WHAT IT READS IS OF BULK AT MOST 1048576: true; the input reads as it did. -/
def bwtBackUptoRow : OpenClaim := { program := "ytkcpkecaliegfaa", sum := "868f5a516cf9ac233f2226ebe358c9e257beb4a8a5862a8ece746080b0950c82", func := "scrinium/scriniumlaw4.BwtBack", spec := "bwtBack", unfollowed := true, recurses := true, plainKeys := false, apart := false, narrowed := true }
def BwtBackUptoSaid : Prop := bwtBackUptoRow.holds Try.pinned (OpenSpec.upto bwtBackSpec)

/-- 'scriniumlaw4.BwtNext', WHERE WHAT IT READS IS OF BULK AT MOST 1048576: true; the input reads as it did. -/
def bwtNextUptoRow : OpenClaim := { program := "ytkcpkecaliegfaa", sum := "868f5a516cf9ac233f2226ebe358c9e257beb4a8a5862a8ece746080b0950c82", func := "scrinium/scriniumlaw4.BwtNext", spec := "bwtNext", unfollowed := true, recurses := true, plainKeys := false, apart := false, narrowed := true }
def BwtNextUptoSaid : Prop := bwtNextUptoRow.holds Try.pinned (OpenSpec.upto bwtNextSpec)

/-- 'scriniumlaw4.BwtCounts', WHERE WHAT IT READS IS OF BULK AT MOST 1048576: true; the input reads as it did. -/
def bwtCountsUptoRow : OpenClaim := { program := "ytkcpkecaliegfaa", sum := "868f5a516cf9ac233f2226ebe358c9e257beb4a8a5862a8ece746080b0950c82", func := "scrinium/scriniumlaw4.BwtCounts", spec := "bwtCounts", unfollowed := true, recurses := true, plainKeys := false, apart := false, narrowed := true }
def BwtCountsUptoSaid : Prop := bwtCountsUptoRow.holds Try.pinned (OpenSpec.upto bwtCountsSpec)

/-- 'scriniumlaw4.BwtRanks', WHERE WHAT IT READS IS OF BULK AT MOST 1048576: true; the input reads as it did. -/
def bwtRanksUptoRow : OpenClaim := { program := "ytkcpkecaliegfaa", sum := "868f5a516cf9ac233f2226ebe358c9e257beb4a8a5862a8ece746080b0950c82", func := "scrinium/scriniumlaw4.BwtRanks", spec := "bwtRanks", unfollowed := true, recurses := true, plainKeys := false, apart := false, narrowed := true }
def BwtRanksUptoSaid : Prop := bwtRanksUptoRow.holds Try.pinned (OpenSpec.upto bwtRanksSpec)

/-- 'scriniumlaw4.BwtNexts', WHERE WHAT IT READS IS OF BULK AT MOST 1048576: true; the input reads as it did. -/
def bwtNextsUptoRow : OpenClaim := { program := "ytkcpkecaliegfaa", sum := "868f5a516cf9ac233f2226ebe358c9e257beb4a8a5862a8ece746080b0950c82", func := "scrinium/scriniumlaw4.BwtNexts", spec := "bwtNexts", unfollowed := true, recurses := true, plainKeys := false, apart := false, narrowed := true }
def BwtNextsUptoSaid : Prop := bwtNextsUptoRow.holds Try.pinned (OpenSpec.upto bwtNextsSpec)

/-- 'scriniumlaw4.BwtTexts', WHERE WHAT IT READS IS OF BULK AT MOST 1048576: true; the input reads as it did. -/
def bwtTextsUptoRow : OpenClaim := { program := "ytkcpkecaliegfaa", sum := "868f5a516cf9ac233f2226ebe358c9e257beb4a8a5862a8ece746080b0950c82", func := "scrinium/scriniumlaw4.BwtTexts", spec := "bwtTexts", unfollowed := true, recurses := true, plainKeys := false, apart := false, narrowed := true }
def BwtTextsUptoSaid : Prop := bwtTextsUptoRow.holds Try.pinned (OpenSpec.upto bwtTextsSpec)

/-- 'scriniumlaw4.BwtLies', WHERE WHAT IT READS IS OF BULK AT MOST 1048576: true; the input reads as it did. -/
def bwtLiesUptoRow : OpenClaim := { program := "ytkcpkecaliegfaa", sum := "868f5a516cf9ac233f2226ebe358c9e257beb4a8a5862a8ece746080b0950c82", func := "scrinium/scriniumlaw4.BwtLies", spec := "bwtLies", unfollowed := true, recurses := true, plainKeys := false, apart := false, narrowed := true }
def BwtLiesUptoSaid : Prop := bwtLiesUptoRow.holds Try.pinned (OpenSpec.upto bwtLiesSpec)

/-- 'scriniumlaw4.BwtWrong', WHERE WHAT IT READS IS OF BULK AT MOST 1048576: true; the input reads as it did. -/
def bwtWrongUptoRow : OpenClaim := { program := "ytkcpkecaliegfaa", sum := "868f5a516cf9ac233f2226ebe358c9e257beb4a8a5862a8ece746080b0950c82", func := "scrinium/scriniumlaw4.BwtWrong", spec := "bwtWrong", unfollowed := true, recurses := true, plainKeys := false, apart := false, narrowed := true }
def BwtWrongUptoSaid : Prop := bwtWrongUptoRow.holds Try.pinned (OpenSpec.upto bwtWrongSpec)

/-- 'scriniumlaw4.BwtSizes', WHERE WHAT IT READS IS OF BULK AT MOST 1048576: true; the input reads as it did. -/
def bwtSizesUptoRow : OpenClaim := { program := "ytkcpkecaliegfaa", sum := "868f5a516cf9ac233f2226ebe358c9e257beb4a8a5862a8ece746080b0950c82", func := "scrinium/scriniumlaw4.BwtSizes", spec := "bwtSizes", unfollowed := true, recurses := true, plainKeys := false, apart := false, narrowed := true }
def BwtSizesUptoSaid : Prop := bwtSizesUptoRow.holds Try.pinned (OpenSpec.upto bwtSizesSpec)

end Rows
end Go.Proofs.Ytkcpkecaliegfaa
