/-
  NARROWER THAN 'FOR EVERY INPUT', by the rows' own cells (each row's printed sentence says how): AskTells: laid · AskLines: laid · AskCuts: laid · AskNames: laid · AskEdges: laid · AskBytes: laid · AskWords: laid · AskAll: laid.
  DERIVED. THE GIVEN ROWS OF THIS SEAT. 8 by the template 'for every input the law returns true; each argument reads behind the call as it read before'; 0 by the template 'total and deterministic' (their statements: YtbmjekekpmabbaaDoorTotals.lean).
  GIVEN WITH THE SEED: the statements are not yours to turn. If you find one false, say at which input.
  Laid BY PROGRAM, IN A SANDBOX (cutbox-rows.mjs): the forced cells as the released guide's own fill.sh prints them over the translation 5344f71efa601764… (all of the seat's roots in one cut). By AI agents, Wed Nov 11 2026. No macro, syntax, notation, axiom, sorry.
-/
import Derived.Test.YtbmjekekpmabbaaDoorChecked
import GoSem.PinnedTables
import GoSem.Claim
import GoSem.ClaimJoined
import GoSem.ClaimMapViews
import Derived.JoinedTies
import Derived.KernelRfl
namespace Go.Proofs.YtbmjekekpmabbaaDoor
/- THE CELL 'sum', in the pinned program and in every row, IS THE sha256 OF THE DUMP (.gsa) THAT YtbmjekekpmabbaaDoorProg.lean LOADS. Nothing in Lean hashes anything: it is a label: what it is worth is what the hold of that sum in a sandbox is worth. -/
noncomputable def Tryd.pinned : Pinned := { name := "ytbmjekekpmabbaadoor", sum := "5344f71efa6017648dea5d9b933dad6009d8db54b9263b5afcdc4e00a16e427b", checked := Tryd.checked }
namespace Rows
def none {H : Type} : Left H := { results := [], args := [] }

/- WHAT THE LISTED PACKAGE-LEVEL VARIABLES READ AS WHEN THE CALL BEGINS. Each datum BY PROGRAM (the guide's laid-datum.mjs) off the statement by which the dump's own 'gosem.cut.vars' lays the variable. In a bare row this is a premise. The card (YtbmjekekpmabbaaDoorCards.lean) ties it to the program's text. -/
def laid_unicode_utf8_acceptRanges {H : Type} : DataW H := .agg [.agg [.lit (.int .u8 128), .lit (.int .u8 191)], .agg [.lit (.int .u8 160), .lit (.int .u8 191)], .agg [.lit (.int .u8 128), .lit (.int .u8 159)], .agg [.lit (.int .u8 144), .lit (.int .u8 191)], .agg [.lit (.int .u8 128), .lit (.int .u8 143)], .agg [.lit (.int .u8 0), .lit (.int .u8 0)], .agg [.lit (.int .u8 0), .lit (.int .u8 0)], .agg [.lit (.int .u8 0), .lit (.int .u8 0)], .agg [.lit (.int .u8 0), .lit (.int .u8 0)], .agg [.lit (.int .u8 0), .lit (.int .u8 0)], .agg [.lit (.int .u8 0), .lit (.int .u8 0)], .agg [.lit (.int .u8 0), .lit (.int .u8 0)], .agg [.lit (.int .u8 0), .lit (.int .u8 0)], .agg [.lit (.int .u8 0), .lit (.int .u8 0)], .agg [.lit (.int .u8 0), .lit (.int .u8 0)], .agg [.lit (.int .u8 0), .lit (.int .u8 0)]]
/-- One of Go's own tables, pinned by name: the form's constant. -/
def laid_unicode_utf8_first : DataW Unit := Go.Pinned.utf8First

/-- 'scriniumlaw20.AskTells': WHATEVER THE INPUT: true; the input reads as it did. -/
def askTellsSpec : ChangeSpec := { name := "askTells", fn := fun _ => fun
  | [d1, d2, d3, d4] => { results := [.lit (.bool true)], args := [d1, d2, d3, d4] }
  | _ => none }
def askTellsRow : OpenClaim := { program := "ytbmjekekpmabbaadoor", sum := "5344f71efa6017648dea5d9b933dad6009d8db54b9263b5afcdc4e00a16e427b", func := "scrinium/scriniumlaw20.AskTells", spec := "askTells", inPlace := ["internal/bytealg.CountString", "internal/bytealg.IndexByteString", "internal/bytealg.IndexString"], unfollowed := true, recurses := true, named := ["unicode/utf8.first", "unicode/utf8.acceptRanges", "internal/bytealg.MaxLen"], apart := false, laid := [("unicode/utf8.acceptRanges", laid_unicode_utf8_acceptRanges), ("unicode/utf8.first", laid_unicode_utf8_first)] }
def AskTellsSaid : Prop := askTellsRow.holds Tryd.pinned (OpenSpec.ofChange askTellsSpec)

/-- ITS FALSE NEIGHBOUR: 'it returns false'. Refute it at one input. -/
def askTellsWrong : ChangeSpec := { name := "askTells", fn := fun _ => fun
  | [d1, d2, d3, d4] => { results := [.lit (.bool false)], args := [d1, d2, d3, d4] }
  | _ => none }
def AskTellsWrongFalsely : Prop := askTellsRow.holds Tryd.pinned (OpenSpec.ofChange askTellsWrong)

/-- 'scriniumlaw20.AskLines': WHATEVER THE INPUT: true; the input reads as it did. -/
def askLinesSpec : ChangeSpec := { name := "askLines", fn := fun _ => fun
  | [d] => { results := [.lit (.bool true)], args := [d] }
  | _ => none }
def askLinesRow : OpenClaim := { program := "ytbmjekekpmabbaadoor", sum := "5344f71efa6017648dea5d9b933dad6009d8db54b9263b5afcdc4e00a16e427b", func := "scrinium/scriniumlaw20.AskLines", spec := "askLines", inPlace := ["internal/bytealg.IndexByteString", "internal/bytealg.IndexString", "internal/bytealg.CountString"], unfollowed := true, recurses := true, named := ["internal/bytealg.MaxLen", "unicode/utf8.first", "unicode/utf8.acceptRanges"], apart := false, laid := [("unicode/utf8.acceptRanges", laid_unicode_utf8_acceptRanges), ("unicode/utf8.first", laid_unicode_utf8_first)] }
def AskLinesSaid : Prop := askLinesRow.holds Tryd.pinned (OpenSpec.ofChange askLinesSpec)

/-- ITS FALSE NEIGHBOUR: 'it returns false'. Refute it at one input. -/
def askLinesWrong : ChangeSpec := { name := "askLines", fn := fun _ => fun
  | [d] => { results := [.lit (.bool false)], args := [d] }
  | _ => none }
def AskLinesWrongFalsely : Prop := askLinesRow.holds Tryd.pinned (OpenSpec.ofChange askLinesWrong)

/-- 'scriniumlaw20.AskCuts': WHATEVER THE INPUT: true; the input reads as it did. -/
def askCutsSpec : ChangeSpec := { name := "askCuts", fn := fun _ => fun
  | [d1, d2, d3] => { results := [.lit (.bool true)], args := [d1, d2, d3] }
  | _ => none }
def askCutsRow : OpenClaim := { program := "ytbmjekekpmabbaadoor", sum := "5344f71efa6017648dea5d9b933dad6009d8db54b9263b5afcdc4e00a16e427b", func := "scrinium/scriniumlaw20.AskCuts", spec := "askCuts", inPlace := ["internal/bytealg.CountString", "internal/bytealg.IndexByteString", "internal/bytealg.IndexString"], unfollowed := true, recurses := true, named := ["unicode/utf8.first", "unicode/utf8.acceptRanges", "internal/bytealg.MaxLen"], apart := false, laid := [("unicode/utf8.acceptRanges", laid_unicode_utf8_acceptRanges), ("unicode/utf8.first", laid_unicode_utf8_first)] }
def AskCutsSaid : Prop := askCutsRow.holds Tryd.pinned (OpenSpec.ofChange askCutsSpec)

/-- ITS FALSE NEIGHBOUR: 'it returns false'. Refute it at one input. -/
def askCutsWrong : ChangeSpec := { name := "askCuts", fn := fun _ => fun
  | [d1, d2, d3] => { results := [.lit (.bool false)], args := [d1, d2, d3] }
  | _ => none }
def AskCutsWrongFalsely : Prop := askCutsRow.holds Tryd.pinned (OpenSpec.ofChange askCutsWrong)

/-- 'scriniumlaw20.AskNames': WHATEVER THE INPUT: true; the input reads as it did. -/
def askNamesSpec : ChangeSpec := { name := "askNames", fn := fun _ => fun
  | [d1, d2] => { results := [.lit (.bool true)], args := [d1, d2] }
  | _ => none }
def askNamesRow : OpenClaim := { program := "ytbmjekekpmabbaadoor", sum := "5344f71efa6017648dea5d9b933dad6009d8db54b9263b5afcdc4e00a16e427b", func := "scrinium/scriniumlaw20.AskNames", spec := "askNames", inPlace := ["internal/bytealg.CountString", "internal/bytealg.IndexByteString", "internal/bytealg.IndexString"], unfollowed := true, recurses := true, named := ["unicode/utf8.first", "unicode/utf8.acceptRanges", "internal/bytealg.MaxLen"], apart := false, laid := [("unicode/utf8.acceptRanges", laid_unicode_utf8_acceptRanges), ("unicode/utf8.first", laid_unicode_utf8_first)] }
def AskNamesSaid : Prop := askNamesRow.holds Tryd.pinned (OpenSpec.ofChange askNamesSpec)

/-- ITS FALSE NEIGHBOUR: 'it returns false'. Refute it at one input. -/
def askNamesWrong : ChangeSpec := { name := "askNames", fn := fun _ => fun
  | [d1, d2] => { results := [.lit (.bool false)], args := [d1, d2] }
  | _ => none }
def AskNamesWrongFalsely : Prop := askNamesRow.holds Tryd.pinned (OpenSpec.ofChange askNamesWrong)

/-- 'scriniumlaw20.AskEdges': WHATEVER THE INPUT: true; the input reads as it did. -/
def askEdgesSpec : ChangeSpec := { name := "askEdges", fn := fun _ => fun
  | [d1, d2, d3] => { results := [.lit (.bool true)], args := [d1, d2, d3] }
  | _ => none }
def askEdgesRow : OpenClaim := { program := "ytbmjekekpmabbaadoor", sum := "5344f71efa6017648dea5d9b933dad6009d8db54b9263b5afcdc4e00a16e427b", func := "scrinium/scriniumlaw20.AskEdges", spec := "askEdges", inPlace := ["internal/bytealg.CountString", "internal/bytealg.IndexByteString", "internal/bytealg.IndexString"], unfollowed := true, recurses := true, named := ["unicode/utf8.first", "unicode/utf8.acceptRanges", "internal/bytealg.MaxLen"], apart := false, laid := [("unicode/utf8.acceptRanges", laid_unicode_utf8_acceptRanges), ("unicode/utf8.first", laid_unicode_utf8_first)] }
def AskEdgesSaid : Prop := askEdgesRow.holds Tryd.pinned (OpenSpec.ofChange askEdgesSpec)

/-- ITS FALSE NEIGHBOUR: 'it returns false'. Refute it at one input. -/
def askEdgesWrong : ChangeSpec := { name := "askEdges", fn := fun _ => fun
  | [d1, d2, d3] => { results := [.lit (.bool false)], args := [d1, d2, d3] }
  | _ => none }
def AskEdgesWrongFalsely : Prop := askEdgesRow.holds Tryd.pinned (OpenSpec.ofChange askEdgesWrong)

/-- 'scriniumlaw20.AskBytes': WHATEVER THE INPUT: true; the input reads as it did. -/
def askBytesSpec : ChangeSpec := { name := "askBytes", fn := fun _ => fun
  | [d1, d2, d3] => { results := [.lit (.bool true)], args := [d1, d2, d3] }
  | _ => none }
def askBytesRow : OpenClaim := { program := "ytbmjekekpmabbaadoor", sum := "5344f71efa6017648dea5d9b933dad6009d8db54b9263b5afcdc4e00a16e427b", func := "scrinium/scriniumlaw20.AskBytes", spec := "askBytes", inPlace := ["internal/bytealg.CountString", "internal/bytealg.IndexByteString", "internal/bytealg.IndexString"], unfollowed := true, recurses := true, named := ["unicode/utf8.first", "unicode/utf8.acceptRanges", "internal/bytealg.MaxLen"], apart := false, laid := [("unicode/utf8.acceptRanges", laid_unicode_utf8_acceptRanges), ("unicode/utf8.first", laid_unicode_utf8_first)] }
def AskBytesSaid : Prop := askBytesRow.holds Tryd.pinned (OpenSpec.ofChange askBytesSpec)

/-- ITS FALSE NEIGHBOUR: 'it returns false'. Refute it at one input. -/
def askBytesWrong : ChangeSpec := { name := "askBytes", fn := fun _ => fun
  | [d1, d2, d3] => { results := [.lit (.bool false)], args := [d1, d2, d3] }
  | _ => none }
def AskBytesWrongFalsely : Prop := askBytesRow.holds Tryd.pinned (OpenSpec.ofChange askBytesWrong)

/-- 'scriniumlaw20.AskWords': WHATEVER THE INPUT: true; the input reads as it did. -/
def askWordsSpec : ChangeSpec := { name := "askWords", fn := fun _ => fun
  | [d] => { results := [.lit (.bool true)], args := [d] }
  | _ => none }
def askWordsRow : OpenClaim := { program := "ytbmjekekpmabbaadoor", sum := "5344f71efa6017648dea5d9b933dad6009d8db54b9263b5afcdc4e00a16e427b", func := "scrinium/scriniumlaw20.AskWords", spec := "askWords", inPlace := ["internal/bytealg.CountString", "internal/bytealg.IndexByteString", "internal/bytealg.IndexString"], unfollowed := true, recurses := true, named := ["unicode/utf8.first", "unicode/utf8.acceptRanges", "internal/bytealg.MaxLen"], apart := false, laid := [("unicode/utf8.acceptRanges", laid_unicode_utf8_acceptRanges), ("unicode/utf8.first", laid_unicode_utf8_first)] }
def AskWordsSaid : Prop := askWordsRow.holds Tryd.pinned (OpenSpec.ofChange askWordsSpec)

/-- ITS FALSE NEIGHBOUR: 'it returns false'. Refute it at one input. -/
def askWordsWrong : ChangeSpec := { name := "askWords", fn := fun _ => fun
  | [d] => { results := [.lit (.bool false)], args := [d] }
  | _ => none }
def AskWordsWrongFalsely : Prop := askWordsRow.holds Tryd.pinned (OpenSpec.ofChange askWordsWrong)

/-- 'scriniumlaw20.AskAll': WHATEVER THE INPUT: true; the input reads as it did. -/
def askAllSpec : ChangeSpec := { name := "askAll", fn := fun _ => fun
  | [d1, d2, d3, d4, d5, d6] => { results := [.lit (.bool true)], args := [d1, d2, d3, d4, d5, d6] }
  | _ => none }
def askAllRow : OpenClaim := { program := "ytbmjekekpmabbaadoor", sum := "5344f71efa6017648dea5d9b933dad6009d8db54b9263b5afcdc4e00a16e427b", func := "scrinium/scriniumlaw20.AskAll", spec := "askAll", inPlace := ["internal/bytealg.CountString", "internal/bytealg.IndexByteString", "internal/bytealg.IndexString"], unfollowed := true, recurses := true, named := ["unicode/utf8.first", "unicode/utf8.acceptRanges", "internal/bytealg.MaxLen"], apart := false, laid := [("unicode/utf8.acceptRanges", laid_unicode_utf8_acceptRanges), ("unicode/utf8.first", laid_unicode_utf8_first)] }
def AskAllSaid : Prop := askAllRow.holds Tryd.pinned (OpenSpec.ofChange askAllSpec)

/-- ITS FALSE NEIGHBOUR: 'it returns false'. Refute it at one input. -/
def askAllWrong : ChangeSpec := { name := "askAll", fn := fun _ => fun
  | [d1, d2, d3, d4, d5, d6] => { results := [.lit (.bool false)], args := [d1, d2, d3, d4, d5, d6] }
  | _ => none }
def AskAllWrongFalsely : Prop := askAllRow.holds Tryd.pinned (OpenSpec.ofChange askAllWrong)

/- THE SECOND FORM. 'bulk': how many values and letters a reading holds, each counted each time it is reached (what is shared counts as often as it is met; a slice's spare places count too). A statement '..UptoSaid' is the law's where the arguments, and the package variables that the reading takes, are together of bulk at most 1048576: NARROWER than '..Said'. Prove '..Said' where nothing that the law and all that it calls make is longer than what came in: it says more and counts as full. Else prove '..UptoSaid'. A law counts once. -/
mutual
def uptoBulk {H : Type} : DataW H → Nat
  | .lit (.string bytes) => bytes.length + 1
  | .lit _ => 1
  | .nil => 1
  | .ptr d => uptoBulk d + 1
  | .slice elems spare => uptoBulkAll elems + uptoBulkAll spare + 1
  | .agg parts => uptoBulkAll parts + 1
  | .iface _ d => uptoBulk d + 1
  | .map entries => uptoBulkEntries entries + 1
  | .held _ => 1
def uptoBulkAll {H : Type} : List (DataW H) → Nat
  | [] => 0
  | d :: r => uptoBulk d + uptoBulkAll r
def uptoBulkEntries {H : Type} : List (Lit × DataW H) → Nat
  | [] => 0
  | x :: r => uptoBulkEntry x + uptoBulkEntries r
def uptoBulkEntry {H : Type} : Lit × DataW H → Nat
  | (.string bytes, d) => bytes.length + uptoBulk d + 1
  | (_, d) => uptoBulk d + 1
 end
def uptoSmall : (H : Type) → List (DataW H) → Bool := fun _ ds => decide (uptoBulkAll ds ≤ 1048576)
def OpenSpec.upto (s : _root_.Go.ChangeSpec) : _root_.Go.OpenSpec := { _root_.Go.OpenSpec.ofChange s with cond := some uptoSmall }

/-- 'scriniumlaw20.AskTells', WHERE WHAT IT READS IS OF BULK AT MOST 1048576: true; the input reads as it did. -/
def askTellsUptoRow : OpenClaim := { program := "ytbmjekekpmabbaadoor", sum := "5344f71efa6017648dea5d9b933dad6009d8db54b9263b5afcdc4e00a16e427b", func := "scrinium/scriniumlaw20.AskTells", spec := "askTells", inPlace := ["internal/bytealg.CountString", "internal/bytealg.IndexByteString", "internal/bytealg.IndexString"], unfollowed := true, recurses := true, named := ["unicode/utf8.first", "unicode/utf8.acceptRanges", "internal/bytealg.MaxLen"], apart := false, laid := [("unicode/utf8.acceptRanges", laid_unicode_utf8_acceptRanges), ("unicode/utf8.first", laid_unicode_utf8_first)], narrowed := true }
def AskTellsUptoSaid : Prop := askTellsUptoRow.holds Tryd.pinned (OpenSpec.upto askTellsSpec)

/-- 'scriniumlaw20.AskLines', WHERE WHAT IT READS IS OF BULK AT MOST 1048576: true; the input reads as it did. -/
def askLinesUptoRow : OpenClaim := { program := "ytbmjekekpmabbaadoor", sum := "5344f71efa6017648dea5d9b933dad6009d8db54b9263b5afcdc4e00a16e427b", func := "scrinium/scriniumlaw20.AskLines", spec := "askLines", inPlace := ["internal/bytealg.IndexByteString", "internal/bytealg.IndexString", "internal/bytealg.CountString"], unfollowed := true, recurses := true, named := ["internal/bytealg.MaxLen", "unicode/utf8.first", "unicode/utf8.acceptRanges"], apart := false, laid := [("unicode/utf8.acceptRanges", laid_unicode_utf8_acceptRanges), ("unicode/utf8.first", laid_unicode_utf8_first)], narrowed := true }
def AskLinesUptoSaid : Prop := askLinesUptoRow.holds Tryd.pinned (OpenSpec.upto askLinesSpec)

/-- 'scriniumlaw20.AskCuts', WHERE WHAT IT READS IS OF BULK AT MOST 1048576: true; the input reads as it did. -/
def askCutsUptoRow : OpenClaim := { program := "ytbmjekekpmabbaadoor", sum := "5344f71efa6017648dea5d9b933dad6009d8db54b9263b5afcdc4e00a16e427b", func := "scrinium/scriniumlaw20.AskCuts", spec := "askCuts", inPlace := ["internal/bytealg.CountString", "internal/bytealg.IndexByteString", "internal/bytealg.IndexString"], unfollowed := true, recurses := true, named := ["unicode/utf8.first", "unicode/utf8.acceptRanges", "internal/bytealg.MaxLen"], apart := false, laid := [("unicode/utf8.acceptRanges", laid_unicode_utf8_acceptRanges), ("unicode/utf8.first", laid_unicode_utf8_first)], narrowed := true }
def AskCutsUptoSaid : Prop := askCutsUptoRow.holds Tryd.pinned (OpenSpec.upto askCutsSpec)

/-- 'scriniumlaw20.AskNames', WHERE WHAT IT READS IS OF BULK AT MOST 1048576: true; the input reads as it did. -/
def askNamesUptoRow : OpenClaim := { program := "ytbmjekekpmabbaadoor", sum := "5344f71efa6017648dea5d9b933dad6009d8db54b9263b5afcdc4e00a16e427b", func := "scrinium/scriniumlaw20.AskNames", spec := "askNames", inPlace := ["internal/bytealg.CountString", "internal/bytealg.IndexByteString", "internal/bytealg.IndexString"], unfollowed := true, recurses := true, named := ["unicode/utf8.first", "unicode/utf8.acceptRanges", "internal/bytealg.MaxLen"], apart := false, laid := [("unicode/utf8.acceptRanges", laid_unicode_utf8_acceptRanges), ("unicode/utf8.first", laid_unicode_utf8_first)], narrowed := true }
def AskNamesUptoSaid : Prop := askNamesUptoRow.holds Tryd.pinned (OpenSpec.upto askNamesSpec)

/-- 'scriniumlaw20.AskEdges', WHERE WHAT IT READS IS OF BULK AT MOST 1048576: true; the input reads as it did. -/
def askEdgesUptoRow : OpenClaim := { program := "ytbmjekekpmabbaadoor", sum := "5344f71efa6017648dea5d9b933dad6009d8db54b9263b5afcdc4e00a16e427b", func := "scrinium/scriniumlaw20.AskEdges", spec := "askEdges", inPlace := ["internal/bytealg.CountString", "internal/bytealg.IndexByteString", "internal/bytealg.IndexString"], unfollowed := true, recurses := true, named := ["unicode/utf8.first", "unicode/utf8.acceptRanges", "internal/bytealg.MaxLen"], apart := false, laid := [("unicode/utf8.acceptRanges", laid_unicode_utf8_acceptRanges), ("unicode/utf8.first", laid_unicode_utf8_first)], narrowed := true }
def AskEdgesUptoSaid : Prop := askEdgesUptoRow.holds Tryd.pinned (OpenSpec.upto askEdgesSpec)

/-- 'scriniumlaw20.AskBytes', WHERE WHAT IT READS IS OF BULK AT MOST 1048576: true; the input reads as it did. -/
def askBytesUptoRow : OpenClaim := { program := "ytbmjekekpmabbaadoor", sum := "5344f71efa6017648dea5d9b933dad6009d8db54b9263b5afcdc4e00a16e427b", func := "scrinium/scriniumlaw20.AskBytes", spec := "askBytes", inPlace := ["internal/bytealg.CountString", "internal/bytealg.IndexByteString", "internal/bytealg.IndexString"], unfollowed := true, recurses := true, named := ["unicode/utf8.first", "unicode/utf8.acceptRanges", "internal/bytealg.MaxLen"], apart := false, laid := [("unicode/utf8.acceptRanges", laid_unicode_utf8_acceptRanges), ("unicode/utf8.first", laid_unicode_utf8_first)], narrowed := true }
def AskBytesUptoSaid : Prop := askBytesUptoRow.holds Tryd.pinned (OpenSpec.upto askBytesSpec)

/-- 'scriniumlaw20.AskWords', WHERE WHAT IT READS IS OF BULK AT MOST 1048576: true; the input reads as it did. -/
def askWordsUptoRow : OpenClaim := { program := "ytbmjekekpmabbaadoor", sum := "5344f71efa6017648dea5d9b933dad6009d8db54b9263b5afcdc4e00a16e427b", func := "scrinium/scriniumlaw20.AskWords", spec := "askWords", inPlace := ["internal/bytealg.CountString", "internal/bytealg.IndexByteString", "internal/bytealg.IndexString"], unfollowed := true, recurses := true, named := ["unicode/utf8.first", "unicode/utf8.acceptRanges", "internal/bytealg.MaxLen"], apart := false, laid := [("unicode/utf8.acceptRanges", laid_unicode_utf8_acceptRanges), ("unicode/utf8.first", laid_unicode_utf8_first)], narrowed := true }
def AskWordsUptoSaid : Prop := askWordsUptoRow.holds Tryd.pinned (OpenSpec.upto askWordsSpec)

/-- 'scriniumlaw20.AskAll', WHERE WHAT IT READS IS OF BULK AT MOST 1048576: true; the input reads as it did. -/
def askAllUptoRow : OpenClaim := { program := "ytbmjekekpmabbaadoor", sum := "5344f71efa6017648dea5d9b933dad6009d8db54b9263b5afcdc4e00a16e427b", func := "scrinium/scriniumlaw20.AskAll", spec := "askAll", inPlace := ["internal/bytealg.CountString", "internal/bytealg.IndexByteString", "internal/bytealg.IndexString"], unfollowed := true, recurses := true, named := ["unicode/utf8.first", "unicode/utf8.acceptRanges", "internal/bytealg.MaxLen"], apart := false, laid := [("unicode/utf8.acceptRanges", laid_unicode_utf8_acceptRanges), ("unicode/utf8.first", laid_unicode_utf8_first)], narrowed := true }
def AskAllUptoSaid : Prop := askAllUptoRow.holds Tryd.pinned (OpenSpec.upto askAllSpec)

end Rows
end Go.Proofs.YtbmjekekpmabbaaDoor
