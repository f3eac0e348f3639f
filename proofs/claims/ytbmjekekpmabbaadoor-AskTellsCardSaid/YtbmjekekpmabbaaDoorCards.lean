/-
  DERIVED. GIVEN WITH THE SEED: THE CARDS: each row of YtbmjekekpmabbaaDoorRows.lean that lists a variable, with what it lists TIED to the program's text (the seventh form; the later family's looks); each row that meets fmt, with fmt's text TOLD by the authors' own Lean function (tested against real Go, not proved from fmt's source: count such statements apart). THE CARD IS WHAT COUNTS. Prove the row's statement (the work); the ties are given (YtbmjekekpmabbaaDoorTie.lean); close each card by the builder's one call (the guide's Derived/Test/ToyasCard.lean, 'card_holds'). Laid BY PROGRAM, IN A SANDBOX (cutbox-door.mjs). By AI agents, Wed Nov 11 2026. No macro, syntax, notation, axiom, sorry.
-/
import Derived.Test.YtbmjekekpmabbaaDoorRows
import GoSem.ClaimSeven
namespace Go.Proofs.YtbmjekekpmabbaaDoor
namespace Rows

/-- THE TIED CARD OF 'scriniumlaw20.AskTells'. -/
def askTellsCard : Claim7 := { stood := { row := askTellsRow, standIns := [], harness := (true, "a0ad210f2c8a584a1358172d426cfa8eaa149d5afbcfaee70ac243d7083ce4d7"), looks := false }, kinds := [], alts := [], laidByText := true, laidKinds := [.data, .pinned], laidTests := true, laidLooks := .later }
def AskTellsCardSaid : Prop := Claim7.holds Tryd.pinned (.plain (OpenSpec.ofChange askTellsSpec)) askTellsCard

/-- THE TIED CARD OF 'scriniumlaw20.AskLines'. -/
def askLinesCard : Claim7 := { stood := { row := askLinesRow, standIns := [], harness := (true, "a0ad210f2c8a584a1358172d426cfa8eaa149d5afbcfaee70ac243d7083ce4d7"), looks := false }, kinds := [], alts := [], laidByText := true, laidKinds := [.data, .pinned], laidTests := true, laidLooks := .later }
def AskLinesCardSaid : Prop := Claim7.holds Tryd.pinned (.plain (OpenSpec.ofChange askLinesSpec)) askLinesCard

/-- THE TIED CARD OF 'scriniumlaw20.AskCuts'. -/
def askCutsCard : Claim7 := { stood := { row := askCutsRow, standIns := [], harness := (true, "a0ad210f2c8a584a1358172d426cfa8eaa149d5afbcfaee70ac243d7083ce4d7"), looks := false }, kinds := [], alts := [], laidByText := true, laidKinds := [.data, .pinned], laidTests := true, laidLooks := .later }
def AskCutsCardSaid : Prop := Claim7.holds Tryd.pinned (.plain (OpenSpec.ofChange askCutsSpec)) askCutsCard

/-- THE TIED CARD OF 'scriniumlaw20.AskNames'. -/
def askNamesCard : Claim7 := { stood := { row := askNamesRow, standIns := [], harness := (true, "a0ad210f2c8a584a1358172d426cfa8eaa149d5afbcfaee70ac243d7083ce4d7"), looks := false }, kinds := [], alts := [], laidByText := true, laidKinds := [.data, .pinned], laidTests := true, laidLooks := .later }
def AskNamesCardSaid : Prop := Claim7.holds Tryd.pinned (.plain (OpenSpec.ofChange askNamesSpec)) askNamesCard

/-- THE TIED CARD OF 'scriniumlaw20.AskEdges'. -/
def askEdgesCard : Claim7 := { stood := { row := askEdgesRow, standIns := [], harness := (true, "a0ad210f2c8a584a1358172d426cfa8eaa149d5afbcfaee70ac243d7083ce4d7"), looks := false }, kinds := [], alts := [], laidByText := true, laidKinds := [.data, .pinned], laidTests := true, laidLooks := .later }
def AskEdgesCardSaid : Prop := Claim7.holds Tryd.pinned (.plain (OpenSpec.ofChange askEdgesSpec)) askEdgesCard

/-- THE TIED CARD OF 'scriniumlaw20.AskBytes'. -/
def askBytesCard : Claim7 := { stood := { row := askBytesRow, standIns := [], harness := (true, "a0ad210f2c8a584a1358172d426cfa8eaa149d5afbcfaee70ac243d7083ce4d7"), looks := false }, kinds := [], alts := [], laidByText := true, laidKinds := [.data, .pinned], laidTests := true, laidLooks := .later }
def AskBytesCardSaid : Prop := Claim7.holds Tryd.pinned (.plain (OpenSpec.ofChange askBytesSpec)) askBytesCard

/-- THE TIED CARD OF 'scriniumlaw20.AskWords'. -/
def askWordsCard : Claim7 := { stood := { row := askWordsRow, standIns := [], harness := (true, "a0ad210f2c8a584a1358172d426cfa8eaa149d5afbcfaee70ac243d7083ce4d7"), looks := false }, kinds := [], alts := [], laidByText := true, laidKinds := [.data, .pinned], laidTests := true, laidLooks := .later }
def AskWordsCardSaid : Prop := Claim7.holds Tryd.pinned (.plain (OpenSpec.ofChange askWordsSpec)) askWordsCard

/-- THE TIED CARD OF 'scriniumlaw20.AskAll'. -/
def askAllCard : Claim7 := { stood := { row := askAllRow, standIns := [], harness := (true, "a0ad210f2c8a584a1358172d426cfa8eaa149d5afbcfaee70ac243d7083ce4d7"), looks := false }, kinds := [], alts := [], laidByText := true, laidKinds := [.data, .pinned], laidTests := true, laidLooks := .later }
def AskAllCardSaid : Prop := Claim7.holds Tryd.pinned (.plain (OpenSpec.ofChange askAllSpec)) askAllCard

/-- THE SECOND FORM's CARD OF 'scriniumlaw20.AskTells'. -/
def askTellsUptoCard : Claim7 := { stood := { row := askTellsUptoRow, standIns := [], harness := (true, "a0ad210f2c8a584a1358172d426cfa8eaa149d5afbcfaee70ac243d7083ce4d7"), looks := false }, kinds := [], alts := [], laidByText := true, laidKinds := [.data, .pinned], laidTests := true, laidLooks := .later }
def AskTellsUptoCardSaid : Prop := Claim7.holds Tryd.pinned (.plain (OpenSpec.upto askTellsSpec)) askTellsUptoCard

/-- THE SECOND FORM's CARD OF 'scriniumlaw20.AskLines'. -/
def askLinesUptoCard : Claim7 := { stood := { row := askLinesUptoRow, standIns := [], harness := (true, "a0ad210f2c8a584a1358172d426cfa8eaa149d5afbcfaee70ac243d7083ce4d7"), looks := false }, kinds := [], alts := [], laidByText := true, laidKinds := [.data, .pinned], laidTests := true, laidLooks := .later }
def AskLinesUptoCardSaid : Prop := Claim7.holds Tryd.pinned (.plain (OpenSpec.upto askLinesSpec)) askLinesUptoCard

/-- THE SECOND FORM's CARD OF 'scriniumlaw20.AskCuts'. -/
def askCutsUptoCard : Claim7 := { stood := { row := askCutsUptoRow, standIns := [], harness := (true, "a0ad210f2c8a584a1358172d426cfa8eaa149d5afbcfaee70ac243d7083ce4d7"), looks := false }, kinds := [], alts := [], laidByText := true, laidKinds := [.data, .pinned], laidTests := true, laidLooks := .later }
def AskCutsUptoCardSaid : Prop := Claim7.holds Tryd.pinned (.plain (OpenSpec.upto askCutsSpec)) askCutsUptoCard

/-- THE SECOND FORM's CARD OF 'scriniumlaw20.AskNames'. -/
def askNamesUptoCard : Claim7 := { stood := { row := askNamesUptoRow, standIns := [], harness := (true, "a0ad210f2c8a584a1358172d426cfa8eaa149d5afbcfaee70ac243d7083ce4d7"), looks := false }, kinds := [], alts := [], laidByText := true, laidKinds := [.data, .pinned], laidTests := true, laidLooks := .later }
def AskNamesUptoCardSaid : Prop := Claim7.holds Tryd.pinned (.plain (OpenSpec.upto askNamesSpec)) askNamesUptoCard

/-- THE SECOND FORM's CARD OF 'scriniumlaw20.AskEdges'. -/
def askEdgesUptoCard : Claim7 := { stood := { row := askEdgesUptoRow, standIns := [], harness := (true, "a0ad210f2c8a584a1358172d426cfa8eaa149d5afbcfaee70ac243d7083ce4d7"), looks := false }, kinds := [], alts := [], laidByText := true, laidKinds := [.data, .pinned], laidTests := true, laidLooks := .later }
def AskEdgesUptoCardSaid : Prop := Claim7.holds Tryd.pinned (.plain (OpenSpec.upto askEdgesSpec)) askEdgesUptoCard

/-- THE SECOND FORM's CARD OF 'scriniumlaw20.AskBytes'. -/
def askBytesUptoCard : Claim7 := { stood := { row := askBytesUptoRow, standIns := [], harness := (true, "a0ad210f2c8a584a1358172d426cfa8eaa149d5afbcfaee70ac243d7083ce4d7"), looks := false }, kinds := [], alts := [], laidByText := true, laidKinds := [.data, .pinned], laidTests := true, laidLooks := .later }
def AskBytesUptoCardSaid : Prop := Claim7.holds Tryd.pinned (.plain (OpenSpec.upto askBytesSpec)) askBytesUptoCard

/-- THE SECOND FORM's CARD OF 'scriniumlaw20.AskWords'. -/
def askWordsUptoCard : Claim7 := { stood := { row := askWordsUptoRow, standIns := [], harness := (true, "a0ad210f2c8a584a1358172d426cfa8eaa149d5afbcfaee70ac243d7083ce4d7"), looks := false }, kinds := [], alts := [], laidByText := true, laidKinds := [.data, .pinned], laidTests := true, laidLooks := .later }
def AskWordsUptoCardSaid : Prop := Claim7.holds Tryd.pinned (.plain (OpenSpec.upto askWordsSpec)) askWordsUptoCard

/-- THE SECOND FORM's CARD OF 'scriniumlaw20.AskAll'. -/
def askAllUptoCard : Claim7 := { stood := { row := askAllUptoRow, standIns := [], harness := (true, "a0ad210f2c8a584a1358172d426cfa8eaa149d5afbcfaee70ac243d7083ce4d7"), looks := false }, kinds := [], alts := [], laidByText := true, laidKinds := [.data, .pinned], laidTests := true, laidLooks := .later }
def AskAllUptoCardSaid : Prop := Claim7.holds Tryd.pinned (.plain (OpenSpec.upto askAllSpec)) askAllUptoCard
end Rows
end Go.Proofs.YtbmjekekpmabbaaDoor
