/-
  DERIVED. GIVEN WITH THE SEED: THE CARDS: each row of YtkifdadhojbohaaDoorRows.lean that lists a variable, with what it lists TIED to the program's text (the seventh form; the later family's looks); each row that meets fmt, with fmt's text TOLD by the authors' own Lean function (tested against real Go, not proved from fmt's source: count such statements apart). THE CARD IS WHAT COUNTS. Prove the row's statement (the work); the ties are given (YtkifdadhojbohaaDoorTie.lean); close each card by the builder's one call (the guide's Derived/Test/ToyasCard.lean, 'card_holds'). Laid BY PROGRAM, IN A SANDBOX (cutbox-door.mjs). By AI agents, Wed Nov 11 2026. No macro, syntax, notation, axiom, sorry.
-/
import Derived.Test.YtkifdadhojbohaaDoorRows
import GoSem.ClaimSeven
namespace Go.Proofs.YtkifdadhojbohaaDoor
namespace Rows

/-- THE TIED CARD OF 'salchowlaw10.ParserParses'. -/
def parserParsesCard : Claim7 := { stood := { row := parserParsesRow, standIns := [], harness := (true, "74d2011260c70b611c86c4d3b7f5d11cc5fefff18c715f175ff3522b41f9dd0c"), looks := true }, kinds := [], alts := [], laidByText := true, laidKinds := [.data, .data, .data, .sentinel, .sentinel], laidTests := true, laidLooks := .later }
def ParserParsesCardSaid : Prop := Claim7.holds Tryd.pinned (.plain (OpenSpec.ofChange parserParsesSpec)) parserParsesCard

/-- THE TIED CARD OF 'salchowlaw10.ParserPossible'. -/
def parserPossibleCard : Claim7 := { stood := { row := parserPossibleRow, standIns := [], harness := (true, "74d2011260c70b611c86c4d3b7f5d11cc5fefff18c715f175ff3522b41f9dd0c"), looks := true }, kinds := [], alts := [], laidByText := true, laidKinds := [.data, .data, .data, .sentinel, .sentinel], laidTests := true, laidLooks := .later }
def ParserPossibleCardSaid : Prop := Claim7.holds Tryd.pinned (.plain (OpenSpec.ofChange parserPossibleSpec)) parserPossibleCard

/-- THE TIED CARD OF 'salchowlaw10.ParserConcats'. -/
def parserConcatsCard : Claim7 := { stood := { row := parserConcatsRow, standIns := [], harness := (true, "74d2011260c70b611c86c4d3b7f5d11cc5fefff18c715f175ff3522b41f9dd0c"), looks := true }, kinds := [], alts := [], laidByText := true, laidKinds := [.data, .data, .data, .sentinel, .sentinel], laidTests := true, laidLooks := .later }
def ParserConcatsCardSaid : Prop := Claim7.holds Tryd.pinned (.plain (OpenSpec.ofChange parserConcatsSpec)) parserConcatsCard

/-- THE TIED CARD OF 'salchowlaw10.ParserBegins'. -/
def parserBeginsCard : Claim7 := { stood := { row := parserBeginsRow, standIns := [], harness := (true, "74d2011260c70b611c86c4d3b7f5d11cc5fefff18c715f175ff3522b41f9dd0c"), looks := true }, kinds := [], alts := [], laidByText := true, laidKinds := [.data, .data, .data, .sentinel, .sentinel], laidTests := true, laidLooks := .later }
def ParserBeginsCardSaid : Prop := Claim7.holds Tryd.pinned (.plain (OpenSpec.ofChange parserBeginsSpec)) parserBeginsCard

/-- THE TIED CARD OF 'salchowlaw10.ParserNests'. -/
def parserNestsCard : Claim7 := { stood := { row := parserNestsRow, standIns := [], harness := (true, "74d2011260c70b611c86c4d3b7f5d11cc5fefff18c715f175ff3522b41f9dd0c"), looks := true }, kinds := [], alts := [], laidByText := true, laidKinds := [.data, .data, .data, .sentinel, .sentinel], laidTests := true, laidLooks := .later }
def ParserNestsCardSaid : Prop := Claim7.holds Tryd.pinned (.plain (OpenSpec.ofChange parserNestsSpec)) parserNestsCard

/-- THE TIED CARD OF 'salchowlaw09.LexerLex'. -/
def lexerLexCard : Claim7 := { stood := { row := lexerLexRow, standIns := [], harness := (true, "74d2011260c70b611c86c4d3b7f5d11cc5fefff18c715f175ff3522b41f9dd0c"), looks := true }, kinds := [], alts := [], laidByText := true, laidKinds := [.data, .data, .data, .data, .sentinel, .sentinel, .pinned], laidTests := true, laidLooks := .later }
def LexerLexCardSaid : Prop := Claim7.holds Tryd.pinned (.plain (OpenSpec.ofChange lexerLexSpec)) lexerLexCard

/-- THE TIED CARD OF 'salchowlaw09.LexerSpells'. -/
def lexerSpellsCard : Claim7 := { stood := { row := lexerSpellsRow, standIns := [], harness := (true, "74d2011260c70b611c86c4d3b7f5d11cc5fefff18c715f175ff3522b41f9dd0c"), looks := true }, kinds := [], alts := [], laidByText := true, laidKinds := [.data, .data, .data, .data, .sentinel, .sentinel, .pinned], laidTests := true, laidLooks := .later }
def LexerSpellsCardSaid : Prop := Claim7.holds Tryd.pinned (.plain (OpenSpec.ofChange lexerSpellsSpec)) lexerSpellsCard

/-- THE TIED CARD OF 'salchowlaw09.LexerPlaces'. -/
def lexerPlacesCard : Claim7 := { stood := { row := lexerPlacesRow, standIns := [], harness := (true, "74d2011260c70b611c86c4d3b7f5d11cc5fefff18c715f175ff3522b41f9dd0c"), looks := true }, kinds := [], alts := [], laidByText := true, laidKinds := [.data, .data, .data, .data, .sentinel, .sentinel, .pinned], laidTests := true, laidLooks := .later }
def LexerPlacesCardSaid : Prop := Claim7.holds Tryd.pinned (.plain (OpenSpec.ofChange lexerPlacesSpec)) lexerPlacesCard

/-- THE TIED CARD OF 'salchowlaw09.LexerComments'. -/
def lexerCommentsCard : Claim7 := { stood := { row := lexerCommentsRow, standIns := [], harness := (true, "74d2011260c70b611c86c4d3b7f5d11cc5fefff18c715f175ff3522b41f9dd0c"), looks := true }, kinds := [], alts := [], laidByText := true, laidKinds := [.data, .data, .data, .data, .sentinel, .sentinel, .pinned], laidTests := true, laidLooks := .later }
def LexerCommentsCardSaid : Prop := Claim7.holds Tryd.pinned (.plain (OpenSpec.ofChange lexerCommentsSpec)) lexerCommentsCard

/-- THE TIED CARD OF 'salchowlaw09.LexerNext'. -/
def lexerNextCard : Claim7 := { stood := { row := lexerNextRow, standIns := [], harness := (true, "74d2011260c70b611c86c4d3b7f5d11cc5fefff18c715f175ff3522b41f9dd0c"), looks := true }, kinds := [], alts := [], laidByText := true, laidKinds := [.data, .data, .data, .data, .sentinel, .sentinel, .pinned], laidTests := true, laidLooks := .later }
def LexerNextCardSaid : Prop := Claim7.holds Tryd.pinned (.plain (OpenSpec.ofChange lexerNextSpec)) lexerNextCard

/-- THE TIED CARD OF 'salchowlaw09.LexerSteps'. -/
def lexerStepsCard : Claim7 := { stood := { row := lexerStepsRow, standIns := [], harness := (true, "74d2011260c70b611c86c4d3b7f5d11cc5fefff18c715f175ff3522b41f9dd0c"), looks := true }, kinds := [], alts := [], laidByText := true, laidKinds := [.data, .data, .data, .data, .sentinel, .sentinel, .pinned], laidTests := true, laidLooks := .later }
def LexerStepsCardSaid : Prop := Claim7.holds Tryd.pinned (.plain (OpenSpec.ofChange lexerStepsSpec)) lexerStepsCard

/-- THE TIED CARD OF 'salchowlaw09.LexerTokens'. -/
def lexerTokensCard : Claim7 := { stood := { row := lexerTokensRow, standIns := [], harness := (true, "74d2011260c70b611c86c4d3b7f5d11cc5fefff18c715f175ff3522b41f9dd0c"), looks := true }, kinds := [], alts := [], laidByText := true, laidKinds := [.data, .data, .data, .data, .sentinel, .sentinel, .pinned], laidTests := true, laidLooks := .later }
def LexerTokensCardSaid : Prop := Claim7.holds Tryd.pinned (.plain (OpenSpec.ofChange lexerTokensSpec)) lexerTokensCard

/-- THE TIED CARD OF 'salchowlaw09.LexerJoins'. -/
def lexerJoinsCard : Claim7 := { stood := { row := lexerJoinsRow, standIns := [], harness := (true, "74d2011260c70b611c86c4d3b7f5d11cc5fefff18c715f175ff3522b41f9dd0c"), looks := true }, kinds := [], alts := [], laidByText := true, laidKinds := [.data, .data, .data, .data, .sentinel, .sentinel, .pinned], laidTests := true, laidLooks := .later }
def LexerJoinsCardSaid : Prop := Claim7.holds Tryd.pinned (.plain (OpenSpec.ofChange lexerJoinsSpec)) lexerJoinsCard

/-- THE TIED CARD OF 'salchowlaw10.ParserSpelled'. -/
def parserSpelledCard : Claim7 := { stood := { row := parserSpelledRow, standIns := [], harness := (true, "74d2011260c70b611c86c4d3b7f5d11cc5fefff18c715f175ff3522b41f9dd0c"), looks := true }, kinds := [], alts := [], laidByText := true, laidKinds := [.data, .data, .data, .data, .sentinel, .sentinel, .pinned], laidTests := true, laidLooks := .later }
def ParserSpelledCardSaid : Prop := Claim7.holds Tryd.pinned (.plain (OpenSpec.ofChange parserSpelledSpec)) parserSpelledCard

/-- THE TIED CARD OF 'salchowlaw11.PrinterJoins'. -/
def printerJoinsCard : Claim7 := { stood := { row := printerJoinsRow, standIns := [], harness := (true, "74d2011260c70b611c86c4d3b7f5d11cc5fefff18c715f175ff3522b41f9dd0c"), looks := true }, kinds := [], alts := [], laidByText := true, laidKinds := [.data, .data, .data, .data, .sentinel, .sentinel, .pinned], laidTests := true, laidLooks := .later }
def PrinterJoinsCardSaid : Prop := Claim7.holds Tryd.pinned (.plain (OpenSpec.ofChange printerJoinsSpec)) printerJoinsCard

/-- THE TIED CARD OF 'salchowlaw11.PrinterShape'. -/
def printerShapeCard : Claim7 := { stood := { row := printerShapeRow, standIns := [], harness := (true, "74d2011260c70b611c86c4d3b7f5d11cc5fefff18c715f175ff3522b41f9dd0c"), looks := true }, kinds := [], alts := [], laidByText := true, laidKinds := [.data, .data, .data, .data, .sentinel, .sentinel, .pinned], laidTests := true, laidLooks := .later }
def PrinterShapeCardSaid : Prop := Claim7.holds Tryd.pinned (.plain (OpenSpec.ofChange printerShapeSpec)) printerShapeCard

/-- THE TIED CARD OF 'salchowlaw11.PrinterReads'. -/
def printerReadsCard : Claim7 := { stood := { row := printerReadsRow, standIns := [], harness := (true, "74d2011260c70b611c86c4d3b7f5d11cc5fefff18c715f175ff3522b41f9dd0c"), looks := true }, kinds := [], alts := [], laidByText := true, laidKinds := [.data, .data, .data, .data, .sentinel, .sentinel, .pinned], laidTests := true, laidLooks := .later }
def PrinterReadsCardSaid : Prop := Claim7.holds Tryd.pinned (.plain (OpenSpec.ofChange printerReadsSpec)) printerReadsCard

/-- THE TIED CARD OF 'salchowlaw11.PrinterNormalizes'. -/
def printerNormalizesCard : Claim7 := { stood := { row := printerNormalizesRow, standIns := [], harness := (true, "74d2011260c70b611c86c4d3b7f5d11cc5fefff18c715f175ff3522b41f9dd0c"), looks := true }, kinds := [], alts := [], laidByText := true, laidKinds := [.data, .data, .data, .data, .sentinel, .sentinel, .pinned], laidTests := true, laidLooks := .later }
def PrinterNormalizesCardSaid : Prop := Claim7.holds Tryd.pinned (.plain (OpenSpec.ofChange printerNormalizesSpec)) printerNormalizesCard

/-- THE SECOND FORM's CARD OF 'salchowlaw10.ParserParses'. -/
def parserParsesUptoCard : Claim7 := { stood := { row := parserParsesUptoRow, standIns := [], harness := (true, "74d2011260c70b611c86c4d3b7f5d11cc5fefff18c715f175ff3522b41f9dd0c"), looks := true }, kinds := [], alts := [], laidByText := true, laidKinds := [.data, .data, .data, .sentinel, .sentinel], laidTests := true, laidLooks := .later }
def ParserParsesUptoCardSaid : Prop := Claim7.holds Tryd.pinned (.plain (OpenSpec.upto parserParsesSpec)) parserParsesUptoCard

/-- THE SECOND FORM's CARD OF 'salchowlaw10.ParserPossible'. -/
def parserPossibleUptoCard : Claim7 := { stood := { row := parserPossibleUptoRow, standIns := [], harness := (true, "74d2011260c70b611c86c4d3b7f5d11cc5fefff18c715f175ff3522b41f9dd0c"), looks := true }, kinds := [], alts := [], laidByText := true, laidKinds := [.data, .data, .data, .sentinel, .sentinel], laidTests := true, laidLooks := .later }
def ParserPossibleUptoCardSaid : Prop := Claim7.holds Tryd.pinned (.plain (OpenSpec.upto parserPossibleSpec)) parserPossibleUptoCard

/-- THE SECOND FORM's CARD OF 'salchowlaw10.ParserConcats'. -/
def parserConcatsUptoCard : Claim7 := { stood := { row := parserConcatsUptoRow, standIns := [], harness := (true, "74d2011260c70b611c86c4d3b7f5d11cc5fefff18c715f175ff3522b41f9dd0c"), looks := true }, kinds := [], alts := [], laidByText := true, laidKinds := [.data, .data, .data, .sentinel, .sentinel], laidTests := true, laidLooks := .later }
def ParserConcatsUptoCardSaid : Prop := Claim7.holds Tryd.pinned (.plain (OpenSpec.upto parserConcatsSpec)) parserConcatsUptoCard

/-- THE SECOND FORM's CARD OF 'salchowlaw10.ParserBegins'. -/
def parserBeginsUptoCard : Claim7 := { stood := { row := parserBeginsUptoRow, standIns := [], harness := (true, "74d2011260c70b611c86c4d3b7f5d11cc5fefff18c715f175ff3522b41f9dd0c"), looks := true }, kinds := [], alts := [], laidByText := true, laidKinds := [.data, .data, .data, .sentinel, .sentinel], laidTests := true, laidLooks := .later }
def ParserBeginsUptoCardSaid : Prop := Claim7.holds Tryd.pinned (.plain (OpenSpec.upto parserBeginsSpec)) parserBeginsUptoCard

/-- THE SECOND FORM's CARD OF 'salchowlaw10.ParserNests'. -/
def parserNestsUptoCard : Claim7 := { stood := { row := parserNestsUptoRow, standIns := [], harness := (true, "74d2011260c70b611c86c4d3b7f5d11cc5fefff18c715f175ff3522b41f9dd0c"), looks := true }, kinds := [], alts := [], laidByText := true, laidKinds := [.data, .data, .data, .sentinel, .sentinel], laidTests := true, laidLooks := .later }
def ParserNestsUptoCardSaid : Prop := Claim7.holds Tryd.pinned (.plain (OpenSpec.upto parserNestsSpec)) parserNestsUptoCard

/-- THE SECOND FORM's CARD OF 'salchowlaw09.LexerLex'. -/
def lexerLexUptoCard : Claim7 := { stood := { row := lexerLexUptoRow, standIns := [], harness := (true, "74d2011260c70b611c86c4d3b7f5d11cc5fefff18c715f175ff3522b41f9dd0c"), looks := true }, kinds := [], alts := [], laidByText := true, laidKinds := [.data, .data, .data, .data, .sentinel, .sentinel, .pinned], laidTests := true, laidLooks := .later }
def LexerLexUptoCardSaid : Prop := Claim7.holds Tryd.pinned (.plain (OpenSpec.upto lexerLexSpec)) lexerLexUptoCard

/-- THE SECOND FORM's CARD OF 'salchowlaw09.LexerSpells'. -/
def lexerSpellsUptoCard : Claim7 := { stood := { row := lexerSpellsUptoRow, standIns := [], harness := (true, "74d2011260c70b611c86c4d3b7f5d11cc5fefff18c715f175ff3522b41f9dd0c"), looks := true }, kinds := [], alts := [], laidByText := true, laidKinds := [.data, .data, .data, .data, .sentinel, .sentinel, .pinned], laidTests := true, laidLooks := .later }
def LexerSpellsUptoCardSaid : Prop := Claim7.holds Tryd.pinned (.plain (OpenSpec.upto lexerSpellsSpec)) lexerSpellsUptoCard

/-- THE SECOND FORM's CARD OF 'salchowlaw09.LexerPlaces'. -/
def lexerPlacesUptoCard : Claim7 := { stood := { row := lexerPlacesUptoRow, standIns := [], harness := (true, "74d2011260c70b611c86c4d3b7f5d11cc5fefff18c715f175ff3522b41f9dd0c"), looks := true }, kinds := [], alts := [], laidByText := true, laidKinds := [.data, .data, .data, .data, .sentinel, .sentinel, .pinned], laidTests := true, laidLooks := .later }
def LexerPlacesUptoCardSaid : Prop := Claim7.holds Tryd.pinned (.plain (OpenSpec.upto lexerPlacesSpec)) lexerPlacesUptoCard

/-- THE SECOND FORM's CARD OF 'salchowlaw09.LexerComments'. -/
def lexerCommentsUptoCard : Claim7 := { stood := { row := lexerCommentsUptoRow, standIns := [], harness := (true, "74d2011260c70b611c86c4d3b7f5d11cc5fefff18c715f175ff3522b41f9dd0c"), looks := true }, kinds := [], alts := [], laidByText := true, laidKinds := [.data, .data, .data, .data, .sentinel, .sentinel, .pinned], laidTests := true, laidLooks := .later }
def LexerCommentsUptoCardSaid : Prop := Claim7.holds Tryd.pinned (.plain (OpenSpec.upto lexerCommentsSpec)) lexerCommentsUptoCard

/-- THE SECOND FORM's CARD OF 'salchowlaw09.LexerNext'. -/
def lexerNextUptoCard : Claim7 := { stood := { row := lexerNextUptoRow, standIns := [], harness := (true, "74d2011260c70b611c86c4d3b7f5d11cc5fefff18c715f175ff3522b41f9dd0c"), looks := true }, kinds := [], alts := [], laidByText := true, laidKinds := [.data, .data, .data, .data, .sentinel, .sentinel, .pinned], laidTests := true, laidLooks := .later }
def LexerNextUptoCardSaid : Prop := Claim7.holds Tryd.pinned (.plain (OpenSpec.upto lexerNextSpec)) lexerNextUptoCard

/-- THE SECOND FORM's CARD OF 'salchowlaw09.LexerSteps'. -/
def lexerStepsUptoCard : Claim7 := { stood := { row := lexerStepsUptoRow, standIns := [], harness := (true, "74d2011260c70b611c86c4d3b7f5d11cc5fefff18c715f175ff3522b41f9dd0c"), looks := true }, kinds := [], alts := [], laidByText := true, laidKinds := [.data, .data, .data, .data, .sentinel, .sentinel, .pinned], laidTests := true, laidLooks := .later }
def LexerStepsUptoCardSaid : Prop := Claim7.holds Tryd.pinned (.plain (OpenSpec.upto lexerStepsSpec)) lexerStepsUptoCard

/-- THE SECOND FORM's CARD OF 'salchowlaw09.LexerTokens'. -/
def lexerTokensUptoCard : Claim7 := { stood := { row := lexerTokensUptoRow, standIns := [], harness := (true, "74d2011260c70b611c86c4d3b7f5d11cc5fefff18c715f175ff3522b41f9dd0c"), looks := true }, kinds := [], alts := [], laidByText := true, laidKinds := [.data, .data, .data, .data, .sentinel, .sentinel, .pinned], laidTests := true, laidLooks := .later }
def LexerTokensUptoCardSaid : Prop := Claim7.holds Tryd.pinned (.plain (OpenSpec.upto lexerTokensSpec)) lexerTokensUptoCard

/-- THE SECOND FORM's CARD OF 'salchowlaw09.LexerJoins'. -/
def lexerJoinsUptoCard : Claim7 := { stood := { row := lexerJoinsUptoRow, standIns := [], harness := (true, "74d2011260c70b611c86c4d3b7f5d11cc5fefff18c715f175ff3522b41f9dd0c"), looks := true }, kinds := [], alts := [], laidByText := true, laidKinds := [.data, .data, .data, .data, .sentinel, .sentinel, .pinned], laidTests := true, laidLooks := .later }
def LexerJoinsUptoCardSaid : Prop := Claim7.holds Tryd.pinned (.plain (OpenSpec.upto lexerJoinsSpec)) lexerJoinsUptoCard

/-- THE SECOND FORM's CARD OF 'salchowlaw10.ParserSpelled'. -/
def parserSpelledUptoCard : Claim7 := { stood := { row := parserSpelledUptoRow, standIns := [], harness := (true, "74d2011260c70b611c86c4d3b7f5d11cc5fefff18c715f175ff3522b41f9dd0c"), looks := true }, kinds := [], alts := [], laidByText := true, laidKinds := [.data, .data, .data, .data, .sentinel, .sentinel, .pinned], laidTests := true, laidLooks := .later }
def ParserSpelledUptoCardSaid : Prop := Claim7.holds Tryd.pinned (.plain (OpenSpec.upto parserSpelledSpec)) parserSpelledUptoCard

/-- THE SECOND FORM's CARD OF 'salchowlaw11.PrinterJoins'. -/
def printerJoinsUptoCard : Claim7 := { stood := { row := printerJoinsUptoRow, standIns := [], harness := (true, "74d2011260c70b611c86c4d3b7f5d11cc5fefff18c715f175ff3522b41f9dd0c"), looks := true }, kinds := [], alts := [], laidByText := true, laidKinds := [.data, .data, .data, .data, .sentinel, .sentinel, .pinned], laidTests := true, laidLooks := .later }
def PrinterJoinsUptoCardSaid : Prop := Claim7.holds Tryd.pinned (.plain (OpenSpec.upto printerJoinsSpec)) printerJoinsUptoCard

/-- THE SECOND FORM's CARD OF 'salchowlaw11.PrinterShape'. -/
def printerShapeUptoCard : Claim7 := { stood := { row := printerShapeUptoRow, standIns := [], harness := (true, "74d2011260c70b611c86c4d3b7f5d11cc5fefff18c715f175ff3522b41f9dd0c"), looks := true }, kinds := [], alts := [], laidByText := true, laidKinds := [.data, .data, .data, .data, .sentinel, .sentinel, .pinned], laidTests := true, laidLooks := .later }
def PrinterShapeUptoCardSaid : Prop := Claim7.holds Tryd.pinned (.plain (OpenSpec.upto printerShapeSpec)) printerShapeUptoCard

/-- THE SECOND FORM's CARD OF 'salchowlaw11.PrinterReads'. -/
def printerReadsUptoCard : Claim7 := { stood := { row := printerReadsUptoRow, standIns := [], harness := (true, "74d2011260c70b611c86c4d3b7f5d11cc5fefff18c715f175ff3522b41f9dd0c"), looks := true }, kinds := [], alts := [], laidByText := true, laidKinds := [.data, .data, .data, .data, .sentinel, .sentinel, .pinned], laidTests := true, laidLooks := .later }
def PrinterReadsUptoCardSaid : Prop := Claim7.holds Tryd.pinned (.plain (OpenSpec.upto printerReadsSpec)) printerReadsUptoCard

/-- THE SECOND FORM's CARD OF 'salchowlaw11.PrinterNormalizes'. -/
def printerNormalizesUptoCard : Claim7 := { stood := { row := printerNormalizesUptoRow, standIns := [], harness := (true, "74d2011260c70b611c86c4d3b7f5d11cc5fefff18c715f175ff3522b41f9dd0c"), looks := true }, kinds := [], alts := [], laidByText := true, laidKinds := [.data, .data, .data, .data, .sentinel, .sentinel, .pinned], laidTests := true, laidLooks := .later }
def PrinterNormalizesUptoCardSaid : Prop := Claim7.holds Tryd.pinned (.plain (OpenSpec.upto printerNormalizesSpec)) printerNormalizesUptoCard
end Rows
end Go.Proofs.YtkifdadhojbohaaDoor
