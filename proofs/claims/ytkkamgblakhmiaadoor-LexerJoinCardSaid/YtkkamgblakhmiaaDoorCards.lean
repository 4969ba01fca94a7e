/-
  DERIVED. GIVEN WITH THE SEED: THE CARDS: each row of YtkkamgblakhmiaaDoorRows.lean that lists a variable, with what it lists TIED to the program's text (the seventh form; the later family's looks); each row that meets fmt, with fmt's text TOLD by the authors' own Lean function (tested against real Go, not proved from fmt's source: count such statements apart). THE CARD IS WHAT COUNTS. Prove the row's statement (the work); the ties are given (YtkkamgblakhmiaaDoorTie.lean); close each card by the builder's one call (the guide's Derived/Test/ToyasCard.lean, 'card_holds'). Laid BY PROGRAM, IN A SANDBOX (cutbox-door.mjs). By AI agents, Wed Nov 11 2026. No macro, syntax, notation, axiom, sorry.
-/
import Derived.Test.YtkkamgblakhmiaaDoorRows
import GoSem.ClaimSeven
namespace Go.Proofs.YtkkamgblakhmiaaDoor
namespace Rows

/-- THE TIED CARD OF 'framewiselaw24.LexerLex'. -/
def lexerLexCard : Claim7 := { stood := { row := lexerLexRow, standIns := [], harness := (true, "7671f4842a6af9b8c55340be6397a37301864fc349a4a3fb4ab2d34cebcdfb83"), looks := true }, kinds := [], alts := [], laidByText := true, laidKinds := [.data, .data, .data, .sentinel, .sentinel], laidTests := true, laidLooks := .later }
def LexerLexCardSaid : Prop := Claim7.holds Tryd.pinned (.plain (OpenSpec.ofChange lexerLexSpec)) lexerLexCard

/-- THE TIED CARD OF 'framewiselaw24.LexerLong'. -/
def lexerLongCard : Claim7 := { stood := { row := lexerLongRow, standIns := [], harness := (true, "7671f4842a6af9b8c55340be6397a37301864fc349a4a3fb4ab2d34cebcdfb83"), looks := true }, kinds := [], alts := [], laidByText := true, laidKinds := [.data, .data, .data, .sentinel, .sentinel], laidTests := true, laidLooks := .later }
def LexerLongCardSaid : Prop := Claim7.holds Tryd.pinned (.plain (OpenSpec.ofChange lexerLongSpec)) lexerLongCard

/-- THE TIED CARD OF 'framewiselaw24.LexerCover'. -/
def lexerCoverCard : Claim7 := { stood := { row := lexerCoverRow, standIns := [], harness := (true, "7671f4842a6af9b8c55340be6397a37301864fc349a4a3fb4ab2d34cebcdfb83"), looks := true }, kinds := [], alts := [], laidByText := true, laidKinds := [.data, .data, .data, .sentinel, .sentinel], laidTests := true, laidLooks := .later }
def LexerCoverCardSaid : Prop := Claim7.holds Tryd.pinned (.plain (OpenSpec.ofChange lexerCoverSpec)) lexerCoverCard

/-- THE TIED CARD OF 'framewiselaw24.LexerLongest'. -/
def lexerLongestCard : Claim7 := { stood := { row := lexerLongestRow, standIns := [], harness := (true, "7671f4842a6af9b8c55340be6397a37301864fc349a4a3fb4ab2d34cebcdfb83"), looks := true }, kinds := [], alts := [], laidByText := true, laidKinds := [.data, .data, .data, .sentinel, .sentinel], laidTests := true, laidLooks := .later }
def LexerLongestCardSaid : Prop := Claim7.holds Tryd.pinned (.plain (OpenSpec.ofChange lexerLongestSpec)) lexerLongestCard

/-- THE TIED CARD OF 'framewiselaw24.LexerParts'. -/
def lexerPartsCard : Claim7 := { stood := { row := lexerPartsRow, standIns := [], harness := (true, "7671f4842a6af9b8c55340be6397a37301864fc349a4a3fb4ab2d34cebcdfb83"), looks := true }, kinds := [], alts := [], laidByText := true, laidKinds := [.data, .data, .data, .sentinel, .sentinel], laidTests := true, laidLooks := .later }
def LexerPartsCardSaid : Prop := Claim7.holds Tryd.pinned (.plain (OpenSpec.ofChange lexerPartsSpec)) lexerPartsCard

/-- THE TIED CARD OF 'framewiselaw24.LexerWords'. -/
def lexerWordsCard : Claim7 := { stood := { row := lexerWordsRow, standIns := [], harness := (true, "7671f4842a6af9b8c55340be6397a37301864fc349a4a3fb4ab2d34cebcdfb83"), looks := true }, kinds := [], alts := [], laidByText := true, laidKinds := [.data, .data, .data, .sentinel, .sentinel], laidTests := true, laidLooks := .later }
def LexerWordsCardSaid : Prop := Claim7.holds Tryd.pinned (.plain (OpenSpec.ofChange lexerWordsSpec)) lexerWordsCard

/-- THE TIED CARD OF 'framewiselaw24.LexerJoin'. -/
def lexerJoinCard : Claim7 := { stood := { row := lexerJoinRow, standIns := [], harness := (true, "7671f4842a6af9b8c55340be6397a37301864fc349a4a3fb4ab2d34cebcdfb83"), looks := true }, kinds := [], alts := [], laidByText := true, laidKinds := [.data, .data, .data, .sentinel, .sentinel], laidTests := true, laidLooks := .later }
def LexerJoinCardSaid : Prop := Claim7.holds Tryd.pinned (.plain (OpenSpec.ofChange lexerJoinSpec)) lexerJoinCard

/-- THE SECOND FORM's CARD OF 'framewiselaw24.LexerLex'. -/
def lexerLexUptoCard : Claim7 := { stood := { row := lexerLexUptoRow, standIns := [], harness := (true, "7671f4842a6af9b8c55340be6397a37301864fc349a4a3fb4ab2d34cebcdfb83"), looks := true }, kinds := [], alts := [], laidByText := true, laidKinds := [.data, .data, .data, .sentinel, .sentinel], laidTests := true, laidLooks := .later }
def LexerLexUptoCardSaid : Prop := Claim7.holds Tryd.pinned (.plain (OpenSpec.upto lexerLexSpec)) lexerLexUptoCard

/-- THE SECOND FORM's CARD OF 'framewiselaw24.LexerLong'. -/
def lexerLongUptoCard : Claim7 := { stood := { row := lexerLongUptoRow, standIns := [], harness := (true, "7671f4842a6af9b8c55340be6397a37301864fc349a4a3fb4ab2d34cebcdfb83"), looks := true }, kinds := [], alts := [], laidByText := true, laidKinds := [.data, .data, .data, .sentinel, .sentinel], laidTests := true, laidLooks := .later }
def LexerLongUptoCardSaid : Prop := Claim7.holds Tryd.pinned (.plain (OpenSpec.upto lexerLongSpec)) lexerLongUptoCard

/-- THE SECOND FORM's CARD OF 'framewiselaw24.LexerCover'. -/
def lexerCoverUptoCard : Claim7 := { stood := { row := lexerCoverUptoRow, standIns := [], harness := (true, "7671f4842a6af9b8c55340be6397a37301864fc349a4a3fb4ab2d34cebcdfb83"), looks := true }, kinds := [], alts := [], laidByText := true, laidKinds := [.data, .data, .data, .sentinel, .sentinel], laidTests := true, laidLooks := .later }
def LexerCoverUptoCardSaid : Prop := Claim7.holds Tryd.pinned (.plain (OpenSpec.upto lexerCoverSpec)) lexerCoverUptoCard

/-- THE SECOND FORM's CARD OF 'framewiselaw24.LexerLongest'. -/
def lexerLongestUptoCard : Claim7 := { stood := { row := lexerLongestUptoRow, standIns := [], harness := (true, "7671f4842a6af9b8c55340be6397a37301864fc349a4a3fb4ab2d34cebcdfb83"), looks := true }, kinds := [], alts := [], laidByText := true, laidKinds := [.data, .data, .data, .sentinel, .sentinel], laidTests := true, laidLooks := .later }
def LexerLongestUptoCardSaid : Prop := Claim7.holds Tryd.pinned (.plain (OpenSpec.upto lexerLongestSpec)) lexerLongestUptoCard

/-- THE SECOND FORM's CARD OF 'framewiselaw24.LexerParts'. -/
def lexerPartsUptoCard : Claim7 := { stood := { row := lexerPartsUptoRow, standIns := [], harness := (true, "7671f4842a6af9b8c55340be6397a37301864fc349a4a3fb4ab2d34cebcdfb83"), looks := true }, kinds := [], alts := [], laidByText := true, laidKinds := [.data, .data, .data, .sentinel, .sentinel], laidTests := true, laidLooks := .later }
def LexerPartsUptoCardSaid : Prop := Claim7.holds Tryd.pinned (.plain (OpenSpec.upto lexerPartsSpec)) lexerPartsUptoCard

/-- THE SECOND FORM's CARD OF 'framewiselaw24.LexerWords'. -/
def lexerWordsUptoCard : Claim7 := { stood := { row := lexerWordsUptoRow, standIns := [], harness := (true, "7671f4842a6af9b8c55340be6397a37301864fc349a4a3fb4ab2d34cebcdfb83"), looks := true }, kinds := [], alts := [], laidByText := true, laidKinds := [.data, .data, .data, .sentinel, .sentinel], laidTests := true, laidLooks := .later }
def LexerWordsUptoCardSaid : Prop := Claim7.holds Tryd.pinned (.plain (OpenSpec.upto lexerWordsSpec)) lexerWordsUptoCard

/-- THE SECOND FORM's CARD OF 'framewiselaw24.LexerJoin'. -/
def lexerJoinUptoCard : Claim7 := { stood := { row := lexerJoinUptoRow, standIns := [], harness := (true, "7671f4842a6af9b8c55340be6397a37301864fc349a4a3fb4ab2d34cebcdfb83"), looks := true }, kinds := [], alts := [], laidByText := true, laidKinds := [.data, .data, .data, .sentinel, .sentinel], laidTests := true, laidLooks := .later }
def LexerJoinUptoCardSaid : Prop := Claim7.holds Tryd.pinned (.plain (OpenSpec.upto lexerJoinSpec)) lexerJoinUptoCard
end Rows
end Go.Proofs.YtkkamgblakhmiaaDoor
