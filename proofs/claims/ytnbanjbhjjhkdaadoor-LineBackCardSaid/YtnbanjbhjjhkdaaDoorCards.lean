/-
  DERIVED. GIVEN WITH THE SEED: THE CARDS: each row of YtnbanjbhjjhkdaaDoorRows.lean that lists a variable, with what it lists TIED to the program's text (the seventh form; the later family's looks); each row that meets fmt, with fmt's text TOLD by the authors' own Lean function (tested against real Go, not proved from fmt's source: count such statements apart). THE CARD IS WHAT COUNTS. Prove the row's statement (the work); the ties are given (YtnbanjbhjjhkdaaDoorTie.lean); close each card by the builder's one call (the guide's Derived/Test/ToyasCard.lean, 'card_holds'). Laid BY PROGRAM, IN A SANDBOX (cutbox-door.mjs). By AI agents, Wed Nov 11 2026. No macro, syntax, notation, axiom, sorry.
-/
import Derived.Test.YtnbanjbhjjhkdaaDoorRows
import GoSem.ClaimSeven
namespace Go.Proofs.YtnbanjbhjjhkdaaDoor
namespace Rows

/-- THE TIED CARD OF 'bailiwicklaw23.LineTexts'. -/
def lineTextsCard : Claim7 := { stood := { row := lineTextsRow, standIns := [], harness := (true, "4cf98723bd7a27a039f18af8ece87c743e032efe5d9c6d5bb65ccd8dd5a6766f"), looks := true }, kinds := [], alts := [], laidByText := true, laidKinds := [.data, .data, .data, .data, .pinned], laidTests := true, laidLooks := .later }
def LineTextsCardSaid : Prop := Claim7.holds Tryd.pinned (.plain (OpenSpec.ofChange lineTextsSpec)) lineTextsCard

/-- THE TIED CARD OF 'bailiwicklaw23.LineKnown'. -/
def lineKnownCard : Claim7 := { stood := { row := lineKnownRow, standIns := [], harness := (true, "4cf98723bd7a27a039f18af8ece87c743e032efe5d9c6d5bb65ccd8dd5a6766f"), looks := true }, kinds := [], alts := [], laidByText := true, laidKinds := [.data, .data, .data, .data, .pinned], laidTests := true, laidLooks := .later }
def LineKnownCardSaid : Prop := Claim7.holds Tryd.pinned (.plain (OpenSpec.ofChange lineKnownSpec)) lineKnownCard

/-- THE TIED CARD OF 'bailiwicklaw23.LinePuts'. -/
def linePutsCard : Claim7 := { stood := { row := linePutsRow, standIns := [], harness := (true, "4cf98723bd7a27a039f18af8ece87c743e032efe5d9c6d5bb65ccd8dd5a6766f"), looks := true }, kinds := [], alts := [], laidByText := true, laidKinds := [.data, .data, .data, .data, .pinned], laidTests := true, laidLooks := .later }
def LinePutsCardSaid : Prop := Claim7.holds Tryd.pinned (.plain (OpenSpec.ofChange linePutsSpec)) linePutsCard

/-- THE TIED CARD OF 'bailiwicklaw23.LineBack'. -/
def lineBackCard : Claim7 := { stood := { row := lineBackRow, standIns := [], harness := (true, "4cf98723bd7a27a039f18af8ece87c743e032efe5d9c6d5bb65ccd8dd5a6766f"), looks := true }, kinds := [], alts := [], laidByText := true, laidKinds := [.data, .data, .data, .data, .pinned], laidTests := true, laidLooks := .later }
def LineBackCardSaid : Prop := Claim7.holds Tryd.pinned (.plain (OpenSpec.ofChange lineBackSpec)) lineBackCard

/-- THE SECOND FORM's CARD OF 'bailiwicklaw23.LineTexts'. -/
def lineTextsUptoCard : Claim7 := { stood := { row := lineTextsUptoRow, standIns := [], harness := (true, "4cf98723bd7a27a039f18af8ece87c743e032efe5d9c6d5bb65ccd8dd5a6766f"), looks := true }, kinds := [], alts := [], laidByText := true, laidKinds := [.data, .data, .data, .data, .pinned], laidTests := true, laidLooks := .later }
def LineTextsUptoCardSaid : Prop := Claim7.holds Tryd.pinned (.plain (OpenSpec.upto lineTextsSpec)) lineTextsUptoCard

/-- THE SECOND FORM's CARD OF 'bailiwicklaw23.LineKnown'. -/
def lineKnownUptoCard : Claim7 := { stood := { row := lineKnownUptoRow, standIns := [], harness := (true, "4cf98723bd7a27a039f18af8ece87c743e032efe5d9c6d5bb65ccd8dd5a6766f"), looks := true }, kinds := [], alts := [], laidByText := true, laidKinds := [.data, .data, .data, .data, .pinned], laidTests := true, laidLooks := .later }
def LineKnownUptoCardSaid : Prop := Claim7.holds Tryd.pinned (.plain (OpenSpec.upto lineKnownSpec)) lineKnownUptoCard

/-- THE SECOND FORM's CARD OF 'bailiwicklaw23.LinePuts'. -/
def linePutsUptoCard : Claim7 := { stood := { row := linePutsUptoRow, standIns := [], harness := (true, "4cf98723bd7a27a039f18af8ece87c743e032efe5d9c6d5bb65ccd8dd5a6766f"), looks := true }, kinds := [], alts := [], laidByText := true, laidKinds := [.data, .data, .data, .data, .pinned], laidTests := true, laidLooks := .later }
def LinePutsUptoCardSaid : Prop := Claim7.holds Tryd.pinned (.plain (OpenSpec.upto linePutsSpec)) linePutsUptoCard

/-- THE SECOND FORM's CARD OF 'bailiwicklaw23.LineBack'. -/
def lineBackUptoCard : Claim7 := { stood := { row := lineBackUptoRow, standIns := [], harness := (true, "4cf98723bd7a27a039f18af8ece87c743e032efe5d9c6d5bb65ccd8dd5a6766f"), looks := true }, kinds := [], alts := [], laidByText := true, laidKinds := [.data, .data, .data, .data, .pinned], laidTests := true, laidLooks := .later }
def LineBackUptoCardSaid : Prop := Claim7.holds Tryd.pinned (.plain (OpenSpec.upto lineBackSpec)) lineBackUptoCard
end Rows
end Go.Proofs.YtnbanjbhjjhkdaaDoor
