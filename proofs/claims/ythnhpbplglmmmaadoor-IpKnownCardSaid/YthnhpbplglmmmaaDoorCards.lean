/-
  DERIVED. GIVEN WITH THE SEED: THE CARDS: each row of YthnhpbplglmmmaaDoorRows.lean that lists a variable, with what it lists TIED to the program's text (the seventh form; the later family's looks); each row that meets fmt, with fmt's text TOLD by the authors' own Lean function (tested against real Go, not proved from fmt's source: count such statements apart). THE CARD IS WHAT COUNTS. Prove the row's statement (the work); the ties are given (YthnhpbplglmmmaaDoorTie.lean); close each card by the builder's one call (the guide's Derived/Test/ToyasCard.lean, 'card_holds'). Laid BY PROGRAM, IN A SANDBOX (cutbox-door.mjs). By AI agents, Wed Nov 11 2026. No macro, syntax, notation, axiom, sorry.
-/
import Derived.Test.YthnhpbplglmmmaaDoorRows
import GoSem.ClaimSeven
namespace Go.Proofs.YthnhpbplglmmmaaDoor
namespace Rows

/-- THE TIED CARD OF 'bailiwicklaw2.IpShows'. -/
def ipShowsCard : Claim7 := { stood := { row := ipShowsRow, standIns := [], harness := (true, "6359c3c161ca2825ba27de2189e06a5afa14a43acaf1719eebc5f00a6e816183"), looks := true }, kinds := [], alts := [], laidByText := true, laidKinds := [.data, .data, .data, .data, .sentinel, .sentinel, .pinned], laidTests := true, laidLooks := .later }
def IpShowsCardSaid : Prop := Claim7.holds Tryd.pinned (.plain (OpenSpec.ofChange ipShowsSpec)) ipShowsCard

/-- THE TIED CARD OF 'bailiwicklaw2.IpReads'. -/
def ipReadsCard : Claim7 := { stood := { row := ipReadsRow, standIns := [], harness := (true, "6359c3c161ca2825ba27de2189e06a5afa14a43acaf1719eebc5f00a6e816183"), looks := true }, kinds := [], alts := [], laidByText := true, laidKinds := [.data, .data, .data, .data, .sentinel, .sentinel, .pinned], laidTests := true, laidLooks := .later }
def IpReadsCardSaid : Prop := Claim7.holds Tryd.pinned (.plain (OpenSpec.ofChange ipReadsSpec)) ipReadsCard

/-- THE TIED CARD OF 'bailiwicklaw2.IpKnown'. -/
def ipKnownCard : Claim7 := { stood := { row := ipKnownRow, standIns := [], harness := (true, "6359c3c161ca2825ba27de2189e06a5afa14a43acaf1719eebc5f00a6e816183"), looks := true }, kinds := [], alts := [], laidByText := true, laidKinds := [.data, .data, .data, .data, .sentinel, .sentinel, .pinned], laidTests := true, laidLooks := .later }
def IpKnownCardSaid : Prop := Claim7.holds Tryd.pinned (.plain (OpenSpec.ofChange ipKnownSpec)) ipKnownCard

/-- THE SECOND FORM's CARD OF 'bailiwicklaw2.IpShows'. -/
def ipShowsUptoCard : Claim7 := { stood := { row := ipShowsUptoRow, standIns := [], harness := (true, "6359c3c161ca2825ba27de2189e06a5afa14a43acaf1719eebc5f00a6e816183"), looks := true }, kinds := [], alts := [], laidByText := true, laidKinds := [.data, .data, .data, .data, .sentinel, .sentinel, .pinned], laidTests := true, laidLooks := .later }
def IpShowsUptoCardSaid : Prop := Claim7.holds Tryd.pinned (.plain (OpenSpec.upto ipShowsSpec)) ipShowsUptoCard

/-- THE SECOND FORM's CARD OF 'bailiwicklaw2.IpReads'. -/
def ipReadsUptoCard : Claim7 := { stood := { row := ipReadsUptoRow, standIns := [], harness := (true, "6359c3c161ca2825ba27de2189e06a5afa14a43acaf1719eebc5f00a6e816183"), looks := true }, kinds := [], alts := [], laidByText := true, laidKinds := [.data, .data, .data, .data, .sentinel, .sentinel, .pinned], laidTests := true, laidLooks := .later }
def IpReadsUptoCardSaid : Prop := Claim7.holds Tryd.pinned (.plain (OpenSpec.upto ipReadsSpec)) ipReadsUptoCard

/-- THE SECOND FORM's CARD OF 'bailiwicklaw2.IpKnown'. -/
def ipKnownUptoCard : Claim7 := { stood := { row := ipKnownUptoRow, standIns := [], harness := (true, "6359c3c161ca2825ba27de2189e06a5afa14a43acaf1719eebc5f00a6e816183"), looks := true }, kinds := [], alts := [], laidByText := true, laidKinds := [.data, .data, .data, .data, .sentinel, .sentinel, .pinned], laidTests := true, laidLooks := .later }
def IpKnownUptoCardSaid : Prop := Claim7.holds Tryd.pinned (.plain (OpenSpec.upto ipKnownSpec)) ipKnownUptoCard
end Rows
end Go.Proofs.YthnhpbplglmmmaaDoor
