/-
  No cell of these rows narrows 'for every input' (looked for: loops, veiled, ifaces, maps, wideKeys, modest, calm, conditions, laid).
  DERIVED. THE GIVEN ROWS OF THIS SEAT. 18 by the template 'for every input the law returns true; each argument reads behind the call as it read before'; 0 by the template 'total and deterministic' (their statements: YtljnnhloinbjhaaTotals.lean).
  GIVEN WITH THE SEED: the statements are not yours to turn. If you find one false, say at which input.
  Laid BY PROGRAM, IN A SANDBOX (cutbox-rows.mjs): the forced cells as the released guide's own fill.sh prints them over the translation 996b0a5902e69461… (all of the seat's roots in one cut). By AI agents, Wed Nov 11 2026. No macro, syntax, notation, axiom, sorry.
-/
import Derived.Test.YtljnnhloinbjhaaChecked
import GoSem.Claim
import GoSem.ClaimJoined
import GoSem.ClaimMapViews
import Derived.JoinedTies
import Derived.KernelRfl
namespace Go.Proofs.Ytljnnhloinbjhaa
/- THE CELL 'sum', in the pinned program and in every row, IS THE sha256 OF THE DUMP (.gsa) THAT YtljnnhloinbjhaaProg.lean LOADS. Nothing in Lean hashes anything: it is a label: what it is worth is what the hold of that sum in a sandbox is worth. -/
noncomputable def Try.pinned : Pinned := { name := "ytljnnhloinbjhaa", sum := "996b0a5902e694613d32d1c96f7703afc5b687539e46dcb1b949d3c89bd109bf", checked := Try.checked }
namespace Rows
def none {H : Type} : Left H := { results := [], args := [] }

/-- 'bailiwicklaw6.FrameKnown': WHATEVER THE INPUT: true; the input reads as it did. -/
def frameKnownSpec : ChangeSpec := { name := "frameKnown", fn := fun _ => fun
  | [] => { results := [.lit (.bool true)], args := [] }
  | _ => none }
def frameKnownRow : OpenClaim := { program := "ytljnnhloinbjhaa", sum := "996b0a5902e694613d32d1c96f7703afc5b687539e46dcb1b949d3c89bd109bf", func := "bailiwick/bailiwicklaw6.FrameKnown", spec := "frameKnown", unfollowed := true, recurses := true, apart := false }
def FrameKnownSaid : Prop := frameKnownRow.holds Try.pinned (OpenSpec.ofChange frameKnownSpec)

/-- ITS FALSE NEIGHBOUR: 'it returns false'. Refute it at one input. -/
def frameKnownWrong : ChangeSpec := { name := "frameKnown", fn := fun _ => fun
  | [] => { results := [.lit (.bool false)], args := [] }
  | _ => none }
def FrameKnownWrongFalsely : Prop := frameKnownRow.holds Try.pinned (OpenSpec.ofChange frameKnownWrong)

/-- 'bailiwicklaw6.FrameReads': WHATEVER THE INPUT: true; the input reads as it did. -/
def frameReadsSpec : ChangeSpec := { name := "frameReads", fn := fun _ => fun
  | [d] => { results := [.lit (.bool true)], args := [d] }
  | _ => none }
def frameReadsRow : OpenClaim := { program := "ytljnnhloinbjhaa", sum := "996b0a5902e694613d32d1c96f7703afc5b687539e46dcb1b949d3c89bd109bf", func := "bailiwick/bailiwicklaw6.FrameReads", spec := "frameReads", unfollowed := true, recurses := true, apart := false }
def FrameReadsSaid : Prop := frameReadsRow.holds Try.pinned (OpenSpec.ofChange frameReadsSpec)

/-- ITS FALSE NEIGHBOUR: 'it returns false'. Refute it at one input. -/
def frameReadsWrong : ChangeSpec := { name := "frameReads", fn := fun _ => fun
  | [d] => { results := [.lit (.bool false)], args := [d] }
  | _ => none }
def FrameReadsWrongFalsely : Prop := frameReadsRow.holds Try.pinned (OpenSpec.ofChange frameReadsWrong)

/-- 'bailiwicklaw6.FrameQuotes': WHATEVER THE INPUT: true; the input reads as it did. -/
def frameQuotesSpec : ChangeSpec := { name := "frameQuotes", fn := fun _ => fun
  | [d] => { results := [.lit (.bool true)], args := [d] }
  | _ => none }
def frameQuotesRow : OpenClaim := { program := "ytljnnhloinbjhaa", sum := "996b0a5902e694613d32d1c96f7703afc5b687539e46dcb1b949d3c89bd109bf", func := "bailiwick/bailiwicklaw6.FrameQuotes", spec := "frameQuotes", unfollowed := true, recurses := true, apart := false }
def FrameQuotesSaid : Prop := frameQuotesRow.holds Try.pinned (OpenSpec.ofChange frameQuotesSpec)

/-- ITS FALSE NEIGHBOUR: 'it returns false'. Refute it at one input. -/
def frameQuotesWrong : ChangeSpec := { name := "frameQuotes", fn := fun _ => fun
  | [d] => { results := [.lit (.bool false)], args := [d] }
  | _ => none }
def FrameQuotesWrongFalsely : Prop := frameQuotesRow.holds Try.pinned (OpenSpec.ofChange frameQuotesWrong)

/-- 'bailiwicklaw6.FrameShort': WHATEVER THE INPUT: true; the input reads as it did. -/
def frameShortSpec : ChangeSpec := { name := "frameShort", fn := fun _ => fun
  | [d1, d2] => { results := [.lit (.bool true)], args := [d1, d2] }
  | _ => none }
def frameShortRow : OpenClaim := { program := "ytljnnhloinbjhaa", sum := "996b0a5902e694613d32d1c96f7703afc5b687539e46dcb1b949d3c89bd109bf", func := "bailiwick/bailiwicklaw6.FrameShort", spec := "frameShort", unfollowed := true, recurses := true, apart := false }
def FrameShortSaid : Prop := frameShortRow.holds Try.pinned (OpenSpec.ofChange frameShortSpec)

/-- ITS FALSE NEIGHBOUR: 'it returns false'. Refute it at one input. -/
def frameShortWrong : ChangeSpec := { name := "frameShort", fn := fun _ => fun
  | [d1, d2] => { results := [.lit (.bool false)], args := [d1, d2] }
  | _ => none }
def FrameShortWrongFalsely : Prop := frameShortRow.holds Try.pinned (OpenSpec.ofChange frameShortWrong)

/-- 'bailiwicklaw6.FrameProtos': WHATEVER THE INPUT: true; the input reads as it did. -/
def frameProtosSpec : ChangeSpec := { name := "frameProtos", fn := fun _ => fun
  | [d] => { results := [.lit (.bool true)], args := [d] }
  | _ => none }
def frameProtosRow : OpenClaim := { program := "ytljnnhloinbjhaa", sum := "996b0a5902e694613d32d1c96f7703afc5b687539e46dcb1b949d3c89bd109bf", func := "bailiwick/bailiwicklaw6.FrameProtos", spec := "frameProtos", unfollowed := true, recurses := true, apart := false }
def FrameProtosSaid : Prop := frameProtosRow.holds Try.pinned (OpenSpec.ofChange frameProtosSpec)

/-- ITS FALSE NEIGHBOUR: 'it returns false'. Refute it at one input. -/
def frameProtosWrong : ChangeSpec := { name := "frameProtos", fn := fun _ => fun
  | [d] => { results := [.lit (.bool false)], args := [d] }
  | _ => none }
def FrameProtosWrongFalsely : Prop := frameProtosRow.holds Try.pinned (OpenSpec.ofChange frameProtosWrong)

/-- 'bailiwicklaw21.TurnEnds': WHATEVER THE INPUT: true; the input reads as it did. -/
def turnEndsSpec : ChangeSpec := { name := "turnEnds", fn := fun _ => fun
  | [d1, d2] => { results := [.lit (.bool true)], args := [d1, d2] }
  | _ => none }
def turnEndsRow : OpenClaim := { program := "ytljnnhloinbjhaa", sum := "996b0a5902e694613d32d1c96f7703afc5b687539e46dcb1b949d3c89bd109bf", func := "bailiwick/bailiwicklaw21.TurnEnds", spec := "turnEnds", unfollowed := true, recurses := true, apart := false }
def TurnEndsSaid : Prop := turnEndsRow.holds Try.pinned (OpenSpec.ofChange turnEndsSpec)

/-- ITS FALSE NEIGHBOUR: 'it returns false'. Refute it at one input. -/
def turnEndsWrong : ChangeSpec := { name := "turnEnds", fn := fun _ => fun
  | [d1, d2] => { results := [.lit (.bool false)], args := [d1, d2] }
  | _ => none }
def TurnEndsWrongFalsely : Prop := turnEndsRow.holds Try.pinned (OpenSpec.ofChange turnEndsWrong)

/-- 'bailiwicklaw21.TurnBack': WHATEVER THE INPUT: true; the input reads as it did. -/
def turnBackSpec : ChangeSpec := { name := "turnBack", fn := fun _ => fun
  | [d1, d2, d3] => { results := [.lit (.bool true)], args := [d1, d2, d3] }
  | _ => none }
def turnBackRow : OpenClaim := { program := "ytljnnhloinbjhaa", sum := "996b0a5902e694613d32d1c96f7703afc5b687539e46dcb1b949d3c89bd109bf", func := "bailiwick/bailiwicklaw21.TurnBack", spec := "turnBack", unfollowed := true, recurses := true, apart := false }
def TurnBackSaid : Prop := turnBackRow.holds Try.pinned (OpenSpec.ofChange turnBackSpec)

/-- ITS FALSE NEIGHBOUR: 'it returns false'. Refute it at one input. -/
def turnBackWrong : ChangeSpec := { name := "turnBack", fn := fun _ => fun
  | [d1, d2, d3] => { results := [.lit (.bool false)], args := [d1, d2, d3] }
  | _ => none }
def TurnBackWrongFalsely : Prop := turnBackRow.holds Try.pinned (OpenSpec.ofChange turnBackWrong)

/-- 'bailiwicklaw21.TurnLess': WHATEVER THE INPUT: true; the input reads as it did. -/
def turnLessSpec : ChangeSpec := { name := "turnLess", fn := fun _ => fun
  | [d] => { results := [.lit (.bool true)], args := [d] }
  | _ => none }
def turnLessRow : OpenClaim := { program := "ytljnnhloinbjhaa", sum := "996b0a5902e694613d32d1c96f7703afc5b687539e46dcb1b949d3c89bd109bf", func := "bailiwick/bailiwicklaw21.TurnLess", spec := "turnLess", unfollowed := true, recurses := true, apart := false }
def TurnLessSaid : Prop := turnLessRow.holds Try.pinned (OpenSpec.ofChange turnLessSpec)

/-- ITS FALSE NEIGHBOUR: 'it returns false'. Refute it at one input. -/
def turnLessWrong : ChangeSpec := { name := "turnLess", fn := fun _ => fun
  | [d] => { results := [.lit (.bool false)], args := [d] }
  | _ => none }
def TurnLessWrongFalsely : Prop := turnLessRow.holds Try.pinned (OpenSpec.ofChange turnLessWrong)

/-- 'bailiwicklaw21.TurnKnown': WHATEVER THE INPUT: true; the input reads as it did. -/
def turnKnownSpec : ChangeSpec := { name := "turnKnown", fn := fun _ => fun
  | [] => { results := [.lit (.bool true)], args := [] }
  | _ => none }
def turnKnownRow : OpenClaim := { program := "ytljnnhloinbjhaa", sum := "996b0a5902e694613d32d1c96f7703afc5b687539e46dcb1b949d3c89bd109bf", func := "bailiwick/bailiwicklaw21.TurnKnown", spec := "turnKnown", unfollowed := true, recurses := true, apart := false }
def TurnKnownSaid : Prop := turnKnownRow.holds Try.pinned (OpenSpec.ofChange turnKnownSpec)

/-- ITS FALSE NEIGHBOUR: 'it returns false'. Refute it at one input. -/
def turnKnownWrong : ChangeSpec := { name := "turnKnown", fn := fun _ => fun
  | [] => { results := [.lit (.bool false)], args := [] }
  | _ => none }
def TurnKnownWrongFalsely : Prop := turnKnownRow.holds Try.pinned (OpenSpec.ofChange turnKnownWrong)

/-- 'bailiwicklaw21.TurnTexts': WHATEVER THE INPUT: true; the input reads as it did. -/
def turnTextsSpec : ChangeSpec := { name := "turnTexts", fn := fun _ => fun
  | [d1, d2] => { results := [.lit (.bool true)], args := [d1, d2] }
  | _ => none }
def turnTextsRow : OpenClaim := { program := "ytljnnhloinbjhaa", sum := "996b0a5902e694613d32d1c96f7703afc5b687539e46dcb1b949d3c89bd109bf", func := "bailiwick/bailiwicklaw21.TurnTexts", spec := "turnTexts", unfollowed := true, recurses := true, apart := false }
def TurnTextsSaid : Prop := turnTextsRow.holds Try.pinned (OpenSpec.ofChange turnTextsSpec)

/-- ITS FALSE NEIGHBOUR: 'it returns false'. Refute it at one input. -/
def turnTextsWrong : ChangeSpec := { name := "turnTexts", fn := fun _ => fun
  | [d1, d2] => { results := [.lit (.bool false)], args := [d1, d2] }
  | _ => none }
def TurnTextsWrongFalsely : Prop := turnTextsRow.holds Try.pinned (OpenSpec.ofChange turnTextsWrong)

/-- 'bailiwicklaw21.TurnOrder': WHATEVER THE INPUT: true; the input reads as it did. -/
def turnOrderSpec : ChangeSpec := { name := "turnOrder", fn := fun _ => fun
  | [d1, d2, d3] => { results := [.lit (.bool true)], args := [d1, d2, d3] }
  | _ => none }
def turnOrderRow : OpenClaim := { program := "ytljnnhloinbjhaa", sum := "996b0a5902e694613d32d1c96f7703afc5b687539e46dcb1b949d3c89bd109bf", func := "bailiwick/bailiwicklaw21.TurnOrder", spec := "turnOrder", unfollowed := true, recurses := true, apart := false }
def TurnOrderSaid : Prop := turnOrderRow.holds Try.pinned (OpenSpec.ofChange turnOrderSpec)

/-- ITS FALSE NEIGHBOUR: 'it returns false'. Refute it at one input. -/
def turnOrderWrong : ChangeSpec := { name := "turnOrder", fn := fun _ => fun
  | [d1, d2, d3] => { results := [.lit (.bool false)], args := [d1, d2, d3] }
  | _ => none }
def TurnOrderWrongFalsely : Prop := turnOrderRow.holds Try.pinned (OpenSpec.ofChange turnOrderWrong)

/-- 'bailiwicklaw21.TurnStreams': WHATEVER THE INPUT: true; the input reads as it did. -/
def turnStreamsSpec : ChangeSpec := { name := "turnStreams", fn := fun _ => fun
  | [d1, d2, d3] => { results := [.lit (.bool true)], args := [d1, d2, d3] }
  | _ => none }
def turnStreamsRow : OpenClaim := { program := "ytljnnhloinbjhaa", sum := "996b0a5902e694613d32d1c96f7703afc5b687539e46dcb1b949d3c89bd109bf", func := "bailiwick/bailiwicklaw21.TurnStreams", spec := "turnStreams", unfollowed := true, recurses := true, apart := false }
def TurnStreamsSaid : Prop := turnStreamsRow.holds Try.pinned (OpenSpec.ofChange turnStreamsSpec)

/-- ITS FALSE NEIGHBOUR: 'it returns false'. Refute it at one input. -/
def turnStreamsWrong : ChangeSpec := { name := "turnStreams", fn := fun _ => fun
  | [d1, d2, d3] => { results := [.lit (.bool false)], args := [d1, d2, d3] }
  | _ => none }
def TurnStreamsWrongFalsely : Prop := turnStreamsRow.holds Try.pinned (OpenSpec.ofChange turnStreamsWrong)

/-- 'bailiwicklaw22.InnerFaults': WHATEVER THE INPUT: true; the input reads as it did. -/
def innerFaultsSpec : ChangeSpec := { name := "innerFaults", fn := fun _ => fun
  | [d1, d2, d3] => { results := [.lit (.bool true)], args := [d1, d2, d3] }
  | _ => none }
def innerFaultsRow : OpenClaim := { program := "ytljnnhloinbjhaa", sum := "996b0a5902e694613d32d1c96f7703afc5b687539e46dcb1b949d3c89bd109bf", func := "bailiwick/bailiwicklaw22.InnerFaults", spec := "innerFaults", unfollowed := true, recurses := true, apart := false }
def InnerFaultsSaid : Prop := innerFaultsRow.holds Try.pinned (OpenSpec.ofChange innerFaultsSpec)

/-- ITS FALSE NEIGHBOUR: 'it returns false'. Refute it at one input. -/
def innerFaultsWrong : ChangeSpec := { name := "innerFaults", fn := fun _ => fun
  | [d1, d2, d3] => { results := [.lit (.bool false)], args := [d1, d2, d3] }
  | _ => none }
def InnerFaultsWrongFalsely : Prop := innerFaultsRow.holds Try.pinned (OpenSpec.ofChange innerFaultsWrong)

/-- 'bailiwicklaw22.InnerQuotes': WHATEVER THE INPUT: true; the input reads as it did. -/
def innerQuotesSpec : ChangeSpec := { name := "innerQuotes", fn := fun _ => fun
  | [d1, d2] => { results := [.lit (.bool true)], args := [d1, d2] }
  | _ => none }
def innerQuotesRow : OpenClaim := { program := "ytljnnhloinbjhaa", sum := "996b0a5902e694613d32d1c96f7703afc5b687539e46dcb1b949d3c89bd109bf", func := "bailiwick/bailiwicklaw22.InnerQuotes", spec := "innerQuotes", unfollowed := true, recurses := true, apart := false }
def InnerQuotesSaid : Prop := innerQuotesRow.holds Try.pinned (OpenSpec.ofChange innerQuotesSpec)

/-- ITS FALSE NEIGHBOUR: 'it returns false'. Refute it at one input. -/
def innerQuotesWrong : ChangeSpec := { name := "innerQuotes", fn := fun _ => fun
  | [d1, d2] => { results := [.lit (.bool false)], args := [d1, d2] }
  | _ => none }
def InnerQuotesWrongFalsely : Prop := innerQuotesRow.holds Try.pinned (OpenSpec.ofChange innerQuotesWrong)

/-- 'bailiwicklaw22.InnerKnown': WHATEVER THE INPUT: true; the input reads as it did. -/
def innerKnownSpec : ChangeSpec := { name := "innerKnown", fn := fun _ => fun
  | [] => { results := [.lit (.bool true)], args := [] }
  | _ => none }
def innerKnownRow : OpenClaim := { program := "ytljnnhloinbjhaa", sum := "996b0a5902e694613d32d1c96f7703afc5b687539e46dcb1b949d3c89bd109bf", func := "bailiwick/bailiwicklaw22.InnerKnown", spec := "innerKnown", unfollowed := true, recurses := true, apart := false }
def InnerKnownSaid : Prop := innerKnownRow.holds Try.pinned (OpenSpec.ofChange innerKnownSpec)

/-- ITS FALSE NEIGHBOUR: 'it returns false'. Refute it at one input. -/
def innerKnownWrong : ChangeSpec := { name := "innerKnown", fn := fun _ => fun
  | [] => { results := [.lit (.bool false)], args := [] }
  | _ => none }
def InnerKnownWrongFalsely : Prop := innerKnownRow.holds Try.pinned (OpenSpec.ofChange innerKnownWrong)

/-- 'bailiwicklaw22.InnerTurns': WHATEVER THE INPUT: true; the input reads as it did. -/
def innerTurnsSpec : ChangeSpec := { name := "innerTurns", fn := fun _ => fun
  | [d1, d2] => { results := [.lit (.bool true)], args := [d1, d2] }
  | _ => none }
def innerTurnsRow : OpenClaim := { program := "ytljnnhloinbjhaa", sum := "996b0a5902e694613d32d1c96f7703afc5b687539e46dcb1b949d3c89bd109bf", func := "bailiwick/bailiwicklaw22.InnerTurns", spec := "innerTurns", unfollowed := true, recurses := true, apart := false }
def InnerTurnsSaid : Prop := innerTurnsRow.holds Try.pinned (OpenSpec.ofChange innerTurnsSpec)

/-- ITS FALSE NEIGHBOUR: 'it returns false'. Refute it at one input. -/
def innerTurnsWrong : ChangeSpec := { name := "innerTurns", fn := fun _ => fun
  | [d1, d2] => { results := [.lit (.bool false)], args := [d1, d2] }
  | _ => none }
def InnerTurnsWrongFalsely : Prop := innerTurnsRow.holds Try.pinned (OpenSpec.ofChange innerTurnsWrong)

/-- 'bailiwicklaw22.InnerBack': WHATEVER THE INPUT: true; the input reads as it did. -/
def innerBackSpec : ChangeSpec := { name := "innerBack", fn := fun _ => fun
  | [d1, d2] => { results := [.lit (.bool true)], args := [d1, d2] }
  | _ => none }
def innerBackRow : OpenClaim := { program := "ytljnnhloinbjhaa", sum := "996b0a5902e694613d32d1c96f7703afc5b687539e46dcb1b949d3c89bd109bf", func := "bailiwick/bailiwicklaw22.InnerBack", spec := "innerBack", unfollowed := true, recurses := true, apart := false }
def InnerBackSaid : Prop := innerBackRow.holds Try.pinned (OpenSpec.ofChange innerBackSpec)

/-- ITS FALSE NEIGHBOUR: 'it returns false'. Refute it at one input. -/
def innerBackWrong : ChangeSpec := { name := "innerBack", fn := fun _ => fun
  | [d1, d2] => { results := [.lit (.bool false)], args := [d1, d2] }
  | _ => none }
def InnerBackWrongFalsely : Prop := innerBackRow.holds Try.pinned (OpenSpec.ofChange innerBackWrong)

/-- 'bailiwicklaw22.InnerSums': WHATEVER THE INPUT: true; the input reads as it did. -/
def innerSumsSpec : ChangeSpec := { name := "innerSums", fn := fun _ => fun
  | [d1, d2] => { results := [.lit (.bool true)], args := [d1, d2] }
  | _ => none }
def innerSumsRow : OpenClaim := { program := "ytljnnhloinbjhaa", sum := "996b0a5902e694613d32d1c96f7703afc5b687539e46dcb1b949d3c89bd109bf", func := "bailiwick/bailiwicklaw22.InnerSums", spec := "innerSums", unfollowed := true, recurses := true, apart := false }
def InnerSumsSaid : Prop := innerSumsRow.holds Try.pinned (OpenSpec.ofChange innerSumsSpec)

/-- ITS FALSE NEIGHBOUR: 'it returns false'. Refute it at one input. -/
def innerSumsWrong : ChangeSpec := { name := "innerSums", fn := fun _ => fun
  | [d1, d2] => { results := [.lit (.bool false)], args := [d1, d2] }
  | _ => none }
def InnerSumsWrongFalsely : Prop := innerSumsRow.holds Try.pinned (OpenSpec.ofChange innerSumsWrong)

/- THE SECOND FORM. 'bulk': how many values and letters a reading holds, each counted each time it is reached (what is shared counts as often as it is met; a slice's spare places count too). A statement '..UptoSaid' is the law's where the arguments, and the package variables that the reading takes, are together of bulk at most 1048576: NARROWER than '..Said'. Prove '..Said' where nothing that the law and all that it calls make is longer than what came in: it says more and counts as full. Else prove '..UptoSaid'. A law counts once. -/
mutual
def uptoBulk {H : Type} : DataW H → Nat
  | .lit (.string bytes) => bytes.length + 1
  | .lit _ => 1
  | .nil => 1
  | .ptr d => uptoBulk d + 1
  | .slice elems spare => uptoBulkAll elems + uptoBulkAll spare + 1
  | .agg parts => uptoBulkAll parts + 1
  | .iface _ d => uptoBulk d + 1
  | .map entries => uptoBulkEntries entries + 1
  | .held _ => 1
def uptoBulkAll {H : Type} : List (DataW H) → Nat
  | [] => 0
  | d :: r => uptoBulk d + uptoBulkAll r
def uptoBulkEntries {H : Type} : List (Lit × DataW H) → Nat
  | [] => 0
  | x :: r => uptoBulkEntry x + uptoBulkEntries r
def uptoBulkEntry {H : Type} : Lit × DataW H → Nat
  | (.string bytes, d) => bytes.length + uptoBulk d + 1
  | (_, d) => uptoBulk d + 1
 end
def uptoSmall : (H : Type) → List (DataW H) → Bool := fun _ ds => decide (uptoBulkAll ds ≤ 1048576)
def OpenSpec.upto (s : _root_.Go.ChangeSpec) : _root_.Go.OpenSpec := { _root_.Go.OpenSpec.ofChange s with cond := some uptoSmall }

/-- 'bailiwicklaw6.FrameKnown', WHERE WHAT IT READS IS OF BULK AT MOST 1048576: true; the input reads as it did. -/
def frameKnownUptoRow : OpenClaim := { program := "ytljnnhloinbjhaa", sum := "996b0a5902e694613d32d1c96f7703afc5b687539e46dcb1b949d3c89bd109bf", func := "bailiwick/bailiwicklaw6.FrameKnown", spec := "frameKnown", unfollowed := true, recurses := true, apart := false, narrowed := true }
def FrameKnownUptoSaid : Prop := frameKnownUptoRow.holds Try.pinned (OpenSpec.upto frameKnownSpec)

/-- 'bailiwicklaw6.FrameReads', WHERE WHAT IT READS IS OF BULK AT MOST 1048576: true; the input reads as it did. -/
def frameReadsUptoRow : OpenClaim := { program := "ytljnnhloinbjhaa", sum := "996b0a5902e694613d32d1c96f7703afc5b687539e46dcb1b949d3c89bd109bf", func := "bailiwick/bailiwicklaw6.FrameReads", spec := "frameReads", unfollowed := true, recurses := true, apart := false, narrowed := true }
def FrameReadsUptoSaid : Prop := frameReadsUptoRow.holds Try.pinned (OpenSpec.upto frameReadsSpec)

/-- 'bailiwicklaw6.FrameQuotes', WHERE WHAT IT READS IS OF BULK AT MOST 1048576: true; the input reads as it did. -/
def frameQuotesUptoRow : OpenClaim := { program := "ytljnnhloinbjhaa", sum := "996b0a5902e694613d32d1c96f7703afc5b687539e46dcb1b949d3c89bd109bf", func := "bailiwick/bailiwicklaw6.FrameQuotes", spec := "frameQuotes", unfollowed := true, recurses := true, apart := false, narrowed := true }
def FrameQuotesUptoSaid : Prop := frameQuotesUptoRow.holds Try.pinned (OpenSpec.upto frameQuotesSpec)

/-- 'bailiwicklaw6.FrameShort', WHERE WHAT IT READS IS OF BULK AT MOST 1048576: true; the input reads as it did. -/
def frameShortUptoRow : OpenClaim := { program := "ytljnnhloinbjhaa", sum := "996b0a5902e694613d32d1c96f7703afc5b687539e46dcb1b949d3c89bd109bf", func := "bailiwick/bailiwicklaw6.FrameShort", spec := "frameShort", unfollowed := true, recurses := true, apart := false, narrowed := true }
def FrameShortUptoSaid : Prop := frameShortUptoRow.holds Try.pinned (OpenSpec.upto frameShortSpec)

/-- 'bailiwicklaw6.FrameProtos', WHERE WHAT IT READS IS OF BULK AT MOST 1048576: true; the input reads as it did. -/
def frameProtosUptoRow : OpenClaim := { program := "ytljnnhloinbjhaa", sum := "996b0a5902e694613d32d1c96f7703afc5b687539e46dcb1b949d3c89bd109bf", func := "bailiwick/bailiwicklaw6.FrameProtos", spec := "frameProtos", unfollowed := true, recurses := true, apart := false, narrowed := true }
def FrameProtosUptoSaid : Prop := frameProtosUptoRow.holds Try.pinned (OpenSpec.upto frameProtosSpec)

/-- 'bailiwicklaw21.TurnEnds', WHERE WHAT IT READS IS OF BULK AT MOST 1048576: true; the input reads as it did. -/
def turnEndsUptoRow : OpenClaim := { program := "ytljnnhloinbjhaa", sum := "996b0a5902e694613d32d1c96f7703afc5b687539e46dcb1b949d3c89bd109bf", func := "bailiwick/bailiwicklaw21.TurnEnds", spec := "turnEnds", unfollowed := true, recurses := true, apart := false, narrowed := true }
def TurnEndsUptoSaid : Prop := turnEndsUptoRow.holds Try.pinned (OpenSpec.upto turnEndsSpec)

/-- 'bailiwicklaw21.TurnBack', WHERE WHAT IT READS IS OF BULK AT MOST 1048576: true; the input reads as it did. -/
def turnBackUptoRow : OpenClaim := { program := "ytljnnhloinbjhaa", sum := "996b0a5902e694613d32d1c96f7703afc5b687539e46dcb1b949d3c89bd109bf", func := "bailiwick/bailiwicklaw21.TurnBack", spec := "turnBack", unfollowed := true, recurses := true, apart := false, narrowed := true }
def TurnBackUptoSaid : Prop := turnBackUptoRow.holds Try.pinned (OpenSpec.upto turnBackSpec)

/-- 'bailiwicklaw21.TurnLess', WHERE WHAT IT READS IS OF BULK AT MOST 1048576: true; the input reads as it did. -/
def turnLessUptoRow : OpenClaim := { program := "ytljnnhloinbjhaa", sum := "996b0a5902e694613d32d1c96f7703afc5b687539e46dcb1b949d3c89bd109bf", func := "bailiwick/bailiwicklaw21.TurnLess", spec := "turnLess", unfollowed := true, recurses := true, apart := false, narrowed := true }
def TurnLessUptoSaid : Prop := turnLessUptoRow.holds Try.pinned (OpenSpec.upto turnLessSpec)

/-- 'bailiwicklaw21.TurnKnown', WHERE WHAT IT READS IS OF BULK AT MOST 1048576: true; the input reads as it did. -/
def turnKnownUptoRow : OpenClaim := { program := "ytljnnhloinbjhaa", sum := "996b0a5902e694613d32d1c96f7703afc5b687539e46dcb1b949d3c89bd109bf", func := "bailiwick/bailiwicklaw21.TurnKnown", spec := "turnKnown", unfollowed := true, recurses := true, apart := false, narrowed := true }
def TurnKnownUptoSaid : Prop := turnKnownUptoRow.holds Try.pinned (OpenSpec.upto turnKnownSpec)

/-- 'bailiwicklaw21.TurnTexts', WHERE WHAT IT READS IS OF BULK AT MOST 1048576: true; the input reads as it did. -/
def turnTextsUptoRow : OpenClaim := { program := "ytljnnhloinbjhaa", sum := "996b0a5902e694613d32d1c96f7703afc5b687539e46dcb1b949d3c89bd109bf", func := "bailiwick/bailiwicklaw21.TurnTexts", spec := "turnTexts", unfollowed := true, recurses := true, apart := false, narrowed := true }
def TurnTextsUptoSaid : Prop := turnTextsUptoRow.holds Try.pinned (OpenSpec.upto turnTextsSpec)

/-- 'bailiwicklaw21.TurnOrder', WHERE WHAT IT READS IS OF BULK AT MOST 1048576: true; the input reads as it did. -/
def turnOrderUptoRow : OpenClaim := { program := "ytljnnhloinbjhaa", sum := "996b0a5902e694613d32d1c96f7703afc5b687539e46dcb1b949d3c89bd109bf", func := "bailiwick/bailiwicklaw21.TurnOrder", spec := "turnOrder", unfollowed := true, recurses := true, apart := false, narrowed := true }
def TurnOrderUptoSaid : Prop := turnOrderUptoRow.holds Try.pinned (OpenSpec.upto turnOrderSpec)

/-- 'bailiwicklaw21.TurnStreams', WHERE WHAT IT READS IS OF BULK AT MOST 1048576: true; the input reads as it did. -/
def turnStreamsUptoRow : OpenClaim := { program := "ytljnnhloinbjhaa", sum := "996b0a5902e694613d32d1c96f7703afc5b687539e46dcb1b949d3c89bd109bf", func := "bailiwick/bailiwicklaw21.TurnStreams", spec := "turnStreams", unfollowed := true, recurses := true, apart := false, narrowed := true }
def TurnStreamsUptoSaid : Prop := turnStreamsUptoRow.holds Try.pinned (OpenSpec.upto turnStreamsSpec)

/-- 'bailiwicklaw22.InnerFaults', WHERE WHAT IT READS IS OF BULK AT MOST 1048576: true; the input reads as it did. -/
def innerFaultsUptoRow : OpenClaim := { program := "ytljnnhloinbjhaa", sum := "996b0a5902e694613d32d1c96f7703afc5b687539e46dcb1b949d3c89bd109bf", func := "bailiwick/bailiwicklaw22.InnerFaults", spec := "innerFaults", unfollowed := true, recurses := true, apart := false, narrowed := true }
def InnerFaultsUptoSaid : Prop := innerFaultsUptoRow.holds Try.pinned (OpenSpec.upto innerFaultsSpec)

/-- 'bailiwicklaw22.InnerQuotes', WHERE WHAT IT READS IS OF BULK AT MOST 1048576: true; the input reads as it did. -/
def innerQuotesUptoRow : OpenClaim := { program := "ytljnnhloinbjhaa", sum := "996b0a5902e694613d32d1c96f7703afc5b687539e46dcb1b949d3c89bd109bf", func := "bailiwick/bailiwicklaw22.InnerQuotes", spec := "innerQuotes", unfollowed := true, recurses := true, apart := false, narrowed := true }
def InnerQuotesUptoSaid : Prop := innerQuotesUptoRow.holds Try.pinned (OpenSpec.upto innerQuotesSpec)

/-- 'bailiwicklaw22.InnerKnown', WHERE WHAT IT READS IS OF BULK AT MOST 1048576: true; the input reads as it did. -/
def innerKnownUptoRow : OpenClaim := { program := "ytljnnhloinbjhaa", sum := "996b0a5902e694613d32d1c96f7703afc5b687539e46dcb1b949d3c89bd109bf", func := "bailiwick/bailiwicklaw22.InnerKnown", spec := "innerKnown", unfollowed := true, recurses := true, apart := false, narrowed := true }
def InnerKnownUptoSaid : Prop := innerKnownUptoRow.holds Try.pinned (OpenSpec.upto innerKnownSpec)

/-- 'bailiwicklaw22.InnerTurns', WHERE WHAT IT READS IS OF BULK AT MOST 1048576: true; the input reads as it did. -/
def innerTurnsUptoRow : OpenClaim := { program := "ytljnnhloinbjhaa", sum := "996b0a5902e694613d32d1c96f7703afc5b687539e46dcb1b949d3c89bd109bf", func := "bailiwick/bailiwicklaw22.InnerTurns", spec := "innerTurns", unfollowed := true, recurses := true, apart := false, narrowed := true }
def InnerTurnsUptoSaid : Prop := innerTurnsUptoRow.holds Try.pinned (OpenSpec.upto innerTurnsSpec)

/-- 'bailiwicklaw22.InnerBack', WHERE WHAT IT READS IS OF BULK AT MOST 1048576: true; the input reads as it did. -/
def innerBackUptoRow : OpenClaim := { program := "ytljnnhloinbjhaa", sum := "996b0a5902e694613d32d1c96f7703afc5b687539e46dcb1b949d3c89bd109bf", func := "bailiwick/bailiwicklaw22.InnerBack", spec := "innerBack", unfollowed := true, recurses := true, apart := false, narrowed := true }
def InnerBackUptoSaid : Prop := innerBackUptoRow.holds Try.pinned (OpenSpec.upto innerBackSpec)

/-- 'bailiwicklaw22.InnerSums', WHERE WHAT IT READS IS OF BULK AT MOST 1048576: true; the input reads as it did. -/
def innerSumsUptoRow : OpenClaim := { program := "ytljnnhloinbjhaa", sum := "996b0a5902e694613d32d1c96f7703afc5b687539e46dcb1b949d3c89bd109bf", func := "bailiwick/bailiwicklaw22.InnerSums", spec := "innerSums", unfollowed := true, recurses := true, apart := false, narrowed := true }
def InnerSumsUptoSaid : Prop := innerSumsUptoRow.holds Try.pinned (OpenSpec.upto innerSumsSpec)

end Rows
end Go.Proofs.Ytljnnhloinbjhaa
