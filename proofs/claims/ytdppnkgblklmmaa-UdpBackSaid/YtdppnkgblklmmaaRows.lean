/-
  No cell of these rows narrows 'for every input' (looked for: loops, veiled, ifaces, maps, wideKeys, modest, calm, conditions, laid).
  DERIVED. THE GIVEN ROWS OF THIS SEAT. 19 by the template 'for every input the law returns true; each argument reads behind the call as it read before'; 0 by the template 'total and deterministic' (their statements: YtdppnkgblklmmaaTotals.lean).
  GIVEN WITH THE SEED: the statements are not yours to turn. If you find one false, say at which input.
  Laid BY PROGRAM, IN A SANDBOX (cutbox-rows.mjs): the forced cells as the released guide's own fill.sh prints them over the translation b235cd532e618d86… (all of the seat's roots in one cut). By AI agents, Wed Nov 11 2026. No macro, syntax, notation, axiom, sorry.
-/
import Derived.Test.YtdppnkgblklmmaaChecked
import GoSem.Claim
import GoSem.ClaimJoined
import GoSem.ClaimMapViews
import Derived.JoinedTies
import Derived.KernelRfl
namespace Go.Proofs.Ytdppnkgblklmmaa
/- THE CELL 'sum', in the pinned program and in every row, IS THE sha256 OF THE DUMP (.gsa) THAT YtdppnkgblklmmaaProg.lean LOADS. Nothing in Lean hashes anything: it is a label: what it is worth is what the hold of that sum in a sandbox is worth. -/
noncomputable def Try.pinned : Pinned := { name := "ytdppnkgblklmmaa", sum := "b235cd532e618d86ac25d3bc3f1dc8547f1766bcf12a693a61253f24dc4e8caf", checked := Try.checked }
namespace Rows
def none {H : Type} : Left H := { results := [], args := [] }

/-- 'bailiwicklaw1.OctetGets': WHATEVER THE INPUT: true; the input reads as it did. -/
def octetGetsSpec : ChangeSpec := { name := "octetGets", fn := fun _ => fun
  | [d] => { results := [.lit (.bool true)], args := [d] }
  | _ => none }
def octetGetsRow : OpenClaim := { program := "ytdppnkgblklmmaa", sum := "b235cd532e618d86ac25d3bc3f1dc8547f1766bcf12a693a61253f24dc4e8caf", func := "bailiwick/bailiwicklaw1.OctetGets", spec := "octetGets", unfollowed := true, recurses := true, apart := false }
def OctetGetsSaid : Prop := octetGetsRow.holds Try.pinned (OpenSpec.ofChange octetGetsSpec)

/-- ITS FALSE NEIGHBOUR: 'it returns false'. Refute it at one input. -/
def octetGetsWrong : ChangeSpec := { name := "octetGets", fn := fun _ => fun
  | [d] => { results := [.lit (.bool false)], args := [d] }
  | _ => none }
def OctetGetsWrongFalsely : Prop := octetGetsRow.holds Try.pinned (OpenSpec.ofChange octetGetsWrong)

/-- 'bailiwicklaw1.OctetSwaps': WHATEVER THE INPUT: true; the input reads as it did. -/
def octetSwapsSpec : ChangeSpec := { name := "octetSwaps", fn := fun _ => fun
  | [d1, d2, d3] => { results := [.lit (.bool true)], args := [d1, d2, d3] }
  | _ => none }
def octetSwapsRow : OpenClaim := { program := "ytdppnkgblklmmaa", sum := "b235cd532e618d86ac25d3bc3f1dc8547f1766bcf12a693a61253f24dc4e8caf", func := "bailiwick/bailiwicklaw1.OctetSwaps", spec := "octetSwaps", unfollowed := true, recurses := true, apart := false }
def OctetSwapsSaid : Prop := octetSwapsRow.holds Try.pinned (OpenSpec.ofChange octetSwapsSpec)

/-- ITS FALSE NEIGHBOUR: 'it returns false'. Refute it at one input. -/
def octetSwapsWrong : ChangeSpec := { name := "octetSwaps", fn := fun _ => fun
  | [d1, d2, d3] => { results := [.lit (.bool false)], args := [d1, d2, d3] }
  | _ => none }
def OctetSwapsWrongFalsely : Prop := octetSwapsRow.holds Try.pinned (OpenSpec.ofChange octetSwapsWrong)

/-- 'bailiwicklaw1.OctetSums': WHATEVER THE INPUT: true; the input reads as it did. -/
def octetSumsSpec : ChangeSpec := { name := "octetSums", fn := fun _ => fun
  | [d] => { results := [.lit (.bool true)], args := [d] }
  | _ => none }
def octetSumsRow : OpenClaim := { program := "ytdppnkgblklmmaa", sum := "b235cd532e618d86ac25d3bc3f1dc8547f1766bcf12a693a61253f24dc4e8caf", func := "bailiwick/bailiwicklaw1.OctetSums", spec := "octetSums", unfollowed := true, recurses := true, apart := false }
def OctetSumsSaid : Prop := octetSumsRow.holds Try.pinned (OpenSpec.ofChange octetSumsSpec)

/-- ITS FALSE NEIGHBOUR: 'it returns false'. Refute it at one input. -/
def octetSumsWrong : ChangeSpec := { name := "octetSums", fn := fun _ => fun
  | [d] => { results := [.lit (.bool false)], args := [d] }
  | _ => none }
def OctetSumsWrongFalsely : Prop := octetSumsRow.holds Try.pinned (OpenSpec.ofChange octetSumsWrong)

/-- 'bailiwicklaw1.OctetPlus': WHATEVER THE INPUT: true; the input reads as it did. -/
def octetPlusSpec : ChangeSpec := { name := "octetPlus", fn := fun _ => fun
  | [d1, d2, d3] => { results := [.lit (.bool true)], args := [d1, d2, d3] }
  | _ => none }
def octetPlusRow : OpenClaim := { program := "ytdppnkgblklmmaa", sum := "b235cd532e618d86ac25d3bc3f1dc8547f1766bcf12a693a61253f24dc4e8caf", func := "bailiwick/bailiwicklaw1.OctetPlus", spec := "octetPlus", unfollowed := true, recurses := true, apart := false }
def OctetPlusSaid : Prop := octetPlusRow.holds Try.pinned (OpenSpec.ofChange octetPlusSpec)

/-- ITS FALSE NEIGHBOUR: 'it returns false'. Refute it at one input. -/
def octetPlusWrong : ChangeSpec := { name := "octetPlus", fn := fun _ => fun
  | [d1, d2, d3] => { results := [.lit (.bool false)], args := [d1, d2, d3] }
  | _ => none }
def OctetPlusWrongFalsely : Prop := octetPlusRow.holds Try.pinned (OpenSpec.ofChange octetPlusWrong)

/-- 'bailiwicklaw1.OctetPuts': WHATEVER THE INPUT: true; the input reads as it did. -/
def octetPutsSpec : ChangeSpec := { name := "octetPuts", fn := fun _ => fun
  | [d] => { results := [.lit (.bool true)], args := [d] }
  | _ => none }
def octetPutsRow : OpenClaim := { program := "ytdppnkgblklmmaa", sum := "b235cd532e618d86ac25d3bc3f1dc8547f1766bcf12a693a61253f24dc4e8caf", func := "bailiwick/bailiwicklaw1.OctetPuts", spec := "octetPuts", unfollowed := true, recurses := true, apart := false }
def OctetPutsSaid : Prop := octetPutsRow.holds Try.pinned (OpenSpec.ofChange octetPutsSpec)

/-- ITS FALSE NEIGHBOUR: 'it returns false'. Refute it at one input. -/
def octetPutsWrong : ChangeSpec := { name := "octetPuts", fn := fun _ => fun
  | [d] => { results := [.lit (.bool false)], args := [d] }
  | _ => none }
def OctetPutsWrongFalsely : Prop := octetPutsRow.holds Try.pinned (OpenSpec.ofChange octetPutsWrong)

/-- 'bailiwicklaw1.OctetCrcs': WHATEVER THE INPUT: true; the input reads as it did. -/
def octetCrcsSpec : ChangeSpec := { name := "octetCrcs", fn := fun _ => fun
  | [d1, d2] => { results := [.lit (.bool true)], args := [d1, d2] }
  | _ => none }
def octetCrcsRow : OpenClaim := { program := "ytdppnkgblklmmaa", sum := "b235cd532e618d86ac25d3bc3f1dc8547f1766bcf12a693a61253f24dc4e8caf", func := "bailiwick/bailiwicklaw1.OctetCrcs", spec := "octetCrcs", unfollowed := true, recurses := true, apart := false }
def OctetCrcsSaid : Prop := octetCrcsRow.holds Try.pinned (OpenSpec.ofChange octetCrcsSpec)

/-- ITS FALSE NEIGHBOUR: 'it returns false'. Refute it at one input. -/
def octetCrcsWrong : ChangeSpec := { name := "octetCrcs", fn := fun _ => fun
  | [d1, d2] => { results := [.lit (.bool false)], args := [d1, d2] }
  | _ => none }
def OctetCrcsWrongFalsely : Prop := octetCrcsRow.holds Try.pinned (OpenSpec.ofChange octetCrcsWrong)

/-- 'bailiwicklaw1.OctetUpdates': WHATEVER THE INPUT: true; the input reads as it did. -/
def octetUpdatesSpec : ChangeSpec := { name := "octetUpdates", fn := fun _ => fun
  | [d1, d2, d3] => { results := [.lit (.bool true)], args := [d1, d2, d3] }
  | _ => none }
def octetUpdatesRow : OpenClaim := { program := "ytdppnkgblklmmaa", sum := "b235cd532e618d86ac25d3bc3f1dc8547f1766bcf12a693a61253f24dc4e8caf", func := "bailiwick/bailiwicklaw1.OctetUpdates", spec := "octetUpdates", unfollowed := true, recurses := true, apart := false }
def OctetUpdatesSaid : Prop := octetUpdatesRow.holds Try.pinned (OpenSpec.ofChange octetUpdatesSpec)

/-- ITS FALSE NEIGHBOUR: 'it returns false'. Refute it at one input. -/
def octetUpdatesWrong : ChangeSpec := { name := "octetUpdates", fn := fun _ => fun
  | [d1, d2, d3] => { results := [.lit (.bool false)], args := [d1, d2, d3] }
  | _ => none }
def OctetUpdatesWrongFalsely : Prop := octetUpdatesRow.holds Try.pinned (OpenSpec.ofChange octetUpdatesWrong)

/-- 'bailiwicklaw1.OctetKnown': WHATEVER THE INPUT: true; the input reads as it did. -/
def octetKnownSpec : ChangeSpec := { name := "octetKnown", fn := fun _ => fun
  | [] => { results := [.lit (.bool true)], args := [] }
  | _ => none }
def octetKnownRow : OpenClaim := { program := "ytdppnkgblklmmaa", sum := "b235cd532e618d86ac25d3bc3f1dc8547f1766bcf12a693a61253f24dc4e8caf", func := "bailiwick/bailiwicklaw1.OctetKnown", spec := "octetKnown", unfollowed := true, recurses := true, apart := false }
def OctetKnownSaid : Prop := octetKnownRow.holds Try.pinned (OpenSpec.ofChange octetKnownSpec)

/-- ITS FALSE NEIGHBOUR: 'it returns false'. Refute it at one input. -/
def octetKnownWrong : ChangeSpec := { name := "octetKnown", fn := fun _ => fun
  | [] => { results := [.lit (.bool false)], args := [] }
  | _ => none }
def OctetKnownWrongFalsely : Prop := octetKnownRow.holds Try.pinned (OpenSpec.ofChange octetKnownWrong)

/-- 'bailiwicklaw3.UdpBuilds': WHATEVER THE INPUT: true; the input reads as it did. -/
def udpBuildsSpec : ChangeSpec := { name := "udpBuilds", fn := fun _ => fun
  | [d] => { results := [.lit (.bool true)], args := [d] }
  | _ => none }
def udpBuildsRow : OpenClaim := { program := "ytdppnkgblklmmaa", sum := "b235cd532e618d86ac25d3bc3f1dc8547f1766bcf12a693a61253f24dc4e8caf", func := "bailiwick/bailiwicklaw3.UdpBuilds", spec := "udpBuilds", unfollowed := true, recurses := true, apart := false }
def UdpBuildsSaid : Prop := udpBuildsRow.holds Try.pinned (OpenSpec.ofChange udpBuildsSpec)

/-- ITS FALSE NEIGHBOUR: 'it returns false'. Refute it at one input. -/
def udpBuildsWrong : ChangeSpec := { name := "udpBuilds", fn := fun _ => fun
  | [d] => { results := [.lit (.bool false)], args := [d] }
  | _ => none }
def UdpBuildsWrongFalsely : Prop := udpBuildsRow.holds Try.pinned (OpenSpec.ofChange udpBuildsWrong)

/-- 'bailiwicklaw3.UdpPseudo': WHATEVER THE INPUT: true; the input reads as it did. -/
def udpPseudoSpec : ChangeSpec := { name := "udpPseudo", fn := fun _ => fun
  | [d1, d2, d3] => { results := [.lit (.bool true)], args := [d1, d2, d3] }
  | _ => none }
def udpPseudoRow : OpenClaim := { program := "ytdppnkgblklmmaa", sum := "b235cd532e618d86ac25d3bc3f1dc8547f1766bcf12a693a61253f24dc4e8caf", func := "bailiwick/bailiwicklaw3.UdpPseudo", spec := "udpPseudo", unfollowed := true, recurses := true, apart := false }
def UdpPseudoSaid : Prop := udpPseudoRow.holds Try.pinned (OpenSpec.ofChange udpPseudoSpec)

/-- ITS FALSE NEIGHBOUR: 'it returns false'. Refute it at one input. -/
def udpPseudoWrong : ChangeSpec := { name := "udpPseudo", fn := fun _ => fun
  | [d1, d2, d3] => { results := [.lit (.bool false)], args := [d1, d2, d3] }
  | _ => none }
def UdpPseudoWrongFalsely : Prop := udpPseudoRow.holds Try.pinned (OpenSpec.ofChange udpPseudoWrong)

/-- 'bailiwicklaw3.UdpBare': WHATEVER THE INPUT: true; the input reads as it did. -/
def udpBareSpec : ChangeSpec := { name := "udpBare", fn := fun _ => fun
  | [d] => { results := [.lit (.bool true)], args := [d] }
  | _ => none }
def udpBareRow : OpenClaim := { program := "ytdppnkgblklmmaa", sum := "b235cd532e618d86ac25d3bc3f1dc8547f1766bcf12a693a61253f24dc4e8caf", func := "bailiwick/bailiwicklaw3.UdpBare", spec := "udpBare", unfollowed := true, recurses := true, apart := false }
def UdpBareSaid : Prop := udpBareRow.holds Try.pinned (OpenSpec.ofChange udpBareSpec)

/-- ITS FALSE NEIGHBOUR: 'it returns false'. Refute it at one input. -/
def udpBareWrong : ChangeSpec := { name := "udpBare", fn := fun _ => fun
  | [d] => { results := [.lit (.bool false)], args := [d] }
  | _ => none }
def UdpBareWrongFalsely : Prop := udpBareRow.holds Try.pinned (OpenSpec.ofChange udpBareWrong)

/-- 'bailiwicklaw3.UdpKnown': WHATEVER THE INPUT: true; the input reads as it did. -/
def udpKnownSpec : ChangeSpec := { name := "udpKnown", fn := fun _ => fun
  | [] => { results := [.lit (.bool true)], args := [] }
  | _ => none }
def udpKnownRow : OpenClaim := { program := "ytdppnkgblklmmaa", sum := "b235cd532e618d86ac25d3bc3f1dc8547f1766bcf12a693a61253f24dc4e8caf", func := "bailiwick/bailiwicklaw3.UdpKnown", spec := "udpKnown", unfollowed := true, recurses := true, apart := false }
def UdpKnownSaid : Prop := udpKnownRow.holds Try.pinned (OpenSpec.ofChange udpKnownSpec)

/-- ITS FALSE NEIGHBOUR: 'it returns false'. Refute it at one input. -/
def udpKnownWrong : ChangeSpec := { name := "udpKnown", fn := fun _ => fun
  | [] => { results := [.lit (.bool false)], args := [] }
  | _ => none }
def UdpKnownWrongFalsely : Prop := udpKnownRow.holds Try.pinned (OpenSpec.ofChange udpKnownWrong)

/-- 'bailiwicklaw3.UdpParses': WHATEVER THE INPUT: true; the input reads as it did. -/
def udpParsesSpec : ChangeSpec := { name := "udpParses", fn := fun _ => fun
  | [d1, d2, d3] => { results := [.lit (.bool true)], args := [d1, d2, d3] }
  | _ => none }
def udpParsesRow : OpenClaim := { program := "ytdppnkgblklmmaa", sum := "b235cd532e618d86ac25d3bc3f1dc8547f1766bcf12a693a61253f24dc4e8caf", func := "bailiwick/bailiwicklaw3.UdpParses", spec := "udpParses", unfollowed := true, recurses := true, apart := false }
def UdpParsesSaid : Prop := udpParsesRow.holds Try.pinned (OpenSpec.ofChange udpParsesSpec)

/-- ITS FALSE NEIGHBOUR: 'it returns false'. Refute it at one input. -/
def udpParsesWrong : ChangeSpec := { name := "udpParses", fn := fun _ => fun
  | [d1, d2, d3] => { results := [.lit (.bool false)], args := [d1, d2, d3] }
  | _ => none }
def UdpParsesWrongFalsely : Prop := udpParsesRow.holds Try.pinned (OpenSpec.ofChange udpParsesWrong)

/-- 'bailiwicklaw3.UdpBack': WHATEVER THE INPUT: true; the input reads as it did. -/
def udpBackSpec : ChangeSpec := { name := "udpBack", fn := fun _ => fun
  | [d1, d2, d3] => { results := [.lit (.bool true)], args := [d1, d2, d3] }
  | _ => none }
def udpBackRow : OpenClaim := { program := "ytdppnkgblklmmaa", sum := "b235cd532e618d86ac25d3bc3f1dc8547f1766bcf12a693a61253f24dc4e8caf", func := "bailiwick/bailiwicklaw3.UdpBack", spec := "udpBack", unfollowed := true, recurses := true, apart := false }
def UdpBackSaid : Prop := udpBackRow.holds Try.pinned (OpenSpec.ofChange udpBackSpec)

/-- ITS FALSE NEIGHBOUR: 'it returns false'. Refute it at one input. -/
def udpBackWrong : ChangeSpec := { name := "udpBack", fn := fun _ => fun
  | [d1, d2, d3] => { results := [.lit (.bool false)], args := [d1, d2, d3] }
  | _ => none }
def UdpBackWrongFalsely : Prop := udpBackRow.holds Try.pinned (OpenSpec.ofChange udpBackWrong)

/-- 'bailiwicklaw5.IcmpBuilds': WHATEVER THE INPUT: true; the input reads as it did. -/
def icmpBuildsSpec : ChangeSpec := { name := "icmpBuilds", fn := fun _ => fun
  | [d] => { results := [.lit (.bool true)], args := [d] }
  | _ => none }
def icmpBuildsRow : OpenClaim := { program := "ytdppnkgblklmmaa", sum := "b235cd532e618d86ac25d3bc3f1dc8547f1766bcf12a693a61253f24dc4e8caf", func := "bailiwick/bailiwicklaw5.IcmpBuilds", spec := "icmpBuilds", unfollowed := true, recurses := true, apart := false }
def IcmpBuildsSaid : Prop := icmpBuildsRow.holds Try.pinned (OpenSpec.ofChange icmpBuildsSpec)

/-- ITS FALSE NEIGHBOUR: 'it returns false'. Refute it at one input. -/
def icmpBuildsWrong : ChangeSpec := { name := "icmpBuilds", fn := fun _ => fun
  | [d] => { results := [.lit (.bool false)], args := [d] }
  | _ => none }
def IcmpBuildsWrongFalsely : Prop := icmpBuildsRow.holds Try.pinned (OpenSpec.ofChange icmpBuildsWrong)

/-- 'bailiwicklaw5.IcmpKnown': WHATEVER THE INPUT: true; the input reads as it did. -/
def icmpKnownSpec : ChangeSpec := { name := "icmpKnown", fn := fun _ => fun
  | [] => { results := [.lit (.bool true)], args := [] }
  | _ => none }
def icmpKnownRow : OpenClaim := { program := "ytdppnkgblklmmaa", sum := "b235cd532e618d86ac25d3bc3f1dc8547f1766bcf12a693a61253f24dc4e8caf", func := "bailiwick/bailiwicklaw5.IcmpKnown", spec := "icmpKnown", unfollowed := true, recurses := true, apart := false }
def IcmpKnownSaid : Prop := icmpKnownRow.holds Try.pinned (OpenSpec.ofChange icmpKnownSpec)

/-- ITS FALSE NEIGHBOUR: 'it returns false'. Refute it at one input. -/
def icmpKnownWrong : ChangeSpec := { name := "icmpKnown", fn := fun _ => fun
  | [] => { results := [.lit (.bool false)], args := [] }
  | _ => none }
def IcmpKnownWrongFalsely : Prop := icmpKnownRow.holds Try.pinned (OpenSpec.ofChange icmpKnownWrong)

/-- 'bailiwicklaw5.IcmpKinds': WHATEVER THE INPUT: true; the input reads as it did. -/
def icmpKindsSpec : ChangeSpec := { name := "icmpKinds", fn := fun _ => fun
  | [d1, d2, d3] => { results := [.lit (.bool true)], args := [d1, d2, d3] }
  | _ => none }
def icmpKindsRow : OpenClaim := { program := "ytdppnkgblklmmaa", sum := "b235cd532e618d86ac25d3bc3f1dc8547f1766bcf12a693a61253f24dc4e8caf", func := "bailiwick/bailiwicklaw5.IcmpKinds", spec := "icmpKinds", unfollowed := true, recurses := true, apart := false }
def IcmpKindsSaid : Prop := icmpKindsRow.holds Try.pinned (OpenSpec.ofChange icmpKindsSpec)

/-- ITS FALSE NEIGHBOUR: 'it returns false'. Refute it at one input. -/
def icmpKindsWrong : ChangeSpec := { name := "icmpKinds", fn := fun _ => fun
  | [d1, d2, d3] => { results := [.lit (.bool false)], args := [d1, d2, d3] }
  | _ => none }
def IcmpKindsWrongFalsely : Prop := icmpKindsRow.holds Try.pinned (OpenSpec.ofChange icmpKindsWrong)

/-- 'bailiwicklaw5.IcmpParses': WHATEVER THE INPUT: true; the input reads as it did. -/
def icmpParsesSpec : ChangeSpec := { name := "icmpParses", fn := fun _ => fun
  | [d] => { results := [.lit (.bool true)], args := [d] }
  | _ => none }
def icmpParsesRow : OpenClaim := { program := "ytdppnkgblklmmaa", sum := "b235cd532e618d86ac25d3bc3f1dc8547f1766bcf12a693a61253f24dc4e8caf", func := "bailiwick/bailiwicklaw5.IcmpParses", spec := "icmpParses", unfollowed := true, recurses := true, apart := false }
def IcmpParsesSaid : Prop := icmpParsesRow.holds Try.pinned (OpenSpec.ofChange icmpParsesSpec)

/-- ITS FALSE NEIGHBOUR: 'it returns false'. Refute it at one input. -/
def icmpParsesWrong : ChangeSpec := { name := "icmpParses", fn := fun _ => fun
  | [d] => { results := [.lit (.bool false)], args := [d] }
  | _ => none }
def IcmpParsesWrongFalsely : Prop := icmpParsesRow.holds Try.pinned (OpenSpec.ofChange icmpParsesWrong)

/-- 'bailiwicklaw5.IcmpBack': WHATEVER THE INPUT: true; the input reads as it did. -/
def icmpBackSpec : ChangeSpec := { name := "icmpBack", fn := fun _ => fun
  | [d1, d2] => { results := [.lit (.bool true)], args := [d1, d2] }
  | _ => none }
def icmpBackRow : OpenClaim := { program := "ytdppnkgblklmmaa", sum := "b235cd532e618d86ac25d3bc3f1dc8547f1766bcf12a693a61253f24dc4e8caf", func := "bailiwick/bailiwicklaw5.IcmpBack", spec := "icmpBack", unfollowed := true, recurses := true, apart := false }
def IcmpBackSaid : Prop := icmpBackRow.holds Try.pinned (OpenSpec.ofChange icmpBackSpec)

/-- ITS FALSE NEIGHBOUR: 'it returns false'. Refute it at one input. -/
def icmpBackWrong : ChangeSpec := { name := "icmpBack", fn := fun _ => fun
  | [d1, d2] => { results := [.lit (.bool false)], args := [d1, d2] }
  | _ => none }
def IcmpBackWrongFalsely : Prop := icmpBackRow.holds Try.pinned (OpenSpec.ofChange icmpBackWrong)

/- THE SECOND FORM. 'bulk': how many values and letters a reading holds, each counted each time it is reached (what is shared counts as often as it is met; a slice's spare places count too). A statement '..UptoSaid' is the law's where the arguments, and the package variables that the reading takes, are together of bulk at most 1048576: NARROWER than '..Said'. Prove '..Said' where nothing that the law and all that it calls make is longer than what came in: it says more and counts as full. Else prove '..UptoSaid'. A law counts once. -/
mutual
def uptoBulk {H : Type} : DataW H → Nat
  | .lit (.string bytes) => bytes.length + 1
  | .lit _ => 1
  | .nil => 1
  | .ptr d => uptoBulk d + 1
  | .slice elems spare => uptoBulkAll elems + uptoBulkAll spare + 1
  | .agg parts => uptoBulkAll parts + 1
  | .iface _ d => uptoBulk d + 1
  | .map entries => uptoBulkEntries entries + 1
  | .held _ => 1
def uptoBulkAll {H : Type} : List (DataW H) → Nat
  | [] => 0
  | d :: r => uptoBulk d + uptoBulkAll r
def uptoBulkEntries {H : Type} : List (Lit × DataW H) → Nat
  | [] => 0
  | x :: r => uptoBulkEntry x + uptoBulkEntries r
def uptoBulkEntry {H : Type} : Lit × DataW H → Nat
  | (.string bytes, d) => bytes.length + uptoBulk d + 1
  | (_, d) => uptoBulk d + 1
 end
def uptoSmall : (H : Type) → List (DataW H) → Bool := fun _ ds => decide (uptoBulkAll ds ≤ 1048576)
def OpenSpec.upto (s : _root_.Go.ChangeSpec) : _root_.Go.OpenSpec := { _root_.Go.OpenSpec.ofChange s with cond := some uptoSmall }

/-- 'bailiwicklaw1.OctetGets', WHERE WHAT IT READS IS OF BULK AT MOST 1048576: true; the input reads as it did. -/
def octetGetsUptoRow : OpenClaim := { program := "ytdppnkgblklmmaa", sum := "b235cd532e618d86ac25d3bc3f1dc8547f1766bcf12a693a61253f24dc4e8caf", func := "bailiwick/bailiwicklaw1.OctetGets", spec := "octetGets", unfollowed := true, recurses := true, apart := false, narrowed := true }
def OctetGetsUptoSaid : Prop := octetGetsUptoRow.holds Try.pinned (OpenSpec.upto octetGetsSpec)

/-- 'bailiwicklaw1.OctetSwaps', WHERE WHAT IT READS IS OF BULK AT MOST 1048576: true; the input reads as it did. -/
def octetSwapsUptoRow : OpenClaim := { program := "ytdppnkgblklmmaa", sum := "b235cd532e618d86ac25d3bc3f1dc8547f1766bcf12a693a61253f24dc4e8caf", func := "bailiwick/bailiwicklaw1.OctetSwaps", spec := "octetSwaps", unfollowed := true, recurses := true, apart := false, narrowed := true }
def OctetSwapsUptoSaid : Prop := octetSwapsUptoRow.holds Try.pinned (OpenSpec.upto octetSwapsSpec)

/-- 'bailiwicklaw1.OctetSums', WHERE WHAT IT READS IS OF BULK AT MOST 1048576: true; the input reads as it did. -/
def octetSumsUptoRow : OpenClaim := { program := "ytdppnkgblklmmaa", sum := "b235cd532e618d86ac25d3bc3f1dc8547f1766bcf12a693a61253f24dc4e8caf", func := "bailiwick/bailiwicklaw1.OctetSums", spec := "octetSums", unfollowed := true, recurses := true, apart := false, narrowed := true }
def OctetSumsUptoSaid : Prop := octetSumsUptoRow.holds Try.pinned (OpenSpec.upto octetSumsSpec)

/-- 'bailiwicklaw1.OctetPlus', WHERE WHAT IT READS IS OF BULK AT MOST 1048576: true; the input reads as it did. -/
def octetPlusUptoRow : OpenClaim := { program := "ytdppnkgblklmmaa", sum := "b235cd532e618d86ac25d3bc3f1dc8547f1766bcf12a693a61253f24dc4e8caf", func := "bailiwick/bailiwicklaw1.OctetPlus", spec := "octetPlus", unfollowed := true, recurses := true, apart := false, narrowed := true }
def OctetPlusUptoSaid : Prop := octetPlusUptoRow.holds Try.pinned (OpenSpec.upto octetPlusSpec)

/-- 'bailiwicklaw1.OctetPuts', WHERE WHAT IT READS IS OF BULK AT MOST 1048576: true; the input reads as it did. -/
def octetPutsUptoRow : OpenClaim := { program := "ytdppnkgblklmmaa", sum := "b235cd532e618d86ac25d3bc3f1dc8547f1766bcf12a693a61253f24dc4e8caf", func := "bailiwick/bailiwicklaw1.OctetPuts", spec := "octetPuts", unfollowed := true, recurses := true, apart := false, narrowed := true }
def OctetPutsUptoSaid : Prop := octetPutsUptoRow.holds Try.pinned (OpenSpec.upto octetPutsSpec)

/-- 'bailiwicklaw1.OctetCrcs', WHERE WHAT IT READS IS OF BULK AT MOST 1048576: true; the input reads as it did. -/
def octetCrcsUptoRow : OpenClaim := { program := "ytdppnkgblklmmaa", sum := "b235cd532e618d86ac25d3bc3f1dc8547f1766bcf12a693a61253f24dc4e8caf", func := "bailiwick/bailiwicklaw1.OctetCrcs", spec := "octetCrcs", unfollowed := true, recurses := true, apart := false, narrowed := true }
def OctetCrcsUptoSaid : Prop := octetCrcsUptoRow.holds Try.pinned (OpenSpec.upto octetCrcsSpec)

/-- 'bailiwicklaw1.OctetUpdates', WHERE WHAT IT READS IS OF BULK AT MOST 1048576: true; the input reads as it did. -/
def octetUpdatesUptoRow : OpenClaim := { program := "ytdppnkgblklmmaa", sum := "b235cd532e618d86ac25d3bc3f1dc8547f1766bcf12a693a61253f24dc4e8caf", func := "bailiwick/bailiwicklaw1.OctetUpdates", spec := "octetUpdates", unfollowed := true, recurses := true, apart := false, narrowed := true }
def OctetUpdatesUptoSaid : Prop := octetUpdatesUptoRow.holds Try.pinned (OpenSpec.upto octetUpdatesSpec)

/-- 'bailiwicklaw1.OctetKnown', WHERE WHAT IT READS IS OF BULK AT MOST 1048576: true; the input reads as it did. -/
def octetKnownUptoRow : OpenClaim := { program := "ytdppnkgblklmmaa", sum := "b235cd532e618d86ac25d3bc3f1dc8547f1766bcf12a693a61253f24dc4e8caf", func := "bailiwick/bailiwicklaw1.OctetKnown", spec := "octetKnown", unfollowed := true, recurses := true, apart := false, narrowed := true }
def OctetKnownUptoSaid : Prop := octetKnownUptoRow.holds Try.pinned (OpenSpec.upto octetKnownSpec)

/-- 'bailiwicklaw3.UdpBuilds', WHERE WHAT IT READS IS OF BULK AT MOST 1048576: true; the input reads as it did. -/
def udpBuildsUptoRow : OpenClaim := { program := "ytdppnkgblklmmaa", sum := "b235cd532e618d86ac25d3bc3f1dc8547f1766bcf12a693a61253f24dc4e8caf", func := "bailiwick/bailiwicklaw3.UdpBuilds", spec := "udpBuilds", unfollowed := true, recurses := true, apart := false, narrowed := true }
def UdpBuildsUptoSaid : Prop := udpBuildsUptoRow.holds Try.pinned (OpenSpec.upto udpBuildsSpec)

/-- 'bailiwicklaw3.UdpPseudo', WHERE WHAT IT READS IS OF BULK AT MOST 1048576: true; the input reads as it did. -/
def udpPseudoUptoRow : OpenClaim := { program := "ytdppnkgblklmmaa", sum := "b235cd532e618d86ac25d3bc3f1dc8547f1766bcf12a693a61253f24dc4e8caf", func := "bailiwick/bailiwicklaw3.UdpPseudo", spec := "udpPseudo", unfollowed := true, recurses := true, apart := false, narrowed := true }
def UdpPseudoUptoSaid : Prop := udpPseudoUptoRow.holds Try.pinned (OpenSpec.upto udpPseudoSpec)

/-- 'bailiwicklaw3.UdpBare', WHERE WHAT IT READS IS OF BULK AT MOST 1048576: true; the input reads as it did. -/
def udpBareUptoRow : OpenClaim := { program := "ytdppnkgblklmmaa", sum := "b235cd532e618d86ac25d3bc3f1dc8547f1766bcf12a693a61253f24dc4e8caf", func := "bailiwick/bailiwicklaw3.UdpBare", spec := "udpBare", unfollowed := true, recurses := true, apart := false, narrowed := true }
def UdpBareUptoSaid : Prop := udpBareUptoRow.holds Try.pinned (OpenSpec.upto udpBareSpec)

/-- 'bailiwicklaw3.UdpKnown', WHERE WHAT IT READS IS OF BULK AT MOST 1048576: true; the input reads as it did. -/
def udpKnownUptoRow : OpenClaim := { program := "ytdppnkgblklmmaa", sum := "b235cd532e618d86ac25d3bc3f1dc8547f1766bcf12a693a61253f24dc4e8caf", func := "bailiwick/bailiwicklaw3.UdpKnown", spec := "udpKnown", unfollowed := true, recurses := true, apart := false, narrowed := true }
def UdpKnownUptoSaid : Prop := udpKnownUptoRow.holds Try.pinned (OpenSpec.upto udpKnownSpec)

/-- 'bailiwicklaw3.UdpParses', WHERE WHAT IT READS IS OF BULK AT MOST 1048576: true; the input reads as it did. -/
def udpParsesUptoRow : OpenClaim := { program := "ytdppnkgblklmmaa", sum := "b235cd532e618d86ac25d3bc3f1dc8547f1766bcf12a693a61253f24dc4e8caf", func := "bailiwick/bailiwicklaw3.UdpParses", spec := "udpParses", unfollowed := true, recurses := true, apart := false, narrowed := true }
def UdpParsesUptoSaid : Prop := udpParsesUptoRow.holds Try.pinned (OpenSpec.upto udpParsesSpec)

/-- 'bailiwicklaw3.UdpBack', WHERE WHAT IT READS IS OF BULK AT MOST 1048576: true; the input reads as it did. -/
def udpBackUptoRow : OpenClaim := { program := "ytdppnkgblklmmaa", sum := "b235cd532e618d86ac25d3bc3f1dc8547f1766bcf12a693a61253f24dc4e8caf", func := "bailiwick/bailiwicklaw3.UdpBack", spec := "udpBack", unfollowed := true, recurses := true, apart := false, narrowed := true }
def UdpBackUptoSaid : Prop := udpBackUptoRow.holds Try.pinned (OpenSpec.upto udpBackSpec)

/-- 'bailiwicklaw5.IcmpBuilds', WHERE WHAT IT READS IS OF BULK AT MOST 1048576: true; the input reads as it did. -/
def icmpBuildsUptoRow : OpenClaim := { program := "ytdppnkgblklmmaa", sum := "b235cd532e618d86ac25d3bc3f1dc8547f1766bcf12a693a61253f24dc4e8caf", func := "bailiwick/bailiwicklaw5.IcmpBuilds", spec := "icmpBuilds", unfollowed := true, recurses := true, apart := false, narrowed := true }
def IcmpBuildsUptoSaid : Prop := icmpBuildsUptoRow.holds Try.pinned (OpenSpec.upto icmpBuildsSpec)

/-- 'bailiwicklaw5.IcmpKnown', WHERE WHAT IT READS IS OF BULK AT MOST 1048576: true; the input reads as it did. -/
def icmpKnownUptoRow : OpenClaim := { program := "ytdppnkgblklmmaa", sum := "b235cd532e618d86ac25d3bc3f1dc8547f1766bcf12a693a61253f24dc4e8caf", func := "bailiwick/bailiwicklaw5.IcmpKnown", spec := "icmpKnown", unfollowed := true, recurses := true, apart := false, narrowed := true }
def IcmpKnownUptoSaid : Prop := icmpKnownUptoRow.holds Try.pinned (OpenSpec.upto icmpKnownSpec)

/-- 'bailiwicklaw5.IcmpKinds', WHERE WHAT IT READS IS OF BULK AT MOST 1048576: true; the input reads as it did. -/
def icmpKindsUptoRow : OpenClaim := { program := "ytdppnkgblklmmaa", sum := "b235cd532e618d86ac25d3bc3f1dc8547f1766bcf12a693a61253f24dc4e8caf", func := "bailiwick/bailiwicklaw5.IcmpKinds", spec := "icmpKinds", unfollowed := true, recurses := true, apart := false, narrowed := true }
def IcmpKindsUptoSaid : Prop := icmpKindsUptoRow.holds Try.pinned (OpenSpec.upto icmpKindsSpec)

/-- 'bailiwicklaw5.IcmpParses', WHERE WHAT IT READS IS OF BULK AT MOST 1048576: true; the input reads as it did. -/
def icmpParsesUptoRow : OpenClaim := { program := "ytdppnkgblklmmaa", sum := "b235cd532e618d86ac25d3bc3f1dc8547f1766bcf12a693a61253f24dc4e8caf", func := "bailiwick/bailiwicklaw5.IcmpParses", spec := "icmpParses", unfollowed := true, recurses := true, apart := false, narrowed := true }
def IcmpParsesUptoSaid : Prop := icmpParsesUptoRow.holds Try.pinned (OpenSpec.upto icmpParsesSpec)

/-- 'bailiwicklaw5.IcmpBack', WHERE WHAT IT READS IS OF BULK AT MOST 1048576: true; the input reads as it did. -/
def icmpBackUptoRow : OpenClaim := { program := "ytdppnkgblklmmaa", sum := "b235cd532e618d86ac25d3bc3f1dc8547f1766bcf12a693a61253f24dc4e8caf", func := "bailiwick/bailiwicklaw5.IcmpBack", spec := "icmpBack", unfollowed := true, recurses := true, apart := false, narrowed := true }
def IcmpBackUptoSaid : Prop := icmpBackUptoRow.holds Try.pinned (OpenSpec.upto icmpBackSpec)

end Rows
end Go.Proofs.Ytdppnkgblklmmaa
