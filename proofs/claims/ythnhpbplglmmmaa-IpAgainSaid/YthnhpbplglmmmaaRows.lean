/-
  No cell of these rows narrows 'for every input' (looked for: loops, veiled, ifaces, maps, wideKeys, modest, calm, conditions, laid).
  DERIVED. THE GIVEN ROWS OF THIS SEAT. 10 by the template 'for every input the law returns true; each argument reads behind the call as it read before'; 0 by the template 'total and deterministic' (their statements: YthnhpbplglmmmaaTotals.lean).
  GIVEN WITH THE SEED: the statements are not yours to turn. If you find one false, say at which input.
  Laid BY PROGRAM, IN A SANDBOX (cutbox-rows.mjs): the forced cells as the released guide's own fill.sh prints them over the translation 1ea0e47b7a451266… (all of the seat's roots in one cut). By AI agents, Wed Nov 11 2026. No macro, syntax, notation, axiom, sorry.
-/
import Derived.Test.YthnhpbplglmmmaaChecked
import GoSem.Claim
import GoSem.ClaimJoined
import GoSem.ClaimMapViews
import Derived.JoinedTies
import Derived.KernelRfl
namespace Go.Proofs.Ythnhpbplglmmmaa
/- THE CELL 'sum', in the pinned program and in every row, IS THE sha256 OF THE DUMP (.gsa) THAT YthnhpbplglmmmaaProg.lean LOADS. Nothing in Lean hashes anything: it is a label: what it is worth is what the hold of that sum in a sandbox is worth. -/
noncomputable def Try.pinned : Pinned := { name := "ythnhpbplglmmmaa", sum := "1ea0e47b7a4512662ed16ecfbcb7729c24b614b646db789bb22ff76cc8bb4852", checked := Try.checked }
namespace Rows
def none {H : Type} : Left H := { results := [], args := [] }

/-- 'bailiwicklaw2.IpBuilds': WHATEVER THE INPUT: true; the input reads as it did. -/
def ipBuildsSpec : ChangeSpec := { name := "ipBuilds", fn := fun _ => fun
  | [d] => { results := [.lit (.bool true)], args := [d] }
  | _ => none }
def ipBuildsRow : OpenClaim := { program := "ythnhpbplglmmmaa", sum := "1ea0e47b7a4512662ed16ecfbcb7729c24b614b646db789bb22ff76cc8bb4852", func := "bailiwick/bailiwicklaw2.IpBuilds", spec := "ipBuilds", unfollowed := true, recurses := true, apart := false }
def IpBuildsSaid : Prop := ipBuildsRow.holds Try.pinned (OpenSpec.ofChange ipBuildsSpec)

/-- ITS FALSE NEIGHBOUR: 'it returns false'. Refute it at one input. -/
def ipBuildsWrong : ChangeSpec := { name := "ipBuilds", fn := fun _ => fun
  | [d] => { results := [.lit (.bool false)], args := [d] }
  | _ => none }
def IpBuildsWrongFalsely : Prop := ipBuildsRow.holds Try.pinned (OpenSpec.ofChange ipBuildsWrong)

/-- 'bailiwicklaw2.IpParses': WHATEVER THE INPUT: true; the input reads as it did. -/
def ipParsesSpec : ChangeSpec := { name := "ipParses", fn := fun _ => fun
  | [d] => { results := [.lit (.bool true)], args := [d] }
  | _ => none }
def ipParsesRow : OpenClaim := { program := "ythnhpbplglmmmaa", sum := "1ea0e47b7a4512662ed16ecfbcb7729c24b614b646db789bb22ff76cc8bb4852", func := "bailiwick/bailiwicklaw2.IpParses", spec := "ipParses", unfollowed := true, recurses := true, apart := false }
def IpParsesSaid : Prop := ipParsesRow.holds Try.pinned (OpenSpec.ofChange ipParsesSpec)

/-- ITS FALSE NEIGHBOUR: 'it returns false'. Refute it at one input. -/
def ipParsesWrong : ChangeSpec := { name := "ipParses", fn := fun _ => fun
  | [d] => { results := [.lit (.bool false)], args := [d] }
  | _ => none }
def IpParsesWrongFalsely : Prop := ipParsesRow.holds Try.pinned (OpenSpec.ofChange ipParsesWrong)

/-- 'bailiwicklaw2.IpBack': WHATEVER THE INPUT: true; the input reads as it did. -/
def ipBackSpec : ChangeSpec := { name := "ipBack", fn := fun _ => fun
  | [d1, d2] => { results := [.lit (.bool true)], args := [d1, d2] }
  | _ => none }
def ipBackRow : OpenClaim := { program := "ythnhpbplglmmmaa", sum := "1ea0e47b7a4512662ed16ecfbcb7729c24b614b646db789bb22ff76cc8bb4852", func := "bailiwick/bailiwicklaw2.IpBack", spec := "ipBack", unfollowed := true, recurses := true, apart := false }
def IpBackSaid : Prop := ipBackRow.holds Try.pinned (OpenSpec.ofChange ipBackSpec)

/-- ITS FALSE NEIGHBOUR: 'it returns false'. Refute it at one input. -/
def ipBackWrong : ChangeSpec := { name := "ipBack", fn := fun _ => fun
  | [d1, d2] => { results := [.lit (.bool false)], args := [d1, d2] }
  | _ => none }
def IpBackWrongFalsely : Prop := ipBackRow.holds Try.pinned (OpenSpec.ofChange ipBackWrong)

/-- 'bailiwicklaw2.IpAgain': WHATEVER THE INPUT: true; the input reads as it did. -/
def ipAgainSpec : ChangeSpec := { name := "ipAgain", fn := fun _ => fun
  | [d] => { results := [.lit (.bool true)], args := [d] }
  | _ => none }
def ipAgainRow : OpenClaim := { program := "ythnhpbplglmmmaa", sum := "1ea0e47b7a4512662ed16ecfbcb7729c24b614b646db789bb22ff76cc8bb4852", func := "bailiwick/bailiwicklaw2.IpAgain", spec := "ipAgain", unfollowed := true, recurses := true, apart := false }
def IpAgainSaid : Prop := ipAgainRow.holds Try.pinned (OpenSpec.ofChange ipAgainSpec)

/-- ITS FALSE NEIGHBOUR: 'it returns false'. Refute it at one input. -/
def ipAgainWrong : ChangeSpec := { name := "ipAgain", fn := fun _ => fun
  | [d] => { results := [.lit (.bool false)], args := [d] }
  | _ => none }
def IpAgainWrongFalsely : Prop := ipAgainRow.holds Try.pinned (OpenSpec.ofChange ipAgainWrong)

/-- 'bailiwicklaw2.IpTurned': WHATEVER THE INPUT: true; the input reads as it did. -/
def ipTurnedSpec : ChangeSpec := { name := "ipTurned", fn := fun _ => fun
  | [d1, d2] => { results := [.lit (.bool true)], args := [d1, d2] }
  | _ => none }
def ipTurnedRow : OpenClaim := { program := "ythnhpbplglmmmaa", sum := "1ea0e47b7a4512662ed16ecfbcb7729c24b614b646db789bb22ff76cc8bb4852", func := "bailiwick/bailiwicklaw2.IpTurned", spec := "ipTurned", unfollowed := true, recurses := true, apart := false }
def IpTurnedSaid : Prop := ipTurnedRow.holds Try.pinned (OpenSpec.ofChange ipTurnedSpec)

/-- ITS FALSE NEIGHBOUR: 'it returns false'. Refute it at one input. -/
def ipTurnedWrong : ChangeSpec := { name := "ipTurned", fn := fun _ => fun
  | [d1, d2] => { results := [.lit (.bool false)], args := [d1, d2] }
  | _ => none }
def IpTurnedWrongFalsely : Prop := ipTurnedRow.holds Try.pinned (OpenSpec.ofChange ipTurnedWrong)

/-- 'bailiwicklaw4.TcpBuilds': WHATEVER THE INPUT: true; the input reads as it did. -/
def tcpBuildsSpec : ChangeSpec := { name := "tcpBuilds", fn := fun _ => fun
  | [d] => { results := [.lit (.bool true)], args := [d] }
  | _ => none }
def tcpBuildsRow : OpenClaim := { program := "ythnhpbplglmmmaa", sum := "1ea0e47b7a4512662ed16ecfbcb7729c24b614b646db789bb22ff76cc8bb4852", func := "bailiwick/bailiwicklaw4.TcpBuilds", spec := "tcpBuilds", unfollowed := true, recurses := true, apart := false }
def TcpBuildsSaid : Prop := tcpBuildsRow.holds Try.pinned (OpenSpec.ofChange tcpBuildsSpec)

/-- ITS FALSE NEIGHBOUR: 'it returns false'. Refute it at one input. -/
def tcpBuildsWrong : ChangeSpec := { name := "tcpBuilds", fn := fun _ => fun
  | [d] => { results := [.lit (.bool false)], args := [d] }
  | _ => none }
def TcpBuildsWrongFalsely : Prop := tcpBuildsRow.holds Try.pinned (OpenSpec.ofChange tcpBuildsWrong)

/-- 'bailiwicklaw4.TcpKnown': WHATEVER THE INPUT: true; the input reads as it did. -/
def tcpKnownSpec : ChangeSpec := { name := "tcpKnown", fn := fun _ => fun
  | [] => { results := [.lit (.bool true)], args := [] }
  | _ => none }
def tcpKnownRow : OpenClaim := { program := "ythnhpbplglmmmaa", sum := "1ea0e47b7a4512662ed16ecfbcb7729c24b614b646db789bb22ff76cc8bb4852", func := "bailiwick/bailiwicklaw4.TcpKnown", spec := "tcpKnown", unfollowed := true, recurses := true, apart := false }
def TcpKnownSaid : Prop := tcpKnownRow.holds Try.pinned (OpenSpec.ofChange tcpKnownSpec)

/-- ITS FALSE NEIGHBOUR: 'it returns false'. Refute it at one input. -/
def tcpKnownWrong : ChangeSpec := { name := "tcpKnown", fn := fun _ => fun
  | [] => { results := [.lit (.bool false)], args := [] }
  | _ => none }
def TcpKnownWrongFalsely : Prop := tcpKnownRow.holds Try.pinned (OpenSpec.ofChange tcpKnownWrong)

/-- 'bailiwicklaw4.TcpParses': WHATEVER THE INPUT: true; the input reads as it did. -/
def tcpParsesSpec : ChangeSpec := { name := "tcpParses", fn := fun _ => fun
  | [d1, d2, d3] => { results := [.lit (.bool true)], args := [d1, d2, d3] }
  | _ => none }
def tcpParsesRow : OpenClaim := { program := "ythnhpbplglmmmaa", sum := "1ea0e47b7a4512662ed16ecfbcb7729c24b614b646db789bb22ff76cc8bb4852", func := "bailiwick/bailiwicklaw4.TcpParses", spec := "tcpParses", unfollowed := true, recurses := true, apart := false }
def TcpParsesSaid : Prop := tcpParsesRow.holds Try.pinned (OpenSpec.ofChange tcpParsesSpec)

/-- ITS FALSE NEIGHBOUR: 'it returns false'. Refute it at one input. -/
def tcpParsesWrong : ChangeSpec := { name := "tcpParses", fn := fun _ => fun
  | [d1, d2, d3] => { results := [.lit (.bool false)], args := [d1, d2, d3] }
  | _ => none }
def TcpParsesWrongFalsely : Prop := tcpParsesRow.holds Try.pinned (OpenSpec.ofChange tcpParsesWrong)

/-- 'bailiwicklaw4.TcpBack': WHATEVER THE INPUT: true; the input reads as it did. -/
def tcpBackSpec : ChangeSpec := { name := "tcpBack", fn := fun _ => fun
  | [d] => { results := [.lit (.bool true)], args := [d] }
  | _ => none }
def tcpBackRow : OpenClaim := { program := "ythnhpbplglmmmaa", sum := "1ea0e47b7a4512662ed16ecfbcb7729c24b614b646db789bb22ff76cc8bb4852", func := "bailiwick/bailiwicklaw4.TcpBack", spec := "tcpBack", unfollowed := true, recurses := true, apart := false }
def TcpBackSaid : Prop := tcpBackRow.holds Try.pinned (OpenSpec.ofChange tcpBackSpec)

/-- ITS FALSE NEIGHBOUR: 'it returns false'. Refute it at one input. -/
def tcpBackWrong : ChangeSpec := { name := "tcpBack", fn := fun _ => fun
  | [d] => { results := [.lit (.bool false)], args := [d] }
  | _ => none }
def TcpBackWrongFalsely : Prop := tcpBackRow.holds Try.pinned (OpenSpec.ofChange tcpBackWrong)

/-- 'bailiwicklaw4.TcpTurned': WHATEVER THE INPUT: true; the input reads as it did. -/
def tcpTurnedSpec : ChangeSpec := { name := "tcpTurned", fn := fun _ => fun
  | [d1, d2] => { results := [.lit (.bool true)], args := [d1, d2] }
  | _ => none }
def tcpTurnedRow : OpenClaim := { program := "ythnhpbplglmmmaa", sum := "1ea0e47b7a4512662ed16ecfbcb7729c24b614b646db789bb22ff76cc8bb4852", func := "bailiwick/bailiwicklaw4.TcpTurned", spec := "tcpTurned", unfollowed := true, recurses := true, apart := false }
def TcpTurnedSaid : Prop := tcpTurnedRow.holds Try.pinned (OpenSpec.ofChange tcpTurnedSpec)

/-- ITS FALSE NEIGHBOUR: 'it returns false'. Refute it at one input. -/
def tcpTurnedWrong : ChangeSpec := { name := "tcpTurned", fn := fun _ => fun
  | [d1, d2] => { results := [.lit (.bool false)], args := [d1, d2] }
  | _ => none }
def TcpTurnedWrongFalsely : Prop := tcpTurnedRow.holds Try.pinned (OpenSpec.ofChange tcpTurnedWrong)

/- THE SECOND FORM. 'bulk': how many values and letters a reading holds, each counted each time it is reached (what is shared counts as often as it is met; a slice's spare places count too). A statement '..UptoSaid' is the law's where the arguments, and the package variables that the reading takes, are together of bulk at most 1048576: NARROWER than '..Said'. Prove '..Said' where nothing that the law and all that it calls make is longer than what came in: it says more and counts as full. Else prove '..UptoSaid'. A law counts once. -/
mutual
def uptoBulk {H : Type} : DataW H → Nat
  | .lit (.string bytes) => bytes.length + 1
  | .lit _ => 1
  | .nil => 1
  | .ptr d => uptoBulk d + 1
  | .slice elems spare => uptoBulkAll elems + uptoBulkAll spare + 1
  | .agg parts => uptoBulkAll parts + 1
  | .iface _ d => uptoBulk d + 1
  | .map entries => uptoBulkEntries entries + 1
  | .held _ => 1
def uptoBulkAll {H : Type} : List (DataW H) → Nat
  | [] => 0
  | d :: r => uptoBulk d + uptoBulkAll r
def uptoBulkEntries {H : Type} : List (Lit × DataW H) → Nat
  | [] => 0
  | x :: r => uptoBulkEntry x + uptoBulkEntries r
def uptoBulkEntry {H : Type} : Lit × DataW H → Nat
  | (.string bytes, d) => bytes.length + uptoBulk d + 1
  | (_, d) => uptoBulk d + 1
 end
def uptoSmall : (H : Type) → List (DataW H) → Bool := fun _ ds => decide (uptoBulkAll ds ≤ 1048576)
def OpenSpec.upto (s : _root_.Go.ChangeSpec) : _root_.Go.OpenSpec := { _root_.Go.OpenSpec.ofChange s with cond := some uptoSmall }

/-- 'bailiwicklaw2.IpBuilds', WHERE WHAT IT READS IS OF BULK AT MOST 1048576: true; the input reads as it did. -/
def ipBuildsUptoRow : OpenClaim := { program := "ythnhpbplglmmmaa", sum := "1ea0e47b7a4512662ed16ecfbcb7729c24b614b646db789bb22ff76cc8bb4852", func := "bailiwick/bailiwicklaw2.IpBuilds", spec := "ipBuilds", unfollowed := true, recurses := true, apart := false, narrowed := true }
def IpBuildsUptoSaid : Prop := ipBuildsUptoRow.holds Try.pinned (OpenSpec.upto ipBuildsSpec)

/-- 'bailiwicklaw2.IpParses', WHERE WHAT IT READS IS OF BULK AT MOST 1048576: true; the input reads as it did. -/
def ipParsesUptoRow : OpenClaim := { program := "ythnhpbplglmmmaa", sum := "1ea0e47b7a4512662ed16ecfbcb7729c24b614b646db789bb22ff76cc8bb4852", func := "bailiwick/bailiwicklaw2.IpParses", spec := "ipParses", unfollowed := true, recurses := true, apart := false, narrowed := true }
def IpParsesUptoSaid : Prop := ipParsesUptoRow.holds Try.pinned (OpenSpec.upto ipParsesSpec)

/-- 'bailiwicklaw2.IpBack', WHERE WHAT IT READS IS OF BULK AT MOST 1048576: true; the input reads as it did. -/
def ipBackUptoRow : OpenClaim := { program := "ythnhpbplglmmmaa", sum := "1ea0e47b7a4512662ed16ecfbcb7729c24b614b646db789bb22ff76cc8bb4852", func := "bailiwick/bailiwicklaw2.IpBack", spec := "ipBack", unfollowed := true, recurses := true, apart := false, narrowed := true }
def IpBackUptoSaid : Prop := ipBackUptoRow.holds Try.pinned (OpenSpec.upto ipBackSpec)

/-- 'bailiwicklaw2.IpAgain', WHERE WHAT IT READS IS OF BULK AT MOST 1048576: true; the input reads as it did. -/
def ipAgainUptoRow : OpenClaim := { program := "ythnhpbplglmmmaa", sum := "1ea0e47b7a4512662ed16ecfbcb7729c24b614b646db789bb22ff76cc8bb4852", func := "bailiwick/bailiwicklaw2.IpAgain", spec := "ipAgain", unfollowed := true, recurses := true, apart := false, narrowed := true }
def IpAgainUptoSaid : Prop := ipAgainUptoRow.holds Try.pinned (OpenSpec.upto ipAgainSpec)

/-- 'bailiwicklaw2.IpTurned', WHERE WHAT IT READS IS OF BULK AT MOST 1048576: true; the input reads as it did. -/
def ipTurnedUptoRow : OpenClaim := { program := "ythnhpbplglmmmaa", sum := "1ea0e47b7a4512662ed16ecfbcb7729c24b614b646db789bb22ff76cc8bb4852", func := "bailiwick/bailiwicklaw2.IpTurned", spec := "ipTurned", unfollowed := true, recurses := true, apart := false, narrowed := true }
def IpTurnedUptoSaid : Prop := ipTurnedUptoRow.holds Try.pinned (OpenSpec.upto ipTurnedSpec)

/-- 'bailiwicklaw4.TcpBuilds', WHERE WHAT IT READS IS OF BULK AT MOST 1048576: true; the input reads as it did. -/
def tcpBuildsUptoRow : OpenClaim := { program := "ythnhpbplglmmmaa", sum := "1ea0e47b7a4512662ed16ecfbcb7729c24b614b646db789bb22ff76cc8bb4852", func := "bailiwick/bailiwicklaw4.TcpBuilds", spec := "tcpBuilds", unfollowed := true, recurses := true, apart := false, narrowed := true }
def TcpBuildsUptoSaid : Prop := tcpBuildsUptoRow.holds Try.pinned (OpenSpec.upto tcpBuildsSpec)

/-- 'bailiwicklaw4.TcpKnown', WHERE WHAT IT READS IS OF BULK AT MOST 1048576: true; the input reads as it did. -/
def tcpKnownUptoRow : OpenClaim := { program := "ythnhpbplglmmmaa", sum := "1ea0e47b7a4512662ed16ecfbcb7729c24b614b646db789bb22ff76cc8bb4852", func := "bailiwick/bailiwicklaw4.TcpKnown", spec := "tcpKnown", unfollowed := true, recurses := true, apart := false, narrowed := true }
def TcpKnownUptoSaid : Prop := tcpKnownUptoRow.holds Try.pinned (OpenSpec.upto tcpKnownSpec)

/-- 'bailiwicklaw4.TcpParses', WHERE WHAT IT READS IS OF BULK AT MOST 1048576: true; the input reads as it did. -/
def tcpParsesUptoRow : OpenClaim := { program := "ythnhpbplglmmmaa", sum := "1ea0e47b7a4512662ed16ecfbcb7729c24b614b646db789bb22ff76cc8bb4852", func := "bailiwick/bailiwicklaw4.TcpParses", spec := "tcpParses", unfollowed := true, recurses := true, apart := false, narrowed := true }
def TcpParsesUptoSaid : Prop := tcpParsesUptoRow.holds Try.pinned (OpenSpec.upto tcpParsesSpec)

/-- 'bailiwicklaw4.TcpBack', WHERE WHAT IT READS IS OF BULK AT MOST 1048576: true; the input reads as it did. -/
def tcpBackUptoRow : OpenClaim := { program := "ythnhpbplglmmmaa", sum := "1ea0e47b7a4512662ed16ecfbcb7729c24b614b646db789bb22ff76cc8bb4852", func := "bailiwick/bailiwicklaw4.TcpBack", spec := "tcpBack", unfollowed := true, recurses := true, apart := false, narrowed := true }
def TcpBackUptoSaid : Prop := tcpBackUptoRow.holds Try.pinned (OpenSpec.upto tcpBackSpec)

/-- 'bailiwicklaw4.TcpTurned', WHERE WHAT IT READS IS OF BULK AT MOST 1048576: true; the input reads as it did. -/
def tcpTurnedUptoRow : OpenClaim := { program := "ythnhpbplglmmmaa", sum := "1ea0e47b7a4512662ed16ecfbcb7729c24b614b646db789bb22ff76cc8bb4852", func := "bailiwick/bailiwicklaw4.TcpTurned", spec := "tcpTurned", unfollowed := true, recurses := true, apart := false, narrowed := true }
def TcpTurnedUptoSaid : Prop := tcpTurnedUptoRow.holds Try.pinned (OpenSpec.upto tcpTurnedSpec)

end Rows
end Go.Proofs.Ythnhpbplglmmmaa
