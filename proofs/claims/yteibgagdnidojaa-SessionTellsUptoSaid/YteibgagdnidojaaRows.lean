/-
  No cell of these rows narrows 'for every input' (looked for: loops, veiled, ifaces, maps, wideKeys, modest, calm, conditions, laid).
  DERIVED. THE GIVEN ROWS OF THIS SEAT. 20 by the template 'for every input the law returns true; each argument reads behind the call as it read before'; 0 by the template 'total and deterministic' (their statements: YteibgagdnidojaaTotals.lean).
  GIVEN WITH THE SEED: the statements are not yours to turn. If you find one false, say at which input.
  Laid BY PROGRAM, IN A SANDBOX (cutbox-rows.mjs): the forced cells as the released guide's own fill.sh prints them over the translation 7a7e131dcca98a12… (all of the seat's roots in one cut). By AI agents, Wed Nov 11 2026. No macro, syntax, notation, axiom, sorry.
-/
import Derived.Test.YteibgagdnidojaaChecked
import GoSem.Claim
import GoSem.ClaimJoined
import GoSem.ClaimMapViews
import Derived.JoinedTies
import Derived.KernelRfl
namespace Go.Proofs.Yteibgagdnidojaa
/- THE CELL 'sum', in the pinned program and in every row, IS THE sha256 OF THE DUMP (.gsa) THAT YteibgagdnidojaaProg.lean LOADS. Nothing in Lean hashes anything: it is a label: what it is worth is what the hold of that sum in a sandbox is worth. -/
noncomputable def Try.pinned : Pinned := { name := "yteibgagdnidojaa", sum := "7a7e131dcca98a12ee52dae2c27fbab4481d46f5ca39a8dcc5f72df73781ceaa", checked := Try.checked }
namespace Rows
def none {H : Type} : Left H := { results := [], args := [] }

/-- 'osmosislaw2.HashKnown': WHATEVER THE INPUT: true; the input reads as it did. -/
def hashKnownSpec : ChangeSpec := { name := "hashKnown", fn := fun _ => fun
  | [] => { results := [.lit (.bool true)], args := [] }
  | _ => none }
def hashKnownRow : OpenClaim := { program := "yteibgagdnidojaa", sum := "7a7e131dcca98a12ee52dae2c27fbab4481d46f5ca39a8dcc5f72df73781ceaa", func := "osmosis/osmosislaw2.HashKnown", spec := "hashKnown", apart := false }
def HashKnownSaid : Prop := hashKnownRow.holds Try.pinned (OpenSpec.ofChange hashKnownSpec)

/-- ITS FALSE NEIGHBOUR: 'it returns false'. Refute it at one input. -/
def hashKnownWrong : ChangeSpec := { name := "hashKnown", fn := fun _ => fun
  | [] => { results := [.lit (.bool false)], args := [] }
  | _ => none }
def HashKnownWrongFalsely : Prop := hashKnownRow.holds Try.pinned (OpenSpec.ofChange hashKnownWrong)

/-- 'osmosislaw2.HashTells': WHATEVER THE INPUT: true; the input reads as it did. -/
def hashTellsSpec : ChangeSpec := { name := "hashTells", fn := fun _ => fun
  | [d1, d2, d3] => { results := [.lit (.bool true)], args := [d1, d2, d3] }
  | _ => none }
def hashTellsRow : OpenClaim := { program := "yteibgagdnidojaa", sum := "7a7e131dcca98a12ee52dae2c27fbab4481d46f5ca39a8dcc5f72df73781ceaa", func := "osmosis/osmosislaw2.HashTells", spec := "hashTells", apart := false }
def HashTellsSaid : Prop := hashTellsRow.holds Try.pinned (OpenSpec.ofChange hashTellsSpec)

/-- ITS FALSE NEIGHBOUR: 'it returns false'. Refute it at one input. -/
def hashTellsWrong : ChangeSpec := { name := "hashTells", fn := fun _ => fun
  | [d1, d2, d3] => { results := [.lit (.bool false)], args := [d1, d2, d3] }
  | _ => none }
def HashTellsWrongFalsely : Prop := hashTellsRow.holds Try.pinned (OpenSpec.ofChange hashTellsWrong)

/-- 'osmosislaw2.HashApart': WHATEVER THE INPUT: true; the input reads as it did. -/
def hashApartSpec : ChangeSpec := { name := "hashApart", fn := fun _ => fun
  | [d1, d2, d3, d4, d5] => { results := [.lit (.bool true)], args := [d1, d2, d3, d4, d5] }
  | _ => none }
def hashApartRow : OpenClaim := { program := "yteibgagdnidojaa", sum := "7a7e131dcca98a12ee52dae2c27fbab4481d46f5ca39a8dcc5f72df73781ceaa", func := "osmosis/osmosislaw2.HashApart", spec := "hashApart", apart := false }
def HashApartSaid : Prop := hashApartRow.holds Try.pinned (OpenSpec.ofChange hashApartSpec)

/-- ITS FALSE NEIGHBOUR: 'it returns false'. Refute it at one input. -/
def hashApartWrong : ChangeSpec := { name := "hashApart", fn := fun _ => fun
  | [d1, d2, d3, d4, d5] => { results := [.lit (.bool false)], args := [d1, d2, d3, d4, d5] }
  | _ => none }
def HashApartWrongFalsely : Prop := hashApartRow.holds Try.pinned (OpenSpec.ofChange hashApartWrong)

/-- 'osmosislaw2.HashDivides': WHATEVER THE INPUT: true; the input reads as it did. -/
def hashDividesSpec : ChangeSpec := { name := "hashDivides", fn := fun _ => fun
  | [d1, d2, d3] => { results := [.lit (.bool true)], args := [d1, d2, d3] }
  | _ => none }
def hashDividesRow : OpenClaim := { program := "yteibgagdnidojaa", sum := "7a7e131dcca98a12ee52dae2c27fbab4481d46f5ca39a8dcc5f72df73781ceaa", func := "osmosis/osmosislaw2.HashDivides", spec := "hashDivides", apart := false }
def HashDividesSaid : Prop := hashDividesRow.holds Try.pinned (OpenSpec.ofChange hashDividesSpec)

/-- ITS FALSE NEIGHBOUR: 'it returns false'. Refute it at one input. -/
def hashDividesWrong : ChangeSpec := { name := "hashDivides", fn := fun _ => fun
  | [d1, d2, d3] => { results := [.lit (.bool false)], args := [d1, d2, d3] }
  | _ => none }
def HashDividesWrongFalsely : Prop := hashDividesRow.holds Try.pinned (OpenSpec.ofChange hashDividesWrong)

/-- 'osmosislaw16.LockKnown': WHATEVER THE INPUT: true; the input reads as it did. -/
def lockKnownSpec : ChangeSpec := { name := "lockKnown", fn := fun _ => fun
  | [] => { results := [.lit (.bool true)], args := [] }
  | _ => none }
def lockKnownRow : OpenClaim := { program := "yteibgagdnidojaa", sum := "7a7e131dcca98a12ee52dae2c27fbab4481d46f5ca39a8dcc5f72df73781ceaa", func := "osmosis/osmosislaw16.LockKnown", spec := "lockKnown", apart := false }
def LockKnownSaid : Prop := lockKnownRow.holds Try.pinned (OpenSpec.ofChange lockKnownSpec)

/-- ITS FALSE NEIGHBOUR: 'it returns false'. Refute it at one input. -/
def lockKnownWrong : ChangeSpec := { name := "lockKnown", fn := fun _ => fun
  | [] => { results := [.lit (.bool false)], args := [] }
  | _ => none }
def LockKnownWrongFalsely : Prop := lockKnownRow.holds Try.pinned (OpenSpec.ofChange lockKnownWrong)

/-- 'osmosislaw16.LockTells': WHATEVER THE INPUT: true; the input reads as it did. -/
def lockTellsSpec : ChangeSpec := { name := "lockTells", fn := fun _ => fun
  | [d] => { results := [.lit (.bool true)], args := [d] }
  | _ => none }
def lockTellsRow : OpenClaim := { program := "yteibgagdnidojaa", sum := "7a7e131dcca98a12ee52dae2c27fbab4481d46f5ca39a8dcc5f72df73781ceaa", func := "osmosis/osmosislaw16.LockTells", spec := "lockTells", apart := false }
def LockTellsSaid : Prop := lockTellsRow.holds Try.pinned (OpenSpec.ofChange lockTellsSpec)

/-- ITS FALSE NEIGHBOUR: 'it returns false'. Refute it at one input. -/
def lockTellsWrong : ChangeSpec := { name := "lockTells", fn := fun _ => fun
  | [d] => { results := [.lit (.bool false)], args := [d] }
  | _ => none }
def LockTellsWrongFalsely : Prop := lockTellsRow.holds Try.pinned (OpenSpec.ofChange lockTellsWrong)

/-- 'osmosislaw16.LockOne': WHATEVER THE INPUT: true; the input reads as it did. -/
def lockOneSpec : ChangeSpec := { name := "lockOne", fn := fun _ => fun
  | [d1, d2, d3] => { results := [.lit (.bool true)], args := [d1, d2, d3] }
  | _ => none }
def lockOneRow : OpenClaim := { program := "yteibgagdnidojaa", sum := "7a7e131dcca98a12ee52dae2c27fbab4481d46f5ca39a8dcc5f72df73781ceaa", func := "osmosis/osmosislaw16.LockOne", spec := "lockOne", apart := false }
def LockOneSaid : Prop := lockOneRow.holds Try.pinned (OpenSpec.ofChange lockOneSpec)

/-- ITS FALSE NEIGHBOUR: 'it returns false'. Refute it at one input. -/
def lockOneWrong : ChangeSpec := { name := "lockOne", fn := fun _ => fun
  | [d1, d2, d3] => { results := [.lit (.bool false)], args := [d1, d2, d3] }
  | _ => none }
def LockOneWrongFalsely : Prop := lockOneRow.holds Try.pinned (OpenSpec.ofChange lockOneWrong)

/-- 'osmosislaw16.LockLasts': WHATEVER THE INPUT: true; the input reads as it did. -/
def lockLastsSpec : ChangeSpec := { name := "lockLasts", fn := fun _ => fun
  | [d1, d2, d3] => { results := [.lit (.bool true)], args := [d1, d2, d3] }
  | _ => none }
def lockLastsRow : OpenClaim := { program := "yteibgagdnidojaa", sum := "7a7e131dcca98a12ee52dae2c27fbab4481d46f5ca39a8dcc5f72df73781ceaa", func := "osmosis/osmosislaw16.LockLasts", spec := "lockLasts", apart := false }
def LockLastsSaid : Prop := lockLastsRow.holds Try.pinned (OpenSpec.ofChange lockLastsSpec)

/-- ITS FALSE NEIGHBOUR: 'it returns false'. Refute it at one input. -/
def lockLastsWrong : ChangeSpec := { name := "lockLasts", fn := fun _ => fun
  | [d1, d2, d3] => { results := [.lit (.bool false)], args := [d1, d2, d3] }
  | _ => none }
def LockLastsWrongFalsely : Prop := lockLastsRow.holds Try.pinned (OpenSpec.ofChange lockLastsWrong)

/-- 'osmosislaw7.SessionLast': WHATEVER THE INPUT: true; the input reads as it did. -/
def sessionLastSpec : ChangeSpec := { name := "sessionLast", fn := fun _ => fun
  | [d] => { results := [.lit (.bool true)], args := [d] }
  | _ => none }
def sessionLastRow : OpenClaim := { program := "yteibgagdnidojaa", sum := "7a7e131dcca98a12ee52dae2c27fbab4481d46f5ca39a8dcc5f72df73781ceaa", func := "osmosis/osmosislaw7.SessionLast", spec := "sessionLast", apart := false }
def SessionLastSaid : Prop := sessionLastRow.holds Try.pinned (OpenSpec.ofChange sessionLastSpec)

/-- ITS FALSE NEIGHBOUR: 'it returns false'. Refute it at one input. -/
def sessionLastWrong : ChangeSpec := { name := "sessionLast", fn := fun _ => fun
  | [d] => { results := [.lit (.bool false)], args := [d] }
  | _ => none }
def SessionLastWrongFalsely : Prop := sessionLastRow.holds Try.pinned (OpenSpec.ofChange sessionLastWrong)

/-- 'osmosislaw7.SessionOrder': WHATEVER THE INPUT: true; the input reads as it did. -/
def sessionOrderSpec : ChangeSpec := { name := "sessionOrder", fn := fun _ => fun
  | [d1, d2] => { results := [.lit (.bool true)], args := [d1, d2] }
  | _ => none }
def sessionOrderRow : OpenClaim := { program := "yteibgagdnidojaa", sum := "7a7e131dcca98a12ee52dae2c27fbab4481d46f5ca39a8dcc5f72df73781ceaa", func := "osmosis/osmosislaw7.SessionOrder", spec := "sessionOrder", apart := false }
def SessionOrderSaid : Prop := sessionOrderRow.holds Try.pinned (OpenSpec.ofChange sessionOrderSpec)

/-- ITS FALSE NEIGHBOUR: 'it returns false'. Refute it at one input. -/
def sessionOrderWrong : ChangeSpec := { name := "sessionOrder", fn := fun _ => fun
  | [d1, d2] => { results := [.lit (.bool false)], args := [d1, d2] }
  | _ => none }
def SessionOrderWrongFalsely : Prop := sessionOrderRow.holds Try.pinned (OpenSpec.ofChange sessionOrderWrong)

/-- 'osmosislaw7.SessionKnown': WHATEVER THE INPUT: true; the input reads as it did. -/
def sessionKnownSpec : ChangeSpec := { name := "sessionKnown", fn := fun _ => fun
  | [] => { results := [.lit (.bool true)], args := [] }
  | _ => none }
def sessionKnownRow : OpenClaim := { program := "yteibgagdnidojaa", sum := "7a7e131dcca98a12ee52dae2c27fbab4481d46f5ca39a8dcc5f72df73781ceaa", func := "osmosis/osmosislaw7.SessionKnown", spec := "sessionKnown", apart := false }
def SessionKnownSaid : Prop := sessionKnownRow.holds Try.pinned (OpenSpec.ofChange sessionKnownSpec)

/-- ITS FALSE NEIGHBOUR: 'it returns false'. Refute it at one input. -/
def sessionKnownWrong : ChangeSpec := { name := "sessionKnown", fn := fun _ => fun
  | [] => { results := [.lit (.bool false)], args := [] }
  | _ => none }
def SessionKnownWrongFalsely : Prop := sessionKnownRow.holds Try.pinned (OpenSpec.ofChange sessionKnownWrong)

/-- 'osmosislaw7.SessionTells': WHATEVER THE INPUT: true; the input reads as it did. -/
def sessionTellsSpec : ChangeSpec := { name := "sessionTells", fn := fun _ => fun
  | [d1, d2] => { results := [.lit (.bool true)], args := [d1, d2] }
  | _ => none }
def sessionTellsRow : OpenClaim := { program := "yteibgagdnidojaa", sum := "7a7e131dcca98a12ee52dae2c27fbab4481d46f5ca39a8dcc5f72df73781ceaa", func := "osmosis/osmosislaw7.SessionTells", spec := "sessionTells", apart := false }
def SessionTellsSaid : Prop := sessionTellsRow.holds Try.pinned (OpenSpec.ofChange sessionTellsSpec)

/-- ITS FALSE NEIGHBOUR: 'it returns false'. Refute it at one input. -/
def sessionTellsWrong : ChangeSpec := { name := "sessionTells", fn := fun _ => fun
  | [d1, d2] => { results := [.lit (.bool false)], args := [d1, d2] }
  | _ => none }
def SessionTellsWrongFalsely : Prop := sessionTellsRow.holds Try.pinned (OpenSpec.ofChange sessionTellsWrong)

/-- 'osmosislaw1.NumsShort': WHATEVER THE INPUT: true; the input reads as it did. -/
def numsShortSpec : ChangeSpec := { name := "numsShort", fn := fun _ => fun
  | [d1, d2] => { results := [.lit (.bool true)], args := [d1, d2] }
  | _ => none }
def numsShortRow : OpenClaim := { program := "yteibgagdnidojaa", sum := "7a7e131dcca98a12ee52dae2c27fbab4481d46f5ca39a8dcc5f72df73781ceaa", func := "osmosis/osmosislaw1.NumsShort", spec := "numsShort", unfollowed := true, recurses := true, apart := false }
def NumsShortSaid : Prop := numsShortRow.holds Try.pinned (OpenSpec.ofChange numsShortSpec)

/-- ITS FALSE NEIGHBOUR: 'it returns false'. Refute it at one input. -/
def numsShortWrong : ChangeSpec := { name := "numsShort", fn := fun _ => fun
  | [d1, d2] => { results := [.lit (.bool false)], args := [d1, d2] }
  | _ => none }
def NumsShortWrongFalsely : Prop := numsShortRow.holds Try.pinned (OpenSpec.ofChange numsShortWrong)

/-- 'osmosislaw4.DiskKeeps': WHATEVER THE INPUT: true; the input reads as it did. -/
def diskKeepsSpec : ChangeSpec := { name := "diskKeeps", fn := fun _ => fun
  | [d1, d2, d3] => { results := [.lit (.bool true)], args := [d1, d2, d3] }
  | _ => none }
def diskKeepsRow : OpenClaim := { program := "yteibgagdnidojaa", sum := "7a7e131dcca98a12ee52dae2c27fbab4481d46f5ca39a8dcc5f72df73781ceaa", func := "osmosis/osmosislaw4.DiskKeeps", spec := "diskKeeps", apart := false }
def DiskKeepsSaid : Prop := diskKeepsRow.holds Try.pinned (OpenSpec.ofChange diskKeepsSpec)

/-- ITS FALSE NEIGHBOUR: 'it returns false'. Refute it at one input. -/
def diskKeepsWrong : ChangeSpec := { name := "diskKeeps", fn := fun _ => fun
  | [d1, d2, d3] => { results := [.lit (.bool false)], args := [d1, d2, d3] }
  | _ => none }
def DiskKeepsWrongFalsely : Prop := diskKeepsRow.holds Try.pinned (OpenSpec.ofChange diskKeepsWrong)

/-- 'osmosislaw4.DiskApart': WHATEVER THE INPUT: true; the input reads as it did. -/
def diskApartSpec : ChangeSpec := { name := "diskApart", fn := fun _ => fun
  | [d1, d2, d3] => { results := [.lit (.bool true)], args := [d1, d2, d3] }
  | _ => none }
def diskApartRow : OpenClaim := { program := "yteibgagdnidojaa", sum := "7a7e131dcca98a12ee52dae2c27fbab4481d46f5ca39a8dcc5f72df73781ceaa", func := "osmosis/osmosislaw4.DiskApart", spec := "diskApart", apart := false }
def DiskApartSaid : Prop := diskApartRow.holds Try.pinned (OpenSpec.ofChange diskApartSpec)

/-- ITS FALSE NEIGHBOUR: 'it returns false'. Refute it at one input. -/
def diskApartWrong : ChangeSpec := { name := "diskApart", fn := fun _ => fun
  | [d1, d2, d3] => { results := [.lit (.bool false)], args := [d1, d2, d3] }
  | _ => none }
def DiskApartWrongFalsely : Prop := diskApartRow.holds Try.pinned (OpenSpec.ofChange diskApartWrong)

/-- 'osmosislaw1.NumsJoins': WHATEVER THE INPUT: true; the input reads as it did. -/
def numsJoinsSpec : ChangeSpec := { name := "numsJoins", fn := fun _ => fun
  | [d1, d2, d3, d4, d5, d6] => { results := [.lit (.bool true)], args := [d1, d2, d3, d4, d5, d6] }
  | _ => none }
def numsJoinsRow : OpenClaim := { program := "yteibgagdnidojaa", sum := "7a7e131dcca98a12ee52dae2c27fbab4481d46f5ca39a8dcc5f72df73781ceaa", func := "osmosis/osmosislaw1.NumsJoins", spec := "numsJoins", unfollowed := true, recurses := true, apart := false }
def NumsJoinsSaid : Prop := numsJoinsRow.holds Try.pinned (OpenSpec.ofChange numsJoinsSpec)

/-- ITS FALSE NEIGHBOUR: 'it returns false'. Refute it at one input. -/
def numsJoinsWrong : ChangeSpec := { name := "numsJoins", fn := fun _ => fun
  | [d1, d2, d3, d4, d5, d6] => { results := [.lit (.bool false)], args := [d1, d2, d3, d4, d5, d6] }
  | _ => none }
def NumsJoinsWrongFalsely : Prop := numsJoinsRow.holds Try.pinned (OpenSpec.ofChange numsJoinsWrong)

/-- 'osmosislaw4.DiskKnown': WHATEVER THE INPUT: true; the input reads as it did. -/
def diskKnownSpec : ChangeSpec := { name := "diskKnown", fn := fun _ => fun
  | [] => { results := [.lit (.bool true)], args := [] }
  | _ => none }
def diskKnownRow : OpenClaim := { program := "yteibgagdnidojaa", sum := "7a7e131dcca98a12ee52dae2c27fbab4481d46f5ca39a8dcc5f72df73781ceaa", func := "osmosis/osmosislaw4.DiskKnown", spec := "diskKnown", apart := false }
def DiskKnownSaid : Prop := diskKnownRow.holds Try.pinned (OpenSpec.ofChange diskKnownSpec)

/-- ITS FALSE NEIGHBOUR: 'it returns false'. Refute it at one input. -/
def diskKnownWrong : ChangeSpec := { name := "diskKnown", fn := fun _ => fun
  | [] => { results := [.lit (.bool false)], args := [] }
  | _ => none }
def DiskKnownWrongFalsely : Prop := diskKnownRow.holds Try.pinned (OpenSpec.ofChange diskKnownWrong)

/-- 'osmosislaw4.DiskTells': WHATEVER THE INPUT: true; the input reads as it did. -/
def diskTellsSpec : ChangeSpec := { name := "diskTells", fn := fun _ => fun
  | [d] => { results := [.lit (.bool true)], args := [d] }
  | _ => none }
def diskTellsRow : OpenClaim := { program := "yteibgagdnidojaa", sum := "7a7e131dcca98a12ee52dae2c27fbab4481d46f5ca39a8dcc5f72df73781ceaa", func := "osmosis/osmosislaw4.DiskTells", spec := "diskTells", apart := false }
def DiskTellsSaid : Prop := diskTellsRow.holds Try.pinned (OpenSpec.ofChange diskTellsSpec)

/-- ITS FALSE NEIGHBOUR: 'it returns false'. Refute it at one input. -/
def diskTellsWrong : ChangeSpec := { name := "diskTells", fn := fun _ => fun
  | [d] => { results := [.lit (.bool false)], args := [d] }
  | _ => none }
def DiskTellsWrongFalsely : Prop := diskTellsRow.holds Try.pinned (OpenSpec.ofChange diskTellsWrong)

/-- 'osmosislaw1.NumsKnown': WHATEVER THE INPUT: true; the input reads as it did. -/
def numsKnownSpec : ChangeSpec := { name := "numsKnown", fn := fun _ => fun
  | [] => { results := [.lit (.bool true)], args := [] }
  | _ => none }
def numsKnownRow : OpenClaim := { program := "yteibgagdnidojaa", sum := "7a7e131dcca98a12ee52dae2c27fbab4481d46f5ca39a8dcc5f72df73781ceaa", func := "osmosis/osmosislaw1.NumsKnown", spec := "numsKnown", unfollowed := true, recurses := true, apart := false }
def NumsKnownSaid : Prop := numsKnownRow.holds Try.pinned (OpenSpec.ofChange numsKnownSpec)

/-- ITS FALSE NEIGHBOUR: 'it returns false'. Refute it at one input. -/
def numsKnownWrong : ChangeSpec := { name := "numsKnown", fn := fun _ => fun
  | [] => { results := [.lit (.bool false)], args := [] }
  | _ => none }
def NumsKnownWrongFalsely : Prop := numsKnownRow.holds Try.pinned (OpenSpec.ofChange numsKnownWrong)

/-- 'osmosislaw1.NumsTells': WHATEVER THE INPUT: true; the input reads as it did. -/
def numsTellsSpec : ChangeSpec := { name := "numsTells", fn := fun _ => fun
  | [d1, d2, d3, d4, d5, d6] => { results := [.lit (.bool true)], args := [d1, d2, d3, d4, d5, d6] }
  | _ => none }
def numsTellsRow : OpenClaim := { program := "yteibgagdnidojaa", sum := "7a7e131dcca98a12ee52dae2c27fbab4481d46f5ca39a8dcc5f72df73781ceaa", func := "osmosis/osmosislaw1.NumsTells", spec := "numsTells", unfollowed := true, recurses := true, apart := false }
def NumsTellsSaid : Prop := numsTellsRow.holds Try.pinned (OpenSpec.ofChange numsTellsSpec)

/-- ITS FALSE NEIGHBOUR: 'it returns false'. Refute it at one input. -/
def numsTellsWrong : ChangeSpec := { name := "numsTells", fn := fun _ => fun
  | [d1, d2, d3, d4, d5, d6] => { results := [.lit (.bool false)], args := [d1, d2, d3, d4, d5, d6] }
  | _ => none }
def NumsTellsWrongFalsely : Prop := numsTellsRow.holds Try.pinned (OpenSpec.ofChange numsTellsWrong)

/- THE SECOND FORM. 'bulk': how many values and letters a reading holds, each counted each time it is reached (what is shared counts as often as it is met; a slice's spare places count too). A statement '..UptoSaid' is the law's where the arguments, and the package variables that the reading takes, are together of bulk at most 1048576: NARROWER than '..Said'. Prove '..Said' where nothing that the law and all that it calls make is longer than what came in: it says more and counts as full. Else prove '..UptoSaid'. A law counts once. -/
mutual
def uptoBulk {H : Type} : DataW H → Nat
  | .lit (.string bytes) => bytes.length + 1
  | .lit _ => 1
  | .nil => 1
  | .ptr d => uptoBulk d + 1
  | .slice elems spare => uptoBulkAll elems + uptoBulkAll spare + 1
  | .agg parts => uptoBulkAll parts + 1
  | .iface _ d => uptoBulk d + 1
  | .map entries => uptoBulkEntries entries + 1
  | .held _ => 1
def uptoBulkAll {H : Type} : List (DataW H) → Nat
  | [] => 0
  | d :: r => uptoBulk d + uptoBulkAll r
def uptoBulkEntries {H : Type} : List (Lit × DataW H) → Nat
  | [] => 0
  | x :: r => uptoBulkEntry x + uptoBulkEntries r
def uptoBulkEntry {H : Type} : Lit × DataW H → Nat
  | (.string bytes, d) => bytes.length + uptoBulk d + 1
  | (_, d) => uptoBulk d + 1
 end
def uptoSmall : (H : Type) → List (DataW H) → Bool := fun _ ds => decide (uptoBulkAll ds ≤ 1048576)
def OpenSpec.upto (s : _root_.Go.ChangeSpec) : _root_.Go.OpenSpec := { _root_.Go.OpenSpec.ofChange s with cond := some uptoSmall }

/-- 'osmosislaw2.HashKnown', WHERE WHAT IT READS IS OF BULK AT MOST 1048576: true; the input reads as it did. -/
def hashKnownUptoRow : OpenClaim := { program := "yteibgagdnidojaa", sum := "7a7e131dcca98a12ee52dae2c27fbab4481d46f5ca39a8dcc5f72df73781ceaa", func := "osmosis/osmosislaw2.HashKnown", spec := "hashKnown", apart := false, narrowed := true }
def HashKnownUptoSaid : Prop := hashKnownUptoRow.holds Try.pinned (OpenSpec.upto hashKnownSpec)

/-- 'osmosislaw2.HashTells', WHERE WHAT IT READS IS OF BULK AT MOST 1048576: true; the input reads as it did. -/
def hashTellsUptoRow : OpenClaim := { program := "yteibgagdnidojaa", sum := "7a7e131dcca98a12ee52dae2c27fbab4481d46f5ca39a8dcc5f72df73781ceaa", func := "osmosis/osmosislaw2.HashTells", spec := "hashTells", apart := false, narrowed := true }
def HashTellsUptoSaid : Prop := hashTellsUptoRow.holds Try.pinned (OpenSpec.upto hashTellsSpec)

/-- 'osmosislaw2.HashApart', WHERE WHAT IT READS IS OF BULK AT MOST 1048576: true; the input reads as it did. -/
def hashApartUptoRow : OpenClaim := { program := "yteibgagdnidojaa", sum := "7a7e131dcca98a12ee52dae2c27fbab4481d46f5ca39a8dcc5f72df73781ceaa", func := "osmosis/osmosislaw2.HashApart", spec := "hashApart", apart := false, narrowed := true }
def HashApartUptoSaid : Prop := hashApartUptoRow.holds Try.pinned (OpenSpec.upto hashApartSpec)

/-- 'osmosislaw2.HashDivides', WHERE WHAT IT READS IS OF BULK AT MOST 1048576: true; the input reads as it did. -/
def hashDividesUptoRow : OpenClaim := { program := "yteibgagdnidojaa", sum := "7a7e131dcca98a12ee52dae2c27fbab4481d46f5ca39a8dcc5f72df73781ceaa", func := "osmosis/osmosislaw2.HashDivides", spec := "hashDivides", apart := false, narrowed := true }
def HashDividesUptoSaid : Prop := hashDividesUptoRow.holds Try.pinned (OpenSpec.upto hashDividesSpec)

/-- 'osmosislaw16.LockKnown', WHERE WHAT IT READS IS OF BULK AT MOST 1048576: true; the input reads as it did. -/
def lockKnownUptoRow : OpenClaim := { program := "yteibgagdnidojaa", sum := "7a7e131dcca98a12ee52dae2c27fbab4481d46f5ca39a8dcc5f72df73781ceaa", func := "osmosis/osmosislaw16.LockKnown", spec := "lockKnown", apart := false, narrowed := true }
def LockKnownUptoSaid : Prop := lockKnownUptoRow.holds Try.pinned (OpenSpec.upto lockKnownSpec)

/-- 'osmosislaw16.LockTells', WHERE WHAT IT READS IS OF BULK AT MOST 1048576: true; the input reads as it did. -/
def lockTellsUptoRow : OpenClaim := { program := "yteibgagdnidojaa", sum := "7a7e131dcca98a12ee52dae2c27fbab4481d46f5ca39a8dcc5f72df73781ceaa", func := "osmosis/osmosislaw16.LockTells", spec := "lockTells", apart := false, narrowed := true }
def LockTellsUptoSaid : Prop := lockTellsUptoRow.holds Try.pinned (OpenSpec.upto lockTellsSpec)

/-- 'osmosislaw16.LockOne', WHERE WHAT IT READS IS OF BULK AT MOST 1048576: true; the input reads as it did. -/
def lockOneUptoRow : OpenClaim := { program := "yteibgagdnidojaa", sum := "7a7e131dcca98a12ee52dae2c27fbab4481d46f5ca39a8dcc5f72df73781ceaa", func := "osmosis/osmosislaw16.LockOne", spec := "lockOne", apart := false, narrowed := true }
def LockOneUptoSaid : Prop := lockOneUptoRow.holds Try.pinned (OpenSpec.upto lockOneSpec)

/-- 'osmosislaw16.LockLasts', WHERE WHAT IT READS IS OF BULK AT MOST 1048576: true; the input reads as it did. -/
def lockLastsUptoRow : OpenClaim := { program := "yteibgagdnidojaa", sum := "7a7e131dcca98a12ee52dae2c27fbab4481d46f5ca39a8dcc5f72df73781ceaa", func := "osmosis/osmosislaw16.LockLasts", spec := "lockLasts", apart := false, narrowed := true }
def LockLastsUptoSaid : Prop := lockLastsUptoRow.holds Try.pinned (OpenSpec.upto lockLastsSpec)

/-- 'osmosislaw7.SessionLast', WHERE WHAT IT READS IS OF BULK AT MOST 1048576: true; the input reads as it did. -/
def sessionLastUptoRow : OpenClaim := { program := "yteibgagdnidojaa", sum := "7a7e131dcca98a12ee52dae2c27fbab4481d46f5ca39a8dcc5f72df73781ceaa", func := "osmosis/osmosislaw7.SessionLast", spec := "sessionLast", apart := false, narrowed := true }
def SessionLastUptoSaid : Prop := sessionLastUptoRow.holds Try.pinned (OpenSpec.upto sessionLastSpec)

/-- 'osmosislaw7.SessionOrder', WHERE WHAT IT READS IS OF BULK AT MOST 1048576: true; the input reads as it did. -/
def sessionOrderUptoRow : OpenClaim := { program := "yteibgagdnidojaa", sum := "7a7e131dcca98a12ee52dae2c27fbab4481d46f5ca39a8dcc5f72df73781ceaa", func := "osmosis/osmosislaw7.SessionOrder", spec := "sessionOrder", apart := false, narrowed := true }
def SessionOrderUptoSaid : Prop := sessionOrderUptoRow.holds Try.pinned (OpenSpec.upto sessionOrderSpec)

/-- 'osmosislaw7.SessionKnown', WHERE WHAT IT READS IS OF BULK AT MOST 1048576: true; the input reads as it did. -/
def sessionKnownUptoRow : OpenClaim := { program := "yteibgagdnidojaa", sum := "7a7e131dcca98a12ee52dae2c27fbab4481d46f5ca39a8dcc5f72df73781ceaa", func := "osmosis/osmosislaw7.SessionKnown", spec := "sessionKnown", apart := false, narrowed := true }
def SessionKnownUptoSaid : Prop := sessionKnownUptoRow.holds Try.pinned (OpenSpec.upto sessionKnownSpec)

/-- 'osmosislaw7.SessionTells', WHERE WHAT IT READS IS OF BULK AT MOST 1048576: true; the input reads as it did. -/
def sessionTellsUptoRow : OpenClaim := { program := "yteibgagdnidojaa", sum := "7a7e131dcca98a12ee52dae2c27fbab4481d46f5ca39a8dcc5f72df73781ceaa", func := "osmosis/osmosislaw7.SessionTells", spec := "sessionTells", apart := false, narrowed := true }
def SessionTellsUptoSaid : Prop := sessionTellsUptoRow.holds Try.pinned (OpenSpec.upto sessionTellsSpec)

/-- 'osmosislaw1.NumsShort', WHERE WHAT IT READS IS OF BULK AT MOST 1048576: true; the input reads as it did. -/
def numsShortUptoRow : OpenClaim := { program := "yteibgagdnidojaa", sum := "7a7e131dcca98a12ee52dae2c27fbab4481d46f5ca39a8dcc5f72df73781ceaa", func := "osmosis/osmosislaw1.NumsShort", spec := "numsShort", unfollowed := true, recurses := true, apart := false, narrowed := true }
def NumsShortUptoSaid : Prop := numsShortUptoRow.holds Try.pinned (OpenSpec.upto numsShortSpec)

/-- 'osmosislaw4.DiskKeeps', WHERE WHAT IT READS IS OF BULK AT MOST 1048576: true; the input reads as it did. -/
def diskKeepsUptoRow : OpenClaim := { program := "yteibgagdnidojaa", sum := "7a7e131dcca98a12ee52dae2c27fbab4481d46f5ca39a8dcc5f72df73781ceaa", func := "osmosis/osmosislaw4.DiskKeeps", spec := "diskKeeps", apart := false, narrowed := true }
def DiskKeepsUptoSaid : Prop := diskKeepsUptoRow.holds Try.pinned (OpenSpec.upto diskKeepsSpec)

/-- 'osmosislaw4.DiskApart', WHERE WHAT IT READS IS OF BULK AT MOST 1048576: true; the input reads as it did. -/
def diskApartUptoRow : OpenClaim := { program := "yteibgagdnidojaa", sum := "7a7e131dcca98a12ee52dae2c27fbab4481d46f5ca39a8dcc5f72df73781ceaa", func := "osmosis/osmosislaw4.DiskApart", spec := "diskApart", apart := false, narrowed := true }
def DiskApartUptoSaid : Prop := diskApartUptoRow.holds Try.pinned (OpenSpec.upto diskApartSpec)

/-- 'osmosislaw1.NumsJoins', WHERE WHAT IT READS IS OF BULK AT MOST 1048576: true; the input reads as it did. -/
def numsJoinsUptoRow : OpenClaim := { program := "yteibgagdnidojaa", sum := "7a7e131dcca98a12ee52dae2c27fbab4481d46f5ca39a8dcc5f72df73781ceaa", func := "osmosis/osmosislaw1.NumsJoins", spec := "numsJoins", unfollowed := true, recurses := true, apart := false, narrowed := true }
def NumsJoinsUptoSaid : Prop := numsJoinsUptoRow.holds Try.pinned (OpenSpec.upto numsJoinsSpec)

/-- 'osmosislaw4.DiskKnown', WHERE WHAT IT READS IS OF BULK AT MOST 1048576: true; the input reads as it did. -/
def diskKnownUptoRow : OpenClaim := { program := "yteibgagdnidojaa", sum := "7a7e131dcca98a12ee52dae2c27fbab4481d46f5ca39a8dcc5f72df73781ceaa", func := "osmosis/osmosislaw4.DiskKnown", spec := "diskKnown", apart := false, narrowed := true }
def DiskKnownUptoSaid : Prop := diskKnownUptoRow.holds Try.pinned (OpenSpec.upto diskKnownSpec)

/-- 'osmosislaw4.DiskTells', WHERE WHAT IT READS IS OF BULK AT MOST 1048576: true; the input reads as it did. -/
def diskTellsUptoRow : OpenClaim := { program := "yteibgagdnidojaa", sum := "7a7e131dcca98a12ee52dae2c27fbab4481d46f5ca39a8dcc5f72df73781ceaa", func := "osmosis/osmosislaw4.DiskTells", spec := "diskTells", apart := false, narrowed := true }
def DiskTellsUptoSaid : Prop := diskTellsUptoRow.holds Try.pinned (OpenSpec.upto diskTellsSpec)

/-- 'osmosislaw1.NumsKnown', WHERE WHAT IT READS IS OF BULK AT MOST 1048576: true; the input reads as it did. -/
def numsKnownUptoRow : OpenClaim := { program := "yteibgagdnidojaa", sum := "7a7e131dcca98a12ee52dae2c27fbab4481d46f5ca39a8dcc5f72df73781ceaa", func := "osmosis/osmosislaw1.NumsKnown", spec := "numsKnown", unfollowed := true, recurses := true, apart := false, narrowed := true }
def NumsKnownUptoSaid : Prop := numsKnownUptoRow.holds Try.pinned (OpenSpec.upto numsKnownSpec)

/-- 'osmosislaw1.NumsTells', WHERE WHAT IT READS IS OF BULK AT MOST 1048576: true; the input reads as it did. -/
def numsTellsUptoRow : OpenClaim := { program := "yteibgagdnidojaa", sum := "7a7e131dcca98a12ee52dae2c27fbab4481d46f5ca39a8dcc5f72df73781ceaa", func := "osmosis/osmosislaw1.NumsTells", spec := "numsTells", unfollowed := true, recurses := true, apart := false, narrowed := true }
def NumsTellsUptoSaid : Prop := numsTellsUptoRow.holds Try.pinned (OpenSpec.upto numsTellsSpec)

end Rows
end Go.Proofs.Yteibgagdnidojaa
