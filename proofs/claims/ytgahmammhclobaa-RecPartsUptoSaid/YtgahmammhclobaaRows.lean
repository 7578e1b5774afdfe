/-
  No cell of these rows narrows 'for every input' (looked for: loops, veiled, ifaces, maps, wideKeys, modest, calm, conditions, laid).
  DERIVED. THE GIVEN ROWS OF THIS SEAT. 8 by the template 'for every input the law returns true; each argument reads behind the call as it read before'; 0 by the template 'total and deterministic' (their statements: YtgahmammhclobaaTotals.lean).
  GIVEN WITH THE SEED: the statements are not yours to turn. If you find one false, say at which input.
  Laid BY PROGRAM, IN A SANDBOX (cutbox-rows.mjs): the forced cells as the released guide's own fill.sh prints them over the translation bfbae298847c878c… (all of the seat's roots in one cut). By AI agents, Wed Nov 11 2026. No macro, syntax, notation, axiom, sorry.
-/
import Derived.Test.YtgahmammhclobaaChecked
import GoSem.Claim
import GoSem.ClaimJoined
import GoSem.ClaimMapViews
import Derived.JoinedTies
import Derived.KernelRfl
namespace Go.Proofs.Ytgahmammhclobaa
/- THE CELL 'sum', in the pinned program and in every row, IS THE sha256 OF THE DUMP (.gsa) THAT YtgahmammhclobaaProg.lean LOADS. Nothing in Lean hashes anything: it is a label: what it is worth is what the hold of that sum in a sandbox is worth. -/
noncomputable def Try.pinned : Pinned := { name := "ytgahmammhclobaa", sum := "bfbae298847c878cdfb014805d53a1251d5c5c5df632bab40d63c23020cd3ace", checked := Try.checked }
namespace Rows
def none {H : Type} : Left H := { results := [], args := [] }

/-- 'osmosislaw9.CodecApart': WHATEVER THE INPUT: true; the input reads as it did. -/
def codecApartSpec : ChangeSpec := { name := "codecApart", fn := fun _ => fun
  | [d1, d2, d3, d4, d5, d6] => { results := [.lit (.bool true)], args := [d1, d2, d3, d4, d5, d6] }
  | _ => none }
def codecApartRow : OpenClaim := { program := "ytgahmammhclobaa", sum := "bfbae298847c878cdfb014805d53a1251d5c5c5df632bab40d63c23020cd3ace", func := "osmosis/osmosislaw9.CodecApart", spec := "codecApart", inPlace := ["slices.overlaps[osmosis/api.Pair]"], unfollowed := true, recurses := true, apart := false }
def CodecApartSaid : Prop := codecApartRow.holds Try.pinned (OpenSpec.ofChange codecApartSpec)

/-- ITS FALSE NEIGHBOUR: 'it returns false'. Refute it at one input. -/
def codecApartWrong : ChangeSpec := { name := "codecApart", fn := fun _ => fun
  | [d1, d2, d3, d4, d5, d6] => { results := [.lit (.bool false)], args := [d1, d2, d3, d4, d5, d6] }
  | _ => none }
def CodecApartWrongFalsely : Prop := codecApartRow.holds Try.pinned (OpenSpec.ofChange codecApartWrong)

/-- 'osmosislaw9.CodecKnown': WHATEVER THE INPUT: true; the input reads as it did. -/
def codecKnownSpec : ChangeSpec := { name := "codecKnown", fn := fun _ => fun
  | [] => { results := [.lit (.bool true)], args := [] }
  | _ => none }
def codecKnownRow : OpenClaim := { program := "ytgahmammhclobaa", sum := "bfbae298847c878cdfb014805d53a1251d5c5c5df632bab40d63c23020cd3ace", func := "osmosis/osmosislaw9.CodecKnown", spec := "codecKnown", inPlace := ["slices.overlaps[osmosis/api.Pair]"], unfollowed := true, recurses := true, apart := false }
def CodecKnownSaid : Prop := codecKnownRow.holds Try.pinned (OpenSpec.ofChange codecKnownSpec)

/-- ITS FALSE NEIGHBOUR: 'it returns false'. Refute it at one input. -/
def codecKnownWrong : ChangeSpec := { name := "codecKnown", fn := fun _ => fun
  | [] => { results := [.lit (.bool false)], args := [] }
  | _ => none }
def CodecKnownWrongFalsely : Prop := codecKnownRow.holds Try.pinned (OpenSpec.ofChange codecKnownWrong)

/-- 'osmosislaw9.CodecBack': WHATEVER THE INPUT: true; the input reads as it did. -/
def codecBackSpec : ChangeSpec := { name := "codecBack", fn := fun _ => fun
  | [d1, d2, d3, d4, d5, d6] => { results := [.lit (.bool true)], args := [d1, d2, d3, d4, d5, d6] }
  | _ => none }
def codecBackRow : OpenClaim := { program := "ytgahmammhclobaa", sum := "bfbae298847c878cdfb014805d53a1251d5c5c5df632bab40d63c23020cd3ace", func := "osmosis/osmosislaw9.CodecBack", spec := "codecBack", inPlace := ["slices.overlaps[osmosis/api.Pair]"], unfollowed := true, recurses := true, apart := false }
def CodecBackSaid : Prop := codecBackRow.holds Try.pinned (OpenSpec.ofChange codecBackSpec)

/-- ITS FALSE NEIGHBOUR: 'it returns false'. Refute it at one input. -/
def codecBackWrong : ChangeSpec := { name := "codecBack", fn := fun _ => fun
  | [d1, d2, d3, d4, d5, d6] => { results := [.lit (.bool false)], args := [d1, d2, d3, d4, d5, d6] }
  | _ => none }
def CodecBackWrongFalsely : Prop := codecBackRow.holds Try.pinned (OpenSpec.ofChange codecBackWrong)

/-- 'osmosislaw11.RecKnown': WHATEVER THE INPUT: true; the input reads as it did. -/
def recKnownSpec : ChangeSpec := { name := "recKnown", fn := fun _ => fun
  | [] => { results := [.lit (.bool true)], args := [] }
  | _ => none }
def recKnownRow : OpenClaim := { program := "ytgahmammhclobaa", sum := "bfbae298847c878cdfb014805d53a1251d5c5c5df632bab40d63c23020cd3ace", func := "osmosis/osmosislaw11.RecKnown", spec := "recKnown", inPlace := ["slices.overlaps[osmosis/api.Pair]"], unfollowed := true, recurses := true, apart := false }
def RecKnownSaid : Prop := recKnownRow.holds Try.pinned (OpenSpec.ofChange recKnownSpec)

/-- ITS FALSE NEIGHBOUR: 'it returns false'. Refute it at one input. -/
def recKnownWrong : ChangeSpec := { name := "recKnown", fn := fun _ => fun
  | [] => { results := [.lit (.bool false)], args := [] }
  | _ => none }
def RecKnownWrongFalsely : Prop := recKnownRow.holds Try.pinned (OpenSpec.ofChange recKnownWrong)

/-- 'osmosislaw11.RecBack': WHATEVER THE INPUT: true; the input reads as it did. -/
def recBackSpec : ChangeSpec := { name := "recBack", fn := fun _ => fun
  | [d1, d2, d3] => { results := [.lit (.bool true)], args := [d1, d2, d3] }
  | _ => none }
def recBackRow : OpenClaim := { program := "ytgahmammhclobaa", sum := "bfbae298847c878cdfb014805d53a1251d5c5c5df632bab40d63c23020cd3ace", func := "osmosis/osmosislaw11.RecBack", spec := "recBack", inPlace := ["slices.overlaps[osmosis/api.Pair]"], unfollowed := true, recurses := true, apart := false }
def RecBackSaid : Prop := recBackRow.holds Try.pinned (OpenSpec.ofChange recBackSpec)

/-- ITS FALSE NEIGHBOUR: 'it returns false'. Refute it at one input. -/
def recBackWrong : ChangeSpec := { name := "recBack", fn := fun _ => fun
  | [d1, d2, d3] => { results := [.lit (.bool false)], args := [d1, d2, d3] }
  | _ => none }
def RecBackWrongFalsely : Prop := recBackRow.holds Try.pinned (OpenSpec.ofChange recBackWrong)

/-- 'osmosislaw11.RecParts': WHATEVER THE INPUT: true; the input reads as it did. -/
def recPartsSpec : ChangeSpec := { name := "recParts", fn := fun _ => fun
  | [d1, d2] => { results := [.lit (.bool true)], args := [d1, d2] }
  | _ => none }
def recPartsRow : OpenClaim := { program := "ytgahmammhclobaa", sum := "bfbae298847c878cdfb014805d53a1251d5c5c5df632bab40d63c23020cd3ace", func := "osmosis/osmosislaw11.RecParts", spec := "recParts", inPlace := ["slices.overlaps[osmosis/api.Pair]"], unfollowed := true, recurses := true, apart := false }
def RecPartsSaid : Prop := recPartsRow.holds Try.pinned (OpenSpec.ofChange recPartsSpec)

/-- ITS FALSE NEIGHBOUR: 'it returns false'. Refute it at one input. -/
def recPartsWrong : ChangeSpec := { name := "recParts", fn := fun _ => fun
  | [d1, d2] => { results := [.lit (.bool false)], args := [d1, d2] }
  | _ => none }
def RecPartsWrongFalsely : Prop := recPartsRow.holds Try.pinned (OpenSpec.ofChange recPartsWrong)

/-- 'osmosislaw10.MsgKnown': WHATEVER THE INPUT: true; the input reads as it did. -/
def msgKnownSpec : ChangeSpec := { name := "msgKnown", fn := fun _ => fun
  | [] => { results := [.lit (.bool true)], args := [] }
  | _ => none }
def msgKnownRow : OpenClaim := { program := "ytgahmammhclobaa", sum := "bfbae298847c878cdfb014805d53a1251d5c5c5df632bab40d63c23020cd3ace", func := "osmosis/osmosislaw10.MsgKnown", spec := "msgKnown", inPlace := ["slices.overlaps[osmosis/api.Pair]"], unfollowed := true, recurses := true, apart := false }
def MsgKnownSaid : Prop := msgKnownRow.holds Try.pinned (OpenSpec.ofChange msgKnownSpec)

/-- ITS FALSE NEIGHBOUR: 'it returns false'. Refute it at one input. -/
def msgKnownWrong : ChangeSpec := { name := "msgKnown", fn := fun _ => fun
  | [] => { results := [.lit (.bool false)], args := [] }
  | _ => none }
def MsgKnownWrongFalsely : Prop := msgKnownRow.holds Try.pinned (OpenSpec.ofChange msgKnownWrong)

/-- 'osmosislaw24.NetKnown': WHATEVER THE INPUT: true; the input reads as it did. -/
def netKnownSpec : ChangeSpec := { name := "netKnown", fn := fun _ => fun
  | [] => { results := [.lit (.bool true)], args := [] }
  | _ => none }
def netKnownRow : OpenClaim := { program := "ytgahmammhclobaa", sum := "bfbae298847c878cdfb014805d53a1251d5c5c5df632bab40d63c23020cd3ace", func := "osmosis/osmosislaw24.NetKnown", spec := "netKnown", inPlace := ["slices.overlaps[osmosis/api.Pair]"], unfollowed := true, recurses := true, apart := false }
def NetKnownSaid : Prop := netKnownRow.holds Try.pinned (OpenSpec.ofChange netKnownSpec)

/-- ITS FALSE NEIGHBOUR: 'it returns false'. Refute it at one input. -/
def netKnownWrong : ChangeSpec := { name := "netKnown", fn := fun _ => fun
  | [] => { results := [.lit (.bool false)], args := [] }
  | _ => none }
def NetKnownWrongFalsely : Prop := netKnownRow.holds Try.pinned (OpenSpec.ofChange netKnownWrong)

/- THE SECOND FORM. 'bulk': how many values and letters a reading holds, each counted each time it is reached (what is shared counts as often as it is met; a slice's spare places count too). A statement '..UptoSaid' is the law's where the arguments, and the package variables that the reading takes, are together of bulk at most 1048576: NARROWER than '..Said'. Prove '..Said' where nothing that the law and all that it calls make is longer than what came in: it says more and counts as full. Else prove '..UptoSaid'. A law counts once. -/
mutual
def uptoBulk {H : Type} : DataW H → Nat
  | .lit (.string bytes) => bytes.length + 1
  | .lit _ => 1
  | .nil => 1
  | .ptr d => uptoBulk d + 1
  | .slice elems spare => uptoBulkAll elems + uptoBulkAll spare + 1
  | .agg parts => uptoBulkAll parts + 1
  | .iface _ d => uptoBulk d + 1
  | .map entries => uptoBulkEntries entries + 1
  | .held _ => 1
def uptoBulkAll {H : Type} : List (DataW H) → Nat
  | [] => 0
  | d :: r => uptoBulk d + uptoBulkAll r
def uptoBulkEntries {H : Type} : List (Lit × DataW H) → Nat
  | [] => 0
  | x :: r => uptoBulkEntry x + uptoBulkEntries r
def uptoBulkEntry {H : Type} : Lit × DataW H → Nat
  | (.string bytes, d) => bytes.length + uptoBulk d + 1
  | (_, d) => uptoBulk d + 1
 end
def uptoSmall : (H : Type) → List (DataW H) → Bool := fun _ ds => decide (uptoBulkAll ds ≤ 1048576)
def OpenSpec.upto (s : _root_.Go.ChangeSpec) : _root_.Go.OpenSpec := { _root_.Go.OpenSpec.ofChange s with cond := some uptoSmall }

/-- 'osmosislaw9.CodecApart', WHERE WHAT IT READS IS OF BULK AT MOST 1048576: true; the input reads as it did. -/
def codecApartUptoRow : OpenClaim := { program := "ytgahmammhclobaa", sum := "bfbae298847c878cdfb014805d53a1251d5c5c5df632bab40d63c23020cd3ace", func := "osmosis/osmosislaw9.CodecApart", spec := "codecApart", inPlace := ["slices.overlaps[osmosis/api.Pair]"], unfollowed := true, recurses := true, apart := false, narrowed := true }
def CodecApartUptoSaid : Prop := codecApartUptoRow.holds Try.pinned (OpenSpec.upto codecApartSpec)

/-- 'osmosislaw9.CodecKnown', WHERE WHAT IT READS IS OF BULK AT MOST 1048576: true; the input reads as it did. -/
def codecKnownUptoRow : OpenClaim := { program := "ytgahmammhclobaa", sum := "bfbae298847c878cdfb014805d53a1251d5c5c5df632bab40d63c23020cd3ace", func := "osmosis/osmosislaw9.CodecKnown", spec := "codecKnown", inPlace := ["slices.overlaps[osmosis/api.Pair]"], unfollowed := true, recurses := true, apart := false, narrowed := true }
def CodecKnownUptoSaid : Prop := codecKnownUptoRow.holds Try.pinned (OpenSpec.upto codecKnownSpec)

/-- 'osmosislaw9.CodecBack', WHERE WHAT IT READS IS OF BULK AT MOST 1048576: true; the input reads as it did. -/
def codecBackUptoRow : OpenClaim := { program := "ytgahmammhclobaa", sum := "bfbae298847c878cdfb014805d53a1251d5c5c5df632bab40d63c23020cd3ace", func := "osmosis/osmosislaw9.CodecBack", spec := "codecBack", inPlace := ["slices.overlaps[osmosis/api.Pair]"], unfollowed := true, recurses := true, apart := false, narrowed := true }
def CodecBackUptoSaid : Prop := codecBackUptoRow.holds Try.pinned (OpenSpec.upto codecBackSpec)

/-- 'osmosislaw11.RecKnown', WHERE WHAT IT READS IS OF BULK AT MOST 1048576: true; the input reads as it did. -/
def recKnownUptoRow : OpenClaim := { program := "ytgahmammhclobaa", sum := "bfbae298847c878cdfb014805d53a1251d5c5c5df632bab40d63c23020cd3ace", func := "osmosis/osmosislaw11.RecKnown", spec := "recKnown", inPlace := ["slices.overlaps[osmosis/api.Pair]"], unfollowed := true, recurses := true, apart := false, narrowed := true }
def RecKnownUptoSaid : Prop := recKnownUptoRow.holds Try.pinned (OpenSpec.upto recKnownSpec)

/-- 'osmosislaw11.RecBack', WHERE WHAT IT READS IS OF BULK AT MOST 1048576: true; the input reads as it did. -/
def recBackUptoRow : OpenClaim := { program := "ytgahmammhclobaa", sum := "bfbae298847c878cdfb014805d53a1251d5c5c5df632bab40d63c23020cd3ace", func := "osmosis/osmosislaw11.RecBack", spec := "recBack", inPlace := ["slices.overlaps[osmosis/api.Pair]"], unfollowed := true, recurses := true, apart := false, narrowed := true }
def RecBackUptoSaid : Prop := recBackUptoRow.holds Try.pinned (OpenSpec.upto recBackSpec)

/-- 'osmosislaw11.RecParts', WHERE WHAT IT READS IS OF BULK AT MOST 1048576: true; the input reads as it did. -/
def recPartsUptoRow : OpenClaim := { program := "ytgahmammhclobaa", sum := "bfbae298847c878cdfb014805d53a1251d5c5c5df632bab40d63c23020cd3ace", func := "osmosis/osmosislaw11.RecParts", spec := "recParts", inPlace := ["slices.overlaps[osmosis/api.Pair]"], unfollowed := true, recurses := true, apart := false, narrowed := true }
def RecPartsUptoSaid : Prop := recPartsUptoRow.holds Try.pinned (OpenSpec.upto recPartsSpec)

/-- 'osmosislaw10.MsgKnown', WHERE WHAT IT READS IS OF BULK AT MOST 1048576: true; the input reads as it did. -/
def msgKnownUptoRow : OpenClaim := { program := "ytgahmammhclobaa", sum := "bfbae298847c878cdfb014805d53a1251d5c5c5df632bab40d63c23020cd3ace", func := "osmosis/osmosislaw10.MsgKnown", spec := "msgKnown", inPlace := ["slices.overlaps[osmosis/api.Pair]"], unfollowed := true, recurses := true, apart := false, narrowed := true }
def MsgKnownUptoSaid : Prop := msgKnownUptoRow.holds Try.pinned (OpenSpec.upto msgKnownSpec)

/-- 'osmosislaw24.NetKnown', WHERE WHAT IT READS IS OF BULK AT MOST 1048576: true; the input reads as it did. -/
def netKnownUptoRow : OpenClaim := { program := "ytgahmammhclobaa", sum := "bfbae298847c878cdfb014805d53a1251d5c5c5df632bab40d63c23020cd3ace", func := "osmosis/osmosislaw24.NetKnown", spec := "netKnown", inPlace := ["slices.overlaps[osmosis/api.Pair]"], unfollowed := true, recurses := true, apart := false, narrowed := true }
def NetKnownUptoSaid : Prop := netKnownUptoRow.holds Try.pinned (OpenSpec.upto netKnownSpec)

end Rows
end Go.Proofs.Ytgahmammhclobaa
