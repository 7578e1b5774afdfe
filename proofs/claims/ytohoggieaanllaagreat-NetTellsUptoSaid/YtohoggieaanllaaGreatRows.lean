/-
  No cell of these rows narrows 'for every input' (looked for: loops, veiled, ifaces, maps, wideKeys, modest, calm, conditions, laid).
  DERIVED. THE GIVEN ROWS OF THIS SEAT. 5 by the template 'for every input the law returns true; each argument reads behind the call as it read before'; 0 by the template 'total and deterministic' (their statements: YtohoggieaanllaaGreatTotals.lean).
  GIVEN WITH THE SEED: the statements are not yours to turn. If you find one false, say at which input.
  Laid BY PROGRAM, IN A SANDBOX (cutbox-rows.mjs): the forced cells as the released guide's own fill.sh prints them over the translation 97e6bd394c8d49e8… (all of the seat's roots in one cut). By AI agents, Wed Nov 11 2026. No macro, syntax, notation, axiom, sorry.
-/
import Derived.Test.YtohoggieaanllaaGreatChecked
import GoSem.Claim
import GoSem.ClaimJoined
import GoSem.ClaimMapViews
import Derived.JoinedTies
import Derived.KernelRfl
namespace Go.Proofs.YtohoggieaanllaaGreat
/- THE CELL 'sum', in the pinned program and in every row, IS THE sha256 OF THE DUMP (.gsa) THAT YtohoggieaanllaaGreatProg.lean LOADS. Nothing in Lean hashes anything: it is a label: what it is worth is what the hold of that sum in a sandbox is worth. -/
noncomputable def Tryz.pinned : Pinned := { name := "ytohoggieaanllaagreat", sum := "97e6bd394c8d49e8ec722bb652db1e5cec7ad4e5ab9e854656c4bbb33c3406f0", checked := Tryz.checked }
namespace Rows
def none {H : Type} : Left H := { results := [], args := [] }

/-- 'osmosislaw10.MsgTells': WHATEVER THE INPUT: true; the input reads as it did. -/
def msgTellsSpec : ChangeSpec := { name := "msgTells", fn := fun _ => fun
  | [d1, d2, d3, d4, d5, d6] => { results := [.lit (.bool true)], args := [d1, d2, d3, d4, d5, d6] }
  | _ => none }
def msgTellsRow : OpenClaim := { program := "ytohoggieaanllaagreat", sum := "97e6bd394c8d49e8ec722bb652db1e5cec7ad4e5ab9e854656c4bbb33c3406f0", func := "osmosis/osmosislaw10.MsgTells", spec := "msgTells", inPlace := ["slices.overlaps[osmosis/api.Pair]"], unfollowed := true, recurses := true, apart := false }
def MsgTellsSaid : Prop := msgTellsRow.holds Tryz.pinned (OpenSpec.ofChange msgTellsSpec)

/-- ITS FALSE NEIGHBOUR: 'it returns false'. Refute it at one input. -/
def msgTellsWrong : ChangeSpec := { name := "msgTells", fn := fun _ => fun
  | [d1, d2, d3, d4, d5, d6] => { results := [.lit (.bool false)], args := [d1, d2, d3, d4, d5, d6] }
  | _ => none }
def MsgTellsWrongFalsely : Prop := msgTellsRow.holds Tryz.pinned (OpenSpec.ofChange msgTellsWrong)

/-- 'osmosislaw10.MsgParts': WHATEVER THE INPUT: true; the input reads as it did. -/
def msgPartsSpec : ChangeSpec := { name := "msgParts", fn := fun _ => fun
  | [d1, d2] => { results := [.lit (.bool true)], args := [d1, d2] }
  | _ => none }
def msgPartsRow : OpenClaim := { program := "ytohoggieaanllaagreat", sum := "97e6bd394c8d49e8ec722bb652db1e5cec7ad4e5ab9e854656c4bbb33c3406f0", func := "osmosis/osmosislaw10.MsgParts", spec := "msgParts", inPlace := ["slices.overlaps[osmosis/api.Pair]"], unfollowed := true, recurses := true, apart := false }
def MsgPartsSaid : Prop := msgPartsRow.holds Tryz.pinned (OpenSpec.ofChange msgPartsSpec)

/-- ITS FALSE NEIGHBOUR: 'it returns false'. Refute it at one input. -/
def msgPartsWrong : ChangeSpec := { name := "msgParts", fn := fun _ => fun
  | [d1, d2] => { results := [.lit (.bool false)], args := [d1, d2] }
  | _ => none }
def MsgPartsWrongFalsely : Prop := msgPartsRow.holds Tryz.pinned (OpenSpec.ofChange msgPartsWrong)

/-- 'osmosislaw24.NetOrder': WHATEVER THE INPUT: true; the input reads as it did. -/
def netOrderSpec : ChangeSpec := { name := "netOrder", fn := fun _ => fun
  | [d1, d2, d3] => { results := [.lit (.bool true)], args := [d1, d2, d3] }
  | _ => none }
def netOrderRow : OpenClaim := { program := "ytohoggieaanllaagreat", sum := "97e6bd394c8d49e8ec722bb652db1e5cec7ad4e5ab9e854656c4bbb33c3406f0", func := "osmosis/osmosislaw24.NetOrder", spec := "netOrder", inPlace := ["slices.overlaps[osmosis/api.Pair]"], unfollowed := true, recurses := true, apart := false }
def NetOrderSaid : Prop := netOrderRow.holds Tryz.pinned (OpenSpec.ofChange netOrderSpec)

/-- ITS FALSE NEIGHBOUR: 'it returns false'. Refute it at one input. -/
def netOrderWrong : ChangeSpec := { name := "netOrder", fn := fun _ => fun
  | [d1, d2, d3] => { results := [.lit (.bool false)], args := [d1, d2, d3] }
  | _ => none }
def NetOrderWrongFalsely : Prop := netOrderRow.holds Tryz.pinned (OpenSpec.ofChange netOrderWrong)

/-- 'osmosislaw24.NetOwn': WHATEVER THE INPUT: true; the input reads as it did. -/
def netOwnSpec : ChangeSpec := { name := "netOwn", fn := fun _ => fun
  | [d1, d2] => { results := [.lit (.bool true)], args := [d1, d2] }
  | _ => none }
def netOwnRow : OpenClaim := { program := "ytohoggieaanllaagreat", sum := "97e6bd394c8d49e8ec722bb652db1e5cec7ad4e5ab9e854656c4bbb33c3406f0", func := "osmosis/osmosislaw24.NetOwn", spec := "netOwn", inPlace := ["slices.overlaps[osmosis/api.Pair]"], unfollowed := true, recurses := true, apart := false }
def NetOwnSaid : Prop := netOwnRow.holds Tryz.pinned (OpenSpec.ofChange netOwnSpec)

/-- ITS FALSE NEIGHBOUR: 'it returns false'. Refute it at one input. -/
def netOwnWrong : ChangeSpec := { name := "netOwn", fn := fun _ => fun
  | [d1, d2] => { results := [.lit (.bool false)], args := [d1, d2] }
  | _ => none }
def NetOwnWrongFalsely : Prop := netOwnRow.holds Tryz.pinned (OpenSpec.ofChange netOwnWrong)

/-- 'osmosislaw24.NetTells': WHATEVER THE INPUT: true; the input reads as it did. -/
def netTellsSpec : ChangeSpec := { name := "netTells", fn := fun _ => fun
  | [d] => { results := [.lit (.bool true)], args := [d] }
  | _ => none }
def netTellsRow : OpenClaim := { program := "ytohoggieaanllaagreat", sum := "97e6bd394c8d49e8ec722bb652db1e5cec7ad4e5ab9e854656c4bbb33c3406f0", func := "osmosis/osmosislaw24.NetTells", spec := "netTells", inPlace := ["slices.overlaps[osmosis/api.Pair]"], unfollowed := true, recurses := true, apart := false }
def NetTellsSaid : Prop := netTellsRow.holds Tryz.pinned (OpenSpec.ofChange netTellsSpec)

/-- ITS FALSE NEIGHBOUR: 'it returns false'. Refute it at one input. -/
def netTellsWrong : ChangeSpec := { name := "netTells", fn := fun _ => fun
  | [d] => { results := [.lit (.bool false)], args := [d] }
  | _ => none }
def NetTellsWrongFalsely : Prop := netTellsRow.holds Tryz.pinned (OpenSpec.ofChange netTellsWrong)

/- THE SECOND FORM. 'bulk': how many values and letters a reading holds, each counted each time it is reached (what is shared counts as often as it is met; a slice's spare places count too). A statement '..UptoSaid' is the law's where the arguments, and the package variables that the reading takes, are together of bulk at most 1048576: NARROWER than '..Said'. Prove '..Said' where nothing that the law and all that it calls make is longer than what came in: it says more and counts as full. Else prove '..UptoSaid'. A law counts once. -/
mutual
def uptoBulk {H : Type} : DataW H → Nat
  | .lit (.string bytes) => bytes.length + 1
  | .lit _ => 1
  | .nil => 1
  | .ptr d => uptoBulk d + 1
  | .slice elems spare => uptoBulkAll elems + uptoBulkAll spare + 1
  | .agg parts => uptoBulkAll parts + 1
  | .iface _ d => uptoBulk d + 1
  | .map entries => uptoBulkEntries entries + 1
  | .held _ => 1
def uptoBulkAll {H : Type} : List (DataW H) → Nat
  | [] => 0
  | d :: r => uptoBulk d + uptoBulkAll r
def uptoBulkEntries {H : Type} : List (Lit × DataW H) → Nat
  | [] => 0
  | x :: r => uptoBulkEntry x + uptoBulkEntries r
def uptoBulkEntry {H : Type} : Lit × DataW H → Nat
  | (.string bytes, d) => bytes.length + uptoBulk d + 1
  | (_, d) => uptoBulk d + 1
 end
def uptoSmall : (H : Type) → List (DataW H) → Bool := fun _ ds => decide (uptoBulkAll ds ≤ 1048576)
def OpenSpec.upto (s : _root_.Go.ChangeSpec) : _root_.Go.OpenSpec := { _root_.Go.OpenSpec.ofChange s with cond := some uptoSmall }

/-- 'osmosislaw10.MsgTells', WHERE WHAT IT READS IS OF BULK AT MOST 1048576: true; the input reads as it did. -/
def msgTellsUptoRow : OpenClaim := { program := "ytohoggieaanllaagreat", sum := "97e6bd394c8d49e8ec722bb652db1e5cec7ad4e5ab9e854656c4bbb33c3406f0", func := "osmosis/osmosislaw10.MsgTells", spec := "msgTells", inPlace := ["slices.overlaps[osmosis/api.Pair]"], unfollowed := true, recurses := true, apart := false, narrowed := true }
def MsgTellsUptoSaid : Prop := msgTellsUptoRow.holds Tryz.pinned (OpenSpec.upto msgTellsSpec)

/-- 'osmosislaw10.MsgParts', WHERE WHAT IT READS IS OF BULK AT MOST 1048576: true; the input reads as it did. -/
def msgPartsUptoRow : OpenClaim := { program := "ytohoggieaanllaagreat", sum := "97e6bd394c8d49e8ec722bb652db1e5cec7ad4e5ab9e854656c4bbb33c3406f0", func := "osmosis/osmosislaw10.MsgParts", spec := "msgParts", inPlace := ["slices.overlaps[osmosis/api.Pair]"], unfollowed := true, recurses := true, apart := false, narrowed := true }
def MsgPartsUptoSaid : Prop := msgPartsUptoRow.holds Tryz.pinned (OpenSpec.upto msgPartsSpec)

/-- 'osmosislaw24.NetOrder', WHERE WHAT IT READS IS OF BULK AT MOST 1048576: true; the input reads as it did. -/
def netOrderUptoRow : OpenClaim := { program := "ytohoggieaanllaagreat", sum := "97e6bd394c8d49e8ec722bb652db1e5cec7ad4e5ab9e854656c4bbb33c3406f0", func := "osmosis/osmosislaw24.NetOrder", spec := "netOrder", inPlace := ["slices.overlaps[osmosis/api.Pair]"], unfollowed := true, recurses := true, apart := false, narrowed := true }
def NetOrderUptoSaid : Prop := netOrderUptoRow.holds Tryz.pinned (OpenSpec.upto netOrderSpec)

/-- 'osmosislaw24.NetOwn', WHERE WHAT IT READS IS OF BULK AT MOST 1048576: true; the input reads as it did. -/
def netOwnUptoRow : OpenClaim := { program := "ytohoggieaanllaagreat", sum := "97e6bd394c8d49e8ec722bb652db1e5cec7ad4e5ab9e854656c4bbb33c3406f0", func := "osmosis/osmosislaw24.NetOwn", spec := "netOwn", inPlace := ["slices.overlaps[osmosis/api.Pair]"], unfollowed := true, recurses := true, apart := false, narrowed := true }
def NetOwnUptoSaid : Prop := netOwnUptoRow.holds Tryz.pinned (OpenSpec.upto netOwnSpec)

/-- 'osmosislaw24.NetTells', WHERE WHAT IT READS IS OF BULK AT MOST 1048576: true; the input reads as it did. -/
def netTellsUptoRow : OpenClaim := { program := "ytohoggieaanllaagreat", sum := "97e6bd394c8d49e8ec722bb652db1e5cec7ad4e5ab9e854656c4bbb33c3406f0", func := "osmosis/osmosislaw24.NetTells", spec := "netTells", inPlace := ["slices.overlaps[osmosis/api.Pair]"], unfollowed := true, recurses := true, apart := false, narrowed := true }
def NetTellsUptoSaid : Prop := netTellsUptoRow.holds Tryz.pinned (OpenSpec.upto netTellsSpec)

end Rows
end Go.Proofs.YtohoggieaanllaaGreat
