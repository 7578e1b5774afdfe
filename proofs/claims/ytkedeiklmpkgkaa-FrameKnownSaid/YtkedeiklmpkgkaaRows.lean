/-
  No cell of these rows narrows 'for every input' (looked for: loops, veiled, ifaces, maps, wideKeys, modest, calm, conditions, laid).
  DERIVED. THE GIVEN ROWS OF THIS SEAT. 9 by the template 'for every input the law returns true; each argument reads behind the call as it read before'; 0 by the template 'total and deterministic' (their statements: YtkedeiklmpkgkaaTotals.lean).
  GIVEN WITH THE SEED: the statements are not yours to turn. If you find one false, say at which input.
  Laid BY PROGRAM, IN A SANDBOX (cutbox-rows.mjs): the forced cells as the released guide's own fill.sh prints them over the translation 0a71c961ff5157d1… (all of the seat's roots in one cut). By AI agents, Wed Nov 11 2026. No macro, syntax, notation, axiom, sorry.
-/
import Derived.Test.YtkedeiklmpkgkaaChecked
import GoSem.Claim
import GoSem.ClaimJoined
import GoSem.ClaimMapViews
import Derived.JoinedTies
import Derived.KernelRfl
namespace Go.Proofs.Ytkedeiklmpkgkaa
/- THE CELL 'sum', in the pinned program and in every row, IS THE sha256 OF THE DUMP (.gsa) THAT YtkedeiklmpkgkaaProg.lean LOADS. Nothing in Lean hashes anything: it is a label: what it is worth is what the hold of that sum in a sandbox is worth. -/
noncomputable def Try.pinned : Pinned := { name := "ytkedeiklmpkgkaa", sum := "0a71c961ff5157d116a317be9079d9400d1896b39276205c5ccf8a5366939309", checked := Try.checked }
namespace Rows
def none {H : Type} : Left H := { results := [], args := [] }

/-- 'osmosislaw7.SessionLast': WHATEVER THE INPUT: true; the input reads as it did. -/
def sessionLastSpec : ChangeSpec := { name := "sessionLast", fn := fun _ => fun
  | [d] => { results := [.lit (.bool true)], args := [d] }
  | _ => none }
def sessionLastRow : OpenClaim := { program := "ytkedeiklmpkgkaa", sum := "0a71c961ff5157d116a317be9079d9400d1896b39276205c5ccf8a5366939309", func := "osmosis/osmosislaw7.SessionLast", spec := "sessionLast", apart := false }
def SessionLastSaid : Prop := sessionLastRow.holds Try.pinned (OpenSpec.ofChange sessionLastSpec)

/-- ITS FALSE NEIGHBOUR: 'it returns false'. Refute it at one input. -/
def sessionLastWrong : ChangeSpec := { name := "sessionLast", fn := fun _ => fun
  | [d] => { results := [.lit (.bool false)], args := [d] }
  | _ => none }
def SessionLastWrongFalsely : Prop := sessionLastRow.holds Try.pinned (OpenSpec.ofChange sessionLastWrong)

/-- 'osmosislaw4.DiskApart': WHATEVER THE INPUT: true; the input reads as it did. -/
def diskApartSpec : ChangeSpec := { name := "diskApart", fn := fun _ => fun
  | [d1, d2, d3] => { results := [.lit (.bool true)], args := [d1, d2, d3] }
  | _ => none }
def diskApartRow : OpenClaim := { program := "ytkedeiklmpkgkaa", sum := "0a71c961ff5157d116a317be9079d9400d1896b39276205c5ccf8a5366939309", func := "osmosis/osmosislaw4.DiskApart", spec := "diskApart", apart := false }
def DiskApartSaid : Prop := diskApartRow.holds Try.pinned (OpenSpec.ofChange diskApartSpec)

/-- ITS FALSE NEIGHBOUR: 'it returns false'. Refute it at one input. -/
def diskApartWrong : ChangeSpec := { name := "diskApart", fn := fun _ => fun
  | [d1, d2, d3] => { results := [.lit (.bool false)], args := [d1, d2, d3] }
  | _ => none }
def DiskApartWrongFalsely : Prop := diskApartRow.holds Try.pinned (OpenSpec.ofChange diskApartWrong)

/-- 'osmosislaw3.FrameKnown': WHATEVER THE INPUT: true; the input reads as it did. -/
def frameKnownSpec : ChangeSpec := { name := "frameKnown", fn := fun _ => fun
  | [] => { results := [.lit (.bool true)], args := [] }
  | _ => none }
def frameKnownRow : OpenClaim := { program := "ytkedeiklmpkgkaa", sum := "0a71c961ff5157d116a317be9079d9400d1896b39276205c5ccf8a5366939309", func := "osmosis/osmosislaw3.FrameKnown", spec := "frameKnown", unfollowed := true, recurses := true, apart := false }
def FrameKnownSaid : Prop := frameKnownRow.holds Try.pinned (OpenSpec.ofChange frameKnownSpec)

/-- ITS FALSE NEIGHBOUR: 'it returns false'. Refute it at one input. -/
def frameKnownWrong : ChangeSpec := { name := "frameKnown", fn := fun _ => fun
  | [] => { results := [.lit (.bool false)], args := [] }
  | _ => none }
def FrameKnownWrongFalsely : Prop := frameKnownRow.holds Try.pinned (OpenSpec.ofChange frameKnownWrong)

/-- 'osmosislaw3.FrameOwn': WHATEVER THE INPUT: true; the input reads as it did. -/
def frameOwnSpec : ChangeSpec := { name := "frameOwn", fn := fun _ => fun
  | [d1, d2] => { results := [.lit (.bool true)], args := [d1, d2] }
  | _ => none }
def frameOwnRow : OpenClaim := { program := "ytkedeiklmpkgkaa", sum := "0a71c961ff5157d116a317be9079d9400d1896b39276205c5ccf8a5366939309", func := "osmosis/osmosislaw3.FrameOwn", spec := "frameOwn", unfollowed := true, recurses := true, apart := false }
def FrameOwnSaid : Prop := frameOwnRow.holds Try.pinned (OpenSpec.ofChange frameOwnSpec)

/-- ITS FALSE NEIGHBOUR: 'it returns false'. Refute it at one input. -/
def frameOwnWrong : ChangeSpec := { name := "frameOwn", fn := fun _ => fun
  | [d1, d2] => { results := [.lit (.bool false)], args := [d1, d2] }
  | _ => none }
def FrameOwnWrongFalsely : Prop := frameOwnRow.holds Try.pinned (OpenSpec.ofChange frameOwnWrong)

/-- 'osmosislaw5.WalOwn': WHATEVER THE INPUT: true; the input reads as it did. -/
def walOwnSpec : ChangeSpec := { name := "walOwn", fn := fun _ => fun
  | [d] => { results := [.lit (.bool true)], args := [d] }
  | _ => none }
def walOwnRow : OpenClaim := { program := "ytkedeiklmpkgkaa", sum := "0a71c961ff5157d116a317be9079d9400d1896b39276205c5ccf8a5366939309", func := "osmosis/osmosislaw5.WalOwn", spec := "walOwn", unfollowed := true, recurses := true, apart := false }
def WalOwnSaid : Prop := walOwnRow.holds Try.pinned (OpenSpec.ofChange walOwnSpec)

/-- ITS FALSE NEIGHBOUR: 'it returns false'. Refute it at one input. -/
def walOwnWrong : ChangeSpec := { name := "walOwn", fn := fun _ => fun
  | [d] => { results := [.lit (.bool false)], args := [d] }
  | _ => none }
def WalOwnWrongFalsely : Prop := walOwnRow.holds Try.pinned (OpenSpec.ofChange walOwnWrong)

/-- 'osmosislaw5.WalTells': WHATEVER THE INPUT: true; the input reads as it did. -/
def walTellsSpec : ChangeSpec := { name := "walTells", fn := fun _ => fun
  | [d1, d2] => { results := [.lit (.bool true)], args := [d1, d2] }
  | _ => none }
def walTellsRow : OpenClaim := { program := "ytkedeiklmpkgkaa", sum := "0a71c961ff5157d116a317be9079d9400d1896b39276205c5ccf8a5366939309", func := "osmosis/osmosislaw5.WalTells", spec := "walTells", unfollowed := true, recurses := true, apart := false }
def WalTellsSaid : Prop := walTellsRow.holds Try.pinned (OpenSpec.ofChange walTellsSpec)

/-- ITS FALSE NEIGHBOUR: 'it returns false'. Refute it at one input. -/
def walTellsWrong : ChangeSpec := { name := "walTells", fn := fun _ => fun
  | [d1, d2] => { results := [.lit (.bool false)], args := [d1, d2] }
  | _ => none }
def WalTellsWrongFalsely : Prop := walTellsRow.holds Try.pinned (OpenSpec.ofChange walTellsWrong)

/-- 'osmosislaw6.TableMap': WHATEVER THE INPUT: true; the input reads as it did. -/
def tableMapSpec : ChangeSpec := { name := "tableMap", fn := fun _ => fun
  | [d] => { results := [.lit (.bool true)], args := [d] }
  | _ => none }
def tableMapRow : OpenClaim := { program := "ytkedeiklmpkgkaa", sum := "0a71c961ff5157d116a317be9079d9400d1896b39276205c5ccf8a5366939309", func := "osmosis/osmosislaw6.TableMap", spec := "tableMap", inPlace := ["slices.overlaps[osmosis/api.Pair]"], unfollowed := true, recurses := true, apart := false }
def TableMapSaid : Prop := tableMapRow.holds Try.pinned (OpenSpec.ofChange tableMapSpec)

/-- ITS FALSE NEIGHBOUR: 'it returns false'. Refute it at one input. -/
def tableMapWrong : ChangeSpec := { name := "tableMap", fn := fun _ => fun
  | [d] => { results := [.lit (.bool false)], args := [d] }
  | _ => none }
def TableMapWrongFalsely : Prop := tableMapRow.holds Try.pinned (OpenSpec.ofChange tableMapWrong)

/-- 'osmosislaw6.TableOrder': WHATEVER THE INPUT: true; the input reads as it did. -/
def tableOrderSpec : ChangeSpec := { name := "tableOrder", fn := fun _ => fun
  | [d1, d2, d3] => { results := [.lit (.bool true)], args := [d1, d2, d3] }
  | _ => none }
def tableOrderRow : OpenClaim := { program := "ytkedeiklmpkgkaa", sum := "0a71c961ff5157d116a317be9079d9400d1896b39276205c5ccf8a5366939309", func := "osmosis/osmosislaw6.TableOrder", spec := "tableOrder", inPlace := ["slices.overlaps[osmosis/api.Pair]"], unfollowed := true, recurses := true, apart := false }
def TableOrderSaid : Prop := tableOrderRow.holds Try.pinned (OpenSpec.ofChange tableOrderSpec)

/-- ITS FALSE NEIGHBOUR: 'it returns false'. Refute it at one input. -/
def tableOrderWrong : ChangeSpec := { name := "tableOrder", fn := fun _ => fun
  | [d1, d2, d3] => { results := [.lit (.bool false)], args := [d1, d2, d3] }
  | _ => none }
def TableOrderWrongFalsely : Prop := tableOrderRow.holds Try.pinned (OpenSpec.ofChange tableOrderWrong)

/-- 'osmosislaw8.ShardImage': WHATEVER THE INPUT: true; the input reads as it did. -/
def shardImageSpec : ChangeSpec := { name := "shardImage", fn := fun _ => fun
  | [d1, d2, d3, d4] => { results := [.lit (.bool true)], args := [d1, d2, d3, d4] }
  | _ => none }
def shardImageRow : OpenClaim := { program := "ytkedeiklmpkgkaa", sum := "0a71c961ff5157d116a317be9079d9400d1896b39276205c5ccf8a5366939309", func := "osmosis/osmosislaw8.ShardImage", spec := "shardImage", inPlace := ["slices.overlaps[osmosis/api.Pair]"], unfollowed := true, recurses := true, apart := false }
def ShardImageSaid : Prop := shardImageRow.holds Try.pinned (OpenSpec.ofChange shardImageSpec)

/-- ITS FALSE NEIGHBOUR: 'it returns false'. Refute it at one input. -/
def shardImageWrong : ChangeSpec := { name := "shardImage", fn := fun _ => fun
  | [d1, d2, d3, d4] => { results := [.lit (.bool false)], args := [d1, d2, d3, d4] }
  | _ => none }
def ShardImageWrongFalsely : Prop := shardImageRow.holds Try.pinned (OpenSpec.ofChange shardImageWrong)

/- THE SECOND FORM. 'bulk': how many values and letters a reading holds, each counted each time it is reached (what is shared counts as often as it is met; a slice's spare places count too). A statement '..UptoSaid' is the law's where the arguments, and the package variables that the reading takes, are together of bulk at most 1048576: NARROWER than '..Said'. Prove '..Said' where nothing that the law and all that it calls make is longer than what came in: it says more and counts as full. Else prove '..UptoSaid'. A law counts once. -/
mutual
def uptoBulk {H : Type} : DataW H → Nat
  | .lit (.string bytes) => bytes.length + 1
  | .lit _ => 1
  | .nil => 1
  | .ptr d => uptoBulk d + 1
  | .slice elems spare => uptoBulkAll elems + uptoBulkAll spare + 1
  | .agg parts => uptoBulkAll parts + 1
  | .iface _ d => uptoBulk d + 1
  | .map entries => uptoBulkEntries entries + 1
  | .held _ => 1
def uptoBulkAll {H : Type} : List (DataW H) → Nat
  | [] => 0
  | d :: r => uptoBulk d + uptoBulkAll r
def uptoBulkEntries {H : Type} : List (Lit × DataW H) → Nat
  | [] => 0
  | x :: r => uptoBulkEntry x + uptoBulkEntries r
def uptoBulkEntry {H : Type} : Lit × DataW H → Nat
  | (.string bytes, d) => bytes.length + uptoBulk d + 1
  | (_, d) => uptoBulk d + 1
 end
def uptoSmall : (H : Type) → List (DataW H) → Bool := fun _ ds => decide (uptoBulkAll ds ≤ 1048576)
def OpenSpec.upto (s : _root_.Go.ChangeSpec) : _root_.Go.OpenSpec := { _root_.Go.OpenSpec.ofChange s with cond := some uptoSmall }

/-- 'osmosislaw7.SessionLast', WHERE WHAT IT READS IS OF BULK AT MOST 1048576: true; the input reads as it did. -/
def sessionLastUptoRow : OpenClaim := { program := "ytkedeiklmpkgkaa", sum := "0a71c961ff5157d116a317be9079d9400d1896b39276205c5ccf8a5366939309", func := "osmosis/osmosislaw7.SessionLast", spec := "sessionLast", apart := false, narrowed := true }
def SessionLastUptoSaid : Prop := sessionLastUptoRow.holds Try.pinned (OpenSpec.upto sessionLastSpec)

/-- 'osmosislaw4.DiskApart', WHERE WHAT IT READS IS OF BULK AT MOST 1048576: true; the input reads as it did. -/
def diskApartUptoRow : OpenClaim := { program := "ytkedeiklmpkgkaa", sum := "0a71c961ff5157d116a317be9079d9400d1896b39276205c5ccf8a5366939309", func := "osmosis/osmosislaw4.DiskApart", spec := "diskApart", apart := false, narrowed := true }
def DiskApartUptoSaid : Prop := diskApartUptoRow.holds Try.pinned (OpenSpec.upto diskApartSpec)

/-- 'osmosislaw3.FrameKnown', WHERE WHAT IT READS IS OF BULK AT MOST 1048576: true; the input reads as it did. -/
def frameKnownUptoRow : OpenClaim := { program := "ytkedeiklmpkgkaa", sum := "0a71c961ff5157d116a317be9079d9400d1896b39276205c5ccf8a5366939309", func := "osmosis/osmosislaw3.FrameKnown", spec := "frameKnown", unfollowed := true, recurses := true, apart := false, narrowed := true }
def FrameKnownUptoSaid : Prop := frameKnownUptoRow.holds Try.pinned (OpenSpec.upto frameKnownSpec)

/-- 'osmosislaw3.FrameOwn', WHERE WHAT IT READS IS OF BULK AT MOST 1048576: true; the input reads as it did. -/
def frameOwnUptoRow : OpenClaim := { program := "ytkedeiklmpkgkaa", sum := "0a71c961ff5157d116a317be9079d9400d1896b39276205c5ccf8a5366939309", func := "osmosis/osmosislaw3.FrameOwn", spec := "frameOwn", unfollowed := true, recurses := true, apart := false, narrowed := true }
def FrameOwnUptoSaid : Prop := frameOwnUptoRow.holds Try.pinned (OpenSpec.upto frameOwnSpec)

/-- 'osmosislaw5.WalOwn', WHERE WHAT IT READS IS OF BULK AT MOST 1048576: true; the input reads as it did. -/
def walOwnUptoRow : OpenClaim := { program := "ytkedeiklmpkgkaa", sum := "0a71c961ff5157d116a317be9079d9400d1896b39276205c5ccf8a5366939309", func := "osmosis/osmosislaw5.WalOwn", spec := "walOwn", unfollowed := true, recurses := true, apart := false, narrowed := true }
def WalOwnUptoSaid : Prop := walOwnUptoRow.holds Try.pinned (OpenSpec.upto walOwnSpec)

/-- 'osmosislaw5.WalTells', WHERE WHAT IT READS IS OF BULK AT MOST 1048576: true; the input reads as it did. -/
def walTellsUptoRow : OpenClaim := { program := "ytkedeiklmpkgkaa", sum := "0a71c961ff5157d116a317be9079d9400d1896b39276205c5ccf8a5366939309", func := "osmosis/osmosislaw5.WalTells", spec := "walTells", unfollowed := true, recurses := true, apart := false, narrowed := true }
def WalTellsUptoSaid : Prop := walTellsUptoRow.holds Try.pinned (OpenSpec.upto walTellsSpec)

/-- 'osmosislaw6.TableMap', WHERE WHAT IT READS IS OF BULK AT MOST 1048576: true; the input reads as it did. -/
def tableMapUptoRow : OpenClaim := { program := "ytkedeiklmpkgkaa", sum := "0a71c961ff5157d116a317be9079d9400d1896b39276205c5ccf8a5366939309", func := "osmosis/osmosislaw6.TableMap", spec := "tableMap", inPlace := ["slices.overlaps[osmosis/api.Pair]"], unfollowed := true, recurses := true, apart := false, narrowed := true }
def TableMapUptoSaid : Prop := tableMapUptoRow.holds Try.pinned (OpenSpec.upto tableMapSpec)

/-- 'osmosislaw6.TableOrder', WHERE WHAT IT READS IS OF BULK AT MOST 1048576: true; the input reads as it did. -/
def tableOrderUptoRow : OpenClaim := { program := "ytkedeiklmpkgkaa", sum := "0a71c961ff5157d116a317be9079d9400d1896b39276205c5ccf8a5366939309", func := "osmosis/osmosislaw6.TableOrder", spec := "tableOrder", inPlace := ["slices.overlaps[osmosis/api.Pair]"], unfollowed := true, recurses := true, apart := false, narrowed := true }
def TableOrderUptoSaid : Prop := tableOrderUptoRow.holds Try.pinned (OpenSpec.upto tableOrderSpec)

/-- 'osmosislaw8.ShardImage', WHERE WHAT IT READS IS OF BULK AT MOST 1048576: true; the input reads as it did. -/
def shardImageUptoRow : OpenClaim := { program := "ytkedeiklmpkgkaa", sum := "0a71c961ff5157d116a317be9079d9400d1896b39276205c5ccf8a5366939309", func := "osmosis/osmosislaw8.ShardImage", spec := "shardImage", inPlace := ["slices.overlaps[osmosis/api.Pair]"], unfollowed := true, recurses := true, apart := false, narrowed := true }
def ShardImageUptoSaid : Prop := shardImageUptoRow.holds Try.pinned (OpenSpec.upto shardImageSpec)

end Rows
end Go.Proofs.Ytkedeiklmpkgkaa
