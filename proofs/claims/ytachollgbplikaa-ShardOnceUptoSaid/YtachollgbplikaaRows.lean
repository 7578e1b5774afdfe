/-
  No cell of these rows narrows 'for every input' (looked for: loops, veiled, ifaces, maps, wideKeys, modest, calm, conditions, laid).
  DERIVED. THE GIVEN ROWS OF THIS SEAT. 20 by the template 'for every input the law returns true; each argument reads behind the call as it read before'; 0 by the template 'total and deterministic' (their statements: YtachollgbplikaaTotals.lean).
  GIVEN WITH THE SEED: the statements are not yours to turn. If you find one false, say at which input.
  Laid BY PROGRAM, IN A SANDBOX (cutbox-rows.mjs): the forced cells as the released guide's own fill.sh prints them over the translation e22d03586d0372a4… (all of the seat's roots in one cut). By AI agents, Wed Nov 11 2026. No macro, syntax, notation, axiom, sorry.
-/
import Derived.Test.YtachollgbplikaaChecked
import GoSem.Claim
import GoSem.ClaimJoined
import GoSem.ClaimMapViews
import Derived.JoinedTies
import Derived.KernelRfl
namespace Go.Proofs.Ytachollgbplikaa
/- THE CELL 'sum', in the pinned program and in every row, IS THE sha256 OF THE DUMP (.gsa) THAT YtachollgbplikaaProg.lean LOADS. Nothing in Lean hashes anything: it is a label: what it is worth is what the hold of that sum in a sandbox is worth. -/
noncomputable def Try.pinned : Pinned := { name := "ytachollgbplikaa", sum := "e22d03586d0372a4e663f0a2617906962647c24fbfad17bf85d9e8e94ddd9839", checked := Try.checked }
namespace Rows
def none {H : Type} : Left H := { results := [], args := [] }

/-- 'osmosislaw3.FrameKnown': WHATEVER THE INPUT: true; the input reads as it did. -/
def frameKnownSpec : ChangeSpec := { name := "frameKnown", fn := fun _ => fun
  | [] => { results := [.lit (.bool true)], args := [] }
  | _ => none }
def frameKnownRow : OpenClaim := { program := "ytachollgbplikaa", sum := "e22d03586d0372a4e663f0a2617906962647c24fbfad17bf85d9e8e94ddd9839", func := "osmosis/osmosislaw3.FrameKnown", spec := "frameKnown", unfollowed := true, recurses := true, apart := false }
def FrameKnownSaid : Prop := frameKnownRow.holds Try.pinned (OpenSpec.ofChange frameKnownSpec)

/-- ITS FALSE NEIGHBOUR: 'it returns false'. Refute it at one input. -/
def frameKnownWrong : ChangeSpec := { name := "frameKnown", fn := fun _ => fun
  | [] => { results := [.lit (.bool false)], args := [] }
  | _ => none }
def FrameKnownWrongFalsely : Prop := frameKnownRow.holds Try.pinned (OpenSpec.ofChange frameKnownWrong)

/-- 'osmosislaw3.FrameTells': WHATEVER THE INPUT: true; the input reads as it did. -/
def frameTellsSpec : ChangeSpec := { name := "frameTells", fn := fun _ => fun
  | [d1, d2, d3, d4, d5, d6] => { results := [.lit (.bool true)], args := [d1, d2, d3, d4, d5, d6] }
  | _ => none }
def frameTellsRow : OpenClaim := { program := "ytachollgbplikaa", sum := "e22d03586d0372a4e663f0a2617906962647c24fbfad17bf85d9e8e94ddd9839", func := "osmosis/osmosislaw3.FrameTells", spec := "frameTells", unfollowed := true, recurses := true, apart := false }
def FrameTellsSaid : Prop := frameTellsRow.holds Try.pinned (OpenSpec.ofChange frameTellsSpec)

/-- ITS FALSE NEIGHBOUR: 'it returns false'. Refute it at one input. -/
def frameTellsWrong : ChangeSpec := { name := "frameTells", fn := fun _ => fun
  | [d1, d2, d3, d4, d5, d6] => { results := [.lit (.bool false)], args := [d1, d2, d3, d4, d5, d6] }
  | _ => none }
def FrameTellsWrongFalsely : Prop := frameTellsRow.holds Try.pinned (OpenSpec.ofChange frameTellsWrong)

/-- 'osmosislaw3.FrameCut': WHATEVER THE INPUT: true; the input reads as it did. -/
def frameCutSpec : ChangeSpec := { name := "frameCut", fn := fun _ => fun
  | [d1, d2] => { results := [.lit (.bool true)], args := [d1, d2] }
  | _ => none }
def frameCutRow : OpenClaim := { program := "ytachollgbplikaa", sum := "e22d03586d0372a4e663f0a2617906962647c24fbfad17bf85d9e8e94ddd9839", func := "osmosis/osmosislaw3.FrameCut", spec := "frameCut", unfollowed := true, recurses := true, apart := false }
def FrameCutSaid : Prop := frameCutRow.holds Try.pinned (OpenSpec.ofChange frameCutSpec)

/-- ITS FALSE NEIGHBOUR: 'it returns false'. Refute it at one input. -/
def frameCutWrong : ChangeSpec := { name := "frameCut", fn := fun _ => fun
  | [d1, d2] => { results := [.lit (.bool false)], args := [d1, d2] }
  | _ => none }
def FrameCutWrongFalsely : Prop := frameCutRow.holds Try.pinned (OpenSpec.ofChange frameCutWrong)

/-- 'osmosislaw3.FrameJoins': WHATEVER THE INPUT: true; the input reads as it did. -/
def frameJoinsSpec : ChangeSpec := { name := "frameJoins", fn := fun _ => fun
  | [d1, d2, d3, d4] => { results := [.lit (.bool true)], args := [d1, d2, d3, d4] }
  | _ => none }
def frameJoinsRow : OpenClaim := { program := "ytachollgbplikaa", sum := "e22d03586d0372a4e663f0a2617906962647c24fbfad17bf85d9e8e94ddd9839", func := "osmosis/osmosislaw3.FrameJoins", spec := "frameJoins", unfollowed := true, recurses := true, apart := false }
def FrameJoinsSaid : Prop := frameJoinsRow.holds Try.pinned (OpenSpec.ofChange frameJoinsSpec)

/-- ITS FALSE NEIGHBOUR: 'it returns false'. Refute it at one input. -/
def frameJoinsWrong : ChangeSpec := { name := "frameJoins", fn := fun _ => fun
  | [d1, d2, d3, d4] => { results := [.lit (.bool false)], args := [d1, d2, d3, d4] }
  | _ => none }
def FrameJoinsWrongFalsely : Prop := frameJoinsRow.holds Try.pinned (OpenSpec.ofChange frameJoinsWrong)

/-- 'osmosislaw3.FrameOwn': WHATEVER THE INPUT: true; the input reads as it did. -/
def frameOwnSpec : ChangeSpec := { name := "frameOwn", fn := fun _ => fun
  | [d1, d2] => { results := [.lit (.bool true)], args := [d1, d2] }
  | _ => none }
def frameOwnRow : OpenClaim := { program := "ytachollgbplikaa", sum := "e22d03586d0372a4e663f0a2617906962647c24fbfad17bf85d9e8e94ddd9839", func := "osmosis/osmosislaw3.FrameOwn", spec := "frameOwn", unfollowed := true, recurses := true, apart := false }
def FrameOwnSaid : Prop := frameOwnRow.holds Try.pinned (OpenSpec.ofChange frameOwnSpec)

/-- ITS FALSE NEIGHBOUR: 'it returns false'. Refute it at one input. -/
def frameOwnWrong : ChangeSpec := { name := "frameOwn", fn := fun _ => fun
  | [d1, d2] => { results := [.lit (.bool false)], args := [d1, d2] }
  | _ => none }
def FrameOwnWrongFalsely : Prop := frameOwnRow.holds Try.pinned (OpenSpec.ofChange frameOwnWrong)

/-- 'osmosislaw5.WalOwn': WHATEVER THE INPUT: true; the input reads as it did. -/
def walOwnSpec : ChangeSpec := { name := "walOwn", fn := fun _ => fun
  | [d] => { results := [.lit (.bool true)], args := [d] }
  | _ => none }
def walOwnRow : OpenClaim := { program := "ytachollgbplikaa", sum := "e22d03586d0372a4e663f0a2617906962647c24fbfad17bf85d9e8e94ddd9839", func := "osmosis/osmosislaw5.WalOwn", spec := "walOwn", unfollowed := true, recurses := true, apart := false }
def WalOwnSaid : Prop := walOwnRow.holds Try.pinned (OpenSpec.ofChange walOwnSpec)

/-- ITS FALSE NEIGHBOUR: 'it returns false'. Refute it at one input. -/
def walOwnWrong : ChangeSpec := { name := "walOwn", fn := fun _ => fun
  | [d] => { results := [.lit (.bool false)], args := [d] }
  | _ => none }
def WalOwnWrongFalsely : Prop := walOwnRow.holds Try.pinned (OpenSpec.ofChange walOwnWrong)

/-- 'osmosislaw5.WalCrash': WHATEVER THE INPUT: true; the input reads as it did. -/
def walCrashSpec : ChangeSpec := { name := "walCrash", fn := fun _ => fun
  | [d1, d2, d3] => { results := [.lit (.bool true)], args := [d1, d2, d3] }
  | _ => none }
def walCrashRow : OpenClaim := { program := "ytachollgbplikaa", sum := "e22d03586d0372a4e663f0a2617906962647c24fbfad17bf85d9e8e94ddd9839", func := "osmosis/osmosislaw5.WalCrash", spec := "walCrash", unfollowed := true, recurses := true, apart := false }
def WalCrashSaid : Prop := walCrashRow.holds Try.pinned (OpenSpec.ofChange walCrashSpec)

/-- ITS FALSE NEIGHBOUR: 'it returns false'. Refute it at one input. -/
def walCrashWrong : ChangeSpec := { name := "walCrash", fn := fun _ => fun
  | [d1, d2, d3] => { results := [.lit (.bool false)], args := [d1, d2, d3] }
  | _ => none }
def WalCrashWrongFalsely : Prop := walCrashRow.holds Try.pinned (OpenSpec.ofChange walCrashWrong)

/-- 'osmosislaw5.WalKnown': WHATEVER THE INPUT: true; the input reads as it did. -/
def walKnownSpec : ChangeSpec := { name := "walKnown", fn := fun _ => fun
  | [] => { results := [.lit (.bool true)], args := [] }
  | _ => none }
def walKnownRow : OpenClaim := { program := "ytachollgbplikaa", sum := "e22d03586d0372a4e663f0a2617906962647c24fbfad17bf85d9e8e94ddd9839", func := "osmosis/osmosislaw5.WalKnown", spec := "walKnown", unfollowed := true, recurses := true, apart := false }
def WalKnownSaid : Prop := walKnownRow.holds Try.pinned (OpenSpec.ofChange walKnownSpec)

/-- ITS FALSE NEIGHBOUR: 'it returns false'. Refute it at one input. -/
def walKnownWrong : ChangeSpec := { name := "walKnown", fn := fun _ => fun
  | [] => { results := [.lit (.bool false)], args := [] }
  | _ => none }
def WalKnownWrongFalsely : Prop := walKnownRow.holds Try.pinned (OpenSpec.ofChange walKnownWrong)

/-- 'osmosislaw5.WalTells': WHATEVER THE INPUT: true; the input reads as it did. -/
def walTellsSpec : ChangeSpec := { name := "walTells", fn := fun _ => fun
  | [d1, d2] => { results := [.lit (.bool true)], args := [d1, d2] }
  | _ => none }
def walTellsRow : OpenClaim := { program := "ytachollgbplikaa", sum := "e22d03586d0372a4e663f0a2617906962647c24fbfad17bf85d9e8e94ddd9839", func := "osmosis/osmosislaw5.WalTells", spec := "walTells", unfollowed := true, recurses := true, apart := false }
def WalTellsSaid : Prop := walTellsRow.holds Try.pinned (OpenSpec.ofChange walTellsSpec)

/-- ITS FALSE NEIGHBOUR: 'it returns false'. Refute it at one input. -/
def walTellsWrong : ChangeSpec := { name := "walTells", fn := fun _ => fun
  | [d1, d2] => { results := [.lit (.bool false)], args := [d1, d2] }
  | _ => none }
def WalTellsWrongFalsely : Prop := walTellsRow.holds Try.pinned (OpenSpec.ofChange walTellsWrong)

/-- 'osmosislaw5.WalRewritten': WHATEVER THE INPUT: true; the input reads as it did. -/
def walRewrittenSpec : ChangeSpec := { name := "walRewritten", fn := fun _ => fun
  | [d1, d2, d3, d4] => { results := [.lit (.bool true)], args := [d1, d2, d3, d4] }
  | _ => none }
def walRewrittenRow : OpenClaim := { program := "ytachollgbplikaa", sum := "e22d03586d0372a4e663f0a2617906962647c24fbfad17bf85d9e8e94ddd9839", func := "osmosis/osmosislaw5.WalRewritten", spec := "walRewritten", unfollowed := true, recurses := true, apart := false }
def WalRewrittenSaid : Prop := walRewrittenRow.holds Try.pinned (OpenSpec.ofChange walRewrittenSpec)

/-- ITS FALSE NEIGHBOUR: 'it returns false'. Refute it at one input. -/
def walRewrittenWrong : ChangeSpec := { name := "walRewritten", fn := fun _ => fun
  | [d1, d2, d3, d4] => { results := [.lit (.bool false)], args := [d1, d2, d3, d4] }
  | _ => none }
def WalRewrittenWrongFalsely : Prop := walRewrittenRow.holds Try.pinned (OpenSpec.ofChange walRewrittenWrong)

/-- 'osmosislaw6.TableMap': WHATEVER THE INPUT: true; the input reads as it did. -/
def tableMapSpec : ChangeSpec := { name := "tableMap", fn := fun _ => fun
  | [d] => { results := [.lit (.bool true)], args := [d] }
  | _ => none }
def tableMapRow : OpenClaim := { program := "ytachollgbplikaa", sum := "e22d03586d0372a4e663f0a2617906962647c24fbfad17bf85d9e8e94ddd9839", func := "osmosis/osmosislaw6.TableMap", spec := "tableMap", inPlace := ["slices.overlaps[osmosis/api.Pair]"], unfollowed := true, recurses := true, apart := false }
def TableMapSaid : Prop := tableMapRow.holds Try.pinned (OpenSpec.ofChange tableMapSpec)

/-- ITS FALSE NEIGHBOUR: 'it returns false'. Refute it at one input. -/
def tableMapWrong : ChangeSpec := { name := "tableMap", fn := fun _ => fun
  | [d] => { results := [.lit (.bool false)], args := [d] }
  | _ => none }
def TableMapWrongFalsely : Prop := tableMapRow.holds Try.pinned (OpenSpec.ofChange tableMapWrong)

/-- 'osmosislaw6.TableKnown': WHATEVER THE INPUT: true; the input reads as it did. -/
def tableKnownSpec : ChangeSpec := { name := "tableKnown", fn := fun _ => fun
  | [] => { results := [.lit (.bool true)], args := [] }
  | _ => none }
def tableKnownRow : OpenClaim := { program := "ytachollgbplikaa", sum := "e22d03586d0372a4e663f0a2617906962647c24fbfad17bf85d9e8e94ddd9839", func := "osmosis/osmosislaw6.TableKnown", spec := "tableKnown", inPlace := ["slices.overlaps[osmosis/api.Pair]"], unfollowed := true, recurses := true, apart := false }
def TableKnownSaid : Prop := tableKnownRow.holds Try.pinned (OpenSpec.ofChange tableKnownSpec)

/-- ITS FALSE NEIGHBOUR: 'it returns false'. Refute it at one input. -/
def tableKnownWrong : ChangeSpec := { name := "tableKnown", fn := fun _ => fun
  | [] => { results := [.lit (.bool false)], args := [] }
  | _ => none }
def TableKnownWrongFalsely : Prop := tableKnownRow.holds Try.pinned (OpenSpec.ofChange tableKnownWrong)

/-- 'osmosislaw6.TableTells': WHATEVER THE INPUT: true; the input reads as it did. -/
def tableTellsSpec : ChangeSpec := { name := "tableTells", fn := fun _ => fun
  | [d1, d2] => { results := [.lit (.bool true)], args := [d1, d2] }
  | _ => none }
def tableTellsRow : OpenClaim := { program := "ytachollgbplikaa", sum := "e22d03586d0372a4e663f0a2617906962647c24fbfad17bf85d9e8e94ddd9839", func := "osmosis/osmosislaw6.TableTells", spec := "tableTells", inPlace := ["slices.overlaps[osmosis/api.Pair]"], unfollowed := true, recurses := true, apart := false }
def TableTellsSaid : Prop := tableTellsRow.holds Try.pinned (OpenSpec.ofChange tableTellsSpec)

/-- ITS FALSE NEIGHBOUR: 'it returns false'. Refute it at one input. -/
def tableTellsWrong : ChangeSpec := { name := "tableTells", fn := fun _ => fun
  | [d1, d2] => { results := [.lit (.bool false)], args := [d1, d2] }
  | _ => none }
def TableTellsWrongFalsely : Prop := tableTellsRow.holds Try.pinned (OpenSpec.ofChange tableTellsWrong)

/-- 'osmosislaw6.TableValue': WHATEVER THE INPUT: true; the input reads as it did. -/
def tableValueSpec : ChangeSpec := { name := "tableValue", fn := fun _ => fun
  | [d1, d2, d3] => { results := [.lit (.bool true)], args := [d1, d2, d3] }
  | _ => none }
def tableValueRow : OpenClaim := { program := "ytachollgbplikaa", sum := "e22d03586d0372a4e663f0a2617906962647c24fbfad17bf85d9e8e94ddd9839", func := "osmosis/osmosislaw6.TableValue", spec := "tableValue", inPlace := ["slices.overlaps[osmosis/api.Pair]"], unfollowed := true, recurses := true, apart := false }
def TableValueSaid : Prop := tableValueRow.holds Try.pinned (OpenSpec.ofChange tableValueSpec)

/-- ITS FALSE NEIGHBOUR: 'it returns false'. Refute it at one input. -/
def tableValueWrong : ChangeSpec := { name := "tableValue", fn := fun _ => fun
  | [d1, d2, d3] => { results := [.lit (.bool false)], args := [d1, d2, d3] }
  | _ => none }
def TableValueWrongFalsely : Prop := tableValueRow.holds Try.pinned (OpenSpec.ofChange tableValueWrong)

/-- 'osmosislaw6.TableOrder': WHATEVER THE INPUT: true; the input reads as it did. -/
def tableOrderSpec : ChangeSpec := { name := "tableOrder", fn := fun _ => fun
  | [d1, d2, d3] => { results := [.lit (.bool true)], args := [d1, d2, d3] }
  | _ => none }
def tableOrderRow : OpenClaim := { program := "ytachollgbplikaa", sum := "e22d03586d0372a4e663f0a2617906962647c24fbfad17bf85d9e8e94ddd9839", func := "osmosis/osmosislaw6.TableOrder", spec := "tableOrder", inPlace := ["slices.overlaps[osmosis/api.Pair]"], unfollowed := true, recurses := true, apart := false }
def TableOrderSaid : Prop := tableOrderRow.holds Try.pinned (OpenSpec.ofChange tableOrderSpec)

/-- ITS FALSE NEIGHBOUR: 'it returns false'. Refute it at one input. -/
def tableOrderWrong : ChangeSpec := { name := "tableOrder", fn := fun _ => fun
  | [d1, d2, d3] => { results := [.lit (.bool false)], args := [d1, d2, d3] }
  | _ => none }
def TableOrderWrongFalsely : Prop := tableOrderRow.holds Try.pinned (OpenSpec.ofChange tableOrderWrong)

/-- 'osmosislaw8.ShardOnce': WHATEVER THE INPUT: true; the input reads as it did. -/
def shardOnceSpec : ChangeSpec := { name := "shardOnce", fn := fun _ => fun
  | [d1, d2] => { results := [.lit (.bool true)], args := [d1, d2] }
  | _ => none }
def shardOnceRow : OpenClaim := { program := "ytachollgbplikaa", sum := "e22d03586d0372a4e663f0a2617906962647c24fbfad17bf85d9e8e94ddd9839", func := "osmosis/osmosislaw8.ShardOnce", spec := "shardOnce", inPlace := ["slices.overlaps[osmosis/api.Pair]"], unfollowed := true, recurses := true, apart := false }
def ShardOnceSaid : Prop := shardOnceRow.holds Try.pinned (OpenSpec.ofChange shardOnceSpec)

/-- ITS FALSE NEIGHBOUR: 'it returns false'. Refute it at one input. -/
def shardOnceWrong : ChangeSpec := { name := "shardOnce", fn := fun _ => fun
  | [d1, d2] => { results := [.lit (.bool false)], args := [d1, d2] }
  | _ => none }
def ShardOnceWrongFalsely : Prop := shardOnceRow.holds Try.pinned (OpenSpec.ofChange shardOnceWrong)

/-- 'osmosislaw8.ShardFull': WHATEVER THE INPUT: true; the input reads as it did. -/
def shardFullSpec : ChangeSpec := { name := "shardFull", fn := fun _ => fun
  | [d1, d2, d3] => { results := [.lit (.bool true)], args := [d1, d2, d3] }
  | _ => none }
def shardFullRow : OpenClaim := { program := "ytachollgbplikaa", sum := "e22d03586d0372a4e663f0a2617906962647c24fbfad17bf85d9e8e94ddd9839", func := "osmosis/osmosislaw8.ShardFull", spec := "shardFull", inPlace := ["slices.overlaps[osmosis/api.Pair]"], unfollowed := true, recurses := true, apart := false }
def ShardFullSaid : Prop := shardFullRow.holds Try.pinned (OpenSpec.ofChange shardFullSpec)

/-- ITS FALSE NEIGHBOUR: 'it returns false'. Refute it at one input. -/
def shardFullWrong : ChangeSpec := { name := "shardFull", fn := fun _ => fun
  | [d1, d2, d3] => { results := [.lit (.bool false)], args := [d1, d2, d3] }
  | _ => none }
def ShardFullWrongFalsely : Prop := shardFullRow.holds Try.pinned (OpenSpec.ofChange shardFullWrong)

/-- 'osmosislaw8.ShardKnown': WHATEVER THE INPUT: true; the input reads as it did. -/
def shardKnownSpec : ChangeSpec := { name := "shardKnown", fn := fun _ => fun
  | [] => { results := [.lit (.bool true)], args := [] }
  | _ => none }
def shardKnownRow : OpenClaim := { program := "ytachollgbplikaa", sum := "e22d03586d0372a4e663f0a2617906962647c24fbfad17bf85d9e8e94ddd9839", func := "osmosis/osmosislaw8.ShardKnown", spec := "shardKnown", inPlace := ["slices.overlaps[osmosis/api.Pair]"], unfollowed := true, recurses := true, apart := false }
def ShardKnownSaid : Prop := shardKnownRow.holds Try.pinned (OpenSpec.ofChange shardKnownSpec)

/-- ITS FALSE NEIGHBOUR: 'it returns false'. Refute it at one input. -/
def shardKnownWrong : ChangeSpec := { name := "shardKnown", fn := fun _ => fun
  | [] => { results := [.lit (.bool false)], args := [] }
  | _ => none }
def ShardKnownWrongFalsely : Prop := shardKnownRow.holds Try.pinned (OpenSpec.ofChange shardKnownWrong)

/-- 'osmosislaw8.ShardTells': WHATEVER THE INPUT: true; the input reads as it did. -/
def shardTellsSpec : ChangeSpec := { name := "shardTells", fn := fun _ => fun
  | [d1, d2, d3, d4, d5] => { results := [.lit (.bool true)], args := [d1, d2, d3, d4, d5] }
  | _ => none }
def shardTellsRow : OpenClaim := { program := "ytachollgbplikaa", sum := "e22d03586d0372a4e663f0a2617906962647c24fbfad17bf85d9e8e94ddd9839", func := "osmosis/osmosislaw8.ShardTells", spec := "shardTells", inPlace := ["slices.overlaps[osmosis/api.Pair]"], unfollowed := true, recurses := true, apart := false }
def ShardTellsSaid : Prop := shardTellsRow.holds Try.pinned (OpenSpec.ofChange shardTellsSpec)

/-- ITS FALSE NEIGHBOUR: 'it returns false'. Refute it at one input. -/
def shardTellsWrong : ChangeSpec := { name := "shardTells", fn := fun _ => fun
  | [d1, d2, d3, d4, d5] => { results := [.lit (.bool false)], args := [d1, d2, d3, d4, d5] }
  | _ => none }
def ShardTellsWrongFalsely : Prop := shardTellsRow.holds Try.pinned (OpenSpec.ofChange shardTellsWrong)

/-- 'osmosislaw8.ShardImage': WHATEVER THE INPUT: true; the input reads as it did. -/
def shardImageSpec : ChangeSpec := { name := "shardImage", fn := fun _ => fun
  | [d1, d2, d3, d4] => { results := [.lit (.bool true)], args := [d1, d2, d3, d4] }
  | _ => none }
def shardImageRow : OpenClaim := { program := "ytachollgbplikaa", sum := "e22d03586d0372a4e663f0a2617906962647c24fbfad17bf85d9e8e94ddd9839", func := "osmosis/osmosislaw8.ShardImage", spec := "shardImage", inPlace := ["slices.overlaps[osmosis/api.Pair]"], unfollowed := true, recurses := true, apart := false }
def ShardImageSaid : Prop := shardImageRow.holds Try.pinned (OpenSpec.ofChange shardImageSpec)

/-- ITS FALSE NEIGHBOUR: 'it returns false'. Refute it at one input. -/
def shardImageWrong : ChangeSpec := { name := "shardImage", fn := fun _ => fun
  | [d1, d2, d3, d4] => { results := [.lit (.bool false)], args := [d1, d2, d3, d4] }
  | _ => none }
def ShardImageWrongFalsely : Prop := shardImageRow.holds Try.pinned (OpenSpec.ofChange shardImageWrong)

/- THE SECOND FORM. 'bulk': how many values and letters a reading holds, each counted each time it is reached (what is shared counts as often as it is met; a slice's spare places count too). A statement '..UptoSaid' is the law's where the arguments, and the package variables that the reading takes, are together of bulk at most 1048576: NARROWER than '..Said'. Prove '..Said' where nothing that the law and all that it calls make is longer than what came in: it says more and counts as full. Else prove '..UptoSaid'. A law counts once. -/
mutual
def uptoBulk {H : Type} : DataW H → Nat
  | .lit (.string bytes) => bytes.length + 1
  | .lit _ => 1
  | .nil => 1
  | .ptr d => uptoBulk d + 1
  | .slice elems spare => uptoBulkAll elems + uptoBulkAll spare + 1
  | .agg parts => uptoBulkAll parts + 1
  | .iface _ d => uptoBulk d + 1
  | .map entries => uptoBulkEntries entries + 1
  | .held _ => 1
def uptoBulkAll {H : Type} : List (DataW H) → Nat
  | [] => 0
  | d :: r => uptoBulk d + uptoBulkAll r
def uptoBulkEntries {H : Type} : List (Lit × DataW H) → Nat
  | [] => 0
  | x :: r => uptoBulkEntry x + uptoBulkEntries r
def uptoBulkEntry {H : Type} : Lit × DataW H → Nat
  | (.string bytes, d) => bytes.length + uptoBulk d + 1
  | (_, d) => uptoBulk d + 1
 end
def uptoSmall : (H : Type) → List (DataW H) → Bool := fun _ ds => decide (uptoBulkAll ds ≤ 1048576)
def OpenSpec.upto (s : _root_.Go.ChangeSpec) : _root_.Go.OpenSpec := { _root_.Go.OpenSpec.ofChange s with cond := some uptoSmall }

/-- 'osmosislaw3.FrameKnown', WHERE WHAT IT READS IS OF BULK AT MOST 1048576: true; the input reads as it did. -/
def frameKnownUptoRow : OpenClaim := { program := "ytachollgbplikaa", sum := "e22d03586d0372a4e663f0a2617906962647c24fbfad17bf85d9e8e94ddd9839", func := "osmosis/osmosislaw3.FrameKnown", spec := "frameKnown", unfollowed := true, recurses := true, apart := false, narrowed := true }
def FrameKnownUptoSaid : Prop := frameKnownUptoRow.holds Try.pinned (OpenSpec.upto frameKnownSpec)

/-- 'osmosislaw3.FrameTells', WHERE WHAT IT READS IS OF BULK AT MOST 1048576: true; the input reads as it did. -/
def frameTellsUptoRow : OpenClaim := { program := "ytachollgbplikaa", sum := "e22d03586d0372a4e663f0a2617906962647c24fbfad17bf85d9e8e94ddd9839", func := "osmosis/osmosislaw3.FrameTells", spec := "frameTells", unfollowed := true, recurses := true, apart := false, narrowed := true }
def FrameTellsUptoSaid : Prop := frameTellsUptoRow.holds Try.pinned (OpenSpec.upto frameTellsSpec)

/-- 'osmosislaw3.FrameCut', WHERE WHAT IT READS IS OF BULK AT MOST 1048576: true; the input reads as it did. -/
def frameCutUptoRow : OpenClaim := { program := "ytachollgbplikaa", sum := "e22d03586d0372a4e663f0a2617906962647c24fbfad17bf85d9e8e94ddd9839", func := "osmosis/osmosislaw3.FrameCut", spec := "frameCut", unfollowed := true, recurses := true, apart := false, narrowed := true }
def FrameCutUptoSaid : Prop := frameCutUptoRow.holds Try.pinned (OpenSpec.upto frameCutSpec)

/-- 'osmosislaw3.FrameJoins', WHERE WHAT IT READS IS OF BULK AT MOST 1048576: true; the input reads as it did. -/
def frameJoinsUptoRow : OpenClaim := { program := "ytachollgbplikaa", sum := "e22d03586d0372a4e663f0a2617906962647c24fbfad17bf85d9e8e94ddd9839", func := "osmosis/osmosislaw3.FrameJoins", spec := "frameJoins", unfollowed := true, recurses := true, apart := false, narrowed := true }
def FrameJoinsUptoSaid : Prop := frameJoinsUptoRow.holds Try.pinned (OpenSpec.upto frameJoinsSpec)

/-- 'osmosislaw3.FrameOwn', WHERE WHAT IT READS IS OF BULK AT MOST 1048576: true; the input reads as it did. -/
def frameOwnUptoRow : OpenClaim := { program := "ytachollgbplikaa", sum := "e22d03586d0372a4e663f0a2617906962647c24fbfad17bf85d9e8e94ddd9839", func := "osmosis/osmosislaw3.FrameOwn", spec := "frameOwn", unfollowed := true, recurses := true, apart := false, narrowed := true }
def FrameOwnUptoSaid : Prop := frameOwnUptoRow.holds Try.pinned (OpenSpec.upto frameOwnSpec)

/-- 'osmosislaw5.WalOwn', WHERE WHAT IT READS IS OF BULK AT MOST 1048576: true; the input reads as it did. -/
def walOwnUptoRow : OpenClaim := { program := "ytachollgbplikaa", sum := "e22d03586d0372a4e663f0a2617906962647c24fbfad17bf85d9e8e94ddd9839", func := "osmosis/osmosislaw5.WalOwn", spec := "walOwn", unfollowed := true, recurses := true, apart := false, narrowed := true }
def WalOwnUptoSaid : Prop := walOwnUptoRow.holds Try.pinned (OpenSpec.upto walOwnSpec)

/-- 'osmosislaw5.WalCrash', WHERE WHAT IT READS IS OF BULK AT MOST 1048576: true; the input reads as it did. -/
def walCrashUptoRow : OpenClaim := { program := "ytachollgbplikaa", sum := "e22d03586d0372a4e663f0a2617906962647c24fbfad17bf85d9e8e94ddd9839", func := "osmosis/osmosislaw5.WalCrash", spec := "walCrash", unfollowed := true, recurses := true, apart := false, narrowed := true }
def WalCrashUptoSaid : Prop := walCrashUptoRow.holds Try.pinned (OpenSpec.upto walCrashSpec)

/-- 'osmosislaw5.WalKnown', WHERE WHAT IT READS IS OF BULK AT MOST 1048576: true; the input reads as it did. -/
def walKnownUptoRow : OpenClaim := { program := "ytachollgbplikaa", sum := "e22d03586d0372a4e663f0a2617906962647c24fbfad17bf85d9e8e94ddd9839", func := "osmosis/osmosislaw5.WalKnown", spec := "walKnown", unfollowed := true, recurses := true, apart := false, narrowed := true }
def WalKnownUptoSaid : Prop := walKnownUptoRow.holds Try.pinned (OpenSpec.upto walKnownSpec)

/-- 'osmosislaw5.WalTells', WHERE WHAT IT READS IS OF BULK AT MOST 1048576: true; the input reads as it did. -/
def walTellsUptoRow : OpenClaim := { program := "ytachollgbplikaa", sum := "e22d03586d0372a4e663f0a2617906962647c24fbfad17bf85d9e8e94ddd9839", func := "osmosis/osmosislaw5.WalTells", spec := "walTells", unfollowed := true, recurses := true, apart := false, narrowed := true }
def WalTellsUptoSaid : Prop := walTellsUptoRow.holds Try.pinned (OpenSpec.upto walTellsSpec)

/-- 'osmosislaw5.WalRewritten', WHERE WHAT IT READS IS OF BULK AT MOST 1048576: true; the input reads as it did. -/
def walRewrittenUptoRow : OpenClaim := { program := "ytachollgbplikaa", sum := "e22d03586d0372a4e663f0a2617906962647c24fbfad17bf85d9e8e94ddd9839", func := "osmosis/osmosislaw5.WalRewritten", spec := "walRewritten", unfollowed := true, recurses := true, apart := false, narrowed := true }
def WalRewrittenUptoSaid : Prop := walRewrittenUptoRow.holds Try.pinned (OpenSpec.upto walRewrittenSpec)

/-- 'osmosislaw6.TableMap', WHERE WHAT IT READS IS OF BULK AT MOST 1048576: true; the input reads as it did. -/
def tableMapUptoRow : OpenClaim := { program := "ytachollgbplikaa", sum := "e22d03586d0372a4e663f0a2617906962647c24fbfad17bf85d9e8e94ddd9839", func := "osmosis/osmosislaw6.TableMap", spec := "tableMap", inPlace := ["slices.overlaps[osmosis/api.Pair]"], unfollowed := true, recurses := true, apart := false, narrowed := true }
def TableMapUptoSaid : Prop := tableMapUptoRow.holds Try.pinned (OpenSpec.upto tableMapSpec)

/-- 'osmosislaw6.TableKnown', WHERE WHAT IT READS IS OF BULK AT MOST 1048576: true; the input reads as it did. -/
def tableKnownUptoRow : OpenClaim := { program := "ytachollgbplikaa", sum := "e22d03586d0372a4e663f0a2617906962647c24fbfad17bf85d9e8e94ddd9839", func := "osmosis/osmosislaw6.TableKnown", spec := "tableKnown", inPlace := ["slices.overlaps[osmosis/api.Pair]"], unfollowed := true, recurses := true, apart := false, narrowed := true }
def TableKnownUptoSaid : Prop := tableKnownUptoRow.holds Try.pinned (OpenSpec.upto tableKnownSpec)

/-- 'osmosislaw6.TableTells', WHERE WHAT IT READS IS OF BULK AT MOST 1048576: true; the input reads as it did. -/
def tableTellsUptoRow : OpenClaim := { program := "ytachollgbplikaa", sum := "e22d03586d0372a4e663f0a2617906962647c24fbfad17bf85d9e8e94ddd9839", func := "osmosis/osmosislaw6.TableTells", spec := "tableTells", inPlace := ["slices.overlaps[osmosis/api.Pair]"], unfollowed := true, recurses := true, apart := false, narrowed := true }
def TableTellsUptoSaid : Prop := tableTellsUptoRow.holds Try.pinned (OpenSpec.upto tableTellsSpec)

/-- 'osmosislaw6.TableValue', WHERE WHAT IT READS IS OF BULK AT MOST 1048576: true; the input reads as it did. -/
def tableValueUptoRow : OpenClaim := { program := "ytachollgbplikaa", sum := "e22d03586d0372a4e663f0a2617906962647c24fbfad17bf85d9e8e94ddd9839", func := "osmosis/osmosislaw6.TableValue", spec := "tableValue", inPlace := ["slices.overlaps[osmosis/api.Pair]"], unfollowed := true, recurses := true, apart := false, narrowed := true }
def TableValueUptoSaid : Prop := tableValueUptoRow.holds Try.pinned (OpenSpec.upto tableValueSpec)

/-- 'osmosislaw6.TableOrder', WHERE WHAT IT READS IS OF BULK AT MOST 1048576: true; the input reads as it did. -/
def tableOrderUptoRow : OpenClaim := { program := "ytachollgbplikaa", sum := "e22d03586d0372a4e663f0a2617906962647c24fbfad17bf85d9e8e94ddd9839", func := "osmosis/osmosislaw6.TableOrder", spec := "tableOrder", inPlace := ["slices.overlaps[osmosis/api.Pair]"], unfollowed := true, recurses := true, apart := false, narrowed := true }
def TableOrderUptoSaid : Prop := tableOrderUptoRow.holds Try.pinned (OpenSpec.upto tableOrderSpec)

/-- 'osmosislaw8.ShardOnce', WHERE WHAT IT READS IS OF BULK AT MOST 1048576: true; the input reads as it did. -/
def shardOnceUptoRow : OpenClaim := { program := "ytachollgbplikaa", sum := "e22d03586d0372a4e663f0a2617906962647c24fbfad17bf85d9e8e94ddd9839", func := "osmosis/osmosislaw8.ShardOnce", spec := "shardOnce", inPlace := ["slices.overlaps[osmosis/api.Pair]"], unfollowed := true, recurses := true, apart := false, narrowed := true }
def ShardOnceUptoSaid : Prop := shardOnceUptoRow.holds Try.pinned (OpenSpec.upto shardOnceSpec)

/-- 'osmosislaw8.ShardFull', WHERE WHAT IT READS IS OF BULK AT MOST 1048576: true; the input reads as it did. -/
def shardFullUptoRow : OpenClaim := { program := "ytachollgbplikaa", sum := "e22d03586d0372a4e663f0a2617906962647c24fbfad17bf85d9e8e94ddd9839", func := "osmosis/osmosislaw8.ShardFull", spec := "shardFull", inPlace := ["slices.overlaps[osmosis/api.Pair]"], unfollowed := true, recurses := true, apart := false, narrowed := true }
def ShardFullUptoSaid : Prop := shardFullUptoRow.holds Try.pinned (OpenSpec.upto shardFullSpec)

/-- 'osmosislaw8.ShardKnown', WHERE WHAT IT READS IS OF BULK AT MOST 1048576: true; the input reads as it did. -/
def shardKnownUptoRow : OpenClaim := { program := "ytachollgbplikaa", sum := "e22d03586d0372a4e663f0a2617906962647c24fbfad17bf85d9e8e94ddd9839", func := "osmosis/osmosislaw8.ShardKnown", spec := "shardKnown", inPlace := ["slices.overlaps[osmosis/api.Pair]"], unfollowed := true, recurses := true, apart := false, narrowed := true }
def ShardKnownUptoSaid : Prop := shardKnownUptoRow.holds Try.pinned (OpenSpec.upto shardKnownSpec)

/-- 'osmosislaw8.ShardTells', WHERE WHAT IT READS IS OF BULK AT MOST 1048576: true; the input reads as it did. -/
def shardTellsUptoRow : OpenClaim := { program := "ytachollgbplikaa", sum := "e22d03586d0372a4e663f0a2617906962647c24fbfad17bf85d9e8e94ddd9839", func := "osmosis/osmosislaw8.ShardTells", spec := "shardTells", inPlace := ["slices.overlaps[osmosis/api.Pair]"], unfollowed := true, recurses := true, apart := false, narrowed := true }
def ShardTellsUptoSaid : Prop := shardTellsUptoRow.holds Try.pinned (OpenSpec.upto shardTellsSpec)

/-- 'osmosislaw8.ShardImage', WHERE WHAT IT READS IS OF BULK AT MOST 1048576: true; the input reads as it did. -/
def shardImageUptoRow : OpenClaim := { program := "ytachollgbplikaa", sum := "e22d03586d0372a4e663f0a2617906962647c24fbfad17bf85d9e8e94ddd9839", func := "osmosis/osmosislaw8.ShardImage", spec := "shardImage", inPlace := ["slices.overlaps[osmosis/api.Pair]"], unfollowed := true, recurses := true, apart := false, narrowed := true }
def ShardImageUptoSaid : Prop := shardImageUptoRow.holds Try.pinned (OpenSpec.upto shardImageSpec)

end Rows
end Go.Proofs.Ytachollgbplikaa
