/-
  No cell of these rows narrows 'for every input' (looked for: loops, veiled, ifaces, maps, wideKeys, modest, calm, conditions, laid).
  DERIVED. THE GIVEN ROWS OF THIS SEAT. 5 by the template 'for every input the law returns true; each argument reads behind the call as it read before'; 0 by the template 'total and deterministic' (their statements: YtlcjmchhnbdepaaTotals.lean).
  GIVEN WITH THE SEED: the statements are not yours to turn. If you find one false, say at which input.
  Laid BY PROGRAM, IN A SANDBOX (cutbox-rows.mjs): the forced cells as the released guide's own fill.sh prints them over the translation 143bba61f74e9ce2… (all of the seat's roots in one cut). By AI agents, Wed Nov 11 2026. No macro, syntax, notation, axiom, sorry.
-/
import Derived.Test.YtlcjmchhnbdepaaChecked
import GoSem.Claim
import GoSem.ClaimJoined
import GoSem.ClaimMapViews
import Derived.JoinedTies
import Derived.KernelRfl
namespace Go.Proofs.Ytlcjmchhnbdepaa
/- THE CELL 'sum', in the pinned program and in every row, IS THE sha256 OF THE DUMP (.gsa) THAT YtlcjmchhnbdepaaProg.lean LOADS. Nothing in Lean hashes anything: it is a label: what it is worth is what the hold of that sum in a sandbox is worth. -/
noncomputable def Try.pinned : Pinned := { name := "ytlcjmchhnbdepaa", sum := "143bba61f74e9ce22ed48ebb8aa3d83f3cab8870b6e2a10b7601f32345e3c2cd", checked := Try.checked }
namespace Rows
def none {H : Type} : Left H := { results := [], args := [] }

/-- 'osmosislaw21.RouteTeaches': WHATEVER THE INPUT: true; the input reads as it did. -/
def routeTeachesSpec : ChangeSpec := { name := "routeTeaches", fn := fun _ => fun
  | [d1, d2, d3, d4] => { results := [.lit (.bool true)], args := [d1, d2, d3, d4] }
  | _ => none }
def routeTeachesRow : OpenClaim := { program := "ytlcjmchhnbdepaa", sum := "143bba61f74e9ce22ed48ebb8aa3d83f3cab8870b6e2a10b7601f32345e3c2cd", func := "osmosis/osmosislaw21.RouteTeaches", spec := "routeTeaches", inPlace := ["slices.overlaps[osmosis/api.Pair]"], unfollowed := true, recurses := true, apart := false }
def RouteTeachesSaid : Prop := routeTeachesRow.holds Try.pinned (OpenSpec.ofChange routeTeachesSpec)

/-- ITS FALSE NEIGHBOUR: 'it returns false'. Refute it at one input. -/
def routeTeachesWrong : ChangeSpec := { name := "routeTeaches", fn := fun _ => fun
  | [d1, d2, d3, d4] => { results := [.lit (.bool false)], args := [d1, d2, d3, d4] }
  | _ => none }
def RouteTeachesWrongFalsely : Prop := routeTeachesRow.holds Try.pinned (OpenSpec.ofChange routeTeachesWrong)

/-- 'osmosislaw18.StoreMoves': WHATEVER THE INPUT: true; the input reads as it did. -/
def storeMovesSpec : ChangeSpec := { name := "storeMoves", fn := fun _ => fun
  | [d1, d2] => { results := [.lit (.bool true)], args := [d1, d2] }
  | _ => none }
def storeMovesRow : OpenClaim := { program := "ytlcjmchhnbdepaa", sum := "143bba61f74e9ce22ed48ebb8aa3d83f3cab8870b6e2a10b7601f32345e3c2cd", func := "osmosis/osmosislaw18.StoreMoves", spec := "storeMoves", inPlace := ["slices.overlaps[osmosis/api.Pair]"], unfollowed := true, recurses := true, apart := false }
def StoreMovesSaid : Prop := storeMovesRow.holds Try.pinned (OpenSpec.ofChange storeMovesSpec)

/-- ITS FALSE NEIGHBOUR: 'it returns false'. Refute it at one input. -/
def storeMovesWrong : ChangeSpec := { name := "storeMoves", fn := fun _ => fun
  | [d1, d2] => { results := [.lit (.bool false)], args := [d1, d2] }
  | _ => none }
def StoreMovesWrongFalsely : Prop := storeMovesRow.holds Try.pinned (OpenSpec.ofChange storeMovesWrong)

/-- 'osmosislaw18.StorePoints': WHATEVER THE INPUT: true; the input reads as it did. -/
def storePointsSpec : ChangeSpec := { name := "storePoints", fn := fun _ => fun
  | [d1, d2, d3] => { results := [.lit (.bool true)], args := [d1, d2, d3] }
  | _ => none }
def storePointsRow : OpenClaim := { program := "ytlcjmchhnbdepaa", sum := "143bba61f74e9ce22ed48ebb8aa3d83f3cab8870b6e2a10b7601f32345e3c2cd", func := "osmosis/osmosislaw18.StorePoints", spec := "storePoints", inPlace := ["slices.overlaps[osmosis/api.Pair]"], unfollowed := true, recurses := true, apart := false }
def StorePointsSaid : Prop := storePointsRow.holds Try.pinned (OpenSpec.ofChange storePointsSpec)

/-- ITS FALSE NEIGHBOUR: 'it returns false'. Refute it at one input. -/
def storePointsWrong : ChangeSpec := { name := "storePoints", fn := fun _ => fun
  | [d1, d2, d3] => { results := [.lit (.bool false)], args := [d1, d2, d3] }
  | _ => none }
def StorePointsWrongFalsely : Prop := storePointsRow.holds Try.pinned (OpenSpec.ofChange storePointsWrong)

/-- 'osmosislaw18.StoreTells': WHATEVER THE INPUT: true; the input reads as it did. -/
def storeTellsSpec : ChangeSpec := { name := "storeTells", fn := fun _ => fun
  | [d1, d2, d3, d4] => { results := [.lit (.bool true)], args := [d1, d2, d3, d4] }
  | _ => none }
def storeTellsRow : OpenClaim := { program := "ytlcjmchhnbdepaa", sum := "143bba61f74e9ce22ed48ebb8aa3d83f3cab8870b6e2a10b7601f32345e3c2cd", func := "osmosis/osmosislaw18.StoreTells", spec := "storeTells", inPlace := ["slices.overlaps[osmosis/api.Pair]"], unfollowed := true, recurses := true, apart := false }
def StoreTellsSaid : Prop := storeTellsRow.holds Try.pinned (OpenSpec.ofChange storeTellsSpec)

/-- ITS FALSE NEIGHBOUR: 'it returns false'. Refute it at one input. -/
def storeTellsWrong : ChangeSpec := { name := "storeTells", fn := fun _ => fun
  | [d1, d2, d3, d4] => { results := [.lit (.bool false)], args := [d1, d2, d3, d4] }
  | _ => none }
def StoreTellsWrongFalsely : Prop := storeTellsRow.holds Try.pinned (OpenSpec.ofChange storeTellsWrong)

/-- 'osmosislaw21.RouteEnds': WHATEVER THE INPUT: true; the input reads as it did. -/
def routeEndsSpec : ChangeSpec := { name := "routeEnds", fn := fun _ => fun
  | [d1, d2, d3, d4] => { results := [.lit (.bool true)], args := [d1, d2, d3, d4] }
  | _ => none }
def routeEndsRow : OpenClaim := { program := "ytlcjmchhnbdepaa", sum := "143bba61f74e9ce22ed48ebb8aa3d83f3cab8870b6e2a10b7601f32345e3c2cd", func := "osmosis/osmosislaw21.RouteEnds", spec := "routeEnds", inPlace := ["slices.overlaps[osmosis/api.Pair]"], unfollowed := true, recurses := true, apart := false }
def RouteEndsSaid : Prop := routeEndsRow.holds Try.pinned (OpenSpec.ofChange routeEndsSpec)

/-- ITS FALSE NEIGHBOUR: 'it returns false'. Refute it at one input. -/
def routeEndsWrong : ChangeSpec := { name := "routeEnds", fn := fun _ => fun
  | [d1, d2, d3, d4] => { results := [.lit (.bool false)], args := [d1, d2, d3, d4] }
  | _ => none }
def RouteEndsWrongFalsely : Prop := routeEndsRow.holds Try.pinned (OpenSpec.ofChange routeEndsWrong)

/- THE SECOND FORM. 'bulk': how many values and letters a reading holds, each counted each time it is reached (what is shared counts as often as it is met; a slice's spare places count too). A statement '..UptoSaid' is the law's where the arguments, and the package variables that the reading takes, are together of bulk at most 1048576: NARROWER than '..Said'. Prove '..Said' where nothing that the law and all that it calls make is longer than what came in: it says more and counts as full. Else prove '..UptoSaid'. A law counts once. -/
mutual
def uptoBulk {H : Type} : DataW H → Nat
  | .lit (.string bytes) => bytes.length + 1
  | .lit _ => 1
  | .nil => 1
  | .ptr d => uptoBulk d + 1
  | .slice elems spare => uptoBulkAll elems + uptoBulkAll spare + 1
  | .agg parts => uptoBulkAll parts + 1
  | .iface _ d => uptoBulk d + 1
  | .map entries => uptoBulkEntries entries + 1
  | .held _ => 1
def uptoBulkAll {H : Type} : List (DataW H) → Nat
  | [] => 0
  | d :: r => uptoBulk d + uptoBulkAll r
def uptoBulkEntries {H : Type} : List (Lit × DataW H) → Nat
  | [] => 0
  | x :: r => uptoBulkEntry x + uptoBulkEntries r
def uptoBulkEntry {H : Type} : Lit × DataW H → Nat
  | (.string bytes, d) => bytes.length + uptoBulk d + 1
  | (_, d) => uptoBulk d + 1
 end
def uptoSmall : (H : Type) → List (DataW H) → Bool := fun _ ds => decide (uptoBulkAll ds ≤ 1048576)
def OpenSpec.upto (s : _root_.Go.ChangeSpec) : _root_.Go.OpenSpec := { _root_.Go.OpenSpec.ofChange s with cond := some uptoSmall }

/-- 'osmosislaw21.RouteTeaches', WHERE WHAT IT READS IS OF BULK AT MOST 1048576: true; the input reads as it did. -/
def routeTeachesUptoRow : OpenClaim := { program := "ytlcjmchhnbdepaa", sum := "143bba61f74e9ce22ed48ebb8aa3d83f3cab8870b6e2a10b7601f32345e3c2cd", func := "osmosis/osmosislaw21.RouteTeaches", spec := "routeTeaches", inPlace := ["slices.overlaps[osmosis/api.Pair]"], unfollowed := true, recurses := true, apart := false, narrowed := true }
def RouteTeachesUptoSaid : Prop := routeTeachesUptoRow.holds Try.pinned (OpenSpec.upto routeTeachesSpec)

/-- 'osmosislaw18.StoreMoves', WHERE WHAT IT READS IS OF BULK AT MOST 1048576: true; the input reads as it did. -/
def storeMovesUptoRow : OpenClaim := { program := "ytlcjmchhnbdepaa", sum := "143bba61f74e9ce22ed48ebb8aa3d83f3cab8870b6e2a10b7601f32345e3c2cd", func := "osmosis/osmosislaw18.StoreMoves", spec := "storeMoves", inPlace := ["slices.overlaps[osmosis/api.Pair]"], unfollowed := true, recurses := true, apart := false, narrowed := true }
def StoreMovesUptoSaid : Prop := storeMovesUptoRow.holds Try.pinned (OpenSpec.upto storeMovesSpec)

/-- 'osmosislaw18.StorePoints', WHERE WHAT IT READS IS OF BULK AT MOST 1048576: true; the input reads as it did. -/
def storePointsUptoRow : OpenClaim := { program := "ytlcjmchhnbdepaa", sum := "143bba61f74e9ce22ed48ebb8aa3d83f3cab8870b6e2a10b7601f32345e3c2cd", func := "osmosis/osmosislaw18.StorePoints", spec := "storePoints", inPlace := ["slices.overlaps[osmosis/api.Pair]"], unfollowed := true, recurses := true, apart := false, narrowed := true }
def StorePointsUptoSaid : Prop := storePointsUptoRow.holds Try.pinned (OpenSpec.upto storePointsSpec)

/-- 'osmosislaw18.StoreTells', WHERE WHAT IT READS IS OF BULK AT MOST 1048576: true; the input reads as it did. -/
def storeTellsUptoRow : OpenClaim := { program := "ytlcjmchhnbdepaa", sum := "143bba61f74e9ce22ed48ebb8aa3d83f3cab8870b6e2a10b7601f32345e3c2cd", func := "osmosis/osmosislaw18.StoreTells", spec := "storeTells", inPlace := ["slices.overlaps[osmosis/api.Pair]"], unfollowed := true, recurses := true, apart := false, narrowed := true }
def StoreTellsUptoSaid : Prop := storeTellsUptoRow.holds Try.pinned (OpenSpec.upto storeTellsSpec)

/-- 'osmosislaw21.RouteEnds', WHERE WHAT IT READS IS OF BULK AT MOST 1048576: true; the input reads as it did. -/
def routeEndsUptoRow : OpenClaim := { program := "ytlcjmchhnbdepaa", sum := "143bba61f74e9ce22ed48ebb8aa3d83f3cab8870b6e2a10b7601f32345e3c2cd", func := "osmosis/osmosislaw21.RouteEnds", spec := "routeEnds", inPlace := ["slices.overlaps[osmosis/api.Pair]"], unfollowed := true, recurses := true, apart := false, narrowed := true }
def RouteEndsUptoSaid : Prop := routeEndsUptoRow.holds Try.pinned (OpenSpec.upto routeEndsSpec)

end Rows
end Go.Proofs.Ytlcjmchhnbdepaa
