import Derived.Test.YtohoggieaanllaaGreatL2
set_option linter.all false
set_option linter.unusedSimpArgs false
namespace Go.Proofs.YtohoggieaanllaaGreat
def e8 (h:Nat):List UInt8:=(List.range 8).map λk=>UInt8.ofNat (h / 256 ^ (7 - k) % 256)
end Go.Proofs.YtohoggieaanllaaGreat
