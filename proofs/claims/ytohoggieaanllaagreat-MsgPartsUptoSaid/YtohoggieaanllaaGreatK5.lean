import Derived.Test.YtohoggieaanllaaGreatK4
set_option linter.all false
set_option linter.unusedSimpArgs false
namespace Go.Proofs.YtohoggieaanllaaGreat
def anl:aD:=⟨0,0,[],[]⟩
end Go.Proofs.YtohoggieaanllaaGreat
