import Derived.Test.YtohoggieaanllaaGreatN1
import Derived.Test.YtohoggieaanllaaGreatK2
import Derived.Test.YtohoggieaanllaaGreatY6
set_option linter.all false
set_option linter.unusedSimpArgs false
namespace Go.Proofs.YtohoggieaanllaaGreat
theorem KA (x:Int):FT x=some (Tj x):=by
 unfold FT Tj
 by_cases h:0≤x
 ·rw [aZ (by omega),cond_true]
  congr 1
  rw [decide_eq_decide]
  omega
 ·rw [aV (by omega),cond_false,aV (by omega)]
end Go.Proofs.YtohoggieaanllaaGreat
