import Derived.Test.YtohoggieaanllaaGreatL1
import Derived.Test.YtohoggieaanllaaGreatY6
set_option linter.all false
set_option linter.unusedSimpArgs false
namespace Go.Proofs.YtohoggieaanllaaGreat
theorem yB (n:Int) (m:Nat) (hm:0 < m) (hm2:m < 1000000000000):∃ k:Nat,bE n (m:Int)=some (k:Int)∧k < m:=by
 have h1:=Int.emod_nonneg n (by omega:(m:Int)≠0)
 have h2:=Int.emod_lt_of_pos n (by omega:(0:Int) < (m:Int))
 refine ⟨(n % (m:Int)).toNat, ?_,by omega⟩
 rw [Int.toNat_of_nonneg h1]
 unfold bE arp
 rw [if_neg (by omega),Option.bind_some]
 have e1:=Int.tmod_add_mul_tdiv n m
 by_cases h:0≤n.tmod m
 ·rw [aV (by omega),cond_false]
  congr 1
  have e2:n.tmod m < m:=Int.tmod_lt_of_pos n (by omega)
  have e3:n % m=(n.tmod m) % m:=by
   conv=>lhs;rw [← e1]
   rw [Int.add_mul_emod_self_left]
  rw [e3,Int.emod_eq_of_lt h e2]
 ·have e2:-(m:Int) < n.tmod m:=Int.lt_tmod_of_pos n (by omega)
  rw [aZ (by omega),cond_true,bU (by omega) (by omega)]
  congr 1
  have e3:n % m=(n.tmod m+m) % m:=by
   conv=>lhs;rw [← e1]
   rw [Int.add_mul_emod_self_left,Int.add_emod_right]
  rw [e3,Int.emod_eq_of_lt (by omega) (by omega)]
end Go.Proofs.YtohoggieaanllaaGreat
