import Derived.Test.YtohoggieaanllaaGreatC3
import Derived.Test.YtohoggieaanllaaGreatY6
set_option linter.all false
set_option linter.unusedSimpArgs false
namespace Go.Proofs.YtohoggieaanllaaGreat
theorem Lm (n:Int):∃ v,xV n=some v:=by
 obtain ⟨k,hk,h⟩:=yB n 6 (by omega) (by omega)
 unfold xV
 rw [show (6:Int)=((6:Nat):Int) from rfl,hk,Option.bind_some,dI (by simpa using h),Option.bind_some]
 exact ⟨_,rfl⟩
theorem dG (n:Int) (m:Nat) (h:0 < m) (h2:m < 1000000000000):∃ k,bE n (m:Int)=some k:=by
 obtain ⟨k,hk,_⟩:=yB n m h h2
 exact ⟨_,hk⟩
theorem Gw (n:Int):∃ v,Ad n=some v:=by
 obtain ⟨a,ha⟩:=dG n 7 (by omega) (by omega)
 obtain ⟨b,hb⟩:=dG (IntKind.i64.wrap (Int.tdiv n 7)) 40 (by omega) (by omega)
 obtain ⟨c,hc,hc2⟩:=yB (IntKind.i64.wrap (Int.tdiv n 7)) 63 (by omega) (by omega)
 obtain ⟨d,hd⟩:=dG (IntKind.i64.wrap (Int.tdiv n 441)) 3 (by omega) (by omega)
 obtain ⟨e,he⟩:=dG (IntKind.i64.wrap (Int.tdiv n 7)) 3 (by omega) (by omega)
 obtain ⟨f,hf⟩:=dG (IntKind.i64.wrap (Int.tdiv n 7)) 1000 (by omega) (by omega)
 have hs:akX .i64 1 (IntKind.u64.wrap (c:Int))=some (IntKind.i64.wrap (1 * 2 ^ (min (IntKind.u64.wrap (c:Int)).toNat IntKind.i64.bits))):=by
  unfold akX
  rw [if_neg (by have:=afN (c:Int);omega)]
 have hj:∃ b,JJ a n=some b:=by
  unfold JJ
  cases (a==0)<;>cases (a==1)<;>exact ⟨_,rfl⟩
 obtain ⟨j,hj⟩:=hj
 unfold Ad
 rw [show (7:Int)=((7:Nat):Int) from rfl,ha,Option.bind_some,hj,Option.bind_some]
 cases j
 ·rw [cond_false]
  cases (a==3)
  ·rw [cond_false]
   cases (a==4)
   ·rw [cond_false]
    cases (a==5)
    ·exact ⟨_,rfl⟩
    ·rw [cond_true,show (1000:Int)=((1000:Nat):Int) from rfl,show ((7:Nat):Int)=7 from rfl,hf]
     exact ⟨_,rfl⟩
   ·rw [cond_true,show (3:Int)=((3:Nat):Int) from rfl,show ((7:Nat):Int)=7 from rfl,he]
    exact ⟨_,rfl⟩
  ·rw [cond_true,show (63:Int)=((63:Nat):Int) from rfl,show ((7:Nat):Int)=7 from rfl,hc,Option.bind_some,hs,Option.bind_some,show (3:Int)=((3:Nat):Int) from rfl,hd]
   exact ⟨_,rfl⟩
 ·rw [cond_true,show (40:Int)=((40:Nat):Int) from rfl,show ((7:Nat):Int)=7 from rfl,hb]
  exact ⟨_,rfl⟩
end Go.Proofs.YtohoggieaanllaaGreat
