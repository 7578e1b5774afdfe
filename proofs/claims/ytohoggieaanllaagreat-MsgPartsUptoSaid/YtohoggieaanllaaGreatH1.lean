import Derived.Test.YtohoggieaanllaaGreatC3
import Derived.Test.YtohoggieaanllaaGreatY5
set_option linter.all false
set_option linter.unusedSimpArgs false
namespace Go.Proofs.YtohoggieaanllaaGreat
theorem F5 (n:Int):∃ v,ug n=some v:=by
 obtain ⟨k,hk,h⟩:=zH n 6 (by omega) (by omega)
 unfold ug
 rw [show (6:Int)=((6:Nat):Int) from rfl,hk,Option.bind_some,fA (by simpa using h),Option.bind_some]
 exact ⟨_,rfl⟩
theorem bZ (n:Int) (m:Nat) (h:0 < m) (h2:m < 1000000000000):∃ k,bf n (m:Int)=some k:=by
 obtain ⟨k,hk,_⟩:=zH n m h h2
 exact ⟨_,hk⟩
theorem BZ (n:Int):∃ v,wD n=some v:=by
 obtain ⟨a,ha⟩:=bZ n 7 (by omega) (by omega)
 obtain ⟨b,hb⟩:=bZ (IntKind.i64.wrap (Int.tdiv n 7)) 40 (by omega) (by omega)
 obtain ⟨c,hc,hc2⟩:=zH (IntKind.i64.wrap (Int.tdiv n 7)) 63 (by omega) (by omega)
 obtain ⟨d,hd⟩:=bZ (IntKind.i64.wrap (Int.tdiv n 441)) 3 (by omega) (by omega)
 obtain ⟨e,he⟩:=bZ (IntKind.i64.wrap (Int.tdiv n 7)) 3 (by omega) (by omega)
 obtain ⟨f,hf⟩:=bZ (IntKind.i64.wrap (Int.tdiv n 7)) 1000 (by omega) (by omega)
 have hs:aeS .i64 1 (IntKind.u64.wrap (c:Int))=some (IntKind.i64.wrap (1 * 2 ^ (min (IntKind.u64.wrap (c:Int)).toNat IntKind.i64.bits))):=by
  unfold aeS
  rw [if_neg (by have:=YD (c:Int);omega)]
 have hj:∃ b,Eu a n=some b:=by
  unfold Eu
  cases (a==0)<;>cases (a==1)<;>exact ⟨_,rfl⟩
 obtain ⟨j,hj⟩:=hj
 unfold wD
 rw [show (7:Int)=((7:Nat):Int) from rfl,ha,Option.bind_some,hj,Option.bind_some]
 cases j
 ·rw [cond_false]
  cases (a==3)
  ·rw [cond_false]
   cases (a==4)
   ·rw [cond_false]
    cases (a==5)
    ·exact ⟨_,rfl⟩
    ·rw [cond_true,show (1000:Int)=((1000:Nat):Int) from rfl,show ((7:Nat):Int)=7 from rfl,hf]
     exact ⟨_,rfl⟩
   ·rw [cond_true,show (3:Int)=((3:Nat):Int) from rfl,show ((7:Nat):Int)=7 from rfl,he]
    exact ⟨_,rfl⟩
  ·rw [cond_true,show (63:Int)=((63:Nat):Int) from rfl,show ((7:Nat):Int)=7 from rfl,hc,Option.bind_some,hs,Option.bind_some,show (3:Int)=((3:Nat):Int) from rfl,hd]
   exact ⟨_,rfl⟩
 ·rw [cond_true,show (40:Int)=((40:Nat):Int) from rfl,show ((7:Nat):Int)=7 from rfl,hb]
  exact ⟨_,rfl⟩
end Go.Proofs.YtohoggieaanllaaGreat
