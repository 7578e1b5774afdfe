import Derived.Test.YtohoggieaanllaaGreatL4
import Derived.Test.YtohoggieaanllaaGreatY5
set_option linter.all false
set_option linter.unusedSimpArgs false
namespace Go.Proofs.YtohoggieaanllaaGreat
theorem ZJ (n:List Int) (s10:Int×List UInt8):∀ (k x:Nat) (s:List UInt8),x < 9223372036854775808→(nu x).length≤k→s.length+k < 1000000000000 →
  ∃ (y:Nat) (s':List UInt8),(∀ j,k≤j→eG (jG n s10) j ((x:Int),s)=some ((y:Int),s'))∧y < 128∧s'++[UInt8.ofNat y]=s++nu x∧s'.length+1≤s.length+k
 | 0,x,s,_,h,_=>by have:=ML x;omega
 | k+1,x,s,hx,h,hs=>by
  by_cases c:x < 128
  ·refine ⟨x,s,λj hj=>?_,c,by rw [uX c],by omega⟩
   obtain ⟨j,rfl⟩:∃ i,j=i+1:=⟨j - 1,by omega⟩
   have e:jG n s10 ((x:Int),s)=some (.inr ((x:Int),s)):=by
    unfold jG
    rw [aZ (by simp only;omega),cond_false]
   simp only [eG,e]
  ·have hl:(nu (x / 128)).length≤k:=by rw [Er c] at h;simpa using h
   obtain ⟨y,s',h1,h2,h3,h4⟩:=ZJ n s10 k (x / 128) (s++[UInt8.ofNat (x % 128+128)]) (by omega) hl (by simp;omega)
   refine ⟨y,s',λj hj=>?_,h2,by rw [h3,adi x c],by simp at h4;omega⟩
   obtain ⟨j,rfl⟩:∃ i,j=i+1:=⟨j - 1,by omega⟩
   have e:jG n s10 ((x:Int),s)=some (.inl (((x / 128:Nat):Int),s++[UInt8.ofNat (x % 128+128)])):=by
    unfold jG
    rw [bI (by simp only;omega),cond_true]
    simp only [ae8 hx,anF]
    rw [H9 (by simp;omega)]
   simp only [eG,e]
   exact h1 j (by omega)
theorem l7 (b:List UInt8) (l:List Int) (h:b.length+10 * l.length < 1000000000):kr b l=some (R3 b l):=by
 unfold kr
 rw [H9 (by omega)]
 have key:∃ e,Jb l (0,b)=some e∧e=(if l.all Uj then .inr (b++encI l) else .inl ()):=by
  refine pO (λ(s:Int×List UInt8)=>l.length - s.1.toNat) (λ(s:Int×List UInt8)=>∃ i:Nat,s.1=(i:Int)∧i≤l.length∧(∀ x∈l.take i,Uj x=true)∧s.2=b++encI (l.take i)) _ ?_ KK (0,b) ⟨0,rfl,by omega,by simp,by simp [encI]⟩ (by have:=FI;simp only;omega)
  rintro ⟨j,s⟩ ⟨i,rfl,h1,h2,rfl⟩
  have hle:=acz _ h2
  rw [List.length_take] at hle
  simp only [uE]
  by_cases hi:i < l.length
  ·rw [bI (by omega),cond_true,fA hi,Option.bind_some]
   by_cases hx:Uj l[i]=true
   ·left
    have hx':=hx
    simp only [Uj,decide_eq_true_eq] at hx'
    have e0:∀ s,qZ l[i] s l=some (.inr ()):=λs=>by
     unfold qZ
     rw [aZ (by omega),cond_false,aZ (by omega),cond_false]
    obtain ⟨x,hxe⟩:∃ x:Nat,l[i]=x:=⟨l[i].toNat,by omega⟩
    have h9:=H_ (x:=x) (by omega)
    obtain ⟨y,s',q1,q2,q3,q4⟩:=ZJ l ((i:Int),b++encI (l.take i)) 9 x (b++encI (l.take i)) (by omega) h9 (by simp;omega)
    have q1':=q1 KK (by decide)
    rw [e0,Option.bind_some,hxe]
    simp only [mW,cond_false,Ja,q1',Option.bind_some]
    have q5:s'++[L6 (y:Int)]=b++encI (l.take (i+1)):=by
     rw [acy (by omega),q3,List.take_succ_eq_append_getElem hi,adg,hxe]
     simp
    rw [H9 (by simp at q4 ⊢;omega),q5]
    refine ⟨_,rfl,⟨i+1,by rw [fG (by omega) (by omega)];simp,by omega, ?_,rfl⟩,by rw [fG (by omega) (by omega)];omega⟩
    rw [List.take_succ_eq_append_getElem hi]
    intro y hy
    rcases List.mem_append.1 hy with hy | hy
    ·exact h2 y hy
    ·rw [List.mem_singleton.1 hy];exact hx
   ·right
    rw [if_neg (by simp [ae9 l hi (by simpa using hx)])]
    have e0:qZ l[i] ((i:Int),b++encI (l.take i)) l=some (.inl ()):=by
     unfold qZ
     simp only [Uj,decide_eq_true_eq] at hx
     by_cases c:l[i] < 0
     ·rw [bI c,cond_true]
     ·rw [aZ c,cond_false,bI (by omega),cond_true]
    rw [e0,Option.bind_some]
    exact ⟨_,rfl,rfl⟩
  ·right
   rw [aZ (by omega),cond_false]
   rw [List.take_of_length_le (by omega)] at h2 ⊢
   rw [if_pos (List.all_eq_true.2 h2)]
   exact ⟨_,rfl,rfl⟩
 obtain ⟨e,e1,e2⟩:=key
 rw [e1,Option.bind_some,e2]
 unfold R3
 split<;>rfl
end Go.Proofs.YtohoggieaanllaaGreat
