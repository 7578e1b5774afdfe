import Derived.Test.YtohoggieaanllaaGreatL4
import Derived.Test.YtohoggieaanllaaGreatY6
set_option linter.all false
set_option linter.unusedSimpArgs false
namespace Go.Proofs.YtohoggieaanllaaGreat
theorem ag4 (n:List Int) (s10:Int×List UInt8):∀ (k x:Nat) (s:List UInt8),x < 9223372036854775808→(qx x).length≤k→s.length+k < 1000000000000 →
  ∃ (y:Nat) (s':List UInt8),(∀ j,k≤j→bT (kX n s10) j ((x:Int),s)=some ((y:Int),s'))∧y < 128∧s'++[UInt8.ofNat y]=s++qx x∧s'.length+1≤s.length+k
 | 0,x,s,_,h,_=>by have:=Ti x;omega
 | k+1,x,s,hx,h,hs=>by
  by_cases c:x < 128
  ·refine ⟨x,s,λj hj=>?_,c,by rw [yU c],by omega⟩
   obtain ⟨j,rfl⟩:∃ i,j=i+1:=⟨j - 1,by omega⟩
   have e:kX n s10 ((x:Int),s)=some (.inr ((x:Int),s)):=by
    unfold kX
    rw [aV (by simp only;omega),cond_false]
   simp only [bT,e]
  ·have hl:(qx (x / 128)).length≤k:=by rw [JF c] at h;simpa using h
   obtain ⟨y,s',h1,h2,h3,h4⟩:=ag4 n s10 k (x / 128) (s++[UInt8.ofNat (x % 128+128)]) (by omega) hl (by simp;omega)
   refine ⟨y,s',λj hj=>?_,h2,by rw [h3,ak7 x c],by simp at h4;omega⟩
   obtain ⟨j,rfl⟩:∃ i,j=i+1:=⟨j - 1,by omega⟩
   have e:kX n s10 ((x:Int),s)=some (.inl (((x / 128:Nat):Int),s++[UInt8.ofNat (x % 128+128)])):=by
    unfold kX
    rw [aZ (by simp only;omega),cond_true]
    simp only [ank hx,axO]
    rw [CX (by simp;omega)]
   simp only [bT,e]
   exact h1 j (by omega)
theorem oI (b:List UInt8) (l:List Int) (h:b.length+10 * l.length < 1000000000):mg b l=some (Zc b l):=by
 unfold mg
 rw [CX (by omega)]
 have key:∃ e,OC l (0,b)=some e∧e=(if l.all Tj then .inr (b++encI l) else .inl ()):=by
  refine mW (λ(s:Int×List UInt8)=>l.length - s.1.toNat) (λ(s:Int×List UInt8)=>∃ i:Nat,s.1=(i:Int)∧i≤l.length∧(∀ x∈l.take i,Tj x=true)∧s.2=b++encI (l.take i)) _ ?_ KK (0,b) ⟨0,rfl,by omega,by simp,by simp [encI]⟩ (by have:=rO;simp only;omega)
  rintro ⟨j,s⟩ ⟨i,rfl,h1,h2,rfl⟩
  have hle:=akb _ h2
  rw [List.length_take] at hle
  simp only [yu]
  by_cases hi:i < l.length
  ·rw [aZ (by omega),cond_true,dI hi,Option.bind_some]
   by_cases hx:Tj l[i]=true
   ·left
    have hx':=hx
    simp only [Tj,decide_eq_true_eq] at hx'
    have e0:∀ s,u7 l[i] s l=some (.inr ()):=λs=>by
     unfold u7
     rw [aV (by omega),cond_false,aV (by omega),cond_false]
    obtain ⟨x,hxe⟩:∃ x:Nat,l[i]=x:=⟨l[i].toNat,by omega⟩
    have h9:=Ny (x:=x) (by omega)
    obtain ⟨y,s',q1,q2,q3,q4⟩:=ag4 l ((i:Int),b++encI (l.take i)) 9 x (b++encI (l.take i)) (by omega) h9 (by simp;omega)
    have q1':=q1 KK (by decide)
    rw [e0,Option.bind_some,hxe]
    simp only [jI,cond_false,OB,q1',Option.bind_some]
    have q5:s'++[Em (y:Int)]=b++encI (l.take (i+1)):=by
     rw [aj9 (by omega),q3,List.take_succ_eq_append_getElem hi,ak5,hxe]
     simp
    rw [CX (by simp at q4 ⊢;omega),q5]
    refine ⟨_,rfl,⟨i+1,by rw [bU (by omega) (by omega)];simp,by omega, ?_,rfl⟩,by rw [bU (by omega) (by omega)];omega⟩
    rw [List.take_succ_eq_append_getElem hi]
    intro y hy
    rcases List.mem_append.1 hy with hy | hy
    ·exact h2 y hy
    ·rw [List.mem_singleton.1 hy];exact hx
   ·right
    rw [if_neg (by simp [ano l hi (by simpa using hx)])]
    have e0:u7 l[i] ((i:Int),b++encI (l.take i)) l=some (.inl ()):=by
     unfold u7
     simp only [Tj,decide_eq_true_eq] at hx
     by_cases c:l[i] < 0
     ·rw [aZ c,cond_true]
     ·rw [aV c,cond_false,aZ (by omega),cond_true]
    rw [e0,Option.bind_some]
    exact ⟨_,rfl,rfl⟩
  ·right
   rw [aV (by omega),cond_false]
   rw [List.take_of_length_le (by omega)] at h2 ⊢
   rw [if_pos (List.all_eq_true.2 h2)]
   exact ⟨_,rfl,rfl⟩
 obtain ⟨e,e1,e2⟩:=key
 rw [e1,Option.bind_some,e2]
 unfold Zc
 split<;>rfl
theorem ajn (c:UInt8):Dp c=some (decide (c.toNat < 128)):=by
 unfold Dp
 rw [ak4]
def atI:Option Nat→Int
 | some i=>i
 | none=>-1
theorem ag5 (b:List UInt8) (h:b.length < 1000000000000):iD b=some (atI (jm b)):=by
 unfold iD
 have key:∃ x,lD b 0=some x∧(match jm b with
   | some i=>x=.inl (i:Int)
   | none=>x=.inr ()):=by
  refine mW (λs:Int=>b.length - s.toNat) (λs=>∃ i:Nat,s=(i:Int)∧i≤b.length∧∀ j (h:j < i) (h':j < b.length),¬ (b[j]).toNat < 128) _ ?_ KK 0 ⟨0,rfl,by omega,λj h=>by omega⟩ (by have:=rO;simp;omega)
  rintro s ⟨i,rfl,h1,h2⟩
  simp only [gD]
  by_cases hi:i < b.length
  ·rw [aZ (by omega),cond_true,dI hi,Option.bind_some,ajn,Option.bind_some]
   by_cases hc:(b[i]).toNat < 128
   ·right
    refine ⟨.inl (i:Int),by rw [decide_eq_true hc,cond_true], ?_⟩
    rw [WI b i h1 h2,List.drop_eq_getElem_cons hi,jm,if_pos hc]
    simp
   ·left
    rw [aV hc,cond_false,bU (by omega) (by omega)]
    refine ⟨_,rfl,⟨i+1,by omega,by omega,λj hj hj'=>?_⟩,by omega⟩
    rcases Nat.lt_or_ge j i with q | q
    ·exact h2 j q hj'
    ·have:j=i:=by omega
     subst this
     exact hc
  ·right
   refine ⟨.inr (),by rw [aV (by omega),cond_false], ?_⟩
   rw [WI b i h1 h2,List.drop_of_length_le (by omega)]
   simp [jm]
 obtain ⟨x,e1,e2⟩:=key
 rw [e1,Option.bind_some]
 cases he:jm b with
 | some i =>
  rw [he] at e2
  simp only at e2
  subst e2
  rfl
 | none =>
  rw [he] at e2
  simp only at e2
  subst e2
  rfl
theorem aeN (b:List UInt8) (i:Nat) (hi:i < b.length) (h9:i < 9):EN b (i:Int) (0,(i:Int))=some ((valOf (b.take (i+1)):Nat):Int):=by
 have key:∃ x,EN b (i:Int) (0,(i:Int))=some x∧x=((valOf (b.take (i+1)):Nat):Int):=by
  refine mW (λs:Int×Int=>(s.2+1).toNat) (λs=>∃ k:Nat,k≤i+1∧s.2=(k:Int) - 1∧s.1=((valOf ((b.take (i+1)).drop k):Nat):Int)) _ ?_ KK (0,(i:Int)) ⟨i+1,by omega,by simp,by rw [List.drop_of_length_le (by simp;omega)];simp [valOf]⟩ (by have:=rO;simp only;omega)
  rintro ⟨v,j⟩ ⟨k,h1,h2,h3⟩
  simp only at h2 h3
  subst h2 h3
  simp only [vo]
  cases k with
  | zero =>
   right
   exact ⟨_,by rw [aV (by omega),cond_false],by simp⟩
  | succ k =>
   left
   have hk:k < b.length:=by omega
   have e:((k+1:Nat):Int) - 1=(k:Int):=by omega
   rw [e,aZ (by omega),cond_true,dI hk,Option.bind_some]
   have hl:((b.take (i+1)).drop (k+1)).length≤8:=by simp;omega
   have hv:=afP ((b.take (i+1)).drop (k+1))
   have hv8:valOf ((b.take (i+1)).drop (k+1)) < 72057594037927936:=Nat.lt_of_lt_of_le hv (by
    have:=Nat.pow_le_pow_right (n:=128) (by omega) hl
    simpa using this)
   have hd:(b.take (i+1)).drop k=b[k]::(b.take (i+1)).drop (k+1):=by
    rw [List.drop_eq_getElem_cons (by simp;omega)]
    simp
   refine ⟨_,rfl,⟨k,by omega, ?_, ?_⟩, ?_⟩
   ·simp only
    rw [bU (by omega) (by omega)]
   ·simp only
    rw [anm,bU (by omega) (by omega),avG _ _ hv8 (by omega),hd]
    rfl
   ·simp only
    rw [bU (by omega) (by omega)]
    omega
 obtain ⟨x,e1,e2⟩:=key
 rw [e1,e2]
theorem Sg (b:List UInt8) (h:b.length < 1000000000000):Ce b=some (qg b):=by
 unfold Ce qg
 rw [ag5 b h,Option.bind_some]
 cases he:jm b with
 | none=>rfl
 | some i =>
  have hi:=PI he
  show _=some (FC b i)
  unfold FC
  have ea:atI (some i)=(i:Int):=rfl
  rw [ea,aV (by omega),cond_false]
  have j0:Ba (i:Int) b=some (if 9≤i∨(0 < i∧b[i]?=some 0) then .inl () else .inr ()):=by
   unfold Ba
   by_cases h9:9≤i
   ·rw [aZ (by omega),cond_true,if_pos (.inl h9)]
   ·rw [aV (by omega),cond_false]
    by_cases h0:0 < i
    ·rw [aZ (by omega),cond_true,afO,List.getElem?_eq_getElem hi,Option.bind_some]
     by_cases hz:b[i]=0
     ·rw [if_pos (.inr ⟨h0,by rw [hz]⟩),hz]
      rfl
     ·rw [if_neg (by
       rintro (q | ⟨_,q⟩)
       ·omega
       ·exact hz (Option.some.inj q))]
      rw [Hu (by
       intro e
       exact hz (UInt8.toNat_inj.1 (by simp;omega))),cond_false]
    ·rw [aV (by omega),cond_false,if_neg (by
      rintro (q | ⟨q,_⟩)<;>omega)]
  rw [j0,Option.bind_some]
  by_cases hc:9≤i∨(0 < i∧b[i]?=some 0)
  ·rw [if_pos hc,if_pos hc]
   rfl
  ·rw [if_neg hc,if_neg hc]
   simp only [jI,cond_false]
   have h9:i < 9:=by
    rcases Nat.lt_or_ge i 9 with q | q
    ·exact q
    ·exact absurd (.inl q) hc
   rw [aeN b i hi h9,Option.bind_some]
   unfold EO
   rw [aV (by omega),cond_false]
   by_cases hv:4611686018427387903 < valOf (b.take (i+1))
   ·rw [aZ (by omega),cond_true,if_pos hv]
    rfl
   ·rw [aV (by omega),cond_false,if_neg hv,Option.bind_some]
    simp only [jI,cond_false]
    rw [bU (by omega) (by omega)]
    rfl
theorem ajo (b:List UInt8) (h:b.length < 1000000000000):Fb b=some (ah6 b):=by
 unfold Fb ah6
 rw [Sg b h,Option.bind_some]
 have hle:=ak3 b
 generalize qg b=t at *
 obtain ⟨v,k,e⟩:=t
 simp only at hle ⊢
 by_cases he:e=0
 ·subst he
  simp only [bne_self_eq_false,cond_false,if_true]
  obtain ⟨n,rfl⟩:∃ n:Nat,k=n:=⟨k.toNat,by omega⟩
  rw [uK b n (by omega),Option.bind_some]
  unfold Dq
  rw [CX (by simp;omega),Option.bind_some]
  simp
 ·rw [qZ he,cond_true,if_neg he]
end Go.Proofs.YtohoggieaanllaaGreat
