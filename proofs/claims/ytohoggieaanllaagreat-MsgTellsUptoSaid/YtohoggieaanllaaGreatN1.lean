import Derived.Test.YtohoggieaanllaaGreatL4
import Derived.Test.YtohoggieaanllaaGreatY7
set_option linter.all false
set_option linter.unusedSimpArgs false
namespace Go.Proofs.YtohoggieaanllaaGreat
theorem ahG (n:List Int) (s10:Int×List UInt8):∀ (k x:Nat) (s:List UInt8),x < 9223372036854775808→(Es x).length≤k→s.length+k < 1000000000000 →
  ∃ (y:Nat) (s':List UInt8),(∀ j,k≤j→bQ (lV n s10) j ((x:Int),s)=some ((y:Int),s'))∧y < 128∧s'++[UInt8.ofNat y]=s++Es x∧s'.length+1≤s.length+k
 | 0,x,s,_,h,_=>by have:=agq x;omega
 | k+1,x,s,hx,h,hs=>by
  by_cases c:x < 128
  ·refine ⟨x,s,λj hj=>?_,c,by rw [LC c],by omega⟩
   obtain ⟨j,rfl⟩:∃ i,j=i+1:=⟨j - 1,by omega⟩
   have e:lV n s10 ((x:Int),s)=some (.inr ((x:Int),s)):=by
    unfold lV
    rw [aT (by simp only;omega),cond_false]
   simp only [bQ,e]
  ·have hl:(Es (x / 128)).length≤k:=by rw [TV c] at h;simpa using h
   obtain ⟨y,s',h1,h2,h3,h4⟩:=ahG n s10 k (x / 128) (s++[UInt8.ofNat (x % 128+128)]) (by omega) hl (by simp;omega)
   refine ⟨y,s',λj hj=>?_,h2,by rw [h3,adi x c],by simp at h4;omega⟩
   obtain ⟨j,rfl⟩:∃ i,j=i+1:=⟨j - 1,by omega⟩
   have e:lV n s10 ((x:Int),s)=some (.inl (((x / 128:Nat):Int),s++[UInt8.ofNat (x % 128+128)])):=by
    unfold lV
    rw [bf (by simp only;omega),cond_true]
    simp only [anu hx,ayi]
    rw [l5 (by simp;omega)]
   simp only [bQ,e]
   exact h1 j (by omega)
theorem qx (b:List UInt8) (l:List Int) (h:b.length+10 * l.length < 1000000000):ny b l=some (Q7 b l):=by
 unfold ny
 rw [l5 (by omega)]
 have key:∃ e,Pb l (0,b)=some e∧e=(if l.all LD then .inr (b++encI l) else .inl ()):=by
  refine kX (λ(s:Int×List UInt8)=>l.length - s.1.toNat) (λ(s:Int×List UInt8)=>∃ i:Nat,s.1=(i:Int)∧i≤l.length∧(∀ x∈l.take i,LD x=true)∧s.2=b++encI (l.take i)) _ ?_ KK (0,b) ⟨0,rfl,by omega,by simp,by simp [encI]⟩ (by have:=kr;simp only;omega)
  rintro ⟨j,s⟩ ⟨i,rfl,h1,h2,rfl⟩
  have hle:=aeB _ h2
  rw [List.length_take] at hle
  simp only [yT]
  by_cases hi:i < l.length
  ·rw [bf (by omega),cond_true,dP hi,Option.bind_some]
   by_cases hx:LD l[i]=true
   ·left
    have hx':=hx
    simp only [LD,decide_eq_true_eq] at hx'
    have e0:∀ s,wo l[i] s l=some (.inr ()):=λs=>by
     unfold wo
     rw [aT (by omega),cond_false,aT (by omega),cond_false]
    obtain ⟨x,hxe⟩:∃ x:Nat,l[i]=x:=⟨l[i].toNat,by omega⟩
    have h9:=Oc (x:=x) (by omega)
    obtain ⟨y,s',q1,q2,q3,q4⟩:=ahG l ((i:Int),b++encI (l.take i)) 9 x (b++encI (l.take i)) (by omega) h9 (by simp;omega)
    have q1':=q1 KK (by decide)
    rw [e0,Option.bind_some,hxe]
    simp only [jO,cond_false,O_,q1',Option.bind_some]
    have q5:s'++[Af (y:Int)]=b++encI (l.take (i+1)):=by
     rw [Zh (by omega),q3,List.take_succ_eq_append_getElem hi,adg,hxe]
     simp
    rw [l5 (by simp at q4 ⊢;omega),q5]
    refine ⟨_,rfl,⟨i+1,by rw [bM (by omega) (by omega)];simp,by omega, ?_,rfl⟩,by rw [bM (by omega) (by omega)];omega⟩
    rw [List.take_succ_eq_append_getElem hi]
    intro y hy
    rcases List.mem_append.1 hy with hy | hy
    ·exact h2 y hy
    ·rw [List.mem_singleton.1 hy];exact hx
   ·right
    rw [if_neg (by simp [agr l hi (by simpa using hx)])]
    have e0:wo l[i] ((i:Int),b++encI (l.take i)) l=some (.inl ()):=by
     unfold wo
     simp only [LD,decide_eq_true_eq] at hx
     by_cases c:l[i] < 0
     ·rw [bf c,cond_true]
     ·rw [aT c,cond_false,bf (by omega),cond_true]
    rw [e0,Option.bind_some]
    exact ⟨_,rfl,rfl⟩
  ·right
   rw [aT (by omega),cond_false]
   rw [List.take_of_length_le (by omega)] at h2 ⊢
   rw [if_pos (List.all_eq_true.2 h2)]
   exact ⟨_,rfl,rfl⟩
 obtain ⟨e,e1,e2⟩:=key
 rw [e1,Option.bind_some,e2]
 unfold Q7
 split<;>rfl
theorem ajQ (c:UInt8):Ea c=some (decide (c.toNat < 128)):=by
 unfold Ea
 rw [alm]
def atI:Option Nat→Int
 | some i=>i
 | none=>-1
theorem ahH (b:List UInt8) (h:b.length < 1000000000000):iR b=some (atI (jw b)):=by
 unfold iR
 have key:∃ x,mg b 0=some x∧(match jw b with
   | some i=>x=.inl (i:Int)
   | none=>x=.inr ()):=by
  refine kX (λs:Int=>b.length - s.toNat) (λs=>∃ i:Nat,s=(i:Int)∧i≤b.length∧∀ j (h:j < i) (h':j < b.length),¬ (b[j]).toNat < 128) _ ?_ KK 0 ⟨0,rfl,by omega,λj h=>by omega⟩ (by have:=kr;simp;omega)
  rintro s ⟨i,rfl,h1,h2⟩
  simp only [gV]
  by_cases hi:i < b.length
  ·rw [bf (by omega),cond_true,dP hi,Option.bind_some,ajQ,Option.bind_some]
   by_cases hc:(b[i]).toNat < 128
   ·right
    refine ⟨.inl (i:Int),by rw [decide_eq_true hc,cond_true], ?_⟩
    rw [DJ b i h1 h2,List.drop_eq_getElem_cons hi,jw,if_pos hc]
    simp
   ·left
    rw [aT hc,cond_false,bM (by omega) (by omega)]
    refine ⟨_,rfl,⟨i+1,by omega,by omega,λj hj hj'=>?_⟩,by omega⟩
    rcases Nat.lt_or_ge j i with q | q
    ·exact h2 j q hj'
    ·have:j=i:=by omega
     subst this
     exact hc
  ·right
   refine ⟨.inr (),by rw [aT (by omega),cond_false], ?_⟩
   rw [DJ b i h1 h2,List.drop_of_length_le (by omega)]
   simp [jw]
 obtain ⟨x,e1,e2⟩:=key
 rw [e1,Option.bind_some]
 cases he:jw b with
 | some i =>
  rw [he] at e2
  simp only at e2
  subst e2
  rfl
 | none =>
  rw [he] at e2
  simp only at e2
  subst e2
  rfl
theorem afn (b:List UInt8) (i:Nat) (hi:i < b.length) (h9:i < 9):Fy b (i:Int) (0,(i:Int))=some ((valOf (b.take (i+1)):Nat):Int):=by
 have key:∃ x,Fy b (i:Int) (0,(i:Int))=some x∧x=((valOf (b.take (i+1)):Nat):Int):=by
  refine kX (λs:Int×Int=>(s.2+1).toNat) (λs=>∃ k:Nat,k≤i+1∧s.2=(k:Int) - 1∧s.1=((valOf ((b.take (i+1)).drop k):Nat):Int)) _ ?_ KK (0,(i:Int)) ⟨i+1,by omega,by simp,by rw [List.drop_of_length_le (by simp;omega)];simp [valOf]⟩ (by have:=kr;simp only;omega)
  rintro ⟨v,j⟩ ⟨k,h1,h2,h3⟩
  simp only at h2 h3
  subst h2 h3
  simp only [wD]
  cases k with
  | zero =>
   right
   exact ⟨_,by rw [aT (by omega),cond_false],by simp⟩
  | succ k =>
   left
   have hk:k < b.length:=by omega
   have e:((k+1:Nat):Int) - 1=(k:Int):=by omega
   rw [e,bf (by omega),cond_true,dP hk,Option.bind_some]
   have hl:((b.take (i+1)).drop (k+1)).length≤8:=by simp;omega
   have hv:=TW ((b.take (i+1)).drop (k+1))
   have hv8:valOf ((b.take (i+1)).drop (k+1)) < 72057594037927936:=Nat.lt_of_lt_of_le hv (by
    have:=Nat.pow_le_pow_right (n:=128) (by omega) hl
    simpa using this)
   have hd:(b.take (i+1)).drop k=b[k]::(b.take (i+1)).drop (k+1):=by
    rw [List.drop_eq_getElem_cons (by simp;omega)]
    simp
   refine ⟨_,rfl,⟨k,by omega, ?_, ?_⟩, ?_⟩
   ·simp only
    rw [bM (by omega) (by omega)]
   ·simp only
    rw [anw,bM (by omega) (by omega),avA _ _ hv8 (by omega),hd]
    rfl
   ·simp only
    rw [bM (by omega) (by omega)]
    omega
 obtain ⟨x,e1,e2⟩:=key
 rw [e1,e2]
theorem SQ (b:List UInt8) (h:b.length < 1000000000000):CV b=some (nE b):=by
 unfold CV nE
 rw [ahH b h,Option.bind_some]
 cases he:jw b with
 | none=>rfl
 | some i =>
  have hi:=Qi he
  show _=some (zB b i)
  unfold zB
  have ea:atI (some i)=(i:Int):=rfl
  rw [ea,aT (by omega),cond_false]
  have j0:BK (i:Int) b=some (if 9≤i∨(0 < i∧b[i]?=some 0) then .inl () else .inr ()):=by
   unfold BK
   by_cases h9:9≤i
   ·rw [bf (by omega),cond_true,if_pos (.inl h9)]
   ·rw [aT (by omega),cond_false]
    by_cases h0:0 < i
    ·rw [bf (by omega),cond_true,agp,List.getElem?_eq_getElem hi,Option.bind_some]
     by_cases hz:b[i]=0
     ·rw [if_pos (.inr ⟨h0,by rw [hz]⟩),hz]
      rfl
     ·rw [if_neg (by
       rintro (q | ⟨_,q⟩)
       ·omega
       ·exact hz (Option.some.inj q))]
      rw [uV (by
       intro e
       exact hz (UInt8.toNat_inj.1 (by simp;omega))),cond_false]
    ·rw [aT (by omega),cond_false,if_neg (by
      rintro (q | ⟨q,_⟩)<;>omega)]
  rw [j0,Option.bind_some]
  by_cases hc:9≤i∨(0 < i∧b[i]?=some 0)
  ·rw [if_pos hc,if_pos hc]
   rfl
  ·rw [if_neg hc,if_neg hc]
   simp only [jO,cond_false]
   have h9:i < 9:=by
    rcases Nat.lt_or_ge i 9 with q | q
    ·exact q
    ·exact absurd (.inl q) hc
   rw [afn b i hi h9,Option.bind_some]
   unfold Fz
   rw [aT (by omega),cond_false]
   by_cases hv:4611686018427387903 < valOf (b.take (i+1))
   ·rw [bf (by omega),cond_true,if_pos hv]
    rfl
   ·rw [aT (by omega),cond_false,if_neg hv,Option.bind_some]
    simp only [jO,cond_false]
    rw [bM (by omega) (by omega)]
    rfl
theorem ajR (b:List UInt8) (h:b.length < 1000000000000):FR b=some (Gb b):=by
 unfold FR Gb
 rw [SQ b h,Option.bind_some]
 have hle:=alk b
 generalize nE b=t at *
 obtain ⟨v,k,e⟩:=t
 simp only at hle ⊢
 by_cases he:e=0
 ·subst he
  simp only [bne_self_eq_false,cond_false,if_true]
  obtain ⟨n,rfl⟩:∃ n:Nat,k=n:=⟨k.toNat,by omega⟩
  rw [uh b n (by omega),Option.bind_some]
  unfold Eb
  rw [l5 (by simp;omega),Option.bind_some]
  simp
 ·rw [mD he,cond_true,if_neg he]
end Go.Proofs.YtohoggieaanllaaGreat
