import Derived.Test.YtohoggieaanllaaGreatN1
import Derived.Test.YtohoggieaanllaaGreatK2
import Derived.Test.YtohoggieaanllaaGreatY7
set_option linter.all false
set_option linter.unusedSimpArgs false
namespace Go.Proofs.YtohoggieaanllaaGreat
theorem ame {x:Nat} (h:x < 9223372036854775808):Af (IntKind.i64.wrap (128+Int.tmod (x:Int) 128))=UInt8.ofNat (x % 128+128):=by
 rw [Int.tmod_eq_emod_of_nonneg (by omega),bM (by omega) (by omega)]
 have:(128:Int)+(x:Int) % 128=((x % 128+128:Nat):Int):=by omega
 rw [this,Zh (by omega)]
theorem amf {x:Nat} (h:x < 9223372036854775808):IntKind.i64.wrap (Int.tdiv (x:Int) 128)=((x / 128:Nat):Int):=by
 rw [Int.tdiv_eq_ediv_of_nonneg (by omega),bM (by omega) (by omega)]
 omega
theorem FU (x:Int):Gu x=some (LD x):=by
 unfold Gu LD
 by_cases h:0≤x
 ·rw [bf (by omega),cond_true]
  congr 1
  rw [decide_eq_decide]
  omega
 ·rw [aT (by omega),cond_false,aT (by omega)]
theorem ad6 (n:List Int) (s10:Int×List UInt8):∀ (k x:Nat) (s:List UInt8),x < 9223372036854775808→(Es x).length≤k→s.length+k < 1000000000000 →
  ∃ (y:Nat) (s':List UInt8),(∀ j,k≤j→bQ (lT n s10) j ((x:Int),s)=some ((y:Int),s'))∧y < 128∧s'++[UInt8.ofNat y]=s++Es x∧s'.length+1≤s.length+k
 | 0,x,s,_,h,_=>by have:=agq x;omega
 | k+1,x,s,hx,h,hs=>by
  by_cases c:x < 128
  ·refine ⟨x,s,λj hj=>?_,c,by rw [LC c],by omega⟩
   obtain ⟨j,rfl⟩:∃ i,j=i+1:=⟨j - 1,by omega⟩
   have e:lT n s10 ((x:Int),s)=some (.inr ((x:Int),s)):=by
    unfold lT
    rw [aT (by simp only;omega),cond_false]
   simp only [bQ,e]
  ·have hl:(Es (x / 128)).length≤k:=by rw [TV c] at h;simpa using h
   obtain ⟨y,s',h1,h2,h3,h4⟩:=ad6 n s10 k (x / 128) (s++[UInt8.ofNat (x % 128+128)]) (by omega) hl (by simp;omega)
   refine ⟨y,s',λj hj=>?_,h2,by rw [h3,adi x c],by simp at h4;omega⟩
   obtain ⟨j,rfl⟩:∃ i,j=i+1:=⟨j - 1,by omega⟩
   have e:lT n s10 ((x:Int),s)=some (.inl (((x / 128:Nat):Int),s++[UInt8.ofNat (x % 128+128)])):=by
    unfold lT
    rw [bf (by simp only;omega),cond_true]
    simp only [ame hx,amf hx]
    rw [l5 (by simp;omega)]
   simp only [bQ,e]
   exact h1 j (by omega)
theorem abB (b:List UInt8) (l:List Int) (h:b.length+10 * l.length < 1000000000):OW b l=some (Q7 b l):=by
 unfold OW
 rw [l5 (by omega)]
 have key:∃ e,OV l (0,b)=some e∧e=(if l.all LD then .inr (b++encI l) else .inl ()):=by
  refine kX (λ(s:Int×List UInt8)=>l.length - s.1.toNat) (λ(s:Int×List UInt8)=>∃ i:Nat,s.1=(i:Int)∧i≤l.length∧(∀ x∈l.take i,LD x=true)∧s.2=b++encI (l.take i)) _ ?_ KK (0,b) ⟨0,rfl,by omega,by simp,by simp [encI]⟩ (by have:=kr;simp only;omega)
  rintro ⟨j,s⟩ ⟨i,rfl,h1,h2,rfl⟩
  have hle:=aeB _ h2
  rw [List.length_take] at hle
  simp only [yP]
  by_cases hi:i < l.length
  ·rw [bf (by omega),cond_true,dP hi,Option.bind_some,FU,Option.bind_some]
   by_cases hx:LD l[i]=true
   ·left
    have hx':=hx
    simp only [LD,decide_eq_true_eq] at hx'
    obtain ⟨x,hxe⟩:∃ x:Nat,l[i]=x:=⟨l[i].toNat,by omega⟩
    have h9:=Oc (x:=x) (by omega)
    obtain ⟨y,s',q1,q2,q3,q4⟩:=ad6 l ((i:Int),b++encI (l.take i)) 9 x (b++encI (l.take i)) (by omega) h9 (by simp;omega)
    have q1':=q1 KK (by decide)
    rw [hx]
    simp only [Bool.not_true,cond_false,OU,hxe,q1',Option.bind_some]
    have q5:s'++[Af (y:Int)]=b++encI (l.take (i+1)):=by
     rw [Zh (by omega),q3,List.take_succ_eq_append_getElem hi,adg,hxe]
     simp
    rw [l5 (by simp at q4 ⊢;omega),q5]
    refine ⟨_,rfl,⟨i+1,by rw [bM (by omega) (by omega)];simp,by omega, ?_,rfl⟩,by rw [bM (by omega) (by omega)];omega⟩
    rw [List.take_succ_eq_append_getElem hi]
    intro y hy
    rcases List.mem_append.1 hy with hy | hy
    ·exact h2 y hy
    ·rw [List.mem_singleton.1 hy];exact hx
   ·right
    have hx':LD l[i]=false:=by simpa using hx
    rw [if_neg (by simp [agr l hi hx']),hx']
    exact ⟨_,rfl,rfl⟩
  ·right
   rw [aT (by omega),cond_false]
   rw [List.take_of_length_le (by omega)] at h2 ⊢
   rw [if_pos (List.all_eq_true.2 h2)]
   exact ⟨_,rfl,rfl⟩
 obtain ⟨e,e1,e2⟩:=key
 rw [e1,Option.bind_some,e2]
 unfold Q7
 split<;>rfl
theorem nS (b:List UInt8) (l:List Int) (h:b.length+10 * l.length < 1000000000):CJ b l=some (Q7 b l):=abB b l h
def RH (b:List UInt8) (i:Nat):Int:=match jw (b.drop i) with
 | some _=>2
 | none=>3
theorem aj7 (b:List UInt8) (i:Nat) (hi:i≤b.length) (h:b.length < 1000000000000):U7 b (i:Int)=some (RH b i):=by
 unfold U7
 have key:∃ x,SK b (i:Int)=some x∧(cond (jO x) (some 2) (some 3):Option Int)=some (RH b i):=by
  refine kX (λs:Int=>b.length - s.toNat) (λs=>∃ j:Nat,s=(j:Int)∧j≤b.length∧RH b i=RH b j) _ ?_ KK (i:Int) ⟨i,rfl,hi,rfl⟩ (by have:=kr;simp;omega)
  rintro s ⟨j,rfl,h1,h2⟩
  simp only [BP]
  by_cases hj:j < b.length
  ·have hd:b.drop j=b[j]::b.drop (j+1):=List.drop_eq_getElem_cons hj
   rw [bf (by omega),cond_true,dP hj,Option.bind_some]
   by_cases hc:(b[j]).toNat < 128
   ·right
    rw [bf (by omega),cond_true]
    refine ⟨_,rfl, ?_⟩
    rw [h2]
    unfold RH
    rw [hd,jw,if_pos hc]
    rfl
   ·left
    rw [aT (by omega),cond_false,bM (by omega) (by omega)]
    refine ⟨_,rfl,⟨j+1,by omega,by omega, ?_⟩,by omega⟩
    rw [h2]
    unfold RH
    rw [hd,jw,if_neg hc]
    cases jw (b.drop (j+1))<;>rfl
  ·right
   rw [aT (by omega),cond_false]
   refine ⟨_,rfl, ?_⟩
   rw [h2]
   unfold RH
   rw [List.drop_of_length_le (by omega),jw]
   rfl
 obtain ⟨x,e1,e2⟩:=key
 rw [e1,Option.bind_some,e2]
theorem Ml {b:List UInt8} {e:Int} (h:nE b=(0,0,e)) (he:e≠0):Gb b=(0,[],e):=by
 unfold Gb
 rw [h]
 simp [he]
theorem auD (b:List UInt8) (i:Nat) (hi:i≤b.length) (hs:∀ j (h:j < i) (h':j < b.length),¬ (b[j]).toNat < 128)
  (hb:∀ j,jw b=some j→9≤j∨4611686018427387903 < valOf (b.take (j+1))):Gb b=(0,[],RH b i):=by
 have e:=DJ b i hi hs
 unfold RH
 cases hd:jw (b.drop i) with
 | none =>
  rw [hd] at e
  refine Ml (e:=3) ?_ (by decide)
  unfold nE
  rw [e]
  rfl
 | some k =>
  rw [hd] at e
  refine Ml (e:=2) ?_ (by decide)
  have:=hb _ e
  unfold nE
  rw [e]
  show zB b (k+i)=(0,0,2)
  unfold zB
  split
  ·rfl
  ·rename_i q
   rcases this with w | w
   ·exact absurd (.inl w) q
   ·rw [if_pos w]
theorem akY {b:List UInt8} (h:8 < b.length):valOf (b.take 9)=valOf (b.take 8)+72057594037927936 * ((b[8]).toNat % 128)∧valOf (b.take 8) < 72057594037927936:=by
 have e:b.take 9=b.take 8++[b[8]]:=List.take_succ_eq_append_getElem h
 have hl:(b.take 8).length=8:=by rw [List.length_take];omega
 have:=TW (b.take 8)
 rw [hl] at this
 refine ⟨?_,this⟩
 rw [e,V3,hl]
 simp [valOf]
theorem amg (m i:Nat) (hm:m < 128) (hi:i≤8) (h8:i=8→m < 64):agf .i64 (m:Int) (IntKind.u64.wrap (IntKind.i64.wrap (7 * (i:Int))))=some ((m * 128 ^ i:Nat):Int):=by
 rw [bM (by omega) (by omega),agm (by omega) (by omega)]
 unfold agf
 rw [if_neg (by omega)]
 have e1:min (7 * (i:Int)).toNat (IntKind.bits .i64)=7 * i:=by
  show min (7 * (i:Int)).toNat 64=7 * i
  omega
 have e2:(m:Int) * 2 ^ (7 * i)=((m * 128 ^ i:Nat):Int):=by
  rw [Int.pow_mul]
  norm_cast
 have e3:m * 128 ^ i < 9223372036854775808:=by
  rcases Nat.lt_or_ge i 8 with q | q
  ·have:=Nat.pow_le_pow_right (n:=128) (by omega) (show i≤7 by omega)
   have h2:=Nat.mul_le_mul (show m≤127 by omega) this
   exact Nat.lt_of_le_of_lt h2 (by decide)
  ·obtain rfl:i=8:=by omega
   have:=h8 rfl
   rw [show (128:Nat) ^ 8=72057594037927936 from by decide]
   omega
 rw [e1,e2,bM (by omega) (by omega)]
theorem X0 (b:List UInt8) (h:b.length < 1000000000):Qm b=some (Gb b):=by
 unfold Qm
 have key:∃ x,SN b (0,0)=some x∧(cond (jO x) (some ((zA x).1,(zA x).2.2,(zA x).2.1)) (some (0,[],3)))=some (Gb b):=by
  refine kX (λ(s:Int×Int)=>b.length - s.2.toNat) (λ(s:Int×Int)=>∃ i:Nat,s.2=(i:Int)∧i≤b.length∧i≤9∧(∀ j (h:j < i) (h':j < b.length),¬ (b[j]).toNat < 128)∧s.1=((valOf (b.take i):Nat):Int)) _ ?_ KK (0,0) ⟨0,rfl,by omega,by omega,λj h=>by omega,by simp [valOf]⟩ (by have:=kr;simp only;omega)
  rintro ⟨v,i'⟩ ⟨i,rfl,h1,h9,hs,rfl⟩
  simp only [BQ]
  by_cases hi:i < b.length
  case neg =>
   right
   rw [aT (by omega),cond_false]
   refine ⟨_,rfl, ?_⟩
   have:i=b.length:=by omega
   subst this
   have en:jw b=none:=by
    rw [DJ b _ (Nat.le_refl _) hs,List.drop_length]
    rfl
   rw [Ml (e:=3) (by unfold nE;rw [en]) (by decide)]
   rfl
  rw [bf (by omega),cond_true,dP hi,Option.bind_some]
  generalize hc:b[i]=c
  have hc2:=c.toNat_lt
  have w0:IntKind.i64.wrap (c.toNat:Int)=(c.toNat:Int):=bM (by omega) (by omega)
  have m0:Int.tmod (c.toNat:Int) 128=((c.toNat % 128:Nat):Int):=by rw [Int.tmod_eq_emod_of_nonneg (by omega)];omega
  have hd:b.drop i=c::b.drop (i+1):=by rw [List.drop_eq_getElem_cons hi,hc]
  by_cases late:i=9∨(i=8∧64≤c.toNat % 128)
  ·right
   have j0:zP (((valOf (b.take i):Nat):Int),(i:Int)) c b=some true:=by
    unfold zP
    simp only [w0,m0]
    rcases late with q | ⟨q,q2⟩
    ·rw [xS (by omega),cond_true]
    ·rw [uV (by omega),cond_false,xS (by omega),cond_true,bf (by omega)]
   have j1:zQ (((valOf (b.take i):Nat):Int),(i:Int)) c b=some (.inl (RH b i)):=by
    unfold zQ
    rw [j0,Option.bind_some,cond_true]
    simp only
    rw [aj7 b i (by omega) (by omega),Option.bind_some]
   rw [j1,Option.bind_some]
   refine ⟨_,rfl, ?_⟩
   simp only [jO,zA,cond_true]
   rw [auD b i (by omega) hs λj hj=>?_]
   rcases Nat.lt_or_ge j 9 with q | q
   ·right
    have hji:i≤j:=by
     rcases Nat.lt_or_ge j i with w | w
     ·obtain ⟨_,u1,u2⟩:=Xy hj
      exact absurd u2 (hs j w u1)
     ·exact w
    rcases late with w | ⟨w,w2⟩
    ·omega
    ·subst w
     obtain rfl:j=8:=by omega
     have:=akY hi
     rw [hc] at this
     show 4611686018427387903 < valOf (b.take 9)
     omega
   ·exact .inl q
  ·have hi8:i≤8:=by omega
   have h64:i=8→c.toNat % 128 < 64:=by omega
   have j0:zP (((valOf (b.take i):Nat):Int),(i:Int)) c b=some false:=by
    unfold zP
    simp only [w0,m0]
    rw [uV (by omega),cond_false]
    by_cases q:i=8
    ·rw [xS (by omega),cond_true,aT (by omega)]
    ·rw [uV (by omega),cond_false]
   have j1:zQ (((valOf (b.take i):Nat):Int),(i:Int)) c b=some (.inr ()):=by
    unfold zQ
    rw [j0,Option.bind_some,cond_false]
   rw [j1,Option.bind_some]
   simp only [jO,cond_false,w0,m0]
   rw [amg _ i (by omega) hi8 h64,Option.bind_some]
   have tk:b.take (i+1)=b.take i++[c]:=by rw [List.take_succ_eq_append_getElem hi,hc]
   have hl:(b.take i).length=i:=by rw [List.length_take];omega
   have ev:valOf (b.take (i+1))=valOf (b.take i)+c.toNat % 128 * 128 ^ i:=by
    rw [tk,V3,hl]
    simp [valOf,Nat.mul_comm]
   have hv:valOf (b.take (i+1))≤4611686018427387903:=by
    rcases Nat.lt_or_ge i 8 with q | q
    ·have a1:=TW (b.take (i+1))
     have a2:(b.take (i+1)).length≤8:=by rw [List.length_take];omega
     have a3:=Nat.pow_le_pow_right (n:=128) (by omega) a2
     have a4:(128:Nat) ^ 8=72057594037927936:=by decide
     omega
    ·obtain rfl:i=8:=by omega
     have:=akY hi
     rw [hc] at this
     show valOf (b.take 9)≤_
     omega
   have ew:IntKind.i64.wrap (((valOf (b.take i):Nat):Int)+((c.toNat % 128 * 128 ^ i:Nat):Int))=((valOf (b.take (i+1)):Nat):Int):=by
    rw [ev] at hv ⊢
    rw [bM (by omega) (by omega)]
    omega
   rw [ew]
   by_cases hc8:c.toNat < 128
   ·right
    have en:jw b=some i:=by
     rw [DJ b i h1 hs,hd,jw,if_pos hc8]
     simp
    rw [aT (by omega),cond_false]
    have ei:b[i]?=some c:=by rw [List.getElem?_eq_getElem hi,hc]
    by_cases z:c=0∧0 < i
    ·have j2:zS c (((valOf (b.take i):Nat):Int),(i:Int)) b ((c.toNat % 128 * 128 ^ i:Nat):Int)=some (.inl ()):=by
      unfold zS
      simp only [w0]
      rw [xS (by rw [z.1];rfl),cond_true,bf (by omega),cond_true]
     rw [j2,Option.bind_some]
     refine ⟨_,rfl, ?_⟩
     rw [Ml (e:=2) (by
      unfold nE
      rw [en]
      show zB b i=_
      unfold zB
      rw [if_pos (.inr ⟨z.2,by rw [ei,z.1]⟩)]) (by decide)]
     rfl
    ·have j2:zS c (((valOf (b.take i):Nat):Int),(i:Int)) b ((c.toNat % 128 * 128 ^ i:Nat):Int)=some (.inr ()):=by
      unfold zS
      simp only [w0]
      by_cases q:c=0
      ·rw [xS (by rw [q];rfl),cond_true,aT (by
        intro w
        exact z ⟨q,by omega⟩),cond_false]
      ·rw [uV (λw=>q (UInt8.toNat_inj.1 (by simp;omega))),cond_false]
     rw [j2,Option.bind_some]
     simp only [jO,cond_false]
     rw [bM (by omega) (by omega),dA,uh b (i+1) (by omega),Option.bind_some,l5 (by simp;omega)]
     refine ⟨_,rfl, ?_⟩
     simp only [jO,zA,cond_true]
     have:nE b=(((valOf (b.take (i+1)):Nat):Int),((i+1:Nat):Int),0):=by
      unfold nE
      rw [en]
      show zB b i=_
      unfold zB
      rw [if_neg (by
       rintro (q | ⟨q1,q2⟩)
       ·omega
       ·rw [ei] at q2
        exact z ⟨Option.some.inj q2,q1⟩),if_neg (by omega)]
     unfold Gb
     rw [this]
     simp
   ·left
    rw [bf (by omega),cond_true,bM (by omega) (by omega)]
    refine ⟨_,rfl,⟨i+1,by omega,by omega,by omega,λj hj hj'=>?_,rfl⟩,by simp only;omega⟩
    rcases Nat.lt_or_ge j i with q | q
    ·exact hs j q hj'
    ·obtain rfl:j=i:=by omega
     rw [hc]
     exact hc8
 obtain ⟨x,e1,e2⟩:=key
 rw [e1,Option.bind_some,e2]
theorem P8 (b:List UInt8) (l:List (List UInt8)) (h:b.length+(l.flatMap eT).length < 900000000) (hl:l.length < 1000000000):LU b l=some (b++l.flatMap eT):=by
 unfold LU Sq
 rw [l5 (by omega)]
 have key:bQ (tH l) KK (0,b)=some (b++l.flatMap eT):=by
  have e0:((0:Int),b)=(((0:Nat):Int),b++(l.take 0).flatMap eT):=by simp
  rw [e0]
  refine ng (λi=>((i:Int),b++(l.take i).flatMap eT)) l.length _ (λi hi=>?_) ?_ (by omega)
  ·have h5:(l.take (i+1)).flatMap eT=(l.take i).flatMap eT++eT l[i]:=by
    rw [List.take_succ_eq_append_getElem hi,List.flatMap_append]
    simp
   have h6:=ahJ l (i+1)
   rw [h5,List.length_append] at h6
   have h7:(eT l[i]).length=(Es l[i].length).length+l[i].length:=by unfold eT;rw [List.length_append]
   unfold tH
   simp only
   rw [bf (by omega),cond_true,dP hi,Option.bind_some,abB _ _ (by simp only [List.length_append,List.length_singleton];omega),Option.bind_some,Option.bind_some,adh _ (by omega),
    l5 (by simp only [List.length_append];omega),bM (by omega) (by omega),dA,h5]
   unfold eT
   simp only [List.append_assoc]
  ·unfold tH
   simp only
   rw [aT (by omega),cond_false,List.take_length]
 rw [key]
 rfl
end Go.Proofs.YtohoggieaanllaaGreat
