import Derived.Test.YtohoggieaanllaaGreatC3
import Derived.Test.YtohoggieaanllaaGreatY6
set_option linter.all false
set_option linter.unusedSimpArgs false
namespace Go.Proofs.YtohoggieaanllaaGreat
theorem aqi (a:List UInt8):Op.bytesLess a []=false:=by cases a<;>rfl
theorem Pm:∀ a b c,Op.bytesLess a b=true→Op.bytesLess b c=true→Op.bytesLess a c=true
 | a,[],c=>λh=>by rw [aqi] at h;cases h
 | a,y::b,[]=>λ_ h=>by rw [aqi] at h;cases h
 | [],y::b,z::c=>λ_ _=>rfl
 | x::a,y::b,z::c=>by
  simp only [Op.bytesLess,Bool.or_eq_true,Bool.and_eq_true,decide_eq_true_eq,beq_iff_eq,UInt8.lt_iff_toNat_lt,← UInt8.toNat_inj]
  rintro (h | ⟨h,h'⟩) (g | ⟨g,g'⟩)
  ·left;omega
  ·left;omega
  ·left;omega
  ·right;exact ⟨by omega,Pm a b c h' g'⟩
theorem ag9:∀ a b,Op.bytesLess a b=false→a≠b→Op.bytesLess b a=true
 | [],[]=>λ_ h=>absurd rfl h
 | [],y::b=>λh=>by cases h
 | x::a,[]=>λ_ _=>rfl
 | x::a,y::b=>by
  intro h hn
  by_cases e:x=y
  ·subst e
   have:Op.bytesLess a b=false:=by
    simpa [Op.bytesLess] using h
   have:=ag9 a b this (λq=>hn (by rw [q]))
   simp [Op.bytesLess,this]
  ·have h1:¬ x < y:=by
    intro q
    simp [Op.bytesLess,q] at h
   have:y < x:=by
    rw [UInt8.lt_iff_toNat_lt] at *
    rw [← UInt8.toNat_inj] at e
    omega
   simp [Op.bytesLess,this]
theorem adj (p:au) (key:List UInt8):kH p key=some (if Op.bytesLess p.Key key then -1 else if p.Key=key then 0 else 1):=by
 unfold kH rV cmp_isNaN_string
 simp only [beq_self_eq_true,Bool.not_true,Option.bind_some,cond_false]
 cases h:Op.bytesLess p.Key key
 ·by_cases e:p.Key=key
  ·rw [if_neg (by simp),if_pos e];simp [e]
  ·rw [if_neg (by simp),if_neg e]
   have:(p.Key==key)=false:=by simpa using e
   simp [this]
 ·simp
def Sk (L:List au):Prop:=(L.map (·.Key)).Pairwise (λa b=>Op.bytesLess a b=true)
def place (L:List au) (key:List UInt8):Nat:=(L.takeWhile (λp=>Op.bytesLess p.Key key)).length
def Ch (L:List au) (key:List UInt8):Bool:=match L[place L key]? with
 | some p=>p.Key==key
 | none=>false
def pAt (L:List au) (key:List UInt8):au:=(L[place L key]?).getD ⟨[],[]⟩
theorem UD (L:List au) (key:List UInt8):place L key≤L.length:=(List.takeWhile_sublist _).length_le
theorem UE (key:List UInt8):∀ (L:List au) (k:Nat),k≤L.length→(∀ i (h:i < L.length),i < k→Op.bytesLess L[i].Key key=true)→(∀ h:k < L.length,Op.bytesLess L[k].Key key=false)→k=place L key
 | [],k=>λh _ _=>by simp [place] at *;exact h
 | p::L,0=>λh _ g=>by
  have:=g (by simp)
  simp at this
  simp [place,List.takeWhile_cons,this]
 | p::L,k+1=>λh f g=>by
  have h1:=f 0 (by simp) (by omega)
  have h2:=UE key L k (by simpa using h) (λi hi hk=>by have:=f (i+1) (by simpa using hi) (by omega);simpa using this) (λhk=>by have:=g (by simpa using hk);simpa using this)
  simp at h1
  simp [place,List.takeWhile_cons,h1] at *
  exact h2
theorem aha (key:List UInt8):∀ (L:List au) (i:Nat) (h:i < L.length),i < place L key→Op.bytesLess L[i].Key key=true
 | [],i=>λh=>by simp at h
 | p::L,i=>λh hp=>by
  cases e:Op.bytesLess p.Key key
  ·simp [place,List.takeWhile_cons,e] at hp
  ·cases i with
   | zero=>simpa using e
   | succ i =>
    simp [place,List.takeWhile_cons,e] at hp
    have:=aha key L i (by simpa using h) (by unfold place;omega)
    simpa using this
theorem aaC (key:List UInt8):∀ (L:List au) (h:place L key < L.length),Op.bytesLess L[place L key].Key key=false
 | []=>λh=>by simp at h
 | p::L=>λh=>by
  cases e:Op.bytesLess p.Key key
  ·have:place (p::L) key=0:=by simp [place,List.takeWhile_cons,e]
   simp only [this]
   simpa using e
  ·have q:place (p::L) key=place L key+1:=by simp [place,List.takeWhile_cons,e]
   simp only [q] at h ⊢
   have:=aaC key L (by simpa using h)
   simpa using this
theorem aaD (L:List au) (key:List UInt8) (h:place L key < L.length):Ch L key=(L[place L key].Key==key):=by
 unfold Ch
 rw [List.getElem?_eq_getElem h]
theorem ajr (L:List au) (key:List UInt8) (h:¬ place L key < L.length):Ch L key=false:=by
 unfold Ch
 rw [List.getElem?_eq_none (by omega)]
theorem sD {L:List au} {key:List UInt8} (h:Ch L key=true):place L key < L.length:=by
 by_cases c:place L key < L.length
 ·exact c
 ·rw [ajr L key c] at h;cases h
theorem V9 {L:List au} {key:List UInt8} (h:place L key < L.length):bO L (place L key:Int)=some (pAt L key):=by
 unfold pAt
 rw [dI h,List.getElem?_eq_getElem h]
 rfl
theorem aeP {L:List au} {key:List UInt8} (h:Ch L key=true):(pAt L key).Key=key:=by
 have c:=sD h
 rw [aaD L key c] at h
 unfold pAt
 rw [List.getElem?_eq_getElem c]
 simpa using h
theorem V_ {L:List au} (h:Sk L) {i j:Nat} (hj:j < L.length) (hi:i < j):Op.bytesLess (L[i]'(by omega)).Key L[j].Key=true:=by
 unfold Sk at h
 rw [List.pairwise_iff_getElem] at h
 have:=h i j (by simp;omega) (by simpa using hj) hi
 simpa using this
theorem ajs (L:List au) (key:List UInt8) (hs:Sk L) (hl:L.length≤1000):dH L key=some ((place L key:Int),Ch L key):=by
 have key1:∃ e,fH L key (((0:Nat):Int),(L.length:Int))=some e∧e=(place L key:Int):=by
  refine mW (λs=>(s.2 - s.1).toNat) (λs=>∃ i j:Nat,s=((i:Int),(j:Int))∧i≤j∧j≤L.length∧(∀ m (h:m < L.length),m < i→Op.bytesLess L[m].Key key=true)∧(∀ m (h:m < L.length),j≤m→Op.bytesLess L[m].Key key=false)) _ ?_ KK _ ⟨0,L.length,rfl,by omega,by omega,λ_ _ h=>by omega,λ_ _ h=>by omega⟩ (by have:=rO;simp only;omega)
  rintro s ⟨i,j,rfl,h1,h2,h3,h4⟩
  simp only [dw]
  by_cases c:i < j
  ·left
   have hm:IntKind.i64.wrap (aa6 .u64 (IntKind.u64.wrap (IntKind.i64.wrap ((i:Int)+(j:Int)))) 1)=(((i+j) / 2:Nat):Int):=by
    rw [bU (x:=(i:Int)+j) (by omega) (by omega),anh (by omega) (by omega)]
    have:aa6 .u64 ((i:Int)+(j:Int)) 1=(((i+j) / 2:Nat):Int):=by
     have e:aa6 .u64 ((i:Int)+(j:Int)) 1=((i:Int)+(j:Int)).fdiv 2:=rfl
     rw [e,Int.fdiv_eq_ediv_of_nonneg _ (by omega)]
     omega
    rw [this,bU (by omega) (by omega)]
   rw [hm]
   have hb:(i+j) / 2 < L.length:=by omega
   rw [aZ (by omega),cond_true,dI hb,Option.bind_some,adj,Option.bind_some]
   cases e:Op.bytesLess L[(i+j) / 2].Key key
   ·have c0:(if (false=true) then (-1:Int) else if L[(i+j) / 2].Key=key then 0 else 1)=(if L[(i+j) / 2].Key=key then 0 else 1):=by simp
    rw [c0,aV (by split<;>omega),cond_false]
    refine ⟨_,rfl,⟨i,(i+j) / 2,rfl,by omega,by omega,h3,λm hm2 hm3=>?_⟩,by simp only;omega⟩
    by_cases q:m=(i+j) / 2
    ·subst q;exact e
    ·have r:=V_ hs hm2 (show (i+j) / 2 < m by omega)
     cases z:Op.bytesLess L[m].Key key
     ·rfl
     ·rw [Pm _ _ _ r z] at e;cases e
   ·rw [if_pos rfl,aZ (by omega),cond_true,bU (x:=(((i+j) / 2:Nat):Int)+1) (by omega) (by omega),cO]
    refine ⟨_,rfl,⟨(i+j) / 2+1,j,rfl,by omega,h2,λm hm2 hm3=>?_,h4⟩,by simp only;omega⟩
    by_cases q:m=(i+j) / 2
    ·subst q;exact e
    ·exact Pm _ _ _ (V_ hs hb (show m < (i+j) / 2 by omega)) e
  ·right
   obtain rfl:i=j:=by omega
   rw [aV (by omega),cond_false]
   refine ⟨_,rfl, ?_⟩
   rw [← UE key L i h2 h3 (λh=>h4 i h (by omega))]
 obtain ⟨e,e1,rfl⟩:=key1
 unfold dH
 rw [show ((0:Int),(L.length:Int))=(((0:Nat):Int),(L.length:Int)) from rfl,e1,Option.bind_some]
 by_cases c:place L key < L.length
 ·rw [aZ (by omega),cond_true,dI c,Option.bind_some,adj,Option.bind_some,aaD L key c,aaC key L c]
  by_cases q:L[place L key].Key=key
  ·simp [q]
  ·have:(L[place L key].Key==key)=false:=by simpa using q
   simp [q]
 ·rw [aV (by omega),cond_false,ajr L key c]
theorem axv (L:List au) (key:List UInt8) (hl:L.length≤1000) (f:Int→Option (Int⊕((Int×Bool)⊕Unit)))
  (hf:∀ s3,f s3=cond (decide (s3 < (L.length:Int))) ((bO L s3).bind λ(x4:au)=>cond (!(Op.bytesLess x4.Key key)) ((bO L s3).bind λ(x5:au)=>some (.inr (.inl (s3,(x5.Key==key))))) (some (.inl (IntKind.i64.wrap (s3+1))))) (some (.inr (.inr ())))) :
  ∃ e,bT f KK 0=some e∧cond (jI e) (some ((CV e).1,(CV e).2)) (some ((L.length:Int),false))=some ((place L key:Int),Ch L key):=by
 refine mW (λs=>(L.length - s.toNat)) (λs=>∃ i:Nat,s=(i:Int)∧i≤L.length∧(∀ m (h:m < L.length),m < i→Op.bytesLess L[m].Key key=true)) _ ?_ KK _ ⟨0,rfl,by omega,λ_ _ h=>by omega⟩ (by have:=rO;omega)
 rintro s ⟨i,rfl,h1,h2⟩
 rw [hf]
 by_cases c:i < L.length
 ·rw [aZ (by omega),cond_true,dI c,Option.bind_some]
  cases e:Op.bytesLess L[i].Key key
  ·right
   refine ⟨_,rfl, ?_⟩
   have q:=UE key L i h1 h2 (λ_=>e)
   have w:=aaD L key (by rw [← q];exact c)
   simp only [jI,CV,cond_true]
   rw [w]
   subst q
   rfl
  ·left
   simp only [Bool.not_true,cond_false]
   rw [bU (by omega) (by omega),cO]
   refine ⟨_,rfl,⟨i+1,rfl,by omega,λm hm q=>?_⟩,by omega⟩
   by_cases z:m=i
   ·subst z;exact e
   ·exact h2 m hm (by omega)
 ·right
  rw [aV (by omega),cond_false]
  refine ⟨_,rfl, ?_⟩
  have q:=UE key L i h1 h2 (λh=>absurd h c)
  have w:=ajr L key (by rw [← q];exact c)
  simp only [jI,cond_false]
  rw [w,← q]
  congr 2
  omega
theorem aqj (L:List au) (key:List UInt8) (hl:L.length≤1000):oF key L=some ((place L key:Int),Ch L key):=by
 obtain ⟨e,e1,e2⟩:=axv L key hl (lq L key) (λ_=>rfl)
 unfold oF yX
 rw [e1,Option.bind_some,e2]
end Go.Proofs.YtohoggieaanllaaGreat
