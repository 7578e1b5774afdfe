import Derived.Test.YtohoggieaanllaaGreatC3
import Derived.Test.YtohoggieaanllaaGreatY5
set_option linter.all false
set_option linter.unusedSimpArgs false
namespace Go.Proofs.YtohoggieaanllaaGreat
theorem ahE (a:List UInt8):Op.bytesLess a []=false:=by cases a<;>rfl
theorem JA:∀ a b c,Op.bytesLess a b=true→Op.bytesLess b c=true→Op.bytesLess a c=true
 | a,[],c=>λh=>by rw [ahE] at h;cases h
 | a,y::b,[]=>λ_ h=>by rw [ahE] at h;cases h
 | [],y::b,z::c=>λ_ _=>rfl
 | x::a,y::b,z::c=>by
  simp only [Op.bytesLess,Bool.or_eq_true,Bool.and_eq_true,decide_eq_true_eq,beq_iff_eq,UInt8.lt_iff_toNat_lt,← UInt8.toNat_inj]
  rintro (h | ⟨h,h'⟩) (g | ⟨g,g'⟩)
  ·left;omega
  ·left;omega
  ·left;omega
  ·right;exact ⟨by omega,JA a b c h' g'⟩
theorem ZL:∀ a b,Op.bytesLess a b=false→a≠b→Op.bytesLess b a=true
 | [],[]=>λ_ h=>absurd rfl h
 | [],y::b=>λh=>by cases h
 | x::a,[]=>λ_ _=>rfl
 | x::a,y::b=>by
  intro h hn
  by_cases e:x=y
  ·subst e
   have:Op.bytesLess a b=false:=by
    simpa [Op.bytesLess] using h
   have:=ZL a b this (λq=>hn (by rw [q]))
   simp [Op.bytesLess,this]
  ·have h1:¬ x < y:=by
    intro q
    simp [Op.bytesLess,q] at h
   have:y < x:=by
    rw [UInt8.lt_iff_toNat_lt] at *
    rw [← UInt8.toNat_inj] at e
    omega
   simp [Op.bytesLess,this]
theorem V9 (p:au) (key:List UInt8):jr p key=some (if Op.bytesLess p.Key key then -1 else if p.Key=key then 0 else 1):=by
 unfold jr oJ cmp_isNaN_string
 simp only [beq_self_eq_true,Bool.not_true,Option.bind_some,cond_false]
 cases h:Op.bytesLess p.Key key
 ·by_cases e:p.Key=key
  ·rw [if_neg (by simp),if_pos e];simp [e]
  ·rw [if_neg (by simp),if_neg e]
   have:(p.Key==key)=false:=by simpa using e
   simp [this]
 ·simp
def LX (L:List au):Prop:=(L.map (·.Key)).Pairwise (λa b=>Op.bytesLess a b=true)
def place (L:List au) (key:List UInt8):Nat:=(L.takeWhile (λp=>Op.bytesLess p.Key key)).length
def yJ (L:List au) (key:List UInt8):Bool:=match L[place L key]? with
 | some p=>p.Key==key
 | none=>false
def Z7 (L:List au) (key:List UInt8):au:=(L[place L key]?).getD ⟨[],[]⟩
theorem NC (L:List au) (key:List UInt8):place L key≤L.length:=(List.takeWhile_sublist _).length_le
theorem ND (key:List UInt8):∀ (L:List au) (k:Nat),k≤L.length→(∀ i (h:i < L.length),i < k→Op.bytesLess L[i].Key key=true)→(∀ h:k < L.length,Op.bytesLess L[k].Key key=false)→k=place L key
 | [],k=>λh _ _=>by simp [place] at *;exact h
 | p::L,0=>λh _ g=>by
  have:=g (by simp)
  simp at this
  simp [place,List.takeWhile_cons,this]
 | p::L,k+1=>λh f g=>by
  have h1:=f 0 (by simp) (by omega)
  have h2:=ND key L k (by simpa using h) (λi hi hk=>by have:=f (i+1) (by simpa using hi) (by omega);simpa using this) (λhk=>by have:=g (by simpa using hk);simpa using this)
  simp at h1
  simp [place,List.takeWhile_cons,h1] at *
  exact h2
theorem ZM (key:List UInt8):∀ (L:List au) (i:Nat) (h:i < L.length),i < place L key→Op.bytesLess L[i].Key key=true
 | [],i=>λh=>by simp at h
 | p::L,i=>λh hp=>by
  cases e:Op.bytesLess p.Key key
  ·simp [place,List.takeWhile_cons,e] at hp
  ·cases i with
   | zero=>simpa using e
   | succ i =>
    simp [place,List.takeWhile_cons,e] at hp
    have:=ZM key L i (by simpa using h) (by unfold place;omega)
    simpa using this
theorem TM (key:List UInt8):∀ (L:List au) (h:place L key < L.length),Op.bytesLess L[place L key].Key key=false
 | []=>λh=>by simp at h
 | p::L=>λh=>by
  cases e:Op.bytesLess p.Key key
  ·have:place (p::L) key=0:=by simp [place,List.takeWhile_cons,e]
   simp only [this]
   simpa using e
  ·have q:place (p::L) key=place L key+1:=by simp [place,List.takeWhile_cons,e]
   simp only [q] at h ⊢
   have:=TM key L (by simpa using h)
   simpa using this
theorem TN (L:List au) (key:List UInt8) (h:place L key < L.length):yJ L key=(L[place L key].Key==key):=by
 unfold yJ
 rw [List.getElem?_eq_getElem h]
theorem abG (L:List au) (key:List UInt8) (h:¬ place L key < L.length):yJ L key=false:=by
 unfold yJ
 rw [List.getElem?_eq_none (by omega)]
theorem oW {L:List au} {key:List UInt8} (h:yJ L key=true):place L key < L.length:=by
 by_cases c:place L key < L.length
 ·exact c
 ·rw [abG L key c] at h;cases h
theorem O5 {L:List au} {key:List UInt8} (h:place L key < L.length):bW L (place L key:Int)=some (Z7 L key):=by
 unfold Z7
 rw [fA h,List.getElem?_eq_getElem h]
 rfl
theorem XH {L:List au} {key:List UInt8} (h:yJ L key=true):(Z7 L key).Key=key:=by
 have c:=oW h
 rw [TN L key c] at h
 unfold Z7
 rw [List.getElem?_eq_getElem c]
 simpa using h
theorem O6 {L:List au} (h:LX L) {i j:Nat} (hj:j < L.length) (hi:i < j):Op.bytesLess (L[i]'(by omega)).Key L[j].Key=true:=by
 unfold LX at h
 rw [List.pairwise_iff_getElem] at h
 have:=h i j (by simp;omega) (by simpa using hj) hi
 simpa using this
theorem abH (L:List au) (key:List UInt8) (hs:LX L) (hl:L.length≤1000):b_ L key=some ((place L key:Int),yJ L key):=by
 have key1:∃ e,eZ L key (((0:Nat):Int),(L.length:Int))=some e∧e=(place L key:Int):=by
  refine pO (λs=>(s.2 - s.1).toNat) (λs=>∃ i j:Nat,s=((i:Int),(j:Int))∧i≤j∧j≤L.length∧(∀ m (h:m < L.length),m < i→Op.bytesLess L[m].Key key=true)∧(∀ m (h:m < L.length),j≤m→Op.bytesLess L[m].Key key=false)) _ ?_ KK _ ⟨0,L.length,rfl,by omega,by omega,λ_ _ h=>by omega,λ_ _ h=>by omega⟩ (by have:=FI;simp only;omega)
  rintro s ⟨i,j,rfl,h1,h2,h3,h4⟩
  simp only [bT]
  by_cases c:i < j
  ·left
   have hm:IntKind.i64.wrap (Uf .u64 (IntKind.u64.wrap (IntKind.i64.wrap ((i:Int)+(j:Int)))) 1)=(((i+j) / 2:Nat):Int):=by
    rw [fG (x:=(i:Int)+j) (by omega) (by omega),ae4 (by omega) (by omega)]
    have:Uf .u64 ((i:Int)+(j:Int)) 1=(((i+j) / 2:Nat):Int):=by
     have e:Uf .u64 ((i:Int)+(j:Int)) 1=((i:Int)+(j:Int)).fdiv 2:=rfl
     rw [e,Int.fdiv_eq_ediv_of_nonneg _ (by omega)]
     omega
    rw [this,fG (by omega) (by omega)]
   rw [hm]
   have hb:(i+j) / 2 < L.length:=by omega
   rw [bI (by omega),cond_true,fA hb,Option.bind_some,V9,Option.bind_some]
   cases e:Op.bytesLess L[(i+j) / 2].Key key
   ·have c0:(if (false=true) then (-1:Int) else if L[(i+j) / 2].Key=key then 0 else 1)=(if L[(i+j) / 2].Key=key then 0 else 1):=by simp
    rw [c0,aZ (by split<;>omega),cond_false]
    refine ⟨_,rfl,⟨i,(i+j) / 2,rfl,by omega,by omega,h3,λm hm2 hm3=>?_⟩,by simp only;omega⟩
    by_cases q:m=(i+j) / 2
    ·subst q;exact e
    ·have r:=O6 hs hm2 (show (i+j) / 2 < m by omega)
     cases z:Op.bytesLess L[m].Key key
     ·rfl
     ·rw [JA _ _ _ r z] at e;cases e
   ·rw [if_pos rfl,bI (by omega),cond_true,fG (x:=(((i+j) / 2:Nat):Int)+1) (by omega) (by omega),fE]
    refine ⟨_,rfl,⟨(i+j) / 2+1,j,rfl,by omega,h2,λm hm2 hm3=>?_,h4⟩,by simp only;omega⟩
    by_cases q:m=(i+j) / 2
    ·subst q;exact e
    ·exact JA _ _ _ (O6 hs hb (show m < (i+j) / 2 by omega)) e
  ·right
   obtain rfl:i=j:=by omega
   rw [aZ (by omega),cond_false]
   refine ⟨_,rfl, ?_⟩
   rw [← ND key L i h2 h3 (λh=>h4 i h (by omega))]
 obtain ⟨e,e1,rfl⟩:=key1
 unfold b_
 rw [show ((0:Int),(L.length:Int))=(((0:Nat):Int),(L.length:Int)) from rfl,e1,Option.bind_some]
 by_cases c:place L key < L.length
 ·rw [bI (by omega),cond_true,fA c,Option.bind_some,V9,Option.bind_some,TN L key c,TM key L c]
  by_cases q:L[place L key].Key=key
  ·simp [q]
  ·have:(L[place L key].Key==key)=false:=by simpa using q
   simp [q]
 ·rw [aZ (by omega),cond_false,abG L key c]
theorem anf (L:List au) (key:List UInt8) (hl:L.length≤1000) (f:Int→Option (Int⊕((Int×Bool)⊕Unit)))
  (hf:∀ s3,f s3=cond (decide (s3 < (L.length:Int))) ((bW L s3).bind λ(x4:au)=>cond (!(Op.bytesLess x4.Key key)) ((bW L s3).bind λ(x5:au)=>some (.inr (.inl (s3,(x5.Key==key))))) (some (.inl (IntKind.i64.wrap (s3+1))))) (some (.inr (.inr ())))) :
  ∃ e,eG f KK 0=some e∧cond (mW e) (some ((Bg e).1,(Bg e).2)) (some ((L.length:Int),false))=some ((place L key:Int),yJ L key):=by
 refine pO (λs=>(L.length - s.toNat)) (λs=>∃ i:Nat,s=(i:Int)∧i≤L.length∧(∀ m (h:m < L.length),m < i→Op.bytesLess L[m].Key key=true)) _ ?_ KK _ ⟨0,rfl,by omega,λ_ _ h=>by omega⟩ (by have:=FI;omega)
 rintro s ⟨i,rfl,h1,h2⟩
 rw [hf]
 by_cases c:i < L.length
 ·rw [bI (by omega),cond_true,fA c,Option.bind_some]
  cases e:Op.bytesLess L[i].Key key
  ·right
   refine ⟨_,rfl, ?_⟩
   have q:=ND key L i h1 h2 (λ_=>e)
   have w:=TN L key (by rw [← q];exact c)
   simp only [mW,Bg,cond_true]
   rw [w]
   subst q
   rfl
  ·left
   simp only [Bool.not_true,cond_false]
   rw [fG (by omega) (by omega),fE]
   refine ⟨_,rfl,⟨i+1,rfl,by omega,λm hm q=>?_⟩,by omega⟩
   by_cases z:m=i
   ·subst z;exact e
   ·exact h2 m hm (by omega)
 ·right
  rw [aZ (by omega),cond_false]
  refine ⟨_,rfl, ?_⟩
  have q:=ND key L i h1 h2 (λh=>absurd h c)
  have w:=abG L key (by rw [← q];exact c)
  simp only [mW,cond_false]
  rw [w,← q]
  congr 2
  omega
theorem ahF (L:List au) (key:List UInt8) (hl:L.length≤1000):lZ key L=some ((place L key:Int),yJ L key):=by
 obtain ⟨e,e1,e2⟩:=anf L key hl (jL L key) (λ_=>rfl)
 unfold lZ u7
 rw [e1,Option.bind_some,e2]
end Go.Proofs.YtohoggieaanllaaGreat
