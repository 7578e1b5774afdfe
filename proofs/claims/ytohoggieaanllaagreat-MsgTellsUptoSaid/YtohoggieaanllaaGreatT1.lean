import Derived.Test.YtohoggieaanllaaGreatC3
import Derived.Test.YtohoggieaanllaaGreatY7
set_option linter.all false
set_option linter.unusedSimpArgs false
namespace Go.Proofs.YtohoggieaanllaaGreat
theorem aqm (a:List UInt8):Op.bytesLess a []=false:=by cases a<;>rfl
theorem PV:∀ a b c,Op.bytesLess a b=true→Op.bytesLess b c=true→Op.bytesLess a c=true
 | a,[],c=>λh=>by rw [aqm] at h;cases h
 | a,y::b,[]=>λ_ h=>by rw [aqm] at h;cases h
 | [],y::b,z::c=>λ_ _=>rfl
 | x::a,y::b,z::c=>by
  simp only [Op.bytesLess,Bool.or_eq_true,Bool.and_eq_true,decide_eq_true_eq,beq_iff_eq,UInt8.lt_iff_toNat_lt,← UInt8.toNat_inj]
  rintro (h | ⟨h,h'⟩) (g | ⟨g,g'⟩)
  ·left;omega
  ·left;omega
  ·left;omega
  ·right;exact ⟨by omega,PV a b c h' g'⟩
theorem ahM:∀ a b,Op.bytesLess a b=false→a≠b→Op.bytesLess b a=true
 | [],[]=>λ_ h=>absurd rfl h
 | [],y::b=>λh=>by cases h
 | x::a,[]=>λ_ _=>rfl
 | x::a,y::b=>by
  intro h hn
  by_cases e:x=y
  ·subst e
   have:Op.bytesLess a b=false:=by
    simpa [Op.bytesLess] using h
   have:=ahM a b this (λq=>hn (by rw [q]))
   simp [Op.bytesLess,this]
  ·have h1:¬ x < y:=by
    intro q
    simp [Op.bytesLess,q] at h
   have:y < x:=by
    rw [UInt8.lt_iff_toNat_lt] at *
    rw [← UInt8.toNat_inj] at e
    omega
   simp [Op.bytesLess,this]
theorem adU (p:av) (key:List UInt8):lu p key=some (if Op.bytesLess p.Key key then -1 else if p.Key=key then 0 else 1):=by
 unfold lu tK cmp_isNaN_string
 simp only [beq_self_eq_true,Bool.not_true,Option.bind_some,cond_false]
 cases h:Op.bytesLess p.Key key
 ·by_cases e:p.Key=key
  ·rw [if_neg (by simp),if_pos e];simp [e]
  ·rw [if_neg (by simp),if_neg e]
   have:(p.Key==key)=false:=by simpa using e
   simp [this]
 ·simp
def SV (L:List av):Prop:=(L.map (·.Key)).Pairwise (λa b=>Op.bytesLess a b=true)
def place (L:List av) (key:List UInt8):Nat:=(L.takeWhile (λp=>Op.bytesLess p.Key key)).length
def CX (L:List av) (key:List UInt8):Bool:=match L[place L key]? with
 | some p=>p.Key==key
 | none=>false
def pAt (L:List av) (key:List UInt8):av:=(L[place L key]?).getD ⟨[],[]⟩
theorem Vg (L:List av) (key:List UInt8):place L key≤L.length:=(List.takeWhile_sublist _).length_le
theorem Vh (key:List UInt8):∀ (L:List av) (k:Nat),k≤L.length→(∀ i (h:i < L.length),i < k→Op.bytesLess L[i].Key key=true)→(∀ h:k < L.length,Op.bytesLess L[k].Key key=false)→k=place L key
 | [],k=>λh _ _=>by simp [place] at *;exact h
 | p::L,0=>λh _ g=>by
  have:=g (by simp)
  simp at this
  simp [place,List.takeWhile_cons,this]
 | p::L,k+1=>λh f g=>by
  have h1:=f 0 (by simp) (by omega)
  have h2:=Vh key L k (by simpa using h) (λi hi hk=>by have:=f (i+1) (by simpa using hi) (by omega);simpa using this) (λhk=>by have:=g (by simpa using hk);simpa using this)
  simp at h1
  simp [place,List.takeWhile_cons,h1] at *
  exact h2
theorem ahN (key:List UInt8):∀ (L:List av) (i:Nat) (h:i < L.length),i < place L key→Op.bytesLess L[i].Key key=true
 | [],i=>λh=>by simp at h
 | p::L,i=>λh hp=>by
  cases e:Op.bytesLess p.Key key
  ·simp [place,List.takeWhile_cons,e] at hp
  ·cases i with
   | zero=>simpa using e
   | succ i =>
    simp [place,List.takeWhile_cons,e] at hp
    have:=ahN key L i (by simpa using h) (by unfold place;omega)
    simpa using this
theorem abf (key:List UInt8):∀ (L:List av) (h:place L key < L.length),Op.bytesLess L[place L key].Key key=false
 | []=>λh=>by simp at h
 | p::L=>λh=>by
  cases e:Op.bytesLess p.Key key
  ·have:place (p::L) key=0:=by simp [place,List.takeWhile_cons,e]
   simp only [this]
   simpa using e
  ·have q:place (p::L) key=place L key+1:=by simp [place,List.takeWhile_cons,e]
   simp only [q] at h ⊢
   have:=abf key L (by simpa using h)
   simpa using this
theorem abg (L:List av) (key:List UInt8) (h:place L key < L.length):CX L key=(L[place L key].Key==key):=by
 unfold CX
 rw [List.getElem?_eq_getElem h]
theorem ajT (L:List av) (key:List UInt8) (h:¬ place L key < L.length):CX L key=false:=by
 unfold CX
 rw [List.getElem?_eq_none (by omega)]
theorem t_ {L:List av} {key:List UInt8} (h:CX L key=true):place L key < L.length:=by
 by_cases c:place L key < L.length
 ·exact c
 ·rw [ajT L key c] at h;cases h
theorem Xa {L:List av} {key:List UInt8} (h:place L key < L.length):bV L (place L key:Int)=some (pAt L key):=by
 unfold pAt
 rw [dP h,List.getElem?_eq_getElem h]
 rfl
theorem afq {L:List av} {key:List UInt8} (h:CX L key=true):(pAt L key).Key=key:=by
 have c:=t_ h
 rw [abg L key c] at h
 unfold pAt
 rw [List.getElem?_eq_getElem c]
 simpa using h
theorem Xb {L:List av} (h:SV L) {i j:Nat} (hj:j < L.length) (hi:i < j):Op.bytesLess (L[i]'(by omega)).Key L[j].Key=true:=by
 unfold SV at h
 rw [List.pairwise_iff_getElem] at h
 have:=h i j (by simp;omega) (by simpa using hj) hi
 simpa using this
theorem ajU (L:List av) (key:List UInt8) (hs:SV L) (hl:L.length≤1000):dQ L key=some ((place L key:Int),CX L key):=by
 have key1:∃ e,fU L key (((0:Nat):Int),(L.length:Int))=some e∧e=(place L key:Int):=by
  refine kX (λs=>(s.2 - s.1).toNat) (λs=>∃ i j:Nat,s=((i:Int),(j:Int))∧i≤j∧j≤L.length∧(∀ m (h:m < L.length),m < i→Op.bytesLess L[m].Key key=true)∧(∀ m (h:m < L.length),j≤m→Op.bytesLess L[m].Key key=false)) _ ?_ KK _ ⟨0,L.length,rfl,by omega,by omega,λ_ _ h=>by omega,λ_ _ h=>by omega⟩ (by have:=kr;simp only;omega)
  rintro s ⟨i,j,rfl,h1,h2,h3,h4⟩
  simp only [dG]
  by_cases c:i < j
  ·left
   have hm:IntKind.i64.wrap (abL .u64 (IntKind.u64.wrap (IntKind.i64.wrap ((i:Int)+(j:Int)))) 1)=(((i+j) / 2:Nat):Int):=by
    rw [bM (x:=(i:Int)+j) (by omega) (by omega),agm (by omega) (by omega)]
    have:abL .u64 ((i:Int)+(j:Int)) 1=(((i+j) / 2:Nat):Int):=by
     have e:abL .u64 ((i:Int)+(j:Int)) 1=((i:Int)+(j:Int)).fdiv 2:=rfl
     rw [e,Int.fdiv_eq_ediv_of_nonneg _ (by omega)]
     omega
    rw [this,bM (by omega) (by omega)]
   rw [hm]
   have hb:(i+j) / 2 < L.length:=by omega
   rw [bf (by omega),cond_true,dP hb,Option.bind_some,adU,Option.bind_some]
   cases e:Op.bytesLess L[(i+j) / 2].Key key
   ·have c0:(if (false=true) then (-1:Int) else if L[(i+j) / 2].Key=key then 0 else 1)=(if L[(i+j) / 2].Key=key then 0 else 1):=by simp
    rw [c0,aT (by split<;>omega),cond_false]
    refine ⟨_,rfl,⟨i,(i+j) / 2,rfl,by omega,by omega,h3,λm hm2 hm3=>?_⟩,by simp only;omega⟩
    by_cases q:m=(i+j) / 2
    ·subst q;exact e
    ·have r:=Xb hs hm2 (show (i+j) / 2 < m by omega)
     cases z:Op.bytesLess L[m].Key key
     ·rfl
     ·rw [PV _ _ _ r z] at e;cases e
   ·rw [if_pos rfl,bf (by omega),cond_true,bM (x:=(((i+j) / 2:Nat):Int)+1) (by omega) (by omega),dA]
    refine ⟨_,rfl,⟨(i+j) / 2+1,j,rfl,by omega,h2,λm hm2 hm3=>?_,h4⟩,by simp only;omega⟩
    by_cases q:m=(i+j) / 2
    ·subst q;exact e
    ·exact PV _ _ _ (Xb hs hb (show m < (i+j) / 2 by omega)) e
  ·right
   obtain rfl:i=j:=by omega
   rw [aT (by omega),cond_false]
   refine ⟨_,rfl, ?_⟩
   rw [← Vh key L i h2 h3 (λh=>h4 i h (by omega))]
 obtain ⟨e,e1,rfl⟩:=key1
 unfold dQ
 rw [show ((0:Int),(L.length:Int))=(((0:Nat):Int),(L.length:Int)) from rfl,e1,Option.bind_some]
 by_cases c:place L key < L.length
 ·rw [bf (by omega),cond_true,dP c,Option.bind_some,adU,Option.bind_some,abg L key c,abf key L c]
  by_cases q:L[place L key].Key=key
  ·simp [q]
  ·have:(L[place L key].Key==key)=false:=by simpa using q
   simp [q]
 ·rw [aT (by omega),cond_false,ajT L key c]
theorem axN (L:List av) (key:List UInt8) (hl:L.length≤1000) (f:Int→Option (Int⊕((Int×Bool)⊕Unit)))
  (hf:∀ s3,f s3=cond (decide (s3 < (L.length:Int))) ((bV L s3).bind λ(x4:av)=>cond (!(Op.bytesLess x4.Key key)) ((bV L s3).bind λ(x5:av)=>some (.inr (.inl (s3,(x5.Key==key))))) (some (.inl (IntKind.i64.wrap (s3+1))))) (some (.inr (.inr ())))) :
  ∃ e,bQ f KK 0=some e∧cond (jO e) (some ((zA e).1,(zA e).2)) (some ((L.length:Int),false))=some ((place L key:Int),CX L key):=by
 refine kX (λs=>(L.length - s.toNat)) (λs=>∃ i:Nat,s=(i:Int)∧i≤L.length∧(∀ m (h:m < L.length),m < i→Op.bytesLess L[m].Key key=true)) _ ?_ KK _ ⟨0,rfl,by omega,λ_ _ h=>by omega⟩ (by have:=kr;omega)
 rintro s ⟨i,rfl,h1,h2⟩
 rw [hf]
 by_cases c:i < L.length
 ·rw [bf (by omega),cond_true,dP c,Option.bind_some]
  cases e:Op.bytesLess L[i].Key key
  ·right
   refine ⟨_,rfl, ?_⟩
   have q:=Vh key L i h1 h2 (λ_=>e)
   have w:=abg L key (by rw [← q];exact c)
   simp only [jO,zA,cond_true]
   rw [w]
   subst q
   rfl
  ·left
   simp only [Bool.not_true,cond_false]
   rw [bM (by omega) (by omega),dA]
   refine ⟨_,rfl,⟨i+1,rfl,by omega,λm hm q=>?_⟩,by omega⟩
   by_cases z:m=i
   ·subst z;exact e
   ·exact h2 m hm (by omega)
 ·right
  rw [aT (by omega),cond_false]
  refine ⟨_,rfl, ?_⟩
  have q:=Vh key L i h1 h2 (λh=>absurd h c)
  have w:=ajT L key (by rw [← q];exact c)
  simp only [jO,cond_false]
  rw [w,← q]
  congr 2
  omega
theorem aqn (L:List av) (key:List UInt8) (hl:L.length≤1000):qm key L=some ((place L key:Int),CX L key):=by
 obtain ⟨e,e1,e2⟩:=axN L key hl (l6 L key) (λ_=>rfl)
 unfold qm zD
 rw [e1,Option.bind_some,e2]
end Go.Proofs.YtohoggieaanllaaGreat
