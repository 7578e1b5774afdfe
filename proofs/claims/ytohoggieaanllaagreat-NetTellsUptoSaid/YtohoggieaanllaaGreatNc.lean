import Derived.Test.YtohoggieaanllaaGreatH1
import Derived.Test.YtohoggieaanllaaGreatJ6
set_option linter.all false
set_option maxRecDepth 100000
namespace Go.Proofs.YtohoggieaanllaaGreat
theorem adS(n:Int):∃v,Ol n=some v:=by
 obtain⟨k,hk,h⟩:=Gn n 16 (by omega) (by omega)
 unfold Ol
 rw[show(16:Int)=((16:Nat):Int)from rfl,hk,ak,dU (by simpa using h),ak]
 exact⟨_,rfl⟩
theorem ayl(a b c d:Int):∃o,ada a b c d=some o:=by
 obtain⟨x1,h1⟩:=eZ a 4 (by omega) (by omega)
 obtain⟨x2,h2⟩:=adS b
 obtain⟨x4,h4⟩:=OG c
 obtain⟨x6,h6⟩:=OG d
 have k4:((4:Nat):Int)=4:=rfl
 rw[k4]at h1
 unfold ada
 rw[h1,ak,h2,ak]
 unfold QT QS
 rw[h4,h6]
 simp only[ak]
 cases (IntKind.i64.wrap (1+x1)==2)<;>cases q:(IntKind.i64.wrap (1+x1)==4)<;>simp[q]
theorem Te(s:List UInt8)(n:Nat):∃v,KI s (n:Int)=some v:=by
 unfold KI
 by_cases c:n<s.length
 ·rw[bO (by omega),cond_true,acy s n (by omega)];exact⟨_,rfl⟩
 ·rw[bD (by omega)];exact⟨_,rfl⟩
theorem ake(x:eX):∃r,Ll x=some r:=by
 obtain⟨x1,h1⟩:=eZ x.Client 4 (by omega) (by omega)
 obtain⟨x2,h2⟩:=eZ x.Seq 9 (by omega) (by omega)
 obtain⟨x3,h3⟩:=ayl x.Kind x.Key x.Value x.Old
 obtain⟨x4,h4⟩:=eZ x.vQ 16 (by omega) (by omega)
 obtain⟨x5,h5⟩:=Te x.Text 12
 obtain⟨x6,h6⟩:=Te x.Text 20
 obtain⟨x7,h7⟩:=eZ (IntKind.i64.wrap (Int.tdiv x.vQ 16)) 8 (by omega) (by omega)
 obtain⟨x8,h8⟩:=eZ (IntKind.i64.wrap (Int.tdiv x.vQ 16)) 9 (by omega) (by omega)
 obtain⟨x9,h9⟩:=JO (IntKind.i64.wrap (Int.tdiv x.vQ 16))
 have k4:((4:Nat):Int)=4:=rfl
 have k8:((8:Nat):Int)=8:=rfl
 have k9:((9:Nat):Int)=9:=rfl
 have k12:((12:Nat):Int)=12:=rfl
 have k16:((16:Nat):Int)=16:=rfl
 have k20:((20:Nat):Int)=20:=rfl
 rw[k4]at h1;rw[k9]at h2 h8;rw[k16]at h4;rw[k12]at h5;rw[k20]at h6;rw[k8]at h7
 unfold Ll
 rw[h1,ak,h2,ak,h3,ak,h4,ak,h5,h6,h7,h8,h9]
 cases (x4==10)<;>cases (x4==11)<;>cases (x4==12)<;>cases (x4==13)<;>cases (x4==14)<;>cases (x4==15)<;>exact⟨_,rfl⟩
theorem atT(a:List UInt8):Op.bytesLess a []=false:=by cases a<;>rfl
theorem Sn:∀a b c,Op.bytesLess a b=true→Op.bytesLess b c=true→Op.bytesLess a c=true
 | a,[],c=>λh=>by rw[atT]at h;cases h
 | a,y::b,[]=>λ_ h=>by rw[atT]at h;cases h
 | [],y::b,z::c=>λ_ _=>rfl
 | x::a,y::b,z::c=>by
  simp only[Op.bytesLess,Bool.or_eq_true,Bool.and_eq_true,decide_eq_true_eq,beq_iff_eq,UInt8.lt_iff_toNat_lt,←UInt8.toNat_inj]
  rintro(h |⟨h,h'⟩) (g |⟨g,g'⟩)
  ·left;omega
  ·left;omega
  ·left;omega
  ·right;exact⟨by omega,Sn a b c h' g'⟩
theorem akf:∀a b,Op.bytesLess a b=false→a≠b→Op.bytesLess b a=true
 | [],[]=>λ_ h=>absurd rfl h
 | [],y::b=>λh=>by cases h
 | x::a,[]=>λ_ _=>rfl
 | x::a,y::b=>by
  intro h hn
  by_cases e:x=y
  ·subst e
   have:Op.bytesLess a b=false:=by
    simpa[Op.bytesLess]using h
   have:=akf a b this (λq=>hn (by rw[q]))
   simp[Op.bytesLess,this]
  ·have h1:¬x<y:=by
    intro q
    simp[Op.bytesLess,q]at h
   have:y<x:=by
    rw[UInt8.lt_iff_toNat_lt]at *
    rw[←UInt8.toNat_inj]at e
    omega
   simp[Op.bytesLess,this]
theorem agp(p:aF)(key:List UInt8):mK p key=some (if Op.bytesLess p.Key key then -1 else if p.Key=key then 0 else 1):=by
 unfold mK vD cmp_isNaN_string
 simp only[beq_self_eq_true,Bool.not_true,ak,cond_false]
 cases h:Op.bytesLess p.Key key
 ·by_cases e:p.Key=key
  ·rw[if_neg (by simp),if_pos e];simp[e]
  ·rw[if_neg (by simp),if_neg e]
   have:(p.Key==key)=false:=by simpa using e
   simp[this]
 ·simp
def VU(L:List aF):Prop:=(L.map (·.Key)).Pairwise (λa b=>Op.bytesLess a b=true)
def place(L:List aF)(key:List UInt8):Nat:=(L.takeWhile (λp=>Op.bytesLess p.Key key)).length
def ET(L:List aF)(key:List UInt8):Bool:=match L[place L key]? with
 | some p=>p.Key==key
 | none=>false
def pAt(L:List aF)(key:List UInt8):aF:=(L[place L key]?).getD ⟨[],[]⟩
theorem X0(L:List aF)(key:List UInt8):place L key≤L.length:=(List.takeWhile_sublist _).length_le
theorem X3(key:List UInt8):∀(L:List aF) (k:Nat),k≤L.length→(∀i (h:i<L.length),i<k→Op.bytesLess L[i].Key key=true)→(∀h:k<L.length,Op.bytesLess L[k].Key key=false)→k=place L key
 | [],k=>λh _ _=>by simp[place]at *;exact h
 | p::L,0=>λh _ g=>by
  have:=g (by simp)
  simp at this
  simp[place,List.takeWhile_cons,this]
 | p::L,k+1=>λh f g=>by
  have h1:=f 0 (by simp) (by omega)
  have h2:=X3 key L k (by simpa using h) (λi hi hk=>by have:=f (i+1) (by simpa using hi) (by omega);simpa using this) (λhk=>by have:=g (by simpa using hk);simpa using this)
  simp at h1
  simp[place,List.takeWhile_cons,h1]at *
  exact h2
theorem akg(key:List UInt8):∀(L:List aF) (i:Nat) (h:i<L.length),i<place L key→Op.bytesLess L[i].Key key=true
 | [],i=>λh=>by simp at h
 | p::L,i=>λh hp=>by
  cases e:Op.bytesLess p.Key key
  ·simp[place,List.takeWhile_cons,e]at hp
  ·cases i with
   | zero=>simpa using e
   | succ i =>
    simp[place,List.takeWhile_cons,e]at hp
    have:=akg key L i (by simpa using h) (by unfold place;omega)
    simpa using this
theorem adT(key:List UInt8):∀(L:List aF) (h:place L key<L.length),Op.bytesLess L[place L key].Key key=false
 | []=>λh=>by simp at h
 | p::L=>λh=>by
  cases e:Op.bytesLess p.Key key
  ·have:place (p::L) key=0:=by simp[place,List.takeWhile_cons,e]
   simp only[this]
   simpa using e
  ·have q:place (p::L) key=place L key+1:=by simp[place,List.takeWhile_cons,e]
   simp only[q]at h ⊢
   have:=adT key L (by simpa using h)
   simpa using this
theorem adU(L:List aF)(key:List UInt8)(h:place L key<L.length):ET L key=(L[place L key].Key==key):=by
 unfold ET
 rw[bQ h]
theorem amI(L:List aF)(key:List UInt8)(h:¬place L key<L.length):ET L key=false:=by
 unfold ET
 rw[List.getElem?_eq_none (by omega)]
theorem vO{L:List aF}{key:List UInt8}(h:ET L key=true):place L key<L.length:=by
 by_cases c:place L key<L.length
 ·exact c
 ·rw[amI L key c]at h;cases h
theorem Zz{L:List aF}{key:List UInt8}(h:place L key<L.length):dH L (place L key:Int)=some (pAt L key):=by
 unfold pAt
 rw[dU h,bQ h]
 rfl
theorem ahT{L:List aF}{key:List UInt8}(h:ET L key=true):(pAt L key).Key=key:=by
 have c:=vO h
 rw[adU L key c]at h
 unfold pAt
 rw[bQ c]
 simpa using h
theorem ZA{L:List aF}(h:VU L){i j:Nat}(hj:j<L.length)(hi:i<j):Op.bytesLess (L[i]'(by omega)).Key L[j].Key=true:=by
 unfold VU at h
 rw[List.pairwise_iff_getElem]at h
 have:=h i j (by simp;omega) (by simpa using hj) hi
 simpa using this
theorem amJ(L:List aF)(key:List UInt8)(hs:VU L)(hl:L.length≤1000):fA L key=some ((place L key:Int),ET L key):=by
 have key1:∃e,gY L key (((0:Nat):Int),(L.length:Int))=some e∧e=(place L key:Int):=by
  refine kV (λs=>(s.2-s.1).toNat) (λs=>∃i j:Nat,s=((i:Int),(j:Int))∧i≤j∧j≤L.length∧(∀m (h:m<L.length),m<i→Op.bytesLess L[m].Key key=true)∧(∀m (h:m<L.length),j≤m→Op.bytesLess L[m].Key key=false)) _ ?_ KK _ ⟨0,L.length,rfl,by omega,by omega,λ_ _ h=>by omega,λ_ _ h=>by omega⟩ (by have:=kP;simp only;omega)
  rintro s ⟨i,j,rfl,h1,h2,h3,h4⟩
  simp only[eH]
  by_cases c:i<j
  ·left
   have hm:IntKind.i64.wrap (aek .u64 (IntKind.u64.wrap (IntKind.i64.wrap ((i:Int)+(j:Int)))) 1)=(((i+j)/2:Nat):Int):=by
    rw[cu (x:=(i:Int)+j) (by omega) (by omega),aiT (by omega) (by omega)]
    have:aek .u64 ((i:Int)+(j:Int)) 1=(((i+j)/2:Nat):Int):=by
     have e:aek .u64 ((i:Int)+(j:Int)) 1=((i:Int)+(j:Int)).fdiv 2:=rfl
     rw[e,Int.fdiv_eq_ediv_of_nonneg _ (by omega)]
     omega
    rw[this,cu (by omega) (by omega)]
   rw[hm]
   have hb:(i+j)/2<L.length:=by omega
   rw[bO (by omega),cond_true,dU hb,ak,agp,ak]
   cases e:Op.bytesLess L[(i+j)/2].Key key
   ·have c0:(if (false=true)then (-1:Int)else if L[(i+j)/2].Key=key then 0 else 1)=(if L[(i+j)/2].Key=key then 0 else 1):=by simp
    rw[c0,bD (by split<;>omega),cond_false]
    refine⟨_,rfl,⟨i,(i+j)/2,rfl,by omega,by omega,h3,λm hm2 hm3=>?_⟩,by simp only;omega⟩
    by_cases q:m=(i+j)/2
    ·subst q;exact e
    ·have r:=ZA hs hm2 (show(i+j)/2<m by omega)
     cases z:Op.bytesLess L[m].Key key
     ·rfl
     ·rw[Sn _ _ _ r z]at e;cases e
   ·rw[if_pos rfl,bO (by omega),cond_true,cu (x:=(((i+j)/2:Nat):Int)+1) (by omega) (by omega),dF]
    refine⟨_,rfl,⟨(i+j)/2+1,j,rfl,by omega,h2,λm hm2 hm3=>?_,h4⟩,by simp only;omega⟩
    by_cases q:m=(i+j)/2
    ·subst q;exact e
    ·exact Sn _ _ _ (ZA hs hb (show m<(i+j)/2 by omega)) e
  ·right
   obtain rfl:i=j:=by omega
   rw[bD (by omega),cond_false]
   refine⟨_,rfl, ?_⟩
   rw[←X3 key L i h2 h3 (λh=>h4 i h (by omega))]
 obtain⟨e,e1,rfl⟩:=key1
 unfold fA
 rw[show((0:Int),(L.length:Int))=(((0:Nat):Int),(L.length:Int))from rfl,e1,ak]
 by_cases c:place L key<L.length
 ·rw[bO (by omega),cond_true,dU c,ak,agp,ak,adU L key c,adT key L c]
  by_cases q:L[place L key].Key=key
  ·simp[q]
  ·have:(L[place L key].Key==key)=false:=by simpa using q
   simp[q]
 ·rw[bD (by omega),cond_false,amI L key c]
theorem aBE (L:List aF) (key:List UInt8) (hl:L.length≤1000) (f:Int→Option (Int⊕((Int×Bool)⊕Unit)))
  (hf:∀s3,f s3=cond (decide (s3<(L.length:Int))) ((dH L s3).bind λ(x4:aF)=>cond (!(Op.bytesLess x4.Key key)) ((dH L s3).bind λ(x5:aF)=>some (.inr (.inl (s3,(x5.Key==key))))) (some (.inl (IntKind.i64.wrap (s3+1))))) (some (.inr (.inr ())))) :
  ∃e,dG f KK 0=some e∧cond (jY e) (some ((Bu e).1,(Bu e).2)) (some ((L.length:Int),false))=some ((place L key:Int),ET L key):=by
 refine kV (λs=>(L.length-s.toNat)) (λs=>∃i:Nat,s=(i:Int)∧i≤L.length∧(∀m (h:m<L.length),m<i→Op.bytesLess L[m].Key key=true)) _ ?_ KK _ ⟨0,rfl,by omega,λ_ _ h=>by omega⟩ (by have:=kP;omega)
 rintro s ⟨i,rfl,h1,h2⟩
 rw[hf]
 by_cases c:i<L.length
 ·rw[bO (by omega),cond_true,dU c,ak]
  cases e:Op.bytesLess L[i].Key key
  ·right
   refine⟨_,rfl, ?_⟩
   have q:=X3 key L i h1 h2 (λ_=>e)
   have w:=adU L key (by rw[←q];exact c)
   simp only[jY,Bu,cond_true]
   rw[w]
   subst q
   rfl
  ·left
   simp only[Bool.not_true,cond_false]
   rw[cu (by omega) (by omega),dF]
   refine⟨_,rfl,⟨i+1,rfl,by omega,λm hm q=>?_⟩,by omega⟩
   by_cases z:m=i
   ·subst z;exact e
   ·exact h2 m hm (by omega)
 ·right
  rw[bD (by omega),cond_false]
  refine⟨_,rfl, ?_⟩
  have q:=X3 key L i h1 h2 (λh=>absurd h c)
  have w:=amI L key (by rw[←q];exact c)
  simp only[jY,cond_false]
  rw[w,←q]
  congr 2
  omega
theorem atU(L:List aF)(key:List UInt8)(hl:L.length≤1000):rX key L=some ((place L key:Int),ET L key):=by
 obtain⟨e,e1,e2⟩:=aBE L key hl (nH L key) (λ_=>rfl)
 unfold rX Bw
 rw[e1,ak,e2]
theorem akh(a b:Int):(a==b)=decide (a=b):=anu a b
def uG(o:bZ):Bool :=
 decide (1≤o.Kind)&&decide (o.Kind≤4)&&decide (1≤o.Key.length)&&decide (o.Key.length≤8)&&decide (o.Value.length≤16)&&decide (o.Old.length≤16) &&
  (decide (o.Kind=2)||decide (o.Kind=4)||decide (o.Value=[]))&&(decide (o.Kind=4)||decide (o.Old=[]))
theorem anH(l:List UInt8):(l==([]:List UInt8))=decide (l=[]):=by cases l<;>rfl
theorem aar(o:bZ):Cm o=some (uG o):=by
 unfold Cm Dn Dr Dq Dp uG
 simp only[anH,akh]
 by_cases h1:o.Kind<1
 ·rw[bO h1,bD (show ¬o.Kind=2 by omega),bD (show ¬o.Kind=4 by omega),bD (show ¬ 1≤o.Kind by omega)];simp[jY]
 by_cases h2:o.Kind>4
 ·simp[h1,h2,jY,show ¬o.Kind≤4 by omega,show ¬o.Kind=2 by omega,show ¬o.Kind=4 by omega]
 by_cases h3:o.Key=[]
 ·by_cases a:o.Kind=2<;>by_cases b:o.Kind=4<;>simp[h1,h2,h3,jY,a,b]
 have h3':1≤o.Key.length:=by
  cases e:o.Key with
  | nil=>exact absurd e h3
  | cons _ _=>simp
 by_cases h4:o.Key.length≤8
 case neg =>
  have:(o.Key.length:Int)>8:=by omega
  by_cases a:o.Kind=2<;>by_cases b:o.Kind=4<;>simp[h1,h2,h3,h4,jY,a,b,this]
 by_cases h5:o.Value.length≤16
 case neg =>
  have:(o.Value.length:Int)>16:=by omega
  by_cases a:o.Kind=2<;>by_cases b:o.Kind=4<;>simp[h1,h2,h3,h4,h5,jY,a,b,this]
 by_cases h6:o.Old.length≤16
 case neg =>
  have:(o.Old.length:Int)>16:=by omega
  by_cases a:o.Kind=2<;>by_cases b:o.Kind=4<;>simp[h1,h2,h3,h4,h5,h6,jY,a,b,this]
 have e4:¬(o.Key.length:Int)>8:=by omega
 have e5:¬(o.Value.length:Int)>16:=by omega
 have e6:¬(o.Old.length:Int)>16:=by omega
 rw[bD h1,bD h2,bD e4,bD e5,bD e6,bD h3,bO (show 1≤o.Kind by omega),bO (show o.Kind≤4 by omega),bO h3',bO h4,bO h5,bO h6]
 by_cases a:o.Kind=2<;>by_cases b:o.Kind=4<;>by_cases c:o.Value=[]<;>simp[jY,a,b,c]<;>omega
theorem OH(o:bZ):Bv o=some (uG o):=by
 unfold Bv E_ uG
 simp only[anH,akh]
 by_cases h1:o.Kind<1
 ·simp[h1,jY,show ¬ 1≤o.Kind by omega]
 by_cases h2:o.Kind>4
 ·simp[h1,h2,jY,show ¬o.Kind≤4 by omega,show ¬o.Kind=2 by omega,show ¬o.Kind=4 by omega]
 by_cases h3:1≤o.Key.length
 case neg =>
  have:(o.Key.length:Int)<1:=by omega
  simp[h1,h2,h3,jY,this]
 by_cases h4:o.Key.length≤8
 case neg =>
  have:(o.Key.length:Int)>8:=by omega
  have h3':¬(o.Key.length:Int)<1:=by omega
  simp[h1,h2,h3',h4,jY,this]
 by_cases h5:o.Value.length≤16
 case neg =>
  have:(o.Value.length:Int)>16:=by omega
  have h3':¬(o.Key.length:Int)<1:=by omega
  have h4':¬(o.Key.length:Int)>8:=by omega
  simp[h1,h2,h3',h4',h5,jY,this]
 by_cases h6:o.Old.length≤16
 case neg =>
  have:(o.Old.length:Int)>16:=by omega
  have h3':¬(o.Key.length:Int)<1:=by omega
  have h4':¬(o.Key.length:Int)>8:=by omega
  have h5':¬(o.Value.length:Int)>16:=by omega
  simp[h1,h2,h3',h4',h5',h6,jY,this]
 have e3:¬(o.Key.length:Int)<1:=by omega
 have e4:¬(o.Key.length:Int)>8:=by omega
 have e5:¬(o.Value.length:Int)>16:=by omega
 have e6:¬(o.Old.length:Int)>16:=by omega
 rw[bD h1,bD h2,bD e3,bD e4,bD e5,bD e6,bO (show 1≤o.Kind by omega),bO (show o.Kind≤4 by omega),bO h3,bO h4,bO h5,bO h6]
 by_cases a:o.Kind=2<;>by_cases b:o.Kind=4<;>by_cases c:o.Value=[]<;>by_cases d:o.Old=[]<;>simp[jY,a,b,c,d]<;>omega
theorem VW{o:bZ}(h:uG o=true):1≤o.Kind∧o.Kind≤4:=by
 unfold uG at h
 simp only[Bool.and_eq_true,decide_eq_true_eq]at h
 omega
def doP(o:bZ)(L:List aF):aJ×List aF :=
 if uG o=false then (⟨1,[]⟩,L)
 else if o.Kind=2 then
  if ET L o.Key=true then (⟨0,[]⟩,L.set (place L o.Key) ⟨o.Key,o.Value⟩)
  else if L.length=8 then (⟨5,[]⟩,L)else (⟨0,[]⟩,PV L (place L o.Key) ⟨o.Key,o.Value⟩)
 else if ET L o.Key=false then (⟨4,[]⟩,L)
 else if o.Kind=1 then (⟨0,(pAt L o.Key).Value⟩,L)
 else if o.Kind=4 then (if (pAt L o.Key).Value=o.Old then (⟨0,[]⟩,L.set (place L o.Key) ⟨o.Key,o.Value⟩)else (⟨6,(pAt L o.Key).Value⟩,L))
 else (⟨0,[]⟩,J3 L (place L o.Key) ((place L o.Key:Int)+1))
def OkT(L:List aF):Prop:=VU L∧L.length≤8
theorem atV(L:List aF)(k:Nat)(p:aF)(h:k<L.length)(e:L[k].Key=p.Key):(L.set k p).map (·.Key)=L.map (·.Key):=by
 apply List.ext_getElem
 ·simp
 ·intro i h1 h2
  simp only[List.getElem_map,List.getElem_set]
  split
  ·next q=>subst q;exact e.symm
  ·rfl
theorem atW{L:List aF}(h:OkT L){key v:List UInt8}(hd:ET L key=true):OkT (L.set (place L key) ⟨key,v⟩):=by
 have c:=vO hd
 have e:L[place L key].Key=key:=by rw[adU L key c]at hd;simpa using hd
 refine⟨?_,by rw[bB];exact h.2⟩
 unfold VU
 rw[atV L _ _ c e]
 exact h.1
theorem azK{L:List aF}(h:OkT L){key v:List UInt8}(hd:ET L key=false)(hl:L.length≠8):OkT (PV L (place L key) ⟨key,v⟩):=by
 have pl:=X0 L key
 refine⟨?_,by simp only[PV,aD,bf,bA,aZ];have:=h.2;omega⟩
 unfold VU PV
 rw[bL,List.map_append,List.map_cons,List.pairwise_append]
 have hr:=h.1
 unfold VU at hr
 have ht:∀a∈(L.take (place L key)).map (·.Key),Op.bytesLess a key=true:=by
  intro a ha
  rw[List.mem_map]at ha
  obtain⟨p,hp,rfl⟩:=ha
  obtain⟨i,hi,rfl⟩:=List.mem_iff_getElem.1 hp
  simp only[bf]at hi
  rw[List.getElem_take]
  exact akg key L i (by omega) (by omega)
 have hdr:∀a∈(L.drop (place L key)).map (·.Key),Op.bytesLess key a=true:=by
  intro a ha
  rw[List.mem_map]at ha
  obtain⟨p,hp,rfl⟩:=ha
  obtain⟨i,hi,rfl⟩:=List.mem_iff_getElem.1 hp
  simp only[aZ]at hi
  rw[List.getElem_drop]
  have c:place L key<L.length:=by omega
  have f:Op.bytesLess key L[place L key].Key=true:=by
   refine akf _ _ (adT key L c) (λq=>?_)
   rw[adU L key c,q]at hd
   simp at hd
  cases i with
  | zero=>simpa using f
  | succ i=>exact Sn _ _ _ f (ZA h.1 (by omega) (by omega))
 refine⟨?_, ?_, ?_⟩
 ·exact List.Pairwise.sublist ((List.take_sublist _ _).map _) hr
 ·rw[List.pairwise_cons]
  exact⟨hdr,List.Pairwise.sublist ((List.drop_sublist _ _).map _) hr⟩
 ·intro a ha b hb
  rcases List.mem_cons.1 hb with rfl | hb
  ·exact ht a ha
  ·exact Sn _ _ _ (ht a ha) (hdr b hb)
theorem azL{L:List aF}(h:OkT L)(k:Nat)(hk:k<L.length):OkT (J3 L k ((k:Int)+1)):=by
 have e:J3 L k ((k:Int)+1)=L.eraseIdx k:=by
  unfold J3
  rw[bL,show((k:Int)+1).toNat=k+1 by omega,List.eraseIdx_eq_take_drop_succ]
 rw[e]
 exact⟨List.Pairwise.sublist ((List.eraseIdx_sublist _ _).map _) h.1,Nat.le_trans (List.eraseIdx_sublist _ _).length_le h.2⟩
theorem ay0{L:List aF}(h:OkT L)(o:bZ):OkT (doP o L).2:=by
 unfold doP
 split
 ·exact h
 split
 ·split
  ·next hd=>exact atW h hd
  ·next hd =>
   split
   ·exact h
   ·next hl=>exact azK h (by simpa using hd) hl
 split
 ·exact h
 next hd =>
 have hd:ET L o.Key=true:=by simpa using hd
 split
 ·exact h
 split
 ·split
  ·exact atW h hd
  ·exact h
 ·exact azL h _ (vO hd)
theorem EU{β:Type}{n:Nat}{x:Option β}(h:n≤100):gd (dR 32 n) x=x:=avc (by omega) (by omega)
theorem aBF{L:List aF}{key v:List UInt8}(h:OkT L)(hd:ET L key=true):(gd (dR 32 L.length) ((dH L (place L key:Int)).bind λ(x2:aF)=>some (L.set (place L key:Int).toNat (⟨x2.Key,v⟩:aF))))=some (L.set (place L key) ⟨key,v⟩):=by
 rw[EU (by have:=h.2;omega),Zz (vO hd),ak,ahT hd,bL]
theorem apb(o:bZ)(L:List aF)(h:OkT L):uw o L=some (doP o L):=by
 have hl:=h.2
 have pl:=X0 L o.Key
 unfold uw vE doP
 rw[aar,ak,amJ L o.Key h.1 (by omega)]
 cases hr:uG o
 ·simp
 have hk:=VW hr
 simp only[Bool.not_true,cond_false,ak,Bool.true_eq_false,if_false,akh]
 by_cases k2:o.Kind=2
 ·rw[bO k2,cond_true,if_pos k2]
  unfold wZ nS
  cases hd:ET L o.Key
  ·rw[cond_false,if_neg (by simp),akh]
   by_cases l8:L.length=8
   ·rw[bO (by omega),if_pos l8];rfl
   ·rw[bD (by omega),if_neg l8,cond_false,EU (by omega),iT (by simp[ak9,dR];omega)];rfl
  ·rw[cond_true,aBF h hd,if_pos rfl];rfl
 rw[bD k2,cond_false,if_neg k2]
 cases hd:ET L o.Key
 ·simp
 have hp:=Zz (vO hd)
 simp only[Bool.not_true,cond_false,Bool.true_eq_false,if_false]
 by_cases k1:o.Kind=1
 ·rw[bO k1,cond_true,if_pos k1,hp];rfl
 rw[bD k1,cond_false,if_neg k1]
 by_cases k4:o.Kind=4
 ·rw[bO k4,cond_true,if_pos k4]
  unfold wY nS
  rw[aBF h hd,hp,ak]
  by_cases q:(pAt L o.Key).Value=o.Old
  ·rw[if_pos q];simp[q]
  ·have:((pAt L o.Key).Value==o.Old)=false:=by simpa using q
   rw[if_neg q,this];rfl
 ·have c:=vO hd
  rw[bD k4,cond_false,if_neg k4,EU (by omega),cu (by omega) (by omega),iT (by simp[aof];omega)]
theorem aBG(L:List aF)(k:Nat)(p:aF)(h:k<L.length):(L.take k++[p])++L.drop (k+1)=L.set k p:=by
 rw[List.set_eq_take_append_cons_drop,if_pos h,bR]
 rfl
theorem amK(o:bZ)(L:List aF)(h:OkT L):Ao o L=some ((doP o L).1,(doP o L).2):=by
 have hl:=h.2
 have pl:=X0 L o.Key
 unfold Ao y8 y9 doP
 rw[OH,ak,atU L o.Key (by omega)]
 cases hr:uG o
 ·simp
 have hk:=VW hr
 simp only[Bool.not_true,cond_false,ak,Bool.true_eq_false,if_false,akh]
 rw[acy L _ pl]
 by_cases k1:o.Kind=1
 ·have k2:¬o.Kind=2:=by omega
  rw[bO k1,cond_true,if_neg k2,if_pos k1]
  cases hd:ET L o.Key
  ·simp
  ·rw[Zz (vO hd)];simp
 rw[bD k1,cond_false]
 by_cases k2:o.Kind=2
 ·rw[bO k2,cond_true,if_pos k2]
  have lt:(L.take (place L o.Key)).length≤8:=by rw[bf];omega
  cases hd:ET L o.Key
  ·simp only[Bool.not_false,cond_true]
   by_cases l8:L.length=8
   ·rw[bO (by omega),if_neg (by simp),if_pos l8];rfl
   ·rw[bD (by omega),if_neg (by simp),if_neg l8,cond_false,ak]
    simp only[jY,cond_false,ak]
    rw[EU (by omega),EU (by rw[aD];simp only[List.length_singleton];omega),um L _ pl,ak,EU (by simp only[aD,List.length_singleton,aZ];omega)]
    unfold PV
    rw[bL,bR]
    rfl
  ·have c:=vO hd
   simp only[Bool.not_true,cond_false,cond_true,ak,jY,if_true]
   rw[EU (by omega),EU (by rw[aD];simp only[List.length_singleton];omega),cu (by omega) (by omega),dF,um L _ (by omega),ak,EU (by simp only[aD,List.length_singleton,aZ];omega),aBG L _ _ c]
 rw[bD k2,cond_false,if_neg k2]
 by_cases k3:o.Kind=3
 ·rw[bO k3,cond_true]
  cases hd:ET L o.Key
  ·simp
  ·have c:=vO hd
   have k4:¬o.Kind=4:=by omega
   simp only[Bool.not_true,cond_false,ak,Bool.true_eq_false,if_false]
   rw[if_neg k1,if_neg k4,EU (by rw[bf];omega),cu (by omega) (by omega),dF,um L _ (by omega),ak,EU (by simp only[aD,bf,aZ];omega)]
   unfold J3
   rw[bL,bL]
 rw[bD k3,cond_false]
 have k4:o.Kind=4:=by omega
 cases hd:ET L o.Key
 ·simp
 have hp:=Zz (vO hd)
 simp only[Bool.not_true,cond_false,Bool.true_eq_false,if_false]
 rw[if_neg k1,if_pos k4,hp,ak,ak,ak,ahT hd,EU (by omega),bL]
 by_cases q:(pAt L o.Key).Value=o.Old
 ·rw[if_pos q];simp[q]
 ·have:((pAt L o.Key).Value==o.Old)=false:=by simpa using q
  rw[if_neg q,this];rfl
def ofP(L:List aF)(l:List aF):List aF:=l.foldl (λL x=>(doP ⟨2,x.Key,x.Value,[]⟩ L).2) L
theorem adV(l:List aF):∀L,OkT L→OkT (ofP L l):=by
 induction l with
 | nil=>exact λL h=>h
 | cons x l ih=>exact λL h=>ih _ (ay0 h _)
theorem ok0:OkT []:=⟨List.Pairwise.nil,by simp⟩
theorem aki(l:List aF)(h:l.length<1000000000):Ry l=some ⟨ofP [] l⟩:=by
 unfold Ry
 have key:Rx l (0,[])=some (ofP [] l):=by
  refine lI (λi=>((i:Int),ofP [] (l.take i))) l.length _ (λi hi=>?_) ?_ (by omega)
  ·unfold wo
   simp only
   rw[bO (by omega),cond_true,dU hi,ak,apb _ _ (adV _ _ ok0),ak,cu (by omega) (by omega),dF,bG hi]
   unfold ofP
   rw[List.foldl_append]
   rfl
  ·unfold wo
   simp only
   rw[bD (by omega),cond_false,List.take_length]
 rw[key]
 rfl
theorem agq(l:List aF)(h:l.length<1000000000):I8 l=some ⟨ofP [] l⟩:=by
 unfold I8
 have key:Lm l (0,[])=some (ofP [] l):=by
  refine lI (λi=>((i:Int),ofP [] (l.take i))) l.length _ (λi hi=>?_) ?_ (by omega)
  ·unfold rY
   simp only
   rw[bO (by omega),cond_true,dU hi,ak,ak,amK _ _ (adV _ _ ok0),ak,cu (by omega) (by omega),dF,bG hi]
   unfold ofP
   rw[List.foldl_append]
   rfl
  ·unfold rY
   simp only
   rw[bD (by omega),cond_false,List.take_length]
 rw[key]
 rfl
theorem aas(c:Int)(s:bE)(h:s.S_.L.length<1000000):mH c s=some (lastOf c s.S_.L):=by
 unfold mH wF lastOf
 rw[agm c s.S_.L h (kX s c) (λ_=>rfl),ak]
 cases s.S_.L.find? (λy=>y.Client==c)<;>rfl
theorem akj(x:aB)(s:bE)(h:s.S_.L.length<1000):mI x s=some ((PK x s.S_.L).1,⟨s.T,⟨(PK x s.S_.L).2⟩,s.ID,s.Epoch⟩):=by
 have e:=aaq x s.S_.L h
 have e3:mI x s=(kQ x s.S_.L).bind λr=>some (r.1,⟨s.T,⟨r.2⟩,s.ID,s.Epoch⟩):=by
  unfold mI kQ
  rw[aas _ _ (by omega),aap _ _ (by omega),ak,ak]
  have j0:qQ x (lastOf x.Client s.S_.L) s=kr x (lastOf x.Client s.S_.L) s.S_.L:=rfl
  have j3:wJ s x (false,0,[])=mE s.S_.L x (false,0,[]):=rfl
  rw[j0,j3,adR x _ h]
  cases kr x (lastOf x.Client s.S_.L) s.S_.L with
  | none=>rfl
  | some r =>
   cases r with
   | inl _=>rfl
   | inr _ =>
    simp only[ak,jY,cond_false]
    have j4:qR (s.S_.L.foldl (zT x) (false,[])) x s=ku (s.S_.L.foldl (zT x) (false,[])) x s.S_.L:=rfl
    rw[j4]
    cases ku (s.S_.L.foldl (zT x) (false,[])) x s.S_.L<;>rfl
 rw[e3,e]
 rfl
theorem agr(s:eY):nI s=some (jD s.eD):=by
 unfold nI uy
 have key:dG (iA s) KK (0,[])=some (jD s.eD):=by
  refine lI (λi=>((i:Int),(s.eD.l.U5.take i).filter (λx=>decide (0<x.Seq)))) 4 _ (λi hi=>?_) ?_ (by omega)
  ·have hl:i<s.eD.l.U5.length:=by simpa[A4.U5]using hi
   have h5:(s.eD.l.U5.take (i+1)).filter (λx=>decide (0<x.Seq))=(s.eD.l.U5.take i).filter (λx=>decide (0<x.Seq))++[s.eD.l.U5[i]].filter (λx=>decide (0<x.Seq)):=by
    rw[bG hl,List.filter_append]
   have h6:((s.eD.l.U5.take i).filter (λx=>decide (0<x.Seq))).length≤4:=Nat.le_trans (List.length_filter_le _ _) (by simp;omega)
   unfold iA
   simp only
   rw[bO (by omega),cond_true,show [s.eD.l.a0,s.eD.l.a1,s.eD.l.a2,s.eD.l.a3]=s.eD.l.U5 from rfl,dU hl,ak,h5,cu (by omega) (by omega),dF]
   by_cases q:s.eD.l.U5[i].Seq>0
   ·rw[bO q,cond_true,Cr (by rw[aD];simp only[List.length_singleton];omega),List.filter_cons_of_pos (by simpa using q)];rfl
   ·rw[bD q,cond_false,List.filter_cons_of_neg (by simpa using q)];simp
  ·unfold iA
   rfl
 rw[key]
 rfl
theorem amL(o:bZ)(s:bE)(h:OkT s.T.L):Ar o s=some ((doP o s.T.L).1,⟨⟨(doP o s.T.L).2⟩,s.S_,s.ID,s.Epoch⟩):=by
 obtain⟨⟨L⟩,S,i,e⟩:=s
 simp only at h
 have f3:A9 o.Key ⟨⟨L⟩,S,i,e⟩=rX o.Key L:=rfl
 have hl:=h.2
 have pl:=X0 L o.Key
 unfold Ar ze zf doP
 simp only
 rw[OH,ak,f3,atU L o.Key (by omega)]
 cases hr:uG o
 ·simp
 have hk:=VW hr
 simp only[Bool.not_true,cond_false,ak,Bool.true_eq_false,if_false,akh]
 rw[acy L _ pl]
 by_cases k1:o.Kind=1
 ·have k2:¬o.Kind=2:=by omega
  rw[bO k1,cond_true,if_neg k2,if_pos k1]
  cases hd:ET L o.Key
  ·simp
  ·rw[Zz (vO hd)];simp
 rw[bD k1,cond_false]
 by_cases k2:o.Kind=2
 ·rw[bO k2,cond_true,if_pos k2]
  have lt:(L.take (place L o.Key)).length≤8:=by rw[bf];omega
  cases hd:ET L o.Key
  ·simp only[Bool.not_false,cond_true]
   by_cases l8:L.length=8
   ·rw[bO (by omega),if_neg (by simp),if_pos l8];rfl
   ·rw[bD (by omega),if_neg (by simp),if_neg l8,cond_false,ak]
    simp only[jY,cond_false,ak]
    rw[EU (by omega),EU (by rw[aD];simp only[List.length_singleton];omega),um L _ pl,ak,EU (by simp only[aD,List.length_singleton,aZ];omega)]
    unfold PV
    rw[bL,bR]
    rfl
  ·have c:=vO hd
   simp only[Bool.not_true,cond_false,cond_true,ak,jY,if_true]
   rw[EU (by omega),EU (by rw[aD];simp only[List.length_singleton];omega),cu (by omega) (by omega),dF,um L _ (by omega),ak,EU (by simp only[aD,List.length_singleton,aZ];omega),aBG L _ _ c]
 rw[bD k2,cond_false,if_neg k2]
 by_cases k3:o.Kind=3
 ·rw[bO k3,cond_true]
  cases hd:ET L o.Key
  ·simp
  ·have c:=vO hd
   have k4:¬o.Kind=4:=by omega
   simp only[Bool.not_true,cond_false,ak,Bool.true_eq_false,if_false]
   rw[if_neg k1,if_neg k4,EU (by rw[bf];omega),cu (by omega) (by omega),dF,um L _ (by omega),ak,EU (by simp only[aD,bf,aZ];omega)]
   unfold J3
   rw[bL,bL]
 rw[bD k3,cond_false]
 have k4:o.Kind=4:=by omega
 cases hd:ET L o.Key
 ·simp
 have hp:=Zz (vO hd)
 simp only[Bool.not_true,cond_false,Bool.true_eq_false,if_false]
 rw[if_neg k1,if_pos k4,hp,ak,ak,ak,ahT hd,EU (by omega),bL]
 by_cases q:(pAt L o.Key).Value=o.Old
 ·rw[if_pos q];simp[q]
 ·have:((pAt L o.Key).Value==o.Old)=false:=by simpa using q
  rw[if_neg q,this];rfl
def yP(s:eY):bE:=⟨⟨s.Table.l⟩,⟨jD s.eD⟩,s.ID,s.Epoch⟩
def OkS(s:eY):Prop:=OkT s.Table.l∧GoodS s.eD
def lT(r:bJ):Prop:=0≤r.Client∧r.Client<4∧1≤r.Seq∧r.Seq≤4611686018427387903∧uG r.Op=true
instance (r:bJ):Decidable (lT r):=by unfold lT;infer_instance
theorem VX(r:bJ):Cg r=some (decide (lT r)):=by
 unfold Cg
 by_cases h1:r.Client≥0
 case neg=>rw[bD h1,bD (show ¬lT r by unfold lT;omega)];rfl
 rw[bO h1,cond_true]
 by_cases h2:r.Client<4
 case neg=>rw[bD h2,bD (show ¬lT r by unfold lT;omega)];rfl
 rw[bO h2,cond_true]
 by_cases h3:r.Seq≥1
 case neg=>rw[bD h3,bD (show ¬lT r by unfold lT;omega)];rfl
 rw[bO h3,cond_true]
 by_cases h4:r.Seq≤4611686018427387903
 case neg=>rw[bD h4,bD (show ¬lT r by unfold lT;omega)];rfl
 rw[bO h4,cond_true,OH,ak]
 cases h5:uG r.Op
 ·rw[bD (show ¬lT r by unfold lT;rw[h5];simp)]
 ·rw[bO (show lT r by unfold lT;exact⟨by omega,by omega,by omega,by omega,h5⟩)]
def abo(y:aB):Bool:=(decide (y.Answer.Why=0)||decide (y.Answer.Why=4)||decide (y.Answer.Why=5)||decide (y.Answer.Why=6))&&decide (y.Answer.Value.length≤16)&&decide (y.Seq≤4611686018427387903)
def amM(p:aF):Bool:=decide (p.Key.length<1)||decide (8<p.Key.length)||decide (16<p.Value.length)
def OkP(L:List aF):Prop:=∀p∈L,amM p=false
theorem adW{o:bZ}(h:uG o=true):amM ⟨o.Key,o.Value⟩=false:=by
 unfold uG at h
 simp only[Bool.and_eq_true,decide_eq_true_eq]at h
 unfold amM
 simp only
 rw[bD (show ¬o.Key.length<1 by omega),bD (show ¬ 8<o.Key.length by omega),bD (show ¬ 16<o.Value.length by omega)]
 rfl
theorem atX{L:List aF}(h:OkP L)(o:bZ):OkP (doP o L).2:=by
 have st:uG o=true→OkP (L.set (place L o.Key) ⟨o.Key,o.Value⟩):=λhr p hp=>by
  rcases List.mem_or_eq_of_mem_set hp with q | rfl
  ·exact h p q
  ·exact adW hr
 unfold doP
 split
 ·exact h
 next hr =>
 have hr:uG o=true:=by simpa using hr
 split
 ·split
  ·exact st hr
  ·split
   ·exact h
   ·intro p hp
    simp only[PV]at hp
    rcases List.mem_append.1 hp with q | q
    ·exact h p (List.mem_of_mem_take q)
    ·rcases List.mem_cons.1 q with rfl | q
     ·exact adW hr
     ·exact h p (List.mem_of_mem_drop q)
 split
 ·exact h
 split
 ·exact h
 split
 ·split
  ·exact st hr
  ·exact h
 ·intro p hp
  simp only[J3]at hp
  rcases List.mem_append.1 hp with q | q
  ·exact h p (List.mem_of_mem_take q)
  ·exact h p (List.mem_of_mem_drop q)
theorem atY(l:List aF):∀L,OkP L→OkP (ofP L l):=by
 induction l with
 | nil=>exact λL h=>h
 | cons x l ih=>exact λL h=>ih _ (atX h _)
theorem ahU(s:bE)(h1:s.T.L.length≤100)(h2:s.S_.L.length≤100):xZ s=some ⟨s.ID,s.Epoch,s.T.L,s.S_.L⟩:=by
 unfold xZ
 rw[EU h1,Cr (by omega)]
theorem UN(s:bE)(h1:s.T.L.length≤100)(h2:s.S_.L.length≤100):pO s=some (s.ID,s.Epoch,s.T.L,s.S_.L):=by
 unfold pO
 rw[EU h1,Cr (by omega)]
theorem atZ(x:aM)(h1:x.Pairs.length<1000000000)(h2:x.fu.length<1000000000):∃s,Jt x=some s∧OkS s∧s.Table.l=ofP [] x.Pairs∧s.ID=x.fJ∧s.Epoch=x.Epoch∧oL x=some (yP s):=by
 obtain⟨S,e1,e2,e3⟩:=akd x.fu h2
 refine⟨⟨⟨ofP [] x.Pairs⟩,S,x.fJ,x.Epoch⟩, ?_,⟨adV _ _ ok0,e2⟩,rfl,rfl,rfl, ?_⟩
 ·unfold Jt
  rw[aki _ h1,ak,e1]
  rfl
 ·unfold oL
  rw[agq _ h1,ak,e3]
  rfl
theorem OI {α β:Type} (a:List α) (q:α→Bool) (hl:a.length<1000000) (f:Int→Option (Int⊕(β⊕Unit))) (u:Nat→β)
  (hin:∀(i:Nat) (h:i<a.length),f (i:Int)=cond (q a[i]) (some (.inr (.inl (u i)))) (some (.inl ((i+1:Nat):Int)))) (hout:f (a.length:Int)=some (.inr (.inr ()))) :
  ∃e,dG f KK 0=some e∧((a.any q=true∧∃i,e=.inl (u i))∨(a.any q=false∧e=.inr ())):=by
 refine kV (λs=>(a.length-s.toNat)) (λs=>∃i:Nat,s=(i:Int)∧i≤a.length∧a.any q=(a.drop i).any q) _ ?_ KK _ ⟨0,rfl,by omega,rfl⟩ (by have:=kP;omega)
 rintro s ⟨i,rfl,h1,h2⟩
 by_cases c:i<a.length
 ·rw[hin i c]
  rw[List.drop_eq_getElem_cons c,List.any_cons]at h2
  cases e:q a[i]
  ·left
   rw[e,Bool.false_or]at h2
   exact⟨_,rfl,⟨i+1,rfl,by omega,h2⟩,by omega⟩
  ·right
   rw[e,Bool.true_or]at h2
   exact⟨_,rfl,.inl ⟨h2,i,rfl⟩⟩
 ·right
  obtain rfl:i=a.length:=by omega
  rw[hout]
  rw[List.drop_of_length_le (Nat.le_refl _),List.any_nil]at h2
  exact⟨_,rfl,.inr ⟨h2,rfl⟩⟩
theorem anI{α:Type}(eqv:α→α→Bool)(he:∀x y,eqv x y=true↔x=y):∀a b:List α,a.length=b.length→((a.zip b).any (λp=>!(eqv p.1 p.2))=false↔a=b)
 | [],[],_=>by simp
 | [],_::_,h=>by simp at h
 | _::_,[],h=>by simp at h
 | x::a,y::b,h=>by
  have ih:=anI eqv he a b (by simpa using h)
  rw[List.zip_cons_cons,List.any_cons,Bool.or_eq_false_iff,ih]
  simp only[Bool.not_eq_false',he]
  constructor
  ·rintro⟨rfl,rfl⟩;rfl
  ·intro e;injection e with e1 e2;exact⟨e1,e2⟩
theorem ZB {α:Type} [DecidableEq α] (a b:List α) (eqv:α→α→Bool) (he:∀x y,eqv x y=true↔x=y) (hl:a.length<1000000) (hab:a.length=b.length) (f:Int→Option (Int⊕(Unit⊕Unit)))
  (hf:∀s3,f s3=cond (decide (s3<(a.length:Int))) ((dH a s3).bind λ(x4:α)=>(dH b s3).bind λ(x5:α)=>cond (!(eqv x4 x5)) (some (.inr (.inl ()))) (some (.inl (IntKind.i64.wrap (s3+1))))) (some (.inr (.inr ())))) :
  ∃e,dG f KK 0=some e∧jY e=decide (a≠b):=by
 have hz:(a.zip b).length=a.length:=by rw[List.length_zip];omega
 obtain⟨e,e1,e2⟩:=OI (a.zip b) (λp=>!(eqv p.1 p.2)) (by omega) f (λ_=>()) (λi h=>by
  have ha:i<a.length:=by omega
  have hb:i<b.length:=by omega
  rw[hf,bO (by omega),cond_true,dU ha,ak,dU hb,ak,cu (by omega) (by omega),dF,List.getElem_zip]) (by
  rw[hf,hz,bD (by omega),cond_false])
 refine⟨e,e1, ?_⟩
 have z:=anI eqv he a b hab
 rcases e2 with⟨q,i,rfl⟩ |⟨q,rfl⟩
 ·have:a≠b:=λh=>by rw[z.2 h]at q;cases q
  rw[bO this];rfl
 ·rw[bD (by rw[z.1 q];simp)];rfl
theorem adX(x y:aF):(x.Key==y.Key&&(x.Value==y.Value&&true))=true↔x=y:=by
 obtain⟨a,b⟩:=x;obtain⟨c,d⟩:=y
 simp
theorem adY(x y:aB):(x.Client==y.Client&&(x.Seq==y.Seq&&(x.Answer.Why==y.Answer.Why&&(x.Answer.Value==y.Answer.Value&&true))))=true↔x=y:=by
 obtain⟨a,b,c,d⟩:=x;obtain⟨e,f,g,h⟩:=y
 simp
instance:DecidableEq aF:=λa b=>decidable_of_iff _ (adX a b)
instance:DecidableEq aB:=λa b=>decidable_of_iff _ (adY a b)
theorem at0(a b:List aF)(h:a.length<1000000):gZ a b=some (decide (a=b)):=by
 unfold gZ
 by_cases c:a.length=b.length
 ·rw[iP (by omega),cond_false]
  obtain⟨e,e1,e2⟩:=ZB a b _ adX h c (gV a b) (λ_=>rfl)
  unfold lu
  rw[e1,ak,e2]
  by_cases q:a=b<;>simp[q]
 ·rw[oz (by omega),bD (λe=>c (by rw[e]))];rfl
theorem equalS(a b:List aB)(h:a.length<1000000):g_ a b=some (decide (a=b)):=by
 unfold g_
 by_cases c:a.length=b.length
 ·rw[iP (by omega),cond_false]
  obtain⟨e,e1,e2⟩:=ZB a b _ adY h c (gW a b) (λ_=>rfl)
  unfold lC
  rw[e1,ak,e2]
  by_cases q:a=b<;>simp[q]
 ·rw[oz (by omega),bD (λe=>c (by rw[e]))];rfl
theorem ay1(a b:aM)(h1:a.Pairs.length<1000000)(h2:a.fu.length<1000000):sK a b=some (decide (a.fJ=b.fJ∧a.Epoch=b.Epoch∧a.Pairs=b.Pairs∧a.fu=b.fu)):=by
 unfold sK Ba
 by_cases c1:a.fJ=b.fJ
 case neg=>rw[oz c1,bD (λe=>c1 e.1)];rfl
 rw[iP c1,cond_false]
 by_cases c2:a.Epoch=b.Epoch
 case neg=>rw[oz c2,bD (λe=>c2 e.2.1)];rfl
 rw[iP c2,cond_false]
 by_cases c3:a.Pairs.length=b.Pairs.length
 case neg=>rw[oz (by omega),bD (λe=>c3 (by rw[e.2.2.1]))];rfl
 rw[iP (by omega),cond_false]
 by_cases c4:a.fu.length=b.fu.length
 case neg=>rw[oz (by omega),bD (λe=>c4 (by rw[e.2.2.2]))];rfl
 rw[iP (by omega),cond_false,ak]
 simp only[jY,cond_false]
 obtain⟨e,e1,e2⟩:=ZB a.Pairs b.Pairs _ adX h1 c3 (sI a b) (λ_=>rfl)
 obtain⟨e',e1',e2'⟩:=ZB a.fu b.fu _ adY h2 c4 (sJ a b) (λ_=>rfl)
 unfold GA GD
 rw[e1,ak]
 show cond (jY e) _ _=_
 rw[e2,e1',ak]
 show cond _ _ (cond (jY e') _ _)=_
 rw[e2']
 by_cases p:a.Pairs=b.Pairs<;>by_cases q:a.fu=b.fu<;>simp[p,q,c1,c2]
theorem adZ(y:aB):yw y=some (abo y):=by
 unfold yw w9 abo
 simp only[akh]
 by_cases a:y.Answer.Why=0<;>by_cases b:y.Answer.Why=4<;>by_cases c:y.Answer.Why=5<;>by_cases d:y.Answer.Why=6<;>by_cases e:y.Answer.Value.length≤16 <;>
  simp[a,b,c,d,e,show((y.Answer.Value.length:Int)≤16)↔y.Answer.Value.length≤16 by omega]
theorem Sq(L:List aB)(h:L.length<1000000):gP L=some (L.any λy=>!abo y):=by
 obtain⟨e,e1,e2⟩:=OI L (λy=>!abo y) h (eU L) (λi=>(i:Int)) (λi hi=>by
  unfold eU Fg
  rw[bO (by omega),cond_true,dU hi,ak,adZ,ak,ak,cu (by omega) (by omega),dF]) (by
  unfold eU
  rw[bD (by omega),cond_false])
 unfold gP jg jR
 rw[e1,ak]
 rcases e2 with⟨q,i,rfl⟩ |⟨q,rfl⟩
 ·rw[q]
  simp only[jY,Bu,cond_true,ak]
  rw[bO (by omega)]
 ·rw[q];rfl
def ofS(l:List aB):bM:=l.foldl Ct yO
theorem at1(l:List aB):GoodS (ofS l):=NM l _ ⟨.inl rfl,.inl rfl,.inl rfl,.inl rfl⟩
theorem ags(l:List aB)(h:l.length<1000000000):o_ l=some (ofS l):=by
 have g0:GoodS yO:=⟨.inl rfl,.inl rfl,.inl rfl,.inl rfl⟩
 unfold o_
 have key:zq l (0,yO)=some (l.foldl Ct yO):=by
  refine lI (λi=>((i:Int),(l.take i).foldl Ct yO)) l.length _ (λi hi=>?_) ?_ (by omega)
  ·obtain⟨⟨b,e1,_⟩,_⟩:=JN l[i] _ (NM (l.take i) _ g0)
   unfold jF
   simp only
   rw[bO (by omega),cond_true,dU hi,ak,e1,ak,cu (by omega) (by omega),dF,bG hi,List.foldl_append]
   rfl
  ·unfold jF
   simp only
   rw[bD (by omega),cond_false,List.take_length]
 have e:(0,yO)=((0:Int),(⟨(⟨(⟨0,0,(⟨0,([]:List UInt8)⟩:aJ)⟩:aB),(⟨0,0,(⟨0,([]:List UInt8)⟩:aJ)⟩:aB),(⟨0,0,(⟨0,([]:List UInt8)⟩:aJ)⟩:aB),(⟨0,0,(⟨0,([]:List UInt8)⟩:aJ)⟩:aB)⟩:A4 aB)⟩:bM)):=rfl
 rw[←e,key]
 rfl
def EW(x:aM):Prop:=0≤x.fJ∧x.fJ<6∧1≤x.Epoch∧x.Epoch≤1099511627776∧ofP [] x.Pairs=x.Pairs∧jD (ofS x.fu)=x.fu∧(x.fu.any λy=>!abo y)=false
instance (x:aM):Decidable (EW x):=by unfold EW;infer_instance
theorem akk(x:aM)(h1:x.Pairs.length<1000000)(h2:x.fu.length<1000000):yA x=some (decide (EW x)):=by
 unfold yA yx
 by_cases a1:x.fJ<0
 ·rw[bO a1,bD (show ¬EW x by rintro⟨p,_⟩;omega)];rfl
 rw[bD a1,cond_false]
 by_cases a2:x.fJ≥6
 ·rw[bO a2,bD (show ¬EW x by rintro⟨_,p,_⟩;omega)];rfl
 rw[bD a2,cond_false]
 by_cases a3:x.Epoch<1
 ·rw[bO a3,bD (show ¬EW x by rintro⟨_,_,p,_⟩;omega)];rfl
 rw[bD a3,cond_false]
 by_cases a4:x.Epoch>1099511627776
 ·rw[bO a4,bD (show ¬EW x by rintro⟨_,_,_,p,_⟩;omega)];rfl
 rw[bD a4,cond_false,ak]
 simp only[jY,cond_false]
 have hT:(ofP [] x.Pairs).length≤8:=(adV _ _ ok0).2
 have hS:=OE (ofS x.fu)
 have e:Jt x=some ⟨⟨ofP [] x.Pairs⟩,ofS x.fu,x.fJ,x.Epoch⟩:=by
  unfold Jt
  rw[aki _ (by omega),ak,ags _ (by omega)]
  rfl
 have j1:qx ⟨⟨ofP [] x.Pairs⟩,ofS x.fu,x.fJ,x.Epoch⟩ x=some (decide (ofP [] x.Pairs=x.Pairs∧jD (ofS x.fu)=x.fu)):=by
  unfold qx sM
  rw[EU (by simp only;omega),ak,at0 _ _ (by simp only;omega),ak,agr,ak,equalS _ _ (by simp only;omega),ak]
  by_cases a:ofP [] x.Pairs=x.Pairs<;>by_cases b:jD (ofS x.fu)=x.fu<;>simp[a,b]
 rw[e,ak,j1,ak,Sq _ h2,ak]
 by_cases b1:ofP [] x.Pairs=x.Pairs
 case neg=>rw[bD (show ¬(ofP [] x.Pairs=x.Pairs∧_)by rintro⟨p,_⟩;exact b1 p),bD (show ¬EW x by rintro⟨_,_,_,_,p,_⟩;exact b1 p)];rfl
 by_cases b2:jD (ofS x.fu)=x.fu
 case neg=>rw[bD (show ¬(ofP [] x.Pairs=x.Pairs∧_)by rintro⟨_,p⟩;exact b2 p),bD (show ¬EW x by rintro⟨_,_,_,_,_,p,_⟩;exact b2 p)];rfl
 rw[bO (show(ofP [] x.Pairs=x.Pairs∧_)from⟨b1,b2⟩),cond_true]
 cases b3:(x.fu.any λy=>!abo y)
 ·rw[bO (show EW x from⟨by omega,by omega,by omega,by omega,b1,b2,b3⟩)];rfl
 ·rw[bD (show ¬EW x by rintro⟨_,_,_,_,_,_,p⟩;rw[b3]at p;cases p)];rfl
def Ev:bJ:=⟨0,0,⟨0,[],[],[]⟩⟩
theorem anJ(x y:bJ):(x.Client==y.Client&&(x.Seq==y.Seq&&(x.Op.Kind==y.Op.Kind&&(x.Op.Key==y.Op.Key&&(x.Op.Value==y.Op.Value&&(x.Op.Old==y.Op.Old&&true))))))=true↔x=y:=by
 obtain⟨a,b,c,d,e,f⟩:=x;obtain⟨a',b',c',d',e',f'⟩:=y
 simp
instance:DecidableEq bJ:=λa b=>decidable_of_iff _ (anJ a b)
theorem ahV(x y:bJ):(x.Client==y.Client&&(x.Seq==y.Seq&&(x.Op.Kind==y.Op.Kind&&(x.Op.Key==y.Op.Key&&(x.Op.Value==y.Op.Value&&(x.Op.Old==y.Op.Old&&true))))))=decide (x=y):=by
 rw[Bool.eq_iff_iff,anJ,decide_eq_true_eq]
def nM(r:bJ):Bool:=decide (r=Ev)||decide (lT r)
theorem JQ(r:bJ):qm r=some (nM r):=by
 unfold qm
 rw[show(r.Client==0&&(r.Seq==0&&(r.Op.Kind==0&&(r.Op.Key==([]:List UInt8)&&(r.Op.Value==([]:List UInt8)&&(r.Op.Old==([]:List UInt8)&&true))))))=decide (r=Ev)from ahV r Ev]
 unfold nM
 by_cases z:r=Ev
 ·rw[bO z];rfl
 rw[bD z,cond_false,Bool.false_or]
 by_cases h1:r.Client≥0
 case neg=>rw[bD h1,bD (show ¬lT r by unfold lT;omega)];rfl
 rw[bO h1,cond_true]
 by_cases h2:r.Client<4
 case neg=>rw[bD h2,bD (show ¬lT r by unfold lT;omega)];rfl
 rw[bO h2,cond_true]
 by_cases h3:r.Seq≥1
 case neg=>rw[bD h3,bD (show ¬lT r by unfold lT;omega)];rfl
 rw[bO h3,cond_true]
 by_cases h4:r.Seq≤4611686018427387903
 case neg=>rw[bD h4,bD (show ¬lT r by unfold lT;omega)];rfl
 rw[bO h4,cond_true,aar,ak]
 cases h5:uG r.Op
 ·rw[bD (show ¬lT r by unfold lT;rw[h5];simp)]
 ·rw[bO (show lT r by unfold lT;exact⟨by omega,by omega,by omega,by omega,h5⟩)]
theorem amN{o:bZ}(h:uG o=true):1≤o.Kind∧o.Kind≤4∧o.Key.length≤8∧o.Value.length≤16∧o.Old.length≤16:=by
 unfold uG at h
 simp only[Bool.and_eq_true,decide_eq_true_eq]at h
 omega
theorem Im{r:bJ}(h:nM r=true):uR r.Client∧uR r.Seq∧uR r.Op.Kind∧r.Op.Key.length≤8∧r.Op.Value.length≤16∧r.Op.Old.length≤16:=by
 unfold nM at h
 rcases Bool.or_eq_true_iff.1 h with h | h
 ·have h:=of_decide_eq_true h
  subst h
  refine⟨?_, ?_, ?_, ?_, ?_, ?_⟩<;>simp[Ev,uR]
 ·obtain⟨h1,h2,h3,h4,h5⟩:=of_decide_eq_true h
  have:=amN h5
  unfold uR
  omega
def abp(r:bJ):List UInt8:=[r.Client,r.Seq,r.Op.Kind].flatMap eN++[r.Op.Key,r.Op.Value,r.Op.Old].flatMap eT
theorem l9(x:Int)(h:uR x):(eN x).length≤9:=by unfold uR at h;exact MF (by omega)
theorem ad1{r:bJ}(h:nM r=true):(abp r).length≤100:=by
 obtain⟨h1,h2,h3,h4,h5,h6⟩:=Im h
 have a1:=l9 _ h1
 have a2:=l9 _ h2
 have a3:=l9 _ h3
 have b1:=Zy r.Op.Key (by unfold okS;omega)
 have b2:=Zy r.Op.Value (by unfold okS;omega)
 have b3:=Zy r.Op.Old (by unfold okS;omega)
 unfold abp
 simp only[List.flatMap_cons,List.flatMap_nil,aD,bN]
 omega
theorem ahW(b:List UInt8)(r:bJ)(hb:b.length<800000000):DF b r=some (if nM r then b++abp r else []):=by
 unfold DF
 rw[JQ,ak]
 cases h:nM r
 ·rfl
 obtain⟨h1,h2,h3,h4,h5,h6⟩:=Im h
 have hl:=ad1 h
 have hp:=kH b (l:=[r.Client,r.Seq,r.Op.Kind]) (λx hx=>by
  simp only[List.mem_cons,List.not_mem_nil,or_false]at hx
  rcases hx with rfl | rfl | rfl<;>assumption)
 unfold abp at hl
 rw[aD]at hl
 simp only[Bool.not_true,cond_false,if_true]
 rw[r_ _ _ (by simp only[bA,bN];omega),ak,hp,VT _ _ (by rw[aD];omega) (by simp),ak]
 unfold abp
 rw[bR]
def qI(a:aJ):Bool:=decide (0≤a.Why)&&decide (a.Why≤11)&&decide (a.Value.length≤16)
theorem D9(a:aJ):lJ a=some (qI a):=by
 unfold lJ qI
 by_cases h1:0≤a.Why
 case neg=>rw[bD (show ¬a.Why≥0 by omega)];rfl
 rw[bO (show a.Why≥0 by omega),cond_true,Bool.true_and]
 by_cases h2:a.Why≤11
 case neg=>rw[bD h2];rfl
 rw[bO h2,cond_true,Bool.true_and]
 congr 1
 rw[decide_eq_decide]
 omega
def ZC(a:aJ):List UInt8:=eN a.Why++eT a.Value
theorem Io{a:aJ}(h:qI a=true):uR a.Why∧a.Value.length≤16:=by
 unfold qI at h
 simp only[Bool.and_eq_true,decide_eq_true_eq]at h
 unfold uR
 omega
theorem X4{a:aJ}(h:qI a=true):(ZC a).length≤40:=by
 obtain⟨h1,h2⟩:=Io h
 have a1:=l9 _ h1
 have b1:=Zy a.Value (by unfold okS;omega)
 unfold ZC
 rw[aD]
 omega
theorem X5(b:List UInt8)(a:aJ)(hb:b.length<800000000):rZ b a=some (if qI a then b++ZC a else []):=by
 unfold rZ
 rw[D9,ak]
 cases h:qI a
 ·rfl
 obtain⟨h1,h2⟩:=Io h
 have hl:=X4 h
 have hp:=kH b (l:=[a.Why]) (λx hx=>by
  rw[List.mem_singleton.1 hx]
  exact h1)
 unfold ZC at hl
 rw[aD]at hl
 simp only[Bool.not_true,cond_false,if_true]
 rw[r_ _ _ (by simp only[bA,bN];omega),ak,hp,VT _ _ (by simp only[List.flatMap_cons,List.flatMap_nil,List.append_nil,aD];omega) (by simp),ak]
 unfold ZC
 simp
def ad2(x:aM):Bool:=decide (x.fJ=0)&&decide (x.Epoch=0)&&decide (x.Pairs.length=0)&&decide (x.fu.length=0)
theorem ad3(x:aM):Jr x=some (ad2 x):=by
 unfold Jr ad2
 simp only[anu]
 by_cases h1:x.fJ=0
 case neg=>rw[bD h1];rfl
 rw[bO h1,cond_true,Bool.true_and]
 by_cases h2:x.Epoch=0
 case neg=>rw[bD h2];rfl
 rw[bO h2,cond_true,Bool.true_and]
 by_cases h3:x.Pairs.length=0
 case neg=>rw[bD h3,bD (show ¬((x.Pairs.length:Int)=0)by omega)];rfl
 rw[bO h3,bO (show((x.Pairs.length:Int)=0)by omega),cond_true,Bool.true_and]
 congr 1
 rw[decide_eq_decide]
 omega
def kT(x:aM):Bool:=ad2 x||decide (EW x)
theorem EX(x:aM)(h1:x.Pairs.length<1000000)(h2:x.fu.length<1000000):mM x=some (kT x):=by
 unfold mM kT
 rw[ad3,ak]
 cases ad2 x
 ·rw[cond_false,akk x h1 h2];rfl
 ·rfl
theorem aym(l:List aF):OkP (ofP [] l):=atY l [] λp hp=>by simp at hp
theorem zK{x:aM}(h:kT x=true):uR x.fJ∧uR x.Epoch∧x.Pairs.length≤8∧x.fu.length≤4∧(∀p∈x.Pairs,p.Key.length≤8∧p.Value.length≤16)∧∀s∈x.fu,uR s.Client∧uR s.Seq∧qI s.Answer=true:=by
 unfold kT at h
 rcases Bool.or_eq_true_iff.1 h with h | h
 ·unfold ad2 at h
  simp only[Bool.and_eq_true,decide_eq_true_eq]at h
  obtain⟨⟨⟨a,b⟩,c⟩,d⟩:=h
  have c:=List.eq_nil_of_length_eq_zero c
  have d:=List.eq_nil_of_length_eq_zero d
  rw[a,b,c,d]
  refine⟨by simp[uR],by simp[uR],by simp,by simp,by simp,by simp⟩
 ·obtain⟨h1,h2,h3,h4,h5,h6,h7⟩:=of_decide_eq_true h
  have hT:=(adV x.Pairs [] ok0).2
  have hP:=aym x.Pairs
  have hS:=OE (ofS x.fu)
  have hG:=at1 x.fu
  rw[h5]at hT hP
  rw[h6]at hS
  refine⟨by unfold uR;omega,by unfold uR;omega,hT,hS,λp hp=>?_,λs hs=>?_⟩
  ·have:=hP p hp
   unfold amM at this
   simp only[Bool.or_eq_false_iff,decide_eq_false_iff_not]at this
   omega
  ·have ha:abo s=true:=by
    rw[List.any_eq_false]at h7
    have:=h7 s hs
    simpa using this
   have hm:s∈jD (ofS x.fu):=by rw[h6];exact hs
   have hc:0<s.Seq∧0≤s.Client∧s.Client<4:=by
    unfold jD at hm
    rw[List.mem_filter]at hm
    obtain⟨m,p⟩:=hm
    have p:=of_decide_eq_true p
    obtain⟨g0,g1,g2,g3⟩:=hG
    simp only[A4.U5,List.mem_cons,List.not_mem_nil,or_false]at m
    rcases m with rfl | rfl | rfl | rfl
    ·rcases g0 with k |⟨_,k⟩<;>omega
    ·rcases g1 with k |⟨_,k⟩<;>omega
    ·rcases g2 with k |⟨_,k⟩<;>omega
    ·rcases g3 with k |⟨_,k⟩<;>omega
   unfold abo at ha
   simp only[Bool.and_eq_true,Bool.or_eq_true,decide_eq_true_eq]at ha
   refine⟨by unfold uR;omega,by unfold uR;omega, ?_⟩
   unfold qI
   simp only[Bool.and_eq_true,decide_eq_true_eq]
   omega
def tq(p:aF):List UInt8:=eT p.Key++eT p.Value
def uH(s:aB):List UInt8:=[s.Client,s.Seq].flatMap eN++ZC s.Answer
def akl(x:aM):List UInt8:=[x.fJ,x.Epoch].flatMap eN++(eN (x.Pairs.length:Int)++(x.Pairs.flatMap tq++(eN (x.fu.length:Int)++x.fu.flatMap uH)))
theorem EY{α:Type}(e:α→List UInt8)(m:Nat):∀(l:List α),(∀x∈l,(e x).length≤m)→(l.flatMap e).length≤m*l.length
 | [],_=>by simp
 | x::l,h=>by
  have h1:=EY e m l λy hy=>h y (by simp[hy])
  have h2:=h x (by simp)
  rw[List.flatMap_cons,aD,bA,Nat.mul_add]
  omega
theorem Iz{α:Type}(e:α→List UInt8)(l:List α)(i:Nat):((l.take i).flatMap e).length≤(l.flatMap e).length:=by
 have:(l.flatMap e).length=((l.take i).flatMap e).length+((l.drop i).flatMap e).length:=by
  rw[←aD,←List.flatMap_append,List.take_append_drop]
 omega
theorem ZE{p:aF}(h:p.Key.length≤8∧p.Value.length≤16):(tq p).length≤60:=by
 have b1:=Zy p.Key (by unfold okS;omega)
 have b2:=Zy p.Value (by unfold okS;omega)
 unfold tq
 rw[aD]
 omega
theorem ZF{s:aB}(h:uR s.Client∧uR s.Seq∧qI s.Answer=true):(uH s).length≤60:=by
 have a1:=l9 _ h.1
 have a2:=l9 _ h.2.1
 have b1:=X4 h.2.2
 unfold uH
 simp only[List.flatMap_cons,List.flatMap_nil,aD,bN]
 omega
theorem VY{x:aM}(h:kT x=true):(x.Pairs.flatMap tq).length≤480∧(x.fu.flatMap uH).length≤240∧(akl x).length≤800:=by
 obtain⟨h1,h2,h3,h4,h5,h6⟩:=zK h
 have a1:=l9 _ h1
 have a2:=l9 _ h2
 have a3:=l9 (x.Pairs.length:Int) (by unfold uR;omega)
 have a4:=l9 (x.fu.length:Int) (by unfold uR;omega)
 have b1:=EY tq 60 x.Pairs λp hp=>ZE (h5 p hp)
 have b2:=EY uH 60 x.fu λp hp=>ZF (h6 p hp)
 have m1:60*x.Pairs.length≤480:=by omega
 have m2:60*x.fu.length≤240:=by omega
 refine⟨by omega,by omega, ?_⟩
 unfold akl
 simp only[List.flatMap_cons,List.flatMap_nil,aD,bN]
 omega
theorem ad4(b:List UInt8)(x:aM)(hb:b.length<700000000)(h1:x.Pairs.length<1000000)(h2:x.fu.length<1000000):yD b x=some (if kT x then b++akl x else []):=by
 unfold yD
 rw[EX x h1 h2,ak]
 cases h:kT x
 ·rfl
 obtain⟨g1,g2,g3,g4,g5,g6⟩:=zK h
 obtain⟨c1,c2,c3⟩:=VY h
 have a1:=l9 _ g1
 have a2:=l9 _ g2
 have a3:=l9 (x.Pairs.length:Int) (by unfold uR;omega)
 have a4:=l9 (x.fu.length:Int) (by unfold uR;omega)
 have hp:=kH b (l:=[x.fJ,x.Epoch,(x.Pairs.length:Int)]) (λz hz=>by
  simp only[List.mem_cons,List.not_mem_nil,or_false]at hz
  rcases hz with rfl | rfl | rfl
  ·exact g1
  ·exact g2
  ·unfold uR;omega)
 simp only[Bool.not_true,cond_false,if_true]
 rw[r_ _ _ (by simp only[bA,bN];omega),ak,hp]
 generalize hB:b++[x.fJ,x.Epoch,(x.Pairs.length:Int)].flatMap eN=B at *
 have hBl:B.length≤b.length+27:=by
  rw[←hB]
  simp only[List.flatMap_cons,List.flatMap_nil,aD,bN]
  omega
 have l0:w_ x (B,0)=some (B++x.Pairs.flatMap tq):=by
  have e0:(B,(0:Int))=(B++(x.Pairs.take 0).flatMap tq,((0:Nat):Int)):=by simp
  unfold w_
  rw[e0]
  refine lI (λi=>(B++(x.Pairs.take i).flatMap tq,(i:Int))) x.Pairs.length _ (λi hi=>?_) ?_ (by omega)
  ·have h5:(x.Pairs.take (i+1)).flatMap tq=(x.Pairs.take i).flatMap tq++tq x.Pairs[i]:=by
    rw[bG hi,List.flatMap_append]
    simp
   have h6:=Iz tq x.Pairs i
   have h7:=ZE (g5 _ (List.getElem_mem hi))
   unfold tq at h7
   rw[aD]at h7
   unfold lU
   simp only
   rw[bO (by omega),cond_true,dU hi,ak,VT _ _ (by simp only[aD,List.flatMap_cons,List.flatMap_nil,bN];omega) (by simp),ak,cu (by omega) (by omega),dF,h5]
   unfold tq
   simp
  ·unfold lU
   simp only
   rw[bD (by omega),cond_false,List.take_length]
 rw[l0,ak]
 have hp2:=kH (B++x.Pairs.flatMap tq) (l:=[(x.fu.length:Int)]) (λz hz=>by
  rw[List.mem_singleton.1 hz]
  unfold uR
  omega)
 rw[r_ _ _ (by simp only[aD,bA,bN];omega),ak,hp2]
 generalize hD:B++x.Pairs.flatMap tq++[(x.fu.length:Int)].flatMap eN=D at *
 have hDl:D.length≤b.length+600:=by
  rw[←hD]
  simp only[List.flatMap_cons,List.flatMap_nil,aD,bN]
  omega
 have l1:xg x (D,0)=some (D++x.fu.flatMap uH):=by
  have e0:(D,(0:Int))=(D++(x.fu.take 0).flatMap uH,((0:Nat):Int)):=by simp
  unfold xg
  rw[e0]
  refine lI (λi=>(D++(x.fu.take i).flatMap uH,(i:Int))) x.fu.length _ (λi hi=>?_) ?_ (by omega)
  ·have h5:(x.fu.take (i+1)).flatMap uH=(x.fu.take i).flatMap uH++uH x.fu[i]:=by
    rw[bG hi,List.flatMap_append]
    simp
   have h6:=Iz uH x.fu i
   obtain⟨q1,q2,q3⟩:=g6 _ (List.getElem_mem hi)
   have h7:=ZF ⟨q1,q2,q3⟩
   unfold uH at h7
   rw[aD]at h7
   have hp3:=kH (D++(x.fu.take i).flatMap uH) (l:=[x.fu[i].Client,x.fu[i].Seq]) (λz hz=>by
    simp only[List.mem_cons,List.not_mem_nil,or_false]at hz
    rcases hz with rfl | rfl<;>assumption)
   unfold lV
   simp only
   rw[bO (by omega),cond_true,dU hi,ak,r_ _ _ (by simp only[aD,bA,bN];omega),ak,hp3,X5 _ _ (by simp only[aD];omega),q3,ak,cu (by omega) (by omega),dF,h5]
   unfold uH
   simp
  ·unfold lV
   simp only
   rw[bD (by omega),cond_false,List.take_length]
 rw[l1,ak,←hD,←hB]
 unfold akl
 simp
theorem Lays.then{α β:Type}{p:Pr α}{x:α}{e:List UInt8}{q:α→Pr β}{y:β}(h:Lays p x e)(g:∀r,q x r=.inr (y,r)):Lays (cZ p q) y e:=h.last g
def mkQ(n:List Int)(s:List (List UInt8)):bJ:=⟨n.getD 0 0,n.getD 1 0,⟨n.getD 2 0,s.getD 0 [],s.getD 1 [],s.getD 2 []⟩⟩
def VZ:Pr bJ:=cZ (fU gG 3) λn=>cZ (fU j5 3) λs=>xH nM (mkQ n s)
theorem anK:Shr VZ:=ru (rz h_ 3) λ_=>ru (rz AU 3) λ_=>ahR _ _
theorem ahX:Err VZ:=jV (j6 gQ 3) λ_=>jV (j6 uF 3) λ_=>ahS _ _
theorem at5{r:bJ}(h:nM r=true):Lays VZ r (abp r):=by
 obtain⟨h1,h2,h3,h4,h5,h6⟩:=Im h
 have a:=Lays.rep (p:=gG) (enc:=eN) [r.Client,r.Seq,r.Op.Kind] (λx hx=>by
  simp only[List.mem_cons,List.not_mem_nil,or_false]at hx
  rcases hx with rfl | rfl | rfl<;>exact UM.lays (by assumption))
 have b:=Lays.rep (p:=j5) (enc:=eT) [r.Op.Key,r.Op.Value,r.Op.Old] (λx hx=>by
  simp only[List.mem_cons,List.not_mem_nil,or_false]at hx
  rcases hx with rfl | rfl | rfl<;>exact amG.lays (by unfold okS;omega))
 exact a.seq (b.last λs=>by
  show xH nM r s=_
  unfold xH
  rw[if_pos h])
theorem oU{α:Type}{l:List α}(d:α){n:Nat}(hl:l.length=n)(i:Nat)(hi:i<n):dH l (i:Int)=some (l.getD i d):=by
 rw[dU (by omega),List.getD_eq_getElem?_getD,bQ (by omega)]
 rfl
theorem ae9 (b:List UInt8) (hb:b.length<800000000):tJ b=some (match VZ b with
  |.inl e=>(Ev,[],e)
  |.inr (r,s)=>(r,s,0)):=by
 unfold tJ VZ
 have ht:=Sj b 3 (by omega) (by omega)
 rw[show((3:Nat):Int)=3 from rfl]at ht
 rw[ht,ak]
 cases h1:fU gG 3 b with
 | inl e =>
  have he:e≠0:=by rcases j6 gQ 3 _ _ h1 with rfl | rfl<;>omega
  rw[yN h1]
  simp only
  rw[oz he]
  rfl
 | inr y =>
  obtain⟨n,c⟩:=y
  have hn:=Bj h1
  have hc:=rz h_ 3 _ _ _ h1
  rw[wR h1]
  have hx:=aao c 3 (by omega) (by omega)
  rw[show((3:Nat):Int)=3 from rfl]at hx
  simp only
  rw[iP rfl,cond_false,hx,ak]
  cases h2:fU j5 3 c with
  | inl e =>
   have he:e≠0:=by rcases j6 uF 3 _ _ h2 with rfl | rfl<;>omega
   rw[yN h2]
   simp only
   rw[oz he]
   rfl
  | inr y =>
   obtain⟨s,r⟩:=y
   have hs:=Bj h2
   rw[wR h2]
   simp only
   rw[iP rfl,cond_false]
   have n0:=oU (0:Int) hn 0 (by omega)
   have n1:=oU (0:Int) hn 1 (by omega)
   have n2:=oU (0:Int) hn 2 (by omega)
   have s0:=oU ([]:List UInt8) hs 0 (by omega)
   have s1:=oU ([]:List UInt8) hs 1 (by omega)
   have s2:=oU ([]:List UInt8) hs 2 (by omega)
   rw[show((0:Nat):Int)=0 from rfl]at n0 s0
   rw[show((1:Nat):Int)=1 from rfl]at n1 s1
   rw[show((2:Nat):Int)=2 from rfl]at n2 s2
   rw[n0,ak,n1,ak,n2,ak,s0,ak,s1,ak,s2,ak,JQ,ak]
   show cond (!nM (mkQ n s)) _ (some (mkQ n s,r,0))=_
   unfold xH
   cases nM (mkQ n s)<;>rfl
def X6:aJ:=⟨0,[]⟩
def Qg:Pr aJ:=cZ gG λn=>cZ j5 λs=>xH qI ⟨n,s⟩
theorem abN:Shr Qg:=ru h_ λ_=>ru AU λ_=>ahR _ _
theorem X7:Err Qg:=jV gQ λ_=>jV uF λ_=>ahS _ _
theorem akm{a:aJ}(h:qI a=true):Lays Qg a (ZC a):=by
 obtain⟨h1,h2⟩:=Io h
 exact(UM.lays h1).seq ((amG.lays (show okS a.Value by unfold okS;omega)).last λs=>by
  show xH qI a s=_
  unfold xH
  rw[if_pos h])
theorem at6 (b:List UInt8) (hb:b.length<900000000):Iy b=some (match gG b with
  |.inl e=>(0,[],e)
  |.inr (n,r)=>(n,r,0)):=by
 rw[amF b (by omega)]
 unfold I5 gG
 rcases mX b with e | e |⟨v,k,e,_⟩<;>rw[e]<;>rfl
theorem UO (b:List UInt8) (hb:b.length<800000000):kY b=some (match Qg b with
  |.inl e=>(X6,[],e)
  |.inr (a,s)=>(a,s,0)):=by
 unfold kY Qg
 rw[at6 b (by omega),ak]
 cases h1:gG b with
 | inl e =>
  have he:e≠0:=by rcases gQ _ _ h1 with rfl | rfl<;>omega
  rw[yN h1]
  simp only
  rw[oz he]
  rfl
 | inr y =>
  obtain⟨n,c⟩:=y
  have hc:=h_ _ _ _ h1
  rw[wR h1]
  simp only
  rw[iP rfl,cond_false,Sk c (by omega),ak]
  cases h2:j5 c with
  | inl e =>
   have he:e≠0:=by rcases uF _ _ h2 with rfl | rfl<;>omega
   rw[yN h2]
   simp only
   rw[oz he]
   rfl
  | inr y =>
   obtain⟨s,r⟩:=y
   rw[wR h2]
   simp only
   rw[iP rfl,cond_false,D9,ak]
   unfold xH
   cases qI ⟨n,s⟩<;>rfl
def xC:Pr aF:=cZ (fU j5 2) λs b=>.inr (⟨s.getD 0 [],s.getD 1 []⟩,b)
def uI:Pr aB:=cZ (fU gG 2) λn=>cZ Qg λa b=>.inr (⟨n.getD 0 0,n.getD 1 0,a⟩,b)
def rE(m:Int):Pr Int:=cZ gG λn b=>if n≤m then .inr (n,b)else .inl 2
def Qh:Pr aM:=cZ (fU gG 2) λn=>cZ (rE 8) λc=>cZ (fU xC c.toNat) λps=>cZ (rE 4) λd=>cZ (fU uI d.toNat) λss=>xH kT ⟨n.getD 0 0,n.getD 1 0,ps,ss⟩
theorem akn{α:Type}(x:α):Shr (λb=>.inr (x,b)):=λb y r h=>by
 simp only[Sum.inr.injEq,aS]at h
 rw[h.2]
 exact Nat.le_refl _
theorem ako{α:Type}(x:α):Err (λb=>.inr (x,b)):=λb e h=>by cases h
theorem Fv(m:Int):Shr (rE m):=ru h_ λn b y r h=>by
 split at h
 ·simp only[Sum.inr.injEq,aS]at h
  rw[h.2]
  exact Nat.le_refl _
 ·cases h
theorem Bl(m:Int):Err (rE m):=jV gQ λn b e h=>by
 split at h
 ·cases h
 ·exact .inl (Sum.inl.inj h).symm
theorem ad5{m:Int}{b r:List UInt8}{n:Int}(h:rE m b=.inr (n,r)):0≤n∧n≤m:=by
 unfold rE cZ at h
 split at h
 ·cases h
 ·rename_i e
  simp only at h
  split at h
  ·have:=atS e
   unfold uR at this
   simp only[Sum.inr.injEq,aS]at h
   omega
  ·cases h
theorem Sr:Shr xC:=ru (rz AU 2) λ_=>akn _
theorem Sv:Err xC:=jV (j6 uF 2) λ_=>ako _
theorem X8:Shr uI:=ru (rz h_ 2) λ_=>ru abN λ_=>akn _
theorem Sw:Err uI:=jV (j6 gQ 2) λ_=>jV X7 λ_=>ako _
theorem ayn:Shr Qh:=ru (rz h_ 2) λ_=>ru (Fv 8) λ_=>ru (rz Sr _) λ_=>ru (Fv 4) λ_=>ru (rz X8 _) λ_=>ahR _ _
theorem anL:Err Qh:=jV (j6 gQ 2) λ_=>jV (Bl 8) λ_=>jV (j6 Sv _) λ_=>jV (Bl 4) λ_=>jV (j6 Sw _) λ_=>ahS _ _
theorem apc{p:aF}(h:p.Key.length≤8∧p.Value.length≤16):Lays xC p (tq p):=by
 have b:=Lays.rep (p:=j5) (enc:=eT) [p.Key,p.Value] (λx hx=>by
  simp only[List.mem_cons,List.not_mem_nil,or_false]at hx
  rcases hx with rfl | rfl<;>exact amG.lays (by unfold okS;omega))
 have:=b.last (q:=λs b=>.inr (⟨s.getD 0 [],s.getD 1 []⟩,b)) (y:=p) λs=>rfl
 simp only[List.flatMap_cons,List.flatMap_nil,List.append_nil]at this
 exact this
theorem apd{s:aB}(h:uR s.Client∧uR s.Seq∧qI s.Answer=true):Lays uI s (uH s):=by
 have a:=Lays.rep (p:=gG) (enc:=eN) [s.Client,s.Seq] (λx hx=>by
  simp only[List.mem_cons,List.not_mem_nil,or_false]at hx
  rcases hx with rfl | rfl
  ·exact UM.lays h.1
  ·exact UM.lays h.2.1)
 exact a.seq ((akm h.2.2).last λ_=>rfl)
theorem Sy{m:Int}{n:Nat}(h:(n:Int)≤m)(h2:n≤4611686018427387903):Lays (rE m) (n:Int) (eN (n:Int)) :=
 (UM.lays (show uR (n:Int)by unfold uR;omega)).last λ_=>by rw[if_pos h]
theorem at7{x:aM}(h:kT x=true):Lays Qh x (akl x):=by
 obtain⟨h1,h2,h3,h4,h5,h6⟩:=zK h
 have a:=Lays.rep (p:=gG) (enc:=eN) [x.fJ,x.Epoch] (λz hz=>by
  simp only[List.mem_cons,List.not_mem_nil,or_false]at hz
  rcases hz with rfl | rfl
  ·exact UM.lays h1
  ·exact UM.lays h2)
 have b:=Lays.rep (p:=xC) (enc:=tq) x.Pairs λp hp=>apc (h5 p hp)
 have c:=Lays.rep (p:=uI) (enc:=uH) x.fu λs hs=>apd (h6 s hs)
 exact a.seq ((Sy (by omega) (by omega)).seq (b.seq ((Sy (by omega) (by omega)).seq (c.last λs=>by
  show xH kT x s=_
  unfold xH
  rw[if_pos h]))))
theorem amO(n:Nat)(h:n<1000000):aiO 8 (n:Int)=true:=by
 unfold aiO
 simp
 omega
theorem wC (n:Nat) (r:aU) (hn:n<1000000) (hb:r.b.length<800000000):iE (n:Int) r=some (if r.e=0 then (match fU gG n r.b with
  |.inl e=>(List.replicate n 0,⟨[],e⟩)
  |.inr (l,s)=>(l,⟨s,0⟩))else (List.replicate n 0,r)):=by
 unfold iE
 rw[iT (amO n hn),bL]
 by_cases he:r.e=0
 ·rw[xR he,cond_true,if_pos he,Sj r.b n (by omega) hn,ak]
  cases h:fU gG n r.b with
  | inl e =>
   have:e≠0:=by rcases j6 gQ n _ _ h with rfl | rfl<;>omega
   simp only
   rw[vR this]
   rfl
  | inr y=>rfl
 ·rw[vR he,cond_false,if_neg he]
theorem aua(r:aU)(hb:r.b.length<800000000)(he:r.e=0){e:Int}(h:gG r.b=.inl e):iE 1 r=some ([0],⟨[],e⟩):=by
 have h1:=wC 1 r (by omega) hb
 rw[show((1:Nat):Int)=1 from rfl,if_pos he,show fU gG 1 r.b=.inl e from yN h]at h1
 exact h1
theorem agt(r:aU)(hb:r.b.length<800000000)(he:r.e=0){n:Int}{s:List UInt8}(h:gG r.b=.inr (n,s)):iE 1 r=some ([n],⟨s,0⟩):=by
 have h1:=wC 1 r (by omega) hb
 rw[show((1:Nat):Int)=1 from rfl,if_pos he,show fU gG 1 r.b=.inr ([n],s)by simp only[fU];rw[wR h];rfl]at h1
 exact h1
theorem agu(m:Nat)(r:aU)(hb:r.b.length<800000000)(he:r.e≠0):ig (m:Int) r=some (0,r):=by
 have h1:=wC 1 r (by omega) hb
 rw[show((1:Nat):Int)=1 from rfl,if_neg he]at h1
 unfold ig
 rw[h1,ak]
 simp only[List.replicate]
 rw[show dH [(0:Int)] 0=some 0 from rfl,ak,bD (by omega),cond_false]
theorem agv(m:Nat)(r:aU)(hb:r.b.length<800000000)(he:r.e=0){e:Int}(h:rE m r.b=.inl e):∃c,ig (m:Int) r=some (0,⟨c,e⟩)∧c.length≤r.b.length:=by
 unfold rE at h
 unfold ig
 cases hn:gG r.b with
 | inl e' =>
  rw[yN hn]at h
  obtain rfl:=Sum.inl.inj h
  rw[aua r hb he hn,ak]
  rw[show dH [(0:Int)] 0=some 0 from rfl,ak,bD (by omega),cond_false]
  exact⟨_,rfl,by simp⟩
 | inr y =>
  obtain⟨n,s⟩:=y
  have:=h_ _ _ _ hn
  rw[wR hn]at h
  rw[agt r hb he hn,ak]
  rw[show dH [n] 0=some n from rfl,ak]
  split at h
  ·cases h
  ·rename_i c
   obtain rfl:=Sum.inl.inj h
   rw[bO (by omega),cond_true]
   exact⟨_,rfl,by omega⟩
theorem ad6(m:Nat)(r:aU)(hb:r.b.length<800000000)(he:r.e=0){n:Int}{s:List UInt8}(h:rE m r.b=.inr (n,s)):ig (m:Int) r=some (n,⟨s,0⟩):=by
 unfold rE at h
 unfold ig
 cases hn:gG r.b with
 | inl e'=>rw[yN hn]at h;cases h
 | inr y =>
  obtain⟨n',s'⟩:=y
  rw[wR hn]at h
  split at h
  ·rename_i c
   obtain⟨rfl,rfl⟩:=Prod.mk.inj (Sum.inr.inj h)
   rw[agt r hb he hn,ak]
   rw[show dH [n'] 0=some n' from rfl,ak,bD (by omega),cond_false]
  ·cases h
theorem akp (r:aU) (hb:r.b.length<800000000) (he:r.e=0):lQ r=some (match xC r.b with
  |.inl e=>(⟨[],[]⟩,⟨[],e⟩)
  |.inr (x,s)=>(x,⟨s,0⟩)):=by
 unfold lQ xC
 have hx:=aao r.b 2 (by omega) (by omega)
 rw[show((2:Nat):Int)=2 from rfl]at hx
 rw[xR he,cond_true,hx,ak]
 cases h:fU j5 2 r.b with
 | inl e =>
  have:e≠0:=by rcases j6 uF 2 _ _ h with rfl | rfl<;>omega
  rw[yN h]
  simp only
  rw[vR this]
  rfl
 | inr y =>
  obtain⟨l,s⟩:=y
  have hl:=Bj h
  have s0:=oU ([]:List UInt8) hl 0 (by omega)
  have s1:=oU ([]:List UInt8) hl 1 (by omega)
  rw[show((0:Nat):Int)=0 from rfl]at s0
  rw[show((1:Nat):Int)=1 from rfl]at s1
  rw[wR h]
  simp only
  rw[xR rfl,cond_true,s0,ak,s1,ak]
theorem ape(r:aU)(he:r.e≠0):lQ r=some (⟨[],[]⟩,r):=by
 unfold lQ
 rw[vR he,cond_false]
theorem akq (r:aU) (hb:r.b.length<800000000) (he:r.e=0):match uI r.b with
  |.inl e=>∃x,jZ r=some (x,⟨[],e⟩)
  |.inr (x,s)=>jZ r=some (x,⟨s,0⟩):=by
 unfold jZ uI
 have hx:=wC 2 r (by omega) hb
 rw[show((2:Nat):Int)=2 from rfl,if_pos he]at hx
 rw[hx]
 cases h:fU gG 2 r.b with
 | inl e =>
  have:e≠0:=by rcases j6 gQ 2 _ _ h with rfl | rfl<;>omega
  rw[yN h]
  refine⟨⟨0,0,⟨0,[]⟩⟩, ?_⟩
  simp only[ak]
  rw[show dH (List.replicate 2 (0:Int)) 0=some 0 from rfl,ak,show dH (List.replicate 2 (0:Int)) 1=some 0 from rfl,ak,vR this]
  rfl
 | inr y =>
  obtain⟨l,s⟩:=y
  have hl:=Bj h
  have hs:=rz h_ 2 _ _ _ h
  have s0:=oU (0:Int) hl 0 (by omega)
  have s1:=oU (0:Int) hl 1 (by omega)
  rw[show((0:Nat):Int)=0 from rfl]at s0
  rw[show((1:Nat):Int)=1 from rfl]at s1
  rw[wR h]
  simp only[ak]
  rw[s0,ak,s1,ak,xR rfl,cond_true,UO s (by omega),ak]
  cases h2:Qg s with
  | inl e =>
   rw[yN h2]
   exact⟨_,rfl⟩
  | inr y =>
   obtain⟨a,t⟩:=y
   rw[wR h2]
theorem apf(r:aU)(hb:r.b.length<800000000)(he:r.e≠0):jZ r=some (⟨0,0,⟨0,[]⟩⟩,r):=by
 unfold jZ
 have hx:=wC 2 r (by omega) hb
 rw[show((2:Nat):Int)=2 from rfl,if_neg he]at hx
 rw[hx,ak]
 simp only
 rw[show dH (List.replicate 2 (0:Int)) 0=some 0 from rfl,ak,show dH (List.replicate 2 (0:Int)) 1=some 0 from rfl,ak,vR he,cond_false]
theorem sticky {α E:Type} {p:Pr α} (n:Nat) (hn:n<1000000) (f:Int×aU×List α→Option ((Int×aU×List α)⊕(aU×List α))) (m:Nat) (hm:m<700000000) (hp:Shr p) (he:Err p)
  (h1:∀(i:Nat) (b:List UInt8) (acc:List α),i<n→b.length≤m→acc.length=i→match p b with
   |.inl e=>∃x,f ((i:Int),⟨b,0⟩,acc)=some (.inl (((i+1:Nat):Int),⟨[],e⟩,acc++[x]))
   |.inr (x,r)=>f ((i:Int),⟨b,0⟩,acc)=some (.inl (((i+1:Nat):Int),⟨r,0⟩,acc++[x])))
  (h2:∀(i:Nat) (b:List UInt8) (e:Int) (acc:List α),i<n→b.length≤m→e≠0→acc.length=i→∃x,f ((i:Int),⟨b,e⟩,acc)=some (.inl (((i+1:Nat):Int),⟨b,e⟩,acc++[x])))
  (h3:∀r acc,f ((n:Int),r,acc)=some (.inr (r,acc))) :
  (∀(j k:Nat) (b:List UInt8) (e:Int) (acc:List α),j≤n→b.length≤m→e≠0→acc.length=n-j→j<k→∃l,dG f k (((n-j:Nat):Int),⟨b,e⟩,acc)=some (⟨b,e⟩,l)∧l.length=n) ∧
  ∀(j k:Nat) (b:List UInt8) (acc:List α),j≤n→b.length≤m→acc.length=n-j→j<k→match fU p j b with
   |.inl e=>∃l,dG f k (((n-j:Nat):Int),⟨b,0⟩,acc)=some (⟨[],e⟩,l)∧l.length=n
   |.inr (l,r)=>dG f k (((n-j:Nat):Int),⟨b,0⟩,acc)=some (⟨r,0⟩,acc++l):=by
 have bad:∀(j k:Nat) (b:List UInt8) (e:Int) (acc:List α),j≤n→b.length≤m→e≠0→acc.length=n-j→j<k→∃l,dG f k (((n-j:Nat):Int),⟨b,e⟩,acc)=some (⟨b,e⟩,l)∧l.length=n:=by
  intro j
  induction j with
  | zero =>
   intro k b e acc _ _ _ ha hk
   obtain⟨k,rfl⟩:∃i,k=i+1:=⟨k-1,by omega⟩
   exact⟨acc,by simp only[dG,Nat.sub_zero,h3],by omega⟩
  | succ j ih =>
   intro k b e acc hj hb hee ha hk
   obtain⟨k,rfl⟩:∃i,k=i+1:=⟨k-1,by omega⟩
   obtain⟨x,hx⟩:=h2 (n-(j+1)) b e acc (by omega) hb hee ha
   obtain⟨l,i1,i2⟩:=ih k b e (acc++[x]) (by omega) hb hee (by simp;omega) (by omega)
   refine⟨l, ?_,i2⟩
   simp only[dG,hx]
   rw[show n-(j+1)+1=n-j by omega]
   exact i1
 refine⟨bad, ?_⟩
 intro j
 induction j with
 | zero =>
  intro k b acc _ _ ha hk
  obtain⟨k,rfl⟩:∃i,k=i+1:=⟨k-1,by omega⟩
  simp only[fU,dG,Nat.sub_zero,h3,List.append_nil]
 | succ j ih =>
  intro k b acc hj hb ha hk
  obtain⟨k,rfl⟩:∃i,k=i+1:=⟨k-1,by omega⟩
  have h:=h1 (n-(j+1)) b acc (by omega) hb ha
  simp only[fU,cZ]
  cases hx:p b with
  | inl e =>
   rw[hx]at h
   obtain⟨x,h⟩:=h
   have hne:e≠0:=by rcases he _ _ hx with rfl | rfl<;>omega
   obtain⟨l,i1,i2⟩:=bad j k [] e (acc++[x]) (by omega) (by simp) hne (by simp;omega) (by omega)
   refine⟨l, ?_,i2⟩
   simp only[dG,h]
   rw[show n-(j+1)+1=n-j by omega]
   exact i1
  | inr y =>
   obtain⟨x,r⟩:=y
   rw[hx]at h
   have hs:=hp _ _ _ hx
   have i:=ih k r (acc++[x]) (by omega) (by omega) (by simp;omega) (by omega)
   simp only at h ⊢
   cases hy:fU p j r with
   | inl e =>
    rw[hy]at i
    obtain⟨l,i1,i2⟩:=i
    refine⟨l, ?_,i2⟩
    simp only[dG,h]
    rw[show n-(j+1)+1=n-j by omega]
    exact i1
   | inr z =>
    obtain⟨l,s⟩:=z
    rw[hy]at i
    simp only at i ⊢
    simp only[dG,h]
    rw[show n-(j+1)+1=n-j by omega,i]
    simp
def anM:aM:=⟨0,0,[],[]⟩
theorem V3 (x4:Int×aU) (x2 x3:Int) (n:Nat) (hx:x4.1=(n:Int)) (hn:n≤8) (b:List UInt8) (hb:b.length<600000000) :
  (∀e,e≠0→∃l,qz x4 x2 x3 (0,⟨b,e⟩,[])=some (⟨b,e⟩,l)∧l.length=n) ∧
  match fU xC n b with
   |.inl e=>∃l,qz x4 x2 x3 (0,⟨b,0⟩,[])=some (⟨[],e⟩,l)∧l.length=n
   |.inr (l,r)=>qz x4 x2 x3 (0,⟨b,0⟩,[])=some (⟨r,0⟩,l):=by
 obtain⟨p1,p2⟩:=sticky (E:=Unit) (p:=xC) n (by omega) (jd x4 x2 x3) b.length (by omega) Sr Sv
  (λi b' acc hi hb' ha=>by
   have hp:=akp ⟨b',0⟩ (by simp only;omega) rfl
   unfold jd
   simp only
   rw[hx,bO (by omega),cond_true,hp,ak]
   simp only
   cases xC b' with
   | inl e =>
    simp only
    rw[iT (by unfold dR;simp;omega),cu (by omega) (by omega),dF]
    exact⟨_,rfl⟩
   | inr y =>
    obtain⟨x,r⟩:=y
    simp only
    rw[iT (by unfold dR;simp;omega),cu (by omega) (by omega),dF])
  (λi b' e acc hi hb' he ha=>by
   have hp:=ape ⟨b',e⟩ he
   unfold jd
   simp only
   rw[hx,bO (by omega),cond_true,hp,ak]
   simp only
   rw[iT (by unfold dR;simp;omega),cu (by omega) (by omega),dF]
   exact⟨_,rfl⟩)
  (λr acc=>by
   unfold jd
   simp only
   rw[hx,bD (by omega),cond_false])
 have q1:=λe he=>p1 n KK b e [] (Nat.le_refl _) (Nat.le_refl _) he (by simp) (by have:=kP;omega)
 have q2:=p2 n KK b [] (Nat.le_refl _) (Nat.le_refl _) (by simp) (by have:=kP;omega)
 rw[Nat.sub_self]at q1 q2
 refine⟨q1, ?_⟩
 cases hq:fU xC n b with
 | inl e=>rw[hq]at q2;exact q2
 | inr y =>
  obtain⟨l,r⟩:=y
  rw[hq]at q2
  simp only[List.nil_append]at q2
  exact q2
theorem ZG (rV:Int×aU) (x2 x3:Int) (dZ:aU×List aF) (n:Nat) (hx:rV.1=(n:Int)) (hn:n≤4) (b:List UInt8) (hb:b.length<600000000) :
  (∀e,e≠0→∃l,mP rV x2 x3 dZ (0,⟨b,e⟩,[])=some (⟨b,e⟩,l)∧l.length=n) ∧
  match fU uI n b with
   |.inl e=>∃l,mP rV x2 x3 dZ (0,⟨b,0⟩,[])=some (⟨[],e⟩,l)∧l.length=n
   |.inr (l,r)=>mP rV x2 x3 dZ (0,⟨b,0⟩,[])=some (⟨r,0⟩,l):=by
 obtain⟨p1,p2⟩:=sticky (E:=Unit) (p:=uI) n (by omega) (je rV x2 x3 dZ) b.length (by omega) X8 Sw
  (λi b' acc hi hb' ha=>by
   have hp:=akq ⟨b',0⟩ (by simp only;omega) rfl
   unfold je
   simp only at hp ⊢
   rw[hx,bO (by omega),cond_true]
   cases hq:uI b' with
   | inl e =>
    rw[hq]at hp
    obtain⟨x,hp⟩:=hp
    rw[hp,ak]
    simp only
    rw[iT (by unfold dR;simp;omega),cu (by omega) (by omega),dF]
    exact⟨_,rfl⟩
   | inr y =>
    obtain⟨x,r⟩:=y
    rw[hq]at hp
    simp only at hp ⊢
    rw[hp,ak]
    simp only
    rw[iT (by unfold dR;simp;omega),cu (by omega) (by omega),dF])
  (λi b' e acc hi hb' he ha=>by
   have hp:=apf ⟨b',e⟩ (by simp only;omega) he
   unfold je
   simp only
   rw[hx,bO (by omega),cond_true,hp,ak]
   simp only
   rw[iT (by unfold dR;simp;omega),cu (by omega) (by omega),dF]
   exact⟨_,rfl⟩)
  (λr acc=>by
   unfold je
   simp only
   rw[hx,bD (by omega),cond_false])
 have q1:=λe he=>p1 n KK b e [] (Nat.le_refl _) (Nat.le_refl _) he (by simp) (by have:=kP;omega)
 have q2:=p2 n KK b [] (Nat.le_refl _) (Nat.le_refl _) (by simp) (by have:=kP;omega)
 rw[Nat.sub_self]at q1 q2
 refine⟨q1, ?_⟩
 cases hq:fU uI n b with
 | inl e=>rw[hq]at q2;exact q2
 | inr y =>
  obtain⟨l,r⟩:=y
  rw[hq]at q2
  simp only[List.nil_append]at q2
  exact q2
theorem ayo(x2 x3:Int)(dZ:aU×List aF)(s:List UInt8)(l:List aB)(h1:dZ.2.length≤8)(h2:l.length≤4):jH (⟨s,0⟩,l) x2 x3 dZ=some (if kT ⟨x2,x3,dZ.2,l⟩then ⟨s,0⟩else ⟨s,2⟩):=by
 unfold jH qA
 simp only
 rw[xR rfl,cond_true,EX _ (by simp only;omega) (by simp only;omega),ak]
 cases kT ⟨x2,x3,dZ.2,l⟩<;>rfl
theorem ad7(x2 x3:Int)(dZ:aU×List aF)(s:List UInt8)(e:Int)(he:e≠0)(l:List aB):jH (⟨s,e⟩,l) x2 x3 dZ=some ⟨s,e⟩:=by
 unfold jH qA
 simp only
 rw[vR he]
 rfl
theorem ad8 (x2 x3:Int) (b:List UInt8) (e:Int) (he:e≠0) (hb:b.length<600000000) (dZ:aU×List aF) (h12:dZ.1=⟨b,e⟩) :
  ((ig 4 dZ.1).bind λ(rV:Int×aU)=>(mP rV x2 x3 dZ (0,rV.2,[])).bind λ(qj:(aU×List aB))=>(jH qj x2 x3 dZ).bind λ(I9:aU)=>cond (I9.e != 0) (some ((⟨0,0,[],[]⟩:aM),([]:List UInt8),I9.e)) (some ((⟨x2,x3,dZ.2,qj.2⟩:aM),I9.b,0)))=some (anM,[],e):=by
 have h4:=agu 4 dZ.1 (by rw[h12];simp only;omega) (by rw[h12];exact he)
 rw[show((4:Nat):Int)=4 from rfl]at h4
 rw[h4,ak,h12]
 obtain⟨l,l1,_⟩:=(ZG (0,⟨b,e⟩) x2 x3 dZ 0 rfl (by omega) b hb).1 e he
 simp only
 rw[l1,ak,ad7 _ _ _ _ _ he,ak]
 simp only
 rw[oz he]
 rfl
theorem abq (b:List UInt8) (hb:b.length<600000000):nX b=some (match Qh b with
  |.inl e=>(anM,[],e)
  |.inr (x,s)=>(x,s,0)):=by
 unfold nX Qh
 have hx:=wC 2 ⟨b,0⟩ (by omega) (by simp only;omega)
 rw[show((2:Nat):Int)=2 from rfl,if_pos rfl]at hx
 rw[hx]
 cases h1:fU gG 2 b with
 | inl e =>
  have he:e≠0:=by rcases j6 gQ 2 _ _ h1 with rfl | rfl<;>omega
  rw[yN h1]
  simp only[ak]
  rw[show dH (List.replicate 2 (0:Int)) 0=some 0 from rfl,ak,show dH (List.replicate 2 (0:Int)) 1=some 0 from rfl,ak]
  have h8:=agu 8 ⟨[],e⟩ (by simp) he
  rw[show((8:Nat):Int)=8 from rfl]at h8
  rw[h8,ak]
  obtain⟨l,l1,_⟩:=(V3 (0,⟨[],e⟩) 0 0 0 rfl (by omega) [] (by simp)).1 e he
  simp only
  rw[l1,ak]
  exact ad8 0 0 [] e he (by simp) _ rfl
 | inr y =>
  obtain⟨n,c⟩:=y
  have hl:=Bj h1
  have hc:=rz h_ 2 _ _ _ h1
  have s0:=oU (0:Int) hl 0 (by omega)
  have s1:=oU (0:Int) hl 1 (by omega)
  rw[show((0:Nat):Int)=0 from rfl]at s0
  rw[show((1:Nat):Int)=1 from rfl]at s1
  rw[wR h1]
  simp only[ak]
  rw[s0,ak,s1,ak]
  generalize n.getD 0 0=a0
  generalize n.getD 1 0=a1
  cases h2:rE 8 c with
  | inl e =>
   have he:e≠0:=by rcases Bl 8 _ _ h2 with rfl | rfl<;>omega
   rw[yN h2]
   obtain⟨d,h8,hd⟩:=agv 8 ⟨c,0⟩ (by simp only;omega) rfl h2
   rw[show((8:Nat):Int)=8 from rfl]at h8
   simp only at hd
   rw[h8,ak]
   obtain⟨l,l1,_⟩:=(V3 (0,⟨d,e⟩) a0 a1 0 rfl (by omega) d (by omega)).1 e he
   simp only
   rw[l1,ak]
   exact ad8 a0 a1 d e he (by omega) _ rfl
  | inr y =>
   obtain⟨k,d⟩:=y
   have hk:=ad5 h2
   have hd:=Fv 8 _ _ _ h2
   rw[wR h2]
   have h8:=ad6 8 ⟨c,0⟩ (by simp only;omega) rfl h2
   rw[show((8:Nat):Int)=8 from rfl]at h8
   rw[h8,ak]
   obtain⟨k,rfl⟩:∃k':Nat,k=(k':Int):=⟨k.toNat,by omega⟩
   have hp:=(V3 ((k:Int),⟨d,0⟩) a0 a1 k rfl (by omega) d (by omega)).2
   rw[bL]
   cases h3:fU xC k d with
   | inl e =>
    have he:e≠0:=by rcases j6 Sv k _ _ h3 with rfl | rfl<;>omega
    rw[h3]at hp
    obtain⟨l,l1,_⟩:=hp
    rw[yN h3]
    simp only
    rw[l1,ak]
    exact ad8 a0 a1 [] e he (by simp) _ rfl
   | inr y =>
    obtain⟨ps,f⟩:=y
    rw[h3]at hp
    have hps:=Bj h3
    have hf:=rz Sr k _ _ _ h3
    rw[wR h3]
    simp only at hp ⊢
    rw[hp,ak]
    simp only
    cases h4:rE 4 f with
    | inl e =>
     have he:e≠0:=by rcases Bl 4 _ _ h4 with rfl | rfl<;>omega
     rw[yN h4]
     obtain⟨g,g4,hg⟩:=agv 4 ⟨f,0⟩ (by simp only;omega) rfl h4
     rw[show((4:Nat):Int)=4 from rfl]at g4
     simp only at hg
     rw[g4,ak]
     obtain⟨l,l1,_⟩:=(ZG (0,⟨g,e⟩) a0 a1 (⟨f,0⟩,ps) 0 rfl (by omega) g (by omega)).1 e he
     simp only
     rw[l1,ak,ad7 _ _ _ _ _ he,ak]
     simp only
     rw[oz he]
     rfl
    | inr y =>
     obtain⟨j,g⟩:=y
     have hj:=ad5 h4
     have hg:=Fv 4 _ _ _ h4
     rw[wR h4]
     have g4:=ad6 4 ⟨f,0⟩ (by simp only;omega) rfl h4
     rw[show((4:Nat):Int)=4 from rfl]at g4
     rw[g4,ak]
     obtain⟨j,rfl⟩:∃j':Nat,j=(j':Int):=⟨j.toNat,by omega⟩
     have hs:=(ZG ((j:Int),⟨g,0⟩) a0 a1 (⟨f,0⟩,ps) j rfl (by omega) g (by omega)).2
     rw[bL]
     cases h5:fU uI j g with
     | inl e =>
      have he:e≠0:=by rcases j6 Sw j _ _ h5 with rfl | rfl<;>omega
      rw[h5]at hs
      obtain⟨l,l1,_⟩:=hs
      rw[yN h5]
      simp only
      rw[l1,ak,ad7 _ _ _ _ _ he,ak]
      simp only
      rw[oz he]
      rfl
     | inr y =>
      obtain⟨ss,t⟩:=y
      rw[h5]at hs
      have hss:=Bj h5
      rw[wR h5]
      simp only at hs ⊢
      rw[hs,ak,ayo _ _ _ _ _ (by simp only;omega) (by omega),ak]
      unfold xH
      simp only
      cases kT ⟨a0,a1,ps,ss⟩<;>rfl
theorem anN(x y:aM):(x.fJ=y.fJ∧x.Epoch=y.Epoch∧x.Pairs=y.Pairs∧x.fu=y.fu)↔x=y:=by
 obtain⟨a,b,c,d⟩:=x;obtain⟨a',b',c',d'⟩:=y
 simp
instance:DecidableEq aM:=λx y=>decidable_of_iff _ (anN x y)
def small(x:aM):Prop:=x.Pairs.length<1000000∧x.fu.length<1000000
theorem D_{α β:Type}{P:β→Prop}{p:Pr α}{q:α→Pr β}(hq:∀x b y r,q x b=.inr (y,r)→P y):∀b y r,cZ p q b=.inr (y,r)→P y:=by
 intro b y r h
 unfold cZ at h
 split at h
 ·cases h
 ·exact hq _ _ _ _ h
theorem aub{α:Type}(c:α→Bool)(x:α):∀b y r,xH c x b=.inr (y,r)→c y=true:=by
 intro b y r h
 unfold xH at h
 split at h
 ·rename_i hc
  simp only[Sum.inr.injEq,aS]at h
  rw[←h.1]
  exact hc
 ·cases h
theorem azM:∀b x r,Qh b=.inr (x,r)→kT x=true :=
 D_ λ_=>D_ λ_=>D_ λ_=>D_ λ_=>D_ λ_=>aub _ _
def JR(m:aG):List Int:=[m.Kind,m.From,m.To,m.fJ,m.Epoch,m.Weight,m.Load,m.ou]
def okE(x:aI):Prop:=uR x.Inc∧0≤x.Status∧x.Status≤2∧uR x.rG∧uR x.Load
instance (x:aI):Decidable (okE x):=by unfold okE;infer_instance
def MC(m:aG):Prop:=1≤m.Kind∧m.Kind≤10∧(∀n∈JR m,uR n)∧m.Path.length≤5∧m.Table.length≤5∧(∀n∈m.Path,uR n)∧(∀x∈m.Table,okE x)∧nM m.Ef=true∧qI m.Answer=true∧kT m.qg=true
instance (m:aG):Decidable (MC m):=by unfold MC;infer_instance
def qJ(m:aG):Bool:=decide (MC m)
def Ea(m:aG):Prop:=m.Path.length<1000000∧m.Table.length<1000000∧small m.qg
theorem Ip(n:Int):yh n=some (decide (uR n)):=by
 unfold yh
 by_cases c:n≥0
 ·rw[bO c,cond_true]
  congr 1
  rw[decide_eq_decide]
  unfold uR
  omega
 ·rw[bD c,bD (show ¬uR n by unfold uR;omega)];rfl
theorem akr(x:aI):Nn x=some (!decide (okE x)):=by
 unfold Nn
 rw[Ip,Ip,Ip]
 simp only[ak]
 by_cases a:uR x.Inc
 case neg=>rw[bD a,bD (show ¬okE x from λh=>a h.1)];rfl
 by_cases b:x.Status<0
 case pos=>rw[bO a,bO b,bD (show ¬okE x from λh=>by have:=h.2.1;omega)];rfl
 by_cases c:x.Status>2
 case pos=>rw[bO a,bD b,bO c,bD (show ¬okE x from λh=>by have:=h.2.2.1;omega)];rfl
 by_cases d:uR x.rG
 case neg=>rw[bO a,bD b,bD c,bD d,bD (show ¬okE x from λh=>d h.2.2.2.1)];rfl
 by_cases e:uR x.Load
 case neg=>rw[bO a,bD b,bD c,bO d,bD e,bD (show ¬okE x from λh=>e h.2.2.2.2)];rfl
 rw[bO a,bD b,bD c,bO d,bO e,bO (show okE x from⟨a,by omega,by omega,d,e⟩)];rfl
theorem aat(l:List Int)(h:l.length<1000000):iL l=some (l.any λn=>!decide (uR n)):=by
 obtain⟨e,e1,e2⟩:=OI l (λn=>!decide (uR n)) h (gI l) (λi=>(i:Int)) (λi hi=>by
  unfold gI KS
  rw[bO (by omega),cond_true,dU hi,ak,Ip,ak,ak,cu (by omega) (by omega),dF]) (by
  unfold gI
  rw[bD (by omega),cond_false])
 unfold iL ny oM
 rw[e1,ak]
 rcases e2 with⟨q,i,rfl⟩ |⟨q,rfl⟩
 ·rw[q]
  simp only[jY,Bu,cond_true,ak]
  rw[bO (by omega)]
 ·rw[q];rfl
theorem ahY(l:List aI)(h:l.length<1000000):gq l=some (l.any λn=>!decide (okE n)):=by
 obtain⟨e,e1,e2⟩:=OI l (λn=>!decide (okE n)) h (eG l) (λi=>(i:Int)) (λi hi=>by
  unfold eG
  rw[bO (by omega),cond_true,dU hi,ak,akr,ak,cu (by omega) (by omega),dF]) (by
  unfold eG
  rw[bD (by omega),cond_false])
 unfold gq iU jy
 rw[e1,ak]
 rcases e2 with⟨q,i,rfl⟩ |⟨q,rfl⟩
 ·rw[q]
  simp only[jY,Bu,cond_true,ak]
  rw[bO (by omega)]
 ·rw[q];rfl
theorem ahZ{α:Type}(P:α→Prop) [DecidablePred P](l:List α):(l.any λn=>!decide (P n)) = !decide (∀n∈l,P n):=by
 rw[Bool.eq_iff_iff]
 simp
theorem ZH(m:aG)(h:Ea m):Cn m=some (qJ m):=by
 unfold Cn H8 H7 H6 FV qJ
 have o1:=aat (JR m) (by simp[JR])
 unfold JR at o1
 rw[ahZ]at o1
 have o2:=aat m.Path h.1
 have o3:=ahY m.Table h.2.1
 rw[ahZ]at o2 o3
 simp only[ak,o1,o2,o3,JQ,D9,EX m.qg h.2.2.1 h.2.2.2]
 by_cases k1:m.Kind<1
 ·rw[bO k1,bD (show ¬MC m by rintro⟨p,_⟩;omega)];rfl
 by_cases k2:m.Kind>10
 ·rw[bD k1,bO k2,bD (show ¬MC m by rintro⟨_,p,_⟩;omega)];rfl
 rw[bD k1,bD k2]
 simp only[cond_false,ak]
 by_cases k3:∀n∈[m.Kind,m.From,m.To,m.fJ,m.Epoch,m.Weight,m.Load,m.ou],uR n
 case neg=>rw[bD k3,bD (show ¬MC m from λp=>k3 p.2.2.1)];rfl
 rw[bO k3]
 by_cases k4:(m.Path.length:Int)>5
 ·rw[bO k4,bD (show ¬MC m by rintro⟨_,_,_,p,_⟩;omega)];rfl
 by_cases k5:(m.Table.length:Int)>5
 ·rw[bD k4,bO k5,bD (show ¬MC m by rintro⟨_,_,_,_,p,_⟩;omega)];rfl
 rw[bD k4,bD k5]
 by_cases k6:∀n∈m.Path,uR n
 case neg=>rw[bD k6,bD (show ¬MC m from λp=>k6 p.2.2.2.2.2.1)];rfl
 by_cases k7:∀n∈m.Table,okE n
 case neg=>rw[bO k6,bD k7,bD (show ¬MC m from λp=>k7 p.2.2.2.2.2.2.1)];rfl
 rw[bO k6,bO k7]
 simp only[Bool.not_true,cond_false,ak,jY]
 cases k8:nM m.Ef
 case false=>rw[bD (show ¬MC m from λp=>by have:=p.2.2.2.2.2.2.2.1;rw[k8]at this;cases this)];rfl
 cases k9:qI m.Answer
 case false=>rw[bD (show ¬MC m from λp=>by have:=p.2.2.2.2.2.2.2.2.1;rw[k9]at this;cases this)];rfl
 cases k0:kT m.qg
 case false=>rw[bD (show ¬MC m from λp=>by have:=p.2.2.2.2.2.2.2.2.2;rw[k0]at this;cases this)];rfl
 rw[bO (show MC m from⟨by omega,by omega,k3,by omega,by omega,k6,k7,k8,k9,k0⟩)]
 rfl
def Qi(b:Bool):Int:=if b then 1 else 0
def Gp(x:aI):List UInt8:=[x.Inc,x.Status,x.rG,x.Load,Qi x.fq].flatMap eN
def xI(m:aG):List UInt8:=(JR m).flatMap eN++(eN (Qi m.fq)++(abp m.Ef++(ZC m.Answer++(eN (m.Path.length:Int)++(m.Path.flatMap eN++(eN (m.Table.length:Int)++(m.Table.flatMap Gp++akl m.qg)))))))
def aks:Pr Bool:=cZ (rE 1) λn b=>.inr (n==1,b)
def Eb:Pr aI:=cZ (fU gG 4) λn=>cZ aks λd b=>.inr (⟨n.getD 0 0,n.getD 1 0,n.getD 2 0,n.getD 3 0,d⟩,b)
def mkM(n:List Int)(d:Bool)(q:bJ)(a:aJ)(p:List Int)(t:List aI)(x:aM):aG:=⟨n.getD 0 0,n.getD 1 0,n.getD 2 0,n.getD 3 0,n.getD 4 0,n.getD 5 0,n.getD 6 0,n.getD 7 0,d,q,a,p,t,x⟩
def X9:Pr aG:=cZ (fU gG 8) λn=>cZ aks λd=>cZ VZ λq=>cZ Qg λa=>cZ (rE 5) λc=>cZ (fU gG c.toNat) λp=>cZ (rE 5) λk=>cZ (fU Eb k.toNat) λt=>cZ Qh λx b=>.inr (mkM n d q a p t x,b)
theorem akt(b:Bool):Lays aks b (eN (Qi b)):=by
 have h:=Sy (m:=1) (n:=if b then 1 else 0) (by cases b<;>decide) (by cases b<;>decide)
 have e:(((if b then 1 else 0:Nat)):Int)=Qi b:=by cases b<;>rfl
 rw[e]at h
 exact h.last λr=>by cases b<;>rfl
theorem auc{x:aI}(h:okE x):Lays Eb x (Gp x):=by
 obtain⟨h1,h2,h3,h4,h5⟩:=h
 have a:=Lays.rep (p:=gG) (enc:=eN) [x.Inc,x.Status,x.rG,x.Load] (λy hy=>UM.lays (by
  simp only[List.mem_cons,List.not_mem_nil,or_false]at hy
  rcases hy with rfl | rfl | rfl | rfl
  ·exact h1
  ·unfold uR;omega
  ·exact h4
  ·exact h5))
 have e:Gp x=[x.Inc,x.Status,x.rG,x.Load].flatMap eN++eN (Qi x.fq):=by
  unfold Gp
  simp
 rw[e]
 exact a.seq ((akt x.fq).last λr=>rfl)
theorem Ec{m:aG}(h:qJ m=true):MC m:=of_decide_eq_true h
theorem aud{m:aG}(h:qJ m=true):Lays X9 m (xI m):=by
 obtain⟨_,_,h3,h4,h5,h6,h7,h8,h9,h0⟩:=Ec h
 have a:=Lays.rep (p:=gG) (enc:=eN) (JR m) (λx hx=>UM.lays (h3 x hx))
 have b:=Lays.rep (p:=gG) (enc:=eN) m.Path (λx hx=>UM.lays (h6 x hx))
 have c:=Lays.rep (p:=Eb) (enc:=Gp) m.Table (λx hx=>auc (h7 x hx))
 exact a.seq ((akt m.fq).seq ((at5 h8).seq ((akm h9).seq ((Sy (m:=5) (n:=m.Path.length) (by omega) (by omega)).seq (b.seq ((Sy (m:=5) (n:=m.Table.length) (by omega) (by omega)).seq (c.seq ((at7 h0).last λ_=>rfl))))))))
theorem Tf(b:Bool):uR (Qi b):=by cases b<;>decide
theorem aue{x:aI}(h:okE x):(Gp x).length≤45:=by
 obtain⟨h1,h2,h3,h4,h5⟩:=h
 have a1:=l9 _ h1
 have a2:=l9 x.Status (by unfold uR;omega)
 have a3:=l9 _ h4
 have a4:=l9 _ h5
 have a5:=l9 _ (Tf x.fq)
 unfold Gp
 simp only[List.flatMap_cons,List.flatMap_nil,aD,bN]
 omega
theorem X_{m:aG}(h:qJ m=true):(xI m).length≤2000:=by
 obtain⟨_,_,h3,h4,h5,h6,h7,h8,h9,h0⟩:=Ec h
 have a:=EY eN 9 (JR m) λx hx=>l9 x (h3 x hx)
 have b:=EY eN 9 m.Path λx hx=>l9 x (h6 x hx)
 have c:=EY Gp 45 m.Table λx hx=>aue (h7 x hx)
 have d:=ad1 h8
 have e:=X4 h9
 have f:=(VY h0).2.2
 have g1:=l9 _ (Tf m.fq)
 have g2:=l9 (m.Path.length:Int) (by unfold uR;omega)
 have g3:=l9 (m.Table.length:Int) (by unfold uR;omega)
 have hd:(JR m).length=8:=rfl
 rw[hd]at a
 unfold xI
 simp only[aD]
 omega
theorem agw(b:Bool):Xy b=some (Qi b):=by
 cases b<;>rfl
theorem ayp(m:aG)(h:Ea m):Ta m=some (if qJ m then xI m else []):=by
 unfold Ta
 rw[ZH m h,ak]
 cases hr:qJ m
 ·rfl
 obtain⟨_,_,h3,h4,h5,h6,h7,h8,h9,h0⟩:=Ec hr
 have hl:=X_ hr
 unfold xI at hl ⊢
 simp only[aD]at hl
 simp only[Bool.not_true,cond_false,if_true]
 unfold FV
 rw[ak,r_ _ _ (by simp),ak,kH [] (l:=[m.Kind,m.From,m.To,m.fJ,m.Epoch,m.Weight,m.Load,m.ou]) h3,agw,ak,List.nil_append]
 show(oH ((JR m).flatMap eN) [Qi m.fq]).bind _=_
 rw[r_ _ _ (by simp only[bA,bN];omega),ak,kH _ (l:=[Qi m.fq]) (λx hx=>by rw[List.mem_singleton.1 hx];exact Tf _)]
 simp only[List.flatMap_cons,List.flatMap_nil,List.append_nil]
 rw[ahW _ _ (by simp only[aD];omega),h8,if_pos rfl,ak,X5 _ _ (by simp only[aD];omega),h9,if_pos rfl,ak]
 rw[r_ _ _ (by simp only[aD,bA,bN];omega),ak,kH _ (l:=[(m.Path.length:Int)]) (λx hx=>by rw[List.mem_singleton.1 hx];unfold uR;omega)]
 simp only[List.flatMap_cons,List.flatMap_nil,List.append_nil]
 rw[r_ _ _ (by simp only[aD];omega),ak,kH _ (l:=m.Path) h6]
 rw[r_ _ _ (by simp only[aD,bA,bN];omega),ak,kH _ (l:=[(m.Table.length:Int)]) (λx hx=>by rw[List.mem_singleton.1 hx];unfold uR;omega)]
 simp only[List.flatMap_cons,List.flatMap_nil,List.append_nil]
 generalize hB:(JR m).flatMap eN++eN (Qi m.fq)++abp m.Ef++ZC m.Answer++eN (m.Path.length:Int)++m.Path.flatMap eN++eN (m.Table.length:Int)=B
 have hBl:B.length≤2000:=by
  rw[←hB]
  simp only[aD]
  omega
 have l0:Ow m (B,0)=some (B++m.Table.flatMap Gp):=by
  have e0:(B,(0:Int))=(B++(m.Table.take 0).flatMap Gp,((0:Nat):Int)):=by simp
  unfold Ow
  rw[e0]
  refine lI (λi=>(B++(m.Table.take i).flatMap Gp,(i:Int))) m.Table.length _ (λi hi=>?_) ?_ (by omega)
  ·have q5:(m.Table.take (i+1)).flatMap Gp=(m.Table.take i).flatMap Gp++Gp m.Table[i]:=by
    rw[bG hi,List.flatMap_append]
    simp
   have q6:=Iz Gp m.Table i
   obtain⟨q1,q2,q3,q4,q7⟩:=h7 _ (List.getElem_mem hi)
   have hp:=kH (B++(m.Table.take i).flatMap Gp) (l:=[m.Table[i].Inc,m.Table[i].Status,m.Table[i].rG,m.Table[i].Load,Qi m.Table[i].fq]) (λz hz=>by
    simp only[List.mem_cons,List.not_mem_nil,or_false]at hz
    rcases hz with rfl | rfl | rfl | rfl | rfl
    ·exact q1
    ·unfold uR;omega
    ·exact q4
    ·exact q7
    ·exact Tf _)
   unfold zy
   simp only
   rw[bO (by omega),cond_true,dU hi,ak,agw,ak,r_ _ _ (by simp only[aD,bA,bN];omega),ak,hp,cu (by omega) (by omega),dF,q5]
   unfold Gp
   rw[bR]
  ·unfold zy
   simp only
   rw[bD (by omega),cond_false,List.take_length]
 rw[l0,ak,ad4 _ _ (by rw[aD];omega) h.2.2.1 h.2.2.2,h0,if_pos rfl,ak,←hB]
 simp only[bR]
abbrev ZI:=aX
def Ya{α:Type}(P:α→Prop)(f:ZI→Option (α×ZI))(p:Pr α):Prop:=∀b e,b.length<500000000→(e≠0→∃x,P x∧f ⟨b,e⟩=some (x,⟨b,e⟩))∧(match p b with
 |.inl er=>∃x s,P x∧f ⟨b,0⟩=some (x,⟨s,er⟩)∧s.length≤b.length
 |.inr (x,s)=>P x∧f ⟨b,0⟩=some (x,⟨s,0⟩))
theorem Ya.seq{α β:Type}{P:α→Prop}{Q:β→Prop}{f:ZI→Option (α×ZI)}{p:Pr α}{g:α→ZI→Option (β×ZI)}{q:α→Pr β}(h:Ya P f p)(he:Err p)(hs:Shr p)(k:∀x,P x→Ya Q (g x) (q x)):Ya Q (λr=>(f r).bind λy=>g y.1 y.2) (cZ p q):=by
 intro b e hb
 obtain⟨h1,h2⟩:=h b e hb
 refine⟨λhee=>?_, ?_⟩
 ·obtain⟨x,px,hx⟩:=h1 hee
  simp only[hx,ak]
  exact(k x px b e hb).1 hee
 ·unfold cZ
  cases hp:p b with
  | inl er =>
   rw[hp]at h2
   obtain⟨x,s,px,hx,hl⟩:=h2
   have hne:er≠0:=by rcases he _ _ hp with rfl | rfl<;>omega
   obtain⟨y,py,hy⟩:=(k x px s er (by omega)).1 hne
   refine⟨y,s,py, ?_,hl⟩
   simp only[hx,ak]
   exact hy
  | inr y =>
   obtain⟨x,s⟩:=y
   rw[hp]at h2
   obtain⟨px,h2⟩:=h2
   have hl:=hs _ _ _ hp
   have h3:=(k x px s 0 (by omega)).2
   simp only[h2,ak]
   cases hq:q x s with
   | inl er =>
    rw[hq]at h3
    obtain⟨z,t,pz,hz,ht⟩:=h3
    exact⟨z,t,pz,hz,by omega⟩
   | inr z =>
    rw[hq]at h3
    exact h3
theorem Ya.ret{α:Type}(x:α):Ya (λ_=>True) (λr=>some (x,r)) (λb=>.inr (x,b)):=λb e _=>⟨λ_=>⟨x,trivial,rfl⟩,trivial,rfl⟩
theorem agx(n:Nat)(hn:n<1000000)(b:List UInt8){e:Int}(he:e≠0):fI (n:Int) ⟨b,e⟩=some (List.replicate n 0,⟨b,e⟩):=by
 unfold fI
 rw[iT (amO n hn),bL]
 simp only
 rw[vR he]
 rfl
theorem aku (n:Nat) (hn:n<1000000) (b:List UInt8) (hb:b.length<500000000):fI (n:Int) ⟨b,0⟩=some (match fU gG n b with
  |.inl e=>(List.replicate n 0,⟨[],e⟩)
  |.inr (l,r)=>(l,⟨r,0⟩)):=by
 unfold fI
 rw[iT (amO n hn),bL]
 simp only
 rw[xR rfl,cond_true,Sj b n (by omega) hn,ak]
 cases hp:fU gG n b with
 | inl e =>
  have he:e≠0:=by rcases j6 gQ n _ _ hp with rfl | rfl<;>omega
  simp only
  rw[vR he]
  rfl
 | inr y =>
  obtain⟨l,r⟩:=y
  simp only
  rw[xR rfl]
  rfl
theorem ah0(n:Nat)(hn:n<1000000):Ya (λl:List Int=>l.length=n) (fI (n:Int)) (fU gG n):=by
 intro b e hb
 refine⟨λhe=>⟨_,by simp,agx n hn b he⟩, ?_⟩
 rw[aku n hn b hb]
 cases hp:fU gG n b with
 | inl e=>exact⟨List.replicate n 0,[],by simp,rfl,by simp⟩
 | inr y =>
  obtain⟨l,r⟩:=y
  exact⟨Bj hp,rfl⟩
theorem ayq (b:List UInt8):fU gG 1 b=match gG b with
  |.inl e=>.inl e
  |.inr (x,r)=>.inr ([x],r):=by
 simp only[fU,cZ]
 cases gG b<;>rfl
theorem abO(m:Int)(hm:0≤m):Ya (λn:Int=>0≤n∧n≤m) (gu m) (rE m):=by
 intro b e hb
 unfold gu
 rw[show(1:Int)=((1:Nat):Int)from rfl]
 refine⟨λhe=>⟨0,⟨Int.le_refl _,hm⟩, ?_⟩, ?_⟩
 ·rw[agx 1 (by omega) b he,ak]
  show cond (decide ((0:Int)>m)) _ _=_
  rw[bD (by omega)]
  rfl
 ·rw[aku 1 (by omega) b hb,ak,ayq]
  unfold rE cZ
  cases hp:gG b with
  | inl er =>
   simp only
   refine⟨0,[],⟨Int.le_refl _,hm⟩, ?_,by simp⟩
   show cond (decide ((0:Int)>m)) _ _=_
   rw[bD (by omega)]
   rfl
  | inr y =>
   obtain⟨x,r⟩:=y
   have hx:=atS hp
   have hr:=h_ _ _ _ hp
   simp only
   by_cases c:x≤m
   ·rw[if_pos c]
    refine⟨⟨hx.1,c⟩, ?_⟩
    show cond (decide (x>m)) _ _=_
    rw[bD (by omega)]
    rfl
   ·rw[if_neg c]
    refine⟨0,r,⟨Int.le_refl _,hm⟩, ?_,hr⟩
    show cond (decide (x>m)) _ _=_
    rw[bO (by omega)]
    rfl
theorem JU{α β γ:Type}(p:Pr α)(q:α→Pr β)(r:β→Pr γ):cZ (cZ p q) r=cZ p λx=>cZ (q x) r:=by
 funext b
 unfold cZ
 cases p b<;>rfl
theorem Sz{α β:Type}(x:α)(r:α→Pr β):cZ (λb=>.inr (x,b)) r=r x:=rfl
def mkE(n:List Int)(k:Int):aI:=⟨n.getD 0 0,n.getD 1 0,n.getD 2 0,n.getD 3 0,k==1⟩
theorem auf:Eb=cZ (fU gG 4) λn=>cZ (rE 1) λk b=>.inr (mkE n k,b):=by
 unfold Eb aks
 simp only[JU,Sz]
 rfl
def azN(l:List Int)(r:ZI):Option (aI×ZI):=(gu 1 r).bind λ(x2:Int×aX)=>(dH l 0).bind λ(x3:Int)=>(dH l 1).bind λ(x4:Int)=>(dH l 2).bind λ(x5:Int)=>(dH l 3).bind λ(x6:Int)=>some ((⟨x3,x4,x5,x6,(x2.1==1)⟩:aI),x2.2)
theorem azO:Ya (λ_=>True) jS Eb:=by
 have e:jS=λr=>(fI ((4:Nat):Int) r).bind λy=>azN y.1 y.2:=rfl
 rw[e,auf]
 refine Ya.seq (ah0 4 (by omega)) (j6 gQ 4) (rz h_ 4) λl hl=>?_
 have g:azN l=λr=>(gu 1 r).bind λy=>some (mkE l y.1,y.2):=by
  funext r
  unfold azN
  have n0:=oU (0:Int) hl 0 (by omega)
  have n1:=oU (0:Int) hl 1 (by omega)
  have n2:=oU (0:Int) hl 2 (by omega)
  have n3:=oU (0:Int) hl 3 (by omega)
  rw[show((0:Nat):Int)=0 from rfl]at n0
  rw[show((1:Nat):Int)=1 from rfl]at n1
  rw[show((2:Nat):Int)=2 from rfl]at n2
  rw[show((3:Nat):Int)=3 from rfl]at n3
  simp only[n0,n1,n2,n3,ak]
  rfl
 rw[g]
 exact Ya.seq (g:=λk r=>some (mkE l k,r)) (q:=λk b=>.inr (mkE l k,b)) (abO 1 (by omega)) (Bl 1) (Fv 1) λk _=>Ya.ret _
theorem anO:Err aks:=jV (Bl 1) λx b e h=>by cases h
theorem ayr:Shr aks:=ru (Fv 1) λx b y r h=>by
 simp only[Sum.inr.injEq,aS]at h
 rw[h.2]
 exact Nat.le_refl _
theorem Yb:Err Eb:=jV (j6 gQ 4) λx=>jV anO λy b e h=>by cases h
theorem abP:Shr Eb:=ru (rz h_ 4) λx=>ru ayr λz b y r h=>by
 simp only[Sum.inr.injEq,aS]at h
 rw[h.2]
 exact Nat.le_refl _
def aug(r:ZI):Option (bJ×ZI):=cond (r.e==0) ((tJ r.b).bind λx=>some (x.1,⟨x.2.1,x.2.2⟩)) (some (Ev,r))
def auh(r:ZI):Option (aJ×ZI):=cond (r.e==0) ((kY r.b).bind λx=>some (x.1,⟨x.2.1,x.2.2⟩)) (some (X6,r))
theorem ays:Ya (λ_=>True) aug VZ:=by
 intro b e hb
 unfold aug
 refine⟨λhe=>⟨Ev,trivial,by simp only;rw[vR he];rfl⟩, ?_⟩
 simp only
 rw[xR rfl,cond_true,ae9 b (by omega),ak]
 cases hp:VZ b with
 | inl e=>exact⟨Ev,[],trivial,rfl,by simp⟩
 | inr y=>exact⟨trivial,rfl⟩
theorem ayt:Ya (λ_=>True) auh Qg:=by
 intro b e hb
 unfold auh
 refine⟨λhe=>⟨X6,trivial,by simp only;rw[vR he];rfl⟩, ?_⟩
 simp only
 rw[xR rfl,cond_true,UO b (by omega),ak]
 cases hp:Qg b with
 | inl e=>exact⟨X6,[],trivial,rfl,by simp⟩
 | inr y=>exact⟨trivial,rfl⟩
def abr(k:Int)(XH:Int×aX×List aI):Option ((Int×aX×List aI)⊕((aX×List aI))) :=
 cond (decide (XH.1<k)) ((jS XH.2.1).bind λ(x23:aI×aX)=>gd (dR 40 (XH.2.2++[x23.1]).length) (some (.inl ((IntKind.i64.wrap (XH.1+1)),x23.2,(XH.2.2++[x23.1]))))) (some (.inr (XH.2.1,XH.2.2)))
def ayu(k:Int)(r:ZI):Option (List aI×ZI):=(dG (abr k) KK (0,r,[])).bind λz=>some (z.2,z.1)
theorem anP (n:Nat) (hn:n≤5):∀(j k:Nat) (acc:List aI),j≤n→acc.length=n-j→j<k →
  Ya (λ_=>True) (λr=>(dG (abr (n:Int)) k (((n-j:Nat):Int),r,acc)).bind λz=>some (z.2,z.1)) (cZ (fU Eb j) λl b=>.inr (acc++l,b))
 | 0,k,acc,_,ha,hk=>by
  obtain⟨k,rfl⟩:∃i,k=i+1:=⟨k-1,by omega⟩
  have e:∀r,abr (n:Int) (((n-0:Nat):Int),r,acc)=some (.inr (r,acc)):=λr=>by
   unfold abr
   simp only
   rw[bD (by omega),cond_false]
  have e2:(λr:ZI=>(dG (abr (n:Int)) (k+1) (((n-0:Nat):Int),r,acc)).bind λz=>some (z.2,z.1))=λr=>some (acc,r):=by
   funext r
   simp only[dG,e,ak]
  have e3:(cZ (fU Eb 0) λl b=>(.inr (acc++l,b):Int⊕(List aI×List UInt8)))=λb=>.inr (acc,b):=by
   funext b
   simp only[fU,cZ,List.append_nil]
  rw[e2,e3]
  exact Ya.ret acc
 | j+1,k,acc,hj,ha,hk=>by
  obtain⟨k,rfl⟩:∃i,k=i+1:=⟨k-1,by omega⟩
  have e2:(λr:ZI=>(dG (abr (n:Int)) (k+1) (((n-(j+1):Nat):Int),r,acc)).bind λz=>some (z.2,z.1))=λr=>(jS r).bind λy=>(dG (abr (n:Int)) k (((n-j:Nat):Int),y.2,acc++[y.1])).bind λz=>some (z.2,z.1):=by
   funext r
   have e:abr (n:Int) (((n-(j+1):Nat):Int),r,acc)=(jS r).bind λx23=>some (.inl (((n-j:Nat):Int),x23.2,acc++[x23.1])):=by
    unfold abr
    simp only
    rw[bO (by omega),cond_true,cu (by omega) (by omega),show((n-(j+1):Nat):Int)+1=((n-j:Nat):Int)by omega]
    congr 1
    funext x23
    rw[iT (by unfold dR;simp;omega)]
   simp only[dG,e]
   cases jS r<;>rfl
  have e3:(cZ (fU Eb (j+1)) λl b=>(.inr (acc++l,b):Int⊕(List aI×List UInt8)))=cZ Eb λx=>cZ (fU Eb j) λl b=>.inr (acc++[x]++l,b):=by
   simp only[fU,JU,Sz,bR,List.singleton_append]
  rw[e2,e3]
  exact Ya.seq (g:=λx r=>(dG (abr (n:Int)) k (((n-j:Nat):Int),r,acc++[x])).bind λz=>some (z.2,z.1)) azO Yb abP λx _=>anP n hn j k (acc++[x]) (by omega) (by simp;omega) (by omega)
theorem azP(n:Nat)(hn:n≤5):Ya (λ_=>True) (ayu (n:Int)) (fU Eb n):=by
 have h:=anP n hn n KK [] (Nat.le_refl _) (by simp) (by have:=kP;omega)
 rw[Nat.sub_self]at h
 have e:(cZ (fU Eb n) λl b=>(.inr ([]++l,b):Int⊕(List aI×List UInt8)))=fU Eb n:=by
  funext b
  unfold cZ
  cases fU Eb n b<;>rfl
 rw[e]at h
 exact h
def m8(n:List Int)(d:Bool)(q:bJ)(a:aJ)(p:List Int)(t:List aI)(r:ZI):Option (aG×ZI) :=
 cond (r.e==0) ((nX r.b).bind λjL=>some (mkM n d q a p t jL.1,⟨jL.2.1,jL.2.2⟩)) (some (mkM n d q a p t anM,r))
def m7(n:List Int)(d:Bool)(q:bJ)(a:aJ)(p:List Int)(k:Int)(r:ZI):=(ayu k r).bind λy=>m8 n d q a p y.1 y.2
def m6(n:List Int)(d:Bool)(q:bJ)(a:aJ)(p:List Int)(r:ZI):=(gu 5 r).bind λy=>m7 n d q a p y.1 y.2
def m5(n:List Int)(d:Bool)(q:bJ)(a:aJ)(c:Int)(r:ZI):=(fI c r).bind λy=>m6 n d q a y.1 y.2
def m4(n:List Int)(d:Bool)(q:bJ)(a:aJ)(r:ZI):=(gu 5 r).bind λy=>m5 n d q a y.1 y.2
def m3(n:List Int)(d:Bool)(q:bJ)(r:ZI):=(auh r).bind λy=>m4 n d q y.1 y.2
def m2(n:List Int)(d:Bool)(r:ZI):=(aug r).bind λy=>m3 n d y.1 y.2
def m1(n:List Int)(r:ZI):=(gu 1 r).bind λy=>m2 n (y.1==1) y.2
theorem aBH(n:List Int)(d:Bool)(q:bJ)(a:aJ)(p:List Int)(t:List aI):Ya (λ_=>True) (m8 n d q a p t) (cZ Qh λx b=>.inr (mkM n d q a p t x,b)):=by
 intro b e hb
 unfold m8
 refine⟨λhe=>⟨_,trivial,by simp only;rw[vR he];rfl⟩, ?_⟩
 simp only
 rw[xR rfl,cond_true,abq b (by omega),ak]
 unfold cZ
 cases hp:Qh b with
 | inl e=>exact⟨_,[],trivial,rfl,by simp⟩
 | inr y=>exact⟨trivial,rfl⟩
theorem aBI(n:List Int):Ya (λ_=>True) (m1 n) (cZ (rE 1) λk=>cZ VZ λq=>cZ Qg λa=>cZ (rE 5) λc=>cZ (fU gG c.toNat) λp=>cZ (rE 5) λk2=>cZ (fU Eb k2.toNat) λt=>cZ Qh λx b=>.inr (mkM n (k==1) q a p t x,b)):=by
 refine Ya.seq (g:=λk r=>m2 n (k==1) r) (abO 1 (by omega)) (Bl 1) (Fv 1) λk _=>?_
 refine Ya.seq (g:=λq r=>m3 n (k==1) q r) ays ahX anK λq _=>?_
 refine Ya.seq (g:=λa r=>m4 n (k==1) q a r) ayt X7 abN λa _=>?_
 refine Ya.seq (g:=λc r=>m5 n (k==1) q a c r) (abO 5 (by omega)) (Bl 5) (Fv 5) λc hc=>?_
 have h1:=ah0 c.toNat (by omega)
 rw[Int.toNat_of_nonneg hc.1]at h1
 refine Ya.seq (g:=λp r=>m6 n (k==1) q a p r) h1 (j6 gQ _) (rz h_ _) λp _=>?_
 refine Ya.seq (g:=λc r=>m7 n (k==1) q a p c r) (abO 5 (by omega)) (Bl 5) (Fv 5) λk2 hk=>?_
 have h2:=azP k2.toNat (by omega)
 rw[Int.toNat_of_nonneg hk.1]at h2
 exact Ya.seq (g:=λt r=>m8 n (k==1) q a p t r) h2 (j6 Yb _) (rz abP _) λt _=>aBH _ _ _ _ _ _
def m0(l:List Int)(r:ZI):Option (aG×ZI):=(dH l 0).bind λ(x2:Int)=>(dH l 1).bind λ(x3:Int)=>(dH l 2).bind λ(x4:Int)=>(dH l 3).bind λ(x5:Int)=>(dH l 4).bind λ(x6:Int)=>(dH l 5).bind λ(x7:Int)=>(dH l 6).bind λ(x8:Int)=>(dH l 7).bind λ(x9:Int)=>(gu 1 r).bind λ(x10:Int×aX)=>(kD x10 x2 x3 x4 x5 x6 x7 x8 x9).bind λ(dZ:(aX×Int×Int×Int×List UInt8×List UInt8×List UInt8))=>(kE dZ x2 x3 x4 x5 x6 x7 x8 x9 x10).bind λ(nO:(aX×Int×List UInt8))=>(gu 5 nO.1).bind λ(dP:Int×aX)=>(fI dP.1 dP.2).bind λ(Bz:List Int×aX)=>(gu 5 Bz.2).bind λ(kJ:Int×aX)=>(qW kJ x2 x3 x4 x5 x6 x7 x8 x9 x10 dZ nO Bz (0,kJ.2,[])).bind λ(x25:(aX×List aI))=>cond (x25.1.e==0) ((nX x25.1.b).bind λ(jL:aM×List UInt8×Int)=>some ((⟨x2,x3,x4,x5,x6,x7,x8,x9,(x10.1==1),(⟨dZ.2.1,dZ.2.2.1,(⟨dZ.2.2.2.1,dZ.2.2.2.2.1,dZ.2.2.2.2.2.1,dZ.2.2.2.2.2.2⟩:bZ)⟩:bJ),(⟨nO.2.1,nO.2.2⟩:aJ),Bz.1,x25.2,jL.1⟩:aG),(⟨jL.2.1,jL.2.2⟩:aX))) (some ((⟨x2,x3,x4,x5,x6,x7,x8,x9,(x10.1==1),(⟨dZ.2.1,dZ.2.2.1,(⟨dZ.2.2.2.1,dZ.2.2.2.2.1,dZ.2.2.2.2.2.1,dZ.2.2.2.2.2.2⟩:bZ)⟩:bJ),(⟨nO.2.1,nO.2.2⟩:aJ),Bz.1,x25.2,(⟨0,0,[],[]⟩:aM)⟩:aG),x25.1))
theorem azQ(x10:Int×aX)(x2 x3 x4 x5 x6 x7 x8 x9:Int):kD x10 x2 x3 x4 x5 x6 x7 x8 x9=(aug x10.2).bind λy=>some (y.2,y.1.Client,y.1.Seq,y.1.Op.Kind,y.1.Op.Key,y.1.Op.Value,y.1.Op.Old):=by
 unfold kD aug
 cases (x10.2.e==0)
 ·rfl
 ·simp only[cond_true]
  cases tJ x10.2.b<;>rfl
theorem azR(dZ:(aX×Int×Int×Int×List UInt8×List UInt8×List UInt8))(x2 x3 x4 x5 x6 x7 x8 x9:Int)(x10:Int×aX):kE dZ x2 x3 x4 x5 x6 x7 x8 x9 x10=(auh dZ.1).bind λy=>some (y.2,y.1.Why,y.1.Value):=by
 unfold kE auh
 cases (dZ.1.e==0)
 ·rfl
 ·simp only[cond_true]
  cases kY dZ.1.b<;>rfl
theorem azS(kJ:Int×aX)(x2 x3 x4 x5 x6 x7 x8 x9:Int)(x10:Int×aX)(dZ:(aX×Int×Int×Int×List UInt8×List UInt8×List UInt8))(nO:(aX×Int×List UInt8))(Bz:List Int×aX):qW kJ x2 x3 x4 x5 x6 x7 x8 x9 x10 dZ nO Bz (0,kJ.2,[])=(ayu kJ.1 kJ.2).bind λz=>some (z.2,z.1):=by
 unfold ayu
 show dG (abr kJ.1) KK (0,kJ.2,[])=_
 cases dG (abr kJ.1) KK (0,kJ.2,[])<;>rfl
theorem azT:Ya (λ_=>True) qB X9:=by
 have e:qB=λr=>(fI ((8:Nat):Int) r).bind λy=>m0 y.1 y.2:=rfl
 have e2:X9=cZ (fU gG 8) λn=>cZ (rE 1) λk=>cZ VZ λq=>cZ Qg λa=>cZ (rE 5) λc=>cZ (fU gG c.toNat) λp=>cZ (rE 5) λk2=>cZ (fU Eb k2.toNat) λt=>cZ Qh λx b=>.inr (mkM n (k==1) q a p t x,b):=by
  unfold X9 aks
  simp only[JU,Sz]
 rw[e,e2]
 refine Ya.seq (ah0 8 (by omega)) (j6 gQ 8) (rz h_ 8) λl hl=>?_
 have g:m0 l=m1 l:=by
  funext r
  unfold m0
  have n0:=oU (0:Int) hl 0 (by omega)
  have n1:=oU (0:Int) hl 1 (by omega)
  have n2:=oU (0:Int) hl 2 (by omega)
  have n3:=oU (0:Int) hl 3 (by omega)
  have n4:=oU (0:Int) hl 4 (by omega)
  have n5:=oU (0:Int) hl 5 (by omega)
  have n6:=oU (0:Int) hl 6 (by omega)
  have n7:=oU (0:Int) hl 7 (by omega)
  rw[show((0:Nat):Int)=0 from rfl]at n0
  rw[show((1:Nat):Int)=1 from rfl]at n1
  rw[show((2:Nat):Int)=2 from rfl]at n2
  rw[show((3:Nat):Int)=3 from rfl]at n3
  rw[show((4:Nat):Int)=4 from rfl]at n4
  rw[show((5:Nat):Int)=5 from rfl]at n5
  rw[show((6:Nat):Int)=6 from rfl]at n6
  rw[show((7:Nat):Int)=7 from rfl]at n7
  simp only[n0,n1,n2,n3,n4,n5,n6,n7,ak,azQ,azR,azS,Option.bind_assoc]
  rfl
 rw[g]
 exact aBI l
def aau:aG:=⟨0,0,0,0,0,0,0,0,false,Ev,X6,[],[],anM⟩
def agy(b:List UInt8):aG×Int:=match X9 b with
 |.inl e=>(aau,e)
 |.inr (r,s)=>if s.length=0∧qJ r=true then (r,0)else (aau,2)
theorem anQ:Err X9:=by
 unfold X9
 exact jV (j6 gQ 8) λn=>jV anO λd=>jV ahX λq=>jV X7 λa=>jV (Bl 5) λc=>jV (j6 gQ _) λp=>jV (Bl 5) λk=>jV (j6 Yb _) λt=>jV anL λx b e h=>by cases h
theorem ad9{α β:Type}{P:β→Prop}{C:α→Prop}{p:Pr α}{q:α→Pr β}(hp:∀b x r,p b=.inr (x,r)→C x)(hq:∀x,C x→∀b y r,q x b=.inr (y,r)→P y):∀b y r,cZ p q b=.inr (y,r)→P y:=by
 intro b y r h
 unfold cZ at h
 split at h
 ·cases h
 ·rename_i x c hx
  exact hq _ (hp _ _ _ hx) _ _ _ h
theorem akv:∀b x r,X9 b=.inr (x,r)→Ea x:=by
 unfold X9
 refine D_ λn=>D_ λd=>D_ λq=>D_ λa=>?_
 refine ad9 (C:=λc=>0≤c∧c≤5) (λb x r h=>ad5 h) λc hc=>?_
 refine ad9 (C:=λp:List Int=>p.length=c.toNat) (λb x r h=>Bj h) λp hp=>?_
 refine ad9 (C:=λc=>0≤c∧c≤5) (λb x r h=>ad5 h) λk hk=>?_
 refine ad9 (C:=λp:List aI=>p.length=k.toNat) (λb x r h=>Bj h) λt ht=>?_
 refine ad9 (C:=λx=>kT x=true) azM λx hx b y r h=>?_
 simp only[Sum.inr.injEq,aS]at h
 rw[←h.1]
 have:=zK hx
 exact⟨show p.length<_ by omega,show t.length<_ by omega,show x.Pairs.length<_ by omega,show x.fu.length<_ by omega⟩
theorem aui(b:List UInt8)(hb:b.length<500000000):JD b=some (agy b):=by
 unfold JD agy
 have h:=(azT b 0 hb).2
 cases hp:X9 b with
 | inl er =>
  have he:er≠0:=by rcases anQ _ _ hp with rfl | rfl<;>omega
  rw[hp]at h
  obtain⟨x,s,_,h,_⟩:=h
  rw[h,ak]
  unfold Ga F9
  simp only
  rw[vR he]
  simp only[cond_false,ak]
  rw[oz he]
  rfl
 | inr y =>
  obtain⟨x,s⟩:=y
  rw[hp]at h
  simp only at h
  rw[h.2,ak]
  unfold Ga F9
  simp only
  rw[xR rfl,ZH x (akv _ _ _ hp)]
  simp only[cond_true,ak]
  by_cases c:s.length=0
  ·rw[bD (by omega),cond_false]
   cases hc:qJ x
   ·rw[if_neg (by simp)];rfl
   ·rw[if_pos ⟨c,rfl⟩];rfl
  ·rw[bO (by omega),if_neg (by rintro⟨p,_⟩;exact c p)]
   rfl
theorem aea{r:aG}(h:qJ r=true):agy (xI r)=(r,0):=by
 have:=(aud h).1 []
 rw[List.append_nil]at this
 unfold agy
 rw[this]
 simp only
 rw[if_pos ⟨rfl,h⟩]
theorem azU{L:List aF}(hp:OkP L)(o:bZ)(hr:uG o=true):((doP o L).1.Why=0∨(doP o L).1.Why=4∨(doP o L).1.Why=5∨(doP o L).1.Why=6)∧(doP o L).1.Value.length≤16:=by
 have pv:ET L o.Key=true→(pAt L o.Key).Value.length≤16:=λhd=>by
  have h1:=vO hd
  have h2:pAt L o.Key=L[place L o.Key]:=by
   unfold pAt
   rw[bQ h1]
   rfl
  have:=hp _ (List.getElem_mem h1)
  rw[h2]
  unfold amM at this
  simp only[Bool.or_eq_false_iff,decide_eq_false_iff_not]at this
  omega
 unfold doP
 rw[if_neg (by rw[hr];simp)]
 cases hd:ET L o.Key
 ·simp only[Bool.false_eq_true,if_false,if_true]
  split
  ·split<;>simp
  ·simp
 ·have:=pv hd
  simp only[if_true,Bool.true_eq_false,if_false]
  split
  ·simp
  ·split
   ·simp;omega
   ·split
    ·split
     ·simp
     ·simp;omega
    ·simp
theorem auj(S:bM)(x:aB):Ct S x=S∨Ct S x=⟨S.l.set x.Client x⟩:=by
 unfold Ct fD gB
 cases decide (x.Client<0)
 case true=>exact .inl rfl
 cases decide (x.Client≥4)
 case true=>exact .inl rfl
 cases decide (x.Seq<1)
 case true=>exact .inl rfl
 simp only[cond_false]
 cases dH S.l.U5 x.Client with
 | none=>exact .inl rfl
 | some y =>
  simp only[ak]
  cases decide (x.Seq≤y.Seq)
  ·exact .inr rfl
  ·exact .inl rfl
theorem auk{S:bM}{x y:aB}(h:y∈jD (Ct S x)):y∈jD S∨y=x:=by
 rcases auj S x with e | e<;>rw[e]at h
 ·exact .inl h
 ·unfold jD at h ⊢
  rw[List.mem_filter]at h ⊢
  obtain⟨h1,h2⟩:=h
  have:y∈S.l.U5∨y=x:=by
   unfold A4.set at h1
   split at h1<;>simp only[A4.U5,List.mem_cons,List.not_mem_nil,or_false]at h1 ⊢<;>(rcases h1 with rfl | rfl | rfl | rfl<;>simp)
  exact this.imp (λk=>⟨k,h2⟩) id
def OkI(s:eY):Prop:=OkS s∧OkP s.Table.l∧∀y∈jD s.eD,abo y=true
theorem anR(r:bJ)(s:eY)(h:OkI s):∃a b s',zh r (yP s)=some (a,b,yP s')∧OkI s'∧s'.ID=s.ID∧s'.Epoch=s.Epoch:=by
 obtain⟨T,S,i,e⟩:=s
 have h0:=h
 obtain⟨⟨hT,hS⟩,hP,hA⟩:=h
 simp only at hT hS hP hA
 unfold zh
 rw[VX,ak]
 by_cases hr:lT r
 case neg =>
  rw[bD hr]
  exact⟨⟨1,[]⟩,false,⟨T,S,i,e⟩,rfl,h0,rfl,rfl⟩
 rw[bO hr]
 simp only[jY,cond_false,Bool.not_true]
 have hl:=OE S
 rw[aas _ _ (by simp only[yP];omega),ak]
 have q:(lastOf r.Client (yP ⟨T,S,i,e⟩).S_.L)=(lastOf r.Client (jD S)):=rfl
 rw[q]
 generalize lastOf r.Client (jD S)=la
 cases h1:(r.Seq==la.1.Seq)
 case true=>exact⟨la.1.Answer,false,⟨T,S,i,e⟩,by rfl,h0,rfl,rfl⟩
 simp only[cond_false]
 cases h2:decide (r.Seq<la.1.Seq)
 case true=>exact⟨⟨9,[]⟩,false,⟨T,S,i,e⟩,by rfl,h0,rfl,rfl⟩
 simp only[cond_false]
 rw[amL _ _ hT,ak]
 obtain⟨⟨b,e1,e2⟩,e3⟩:=JN ⟨r.Client,r.Seq,(doP r.Op T.l).1⟩ S hS
 simp only[yP]
 rw[akj _ _ (by simp only;omega)]
 simp only[e2,ak]
 have ha:=azU hP r.Op hr.2.2.2.2
 refine⟨_,_,⟨⟨(doP r.Op T.l).2⟩,Ct S ⟨r.Client,r.Seq,(doP r.Op T.l).1⟩,i,e⟩,rfl,⟨⟨ay0 hT _,e3⟩,atX hP _,λy hy=>?_⟩,rfl,rfl⟩
 rcases auk hy with k | rfl
 ·exact hA y k
 ·have hs:=hr.2.2.2.1
  unfold abo
  simp only
  rw[bO ha.2,bO hs]
  rcases ha.1 with k | k | k | k<;>rw[k]<;>rfl
theorem ay2(a b:Int):oL ⟨a,b,[],[]⟩=some (yP ⟨⟨[]⟩,yO,a,b⟩):=by
 unfold oL
 rw[agq _ (by simp)]
 obtain⟨S,e1,_,e3⟩:=akd [] (by simp)
 have e1':o_ []=some yO:=by rw[ags _ (by simp)];rfl
 rw[e1']at e1
 rw[←av e1]at e3
 rw[e3]
 rfl
theorem amP(k epoch:Int)(l:List eX)(f_:Int):∃x,Rb k epoch l f_=some x∧x.Pairs.length≤9∧x.fu.length≤9:=by
 obtain⟨x1,h1⟩:=eZ k 6 (by omega) (by omega)
 obtain⟨x2,h2⟩:=eZ epoch 6 (by omega) (by omega)
 have k6:((6:Nat):Int)=6:=rfl
 rw[k6]at h1 h2
 have hz:OkI ⟨⟨[]⟩,yO,x1,IntKind.i64.wrap (1+x2)⟩:=⟨⟨ok0,⟨.inl rfl,.inl rfl,.inl rfl,.inl rfl⟩⟩,(λp hp=>by simp at hp),λy hy=>by simp[jD,yO,A4.U5,Sm]at hy⟩
 have f6:=ay2 x1 (IntKind.i64.wrap (1+x2))
 unfold Rb
 rw[h1,ak,h2,ak,f6,ak]
 have loop:∃e,Ra l f_ (0,yP ⟨⟨[]⟩,yO,x1,IntKind.i64.wrap (1+x2)⟩)=some e∧∃s,OkI s∧e=yP s:=by
  refine kV (λ(s:Int×bE)=>12-s.1.toNat) (λs=>∃(i:Nat) (t:eY),s=((i:Int),yP t)∧i≤12∧OkI t) _ ?_ KK _ ⟨0,_,rfl,by omega,hz⟩ (by have:=kP;simp only;omega)
  rintro s ⟨i,t,rfl,g1,g2⟩
  simp only[Au,KL]
  by_cases c:i<l.length
  case neg =>
   right
   rw[bD (by omega),cond_false]
   exact⟨_,rfl,t,g2,rfl⟩
  by_cases c2:i<12
  case neg =>
   right
   rw[bO (by omega),cond_true,bD (by omega),cond_false]
   exact⟨_,rfl,t,g2,rfl⟩
  left
  rw[bO (by omega),cond_true,bO (by omega),cond_true,ak]
  simp only[jY,cond_true]
  obtain⟨y,hy⟩:=eZ l[i].Kind 3 (by omega) (by omega)
  have hy:b_ l[i].Kind 3=some y:=hy
  rw[dU c,ak,hy,ak]
  obtain⟨r,hr⟩:=ake ⟨(IntKind.i64.wrap (1+y)),l[i].Key,l[i].Value,l[i].Old,l[i].Client,l[i].Seq,0,l[i].Text⟩
  rw[hr,ak]
  obtain⟨a,b,t',t2,t1,_,_⟩:=anR r t g2
  rw[t2,ak,cu (by omega) (by omega),dF]
  exact⟨_,rfl,⟨i+1,t',rfl,by omega,t1⟩,by simp only;omega⟩
 obtain⟨e,e1,s,hs,rfl⟩:=loop
 have hT:(yP s).T.L.length≤8:=hs.1.1.2
 have hS:(yP s).S_.L.length≤4:=OE s.eD
 rw[e1,ak,UN _ (by omega) (by omega),ak]
 clear e1
 generalize (yP s).T.L=L at *
 generalize (yP s).S_.L=S at *
 obtain⟨x3,h3⟩:=eZ f_ 14 (by omega) (by omega)
 obtain⟨x4,h4⟩:=JO (IntKind.i64.wrap (Int.tdiv f_ 14))
 obtain⟨x5,h5⟩:=adS (IntKind.i64.wrap (Int.tdiv f_ 14))
 obtain⟨x6,h6⟩:=eZ (IntKind.i64.wrap (Int.tdiv f_ 14)) 14 (by omega) (by omega)
 have k14:((14:Nat):Int)=14:=rfl
 rw[k14]at h3 h6
 rw[h3,ak,h4,h5,h6]
 simp only[ak]
 cases (x3==8)
 case true=>exact⟨_,rfl,by simp only;omega,by simp only;omega⟩
 cases (x3==9)
 case true=>exact⟨_,rfl,by simp only;omega,by simp only;omega⟩
 simp only[cond_false]
 cases (x3==10)
 case true =>
  rw[cond_true,EU (by rw[aD];simp only[List.length_singleton];omega)]
  exact⟨_,rfl,by rw[aD];simp only[List.length_singleton];omega,by simp only;omega⟩
 simp only[cond_false]
 cases (x3==11)
 case true =>
  rw[cond_true]
  by_cases c:S.length>0
  ·rw[bO (by omega),cond_true,show(0:Int)=((0:Nat):Int)from rfl,dU c,ak]
   exact⟨_,rfl,by simp only;omega,by rw[bB];omega⟩
  ·rw[bD (by omega)]
   exact⟨_,rfl,by simp only;omega,by simp only;omega⟩
 simp only[cond_false]
 cases (x3==12)
 case true =>
  rw[cond_true]
  by_cases c:L.length>1
  ·rw[bO (by omega),cond_true,show(0:Int)=((0:Nat):Int)from rfl,show(1:Int)=((1:Nat):Int)from rfl,dU (show 0<L.length by omega),ak,dU c,ak,ak,dU (by rw[bB];omega),ak]
   exact⟨_,rfl,by simp only[bB];omega,by simp only;omega⟩
  ·rw[bD (by omega)]
   exact⟨_,rfl,by simp only;omega,by simp only;omega⟩
 simp only[cond_false]
 cases (x3==13)
 ·exact⟨_,rfl,by simp only;omega,by simp only;omega⟩
 ·exact⟨_,rfl,by simp,by simp⟩
theorem akw(k epoch:Int)(l:List eX)(f_:Int):∃x,BA k epoch l f_=some x∧x.2.2.1.length≤9∧x.2.2.2.length≤9:=by
 obtain⟨x1,h1⟩:=eZ k 6 (by omega) (by omega)
 obtain⟨x2,h2⟩:=eZ epoch 6 (by omega) (by omega)
 have k6:((6:Nat):Int)=6:=rfl
 rw[k6]at h1 h2
 have hz:OkI ⟨⟨[]⟩,yO,x1,IntKind.i64.wrap (1+x2)⟩:=⟨⟨ok0,⟨.inl rfl,.inl rfl,.inl rfl,.inl rfl⟩⟩,(λp hp=>by simp at hp),λy hy=>by simp[jD,yO,A4.U5,Sm]at hy⟩
 have f6:=ay2 x1 (IntKind.i64.wrap (1+x2))
 unfold BA
 rw[h1,ak,h2,ak,f6,ak]
 have loop:∃e,LM l f_ (0,yP ⟨⟨[]⟩,yO,x1,IntKind.i64.wrap (1+x2)⟩)=some e∧∃s,OkI s∧e=yP s:=by
  refine kV (λ(s:Int×bE)=>12-s.1.toNat) (λs=>∃(i:Nat) (t:eY),s=((i:Int),yP t)∧i≤12∧OkI t) _ ?_ KK _ ⟨0,_,rfl,by omega,hz⟩ (by have:=kP;simp only;omega)
  rintro s ⟨i,t,rfl,g1,g2⟩
  simp only[vS,Fa]
  by_cases c:i<l.length
  case neg =>
   right
   rw[bD (by omega),cond_false]
   exact⟨_,rfl,t,g2,rfl⟩
  by_cases c2:i<12
  case neg =>
   right
   rw[bO (by omega),cond_true,bD (by omega),cond_false]
   exact⟨_,rfl,t,g2,rfl⟩
  left
  rw[bO (by omega),cond_true,bO (by omega),cond_true,ak]
  simp only[jY,cond_true]
  obtain⟨y,hy⟩:=eZ l[i].Kind 3 (by omega) (by omega)
  have hy:b_ l[i].Kind 3=some y:=hy
  rw[dU c,ak,hy,ak]
  obtain⟨r,hr⟩:=ake ⟨(IntKind.i64.wrap (1+y)),l[i].Key,l[i].Value,l[i].Old,l[i].Client,l[i].Seq,0,l[i].Text⟩
  rw[hr,ak]
  obtain⟨a,b,t',t2,t1,_,_⟩:=anR r t g2
  rw[t2,ak,cu (by omega) (by omega),dF]
  exact⟨_,rfl,⟨i+1,t',rfl,by omega,t1⟩,by simp only;omega⟩
 obtain⟨e,e1,s,hs,rfl⟩:=loop
 have hT:(yP s).T.L.length≤8:=hs.1.1.2
 have hS:(yP s).S_.L.length≤4:=OE s.eD
 rw[e1,ak,UN _ (by omega) (by omega),ak]
 clear e1
 generalize (yP s).T.L=L at *
 generalize (yP s).S_.L=S at *
 obtain⟨x3,h3⟩:=eZ f_ 14 (by omega) (by omega)
 obtain⟨x4,h4⟩:=JO (IntKind.i64.wrap (Int.tdiv f_ 14))
 obtain⟨x5,h5⟩:=adS (IntKind.i64.wrap (Int.tdiv f_ 14))
 obtain⟨x6,h6⟩:=eZ (IntKind.i64.wrap (Int.tdiv f_ 14)) 14 (by omega) (by omega)
 have k14:((14:Nat):Int)=14:=rfl
 rw[k14]at h3 h6
 rw[h3,ak,h4,h5,h6]
 simp only[ak]
 cases (x3==8)
 case true=>exact⟨_,rfl,by simp only;omega,by simp only;omega⟩
 cases (x3==9)
 case true=>exact⟨_,rfl,by simp only;omega,by simp only;omega⟩
 simp only[cond_false]
 cases (x3==10)
 case true =>
  rw[cond_true,EU (by rw[aD];simp only[List.length_singleton];omega)]
  exact⟨_,rfl,by rw[aD];simp only[List.length_singleton];omega,by simp only;omega⟩
 simp only[cond_false]
 cases (x3==11)
 case true =>
  rw[cond_true]
  by_cases c:S.length>0
  ·rw[bO (by omega),cond_true,show(0:Int)=((0:Nat):Int)from rfl,dU c,ak]
   exact⟨_,rfl,by simp only;omega,by rw[bB];omega⟩
  ·rw[bD (by omega)]
   exact⟨_,rfl,by simp only;omega,by simp only;omega⟩
 simp only[cond_false]
 cases (x3==12)
 case true =>
  rw[cond_true]
  by_cases c:L.length>1
  ·rw[bO (by omega),cond_true,show(0:Int)=((0:Nat):Int)from rfl,show(1:Int)=((1:Nat):Int)from rfl,dU (show 0<L.length by omega),ak,dU c,ak,ak,dU (by rw[bB];omega),ak]
   exact⟨_,rfl,by simp only[bB];omega,by simp only;omega⟩
  ·rw[bD (by omega)]
   exact⟨_,rfl,by simp only;omega,by simp only;omega⟩
 simp only[cond_false]
 cases (x3==13)
 ·exact⟨_,rfl,by simp only;omega,by simp only;omega⟩
 ·exact⟨_,rfl,by simp,by simp⟩
theorem akx(r:bJ):∃b,rW r=some b:=by
 unfold rW EC
 rw[VX,ak]
 generalize (r.Client==0&&(r.Seq==0&&(r.Op.Kind==0&&(r.Op.Key==([]:List UInt8)&&(r.Op.Value==([]:List UInt8)&&(r.Op.Old==([]:List UInt8)&&true))))))=z
 cases z
 ·exact⟨_,rfl⟩
 ·exact⟨_,rfl⟩
theorem apg(n:Int):∃v,ac3 n=some v:=by
 unfold ac3
 obtain⟨v,hv⟩:=JO n
 simp only[hv,ak]
 split<;>exact⟨_,rfl⟩
theorem amQ(x:dJ):∃e,MN x=some e:=by
 obtain⟨y1,h1⟩:=eZ x.Inc 4 (by omega) (by omega)
 obtain⟨y2,h2⟩:=eZ x.Status 3 (by omega) (by omega)
 obtain⟨y3,h3⟩:=eZ x.rG 5 (by omega) (by omega)
 obtain⟨y4,h4⟩:=eZ x.Load 12 (by omega) (by omega)
 obtain⟨y5,h5⟩:=eZ x.Inc 19 (by omega) (by omega)
 obtain⟨y6,h6⟩:=apg x.rG
 have h1:b_ x.Inc 4=some y1:=h1
 have h2:b_ x.Status 3=some y2:=h2
 have h3:b_ x.rG 5=some y3:=h3
 have h4:b_ x.Load 12=some y4:=h4
 have h5:b_ x.Inc 19=some y5:=h5
 unfold MN
 simp only[h1,h2,h3,h4,h5,h6,ak]
 cases (y5==18)<;>exact⟨_,rfl⟩
theorem amR(l:List dJ):∃t,QO l 5=some t∧t.length≤5:=by
 have loop:∃e,QN l 5 (0,[])=some e∧e.length≤5:=by
  refine kV (λ(s:Int×List aI)=>5-s.1.toNat) (λs=>∃(i:Nat) (t:List aI),s=((i:Int),t)∧i≤5∧t.length=i) _ ?_ KK _ ⟨0,[],rfl,by omega,rfl⟩ (by have:=kP;simp only;omega)
  rintro s ⟨i,t,rfl,g1,g2⟩
  simp only[Am,KH]
  by_cases c:i<l.length
  case neg =>
   right
   rw[bD (by omega),cond_false]
   exact⟨_,rfl,by omega⟩
  by_cases c2:i<5
  case neg =>
   right
   rw[bO (by omega),cond_true,bD (by omega),cond_false]
   exact⟨_,rfl,by omega⟩
  left
  rw[bO (by omega),cond_true,bO (by omega),cond_true,ak]
  simp only[jY,cond_true]
  obtain⟨y,hy⟩:=amQ l[i]
  rw[dU c,ak,hy,ak,iT (by unfold dR;simp;omega),cu (by omega) (by omega),dF]
  exact⟨_,rfl,⟨i+1,_,rfl,by omega,by simp;omega⟩,by simp only;omega⟩
 obtain⟨e,e1,e2⟩:=loop
 unfold QO
 rw[e1]
 exact⟨e,rfl,e2⟩
theorem ayv(a b:aG):(a.Kind=b.Kind∧a.From=b.From∧a.To=b.To∧a.fJ=b.fJ∧a.Epoch=b.Epoch∧a.Weight=b.Weight∧a.Load=b.Load∧a.ou=b.ou∧a.fq=b.fq∧a.Ef=b.Ef∧a.Answer=b.Answer∧a.Path=b.Path∧a.Table=b.Table∧a.qg=b.qg)↔a=b:=by
 obtain⟨⟩:=a;obtain⟨⟩:=b
 simp
theorem anS(x y:aI):(x.Inc=y.Inc∧x.Status=y.Status∧x.rG=y.rG∧x.Load=y.Load∧x.fq=y.fq)↔x=y:=by
 obtain⟨a,b,c,d,e⟩:=x;obtain⟨a',b',c',d',e'⟩:=y
 simp
instance:DecidableEq aI:=λx y=>decidable_of_iff _ (anS x y)
theorem aph(a b:List aI)(h:a.length<1000000):DK a b=some (decide (a=b)):=by
 unfold DK
 by_cases c:a.length=b.length
 ·rw[iP (by omega),cond_false]
  obtain⟨e,e1,e2⟩:=ZB a b (λx y=>(x.Inc==y.Inc&&(x.Status==y.Status&&(x.rG==y.rG&&(x.Load==y.Load&&(x.fq==y.fq&&true)))))) (λx y=>by rw[←anS];simp) h c (sU a b) (λ_=>rfl)
  unfold GQ
  rw[e1,ak,e2]
  by_cases q:a=b<;>simp[q]
 ·rw[oz (by omega),bD (λe=>c (by rw[e]))];rfl
theorem aky(x y:aJ):(x.Why==y.Why&&(x.Value==y.Value&&true))=true↔x=y:=by
 obtain⟨a,b⟩:=x;obtain⟨a',b'⟩:=y
 simp
theorem azV(a b:aG)(h:Ea a):∃v,EN a b=some v∧(v=true↔a=b):=by
 unfold EN Fj
 rw[aph a.Table b.Table h.2.1,ay1 a.qg b.qg h.2.2.1 h.2.2.2]
 rw[←ayv]
 have no:∀ {P:Prop},¬P→(false=true↔P):=by
  intro P h
  constructor
  ·intro e
   cases e
  ·intro p
   exact(h p).elim
 by_cases k0:a.Kind=b.Kind
 case neg=>exact⟨false,by rw[oz k0];rfl,no (by rintro⟨p,_⟩;exact k0 p)⟩
 by_cases k1:a.From=b.From
 case neg=>exact⟨false,by rw[iP k0,cond_false,oz k1];rfl,no (by rintro⟨_,p,_⟩;exact k1 p)⟩
 by_cases k2:a.To=b.To
 case neg=>exact⟨false,by rw[iP k0,cond_false,iP k1,cond_false,oz k2];rfl,no (by rintro⟨_,_,p,_⟩;exact k2 p)⟩
 by_cases k3:a.fJ=b.fJ
 case neg=>exact⟨false,by rw[iP k0,cond_false,iP k1,cond_false,iP k2,cond_false,oz k3];rfl,no (by rintro⟨_,_,_,p,_⟩;exact k3 p)⟩
 by_cases k4:a.Epoch=b.Epoch
 case neg=>exact⟨false,by rw[iP k0,cond_false,iP k1,cond_false,iP k2,cond_false,iP k3,cond_false,oz k4];rfl,no (by rintro⟨_,_,_,_,p,_⟩;exact k4 p)⟩
 by_cases k5:a.Weight=b.Weight
 case neg=>exact⟨false,by rw[iP k0,cond_false,iP k1,cond_false,iP k2,cond_false,iP k3,cond_false,iP k4,cond_false,oz k5];rfl,no (by rintro⟨_,_,_,_,_,p,_⟩;exact k5 p)⟩
 by_cases k6:a.Load=b.Load
 case neg=>exact⟨false,by rw[iP k0,cond_false,iP k1,cond_false,iP k2,cond_false,iP k3,cond_false,iP k4,cond_false,iP k5,cond_false,oz k6];rfl,no (by rintro⟨_,_,_,_,_,_,p,_⟩;exact k6 p)⟩
 by_cases k7:a.ou=b.ou
 case neg=>exact⟨false,by rw[iP k0,cond_false,iP k1,cond_false,iP k2,cond_false,iP k3,cond_false,iP k4,cond_false,iP k5,cond_false,iP k6,cond_false,oz k7];rfl,no (by rintro⟨_,_,_,_,_,_,_,p,_⟩;exact k7 p)⟩
 rw[iP k0,cond_false,iP k1,cond_false,iP k2,cond_false,iP k3,cond_false,iP k4,cond_false,iP k5,cond_false,iP k6,cond_false,iP k7,cond_false]
 by_cases k8:a.fq=b.fq
 case neg=>exact⟨false,by rw[show(a.fq==b.fq)=false by simpa using k8];rfl,no (by rintro⟨_,_,_,_,_,_,_,_,p,_⟩;exact k8 p)⟩
 rw[show(a.fq==b.fq)=true by simpa using k8,ahV]
 by_cases k9:a.Ef=b.Ef
 case neg=>exact⟨false,by rw[bD k9];rfl,no (by rintro⟨_,_,_,_,_,_,_,_,_,p,_⟩;exact k9 p)⟩
 rw[bO k9]
 by_cases ka:a.Answer=b.Answer
 case neg=>exact⟨false,by rw[show(a.Answer.Why==b.Answer.Why&&(a.Answer.Value==b.Answer.Value&&true))=false by rw[Bool.eq_false_iff];exact λe=>ka ((aky _ _).1 e)];rfl,no (by rintro⟨_,_,_,_,_,_,_,_,_,_,p,_⟩;exact ka p)⟩
 rw[(aky a.Answer b.Answer).2 ka]
 by_cases kb:a.Path.length=b.Path.length
 case neg=>exact⟨false,by rw[oz (show(a.Path.length:Int)≠_ by omega)];rfl,no (by rintro⟨_,_,_,_,_,_,_,_,_,_,_,p,_⟩;exact kb (by rw[p]))⟩
 rw[iP (show(a.Path.length:Int)=_ by omega)]
 by_cases kc:a.Table=b.Table
 case neg=>exact⟨false,by rw[bD kc];rfl,no (by rintro⟨_,_,_,_,_,_,_,_,_,_,_,_,p,_⟩;exact kc p)⟩
 rw[bO kc]
 obtain⟨e,e1,e2⟩:=ZB a.Path b.Path (λx y=>x==y) (λx y=>by simp) h.1 kb (vW a b) (λ_=>rfl)
 have e1:LZ a b 0=some e:=e1
 have hi:jY (.inr ():Unit⊕Unit)=false:=rfl
 simp only[Bool.not_true,cond_false,ak,hi,e1]
 by_cases kd:a.Path=b.Path
 case neg=>exact⟨false,by rw[e2,bO kd];rfl,no (by rintro⟨_,_,_,_,_,_,_,_,_,_,_,p,_⟩;exact kd p)⟩
 rw[e2,bD (λh=>h kd),cond_false]
 refine⟨_,rfl, ?_⟩
 rw[decide_eq_true_eq,anN]
 exact⟨λe=>⟨k0,k1,k2,k3,k4,k5,k6,k7,k8,k9,ka,kd,kc,e⟩,λe=>e.2.2.2.2.2.2.2.2.2.2.2.2.2⟩
def unM(t:Int×Int×Int×Int×Int×Int×Int×Int×Bool×Int×Int×Int×List UInt8×List UInt8×List UInt8×Int×List UInt8×Int×Int×List Int×List aI×List aF×List aB):aG:=⟨t.1,t.2.1,t.2.2.1,t.2.2.2.1,t.2.2.2.2.1,t.2.2.2.2.2.1,t.2.2.2.2.2.2.1,t.2.2.2.2.2.2.2.1,t.2.2.2.2.2.2.2.2.1,⟨t.2.2.2.2.2.2.2.2.2.1,t.2.2.2.2.2.2.2.2.2.2.1,⟨t.2.2.2.2.2.2.2.2.2.2.2.1,t.2.2.2.2.2.2.2.2.2.2.2.2.1,t.2.2.2.2.2.2.2.2.2.2.2.2.2.1,t.2.2.2.2.2.2.2.2.2.2.2.2.2.2.1⟩⟩,⟨t.2.2.2.2.2.2.2.2.2.2.2.2.2.2.2.1,t.2.2.2.2.2.2.2.2.2.2.2.2.2.2.2.2.1⟩,t.2.2.2.2.2.2.2.2.2.2.2.2.2.2.2.2.2.2.2.1,t.2.2.2.2.2.2.2.2.2.2.2.2.2.2.2.2.2.2.2.2.1,⟨t.2.2.2.2.2.2.2.2.2.2.2.2.2.2.2.2.2.1,t.2.2.2.2.2.2.2.2.2.2.2.2.2.2.2.2.2.2.1,t.2.2.2.2.2.2.2.2.2.2.2.2.2.2.2.2.2.2.2.2.2.1,t.2.2.2.2.2.2.2.2.2.2.2.2.2.2.2.2.2.2.2.2.2.2⟩⟩
def other:List UInt8:=[111,116,104,101,114]
def azW(q:bJ):Prop:=q.Seq≠77∨q.Op.Key≠other
theorem apj(n:Int):∃v,Ol n=some v∧v≠other:=by
 obtain⟨k,hk,h⟩:=Gn n 16 (by omega) (by omega)
 unfold Ol
 rw[show(16:Int)=((16:Nat):Int)from rfl,hk,ak,dU (by simpa using h),ak]
 refine⟨_,rfl, ?_⟩
 have:∀v∈([[97],[98],[99],[100],[101],[102],[103],[104],[107,97],[107,98],[107,99],[107,100],[120],[121],[122,122],[101,105,103,104,116,107,101,121]]:List (List UInt8)),v≠other:=by decide
 exact this _ (List.getElem_mem _)
theorem aul(a b c d:Int):∃o,ada a b c d=some o∧o.Key≠other:=by
 obtain⟨x1,h1⟩:=eZ a 4 (by omega) (by omega)
 obtain⟨x2,h2,n2⟩:=apj b
 obtain⟨x4,h4⟩:=OG c
 obtain⟨x6,h6⟩:=OG d
 have k4:((4:Nat):Int)=4:=rfl
 rw[k4]at h1
 unfold ada
 rw[h1,ak,h2,ak]
 unfold QT QS
 rw[h4,h6]
 simp only[ak]
 cases (IntKind.i64.wrap (1+x1)==2)<;>cases q:(IntKind.i64.wrap (1+x1)==4)<;>simp[q,n2]
theorem apk(x:eX):∃r,Ll x=some r∧azW r:=by
 obtain⟨x1,h1⟩:=eZ x.Client 4 (by omega) (by omega)
 obtain⟨x2,h2,l2⟩:=Gn x.Seq 9 (by omega) (by omega)
 obtain⟨x3,h3,n3⟩:=aul x.Kind x.Key x.Value x.Old
 obtain⟨x4,h4⟩:=eZ x.vQ 16 (by omega) (by omega)
 obtain⟨x5,h5⟩:=Te x.Text 12
 obtain⟨x6,h6⟩:=Te x.Text 20
 obtain⟨x7,h7⟩:=eZ (IntKind.i64.wrap (Int.tdiv x.vQ 16)) 8 (by omega) (by omega)
 obtain⟨x8,h8⟩:=eZ (IntKind.i64.wrap (Int.tdiv x.vQ 16)) 9 (by omega) (by omega)
 obtain⟨x9,h9⟩:=JO (IntKind.i64.wrap (Int.tdiv x.vQ 16))
 have h1:b_ x.Client 4=some x1:=h1
 have h2:b_ x.Seq 9=some (x2:Int):=h2
 have h4:b_ x.vQ 16=some x4:=h4
 have h5:KI x.Text 12=some x5:=h5
 have h6:KI x.Text 20=some x6:=h6
 have h7:b_ (IntKind.i64.wrap (Int.tdiv x.vQ 16)) 8=some x7:=h7
 have h8:b_ (IntKind.i64.wrap (Int.tdiv x.vQ 16)) 9=some x8:=h8
 have hs:IntKind.i64.wrap (1+(x2:Int))≠77:=by rw[cu (by omega) (by omega)];omega
 unfold Ll
 simp only[h1,h2,h3,h4,h5,h6,h7,h8,h9,ak]
 cases (x4==10)
 case true=>exact⟨_,rfl,.inl hs⟩
 cases (x4==11)
 case true=>exact⟨_,rfl,.inl hs⟩
 cases (x4==12)
 case true=>exact⟨_,rfl,.inl hs⟩
 cases (x4==13)
 case true=>exact⟨_,rfl,.inl hs⟩
 cases (x4==14)
 case true=>exact⟨_,rfl,.inr n3⟩
 cases (x4==15)
 case true=>exact⟨_,rfl,.inl (by simp)⟩
 exact⟨_,rfl,.inl hs⟩
theorem apl(n:Int):∃v,Ak n=some v∧v.length≤16:=by
 obtain⟨k,hk,h⟩:=Gn n 6 (by omega) (by omega)
 unfold Ak
 rw[show(6:Int)=((6:Nat):Int)from rfl,hk,ak,dU (by simpa using h),ak]
 refine⟨_,rfl, ?_⟩
 have:∀v∈([[],[49],[50],[116,104,114,101,101],[115,105,120,116,101,101,110,32,98,121,116,101,115,32,105,116],[52]]:List (List UInt8)),v.length≤16:=by decide
 exact this _ (List.getElem_mem _)
theorem apm(x:dh):∃m,adg x 5=some m∧Ea m∧azW m.Ef∧m.Path.length≤11∧m.Table.length≤5∧m.Answer.Value.length≤16:=by
 obtain⟨x1,h1⟩:=eZ x.Kind 10 (by omega) (by omega)
 have h1:b_ x.Kind 10=some x1:=h1
 obtain⟨x2,h2⟩:=eZ x.From 5 (by omega) (by omega)
 have h2:b_ x.From 5=some x2:=h2
 obtain⟨x3,h3⟩:=eZ x.To 5 (by omega) (by omega)
 have h3:b_ x.To 5=some x3:=h3
 obtain⟨x4,h4⟩:=eZ x.fJ 6 (by omega) (by omega)
 have h4:b_ x.fJ 6=some x4:=h4
 obtain⟨x5,h5⟩:=eZ x.Epoch 6 (by omega) (by omega)
 have h5:b_ x.Epoch 6=some x5:=h5
 obtain⟨x6,h6⟩:=eZ x.Weight 9 (by omega) (by omega)
 have h6:b_ x.Weight 9=some x6:=h6
 obtain⟨x7,h7⟩:=eZ x.Load 20 (by omega) (by omega)
 have h7:b_ x.Load 20=some x7:=h7
 obtain⟨x8,h8⟩:=eZ x.ou 4 (by omega) (by omega)
 have h8:b_ x.ou 4=some x8:=h8
 obtain⟨x9,h9⟩:=eZ x.Why 12 (by omega) (by omega)
 have h9:b_ x.Why 12=some x9:=h9
 obtain⟨nO,h14⟩:=eZ x.vQ 5 (by omega) (by omega)
 have h14:b_ x.vQ 5=some nO:=h14
 obtain⟨x33,h33⟩:=eZ x.vQ 4 (by omega) (by omega)
 have h33:b_ x.vQ 4=some x33:=h33
 obtain⟨Xb,h37⟩:=eZ x.vQ 22 (by omega) (by omega)
 have h37:b_ x.vQ 22=some Xb:=h37
 obtain⟨x40,h40⟩:=eZ x.Kind 14 (by omega) (by omega)
 have h40:b_ x.Kind 14=some x40:=h40
 obtain⟨x42,h42⟩:=eZ x.Why 15 (by omega) (by omega)
 have h42:b_ x.Why 15=some x42:=h42
 obtain⟨x10,h10,v10⟩:=apl x.Why
 obtain⟨dV,h11,l11⟩:=amR x.Table
 obtain⟨dZ,h12,n12⟩:=apk x.Op
 obtain⟨b13,h13⟩:=akx dZ
 obtain⟨x35,h35,a35,b35⟩:=akw x.fJ x.Epoch x.Ops 0
 obtain⟨x38,h38⟩:=JO x.ou
 obtain⟨x39,h39⟩:=JO x.From
 obtain⟨x41,h41,a41,b41⟩:=amP x.fJ x.Epoch x.Ops (IntKind.i64.wrap (Int.tdiv x.vQ 22))
 have j0:∃y,M9 dZ x 5 x1 x2 x3 x4 x5 x6 x7 x8 x9 x10 dV=some y∧azW ⟨y.1,y.2.1,⟨y.2.2.1,y.2.2.2.1,y.2.2.2.2.1,y.2.2.2.2.2⟩⟩:=by
  unfold M9
  simp only[h13,h14,ak]
  cases b13
  ·cases decide (nO<4)
   ·exact⟨_,rfl,n12⟩
   ·exact⟨_,rfl,.inl (by simp)⟩
  ·exact⟨_,rfl,n12⟩
 obtain⟨dP,h15,n15⟩:=j0
 have loop:∃e,YR x 5 x1 x2 x3 x4 x5 x6 x7 x8 dP x9 x10 dV (0,[])=some e∧e.length≤5:=by
  refine kV (λ(s:Int×List Int)=>5-s.1.toNat) (λs=>∃(i:Nat) (t:List Int),s=((i:Int),t)∧i≤5∧t.length=i) _ ?_ KK _ ⟨0,[],rfl,by omega,rfl⟩ (by have:=kP;simp only;omega)
  rintro s ⟨i,t,rfl,g1,g2⟩
  simp only[FT,SY]
  by_cases c:i<x.Path.length
  case neg =>
   right
   rw[bD (by omega),cond_false]
   exact⟨_,rfl,by omega⟩
  by_cases c2:i<5
  case neg =>
   right
   rw[bO (by omega),cond_true,bD (by omega),cond_false]
   exact⟨_,rfl,by omega⟩
  left
  rw[bO (by omega),cond_true,bO (by omega),cond_true,ak]
  simp only[jY,cond_true]
  obtain⟨y,hy⟩:=eZ x.Path[i] 5 (by omega) (by omega)
  have hy:b_ x.Path[i] 5=some y:=hy
  rw[dU c,ak,hy,ak,iT (by unfold dR;simp;omega),cu (by omega) (by omega),dF]
  exact⟨_,rfl,⟨i+1,_,rfl,by omega,by simp;omega⟩,by simp only;omega⟩
 obtain⟨x32,h32,l32⟩:=loop
 have j4:∃y,M_ x1 x x2 x3 x4 x5 x6 x7 x8 dP x9 x10 x32 dV=some y∧y.2.2.1.length≤9∧y.2.2.2.length≤9:=by
  unfold M_ S9
  simp only[h33,h35,ak]
  cases (IntKind.i64.wrap (1+x1)==6)
  ·simp only[cond_false,ak]
   cases (x33==1)
   ·exact⟨_,rfl,by simp,by simp⟩
   ·exact⟨_,rfl,a35,b35⟩
  ·exact⟨_,rfl,a35,b35⟩
 obtain⟨Eh,h36,a36,b36⟩:=j4
 unfold adg
 simp only[h1,h2,h3,h4,h5,h6,h7,h8,h9,h10,h11,h12,h15,h32,h36,h37,h38,h39,h40,h41,h42,ak]
 have s1:Eh.2.2.1.length<1000000∧Eh.2.2.2.length<1000000:=⟨by omega,by omega⟩
 have s2:x41.Pairs.length<1000000∧x41.fu.length<1000000:=⟨by omega,by omega⟩
 have s3:x32.length<1000000:=by omega
 have s4:dV.length<1000000:=by omega
 have s5:(x32++[1,2,3,4,5,6]).length<1000000:=by simp;omega
 have p5:(x32++[1,2,3,4,5,6]).length≤11:=by simp;omega
 have p3:x32.length≤11:=by omega
 cases (Xb==16)
 case true=>exact⟨_,rfl,⟨s3,s4,s1⟩,n15,p3,l11,v10⟩
 cases (Xb==17)
 case true=>exact⟨_,rfl,⟨s3,s4,s1⟩,n15,p3,l11,v10⟩
 cases (Xb==18)
 case true=>exact⟨_,rfl,⟨s3,s4,s1⟩,n15,p3,l11,v10⟩
 cases (Xb==19)
 case true=>exact⟨_,rfl,⟨s3,s4,s2⟩,n15,p3,l11,v10⟩
 cases (Xb==20)
 case true=>exact⟨_,rfl,⟨s3,s4,s1⟩,n15,p3,l11,v10⟩
 cases (Xb==21)
 case true =>
  simp only[cond_true,cond_false]
  rw[iT (by unfold dR;simp;omega)]
  exact⟨_,rfl,⟨s5,s4,s1⟩,n15,p5,l11,v10⟩
 exact⟨_,rfl,⟨s3,s4,s1⟩,n15,p3,l11,v10⟩
theorem apn{x:Nat}(h:x<9223372036854775808):Gq (IntKind.i64.wrap (128+Int.tmod (x:Int) 128))=UInt8.ofNat (x%128+128):=by
 rw[Int.tmod_eq_emod_of_nonneg (by omega),cu (by omega) (by omega)]
 have:(128:Int)+(x:Int)%128=((x%128+128:Nat):Int):=by omega
 rw[this,abM (by omega)]
theorem apo{x:Nat}(h:x<9223372036854775808):IntKind.i64.wrap (Int.tdiv (x:Int) 128)=((x/128:Nat):Int):=by
 rw[Int.tdiv_eq_ediv_of_nonneg (by omega),cu (by omega) (by omega)]
 omega
theorem IB(x:Int):Ji x=some (Oe x):=by
 unfold Ji Oe
 by_cases h:0≤x
 ·rw[bO (by omega),cond_true]
  congr 1
  rw[decide_eq_decide]
  omega
 ·rw[bD (by omega),cond_false,bD (by omega)]
theorem agz (n:List Int) (s10:Int×List UInt8):∀(k x:Nat) (s:List UInt8),x<9223372036854775808→(rD x).length≤k→s.length+k<1000000000000 →
  ∃(y:Nat) (s':List UInt8),(∀j,k≤j→dG (nu n s10) j ((x:Int),s)=some ((y:Int),s'))∧y<128∧s'++[UInt8.ofNat y]=s++rD x∧s'.length+1≤s.length+k
 | 0,x,s,_,h,_=>by have:=QE x;omega
 | k+1,x,s,hx,h,hs=>by
  by_cases c:x<128
  ·refine⟨x,s,λj hj=>?_,c,by rw[xS c],by omega⟩
   obtain⟨j,rfl⟩:∃i,j=i+1:=⟨j-1,by omega⟩
   have e:nu n s10 ((x:Int),s)=some (.inr ((x:Int),s)):=by
    unfold nu
    rw[bD (by simp only;omega),cond_false]
   simp only[dG,e]
  ·have hl:(rD (x/128)).length≤k:=by rw[I4 c]at h;simpa using h
   obtain⟨y,s',h1,h2,h3,h4⟩:=agz n s10 k (x/128) (s++[UInt8.ofNat (x%128+128)]) (by omega) hl (by simp;omega)
   refine⟨y,s',λj hj=>?_,h2,by rw[h3,afJ x c],by simp at h4;omega⟩
   obtain⟨j,rfl⟩:∃i,j=i+1:=⟨j-1,by omega⟩
   have e:nu n s10 ((x:Int),s)=some (.inl (((x/128:Nat):Int),s++[UInt8.ofNat (x%128+128)])):=by
    unfold nu
    rw[bO (by simp only;omega),cond_true]
    simp only[apn hx,apo hx]
    rw[qh (by simp;omega)]
   simp only[dG,e]
   exact h1 j (by omega)
theorem aeb(b:List UInt8)(l:List Int)(h:b.length+10*l.length<1000000000):Rp b l=some (Uh b l):=by
 unfold Rp
 rw[qh (by omega)]
 have key:∃e,Ro l (0,b)=some e∧e=(if l.all Oe then .inr (b++encI l)else .inl ()):=by
  refine kV (λ(s:Int×List UInt8)=>l.length-s.1.toNat) (λ(s:Int×List UInt8)=>∃i:Nat,s.1=(i:Int)∧i≤l.length∧(∀x∈l.take i,Oe x=true)∧s.2=b++encI (l.take i)) _ ?_ KK (0,b) ⟨0,rfl,by omega,by simp,by simp[encI]⟩ (by have:=kP;simp only;omega)
  rintro⟨j,s⟩ ⟨i,rfl,h1,h2,rfl⟩
  have hle:=ag3 _ h2
  rw[bf]at hle
  simp only[Aw]
  by_cases hi:i<l.length
  ·rw[bO (by omega),cond_true,dU hi,ak,IB,ak]
   by_cases hx:Oe l[i]=true
   ·left
    have hx':=hx
    simp only[Oe,decide_eq_true_eq]at hx'
    obtain⟨x,hxe⟩:∃x:Nat,l[i]=x:=⟨l[i].toNat,by omega⟩
    have h9:=MF (x:=x) (by omega)
    obtain⟨y,s',q1,q2,q3,q4⟩:=agz l ((i:Int),b++encI (l.take i)) 9 x (b++encI (l.take i)) (by omega) h9 (by simp;omega)
    have q1':=q1 KK (by decide)
    rw[hx]
    simp only[Bool.not_true,cond_false,Rn,hxe,q1',ak]
    have q5:s'++[Gq (y:Int)]=b++encI (l.take (i+1)):=by
     rw[abM (by omega),q3,bG hi,afH,hxe]
     simp
    rw[qh (by simp at q4 ⊢;omega),q5]
    refine⟨_,rfl,⟨i+1,by rw[cu (by omega) (by omega)];simp,by omega, ?_,rfl⟩,by rw[cu (by omega) (by omega)];omega⟩
    rw[bG hi]
    intro y hy
    rcases List.mem_append.1 hy with hy | hy
    ·exact h2 y hy
    ·rw[List.mem_singleton.1 hy];exact hx
   ·right
    have hx':Oe l[i]=false:=by simpa using hx
    rw[if_neg (by simp[aiW l hi hx']),hx']
    exact⟨_,rfl,rfl⟩
  ·right
   rw[bD (by omega),cond_false]
   rw[List.take_of_length_le (by omega)]at h2 ⊢
   rw[if_pos (List.all_eq_true.2 h2)]
   exact⟨_,rfl,rfl⟩
 obtain⟨e,e1,e2⟩:=key
 rw[e1,ak,e2]
 unfold Uh
 split<;>rfl
theorem pI(b:List UInt8)(l:List Int)(h:b.length+10*l.length<1000000000):EH b l=some (Uh b l):=aeb b l h
def UQ(b:List UInt8)(i:Nat):Int:=match iX (b.drop i)with
 | some _=>2
 | none=>3
theorem amS(b:List UInt8)(i:Nat)(hi:i≤b.length)(h:b.length<1000000000000):XK b (i:Int)=some (UQ b i):=by
 unfold XK
 have key:∃x,VE b (i:Int)=some x∧(cond (jY x) (some 2) (some 3):Option Int)=some (UQ b i):=by
  refine kV (λs:Int=>b.length-s.toNat) (λs=>∃j:Nat,s=(j:Int)∧j≤b.length∧UQ b i=UQ b j) _ ?_ KK (i:Int) ⟨i,rfl,hi,rfl⟩ (by have:=kP;simp;omega)
  rintro s ⟨j,rfl,h1,h2⟩
  simp only[DW]
  by_cases hj:j<b.length
  ·have hd:b.drop j=b[j]::b.drop (j+1):=List.drop_eq_getElem_cons hj
   rw[bO (by omega),cond_true,dU hj,ak]
   by_cases hc:(b[j]).toNat<128
   ·right
    rw[bO (by omega),cond_true]
    refine⟨_,rfl, ?_⟩
    rw[h2]
    unfold UQ
    rw[hd,iX,if_pos hc]
    rfl
   ·left
    rw[bD (by omega),cond_false,cu (by omega) (by omega)]
    refine⟨_,rfl,⟨j+1,by omega,by omega, ?_⟩,by omega⟩
    rw[h2]
    unfold UQ
    rw[hd,iX,if_neg hc]
    cases iX (b.drop (j+1))<;>rfl
  ·right
   rw[bD (by omega),cond_false]
   refine⟨_,rfl, ?_⟩
   rw[h2]
   unfold UQ
   rw[List.drop_of_length_le (by omega),iX]
   rfl
 obtain⟨x,e1,e2⟩:=key
 rw[e1,ak,e2]
theorem OJ{b:List UInt8}{e:Int}(h:l6 b=(0,0,e))(he:e≠0):I5 b=(0,[],e):=by
 unfold I5
 rw[h]
 simp[he]
theorem ayw (b:List UInt8) (i:Nat) (hi:i≤b.length) (hs:∀j (h:j<i) (h':j<b.length),¬(b[j]).toNat<128)
  (hb:∀j,iX b=some j→9≤j∨4611686018427387903<valOf (b.take (j+1))):I5 b=(0,[],UQ b i):=by
 have e:=FH b i hi hs
 unfold UQ
 cases hd:iX (b.drop i)with
 | none =>
  rw[hd]at e
  refine OJ (e:=3) ?_ (by decide)
  unfold l6
  rw[e]
  rfl
 | some k =>
  rw[hd]at e
  refine OJ (e:=2) ?_ (by decide)
  have:=hb _ e
  unfold l6
  rw[e]
  show xU b (k+i)=(0,0,2)
  unfold xU
  split
  ·rfl
  ·rename_i q
   rcases this with w | w
   ·exact absurd (.inl w) q
   ·rw[if_pos w]
theorem anT{b:List UInt8}(h:8<b.length):valOf (b.take 9)=valOf (b.take 8)+72057594037927936*((b[8]).toNat%128)∧valOf (b.take 8)<72057594037927936:=by
 have e:b.take 9=b.take 8++[b[8]]:=bG h
 have hl:(b.take 8).length=8:=by rw[bf];omega
 have:=WI (b.take 8)
 rw[hl]at this
 refine⟨?_,this⟩
 rw[e,YG,hl]
 simp[valOf]
theorem apq(m i:Nat)(hm:m<128)(hi:i≤8)(h8:i=8→m<64):aiL .i64 (m:Int) (IntKind.u64.wrap (IntKind.i64.wrap (7*(i:Int))))=some ((m*128 ^ i:Nat):Int):=by
 rw[cu (by omega) (by omega),aiT (by omega) (by omega)]
 unfold aiL
 rw[if_neg (by omega)]
 have e1:min (7*(i:Int)).toNat (IntKind.bits .i64)=7*i:=by
  show min (7*(i:Int)).toNat 64=7*i
  omega
 have e2:(m:Int)*2 ^ (7*i)=((m*128 ^ i:Nat):Int):=by
  rw[Int.pow_mul]
  norm_cast
 have e3:m*128 ^ i<9223372036854775808:=by
  rcases Nat.lt_or_ge i 8 with q | q
  ·have:=Nat.pow_le_pow_right (n:=128) (by omega) (show i≤7 by omega)
   have h2:=Nat.mul_le_mul (show m≤127 by omega) this
   exact Nat.lt_of_le_of_lt h2 (by decide)
  ·obtain rfl:i=8:=by omega
   have:=h8 rfl
   rw[show(128:Nat) ^ 8=72057594037927936 from by decide]
   omega
 rw[e1,e2,cu (by omega) (by omega)]
theorem aav(b:List UInt8)(h:b.length<1000000000):Td b=some (I5 b):=by
 unfold Td
 have key:∃x,VG b (0,0)=some x∧(cond (jY x) (some ((Bu x).1,(Bu x).2.2,(Bu x).2.1)) (some (0,[],3)))=some (I5 b):=by
  refine kV (λ(s:Int×Int)=>b.length-s.2.toNat) (λ(s:Int×Int)=>∃i:Nat,s.2=(i:Int)∧i≤b.length∧i≤9∧(∀j (h:j<i) (h':j<b.length),¬(b[j]).toNat<128)∧s.1=((valOf (b.take i):Nat):Int)) _ ?_ KK (0,0) ⟨0,rfl,by omega,by omega,λj h=>by omega,by simp[valOf]⟩ (by have:=kP;simp only;omega)
  rintro⟨v,i'⟩ ⟨i,rfl,h1,h9,hs,rfl⟩
  simp only[DX]
  by_cases hi:i<b.length
  case neg =>
   right
   rw[bD (by omega),cond_false]
   refine⟨_,rfl, ?_⟩
   have:i=b.length:=by omega
   subst this
   have en:iX b=none:=by
    rw[FH b _ (Nat.le_refl _) hs,List.drop_length]
    rfl
   rw[OJ (e:=3) (by unfold l6;rw[en]) (by decide)]
   rfl
  rw[bO (by omega),cond_true,dU hi,ak]
  generalize hc:b[i]=c
  have hc2:=c.toNat_lt
  have w0:IntKind.i64.wrap (c.toNat:Int)=(c.toNat:Int):=cu (by omega) (by omega)
  have m0:Int.tmod (c.toNat:Int) 128=((c.toNat%128:Nat):Int):=by rw[Int.tmod_eq_emod_of_nonneg (by omega)];omega
  have hd:b.drop i=c::b.drop (i+1):=by rw[List.drop_eq_getElem_cons hi,hc]
  by_cases late:i=9∨(i=8∧64≤c.toNat%128)
  ·right
   have j0:BO (((valOf (b.take i):Nat):Int),(i:Int)) c b=some true:=by
    unfold BO
    simp only[w0,m0]
    rcases late with q |⟨q,q2⟩
    ·rw[xR (by omega),cond_true]
    ·rw[vR (by omega),cond_false,xR (by omega),cond_true,bO (by omega)]
   have j1:BP (((valOf (b.take i):Nat):Int),(i:Int)) c b=some (.inl (UQ b i)):=by
    unfold BP
    rw[j0,ak,cond_true]
    simp only
    rw[amS b i (by omega) (by omega),ak]
   rw[j1,ak]
   refine⟨_,rfl, ?_⟩
   simp only[jY,Bu,cond_true]
   rw[ayw b i (by omega) hs λj hj=>?_]
   rcases Nat.lt_or_ge j 9 with q | q
   ·right
    have hji:i≤j:=by
     rcases Nat.lt_or_ge j i with w | w
     ·obtain⟨_,u1,u2⟩:=QF hj
      exact absurd u2 (hs j w u1)
     ·exact w
    rcases late with w |⟨w,w2⟩
    ·omega
    ·subst w
     obtain rfl:j=8:=by omega
     have:=anT hi
     rw[hc]at this
     show 4611686018427387903<valOf (b.take 9)
     omega
   ·exact .inl q
  ·have hi8:i≤8:=by omega
   have h64:i=8→c.toNat%128<64:=by omega
   have j0:BO (((valOf (b.take i):Nat):Int),(i:Int)) c b=some false:=by
    unfold BO
    simp only[w0,m0]
    rw[vR (by omega),cond_false]
    by_cases q:i=8
    ·rw[xR (by omega),cond_true,bD (by omega)]
    ·rw[vR (by omega),cond_false]
   have j1:BP (((valOf (b.take i):Nat):Int),(i:Int)) c b=some (.inr ()):=by
    unfold BP
    rw[j0,ak,cond_false]
   rw[j1,ak]
   simp only[jY,cond_false,w0,m0]
   rw[apq _ i (by omega) hi8 h64,ak]
   have tk:b.take (i+1)=b.take i++[c]:=by rw[bG hi,hc]
   have hl:(b.take i).length=i:=by rw[bf];omega
   have ev:valOf (b.take (i+1))=valOf (b.take i)+c.toNat%128*128 ^ i:=by
    rw[tk,YG,hl]
    simp[valOf,Nat.mul_comm]
   have hv:valOf (b.take (i+1))≤4611686018427387903:=by
    rcases Nat.lt_or_ge i 8 with q | q
    ·have a1:=WI (b.take (i+1))
     have a2:(b.take (i+1)).length≤8:=by rw[bf];omega
     have a3:=Nat.pow_le_pow_right (n:=128) (by omega) a2
     have a4:(128:Nat) ^ 8=72057594037927936:=by decide
     omega
    ·obtain rfl:i=8:=by omega
     have:=anT hi
     rw[hc]at this
     show valOf (b.take 9)≤_
     omega
   have ew:IntKind.i64.wrap (((valOf (b.take i):Nat):Int)+((c.toNat%128*128 ^ i:Nat):Int))=((valOf (b.take (i+1)):Nat):Int):=by
    rw[ev]at hv ⊢
    rw[cu (by omega) (by omega)]
    omega
   rw[ew]
   by_cases hc8:c.toNat<128
   ·right
    have en:iX b=some i:=by
     rw[FH b i h1 hs,hd,iX,if_pos hc8]
     simp
    rw[bD (by omega),cond_false]
    have ei:b[i]?=some c:=by rw[bQ hi,hc]
    by_cases z:c=0∧0<i
    ·have j2:BQ c (((valOf (b.take i):Nat):Int),(i:Int)) b ((c.toNat%128*128 ^ i:Nat):Int)=some (.inl ()):=by
      unfold BQ
      simp only[w0]
      rw[xR (by rw[z.1];rfl),cond_true,bO (by omega),cond_true]
     rw[j2,ak]
     refine⟨_,rfl, ?_⟩
     rw[OJ (e:=2) (by
      unfold l6
      rw[en]
      show xU b i=_
      unfold xU
      rw[if_pos (.inr ⟨z.2,by rw[ei,z.1]⟩)]) (by decide)]
     rfl
    ·have j2:BQ c (((valOf (b.take i):Nat):Int),(i:Int)) b ((c.toNat%128*128 ^ i:Nat):Int)=some (.inr ()):=by
      unfold BQ
      simp only[w0]
      by_cases q:c=0
      ·rw [xR (by rw[q];rfl),cond_true,bD (by
        intro w
        exact z ⟨q,by omega⟩),cond_false]
      ·rw[vR (λw=>q (UInt8.toNat_inj.1 (by simp;omega))),cond_false]
     rw[j2,ak]
     simp only[jY,cond_false]
     rw[cu (by omega) (by omega),dF,um b (i+1) (by omega),ak,qh (by simp;omega)]
     refine⟨_,rfl, ?_⟩
     simp only[jY,Bu,cond_true]
     have:l6 b=(((valOf (b.take (i+1)):Nat):Int),((i+1:Nat):Int),0):=by
      unfold l6
      rw[en]
      show xU b i=_
      unfold xU
      rw[if_neg (by
       rintro(q |⟨q1,q2⟩)
       ·omega
       ·rw[ei]at q2
        exact z ⟨av q2,q1⟩),if_neg (by omega)]
     unfold I5
     rw[this]
     simp
   ·left
    rw[bO (by omega),cond_true,cu (by omega) (by omega)]
    refine⟨_,rfl,⟨i+1,by omega,by omega,by omega,λj hj hj'=>?_,rfl⟩,by simp only;omega⟩
    rcases Nat.lt_or_ge j i with q | q
    ·exact hs j q hj'
    ·obtain rfl:j=i:=by omega
     rw[hc]
     exact hc8
 obtain⟨x,e1,e2⟩:=key
 rw[e1,ak,e2]
theorem SA(b:List UInt8)(l:List (List UInt8))(h:b.length+(l.flatMap eT).length<900000000)(hl:l.length<1000000000):Oq b l=some (b++l.flatMap eT):=by
 unfold Oq Vq
 rw[qh (by omega)]
 have key:dG (vB l) KK (0,b)=some (b++l.flatMap eT):=by
  have e0:((0:Int),b)=(((0:Nat):Int),b++(l.take 0).flatMap eT):=by simp
  rw[e0]
  refine lI (λi=>((i:Int),b++(l.take i).flatMap eT)) l.length _ (λi hi=>?_) ?_ (by omega)
  ·have h5:(l.take (i+1)).flatMap eT=(l.take i).flatMap eT++eT l[i]:=by
    rw[bG hi,List.flatMap_append]
    simp
   have h6:=akc l (i+1)
   rw[h5,aD]at h6
   have h7:(eT l[i]).length=(rD l[i].length).length+l[i].length:=by unfold eT;rw[aD]
   unfold vB
   simp only
   rw[bO (by omega),cond_true,dU hi,ak,aeb _ _ (by simp only[aD,List.length_singleton];omega),ak,ak,afI _ (by omega),
    qh (by simp only[aD];omega),cu (by omega) (by omega),dF,h5]
   unfold eT
   simp only[bR]
  ·unfold vB
   simp only
   rw[bD (by omega),cond_false,List.take_length]
 rw[key]
 rfl
theorem akz(x:aM)(h1:x.Pairs.length<1000000)(h2:x.fu.length<1000000):∃b,yA x=some b∧wm x=some b:=by
 unfold yA wm
 have j0:yx x=mJ x:=rfl
 have jj:mJ x=some (.inl ())∨mJ x=some (.inr ()):=by
  unfold mJ
  cases decide (x.fJ<0)<;>cases decide (x.fJ≥6)<;>cases decide (x.Epoch<1)<;>cases decide (x.Epoch>1099511627776)<;>simp
 rw[j0]
 rcases jj with jj | jj<;>rw[jj,ak]
 ·exact⟨false,rfl,rfl⟩
 simp only[jY,cond_false,ak]
 obtain⟨s,e1,e2,e3,e4,e5,e6⟩:=atZ x (by omega) (by omega)
 have hT:=e2.1.2
 have hS:=OE s.eD
 have j1:qx s x=some (decide (s.Table.l=x.Pairs∧jD s.eD=x.fu)):=by
  unfold qx sM
  rw[EU (by omega),ak,at0 _ _ (by omega),ak,agr,ak,equalS _ _ (by omega),ak]
  by_cases a:s.Table.l=x.Pairs<;>by_cases b:jD s.eD=x.fu<;>simp[a,b]
 rw[e1,ak,j1,ak,Sq _ h2,e6]
 obtain⟨p,p1,p2⟩:=OI x.Pairs amM h1 (kR x) (λ_=>()) (λi hi=>by
  unfold kR amM
  rw[bO (by omega),cond_true,dU hi]
  simp only[ak]
  rw[cu (by omega) (by omega),dF]
  by_cases a:x.Pairs[i].Key.length<1
  ·rw[bO (by omega),bO a];rfl
  rw[bD (by omega),bD a,cond_false]
  by_cases b:8<x.Pairs[i].Key.length
  ·rw[bO (by omega),bO b];rfl
  rw[bD (by omega),bD b,cond_false]
  by_cases c:16<x.Pairs[i].Value.length
  ·rw[bO (by omega),bO c];rfl
  rw[bD (by omega),bD c];rfl) (by
  unfold kR
  rw[bD (by omega),cond_false])
 obtain⟨q,q1,q2⟩:=OI x.fu (λy=>!abo y) h2 (kS x) (λ_=>()) (λi hi=>by
  unfold kS zm abo
  rw[bO (by omega),cond_true,dU hi,ak]
  simp only[akh]
  rw[cu (by omega) (by omega),dF]
  by_cases e:x.fu[i].Answer.Value.length≤16<;>by_cases f:x.fu[i].Seq≤4611686018427387903 <;>
   by_cases a:x.fu[i].Answer.Why=0<;>by_cases b:x.fu[i].Answer.Why=4<;>by_cases c:x.fu[i].Answer.Why=5<;>by_cases d:x.fu[i].Answer.Why=6 <;>
   simp[a,b,c,d,e,f,show((16:Int)<(x.fu[i].Answer.Value.length:Int))↔¬x.fu[i].Answer.Value.length≤16 by omega,show(4611686018427387903<x.fu[i].Seq)↔¬x.fu[i].Seq≤4611686018427387903 by omega]) (by
  unfold kS
  rw[bD (by omega),cond_false])
 unfold EF EG
 rw[p1,ak,q1]
 have fin:sK x ⟨s.ID,s.Epoch,s.Table.l,jD s.eD⟩=some (decide (s.Table.l=x.Pairs∧jD s.eD=x.fu)):=by
  rw[ay1 _ _ h1 h2]
  congr 1
  rw[decide_eq_decide]
  constructor
  ·rintro⟨_,_,a,b⟩;exact⟨a.symm,b.symm⟩
  ·rintro⟨a,b⟩;exact⟨e4.symm,e5.symm,a.symm,b.symm⟩
 rcases p2 with⟨p2,_,rfl⟩ |⟨p2,rfl⟩
 ·have:¬(s.Table.l=x.Pairs∧jD s.eD=x.fu):=by
   rintro⟨a,_⟩
   have ok:=atY x.Pairs [] (λp hp=>by simp at hp)
   rw[←e3,a]at ok
   rw[List.any_eq_true]at p2
   obtain⟨y,y1,y2⟩:=p2
   rw[ok y y1]at y2
   cases y2
  rw[bD this]
  exact⟨false,rfl,rfl⟩
 simp only[jY,cond_false,ak]
 rcases q2 with⟨q2,_,rfl⟩ |⟨q2,rfl⟩
 ·rw[q2]
  simp only[jY,cond_true,Bool.not_true]
  exact⟨false,by cases decide (s.Table.l=x.Pairs∧jD s.eD=x.fu)<;>rfl,rfl⟩
 ·rw[q2]
  simp only[jY,cond_false,Bool.not_false]
  rw[ahU _ (by simp only[yP];omega) (by simp only[yP];omega),ak]
  show ∃b,_=some b∧(sK x ⟨s.ID,s.Epoch,s.Table.l,jD s.eD⟩).bind _=some b
  rw[fin]
  exact⟨decide (s.Table.l=x.Pairs∧jD s.eD=x.fu),by cases decide (s.Table.l=x.Pairs∧jD s.eD=x.fu)<;>rfl,rfl⟩
theorem apr(x:aM)(h1:x.Pairs.length<1000000)(h2:x.fu.length<1000000):wm x=some (decide (EW x)):=by
 obtain⟨b,b1,b2⟩:=akz x h1 h2
 rw[akk x h1 h2]at b1
 rw[b2,b1]
theorem afa(r:bJ):EC r=some (decide (r=Ev)):=by
 unfold EC
 rw[show(r.Client==0&&(r.Seq==0&&(r.Op.Kind==0&&(r.Op.Key==([]:List UInt8)&&(r.Op.Value==([]:List UInt8)&&(r.Op.Old==([]:List UInt8)&&true))))))=decide (r=Ev)from ahV r Ev]
theorem OL(r:bJ):rW r=some (nM r):=by
 unfold rW nM
 rw[afa,VX,ak,ak]
 cases decide (r=Ev)<;>rfl
theorem OM(a:aJ):vk a=some (qI a):=D9 a
theorem abt(x:aM):Hw x=some (ad2 x):=ad3 x
theorem JV(x:aM)(h1:x.Pairs.length<1000000)(h2:x.fu.length<1000000):uM x=some (kT x):=by
 unfold uM kT
 rw[abt,apr x h1 h2,ak,ak]
 cases ad2 x<;>rfl
theorem afb(b:List UInt8)(r:bJ)(hb:b.length<800000000):Nj b r=some (if nM r then b++abp r else []):=by
 unfold Nj
 rw[OL,ak]
 cases h:nM r
 ·rfl
 obtain⟨h1,h2,h3,h4,h5,h6⟩:=Im h
 have hl:=ad1 h
 have hp:=kH b (l:=[r.Client,r.Seq,r.Op.Kind]) (λx hx=>by
  simp only[List.mem_cons,List.not_mem_nil,or_false]at hx
  rcases hx with rfl | rfl | rfl<;>assumption)
 unfold abp at hl
 rw[aD]at hl
 simp only[Bool.not_true,cond_false,if_true]
 rw[pI _ _ (by simp only[bA,bN];omega),ak,hp,SA _ _ (by rw[aD];omega) (by simp),ak]
 unfold abp
 rw[bR]
theorem UR(b:List UInt8)(a:aJ)(hb:b.length<800000000):zo b a=some (if qI a then b++ZC a else []):=by
 unfold zo
 rw[OM,ak]
 cases h:qI a
 ·rfl
 obtain⟨h1,h2⟩:=Io h
 have hl:=X4 h
 have hp:=kH b (l:=[a.Why]) (λx hx=>by
  rw[List.mem_singleton.1 hx]
  exact h1)
 unfold ZC at hl
 rw[aD]at hl
 simp only[Bool.not_true,cond_false,if_true]
 rw[pI _ _ (by simp only[bA,bN];omega),ak,hp,SA _ _ (by simp only[List.flatMap_cons,List.flatMap_nil,List.append_nil,aD];omega) (by simp),ak]
 unfold ZC
 simp
theorem abu(b:List UInt8)(x:aM)(hb:b.length<700000000)(h1:x.Pairs.length<1000000)(h2:x.fu.length<1000000):FU b x=some (if kT x then b++akl x else []):=by
 unfold FU
 rw[JV x h1 h2,ak]
 cases h:kT x
 ·rfl
 obtain⟨g1,g2,g3,g4,g5,g6⟩:=zK h
 obtain⟨c1,c2,c3⟩:=VY h
 have a1:=l9 _ g1
 have a2:=l9 _ g2
 have a3:=l9 (x.Pairs.length:Int) (by unfold uR;omega)
 have a4:=l9 (x.fu.length:Int) (by unfold uR;omega)
 have hp:=kH b (l:=[x.fJ,x.Epoch,(x.Pairs.length:Int)]) (λz hz=>by
  simp only[List.mem_cons,List.not_mem_nil,or_false]at hz
  rcases hz with rfl | rfl | rfl
  ·exact g1
  ·exact g2
  ·unfold uR;omega)
 simp only[Bool.not_true,cond_false,if_true]
 rw[pI _ _ (by simp only[bA,bN];omega),ak,hp]
 generalize hB:b++[x.fJ,x.Epoch,(x.Pairs.length:Int)].flatMap eN=B at *
 have hBl:B.length≤b.length+27:=by
  rw[←hB]
  simp only[List.flatMap_cons,List.flatMap_nil,aD,bN]
  omega
 have l0:Dl x (B,0)=some (B++x.Pairs.flatMap tq):=by
  have e0:(B,(0:Int))=(B++(x.Pairs.take 0).flatMap tq,((0:Nat):Int)):=by simp
  unfold Dl
  rw[e0]
  refine lI (λi=>(B++(x.Pairs.take i).flatMap tq,(i:Int))) x.Pairs.length _ (λi hi=>?_) ?_ (by omega)
  ·have h5:(x.Pairs.take (i+1)).flatMap tq=(x.Pairs.take i).flatMap tq++tq x.Pairs[i]:=by
    rw[bG hi,List.flatMap_append]
    simp
   have h6:=Iz tq x.Pairs i
   have h7:=ZE (g5 _ (List.getElem_mem hi))
   unfold tq at h7
   rw[aD]at h7
   unfold pU
   simp only
   rw[bO (by omega),cond_true,dU hi,ak,ak,SA _ _ (by simp only[aD,List.flatMap_cons,List.flatMap_nil,bN];omega) (by simp),ak,cu (by omega) (by omega),dF,h5]
   unfold tq
   simp
  ·unfold pU
   simp only
   rw[bD (by omega),cond_false,List.take_length]
 rw[l0,ak]
 have hp2:=kH (B++x.Pairs.flatMap tq) (l:=[(x.fu.length:Int)]) (λz hz=>by
  rw[List.mem_singleton.1 hz]
  unfold uR
  omega)
 rw[pI _ _ (by simp only[aD,bA,bN];omega),ak,hp2]
 generalize hD:B++x.Pairs.flatMap tq++[(x.fu.length:Int)].flatMap eN=D at *
 have hDl:D.length≤b.length+600:=by
  rw[←hD]
  simp only[List.flatMap_cons,List.flatMap_nil,aD,bN]
  omega
 have l1:Dm x (D,0)=some (D++x.fu.flatMap uH):=by
  have e0:(D,(0:Int))=(D++(x.fu.take 0).flatMap uH,((0:Nat):Int)):=by simp
  unfold Dm
  rw[e0]
  refine lI (λi=>(D++(x.fu.take i).flatMap uH,(i:Int))) x.fu.length _ (λi hi=>?_) ?_ (by omega)
  ·have h5:(x.fu.take (i+1)).flatMap uH=(x.fu.take i).flatMap uH++uH x.fu[i]:=by
    rw[bG hi,List.flatMap_append]
    simp
   have h6:=Iz uH x.fu i
   obtain⟨q1,q2,q3⟩:=g6 _ (List.getElem_mem hi)
   have h7:=ZF ⟨q1,q2,q3⟩
   unfold uH at h7
   rw[aD]at h7
   have hp3:=kH (D++(x.fu.take i).flatMap uH) (l:=[x.fu[i].Client,x.fu[i].Seq]) (λz hz=>by
    simp only[List.mem_cons,List.not_mem_nil,or_false]at hz
    rcases hz with rfl | rfl<;>assumption)
   unfold pV
   simp only
   rw[bO (by omega),cond_true,dU hi,ak,ak,pI _ _ (by simp only[aD,bA,bN];omega),ak,hp3,ak,UR _ _ (by simp only[aD];omega),q3,ak,cu (by omega) (by omega),dF,h5]
   unfold uH
   simp
  ·unfold pV
   simp only
   rw[bD (by omega),cond_false,List.take_length]
 rw[l1,ak,←hD,←hB]
 unfold akl
 simp
abbrev vZ:=au
def rF{α:Type}(f:vZ→Option (α×vZ))(p:Pr α):Prop:=∀b e,b.length<500000000→(e≠0→∃x,f ⟨b,e⟩=some (x,⟨b,e⟩))∧(match p b with
 |.inl er=>∃x s,f ⟨b,0⟩=some (x,⟨s,er⟩)∧s.length≤b.length
 |.inr (x,s)=>f ⟨b,0⟩=some (x,⟨s,0⟩))
theorem rF.seq{α β:Type}{f:vZ→Option (α×vZ)}{p:Pr α}{g:α→vZ→Option (β×vZ)}{q:α→Pr β}(h:rF f p)(he:Err p)(hs:Shr p)(k:∀x,rF (g x) (q x)):rF (λr=>(f r).bind λy=>g y.1 y.2) (cZ p q):=by
 intro b e hb
 obtain⟨h1,h2⟩:=h b e hb
 refine⟨λhee=>?_, ?_⟩
 ·obtain⟨x,hx⟩:=h1 hee
  simp only[hx,ak]
  exact(k x b e hb).1 hee
 ·unfold cZ
  cases hp:p b with
  | inl er =>
   rw[hp]at h2
   obtain⟨x,s,hx,hl⟩:=h2
   have hne:er≠0:=by rcases he _ _ hp with rfl | rfl<;>omega
   obtain⟨y,hy⟩:=(k x s er (by omega)).1 hne
   refine⟨y,s, ?_,hl⟩
   simp only[hx,ak]
   exact hy
  | inr y =>
   obtain⟨x,s⟩:=y
   rw[hp]at h2
   have hl:=hs _ _ _ hp
   have h3:=(k x s 0 (by omega)).2
   simp only at h2 ⊢
   simp only[h2,ak]
   cases hq:q x s with
   | inl er =>
    rw[hq]at h3
    obtain⟨z,t,hz,ht⟩:=h3
    exact⟨z,t,hz,by omega⟩
   | inr z =>
    rw[hq]at h3
    exact h3
theorem rF.ret{α:Type}(x:α):rF (λr=>some (x,r)) (λb=>.inr (x,b)):=λb e _=>⟨λ_=>⟨x,rfl⟩,rfl⟩
theorem rU:rF bX gG:=by
 intro b e hb
 refine⟨λhe=>⟨0, ?_⟩, ?_⟩
 ·unfold bX
  rw[oz he]
  rfl
 ·unfold bX
  rw[iP rfl]
  simp only[cond_false]
  rw[aav b (by omega),ak]
  unfold I5 gG
  rcases mX b with e | e |⟨v,k,e,_⟩<;>rw[e]
  ·exact⟨_,_,rfl,by simp⟩
  ·exact⟨_,_,rfl,by simp⟩
  ·rfl
theorem abv (b:List UInt8) (hb:b.length<500000000):Gb b=some (match j5 b with
  |.inl e=>([],[],e)
  |.inr (s,r)=>(s,r,0)):=by
 unfold Gb j5
 rw[aav b (by omega),ak]
 unfold I5
 rcases mX b with e | e |⟨v,k,e,h1,h2,h3,h4⟩
 ·rw[e];rfl
 ·rw[e];rfl
 ·rw[e]
  simp only[if_true,bL]
  rw[iP rfl,cond_false,aZ]
  by_cases c:v≤b.length-k
  ·rw[bD (by omega),cond_false,if_pos c,show((b.length-k:Nat):Int)=((b.drop k).length:Int)by rw[aZ],um (b.drop k) v (by rw[aZ];omega),ak,qh (by simp only[aZ];omega),acy (b.drop k) v (by rw[aZ];omega),ak,List.drop_drop]
  ·rw[bO (by omega),cond_true,if_neg c]
theorem Tg:rF gJ j5:=by
 intro b e hb
 refine⟨λhe=>⟨[], ?_⟩, ?_⟩
 ·unfold gJ
  rw[oz he]
  rfl
 ·unfold gJ
  rw[iP rfl]
  simp only[cond_false]
  rw[abv b hb,ak]
  cases j5 b with
  | inl e=>exact⟨_,_,rfl,by simp⟩
  | inr y=>rfl
theorem JW(er e:Int)(b:List UInt8):jk er ⟨b,e⟩=some (if e=0 then ⟨b,er⟩else ⟨b,e⟩):=by
 unfold jk
 by_cases h:e=0
 ·rw[if_pos h,xR h];rfl
 ·rw[if_neg h,vR h];rfl
theorem amT{α:Type}(x:α)(m:Option Bool)(c:Bool)(hm:m=some c):rF (λr=>m.bind λz=>cond (!z) ((jk 2 r).bind λy=>some (x,y)) (some (x,r))) (λb=>if c then .inr (x,b)else .inl 2):=by
 intro b e hb
 subst hm
 refine⟨λhe=>⟨x, ?_⟩, ?_⟩
 ·simp only[ak,JW,if_neg he]
  cases c<;>rfl
 ·simp only[ak,JW,if_true]
  cases c
  ·exact⟨x,b,rfl,Nat.le_refl _⟩
  ·rfl
theorem OO{α β γ:Type}(p:Pr α)(q:α→Pr β)(r:β→Pr γ):cZ (cZ p q) r=cZ p λx=>cZ (q x) r:=by
 funext b
 unfold cZ
 cases p b<;>rfl
theorem Yc{α β:Type}(x:α)(r:α→Pr β):cZ (λb=>.inr (x,b)) r=r x:=rfl
def rq6(q:bJ)(r:vZ):Option (bJ×vZ):=(rW q).bind λz=>cond (!z) ((jk 2 r).bind λy=>some (q,y)) (some (q,r))
def rq5(a b c:Int)(d f:List UInt8)(r:vZ):=(gJ r).bind λx=>rq6 ⟨a,b,⟨c,d,f,x.1⟩⟩ x.2
def rq4(a b c:Int)(d:List UInt8)(r:vZ):=(gJ r).bind λx=>rq5 a b c d x.1 x.2
def rq3(a b c:Int)(r:vZ):=(gJ r).bind λx=>rq4 a b c x.1 x.2
def rq2(a b:Int)(r:vZ):=(bX r).bind λx=>rq3 a b x.1 x.2
def rq1(a:Int)(r:vZ):=(bX r).bind λx=>rq2 a x.1 x.2
def rq0(r:vZ):=(bX r).bind λx=>rq1 x.1 x.2
theorem aBJ:wz=rq0:=rfl
theorem azX(q:bJ):rF (rq6 q) (xH nM q):=amT q _ _ (OL q)
theorem azY(a b c:Int)(d f:List UInt8):rF (rq5 a b c d f) (cZ j5 λg=>xH nM ⟨a,b,⟨c,d,f,g⟩⟩):=rF.seq (g:=λx r=>rq6 ⟨a,b,⟨c,d,f,x⟩⟩ r) Tg uF AU λg=>azX ⟨a,b,⟨c,d,f,g⟩⟩
theorem azZ(a b c:Int)(d:List UInt8):rF (rq4 a b c d) (cZ j5 λf=>cZ j5 λg=>xH nM ⟨a,b,⟨c,d,f,g⟩⟩):=rF.seq (g:=λx r=>rq5 a b c d x r) Tg uF AU λg=>azY a b c d g
theorem az0(a b c:Int):rF (rq3 a b c) (cZ j5 λd=>cZ j5 λf=>cZ j5 λg=>xH nM ⟨a,b,⟨c,d,f,g⟩⟩):=rF.seq (g:=λx r=>rq4 a b c x r) Tg uF AU λg=>azZ a b c g
theorem az1(a b:Int):rF (rq2 a b) (cZ gG λc=>cZ j5 λd=>cZ j5 λf=>cZ j5 λg=>xH nM ⟨a,b,⟨c,d,f,g⟩⟩):=rF.seq (g:=λx r=>rq3 a b x r) rU gQ h_ λc=>az0 a b c
theorem az2(a:Int):rF (rq1 a) (cZ gG λb=>cZ gG λc=>cZ j5 λd=>cZ j5 λf=>cZ j5 λg=>xH nM ⟨a,b,⟨c,d,f,g⟩⟩):=rF.seq (g:=λx r=>rq2 a x r) rU gQ h_ λb=>az1 a b
theorem az3:rF wz VZ:=by
 have e:VZ=cZ gG λa=>cZ gG λb=>cZ gG λc=>cZ j5 λd=>cZ j5 λf=>cZ j5 λg=>xH nM ⟨a,b,⟨c,d,f,g⟩⟩:=by
  unfold VZ
  simp only[fU,OO,Yc]
  rfl
 rw[e,aBJ]
 exact rF.seq (g:=λx r=>rq1 x r) rU gQ h_ λa=>az2 a
def ra2(a:aJ)(r:vZ):Option (aJ×vZ):=(vk a).bind λz=>cond (!z) ((jk 2 r).bind λy=>some (a,y)) (some (a,r))
def ra1(a:Int)(r:vZ):=(gJ r).bind λx=>ra2 ⟨a,x.1⟩ x.2
def ra0(r:vZ):=(bX r).bind λx=>ra1 x.1 x.2
theorem aBK:kZ=ra0:=rfl
theorem az4(a:aJ):rF (ra2 a) (xH qI a):=amT a _ _ (OM a)
theorem az5(a:Int):rF (ra1 a) (cZ j5 λs=>xH qI ⟨a,s⟩):=rF.seq (g:=λx r=>ra2 ⟨a,x⟩ r) Tg uF AU λg=>az4 ⟨a,g⟩
theorem aum:rF kZ Qg:=by
 rw[aBK]
 exact rF.seq (g:=λx r=>ra1 x r) rU gQ h_ λa=>az5 a
theorem az6 (m:Int) (hm:0≤m) (b:List UInt8) (e:Int) (hb:b.length<500000000):(e≠0→fO m ⟨b,e⟩=some (0,⟨b,e⟩))∧(match rE m b with
  |.inl er=>∃s,fO m ⟨b,0⟩=some (0,⟨s,er⟩)∧s.length≤b.length
  |.inr (n,s)=>fO m ⟨b,0⟩=some (n,⟨s,0⟩)):=by
 obtain⟨h1,h2⟩:=rU b e hb
 unfold fO vJ
 refine⟨λhe=>?_, ?_⟩
 ·obtain⟨x,hx⟩:=h1 he
  rw[hx,ak]
  simp only
  rw[JW,if_neg he]
  cases decide (x>m)
  ·simp only[cond_false,ak]
   rw[oz he];rfl
  ·simp only[cond_true,ak]
   rw[oz he];rfl
 ·unfold rE cZ
  cases hp:gG b with
  | inl er =>
   have he:er≠0:=by rcases gQ _ _ hp with rfl | rfl<;>omega
   rw[hp]at h2
   obtain⟨x,s,hx,hs⟩:=h2
   refine⟨s, ?_,hs⟩
   rw[hx,ak]
   simp only
   rw[JW,if_neg he]
   cases decide (x>m)
   ·simp only[cond_false,ak]
    rw[oz he];rfl
   ·simp only[cond_true,ak]
    rw[oz he];rfl
  | inr y =>
   obtain⟨n,s⟩:=y
   have hs:=h_ _ _ _ hp
   rw[hp]at h2
   simp only at h2 ⊢
   rw[h2,ak]
   simp only
   rw[JW,if_pos rfl]
   by_cases c:n≤m
   ·rw[bD (by omega),if_pos c]
    rfl
   ·rw[bO (by omega),if_neg c]
    exact⟨s,rfl,hs⟩
theorem rF.cnt{β:Type}{g:Int→vZ→Option (β×vZ)}{q:Int→Pr β}(m:Nat)(k:∀n:Nat,n≤m→rF (g (n:Int)) (q (n:Int))):rF (λr=>(fO (m:Int) r).bind λy=>g y.1 y.2) (cZ (rE (m:Int)) q):=by
 intro b e hb
 obtain⟨h1,h2⟩:=az6 (m:Int) (by omega) b e hb
 have k0:=k 0 (by omega)
 refine⟨λhe=>?_, ?_⟩
 ·simp only[h1 he,ak]
  exact(k0 b e hb).1 he
 ·unfold cZ
  cases hp:rE (m:Int) b with
  | inl er =>
   have he:er≠0:=by rcases Bl _ _ _ hp with rfl | rfl<;>omega
   rw[hp]at h2
   obtain⟨s,hx,hs⟩:=h2
   obtain⟨y,hy⟩:=(k0 s er (by omega)).1 he
   refine⟨y,s, ?_,hs⟩
   simp only[hx,ak]
   exact hy
  | inr y =>
   obtain⟨n,s⟩:=y
   have hn:=ad5 hp
   have hs:=Fv _ _ _ _ hp
   rw[hp]at h2
   obtain⟨n,rfl⟩:∃n':Nat,n=(n':Int):=⟨n.toNat,by omega⟩
   have h3:=(k n (by omega) s 0 (by omega)).2
   simp only at h2 ⊢
   simp only[h2,ak]
   cases hq:q (n:Int) s with
   | inl er =>
    rw[hq]at h3
    obtain⟨z,t,hz,ht⟩:=h3
    exact⟨z,t,hz,by omega⟩
   | inr z =>
    rw[hq]at h3
    exact h3
theorem akA {α:Type} {p:Pr α} (f:Int×vZ×List α→Option ((Int×vZ×List α)⊕(vZ×List α))) (hp:Shr p) (he:Err p)
  (h0:∀(k:Nat) b e acc,(k=0∨e≠0)→f ((k:Int),⟨b,e⟩,acc)=some (.inr (⟨b,e⟩,acc)))
  (h1:∀(k:Nat) b acc,b.length<500000000→k<100→acc.length<100→match p b with
   |.inl e=>∃x s,f (((k+1:Nat):Int),⟨b,0⟩,acc)=some (.inl ((k:Int),⟨s,e⟩,acc++[x]))∧s.length≤b.length
   |.inr (x,s)=>f (((k+1:Nat):Int),⟨b,0⟩,acc)=some (.inl ((k:Int),⟨s,0⟩,acc++[x]))) :
  ∀(k j:Nat) b acc,k<j→b.length<500000000→acc.length+k≤90→match fU p k b with
   |.inl e=>∃l s,dG f j ((k:Int),⟨b,0⟩,acc)=some (⟨s,e⟩,l)∧l.length≤acc.length+k∧s.length≤b.length
   |.inr (l,s)=>dG f j ((k:Int),⟨b,0⟩,acc)=some (⟨s,0⟩,acc++l)
 | 0,j,b,acc,hj,_,_=>by
  obtain⟨j,rfl⟩:∃i,j=i+1:=⟨j-1,by omega⟩
  simp only[fU,dG,h0 0 b 0 acc (.inl rfl),List.append_nil]
 | k+1,j,b,acc,hj,hb,ha=>by
  obtain⟨j,rfl⟩:∃i,j=i+1:=⟨j-1,by omega⟩
  have h:=h1 k b acc hb (by omega) (by omega)
  simp only[fU,cZ]
  cases hx:p b with
  | inl e =>
   rw[hx]at h
   obtain⟨x,s,h,hs⟩:=h
   have hne:e≠0:=by rcases he _ _ hx with rfl | rfl<;>omega
   obtain⟨j,rfl⟩:∃i,j=i+1:=⟨j-1,by omega⟩
   refine⟨acc++[x],s, ?_,by simp only[aD,List.length_singleton];omega,hs⟩
   simp only[dG,h,h0 k s e (acc++[x]) (.inr hne)]
  | inr y =>
   obtain⟨x,s⟩:=y
   rw[hx]at h
   have hs:=hp _ _ _ hx
   have i:=akA f hp he h0 h1 k j s (acc++[x]) (by omega) (by omega) (by simp;omega)
   simp only at h ⊢
   cases hy:fU p k s with
   | inl e =>
    rw[hy]at i
    obtain⟨l,t,i1,i2,i3⟩:=i
    refine⟨l,t, ?_,by simp at i2;omega,by omega⟩
    simp only[dG,h]
    exact i1
   | inr z =>
    obtain⟨l,t⟩:=z
    rw[hy]at i
    simp only at i ⊢
    simp only[dG,h]
    rw[i]
    simp
theorem rF.loop {α β:Type} {p:Pr α} (c:Nat) {F:vZ→Option (vZ×List α)} {g:List α→vZ→Option (β×vZ)} {q:List α→Pr β} (hp:Shr p) (he:Err p)
  (h1:∀b e,e≠0→F ⟨b,e⟩=some (⟨b,e⟩,[]))
  (h2:∀b,b.length<500000000→match fU p c b with
   |.inl e=>∃l s,F ⟨b,0⟩=some (⟨s,e⟩,l)∧l.length≤c∧s.length≤b.length
   |.inr (l,s)=>F ⟨b,0⟩=some (⟨s,0⟩,l)) (k:∀l,l.length≤c→rF (g l) (q l)):rF (λr=>(F r).bind λy=>g y.2 y.1) (cZ (fU p c) q):=by
 intro b e hb
 have h2:=h2 b hb
 refine⟨λhee=>?_, ?_⟩
 ·simp only[h1 b e hee,ak]
  exact(k [] (by simp) b e hb).1 hee
 ·unfold cZ
  cases hx:fU p c b with
  | inl er =>
   have hne:er≠0:=by rcases j6 he c _ _ hx with rfl | rfl<;>omega
   rw[hx]at h2
   obtain⟨l,s,hf,hl,hs⟩:=h2
   obtain⟨y,hy⟩:=(k l hl s er (by omega)).1 hne
   refine⟨y,s, ?_,hs⟩
   simp only[hf,ak]
   exact hy
  | inr y =>
   obtain⟨l,s⟩:=y
   have hl:=Bj hx
   have hs:=rz hp c _ _ _ hx
   rw[hx]at h2
   have h3:=(k l (by omega) s 0 (by omega)).2
   simp only at h2 ⊢
   simp only[h2,ak]
   cases hq:q l s with
   | inl er =>
    rw[hq]at h3
    obtain⟨z,t,hz,ht⟩:=h3
    exact⟨z,t,hz,by omega⟩
   | inr z =>
    rw[hq]at h3
    exact h3
def pr1(a:List UInt8)(r:vZ):Option (aF×vZ):=(gJ r).bind λx=>some (⟨a,x.1⟩,x.2)
def pr0(r:vZ):=(gJ r).bind λx=>pr1 x.1 x.2
theorem az7(a:List UInt8):rF (pr1 a) (cZ j5 λs=>λb=>.inr (⟨a,s⟩,b)):=rF.seq (g:=λx r=>some ((⟨a,x⟩:aF),r)) Tg uF AU λs=>rF.ret (⟨a,s⟩:aF)
theorem az8:rF pr0 xC:=by
 have e:xC=cZ j5 λa=>cZ j5 λs=>λb=>.inr (⟨a,s⟩,b):=by
  unfold xC
  simp only[fU,OO,Yc]
  rfl
 rw[e]
 exact rF.seq (g:=λx r=>pr1 x r) Tg uF AU λa=>az7 a
def se2(a b:Int)(r:vZ):Option (aB×vZ):=(kZ r).bind λx=>some (⟨a,b,x.1⟩,x.2)
def se1(a:Int)(r:vZ):=(bX r).bind λx=>se2 a x.1 x.2
def se0(r:vZ):=(bX r).bind λx=>se1 x.1 x.2
theorem az9(a b:Int):rF (se2 a b) (cZ Qg λs=>λr=>.inr (⟨a,b,s⟩,r)):=rF.seq (g:=λx r=>some ((⟨a,b,x⟩:aB),r)) aum X7 abN λs=>rF.ret (⟨a,b,s⟩:aB)
theorem aAa(a:Int):rF (se1 a) (cZ gG λb=>cZ Qg λs=>λr=>.inr (⟨a,b,s⟩,r)):=rF.seq (g:=λx r=>se2 a x r) rU gQ h_ λb=>az9 a b
theorem aAb:rF se0 uI:=by
 have e:uI=cZ gG λa=>cZ gG λb=>cZ Qg λs=>λr=>.inr (⟨a,b,s⟩,r):=by
  unfold uI
  simp only[fU,OO,Yc]
  rfl
 rw[e]
 exact rF.seq (g:=λx r=>se1 x r) rU gQ h_ λa=>aAa a
abbrev zz:Int×vZ:=(0,⟨[],0⟩)
def im5(x:aM)(r:vZ):Option (aM×vZ):=(uM x).bind λz=>cond (!z) ((jk 2 r).bind λy=>some (x,y)) (some (x,r))
def im4(a b:Int)(ps:List aF)(d:Int)(r:vZ):=(qG zz zz (⟨[],0⟩,[]) (d,r,[])).bind λy=>im5 ⟨a,b,ps,y.2⟩ y.1
def im3(a b:Int)(ps:List aF)(r:vZ):=(fO 4 r).bind λy=>im4 a b ps y.1 y.2
def im2(a b:Int)(c:Int)(r:vZ):=(qE zz zz (c,r,[])).bind λy=>im3 a b y.2 y.1
def im1(a b:Int)(r:vZ):=(fO 8 r).bind λy=>im2 a b y.1 y.2
def im0(a:Int)(r:vZ):=(bX r).bind λy=>im1 a y.1 y.2
theorem aBL:r9=λr=>(bX r).bind λy=>im0 y.1 y.2:=rfl
theorem aAc(x:aM)(h1:x.Pairs.length≤8)(h2:x.fu.length≤4):rF (im5 x) (xH kT x):=amT x _ _ (JV x (by omega) (by omega))
theorem aBM(a b:Int)(c:Nat)(hc:c≤8){g:List aF→vZ→Option (aM×vZ)}{q:List aF→Pr aM}(k:∀l,l.length≤c→rF (g l) (q l)):rF (λr=>(qE zz zz ((c:Int),r,[])).bind λy=>g y.2 y.1) (cZ (fU xC c) q):=by
 have h0:∀(k:Nat) b e acc,(k=0∨e≠0)→iF zz zz ((k:Int),⟨b,e⟩,acc)=some (.inr (⟨b,e⟩,acc)):=λk b e acc h=>by
  unfold iF qD
  simp only
  by_cases hk:k=0
  ·rw[bD (by omega)];rfl
  ·rw[bO (by omega),vR (h.resolve_left hk)];rfl
 refine rF.loop c Sr Sv (λb e he=>?_) (λb hb=>?_) k
 ·unfold qE
  have:KK=(KK-1)+1:=by have:=kP;omega
  rw[this]
  simp only[dG,h0 c b e [] (.inr he)]
 ·have:=akA (p:=xC) (iF zz zz) Sr Sv h0 (λk b acc hb hk ha=>by
   have hp:=(az8 b 0 hb).2
   have e:iF zz zz (((k+1:Nat):Int),⟨b,0⟩,acc)=(pr0 ⟨b,0⟩).bind λy=>some (.inl ((k:Int),y.2,acc++[y.1])):=by
    unfold iF qD pr0 pr1
    simp only
    rw[bO (by omega),xR rfl]
    simp only[cond_true,ak,jY,Option.bind_assoc]
    congr 1;funext x;congr 1;funext y
    rw[iT (by unfold dR;simp;omega),cu (by omega) (by omega),show((k+1:Nat):Int)-1=(k:Int)by omega]
   rw[e]
   cases hq:xC b with
   | inl er =>
    rw[hq]at hp
    obtain⟨x,s,hx,hs⟩:=hp
    exact⟨x,s,by rw[hx];rfl,hs⟩
   | inr y =>
    rw[hq]at hp
    simp only at hp ⊢
    rw[hp]
    rfl) c KK b [] (by have:=kP;omega) hb (by simp;omega)
  cases hq:fU xC c b with
  | inl er =>
   rw[hq]at this
   obtain⟨l,s,h1,h2,h3⟩:=this
   exact⟨l,s,h1,by simpa using h2,h3⟩
  | inr y =>
   rw[hq]at this
   simp only[List.nil_append]at this
   exact this
theorem aBN(c:Nat)(hc:c≤4){g:List aB→vZ→Option (aM×vZ)}{q:List aB→Pr aM}(k:∀l,l.length≤c→rF (g l) (q l)):rF (λr=>(qG zz zz (⟨[],0⟩,[]) ((c:Int),r,[])).bind λy=>g y.2 y.1) (cZ (fU uI c) q):=by
 have h0:∀(k:Nat) b e acc,(k=0∨e≠0)→iG zz zz (⟨[],0⟩,[]) ((k:Int),⟨b,e⟩,acc)=some (.inr (⟨b,e⟩,acc)):=λk b e acc h=>by
  unfold iG qF
  simp only
  by_cases hk:k=0
  ·rw[bD (by omega)];rfl
  ·rw[bO (by omega),vR (h.resolve_left hk)];rfl
 refine rF.loop c X8 Sw (λb e he=>?_) (λb hb=>?_) k
 ·unfold qG
  have:KK=(KK-1)+1:=by have:=kP;omega
  rw[this]
  simp only[dG,h0 c b e [] (.inr he)]
 ·have:=akA (p:=uI) (iG zz zz (⟨[],0⟩,[])) X8 Sw h0 (λk b acc hb hk ha=>by
   have hp:=(aAb b 0 hb).2
   have e:iG zz zz (⟨[],0⟩,[]) (((k+1:Nat):Int),⟨b,0⟩,acc)=(se0 ⟨b,0⟩).bind λy=>some (.inl ((k:Int),y.2,acc++[y.1])):=by
    unfold iG qF se0 se1 se2
    simp only
    rw[bO (by omega),xR rfl]
    simp only[cond_true,ak,jY,Option.bind_assoc]
    congr 1;funext x;congr 1;funext y;congr 1;funext z
    rw[iT (by unfold dR;simp;omega),cu (by omega) (by omega),show((k+1:Nat):Int)-1=(k:Int)by omega]
   rw[e]
   cases hq:uI b with
   | inl er =>
    rw[hq]at hp
    obtain⟨x,s,hx,hs⟩:=hp
    exact⟨x,s,by rw[hx];rfl,hs⟩
   | inr y =>
    rw[hq]at hp
    simp only at hp ⊢
    rw[hp]
    rfl) c KK b [] (by have:=kP;omega) hb (by simp;omega)
  cases hq:fU uI c b with
  | inl er =>
   rw[hq]at this
   obtain⟨l,s,h1,h2,h3⟩:=this
   exact⟨l,s,h1,by simpa using h2,h3⟩
  | inr y =>
   rw[hq]at this
   simp only[List.nil_append]at this
   exact this
theorem aAd(a b:Int)(ps:List aF)(hps:ps.length≤8)(d:Nat)(hd:d≤4):rF (im4 a b ps (d:Int)) (cZ (fU uI d) λss=>xH kT ⟨a,b,ps,ss⟩) :=
 aBN (g:=λl r=>im5 ⟨a,b,ps,l⟩ r) d hd λl hl=>aAc ⟨a,b,ps,l⟩ hps (by simp only;omega)
theorem aAe(a b:Int)(ps:List aF)(hps:ps.length≤8):rF (im3 a b ps) (cZ (rE 4) λd=>cZ (fU uI d.toNat) λss=>xH kT ⟨a,b,ps,ss⟩) :=
 rF.cnt (g:=λn r=>im4 a b ps n r) (q:=λd=>cZ (fU uI d.toNat) λss=>xH kT ⟨a,b,ps,ss⟩) 4 λn hn=>by
  simp only[bL]
  exact aAd a b ps hps n hn
theorem aAf(a b:Int)(c:Nat)(hc:c≤8):rF (im2 a b (c:Int)) (cZ (fU xC c) λps=>cZ (rE 4) λd=>cZ (fU uI d.toNat) λss=>xH kT ⟨a,b,ps,ss⟩) :=
 aBM a b (g:=λl r=>im3 a b l r) c hc λl hl=>aAe a b l (by omega)
theorem aAg(a b:Int):rF (im1 a b) (cZ (rE 8) λc=>cZ (fU xC c.toNat) λps=>cZ (rE 4) λd=>cZ (fU uI d.toNat) λss=>xH kT ⟨a,b,ps,ss⟩) :=
 rF.cnt (g:=λn r=>im2 a b n r) (q:=λc=>cZ (fU xC c.toNat) λps=>cZ (rE 4) λd=>cZ (fU uI d.toNat) λss=>xH kT ⟨a,b,ps,ss⟩) 8 λn hn=>by
  simp only[bL]
  exact aAf a b n hn
theorem aAh(a:Int):rF (im0 a) (cZ gG λb=>cZ (rE 8) λc=>cZ (fU xC c.toNat) λps=>cZ (rE 4) λd=>cZ (fU uI d.toNat) λss=>xH kT ⟨a,b,ps,ss⟩) :=
 rF.seq (g:=λx r=>im1 a x r) rU gQ h_ λb=>aAg a b
theorem aAi:rF r9 Qh:=by
 have e:Qh=cZ gG λa=>cZ gG λb=>cZ (rE 8) λc=>cZ (fU xC c.toNat) λps=>cZ (rE 4) λd=>cZ (fU uI d.toNat) λss=>xH kT ⟨a,b,ps,ss⟩:=by
  unfold Qh
  rw[show fU gG 2=cZ gG λx=>cZ (cZ gG λy=>cZ (λb=>.inr ([],b)) λl b=>.inr (y::l,b)) λl b=>.inr (x::l,b)from rfl]
  simp only[OO,Yc]
  rfl
 rw[e,aBL]
 exact rF.seq (g:=λx r=>im0 x r) rU gQ h_ λa=>aAh a
theorem SB(n:Int):Oe n=decide (uR n):=by
 unfold Oe
 rw[decide_eq_decide]
 exact Iff.rfl
theorem aec {α:Type} (l:List α) (P:α→Prop) [DecidablePred P] (hl:l.length<1000000) (f:Int→Option (Int⊕(Unit⊕Unit)))
  (hin:∀(i:Nat) (h:i<l.length),f (i:Int)=cond (!decide (P l[i])) (some (.inr (.inl ()))) (some (.inl ((i+1:Nat):Int)))) (hout:f (l.length:Int)=some (.inr (.inr ()))) :
  dG f KK 0=some (if (∀x∈l,P x)then .inr ()else .inl ()):=by
 obtain⟨e,e1,e2⟩:=OI l (λn=>!decide (P n)) hl f (λ_=>()) hin hout
 rw[e1]
 rw[ahZ]at e2
 rcases e2 with⟨q,i,rfl⟩ |⟨q,rfl⟩
 ·rw[if_neg (by simpa using q)]
 ·rw[if_pos (by simpa using q)]
theorem rm1(m:aG):Jk m 0=some (if (∀n∈[m.From,m.To,m.fJ,m.Epoch,m.Weight,m.Load,m.ou],uR n)then .inr ()else .inl ()):=by
 refine aec [m.From,m.To,m.fJ,m.Epoch,m.Weight,m.Load,m.ou] uR (by simp) _ (λi hi=>?_) rfl
 have hi':i<7:=hi
 unfold uo
 rw[bO (by omega),cond_true,dU hi,ak,IB,ak,SB,cu (by omega) (by omega),dF]
theorem rm2(m:aG)(h:m.Path.length<1000000):Jl m 0=some (if (∀n∈m.Path,uR n)then .inr ()else .inl ()):=by
 refine aec m.Path uR h _ (λi hi=>?_) ?_
 ·unfold pQ
  rw[bO (by omega),cond_true,dU hi,ak,IB,ak,SB,cu (by omega) (by omega),dF]
 ·unfold pQ
  rw[bD (by omega),cond_false]
theorem rm3(m:aG)(h:m.Table.length<1000000):Jm m 0=some (if (∀n∈m.Table,okE n)then .inr ()else .inl ()):=by
 refine aec m.Table okE h _ (λi hi=>?_) ?_
 ·unfold pR
  rw[bO (by omega),cond_true,dU hi,ak,IB,ak,IB,IB,SB,SB,SB,cu (by omega) (by omega),dF]
  generalize m.Table[i]=x
  by_cases a:uR x.Inc
  case neg=>rw[bD a,bD (show ¬okE x from λh=>a h.1)];rfl
  by_cases b:x.Status<0
  case pos=>rw[bO a,bO b,bD (show ¬okE x from λh=>by have:=h.2.1;omega)];rfl
  by_cases c:x.Status>2
  case pos=>rw[bO a,bD b,bO c,bD (show ¬okE x from λh=>by have:=h.2.2.1;omega)];rfl
  by_cases d:uR x.rG
  case neg=>rw[bO a,bD b,bD c,bD d,bD (show ¬okE x from λh=>d h.2.2.2.1)];rfl
  by_cases e:uR x.Load
  case neg=>rw[bO a,bD b,bD c,bO d,bD e,bD (show ¬okE x from λh=>e h.2.2.2.2)];rfl
  rw[bO a,bD b,bD c,bO d,bO e,bO (show okE x from⟨a,by omega,by omega,d,e⟩)];rfl
 ·unfold pR
  rw[bD (by omega),cond_false]
theorem V4(m:aG)(h:Ea m):uN m=some (qJ m):=by
 unfold uN Di
 have no:¬MC m→some false=some (qJ m):=λh=>by unfold qJ;rw[bD h]
 rw[OL,OM,JV m.qg h.2.2.1 h.2.2.2,rm1,rm2 m h.1,rm3 m h.2.1]
 by_cases k1:m.Kind<1
 ·rw[bO k1,←no (by rintro⟨p,_⟩;omega)];rfl
 by_cases k2:m.Kind>10
 ·rw[bD k1,bO k2,←no (by rintro⟨_,p,_⟩;omega)];rfl
 by_cases k4:(m.Path.length:Int)>5
 ·rw[bD k1,bD k2,bO k4,←no (by rintro⟨_,_,_,p,_⟩;omega)];rfl
 by_cases k5:(m.Table.length:Int)>5
 ·rw[bD k1,bD k2,bD k4,bO k5,←no (by rintro⟨_,_,_,_,p,_⟩;omega)];rfl
 rw[bD k1,bD k2,bD k4,bD k5]
 cases k8:nM m.Ef
 case false=>rw[←no (λp=>by have:=p.2.2.2.2.2.2.2.1;rw[k8]at this;cases this)];rfl
 cases k9:qI m.Answer
 case false=>rw[←no (λp=>by have:=p.2.2.2.2.2.2.2.2.1;rw[k9]at this;cases this)];rfl
 cases k0:kT m.qg
 case false=>rw[←no (λp=>by have:=p.2.2.2.2.2.2.2.2.2;rw[k0]at this;cases this)];rfl
 by_cases k3:∀n∈[m.From,m.To,m.fJ,m.Epoch,m.Weight,m.Load,m.ou],uR n
 case neg=>rw[if_neg k3,←no (λp=>k3 λn hn=>p.2.2.1 n (List.mem_cons_of_mem _ hn))];rfl
 by_cases k6:∀n∈m.Path,uR n
 case neg=>rw[if_pos k3,if_neg k6,←no (λp=>k6 p.2.2.2.2.2.1)];rfl
 by_cases k7:∀n∈m.Table,okE n
 case neg=>rw[if_pos k3,if_pos k6,if_neg k7,←no (λp=>k7 p.2.2.2.2.2.2.1)];rfl
 rw[if_pos k3,if_pos k6,if_pos k7]
 unfold qJ
 rw[bO (show MC m from⟨by omega,by omega, ?_,by omega,by omega,k6,k7,k8,k9,k0⟩)]
 ·rfl
 ·intro n hn
  rcases List.mem_cons.1 hn with rfl | hn
  ·unfold uR;omega
  ·exact k3 n hn
def uS(p:Nat×List aG)(m:aG):Nat×List aG:=if qJ m=true∧p.2.length<60 then (p.1+1,p.2++[m])else p
def abw(l M:List aG):Nat×List aG:=l.foldl uS (0,M)
def AY(M:List aG):Prop:=(∀m∈M,qJ m=true)∧M.length≤60
theorem aps{p:Nat×List aG}(h:AY p.2)(m:aG):AY (uS p m).2:=by
 unfold uS
 split
 ·rename_i c
  refine⟨λx hx=>?_,by simp;omega⟩
  rcases List.mem_append.1 hx with hx | hx
  ·exact h.1 x hx
  ·rw[List.mem_singleton.1 hx];exact c.1
 ·exact h
theorem OP:∀(l:List aG) (p:Nat×List aG),AY p.2→AY (l.foldl uS p).2
 | [],_,h=>h
 | m::l,p,h=>OP l _ (aps h m)
theorem aun(p:Nat×List aG)(m:aG):p.1≤(uS p m).1∧(uS p m).1≤p.1+1:=by
 unfold uS
 split<;>simp
theorem aed:∀(l:List aG) (p:Nat×List aG),(l.foldl uS p).1≤p.1+l.length
 | [],p=>by simp
 | m::l,p=>by
  have:=aed l (uS p m)
  have:=(aun p m).2
  simp only[List.foldl_cons,bA]
  omega
theorem agA(l:List aG)(p:Nat×List aG){i:Nat}(hi:i<l.length):(l.take (i+1)).foldl uS p=uS ((l.take i).foldl uS p) l[i]:=by
 rw[bG hi,List.foldl_append]
 rfl
theorem Iq{m:aG}(h:qJ m=true):Ea m:=by
 obtain⟨_,_,_,h4,h5,_,_,_,_,h0⟩:=Ec h
 have:=zK h0
 exact⟨by omega,by omega,by omega,by omega⟩
theorem akB(l M:List aG)(hl:l.length<1000000)(hs:∀m∈l,Ea m)(hM:AY M):AP l (M.map xI)=some (((abw l M).1:Int),(abw l M).2.map xI):=by
 have run:zJ l (0,0,M.map xI)=some (((abw l M).1:Int),(abw l M).2.map xI):=by
  unfold zJ
  have e0:((0:Int),(0:Int),M.map xI)=((((l.take 0).foldl uS (0,M)).1:Int),((0:Nat):Int),((l.take 0).foldl uS (0,M)).2.map xI):=by simp
  rw[e0]
  refine lI (λi=>((((l.take i).foldl uS (0,M)).1:Int),(i:Int),((l.take i).foldl uS (0,M)).2.map xI)) l.length _ (λi hi=>?_) ?_ (by omega)
  ·have g:=(OP (l.take i) (0,M) hM).2
   have b:=aed (l.take i) (0,M)
   rw[bf]at b
   rw[agA l _ hi]
   generalize (l.take i).foldl uS (0,M)=p at *
   have sm:=hs _ (List.getElem_mem hi)
   unfold mQ zI
   simp only
   rw[bO (by omega),cond_true,dU hi,ak,ZH _ sm,ak,ayp _ sm]
   simp only[List.length_map]
   unfold uS
   cases c:qJ l[i]
   ·rw[if_neg (by simp),cu (x:=(i:Int)+1) (by omega) (by omega),dF]
    rfl
   ·simp only[cond_true,ak]
    by_cases d:p.2.length<60
    ·rw[bO (by omega),cond_true,if_pos trivial,if_pos ⟨trivial,d⟩,afG (by rw[aD,List.length_map,List.length_singleton];omega),cu (by omega) (by omega),cu (by omega) (by omega),dF,dF,List.map_append]
     rfl
    ·rw[bD (by omega),cond_false,if_neg (λh=>d h.2),cu (by omega) (by omega),dF]
  ·unfold mQ
   simp only
   rw[bD (by omega),cond_false,List.take_length]
   rfl
 unfold AP
 rw[run]
 rfl
theorem Ed(k:Int)(L:List (List UInt8)):yH k L=some (decide (0≤k∧k<(L.length:Int))):=by
 unfold yH
 by_cases a:k≥0
 ·rw[bO a,cond_true]
  by_cases b:k<(L.length:Int)
  ·rw[bO b,bO ⟨by omega,b⟩]
  ·rw[bD b,bD (λh=>b h.2)]
 ·rw[bD a,cond_false,bD (λh=>a h.1)]
theorem akC{M:List aG}(hM:AY M){i:Nat}(h:i<M.length):JD (xI M[i])=some (M[i],0):=by
 have r:=hM.1 _ (List.getElem_mem h)
 have:=X_ r
 rw[aui _ (by omega),aea r]
theorem ayx{M:List aG}(hM:AY M){i:Nat}(h:i<M.length):sZ (i:Int) (M.map xI)=some (M[i],true,(M.take i++M.drop (i+1)).map xI):=by
 have h2:=hM.2
 unfold sZ
 rw[Ed,ak,bO ⟨by omega,by rw[List.length_map];omega⟩]
 simp only[Bool.not_true,cond_false]
 rw[dU (by rw[List.length_map];exact h),ak,List.getElem_map,akC hM h,ak,cu (by omega) (by omega),dF,iT (by unfold aof;rw[bO ⟨by omega,by omega,by rw[List.length_map];omega⟩])]
 unfold J3
 rw[bL,bL,List.map_append,List.map_take,List.map_drop]
theorem auo(M:List aG)(k:Int)(h:¬(0≤k∧k<(M.length:Int))):sZ k (M.map xI)=some (aau,false,M.map xI):=by
 unfold sZ
 rw[Ed,ak,List.length_map,bD h]
 rfl
theorem ayy{M:List aG}{i j:Nat}(hi:i<M.length)(hj:j<M.length):vM (i:Int) (j:Int) (M.map xI)=some (true,((M.set i M[j]).set j M[i]).map xI):=by
 unfold vM vX
 rw[Ed,Ed,List.length_map,bO ⟨by omega,by omega⟩,bO ⟨by omega,by omega⟩]
 simp only[ak,Bool.not_true,cond_false,jY]
 rw[dU (by rw[List.length_map];exact hj),dU (by rw[List.length_map];exact hi),ak,ak,ak,dU (by rw[bB,List.length_map];exact hj),ak]
 simp only[List.getElem_map,bL,List.map_set]
theorem aup(M:List aG)(k j:Int)(h:¬((0≤k∧k<(M.length:Int))∧(0≤j∧j<(M.length:Int)))):vM k j (M.map xI)=some (false,M.map xI):=by
 unfold vM vX
 rw[Ed,Ed,List.length_map]
 by_cases a:0≤k∧k<(M.length:Int)
 ·rw[bO a,bD (λb=>h ⟨a,b⟩)]
  rfl
 ·rw[bD a]
  rfl
theorem apt{M:List aG}{i:Nat}(hi:i<M.length)(h:M.length<60):jT (i:Int) (M.map xI)=some (true,(M++[M[i]]).map xI):=by
 unfold jT lW
 rw[Ed,List.length_map,bO ⟨by omega,by omega⟩]
 simp only[ak,Bool.not_true,cond_false,jY]
 rw[vR (by omega)]
 simp only[ak,cond_false,jY]
 rw[dU (by rw[List.length_map];exact hi),ak,afG (by rw[aD,List.length_singleton,List.length_map];omega)]
 simp only[List.getElem_map,List.map_append,List.map_cons,List.map_nil]
theorem akD(M:List aG)(k:Int)(h:M.length=60):jT k (M.map xI)=some (false,M.map xI):=by
 unfold jT lW
 rw[Ed,List.length_map,xR (show(M.length:Int)=60 by omega)]
 cases decide (0≤k∧k<(M.length:Int))<;>rfl
theorem amU(M:List aG)(k:Int)(h:¬(0≤k∧k<(M.length:Int))):jT k (M.map xI)=some (false,M.map xI):=by
 unfold jT lW
 rw[Ed,List.length_map,bD h]
 rfl
theorem apu{M:List aG}(hM:AY M):Gh (M.map xI)=some M:=by
 have h2:=hM.2
 have run:D7 (M.map xI) (0,[])=some M:=by
  unfold D7
  have e0:((0:Int),([]:List aG))=(((0:Nat):Int),M.take 0):=rfl
  rw[e0]
  refine lI (λi=>((i:Int),M.take i)) M.length _ (λi hi=>?_) ?_ (by omega)
  ·unfold pY
   simp only
   rw[bO (by rw[List.length_map];omega),cond_true,dU (by rw[List.length_map];exact hi),ak,List.getElem_map,akC hM hi,ak,iT (by unfold dR;simp;omega),cu (by omega) (by omega),dF,bG hi]
  ·unfold pY
   simp only
   rw[bD (by rw[List.length_map];omega),cond_false,List.take_length]
 unfold Gh
 rw[run]
 rfl
theorem apv{M:List aG}(h:AY M)(i j:Nat):AY (M.take i++M.drop (i+1+j)):=by
 refine⟨λm hm=>?_, ?_⟩
 ·rcases List.mem_append.1 hm with hm | hm
  ·exact h.1 _ (List.mem_of_mem_take hm)
  ·exact h.1 _ (List.mem_of_mem_drop hm)
 ·have:=h.2
  rw[aD,bf,aZ]
  omega
theorem akE{M:List aG}(h:AY M){i:Nat}{m:aG}(hm:qJ m=true):AY (M.set i m):=by
 refine⟨λx hx=>?_,by rw[bB];exact h.2⟩
 rcases List.mem_or_eq_of_mem_set hx with hx | hx
 ·exact h.1 x hx
 ·rw[hx];exact hm
theorem aee(b:Bool):Xk b=some (Qi b):=by
 cases b<;>rfl
theorem auq(m:aG)(h:Ea m):Nl m=some (if qJ m then xI m else []):=by
 unfold Nl
 rw[V4 m h,ak]
 cases hr:qJ m
 ·rfl
 obtain⟨_,_,h3,h4,h5,h6,h7,h8,h9,h0⟩:=Ec hr
 have hl:=X_ hr
 unfold xI at hl ⊢
 simp only[aD]at hl
 simp only[Bool.not_true,cond_false,if_true]
 have e9:[m.Kind,m.From,m.To,m.fJ,m.Epoch,m.Weight,m.Load,m.ou,Qi m.fq].flatMap eN=(JR m).flatMap eN++eN (Qi m.fq):=by
  unfold JR
  simp
 rw[aee,ak,pI _ _ (by simp),ak,kH [] (l:=[m.Kind,m.From,m.To,m.fJ,m.Epoch,m.Weight,m.Load,m.ou,Qi m.fq]) (λx hx=>by
  have:x∈JR m∨x=Qi m.fq:=by
   unfold JR
   simp only[List.mem_cons,List.not_mem_nil,or_false]at hx ⊢
   omega
  rcases this with q | q
  ·exact h3 x q
  ·rw[q];exact Tf _),List.nil_append,e9]
 rw[afb _ _ (by simp only[aD];omega),h8,if_pos rfl,ak,UR _ _ (by simp only[aD];omega),h9,if_pos rfl,ak]
 rw[pI _ _ (by simp only[aD,bA,bN];omega),ak,kH _ (l:=[(m.Path.length:Int)]) (λx hx=>by rw[List.mem_singleton.1 hx];unfold uR;omega)]
 simp only[List.flatMap_cons,List.flatMap_nil,List.append_nil]
 rw[pI _ _ (by simp only[aD];omega),ak,kH _ (l:=m.Path) h6]
 rw[pI _ _ (by simp only[aD,bA,bN];omega),ak,kH _ (l:=[(m.Table.length:Int)]) (λx hx=>by rw[List.mem_singleton.1 hx];unfold uR;omega)]
 simp only[List.flatMap_cons,List.flatMap_nil,List.append_nil]
 generalize hB:(JR m).flatMap eN++eN (Qi m.fq)++abp m.Ef++ZC m.Answer++eN (m.Path.length:Int)++m.Path.flatMap eN++eN (m.Table.length:Int)=B
 have hBl:B.length≤2000:=by
  rw[←hB]
  simp only[aD]
  omega
 have l0:HV m (B,0)=some (B++m.Table.flatMap Gp):=by
  have e0:(B,(0:Int))=(B++(m.Table.take 0).flatMap Gp,((0:Nat):Int)):=by simp
  unfold HV
  rw[e0]
  refine lI (λi=>(B++(m.Table.take i).flatMap Gp,(i:Int))) m.Table.length _ (λi hi=>?_) ?_ (by omega)
  ·have q5:(m.Table.take (i+1)).flatMap Gp=(m.Table.take i).flatMap Gp++Gp m.Table[i]:=by
    rw[bG hi,List.flatMap_append]
    simp
   have q6:=Iz Gp m.Table i
   obtain⟨q1,q2,q3,q4,q7⟩:=h7 _ (List.getElem_mem hi)
   have hp:=kH (B++(m.Table.take i).flatMap Gp) (l:=[m.Table[i].Inc,m.Table[i].Status,m.Table[i].rG,m.Table[i].Load,Qi m.Table[i].fq]) (λz hz=>by
    simp only[List.mem_cons,List.not_mem_nil,or_false]at hz
    rcases hz with rfl | rfl | rfl | rfl | rfl
    ·exact q1
    ·unfold uR;omega
    ·exact q4
    ·exact q7
    ·exact Tf _)
   unfold uq
   simp only
   rw[bO (by omega),cond_true,dU hi,ak,aee,ak,pI _ _ (by simp only[aD,bA,bN];omega),ak,hp,cu (by omega) (by omega),dF,q5]
   unfold Gp
   rw[bR]
  ·unfold uq
   simp only
   rw[bD (by omega),cond_false,List.take_length]
 rw[l0,ak,abu _ _ (by rw[aD];omega) h.2.2.1 h.2.2.2,h0,if_pos rfl,ak,←hB]
 simp only[bR]
abbrev zR:vZ:=⟨[],0⟩
def en4(a b c d:Int)(r:vZ):Option (aI×vZ):=(fO ((1:Nat):Int) r).bind λy=>some (⟨a,b,c,d,y.1==1⟩,y.2)
def en3(a b c:Int)(r:vZ):=(bX r).bind λy=>en4 a b c y.1 y.2
def en2(a b:Int)(r:vZ):=(bX r).bind λy=>en3 a b y.1 y.2
def en1(a:Int)(r:vZ):=(bX r).bind λy=>en2 a y.1 y.2
def en0(r:vZ):=(bX r).bind λy=>en1 y.1 y.2
theorem aAj(a b c d:Int):rF (en4 a b c d) (cZ (rE ((1:Nat):Int)) λk s=>.inr ((⟨a,b,c,d,k==1⟩:aI),s)) :=
 rF.cnt (g:=λk r=>some ((⟨a,b,c,d,k==1⟩:aI),r)) (q:=λk s=>.inr ((⟨a,b,c,d,k==1⟩:aI),s)) 1 λn _=>rF.ret _
theorem aAk:rF en0 Eb:=by
 have e:Eb=cZ gG λa=>cZ gG λb=>cZ gG λc=>cZ gG λd=>cZ (rE ((1:Nat):Int)) λk s=>.inr ((⟨a,b,c,d,k==1⟩:aI),s):=by
  rw[auf]
  rw[show fU gG 4=cZ gG λx=>cZ (cZ gG λy=>cZ (cZ gG λz=>cZ (cZ gG λw=>cZ (λb=>.inr ([],b)) λl b=>.inr (w::l,b)) λl b=>.inr (z::l,b)) λl b=>.inr (y::l,b)) λl b=>.inr (x::l,b)from rfl]
  simp only[JU,Sz]
  rfl
 rw[e]
 refine rF.seq (g:=λx r=>en1 x r) rU gQ h_ λa=>?_
 refine rF.seq (g:=λx r=>en2 a x r) rU gQ h_ λb=>?_
 refine rF.seq (g:=λx r=>en3 a b x r) rU gQ h_ λc=>?_
 exact rF.seq (g:=λx r=>en4 a b c x r) rU gQ h_ λd=>aAj a b c d
abbrev zx:Int×vZ:=(0,zR)
abbrev zL1:=Fq zx zx zx zx zx zx zx zx (false,zR) (Ev,zR) (X6,zR)
abbrev aur:=nY zx zx zx zx zx zx zx zx (false,zR) (Ev,zR) (X6,zR)
abbrev zL3:=Fu zx zx zx zx zx zx zx zx (false,zR) (Ev,zR) (X6,zR) (zR,[])
abbrev aus:=nZ zx zx zx zx zx zx zx zx (false,zR) (Ev,zR) (X6,zR) (zR,[])
theorem aBO{β:Type}(c:Nat)(hc:c≤5){g:List Int→vZ→Option (β×vZ)}{q:List Int→Pr β}(k:∀l,l.length≤c→rF (g l) (q l)):rF (λr=>(zL1 ((c:Int),r,[])).bind λy=>g y.2 y.1) (cZ (fU gG c) q):=by
 have h0:∀(k:Nat) b e acc,(k=0∨e≠0)→aur ((k:Int),⟨b,e⟩,acc)=some (.inr (⟨b,e⟩,acc)):=λk b e acc h=>by
  unfold aur nY AL
  simp only
  by_cases hk:k=0
  ·rw[bD (by omega)];rfl
  ·rw[bO (by omega),vR (h.resolve_left hk)];rfl
 refine rF.loop c h_ gQ (λb e he=>?_) (λb hb=>?_) k
 ·unfold zL1 Fq
  have:KK=(KK-1)+1:=by have:=kP;omega
  rw[this]
  simp only[dG,h0 c b e [] (.inr he)]
 ·have:=akA (p:=gG) aur h_ gQ h0 (λk b acc hb hk ha=>by
   have hp:=(rU b 0 hb).2
   have e:aur (((k+1:Nat):Int),⟨b,0⟩,acc)=(bX ⟨b,0⟩).bind λy=>some (.inl ((k:Int),y.2,acc++[y.1])):=by
    unfold aur nY AL
    simp only
    rw[bO (by omega),xR rfl]
    simp only[cond_true,ak,jY]
    congr 1;funext y
    rw[iT (by unfold dR;simp;omega),cu (by omega) (by omega),show((k+1:Nat):Int)-1=(k:Int)by omega]
   rw[e]
   cases hq:gG b with
   | inl er =>
    rw[hq]at hp
    obtain⟨x,s,hx,hs⟩:=hp
    exact⟨x,s,by rw[hx];rfl,hs⟩
   | inr y =>
    rw[hq]at hp
    simp only at hp ⊢
    rw[hp]
    rfl) c KK b [] (by have:=kP;omega) hb (by simp;omega)
  cases hq:fU gG c b with
  | inl er =>
   rw[hq]at this
   obtain⟨l,s,h1,h2,h3⟩:=this
   exact⟨l,s,h1,by simpa using h2,h3⟩
  | inr y =>
   rw[hq]at this
   simp only[List.nil_append]at this
   exact this
theorem aBP{β:Type}(c:Nat)(hc:c≤5){g:List aI→vZ→Option (β×vZ)}{q:List aI→Pr β}(k:∀l,l.length≤c→rF (g l) (q l)):rF (λr=>(zL3 ((c:Int),r,[])).bind λy=>g y.2 y.1) (cZ (fU Eb c) q):=by
 have h0:∀(k:Nat) b e acc,(k=0∨e≠0)→aus ((k:Int),⟨b,e⟩,acc)=some (.inr (⟨b,e⟩,acc)):=λk b e acc h=>by
  unfold aus nZ AO
  simp only
  by_cases hk:k=0
  ·rw[bD (by omega)];rfl
  ·rw[bO (by omega),vR (h.resolve_left hk)];rfl
 refine rF.loop c abP Yb (λb e he=>?_) (λb hb=>?_) k
 ·unfold zL3 Fu
  have:KK=(KK-1)+1:=by have:=kP;omega
  rw[this]
  simp only[dG,h0 c b e [] (.inr he)]
 ·have:=akA (p:=Eb) aus abP Yb h0 (λk b acc hb hk ha=>by
   have hp:=(aAk b 0 hb).2
   have e:aus (((k+1:Nat):Int),⟨b,0⟩,acc)=(en0 ⟨b,0⟩).bind λy=>some (.inl ((k:Int),y.2,acc++[y.1])):=by
    unfold aus nZ AO en0 en1 en2 en3 en4
    simp only
    rw[bO (by omega),xR rfl]
    simp only[cond_true,ak,jY,Option.bind_assoc,uE]
    congr 1;funext x;congr 1;funext y;congr 1;funext z;congr 1;funext w
    rw[show((1:Nat):Int)=1 from rfl]
    congr 1;funext v
    rw[iT (by unfold dR;simp;omega),cu (by omega) (by omega),show((k+1:Nat):Int)-1=(k:Int)by omega]
   rw[e]
   cases hq:Eb b with
   | inl er =>
    rw[hq]at hp
    obtain⟨x,s,hx,hs⟩:=hp
    exact⟨x,s,by rw[hx];rfl,hs⟩
   | inr y =>
    rw[hq]at hp
    simp only at hp ⊢
    rw[hp]
    rfl) c KK b [] (by have:=kP;omega) hb (by simp;omega)
  cases hq:fU Eb c b with
  | inl er =>
   rw[hq]at this
   obtain⟨l,s,h1,h2,h3⟩:=this
   exact⟨l,s,h1,by simpa using h2,h3⟩
  | inr y =>
   rw[hq]at this
   simp only[List.nil_append]at this
   exact this
def rg9(n:List Int)(d:Bool)(q:bJ)(a:aJ)(p:List Int)(t:List aI)(r:vZ):Option (aG×vZ):=(r9 r).bind λy=>some (mkM n d q a p t y.1,y.2)
def rg8(n:List Int)(d:Bool)(q:bJ)(a:aJ)(p:List Int)(c:Int)(r:vZ):=(zL3 (c,r,[])).bind λy=>rg9 n d q a p y.2 y.1
def rg7(n:List Int)(d:Bool)(q:bJ)(a:aJ)(p:List Int)(r:vZ):=(fO ((5:Nat):Int) r).bind λy=>rg8 n d q a p y.1 y.2
def rg6(n:List Int)(d:Bool)(q:bJ)(a:aJ)(c:Int)(r:vZ):=(zL1 (c,r,[])).bind λy=>rg7 n d q a y.2 y.1
def rg5(n:List Int)(d:Bool)(q:bJ)(a:aJ)(r:vZ):=(fO ((5:Nat):Int) r).bind λy=>rg6 n d q a y.1 y.2
def rg4(n:List Int)(d:Bool)(q:bJ)(r:vZ):=(kZ r).bind λy=>rg5 n d q y.1 y.2
def rg3(n:List Int)(d:Bool)(r:vZ):=(wz r).bind λy=>rg4 n d y.1 y.2
def rg1(n:List Int)(r:vZ):=(fO ((1:Nat):Int) r).bind λy=>rg3 n (y.1==1) y.2
def rh7(a b c d e f g:Int)(r:vZ):=(bX r).bind λy=>rg1 [a,b,c,d,e,f,g,y.1] y.2
def rh6(a b c d e f:Int)(r:vZ):=(bX r).bind λy=>rh7 a b c d e f y.1 y.2
def rh5(a b c d e:Int)(r:vZ):=(bX r).bind λy=>rh6 a b c d e y.1 y.2
def rh4(a b c d:Int)(r:vZ):=(bX r).bind λy=>rh5 a b c d y.1 y.2
def rh3(a b c:Int)(r:vZ):=(bX r).bind λy=>rh4 a b c y.1 y.2
def rh2(a b:Int)(r:vZ):=(bX r).bind λy=>rh3 a b y.1 y.2
def rh1(a:Int)(r:vZ):=(bX r).bind λy=>rh2 a y.1 y.2
def rh0(r:vZ):=(bX r).bind λy=>rh1 y.1 y.2
def mg1(n:List Int):Pr aG:=cZ (rE ((1:Nat):Int)) λk=>cZ VZ λq=>cZ Qg λa=>cZ (rE ((5:Nat):Int)) λc=>cZ (fU gG c.toNat) λp=>cZ (rE ((5:Nat):Int)) λk2=>cZ (fU Eb k2.toNat) λt=>cZ Qh λx b=>.inr (mkM n (k==1) q a p t x,b)
theorem aAl(n:List Int):rF (rg1 n) (mg1 n):=by
 refine rF.cnt (g:=λk r=>rg3 n (k==1) r) (q:=λk=>cZ VZ λq=>cZ Qg λa=>cZ (rE ((5:Nat):Int)) λc=>cZ (fU gG c.toNat) λp=>cZ (rE ((5:Nat):Int)) λk2=>cZ (fU Eb k2.toNat) λt=>cZ Qh λx b=>.inr (mkM n (k==1) q a p t x,b)) 1 λk _=>?_
 refine rF.seq (g:=λq r=>rg4 n ((k:Int)==1) q r) az3 ahX anK λq=>?_
 refine rF.seq (g:=λa r=>rg5 n ((k:Int)==1) q a r) aum X7 abN λa=>?_
 refine rF.cnt (g:=λc r=>rg6 n ((k:Int)==1) q a c r) (q:=λc=>cZ (fU gG c.toNat) λp=>cZ (rE ((5:Nat):Int)) λk2=>cZ (fU Eb k2.toNat) λt=>cZ Qh λx b=>.inr (mkM n ((k:Int)==1) q a p t x,b)) 5 λc hc=>?_
 simp only[bL]
 refine aBO c hc (g:=λp r=>rg7 n ((k:Int)==1) q a p r) λp hp=>?_
 refine rF.cnt (g:=λc r=>rg8 n ((k:Int)==1) q a p c r) (q:=λk2=>cZ (fU Eb k2.toNat) λt=>cZ Qh λx b=>.inr (mkM n ((k:Int)==1) q a p t x,b)) 5 λk2 hk=>?_
 simp only[bL]
 refine aBP k2 hk (g:=λt r=>rg9 n ((k:Int)==1) q a p t r) λt ht=>?_
 exact rF.seq (g:=λx r=>some (mkM n ((k:Int)==1) q a p t x,r)) (q:=λx b=>.inr (mkM n ((k:Int)==1) q a p t x,b)) aAi anL ayn λx=>rF.ret _
theorem aAm:rF rh0 X9:=by
 have e:X9=cZ gG λa=>cZ gG λb=>cZ gG λc=>cZ gG λd=>cZ gG λe=>cZ gG λf=>cZ gG λg=>cZ gG λh=>mg1 [a,b,c,d,e,f,g,h]:=by
  unfold X9 aks mg1
  rw[show fU gG 8=cZ gG λx=>cZ (cZ gG λy=>cZ (cZ gG λz=>cZ (cZ gG λw=>cZ (cZ gG λx2=>cZ (cZ gG λy2=>cZ (cZ gG λz2=>cZ (cZ gG λw2=>cZ (λb=>.inr ([],b)) λl b=>.inr (w2::l,b)) λl b=>.inr (z2::l,b)) λl b=>.inr (y2::l,b)) λl b=>.inr (x2::l,b)) λl b=>.inr (w::l,b)) λl b=>.inr (z::l,b)) λl b=>.inr (y::l,b)) λl b=>.inr (x::l,b)from rfl]
  simp only[JU,Sz]
  rfl
 rw[e]
 refine rF.seq (g:=λx r=>rh1 x r) rU gQ h_ λa=>?_
 refine rF.seq (g:=λx r=>rh2 a x r) rU gQ h_ λb=>?_
 refine rF.seq (g:=λx r=>rh3 a b x r) rU gQ h_ λc=>?_
 refine rF.seq (g:=λx r=>rh4 a b c x r) rU gQ h_ λd=>?_
 refine rF.seq (g:=λx r=>rh5 a b c d x r) rU gQ h_ λe=>?_
 refine rF.seq (g:=λx r=>rh6 a b c d e x r) rU gQ h_ λf=>?_
 refine rF.seq (g:=λx r=>rh7 a b c d e f x r) rU gQ h_ λg=>?_
 exact rF.seq (g:=λx r=>rg1 [a,b,c,d,e,f,g,x] r) rU gQ h_ λh=>aAl _
def rend(y:aG×vZ):Option (aG×Int) :=
 ((cond (y.2.E==0) (cond (decide ((y.2.B.length:Int)>0)) (some true) ((uN y.1).bind λx=>some (!x))) (some false)).bind λx48=>cond x48 (some (⟨y.2.B,2⟩:vZ)) (some y.2)).bind λx49=>cond (x49.E != 0) (some (aau,x49.E)) (some (y.1,0))
theorem aut(b:List UInt8):ER b=(rh0 ⟨b,0⟩).bind rend:=by
 unfold rh0 rh1 rh2 rh3 rh4 rh5 rh6 rh7 rg1 rg3 rg4 rg5 rg6 rg7 rg8 rg9
 simp only[Option.bind_assoc,ak]
 unfold ER uE
 simp only[Option.bind_assoc,ak]
 rfl
theorem apw(b:List UInt8)(hb:b.length<500000000):ER b=some (agy b):=by
 rw[aut]
 unfold agy
 have h:=(aAm b 0 hb).2
 cases hp:X9 b with
 | inl er =>
  have he:er≠0:=by rcases anQ _ _ hp with rfl | rfl<;>omega
  rw[hp]at h
  obtain⟨x,s,h,_⟩:=h
  rw[h,ak]
  unfold rend
  simp only
  rw[vR he]
  simp only[cond_false,ak]
  rw[oz he]
  rfl
 | inr y =>
  obtain⟨x,s⟩:=y
  rw[hp]at h
  simp only at h
  rw[h,ak]
  unfold rend
  simp only
  rw[xR rfl,V4 x (akv _ _ _ hp)]
  simp only[cond_true,ak]
  by_cases c:s.length=0
  ·rw[bD (by omega),cond_false]
   cases hc:qJ x
   ·rw[if_neg (by simp)];rfl
   ·rw[if_pos ⟨c,rfl⟩];rfl
  ·rw[bO (by omega),if_neg (by rintro⟨p,_⟩;exact c p)]
   rfl
theorem SC(l M:List aG)(hl:l.length<1000000)(hs:∀m∈l,Ea m)(hM:AY M):jU l M=some (((abw l M).1:Int),(abw l M).2):=by
 have run:mo l (0,0,M)=some (((abw l M).1:Int),(abw l M).2):=by
  unfold mo
  have e0:((0:Int),(0:Int),M)=((((l.take 0).foldl uS (0,M)).1:Int),((0:Nat):Int),((l.take 0).foldl uS (0,M)).2):=by simp
  rw[e0]
  refine lI (λi=>((((l.take i).foldl uS (0,M)).1:Int),(i:Int),((l.take i).foldl uS (0,M)).2)) l.length _ (λi hi=>?_) ?_ (by omega)
  ·have g:=(OP (l.take i) (0,M) hM).2
   have b:=aed (l.take i) (0,M)
   rw[bf]at b
   rw[agA l _ hi]
   generalize (l.take i).foldl uS (0,M)=p at *
   have sm:=hs _ (List.getElem_mem hi)
   unfold iN mh
   simp only
   rw[bO (by omega),cond_true,dU hi,ak,ak,V4 _ sm,auq _ sm]
   unfold uS
   by_cases d:p.2.length<60
   ·rw[bO (by omega),cond_true]
    simp only[ak]
    cases c:qJ l[i]
    ·rw[if_neg (by simp),cu (x:=(i:Int)+1) (by omega) (by omega),dF]
     rfl
    ·have:=X_ c
     rw[cond_true,if_pos rfl,if_pos ⟨rfl,d⟩,apw _ (by omega),aea c,ak,iT (by unfold dR;simp;omega),iT (by unfold dR;simp;omega),cu (by omega) (by omega),cu (by omega) (by omega),dF,dF]
   ·rw[bD (by omega),cond_false,ak,cond_false,if_neg (λh=>d h.2),cu (by omega) (by omega),dF]
  ·unfold iN
   simp only
   rw[bD (by omega),cond_false,List.take_length]
   rfl
 unfold jU
 rw[run]
 rfl
theorem zL(k:Int)(L:List aG):iH k L=some (decide (0≤k∧k<(L.length:Int))):=by
 unfold iH
 by_cases a:k≥0
 ·rw[bO a,cond_true]
  by_cases b:k<(L.length:Int)
  ·rw[bO b,bO ⟨by omega,b⟩]
  ·rw[bD b,bD (λh=>b h.2)]
 ·rw[bD a,cond_false,bD (λh=>a h.1)]
theorem auu{M:List aG}(hM:AY M){i:Nat}(h:i<M.length):iY (i:Int) M=some (M[i],true,M.take i++M.drop (i+1)):=by
 have h2:=hM.2
 unfold iY
 rw[zL,ak,bO ⟨by omega,by omega⟩]
 simp only[Bool.not_true,cond_false]
 rw[dU h,ak,acy M i (by omega),ak,iT (by unfold dR;simp;omega),cu (by omega) (by omega),dF,um M (i+1) (by omega),ak,iT (by unfold dR;simp;omega)]
theorem apx(M:List aG)(k:Int)(h:¬(0≤k∧k<(M.length:Int))):iY k M=some (aau,false,M):=by
 unfold iY
 rw[zL,ak,bD h]
 rfl
theorem auv{M:List aG}(hM:AY M){i j:Nat}(hi:i<M.length)(hj:j<M.length):iZ (i:Int) (j:Int) M=some (true,(M.set i M[j]).set j M[i]):=by
 have h2:=hM.2
 unfold iZ jI
 rw[zL,zL,bO ⟨by omega,by omega⟩,bO ⟨by omega,by omega⟩]
 simp only[ak,Bool.not_true,cond_false,jY]
 rw[iT (by unfold dR;simp;omega),dU hj,dU hi,ak,ak,ak,dU (by rw[bB];exact hj),ak]
 simp only[bL]
theorem apy(M:List aG)(k j:Int)(h:¬((0≤k∧k<(M.length:Int))∧(0≤j∧j<(M.length:Int)))):iZ k j M=some (false,M):=by
 unfold iZ jI
 rw[zL,zL]
 by_cases a:0≤k∧k<(M.length:Int)
 ·rw[bO a,bD (λb=>h ⟨a,b⟩)]
  rfl
 ·rw[bD a]
  rfl
theorem amV{M:List aG}(hM:AY M){i:Nat}(hi:i<M.length)(h:M.length<60):fV (i:Int) M=some (true,M++[M[i]]):=by
 have r:=hM.1 _ (List.getElem_mem hi)
 unfold fV
 rw[zL,ak,bO ⟨by omega,by omega⟩,cond_true,dU hi,ak,SC _ _ (by simp) (λm hm=>by rw[List.mem_singleton.1 hm];exact Iq r) hM,ak]
 have e:abw [M[i]] M=(1,M++[M[i]]):=by
  unfold abw
  simp only[List.foldl_cons,List.foldl_nil]
  unfold uS
  rw[if_pos ⟨r,h⟩]
 rw[e]
 rfl
theorem ah1{M:List aG}(hM:AY M)(k:Int)(h:M.length=60):fV k M=some (false,M):=by
 unfold fV
 rw[zL,ak]
 by_cases a:0≤k∧k<(M.length:Int)
 ·obtain⟨i,rfl⟩:∃i:Nat,k=(i:Int):=⟨k.toNat,by omega⟩
  have hi:i<M.length:=by omega
  have r:=hM.1 _ (List.getElem_mem hi)
  rw[bO a,cond_true,dU hi,ak,SC _ _ (by simp) (λm hm=>by rw[List.mem_singleton.1 hm];exact Iq r) hM,ak]
  have e:abw [M[i]] M=(0,M):=by
   unfold abw
   simp only[List.foldl_cons,List.foldl_nil]
   unfold uS
   rw[if_neg (λq=>by have:=q.2;simp only at this;omega)]
  rw[e]
  rfl
 ·rw[bD a]
  rfl
theorem akF(M:List aG)(k:Int)(h:¬(0≤k∧k<(M.length:Int))):fV k M=some (false,M):=by
 unfold fV
 rw[zL,ak,bD h]
 rfl
theorem amW{M:List aG}(hM:AY M):Gi M M=some true:=by
 have h2:=hM.2
 have run:D8 M M 0=some (.inr ()):=by
  unfold D8
  refine lI (λi=>(i:Int)) M.length _ (λi hi=>?_) ?_ (by omega)
  ·obtain⟨v,v1,v2⟩:=azV M[i] M[i] (Iq (hM.1 _ (List.getElem_mem hi)))
   have v3:v=true:=v2.2 rfl
   unfold qb
   rw[bO (by omega),cond_true,dU hi,ak,ak,v1,ak,v3,cu (by omega) (by omega),dF]
   rfl
  ·unfold qb
   rw[bD (by omega),cond_false]
 unfold Gi
 rw[iP rfl,cond_false,run]
 rfl
theorem ayz:vN=some true:=by decide +kernel
theorem apz(x:bI)(calls:List bI)(s:Int×List (List UInt8)×List aG):∃l,tK x calls s (0,[])=some l∧l.length≤5∧∀m∈l,Ea m:=by
 refine kV (λ(s:Int×List aG)=>5-s.1.toNat) (λs=>∃(i:Nat) (t:List aG),s=((i:Int),t)∧i≤5∧t.length=i∧∀m∈t,Ea m) (λ(l:List aG)=>l.length≤5∧∀m∈l,Ea m) ?_ KK _ ⟨0,[],rfl,by omega,rfl,by simp⟩ (by have:=kP;simp only;omega)
 rintro s ⟨i,t,rfl,g1,g2,g3⟩
 simp only[jJ,nE]
 by_cases c:i<x.L.length
 case neg =>
  right
  rw[bD (by omega),cond_false]
  exact⟨_,rfl,by omega,g3⟩
 by_cases c2:i<5
 case neg =>
  right
  rw[bO (by omega),cond_true,bD (by omega),cond_false]
  exact⟨_,rfl,by omega,g3⟩
 left
 rw[bO (by omega),cond_true,bO (by omega),cond_true,ak]
 simp only[jY,cond_true]
 obtain⟨y,hy,sy,_⟩:=apm x.L[i]
 rw[dU c,ak,hy,ak,iT (by unfold dR;simp;omega),cu (by omega) (by omega),dF]
 refine⟨_,rfl,⟨i+1,_,rfl,by omega,by simp;omega,λm hm=>?_⟩,by simp only;omega⟩
 rcases List.mem_append.1 hm with hm | hm
 ·exact g3 m hm
 ·rw[List.mem_singleton.1 hm];exact sy
theorem ay3(n:Int)(L:List aG)(h:L.length≤60):∃k:Int,b_ n (IntKind.i64.wrap ((L.length:Int)+3))=some k∧0≤k∧k<100:=by
 obtain⟨k,k1,k2⟩:=Gn n (L.length+3) (by omega) (by omega)
 rw[cu (by omega) (by omega),show(L.length:Int)+3=((L.length+3:Nat):Int)by omega]
 exact⟨k,k1,by omega,by omega⟩
theorem auw (x:bI) (a b:Int) (ha:0≤a∧a<100) (hb:0≤b∧b<100) (i:Int) (M:List aG) (hM:AY M) (calls:List bI) :
  ∃M',AY M'∧kG x a (i,M.map xI,M) b calls=some (.inr (M'.map xI,M')):=by
 have h2:=hM.2
 obtain⟨w,w1⟩:=eZ x.What 6 (by omega) (by omega)
 have w1:b_ x.What 6=some w:=w1
 unfold kG
 rw[w1,ak,cu (x:=a-1) (by omega) (by omega),cu (x:=b-1) (by omega) (by omega)]
 simp only
 cases (w==0)
 case true =>
  rw[cond_true]
  by_cases c:0≤a-1∧a-1<(M.length:Int)
  ·obtain⟨k,hk⟩:∃k:Nat,a-1=(k:Int):=⟨(a-1).toNat,by omega⟩
   have hl:k<M.length:=by omega
   obtain⟨v,v1,v2⟩:=azV M[k] M[k] (Iq (hM.1 _ (List.getElem_mem hl)))
   have v3:v=true:=v2.2 rfl
   rw[hk,ayx hM hl,auu hM hl,ak,ak]
   simp only[v1,v3,ak,beq_self_eq_true,Bool.not_true,cond_false]
   exact⟨_,apv hM k 0,rfl⟩
  ·have sz:Ea aau:=⟨by decide,by decide,by decide,by decide⟩
   obtain⟨v,v1,v2⟩:=azV aau aau sz
   have v3:v=true:=v2.2 rfl
   rw[auo M _ c,apx M _ c,ak,ak]
   simp only[v1,v3,ak,beq_self_eq_true,Bool.not_true,cond_false]
   exact⟨M,hM,rfl⟩
 rw[cond_false]
 cases (w==1)
 case true =>
  rw[cond_true]
  by_cases f:M.length=60
  ·rw[akD M _ f,ah1 hM _ f]
   exact⟨M,hM,rfl⟩
  by_cases c:0≤a-1∧a-1<(M.length:Int)
  ·obtain⟨k,hk⟩:∃k:Nat,a-1=(k:Int):=⟨(a-1).toNat,by omega⟩
   have hl:k<M.length:=by omega
   rw[hk,apt hl (by omega),amV hM hl (by omega)]
   refine⟨M++[M[k]],⟨λm hm=>?_,by simp;omega⟩,rfl⟩
   rcases List.mem_append.1 hm with hm | hm
   ·exact hM.1 m hm
   ·rw[List.mem_singleton.1 hm];exact hM.1 _ (List.getElem_mem hl)
  ·rw[amU M _ c,akF M _ c]
   exact⟨M,hM,rfl⟩
 rw[cond_false]
 cases (w==2)
 case true =>
  rw[cond_true]
  by_cases c:(0≤a-1∧a-1<(M.length:Int))∧(0≤b-1∧b-1<(M.length:Int))
  ·obtain⟨k,hk⟩:∃k:Nat,a-1=(k:Int):=⟨(a-1).toNat,by omega⟩
   obtain⟨j,hj⟩:∃k:Nat,b-1=(k:Int):=⟨(b-1).toNat,by omega⟩
   have hl:k<M.length:=by omega
   have hm:j<M.length:=by omega
   rw[hk,hj,ayy hl hm,auv hM hl hm]
   exact⟨_,akE (akE hM (hM.1 _ (List.getElem_mem hm))) (hM.1 _ (List.getElem_mem hl)),rfl⟩
  ·rw[aup M _ _ c,apy M _ _ c]
   exact⟨M,hM,rfl⟩
 rw[cond_false]
 obtain⟨l,l1,l2,l3⟩:=apz x calls (i,M.map xI,M)
 rw[l1,ak,akB l M (by omega) l3 hM,ak,SC l M (by omega) l3 hM,ak]
 simp only
 rw[iP rfl,cond_false]
 exact⟨_,OP l (0,M) hM,rfl⟩
theorem JX(x0:List bI)(o0:(okL G6) x0)(hb:(bkL ow) x0≤1048576):qZ x0=some true:=by
 have hl:x0.length≤1048576:=by have:=ava (bk:=ow) (λx=>by unfold ow bk1;omega) x0;omega
 have loop:∃e,tL x0 (0,[],[])=some e∧e=.inr ():=by
  refine kV (λ(s:Int×List (List UInt8)×List aG)=>x0.length-s.1.toNat) (λs=>∃(i:Nat) (M:List aG),s=((i:Int),M.map xI,M)∧i≤x0.length∧AY M) (λ(e:Unit⊕Unit)=>e=.inr ()) ?_ KK _ ⟨0,[],rfl,by omega,by simp,by simp⟩ (by have:=kP;simp only;omega)
  rintro s ⟨i,M,rfl,g1,g2⟩
  have h2:=g2.2
  simp only[jK]
  by_cases c:i<x0.length
  case neg =>
   right
   rw[bD (by omega),cond_false]
   exact⟨_,rfl,rfl⟩
  left
  obtain⟨a,a1,a2,a3⟩:=ay3 x0[i].A M h2
  obtain⟨b,b1,b2,b3⟩:=ay3 x0[i].B M h2
  obtain⟨M',h',j⟩:=auw x0[i] a b ⟨a2,a3⟩ ⟨b2,b3⟩ (i:Int) M g2 x0
  rw[bO (by omega),cond_true,dU c,ak,a1,ak,b1,ak,j,ak]
  simp only[jY,cond_false,Ob,Gg,ak,List.length_map]
  rw[iP rfl,cond_false,apu h',ak,amW h',ak,cu (by omega) (by omega),dF]
  exact⟨_,rfl,⟨i+1,M',rfl,by omega,h'⟩,by simp only;omega⟩
 obtain⟨e,e1,rfl⟩:=loop
 unfold qZ
 rw[e1,ayz]
 rfl
end Go.Proofs.YtohoggieaanllaaGreat
