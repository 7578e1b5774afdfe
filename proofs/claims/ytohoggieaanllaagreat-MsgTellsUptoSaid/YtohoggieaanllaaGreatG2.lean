import Derived.Test.YtohoggieaanllaaGreatG1
set_option linter.all false
set_option linter.unusedSimpArgs false
namespace Go.Proofs.YtohoggieaanllaaGreat
theorem afr (s:aS) (h1:s.T.L.length≤100) (h2:s.S_.L.length≤100):vS s=some ⟨s.ID,s.Epoch,s.T.L,s.S_.L⟩:=by
 unfold vS
 rw [CY h1,Ad (by omega)]
theorem RF (s:aS) (h1:s.T.L.length≤100) (h2:s.S_.L.length≤100):nV s=some (s.ID,s.Epoch,s.T.L,s.S_.L):=by
 unfold nV
 rw [CY h1,Ad (by omega)]
theorem aqt (x:aC) (h1:x.Pairs.length < 1000000000) (h2:x.dN.length < 1000000000):∃ s,GJ x=some s∧OkS s∧s.Table.l=ofP [] x.Pairs∧s.ID=x.dR∧s.Epoch=x.Epoch∧nG x=some (wJ s):=by
 obtain ⟨S,e1,e2,e3⟩:=ahK x.dN h2
 refine ⟨⟨⟨ofP [] x.Pairs⟩,S,x.dR,x.Epoch⟩, ?_,⟨abh _ _ ok0,e2⟩,rfl,rfl,rfl, ?_⟩
 ·unfold GJ
  rw [ahP _ h1,Option.bind_some,e1]
  rfl
 ·unfold nG
  rw [adV _ h1,Option.bind_some,e3]
  rfl
theorem Mg {α β:Type} (a:List α) (q:α→Bool) (hl:a.length < 1000000) (f:Int→Option (Int⊕(β⊕Unit))) (u:Nat→β)
  (hin:∀ (i:Nat) (h:i < a.length),f (i:Int)=cond (q a[i]) (some (.inr (.inl (u i)))) (some (.inl ((i+1:Nat):Int)))) (hout:f (a.length:Int)=some (.inr (.inr ()))) :
  ∃ e,bQ f KK 0=some e∧((a.any q=true∧∃ i,e=.inl (u i))∨(a.any q=false∧e=.inr ())):=by
 refine kX (λs=>(a.length - s.toNat)) (λs=>∃ i:Nat,s=(i:Int)∧i≤a.length∧a.any q=(a.drop i).any q) _ ?_ KK _ ⟨0,rfl,by omega,rfl⟩ (by have:=kr;omega)
 rintro s ⟨i,rfl,h1,h2⟩
 by_cases c:i < a.length
 ·rw [hin i c]
  rw [List.drop_eq_getElem_cons c,List.any_cons] at h2
  cases e:q a[i]
  ·left
   rw [e,Bool.false_or] at h2
   exact ⟨_,rfl,⟨i+1,rfl,by omega,h2⟩,by omega⟩
  ·right
   rw [e,Bool.true_or] at h2
   exact ⟨_,rfl,.inl ⟨h2,i,rfl⟩⟩
 ·right
  obtain rfl:i=a.length:=by omega
  rw [hout]
  rw [List.drop_of_length_le (Nat.le_refl _),List.any_nil] at h2
  exact ⟨_,rfl,.inr ⟨h2,rfl⟩⟩
theorem akL {α:Type} (eqv:α→α→Bool) (he:∀ x y,eqv x y=true↔x=y):∀ a b:List α,a.length=b.length→((a.zip b).any (λp=>!(eqv p.1 p.2))=false↔a=b)
 | [],[],_=>by simp
 | [],_::_,h=>by simp at h
 | _::_,[],h=>by simp at h
 | x::a,y::b,h=>by
  have ih:=akL eqv he a b (by simpa using h)
  rw [List.zip_cons_cons,List.any_cons,Bool.or_eq_false_iff,ih]
  simp only [Bool.not_eq_false',he]
  constructor
  ·rintro ⟨rfl,rfl⟩;rfl
  ·intro e;injection e with e1 e2;exact ⟨e1,e2⟩
theorem S9 {α:Type} [DecidableEq α] (a b:List α) (eqv:α→α→Bool) (he:∀ x y,eqv x y=true↔x=y) (hl:a.length < 1000000) (hab:a.length=b.length) (f:Int→Option (Int⊕(Unit⊕Unit)))
  (hf:∀ s3,f s3=cond (decide (s3 < (a.length:Int))) ((bV a s3).bind λ(x4:α)=>(bV b s3).bind λ(x5:α)=>cond (!(eqv x4 x5)) (some (.inr (.inl ()))) (some (.inl (IntKind.i64.wrap (s3+1))))) (some (.inr (.inr ())))) :
  ∃ e,bQ f KK 0=some e∧jO e=decide (a≠b):=by
 have hz:(a.zip b).length=a.length:=by rw [List.length_zip];omega
 obtain ⟨e,e1,e2⟩:=Mg (a.zip b) (λp=>!(eqv p.1 p.2)) (by omega) f (λ_=>()) (λi h=>by
  have ha:i < a.length:=by omega
  have hb:i < b.length:=by omega
  rw [hf,bf (by omega),cond_true,dP ha,Option.bind_some,dP hb,Option.bind_some,bM (by omega) (by omega),dA,List.getElem_zip]) (by
  rw [hf,hz,aT (by omega),cond_false])
 refine ⟨e,e1, ?_⟩
 have z:=akL eqv he a b hab
 rcases e2 with ⟨q,i,rfl⟩ | ⟨q,rfl⟩
 ·have:a≠b:=λh=>by rw [z.2 h] at q;cases q
  rw [bf this];rfl
 ·rw [aT (by rw [z.1 q];simp)];rfl
theorem abk (x y:av):(x.Key==y.Key&&(x.Value==y.Value&&true))=true↔x=y:=by
 obtain ⟨a,b⟩:=x;obtain ⟨c,d⟩:=y
 simp
theorem abl (x y:au):(x.Client==y.Client&&(x.Seq==y.Seq&&(x.Answer.Why==y.Answer.Why&&(x.Answer.Value==y.Answer.Value&&true))))=true↔x=y:=by
 obtain ⟨a,b,c,d⟩:=x;obtain ⟨e,f,g,h⟩:=y
 simp
instance:DecidableEq av:=λa b=>decidable_of_iff _ (abk a b)
instance:DecidableEq au:=λa b=>decidable_of_iff _ (abl a b)
theorem ajY (a b:List av) (h:a.length < 1000000):fV a b=some (decide (a=b)):=by
 unfold fV
 by_cases c:a.length=b.length
 ·rw [gX (by omega),cond_false]
  obtain ⟨e,e1,e2⟩:=S9 a b _ abk h c (fP a b) (λ_=>rfl)
  unfold jW
  rw [e1,Option.bind_some,e2]
  by_cases q:a=b<;>simp [q]
 ·rw [mD (by omega),aT (λe=>c (by rw [e]))];rfl
theorem equalS (a b:List au) (h:a.length < 1000000):fZ a b=some (decide (a=b)):=by
 unfold fZ
 by_cases c:a.length=b.length
 ·rw [gX (by omega),cond_false]
  obtain ⟨e,e1,e2⟩:=S9 a b _ abl h c (fQ a b) (λ_=>rfl)
  unfold jX
  rw [e1,Option.bind_some,e2]
  by_cases q:a=b<;>simp [q]
 ·rw [mD (by omega),aT (λe=>c (by rw [e]))];rfl
theorem au7 (a b:aC) (h1:a.Pairs.length < 1000000) (h2:a.dN.length < 1000000):qI a b=some (decide (a.dR=b.dR∧a.Epoch=b.Epoch∧a.Pairs=b.Pairs∧a.dN=b.dN)):=by
 unfold qI za
 by_cases c1:a.dR=b.dR
 case neg=>rw [mD c1,aT (λe=>c1 e.1)];rfl
 rw [gX c1,cond_false]
 by_cases c2:a.Epoch=b.Epoch
 case neg=>rw [mD c2,aT (λe=>c2 e.2.1)];rfl
 rw [gX c2,cond_false]
 by_cases c3:a.Pairs.length=b.Pairs.length
 case neg=>rw [mD (by omega),aT (λe=>c3 (by rw [e.2.2.1]))];rfl
 rw [gX (by omega),cond_false]
 by_cases c4:a.dN.length=b.dN.length
 case neg=>rw [mD (by omega),aT (λe=>c4 (by rw [e.2.2.2]))];rfl
 rw [gX (by omega),cond_false,Option.bind_some]
 simp only [jO,cond_false]
 obtain ⟨e,e1,e2⟩:=S9 a.Pairs b.Pairs _ abk h1 c3 (qG a b) (λ_=>rfl)
 obtain ⟨e',e1',e2'⟩:=S9 a.dN b.dN _ abl h2 c4 (qH a b) (λ_=>rfl)
 unfold Ey Ez
 rw [e1,Option.bind_some]
 show cond (jO e) _ _=_
 rw [e2,e1',Option.bind_some]
 show cond _ _ (cond (jO e') _ _)=_
 rw [e2']
 by_cases p:a.Pairs=b.Pairs<;>by_cases q:a.dN=b.dN<;>simp [p,q,c1,c2]
theorem abm (y:au):vZ y=some (YV y):=by
 unfold vZ vk YV
 simp only [ahO]
 by_cases a:y.Answer.Why=0<;>by_cases b:y.Answer.Why=4<;>by_cases c:y.Answer.Why=5<;>by_cases d:y.Answer.Why=6<;>by_cases e:y.Answer.Value.length≤16 <;>
  simp [a,b,c,d,e,show ((y.Answer.Value.length:Int)≤16)↔y.Answer.Value.length≤16 by omega]
theorem PW (L:List au) (h:L.length < 1000000):fI L=some (L.any λy=>!YV y):=by
 obtain ⟨e,e1,e2⟩:=Mg L (λy=>!YV y) h (dK L) (λi=>(i:Int)) (λi hi=>by
  unfold dK Dk
  rw [bf (by omega),cond_true,dP hi,Option.bind_some,abm,Option.bind_some,Option.bind_some,bM (by omega) (by omega),dA]) (by
  unfold dK
  rw [aT (by omega),cond_false])
 unfold fI iy iY
 rw [e1,Option.bind_some]
 rcases e2 with ⟨q,i,rfl⟩ | ⟨q,rfl⟩
 ·rw [q]
  simp only [jO,zA,cond_true,Option.bind_some]
  rw [bf (by omega)]
 ·rw [q];rfl
def ofS (l:List au):aW:=l.foldl Ae wI
theorem aqu (l:List au):GoodS (ofS l):=K8 l _ ⟨.inl rfl,.inl rfl,.inl rfl,.inl rfl⟩
theorem adX (l:List au) (h:l.length < 1000000000):nN l=some (ofS l):=by
 have g0:GoodS wI:=⟨.inl rfl,.inl rfl,.inl rfl,.inl rfl⟩
 unfold nN
 have key:xC l (0,wI)=some (l.foldl Ae wI):=by
  refine ng (λi=>((i:Int),(l.take i).foldl Ae wI)) l.length _ (λi hi=>?_) ?_ (by omega)
  ·obtain ⟨⟨b,e1,_⟩,_⟩:=Hg l[i] _ (K8 (l.take i) _ g0)
   unfold iQ
   simp only
   rw [bf (by omega),cond_true,dP hi,Option.bind_some,e1,Option.bind_some,bM (by omega) (by omega),dA,List.take_succ_eq_append_getElem hi,List.foldl_append]
   rfl
  ·unfold iQ
   simp only
   rw [aT (by omega),cond_false,List.take_length]
 have e:(0,wI)=((0:Int),(⟨(⟨(⟨0,0,(⟨0,([]:List UInt8)⟩:aB)⟩:au),(⟨0,0,(⟨0,([]:List UInt8)⟩:aB)⟩:au),(⟨0,0,(⟨0,([]:List UInt8)⟩:aB)⟩:au),(⟨0,0,(⟨0,([]:List UInt8)⟩:aB)⟩:au)⟩:A4 au)⟩:aW)):=rfl
 rw [← e,key]
 rfl
def CZ (x:aC):Prop:=0≤x.dR∧x.dR < 6∧1≤x.Epoch∧x.Epoch≤1099511627776∧ofP [] x.Pairs=x.Pairs∧iP (ofS x.dN)=x.dN∧(x.dN.any λy=>!YV y)=false
instance (x:aC):Decidable (CZ x):=by unfold CZ;infer_instance
theorem ahR (x:aC) (h1:x.Pairs.length < 1000000) (h2:x.dN.length < 1000000):wm x=some (decide (CZ x)):=by
 unfold wm wh
 by_cases a1:x.dR < 0
 ·rw [bf a1,aT (show ¬ CZ x by rintro ⟨p,_⟩;omega)];rfl
 rw [aT a1,cond_false]
 by_cases a2:x.dR≥6
 ·rw [bf a2,aT (show ¬ CZ x by rintro ⟨_,p,_⟩;omega)];rfl
 rw [aT a2,cond_false]
 by_cases a3:x.Epoch < 1
 ·rw [bf a3,aT (show ¬ CZ x by rintro ⟨_,_,p,_⟩;omega)];rfl
 rw [aT a3,cond_false]
 by_cases a4:x.Epoch > 1099511627776
 ·rw [bf a4,aT (show ¬ CZ x by rintro ⟨_,_,_,p,_⟩;omega)];rfl
 rw [aT a4,cond_false,Option.bind_some]
 simp only [jO,cond_false]
 have hT:(ofP [] x.Pairs).length≤8:=(abh _ _ ok0).2
 have hS:=Md (ofS x.dN)
 have e:GJ x=some ⟨⟨ofP [] x.Pairs⟩,ofS x.dN,x.dR,x.Epoch⟩:=by
  unfold GJ
  rw [ahP _ (by omega),Option.bind_some,adX _ (by omega)]
  rfl
 have j1:oz ⟨⟨ofP [] x.Pairs⟩,ofS x.dN,x.dR,x.Epoch⟩ x=some (decide (ofP [] x.Pairs=x.Pairs∧iP (ofS x.dN)=x.dN)):=by
  unfold oz qK
  rw [CY (by simp only;omega),Option.bind_some,ajY _ _ (by simp only;omega),Option.bind_some,adW,Option.bind_some,equalS _ _ (by simp only;omega),Option.bind_some]
  by_cases a:ofP [] x.Pairs=x.Pairs<;>by_cases b:iP (ofS x.dN)=x.dN<;>simp [a,b]
 rw [e,Option.bind_some,j1,Option.bind_some,PW _ h2,Option.bind_some]
 by_cases b1:ofP [] x.Pairs=x.Pairs
 case neg=>rw [aT (show ¬ (ofP [] x.Pairs=x.Pairs∧_) by rintro ⟨p,_⟩;exact b1 p),aT (show ¬ CZ x by rintro ⟨_,_,_,_,p,_⟩;exact b1 p)];rfl
 by_cases b2:iP (ofS x.dN)=x.dN
 case neg=>rw [aT (show ¬ (ofP [] x.Pairs=x.Pairs∧_) by rintro ⟨_,p⟩;exact b2 p),aT (show ¬ CZ x by rintro ⟨_,_,_,_,_,p,_⟩;exact b2 p)];rfl
 rw [bf (show (ofP [] x.Pairs=x.Pairs∧_) from ⟨b1,b2⟩),cond_true]
 cases b3:(x.dN.any λy=>!YV y)
 ·rw [bf (show CZ x from ⟨by omega,by omega,by omega,by omega,b1,b2,b3⟩)];rfl
 ·rw [aT (show ¬ CZ x by rintro ⟨_,_,_,_,_,_,p⟩;rw [b3] at p;cases p)];rfl
end Go.Proofs.YtohoggieaanllaaGreat
