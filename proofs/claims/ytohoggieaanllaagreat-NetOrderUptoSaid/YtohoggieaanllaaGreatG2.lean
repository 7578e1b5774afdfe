import Derived.Test.YtohoggieaanllaaGreatG1
set_option linter.all false
set_option linter.unusedSimpArgs false
namespace Go.Proofs.YtohoggieaanllaaGreat
theorem aeQ (s:aT) (h1:s.T.L.length≤100) (h2:s.S_.L.length≤100):uP s=some ⟨s.ID,s.Epoch,s.T.L,s.S_.L⟩:=by
 unfold uP
 rw [Ci h1,zN (by omega)]
theorem Q9 (s:aT) (h1:s.T.L.length≤100) (h2:s.S_.L.length≤100):mX s=some (s.ID,s.Epoch,s.T.L,s.S_.L):=by
 unfold mX
 rw [Ci h1,zN (by omega)]
theorem aqo (x:aA) (h1:x.Pairs.length < 1000000000) (h2:x.dX.length < 1000000000):∃ s,F6 x=some s∧OkS s∧s.Table.l=ofP [] x.Pairs∧s.ID=x.eY∧s.Epoch=x.Epoch∧mD x=some (vJ s):=by
 obtain ⟨S,e1,e2,e3⟩:=ag7 x.dX h2
 refine ⟨⟨⟨ofP [] x.Pairs⟩,S,x.eY,x.Epoch⟩, ?_,⟨aaE _ _ ok0,e2⟩,rfl,rfl,rfl, ?_⟩
 ·unfold F6
  rw [ahc _ h1,Option.bind_some,e1]
  rfl
 ·unfold mD
  rw [adk _ h1,Option.bind_some,e3]
  rfl
theorem Ls {α β:Type} (a:List α) (q:α→Bool) (hl:a.length < 1000000) (f:Int→Option (Int⊕(β⊕Unit))) (u:Nat→β)
  (hin:∀ (i:Nat) (h:i < a.length),f (i:Int)=cond (q a[i]) (some (.inr (.inl (u i)))) (some (.inl ((i+1:Nat):Int)))) (hout:f (a.length:Int)=some (.inr (.inr ()))) :
  ∃ e,bT f KK 0=some e∧((a.any q=true∧∃ i,e=.inl (u i))∨(a.any q=false∧e=.inr ())):=by
 refine mW (λs=>(a.length - s.toNat)) (λs=>∃ i:Nat,s=(i:Int)∧i≤a.length∧a.any q=(a.drop i).any q) _ ?_ KK _ ⟨0,rfl,by omega,rfl⟩ (by have:=rO;omega)
 rintro s ⟨i,rfl,h1,h2⟩
 by_cases c:i < a.length
 ·rw [hin i c]
  rw [List.drop_eq_getElem_cons c,List.any_cons] at h2
  cases e:q a[i]
  ·left
   rw [e,Bool.false_or] at h2
   exact ⟨_,rfl,⟨i+1,rfl,by omega,h2⟩,by omega⟩
  ·right
   rw [e,Bool.true_or] at h2
   exact ⟨_,rfl,.inl ⟨h2,i,rfl⟩⟩
 ·right
  obtain rfl:i=a.length:=by omega
  rw [hout]
  rw [List.drop_of_length_le (Nat.le_refl _),List.any_nil] at h2
  exact ⟨_,rfl,.inr ⟨h2,rfl⟩⟩
theorem akp {α:Type} (eqv:α→α→Bool) (he:∀ x y,eqv x y=true↔x=y):∀ a b:List α,a.length=b.length→((a.zip b).any (λp=>!(eqv p.1 p.2))=false↔a=b)
 | [],[],_=>by simp
 | [],_::_,h=>by simp at h
 | _::_,[],h=>by simp at h
 | x::a,y::b,h=>by
  have ih:=akp eqv he a b (by simpa using h)
  rw [List.zip_cons_cons,List.any_cons,Bool.or_eq_false_iff,ih]
  simp only [Bool.not_eq_false',he]
  constructor
  ·rintro ⟨rfl,rfl⟩;rfl
  ·intro e;injection e with e1 e2;exact ⟨e1,e2⟩
theorem Wd {α:Type} [DecidableEq α] (a b:List α) (eqv:α→α→Bool) (he:∀ x y,eqv x y=true↔x=y) (hl:a.length < 1000000) (hab:a.length=b.length) (f:Int→Option (Int⊕(Unit⊕Unit)))
  (hf:∀ s3,f s3=cond (decide (s3 < (a.length:Int))) ((bO a s3).bind λ(x4:α)=>(bO b s3).bind λ(x5:α)=>cond (!(eqv x4 x5)) (some (.inr (.inl ()))) (some (.inl (IntKind.i64.wrap (s3+1))))) (some (.inr (.inr ())))) :
  ∃ e,bT f KK 0=some e∧jI e=decide (a≠b):=by
 have hz:(a.zip b).length=a.length:=by rw [List.length_zip];omega
 obtain ⟨e,e1,e2⟩:=Ls (a.zip b) (λp=>!(eqv p.1 p.2)) (by omega) f (λ_=>()) (λi h=>by
  have ha:i < a.length:=by omega
  have hb:i < b.length:=by omega
  rw [hf,aZ (by omega),cond_true,dI ha,Option.bind_some,dI hb,Option.bind_some,bU (by omega) (by omega),cO,List.getElem_zip]) (by
  rw [hf,hz,aV (by omega),cond_false])
 refine ⟨e,e1, ?_⟩
 have z:=akp eqv he a b hab
 rcases e2 with ⟨q,i,rfl⟩ | ⟨q,rfl⟩
 ·have:a≠b:=λh=>by rw [z.2 h] at q;cases q
  rw [aZ this];rfl
 ·rw [aV (by rw [z.1 q];simp)];rfl
theorem aaG (x y:au):(x.Key==y.Key&&(x.Value==y.Value&&true))=true↔x=y:=by
 obtain ⟨a,b⟩:=x;obtain ⟨c,d⟩:=y
 simp
theorem aaH (x y:ak):(x.Client==y.Client&&(x.Seq==y.Seq&&(x.Answer.Why==y.Answer.Why&&(x.Answer.Value==y.Answer.Value&&true))))=true↔x=y:=by
 obtain ⟨a,b,c,d⟩:=x;obtain ⟨e,f,g,h⟩:=y
 simp
instance:DecidableEq au:=λa b=>decidable_of_iff _ (aaG a b)
instance:DecidableEq ak:=λa b=>decidable_of_iff _ (aaH a b)
theorem aqp (a b:List au) (h:a.length < 1000000):fI a b=some (decide (a=b)):=by
 unfold fI
 by_cases c:a.length=b.length
 ·rw [gL (by omega),cond_false]
  obtain ⟨e,e1,e2⟩:=Wd a b _ aaG h c (fE a b) (λ_=>rfl)
  unfold jD
  rw [e1,Option.bind_some,e2]
  by_cases q:a=b<;>simp [q]
 ·rw [qZ (by omega),aV (λe=>c (by rw [e]))];rfl
theorem equalS (a b:List ak) (h:a.length < 1000000):fJ a b=some (decide (a=b)):=by
 unfold fJ
 by_cases c:a.length=b.length
 ·rw [gL (by omega),cond_false]
  obtain ⟨e,e1,e2⟩:=Wd a b _ aaH h c (fF a b) (λ_=>rfl)
  unfold jE
  rw [e1,Option.bind_some,e2]
  by_cases q:a=b<;>simp [q]
 ·rw [qZ (by omega),aV (λe=>c (by rw [e]))];rfl
theorem ave (a b:aA) (h1:a.Pairs.length < 1000000) (h2:a.dX.length < 1000000):pF a b=some (decide (a.eY=b.eY∧a.Epoch=b.Epoch∧a.Pairs=b.Pairs∧a.dX=b.dX)):=by
 unfold pF yH
 by_cases c1:a.eY=b.eY
 case neg=>rw [qZ c1,aV (λe=>c1 e.1)];rfl
 rw [gL c1,cond_false]
 by_cases c2:a.Epoch=b.Epoch
 case neg=>rw [qZ c2,aV (λe=>c2 e.2.1)];rfl
 rw [gL c2,cond_false]
 by_cases c3:a.Pairs.length=b.Pairs.length
 case neg=>rw [qZ (by omega),aV (λe=>c3 (by rw [e.2.2.1]))];rfl
 rw [gL (by omega),cond_false]
 by_cases c4:a.dX.length=b.dX.length
 case neg=>rw [qZ (by omega),aV (λe=>c4 (by rw [e.2.2.2]))];rfl
 rw [gL (by omega),cond_false,Option.bind_some]
 simp only [jI,cond_false]
 obtain ⟨e,e1,e2⟩:=Wd a.Pairs b.Pairs _ aaG h1 c3 (pq a b) (λ_=>rfl)
 obtain ⟨e',e1',e2'⟩:=Wd a.dX b.dX _ aaH h2 c4 (pE a b) (λ_=>rfl)
 unfold D5 D6
 rw [e1,Option.bind_some]
 show cond (jI e) _ _=_
 rw [e2,e1',Option.bind_some]
 show cond _ _ (cond (jI e') _ _)=_
 rw [e2']
 by_cases p:a.Pairs=b.Pairs<;>by_cases q:a.dX=b.dX<;>simp [p,q,c1,c2]
theorem aaI (y:ak):uX y=some (Yc y):=by
 unfold uX tZ Yc
 simp only [ahb]
 by_cases a:y.Answer.Why=0<;>by_cases b:y.Answer.Why=4<;>by_cases c:y.Answer.Why=5<;>by_cases d:y.Answer.Why=6<;>by_cases e:y.Answer.Value.length≤16 <;>
  simp [a,b,c,d,e,show ((y.Answer.Value.length:Int)≤16)↔y.Answer.Value.length≤16 by omega]
theorem Pn (L:List ak) (h:L.length < 1000000):fB L=some (L.any λy=>!Yc y):=by
 obtain ⟨e,e1,e2⟩:=Ls L (λy=>!Yc y) h (dA L) (λi=>(i:Int)) (λi hi=>by
  unfold dA Cz
  rw [aZ (by omega),cond_true,dI hi,Option.bind_some,aaI,Option.bind_some,Option.bind_some,bU (by omega) (by omega),cO]) (by
  unfold dA
  rw [aV (by omega),cond_false])
 unfold fB gT iK
 rw [e1,Option.bind_some]
 rcases e2 with ⟨q,i,rfl⟩ | ⟨q,rfl⟩
 ·rw [q]
  simp only [jI,CV,cond_true,Option.bind_some]
  rw [aZ (by omega)]
 ·rw [q];rfl
def ofS (l:List ak):aW:=l.foldl zO vI
theorem aqr (l:List ak):GoodS (ofS l):=Kz l _ ⟨.inl rfl,.inl rfl,.inl rfl,.inl rfl⟩
theorem adn (l:List ak) (h:l.length < 1000000000):mM l=some (ofS l):=by
 have g0:GoodS vI:=⟨.inl rfl,.inl rfl,.inl rfl,.inl rfl⟩
 unfold mM
 have key:wH l (0,vI)=some (l.foldl zO vI):=by
  refine qK (λi=>((i:Int),(l.take i).foldl zO vI)) l.length _ (λi hi=>?_) ?_ (by omega)
  ·obtain ⟨⟨b,e1,_⟩,_⟩:=Gv l[i] _ (Kz (l.take i) _ g0)
   unfold iB
   simp only
   rw [aZ (by omega),cond_true,dI hi,Option.bind_some,e1,Option.bind_some,bU (by omega) (by omega),cO,List.take_succ_eq_append_getElem hi,List.foldl_append]
   rfl
  ·unfold iB
   simp only
   rw [aV (by omega),cond_false,List.take_length]
 have e:(0,vI)=((0:Int),(⟨(⟨(⟨0,0,(⟨0,([]:List UInt8)⟩:aD)⟩:ak),(⟨0,0,(⟨0,([]:List UInt8)⟩:aD)⟩:ak),(⟨0,0,(⟨0,([]:List UInt8)⟩:aD)⟩:ak),(⟨0,0,(⟨0,([]:List UInt8)⟩:aD)⟩:ak)⟩:A4 ak)⟩:aW)):=rfl
 rw [← e,key]
 rfl
def Cj (x:aA):Prop:=0≤x.eY∧x.eY < 6∧1≤x.Epoch∧x.Epoch≤1099511627776∧ofP [] x.Pairs=x.Pairs∧iy (ofS x.dX)=x.dX∧(x.dX.any λy=>!Yc y)=false
instance (x:aA):Decidable (Cj x):=by unfold Cj;infer_instance
theorem ahe (x:aA) (h1:x.Pairs.length < 1000000) (h2:x.dX.length < 1000000):uZ x=some (decide (Cj x)):=by
 unfold uZ uY
 by_cases a1:x.eY < 0
 ·rw [aZ a1,aV (show ¬ Cj x by rintro ⟨p,_⟩;omega)];rfl
 rw [aV a1,cond_false]
 by_cases a2:x.eY≥6
 ·rw [aZ a2,aV (show ¬ Cj x by rintro ⟨_,p,_⟩;omega)];rfl
 rw [aV a2,cond_false]
 by_cases a3:x.Epoch < 1
 ·rw [aZ a3,aV (show ¬ Cj x by rintro ⟨_,_,p,_⟩;omega)];rfl
 rw [aV a3,cond_false]
 by_cases a4:x.Epoch > 1099511627776
 ·rw [aZ a4,aV (show ¬ Cj x by rintro ⟨_,_,_,p,_⟩;omega)];rfl
 rw [aV a4,cond_false,Option.bind_some]
 simp only [jI,cond_false]
 have hT:(ofP [] x.Pairs).length≤8:=(aaE _ _ ok0).2
 have hS:=Ll (ofS x.dX)
 have e:F6 x=some ⟨⟨ofP [] x.Pairs⟩,ofS x.dX,x.eY,x.Epoch⟩:=by
  unfold F6
  rw [ahc _ (by omega),Option.bind_some,adn _ (by omega)]
  rfl
 have j1:nH ⟨⟨ofP [] x.Pairs⟩,ofS x.dX,x.eY,x.Epoch⟩ x=some (decide (ofP [] x.Pairs=x.Pairs∧iy (ofS x.dX)=x.dX)):=by
  unfold nH pG
  rw [Ci (by simp only;omega),Option.bind_some,aqp _ _ (by simp only;omega),Option.bind_some,adl,Option.bind_some,equalS _ _ (by simp only;omega),Option.bind_some]
  by_cases a:ofP [] x.Pairs=x.Pairs<;>by_cases b:iy (ofS x.dX)=x.dX<;>simp [a,b]
 rw [e,Option.bind_some,j1,Option.bind_some,Pn _ h2,Option.bind_some]
 by_cases b1:ofP [] x.Pairs=x.Pairs
 case neg=>rw [aV (show ¬ (ofP [] x.Pairs=x.Pairs∧_) by rintro ⟨p,_⟩;exact b1 p),aV (show ¬ Cj x by rintro ⟨_,_,_,_,p,_⟩;exact b1 p)];rfl
 by_cases b2:iy (ofS x.dX)=x.dX
 case neg=>rw [aV (show ¬ (ofP [] x.Pairs=x.Pairs∧_) by rintro ⟨_,p⟩;exact b2 p),aV (show ¬ Cj x by rintro ⟨_,_,_,_,_,p,_⟩;exact b2 p)];rfl
 rw [aZ (show (ofP [] x.Pairs=x.Pairs∧_) from ⟨b1,b2⟩),cond_true]
 cases b3:(x.dX.any λy=>!Yc y)
 ·rw [aZ (show Cj x from ⟨by omega,by omega,by omega,by omega,b1,b2,b3⟩)];rfl
 ·rw [aV (show ¬ Cj x by rintro ⟨_,_,_,_,_,_,p⟩;rw [b3] at p;cases p)];rfl
end Go.Proofs.YtohoggieaanllaaGreat
