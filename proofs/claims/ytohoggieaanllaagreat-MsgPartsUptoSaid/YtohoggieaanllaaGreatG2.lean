import Derived.Test.YtohoggieaanllaaGreatG1
set_option linter.all false
set_option linter.unusedSimpArgs false
namespace Go.Proofs.YtohoggieaanllaaGreat
theorem KY (s:aM) (h1:s.T.L.length≤100) (h2:s.S_.L.length≤100):kS s=some (s.ID,s.Epoch,s.T.L,s.S_.L):=by
 unfold kS
 rw [z8 h1,yI (by omega)]
theorem Rh {α β:Type} (a:List α) (q:α→Bool) (hl:a.length < 1000000) (f:Int→Option (Int⊕(β⊕Unit))) (u:Nat→β)
  (hin:∀ (i:Nat) (h:i < a.length),f (i:Int)=cond (q a[i]) (some (.inr (.inl (u i)))) (some (.inl ((i+1:Nat):Int)))) (hout:f (a.length:Int)=some (.inr (.inr ()))) :
  ∃ e,eG f KK 0=some e∧((a.any q=true∧∃ i,e=.inl (u i))∨(a.any q=false∧e=.inr ())):=by
 refine pO (λs=>(a.length - s.toNat)) (λs=>∃ i:Nat,s=(i:Int)∧i≤a.length∧a.any q=(a.drop i).any q) _ ?_ KK _ ⟨0,rfl,by omega,rfl⟩ (by have:=FI;omega)
 rintro s ⟨i,rfl,h1,h2⟩
 by_cases c:i < a.length
 ·rw [hin i c]
  rw [List.drop_eq_getElem_cons c,List.any_cons] at h2
  cases e:q a[i]
  ·left
   rw [e,Bool.false_or] at h2
   exact ⟨_,rfl,⟨i+1,rfl,by omega,h2⟩,by omega⟩
  ·right
   rw [e,Bool.true_or] at h2
   exact ⟨_,rfl,.inl ⟨h2,i,rfl⟩⟩
 ·right
  obtain rfl:i=a.length:=by omega
  rw [hout]
  rw [List.drop_of_length_le (Nat.le_refl _),List.any_nil] at h2
  exact ⟨_,rfl,.inr ⟨h2,rfl⟩⟩
theorem acG {α:Type} (eqv:α→α→Bool) (he:∀ x y,eqv x y=true↔x=y):∀ a b:List α,a.length=b.length→((a.zip b).any (λp=>!(eqv p.1 p.2))=false↔a=b)
 | [],[],_=>by simp
 | [],_::_,h=>by simp at h
 | _::_,[],h=>by simp at h
 | x::a,y::b,h=>by
  have ih:=acG eqv he a b (by simpa using h)
  rw [List.zip_cons_cons,List.any_cons,Bool.or_eq_false_iff,ih]
  simp only [Bool.not_eq_false',he]
  constructor
  ·rintro ⟨rfl,rfl⟩;rfl
  ·intro e;injection e with e1 e2;exact ⟨e1,e2⟩
theorem XJ {α:Type} [DecidableEq α] (a b:List α) (eqv:α→α→Bool) (he:∀ x y,eqv x y=true↔x=y) (hl:a.length < 1000000) (hab:a.length=b.length) (f:Int→Option (Int⊕(Unit⊕Unit)))
  (hf:∀ s3,f s3=cond (decide (s3 < (a.length:Int))) ((bW a s3).bind λ(x4:α)=>(bW b s3).bind λ(x5:α)=>cond (!(eqv x4 x5)) (some (.inr (.inl ()))) (some (.inl (IntKind.i64.wrap (s3+1))))) (some (.inr (.inr ())))) :
  ∃ e,eG f KK 0=some e∧mW e=decide (a≠b):=by
 have hz:(a.zip b).length=a.length:=by rw [List.length_zip];omega
 obtain ⟨e,e1,e2⟩:=Rh (a.zip b) (λp=>!(eqv p.1 p.2)) (by omega) f (λ_=>()) (λi h=>by
  have ha:i < a.length:=by omega
  have hb:i < b.length:=by omega
  rw [hf,bI (by omega),cond_true,fA ha,Option.bind_some,fA hb,Option.bind_some,fG (by omega) (by omega),fE,List.getElem_zip]) (by
  rw [hf,hz,aZ (by omega),cond_false])
 refine ⟨e,e1, ?_⟩
 have z:=acG eqv he a b hab
 rcases e2 with ⟨q,i,rfl⟩ | ⟨q,rfl⟩
 ·have:a≠b:=λh=>by rw [z.2 h] at q;cases q
  rw [bI this];rfl
 ·rw [aZ (by rw [z.1 q];simp)];rfl
theorem ZO (x y:au):(x.Key==y.Key&&(x.Value==y.Value&&true))=true↔x=y:=by
 obtain ⟨a,b⟩:=x;obtain ⟨c,d⟩:=y
 simp
theorem ZP (x y:ak):(x.Client==y.Client&&(x.Seq==y.Seq&&(x.Answer.Why==y.Answer.Why&&(x.Answer.Value==y.Answer.Value&&true))))=true↔x=y:=by
 obtain ⟨a,b,c,d⟩:=x;obtain ⟨e,f,g,h⟩:=y
 simp
instance:DecidableEq au:=λa b=>decidable_of_iff _ (ZO a b)
instance:DecidableEq ak:=λa b=>decidable_of_iff _ (ZP a b)
theorem ahL (a b:List au) (h:a.length < 1000000):fq a b=some (decide (a=b)):=by
 unfold fq
 by_cases c:a.length=b.length
 ·rw [acw (by omega),cond_false]
  obtain ⟨e,e1,e2⟩:=XJ a b _ ZO h c (eP a b) (λ_=>rfl)
  unfold iN
  rw [e1,Option.bind_some,e2]
  by_cases q:a=b<;>simp [q]
 ·rw [acv (by omega),aZ (λe=>c (by rw [e]))];rfl
theorem equalS (a b:List ak) (h:a.length < 1000000):fu a b=some (decide (a=b)):=by
 unfold fu
 by_cases c:a.length=b.length
 ·rw [acw (by omega),cond_false]
  obtain ⟨e,e1,e2⟩:=XJ a b _ ZP h c (eU a b) (λ_=>rfl)
  unfold iO
  rw [e1,Option.bind_some,e2]
  by_cases q:a=b<;>simp [q]
 ·rw [acv (by omega),aZ (λe=>c (by rw [e]))];rfl
theorem TR (y:ak):qX y=some (U0 y):=by
 unfold qX qw U0
 simp only [abI]
 by_cases a:y.Answer.Why=0<;>by_cases b:y.Answer.Why=4<;>by_cases c:y.Answer.Why=5<;>by_cases d:y.Answer.Why=6<;>by_cases e:y.Answer.Value.length≤16 <;>
  simp [a,b,c,d,e,show ((y.Answer.Value.length:Int)≤16)↔y.Answer.Value.length≤16 by omega]
theorem TT (L:List ak) (h:L.length < 1000000):eD L=some (L.any λy=>!U0 y):=by
 obtain ⟨e,e1,e2⟩:=Rh L (λy=>!U0 y) h (bV L) (λi=>(i:Int)) (λi hi=>by
  unfold bV yT
  rw [bI (by omega),cond_true,fA hi,Option.bind_some,TR,Option.bind_some,Option.bind_some,fG (by omega) (by omega),fE]) (by
  unfold bV
  rw [aZ (by omega),cond_false])
 unfold eD gD ig
 rw [e1,Option.bind_some]
 rcases e2 with ⟨q,i,rfl⟩ | ⟨q,rfl⟩
 ·rw [q]
  simp only [mW,Bg,cond_true,Option.bind_some]
  rw [bI (by omega)]
 ·rw [q];rfl
def ofS (l:List ak):aQ:=l.foldl vP rF
theorem ahM (l:List ak):GoodS (ofS l):=Fa l _ ⟨.inl rfl,.inl rfl,.inl rfl,.inl rfl⟩
theorem V_ (l:List ak) (h:l.length < 1000000000):kJ l=some (ofS l):=by
 have g0:GoodS rF:=⟨.inl rfl,.inl rfl,.inl rfl,.inl rfl⟩
 unfold kJ
 have key:sG l (0,rF)=some (l.foldl vP rF):=by
  refine qM (λi=>((i:Int),(l.take i).foldl vP rF)) l.length _ (λi hi=>?_) ?_ (by omega)
  ·obtain ⟨⟨b,e1,_⟩,_⟩:=BX l[i] _ (Fa (l.take i) _ g0)
   unfold gW
   simp only
   rw [bI (by omega),cond_true,fA hi,Option.bind_some,e1,Option.bind_some,fG (by omega) (by omega),fE,List.take_succ_eq_append_getElem hi,List.foldl_append]
   rfl
  ·unfold gW
   simp only
   rw [aZ (by omega),cond_false,List.take_length]
 have e:(0,rF)=((0:Int),(⟨(⟨(⟨0,0,(⟨0,([]:List UInt8)⟩:aA)⟩:ak),(⟨0,0,(⟨0,([]:List UInt8)⟩:aA)⟩:ak),(⟨0,0,(⟨0,([]:List UInt8)⟩:aA)⟩:ak),(⟨0,0,(⟨0,([]:List UInt8)⟩:aA)⟩:ak)⟩:A4 ak)⟩:aQ)):=rfl
 rw [← e,key]
 rfl
def z_ (x:aD):Prop:=0≤x.fB∧x.fB < 6∧1≤x.Epoch∧x.Epoch≤1099511627776∧UZ [] x.Pairs=x.Pairs∧iX (ofS x.gB)=x.gB∧(x.gB.any λy=>!U0 y)=false
instance (x:aD):Decidable (z_ x):=by unfold z_;infer_instance
theorem ahN (x:aD) (h1:x.Pairs.length < 1000000) (h2:x.gB.length < 1000000):zA x=some (decide (z_ x)):=by
 unfold zA xg
 by_cases a1:x.fB < 0
 ·rw [bI a1,aZ (show ¬ z_ x by rintro ⟨p,_⟩;omega)];rfl
 rw [aZ a1,cond_false]
 by_cases a2:x.fB≥6
 ·rw [bI a2,aZ (show ¬ z_ x by rintro ⟨_,p,_⟩;omega)];rfl
 rw [aZ a2,cond_false]
 by_cases a3:x.Epoch < 1
 ·rw [bI a3,aZ (show ¬ z_ x by rintro ⟨_,_,p,_⟩;omega)];rfl
 rw [aZ a3,cond_false]
 by_cases a4:x.Epoch > 1099511627776
 ·rw [bI a4,aZ (show ¬ z_ x by rintro ⟨_,_,_,p,_⟩;omega)];rfl
 rw [aZ a4,cond_false,Option.bind_some]
 simp only [mW,cond_false]
 have hT:(UZ [] x.Pairs).length≤8:=(XI _ _ ok0).2
 have hS:=JR (ofS x.gB)
 have e:I8 x=some ⟨⟨UZ [] x.Pairs⟩,ofS x.gB,x.fB,x.Epoch⟩:=by
  unfold I8
  rw [ahI _ (by omega),Option.bind_some,V_ _ (by omega)]
  rfl
 have j1:qY ⟨⟨UZ [] x.Pairs⟩,ofS x.gB,x.fB,x.Epoch⟩ x=some (decide (UZ [] x.Pairs=x.Pairs∧iX (ofS x.gB)=x.gB)):=by
  unfold qY qp
  rw [z8 (by simp only;omega),Option.bind_some,ahL _ _ (by simp only;omega),Option.bind_some,adO,Option.bind_some,equalS _ _ (by simp only;omega),Option.bind_some]
  by_cases a:UZ [] x.Pairs=x.Pairs<;>by_cases b:iX (ofS x.gB)=x.gB<;>simp [a,b]
 rw [e,Option.bind_some,j1,Option.bind_some,TT _ h2,Option.bind_some]
 by_cases b1:UZ [] x.Pairs=x.Pairs
 case neg=>rw [aZ (show ¬ (UZ [] x.Pairs=x.Pairs∧_) by rintro ⟨p,_⟩;exact b1 p),aZ (show ¬ z_ x by rintro ⟨_,_,_,_,p,_⟩;exact b1 p)];rfl
 by_cases b2:iX (ofS x.gB)=x.gB
 case neg=>rw [aZ (show ¬ (UZ [] x.Pairs=x.Pairs∧_) by rintro ⟨_,p⟩;exact b2 p),aZ (show ¬ z_ x by rintro ⟨_,_,_,_,_,p,_⟩;exact b2 p)];rfl
 rw [bI (show (UZ [] x.Pairs=x.Pairs∧_) from ⟨b1,b2⟩),cond_true]
 cases b3:(x.gB.any λy=>!U0 y)
 ·rw [bI (show z_ x from ⟨by omega,by omega,by omega,by omega,b1,b2,b3⟩)];rfl
 ·rw [aZ (show ¬ z_ x by rintro ⟨_,_,_,_,_,_,p⟩;rw [b3] at p;cases p)];rfl
end Go.Proofs.YtohoggieaanllaaGreat
