import Derived.Test.YtohoggieaanllaaGreatG3
set_option linter.all false
set_option linter.unusedSimpArgs false
set_option maxRecDepth 100000
namespace Go.Proofs.YtohoggieaanllaaGreat
theorem au8 (a b:Int):nG ⟨a,b,[],[]⟩=some (wJ ⟨⟨[]⟩,wI,a,b⟩):=by
 unfold nG
 rw [adV _ (by simp)]
 obtain ⟨S,e1,_,e3⟩:=ahK [] (by simp)
 have e1':nN []=some wI:=by rw [adX _ (by simp)];rfl
 rw [e1'] at e1
 rw [← Option.some.inj e1] at e3
 rw [e3]
 rfl
theorem aj4 (k epoch:Int) (l:List dH) (eX:Int):∃ x,Gm k epoch l eX=some x∧x.Pairs.length≤9∧x.dN.length≤9:=by
 obtain ⟨x1,h1⟩:=dO k 6 (by omega) (by omega)
 obtain ⟨x2,h2⟩:=dO epoch 6 (by omega) (by omega)
 have k6:((6:Nat):Int)=6:=rfl
 rw [k6] at h1 h2
 have hz:OkI ⟨⟨[]⟩,wI,x1,IntKind.i64.wrap (1+x2)⟩:=⟨⟨ok0,⟨.inl rfl,.inl rfl,.inl rfl,.inl rfl⟩⟩,(λp hp=>by simp at hp),λy hy=>by simp [iP,wI,A4.RX,PU] at hy⟩
 have f6:=au8 x1 (IntKind.i64.wrap (1+x2))
 unfold Gm
 rw [h1,Option.bind_some,h2,Option.bind_some,f6,Option.bind_some]
 have loop:∃ e,OH l eX (0,wJ ⟨⟨[]⟩,wI,x1,IntKind.i64.wrap (1+x2)⟩)=some e∧∃ s,OkI s∧e=wJ s:=by
  refine kX (λ(s:Int×aS)=>12 - s.1.toNat) (λs=>∃ (i:Nat) (t:dM),s=((i:Int),wJ t)∧i≤12∧OkI t) _ ?_ KK _ ⟨0,_,rfl,by omega,hz⟩ (by have:=kr;simp only;omega)
  rintro s ⟨i,t,rfl,g1,g2⟩
  simp only [yN,IL]
  by_cases c:i < l.length
  case neg =>
   right
   rw [aT (by omega),cond_false]
   exact ⟨_,rfl,t,g2,rfl⟩
  by_cases c2:i < 12
  case neg =>
   right
   rw [bf (by omega),cond_true,aT (by omega),cond_false]
   exact ⟨_,rfl,t,g2,rfl⟩
  left
  rw [bf (by omega),cond_true,bf (by omega),cond_true,Option.bind_some]
  simp only [jO,cond_true]
  obtain ⟨y,hy⟩:=dO l[i].Kind 3 (by omega) (by omega)
  have hy:bG l[i].Kind 3=some y:=hy
  rw [dP c,Option.bind_some,hy,Option.bind_some]
  obtain ⟨r,hr⟩:=ahL ⟨(IntKind.i64.wrap (1+y)),l[i].Key,l[i].Value,l[i].Old,l[i].Client,l[i].Seq,0,l[i].Text⟩
  rw [hr,Option.bind_some]
  obtain ⟨a,b,t',t2,t1,_,_⟩:=akU r t g2
  rw [t2,Option.bind_some,bM (by omega) (by omega),dA]
  exact ⟨_,rfl,⟨i+1,t',rfl,by omega,t1⟩,by simp only;omega⟩
 obtain ⟨e,e1,s,hs,rfl⟩:=loop
 have hT:(wJ s).T.L.length≤8:=hs.1.1.2
 have hS:(wJ s).S_.L.length≤4:=Md s.cZ
 rw [e1,Option.bind_some,RF _ (by omega) (by omega),Option.bind_some]
 clear e1
 generalize (wJ s).T.L=L at *
 generalize (wJ s).S_.L=S at *
 obtain ⟨x3,h3⟩:=dO eX 14 (by omega) (by omega)
 obtain ⟨x4,h4⟩:=Hl (IntKind.i64.wrap (Int.tdiv eX 14))
 obtain ⟨x5,h5⟩:=abe (IntKind.i64.wrap (Int.tdiv eX 14))
 obtain ⟨x6,h6⟩:=dO (IntKind.i64.wrap (Int.tdiv eX 14)) 14 (by omega) (by omega)
 have k14:((14:Nat):Int)=14:=rfl
 rw [k14] at h3 h6
 rw [h3,Option.bind_some,h4,h5,h6]
 simp only [Option.bind_some]
 cases (x3==8)
 case true=>exact ⟨_,rfl,by simp only;omega,by simp only;omega⟩
 cases (x3==9)
 case true=>exact ⟨_,rfl,by simp only;omega,by simp only;omega⟩
 simp only [cond_false]
 cases (x3==10)
 case true =>
  rw [cond_true,CY (by rw [List.length_append];simp only [List.length_singleton];omega)]
  exact ⟨_,rfl,by rw [List.length_append];simp only [List.length_singleton];omega,by simp only;omega⟩
 simp only [cond_false]
 cases (x3==11)
 case true =>
  rw [cond_true]
  by_cases c:S.length > 0
  ·rw [bf (by omega),cond_true,show (0:Int)=((0:Nat):Int) from rfl,dP c,Option.bind_some]
   exact ⟨_,rfl,by simp only;omega,by rw [List.length_set];omega⟩
  ·rw [aT (by omega)]
   exact ⟨_,rfl,by simp only;omega,by simp only;omega⟩
 simp only [cond_false]
 cases (x3==12)
 case true =>
  rw [cond_true]
  by_cases c:L.length > 1
  ·rw [bf (by omega),cond_true,show (0:Int)=((0:Nat):Int) from rfl,show (1:Int)=((1:Nat):Int) from rfl,dP (show 0 < L.length by omega),Option.bind_some,dP c,Option.bind_some,Option.bind_some,dP (by rw [List.length_set];omega),Option.bind_some]
   exact ⟨_,rfl,by simp only [List.length_set];omega,by simp only;omega⟩
  ·rw [aT (by omega)]
   exact ⟨_,rfl,by simp only;omega,by simp only;omega⟩
 simp only [cond_false]
 cases (x3==13)
 ·exact ⟨_,rfl,by simp only;omega,by simp only;omega⟩
 ·exact ⟨_,rfl,by simp,by simp⟩
theorem ahY (k epoch:Int) (l:List dH) (eX:Int):∃ x,tq k epoch l eX=some x∧x.2.2.1.length≤9∧x.2.2.2.length≤9:=by
 obtain ⟨x1,h1⟩:=dO k 6 (by omega) (by omega)
 obtain ⟨x2,h2⟩:=dO epoch 6 (by omega) (by omega)
 have k6:((6:Nat):Int)=6:=rfl
 rw [k6] at h1 h2
 have hz:OkI ⟨⟨[]⟩,wI,x1,IntKind.i64.wrap (1+x2)⟩:=⟨⟨ok0,⟨.inl rfl,.inl rfl,.inl rfl,.inl rfl⟩⟩,(λp hp=>by simp at hp),λy hy=>by simp [iP,wI,A4.RX,PU] at hy⟩
 have f6:=au8 x1 (IntKind.i64.wrap (1+x2))
 unfold tq
 rw [h1,Option.bind_some,h2,Option.bind_some,f6,Option.bind_some]
 have loop:∃ e,JD l eX (0,wJ ⟨⟨[]⟩,wI,x1,IntKind.i64.wrap (1+x2)⟩)=some e∧∃ s,OkI s∧e=wJ s:=by
  refine kX (λ(s:Int×aS)=>12 - s.1.toNat) (λs=>∃ (i:Nat) (t:dM),s=((i:Int),wJ t)∧i≤12∧OkI t) _ ?_ KK _ ⟨0,_,rfl,by omega,hz⟩ (by have:=kr;simp only;omega)
  rintro s ⟨i,t,rfl,g1,g2⟩
  simp only [uj,Dh]
  by_cases c:i < l.length
  case neg =>
   right
   rw [aT (by omega),cond_false]
   exact ⟨_,rfl,t,g2,rfl⟩
  by_cases c2:i < 12
  case neg =>
   right
   rw [bf (by omega),cond_true,aT (by omega),cond_false]
   exact ⟨_,rfl,t,g2,rfl⟩
  left
  rw [bf (by omega),cond_true,bf (by omega),cond_true,Option.bind_some]
  simp only [jO,cond_true]
  obtain ⟨y,hy⟩:=dO l[i].Kind 3 (by omega) (by omega)
  have hy:bG l[i].Kind 3=some y:=hy
  rw [dP c,Option.bind_some,hy,Option.bind_some]
  obtain ⟨r,hr⟩:=ahL ⟨(IntKind.i64.wrap (1+y)),l[i].Key,l[i].Value,l[i].Old,l[i].Client,l[i].Seq,0,l[i].Text⟩
  rw [hr,Option.bind_some]
  obtain ⟨a,b,t',t2,t1,_,_⟩:=akU r t g2
  rw [t2,Option.bind_some,bM (by omega) (by omega),dA]
  exact ⟨_,rfl,⟨i+1,t',rfl,by omega,t1⟩,by simp only;omega⟩
 obtain ⟨e,e1,s,hs,rfl⟩:=loop
 have hT:(wJ s).T.L.length≤8:=hs.1.1.2
 have hS:(wJ s).S_.L.length≤4:=Md s.cZ
 rw [e1,Option.bind_some,RF _ (by omega) (by omega),Option.bind_some]
 clear e1
 generalize (wJ s).T.L=L at *
 generalize (wJ s).S_.L=S at *
 obtain ⟨x3,h3⟩:=dO eX 14 (by omega) (by omega)
 obtain ⟨x4,h4⟩:=Hl (IntKind.i64.wrap (Int.tdiv eX 14))
 obtain ⟨x5,h5⟩:=abe (IntKind.i64.wrap (Int.tdiv eX 14))
 obtain ⟨x6,h6⟩:=dO (IntKind.i64.wrap (Int.tdiv eX 14)) 14 (by omega) (by omega)
 have k14:((14:Nat):Int)=14:=rfl
 rw [k14] at h3 h6
 rw [h3,Option.bind_some,h4,h5,h6]
 simp only [Option.bind_some]
 cases (x3==8)
 case true=>exact ⟨_,rfl,by simp only;omega,by simp only;omega⟩
 cases (x3==9)
 case true=>exact ⟨_,rfl,by simp only;omega,by simp only;omega⟩
 simp only [cond_false]
 cases (x3==10)
 case true =>
  rw [cond_true,CY (by rw [List.length_append];simp only [List.length_singleton];omega)]
  exact ⟨_,rfl,by rw [List.length_append];simp only [List.length_singleton];omega,by simp only;omega⟩
 simp only [cond_false]
 cases (x3==11)
 case true =>
  rw [cond_true]
  by_cases c:S.length > 0
  ·rw [bf (by omega),cond_true,show (0:Int)=((0:Nat):Int) from rfl,dP c,Option.bind_some]
   exact ⟨_,rfl,by simp only;omega,by rw [List.length_set];omega⟩
  ·rw [aT (by omega)]
   exact ⟨_,rfl,by simp only;omega,by simp only;omega⟩
 simp only [cond_false]
 cases (x3==12)
 case true =>
  rw [cond_true]
  by_cases c:L.length > 1
  ·rw [bf (by omega),cond_true,show (0:Int)=((0:Nat):Int) from rfl,show (1:Int)=((1:Nat):Int) from rfl,dP (show 0 < L.length by omega),Option.bind_some,dP c,Option.bind_some,Option.bind_some,dP (by rw [List.length_set];omega),Option.bind_some]
   exact ⟨_,rfl,by simp only [List.length_set];omega,by simp only;omega⟩
  ·rw [aT (by omega)]
   exact ⟨_,rfl,by simp only;omega,by simp only;omega⟩
 simp only [cond_false]
 cases (x3==13)
 ·exact ⟨_,rfl,by simp only;omega,by simp only;omega⟩
 ·exact ⟨_,rfl,by simp,by simp⟩
end Go.Proofs.YtohoggieaanllaaGreat
