import Derived.Test.YtohoggieaanllaaGreatG3
set_option linter.all false
set_option linter.unusedSimpArgs false
set_option maxRecDepth 100000
namespace Go.Proofs.YtohoggieaanllaaGreat
theorem alc (a b:Int):r_ ⟨a,b,[],[]⟩=some (vQ ⟨⟨[]⟩,rF,a,b⟩):=by
 unfold r_
 rw [adN _ (by simp)]
 obtain ⟨S,e1,_,e3⟩:=ahD [] (by simp)
 have e1':kJ []=some rF:=by rw [V_ _ (by simp)];rfl
 rw [e1'] at e1
 rw [← Option.some.inj e1] at e3
 rw [e3]
 rfl
theorem abP (k epoch:Int) (l:List bU) (dO:Int):∃ x,Bw k epoch l dO=some x∧x.Pairs.length≤9∧x.gB.length≤9:=by
 obtain ⟨x1,h1⟩:=bZ k 6 (by omega) (by omega)
 obtain ⟨x2,h2⟩:=bZ epoch 6 (by omega) (by omega)
 have k6:((6:Nat):Int)=6:=rfl
 rw [k6] at h1 h2
 have hz:OkI ⟨⟨[]⟩,rF,x1,IntKind.i64.wrap (1+x2)⟩:=⟨⟨ok0,⟨.inl rfl,.inl rfl,.inl rfl,.inl rfl⟩⟩,(λp hp=>by simp at hp),λy hy=>by simp [iX,rF,A4.Lb,Jz] at hy⟩
 have f6:=alc x1 (IntKind.i64.wrap (1+x2))
 unfold Bw
 rw [h1,Option.bind_some,h2,Option.bind_some,f6,Option.bind_some]
 have loop:∃ e,IK l dO (0,vQ ⟨⟨[]⟩,rF,x1,IntKind.i64.wrap (1+x2)⟩)=some e∧∃ s,OkI s∧e=vQ s:=by
  refine pO (λ(s:Int×aM)=>12 - s.1.toNat) (λs=>∃ (i:Nat) (t:bY),s=((i:Int),vQ t)∧i≤12∧OkI t) _ ?_ KK _ ⟨0,_,rfl,by omega,hz⟩ (by have:=FI;simp only;omega)
  rintro s ⟨i,t,rfl,g1,g2⟩
  simp only [uw,CY]
  by_cases c:i < l.length
  case neg =>
   right
   rw [aZ (by omega),cond_false]
   exact ⟨_,rfl,t,g2,rfl⟩
  by_cases c2:i < 12
  case neg =>
   right
   rw [bI (by omega),cond_true,aZ (by omega),cond_false]
   exact ⟨_,rfl,t,g2,rfl⟩
  left
  rw [bI (by omega),cond_true,bI (by omega),cond_true,Option.bind_some]
  simp only [mW,cond_true]
  obtain ⟨y,hy⟩:=bZ l[i].Kind 3 (by omega) (by omega)
  have hy:bf l[i].Kind 3=some y:=hy
  rw [fA c,Option.bind_some,hy,Option.bind_some]
  obtain ⟨r,hr⟩:=ZK ⟨(IntKind.i64.wrap (1+y)),l[i].Key,l[i].Value,l[i].Old,l[i].Client,l[i].Seq,0,l[i].Text⟩
  rw [hr,Option.bind_some]
  obtain ⟨a,b,t',t2,t1,_,_⟩:=acM r t g2
  rw [t2,Option.bind_some,fG (by omega) (by omega),fE]
  exact ⟨_,rfl,⟨i+1,t',rfl,by omega,t1⟩,by simp only;omega⟩
 obtain ⟨e,e1,s,hs,rfl⟩:=loop
 have hT:(vQ s).T.L.length≤8:=hs.1.1.2
 have hS:(vQ s).S_.L.length≤4:=JR s.cZ
 rw [e1,Option.bind_some,KY _ (by omega) (by omega),Option.bind_some]
 clear e1
 generalize (vQ s).T.L=L at *
 generalize (vQ s).S_.L=S at *
 obtain ⟨x3,h3⟩:=bZ dO 14 (by omega) (by omega)
 obtain ⟨x4,h4⟩:=BZ (IntKind.i64.wrap (Int.tdiv dO 14))
 obtain ⟨x5,h5⟩:=TL (IntKind.i64.wrap (Int.tdiv dO 14))
 obtain ⟨x6,h6⟩:=bZ (IntKind.i64.wrap (Int.tdiv dO 14)) 14 (by omega) (by omega)
 have k14:((14:Nat):Int)=14:=rfl
 rw [k14] at h3 h6
 rw [h3,Option.bind_some,h4,h5,h6]
 simp only [Option.bind_some]
 cases (x3==8)
 case true=>exact ⟨_,rfl,by simp only;omega,by simp only;omega⟩
 cases (x3==9)
 case true=>exact ⟨_,rfl,by simp only;omega,by simp only;omega⟩
 simp only [cond_false]
 cases (x3==10)
 case true =>
  rw [cond_true,z8 (by rw [List.length_append];simp only [List.length_singleton];omega)]
  exact ⟨_,rfl,by rw [List.length_append];simp only [List.length_singleton];omega,by simp only;omega⟩
 simp only [cond_false]
 cases (x3==11)
 case true =>
  rw [cond_true]
  by_cases c:S.length > 0
  ·rw [bI (by omega),cond_true,show (0:Int)=((0:Nat):Int) from rfl,fA c,Option.bind_some]
   exact ⟨_,rfl,by simp only;omega,by rw [List.length_set];omega⟩
  ·rw [aZ (by omega)]
   exact ⟨_,rfl,by simp only;omega,by simp only;omega⟩
 simp only [cond_false]
 cases (x3==12)
 case true =>
  rw [cond_true]
  by_cases c:L.length > 1
  ·rw [bI (by omega),cond_true,show (0:Int)=((0:Nat):Int) from rfl,show (1:Int)=((1:Nat):Int) from rfl,fA (show 0 < L.length by omega),Option.bind_some,fA c,Option.bind_some,Option.bind_some,fA (by rw [List.length_set];omega),Option.bind_some]
   exact ⟨_,rfl,by simp only [List.length_set];omega,by simp only;omega⟩
  ·rw [aZ (by omega)]
   exact ⟨_,rfl,by simp only;omega,by simp only;omega⟩
 simp only [cond_false]
 cases (x3==13)
 ·exact ⟨_,rfl,by simp only;omega,by simp only;omega⟩
 ·exact ⟨_,rfl,by simp,by simp⟩
theorem ZY (k epoch:Int) (l:List bU) (dO:Int):∃ x,oF k epoch l dO=some x∧x.2.2.1.length≤9∧x.2.2.2.length≤9:=by
 obtain ⟨x1,h1⟩:=bZ k 6 (by omega) (by omega)
 obtain ⟨x2,h2⟩:=bZ epoch 6 (by omega) (by omega)
 have k6:((6:Nat):Int)=6:=rfl
 rw [k6] at h1 h2
 have hz:OkI ⟨⟨[]⟩,rF,x1,IntKind.i64.wrap (1+x2)⟩:=⟨⟨ok0,⟨.inl rfl,.inl rfl,.inl rfl,.inl rfl⟩⟩,(λp hp=>by simp at hp),λy hy=>by simp [iX,rF,A4.Lb,Jz] at hy⟩
 have f6:=alc x1 (IntKind.i64.wrap (1+x2))
 unfold oF
 rw [h1,Option.bind_some,h2,Option.bind_some,f6,Option.bind_some]
 have loop:∃ e,DV l dO (0,vQ ⟨⟨[]⟩,rF,x1,IntKind.i64.wrap (1+x2)⟩)=some e∧∃ s,OkI s∧e=vQ s:=by
  refine pO (λ(s:Int×aM)=>12 - s.1.toNat) (λs=>∃ (i:Nat) (t:bY),s=((i:Int),vQ t)∧i≤12∧OkI t) _ ?_ KK _ ⟨0,_,rfl,by omega,hz⟩ (by have:=FI;simp only;omega)
  rintro s ⟨i,t,rfl,g1,g2⟩
  simp only [pF,yQ]
  by_cases c:i < l.length
  case neg =>
   right
   rw [aZ (by omega),cond_false]
   exact ⟨_,rfl,t,g2,rfl⟩
  by_cases c2:i < 12
  case neg =>
   right
   rw [bI (by omega),cond_true,aZ (by omega),cond_false]
   exact ⟨_,rfl,t,g2,rfl⟩
  left
  rw [bI (by omega),cond_true,bI (by omega),cond_true,Option.bind_some]
  simp only [mW,cond_true]
  obtain ⟨y,hy⟩:=bZ l[i].Kind 3 (by omega) (by omega)
  have hy:bf l[i].Kind 3=some y:=hy
  rw [fA c,Option.bind_some,hy,Option.bind_some]
  obtain ⟨r,hr⟩:=ZK ⟨(IntKind.i64.wrap (1+y)),l[i].Key,l[i].Value,l[i].Old,l[i].Client,l[i].Seq,0,l[i].Text⟩
  rw [hr,Option.bind_some]
  obtain ⟨a,b,t',t2,t1,_,_⟩:=acM r t g2
  rw [t2,Option.bind_some,fG (by omega) (by omega),fE]
  exact ⟨_,rfl,⟨i+1,t',rfl,by omega,t1⟩,by simp only;omega⟩
 obtain ⟨e,e1,s,hs,rfl⟩:=loop
 have hT:(vQ s).T.L.length≤8:=hs.1.1.2
 have hS:(vQ s).S_.L.length≤4:=JR s.cZ
 rw [e1,Option.bind_some,KY _ (by omega) (by omega),Option.bind_some]
 clear e1
 generalize (vQ s).T.L=L at *
 generalize (vQ s).S_.L=S at *
 obtain ⟨x3,h3⟩:=bZ dO 14 (by omega) (by omega)
 obtain ⟨x4,h4⟩:=BZ (IntKind.i64.wrap (Int.tdiv dO 14))
 obtain ⟨x5,h5⟩:=TL (IntKind.i64.wrap (Int.tdiv dO 14))
 obtain ⟨x6,h6⟩:=bZ (IntKind.i64.wrap (Int.tdiv dO 14)) 14 (by omega) (by omega)
 have k14:((14:Nat):Int)=14:=rfl
 rw [k14] at h3 h6
 rw [h3,Option.bind_some,h4,h5,h6]
 simp only [Option.bind_some]
 cases (x3==8)
 case true=>exact ⟨_,rfl,by simp only;omega,by simp only;omega⟩
 cases (x3==9)
 case true=>exact ⟨_,rfl,by simp only;omega,by simp only;omega⟩
 simp only [cond_false]
 cases (x3==10)
 case true =>
  rw [cond_true,z8 (by rw [List.length_append];simp only [List.length_singleton];omega)]
  exact ⟨_,rfl,by rw [List.length_append];simp only [List.length_singleton];omega,by simp only;omega⟩
 simp only [cond_false]
 cases (x3==11)
 case true =>
  rw [cond_true]
  by_cases c:S.length > 0
  ·rw [bI (by omega),cond_true,show (0:Int)=((0:Nat):Int) from rfl,fA c,Option.bind_some]
   exact ⟨_,rfl,by simp only;omega,by rw [List.length_set];omega⟩
  ·rw [aZ (by omega)]
   exact ⟨_,rfl,by simp only;omega,by simp only;omega⟩
 simp only [cond_false]
 cases (x3==12)
 case true =>
  rw [cond_true]
  by_cases c:L.length > 1
  ·rw [bI (by omega),cond_true,show (0:Int)=((0:Nat):Int) from rfl,show (1:Int)=((1:Nat):Int) from rfl,fA (show 0 < L.length by omega),Option.bind_some,fA c,Option.bind_some,Option.bind_some,fA (by rw [List.length_set];omega),Option.bind_some]
   exact ⟨_,rfl,by simp only [List.length_set];omega,by simp only;omega⟩
  ·rw [aZ (by omega)]
   exact ⟨_,rfl,by simp only;omega,by simp only;omega⟩
 simp only [cond_false]
 cases (x3==13)
 ·exact ⟨_,rfl,by simp only;omega,by simp only;omega⟩
 ·exact ⟨_,rfl,by simp,by simp⟩
end Go.Proofs.YtohoggieaanllaaGreat
