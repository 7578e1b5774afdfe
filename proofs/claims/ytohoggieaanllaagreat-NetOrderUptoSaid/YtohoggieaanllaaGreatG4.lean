import Derived.Test.YtohoggieaanllaaGreatG3
set_option linter.all false
set_option linter.unusedSimpArgs false
set_option maxRecDepth 100000
namespace Go.Proofs.YtohoggieaanllaaGreat
theorem avg (a b:Int):mD ⟨a,b,[],[]⟩=some (vJ ⟨⟨[]⟩,vI,a,b⟩):=by
 unfold mD
 rw [adk _ (by simp)]
 obtain ⟨S,e1,_,e3⟩:=ag7 [] (by simp)
 have e1':mM []=some vI:=by rw [adn _ (by simp)];rfl
 rw [e1'] at e1
 rw [← Option.some.inj e1] at e3
 rw [e3]
 rfl
theorem ajA (k epoch:Int) (l:List dB) (dZ:Int):∃ x,Ob k epoch l dZ=some x∧x.Pairs.length≤9∧x.dX.length≤9:=by
 obtain ⟨x1,h1⟩:=dG k 6 (by omega) (by omega)
 obtain ⟨x2,h2⟩:=dG epoch 6 (by omega) (by omega)
 have k6:((6:Nat):Int)=6:=rfl
 rw [k6] at h1 h2
 have hz:OkI ⟨⟨[]⟩,vI,x1,IntKind.i64.wrap (1+x2)⟩:=⟨⟨ok0,⟨.inl rfl,.inl rfl,.inl rfl,.inl rfl⟩⟩,(λp hp=>by simp at hp),λy hy=>by simp [iy,vI,A4.Rn,Pk] at hy⟩
 have f6:=avg x1 (IntKind.i64.wrap (1+x2))
 unfold Ob
 rw [h1,Option.bind_some,h2,Option.bind_some,f6,Option.bind_some]
 have loop:∃ e,Oa l dZ (0,vJ ⟨⟨[]⟩,vI,x1,IntKind.i64.wrap (1+x2)⟩)=some e∧∃ s,OkI s∧e=vJ s:=by
  refine mW (λ(s:Int×aT)=>12 - s.1.toNat) (λs=>∃ (i:Nat) (t:dF),s=((i:Int),vJ t)∧i≤12∧OkI t) _ ?_ KK _ ⟨0,_,rfl,by omega,hz⟩ (by have:=rO;simp only;omega)
  rintro s ⟨i,t,rfl,g1,g2⟩
  simp only [yg,H6]
  by_cases c:i < l.length
  case neg =>
   right
   rw [aV (by omega),cond_false]
   exact ⟨_,rfl,t,g2,rfl⟩
  by_cases c2:i < 12
  case neg =>
   right
   rw [aZ (by omega),cond_true,aV (by omega),cond_false]
   exact ⟨_,rfl,t,g2,rfl⟩
  left
  rw [aZ (by omega),cond_true,aZ (by omega),cond_true,Option.bind_some]
  simp only [jI,cond_true]
  obtain ⟨y,hy⟩:=dG l[i].Kind 3 (by omega) (by omega)
  have hy:bE l[i].Kind 3=some y:=hy
  rw [dI c,Option.bind_some,hy,Option.bind_some]
  obtain ⟨r,hr⟩:=ag8 ⟨(IntKind.i64.wrap (1+y)),l[i].Key,l[i].Value,l[i].Old,l[i].Client,l[i].Seq,0,l[i].Text⟩
  rw [hr,Option.bind_some]
  obtain ⟨a,b,t',t2,t1,_,_⟩:=akz r t g2
  rw [t2,Option.bind_some,bU (by omega) (by omega),cO]
  exact ⟨_,rfl,⟨i+1,t',rfl,by omega,t1⟩,by simp only;omega⟩
 obtain ⟨e,e1,s,hs,rfl⟩:=loop
 have hT:(vJ s).T.L.length≤8:=hs.1.1.2
 have hS:(vJ s).S_.L.length≤4:=Ll s.b_
 rw [e1,Option.bind_some,Q9 _ (by omega) (by omega),Option.bind_some]
 clear e1
 generalize (vJ s).T.L=L at *
 generalize (vJ s).S_.L=S at *
 obtain ⟨x3,h3⟩:=dG dZ 14 (by omega) (by omega)
 obtain ⟨x4,h4⟩:=Gw (IntKind.i64.wrap (Int.tdiv dZ 14))
 obtain ⟨x5,h5⟩:=aaB (IntKind.i64.wrap (Int.tdiv dZ 14))
 obtain ⟨x6,h6⟩:=dG (IntKind.i64.wrap (Int.tdiv dZ 14)) 14 (by omega) (by omega)
 have k14:((14:Nat):Int)=14:=rfl
 rw [k14] at h3 h6
 rw [h3,Option.bind_some,h4,h5,h6]
 simp only [Option.bind_some]
 cases (x3==8)
 case true=>exact ⟨_,rfl,by simp only;omega,by simp only;omega⟩
 cases (x3==9)
 case true=>exact ⟨_,rfl,by simp only;omega,by simp only;omega⟩
 simp only [cond_false]
 cases (x3==10)
 case true =>
  rw [cond_true,Ci (by rw [List.length_append];simp only [List.length_singleton];omega)]
  exact ⟨_,rfl,by rw [List.length_append];simp only [List.length_singleton];omega,by simp only;omega⟩
 simp only [cond_false]
 cases (x3==11)
 case true =>
  rw [cond_true]
  by_cases c:S.length > 0
  ·rw [aZ (by omega),cond_true,show (0:Int)=((0:Nat):Int) from rfl,dI c,Option.bind_some]
   exact ⟨_,rfl,by simp only;omega,by rw [List.length_set];omega⟩
  ·rw [aV (by omega)]
   exact ⟨_,rfl,by simp only;omega,by simp only;omega⟩
 simp only [cond_false]
 cases (x3==12)
 case true =>
  rw [cond_true]
  by_cases c:L.length > 1
  ·rw [aZ (by omega),cond_true,show (0:Int)=((0:Nat):Int) from rfl,show (1:Int)=((1:Nat):Int) from rfl,dI (show 0 < L.length by omega),Option.bind_some,dI c,Option.bind_some,Option.bind_some,dI (by rw [List.length_set];omega),Option.bind_some]
   exact ⟨_,rfl,by simp only [List.length_set];omega,by simp only;omega⟩
  ·rw [aV (by omega)]
   exact ⟨_,rfl,by simp only;omega,by simp only;omega⟩
 simp only [cond_false]
 cases (x3==13)
 ·exact ⟨_,rfl,by simp only;omega,by simp only;omega⟩
 ·exact ⟨_,rfl,by simp,by simp⟩
theorem aht (k epoch:Int) (l:List dB) (dZ:Int):∃ x,yZ k epoch l dZ=some x∧x.2.2.1.length≤9∧x.2.2.2.length≤9:=by
 obtain ⟨x1,h1⟩:=dG k 6 (by omega) (by omega)
 obtain ⟨x2,h2⟩:=dG epoch 6 (by omega) (by omega)
 have k6:((6:Nat):Int)=6:=rfl
 rw [k6] at h1 h2
 have hz:OkI ⟨⟨[]⟩,vI,x1,IntKind.i64.wrap (1+x2)⟩:=⟨⟨ok0,⟨.inl rfl,.inl rfl,.inl rfl,.inl rfl⟩⟩,(λp hp=>by simp at hp),λy hy=>by simp [iy,vI,A4.Rn,Pk] at hy⟩
 have f6:=avg x1 (IntKind.i64.wrap (1+x2))
 unfold yZ
 rw [h1,Option.bind_some,h2,Option.bind_some,f6,Option.bind_some]
 have loop:∃ e,Jc l dZ (0,vJ ⟨⟨[]⟩,vI,x1,IntKind.i64.wrap (1+x2)⟩)=some e∧∃ s,OkI s∧e=vJ s:=by
  refine mW (λ(s:Int×aT)=>12 - s.1.toNat) (λs=>∃ (i:Nat) (t:dF),s=((i:Int),vJ t)∧i≤12∧OkI t) _ ?_ KK _ ⟨0,_,rfl,by omega,hz⟩ (by have:=rO;simp only;omega)
  rintro s ⟨i,t,rfl,g1,g2⟩
  simp only [sI,Cu]
  by_cases c:i < l.length
  case neg =>
   right
   rw [aV (by omega),cond_false]
   exact ⟨_,rfl,t,g2,rfl⟩
  by_cases c2:i < 12
  case neg =>
   right
   rw [aZ (by omega),cond_true,aV (by omega),cond_false]
   exact ⟨_,rfl,t,g2,rfl⟩
  left
  rw [aZ (by omega),cond_true,aZ (by omega),cond_true,Option.bind_some]
  simp only [jI,cond_true]
  obtain ⟨y,hy⟩:=dG l[i].Kind 3 (by omega) (by omega)
  have hy:bE l[i].Kind 3=some y:=hy
  rw [dI c,Option.bind_some,hy,Option.bind_some]
  obtain ⟨r,hr⟩:=ag8 ⟨(IntKind.i64.wrap (1+y)),l[i].Key,l[i].Value,l[i].Old,l[i].Client,l[i].Seq,0,l[i].Text⟩
  rw [hr,Option.bind_some]
  obtain ⟨a,b,t',t2,t1,_,_⟩:=akz r t g2
  rw [t2,Option.bind_some,bU (by omega) (by omega),cO]
  exact ⟨_,rfl,⟨i+1,t',rfl,by omega,t1⟩,by simp only;omega⟩
 obtain ⟨e,e1,s,hs,rfl⟩:=loop
 have hT:(vJ s).T.L.length≤8:=hs.1.1.2
 have hS:(vJ s).S_.L.length≤4:=Ll s.b_
 rw [e1,Option.bind_some,Q9 _ (by omega) (by omega),Option.bind_some]
 clear e1
 generalize (vJ s).T.L=L at *
 generalize (vJ s).S_.L=S at *
 obtain ⟨x3,h3⟩:=dG dZ 14 (by omega) (by omega)
 obtain ⟨x4,h4⟩:=Gw (IntKind.i64.wrap (Int.tdiv dZ 14))
 obtain ⟨x5,h5⟩:=aaB (IntKind.i64.wrap (Int.tdiv dZ 14))
 obtain ⟨x6,h6⟩:=dG (IntKind.i64.wrap (Int.tdiv dZ 14)) 14 (by omega) (by omega)
 have k14:((14:Nat):Int)=14:=rfl
 rw [k14] at h3 h6
 rw [h3,Option.bind_some,h4,h5,h6]
 simp only [Option.bind_some]
 cases (x3==8)
 case true=>exact ⟨_,rfl,by simp only;omega,by simp only;omega⟩
 cases (x3==9)
 case true=>exact ⟨_,rfl,by simp only;omega,by simp only;omega⟩
 simp only [cond_false]
 cases (x3==10)
 case true =>
  rw [cond_true,Ci (by rw [List.length_append];simp only [List.length_singleton];omega)]
  exact ⟨_,rfl,by rw [List.length_append];simp only [List.length_singleton];omega,by simp only;omega⟩
 simp only [cond_false]
 cases (x3==11)
 case true =>
  rw [cond_true]
  by_cases c:S.length > 0
  ·rw [aZ (by omega),cond_true,show (0:Int)=((0:Nat):Int) from rfl,dI c,Option.bind_some]
   exact ⟨_,rfl,by simp only;omega,by rw [List.length_set];omega⟩
  ·rw [aV (by omega)]
   exact ⟨_,rfl,by simp only;omega,by simp only;omega⟩
 simp only [cond_false]
 cases (x3==12)
 case true =>
  rw [cond_true]
  by_cases c:L.length > 1
  ·rw [aZ (by omega),cond_true,show (0:Int)=((0:Nat):Int) from rfl,show (1:Int)=((1:Nat):Int) from rfl,dI (show 0 < L.length by omega),Option.bind_some,dI c,Option.bind_some,Option.bind_some,dI (by rw [List.length_set];omega),Option.bind_some]
   exact ⟨_,rfl,by simp only [List.length_set];omega,by simp only;omega⟩
  ·rw [aV (by omega)]
   exact ⟨_,rfl,by simp only;omega,by simp only;omega⟩
 simp only [cond_false]
 cases (x3==13)
 ·exact ⟨_,rfl,by simp only;omega,by simp only;omega⟩
 ·exact ⟨_,rfl,by simp,by simp⟩
end Go.Proofs.YtohoggieaanllaaGreat
