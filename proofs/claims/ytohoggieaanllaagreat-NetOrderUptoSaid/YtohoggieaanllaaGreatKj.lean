import Derived.Test.YtohoggieaanllaaGreatKg
import Derived.Test.YtohoggieaanllaaGreatG4
set_option linter.all false
set_option linter.unusedSimpArgs false
set_option maxRecDepth 100000
namespace Go.Proofs.YtohoggieaanllaaGreat
theorem ahu (r:bn):∃ b,qL r=some b:=by
 unfold qL BP
 rw [Sn,Option.bind_some]
 generalize (r.Client==0&&(r.Seq==0&&(r.Op.Kind==0&&(r.Op.Key==([]:List UInt8)&&(r.Op.Value==([]:List UInt8)&&(r.Op.Old==([]:List UInt8)&&true))))))=z
 cases z
 ·exact ⟨_,rfl⟩
 ·exact ⟨_,rfl⟩
theorem al1 (n:Int):∃ v,ZH n=some v:=by
 unfold ZH
 obtain ⟨v,hv⟩:=Gw n
 simp only [hv,Option.bind_some]
 split<;>exact ⟨_,rfl⟩
theorem ajB (x:bK):∃ e,JK x=some e:=by
 obtain ⟨y1,h1⟩:=dG x.Inc 4 (by omega) (by omega)
 obtain ⟨y2,h2⟩:=dG x.Status 3 (by omega) (by omega)
 obtain ⟨y3,h3⟩:=dG x.ql 5 (by omega) (by omega)
 obtain ⟨y4,h4⟩:=dG x.Load 12 (by omega) (by omega)
 obtain ⟨y5,h5⟩:=dG x.Inc 19 (by omega) (by omega)
 obtain ⟨y6,h6⟩:=al1 x.ql
 have h1:bE x.Inc 4=some y1:=h1
 have h2:bE x.Status 3=some y2:=h2
 have h3:bE x.ql 5=some y3:=h3
 have h4:bE x.Load 12=some y4:=h4
 have h5:bE x.Inc 19=some y5:=h5
 unfold JK
 simp only [h1,h2,h3,h4,h5,h6,Option.bind_some]
 cases (y5==18)<;>exact ⟨_,rfl⟩
theorem ajC (l:List bK):∃ t,NJ l 5=some t∧t.length≤5:=by
 have loop:∃ e,NI l 5 (0,[])=some e∧e.length≤5:=by
  refine mW (λ(s:Int×List av)=>5 - s.1.toNat) (λs=>∃ (i:Nat) (t:List av),s=((i:Int),t)∧i≤5∧t.length=i) _ ?_ KK _ ⟨0,[],rfl,by omega,rfl⟩ (by have:=rO;simp only;omega)
  rintro s ⟨i,t,rfl,g1,g2⟩
  simp only [xX,HV]
  by_cases c:i < l.length
  case neg =>
   right
   rw [aV (by omega),cond_false]
   exact ⟨_,rfl,by omega⟩
  by_cases c2:i < 5
  case neg =>
   right
   rw [aZ (by omega),cond_true,aV (by omega),cond_false]
   exact ⟨_,rfl,by omega⟩
  left
  rw [aZ (by omega),cond_true,aZ (by omega),cond_true,Option.bind_some]
  simp only [jI,cond_true]
  obtain ⟨y,hy⟩:=ajB l[i]
  rw [dI c,Option.bind_some,hy,Option.bind_some,jK (by unfold dh;simp;omega),bU (by omega) (by omega),cO]
  exact ⟨_,rfl,⟨i+1,_,rfl,by omega,by simp;omega⟩,by simp only;omega⟩
 obtain ⟨e,e1,e2⟩:=loop
 unfold NJ
 rw [e1]
 exact ⟨e,rfl,e2⟩
theorem auJ (a b:aF):(a.Kind=b.Kind∧a.From=b.From∧a.To=b.To∧a.eY=b.eY∧a.Epoch=b.Epoch∧a.Weight=b.Weight∧a.Load=b.Load∧a.qm=b.qm∧a.dR=b.dR∧a.IK=b.IK∧a.Answer=b.Answer∧a.Path=b.Path∧a.Table=b.Table∧a.xg=b.xg)↔a=b:=by
 obtain ⟨⟩:=a;obtain ⟨⟩:=b
 simp
theorem akA (x y:av):(x.Inc=y.Inc∧x.Status=y.Status∧x.ql=y.ql∧x.Load=y.Load∧x.dR=y.dR)↔x=y:=by
 obtain ⟨a,b,c,d,e⟩:=x;obtain ⟨a',b',c',d',e'⟩:=y
 simp
instance:DecidableEq av:=λx y=>decidable_of_iff _ (akA x y)
theorem al2 (a b:List av) (h:a.length < 1000000):A8 a b=some (decide (a=b)):=by
 unfold A8
 by_cases c:a.length=b.length
 ·rw [gL (by omega),cond_false]
  obtain ⟨e,e1,e2⟩:=Wd a b (λx y=>(x.Inc==y.Inc&&(x.Status==y.Status&&(x.ql==y.ql&&(x.Load==y.Load&&(x.dR==y.dR&&true)))))) (λx y=>by rw [← akA];simp) h c (pR a b) (λ_=>rfl)
  unfold Ec
  rw [e1,Option.bind_some,e2]
  by_cases q:a=b<;>simp [q]
 ·rw [qZ (by omega),aV (λe=>c (by rw [e]))];rfl
theorem ahv (x y:aD):(x.Why==y.Why&&(x.Value==y.Value&&true))=true↔x=y:=by
 obtain ⟨a,b⟩:=x;obtain ⟨a',b'⟩:=y
 simp
theorem ay4 (a b:aF) (h:LB a):∃ v,Gd a b=some v∧(v=true↔a=b):=by
 unfold Gd CF
 rw [al2 a.Table b.Table h.2.1,ave a.xg b.xg h.2.2.1 h.2.2.2]
 rw [← auJ]
 have no:∀ {P:Prop},¬ P→(false=true↔P):=by
  intro P h
  constructor
  ·intro e
   cases e
  ·intro p
   exact (h p).elim
 by_cases k0:a.Kind=b.Kind
 case neg=>exact ⟨false,by rw [qZ k0];rfl,no (by rintro ⟨p,_⟩;exact k0 p)⟩
 by_cases k1:a.From=b.From
 case neg=>exact ⟨false,by rw [gL k0,cond_false,qZ k1];rfl,no (by rintro ⟨_,p,_⟩;exact k1 p)⟩
 by_cases k2:a.To=b.To
 case neg=>exact ⟨false,by rw [gL k0,cond_false,gL k1,cond_false,qZ k2];rfl,no (by rintro ⟨_,_,p,_⟩;exact k2 p)⟩
 by_cases k3:a.eY=b.eY
 case neg=>exact ⟨false,by rw [gL k0,cond_false,gL k1,cond_false,gL k2,cond_false,qZ k3];rfl,no (by rintro ⟨_,_,_,p,_⟩;exact k3 p)⟩
 by_cases k4:a.Epoch=b.Epoch
 case neg=>exact ⟨false,by rw [gL k0,cond_false,gL k1,cond_false,gL k2,cond_false,gL k3,cond_false,qZ k4];rfl,no (by rintro ⟨_,_,_,_,p,_⟩;exact k4 p)⟩
 by_cases k5:a.Weight=b.Weight
 case neg=>exact ⟨false,by rw [gL k0,cond_false,gL k1,cond_false,gL k2,cond_false,gL k3,cond_false,gL k4,cond_false,qZ k5];rfl,no (by rintro ⟨_,_,_,_,_,p,_⟩;exact k5 p)⟩
 by_cases k6:a.Load=b.Load
 case neg=>exact ⟨false,by rw [gL k0,cond_false,gL k1,cond_false,gL k2,cond_false,gL k3,cond_false,gL k4,cond_false,gL k5,cond_false,qZ k6];rfl,no (by rintro ⟨_,_,_,_,_,_,p,_⟩;exact k6 p)⟩
 by_cases k7:a.qm=b.qm
 case neg=>exact ⟨false,by rw [gL k0,cond_false,gL k1,cond_false,gL k2,cond_false,gL k3,cond_false,gL k4,cond_false,gL k5,cond_false,gL k6,cond_false,qZ k7];rfl,no (by rintro ⟨_,_,_,_,_,_,_,p,_⟩;exact k7 p)⟩
 rw [gL k0,cond_false,gL k1,cond_false,gL k2,cond_false,gL k3,cond_false,gL k4,cond_false,gL k5,cond_false,gL k6,cond_false,gL k7,cond_false]
 by_cases k8:a.dR=b.dR
 case neg=>exact ⟨false,by rw [show (a.dR==b.dR)=false by simpa using k8];rfl,no (by rintro ⟨_,_,_,_,_,_,_,_,p,_⟩;exact k8 p)⟩
 rw [show (a.dR==b.dR)=true by simpa using k8,aeR]
 by_cases k9:a.IK=b.IK
 case neg=>exact ⟨false,by rw [aV k9];rfl,no (by rintro ⟨_,_,_,_,_,_,_,_,_,p,_⟩;exact k9 p)⟩
 rw [aZ k9]
 by_cases ka:a.Answer=b.Answer
 case neg=>exact ⟨false,by rw [show (a.Answer.Why==b.Answer.Why&&(a.Answer.Value==b.Answer.Value&&true))=false by rw [Bool.eq_false_iff];exact λe=>ka ((ahv _ _).1 e)];rfl,no (by rintro ⟨_,_,_,_,_,_,_,_,_,_,p,_⟩;exact ka p)⟩
 rw [(ahv a.Answer b.Answer).2 ka]
 by_cases kb:a.Path.length=b.Path.length
 case neg=>exact ⟨false,by rw [qZ (show (a.Path.length:Int)≠_ by omega)];rfl,no (by rintro ⟨_,_,_,_,_,_,_,_,_,_,_,p,_⟩;exact kb (by rw [p]))⟩
 rw [gL (show (a.Path.length:Int)=_ by omega)]
 by_cases kc:a.Table=b.Table
 case neg=>exact ⟨false,by rw [aV kc];rfl,no (by rintro ⟨_,_,_,_,_,_,_,_,_,_,_,_,p,_⟩;exact kc p)⟩
 rw [aZ kc]
 obtain ⟨e,e1,e2⟩:=Wd a.Path b.Path (λx y=>x==y) (λx y=>by simp) h.1 kb (sN a b) (λ_=>rfl)
 have e1:Jj a b 0=some e:=e1
 have hi:jI (.inr ():Unit⊕Unit)=false:=rfl
 simp only [Bool.not_true,cond_false,Option.bind_some,hi,e1]
 by_cases kd:a.Path=b.Path
 case neg=>exact ⟨false,by rw [e2,aZ kd];rfl,no (by rintro ⟨_,_,_,_,_,_,_,_,_,_,_,p,_⟩;exact kd p)⟩
 rw [e2,aV (λh=>h kd),cond_false]
 refine ⟨_,rfl, ?_⟩
 rw [decide_eq_true_eq,aku]
 exact ⟨λe=>⟨k0,k1,k2,k3,k4,k5,k6,k7,k8,k9,ka,kd,kc,e⟩,λe=>e.2.2.2.2.2.2.2.2.2.2.2.2.2⟩
def unM (t:Int×Int×Int×Int×Int×Int×Int×Int×Bool×Int×Int×Int×List UInt8×List UInt8×List UInt8×Int×List UInt8×Int×Int×List Int×List av×List au×List ak):aF:=⟨t.1,t.2.1,t.2.2.1,t.2.2.2.1,t.2.2.2.2.1,t.2.2.2.2.2.1,t.2.2.2.2.2.2.1,t.2.2.2.2.2.2.2.1,t.2.2.2.2.2.2.2.2.1,⟨t.2.2.2.2.2.2.2.2.2.1,t.2.2.2.2.2.2.2.2.2.2.1,⟨t.2.2.2.2.2.2.2.2.2.2.2.1,t.2.2.2.2.2.2.2.2.2.2.2.2.1,t.2.2.2.2.2.2.2.2.2.2.2.2.2.1,t.2.2.2.2.2.2.2.2.2.2.2.2.2.2.1⟩⟩,⟨t.2.2.2.2.2.2.2.2.2.2.2.2.2.2.2.1,t.2.2.2.2.2.2.2.2.2.2.2.2.2.2.2.2.1⟩,t.2.2.2.2.2.2.2.2.2.2.2.2.2.2.2.2.2.2.2.1,t.2.2.2.2.2.2.2.2.2.2.2.2.2.2.2.2.2.2.2.2.1,⟨t.2.2.2.2.2.2.2.2.2.2.2.2.2.2.2.2.2.1,t.2.2.2.2.2.2.2.2.2.2.2.2.2.2.2.2.2.2.1,t.2.2.2.2.2.2.2.2.2.2.2.2.2.2.2.2.2.2.2.2.2.1,t.2.2.2.2.2.2.2.2.2.2.2.2.2.2.2.2.2.2.2.2.2.2⟩⟩
def other:List UInt8:=[111,116,104,101,114]
def awd (q:bn):Prop:=q.Seq≠77∨q.Op.Key≠other
theorem al3 (n:Int):∃ v,K3 n=some v∧v≠other:=by
 obtain ⟨k,hk,h⟩:=yB n 16 (by omega) (by omega)
 unfold K3
 rw [show (16:Int)=((16:Nat):Int) from rfl,hk,Option.bind_some,dI (by simpa using h),Option.bind_some]
 refine ⟨_,rfl, ?_⟩
 have:∀ v∈([[97],[98],[99],[100],[101],[102],[103],[104],[107,97],[107,98],[107,99],[107,100],[120],[121],[122,122],[101,105,103,104,116,107,101,121]]:List (List UInt8)),v≠other:=by decide
 exact this _ (List.getElem_mem _)
theorem aqH (a b c d:Int):∃ o,ZO a b c d=some o∧o.Key≠other:=by
 obtain ⟨x1,h1⟩:=dG a 4 (by omega) (by omega)
 obtain ⟨x2,h2,n2⟩:=al3 b
 obtain ⟨x4,h4⟩:=Lm c
 obtain ⟨x6,h6⟩:=Lm d
 have k4:((4:Nat):Int)=4:=rfl
 rw [k4] at h1
 unfold ZO
 rw [h1,Option.bind_some,h2,Option.bind_some]
 unfold NM NK
 rw [h4,h6]
 simp only [Option.bind_some]
 cases (IntKind.i64.wrap (1+x1)==2)<;>cases q:(IntKind.i64.wrap (1+x1)==4)<;>simp [q,n2]
theorem al4 (x:dB):∃ r,IU x=some r∧awd r:=by
 obtain ⟨x1,h1⟩:=dG x.Client 4 (by omega) (by omega)
 obtain ⟨x2,h2,l2⟩:=yB x.Seq 9 (by omega) (by omega)
 obtain ⟨x3,h3,n3⟩:=aqH x.Kind x.Key x.Value x.Old
 obtain ⟨x4,h4⟩:=dG x.sH 16 (by omega) (by omega)
 obtain ⟨x5,h5⟩:=PS x.Text 12
 obtain ⟨x6,h6⟩:=PS x.Text 20
 obtain ⟨x7,h7⟩:=dG (IntKind.i64.wrap (Int.tdiv x.sH 16)) 8 (by omega) (by omega)
 obtain ⟨x8,h8⟩:=dG (IntKind.i64.wrap (Int.tdiv x.sH 16)) 9 (by omega) (by omega)
 obtain ⟨x9,h9⟩:=Gw (IntKind.i64.wrap (Int.tdiv x.sH 16))
 have h1:bE x.Client 4=some x1:=h1
 have h2:bE x.Seq 9=some (x2:Int):=h2
 have h4:bE x.sH 16=some x4:=h4
 have h5:HY x.Text 12=some x5:=h5
 have h6:HY x.Text 20=some x6:=h6
 have h7:bE (IntKind.i64.wrap (Int.tdiv x.sH 16)) 8=some x7:=h7
 have h8:bE (IntKind.i64.wrap (Int.tdiv x.sH 16)) 9=some x8:=h8
 have hs:IntKind.i64.wrap (1+(x2:Int))≠77:=by rw [bU (by omega) (by omega)];omega
 unfold IU
 simp only [h1,h2,h3,h4,h5,h6,h7,h8,h9,Option.bind_some]
 cases (x4==10)
 case true=>exact ⟨_,rfl,.inl hs⟩
 cases (x4==11)
 case true=>exact ⟨_,rfl,.inl hs⟩
 cases (x4==12)
 case true=>exact ⟨_,rfl,.inl hs⟩
 cases (x4==13)
 case true=>exact ⟨_,rfl,.inl hs⟩
 cases (x4==14)
 case true=>exact ⟨_,rfl,.inr n3⟩
 cases (x4==15)
 case true=>exact ⟨_,rfl,.inl (by simp)⟩
 exact ⟨_,rfl,.inl hs⟩
theorem al5 (n:Int):∃ v,xV n=some v∧v.length≤16:=by
 obtain ⟨k,hk,h⟩:=yB n 6 (by omega) (by omega)
 unfold xV
 rw [show (6:Int)=((6:Nat):Int) from rfl,hk,Option.bind_some,dI (by simpa using h),Option.bind_some]
 refine ⟨_,rfl, ?_⟩
 have:∀ v∈([[],[49],[50],[116,104,114,101,101],[115,105,120,116,101,101,110,32,98,121,116,101,115,32,105,116],[52]]:List (List UInt8)),v.length≤16:=by decide
 exact this _ (List.getElem_mem _)
theorem al6 (x:bf):∃ m,ZT x 5=some m∧LB m∧awd m.IK∧m.Path.length≤11∧m.Table.length≤5∧m.Answer.Value.length≤16:=by
 obtain ⟨x1,h1⟩:=dG x.Kind 10 (by omega) (by omega)
 have h1:bE x.Kind 10=some x1:=h1
 obtain ⟨x2,h2⟩:=dG x.From 5 (by omega) (by omega)
 have h2:bE x.From 5=some x2:=h2
 obtain ⟨x3,h3⟩:=dG x.To 5 (by omega) (by omega)
 have h3:bE x.To 5=some x3:=h3
 obtain ⟨x4,h4⟩:=dG x.eY 6 (by omega) (by omega)
 have h4:bE x.eY 6=some x4:=h4
 obtain ⟨x5,h5⟩:=dG x.Epoch 6 (by omega) (by omega)
 have h5:bE x.Epoch 6=some x5:=h5
 obtain ⟨x6,h6⟩:=dG x.Weight 9 (by omega) (by omega)
 have h6:bE x.Weight 9=some x6:=h6
 obtain ⟨x7,h7⟩:=dG x.Load 20 (by omega) (by omega)
 have h7:bE x.Load 20=some x7:=h7
 obtain ⟨x8,h8⟩:=dG x.qm 4 (by omega) (by omega)
 have h8:bE x.qm 4=some x8:=h8
 obtain ⟨x9,h9⟩:=dG x.Why 12 (by omega) (by omega)
 have h9:bE x.Why 12=some x9:=h9
 obtain ⟨lH,h14⟩:=dG x.sH 5 (by omega) (by omega)
 have h14:bE x.sH 5=some lH:=h14
 obtain ⟨x33,h33⟩:=dG x.sH 4 (by omega) (by omega)
 have h33:bE x.sH 4=some x33:=h33
 obtain ⟨WW,h37⟩:=dG x.sH 22 (by omega) (by omega)
 have h37:bE x.sH 22=some WW:=h37
 obtain ⟨x40,h40⟩:=dG x.Kind 14 (by omega) (by omega)
 have h40:bE x.Kind 14=some x40:=h40
 obtain ⟨x42,h42⟩:=dG x.Why 15 (by omega) (by omega)
 have h42:bE x.Why 15=some x42:=h42
 obtain ⟨x10,h10,v10⟩:=al5 x.Why
 obtain ⟨dV,h11,l11⟩:=ajC x.Table
 obtain ⟨cu,h12,n12⟩:=al4 x.Op
 obtain ⟨b13,h13⟩:=ahu cu
 obtain ⟨x35,h35,a35,b35⟩:=aht x.eY x.Epoch x.Ops 0
 obtain ⟨x38,h38⟩:=Gw x.qm
 obtain ⟨x39,h39⟩:=Gw x.From
 obtain ⟨x41,h41,a41,b41⟩:=ajA x.eY x.Epoch x.Ops (IntKind.i64.wrap (Int.tdiv x.sH 22))
 have j0:∃ y,J4 cu x 5 x1 x2 x3 x4 x5 x6 x7 x8 x9 x10 dV=some y∧awd ⟨y.1,y.2.1,⟨y.2.2.1,y.2.2.2.1,y.2.2.2.2.1,y.2.2.2.2.2⟩⟩:=by
  unfold J4
  simp only [h13,h14,Option.bind_some]
  cases b13
  ·cases decide (lH < 4)
   ·exact ⟨_,rfl,n12⟩
   ·exact ⟨_,rfl,.inl (by simp)⟩
  ·exact ⟨_,rfl,n12⟩
 obtain ⟨bR,h15,n15⟩:=j0
 have loop:∃ e,Vp x 5 x1 x2 x3 x4 x5 x6 x7 x8 bR x9 x10 dV (0,[])=some e∧e.length≤5:=by
  refine mW (λ(s:Int×List Int)=>5 - s.1.toNat) (λs=>∃ (i:Nat) (t:List Int),s=((i:Int),t)∧i≤5∧t.length=i) _ ?_ KK _ ⟨0,[],rfl,by omega,rfl⟩ (by have:=rO;simp only;omega)
  rintro s ⟨i,t,rfl,g1,g2⟩
  simp only [Dg,PL]
  by_cases c:i < x.Path.length
  case neg =>
   right
   rw [aV (by omega),cond_false]
   exact ⟨_,rfl,by omega⟩
  by_cases c2:i < 5
  case neg =>
   right
   rw [aZ (by omega),cond_true,aV (by omega),cond_false]
   exact ⟨_,rfl,by omega⟩
  left
  rw [aZ (by omega),cond_true,aZ (by omega),cond_true,Option.bind_some]
  simp only [jI,cond_true]
  obtain ⟨y,hy⟩:=dG x.Path[i] 5 (by omega) (by omega)
  have hy:bE x.Path[i] 5=some y:=hy
  rw [dI c,Option.bind_some,hy,Option.bind_some,jK (by unfold dh;simp;omega),bU (by omega) (by omega),cO]
  exact ⟨_,rfl,⟨i+1,_,rfl,by omega,by simp;omega⟩,by simp only;omega⟩
 obtain ⟨x32,h32,l32⟩:=loop
 have j4:∃ y,J5 x1 x x2 x3 x4 x5 x6 x7 x8 bR x9 x10 x32 dV=some y∧y.2.2.1.length≤9∧y.2.2.2.length≤9:=by
  unfold J5 PN
  simp only [h33,h35,Option.bind_some]
  cases (IntKind.i64.wrap (1+x1)==6)
  ·simp only [cond_false,Option.bind_some]
   cases (x33==1)
   ·exact ⟨_,rfl,by simp,by simp⟩
   ·exact ⟨_,rfl,a35,b35⟩
  ·exact ⟨_,rfl,a35,b35⟩
 obtain ⟨Bo,h36,a36,b36⟩:=j4
 unfold ZT
 simp only [h1,h2,h3,h4,h5,h6,h7,h8,h9,h10,h11,h12,h15,h32,h36,h37,h38,h39,h40,h41,h42,Option.bind_some]
 have s1:Bo.2.2.1.length < 1000000∧Bo.2.2.2.length < 1000000:=⟨by omega,by omega⟩
 have s2:x41.Pairs.length < 1000000∧x41.dX.length < 1000000:=⟨by omega,by omega⟩
 have s3:x32.length < 1000000:=by omega
 have s4:dV.length < 1000000:=by omega
 have s5:(x32++[1,2,3,4,5,6]).length < 1000000:=by simp;omega
 have p5:(x32++[1,2,3,4,5,6]).length≤11:=by simp;omega
 have p3:x32.length≤11:=by omega
 cases (WW==16)
 case true=>exact ⟨_,rfl,⟨s3,s4,s1⟩,n15,p3,l11,v10⟩
 cases (WW==17)
 case true=>exact ⟨_,rfl,⟨s3,s4,s1⟩,n15,p3,l11,v10⟩
 cases (WW==18)
 case true=>exact ⟨_,rfl,⟨s3,s4,s1⟩,n15,p3,l11,v10⟩
 cases (WW==19)
 case true=>exact ⟨_,rfl,⟨s3,s4,s2⟩,n15,p3,l11,v10⟩
 cases (WW==20)
 case true=>exact ⟨_,rfl,⟨s3,s4,s1⟩,n15,p3,l11,v10⟩
 cases (WW==21)
 case true =>
  simp only [cond_true,cond_false]
  rw [jK (by unfold dh;simp;omega)]
  exact ⟨_,rfl,⟨s5,s4,s1⟩,n15,p5,l11,v10⟩
 exact ⟨_,rfl,⟨s3,s4,s1⟩,n15,p3,l11,v10⟩
end Go.Proofs.YtohoggieaanllaaGreat
