import Derived.Test.YtohoggieaanllaaGreatKg
import Derived.Test.YtohoggieaanllaaGreatG4
set_option linter.all false
set_option linter.unusedSimpArgs false
set_option maxRecDepth 100000
namespace Go.Proofs.YtohoggieaanllaaGreat
theorem ahZ (r:aU):∃ b,ql r=some b:=by
 unfold ql Cz
 rw [SY,Option.bind_some]
 generalize (r.Client==0&&(r.Seq==0&&(r.Op.Kind==0&&(r.Op.Key==([]:List UInt8)&&(r.Op.Value==([]:List UInt8)&&(r.Op.Old==([]:List UInt8)&&true))))))=z
 cases z
 ·exact ⟨_,rfl⟩
 ·exact ⟨_,rfl⟩
theorem al9 (n:Int):∃ v,aar n=some v:=by
 unfold aar
 obtain ⟨v,hv⟩:=Hl n
 simp only [hv,Option.bind_some]
 split<;>exact ⟨_,rfl⟩
theorem aj5 (x:bO):∃ e,Ki x=some e:=by
 obtain ⟨y1,h1⟩:=dO x.Inc 4 (by omega) (by omega)
 obtain ⟨y2,h2⟩:=dO x.Status 3 (by omega) (by omega)
 obtain ⟨y3,h3⟩:=dO x.qZ 5 (by omega) (by omega)
 obtain ⟨y4,h4⟩:=dO x.Load 12 (by omega) (by omega)
 obtain ⟨y5,h5⟩:=dO x.Inc 19 (by omega) (by omega)
 obtain ⟨y6,h6⟩:=al9 x.qZ
 have h1:bG x.Inc 4=some y1:=h1
 have h2:bG x.Status 3=some y2:=h2
 have h3:bG x.qZ 5=some y3:=h3
 have h4:bG x.Load 12=some y4:=h4
 have h5:bG x.Inc 19=some y5:=h5
 unfold Ki
 simp only [h1,h2,h3,h4,h5,h6,Option.bind_some]
 cases (y5==18)<;>exact ⟨_,rfl⟩
theorem aj6 (l:List bO):∃ t,Om l 5=some t∧t.length≤5:=by
 have loop:∃ e,Ol l 5 (0,[])=some e∧e.length≤5:=by
  refine kX (λ(s:Int×List aA)=>5 - s.1.toNat) (λs=>∃ (i:Nat) (t:List aA),s=((i:Int),t)∧i≤5∧t.length=i) _ ?_ KK _ ⟨0,[],rfl,by omega,rfl⟩ (by have:=kr;simp only;omega)
  rintro s ⟨i,t,rfl,g1,g2⟩
  simp only [yJ,II]
  by_cases c:i < l.length
  case neg =>
   right
   rw [aT (by omega),cond_false]
   exact ⟨_,rfl,by omega⟩
  by_cases c2:i < 5
  case neg =>
   right
   rw [bf (by omega),cond_true,aT (by omega),cond_false]
   exact ⟨_,rfl,by omega⟩
  left
  rw [bf (by omega),cond_true,bf (by omega),cond_true,Option.bind_some]
  simp only [jO,cond_true]
  obtain ⟨y,hy⟩:=aj5 l[i]
  rw [dP c,Option.bind_some,hy,Option.bind_some,jH (by unfold dx;simp;omega),bM (by omega) (by omega),dA]
  exact ⟨_,rfl,⟨i+1,_,rfl,by omega,by simp;omega⟩,by simp only;omega⟩
 obtain ⟨e,e1,e2⟩:=loop
 unfold Om
 rw [e1]
 exact ⟨e,rfl,e2⟩
theorem akV (a b:aM):(a.Kind=b.Kind∧a.From=b.From∧a.To=b.To∧a.dR=b.dR∧a.Epoch=b.Epoch∧a.Weight=b.Weight∧a.Load=b.Load∧a.kT=b.kT∧a.dL=b.dL∧a.Fa=b.Fa∧a.Answer=b.Answer∧a.Path=b.Path∧a.Table=b.Table∧a.mZ=b.mZ)↔a=b:=by
 obtain ⟨⟩:=a;obtain ⟨⟩:=b
 simp
theorem akW (x y:aA):(x.Inc=y.Inc∧x.Status=y.Status∧x.qZ=y.qZ∧x.Load=y.Load∧x.dL=y.dL)↔x=y:=by
 obtain ⟨a,b,c,d,e⟩:=x;obtain ⟨a',b',c',d',e'⟩:=y
 simp
instance:DecidableEq aA:=λx y=>decidable_of_iff _ (akW x y)
theorem ad4 (a b:List aA) (h:a.length < 1000000):BH a b=some (decide (a=b)):=by
 unfold BH
 by_cases c:a.length=b.length
 ·rw [gX (by omega),cond_false]
  obtain ⟨e,e1,e2⟩:=S9 a b (λx y=>(x.Inc==y.Inc&&(x.Status==y.Status&&(x.qZ==y.qZ&&(x.Load==y.Load&&(x.dL==y.dL&&true)))))) (λx y=>by rw [← akW];simp) h c (qP a b) (λ_=>rfl)
  unfold EH
  rw [e1,Option.bind_some,e2]
  by_cases q:a=b<;>simp [q]
 ·rw [mD (by omega),aT (λe=>c (by rw [e]))];rfl
theorem ah0 (x y:aB):(x.Why==y.Why&&(x.Value==y.Value&&true))=true↔x=y:=by
 obtain ⟨a,b⟩:=x;obtain ⟨a',b'⟩:=y
 simp
theorem axS (a b:aM) (h:EM a):∃ v,zM a b=some v∧(v=true↔a=b):=by
 unfold zM Dm
 rw [ad4 a.Table b.Table h.2.1,au7 a.mZ b.mZ h.2.2.1 h.2.2.2]
 rw [← akV]
 have no:∀ {P:Prop},¬ P→(false=true↔P):=by
  intro P h
  constructor
  ·intro e
   cases e
  ·intro p
   exact (h p).elim
 by_cases k0:a.Kind=b.Kind
 case neg=>exact ⟨false,by rw [mD k0];rfl,no (by rintro ⟨p,_⟩;exact k0 p)⟩
 by_cases k1:a.From=b.From
 case neg=>exact ⟨false,by rw [gX k0,cond_false,mD k1];rfl,no (by rintro ⟨_,p,_⟩;exact k1 p)⟩
 by_cases k2:a.To=b.To
 case neg=>exact ⟨false,by rw [gX k0,cond_false,gX k1,cond_false,mD k2];rfl,no (by rintro ⟨_,_,p,_⟩;exact k2 p)⟩
 by_cases k3:a.dR=b.dR
 case neg=>exact ⟨false,by rw [gX k0,cond_false,gX k1,cond_false,gX k2,cond_false,mD k3];rfl,no (by rintro ⟨_,_,_,p,_⟩;exact k3 p)⟩
 by_cases k4:a.Epoch=b.Epoch
 case neg=>exact ⟨false,by rw [gX k0,cond_false,gX k1,cond_false,gX k2,cond_false,gX k3,cond_false,mD k4];rfl,no (by rintro ⟨_,_,_,_,p,_⟩;exact k4 p)⟩
 by_cases k5:a.Weight=b.Weight
 case neg=>exact ⟨false,by rw [gX k0,cond_false,gX k1,cond_false,gX k2,cond_false,gX k3,cond_false,gX k4,cond_false,mD k5];rfl,no (by rintro ⟨_,_,_,_,_,p,_⟩;exact k5 p)⟩
 by_cases k6:a.Load=b.Load
 case neg=>exact ⟨false,by rw [gX k0,cond_false,gX k1,cond_false,gX k2,cond_false,gX k3,cond_false,gX k4,cond_false,gX k5,cond_false,mD k6];rfl,no (by rintro ⟨_,_,_,_,_,_,p,_⟩;exact k6 p)⟩
 by_cases k7:a.kT=b.kT
 case neg=>exact ⟨false,by rw [gX k0,cond_false,gX k1,cond_false,gX k2,cond_false,gX k3,cond_false,gX k4,cond_false,gX k5,cond_false,gX k6,cond_false,mD k7];rfl,no (by rintro ⟨_,_,_,_,_,_,_,p,_⟩;exact k7 p)⟩
 rw [gX k0,cond_false,gX k1,cond_false,gX k2,cond_false,gX k3,cond_false,gX k4,cond_false,gX k5,cond_false,gX k6,cond_false,gX k7,cond_false]
 by_cases k8:a.dL=b.dL
 case neg=>exact ⟨false,by rw [show (a.dL==b.dL)=false by simpa using k8];rfl,no (by rintro ⟨_,_,_,_,_,_,_,_,p,_⟩;exact k8 p)⟩
 rw [show (a.dL==b.dL)=true by simpa using k8,Zi]
 by_cases k9:a.Fa=b.Fa
 case neg=>exact ⟨false,by rw [aT k9];rfl,no (by rintro ⟨_,_,_,_,_,_,_,_,_,p,_⟩;exact k9 p)⟩
 rw [bf k9]
 by_cases ka:a.Answer=b.Answer
 case neg=>exact ⟨false,by rw [show (a.Answer.Why==b.Answer.Why&&(a.Answer.Value==b.Answer.Value&&true))=false by rw [Bool.eq_false_iff];exact λe=>ka ((ah0 _ _).1 e)];rfl,no (by rintro ⟨_,_,_,_,_,_,_,_,_,_,p,_⟩;exact ka p)⟩
 rw [(ah0 a.Answer b.Answer).2 ka]
 by_cases kb:a.Path.length=b.Path.length
 case neg=>exact ⟨false,by rw [mD (show (a.Path.length:Int)≠_ by omega)];rfl,no (by rintro ⟨_,_,_,_,_,_,_,_,_,_,_,p,_⟩;exact kb (by rw [p]))⟩
 rw [gX (show (a.Path.length:Int)=_ by omega)]
 by_cases kc:a.Table=b.Table
 case neg=>exact ⟨false,by rw [aT kc];rfl,no (by rintro ⟨_,_,_,_,_,_,_,_,_,_,_,_,p,_⟩;exact kc p)⟩
 rw [bf kc]
 obtain ⟨e,e1,e2⟩:=S9 a.Path b.Path (λx y=>x==y) (λx y=>by simp) h.1 kb (uw a b) (λ_=>rfl)
 have e1:JL a b 0=some e:=e1
 have hi:jO (.inr ():Unit⊕Unit)=false:=rfl
 simp only [Bool.not_true,cond_false,Option.bind_some,hi,e1]
 by_cases kd:a.Path=b.Path
 case neg=>exact ⟨false,by rw [e2,bf kd];rfl,no (by rintro ⟨_,_,_,_,_,_,_,_,_,_,_,p,_⟩;exact kd p)⟩
 rw [e2,aT (λh=>h kd),cond_false]
 refine ⟨_,rfl, ?_⟩
 rw [decide_eq_true_eq,afu]
 exact ⟨λe=>⟨k0,k1,k2,k3,k4,k5,k6,k7,k8,k9,ka,kd,kc,e⟩,λe=>e.2.2.2.2.2.2.2.2.2.2.2.2.2⟩
theorem ad5 {α β:Type} (c:Bool) (a b:Option α) (f:α→Option β):(cond c a b).bind f=cond c (a.bind f) (b.bind f):=by cases c<;>rfl
theorem akX {α β:Type} (c:Bool) (a:Option α) (f:α→Option β):(gd c a).bind f=gd c (a.bind f):=by cases c<;>rfl
def unI (t:Int×Int×List av×List au):aC:=⟨t.1,t.2.1,t.2.2.1,t.2.2.2⟩
theorem auC (k e:Int) (l:List dH) (b:Int):(tq k e l b).bind (λt=>some (unI t))=Gm k e l b:=by
 unfold tq Gm
 simp only [Option.bind_assoc,ad5,akX,Option.bind_some]
 rfl
def unM (t:Int×Int×Int×Int×Int×Int×Int×Int×Bool×Int×Int×Int×List UInt8×List UInt8×List UInt8×Int×List UInt8×Int×Int×List Int×List aA×List av×List au):aM:=⟨t.1,t.2.1,t.2.2.1,t.2.2.2.1,t.2.2.2.2.1,t.2.2.2.2.2.1,t.2.2.2.2.2.2.1,t.2.2.2.2.2.2.2.1,t.2.2.2.2.2.2.2.2.1,⟨t.2.2.2.2.2.2.2.2.2.1,t.2.2.2.2.2.2.2.2.2.2.1,⟨t.2.2.2.2.2.2.2.2.2.2.2.1,t.2.2.2.2.2.2.2.2.2.2.2.2.1,t.2.2.2.2.2.2.2.2.2.2.2.2.2.1,t.2.2.2.2.2.2.2.2.2.2.2.2.2.2.1⟩⟩,⟨t.2.2.2.2.2.2.2.2.2.2.2.2.2.2.2.1,t.2.2.2.2.2.2.2.2.2.2.2.2.2.2.2.2.1⟩,t.2.2.2.2.2.2.2.2.2.2.2.2.2.2.2.2.2.2.2.1,t.2.2.2.2.2.2.2.2.2.2.2.2.2.2.2.2.2.2.2.2.1,⟨t.2.2.2.2.2.2.2.2.2.2.2.2.2.2.2.2.2.1,t.2.2.2.2.2.2.2.2.2.2.2.2.2.2.2.2.2.2.1,t.2.2.2.2.2.2.2.2.2.2.2.2.2.2.2.2.2.2.2.2.2.1,t.2.2.2.2.2.2.2.2.2.2.2.2.2.2.2.2.2.2.2.2.2.2⟩⟩
theorem axT (x:bA) (h:Int):(DY x h).bind (λt=>some (unM t))=Gn x h:=by
 unfold DY Gn
 simp only [Option.bind_assoc,ad5,akX,Option.bind_some,← auC]
 rfl
def other:List UInt8:=[111,116,104,101,114]
def av2 (q:aU):Prop:=q.Seq≠77∨q.Op.Key≠other
theorem ama (n:Int):∃ v,LM n=some v∧v≠other:=by
 obtain ⟨k,hk,h⟩:=BZ n 16 (by omega) (by omega)
 unfold LM
 rw [show (16:Int)=((16:Nat):Int) from rfl,hk,Option.bind_some,dP (by simpa using h),Option.bind_some]
 refine ⟨_,rfl, ?_⟩
 have:∀ v∈([[97],[98],[99],[100],[101],[102],[103],[104],[107,97],[107,98],[107,99],[107,100],[120],[121],[122,122],[101,105,103,104,116,107,101,121]]:List (List UInt8)),v≠other:=by decide
 exact this _ (List.getElem_mem _)
theorem aqG (a b c d:Int):∃ o,aay a b c d=some o∧o.Key≠other:=by
 obtain ⟨x1,h1⟩:=dO a 4 (by omega) (by omega)
 obtain ⟨x2,h2,n2⟩:=ama b
 obtain ⟨x4,h4⟩:=Me c
 obtain ⟨x6,h6⟩:=Me d
 have k4:((4:Nat):Int)=4:=rfl
 rw [k4] at h1
 unfold aay
 rw [h1,Option.bind_some,h2,Option.bind_some]
 unfold Oq Oo
 rw [h4,h6]
 simp only [Option.bind_some]
 cases (IntKind.i64.wrap (1+x1)==2)<;>cases q:(IntKind.i64.wrap (1+x1)==4)<;>simp [q,n2]
theorem amb (x:dH):∃ r,Jo x=some r∧av2 r:=by
 obtain ⟨x1,h1⟩:=dO x.Client 4 (by omega) (by omega)
 obtain ⟨x2,h2,l2⟩:=BZ x.Seq 9 (by omega) (by omega)
 obtain ⟨x3,h3,n3⟩:=aqG x.Kind x.Key x.Value x.Old
 obtain ⟨x4,h4⟩:=dO x.ug 16 (by omega) (by omega)
 obtain ⟨x5,h5⟩:=Qn x.Text 12
 obtain ⟨x6,h6⟩:=Qn x.Text 20
 obtain ⟨x7,h7⟩:=dO (IntKind.i64.wrap (Int.tdiv x.ug 16)) 8 (by omega) (by omega)
 obtain ⟨x8,h8⟩:=dO (IntKind.i64.wrap (Int.tdiv x.ug 16)) 9 (by omega) (by omega)
 obtain ⟨x9,h9⟩:=Hl (IntKind.i64.wrap (Int.tdiv x.ug 16))
 have h1:bG x.Client 4=some x1:=h1
 have h2:bG x.Seq 9=some (x2:Int):=h2
 have h4:bG x.ug 16=some x4:=h4
 have h5:IJ x.Text 12=some x5:=h5
 have h6:IJ x.Text 20=some x6:=h6
 have h7:bG (IntKind.i64.wrap (Int.tdiv x.ug 16)) 8=some x7:=h7
 have h8:bG (IntKind.i64.wrap (Int.tdiv x.ug 16)) 9=some x8:=h8
 have hs:IntKind.i64.wrap (1+(x2:Int))≠77:=by rw [bM (by omega) (by omega)];omega
 unfold Jo
 simp only [h1,h2,h3,h4,h5,h6,h7,h8,h9,Option.bind_some]
 cases (x4==10)
 case true=>exact ⟨_,rfl,.inl hs⟩
 cases (x4==11)
 case true=>exact ⟨_,rfl,.inl hs⟩
 cases (x4==12)
 case true=>exact ⟨_,rfl,.inl hs⟩
 cases (x4==13)
 case true=>exact ⟨_,rfl,.inl hs⟩
 cases (x4==14)
 case true=>exact ⟨_,rfl,.inr n3⟩
 cases (x4==15)
 case true=>exact ⟨_,rfl,.inl (by simp)⟩
 exact ⟨_,rfl,.inl hs⟩
theorem amc (n:Int):∃ v,yH n=some v∧v.length≤16:=by
 obtain ⟨k,hk,h⟩:=BZ n 6 (by omega) (by omega)
 unfold yH
 rw [show (6:Int)=((6:Nat):Int) from rfl,hk,Option.bind_some,dP (by simpa using h),Option.bind_some]
 refine ⟨_,rfl, ?_⟩
 have:∀ v∈([[],[49],[50],[116,104,114,101,101],[115,105,120,116,101,101,110,32,98,121,116,101,115,32,105,116],[52]]:List (List UInt8)),v.length≤16:=by decide
 exact this _ (List.getElem_mem _)
theorem amd (x:bA):∃ m,Gn x 5=some m∧EM m∧av2 m.Fa∧m.Path.length≤11∧m.Table.length≤5∧m.Answer.Value.length≤16:=by
 obtain ⟨x1,h1⟩:=dO x.Kind 10 (by omega) (by omega)
 have h1:bG x.Kind 10=some x1:=h1
 obtain ⟨x2,h2⟩:=dO x.From 5 (by omega) (by omega)
 have h2:bG x.From 5=some x2:=h2
 obtain ⟨x3,h3⟩:=dO x.To 5 (by omega) (by omega)
 have h3:bG x.To 5=some x3:=h3
 obtain ⟨x4,h4⟩:=dO x.dR 6 (by omega) (by omega)
 have h4:bG x.dR 6=some x4:=h4
 obtain ⟨x5,h5⟩:=dO x.Epoch 6 (by omega) (by omega)
 have h5:bG x.Epoch 6=some x5:=h5
 obtain ⟨x6,h6⟩:=dO x.Weight 9 (by omega) (by omega)
 have h6:bG x.Weight 9=some x6:=h6
 obtain ⟨x7,h7⟩:=dO x.Load 20 (by omega) (by omega)
 have h7:bG x.Load 20=some x7:=h7
 obtain ⟨x8,h8⟩:=dO x.kT 4 (by omega) (by omega)
 have h8:bG x.kT 4=some x8:=h8
 obtain ⟨x9,h9⟩:=dO x.Why 12 (by omega) (by omega)
 have h9:bG x.Why 12=some x9:=h9
 obtain ⟨m_,h14⟩:=dO x.ug 5 (by omega) (by omega)
 have h14:bG x.ug 5=some m_:=h14
 obtain ⟨x33,h33⟩:=dO x.ug 4 (by omega) (by omega)
 have h33:bG x.ug 4=some x33:=h33
 obtain ⟨Ur,h37⟩:=dO x.ug 22 (by omega) (by omega)
 have h37:bG x.ug 22=some Ur:=h37
 obtain ⟨x40,h40⟩:=dO x.Kind 14 (by omega) (by omega)
 have h40:bG x.Kind 14=some x40:=h40
 obtain ⟨x42,h42⟩:=dO x.Why 15 (by omega) (by omega)
 have h42:bG x.Why 15=some x42:=h42
 obtain ⟨x10,h10,v10⟩:=amc x.Why
 obtain ⟨bY,h11,l11⟩:=aj6 x.Table
 obtain ⟨dD,h12,n12⟩:=amb x.Op
 obtain ⟨b13,h13⟩:=ahZ dD
 obtain ⟨x35,h35,a35,b35⟩:=ahY x.dR x.Epoch x.Ops 0
 obtain ⟨x38,h38⟩:=Hl x.kT
 obtain ⟨x39,h39⟩:=Hl x.From
 obtain ⟨x41,h41,a41,b41⟩:=aj4 x.dR x.Epoch x.Ops (IntKind.i64.wrap (Int.tdiv x.ug 22))
 have j0:∃ y,KA dD x 5 x1 x2 x3 x4 x5 x6 x7 x8 x9 x10 bY=some y∧av2 ⟨y.1,y.2.1,⟨y.2.2.1,y.2.2.2.1,y.2.2.2.2.1,y.2.2.2.2.2⟩⟩:=by
  unfold KA
  simp only [h13,h14,Option.bind_some]
  cases b13
  ·cases decide (m_ < 4)
   ·exact ⟨_,rfl,n12⟩
   ·exact ⟨_,rfl,.inl (by simp)⟩
  ·exact ⟨_,rfl,n12⟩
 obtain ⟨bX,h15,n15⟩:=j0
 have loop:∃ e,Wm x 5 x1 x2 x3 x4 x5 x6 x7 x8 bX x9 x10 bY (0,[])=some e∧e.length≤5:=by
  refine kX (λ(s:Int×List Int)=>5 - s.1.toNat) (λs=>∃ (i:Nat) (t:List Int),s=((i:Int),t)∧i≤5∧t.length=i) _ ?_ KK _ ⟨0,[],rfl,by omega,rfl⟩ (by have:=kr;simp only;omega)
  rintro s ⟨i,t,rfl,g1,g2⟩
  simp only [DX,Qk]
  by_cases c:i < x.Path.length
  case neg =>
   right
   rw [aT (by omega),cond_false]
   exact ⟨_,rfl,by omega⟩
  by_cases c2:i < 5
  case neg =>
   right
   rw [bf (by omega),cond_true,aT (by omega),cond_false]
   exact ⟨_,rfl,by omega⟩
  left
  rw [bf (by omega),cond_true,bf (by omega),cond_true,Option.bind_some]
  simp only [jO,cond_true]
  obtain ⟨y,hy⟩:=dO x.Path[i] 5 (by omega) (by omega)
  have hy:bG x.Path[i] 5=some y:=hy
  rw [dP c,Option.bind_some,hy,Option.bind_some,jH (by unfold dx;simp;omega),bM (by omega) (by omega),dA]
  exact ⟨_,rfl,⟨i+1,_,rfl,by omega,by simp;omega⟩,by simp only;omega⟩
 obtain ⟨x32,h32,l32⟩:=loop
 have j4:∃ y,KC x1 x x2 x3 x4 x5 x6 x7 x8 bX x9 x10 x32 bY=some y∧y.2.2.1.length≤9∧y.2.2.2.length≤9:=by
  unfold KC Ql
  simp only [h33,h35,Option.bind_some]
  cases (IntKind.i64.wrap (1+x1)==6)
  ·simp only [cond_false,Option.bind_some]
   cases (x33==1)
   ·exact ⟨_,rfl,by simp,by simp⟩
   ·exact ⟨_,rfl,a35,b35⟩
  ·exact ⟨_,rfl,a35,b35⟩
 obtain ⟨Aj,h36,a36,b36⟩:=j4
 unfold Gn
 simp only [h1,h2,h3,h4,h5,h6,h7,h8,h9,h10,h11,h12,h15,h32,h36,h37,h38,h39,h40,h41,h42,Option.bind_some]
 have s1:Aj.2.2.1.length < 1000000∧Aj.2.2.2.length < 1000000:=⟨by omega,by omega⟩
 have s2:x41.Pairs.length < 1000000∧x41.dN.length < 1000000:=⟨by omega,by omega⟩
 have s3:x32.length < 1000000:=by omega
 have s4:bY.length < 1000000:=by omega
 have s5:(x32++[1,2,3,4,5,6]).length < 1000000:=by simp;omega
 have p5:(x32++[1,2,3,4,5,6]).length≤11:=by simp;omega
 have p3:x32.length≤11:=by omega
 cases (Ur==16)
 case true=>exact ⟨_,rfl,⟨s3,s4,s1⟩,n15,p3,l11,v10⟩
 cases (Ur==17)
 case true=>exact ⟨_,rfl,⟨s3,s4,s1⟩,n15,p3,l11,v10⟩
 cases (Ur==18)
 case true=>exact ⟨_,rfl,⟨s3,s4,s1⟩,n15,p3,l11,v10⟩
 cases (Ur==19)
 case true=>exact ⟨_,rfl,⟨s3,s4,s2⟩,n15,p3,l11,v10⟩
 cases (Ur==20)
 case true=>exact ⟨_,rfl,⟨s3,s4,s1⟩,n15,p3,l11,v10⟩
 cases (Ur==21)
 case true =>
  simp only [cond_true,cond_false]
  rw [jH (by unfold dx;simp;omega)]
  exact ⟨_,rfl,⟨s5,s4,s1⟩,n15,p5,l11,v10⟩
 exact ⟨_,rfl,⟨s3,s4,s1⟩,n15,p3,l11,v10⟩
theorem av3 (a b:List aA) (h:a.length < 1000000):iH a b=some (decide (a=b)):=ad4 a b h
theorem au9 (a b:aM) (h:EM a):∃ v,BG a b=some v∧(v=true↔a=b):=by
 unfold BG Bh
 have e1:=aqy [a.Kind,a.From,a.To,a.dR,a.Epoch,a.Weight,a.Load,a.kT] [b.Kind,b.From,b.To,b.dR,b.Epoch,b.Weight,b.Load,b.kT] (by simp)
 have e2:FQ a.mZ b.mZ=some (decide (a.mZ=b.mZ)):=aj2 a.mZ b.mZ h.2.2
 have e3:(a.Answer.Why==b.Answer.Why&&(a.Answer.Value==b.Answer.Value&&true))=decide (a.Answer.Why=b.Answer.Why∧a.Answer.Value=b.Answer.Value):=by
  rw [Bool.eq_iff_iff]
  simp
 have e4:(a.dL==b.dL)=decide (a.dL=b.dL):=by
  rw [Bool.eq_iff_iff]
  simp
 have key:(decide ([a.Kind,a.From,a.To,a.dR,a.Epoch,a.Weight,a.Load,a.kT]=[b.Kind,b.From,b.To,b.dR,b.Epoch,b.Weight,b.Load,b.kT])&&(decide (a.dL=b.dL)&&(decide (a.Fa=b.Fa)&&(decide (a.Answer.Why=b.Answer.Why∧a.Answer.Value=b.Answer.Value)&&(decide (a.Path=b.Path)&&(decide (a.Table=b.Table)&&decide (a.mZ=b.mZ)))))))=true↔a=b:=by
  rw [← akV]
  have ae:(a.Answer.Why=b.Answer.Why∧a.Answer.Value=b.Answer.Value)↔a.Answer=b.Answer:=by
   obtain ⟨x,y⟩:=a.Answer;obtain ⟨x',y'⟩:=b.Answer
   simp
  simp only [Bool.and_eq_true,decide_eq_true_eq,ae,List.cons.injEq,and_true,and_assoc]
 simp only [Option.bind_some,e1,e2,e3,e4,Zi,aqy a.Path b.Path h.1,av3 a.Table b.Table h.2.1]
 revert key
 generalize decide ([a.Kind,a.From,a.To,a.dR,a.Epoch,a.Weight,a.Load,a.kT]=[b.Kind,b.From,b.To,b.dR,b.Epoch,b.Weight,b.Load,b.kT])=z1
 generalize decide (a.dL=b.dL)=z2
 generalize decide (a.Fa=b.Fa)=z3
 generalize decide (a.Answer.Why=b.Answer.Why∧a.Answer.Value=b.Answer.Value)=z4
 generalize decide (a.Path=b.Path)=z5
 generalize decide (a.Table=b.Table)=z6
 generalize decide (a.mZ=b.mZ)=z7
 intro key
 refine ⟨_, ?_,key⟩
 cases z1<;>cases z2<;>cases z3<;>cases z4<;>cases z5<;>cases z6<;>rfl
end Go.Proofs.YtohoggieaanllaaGreat
