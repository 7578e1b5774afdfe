import Derived.Test.YtohoggieaanllaaGreatKg
import Derived.Test.YtohoggieaanllaaGreatG4
set_option linter.all false
set_option linter.unusedSimpArgs false
set_option maxRecDepth 100000
namespace Go.Proofs.YtohoggieaanllaaGreat
theorem Z0 (r:aX):∃ b,AQ r=some b:=by
 unfold AQ FN
 rw [TP,Option.bind_some]
 generalize (r.Client==0&&(r.Seq==0&&(r.Op.Kind==0&&(r.Op.Key==([]:List UInt8)&&(r.Op.Value==([]:List UInt8)&&(r.Op.Old==([]:List UInt8)&&true))))))=z
 cases z
 ·exact ⟨_,rfl⟩
 ·exact ⟨_,rfl⟩
theorem adT (n:Int):∃ v,SE n=some v:=by
 unfold SE
 obtain ⟨v,hv⟩:=BZ n
 simp only [hv,Option.bind_some]
 split<;>exact ⟨_,rfl⟩
theorem abQ (x:bD):∃ e,Ev x=some e:=by
 obtain ⟨y1,h1⟩:=bZ x.Inc 4 (by omega) (by omega)
 obtain ⟨y2,h2⟩:=bZ x.Status 3 (by omega) (by omega)
 obtain ⟨y3,h3⟩:=bZ x.nV 5 (by omega) (by omega)
 obtain ⟨y4,h4⟩:=bZ x.Load 12 (by omega) (by omega)
 obtain ⟨y5,h5⟩:=bZ x.Inc 19 (by omega) (by omega)
 obtain ⟨y6,h6⟩:=adT x.nV
 have h1:bf x.Inc 4=some y1:=h1
 have h2:bf x.Status 3=some y2:=h2
 have h3:bf x.nV 5=some y3:=h3
 have h4:bf x.Load 12=some y4:=h4
 have h5:bf x.Inc 19=some y5:=h5
 unfold Ev
 simp only [h1,h2,h3,h4,h5,h6,Option.bind_some]
 cases (y5==18)<;>exact ⟨_,rfl⟩
theorem abR (l:List bD):∃ t,Ij l 5=some t∧t.length≤5:=by
 have loop:∃ e,Ih l 5 (0,[])=some e∧e.length≤5:=by
  refine pO (λ(s:Int×List av)=>5 - s.1.toNat) (λs=>∃ (i:Nat) (t:List av),s=((i:Int),t)∧i≤5∧t.length=i) _ ?_ KK _ ⟨0,[],rfl,by omega,rfl⟩ (by have:=FI;simp only;omega)
  rintro s ⟨i,t,rfl,g1,g2⟩
  simp only [uj,CV]
  by_cases c:i < l.length
  case neg =>
   right
   rw [aZ (by omega),cond_false]
   exact ⟨_,rfl,by omega⟩
  by_cases c2:i < 5
  case neg =>
   right
   rw [bI (by omega),cond_true,aZ (by omega),cond_false]
   exact ⟨_,rfl,by omega⟩
  left
  rw [bI (by omega),cond_true,bI (by omega),cond_true,Option.bind_some]
  simp only [mW,cond_true]
  obtain ⟨y,hy⟩:=abQ l[i]
  rw [fA c,Option.bind_some,hy,Option.bind_some,uI (by unfold dB;simp;omega),fG (by omega) (by omega),fE]
  exact ⟨_,rfl,⟨i+1,_,rfl,by omega,by simp;omega⟩,by simp only;omega⟩
 obtain ⟨e,e1,e2⟩:=loop
 unfold Ij
 rw [e1]
 exact ⟨e,rfl,e2⟩
theorem akH (a b:aO):(a.Kind=b.Kind∧a.From=b.From∧a.To=b.To∧a.fB=b.fB∧a.Epoch=b.Epoch∧a.Weight=b.Weight∧a.Load=b.Load∧a.m_=b.m_∧a.dw=b.dw∧a.Bl=b.Bl∧a.Answer=b.Answer∧a.Path=b.Path∧a.Table=b.Table∧a.nK=b.nK)↔a=b:=by
 obtain ⟨⟩:=a;obtain ⟨⟩:=b
 simp
theorem acN (x y:av):(x.Inc=y.Inc∧x.Status=y.Status∧x.nV=y.nV∧x.Load=y.Load∧x.dw=y.dw)↔x=y:=by
 obtain ⟨a,b,c,d,e⟩:=x;obtain ⟨a',b',c',d',e'⟩:=y
 simp
instance:DecidableEq av:=λx y=>decidable_of_iff _ (acN x y)
theorem adU (a b:List av) (h:a.length < 1000000):xD a b=some (decide (a=b)):=by
 unfold xD
 by_cases c:a.length=b.length
 ·rw [acw (by omega),cond_false]
  obtain ⟨e,e1,e2⟩:=XJ a b (λx y=>(x.Inc==y.Inc&&(x.Status==y.Status&&(x.nV==y.nV&&(x.Load==y.Load&&(x.dw==y.dw&&true)))))) (λx y=>by rw [← acN];simp) h c (mK a b) (λ_=>rfl)
  unfold zW
  rw [e1,Option.bind_some,e2]
  by_cases q:a=b<;>simp [q]
 ·rw [acv (by omega),aZ (λe=>c (by rw [e]))];rfl
theorem Wm {α β:Type} (c:Bool) (a b:Option α) (f:α→Option β):(cond c a b).bind f=cond c (a.bind f) (b.bind f):=by cases c<;>rfl
theorem acO {α β:Type} (c:Bool) (a:Option α) (f:α→Option β):(gd c a).bind f=gd c (a.bind f):=by cases c<;>rfl
def unI (t:Int×Int×List au×List ak):aD:=⟨t.1,t.2.1,t.2.2.1,t.2.2.2⟩
theorem akI (k e:Int) (l:List bU) (b:Int):(oF k e l b).bind (λt=>some (unI t))=Bw k e l b:=by
 unfold oF Bw
 simp only [Option.bind_assoc,Wm,acO,Option.bind_some]
 rfl
def NH (t:Int×Int×Int×Int×Int×Int×Int×Int×Bool×Int×Int×Int×List UInt8×List UInt8×List UInt8×Int×List UInt8×Int×Int×List Int×List av×List au×List ak):aO:=⟨t.1,t.2.1,t.2.2.1,t.2.2.2.1,t.2.2.2.2.1,t.2.2.2.2.2.1,t.2.2.2.2.2.2.1,t.2.2.2.2.2.2.2.1,t.2.2.2.2.2.2.2.2.1,⟨t.2.2.2.2.2.2.2.2.2.1,t.2.2.2.2.2.2.2.2.2.2.1,⟨t.2.2.2.2.2.2.2.2.2.2.2.1,t.2.2.2.2.2.2.2.2.2.2.2.2.1,t.2.2.2.2.2.2.2.2.2.2.2.2.2.1,t.2.2.2.2.2.2.2.2.2.2.2.2.2.2.1⟩⟩,⟨t.2.2.2.2.2.2.2.2.2.2.2.2.2.2.2.1,t.2.2.2.2.2.2.2.2.2.2.2.2.2.2.2.2.1⟩,t.2.2.2.2.2.2.2.2.2.2.2.2.2.2.2.2.2.2.2.1,t.2.2.2.2.2.2.2.2.2.2.2.2.2.2.2.2.2.2.2.2.1,⟨t.2.2.2.2.2.2.2.2.2.2.2.2.2.2.2.2.2.1,t.2.2.2.2.2.2.2.2.2.2.2.2.2.2.2.2.2.2.1,t.2.2.2.2.2.2.2.2.2.2.2.2.2.2.2.2.2.2.2.2.2.1,t.2.2.2.2.2.2.2.2.2.2.2.2.2.2.2.2.2.2.2.2.2.2⟩⟩
theorem anm (x:bg) (h:Int):(Bz x h).bind (λt=>some (NH t))=IL x h:=by
 unfold Bz IL
 simp only [Option.bind_assoc,Wm,acO,Option.bind_some,← akI]
 rfl
def other:List UInt8:=[111,116,104,101,114]
def al3 (q:aX):Prop:=q.Seq≠77∨q.Op.Key≠other
theorem adV (n:Int):∃ v,FM n=some v∧v≠other:=by
 obtain ⟨k,hk,h⟩:=zH n 16 (by omega) (by omega)
 unfold FM
 rw [show (16:Int)=((16:Nat):Int) from rfl,hk,Option.bind_some,fA (by simpa using h),Option.bind_some]
 refine ⟨_,rfl, ?_⟩
 have:∀ v∈([[97],[98],[99],[100],[101],[102],[103],[104],[107,97],[107,98],[107,99],[107,100],[120],[121],[122,122],[101,105,103,104,116,107,101,121]]:List (List UInt8)),v≠other:=by decide
 exact this _ (List.getElem_mem _)
theorem ahY (a b c d:Int):∃ o,SN a b c d=some o∧o.Key≠other:=by
 obtain ⟨x1,h1⟩:=bZ a 4 (by omega) (by omega)
 obtain ⟨x2,h2,n2⟩:=adV b
 obtain ⟨x4,h4⟩:=F5 c
 obtain ⟨x6,h6⟩:=F5 d
 have k4:((4:Nat):Int)=4:=rfl
 rw [k4] at h1
 unfold SN
 rw [h1,Option.bind_some,h2,Option.bind_some]
 unfold Il Ik
 rw [h4,h6]
 simp only [Option.bind_some]
 cases (IntKind.i64.wrap (1+x1)==2)<;>cases q:(IntKind.i64.wrap (1+x1)==4)<;>simp [q,n2]
theorem adW (x:bU):∃ r,Dv x=some r∧al3 r:=by
 obtain ⟨x1,h1⟩:=bZ x.Client 4 (by omega) (by omega)
 obtain ⟨x2,h2,l2⟩:=zH x.Seq 9 (by omega) (by omega)
 obtain ⟨x3,h3,n3⟩:=ahY x.Kind x.Key x.Value x.Old
 obtain ⟨x4,h4⟩:=bZ x.pE 16 (by omega) (by omega)
 obtain ⟨x5,h5⟩:=JU x.Text 12
 obtain ⟨x6,h6⟩:=JU x.Text 20
 obtain ⟨x7,h7⟩:=bZ (IntKind.i64.wrap (Int.tdiv x.pE 16)) 8 (by omega) (by omega)
 obtain ⟨x8,h8⟩:=bZ (IntKind.i64.wrap (Int.tdiv x.pE 16)) 9 (by omega) (by omega)
 obtain ⟨x9,h9⟩:=BZ (IntKind.i64.wrap (Int.tdiv x.pE 16))
 have h1:bf x.Client 4=some x1:=h1
 have h2:bf x.Seq 9=some (x2:Int):=h2
 have h4:bf x.pE 16=some x4:=h4
 have h5:CW x.Text 12=some x5:=h5
 have h6:CW x.Text 20=some x6:=h6
 have h7:bf (IntKind.i64.wrap (Int.tdiv x.pE 16)) 8=some x7:=h7
 have h8:bf (IntKind.i64.wrap (Int.tdiv x.pE 16)) 9=some x8:=h8
 have hs:IntKind.i64.wrap (1+(x2:Int))≠77:=by rw [fG (by omega) (by omega)];omega
 unfold Dv
 simp only [h1,h2,h3,h4,h5,h6,h7,h8,h9,Option.bind_some]
 cases (x4==10)
 case true=>exact ⟨_,rfl,.inl hs⟩
 cases (x4==11)
 case true=>exact ⟨_,rfl,.inl hs⟩
 cases (x4==12)
 case true=>exact ⟨_,rfl,.inl hs⟩
 cases (x4==13)
 case true=>exact ⟨_,rfl,.inl hs⟩
 cases (x4==14)
 case true=>exact ⟨_,rfl,.inr n3⟩
 cases (x4==15)
 case true=>exact ⟨_,rfl,.inl (by simp)⟩
 exact ⟨_,rfl,.inl hs⟩
theorem adX (n:Int):∃ v,ug n=some v∧v.length≤16:=by
 obtain ⟨k,hk,h⟩:=zH n 6 (by omega) (by omega)
 unfold ug
 rw [show (6:Int)=((6:Nat):Int) from rfl,hk,Option.bind_some,fA (by simpa using h),Option.bind_some]
 refine ⟨_,rfl, ?_⟩
 have:∀ v∈([[],[49],[50],[116,104,114,101,101],[115,105,120,116,101,101,110,32,98,121,116,101,115,32,105,116],[52]]:List (List UInt8)),v.length≤16:=by decide
 exact this _ (List.getElem_mem _)
theorem adY (x:bg):∃ m,IL x 5=some m∧O8 m∧al3 m.Bl∧m.Path.length≤11∧m.Table.length≤5∧m.Answer.Value.length≤16:=by
 obtain ⟨x1,h1⟩:=bZ x.Kind 10 (by omega) (by omega)
 have h1:bf x.Kind 10=some x1:=h1
 obtain ⟨x2,h2⟩:=bZ x.From 5 (by omega) (by omega)
 have h2:bf x.From 5=some x2:=h2
 obtain ⟨x3,h3⟩:=bZ x.To 5 (by omega) (by omega)
 have h3:bf x.To 5=some x3:=h3
 obtain ⟨x4,h4⟩:=bZ x.fB 6 (by omega) (by omega)
 have h4:bf x.fB 6=some x4:=h4
 obtain ⟨x5,h5⟩:=bZ x.Epoch 6 (by omega) (by omega)
 have h5:bf x.Epoch 6=some x5:=h5
 obtain ⟨x6,h6⟩:=bZ x.Weight 9 (by omega) (by omega)
 have h6:bf x.Weight 9=some x6:=h6
 obtain ⟨x7,h7⟩:=bZ x.Load 20 (by omega) (by omega)
 have h7:bf x.Load 20=some x7:=h7
 obtain ⟨x8,h8⟩:=bZ x.m_ 4 (by omega) (by omega)
 have h8:bf x.m_ 4=some x8:=h8
 obtain ⟨x9,h9⟩:=bZ x.Why 12 (by omega) (by omega)
 have h9:bf x.Why 12=some x9:=h9
 obtain ⟨kR,h14⟩:=bZ x.pE 5 (by omega) (by omega)
 have h14:bf x.pE 5=some kR:=h14
 obtain ⟨x33,h33⟩:=bZ x.pE 4 (by omega) (by omega)
 have h33:bf x.pE 4=some x33:=h33
 obtain ⟨SY,h37⟩:=bZ x.pE 22 (by omega) (by omega)
 have h37:bf x.pE 22=some SY:=h37
 obtain ⟨x40,h40⟩:=bZ x.Kind 14 (by omega) (by omega)
 have h40:bf x.Kind 14=some x40:=h40
 obtain ⟨x42,h42⟩:=bZ x.Why 15 (by omega) (by omega)
 have h42:bf x.Why 15=some x42:=h42
 obtain ⟨x10,h10,v10⟩:=adX x.Why
 obtain ⟨dN,h11,l11⟩:=abR x.Table
 obtain ⟨dI,h12,n12⟩:=adW x.Op
 obtain ⟨b13,h13⟩:=Z0 dI
 obtain ⟨x35,h35,a35,b35⟩:=ZY x.fB x.Epoch x.Ops 0
 obtain ⟨x38,h38⟩:=BZ x.m_
 obtain ⟨x39,h39⟩:=BZ x.From
 obtain ⟨x41,h41,a41,b41⟩:=abP x.fB x.Epoch x.Ops (IntKind.i64.wrap (Int.tdiv x.pE 22))
 have j0:∃ y,EM dI x 5 x1 x2 x3 x4 x5 x6 x7 x8 x9 x10 dN=some y∧al3 ⟨y.1,y.2.1,⟨y.2.2.1,y.2.2.2.1,y.2.2.2.2.1,y.2.2.2.2.2⟩⟩:=by
  unfold EM
  simp only [h13,h14,Option.bind_some]
  cases b13
  ·cases decide (kR < 4)
   ·exact ⟨_,rfl,n12⟩
   ·exact ⟨_,rfl,.inl (by simp)⟩
  ·exact ⟨_,rfl,n12⟩
 obtain ⟨bR,h15,n15⟩:=j0
 have loop:∃ e,Ox x 5 x1 x2 x3 x4 x5 x6 x7 x8 bR x9 x10 dN (0,[])=some e∧e.length≤5:=by
  refine pO (λ(s:Int×List Int)=>5 - s.1.toNat) (λs=>∃ (i:Nat) (t:List Int),s=((i:Int),t)∧i≤5∧t.length=i) _ ?_ KK _ ⟨0,[],rfl,by omega,rfl⟩ (by have:=FI;simp only;omega)
  rintro s ⟨i,t,rfl,g1,g2⟩
  simp only [zq,JO]
  by_cases c:i < x.Path.length
  case neg =>
   right
   rw [aZ (by omega),cond_false]
   exact ⟨_,rfl,by omega⟩
  by_cases c2:i < 5
  case neg =>
   right
   rw [bI (by omega),cond_true,aZ (by omega),cond_false]
   exact ⟨_,rfl,by omega⟩
  left
  rw [bI (by omega),cond_true,bI (by omega),cond_true,Option.bind_some]
  simp only [mW,cond_true]
  obtain ⟨y,hy⟩:=bZ x.Path[i] 5 (by omega) (by omega)
  have hy:bf x.Path[i] 5=some y:=hy
  rw [fA c,Option.bind_some,hy,Option.bind_some,uI (by unfold dB;simp;omega),fG (by omega) (by omega),fE]
  exact ⟨_,rfl,⟨i+1,_,rfl,by omega,by simp;omega⟩,by simp only;omega⟩
 obtain ⟨x32,h32,l32⟩:=loop
 have j4:∃ y,EN x1 x x2 x3 x4 x5 x6 x7 x8 bR x9 x10 x32 dN=some y∧y.2.2.1.length≤9∧y.2.2.2.length≤9:=by
  unfold EN JQ
  simp only [h33,h35,Option.bind_some]
  cases (IntKind.i64.wrap (1+x1)==6)
  ·simp only [cond_false,Option.bind_some]
   cases (x33==1)
   ·exact ⟨_,rfl,by simp,by simp⟩
   ·exact ⟨_,rfl,a35,b35⟩
  ·exact ⟨_,rfl,a35,b35⟩
 obtain ⟨yR,h36,a36,b36⟩:=j4
 unfold IL
 simp only [h1,h2,h3,h4,h5,h6,h7,h8,h9,h10,h11,h12,h15,h32,h36,h37,h38,h39,h40,h41,h42,Option.bind_some]
 have s1:yR.2.2.1.length < 1000000∧yR.2.2.2.length < 1000000:=⟨by omega,by omega⟩
 have s2:x41.Pairs.length < 1000000∧x41.gB.length < 1000000:=⟨by omega,by omega⟩
 have s3:x32.length < 1000000:=by omega
 have s4:dN.length < 1000000:=by omega
 have s5:(x32++[1,2,3,4,5,6]).length < 1000000:=by simp;omega
 have p5:(x32++[1,2,3,4,5,6]).length≤11:=by simp;omega
 have p3:x32.length≤11:=by omega
 cases (SY==16)
 case true=>exact ⟨_,rfl,⟨s3,s4,s1⟩,n15,p3,l11,v10⟩
 cases (SY==17)
 case true=>exact ⟨_,rfl,⟨s3,s4,s1⟩,n15,p3,l11,v10⟩
 cases (SY==18)
 case true=>exact ⟨_,rfl,⟨s3,s4,s1⟩,n15,p3,l11,v10⟩
 cases (SY==19)
 case true=>exact ⟨_,rfl,⟨s3,s4,s2⟩,n15,p3,l11,v10⟩
 cases (SY==20)
 case true=>exact ⟨_,rfl,⟨s3,s4,s1⟩,n15,p3,l11,v10⟩
 cases (SY==21)
 case true =>
  simp only [cond_true,cond_false]
  rw [uI (by unfold dB;simp;omega)]
  exact ⟨_,rfl,⟨s5,s4,s1⟩,n15,p5,l11,v10⟩
 exact ⟨_,rfl,⟨s3,s4,s1⟩,n15,p3,l11,v10⟩
theorem al4 (a b:List av) (h:a.length < 1000000):gL a b=some (decide (a=b)):=adU a b h
theorem ald (a b:aO) (h:O8 a):∃ v,xC a b=some v∧(v=true↔a=b):=by
 unfold xC wT
 have e1:=ahS [a.Kind,a.From,a.To,a.fB,a.Epoch,a.Weight,a.Load,a.m_] [b.Kind,b.From,b.To,b.fB,b.Epoch,b.Weight,b.Load,b.m_] (by simp)
 have e2:AU a.nK b.nK=some (decide (a.nK=b.nK)):=abN a.nK b.nK h.2.2
 have e3:(a.Answer.Why==b.Answer.Why&&(a.Answer.Value==b.Answer.Value&&true))=decide (a.Answer.Why=b.Answer.Why∧a.Answer.Value=b.Answer.Value):=by
  rw [Bool.eq_iff_iff]
  simp
 have e4:(a.dw==b.dw)=decide (a.dw=b.dw):=by
  rw [Bool.eq_iff_iff]
  simp
 have key:(decide ([a.Kind,a.From,a.To,a.fB,a.Epoch,a.Weight,a.Load,a.m_]=[b.Kind,b.From,b.To,b.fB,b.Epoch,b.Weight,b.Load,b.m_])&&(decide (a.dw=b.dw)&&(decide (a.Bl=b.Bl)&&(decide (a.Answer.Why=b.Answer.Why∧a.Answer.Value=b.Answer.Value)&&(decide (a.Path=b.Path)&&(decide (a.Table=b.Table)&&decide (a.nK=b.nK)))))))=true↔a=b:=by
  rw [← akH]
  have ae:(a.Answer.Why=b.Answer.Why∧a.Answer.Value=b.Answer.Value)↔a.Answer=b.Answer:=by
   obtain ⟨x,y⟩:=a.Answer;obtain ⟨x',y'⟩:=b.Answer
   simp
  simp only [Bool.and_eq_true,decide_eq_true_eq,ae,List.cons.injEq,and_true,and_assoc]
 simp only [Option.bind_some,e1,e2,e3,e4,acI,ahS a.Path b.Path h.1,al4 a.Table b.Table h.2.1]
 revert key
 generalize decide ([a.Kind,a.From,a.To,a.fB,a.Epoch,a.Weight,a.Load,a.m_]=[b.Kind,b.From,b.To,b.fB,b.Epoch,b.Weight,b.Load,b.m_])=z1
 generalize decide (a.dw=b.dw)=z2
 generalize decide (a.Bl=b.Bl)=z3
 generalize decide (a.Answer.Why=b.Answer.Why∧a.Answer.Value=b.Answer.Value)=z4
 generalize decide (a.Path=b.Path)=z5
 generalize decide (a.Table=b.Table)=z6
 generalize decide (a.nK=b.nK)=z7
 intro key
 refine ⟨_, ?_,key⟩
 cases z1<;>cases z2<;>cases z3<;>cases z4<;>cases z5<;>cases z6<;>rfl
end Go.Proofs.YtohoggieaanllaaGreat
