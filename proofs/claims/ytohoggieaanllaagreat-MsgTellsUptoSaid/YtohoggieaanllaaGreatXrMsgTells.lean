import Derived.Test.YtohoggieaanllaaGreatJ5
import Derived.Test.YtohoggieaanllaaGreatXs
set_option linter.all false
set_option linter.unusedSimpArgs false
set_option maxRecDepth 20000
namespace Go.Proofs.YtohoggieaanllaaGreat
def IC (x:dH):Nat:=bk1 x.Kind+bk1 x.Key+bk1 x.Value+bk1 x.Old+bk1 x.Client+bk1 x.Seq+bk1 x.ug+bkS x.Text+1
def Oa (x:dH):Prop:=X9 x.Kind∧X9 x.Key∧X9 x.Value∧X9 x.Old∧X9 x.Client∧X9 x.Seq∧X9 x.ug∧okT x.Text
theorem Xx:Rt (.agg [(.int .i64),(.int .i64),(.int .i64),(.int .i64),(.int .i64),(.int .i64),(.int .i64),.str]) F9 IC Oa:=anq (λ_=>rfl) λl h=>by
 obtain ⟨d0,l,rfl,h,x0,e0,b0,o0⟩:=eD E_ h
 obtain ⟨d1,l,rfl,h,x1,e1,b1,o1⟩:=eD E_ h
 obtain ⟨d2,l,rfl,h,x2,e2,b2,o2⟩:=eD E_ h
 obtain ⟨d3,l,rfl,h,x3,e3,b3,o3⟩:=eD E_ h
 obtain ⟨d4,l,rfl,h,x4,e4,b4,o4⟩:=eD E_ h
 obtain ⟨d5,l,rfl,h,x5,e5,b5,o5⟩:=eD E_ h
 obtain ⟨d6,l,rfl,h,x6,e6,b6,o6⟩:=eD E_ h
 obtain ⟨d7,l,rfl,h,x7,e7,b7,o7⟩:=eD ayf h
 obtain rfl:=Y9 h
 exact ⟨⟨x0,x1,x2,x3,x4,x5,x6,x7⟩,by simp only [MB,e0,e1,e2,e3,e4,e5,e6,e7];rfl,by simp only [IC,D.Ch];omega,o0,o1,o2,o3,o4,o5,o6,o7⟩
def Ga (x:bO):Nat:=bk1 x.Inc+bk1 x.Status+bk1 x.qZ+bk1 x.Load+bk1 x.dL+1
def Ob (x:bO):Prop:=X9 x.Inc∧X9 x.Status∧X9 x.qZ∧X9 x.Load∧okT x.dL
theorem ZU:Rt (.agg [(.int .i64),(.int .i64),(.int .i64),(.int .i64),.bool]) yG Ga Ob:=anq (λ_=>rfl) λl h=>by
 obtain ⟨d0,l,rfl,h,x0,e0,b0,o0⟩:=eD E_ h
 obtain ⟨d1,l,rfl,h,x1,e1,b1,o1⟩:=eD E_ h
 obtain ⟨d2,l,rfl,h,x2,e2,b2,o2⟩:=eD E_ h
 obtain ⟨d3,l,rfl,h,x3,e3,b3,o3⟩:=eD E_ h
 obtain ⟨d4,l,rfl,h,x4,e4,b4,o4⟩:=eD awU h
 obtain rfl:=Y9 h
 exact ⟨⟨x0,x1,x2,x3,x4⟩,by simp only [MB,e0,e1,e2,e3,e4];rfl,by simp only [Ga,D.Ch];omega,o0,o1,o2,o3,o4⟩
def Fb (x:bA):Nat:=bk1 x.Kind+bk1 x.From+bk1 x.To+bk1 x.dR+bk1 x.Epoch+bk1 x.Weight+bk1 x.Load+bk1 x.kT+bk1 x.Why+bk1 x.ug+bk1 x.dL+IC x.Op+(bkL bk1) x.Path+(bkL Ga) x.Table+(bkL IC) x.Ops+1
def LB (x:bA):Prop:=X9 x.Kind∧X9 x.From∧X9 x.To∧X9 x.dR∧X9 x.Epoch∧X9 x.Weight∧X9 x.Load∧X9 x.kT∧X9 x.Why∧X9 x.ug∧okT x.dL∧Oa x.Op∧(okL X9) x.Path∧(okL Ob) x.Table∧(okL Oa) x.Ops
theorem TU:Rt (.agg [(.int .i64),(.int .i64),(.int .i64),(.int .i64),(.int .i64),(.int .i64),(.int .i64),(.int .i64),(.int .i64),(.int .i64),.bool,(.agg [(.int .i64),(.int .i64),(.int .i64),(.int .i64),(.int .i64),(.int .i64),(.int .i64),.str]),(.list (.int .i64)),(.list (.agg [(.int .i64),(.int .i64),(.int .i64),(.int .i64),.bool])),(.list (.agg [(.int .i64),(.int .i64),(.int .i64),(.int .i64),(.int .i64),(.int .i64),(.int .i64),.str]))]) dJ Fb LB:=anq (λ_=>rfl) λl h=>by
 obtain ⟨d0,l,rfl,h,x0,e0,b0,o0⟩:=eD E_ h
 obtain ⟨d1,l,rfl,h,x1,e1,b1,o1⟩:=eD E_ h
 obtain ⟨d2,l,rfl,h,x2,e2,b2,o2⟩:=eD E_ h
 obtain ⟨d3,l,rfl,h,x3,e3,b3,o3⟩:=eD E_ h
 obtain ⟨d4,l,rfl,h,x4,e4,b4,o4⟩:=eD E_ h
 obtain ⟨d5,l,rfl,h,x5,e5,b5,o5⟩:=eD E_ h
 obtain ⟨d6,l,rfl,h,x6,e6,b6,o6⟩:=eD E_ h
 obtain ⟨d7,l,rfl,h,x7,e7,b7,o7⟩:=eD E_ h
 obtain ⟨d8,l,rfl,h,x8,e8,b8,o8⟩:=eD E_ h
 obtain ⟨d9,l,rfl,h,x9,e9,b9,o9⟩:=eD E_ h
 obtain ⟨d10,l,rfl,h,x10,e10,b10,o10⟩:=eD awU h
 obtain ⟨d11,l,rfl,h,bY,e11,b11,o11⟩:=eD Xx h
 obtain ⟨d12,l,rfl,h,dD,e12,b12,o12⟩:=eD (arx E_ IB rfl) h
 obtain ⟨d13,l,rfl,h,qE,e13,b13,o13⟩:=eD (arx ZU Jj rfl) h
 obtain ⟨d14,l,rfl,h,m_,e14,b14,o14⟩:=eD (arx Xx RV rfl) h
 obtain rfl:=Y9 h
 exact ⟨⟨x0,x1,x2,x3,x4,x5,x6,x7,x8,x9,x10,bY,dD,qE,m_⟩,by simp only [MB,e0,e1,e2,e3,e4,e5,e6,e7,e8,e9,e10,e11,e12,e13,e14];rfl,by simp only [Fb,D.Ch];omega,o0,o1,o2,o3,o4,o5,o6,o7,o8,o9,o10,o11,o12,o13,o14⟩
end Go.Proofs.YtohoggieaanllaaGreat
