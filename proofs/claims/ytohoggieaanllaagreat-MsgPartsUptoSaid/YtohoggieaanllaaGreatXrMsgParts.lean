import Derived.Test.YtohoggieaanllaaGreatJ5
import Derived.Test.YtohoggieaanllaaGreatXs
set_option linter.all false
set_option linter.unusedSimpArgs false
set_option maxRecDepth 20000
namespace Go.Proofs.YtohoggieaanllaaGreat
def CU (x:bU):Nat:=bk1 x.Kind+bk1 x.Key+bk1 x.Value+bk1 x.Old+bk1 x.Client+bk1 x.Seq+bk1 x.pE+bkS x.Text+1
def H7 (x:bU):Prop:=Rb x.Kind∧Rb x.Key∧Rb x.Value∧Rb x.Old∧Rb x.Client∧Rb x.Seq∧Rb x.pE∧okT x.Text
theorem Px:Rt (.agg [(.int .i64),(.int .i64),(.int .i64),(.int .i64),(.int .i64),(.int .i64),(.int .i64),.str]) Bj CU H7:=ae3 (λ_=>rfl) λl h=>by
 obtain ⟨d0,l,rfl,h,x0,e0,b0,o0⟩:=dW Bh h
 obtain ⟨d1,l,rfl,h,x1,e1,b1,o1⟩:=dW Bh h
 obtain ⟨d2,l,rfl,h,x2,e2,b2,o2⟩:=dW Bh h
 obtain ⟨d3,l,rfl,h,x3,e3,b3,o3⟩:=dW Bh h
 obtain ⟨d4,l,rfl,h,x4,e4,b4,o4⟩:=dW Bh h
 obtain ⟨d5,l,rfl,h,x5,e5,b5,o5⟩:=dW Bh h
 obtain ⟨d6,l,rfl,h,x6,e6,b6,o6⟩:=dW Bh h
 obtain ⟨d7,l,rfl,h,x7,e7,b7,o7⟩:=dW anE h
 obtain rfl:=QZ h
 exact ⟨⟨x0,x1,x2,x3,x4,x5,x6,x7⟩,by simp only [Gf,e0,e1,e2,e3,e4,e5,e6,e7];rfl,by simp only [CU,D.xU];omega,o0,o1,o2,o3,o4,o5,o6,o7⟩
def Bn (x:bD):Nat:=bk1 x.Inc+bk1 x.Status+bk1 x.nV+bk1 x.Load+bk1 x.dw+1
def H8 (x:bD):Prop:=Rb x.Inc∧Rb x.Status∧Rb x.nV∧Rb x.Load∧okT x.dw
theorem RV:Rt (.agg [(.int .i64),(.int .i64),(.int .i64),(.int .i64),.bool]) uf Bn H8:=ae3 (λ_=>rfl) λl h=>by
 obtain ⟨d0,l,rfl,h,x0,e0,b0,o0⟩:=dW Bh h
 obtain ⟨d1,l,rfl,h,x1,e1,b1,o1⟩:=dW Bh h
 obtain ⟨d2,l,rfl,h,x2,e2,b2,o2⟩:=dW Bh h
 obtain ⟨d3,l,rfl,h,x3,e3,b3,o3⟩:=dW Bh h
 obtain ⟨d4,l,rfl,h,x4,e4,b4,o4⟩:=dW amq h
 obtain rfl:=QZ h
 exact ⟨⟨x0,x1,x2,x3,x4⟩,by simp only [Gf,e0,e1,e2,e3,e4];rfl,by simp only [Bn,D.xU];omega,o0,o1,o2,o3,o4⟩
def FH (x:bg):Nat:=bk1 x.Kind+bk1 x.From+bk1 x.To+bk1 x.fB+bk1 x.Epoch+bk1 x.Weight+bk1 x.Load+bk1 x.m_+bk1 x.Why+bk1 x.pE+bk1 x.dw+CU x.Op+(bkL bk1) x.Path+(bkL Bn) x.Table+(bkL CU) x.Ops+1
def MK (x:bg):Prop:=Rb x.Kind∧Rb x.From∧Rb x.To∧Rb x.fB∧Rb x.Epoch∧Rb x.Weight∧Rb x.Load∧Rb x.m_∧Rb x.Why∧Rb x.pE∧okT x.dw∧H7 x.Op∧(okL Rb) x.Path∧(okL H8) x.Table∧(okL H7) x.Ops
theorem WW:Rt (.agg [(.int .i64),(.int .i64),(.int .i64),(.int .i64),(.int .i64),(.int .i64),(.int .i64),(.int .i64),(.int .i64),(.int .i64),.bool,(.agg [(.int .i64),(.int .i64),(.int .i64),(.int .i64),(.int .i64),(.int .i64),(.int .i64),.str]),(.list (.int .i64)),(.list (.agg [(.int .i64),(.int .i64),(.int .i64),(.int .i64),.bool])),(.list (.agg [(.int .i64),(.int .i64),(.int .i64),(.int .i64),(.int .i64),(.int .i64),(.int .i64),.str]))]) dG FH MK:=ae3 (λ_=>rfl) λl h=>by
 obtain ⟨d0,l,rfl,h,x0,e0,b0,o0⟩:=dW Bh h
 obtain ⟨d1,l,rfl,h,x1,e1,b1,o1⟩:=dW Bh h
 obtain ⟨d2,l,rfl,h,x2,e2,b2,o2⟩:=dW Bh h
 obtain ⟨d3,l,rfl,h,x3,e3,b3,o3⟩:=dW Bh h
 obtain ⟨d4,l,rfl,h,x4,e4,b4,o4⟩:=dW Bh h
 obtain ⟨d5,l,rfl,h,x5,e5,b5,o5⟩:=dW Bh h
 obtain ⟨d6,l,rfl,h,x6,e6,b6,o6⟩:=dW Bh h
 obtain ⟨d7,l,rfl,h,x7,e7,b7,o7⟩:=dW Bh h
 obtain ⟨d8,l,rfl,h,x8,e8,b8,o8⟩:=dW Bh h
 obtain ⟨d9,l,rfl,h,x9,e9,b9,o9⟩:=dW Bh h
 obtain ⟨d10,l,rfl,h,x10,e10,b10,o10⟩:=dW amq h
 obtain ⟨d11,l,rfl,h,dN,e11,b11,o11⟩:=dW Px h
 obtain ⟨d12,l,rfl,h,dI,e12,b12,o12⟩:=dW (alJ Bh Fe rfl) h
 obtain ⟨d13,l,rfl,h,rG,e13,b13,o13⟩:=dW (alJ RV Dr rfl) h
 obtain ⟨d14,l,rfl,h,kR,e14,b14,o14⟩:=dW (alJ Px La rfl) h
 obtain rfl:=QZ h
 exact ⟨⟨x0,x1,x2,x3,x4,x5,x6,x7,x8,x9,x10,dN,dI,rG,kR⟩,by simp only [Gf,e0,e1,e2,e3,e4,e5,e6,e7,e8,e9,e10,e11,e12,e13,e14];rfl,by simp only [FH,D.xU];omega,o0,o1,o2,o3,o4,o5,o6,o7,o8,o9,o10,o11,o12,o13,o14⟩
end Go.Proofs.YtohoggieaanllaaGreat
