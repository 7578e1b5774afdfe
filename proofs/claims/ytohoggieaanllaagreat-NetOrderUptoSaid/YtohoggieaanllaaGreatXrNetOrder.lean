import Derived.Test.YtohoggieaanllaaGreatJ5
import Derived.Test.YtohoggieaanllaaGreatXs
set_option linter.all false
set_option linter.unusedSimpArgs false
set_option maxRecDepth 20000
namespace Go.Proofs.YtohoggieaanllaaGreat
def Ht (x:dB):Nat:=bk1 x.Kind+bk1 x.Key+bk1 x.Value+bk1 x.Old+bk1 x.Client+bk1 x.Seq+bk1 x.sH+bkS x.Text+1
def Nu (x:dB):Prop:=Xt x.Kind∧Xt x.Key∧Xt x.Value∧Xt x.Old∧Xt x.Client∧Xt x.Seq∧Xt x.sH∧okT x.Text
theorem WG:Rt (.agg [(.int .i64),(.int .i64),(.int .i64),(.int .i64),(.int .i64),(.int .i64),(.int .i64),.str]) Fz Ht Nu:=ang (λ_=>rfl) λl h=>by
 obtain ⟨d0,l,rfl,h,x0,e0,b0,o0⟩:=eD EB h
 obtain ⟨d1,l,rfl,h,x1,e1,b1,o1⟩:=eD EB h
 obtain ⟨d2,l,rfl,h,x2,e2,b2,o2⟩:=eD EB h
 obtain ⟨d3,l,rfl,h,x3,e3,b3,o3⟩:=eD EB h
 obtain ⟨d4,l,rfl,h,x4,e4,b4,o4⟩:=eD EB h
 obtain ⟨d5,l,rfl,h,x5,e5,b5,o5⟩:=eD EB h
 obtain ⟨d6,l,rfl,h,x6,e6,b6,o6⟩:=eD EB h
 obtain ⟨d7,l,rfl,h,x7,e7,b7,o7⟩:=eD axN h
 obtain rfl:=Yn h
 exact ⟨⟨x0,x1,x2,x3,x4,x5,x6,x7⟩,by simp only [LM,e0,e1,e2,e3,e4,e5,e6,e7];rfl,by simp only [Ht,D.Br];omega,o0,o1,o2,o3,o4,o5,o6,o7⟩
def FB (x:bK):Nat:=bk1 x.Inc+bk1 x.Status+bk1 x.ql+bk1 x.Load+bk1 x.dR+1
def Nv (x:bK):Prop:=Xt x.Inc∧Xt x.Status∧Xt x.ql∧Xt x.Load∧okT x.dR
theorem Y9:Rt (.agg [(.int .i64),(.int .i64),(.int .i64),(.int .i64),.bool]) xU FB Nv:=ang (λ_=>rfl) λl h=>by
 obtain ⟨d0,l,rfl,h,x0,e0,b0,o0⟩:=eD EB h
 obtain ⟨d1,l,rfl,h,x1,e1,b1,o1⟩:=eD EB h
 obtain ⟨d2,l,rfl,h,x2,e2,b2,o2⟩:=eD EB h
 obtain ⟨d3,l,rfl,h,x3,e3,b3,o3⟩:=eD EB h
 obtain ⟨d4,l,rfl,h,x4,e4,b4,o4⟩:=eD awz h
 obtain rfl:=Yn h
 exact ⟨⟨x0,x1,x2,x3,x4⟩,by simp only [LM,e0,e1,e2,e3,e4];rfl,by simp only [FB,D.Br];omega,o0,o1,o2,o3,o4⟩
def KU (x:bf):Nat:=bk1 x.Kind+bk1 x.From+bk1 x.To+bk1 x.eY+bk1 x.Epoch+bk1 x.Weight+bk1 x.Load+bk1 x.qm+bk1 x.Why+bk1 x.sH+bk1 x.dR+Ht x.Op+(bkL bk1) x.Path+(bkL FB) x.Table+(bkL Ht) x.Ops+1
def Tg (x:bf):Prop:=Xt x.Kind∧Xt x.From∧Xt x.To∧Xt x.eY∧Xt x.Epoch∧Xt x.Weight∧Xt x.Load∧Xt x.qm∧Xt x.Why∧Xt x.sH∧okT x.dR∧Nu x.Op∧(okL Xt) x.Path∧(okL Nv) x.Table∧(okL Nu) x.Ops
theorem adU:Rt (.agg [(.int .i64),(.int .i64),(.int .i64),(.int .i64),(.int .i64),(.int .i64),(.int .i64),(.int .i64),(.int .i64),(.int .i64),.bool,(.agg [(.int .i64),(.int .i64),(.int .i64),(.int .i64),(.int .i64),(.int .i64),(.int .i64),.str]),(.list (.int .i64)),(.list (.agg [(.int .i64),(.int .i64),(.int .i64),(.int .i64),.bool])),(.list (.agg [(.int .i64),(.int .i64),(.int .i64),(.int .i64),(.int .i64),(.int .i64),(.int .i64),.str]))]) dM KU Tg:=ang (λ_=>rfl) λl h=>by
 obtain ⟨d0,l,rfl,h,x0,e0,b0,o0⟩:=eD EB h
 obtain ⟨d1,l,rfl,h,x1,e1,b1,o1⟩:=eD EB h
 obtain ⟨d2,l,rfl,h,x2,e2,b2,o2⟩:=eD EB h
 obtain ⟨d3,l,rfl,h,x3,e3,b3,o3⟩:=eD EB h
 obtain ⟨d4,l,rfl,h,x4,e4,b4,o4⟩:=eD EB h
 obtain ⟨d5,l,rfl,h,x5,e5,b5,o5⟩:=eD EB h
 obtain ⟨d6,l,rfl,h,x6,e6,b6,o6⟩:=eD EB h
 obtain ⟨d7,l,rfl,h,x7,e7,b7,o7⟩:=eD EB h
 obtain ⟨d8,l,rfl,h,x8,e8,b8,o8⟩:=eD EB h
 obtain ⟨d9,l,rfl,h,x9,e9,b9,o9⟩:=eD EB h
 obtain ⟨d10,l,rfl,h,x10,e10,b10,o10⟩:=eD awz h
 obtain ⟨d11,l,rfl,h,dV,e11,b11,o11⟩:=eD WG h
 obtain ⟨d12,l,rfl,h,cu,e12,b12,o12⟩:=eD (arv EB Jp rfl) h
 obtain ⟨d13,l,rfl,h,qJ,e13,b13,o13⟩:=eD (arv Y9 IJ rfl) h
 obtain ⟨d14,l,rfl,h,lH,e14,b14,o14⟩:=eD (arv WG Rm rfl) h
 obtain rfl:=Yn h
 exact ⟨⟨x0,x1,x2,x3,x4,x5,x6,x7,x8,x9,x10,dV,cu,qJ,lH⟩,by simp only [LM,e0,e1,e2,e3,e4,e5,e6,e7,e8,e9,e10,e11,e12,e13,e14];rfl,by simp only [KU,D.Br];omega,o0,o1,o2,o3,o4,o5,o6,o7,o8,o9,o10,o11,o12,o13,o14⟩
end Go.Proofs.YtohoggieaanllaaGreat
