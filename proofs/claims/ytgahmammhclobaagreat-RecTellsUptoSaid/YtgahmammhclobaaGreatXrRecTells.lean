import Derived.Test.YtgahmammhclobaaGreatJ5
import Derived.Test.YtgahmammhclobaaGreatXs
set_option linter.all false
set_option linter.unusedSimpArgs false
set_option maxRecDepth 20000
namespace Go.Proofs.YtgahmammhclobaaGreat
def bk_oH_RawOp (x:oH_RawOp):Nat:=bk1 x.Kind+bk1 x.Key+bk1 x.Value+bk1 x.Old+bk1 x.Client+bk1 x.Seq+bk1 x.Bend+bkS x.Text+1
def ok_oH_RawOp (x:oH_RawOp):Prop:=okI x.Kind∧okI x.Key∧okI x.Value∧okI x.Old∧okI x.Client∧okI x.Seq∧okI x.Bend∧okT x.Text
theorem Rt_oH_RawOp:Rt (.agg [(.int .i64),(.int .i64),(.int .i64),(.int .i64),(.int .i64),(.int .i64),(.int .i64),.str]) e_oH_RawOp bk_oH_RawOp ok_oH_RawOp:=Rt_of (fun _=>rfl) fun l h=>by
 obtain ⟨d0,l,rfl,h,x0,e0,b0,o0⟩:=are_cons' Rt_I h
 obtain ⟨d1,l,rfl,h,x1,e1,b1,o1⟩:=are_cons' Rt_I h
 obtain ⟨d2,l,rfl,h,x2,e2,b2,o2⟩:=are_cons' Rt_I h
 obtain ⟨d3,l,rfl,h,x3,e3,b3,o3⟩:=are_cons' Rt_I h
 obtain ⟨d4,l,rfl,h,x4,e4,b4,o4⟩:=are_cons' Rt_I h
 obtain ⟨d5,l,rfl,h,x5,e5,b5,o5⟩:=are_cons' Rt_I h
 obtain ⟨d6,l,rfl,h,x6,e6,b6,o6⟩:=are_cons' Rt_I h
 obtain ⟨d7,l,rfl,h,x7,e7,b7,o7⟩:=are_cons' Rt_S h
 obtain rfl:=are_nil h
 exact ⟨⟨x0,x1,x2,x3,x4,x5,x6,x7⟩,by simp only [encSs,e0,e1,e2,e3,e4,e5,e6,e7]; rfl,by simp only [bk_oH_RawOp,D.bulks]; omega,o0,o1,o2,o3,o4,o5,o6,o7⟩
def bk_oH_RawRec (x:oH_RawRec):Nat:=bk1 x.Kind+bk1 x.Shard+bk1 x.Epoch+bk1 x.Host+bk1 x.N+bk1 x.Bend+bk_oH_RawOp x.Op+(bkL bk_oH_RawOp) x.Ops+1
def ok_oH_RawRec (x:oH_RawRec):Prop:=okI x.Kind∧okI x.Shard∧okI x.Epoch∧okI x.Host∧okI x.N∧okI x.Bend∧ok_oH_RawOp x.Op∧(okL ok_oH_RawOp) x.Ops
theorem Rt_oH_RawRec:Rt (.agg [(.int .i64),(.int .i64),(.int .i64),(.int .i64),(.int .i64),(.int .i64),(.agg [(.int .i64),(.int .i64),(.int .i64),(.int .i64),(.int .i64),(.int .i64),(.int .i64),.str]),(.list (.agg [(.int .i64),(.int .i64),(.int .i64),(.int .i64),(.int .i64),(.int .i64),(.int .i64),.str]))]) e_oH_RawRec bk_oH_RawRec ok_oH_RawRec:=Rt_of (fun _=>rfl) fun l h=>by
 obtain ⟨d0,l,rfl,h,x0,e0,b0,o0⟩:=are_cons' Rt_I h
 obtain ⟨d1,l,rfl,h,x1,e1,b1,o1⟩:=are_cons' Rt_I h
 obtain ⟨d2,l,rfl,h,x2,e2,b2,o2⟩:=are_cons' Rt_I h
 obtain ⟨d3,l,rfl,h,x3,e3,b3,o3⟩:=are_cons' Rt_I h
 obtain ⟨d4,l,rfl,h,x4,e4,b4,o4⟩:=are_cons' Rt_I h
 obtain ⟨d5,l,rfl,h,x5,e5,b5,o5⟩:=are_cons' Rt_I h
 obtain ⟨d6,l,rfl,h,x6,e6,b6,o6⟩:=are_cons' Rt_oH_RawOp h
 obtain ⟨d7,l,rfl,h,x7,e7,b7,o7⟩:=are_cons' (Rt_L Rt_oH_RawOp R_oH_RawOp rfl) h
 obtain rfl:=are_nil h
 exact ⟨⟨x0,x1,x2,x3,x4,x5,x6,x7⟩,by simp only [encSs,e0,e1,e2,e3,e4,e5,e6,e7]; rfl,by simp only [bk_oH_RawRec,D.bulks]; omega,o0,o1,o2,o3,o4,o5,o6,o7⟩
end Go.Proofs.YtgahmammhclobaaGreat
