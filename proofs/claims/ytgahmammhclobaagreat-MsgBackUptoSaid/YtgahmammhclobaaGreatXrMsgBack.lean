import Derived.Test.YtgahmammhclobaaGreatJ5
import Derived.Test.YtgahmammhclobaaGreatXs
set_option linter.all false
set_option linter.unusedSimpArgs false
set_option maxRecDepth 20000
namespace Go.Proofs.YtgahmammhclobaaGreat
def bk_oH_RawOp (x:oH_RawOp):Nat:=bk1 x.Kind+bk1 x.Key+bk1 x.Value+bk1 x.Old+bk1 x.Client+bk1 x.Seq+bk1 x.Bend+bkS x.Text+1
def ok_oH_RawOp (x:oH_RawOp):Prop:=okI x.Kind∧okI x.Key∧okI x.Value∧okI x.Old∧okI x.Client∧okI x.Seq∧okI x.Bend∧okT x.Text
theorem Rt_oH_RawOp:Rt (.agg [(.int .i64),(.int .i64),(.int .i64),(.int .i64),(.int .i64),(.int .i64),(.int .i64),.str]) e_oH_RawOp bk_oH_RawOp ok_oH_RawOp:=Rt_of (fun _=>rfl) fun l h=>by
 obtain ⟨d0,l,rfl,h,x0,e0,b0,o0⟩:=are_cons' Rt_I h
 obtain ⟨d1,l,rfl,h,x1,e1,b1,o1⟩:=are_cons' Rt_I h
 obtain ⟨d2,l,rfl,h,x2,e2,b2,o2⟩:=are_cons' Rt_I h
 obtain ⟨d3,l,rfl,h,x3,e3,b3,o3⟩:=are_cons' Rt_I h
 obtain ⟨d4,l,rfl,h,x4,e4,b4,o4⟩:=are_cons' Rt_I h
 obtain ⟨d5,l,rfl,h,x5,e5,b5,o5⟩:=are_cons' Rt_I h
 obtain ⟨d6,l,rfl,h,x6,e6,b6,o6⟩:=are_cons' Rt_I h
 obtain ⟨d7,l,rfl,h,x7,e7,b7,o7⟩:=are_cons' Rt_S h
 obtain rfl:=are_nil h
 exact ⟨⟨x0,x1,x2,x3,x4,x5,x6,x7⟩,by simp only [encSs,e0,e1,e2,e3,e4,e5,e6,e7]; rfl,by simp only [bk_oH_RawOp,D.bulks]; omega,o0,o1,o2,o3,o4,o5,o6,o7⟩
def bk_oH_RawEntry (x:oH_RawEntry):Nat:=bk1 x.Inc+bk1 x.Status+bk1 x.Stamp+bk1 x.Load+bk1 x.Drain+1
def ok_oH_RawEntry (x:oH_RawEntry):Prop:=okI x.Inc∧okI x.Status∧okI x.Stamp∧okI x.Load∧okT x.Drain
theorem Rt_oH_RawEntry:Rt (.agg [(.int .i64),(.int .i64),(.int .i64),(.int .i64),.bool]) e_oH_RawEntry bk_oH_RawEntry ok_oH_RawEntry:=Rt_of (fun _=>rfl) fun l h=>by
 obtain ⟨d0,l,rfl,h,x0,e0,b0,o0⟩:=are_cons' Rt_I h
 obtain ⟨d1,l,rfl,h,x1,e1,b1,o1⟩:=are_cons' Rt_I h
 obtain ⟨d2,l,rfl,h,x2,e2,b2,o2⟩:=are_cons' Rt_I h
 obtain ⟨d3,l,rfl,h,x3,e3,b3,o3⟩:=are_cons' Rt_I h
 obtain ⟨d4,l,rfl,h,x4,e4,b4,o4⟩:=are_cons' Rt_O h
 obtain rfl:=are_nil h
 exact ⟨⟨x0,x1,x2,x3,x4⟩,by simp only [encSs,e0,e1,e2,e3,e4]; rfl,by simp only [bk_oH_RawEntry,D.bulks]; omega,o0,o1,o2,o3,o4⟩
def bk_oH_RawMsg (x:oH_RawMsg):Nat:=bk1 x.Kind+bk1 x.From+bk1 x.To+bk1 x.Shard+bk1 x.Epoch+bk1 x.Weight+bk1 x.Load+bk1 x.Nonce+bk1 x.Why+bk1 x.Bend+bk1 x.Drain+bk_oH_RawOp x.Op+(bkL bk1) x.Path+(bkL bk_oH_RawEntry) x.Table+(bkL bk_oH_RawOp) x.Ops+1
def ok_oH_RawMsg (x:oH_RawMsg):Prop:=okI x.Kind∧okI x.From∧okI x.To∧okI x.Shard∧okI x.Epoch∧okI x.Weight∧okI x.Load∧okI x.Nonce∧okI x.Why∧okI x.Bend∧okT x.Drain∧ok_oH_RawOp x.Op∧(okL okI) x.Path∧(okL ok_oH_RawEntry) x.Table∧(okL ok_oH_RawOp) x.Ops
theorem Rt_oH_RawMsg:Rt (.agg [(.int .i64),(.int .i64),(.int .i64),(.int .i64),(.int .i64),(.int .i64),(.int .i64),(.int .i64),(.int .i64),(.int .i64),.bool,(.agg [(.int .i64),(.int .i64),(.int .i64),(.int .i64),(.int .i64),(.int .i64),(.int .i64),.str]),(.list (.int .i64)),(.list (.agg [(.int .i64),(.int .i64),(.int .i64),(.int .i64),.bool])),(.list (.agg [(.int .i64),(.int .i64),(.int .i64),(.int .i64),(.int .i64),(.int .i64),(.int .i64),.str]))]) e_oH_RawMsg bk_oH_RawMsg ok_oH_RawMsg:=Rt_of (fun _=>rfl) fun l h=>by
 obtain ⟨d0,l,rfl,h,x0,e0,b0,o0⟩:=are_cons' Rt_I h
 obtain ⟨d1,l,rfl,h,x1,e1,b1,o1⟩:=are_cons' Rt_I h
 obtain ⟨d2,l,rfl,h,x2,e2,b2,o2⟩:=are_cons' Rt_I h
 obtain ⟨d3,l,rfl,h,x3,e3,b3,o3⟩:=are_cons' Rt_I h
 obtain ⟨d4,l,rfl,h,x4,e4,b4,o4⟩:=are_cons' Rt_I h
 obtain ⟨d5,l,rfl,h,x5,e5,b5,o5⟩:=are_cons' Rt_I h
 obtain ⟨d6,l,rfl,h,x6,e6,b6,o6⟩:=are_cons' Rt_I h
 obtain ⟨d7,l,rfl,h,x7,e7,b7,o7⟩:=are_cons' Rt_I h
 obtain ⟨d8,l,rfl,h,x8,e8,b8,o8⟩:=are_cons' Rt_I h
 obtain ⟨d9,l,rfl,h,x9,e9,b9,o9⟩:=are_cons' Rt_I h
 obtain ⟨d10,l,rfl,h,x10,e10,b10,o10⟩:=are_cons' Rt_O h
 obtain ⟨d11,l,rfl,h,x11,e11,b11,o11⟩:=are_cons' Rt_oH_RawOp h
 obtain ⟨d12,l,rfl,h,x12,e12,b12,o12⟩:=are_cons' (Rt_L Rt_I R_I rfl) h
 obtain ⟨d13,l,rfl,h,x13,e13,b13,o13⟩:=are_cons' (Rt_L Rt_oH_RawEntry R_oH_RawEntry rfl) h
 obtain ⟨d14,l,rfl,h,x14,e14,b14,o14⟩:=are_cons' (Rt_L Rt_oH_RawOp R_oH_RawOp rfl) h
 obtain rfl:=are_nil h
 exact ⟨⟨x0,x1,x2,x3,x4,x5,x6,x7,x8,x9,x10,x11,x12,x13,x14⟩,by simp only [encSs,e0,e1,e2,e3,e4,e5,e6,e7,e8,e9,e10,e11,e12,e13,e14]; rfl,by simp only [bk_oH_RawMsg,D.bulks]; omega,o0,o1,o2,o3,o4,o5,o6,o7,o8,o9,o10,o11,o12,o13,o14⟩
end Go.Proofs.YtgahmammhclobaaGreat
