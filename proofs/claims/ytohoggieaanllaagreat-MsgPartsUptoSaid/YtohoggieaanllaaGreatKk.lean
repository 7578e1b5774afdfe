import Derived.Test.YtohoggieaanllaaGreatKj
import Derived.Test.YtohoggieaanllaaGreatXrMsgParts
set_option linter.all false
set_option linter.unusedSimpArgs false
set_option maxRecDepth 100000
namespace Go.Proofs.YtohoggieaanllaaGreat
theorem XO:gF=some true:=by decide +kernel
def yOf (x2:Int×Int×Int×Int×Int×Int×Int×Int×Bool×Int×Int×Int×List UInt8×List UInt8×List UInt8×Int×List UInt8×Int×Int×List Int×List av×List au×List ak) (x9:(Int×Int×Int×Int×Int×Int×Int×Bool×Int×Int×Int×List UInt8×List UInt8×List UInt8×List UInt8×List Int×List av)):aO:=(⟨x2.1,x9.1,x9.2.1,x9.2.2.1,x9.2.2.2.1,x9.2.2.2.2.1,x9.2.2.2.2.2.1,x9.2.2.2.2.2.2.1,x9.2.2.2.2.2.2.2.1,(⟨x9.2.2.2.2.2.2.2.2.1,x9.2.2.2.2.2.2.2.2.2.1,(⟨x9.2.2.2.2.2.2.2.2.2.2.1,x9.2.2.2.2.2.2.2.2.2.2.2.1,x9.2.2.2.2.2.2.2.2.2.2.2.2.1,x9.2.2.2.2.2.2.2.2.2.2.2.2.2.1⟩:aY)⟩:aX),(⟨x2.2.2.2.2.2.2.2.2.2.2.2.2.2.2.2.1,x9.2.2.2.2.2.2.2.2.2.2.2.2.2.2.1⟩:aA),x9.2.2.2.2.2.2.2.2.2.2.2.2.2.2.2.1,x9.2.2.2.2.2.2.2.2.2.2.2.2.2.2.2.2,(⟨x2.2.2.2.2.2.2.2.2.2.2.2.2.2.2.2.2.2.1,x2.2.2.2.2.2.2.2.2.2.2.2.2.2.2.2.2.2.2.1,x2.2.2.2.2.2.2.2.2.2.2.2.2.2.2.2.2.2.2.2.2.2.1,x2.2.2.2.2.2.2.2.2.2.2.2.2.2.2.2.2.2.2.2.2.2.2⟩:aD)⟩:aO)
def Pe1 (x y:aO):Option (Bool⊕Unit) :=
 (nN x).bind λ(x10:Bool)=>cond (!x10) ((gF).bind λ(dN:Bool)=>some (.inl dN)) ((nN y).bind λ(dI:Bool)=>cond (!dI) ((gF).bind λ(rG:Bool)=>some (.inl rG)) (some (.inr ())))
def Pe2 (x y:aO):Option Bool :=
 (Pe1 x y).bind λ(kR:Bool⊕Unit)=>cond (mW kR) (some (Bg kR)) ((gF).bind λ(xQ:Bool)=>cond xQ ((Ay x).bind λ(ny:List UInt8)=>(Ay y).bind λ(x18:List UInt8)=>cond (!(ny==x18)) ((xC x y).bind λ(mR:Bool)=>cond (!mR) ((xC y y).bind λ(x20:Bool)=>some x20) (some false)) (some false)) (some false))
theorem akJ (a:bg) (which:Int):lS a which=(IL a 5).bind λx1=>(Bz a 5).bind λx2=>(iG which x2 x1).bind λx9=>Pe2 x1 (yOf x2 x9):=rfl
theorem uR (x y:aO) (sx:O8 x) (sy:O8 y) (hne:D9 x=true→x≠y):Pe2 x y=some true:=by
 unfold Pe2 Pe1
 rw [O9 x sx,Option.bind_some]
 cases rx:D9 x
 case false=>rw [XO];rfl
 simp only [Bool.not_true,cond_false]
 rw [O9 y sy,Option.bind_some]
 cases ry:D9 y
 case false=>rw [XO];rfl
 have ne:=hne rx
 obtain ⟨v,v1,v2⟩:=ald x y sx
 obtain ⟨w,w1,w2⟩:=ald y y sy
 have hv:v=false:=by
  cases v
  ·rfl
  ·exact absurd (v2.1 rfl) ne
 have hl:(abO x==abO y)=false:=by
  rw [beq_eq_false_iff_ne]
  exact λe=>ne ((ZX rx).inj (ZX ry) (r:=[]) (s:=[]) (by simpa using e)).1
 rw [XO,acL x sx,acL y sy,rx,ry,v1,w1,w2.2 rfl,hv]
 simp only [Bool.not_true,cond_false,Option.bind_some,if_true,hl,Bool.not_false,cond_true]
 rfl
set_option maxHeartbeats 2000000 in
theorem B_ (x0:bg) (x1:Int) (o0:MK x0) (o1:Rb x1) (hb:FH x0+bk1 x1≤1048576):lS x0 x1=some true:=by
 obtain ⟨m,hm,sm,nm,m1,m2,m3⟩:=adY x0
 have h12:=anm x0 5
 rw [akJ,hm,Option.bind_some]
 rw [hm] at h12
 cases ht:Bz x0 5 with
 | none=>rw [ht] at h12;cases h12
 | some t =>
 rw [ht,Option.bind_some] at h12
 obtain rfl:=Option.some.inj h12
 rw [Option.bind_some]
 obtain ⟨k,k1,k2⟩:=zH x1 12 (by omega) (by omega)
 have k1:bf x1 12=some (k:Int):=k1
 unfold iG
 rw [k1,Option.bind_some]
 have kk:k=0∨k=1∨k=2∨k=3∨k=4∨k=5∨k=6∨k=7∨k=8∨k=9∨k=10∨k=11:=by omega
 have rp:=λh=>(AJ (m:=NH t) h).2.2.1
 have wr:∀ n:Int,vO n→n≠IntKind.i64.wrap (n+1):=λn h=>by
  unfold vO at h
  rw [fG (by omega) (by omega)]
  omega
 rcases kk with rfl | rfl | rfl | rfl | rfl | rfl | rfl | rfl | rfl | rfl | rfl | rfl
 ·refine uR _ (yOf t _) sm sm λh e=>?_
  exact wr (NH t).From (rp h _ (by simp [zJ])) (congrArg aO.From e)
 ·refine uR _ (yOf t _) sm sm λh e=>?_
  exact wr (NH t).To (rp h _ (by simp [zJ])) (congrArg aO.To e)
 ·refine uR _ (yOf t _) sm sm λh e=>?_
  exact wr (NH t).fB (rp h _ (by simp [zJ])) (congrArg aO.fB e)
 ·refine uR _ (yOf t _) sm sm λh e=>?_
  exact wr (NH t).Epoch (rp h _ (by simp [zJ])) (congrArg aO.Epoch e)
 ·refine uR _ (yOf t _) sm sm λh e=>?_
  exact wr (NH t).Weight (rp h _ (by simp [zJ])) (congrArg aO.Weight e)
 ·refine uR _ (yOf t _) sm sm λh e=>?_
  exact wr (NH t).Load (rp h _ (by simp [zJ])) (congrArg aO.Load e)
 ·refine uR _ (yOf t _) sm sm λh e=>?_
  exact wr (NH t).m_ (rp h _ (by simp [zJ])) (congrArg aO.m_ e)
 ·refine uR _ (yOf t _) sm sm λh e=>?_
  have:=congrArg aO.dw e
  have:(NH t).dw = !(NH t).dw:=this
  cases q:(NH t).dw<;>rw [q] at this<;>cases this
 ·have hc:ada (NH t).Answer.Value [120]=some ((NH t).Answer.Value++[120]):=by
   unfold ada
   rw [if_pos (by simp;omega)]
  show (Option.bind (ada (NH t).Answer.Value [120]) _).bind _=_
  rw [hc]
  refine uR _ (yOf t _) sm sm λh e=>?_
  have:(NH t).Answer.Value=(NH t).Answer.Value++[120]:=congrArg (λz:aO=>z.Answer.Value) e
  have:=congrArg List.length this
  simp at this
 ·show (gd (dB 8 (NH t).Path.length) (gd (dB 8 ((NH t).Path++[3]).length) _)).bind _=_
  rw [uI (by unfold dB;simp;omega),uI (by unfold dB;simp;omega)]
  refine uR _ (yOf t _) sm ⟨?_,sm.2.1,sm.2.2⟩ λh e=>?_
  ·show ((NH t).Path++[3]).length < _
   simp;omega
  have:(NH t).Path=(NH t).Path++[3]:=congrArg aO.Path e
  have:=congrArg List.length this
  simp at this
 ·show (gd (dB 40 (NH t).Table.length) (gd (dB 40 ((NH t).Table++[(⟨0,0,0,0,false⟩:av)]).length) _)).bind _=_
  rw [uI (by unfold dB;simp;omega),uI (by unfold dB;simp;omega)]
  refine uR _ (yOf t _) sm ⟨sm.1, ?_,sm.2.2⟩ λh e=>?_
  ·show ((NH t).Table++[(⟨0,0,0,0,false⟩:av)]).length < _
   simp;omega
  have:(NH t).Table=(NH t).Table++[(⟨0,0,0,0,false⟩:av)]:=congrArg aO.Table e
  have:=congrArg List.length this
  simp at this
 ·refine uR _ (yOf t _) sm sm λh e=>?_
  have e1:(NH t).Bl.Seq=77:=congrArg (λz:aO=>z.Bl.Seq) e
  have e2:(NH t).Bl.Op.Key=other:=congrArg (λz:aO=>z.Bl.Op.Key) e
  rcases nm with h | h
  ·exact h e1
  ·exact h e2
end Go.Proofs.YtohoggieaanllaaGreat
