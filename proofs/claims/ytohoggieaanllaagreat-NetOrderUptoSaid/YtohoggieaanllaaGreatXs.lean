import Derived.Test.YtohoggieaanllaaGreatJ5
set_option linter.all false
set_option maxRecDepth 100000
namespace Go.Proofs.YtohoggieaanllaaGreat
structure dB where
 Kind:Int
 Key:Int
 Value:Int
 Old:Int
 Client:Int
 Seq:Int
 sH:Int
 Text:List UInt8
instance:Inhabited dB:=⟨⟨0,0,0,0,0,0,0,[]⟩⟩
def Fz (x:dB):List AV:=[(.int .i64 x.Kind),(.int .i64 x.Key),(.int .i64 x.Value),(.int .i64 x.Old),(.int .i64 x.Client),(.int .i64 x.Seq),(.int .i64 x.sH),(.str x.Text)]
theorem ah2 (x:dB):(Fz x).length=8:=rfl
def DU (l:List Int):List AV:=l.map λx=>(.int .i64 x)
theorem Jp:Row DU (λx=>[(.int .i64 x)]) 1:=PG _
def KT (l:List Int):AV:=.list 1 l.length (DU l) false
structure bK where
 Inc:Int
 Status:Int
 ql:Int
 Load:Int
 dR:Bool
instance:Inhabited bK:=⟨⟨0,0,0,0,false⟩⟩
def xU (x:bK):List AV:=[(.int .i64 x.Inc),(.int .i64 x.Status),(.int .i64 x.ql),(.int .i64 x.Load),(.bool x.dR)]
theorem aa7 (x:bK):(xU x).length=5:=rfl
def Qy (l:List bK):List AV:=l.flatMap xU
theorem IJ:Row Qy xU 5:=Fy aa7
def bg (l:List bK):AV:=.list 5 l.length (Qy l) false
def Y8 (l:List dB):List AV:=l.flatMap Fz
theorem Rm:Row Y8 Fz 8:=Fy ah2
def rG (l:List dB):AV:=.list 8 l.length (Y8 l) false
structure bf where
 Kind:Int
 From:Int
 To:Int
 eY:Int
 Epoch:Int
 Weight:Int
 Load:Int
 qm:Int
 Why:Int
 sH:Int
 dR:Bool
 Op:dB
 Path:List Int
 Table:List bK
 Ops:List dB
instance:Inhabited bf:=⟨⟨0,0,0,0,0,0,0,0,0,0,false,⟨0,0,0,0,0,0,0,[]⟩,[],[],[]⟩⟩
def dM (x:bf):List AV:=[(.int .i64 x.Kind),(.int .i64 x.From),(.int .i64 x.To),(.int .i64 x.eY),(.int .i64 x.Epoch),(.int .i64 x.Weight),(.int .i64 x.Load),(.int .i64 x.qm),(.int .i64 x.Why),(.int .i64 x.sH),(.bool x.dR),(.int .i64 x.Op.Kind),(.int .i64 x.Op.Key),(.int .i64 x.Op.Value),(.int .i64 x.Op.Old),(.int .i64 x.Op.Client),(.int .i64 x.Op.Seq),(.int .i64 x.Op.sH),(.str x.Op.Text),(KT x.Path),(bg x.Table),(rG x.Ops)]
theorem afK (x:bf):(dM x).length=22:=rfl
def F_S (l:List (List UInt8)):List AV:=l.map λx=>(.str x)
theorem R_S:Row F_S (λx=>[(.str x)]) 1:=PG _
def l_S (l:List (List UInt8)):AV:=.list 1 l.length (F_S l) false
structure av where
 Inc:Int
 Status:Int
 ql:Int
 Load:Int
 dR:Bool
instance:Inhabited av:=⟨⟨0,0,0,0,false⟩⟩
def zA (x:av):List AV:=[(.int .i64 x.Inc),(.int .i64 x.Status),(.int .i64 x.ql),(.int .i64 x.Load),(.bool x.dR)]
theorem afL (x:av):(zA x).length=5:=rfl
def bH (l:List av):List AV:=l.flatMap zA
theorem mJ:Row bH zA 5:=Fy afL
def dW (l:List av):AV:=.list 5 l.length (bH l) false
structure bD where
 Kind:Int
 Key:List UInt8
 Value:List UInt8
 Old:List UInt8
instance:Inhabited bD:=⟨⟨0,[],[],[]⟩⟩
def fQ (x:bD):List AV:=[(.int .i64 x.Kind),(.str x.Key),(.str x.Value),(.str x.Old)]
structure bn where
 Client:Int
 Seq:Int
 Op:bD
instance:Inhabited bn:=⟨⟨0,0,⟨0,[],[],[]⟩⟩⟩
def sO (x:bn):List AV:=[(.int .i64 x.Client),(.int .i64 x.Seq),(.int .i64 x.Op.Kind),(.str x.Op.Key),(.str x.Op.Value),(.str x.Op.Old)]
structure au where
 Key:List UInt8
 Value:List UInt8
instance:Inhabited au:=⟨⟨[],[]⟩⟩
def rJ (x:au):List AV:=[(.str x.Key),(.str x.Value)]
theorem ah3 (x:au):(rJ x).length=2:=rfl
structure aD where
 Why:Int
 Value:List UInt8
instance:Inhabited aD:=⟨⟨0,[]⟩⟩
def dQ (x:aD):List AV:=[(.int .i64 x.Why),(.str x.Value)]
structure ak where
 Client:Int
 Seq:Int
 Answer:aD
instance:Inhabited ak:=⟨⟨0,0,⟨0,[]⟩⟩⟩
def bM (x:ak):List AV:=[(.int .i64 x.Client),(.int .i64 x.Seq),(.int .i64 x.Answer.Why),(.str x.Answer.Value)]
theorem ah4 (x:ak):(bM x).length=4:=rfl
def aC (l:List au):List AV:=l.flatMap rJ
theorem aQ:Row aC rJ 2:=Fy ah3
def bQ (l:List au):AV:=.list 2 l.length (aC l) false
def aO (l:List ak):List AV:=l.flatMap bM
theorem bS:Row aO bM 4:=Fy ah4
def dD (l:List ak):AV:=.list 4 l.length (aO l) false
structure aA where
 eY:Int
 Epoch:Int
 Pairs:List au
 dX:List ak
instance:Inhabited aA:=⟨⟨0,0,[],[]⟩⟩
def bI (x:aA):List AV:=[(.int .i64 x.eY),(.int .i64 x.Epoch),(bQ x.Pairs),(dD x.dX)]
structure uJ where
 L:List au
instance:Inhabited uJ:=⟨⟨[]⟩⟩
def ah5 (x:uJ):List AV:=[(bQ x.L)]
structure oQ where
 L:List ak
instance:Inhabited oQ:=⟨⟨[]⟩⟩
def aa8 (x:oQ):List AV:=[(dD x.L)]
structure aT where
 T:uJ
 S_:oQ
 ID:Int
 Epoch:Int
instance:Inhabited aT:=⟨⟨⟨[]⟩,⟨[]⟩,0,0⟩⟩
def bN (x:aT):List AV:=[(bQ x.T.L),(dD x.S_.L),(.int .i64 x.ID),(.int .i64 x.Epoch)]
structure aF where
 Kind:Int
 From:Int
 To:Int
 eY:Int
 Epoch:Int
 Weight:Int
 Load:Int
 qm:Int
 dR:Bool
 IK:bn
 Answer:aD
 Path:List Int
 Table:List av
 xg:aA
instance:Inhabited aF:=⟨⟨0,0,0,0,0,0,0,0,false,⟨0,0,⟨0,[],[],[]⟩⟩,⟨0,[]⟩,[],[],⟨0,0,[],[]⟩⟩⟩
def bX (x:aF):List AV:=[(.int .i64 x.Kind),(.int .i64 x.From),(.int .i64 x.To),(.int .i64 x.eY),(.int .i64 x.Epoch),(.int .i64 x.Weight),(.int .i64 x.Load),(.int .i64 x.qm),(.bool x.dR),(.int .i64 x.IK.Client),(.int .i64 x.IK.Seq),(.int .i64 x.IK.Op.Kind),(.str x.IK.Op.Key),(.str x.IK.Op.Value),(.str x.IK.Op.Old),(.int .i64 x.Answer.Why),(.str x.Answer.Value),(KT x.Path),(dW x.Table),(.int .i64 x.xg.eY),(.int .i64 x.xg.Epoch),(bQ x.xg.Pairs),(dD x.xg.dX)]
theorem akZ (x:aF):(bX x).length=23:=rfl
def ML (l:List UInt8):List AV:=l.map λx=>(JD x)
theorem UK:Row ML (λx=>[(JD x)]) 1:=PG _
def oU (l:List UInt8):AV:=.list 1 l.length (ML l) false
structure qY where
 l:List au
instance:Inhabited qY:=⟨⟨[]⟩⟩
def aa9 (x:qY):List AV:=[(bQ x.l)]
structure A4 (α:Type) where
 a0:α
 a1:α
 a2:α
 a3:α
instance {α:Type} [Inhabited α]:Inhabited (A4 α):=⟨⟨default,default,default,default⟩⟩
def A4.Rn {α:Type} (x:A4 α):List α:=[x.a0,x.a1,x.a2,x.a3]
def A4.set {α:Type} (x:A4 α) (i:Int) (v:α):A4 α:=match i.toNat with
 | 0=>{ x with a0:=v }
 | 1=>{ x with a1:=v }
 | 2=>{ x with a2:=v }
 | 3=>{ x with a3:=v }
 | _=>x
theorem A4.arw {α:Type} (x:A4 α) {i:Int} {y v:α} (h:bO x.Rn i=some y):(x.set i v).Rn=x.Rn.set i.toNat v:=by
 have:i.toNat < 4:=by
  unfold bO at h
  split at h
  ·exact (List.getElem?_eq_some_iff.1 h).1
  ·cases h
 unfold A4.set
 obtain ⟨k,hk⟩:∃ k,k=i.toNat:=⟨_,rfl⟩
 rw [← hk] at this ⊢
 match k,this with
 | 0,_=>rfl
 | 1,_=>rfl
 | 2,_=>rfl
 | 3,_=>rfl
structure aW where
 l:A4 ak
instance:Inhabited aW:=⟨⟨⟨⟨0,0,⟨0,[]⟩⟩,⟨0,0,⟨0,[]⟩⟩,⟨0,0,⟨0,[]⟩⟩,⟨0,0,⟨0,[]⟩⟩⟩⟩⟩
def dO (x:aW):List AV:=[(.int .i64 x.l.a0.Client),(.int .i64 x.l.a0.Seq),(.int .i64 x.l.a0.Answer.Why),(.str x.l.a0.Answer.Value),(.int .i64 x.l.a1.Client),(.int .i64 x.l.a1.Seq),(.int .i64 x.l.a1.Answer.Why),(.str x.l.a1.Answer.Value),(.int .i64 x.l.a2.Client),(.int .i64 x.l.a2.Seq),(.int .i64 x.l.a2.Answer.Why),(.str x.l.a2.Answer.Value),(.int .i64 x.l.a3.Client),(.int .i64 x.l.a3.Seq),(.int .i64 x.l.a3.Answer.Why),(.str x.l.a3.Answer.Value)]
structure dF where
 Table:qY
 b_:aW
 ID:Int
 Epoch:Int
instance:Inhabited dF:=⟨⟨⟨[]⟩,⟨⟨⟨0,0,⟨0,[]⟩⟩,⟨0,0,⟨0,[]⟩⟩,⟨0,0,⟨0,[]⟩⟩,⟨0,0,⟨0,[]⟩⟩⟩⟩,0,0⟩⟩
def mK (x:dF):List AV:=[(bQ x.Table.l),(.int .i64 x.b_.l.a0.Client),(.int .i64 x.b_.l.a0.Seq),(.int .i64 x.b_.l.a0.Answer.Why),(.str x.b_.l.a0.Answer.Value),(.int .i64 x.b_.l.a1.Client),(.int .i64 x.b_.l.a1.Seq),(.int .i64 x.b_.l.a1.Answer.Why),(.str x.b_.l.a1.Answer.Value),(.int .i64 x.b_.l.a2.Client),(.int .i64 x.b_.l.a2.Seq),(.int .i64 x.b_.l.a2.Answer.Why),(.str x.b_.l.a2.Answer.Value),(.int .i64 x.b_.l.a3.Client),(.int .i64 x.b_.l.a3.Seq),(.int .i64 x.b_.l.a3.Answer.Why),(.str x.b_.l.a3.Answer.Value),(.int .i64 x.ID),(.int .i64 x.Epoch)]
def j_ (l:List (List UInt8)):List AV:=l.map λx=>(oU x)
theorem MN:Row j_ (λx=>[(oU x)]) 1:=PG _
def afM (l:List (List UInt8)):AV:=.list 1 l.length (j_ l) false
structure aI where
 b:List UInt8
 e:Int
instance:Inhabited aI:=⟨⟨[],0⟩⟩
def fA (x:aI):List AV:=[(oU x.b),(.int .i64 x.e)]
structure aG where
 b:List UInt8
 e:Int
instance:Inhabited aG:=⟨⟨[],0⟩⟩
def dY (x:aG):List AV:=[(oU x.b),(.int .i64 x.e)]
structure aJ where
 B:List UInt8
 E:Int
instance:Inhabited aJ:=⟨⟨[],0⟩⟩
def dS (x:aJ):List AV:=[(oU x.B),(.int .i64 x.E)]
def WC (l:List bf):List AV:=l.flatMap dM
theorem WE:Row WC dM 22:=Fy afK
def CW (l:List bf):AV:=.list 22 l.length (WC l) false
def jS (l:List aF):List AV:=l.flatMap bX
theorem kC:Row jS bX 23:=Fy akZ
def vV (l:List aF):AV:=.list 23 l.length (jS l) false
structure Ve where
 What:Int
 A:Int
 B:Int
 L:List bf
instance:Inhabited Ve:=⟨⟨0,0,0,[]⟩⟩
end Go.Proofs.YtohoggieaanllaaGreat
