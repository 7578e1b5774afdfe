import Derived.Test.YtohoggieaanllaaGreatJ5
set_option linter.all false
set_option maxRecDepth 100000
namespace Go.Proofs.YtohoggieaanllaaGreat
structure dH where
 Kind:Int
 Key:Int
 Value:Int
 Old:Int
 Client:Int
 Seq:Int
 ug:Int
 Text:List UInt8
instance:Inhabited dH:=⟨⟨0,0,0,0,0,0,0,[]⟩⟩
def F9 (x:dH):List AV:=[(.int .i64 x.Kind),(.int .i64 x.Key),(.int .i64 x.Value),(.int .i64 x.Old),(.int .i64 x.Client),(.int .i64 x.Seq),(.int .i64 x.ug),(.str x.Text)]
theorem aiB (x:dH):(F9 x).length=8:=rfl
def sF (l:List Int):List AV:=l.map λx=>(.int .i64 x)
theorem IB:Row sF (λx=>[(.int .i64 x)]) 1:=Qh _
def J9 (l:List Int):AV:=.list 1 l.length (sF l) false
structure bO where
 Inc:Int
 Status:Int
 qZ:Int
 Load:Int
 dL:Bool
instance:Inhabited bO:=⟨⟨0,0,0,0,false⟩⟩
def yG (x:bO):List AV:=[(.int .i64 x.Inc),(.int .i64 x.Status),(.int .i64 x.qZ),(.int .i64 x.Load),(.bool x.dL)]
theorem abM (x:bO):(yG x).length=5:=rfl
def Q6 (l:List bO):List AV:=l.flatMap yG
theorem Jj:Row Q6 yG 5:=N_ abM
def bn (l:List bO):AV:=.list 5 l.length (Q6 l) false
def ZT (l:List dH):List AV:=l.flatMap F9
theorem RV:Row ZT F9 8:=N_ aiB
def sU (l:List dH):AV:=.list 8 l.length (ZT l) false
structure bA where
 Kind:Int
 From:Int
 To:Int
 dR:Int
 Epoch:Int
 Weight:Int
 Load:Int
 kT:Int
 Why:Int
 ug:Int
 dL:Bool
 Op:dH
 Path:List Int
 Table:List bO
 Ops:List dH
instance:Inhabited bA:=⟨⟨0,0,0,0,0,0,0,0,0,0,false,⟨0,0,0,0,0,0,0,[]⟩,[],[],[]⟩⟩
def dJ (x:bA):List AV:=[(.int .i64 x.Kind),(.int .i64 x.From),(.int .i64 x.To),(.int .i64 x.dR),(.int .i64 x.Epoch),(.int .i64 x.Weight),(.int .i64 x.Load),(.int .i64 x.kT),(.int .i64 x.Why),(.int .i64 x.ug),(.bool x.dL),(.int .i64 x.Op.Kind),(.int .i64 x.Op.Key),(.int .i64 x.Op.Value),(.int .i64 x.Op.Old),(.int .i64 x.Op.Client),(.int .i64 x.Op.Seq),(.int .i64 x.Op.ug),(.str x.Op.Text),(J9 x.Path),(bn x.Table),(sU x.Ops)]
def F_S (l:List (List UInt8)):List AV:=l.map λx=>(.str x)
theorem R_S:Row F_S (λx=>[(.str x)]) 1:=Qh _
def l_S (l:List (List UInt8)):AV:=.list 1 l.length (F_S l) false
structure aA where
 Inc:Int
 Status:Int
 qZ:Int
 Load:Int
 dL:Bool
instance:Inhabited aA:=⟨⟨0,0,0,0,false⟩⟩
def zV (x:aA):List AV:=[(.int .i64 x.Inc),(.int .i64 x.Status),(.int .i64 x.qZ),(.int .i64 x.Load),(.bool x.dL)]
theorem agl (x:aA):(zV x).length=5:=rfl
def aX (l:List aA):List AV:=l.flatMap zV
theorem kK:Row aX zV 5:=N_ agl
def eP (l:List aA):AV:=.list 5 l.length (aX l) false
structure bE where
 Kind:Int
 Key:List UInt8
 Value:List UInt8
 Old:List UInt8
instance:Inhabited bE:=⟨⟨0,[],[],[]⟩⟩
def gF (x:bE):List AV:=[(.int .i64 x.Kind),(.str x.Key),(.str x.Value),(.str x.Old)]
structure aU where
 Client:Int
 Seq:Int
 Op:bE
instance:Inhabited aU:=⟨⟨0,0,⟨0,[],[],[]⟩⟩⟩
def uE (x:aU):List AV:=[(.int .i64 x.Client),(.int .i64 x.Seq),(.int .i64 x.Op.Kind),(.str x.Op.Key),(.str x.Op.Value),(.str x.Op.Old)]
structure av where
 Key:List UInt8
 Value:List UInt8
instance:Inhabited av:=⟨⟨[],[]⟩⟩
def sV (x:av):List AV:=[(.str x.Key),(.str x.Value)]
theorem aiC (x:av):(sV x).length=2:=rfl
structure aB where
 Why:Int
 Value:List UInt8
instance:Inhabited aB:=⟨⟨0,[]⟩⟩
def dZ (x:aB):List AV:=[(.int .i64 x.Why),(.str x.Value)]
structure au where
 Client:Int
 Seq:Int
 Answer:aB
instance:Inhabited au:=⟨⟨0,0,⟨0,[]⟩⟩⟩
def bS (x:au):List AV:=[(.int .i64 x.Client),(.int .i64 x.Seq),(.int .i64 x.Answer.Why),(.str x.Answer.Value)]
theorem aiD (x:au):(bS x).length=4:=rfl
def aD (l:List av):List AV:=l.flatMap sV
theorem aO:Row aD sV 2:=N_ aiC
def bL (l:List av):AV:=.list 2 l.length (aD l) false
def aI (l:List au):List AV:=l.flatMap bS
theorem bW:Row aI bS 4:=N_ aiD
def dw (l:List au):AV:=.list 4 l.length (aI l) false
structure aC where
 dR:Int
 Epoch:Int
 Pairs:List av
 dN:List au
instance:Inhabited aC:=⟨⟨0,0,[],[]⟩⟩
def bK (x:aC):List AV:=[(.int .i64 x.dR),(.int .i64 x.Epoch),(bL x.Pairs),(dw x.dN)]
structure vN where
 L:List av
instance:Inhabited vN:=⟨⟨[]⟩⟩
def aiE (x:vN):List AV:=[(bL x.L)]
structure qD where
 L:List au
instance:Inhabited qD:=⟨⟨[]⟩⟩
def abN (x:qD):List AV:=[(dw x.L)]
structure aS where
 T:vN
 S_:qD
 ID:Int
 Epoch:Int
instance:Inhabited aS:=⟨⟨⟨[]⟩,⟨[]⟩,0,0⟩⟩
def bT (x:aS):List AV:=[(bL x.T.L),(dw x.S_.L),(.int .i64 x.ID),(.int .i64 x.Epoch)]
structure aM where
 Kind:Int
 From:Int
 To:Int
 dR:Int
 Epoch:Int
 Weight:Int
 Load:Int
 kT:Int
 dL:Bool
 Fa:aU
 Answer:aB
 Path:List Int
 Table:List aA
 mZ:aC
instance:Inhabited aM:=⟨⟨0,0,0,0,0,0,0,0,false,⟨0,0,⟨0,[],[],[]⟩⟩,⟨0,[]⟩,[],[],⟨0,0,[],[]⟩⟩⟩
def dh (x:aM):List AV:=[(.int .i64 x.Kind),(.int .i64 x.From),(.int .i64 x.To),(.int .i64 x.dR),(.int .i64 x.Epoch),(.int .i64 x.Weight),(.int .i64 x.Load),(.int .i64 x.kT),(.bool x.dL),(.int .i64 x.Fa.Client),(.int .i64 x.Fa.Seq),(.int .i64 x.Fa.Op.Kind),(.str x.Fa.Op.Key),(.str x.Fa.Op.Value),(.str x.Fa.Op.Old),(.int .i64 x.Answer.Why),(.str x.Answer.Value),(J9 x.Path),(eP x.Table),(.int .i64 x.mZ.dR),(.int .i64 x.mZ.Epoch),(bL x.mZ.Pairs),(dw x.mZ.dN)]
def DF (l:List UInt8):List AV:=l.map λx=>(EP x)
theorem LA:Row DF (λx=>[(EP x)]) 1:=Qh _
def kS (l:List UInt8):AV:=.list 1 l.length (DF l) false
structure sI where
 l:List av
instance:Inhabited sI:=⟨⟨[]⟩⟩
def abO (x:sI):List AV:=[(bL x.l)]
structure A4 (α:Type) where
 a0:α
 a1:α
 a2:α
 a3:α
instance {α:Type} [Inhabited α]:Inhabited (A4 α):=⟨⟨default,default,default,default⟩⟩
def A4.RX {α:Type} (x:A4 α):List α:=[x.a0,x.a1,x.a2,x.a3]
def A4.set {α:Type} (x:A4 α) (i:Int) (v:α):A4 α:=match i.toNat with
 | 0=>{ x with a0:=v }
 | 1=>{ x with a1:=v }
 | 2=>{ x with a2:=v }
 | 3=>{ x with a3:=v }
 | _=>x
theorem A4.arA {α:Type} (x:A4 α) {i:Int} {y v:α} (h:bV x.RX i=some y):(x.set i v).RX=x.RX.set i.toNat v:=by
 have:i.toNat < 4:=by
  unfold bV at h
  split at h
  ·exact (List.getElem?_eq_some_iff.1 h).1
  ·cases h
 unfold A4.set
 obtain ⟨k,hk⟩:∃ k,k=i.toNat:=⟨_,rfl⟩
 rw [← hk] at this ⊢
 match k,this with
 | 0,_=>rfl
 | 1,_=>rfl
 | 2,_=>rfl
 | 3,_=>rfl
structure aW where
 l:A4 au
instance:Inhabited aW:=⟨⟨⟨⟨0,0,⟨0,[]⟩⟩,⟨0,0,⟨0,[]⟩⟩,⟨0,0,⟨0,[]⟩⟩,⟨0,0,⟨0,[]⟩⟩⟩⟩⟩
def dX (x:aW):List AV:=[(.int .i64 x.l.a0.Client),(.int .i64 x.l.a0.Seq),(.int .i64 x.l.a0.Answer.Why),(.str x.l.a0.Answer.Value),(.int .i64 x.l.a1.Client),(.int .i64 x.l.a1.Seq),(.int .i64 x.l.a1.Answer.Why),(.str x.l.a1.Answer.Value),(.int .i64 x.l.a2.Client),(.int .i64 x.l.a2.Seq),(.int .i64 x.l.a2.Answer.Why),(.str x.l.a2.Answer.Value),(.int .i64 x.l.a3.Client),(.int .i64 x.l.a3.Seq),(.int .i64 x.l.a3.Answer.Why),(.str x.l.a3.Answer.Value)]
structure dM where
 Table:sI
 cZ:aW
 ID:Int
 Epoch:Int
instance:Inhabited dM:=⟨⟨⟨[]⟩,⟨⟨⟨0,0,⟨0,[]⟩⟩,⟨0,0,⟨0,[]⟩⟩,⟨0,0,⟨0,[]⟩⟩,⟨0,0,⟨0,[]⟩⟩⟩⟩,0,0⟩⟩
def nM (x:dM):List AV:=[(bL x.Table.l),(.int .i64 x.cZ.l.a0.Client),(.int .i64 x.cZ.l.a0.Seq),(.int .i64 x.cZ.l.a0.Answer.Why),(.str x.cZ.l.a0.Answer.Value),(.int .i64 x.cZ.l.a1.Client),(.int .i64 x.cZ.l.a1.Seq),(.int .i64 x.cZ.l.a1.Answer.Why),(.str x.cZ.l.a1.Answer.Value),(.int .i64 x.cZ.l.a2.Client),(.int .i64 x.cZ.l.a2.Seq),(.int .i64 x.cZ.l.a2.Answer.Why),(.str x.cZ.l.a2.Answer.Value),(.int .i64 x.cZ.l.a3.Client),(.int .i64 x.cZ.l.a3.Seq),(.int .i64 x.cZ.l.a3.Answer.Why),(.str x.cZ.l.a3.Answer.Value),(.int .i64 x.ID),(.int .i64 x.Epoch)]
def ayg (l:List (List UInt8)):List AV:=l.map λx=>(kS x)
theorem ayh:Row ayg (λx=>[(kS x)]) 1:=Qh _
structure aJ where
 b:List UInt8
 e:Int
instance:Inhabited aJ:=⟨⟨[],0⟩⟩
def fH (x:aJ):List AV:=[(kS x.b),(.int .i64 x.e)]
structure aG where
 b:List UInt8
 e:Int
instance:Inhabited aG:=⟨⟨[],0⟩⟩
def eU (x:aG):List AV:=[(kS x.b),(.int .i64 x.e)]
structure ak where
 B:List UInt8
 E:Int
instance:Inhabited ak:=⟨⟨[],0⟩⟩
def bR (x:ak):List AV:=[(kS x.B),(.int .i64 x.E)]
structure VY where
 What:Int
 A:Int
 B:Int
 L:List bA
instance:Inhabited VY:=⟨⟨0,0,0,[]⟩⟩
end Go.Proofs.YtohoggieaanllaaGreat
