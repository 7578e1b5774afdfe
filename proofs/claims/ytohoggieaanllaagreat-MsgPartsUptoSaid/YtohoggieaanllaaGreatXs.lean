import Derived.Test.YtohoggieaanllaaGreatJ5
set_option linter.all false
set_option maxRecDepth 100000
namespace Go.Proofs.YtohoggieaanllaaGreat
structure bU where
 Kind:Int
 Key:Int
 Value:Int
 Old:Int
 Client:Int
 Seq:Int
 pE:Int
 Text:List UInt8
instance:Inhabited bU:=⟨⟨0,0,0,0,0,0,0,[]⟩⟩
def Bj (x:bU):List AV:=[(.int .i64 x.Kind),(.int .i64 x.Key),(.int .i64 x.Value),(.int .i64 x.Old),(.int .i64 x.Client),(.int .i64 x.Seq),(.int .i64 x.pE),(.str x.Text)]
theorem aaD (x:bU):(Bj x).length=8:=rfl
def yB (l:List Int):List AV:=l.map λx=>(.int .i64 x)
theorem Fe:Row yB (λx=>[(.int .i64 x)]) 1:=MI _
def K_ (l:List Int):AV:=.list 1 l.length (yB l) false
structure bD where
 Inc:Int
 Status:Int
 nV:Int
 Load:Int
 dw:Bool
instance:Inhabited bD:=⟨⟨0,0,0,0,false⟩⟩
def uf (x:bD):List AV:=[(.int .i64 x.Inc),(.int .i64 x.Status),(.int .i64 x.nV),(.int .i64 x.Load),(.bool x.dw)]
theorem Ug (x:bD):(uf x).length=5:=rfl
def Kv (l:List bD):List AV:=l.flatMap uf
theorem Dr:Row Kv uf 5:=H6 Ug
def aV (l:List bD):AV:=.list 5 l.length (Kv l) false
def RU (l:List bU):List AV:=l.flatMap Bj
theorem La:Row RU Bj 8:=H6 aaD
def oq (l:List bU):AV:=.list 8 l.length (RU l) false
structure bg where
 Kind:Int
 From:Int
 To:Int
 fB:Int
 Epoch:Int
 Weight:Int
 Load:Int
 m_:Int
 Why:Int
 pE:Int
 dw:Bool
 Op:bU
 Path:List Int
 Table:List bD
 Ops:List bU
instance:Inhabited bg:=⟨⟨0,0,0,0,0,0,0,0,0,0,false,⟨0,0,0,0,0,0,0,[]⟩,[],[],[]⟩⟩
def dG (x:bg):List AV:=[(.int .i64 x.Kind),(.int .i64 x.From),(.int .i64 x.To),(.int .i64 x.fB),(.int .i64 x.Epoch),(.int .i64 x.Weight),(.int .i64 x.Load),(.int .i64 x.m_),(.int .i64 x.Why),(.int .i64 x.pE),(.bool x.dw),(.int .i64 x.Op.Kind),(.int .i64 x.Op.Key),(.int .i64 x.Op.Value),(.int .i64 x.Op.Old),(.int .i64 x.Op.Client),(.int .i64 x.Op.Seq),(.int .i64 x.Op.pE),(.str x.Op.Text),(K_ x.Path),(aV x.Table),(oq x.Ops)]
def F_S (l:List (List UInt8)):List AV:=l.map λx=>(.str x)
theorem R_S:Row F_S (λx=>[(.str x)]) 1:=MI _
def l_S (l:List (List UInt8)):AV:=.list 1 l.length (F_S l) false
structure av where
 Inc:Int
 Status:Int
 nV:Int
 Load:Int
 dw:Bool
instance:Inhabited av:=⟨⟨0,0,0,0,false⟩⟩
def vE (x:av):List AV:=[(.int .i64 x.Inc),(.int .i64 x.Status),(.int .i64 x.nV),(.int .i64 x.Load),(.bool x.dw)]
theorem YC (x:av):(vE x).length=5:=rfl
def bn (l:List av):List AV:=l.flatMap vE
theorem jK:Row bn vE 5:=H6 YC
def dK (l:List av):AV:=.list 5 l.length (bn l) false
structure aY where
 Kind:Int
 Key:List UInt8
 Value:List UInt8
 Old:List UInt8
instance:Inhabited aY:=⟨⟨0,[],[],[]⟩⟩
def fF (x:aY):List AV:=[(.int .i64 x.Kind),(.str x.Key),(.str x.Value),(.str x.Old)]
structure aX where
 Client:Int
 Seq:Int
 Op:aY
instance:Inhabited aX:=⟨⟨0,0,⟨0,[],[],[]⟩⟩⟩
def vF (x:aX):List AV:=[(.int .i64 x.Client),(.int .i64 x.Seq),(.int .i64 x.Op.Kind),(.str x.Op.Key),(.str x.Op.Value),(.str x.Op.Old)]
structure au where
 Key:List UInt8
 Value:List UInt8
instance:Inhabited au:=⟨⟨[],[]⟩⟩
def ou (x:au):List AV:=[(.str x.Key),(.str x.Value)]
theorem aaE (x:au):(ou x).length=2:=rfl
structure aA where
 Why:Int
 Value:List UInt8
instance:Inhabited aA:=⟨⟨0,[]⟩⟩
def dQ (x:aA):List AV:=[(.int .i64 x.Why),(.str x.Value)]
structure ak where
 Client:Int
 Seq:Int
 Answer:aA
instance:Inhabited ak:=⟨⟨0,0,⟨0,[]⟩⟩⟩
def bL (x:ak):List AV:=[(.int .i64 x.Client),(.int .i64 x.Seq),(.int .i64 x.Answer.Why),(.str x.Answer.Value)]
theorem aaF (x:ak):(bL x).length=4:=rfl
def aB (l:List au):List AV:=l.flatMap ou
theorem aJ:Row aB ou 2:=H6 aaE
def bK (l:List au):AV:=.list 2 l.length (aB l) false
def aI (l:List ak):List AV:=l.flatMap bL
theorem bQ:Row aI bL 4:=H6 aaF
def cu (l:List ak):AV:=.list 4 l.length (aI l) false
structure aD where
 fB:Int
 Epoch:Int
 Pairs:List au
 gB:List ak
instance:Inhabited aD:=⟨⟨0,0,[],[]⟩⟩
def cO (x:aD):List AV:=[(.int .i64 x.fB),(.int .i64 x.Epoch),(bK x.Pairs),(cu x.gB)]
structure qL where
 L:List au
instance:Inhabited qL:=⟨⟨[]⟩⟩
def aaG (x:qL):List AV:=[(bK x.L)]
structure mE where
 L:List ak
instance:Inhabited mE:=⟨⟨[]⟩⟩
def Uh (x:mE):List AV:=[(cu x.L)]
structure aM where
 T:qL
 S_:mE
 ID:Int
 Epoch:Int
instance:Inhabited aM:=⟨⟨⟨[]⟩,⟨[]⟩,0,0⟩⟩
def bH (x:aM):List AV:=[(bK x.T.L),(cu x.S_.L),(.int .i64 x.ID),(.int .i64 x.Epoch)]
structure aO where
 Kind:Int
 From:Int
 To:Int
 fB:Int
 Epoch:Int
 Weight:Int
 Load:Int
 m_:Int
 dw:Bool
 Bl:aX
 Answer:aA
 Path:List Int
 Table:List av
 nK:aD
instance:Inhabited aO:=⟨⟨0,0,0,0,0,0,0,0,false,⟨0,0,⟨0,[],[],[]⟩⟩,⟨0,[]⟩,[],[],⟨0,0,[],[]⟩⟩⟩
def dH (x:aO):List AV:=[(.int .i64 x.Kind),(.int .i64 x.From),(.int .i64 x.To),(.int .i64 x.fB),(.int .i64 x.Epoch),(.int .i64 x.Weight),(.int .i64 x.Load),(.int .i64 x.m_),(.bool x.dw),(.int .i64 x.Bl.Client),(.int .i64 x.Bl.Seq),(.int .i64 x.Bl.Op.Kind),(.str x.Bl.Op.Key),(.str x.Bl.Op.Value),(.str x.Bl.Op.Old),(.int .i64 x.Answer.Why),(.str x.Answer.Value),(K_ x.Path),(dK x.Table),(.int .i64 x.nK.fB),(.int .i64 x.nK.Epoch),(bK x.nK.Pairs),(cu x.nK.gB)]
def Rc (l:List UInt8):List AV:=l.map λx=>(CQ x)
theorem R_B:Row Rc (λx=>[(CQ x)]) 1:=MI _
def Am (l:List UInt8):AV:=.list 1 l.length (Rc l) false
structure nW where
 l:List au
instance:Inhabited nW:=⟨⟨[]⟩⟩
def Ui (x:nW):List AV:=[(bK x.l)]
structure A4 (α:Type) where
 a0:α
 a1:α
 a2:α
 a3:α
instance {α:Type} [Inhabited α]:Inhabited (A4 α):=⟨⟨default,default,default,default⟩⟩
def A4.Lb {α:Type} (x:A4 α):List α:=[x.a0,x.a1,x.a2,x.a3]
def A4.set {α:Type} (x:A4 α) (i:Int) (v:α):A4 α:=match i.toNat with
 | 0=>{ x with a0:=v }
 | 1=>{ x with a1:=v }
 | 2=>{ x with a2:=v }
 | 3=>{ x with a3:=v }
 | _=>x
theorem A4.aiG {α:Type} (x:A4 α) {i:Int} {y v:α} (h:bW x.Lb i=some y):(x.set i v).Lb=x.Lb.set i.toNat v:=by
 have:i.toNat < 4:=by
  unfold bW at h
  split at h
  ·exact (List.getElem?_eq_some_iff.1 h).1
  ·cases h
 unfold A4.set
 obtain ⟨k,hk⟩:∃ k,k=i.toNat:=⟨_,rfl⟩
 rw [← hk] at this ⊢
 match k,this with
 | 0,_=>rfl
 | 1,_=>rfl
 | 2,_=>rfl
 | 3,_=>rfl
structure aQ where
 l:A4 ak
instance:Inhabited aQ:=⟨⟨⟨⟨0,0,⟨0,[]⟩⟩,⟨0,0,⟨0,[]⟩⟩,⟨0,0,⟨0,[]⟩⟩,⟨0,0,⟨0,[]⟩⟩⟩⟩⟩
def dF (x:aQ):List AV:=[(.int .i64 x.l.a0.Client),(.int .i64 x.l.a0.Seq),(.int .i64 x.l.a0.Answer.Why),(.str x.l.a0.Answer.Value),(.int .i64 x.l.a1.Client),(.int .i64 x.l.a1.Seq),(.int .i64 x.l.a1.Answer.Why),(.str x.l.a1.Answer.Value),(.int .i64 x.l.a2.Client),(.int .i64 x.l.a2.Seq),(.int .i64 x.l.a2.Answer.Why),(.str x.l.a2.Answer.Value),(.int .i64 x.l.a3.Client),(.int .i64 x.l.a3.Seq),(.int .i64 x.l.a3.Answer.Why),(.str x.l.a3.Answer.Value)]
structure bY where
 Table:nW
 cZ:aQ
 ID:Int
 Epoch:Int
instance:Inhabited bY:=⟨⟨⟨[]⟩,⟨⟨⟨0,0,⟨0,[]⟩⟩,⟨0,0,⟨0,[]⟩⟩,⟨0,0,⟨0,[]⟩⟩,⟨0,0,⟨0,[]⟩⟩⟩⟩,0,0⟩⟩
def kI (x:bY):List AV:=[(bK x.Table.l),(.int .i64 x.cZ.l.a0.Client),(.int .i64 x.cZ.l.a0.Seq),(.int .i64 x.cZ.l.a0.Answer.Why),(.str x.cZ.l.a0.Answer.Value),(.int .i64 x.cZ.l.a1.Client),(.int .i64 x.cZ.l.a1.Seq),(.int .i64 x.cZ.l.a1.Answer.Why),(.str x.cZ.l.a1.Answer.Value),(.int .i64 x.cZ.l.a2.Client),(.int .i64 x.cZ.l.a2.Seq),(.int .i64 x.cZ.l.a2.Answer.Why),(.str x.cZ.l.a2.Answer.Value),(.int .i64 x.cZ.l.a3.Client),(.int .i64 x.cZ.l.a3.Seq),(.int .i64 x.cZ.l.a3.Answer.Why),(.str x.cZ.l.a3.Answer.Value),(.int .i64 x.ID),(.int .i64 x.Epoch)]
structure aC where
 b:List UInt8
 e:Int
instance:Inhabited aC:=⟨⟨[],0⟩⟩
def eu (x:aC):List AV:=[(Am x.b),(.int .i64 x.e)]
structure aF where
 b:List UInt8
 e:Int
instance:Inhabited aF:=⟨⟨[],0⟩⟩
def dM (x:aF):List AV:=[(Am x.b),(.int .i64 x.e)]
structure adb where
 B:List UInt8
 E:Int
instance:Inhabited adb:=⟨⟨[],0⟩⟩
structure Oj where
 What:Int
 A:Int
 B:Int
 L:List bg
instance:Inhabited Oj:=⟨⟨0,0,0,[]⟩⟩
end Go.Proofs.YtohoggieaanllaaGreat
