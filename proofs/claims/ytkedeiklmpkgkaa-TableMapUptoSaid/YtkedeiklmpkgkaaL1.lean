import Derived.Test.YtkedeiklmpkgkaaJ5
set_option linter.all false
set_option maxRecDepth 100000
namespace Go.Proofs.Ytkedeiklmpkgkaa
structure yO where
 Client:Int
 Seq:Int
 Why:Int
 Value:Int
instance:Inhabited yO:=⟨⟨0,0,0,0⟩⟩
structure aO where
 Why:Int
 Value:List UInt8
instance:Inhabited aO:=⟨⟨0,[]⟩⟩
def bI(x:aO):List AV:=[(.int .i64 x.Why),(.str x.Value)]
structure wh where
 Client:Int
 Seq:Int
 Answer:aO
instance:Inhabited wh:=⟨⟨0,0,⟨0,[]⟩⟩⟩
structure A4(α:Type) where
 a0:α
 a1:α
 a2:α
 a3:α
instance {α:Type} [Inhabited α]:Inhabited (A4 α):=⟨⟨default,default,default,default⟩⟩
def A4.set{α:Type}(x:A4 α)(i:Int)(v:α):A4 α:=match i.toNat with
 | 0=>{ x with a0:=v }
 | 1=>{ x with a1:=v }
 | 2=>{ x with a2:=v }
 | 3=>{ x with a3:=v }
 | _=>x
structure qz where
 l:A4 wh
instance:Inhabited qz:=⟨⟨⟨⟨0,0,⟨0,[]⟩⟩,⟨0,0,⟨0,[]⟩⟩,⟨0,0,⟨0,[]⟩⟩,⟨0,0,⟨0,[]⟩⟩⟩⟩⟩
def Uh(l:List (List UInt8)):List AV:=l.map λx=>(.str x)
theorem Tn:Row Uh (λx=>[(.str x)]) 1:=Df _
structure yP where
 What:Int
 N:Int
 Parts:List (List UInt8)
instance:Inhabited yP:=⟨⟨0,0,[]⟩⟩
structure Nb where
 B:List UInt8
 R6:Int
instance:Inhabited Nb:=⟨⟨[],0⟩⟩
structure IY where
 b:List UInt8
 synced:Int
instance:Inhabited IY:=⟨⟨[],0⟩⟩
structure bV where
 Kind:Int
 Key:Int
 Value:Int
 Old:Int
 Client:Int
 Seq:Int
 Gj:Int
 Text:List UInt8
instance:Inhabited bV:=⟨⟨0,0,0,0,0,0,0,[]⟩⟩
def n_(x:bV):List AV:=[(.int .i64 x.Kind),(.int .i64 x.Key),(.int .i64 x.Value),(.int .i64 x.Old),(.int .i64 x.Client),(.int .i64 x.Seq),(.int .i64 x.Gj),(.str x.Text)]
theorem Gl(x:bV):(n_ x).length=8:=rfl
def lZ:List UInt8→AV:=λx:List UInt8=>(.str x)
def gq(l:List (List UInt8×List UInt8)):List (AV×AV):=mE (AV.str) lZ l
def Ab(l:List bV):List AV:=l.flatMap n_
theorem Ac:Row Ab n_ 8:=EH Gl
def jU(l:List bV):AV:=.list 8 l.length (Ab l) false
structure aX where
 Kind:Int
 Key:List UInt8
 Value:List UInt8
 Old:List UInt8
instance:Inhabited aX:=⟨⟨0,[],[],[]⟩⟩
def bS(x:aX):List AV:=[(.int .i64 x.Kind),(.str x.Key),(.str x.Value),(.str x.Old)]
structure aA where
 Key:List UInt8
 Value:List UInt8
instance:Inhabited aA:=⟨⟨[],[]⟩⟩
def qP(x:aA):List AV:=[(.str x.Key),(.str x.Value)]
theorem Gm(x:aA):(qP x).length=2:=rfl
def aH(l:List aA):List AV:=l.flatMap qP
theorem aT:Row aH qP 2:=EH Gm
def dx(l:List aA):AV:=.list 2 l.length (aH l) false
structure iZ where
 l:List aA
instance:Inhabited iZ:=⟨⟨[]⟩⟩
def AZ(x:iZ):List AV:=[(dx x.l)]
structure IZ where
 Tp:Int
 Epoch:Int
 Pairs:List aA
 Ui:List wh
instance:Inhabited IZ:=⟨⟨0,0,[],[]⟩⟩
structure og where
 L:List aA
instance:Inhabited og:=⟨⟨[]⟩⟩
def Gn(x:og):List AV:=[(dx x.L)]
structure yD where
 L:List wh
instance:Inhabited yD:=⟨⟨[]⟩⟩
structure Kw where
 T:og
 S_:yD
 ID:Int
 Epoch:Int
instance:Inhabited Kw:=⟨⟨⟨[]⟩,⟨[]⟩,0,0⟩⟩
structure jN where
 Client:Int
 Seq:Int
 Op:aX
instance:Inhabited jN:=⟨⟨0,0,⟨0,[],[],[]⟩⟩⟩
def I4(x:jN):List AV:=[(.int .i64 x.Client),(.int .i64 x.Seq),(.int .i64 x.Op.Kind),(.str x.Op.Key),(.str x.Op.Value),(.str x.Op.Old)]
structure EN where
 Table:iZ
 QY:qz
 ID:Int
 Epoch:Int
instance:Inhabited EN:=⟨⟨⟨[]⟩,⟨⟨⟨0,0,⟨0,[]⟩⟩,⟨0,0,⟨0,[]⟩⟩,⟨0,0,⟨0,[]⟩⟩,⟨0,0,⟨0,[]⟩⟩⟩⟩,0,0⟩⟩
def mD(x:bV):Nat:=bk1 x.Kind+bk1 x.Key+bk1 x.Value+bk1 x.Old+bk1 x.Client+bk1 x.Seq+bk1 x.Gj+Ti x.Text+1
def yE(x:bV):Prop:=OZ x.Kind∧OZ x.Key∧OZ x.Value∧OZ x.Old∧OZ x.Client∧OZ x.Seq∧OZ x.Gj∧Tj x.Text
theorem EO:Rt (.agg [(.int .i64),(.int .i64),(.int .i64),(.int .i64),(.int .i64),(.int .i64),(.int .i64),.str]) n_ mD yE:=QX (λ_=>rfl) λl h=>by
 obtain⟨d0,l,rfl,h,x0,e0,b0,o0⟩:=jq Gi h
 obtain⟨d1,l,rfl,h,x1,e1,b1,o1⟩:=jq Gi h
 obtain⟨d2,l,rfl,h,x2,e2,b2,o2⟩:=jq Gi h
 obtain⟨d3,l,rfl,h,x3,e3,b3,o3⟩:=jq Gi h
 obtain⟨d4,l,rfl,h,x4,e4,b4,o4⟩:=jq Gi h
 obtain⟨d5,l,rfl,h,x5,e5,b5,o5⟩:=jq Gi h
 obtain⟨d6,l,rfl,h,x6,e6,b6,o6⟩:=jq Gi h
 obtain⟨d7,l,rfl,h,x7,e7,b7,o7⟩:=jq R4 h
 obtain rfl:=GZ h
 exact⟨⟨x0,x1,x2,x3,x4,x5,x6,x7⟩,by simp only[um,e0,e1,e2,e3,e4,e5,e6,e7];rfl,by simp only[mD,D.m_];omega,o0,o1,o2,o3,o4,o5,o6,o7⟩
theorem xL {S E:Type} {step:S→Option (S⊕E)} (μ:S→Nat) (Inv:S→Prop) (Post:E→Prop)
  (h:∀s,Inv s→(∃s',step s=some (.inl s')∧Inv s'∧μ s'<μ s)∨∃e,step s=some (.inr e)∧Post e) :
  ∀(k:Nat) (s:S),Inv s→μ s<k→∃e,mo step k s=some e∧Post e
 | 0,_,_,hk=>by omega
 | k+1,s,hi,hk=>by
  rcases h s hi with⟨s',e1,e2,e3⟩ |⟨e,e1,e2⟩
  ·obtain⟨e,q1,q2⟩:=xL μ Inv Post h k s' e2 (by omega)
   exact⟨e,by simp only[mo,e1];exact q1,q2⟩
  ·exact⟨e,by simp only[mo,e1],e2⟩
theorem H8 {S E:Type} {step:S→Option (S⊕E)} (st:Nat→S) (n:Nat) (e:E) (h:∀i,i<n→step (st i)=some (.inl (st (i+1)))) (he:step (st n)=some (.inr e)) :
  ∀(k j:Nat),j≤n→n-j<k→mo step k (st j)=some e
 | 0,_,_,hk=>by omega
 | k+1,j,hj,hk=>by
  rcases Nat.lt_or_ge j n with q | q
  ·simp only[mo,h j q]
   exact H8 st n e h he k (j+1) (by omega) (by omega)
  ·obtain rfl:j=n:=by omega
   simp only[mo,he]
theorem Ky {S E:Type} {step:S→Option (S⊕E)} (st:Nat→S) (n:Nat) (e:E) (h:∀i,i<n→step (st i)=some (.inl (st (i+1)))) (he:step (st n)=some (.inr e)) (hn:n<1000000000000) :
  mo step KK (st 0)=some e :=
 H8 st n e h he KK 0 (by omega) (Nat.lt_of_lt_of_le (by omega) (by decide:1000000000000≤KK))
theorem pK{x:Int}(h1:-9223372036854775808≤x)(h2:x<9223372036854775808):IntKind.i64.wrap x=x:=by
 simp only[IntKind.wrap,IntKind.signed,IntKind.bits]
 simp
 omega
theorem Kz{x:Int}(h1:0≤x)(h2:x<18446744073709551616):IntKind.u64.wrap x=x:=by
 simp only[IntKind.wrap,IntKind.signed,IntKind.bits]
 simp
 omega
theorem KA{α:Type}(L:List α)(i:Nat):iY L (i:Int)=L[i]?:=by
 unfold iY
 rw[if_pos (by omega)]
 simp
theorem tu{α:Type}{L:List α}{i:Nat}(h:i<L.length):iY L (i:Int)=some L[i]:=by
 rw[KA,aS h]
theorem Dh{β:Type}{b:Bool}{x:Option β}(h:b=true):gd b x=x:=by subst h;rfl
theorem KC:1000000000000<KK:=by decide
theorem Nc{k n:Nat}(hk:k≤32)(h:n<1000000000000):fZ k n=true:=by
 unfold fZ
 refine decide_eq_true ⟨?_,by omega⟩
 have:=Nat.mul_le_mul_left n hk
 omega
theorem Nf{β:Type}{k n:Nat}{x:Option β}(hk:k≤32)(h:n<1000000000000):gd (fZ k n) x=x:=Dh (Nc hk h)
theorem jy{p:Prop} [Decidable p](h:p):decide p=true:=decide_eq_true h
theorem jc{p:Prop} [Decidable p](h:¬p):decide p=false:=decide_eq_false h
theorem QZ{a b:Int}(h:a=b):(a==b)=true:=by simpa using h
theorem Q0{a b:Int}(h:a=b):(a != b)=false:=by simpa using h
theorem Ng{α:Type} [BEq α] [LawfulBEq α] [DecidableEq α](a b:α):(a==b)=decide (a=b):=by
 rw[Bool.eq_iff_iff]
 simp
theorem xM(i:Nat):(i:Int)+1=((i+1:Nat):Int):=by omega
end Go.Proofs.Ytkedeiklmpkgkaa
