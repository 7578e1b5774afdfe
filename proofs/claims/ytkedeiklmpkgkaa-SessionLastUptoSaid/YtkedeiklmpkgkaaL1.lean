import Derived.Test.YtkedeiklmpkgkaaJ5
set_option linter.all false
set_option maxRecDepth 100000
namespace Go.Proofs.Ytkedeiklmpkgkaa
structure aO where
 Client:Int
 Seq:Int
 Why:Int
 Value:Int
instance:Inhabited aO:=⟨⟨0,0,0,0⟩⟩
def fu(x:aO):List AV:=[(.int .i64 x.Client),(.int .i64 x.Seq),(.int .i64 x.Why),(.int .i64 x.Value)]
theorem qZ(x:aO):(fu x).length=4:=rfl
structure bF where
 Why:Int
 Value:List UInt8
instance:Inhabited bF:=⟨⟨0,[]⟩⟩
structure aF where
 Client:Int
 Seq:Int
 Answer:bF
instance:Inhabited aF:=⟨⟨0,0,⟨0,[]⟩⟩⟩
def bZ(x:aF):List AV:=[(.int .i64 x.Client),(.int .i64 x.Seq),(.int .i64 x.Answer.Why),(.str x.Answer.Value)]
theorem Al(x:aF):(bZ x).length=4:=rfl
def eD:aF→AV:=λx:aF=>AV.agg (bZ x)
def bP(l:List (Int×aF)):List (AV×AV):=mE (AV.int .i64) eD l
structure A4(α:Type) where
 a0:α
 a1:α
 a2:α
 a3:α
instance {α:Type} [Inhabited α]:Inhabited (A4 α):=⟨⟨default,default,default,default⟩⟩
def A4.xZ{α:Type}(x:A4 α):List α:=[x.a0,x.a1,x.a2,x.a3]
def A4.set{α:Type}(x:A4 α)(i:Int)(v:α):A4 α:=match i.toNat with
 | 0=>{ x with a0:=v }
 | 1=>{ x with a1:=v }
 | 2=>{ x with a2:=v }
 | 3=>{ x with a3:=v }
 | _=>x
theorem A4.F4{α:Type}(x:A4 α){i:Int}{y v:α}(h:kr x.xZ i=some y):(x.set i v).xZ=x.xZ.set i.toNat v:=by
 have:i.toNat<4:=by
  unfold kr at h
  split at h
  ·exact(aA.1 h).1
  ·cases h
 unfold A4.set
 obtain⟨k,hk⟩:∃k,k=i.toNat:=⟨_,rfl⟩
 rw[←hk]at this ⊢
 match k,this with
 | 0,_=>rfl
 | 1,_=>rfl
 | 2,_=>rfl
 | 3,_=>rfl
structure aB where
 l:A4 aF
instance:Inhabited aB:=⟨⟨⟨⟨0,0,⟨0,[]⟩⟩,⟨0,0,⟨0,[]⟩⟩,⟨0,0,⟨0,[]⟩⟩,⟨0,0,⟨0,[]⟩⟩⟩⟩⟩
def aT(x:aB):List AV:=[(.int .i64 x.l.a0.Client),(.int .i64 x.l.a0.Seq),(.int .i64 x.l.a0.Answer.Why),(.str x.l.a0.Answer.Value),(.int .i64 x.l.a1.Client),(.int .i64 x.l.a1.Seq),(.int .i64 x.l.a1.Answer.Why),(.str x.l.a1.Answer.Value),(.int .i64 x.l.a2.Client),(.int .i64 x.l.a2.Seq),(.int .i64 x.l.a2.Answer.Why),(.str x.l.a2.Answer.Value),(.int .i64 x.l.a3.Client),(.int .i64 x.l.a3.Seq),(.int .i64 x.l.a3.Answer.Why),(.str x.l.a3.Answer.Value)]
def mg(l:List aO):List AV:=l.flatMap fu
theorem mh:Row mg fu 4:=zu qZ
def fA(l:List aO):AV:=.list 4 l.length (mg l) false
def Li(l:List (List UInt8)):List AV:=l.map λx=>(.str x)
theorem Lj:Row Li (λx=>[(.str x)]) 1:=FW _
def lu(l:List aF):List AV:=l.flatMap bZ
theorem jH:Row lu bZ 4:=zu Al
def lC(l:List aF):AV:=.list 4 l.length (lu l) false
structure tH where
 What:Int
 N:Int
 Parts:List (List UInt8)
instance:Inhabited tH:=⟨⟨0,0,[]⟩⟩
structure F5 where
 B:List UInt8
 Km:Int
instance:Inhabited F5:=⟨⟨[],0⟩⟩
structure CB where
 b:List UInt8
 synced:Int
instance:Inhabited CB:=⟨⟨[],0⟩⟩
structure EA where
 Kind:Int
 Key:Int
 Value:Int
 Old:Int
 Client:Int
 Seq:Int
 Ll:Int
 Text:List UInt8
instance:Inhabited EA:=⟨⟨0,0,0,0,0,0,0,[]⟩⟩
structure EB where
 Kind:Int
 Key:List UInt8
 Value:List UInt8
 Old:List UInt8
instance:Inhabited EB:=⟨⟨0,[],[],[]⟩⟩
structure ru where
 Key:List UInt8
 Value:List UInt8
instance:Inhabited ru:=⟨⟨[],[]⟩⟩
structure sW where
 l:List ru
instance:Inhabited sW:=⟨⟨[]⟩⟩
structure CF where
 KP:Int
 Epoch:Int
 Pairs:List ru
 Lm:List aF
instance:Inhabited CF:=⟨⟨0,0,[],[]⟩⟩
structure zx where
 L:List ru
instance:Inhabited zx:=⟨⟨[]⟩⟩
structure sZ where
 L:List aF
instance:Inhabited sZ:=⟨⟨[]⟩⟩
structure EC where
 T:zx
 S_:sZ
 ID:Int
 Epoch:Int
instance:Inhabited EC:=⟨⟨⟨[]⟩,⟨[]⟩,0,0⟩⟩
structure F6 where
 Client:Int
 Seq:Int
 Op:EB
instance:Inhabited F6:=⟨⟨0,0,⟨0,[],[],[]⟩⟩⟩
structure zy where
 Table:sW
 JC:aB
 ID:Int
 Epoch:Int
instance:Inhabited zy:=⟨⟨⟨[]⟩,⟨⟨⟨0,0,⟨0,[]⟩⟩,⟨0,0,⟨0,[]⟩⟩,⟨0,0,⟨0,[]⟩⟩,⟨0,0,⟨0,[]⟩⟩⟩⟩,0,0⟩⟩
def eF(x:aO):Nat:=bk1 x.Client+bk1 x.Seq+bk1 x.Why+bk1 x.Value+1
def lD(x:aO):Prop:=Jz x.Client∧Jz x.Seq∧Jz x.Why∧Jz x.Value
theorem ql:Rt (.agg [(.int .i64),(.int .i64),(.int .i64),(.int .i64)]) fu eF lD:=JB (λ_=>rfl) λl h=>by
 obtain⟨d0,l,rfl,h,x0,e0,b0,o0⟩:=mW FZ h
 obtain⟨d1,l,rfl,h,x1,e1,b1,o1⟩:=mW FZ h
 obtain⟨d2,l,rfl,h,x2,e2,b2,o2⟩:=mW FZ h
 obtain⟨d3,l,rfl,h,x3,e3,b3,o3⟩:=mW FZ h
 obtain rfl:=AZ h
 exact⟨⟨x0,x1,x2,x3⟩,by simp only[pR,e0,e1,e2,e3];rfl,by simp only[eF,D.kI];omega,o0,o1,o2,o3⟩
theorem wW {S E:Type} {step:S→Option (S⊕E)} (μ:S→Nat) (Inv:S→Prop) (Post:E→Prop)
  (h:∀s,Inv s→(∃s',step s=some (.inl s')∧Inv s'∧μ s'<μ s)∨∃e,step s=some (.inr e)∧Post e) :
  ∀(k:Nat) (s:S),Inv s→μ s<k→∃e,l8 step k s=some e∧Post e
 | 0,_,_,hk=>by omega
 | k+1,s,hi,hk=>by
  rcases h s hi with⟨s',e1,e2,e3⟩ |⟨e,e1,e2⟩
  ·obtain⟨e,q1,q2⟩:=wW μ Inv Post h k s' e2 (by omega)
   exact⟨e,by simp only[l8,e1];exact q1,q2⟩
  ·exact⟨e,by simp only[l8,e1],e2⟩
theorem BD {S E:Type} {step:S→Option (S⊕E)} (st:Nat→S) (n:Nat) (e:E) (h:∀i,i<n→step (st i)=some (.inl (st (i+1)))) (he:step (st n)=some (.inr e)) :
  ∀(k j:Nat),j≤n→n-j<k→l8 step k (st j)=some e
 | 0,_,_,hk=>by omega
 | k+1,j,hj,hk=>by
  rcases Nat.lt_or_ge j n with q | q
  ·simp only[l8,h j q]
   exact BD st n e h he k (j+1) (by omega) (by omega)
  ·obtain rfl:j=n:=by omega
   simp only[l8,he]
theorem zA {S E:Type} {step:S→Option (S⊕E)} (st:Nat→S) (n:Nat) (e:E) (h:∀i,i<n→step (st i)=some (.inl (st (i+1)))) (he:step (st n)=some (.inr e)) (hn:n<1000000000000) :
  l8 step KK (st 0)=some e :=
 BD st n e h he KK 0 (by omega) (Nat.lt_of_lt_of_le (by omega) (by decide:1000000000000≤KK))
theorem oV{x:Int}(h1:-9223372036854775808≤x)(h2:x<9223372036854775808):IntKind.i64.wrap x=x:=by
 simp only[IntKind.wrap,IntKind.signed,IntKind.bits]
 simp
 omega
theorem zB(x:Int):0≤IntKind.u64.wrap x∧IntKind.u64.wrap x<18446744073709551616:=by
 simp only[IntKind.wrap,IntKind.signed,IntKind.bits]
 simp
 omega
theorem ED{α:Type}(L:List α)(i:Nat):kr L (i:Int)=L[i]?:=by
 unfold kr
 rw[if_pos (by omega)]
 simp
theorem rz{α:Type}{L:List α}{i:Nat}(h:i<L.length):kr L (i:Int)=some L[i]:=by
 rw[ED,aJ h]
theorem F7{β:Type}{b:Bool}{x:Option β}(h:b=true):gd b x=x:=by subst h;rfl
theorem Iy:1000000000000<KK:=by decide
theorem mo{p:Prop} [Decidable p](h:p):decide p=true:=decide_eq_true h
theorem iX{p:Prop} [Decidable p](h:¬p):decide p=false:=decide_eq_false h
theorem JD{a b:Int}(h:a=b):(a != b)=false:=by simpa using h
theorem oW(i:Nat):(i:Int)+1=((i+1:Nat):Int):=by omega
end Go.Proofs.Ytkedeiklmpkgkaa
