import Derived.Test.YtkedeiklmpkgkaaJ5
set_option linter.all false
set_option maxRecDepth 100000
namespace Go.Proofs.Ytkedeiklmpkgkaa
structure bK where
 Kind:Int
 Key:Int
 Value:Int
 Old:Int
 Client:Int
 Seq:Int
 Ir:Int
 Text:List UInt8
instance:Inhabited bK:=⟨⟨0,0,0,0,0,0,0,[]⟩⟩
def xO(x:bK):List AV:=[(.int .i64 x.Kind),(.int .i64 x.Key),(.int .i64 x.Value),(.int .i64 x.Old),(.int .i64 x.Client),(.int .i64 x.Seq),(.int .i64 x.Ir),(.str x.Text)]
theorem Qk(x:bK):(xO x).length=8:=rfl
structure aB where
 Key:List UInt8
 Value:List UInt8
instance:Inhabited aB:=⟨⟨[],[]⟩⟩
def uN(x:aB):List AV:=[(.str x.Key),(.str x.Value)]
theorem Ql(x:aB):(uN x).length=2:=rfl
def aO(l:List aB):List AV:=l.flatMap uN
theorem aR:Row aO uN 2:=JK Ql
theorem Qm:∀l,kS (aO l)=true:=LP aR λ_=>rfl
def bP(l:List aB):AV:=.list 2 l.length (aO l) false
structure aH where
 Why:Int
 Value:List UInt8
instance:Inhabited aH:=⟨⟨0,[]⟩⟩
def cu(x:aH):List AV:=[(.int .i64 x.Why),(.str x.Value)]
structure aA where
 Client:Int
 Seq:Int
 Answer:aH
instance:Inhabited aA:=⟨⟨0,0,⟨0,[]⟩⟩⟩
def bD(x:aA):List AV:=[(.int .i64 x.Client),(.int .i64 x.Seq),(.int .i64 x.Answer.Why),(.str x.Answer.Value)]
theorem Qn(x:aA):(bD x).length=4:=rfl
def bB(l:List aA):List AV:=l.flatMap bD
theorem bQ:Row bB bD 4:=JK Qn
def dx(l:List aA):AV:=.list 4 l.length (bB l) false
structure aT where
 jJ:Int
 Epoch:Int
 Pairs:List aB
 fM:List aA
instance:Inhabited aT:=⟨⟨0,0,[],[]⟩⟩
def dw(x:aT):List AV:=[(.int .i64 x.jJ),(.int .i64 x.Epoch),(bP x.Pairs),(dx x.fM)]
structure bG where
 Kind:Int
 Key:List UInt8
 Value:List UInt8
 Old:List UInt8
instance:Inhabited bG:=⟨⟨0,[],[],[]⟩⟩
def dU(x:bG):List AV:=[(.int .i64 x.Kind),(.str x.Key),(.str x.Value),(.str x.Old)]
structure ou where
 L:List aB
instance:Inhabited ou:=⟨⟨[]⟩⟩
def Qo(x:ou):List AV:=[(bP x.L)]
structure lK where
 L:List aA
instance:Inhabited lK:=⟨⟨[]⟩⟩
def KH(x:lK):List AV:=[(dx x.L)]
structure aX where
 T:ou
 S_:lK
 ID:Int
 Epoch:Int
instance:Inhabited aX:=⟨⟨⟨[]⟩,⟨[]⟩,0,0⟩⟩
def bS(x:aX):List AV:=[(bP x.T.L),(dx x.S_.L),(.int .i64 x.ID),(.int .i64 x.Epoch)]
def JL(l:List bK):List AV:=l.flatMap xO
theorem A_:Row JL xO 8:=JK Qk
def fE(l:List bK):AV:=.list 8 l.length (JL l) false
def F_S(l:List (List UInt8)):List AV:=l.map λx=>(.str x)
theorem R_S:Row F_S (λx=>[(.str x)]) 1:=M7 _
structure dH where
 Client:Int
 Seq:Int
 Op:bG
instance:Inhabited dH:=⟨⟨0,0,⟨0,[],[],[]⟩⟩⟩
def ny(x:dH):List AV:=[(.int .i64 x.Client),(.int .i64 x.Seq),(.int .i64 x.Op.Kind),(.str x.Op.Key),(.str x.Op.Value),(.str x.Op.Old)]
structure gq where
 l:List aB
instance:Inhabited gq:=⟨⟨[]⟩⟩
def KI(x:gq):List AV:=[(bP x.l)]
structure A4(α:Type) where
 a0:α
 a1:α
 a2:α
 a3:α
instance {α:Type} [Inhabited α]:Inhabited (A4 α):=⟨⟨default,default,default,default⟩⟩
def A4.zQ{α:Type}(x:A4 α):List α:=[x.a0,x.a1,x.a2,x.a3]
def A4.set{α:Type}(x:A4 α)(i:Int)(v:α):A4 α:=match i.toNat with
 | 0=>{ x with a0:=v }
 | 1=>{ x with a1:=v }
 | 2=>{ x with a2:=v }
 | 3=>{ x with a3:=v }
 | _=>x
theorem A4.RJ{α:Type}(x:A4 α){i:Int}{y v:α}(h:dS x.zQ i=some y):(x.set i v).zQ=x.zQ.set i.toNat v:=by
 have:i.toNat<4:=by
  unfold dS at h
  split at h
  ·exact(aM.1 h).1
  ·cases h
 unfold A4.set
 obtain⟨k,hk⟩:∃k,k=i.toNat:=⟨_,rfl⟩
 rw[←hk]at this ⊢
 match k,this with
 | 0,_=>rfl
 | 1,_=>rfl
 | 2,_=>rfl
 | 3,_=>rfl
structure aQ where
 l:A4 aA
instance:Inhabited aQ:=⟨⟨⟨⟨0,0,⟨0,[]⟩⟩,⟨0,0,⟨0,[]⟩⟩,⟨0,0,⟨0,[]⟩⟩,⟨0,0,⟨0,[]⟩⟩⟩⟩⟩
def dA(x:aQ):List AV:=[(.int .i64 x.l.a0.Client),(.int .i64 x.l.a0.Seq),(.int .i64 x.l.a0.Answer.Why),(.str x.l.a0.Answer.Value),(.int .i64 x.l.a1.Client),(.int .i64 x.l.a1.Seq),(.int .i64 x.l.a1.Answer.Why),(.str x.l.a1.Answer.Value),(.int .i64 x.l.a2.Client),(.int .i64 x.l.a2.Seq),(.int .i64 x.l.a2.Answer.Why),(.str x.l.a2.Answer.Value),(.int .i64 x.l.a3.Client),(.int .i64 x.l.a3.Seq),(.int .i64 x.l.a3.Answer.Why),(.str x.l.a3.Answer.Value)]
structure aD where
 Table:gq
 bf:aQ
 ID:Int
 Epoch:Int
instance:Inhabited aD:=⟨⟨⟨[]⟩,⟨⟨⟨0,0,⟨0,[]⟩⟩,⟨0,0,⟨0,[]⟩⟩,⟨0,0,⟨0,[]⟩⟩,⟨0,0,⟨0,[]⟩⟩⟩⟩,0,0⟩⟩
def aU(x:aD):List AV:=[(bP x.Table.l),(.int .i64 x.bf.l.a0.Client),(.int .i64 x.bf.l.a0.Seq),(.int .i64 x.bf.l.a0.Answer.Why),(.str x.bf.l.a0.Answer.Value),(.int .i64 x.bf.l.a1.Client),(.int .i64 x.bf.l.a1.Seq),(.int .i64 x.bf.l.a1.Answer.Why),(.str x.bf.l.a1.Answer.Value),(.int .i64 x.bf.l.a2.Client),(.int .i64 x.bf.l.a2.Seq),(.int .i64 x.bf.l.a2.Answer.Why),(.str x.bf.l.a2.Answer.Value),(.int .i64 x.bf.l.a3.Client),(.int .i64 x.bf.l.a3.Seq),(.int .i64 x.bf.l.a3.Answer.Why),(.str x.bf.l.a3.Answer.Value),(.int .i64 x.ID),(.int .i64 x.Epoch)]
def rE(x:bK):Nat:=bk1 x.Kind+bk1 x.Key+bk1 x.Value+bk1 x.Old+bk1 x.Client+bk1 x.Seq+bk1 x.Ir+bkS x.Text+1
def Cq(x:bK):Prop:=W9 x.Kind∧W9 x.Key∧W9 x.Value∧W9 x.Old∧W9 x.Client∧W9 x.Seq∧W9 x.Ir∧okT x.Text
theorem H8:Rt (.agg [(.int .i64),(.int .i64),(.int .i64),(.int .i64),(.int .i64),(.int .i64),(.int .i64),.str]) xO rE Cq:=abj (λ_=>rfl) λl h=>by
 obtain⟨d0,l,rfl,h,x0,e0,b0,o0⟩:=lq Na h
 obtain⟨d1,l,rfl,h,x1,e1,b1,o1⟩:=lq Na h
 obtain⟨d2,l,rfl,h,x2,e2,b2,o2⟩:=lq Na h
 obtain⟨d3,l,rfl,h,x3,e3,b3,o3⟩:=lq Na h
 obtain⟨d4,l,rfl,h,x4,e4,b4,o4⟩:=lq Na h
 obtain⟨d5,l,rfl,h,x5,e5,b5,o5⟩:=lq Na h
 obtain⟨d6,l,rfl,h,x6,e6,b6,o6⟩:=lq Na h
 obtain⟨d7,l,rfl,h,x7,e7,b7,o7⟩:=lq abZ h
 obtain rfl:=Ri h
 exact⟨⟨x0,x1,x2,x3,x4,x5,x6,x7⟩,by simp only[Ef,e0,e1,e2,e3,e4,e5,e6,e7];rfl,by simp only[rE,D.wu];omega,o0,o1,o2,o3,o4,o5,o6,o7⟩
theorem rF {S E:Type} {step:S→Option (S⊕E)} (μ:S→Nat) (Inv:S→Prop) (Post:E→Prop)
  (h:∀s,Inv s→(∃s',step s=some (.inl s')∧Inv s'∧μ s'<μ s)∨∃e,step s=some (.inr e)∧Post e) :
  ∀(k:Nat) (s:S),Inv s→μ s<k→∃e,gY step k s=some e∧Post e
 | 0,_,_,hk=>by omega
 | k+1,s,hi,hk=>by
  rcases h s hi with⟨s',e1,e2,e3⟩ |⟨e,e1,e2⟩
  ·obtain⟨e,q1,q2⟩:=rF μ Inv Post h k s' e2 (by omega)
   exact⟨e,by simp only[gY,e1];exact q1,q2⟩
  ·exact⟨e,by simp only[gY,e1],e2⟩
theorem RL {S E:Type} {step:S→Option (S⊕E)} (st:Nat→S) (n:Nat) (e:E) (h:∀i,i<n→step (st i)=some (.inl (st (i+1)))) (he:step (st n)=some (.inr e)) :
  ∀(k j:Nat),j≤n→n-j<k→gY step k (st j)=some e
 | 0,_,_,hk=>by omega
 | k+1,j,hj,hk=>by
  rcases Nat.lt_or_ge j n with q | q
  ·simp only[gY,h j q]
   exact RL st n e h he k (j+1) (by omega) (by omega)
  ·obtain rfl:j=n:=by omega
   simp only[gY,he]
theorem xP {S E:Type} {step:S→Option (S⊕E)} (st:Nat→S) (n:Nat) (e:E) (h:∀i,i<n→step (st i)=some (.inl (st (i+1)))) (he:step (st n)=some (.inr e)) (hn:n<1000000000000) :
  gY step KK (st 0)=some e :=
 RL st n e h he KK 0 (by omega) (Nat.lt_of_lt_of_le (by omega) (by decide:1000000000000≤KK))
theorem f_{x:Int}(h1:-9223372036854775808≤x)(h2:x<9223372036854775808):IntKind.i64.wrap x=x:=by
 simp only[IntKind.wrap,IntKind.signed,IntKind.bits]
 simp
 omega
theorem U_{x:Int}(h1:0≤x)(h2:x<18446744073709551616):IntKind.u64.wrap x=x:=by
 simp only[IntKind.wrap,IntKind.signed,IntKind.bits]
 simp
 omega
theorem OQ(x:Int):0≤IntKind.u64.wrap x∧IntKind.u64.wrap x<18446744073709551616:=by
 simp only[IntKind.wrap,IntKind.signed,IntKind.bits]
 simp
 omega
theorem Va{α:Type}(L:List α)(i:Nat):dS L (i:Int)=L[i]?:=by
 unfold dS
 rw[if_pos (by omega)]
 simp
theorem jq{α:Type}{L:List α}{i:Nat}(h:i<L.length):dS L (i:Int)=some L[i]:=by
 rw[Va,bn h]
theorem RN{α:Type}(L:List α)(a b:Nat)(h1:a≤b)(h2:b≤L.length):Ip L (a:Int) (b:Int)=some ((L.drop a).take (b-a)):=by
 unfold Ip
 rw[if_pos ⟨by omega,by omega,by omega⟩]
 simp
theorem zY{α:Type}(L:List α)(a:Nat)(h:a≤L.length):Ip L (a:Int) (L.length:Int)=some (L.drop a):=by
 rw[RN L a L.length h (Nat.le_refl _),List.take_of_length_le (by simp)]
theorem Qp{α:Type}(L:List α)(b:Nat)(h:b≤L.length):Ip L 0 (b:Int)=some (L.take b):=by
 have:=RN L 0 b (by omega) h
 simpa using this
theorem Dr{β:Type}{b:Bool}{x:Option β}(h:b=true):gd b x=x:=by subst h;rfl
theorem EC:1000000000000<KK:=by decide
theorem XP{k n:Nat}(hk:k≤32)(h:n<1000000000000):fu k n=true:=by
 unfold fu
 refine decide_eq_true ⟨?_,by omega⟩
 have:=Nat.mul_le_mul_left n hk
 omega
theorem XQ{β:Type}{k n:Nat}{x:Option β}(hk:k≤32)(h:n<1000000000000):gd (fu k n) x=x:=Dr (XP hk h)
theorem dB{p:Prop} [Decidable p](h:p):decide p=true:=decide_eq_true h
theorem bV{p:Prop} [Decidable p](h:¬p):decide p=false:=decide_eq_false h
theorem RO{a b:Int}(h:a≠b):(a==b)=false:=by simpa using h
theorem LV{a b:Int}(h:a≠b):(a != b)=true:=by simpa using h
theorem JM{a b:Int}(h:a=b):(a != b)=false:=by simpa using h
theorem XR{α:Type} [BEq α] [LawfulBEq α] [DecidableEq α](a b:α):(a==b)=decide (a=b):=by
 rw[Bool.eq_iff_iff]
 simp
theorem gF(i:Nat):(i:Int)+1=((i+1:Nat):Int):=by omega
end Go.Proofs.Ytkedeiklmpkgkaa
