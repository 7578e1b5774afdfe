import Derived.Test.YtkedeiklmpkgkaaJ5
set_option linter.all false
set_option maxRecDepth 100000
namespace Go.Proofs.Ytkedeiklmpkgkaa
structure zC where
 Client:Int
 Seq:Int
 Why:Int
 Value:Int
instance:Inhabited zC:=⟨⟨0,0,0,0⟩⟩
structure aR where
 Why:Int
 Value:List UInt8
instance:Inhabited aR:=⟨⟨0,[]⟩⟩
def cZ(x:aR):List AV:=[(.int .i64 x.Why),(.str x.Value)]
structure xB where
 Client:Int
 Seq:Int
 Answer:aR
instance:Inhabited xB:=⟨⟨0,0,⟨0,[]⟩⟩⟩
structure A4(α:Type) where
 a0:α
 a1:α
 a2:α
 a3:α
instance {α:Type} [Inhabited α]:Inhabited (A4 α):=⟨⟨default,default,default,default⟩⟩
def A4.set{α:Type}(x:A4 α)(i:Int)(v:α):A4 α:=match i.toNat with
 | 0=>{ x with a0:=v }
 | 1=>{ x with a1:=v }
 | 2=>{ x with a2:=v }
 | 3=>{ x with a3:=v }
 | _=>x
structure qU where
 l:A4 xB
instance:Inhabited qU:=⟨⟨⟨⟨0,0,⟨0,[]⟩⟩,⟨0,0,⟨0,[]⟩⟩,⟨0,0,⟨0,[]⟩⟩,⟨0,0,⟨0,[]⟩⟩⟩⟩⟩
def U_(l:List (List UInt8)):List AV:=l.map λx=>(.str x)
theorem Uo:Row U_ (λx=>[(.str x)]) 1:=zX _
def Uq(l:List Int):List AV:=l.map λx=>(.int .i64 x)
theorem Ur:Row Uq (λx=>[(.int .i64 x)]) 1:=zX _
def RV(l:List Int):AV:=.list 1 l.length (Uq l) false
structure zD where
 What:Int
 N:Int
 Parts:List (List UInt8)
instance:Inhabited zD:=⟨⟨0,0,[]⟩⟩
structure NW where
 B:List UInt8
 Tk:Int
instance:Inhabited NW:=⟨⟨[],0⟩⟩
structure JK where
 b:List UInt8
 synced:Int
instance:Inhabited JK:=⟨⟨[],0⟩⟩
structure bK where
 Kind:Int
 Key:Int
 Value:Int
 Old:Int
 Client:Int
 Seq:Int
 G_:Int
 Text:List UInt8
instance:Inhabited bK:=⟨⟨0,0,0,0,0,0,0,[]⟩⟩
def pF(x:bK):List AV:=[(.int .i64 x.Kind),(.int .i64 x.Key),(.int .i64 x.Value),(.int .i64 x.Old),(.int .i64 x.Client),(.int .i64 x.Seq),(.int .i64 x.G_),(.str x.Text)]
theorem He(x:bK):(pF x).length=8:=rfl
def Bd(l:List bK):List AV:=l.flatMap pF
theorem Bf:Row Bd pF 8:=FL He
def iP(l:List bK):AV:=.list 8 l.length (Bd l) false
structure aW where
 Kind:Int
 Key:List UInt8
 Value:List UInt8
 Old:List UInt8
instance:Inhabited aW:=⟨⟨0,[],[],[]⟩⟩
def bT(x:aW):List AV:=[(.int .i64 x.Kind),(.str x.Key),(.str x.Value),(.str x.Old)]
structure aA where
 Key:List UInt8
 Value:List UInt8
instance:Inhabited aA:=⟨⟨[],[]⟩⟩
def rW(x:aA):List AV:=[(.str x.Key),(.str x.Value)]
theorem Hf(x:aA):(rW x).length=2:=rfl
def aH(l:List aA):List AV:=l.flatMap rW
theorem aO:Row aH rW 2:=FL Hf
def bX(l:List aA):AV:=.list 2 l.length (aH l) false
def rX:Bool→AV:=λx:Bool=>(.bool x)
def qF(l:List (List UInt8×Bool)):List (AV×AV):=mE (AV.str) rX l
structure aT where
 l:List aA
instance:Inhabited aT:=⟨⟨[]⟩⟩
def bM(x:aT):List AV:=[(bX x.l)]
structure JL where
 Us:Int
 Epoch:Int
 Pairs:List aA
 Va:List xB
instance:Inhabited JL:=⟨⟨0,0,[],[]⟩⟩
structure pG where
 L:List aA
instance:Inhabited pG:=⟨⟨[]⟩⟩
def Hg(x:pG):List AV:=[(bX x.L)]
structure zl where
 L:List xB
instance:Inhabited zl:=⟨⟨[]⟩⟩
structure Lm where
 T:pG
 S_:zl
 ID:Int
 Epoch:Int
instance:Inhabited Lm:=⟨⟨⟨[]⟩,⟨[]⟩,0,0⟩⟩
structure kg where
 Client:Int
 Seq:Int
 Op:aW
instance:Inhabited kg:=⟨⟨0,0,⟨0,[],[],[]⟩⟩⟩
def JM(x:kg):List AV:=[(.int .i64 x.Client),(.int .i64 x.Seq),(.int .i64 x.Op.Kind),(.str x.Op.Key),(.str x.Op.Value),(.str x.Op.Old)]
structure FN where
 Table:aT
 RX:qU
 ID:Int
 Epoch:Int
instance:Inhabited FN:=⟨⟨⟨[]⟩,⟨⟨⟨0,0,⟨0,[]⟩⟩,⟨0,0,⟨0,[]⟩⟩,⟨0,0,⟨0,[]⟩⟩,⟨0,0,⟨0,[]⟩⟩⟩⟩,0,0⟩⟩
def mV(x:bK):Nat:=bk1 x.Kind+bk1 x.Key+bk1 x.Value+bk1 x.Old+bk1 x.Client+bk1 x.Seq+bk1 x.G_+Um x.Text+1
def zm(x:bK):Prop:=M9 x.Kind∧M9 x.Key∧M9 x.Value∧M9 x.Old∧M9 x.Client∧M9 x.Seq∧M9 x.G_∧Un x.Text
theorem FP:Rt (.agg [(.int .i64),(.int .i64),(.int .i64),(.int .i64),(.int .i64),(.int .i64),(.int .i64),.str]) pF mV zm:=RU (λ_=>rfl) λl h=>by
 obtain⟨d0,l,rfl,h,x0,e0,b0,o0⟩:=iD Ei h
 obtain⟨d1,l,rfl,h,x1,e1,b1,o1⟩:=iD Ei h
 obtain⟨d2,l,rfl,h,x2,e2,b2,o2⟩:=iD Ei h
 obtain⟨d3,l,rfl,h,x3,e3,b3,o3⟩:=iD Ei h
 obtain⟨d4,l,rfl,h,x4,e4,b4,o4⟩:=iD Ei h
 obtain⟨d5,l,rfl,h,x5,e5,b5,o5⟩:=iD Ei h
 obtain⟨d6,l,rfl,h,x6,e6,b6,o6⟩:=iD Ei h
 obtain⟨d7,l,rfl,h,x7,e7,b7,o7⟩:=iD Tj h
 obtain rfl:=Iw h
 exact⟨⟨x0,x1,x2,x3,x4,x5,x6,x7⟩,by simp only[vB,e0,e1,e2,e3,e4,e5,e6,e7];rfl,by simp only[mV,D.nR];omega,o0,o1,o2,o3,o4,o5,o6,o7⟩
theorem uH {S E:Type} {step:S→Option (S⊕E)} (μ:S→Nat) (Inv:S→Prop) (Post:E→Prop)
  (h:∀s,Inv s→(∃s',step s=some (.inl s')∧Inv s'∧μ s'<μ s)∨∃e,step s=some (.inr e)∧Post e) :
  ∀(k:Nat) (s:S),Inv s→μ s<k→∃e,lX step k s=some e∧Post e
 | 0,_,_,hk=>by omega
 | k+1,s,hi,hk=>by
  rcases h s hi with⟨s',e1,e2,e3⟩ |⟨e,e1,e2⟩
  ·obtain⟨e,q1,q2⟩:=uH μ Inv Post h k s' e2 (by omega)
   exact⟨e,by simp only[lX,e1];exact q1,q2⟩
  ·exact⟨e,by simp only[lX,e1],e2⟩
theorem I_ {S E:Type} {step:S→Option (S⊕E)} (st:Nat→S) (n:Nat) (e:E) (h:∀i,i<n→step (st i)=some (.inl (st (i+1)))) (he:step (st n)=some (.inr e)) :
  ∀(k j:Nat),j≤n→n-j<k→lX step k (st j)=some e
 | 0,_,_,hk=>by omega
 | k+1,j,hj,hk=>by
  rcases Nat.lt_or_ge j n with q | q
  ·simp only[lX,h j q]
   exact I_ st n e h he k (j+1) (by omega) (by omega)
  ·obtain rfl:j=n:=by omega
   simp only[lX,he]
theorem FQ {S E:Type} {step:S→Option (S⊕E)} (st:Nat→S) (n:Nat) (e:E) (h:∀i,i<n→step (st i)=some (.inl (st (i+1)))) (he:step (st n)=some (.inr e)) (hn:n<1000000000000) :
  lX step KK (st 0)=some e :=
 I_ st n e h he KK 0 (by omega) (Nat.lt_of_lt_of_le (by omega) (by decide:1000000000000≤KK))
theorem lC{x:Int}(h1:-9223372036854775808≤x)(h2:x<9223372036854775808):IntKind.i64.wrap x=x:=by
 simp only[IntKind.wrap,IntKind.signed,IntKind.bits]
 simp
 omega
theorem Lr{x:Int}(h1:0≤x)(h2:x<18446744073709551616):IntKind.u64.wrap x=x:=by
 simp only[IntKind.wrap,IntKind.signed,IntKind.bits]
 simp
 omega
theorem Ls{α:Type}(L:List α)(i:Nat):iO L (i:Int)=L[i]?:=by
 unfold iO
 rw[if_pos (by omega)]
 simp
theorem om{α:Type}{L:List α}{i:Nat}(h:i<L.length):iO L (i:Int)=some L[i]:=by
 rw[Ls,aU h]
theorem Ja{α:Type}(L:List α)(a b:Nat)(h1:a≤b)(h2:b≤L.length):D_ L (a:Int) (b:Int)=some ((L.drop a).take (b-a)):=by
 unfold D_
 rw[if_pos ⟨by omega,by omega,by omega⟩]
 simp
theorem Lu{α:Type}(L:List α)(a:Nat)(h:a≤L.length):D_ L (a:Int) (L.length:Int)=some (L.drop a):=by
 rw[Ja L a L.length h (Nat.le_refl _),List.take_of_length_le (by simp)]
theorem QJ{α:Type}(L:List α)(b:Nat)(h:b≤L.length):D_ L 0 (b:Int)=some (L.take b):=by
 have:=Ja L 0 b (by omega) h
 simpa using this
theorem uI{β:Type}{b:Bool}{x:Option β}(h:b=true):gd b x=x:=by subst h;rfl
theorem Hl:1000000000000<KK:=by decide
theorem NY{k n:Nat}(hk:k≤32)(h:n<1000000000000):d9 k n=true:=by
 unfold d9
 refine decide_eq_true ⟨?_,by omega⟩
 have:=Nat.mul_le_mul_left n hk
 omega
theorem NZ{β:Type}{k n:Nat}{x:Option β}(hk:k≤32)(h:n<1000000000000):gd (d9 k n) x=x:=uI (NY hk h)
theorem iY{p:Prop} [Decidable p](h:p):decide p=true:=decide_eq_true h
theorem iE{p:Prop} [Decidable p](h:¬p):decide p=false:=decide_eq_false h
theorem RY{a b:Int}(h:a≠b):(a != b)=true:=by simpa using h
theorem Lv{a b:Int}(h:a=b):(a != b)=false:=by simpa using h
theorem N7{α:Type} [BEq α] [LawfulBEq α] [DecidableEq α](a b:α):(a==b)=decide (a=b):=by
 rw[Bool.eq_iff_iff]
 simp
theorem qV(i:Nat):(i:Int)+1=((i+1:Nat):Int):=by omega
end Go.Proofs.Ytkedeiklmpkgkaa
