import Derived.Test.YtkedeiklmpkgkaaJ5
set_option linter.all false
set_option maxRecDepth 100000
namespace Go.Proofs.Ytkedeiklmpkgkaa
def gZ(l:List UInt8):List AV:=l.map λx=>(mg x)
theorem oL:Row gZ (λx=>[(mg x)]) 1:=BZ _
def jl(l:List UInt8):AV:=.list 1 l.length (gZ l) false
def o8(l:List (List UInt8)):List AV:=l.map λx=>(jl x)
theorem vB:Row o8 (λx=>[(jl x)]) 1:=BZ _
def jw(l:List (List UInt8)):AV:=.list 1 l.length (o8 l) false
structure aT where
 What:Int
 N:Int
 Parts:List (List UInt8)
instance:Inhabited aT:=⟨⟨0,0,[]⟩⟩
def iX(x:aT):List AV:=[(.int .i64 x.What),(.int .i64 x.N),(jw x.Parts)]
theorem Ca(x:aT):(iX x).length=3:=rfl
def F_S(l:List (List UInt8)):List AV:=l.map λx=>(.str x)
theorem R_S:Row F_S (λx=>[(.str x)]) 1:=BZ _
def XZ(l:List (List UInt8)):AV:=.list 1 l.length (F_S l) false
def F_I(l:List Int):List AV:=l.map λx=>(.int .i64 x)
theorem R_I:Row F_I (λx=>[(.int .i64 x)]) 1:=BZ _
def UN(l:List Int):AV:=.list 1 l.length (F_I l) false
def uD(l:List aT):List AV:=l.flatMap iX
theorem uE:Row uD iX 3:=SX Ca
def fB(l:List aT):AV:=.list 3 l.length (uD l) false
structure aQ where
 B:List UInt8
 DK:Int
instance:Inhabited aQ:=⟨⟨[],0⟩⟩
def b_(x:aQ):List AV:=[(jl x.B),(.int .i64 x.DK)]
def iE(x:aT):Nat:=bk1 x.What+bk1 x.N+(XY (XY bk1)) x.Parts+1
def sN(x:aT):Prop:=okI x.What∧okI x.N∧(ZE (ZE okT)) x.Parts
theorem AY:Rt (.agg [(.int .i64),(.int .i64),(.list (.list (.int .u8)))]) iX iE sN:=ZH (λ_=>rfl) λl h=>by
 obtain⟨d0,l,rfl,h,x0,e0,b0,o0⟩:=vw ZF h
 obtain⟨d1,l,rfl,h,x1,e1,b1,o1⟩:=vw ZF h
 obtain⟨d2,l,rfl,h,x2,e2,b2,o2⟩:=vw (Vz (Vz ZG oL rfl) vB rfl) h
 obtain rfl:=O9 h
 exact⟨⟨x0,x1,x2⟩,by simp only[Ag,e0,e1,e2];rfl,by simp only[iE,D.qW];omega,o0,o1,o2⟩
theorem jy {S E:Type} {step:S→Option (S⊕E)} (μ:S→Nat) (Inv:S→Prop) (Post:E→Prop)
  (h:∀s,Inv s→(∃s',step s=some (.inl s')∧Inv s'∧μ s'<μ s)∨∃e,step s=some (.inr e)∧Post e) :
  ∀(k:Nat) (s:S),Inv s→μ s<k→∃e,dw step k s=some e∧Post e
 | 0,_,_,hk=>by omega
 | k+1,s,hi,hk=>by
  rcases h s hi with⟨s',e1,e2,e3⟩ |⟨e,e1,e2⟩
  ·obtain⟨e,q1,q2⟩:=jy μ Inv Post h k s' e2 (by omega)
   exact⟨e,by simp only[dw,e1];exact q1,q2⟩
  ·exact⟨e,by simp only[dw,e1],e2⟩
theorem PL {S E:Type} {step:S→Option (S⊕E)} (st:Nat→S) (n:Nat) (e:E) (h:∀i,i<n→step (st i)=some (.inl (st (i+1)))) (he:step (st n)=some (.inr e)) :
  ∀(k j:Nat),j≤n→n-j<k→dw step k (st j)=some e
 | 0,_,_,hk=>by omega
 | k+1,j,hj,hk=>by
  rcases Nat.lt_or_ge j n with q | q
  ·simp only[dw,h j q]
   exact PL st n e h he k (j+1) (by omega) (by omega)
  ·obtain rfl:j=n:=by omega
   simp only[dw,he]
theorem iY {S E:Type} {step:S→Option (S⊕E)} (st:Nat→S) (n:Nat) (e:E) (h:∀i,i<n→step (st i)=some (.inl (st (i+1)))) (he:step (st n)=some (.inr e)) (hn:n<1000000000000) :
  dw step KK (st 0)=some e :=
 PL st n e h he KK 0 (by omega) (Nat.lt_of_lt_of_le (by omega) (by decide:1000000000000≤KK))
theorem bB{x:Int}(h1:-9223372036854775808≤x)(h2:x<9223372036854775808):IntKind.i64.wrap x=x:=by
 simp only[IntKind.wrap,IntKind.signed,IntKind.bits]
 simp
 omega
theorem Cb{x:Int}(h1:0≤x)(h2:x<18446744073709551616):IntKind.u64.wrap x=x:=by
 simp only[IntKind.wrap,IntKind.signed,IntKind.bits]
 simp
 omega
theorem Me(x:Int):0≤IntKind.u64.wrap x∧IntKind.u64.wrap x<18446744073709551616:=by
 simp only[IntKind.wrap,IntKind.signed,IntKind.bits]
 simp
 omega
theorem Mf{α:Type}(L:List α)(i:Nat):iW L (i:Int)=L[i]?:=by
 unfold iW
 rw[if_pos (by omega)]
 simp
theorem eP{α:Type}{L:List α}{i:Nat}(h:i<L.length):iW L (i:Int)=some L[i]:=by
 rw[Mf,aS h]
theorem Cc{α:Type}(L:List α)(a b:Nat)(h1:a≤b)(h2:b≤L.length):yL L (a:Int) (b:Int)=some ((L.drop a).take (b-a)):=by
 unfold yL
 rw[if_pos ⟨by omega,by omega,by omega⟩]
 simp
theorem Ce{α:Type}(L:List α)(a:Nat)(h:a≤L.length):yL L (a:Int) (L.length:Int)=some (L.drop a):=by
 rw[Cc L a L.length h (Nat.le_refl _),List.take_of_length_le (by simp)]
theorem wJ{α:Type}(L:List α)(b:Nat)(h:b≤L.length):yL L 0 (b:Int)=some (L.take b):=by
 have:=Cc L 0 b (by omega) h
 simpa using this
theorem zM{β:Type}{b:Bool}{x:Option β}(h:b=true):gd b x=x:=by subst h;rfl
theorem qD:1000000000000<KK:=by decide
theorem PN{k n:Nat}(hk:k≤32)(h:n<1000000000000):dS k n=true:=by
 unfold dS
 refine decide_eq_true ⟨?_,by omega⟩
 have:=Nat.mul_le_mul_left n hk
 omega
theorem bP{β:Type}{n:Nat}{x:Option β}(h:n<1000000000000):gd (dS 1 n) x=x:=zM (PN (by omega) h)
theorem zN{β:Type}{n:Nat}{x:Option β}(h:n<1000000000000):gd (dS 24 n) x=x:=zM (PN (by omega) h)
theorem bX{p:Prop} [Decidable p](h:p):decide p=true:=decide_eq_true h
theorem bM{p:Prop} [Decidable p](h:¬p):decide p=false:=decide_eq_false h
theorem yN{a b:Int}(h:a=b):(a==b)=true:=by simpa using h
theorem yO{a b:Int}(h:a≠b):(a==b)=false:=by simpa using h
theorem Ga{a b:Int}(h:a≠b):(a != b)=true:=by simpa using h
theorem xI{a b:Int}(h:a=b):(a != b)=false:=by simpa using h
theorem h_(i:Nat):(i:Int)+1=((i+1:Nat):Int):=by omega
def qE(n:Nat):List UInt8:=if n<128 then [UInt8.ofNat n]else UInt8.ofNat (n%128+128)::qE (n/128)
theorem wM{n:Nat}(h:n<128):qE n=[UInt8.ofNat n]:=by rw[qE,if_pos h]
theorem Cg{n:Nat}(h:¬n<128):qE n=UInt8.ofNat (n%128+128)::qE (n/128):=by rw[qE,if_neg h]
theorem Gb(n:Nat):0<(qE n).length:=by
 rw[qE]
 split<;>simp
theorem S_(j:Nat):∀x:Nat,x<128 ^ (j+1)→(qE x).length≤j+1:=by
 induction j with
 | zero=>intro x h;rw[wM (by simpa using h)];simp
 | succ j ih =>
  intro x h
  by_cases c:x<128
  ·rw[wM c];simp
  ·rw[Cg c]
   have:=ih (x/128) (by
    rw[Nat.div_lt_iff_lt_mul (by omega)]
    rw[Nat.pow_succ]at h
    exact h)
   simp only[aY]
   omega
theorem Ch{x:Nat}(h:x≤4611686018427387903):(qE x).length≤9:=S_ 8 x (by
 have:(128:Nat) ^ (8+1)=9223372036854775808:=by decide
 omega)
def bV:List UInt8→Option Nat
 | []=>none
 | c::r=>if c.toNat<128 then some 0 else (bV r).map (·+1)
theorem p8(b:List UInt8):∀i,i≤b.length→(∀j (h:j<i) (h':j<b.length),¬(b[j]).toNat<128)→bV b=(bV (b.drop i)).map (·+i):=by
 induction b with
 | nil=>intro i h _;simp[bV]
 | cons c r ih =>
  intro i h hs
  cases i with
  | zero=>simp
  | succ i =>
   have h0:=hs 0 (by omega) (by simp)
   simp only[List.getElem_cons_zero]at h0
   simp only[bV,if_neg h0,List.drop_succ_cons]
   rw[ih i (by simpa using h) (λj h1 h2=>by
    have:=hs (j+1) (by omega) (by simp;omega)
    simpa using this),Option.map_map]
   congr 1
theorem zO:∀ {b:List UInt8} {i:Nat},bV b=some i→i<b.length
 | [],i,h=>by simp[bV]at h
 | c::r,i,h=>by
  simp only[bV]at h
  split at h
  ·obtain rfl:=aj h
   simp
  ·cases he:bV r with
   | none=>rw[he]at h;cases h
   | some k =>
    rw[he]at h
    have:=zO he
    simp only[aG,au]at h
    simp only[aY]
    omega
theorem yP:∀ {b:List UInt8} {i:Nat} (h:bV b=some i),(∀j (h1:j<i) (h2:j<b.length),¬(b[j]).toNat<128)∧∃h':i<b.length,(b[i]).toNat<128
 | [],i,h=>by simp[bV]at h
 | c::r,i,h=>by
  simp only[bV]at h
  split at h
  ·rename_i hc
   obtain rfl:=aj h
   exact⟨λj h1=>by omega,by simp,by simpa using hc⟩
  ·rename_i hc
   cases he:bV r with
   | none=>rw[he]at h;cases h
   | some k =>
    rw[he]at h
    obtain⟨q1,q2,q3⟩:=yP he
    simp only[aG,au]at h
    subst h
    refine⟨λj h1 h2=>?_,by simp;omega,by simpa using q3⟩
    cases j with
    | zero=>simpa using hc
    | succ j=>simpa using q1 j (by omega) (by simpa using h2)
theorem yQ:∀ {b:List UInt8},bV b=none↔∀c∈b,¬c.toNat<128
 | []=>by simp[bV]
 | c::r=>by
  simp only[bV]
  by_cases hc:c.toNat<128
  ·rw[if_pos hc]
   simp only[List.mem_cons,forall_eq_or_imp,hc,not_true,false_and,iff_false]
   intro e;cases e
  ·rw[if_neg hc]
   simp only[List.mem_cons,forall_eq_or_imp,hc,not_false_eq_true,true_and,Option.map_eq_none_iff]
   exact yQ
theorem Mg{b:List UInt8}{i n:Nat}(h:bV b=some i)(hn:i<n):bV (b.take n)=some i:=by
 induction b generalizing i n with
 | nil=>simp[bV]at h
 | cons c r ih =>
  obtain⟨n,rfl⟩:∃m,n=m+1:=⟨n-1,by omega⟩
  simp only[List.take_succ_cons,bV]at h ⊢
  split at h
  ·rename_i hc
   obtain rfl:=aj h
   rw[if_pos hc]
  ·rename_i hc
   rw[if_neg hc]
   cases he:bV r with
   | none=>rw[he]at h;cases h
   | some k =>
    rw[he]at h
    simp only[aG,au]at h
    rw[ih he (by omega),aG,h]
theorem vC{b:List UInt8}{n:Nat}(h:∀i,bV b=some i→n≤i):bV (b.take n)=none:=by
 rw[yQ]
 intro c hc
 obtain⟨j,hj,rfl⟩:=List.mem_iff_getElem.1 hc
 rw[aJ]at hj
 rw[List.getElem_take]
 cases he:bV b with
 | none=>exact yQ.1 he _ (List.getElem_mem _)
 | some i=>exact(yP he).1 j (by have:=h i he;omega) (by omega)
def valOf:List UInt8→Nat
 | []=>0
 | c::r=>c.toNat%128+128*valOf r
theorem Ci:∀l:List UInt8,valOf l<128 ^ l.length
 | []=>by simp[valOf]
 | c::r=>by
  have:=Ci r
  simp only[valOf,aY,Nat.pow_succ]
  omega
theorem DL:∀l m:List UInt8,valOf (l++m)=valOf l+128 ^ l.length*valOf m
 | [],m=>by simp[valOf]
 | c::r,m=>by
  have:=DL r m
  simp only[List.cons_append,valOf,this,aY,Nat.pow_succ]
  rw[Nat.mul_add,Nat.add_assoc,←Nat.mul_assoc,Nat.mul_comm (128 ^ r.length) 128]
def jA(b:List UInt8)(i:Nat):Int×Int×Int :=
 if 9≤i∨(0<i∧b[i]?=some 0)then (0,0,2)else if 4611686018427387903<valOf (b.take (i+1))then (0,0,2)else (((valOf (b.take (i+1)):Nat):Int),((i+1:Nat):Int),0)
def dV(b:List UInt8):Int×Int×Int :=
 match bV b with
 | none=>(0,0,3)
 | some i=>jA b i
def lT(b:List UInt8):Int×List UInt8×Int :=
 match dV b with
 |(v,k,e)=>if e=0 then (v,b.drop k.toNat,0)else (0,[],e)
theorem Qq(b:List UInt8):0≤(dV b).2.1∧(dV b).2.1≤(b.length:Int):=by
 unfold dV
 cases he:bV b with
 | none=>simp
 | some i =>
  have:=zO he
  show 0≤(jA b i).2.1∧(jA b i).2.1≤(b.length:Int)
  unfold jA
  split
  ·simp
  ·split
   ·simp
   ·simp only
    omega
theorem Cj(b:List UInt8):dV b=(0,0,3)∨dV b=(0,0,2)∨∃v k:Nat,dV b=((v:Int),(k:Int),0)∧v≤4611686018427387903∧1≤k∧k≤9∧k≤b.length:=by
 unfold dV
 cases he:bV b with
 | none=>exact .inl rfl
 | some i =>
  right
  have:=zO he
  show jA b i=_∨∃v k:Nat,jA b i=_∧_
  unfold jA
  split
  ·exact .inl rfl
  ·rename_i h1
   split
   ·exact .inl rfl
   ·rename_i h2
    exact .inr ⟨_,i+1,rfl,by omega,by omega,by
     rcases Nat.lt_or_ge i 9 with q | q
     ·omega
     ·exact absurd (.inl q) h1,by omega⟩
theorem Kq(b:List UInt8):lT b=(0,[],3)∨lT b=(0,[],2)∨∃v k:Nat,lT b=((v:Int),b.drop k,0)∧dV b=((v:Int),(k:Int),0)∧v≤4611686018427387903∧1≤k∧k≤9∧k≤b.length:=by
 unfold lT
 rcases Cj b with e | e |⟨v,k,e,h⟩
 ·rw[e];exact .inl rfl
 ·rw[e];exact .inr (.inl rfl)
 ·rw[e];exact .inr (.inr ⟨v,k,by simp,rfl,h⟩)
theorem Mh(b:List UInt8):dV (b.take 9)=dV b∨((dV (b.take 9)).2.2≠0∧(dV b).2.2≠0):=by
 unfold dV
 cases he:bV b with
 | none =>
  rw[vC λi hi=>by rw[he]at hi;cases hi]
  exact .inl rfl
 | some i =>
  rcases Nat.lt_or_ge i 9 with q | q
  ·left
   rw[Mg he q]
   show jA _ i=jA b i
   unfold jA
   rw[List.take_take,Nat.min_eq_left (by omega),List.getElem?_take,if_pos q]
  ·right
   rw[vC λj hj=>by rw[he]at hj;obtain rfl:=aj hj;exact q]
   refine⟨(by decide:((0,0,3):Int×Int×Int).2.2≠0), ?_⟩
   show(jA b i).2.2≠0
   unfold jA
   rw[if_pos (.inl q)]
   exact(by decide:((0,0,2):Int×Int×Int).2.2≠0)
def Ck(h c:Int):Int:=IntKind.u64.wrap ((Vr .u64 h c)*1099511628211)
def NI(h:Int)(s:List UInt8):Int:=s.foldl (λh c=>Ck h (c.toNat:Int)) h
def NJ(h:Int)(l:List (List UInt8)):Int:=l.foldl (λh s=>Ck (NI h s) 256) h
def sumOf(l:List (List UInt8)):Int:=NJ 14695981039346656037 l
theorem Mi(h c:Int):0≤Ck h c∧Ck h c<18446744073709551616:=Me _
theorem Gc:∀(l:List (List UInt8)) (h:Int),0≤h∧h<18446744073709551616→0≤NJ h l∧NJ h l<18446744073709551616
 | [],h,q=>q
 | s::l,h,_=>Gc l _ (Mi _ _)
theorem Es(l:List (List UInt8)):0≤sumOf l∧sumOf l<18446744073709551616:=Gc l _ (by decide)
def e8(h:Nat):List UInt8:=(List.range 8).map λk=>UInt8.ofNat (h/256 ^ (7-k)%256)
theorem DN(h:Nat):(e8 h).length=8:=by simp[e8]
def DR(s:List UInt8):List UInt8:=e8 (sumOf [s]).toNat
theorem Gd(s:List UInt8):(DR s).length=8:=DN _
def Gf(z:List UInt8):List UInt8:=qE z.length++DR z++z
def gP(r:List (List UInt8)):List UInt8:=r.flatMap Gf
theorem Cm(z:List UInt8):(Gf z).length=(qE z.length).length+8+z.length:=by simp[Gf,Gd];omega
theorem Ju(z:List UInt8)(r:List (List UInt8)):gP (z::r)=Gf z++gP r:=by simp[gP]
theorem Ta(a b:List (List UInt8)):gP (a++b)=gP a++gP b:=by simp[gP]
theorem Jv(a:List (List UInt8))(z:List UInt8):gP (a++[z])=gP a++Gf z:=by simp[gP]
def Kr(b:List UInt8):Nat:=(dV b).1.toNat
def Mj(b:List UInt8):Nat:=(dV b).2.1.toNat
def AZ(b:List UInt8):List UInt8:=(b.drop (Mj b+8)).take (Kr b)
def oneOf(b:List UInt8):Option (List UInt8×Nat) :=
 if (dV b).2.2=0∧Kr b≤4000∧Mj b+8+Kr b≤b.length∧DR (AZ b)=(b.drop (Mj b)).take 8 then some (AZ b,Mj b+8+Kr b)else none
theorem vD{b r:List UInt8}{n:Nat}(h:oneOf b=some (r,n)):8≤n∧n≤b.length∧r.length≤4000∧r.length+8≤n:=by
 unfold oneOf at h
 split at h
 ·rename_i c
  obtain⟨rfl,rfl⟩:=Prod.mk.inj (aj h)
  have hl:(AZ b).length≤Kr b:=by unfold AZ;rw[aJ];omega
  exact⟨by omega,by omega,by omega,by omega⟩
 ·cases h
def gu(b:List UInt8):List (List UInt8)×Nat :=
 match h:oneOf b with
 | none=>([],0)
 | some (r,n)=>(r::(gu (b.drop n)).1,n+(gu (b.drop n)).2)
termination_by b.length
decreasing_by all_goals (have:=vD h;rw[aO];omega)
theorem A8{b:List UInt8}(h:oneOf b=none):gu b=([],0):=by
 rw[gu]
 split
 ·rfl
 ·rename_i e;rw[h]at e;cases e
theorem A9{b r:List UInt8}{n:Nat}(h:oneOf b=some (r,n)):gu b=(r::(gu (b.drop n)).1,n+(gu (b.drop n)).2):=by
 rw[gu]
 split
 ·rename_i e;rw[h]at e;cases e
 ·rename_i e
  rw[h]at e
  obtain⟨rfl,rfl⟩:=Prod.mk.inj (aj e)
  rfl
theorem Gg(b:List UInt8):(gu b).2≤b.length∧(gu b).1.length≤(gu b).2∧∀z∈(gu b).1,z.length≤4000:=by
 generalize hn:b.length=n
 induction n using Nat.strongRecOn generalizing b with
 | _ n ih =>
  subst hn
  cases h:oneOf b with
  | none=>rw[A8 h];simp
  | some p =>
   obtain⟨r,n⟩:=p
   have hp:=vD h
   have:=ih (b.drop n).length (by rw[aO];omega) (b.drop n) rfl
   rw[A9 h]
   rw[aO]at this
   simp only[aY,List.mem_cons,forall_eq_or_imp]
   exact⟨by omega,by omega,hp.2.2.1,this.2.2⟩
theorem Cn{n:Nat}(h:n<256):pY (n:Int)=UInt8.ofNat n:=by
 unfold pY
 have:IntKind.u8.wrap (n:Int)=n:=by
  simp only[IntKind.wrap,IntKind.signed,IntKind.bits]
  simp
  omega
 rw[this]
 simp
theorem VA(x:Int):pY x=UInt8.ofNat (x%256).toNat:=by
 unfold pY
 have:IntKind.u8.wrap x=x%256:=by
  simp only[IntKind.wrap,IntKind.signed,IntKind.bits]
  simp
 rw[this]
theorem Td{x:Nat}(h:x<9223372036854775808):wI .i64 (x:Int) 127=((x%128:Nat):Int):=by
 have e:(BitVec.ofInt 64 (x:Int) &&& BitVec.ofInt 64 127).toNat=x%128:=by
  rw[BitVec.toNat_and,BitVec.toNat_ofInt,BitVec.toNat_ofInt]
  have h1:((x:Int)%((2 ^ 64:Nat):Int)).toNat=x:=by omega
  have h2:((127:Int)%((2 ^ 64:Nat):Int)).toNat=2 ^ 7-1:=by decide
  rw[h1,h2,Nat.and_two_pow_sub_one_eq_mod]
 show IntKind.i64.wrap (((BitVec.ofInt 64 (x:Int) &&& BitVec.ofInt 64 127).toNat:Nat):Int)=_
 rw[e,bB (by omega) (by omega)]
theorem VB{m:Nat}(h:m<128):Vq .i64 (m:Int) 128=((m+128:Nat):Int):=by
 have e:(BitVec.ofInt 64 (m:Int) ||| BitVec.ofInt 64 128).toNat=m+128:=by
  rw[BitVec.toNat_or,BitVec.toNat_ofInt,BitVec.toNat_ofInt]
  have h1:((m:Int)%((2 ^ 64:Nat):Int)).toNat=m:=by omega
  have h2:((128:Int)%((2 ^ 64:Nat):Int)).toNat=2 ^ 7*1:=by decide
  rw[h1,h2,Nat.or_comm,←Nat.two_pow_add_eq_or_of_lt (by omega)]
  omega
 show IntKind.i64.wrap (((BitVec.ofInt 64 (m:Int) ||| BitVec.ofInt 64 128).toNat:Nat):Int)=_
 rw[e,bB (by omega) (by omega)]
theorem aaq(x:Nat):Yx .i64 (x:Int) 7=((x/128:Nat):Int):=by
 unfold Yx
 have:(2:Int) ^ (min (7:Int).toNat (IntKind.bits .i64))=128:=by decide
 rw[this,Int.fdiv_eq_ediv_of_nonneg _ (by omega)]
 omega
theorem Te{x:Nat}(h:x<9223372036854775808):pY (Vq .i64 (wI .i64 (x:Int) 127) 128)=UInt8.ofNat (x%128+128):=by
 rw[Td h,VB (by omega),Cn (by omega)]
theorem Tf:∀n:Fin 256,((((pY (wI .u8 ((UInt8.ofNat n.val).toNat:Int) 128)).toNat:Int)==0)=decide (n.val<128)):=by decide +kernel
theorem Qr(c:UInt8):(((pY (wI .u8 (c.toNat:Int) 128)).toNat:Int)==0)=decide (c.toNat<128):=by
 have:=Tf ⟨c.toNat,c.toNat_lt⟩
 simpa only[UInt8.ofNat_toNat]using this
theorem VD:∀n:Fin 256,(pY (wI .u8 ((UInt8.ofNat n.val).toNat:Int) 127)).toNat=n.val%128:=by decide +kernel
theorem Tg(c:UInt8):(pY (wI .u8 (c.toNat:Int) 127)).toNat=c.toNat%128:=by
 have:=VD ⟨c.toNat,c.toNat_lt⟩
 simpa only[UInt8.ofNat_toNat]using this
theorem YF(v m:Nat)(hv:v<72057594037927936)(hm:m<128):Vq .i64 (Vs .i64 (v:Int) 7) (m:Int)=((m+128*v:Nat):Int):=by
 have e1:Vs .i64 (v:Int) 7=((128*v:Nat):Int):=by
  have:(v:Int)*2 ^ (min (7:Int).toNat (IntKind.bits .i64))=((128*v:Nat):Int):=by
   have:min (7:Int).toNat (IntKind.bits .i64)=7:=by decide
   rw[this]
   omega
  unfold Vs
  rw[this,bB (by omega) (by omega)]
 have e2:(BitVec.ofInt 64 ((128*v:Nat):Int) ||| BitVec.ofInt 64 (m:Int)).toNat=m+128*v:=by
  rw[BitVec.toNat_or,BitVec.toNat_ofInt,BitVec.toNat_ofInt]
  have h1:(((128*v:Nat):Int)%((2 ^ 64:Nat):Int)).toNat=128*v:=by omega
  have h2:((m:Int)%((2 ^ 64:Nat):Int)).toNat=m:=by omega
  rw[h1,h2,show 128*v=2 ^ 7*v from rfl,←Nat.two_pow_add_eq_or_of_lt (by omega),Nat.add_comm]
 rw[e1]
 show IntKind.i64.wrap (((BitVec.ofInt 64 ((128*v:Nat):Int) ||| BitVec.ofInt 64 (m:Int)).toNat:Nat):Int)=_
 rw[e2,bB (by omega) (by omega)]
def zW(x:Int):Bool:=decide (0≤x∧x≤4611686018427387903)
def encI(l:List Int):List UInt8:=l.flatMap λx=>qE x.toNat
def Jw(b:List UInt8)(l:List Int):List UInt8:=if l.all zW then b++encI l else []
theorem Jy(l:List Int)(x:Int):encI (l++[x])=encI l++qE x.toNat:=by simp[encI]
theorem Jz(b:List UInt8){n:Nat}(h:n≤4611686018427387903):Jw b [(n:Int)]=b++qE n:=by
 unfold Jw
 rw[if_pos (by simp[zW];omega)]
 simp[encI]
theorem Kt:∀(l:List Int),(∀x∈l,zW x=true)→(encI l).length≤9*l.length
 | [],_=>by simp[encI]
 | x::l,h=>by
  have h1:=Kt l λy hy=>h y (by simp[hy])
  have h2:=h x (by simp)
  simp only[zW,decide_eq_true_eq]at h2
  have h3:=Ch (x:=x.toNat) (by omega)
  simp only[encI,List.flatMap_cons,aF,aY]at h1 ⊢
  omega
theorem Ml{p:Int→Bool}(l:List Int){i:Nat}(h:i<l.length)(h1:p l[i]=false):l.all p=false:=by
 rw[List.all_eq_false]
 exact⟨l[i],List.getElem_mem _,by simp[h1]⟩
theorem JA(x:Nat)(h:¬x<128)(s:List UInt8):s++qE x=(s++[UInt8.ofNat (x%128+128)])++qE (x/128):=by
 rw[Cg h]
 simp
end Go.Proofs.Ytkedeiklmpkgkaa
