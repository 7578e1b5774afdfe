import Derived.Calls
import Derived.KernelRfl
import Derived.WalkKit
import Derived.Lib.ConvBytes
set_option linter.all false
namespace Go.Proofs.YtohoggieaanllaaGreat
theorem ak:type_of% @Option.bind_some:=@Option.bind_some
theorem av:type_of% @Option.some.inj:=@Option.some.inj
theorem aA:type_of% @List.forall_mem_cons:=@List.forall_mem_cons
theorem aC:type_of% @Option.some.injEq:=@Option.some.injEq
theorem aD:type_of% @List.length_append:=@List.length_append
theorem aH:type_of% @Option.map_eq_some_iff:=@Option.map_eq_some_iff
theorem aR:type_of% @Option.bind_eq_some_iff:=@Option.bind_eq_some_iff
theorem aS:type_of% @Prod.mk.injEq:=@Prod.mk.injEq
theorem aY:type_of% @List.getElem?_eq_some_iff:=@List.getElem?_eq_some_iff
theorem aZ:type_of% @List.length_drop:=@List.length_drop
theorem bf:type_of% @List.length_take:=@List.length_take
theorem bA:type_of% @List.length_cons:=@List.length_cons
theorem bB:type_of% @List.length_set:=@List.length_set
theorem bG:type_of% @List.take_succ_eq_append_getElem:=@List.take_succ_eq_append_getElem
theorem bH:type_of% @Option.map_some:=@Option.map_some
theorem bL:type_of% @Int.toNat_natCast:=@Int.toNat_natCast
theorem bN:type_of% @List.length_nil:=@List.length_nil
theorem bQ:type_of% @List.getElem?_eq_getElem:=@List.getElem?_eq_getElem
theorem bR:type_of% @List.append_assoc:=@List.append_assoc
theorem bT:type_of% @Nat.eq_of_beq_eq_true:=@Nat.eq_of_beq_eq_true
inductive AV where
 | undef
 | bool (b:Bool)
 | int (k:IntKind) (n:Int)
 | str (s:List UInt8)
 | ptr (a:Option (Nat×Nat))
 | slice (a:Option (Nat×Nat)) (sz len cap:Nat) (exact:Bool)
 | map (r:Option Nat)
 | func (f:FuncId) (caps:List AV)
 | nilFunc
 | agg (cs:List AV)
 | tuple (vs:List AV)
 | list (sz len:Nat) (cs:List AV) (ex:Bool)
 | elem (cs:List AV)
 | acc (b o sz n:Nat) (w:Bool)
instance:Inhabited AV:=⟨.undef⟩
def AV.iI:AV→Bool
 |.undef |.agg _ |.tuple _=>false
 | _=>true
def AV.cells?:AV→Option (List AV)
 |.agg cs=>if cs.all AV.iI then some cs else none
 |.undef |.tuple _=>none
 | v=>some [v]
mutual
def AV.same:AV→AV→Bool
 |.bool a,.bool b=>a==b
 |.int k a,.int k' b=>k==k'&&a==b
 |.str a,.str b=>a==b
 |.ptr a,.ptr b=>a==b
 |.slice a s l c e,.slice a' s' l' c' e'=>a==a'&&s==s'&&l==l'&&c==c'&&e==e'
 |.map a,.map b=>a==b
 |.func f cs,.func f' cs'=>f==f'&&AV.Qk cs cs'
 |.nilFunc,.nilFunc=>true
 |.agg a,.agg b=>AV.Qk a b
 |.tuple a,.tuple b=>AV.Qk a b
 | _,_=>false
def AV.Qk:List AV→List AV→Bool
 | [],[]=>true
 | a::l,b::r=>AV.same a b&&AV.Qk l r
 | _,_=>false
end
inductive pJ where
 | cells (c:List AV) (ro ZJ:Bool)
 | map (es:List (AV×AV))
structure Heap where
 get:Nat→Option pJ
 next:Nat
def Heap.put(M:Heap)(b:Nat)(x:Option pJ):Heap:={ M with get:=λi=>if i=b then x else M.get i }
def Heap.push(M:Heap)(x:pJ):Heap:={ get:=λi=>if i=M.next then some x else M.get i,next:=M.next+1 }
def Heap.hide(M:Heap)(base n:Nat):Heap:={ M with get:=λi=>if base≤i∧i<base+n then none else M.get i }
def Heap.empty:Heap:={ get:=λ_=>.none,next:=0 }
def Heap.read(M:Heap)(b o n:Nat):Option (List AV) :=
 match M.get b with
 | some (.cells c _ _)=>if o+n≤c.length then some ((c.drop o).take n)else .none
 | _=>.none
def Heap.write(M:Heap)(b o:Nat)(new:List AV):Option Heap :=
 match M.get b with
 | some (.cells c false sl) =>
  if o+new.length≤c.length then some (M.put b (some (.cells (c.take o++new++c.drop (o+new.length)) false sl)))else .none
 | _=>.none
inductive AX where
 | t (n:Nat)
 | c (v:AV)
abbrev Env:=List AV
def AX.ev(e:Env):AX→AV
 |.t n=>e.getD n .undef
 |.c v=>v
inductive Kd where
 | b | i | s
 deriving DecidableEq
inductive pK where
 | move (x:AX)
 | pick (c a b:AX)
 | build (zero:List AV) (parts:List (Nat×Nat×AX))
 | nilCheck (x:AX)
 | bin (op:BinOp) (x y:AX)
 | eqB (neg:Bool) (x y:AX)
 | eqS (neg:Bool) (ks:List Kd) (x y:AX)
 | eqP (neg:Bool) (x y:AX)
 | eqN (neg:Bool) (x y:AX)
 | un (op:UnOp) (x:AX)
 | OQ (k:IntKind) (x:AX)
 | Ql (x:AX)
 | Gs (f:FuncId) (caps:List AX)
 | sj (x:AX) (lo hi:Option AX)
 | slice (sz:Nat) (x:AX) (lo hi mx:Option AX)
 | fieldAddr (off:Nat) (x:AX)
 | field (agg:Bool) (off n:Nat) (x:AX)
 | zU (n sz:Nat) (x i:AX)
 | kU (sz:Nat) (x i:AX)
 | index (agg:Bool) (n sz:Nat) (x i:AX)
 | xK (x i:AX)
 | extract (x:AX) (i:Nat)
 | len (isStr:Bool) (x:AX)
 | cap (x:AX)
 | Cv (isMax:Bool) (xs:List AX)
inductive Ew where
 | load (agg:Bool) (n:Nat) (x:AX)
 | oh (x:AX)
 | NP (x:AX)
 | lookup (ok:Bool) (zero:AV) (x k:AX)
inductive PL where
 | alloc (zero:List AV)
 | box (x:AX)
 | buildSlice (sz len:Nat) (zero:List AV) (parts:List (Nat×AX))
 | makeSlice (sz bytes:Nat) (zero:List AV) (len cap:AX)
 | t_ (x:AX)
 | makeMap
inductive JY where
 | store (n:Nat) (a v:AX)
 | call (f:AX) (args:List AX)
 | append (sz bytes:Nat) (s x:AX)
 | Cw (sz bytes:Nat) (zero:List AV) (s n:AX)
 | copy (sz:Nat) (d s:AX)
 | clear (sz:Nat) (zero:List AV) (x:AX)
 | mapUpdate (m k v:AX)
 | Ir (m k:AX)
 | AZ (x:AX)
 | fail
inductive Fw where
 | p (o:pK)
 | l (o:Ew)
 | k (o:PL)
 | n (o:JY)
structure zM where
 dst:Option Nat
 op:Fw
 guard:Option (Nat×Bool)
structure iw where
 o:zM
 lo:Nat
 ix:Nat
inductive cO where
 | skip
 | reg (ops:List zM)
 | aaw (nk:Nat) (ops:List iw)
 | seq (a b:cO)
 | cond (c:AX) (a b:cO)
 | block (id:Nat) (c:cO)
 | loop (keep:List Nat) (c:cO)
 | exit (id:Nat)
 | ret
 | fail
inductive Mf where
 | tmp (t:Nat)
 | cell (t:Nat) (agg:Bool) (n:Nat)
structure bY where
 nargs:Nat
 ntmps:Nat
 code:cO
 results:List Mf
def Mg(op:BinOp)(k:IntKind)(x y:Int):Option AV :=
 match op with
 |.add=>some (.int k (k.wrap (x+y)))
 |.sub=>some (.int k (k.wrap (x-y)))
 |.mul=>some (.int k (k.wrap (x*y)))
 |.quo=>if y=0 then none else some (.int k (k.wrap (x.tdiv y)))
 |.rem=>if y=0 then none else some (.int k (x.tmod y))
 |.and=>some (.int k (k.wrap (BitVec.ofInt k.bits x &&& BitVec.ofInt k.bits y).toNat))
 |.or=>some (.int k (k.wrap (BitVec.ofInt k.bits x ||| BitVec.ofInt k.bits y).toNat))
 |.xor=>some (.int k (k.wrap (BitVec.ofInt k.bits x ^^^ BitVec.ofInt k.bits y).toNat))
 |.andNot=>some (.int k (k.wrap (BitVec.ofInt k.bits x &&& ~~~BitVec.ofInt k.bits y).toNat))
 |.eql=>some (.bool (x==y))
 |.neq=>some (.bool (x != y))
 |.lss=>some (.bool (x<y))
 |.leq=>some (.bool (x≤y))
 |.gtr=>some (.bool (x>y))
 |.geq=>some (.bool (x≥y))
 |.shl |.shr=>none
def ah2(op:BinOp)(x y:List UInt8):Option AV :=
 match op with
 |.add=>if x.length+y.length≤4611686018427387904 then some (.str (x++y))else none
 |.eql=>some (.bool (x==y))
 |.neq=>some (.bool !(x==y))
 |.lss=>some (.bool (Op.bytesLess x y))
 |.leq=>some (.bool (Op.bytesLess x y||x==y))
 |.gtr=>some (.bool !(Op.bytesLess x y||x==y))
 |.geq=>some (.bool !(Op.bytesLess x y))
 | _=>none
def Yh(op:BinOp)(x y:AV):Option AV :=
 match x,y with
 |.int k a,.int k' b =>
  match op with
  |.shl=>if b<0 then none else some (.int k (k.wrap (a*2 ^ (min b.toNat k.bits))))
  |.shr=>if b<0 then none else some (.int k (a.fdiv (2 ^ (min b.toNat k.bits))))
  | _=>if k=k' then Mg op k a b else none
 |.str a,.str b=>ah2 op a b
 | _,_=>none
def ah3(k:Kd)(x y:AV):Option Bool :=
 match k,x,y with
 |.b,.bool a,.bool b=>some (a==b)
 |.i,.int k a,.int k' b=>if k=k' then some (a==b)else none
 |.s,.str a,.str b=>some (a==b)
 | _,_,_=>none
def qc:List Kd→List AV→List AV→Option Bool
 | [],[],[]=>some true
 | k::ks,a::l,b::r =>
  match ah3 k a b,qc ks l r with
  | some x,some y=>some (x&&y)
  | _,_=>none
 | _,_,_=>none
def aef:AV→AV→Option Bool
 |.ptr .none,.ptr b=>some b.isNone
 |.ptr (some _),.ptr .none=>some false
 |.ptr (some a),.ptr (some b)=>if a.1=b.1 then some (a.2==b.2)else none
 | _,_=>none
def agB:AV→AV→Option Bool
 |.slice .none _ _ _ _,.slice b _ _ _ _=>some b.isNone
 |.slice (some _) _ _ _ _,.slice .none _ _ _ _=>some false
 | _,_=>none
def aUn(op:UnOp)(x:AV):Option AV :=
 match op,x with
 |.neg,.int k n=>some (.int k (k.wrap (0-n)))
 |.xor,.int k n=>some (.int k (k.wrap (BitVec.ofInt k.bits (if k.signed then -1 else k.max) ^^^ BitVec.ofInt k.bits n).toNat))
 |.not,.bool b=>some (.bool !b)
 | _,_=>none
def wS:List AV→List (Nat×Nat×AV)→Option (List AV)
 | cs,[]=>some cs
 | cs,(off,n,v)::r =>
  match v.cells? with
  | some l=>if l.length=n∧off+n≤cs.length then wS (cs.take off++l++cs.drop (off+n)) r else none
  | none=>none
def tu(v:AV)(most:Nat):Option Nat :=
 match v with
 |.int _ i=>if 0≤i∧i≤(most:Int)then some i.toNat else none
 | _=>none
def dX(e:Env)(x:Option AX)(other most:Nat):Option Nat :=
 match x with
 | some x=>tu (x.ev e) most
 | none=>some other
def oJ(a:Option (Nat×Nat))(n:Nat):Option (Nat×Nat):=a.map λp=>(p.1,p.2+n)
def Iu(s:List UInt8)(e:Env)(lo hi:Option AX):Option AV :=
 (dX e hi s.length s.length).bind λh=>(dX e lo 0 h).bind λl=>some (.str ((s.drop l).take (h-l)))
def lH(sz:Nat)(a:Option (Nat×Nat))(sz' len cap:Nat)(ex:Bool)(e:Env)(lo hi mx:Option AX):Option AV :=
 if a=none∨sz'=sz then
  match mx with
  | none=>(dX e hi len cap).bind λh=>(dX e lo 0 h).bind λl=>some (.slice (oJ a (l*sz)) sz (h-l) (cap-l) ex)
  | some _=>(dX e mx cap cap).bind λm=>match hi with
   | none=>none
   | some _=>(dX e hi len m).bind λh=>(dX e lo 0 h).bind λl=>some (.slice (oJ a (l*sz)) sz (h-l) (m-l) true)
 else none
def abx(isMax:Bool):AV→AV→Option AV
 |.int k x,.int k' y=>if k=k' then some (.int k (if isMax then (if y>x then y else x)else (if y<x then y else x)))else none
 | _,_=>none
def V6(isMax:Bool):AV→List AV→Option AV
 | x,[]=>some x
 | x,y::r=>(abx isMax x y).bind λz=>V6 isMax z r
def GZ(agg:Bool)(off n:Nat)(cs:List AV):Option AV :=
 if agg then some (.agg ((cs.drop off).take n))else cs[off]?
def aP(o:pK)(e:Env):Option AV :=
 match o with
 |.move x=>some (x.ev e)
 |.pick c a b=>match c.ev e with
  |.bool true=>some (a.ev e)
  |.bool false=>some (b.ev e)
  | _=>none
 |.build zero parts=>(wS zero (parts.map λp=>(p.1,p.2.1,p.2.2.ev e))).map .agg
 |.nilCheck x=>match x.ev e with
  |.ptr (some a)=>some (.ptr (some a))
  |.func f cs=>some (.func f cs)
  | _=>none
 |.bin op x y=>Yh op (x.ev e) (y.ev e)
 |.eqB neg x y=>(ah3 .b (x.ev e) (y.ev e)).map λb=>.bool (if neg then !b else b)
 |.eqS neg ks x y=>match x.ev e,y.ev e with
  |.agg a,.agg b=>(qc ks a b).map λb=>.bool (if neg then !b else b)
  | _,_=>none
 |.eqP neg x y=>(aef (x.ev e) (y.ev e)).map λb=>.bool (if neg then !b else b)
 |.eqN neg x y=>(agB (x.ev e) (y.ev e)).map λb=>.bool (if neg then !b else b)
 |.un op x=>aUn op (x.ev e)
 |.OQ k x=>match x.ev e with
  |.int _ n=>some (.int k (k.wrap n))
  | _=>none
 |.Ql x=>match x.ev e with
  |.str s=>some (.str s)
  | _=>none
 |.Gs f cs=>some (.func f (cs.map (AX.ev e)))
 |.sj x lo hi=>match x.ev e with
  |.str s=>Iu s e lo hi
  | _=>none
 |.slice sz x lo hi mx=>match x.ev e with
  |.slice a sz' len cap ex=>lH sz a sz' len cap ex e lo hi mx
  | _=>none
 |.fieldAddr off x=>match x.ev e with
  |.ptr (some a)=>some (.ptr (some (a.1,a.2+off)))
  | _=>none
 |.field agg off n x=>match x.ev e with
  |.agg cs=>GZ agg off n cs
  | _=>none
 |.zU n sz x i=>match x.ev e,i.ev e with
  |.ptr (some a),.int _ j=>if 0≤j∧j<(n:Int)then some (.ptr (some (a.1,a.2+j.toNat*sz)))else none
  | _,_=>none
 |.kU sz x i=>match x.ev e,i.ev e with
  |.slice (some a) sz' len cap ex,.int _ j=>if 0≤j∧j<(len:Int)∧sz'=sz then some (.ptr (some (a.1,a.2+j.toNat*sz)))else none
  | _,_=>none
 |.index agg n sz x i=>match x.ev e,i.ev e with
  |.agg cs,.int _ j=>if 0≤j∧j<(n:Int)then GZ agg (j.toNat*sz) sz cs else none
  | _,_=>none
 |.xK x i=>match x.ev e,i.ev e with
  |.str s,.int _ j=>if 0≤j then (s[j.toNat]?).map λb=>.int .u8 b.toNat else none
  | _,_=>none
 |.extract x i=>match x.ev e with
  |.tuple vs=>vs[i]?
  | _=>none
 |.len isStr x=>match isStr,x.ev e with
  | true,.str s=>some (.int .i64 s.length)
  | false,.slice _ _ len _ _=>some (.int .i64 len)
  | _,_=>none
 |.cap x=>match x.ev e with
  |.slice _ _ _ cap true=>some (.int .i64 cap)
  | _=>none
 |.Cv isMax xs=>match xs.map (AX.ev e)with
  | x::r=>V6 isMax x r
  | []=>none
def mU:List AV→Option (List UInt8)
 | []=>some []
 |.int .u8 n::r=>(mU r).map (UInt8.ofNat n.toNat::·)
 | _::_=>none
def Kn(agg:Bool)(n:Nat)(v:AV)(M:Heap):Option AV :=
 match v with
 |.ptr (some (b,o))=>if agg then (M.read b o n).map .agg else match M.get b with
  | some (.cells c _ _)=>c[o]?
  | _=>none
 | _=>none
def yQ(v:AV)(M:Heap):Option AV :=
 match v with
 |.slice .none _ _ _ _=>some (.str [])
 |.slice (some (b,o)) 1 len _ _=>if len=0 then some (.str [])else ((M.read b o len).bind mU).map .str
 | _=>none
def ay4:AV→AV→Option Bool
 |.bool a,.bool b=>some (a==b)
 |.int k a,.int k' b=>if k=k' then some (a==b)else none
 |.str a,.str b=>some (a==b)
 | _,_=>none
def amX(k:AV):List (AV×AV)→Nat→Option (Option (Nat×AV))
 | [],_=>some none
 | e::r,i=>match ay4 k e.1 with
  | some true=>some (some (i,e.2))
  | some false=>amX k r (i+1)
  | none=>none
def Qm(v:AV)(M:Heap):Option (List (AV×AV)) :=
 match v with
 |.map .none=>some []
 |.map (some r)=>match M.get r with
  | some (.map es)=>some es
  | _=>none
 | _=>none
def amY(ok:Bool)(zero v k:AV)(M:Heap):Option AV :=
 (Qm v M).bind λes=>(amX k es 0).map λr =>
  let p:AV×Bool:=match r with
   | some (_,x)=>(x,true)
   | none=>(zero,false)
  if ok then .tuple [p.1,.bool p.2]else p.1
def aL(o:Ew)(e:Env)(M:Heap):Option AV :=
 match o with
 |.load agg n x=>Kn agg n (x.ev e) M
 |.oh x=>yQ (x.ev e) M
 |.NP x=>(Qm (x.ev e) M).map λes=>.int .i64 es.length
 |.lookup ok zero x k=>amY ok zero (x.ev e) (k.ev e) M
inductive Mk where
 | ptr
 | slice (sz len cap:Nat) (ex:Bool)
 | map
def Mk.val(k:Mk)(b:Nat):AV :=
 match k with
 |.ptr=>.ptr (some (b,0))
 |.slice sz len cap ex=>.slice (some (b,0)) sz len cap ex
 |.map=>.map (some b)
def l5(n:Nat)(zero:List AV):List AV :=
 match n with
 | 0=>[]
 | n+1=>zero++l5 n zero
def NQ(sz bytes:Nat)(zero:List AV)(l c:AV):Option (pJ×Mk) :=
 match l,c with
 |.int _ l,.int _ c =>
  if 0≤l∧l≤c∧c≤4611686018427387904∧bytes*c.toNat≤281474976710656 then some (.cells (l5 c.toNat zero) false false,.slice sz l.toNat c.toNat true)else none
 | _,_=>none
def aK(o:PL)(e:Env):Option (pJ×Mk) :=
 match o with
 |.alloc zero=>some (.cells zero false false,.ptr)
 |.box x=>(x.ev e).cells?.map λcs=>(.cells cs false false,.ptr)
 |.buildSlice sz len zero parts =>
  (wS (l5 len zero) (parts.map λp=>(p.1*sz,sz,p.2.ev e))).map λcs=>(.cells cs false false,.slice sz len len true)
 |.makeSlice sz bytes zero l c=>NQ sz bytes zero (l.ev e) (c.ev e)
 |.t_ x=>match x.ev e with
  |.str s=>if s.length≤70368744177664 then some (.cells (s.map λb=>.int .u8 b.toNat) false true,.slice 1 s.length s.length false)else none
  | _=>none
 |.makeMap=>some (.map [],.map)
def abQ(n:Nat)(a v:AV)(M:Heap):Option (AV×Heap) :=
 match a,v.cells? with
 |.ptr (some (b,o)),some cs=>if cs.length=n then (M.write b o cs).map λM=>(.tuple [],M)else none
 | _,_=>none
def iK(sz bytes:Nat)(s:AV)(n:Nat)(new:List AV)(M:Heap):Option (AV×Heap) :=
 match s with
 |.slice a sz' len cap ex =>
  if a≠none∧sz'≠sz then none
  else if len+n≤cap then
   match a with
   | none=>if n=0 then some (.slice none sz len cap ex,M)else none
   | some (b,o)=>if n=0 then some (.slice (some (b,o)) sz len cap ex,M)
    else (M.write b (o+len*sz) new).map λM=>(.slice (some (b,o)) sz (len+n) cap ex,M)
  else if (len+n)*bytes≤70368744177664∧len+n≤70368744177664 then
   match a with
   | none=>some (.slice (some (M.next,0)) sz (len+n) (len+n) false,M.push (.cells new false true))
   | some (b,o)=>(if ex=true∧len=0 then some []else M.read b o (len*sz)).bind λold =>
    if ex then some (.slice (some (M.next,0)) sz (len+n) (len+n) false,M.push (.cells (old++new) false true))
    else match M.get b with
     | some (.cells _ false _)=>some (.slice (some (M.next,0)) sz (len+n) (len+n) false,(M.put b none).push (.cells (old++new) false true))
     | _=>none
  else none
 | _=>none
def qd(x:AV)(M:Heap):Option (Nat×List AV) :=
 match x with
 |.slice .none _ len _ _=>some (len,[])
 |.slice (some (b,o)) sz len _ _=>if len=0 then some (0,[])else (M.read b o (len*sz)).map λcs=>(len,cs)
 |.str s=>some (s.length,s.map λb=>.int .u8 b.toNat)
 | _=>none
def gH(x:AV)(sz:Nat):Bool :=
 match x with
 |.slice .none _ len _ _=>len==0
 |.slice (some _) sz' _ _ _=>sz'==sz
 |.str _=>sz==1
 | _=>false
def aSize(x:AV):Option Nat :=
 match x with
 |.slice _ _ len _ _=>some len
 |.str s=>some s.length
 | _=>none
def agC(x:AV)(k:Nat)(M:Heap):Option (List AV) :=
 match x with
 |.slice .none _ _ _ _=>some []
 |.slice (some (b,o)) sz _ _ _=>if k=0 then some []else M.read b o (k*sz)
 |.str s=>some ((s.map λb=>.int .u8 b.toNat).take k)
 | _=>none
def Heap.lay(M:Heap)(b o:Nat)(new:List AV):Option Heap :=
 match M.get b with
 | some (.cells c false sl) =>
  if o+new.length≤c.length∨(sl=true∧o≤c.length)then some (M.put b (some (.cells (c.take o++new++c.drop (o+new.length)) false sl)))else .none
 | _=>.none
def TW(sz:Nat)(d s:AV)(M:Heap):Option (AV×Heap) :=
 match d with
 |.slice a sz' len _ _ =>
  if (a=none∨sz'=sz)∧gH s sz then
   (aSize s).bind λm =>
    let n:=min m len
    (agC s n M).bind λcs=>match a with
    | none=>some (.int .i64 n,M)
    | some (b,o)=>if n=0 then some (.int .i64 n,M)else (M.lay b o cs).map λM=>(.int .i64 n,M)
  else none
 | _=>none
def agD(sz:Nat)(zero:List AV)(x:AV)(M:Heap):Option (AV×Heap) :=
 match x with
 |.slice .none _ _ _ _=>some (.tuple [],M)
 |.slice (some (b,o)) sz' len _ _=>if sz'=sz then (if len=0 then some (.tuple [],M)else (M.write b o (l5 len zero)).map λM=>(.tuple [],M))else none
 | _=>none
def akG(m k v:AV)(M:Heap):Option (AV×Heap) :=
 match m with
 |.map (some r)=>match M.get r with
  | some (.map es) =>
   if v.iI=false∧(v.cells?).isNone then none else
   (amX k es 0).bind λp=>match p with
   | some (i,_)=>some (.tuple [],M.put r (some (.map (es.set i (k,v)))))
   | none=>if k.iI then some (.tuple [],M.put r (some (.map (es++[(k,v)]))))else none
  | _=>none
 | _=>none
def akH(m k:AV)(M:Heap):Option (AV×Heap) :=
 match m with
 |.map (some r)=>match M.get r with
  | some (.map es)=>(amX k es 0).bind λp=>match p with
   | some (i,_)=>some (.tuple [],M.put r (some (.map (es.eraseIdx i))))
   | none=>some (.tuple [],M)
  | _=>none
 | _=>none
def abR(x:AV)(M:Heap):Option (AV×Heap) :=
 match x with
 |.slice (some (b,o)) sz len cap ex=>if cap=0 then none else match M.get b with
  | some (.cells c false _)=>some (.slice (some (b,o)) sz len cap ex,M.put b (some (.cells c false true)))
  | _=>none
 | _=>none
abbrev dO:=FuncId→List AV→Heap→Option (AV×Heap)
def ah4(C:dO)(f:AV)(args:List AV)(M:Heap):Option (AV×Heap) :=
 match f with
 |.func g caps=>C g (args++caps) M
 | _=>none
def aN(C:dO)(o:JY)(e:Env)(M:Heap):Option (AV×Heap) :=
 match o with
 |.store n a v=>abQ n (a.ev e) (v.ev e) M
 |.call f args=>ah4 C (f.ev e) (args.map (AX.ev e)) M
 |.append sz bytes s x =>
  if gH (x.ev e) sz then (qd (x.ev e) M).bind λp=>iK sz bytes (s.ev e) p.1 p.2 M else none
 |.Cw sz bytes zero s n=>match n.ev e with
  |.int _ n=>if 0<n∧n≤70368744177664∧bytes*n.toNat≤281474976710656 then iK sz bytes (s.ev e) n.toNat (l5 n.toNat zero) M else none
  | _=>none
 |.copy sz d s=>TW sz (d.ev e) (s.ev e) M
 |.clear sz zero x=>agD sz zero (x.ev e) M
 |.mapUpdate m k v=>akG (m.ev e) (k.ev e) (v.ev e) M
 |.Ir m k=>akH (m.ev e) (k.ev e) M
 |.AZ x=>abR (x.ev e) M
 |.fail=>none
def V5(C:dO)(o:Fw)(e:Env)(M:Heap):Option (AV×Heap) :=
 match o with
 |.p o=>(aP o e).map λv=>(v,M)
 |.l o=>(aL o e M).map λv=>(v,M)
 |.k o=>(aK o e).map λr=>(r.2.val M.next,M.push r.1)
 |.n o=>aN C o e M
def PN(d:Option Nat)(v:AV)(e:Env):Env :=
 match d with
 | some d=>e.set d v
 | none=>e
def yR(g:Option (Nat×Bool))(e:Env):Option Bool :=
 match g with
 | none=>some true
 | some (t,want)=>match e.getD t .undef with
  |.bool b=>some (b==want)
  |.tuple _=>some false
  | _=>none
def Yi(C:dO):List zM→Env→Heap→Option (Env×Heap)
 | [],e,M=>some (e,M)
 | o::r,e,M=>match yR o.guard e with
  | some true=>(V5 C o.op e M).bind λp=>Yi C r (PN o.dst p.1 e) p.2
  | some false=>Yi C r (PN o.dst (.tuple []) e) M
  | none=>none
def Mh(C:dO)(base nk:Nat):List iw→Env→Heap→List Heap→Option (Env×Heap)
 | [],e,M,_=>some (e,M)
 | d::r,e,M,hist=>match yR d.o.guard e with
  | some true=>match d.o.op with
   |.p o=>(aP o e).bind λv=>Mh C base nk r (PN d.o.dst v e) M hist
   |.l o=>(aL o e (M.hide base nk)).bind λv =>
    if (hist.drop d.lo).all (λH=>match aL o e (H.hide base nk)with | some u=>AV.same u v | none=>false)then Mh C base nk r (PN d.o.dst v e) M hist else none
   |.k o=>(aK o e).bind λp=>Mh C base nk r (PN d.o.dst (p.2.val (base+d.ix)) e) (M.put (base+d.ix) (some p.1)) hist
   |.n o=>(aN C o e M).bind λp=>Mh C base nk r (PN d.o.dst p.1 e) p.2 (hist++[M])
  | some false=>Mh C base nk r (PN d.o.dst (.tuple []) e) M (match d.o.op with |.n _=>hist++[M] | _=>hist)
  | none=>none
inductive Ex where
 | normal
 | exit (id:Nat)
 | ret
 deriving DecidableEq
def om(keep:List Nat):Nat→Env→Env
 | _,[]=>[]
 | i,v::r=>(if keep.contains i then v else .undef)::om keep (i+1) r
abbrev auz:=Option (Ex×Env×Heap)
def abS(body:Env→Heap→auz)(keep:List Nat):Nat→Env→Heap→auz
 | 0,_,_=>none
 | k+1,e,M=>match body (om keep 0 e) M with
  | some (.normal,e',M')=>abS body keep k e' M'
  | r=>r
def oo(C:dO)(K:Nat):cO→Env→Heap→auz
 |.skip,e,M=>some (.normal,e,M)
 |.reg ops,e,M=>(Yi C ops e M).map λp=>(.normal,p)
 |.aaw nk ops,e,M=>(Mh C M.next nk ops e { M with next:=M.next+nk } []).map λp=>(.normal,p)
 |.seq a b,e,M=>match oo C K a e M with
  | some (.normal,e',M')=>oo C K b e' M'
  | r=>r
 |.cond c a b,e,M=>match c.ev e with
  |.bool true=>oo C K a e M
  |.bool false=>oo C K b e M
  | _=>none
 |.block id c,e,M=>match oo C K c e M with
  | some (.exit i,e',M')=>if i=id then some (.normal,e',M')else some (.exit i,e',M')
  | r=>r
 |.loop keep c,e,M=>abS (oo C K c) keep K e M
 |.exit id,e,M=>some (.exit id,e,M)
 |.ret,e,M=>some (.ret,e,M)
 |.fail,_,_=>none
def akI(r:Mf)(e:Env)(M:Heap):Option AV :=
 match r with
 |.tmp t=>match e.getD t .undef with
  |.undef=>none
  | v=>some v
 |.cell t agg n=>Kn agg n (e.getD t .undef) M
def abT:List Mf→Env→Heap→Option (List AV)
 | [],_,_=>some []
 | r::l,e,M=>(akI r e M).bind λv=>(abT l e M).map (v::·)
def IC(l:List Mf)(e:Env)(M:Heap):Option AV :=
 (abT l e M).map λvs=>match vs with
  | [v]=>v
  | vs=>.tuple vs
def abody(C:dO)(K:Nat)(f:bY)(args:List AV)(M:Heap):Option (AV×Heap) :=
 if args.length=f.nargs∧f.nargs≤f.ntmps then
  match oo C K f.code (args++List.replicate (f.ntmps-f.nargs) (.tuple [])) M with
  | some (.normal,e,M')=>(IC f.results e M').map λv=>(v,M')
  | some (.ret,e,M')=>(IC f.results e M').map λv=>(v,M')
  | _=>none
 else none
def OT(G:FuncId→Option (List AV→Heap→Option (AV×Heap)))(T:FuncId→Option bY)(K:Nat):Nat→dO
 | 0,_,_,_=>none
 | d+1,f,args,M=>match G f with
  | some g=>g args M
  | none=>match T f with
   | some af=>abody (OT G T K d) K af args M
   | none=>none
structure Loc where
 j:Nat
 d:Nat
 N:Nat
abbrev jh:=Nat→Option Loc
mutual
def VR(ι:jh):AV→Value→Prop
 |.undef,_=>True
 |.bool b,v=>v=.bool b
 |.int k n,v=>v=.int k n
 |.str s,v=>∃b:ByteArray,v=.string b∧b.data.toList=s
 |.ptr none,v=>v=.pointer none
 |.ptr (some (b,o)),v=>∃l,ι b=some l∧v=.pointer (some ⟨l.j,l.d+o,none⟩)
 |.slice none _ len cap ex,v=>v=.slice none 0 0∧len=0∧cap=0∧ex=true
 | .slice (some (b,o)) sz len cap ex,v=>∃l a cap',ι b=some l∧v=.slice (some a) len cap'∧(cap'=0∨a.block=l.j)∧(cap'=0∨a.spot=none) ∧
   (cap'=0∨a.off=l.d+o)∧len≤cap∧cap≤cap'∧(ex=true→cap'=cap)∧o+cap'*sz≤l.N∧0<sz
 |.map none,v=>v=.map none
 |.map (some r),v=>∃l,ι r=some l∧v=.map (some l.j)
 |.func f caps,v=>∃cs:Array Value,v=.func (.func f) #[] cs∧gT ι caps cs.toList
 |.nilFunc,v=>v=.nilFunc
 |.agg cs,v=>∃vs:Array Value,v=.agg vs∧gT ι cs vs.toList
 |.tuple cs,v=>∃vs:Array Value,v=.tuple vs∧gT ι cs vs.toList
 |.list ..,_=>False
 |.elem ..,_=>False
 |.acc ..,_=>False
def gT(ι:jh):List AV→List Value→Prop
 | [],[]=>True
 | a::l,v::r=>VR ι a v∧gT ι l r
 | _,_=>False
end
theorem VR.undef(ι:jh)(v:Value):VR ι .undef v:=by simp[VR]
def jh.Le(ι dK:jh):Prop:=∀b l,ι b=some l→dK b=some l
theorem jh.Le.refl(ι:jh):ι.Le ι:=λ_ _ h=>h
theorem jh.Le.trans{a b c:jh}(h:a.Le b)(k:b.Le c):a.Le c:=λ_ _ e=>k _ _ (h _ _ e)
mutual
theorem VR.mono{ι dK:jh}(h:ι.Le dK):∀(a:AV) (v:Value),VR ι a v→VR dK a v
 |.undef,_,_=>VR.undef _ _
 |.bool _,_,e=>by simpa[VR]using e
 |.int _ _,_,e=>by simpa[VR]using e
 |.str _,_,e=>by simpa[VR]using e
 |.ptr none,_,e=>by simpa[VR]using e
 |.ptr (some (b,o)),_,e=>by
  simp only[VR]at e ⊢
  obtain⟨l,h1,h2⟩:=e
  exact⟨l,h _ _ h1,h2⟩
 |.slice none _ _ _ _,_,e=>by simpa[VR]using e
 |.slice (some (b,o)) _ _ _ _,_,e=>by
  simp only[VR]at e ⊢
  obtain⟨l,a,c,h1,r⟩:=e
  exact⟨l,a,c,h _ _ h1,r⟩
 |.map none,_,e=>by simpa[VR]using e
 |.map (some r),_,e=>by
  simp only[VR]at e ⊢
  obtain⟨l,h1,h2⟩:=e
  exact⟨l,h _ _ h1,h2⟩
 |.func f caps,_,e=>by
  simp only[VR]at e ⊢
  obtain⟨cs,h1,h2⟩:=e
  exact⟨cs,h1,gT.mono h _ _ h2⟩
 |.nilFunc,_,e=>by simpa[VR]using e
 |.list ..,_,e=>by simp[VR]at e
 |.elem ..,_,e=>by simp[VR]at e
 |.acc ..,_,e=>by simp[VR]at e
 |.agg cs,_,e=>by
  simp only[VR]at e ⊢
  obtain⟨vs,h1,h2⟩:=e
  exact⟨vs,h1,gT.mono h _ _ h2⟩
 |.tuple cs,_,e=>by
  simp only[VR]at e ⊢
  obtain⟨vs,h1,h2⟩:=e
  exact⟨vs,h1,gT.mono h _ _ h2⟩
theorem gT.mono{ι dK:jh}(h:ι.Le dK):∀(l:List AV) (r:List Value),gT ι l r→gT dK l r
 | [],[],_=>by simp[gT]
 | a::l,v::r,e=>by
  simp only[gT]at e ⊢
  exact⟨VR.mono h _ _ e.1,gT.mono h _ _ e.2⟩
 | [],_::_,e=>by simp[gT]at e
 | _::_,[],e=>by simp[gT]at e
end
theorem gT.length{ι:jh}:∀ {l:List AV} {r:List Value},gT ι l r→l.length=r.length
 | [],[],_=>rfl
 | _::l,_::r,e=>by
  simp only[gT]at e
  simp[gT.length e.2]
 | [],_::_,e=>by simp[gT]at e
 | _::_,[],e=>by simp[gT]at e
theorem gT.get{ι:jh}:∀ {l:List AV} {r:List Value},gT ι l r→∀(i:Nat) (a:AV),l[i]?=some a→∃v,r[i]?=some v∧VR ι a v
 | [],_,_,i,a,h=>by simp at h
 | a::l,v::r,e,i,x,h=>by
  simp only[gT]at e
  cases i with
  | zero =>
   simp at h
   subst h
   exact⟨v,by simp,e.1⟩
  | succ i=>simpa using gT.get e.2 i x (by simpa using h)
 | _::_,[],e,_,_,_=>by simp[gT]at e
theorem gT.Cx{ι:jh}:∀ {l:List AV} {r:List Value},l.length=r.length→(∀(i:Nat) (a:AV) (v:Value),l[i]?=some a→r[i]?=some v→VR ι a v)→gT ι l r
 | [],[],_,_=>by simp[gT]
 | a::l,v::r,hl,h=>by
  simp only[gT]
  exact⟨h 0 a v (by simp) (by simp),gT.Cx (by simpa using hl) λi x y hx hy=>h (i+1) x y (by simpa using hx) (by simpa using hy)⟩
 | [],_::_,hl,_=>by simp at hl
 | _::_,[],hl,_=>by simp at hl
theorem gT.append{ι:jh}:∀ {l l':List AV} {r r':List Value},gT ι l r→gT ι l' r'→gT ι (l++l') (r++r')
 | [],_,[],_,_,h=>by simpa using h
 | a::l,_,v::r,_,e,h=>by
  simp only[gT,List.cons_append]at e ⊢
  exact⟨e.1,gT.append e.2 h⟩
 | [],_,_::_,_,e,_=>by simp[gT]at e
 | _::_,_,[],_,e,_=>by simp[gT]at e
theorem gT.drop{ι:jh}:∀ {l:List AV} {r:List Value} (n:Nat),gT ι l r→gT ι (l.drop n) (r.drop n)
 | _,_,0,e=>by simpa using e
 | [],[],_+1,e=>by simpa using e
 | _::l,_::r,n+1,e=>by
  simp only[gT]at e
  simpa using gT.drop n e.2
 | [],_::_,_+1,e=>by simp[gT]at e
 | _::_,[],_+1,e=>by simp[gT]at e
theorem gT.take{ι:jh}:∀ {l:List AV} {r:List Value} (n:Nat),gT ι l r→gT ι (l.take n) (r.take n)
 | _,_,0,e=>by simp[gT]
 | [],[],_+1,e=>by simp[gT]
 | _::l,_::r,n+1,e=>by
  simp only[gT]at e
  simp only[List.take_succ_cons,gT]
  exact⟨e.1,gT.take n e.2⟩
 | [],_::_,_+1,e=>by simp[gT]at e
 | _::_,[],_+1,e=>by simp[gT]at e
theorem gT.getD{ι:jh}{l:List AV}{r:List Value}(h:gT ι l r)(i:Nat)(d:Value):VR ι (l.getD i .undef) (r.getD i d):=by
 rw[List.getD_eq_getElem?_getD,List.getD_eq_getElem?_getD]
 cases hi:l[i]? with
 | none=>simp[VR]
 | some a =>
  obtain⟨v,hv,hr⟩:=h.get i a hi
  simpa[hv]using hr
theorem gT.set{ι:jh}:∀ {l:List AV} {r:List Value} (n:Nat) {a:AV} {v:Value},gT ι l r→VR ι a v→gT ι (l.set n a) (r.set n v)
 | [],[],_,_,_,e,_=>by simp[gT]
 | _::l,_::r,0,_,_,e,h=>by
  simp only[gT,List.set_cons_zero]at e ⊢
  exact⟨h,e.2⟩
 | _::l,_::r,n+1,_,_,e,h=>by
  simp only[gT,List.set_cons_succ]at e ⊢
  exact⟨e.1,gT.set n e.2 h⟩
 | [],_::_,_,_,_,e,_=>by simp[gT]at e
 | _::_,[],_,_,_,e,_=>by simp[gT]at e
theorem gT.om{ι:jh}(keep:List Nat):∀ {l:List AV} {r:List Value} (i:Nat),gT ι l r→gT ι (om keep i l) r
 | [],[],_,e=>by simp[Proofs.YtohoggieaanllaaGreat.om,gT]
 | a::l,_::r,i,e=>by
  simp only[gT,Proofs.YtohoggieaanllaaGreat.om]at e ⊢
  refine⟨?_,gT.om keep (i+1) e.2⟩
  split
  ·exact e.1
  ·exact VR.undef _ _
 | [],_::_,_,e=>by simp[gT]at e
 | _::_,[],_,e=>by simp[gT]at e
theorem Qn{ι:jh}{a:AV}{v:Value}(h:a.iI=true)(r:VR ι a v):v.oneCell'=true:=by
 cases a with
 | undef=>simp[AV.iI]at h
 | agg _=>simp[AV.iI]at h
 | tuple _=>simp[AV.iI]at h
 | bool b=>simp only[VR]at r;subst r;rfl
 | int k n=>simp only[VR]at r;subst r;rfl
 | str s=>simp only[VR]at r;obtain⟨b,rfl,_⟩:=r;rfl
 | ptr a =>
  cases a with
  | none=>simp only[VR]at r;subst r;rfl
  | some p=>simp only[VR]at r;obtain⟨l,_,rfl⟩:=r;rfl
 | slice a sz len cap ex =>
  cases a with
  | none=>simp only[VR]at r;obtain⟨rfl,_⟩:=r;rfl
  | some p=>simp only[VR]at r;obtain⟨l,a,c,_,rfl,_⟩:=r;rfl
 | map r' =>
  cases r' with
  | none=>simp only[VR]at r;subst r;rfl
  | some p=>simp only[VR]at r;obtain⟨l,_,rfl⟩:=r;rfl
 | func f cs=>simp only[VR]at r;obtain⟨vs,rfl,_⟩:=r;rfl
 | nilFunc=>simp only[VR]at r;subst r;rfl
 | list=>simp[VR]at r
 | elem=>simp[VR]at r
 | acc=>simp[VR]at r
theorem cells_one{v:Value}(h:v.oneCell'=true):v.cells=#[v]:=by
 cases v<;>simp_all [Value.cells,Value.oneCell']
theorem Yj {ι:jh} {a:AV} {v:Value} {cs:List AV} (h:a.cells?=some cs) (r:VR ι a v) :
  gT ι cs v.cells.toList∧∀x,x∈cs→x.iI=true:=by
 cases a with
 | undef=>simp[AV.cells?]at h
 | tuple _=>simp[AV.cells?]at h
 | agg l =>
  simp only[AV.cells?]at h
  split at h
  ·rename_i hall
   obtain rfl:=av h
   simp only[VR]at r
   obtain⟨vs,rfl,hr⟩:=r
   exact⟨by simpa[Value.cells]using hr,λx hx=>List.all_eq_true.1 hall x hx⟩
  ·cases h
 | _ =>
  all_goals
   simp only[AV.cells?,aC]at h
   subst h
   have ho:=Qn (by rfl) r
   rw[cells_one ho]
   exact⟨by simp only[gT];exact⟨r,trivial⟩,λx hx=>by simp at hx;subst hx;rfl⟩
def pJ.own:pJ→Bool
 |.cells _ ro _=>!ro
 |.map _=>true
def ERL(ι:jh):List (AV×AV)→List MapEntry→Prop
 | [],[]=>True
 | a::l,e::r=>VR ι a.1 e.key∧VR ι a.2 e.val∧ERL ι l r
 | _,_=>False
theorem ERL.mono{ι dK:jh}(h:ι.Le dK):∀ {l:List (AV×AV)} {r:List MapEntry},ERL ι l r→ERL dK l r
 | [],[],_=>by simp[ERL]
 | _::l,_::r,e=>by
  simp only[ERL]at e ⊢
  exact⟨e.1.mono h,e.2.1.mono h,ERL.mono h e.2.2⟩
 | [],_::_,e=>by simp[ERL]at e
 | _::_,[],e=>by simp[ERL]at e
def BR(ι:jh):pJ→Loc→Obj→Prop
 | .cells c ro ZJ,l,o=>∃(cs:Array Value) (elem:TypeId) (fz:Nat×Nat),o=.cells cs elem fz∧l.d+l.N≤cs.size∧c.length≤l.N∧(ZJ=false→c.length=l.N) ∧
   (∀i a,c[i]?=some a→∃v,cs[l.d+i]?=some v∧a.iI=true∧VR ι a v)∧(ro=false→(fz.1=fz.2∨cs.size≤fz.1)∧(ZJ=false→fz.1=fz.2))
 |.map es,l,o=>∃(es':Array MapEntry) (clock:Nat),o=.map es' clock∧ERL ι es es'.toList
theorem BR.mono{ι dK:jh}(h:ι.Le dK){x:pJ}{l:Loc}{o:Obj}(r:BR ι x l o):BR dK x l o:=by
 cases x with
 | cells c ro ZJ =>
  obtain⟨cs,elem,fz,h1,h2,h3,h4,h5,h6⟩:=r
  exact⟨cs,elem,fz,h1,h2,h3,h4,λi a hi=>let ⟨v,a1,a2,a3⟩:=h5 i a hi;⟨v,a1,a2,a3.mono h⟩,h6⟩
 | map es =>
  obtain⟨es',clock,h1,h2⟩:=r
  exact⟨es',clock,h1,h2.mono h⟩
structure R(ι:jh)(M:Heap)(w:World):Prop where
 blk:∀b x,M.get b=some x→∃l o,ι b=some l∧w.heap[l.j]?=some o∧BR ι x l o
 apart:∀b b' x x' l l',M.get b=some x→M.get b'=some x'→ι b=some l→ι b'=some l'→b≠b'→(x.own=true∨x'.own=true)→l.j≠l'.j
 fresh:∀b,M.next≤b→M.get b=none∧ι b=none
structure Tr(ι:jh)(M:Heap)(w:World)(dK:jh)(M':Heap)(w':World):Prop where
 rel:R dK M' w'
 agree:∀b,b<M.next→dK b=ι b
 next:M.next≤M'.next
 dead:∀b,b<M.next→M.get b=none→M'.get b=none
 ro:∀b x,M'.get b=some x→x.own=false→M.get b=some x
 owned:∀b x l,M'.get b=some x→x.own=true→dK b=some l→l.j<w.heap.size→∃b0 x0 l0,M.get b0=some x0∧x0.own=true∧ι b0=some l0∧l0.j=l.j
 keep:∀j,j<w.heap.size→(∀b x l,M.get b=some x→x.own=true→ι b=some l→l.j≠j)→w'.heap[j]?=w.heap[j]?
 size:w.heap.size≤w'.heap.size
 os:w'.os=w.os
 tape:w'.tape=w.tape
 output:w'.output=w.output
theorem Tr.le{ι dK:jh}{M M':Heap}{w w':World}(r:R ι M w)(h:Tr ι M w dK M' w'):ι.Le dK:=λb l e=>by
 rcases Nat.lt_or_ge b M.next with hb | hb
 ·rw[h.agree b hb,e]
 ·rw[(r.fresh b hb).2]at e
  cases e
theorem Tr.refl{ι:jh}{M:Heap}{w:World}(r:R ι M w):Tr ι M w ι M w :=
 ⟨r,λ_ _=>rfl,Nat.le_refl _,λ_ _ h=>h,λ_ _ h _=>h,λb x l h1 h2 h3 _=>⟨b,x,l,h1,h2,h3,rfl⟩,λ_ _ _=>rfl,Nat.le_refl _,rfl,rfl,rfl⟩
theorem Tr.trans{ι qK Ey:jh}{M M1 M2:Heap}{w w1 w2:World}(h:Tr ι M w qK M1 w1)(k:Tr qK M1 w1 Ey M2 w2):Tr ι M w Ey M2 w2 where
 rel:=k.rel
 agree b hb:=(k.agree b (Nat.lt_of_lt_of_le hb h.next)).trans (h.agree b hb)
 next:=Nat.le_trans h.next k.next
 dead b hb hd:=k.dead b (Nat.lt_of_lt_of_le hb h.next) (h.dead b hb hd)
 ro b x hx ho:=h.ro b x (k.ro b x hx ho) ho
 owned b x l h1 h2 h3 h4:=by
  obtain⟨b1,x1,l1,a1,a2,a3,a4⟩:=k.owned b x l h1 h2 h3 (Nat.lt_of_lt_of_le h4 h.size)
  obtain⟨b0,x0,l0,c1,c2,c3,c4⟩:=h.owned b1 x1 l1 a1 a2 a3 (a4 ▸ h4)
  exact⟨b0,x0,l0,c1,c2,c3,c4.trans a4⟩
 keep j hj hn:=by
  refine(k.keep j (Nat.lt_of_lt_of_le hj h.size) λb x l h1 h2 h3 e=>?_).trans (h.keep j hj hn)
  obtain⟨b0,x0,l0,c1,c2,c3,c4⟩:=h.owned b x l h1 h2 h3 (e ▸ hj)
  exact hn b0 x0 l0 c1 c2 c3 (c4.trans e)
 size:=Nat.le_trans h.size k.size
 os:=k.os.trans h.os
 tape:=k.tape.trans h.tape
 output:=k.output.trans h.output
theorem R.drew{ι:jh}{M:Heap}{w:World}(r:R ι M w)(n:Nat):R ι M { w with drawn:=n }:=⟨r.blk,r.apart,r.fresh⟩
theorem Tr.drew{ι:jh}{M:Heap}{w:World}(r:R ι M w)(n:Nat):Tr ι M w ι M { w with drawn:=n } :=
 ⟨r.drew n,λ_ _=>rfl,Nat.le_refl _,λ_ _ h=>h,λ_ _ h _=>h,λb x l h1 h2 h3 _=>⟨b,x,l,h1,h2,h3,rfl⟩,λ_ _ _=>rfl,Nat.le_refl _,rfl,rfl,rfl⟩
theorem cell_of{w:World}{j i:Nat}{cs:Array Value}{e:TypeId}{fz:Nat×Nat}{v:Value}(h:w.heap[j]?=some (.cells cs e fz))(hv:cs[i]?=some v):w.cell? ⟨j,i,none⟩=some v:=by
 simp[World.cell?,h,hv]
theorem uf(j o n:Nat):(⟨j,o,none⟩:Addr).add n=⟨j,o+n,none⟩:=by
 unfold Addr.add;split<;>simp_all
theorem R.read {ι:jh} {M:Heap} {w:World} (r:R ι M w) {b o n:Nat} {cs:List AV} (h:M.read b o n=some cs) :
  cs.length=n∧(∀a,a∈cs→a.iI=true)∧∃l vs,ι b=some l∧gT ι cs vs∧(∀i v,vs[i]?=some v→w.cell? ⟨l.j,l.d+o+i,none⟩=some v):=by
 unfold Heap.read at h
 split at h
 case h_2=>cases h
 rename_i c ro sl hb
 split at h
 case isFalse=>cases h
 rename_i hle
 obtain rfl:=av h
 obtain⟨l,ob,hl,ho,cs,elem,fz,rfl,h2,h3,h4,h5,h6⟩:=r.blk b _ hb
 refine⟨by simp;omega, ?_,l,((cs.toList.drop (l.d+o)).take n),hl, ?_, ?_⟩
 ·intro a ha
  obtain⟨i,hi⟩:=List.mem_iff_getElem?.1 (List.mem_of_mem_drop (List.mem_of_mem_take ha))
  obtain⟨v,_,hc,_⟩:=h5 i a hi
  exact hc
 ·refine gT.Cx (by simp;omega) λi a v ha hv=>?_
  simp only[List.getElem?_take,List.getElem?_drop]at ha hv
  split at ha
  case isFalse=>cases ha
  rename_i hi
  rw[if_pos hi]at hv
  obtain⟨v',hv',_,hr⟩:=h5 _ a ha
  rw[show l.d+o+i=l.d+(o+i)from by omega]at hv
  rw[Array.getElem?_toList]at hv
  rw[hv]at hv'
  obtain rfl:=av hv'
  exact hr
 ·intro i v hv
  simp only[List.getElem?_take,List.getElem?_drop]at hv
  split at hv
  case isFalse=>cases hv
  rw[Array.getElem?_toList]at hv
  exact cell_of ho hv
def V7:Value→Option AV
 |.bool b=>some (.bool b)
 |.int k n=>some (.int k n)
 |.string s=>some (.str s.data.toList)
 |.pointer none=>some (.ptr none)
 |.slice none 0 0=>some (.slice none 1 0 0 true)
 |.map none=>some (.map none)
 |.nilFunc=>some .nilFunc
 | _=>none
def Iw:List Value→Option (List AV)
 | []=>some []
 | v::r=>match V7 v,Iw r with
  | some a,some l=>some (a::l)
  | _,_=>none
def apA(v:Value):Option AV :=
 match v with
 |.agg cs=>(Iw cs.toList).map .agg
 | v=>V7 v
def cX:Operand→Option AX
 |.tmp t=>some (.t t)
 |.const v=>(apA v).map .c
 |.func f=>some (.c (.func f []))
 |.global _=>none
def ug(P:Program)(t:TypeId):Option Nat:=(P.info? t).map (·.size)
def IE(P:Program)(t:TypeId):Option Bool :=
 match P.underlying t with
 | some (.struct _) | some (.array _ _)=>some true
 | some _=>some false
 | none=>none
def zeroOf(P:Program)(t:TypeId):Option (List AV) :=
 match (P.info? t).bind (·.zero)with
 | some z=>Iw z.cells.toList
 | none=>none
theorem ZK{v:Value}{a:AV}(h:V7 v=some a)(ι:jh):VR ι a v∧a.iI=true:=by
 unfold V7 at h
 split at h<;>first
  |(obtain rfl:=av h;simp[VR,AV.iI])
  | cases h
theorem su(ι:jh):∀ {vs:List Value} {l:List AV},Iw vs=some l→gT ι l vs∧∀a,a∈l→a.iI=true
 | [],l,h=>by
  simp only[Iw,aC]at h
  subst h
  simp[gT]
 | v::r,l,h=>by
  simp only[Iw]at h
  split at h
  ·rename_i a l' h1 h2
   obtain rfl:=av h
   have a1:=ZK h1 ι
   have a2:=su ι h2
   refine⟨by simp only[gT];exact⟨a1.1,a2.1⟩,λx hx=>?_⟩
   rcases List.mem_cons.1 hx with rfl | hx
   ·exact a1.2
   ·exact a2.2 x hx
  ·cases h
theorem apB{v:Value}{a:AV}(h:apA v=some a)(ι:jh):VR ι a v:=by
 unfold apA at h
 split at h
 ·rename_i cs
  obtain⟨l,hl,rfl⟩:=aH.1 h
  simp only[VR]
  exact⟨cs,rfl,(su ι hl).1⟩
 ·exact(ZK h ι).1
theorem iR{x:Operand}{ax:AX}(h:cX x=some ax){ι:jh}{e:Env}{a:Act}(he:gT ι e a.tmps.toList):VR ι (ax.ev e) (a.eval x):=by
 cases x with
 | tmp t =>
  simp only[cX,aC]at h
  subst h
  simp only[AX.ev,Act.eval]
  have:=he.getD t undef
  rw[Array.getD_eq_getD_getElem?]
  rw[List.getD_eq_getElem?_getD (l:=a.tmps.toList)]at this
  simpa using this
 | const v =>
  simp only[cX]at h
  obtain⟨b,hb,rfl⟩:=aH.1 h
  exact apB hb ι
 | func f =>
  simp only[cX,aC]at h
  subst h
  simp only[AX.ev,Act.eval,VR]
  exact⟨#[],rfl,by simp[gT]⟩
 | global g=>simp[cX]at h
theorem xL{P:Program}{t:TypeId}{n:Nat}(h:ug P t=some n)(w:World):(sizeOf t).run P w=.ok n w:=by
 unfold ug at h
 obtain⟨i,hi,rfl⟩:=aH.1 h
 simp[sizeOf,typeInfo,hi]
theorem SE{P:Program}{t:TypeId}{b:Bool}(h:IE P t=some b)(w:World):(isAgg t).run P w=.ok b w:=by
 unfold IE at h
 cases hd:P.underlying t with
 | none=>simp[hd]at h
 | some d =>
  rw[hd]at h
  cases d<;>(simp only[aC]at h;subst h;simp[isAgg,run_underlying hd])
theorem abU{P:Program}{t:TypeId}{l:List AV}(h:zeroOf P t=some l)(w:World):∃z,(zeroValue t).run P w=.ok z w∧(∀ι,gT ι l z.cells.toList)∧∀a,a∈l→a.iI=true:=by
 unfold zeroOf at h
 split at h
 case h_2=>cases h
 rename_i z hz
 obtain⟨i,hi,hz⟩:=aR.1 hz
 refine⟨z,by simp[zeroValue,typeInfo,hi,hz],λι=>(su ι h).1,(su (λ_=>none) h).2⟩
theorem ah5 {P:Program} {t:TypeId} {n off:Nat} {g:Bool} (hg:IE P t=some g) (hn:ug P t=some n) {ι:jh} {cs:List AV} {vs:Array Value} (h:gT ι cs vs.toList) {a:AV} (ha:GZ g off n cs=some a) (w:World) :
  ∃v,(part t vs off).run P w=.ok v w∧VR ι a v:=by
 unfold GZ at ha
 cases g with
 | true =>
  simp only[if_true,aC]at ha
  subst ha
  refine⟨.agg (vs.extract off (off+n)),by simp[part,SE hg,xL hn], ?_⟩
  simp only[VR]
  refine⟨_,rfl, ?_⟩
  rw[Array.toList_extract,List.extract_eq_take_drop,Nat.add_sub_cancel_left]
  exact(h.drop off).take n
 | false =>
  simp only[Bool.false_eq_true,if_false]at ha
  obtain⟨v,hv,hr⟩:=h.get off a ha
  refine⟨v, ?_,hr⟩
  rw[Array.getElem?_toList]at hv
  simp[part,SE hg,hv]
def tC(P:Program)(o:Oper)(p:pK):Prop :=
 ∀(ι:jh) (e:Env) (a:Act) (w:World) (v:AV),gT ι e a.tmps.toList→aP p e=some v→∃v',(execOp a.eval o).run P w=.ok (.value v') w∧VR ι v v'
theorem tC.move{P:Program}{o:Oper}{x:Operand}{ax:AX}(ho:o.op=.move x∨o.op=.assign x)(hx:cX x=some ax):tC P o (.move ax):=by
 intro ι e a w v he hv
 simp only[aP,aC]at hv
 subst hv
 refine⟨a.eval x, ?_,iR hx he⟩
 rcases ho with ho | ho<;>simp[execOp,ho]
theorem tC.pick{P:Program}{o:Oper}{x y z:Operand}{ax ay az:AX}(ho:o.op=.pick x y z)(hx:cX x=some ax)(hy:cX y=some ay)(hz:cX z=some az):tC P o (.pick ax ay az):=by
 intro ι e a w v he hv
 have h1:=iR hx he
 simp only[aP]at hv
 split at hv
 ·rename_i hc
  obtain rfl:=av hv
  rw[hc]at h1
  simp only[VR]at h1
  exact⟨a.eval y,by simp[execOp,ho,h1,asBool],iR hy he⟩
 ·rename_i hc
  obtain rfl:=av hv
  rw[hc]at h1
  simp only[VR]at h1
  exact⟨a.eval z,by simp[execOp,ho,h1,asBool],iR hz he⟩
 ·cases hv
theorem tC.nilCheck{P:Program}{o:Oper}{x:Operand}{ax:AX}(ho:o.op=.nilCheck x)(hx:cX x=some ax):tC P o (.nilCheck ax):=by
 intro ι e a w v he hv
 have h1:=iR hx he
 simp only[aP]at hv
 split at hv
 ·rename_i p hc
  obtain rfl:=av hv
  rw[hc]at h1
  refine⟨a.eval x, ?_,h1⟩
  simp only[VR]at h1
  obtain⟨l,_,h2⟩:=h1
  simp[execOp,ho,h2]
 ·rename_i f cs hc
  obtain rfl:=av hv
  rw[hc]at h1
  refine⟨a.eval x, ?_,h1⟩
  simp only[VR]at h1
  obtain⟨l,h2,_⟩:=h1
  simp[execOp,ho,h2]
 ·cases hv
theorem anU {P:Program} {op:BinOp} {k:IntKind} {x y:Int} {v:AV} (h:Mg op k x y=some v) (t:TypeId) (w:World) (ι:jh) :
  ∃v',(binOp op t (.int k x) (.int k y)).run P w=.ok v' w∧VR ι v v':=by
 cases op<;>simp only[Mg]at h
 case quo =>
  split at h
  ·cases h
  rename_i hy
  obtain rfl:=av h
  exact⟨_,by simp only[binOp_quo,Op.intDiv,if_neg hy];rfl,by simp[VR]⟩
 case rem =>
  split at h
  ·cases h
  rename_i hy
  obtain rfl:=av h
  exact⟨_,by simp only[binOp_rem,Op.intDiv,if_neg hy];rfl,by simp[VR]⟩
 case shl=>cases h
 case shr=>cases h
 all_goals
  obtain rfl:=av h
  exact⟨_,by simp[binOp,Op.intArith,Op.intBits,Op.intCmp];try rfl,by simp[VR]⟩
theorem anV {P:Program} {op:BinOp} {x y:ByteArray} {v:AV} (h:ah2 op x.data.toList y.data.toList=some v) (t:TypeId) (w:World) (ι:jh) :
  ∃v',(binOp op t (.string x) (.string y)).run P w=.ok v' w∧VR ι v v':=by
 cases op<;>simp only[ah2]at h
 case add =>
  split at h
  case isFalse=>cases h
  rename_i hl
  obtain rfl:=av h
  refine⟨.string (x++y), ?_, ?_⟩
  ·have h1:¬(((x.size+y.size:Nat):Int)>IntKind.i64.max):=by
    have e1:x.data.toList.length=x.size:=by simp
    have e2:y.data.toList.length=y.size:=by simp
    rw[e1,e2]at hl
    simp only[IntKind.max_i64]
    omega
   rw[binOp_string_add]
   simp only[Op.stringOp,if_neg h1]
   rfl
  ·simp only[VR]
   exact⟨_,rfl,by simp⟩
 all_goals
  first
   |(cases h;done)
   | (obtain rfl:=av h
      exact⟨_,by simp[binOp,Op.stringOp,ByteArray.toList_eq];try rfl,by simp[VR]⟩)
theorem TY(op:BinOp)(t:TypeId)(x y:Operand)(a b:Value)(h:¬(∃c d,a=.agg c∧b=.agg d)∧a≠.nilIface):eqGuard op t x y a b=pure ():=by
 unfold eqGuard
 cases op<;>simp<;>(split<;>simp_all)
theorem tC.bin{P:Program}{o:Oper}{op:BinOp}{t u:TypeId}{x y:Operand}{ax ay:AX}(ho:o.op=.binOp op t x y u)(hx:cX x=some ax)(hy:cX y=some ay):tC P o (.bin op ax ay):=by
 intro ι e a w v he hv
 have h1:=iR hx he
 have h2:=iR hy he
 simp only[aP]at hv
 unfold Yh at hv
 split at hv
 ·rename_i k n k' m hc1 hc2
  rw[hc1]at h1
  rw[hc2]at h2
  simp only[VR]at h1 h2
  have hg:=TY op t x y (.int k n) (.int k' m) (by simp)
  have key:∃v',(binOp op t (.int k n) (.int k' m)).run P w=.ok v' w∧VR ι v v':=by
   cases op
   case shl =>
    simp only at hv
    split at hv
    ·cases hv
    rename_i hb
    obtain rfl:=av hv
    exact⟨.int k (k.wrap (n*2 ^ min m.toNat k.bits)),by rw[binOp_shl];simp[Op.shift,hb],by simp[VR]⟩
   case shr =>
    simp only at hv
    split at hv
    ·cases hv
    rename_i hb
    obtain rfl:=av hv
    exact⟨.int k (n.fdiv (2 ^ min m.toNat k.bits)),by rw[binOp_shr];simp[Op.shift,hb],by simp[VR]⟩
   all_goals
    simp only at hv
    split at hv
    case isFalse=>cases hv
    rename_i hk
    subst hk
    exact anU hv t w ι
  obtain⟨v',hr,hrel⟩:=key
  exact⟨v',by simp only[execOp,ho,h1,h2,hg];simp[hr],hrel⟩
 ·rename_i s s' hc1 hc2
  rw[hc1]at h1
  rw[hc2]at h2
  simp only[VR]at h1 h2
  obtain⟨b1,h1,rfl⟩:=h1
  obtain⟨b2,h2,rfl⟩:=h2
  have hg:=TY op t x y (.string b1) (.string b2) (by simp)
  obtain⟨v',hr,hrel⟩:=anV (P:=P) hv t w ι
  exact⟨v',by simp only[execOp,ho,h1,h2,hg];simp[hr],hrel⟩
 ·cases hv
theorem tC.un{P:Program}{o:Oper}{op:UnOp}{t:TypeId}{x:Operand}{ax:AX}(ho:o.op=.unOp op t x)(hx:cX x=some ax):tC P o (.un op ax):=by
 intro ι e a w v he hv
 have h1:=iR hx he
 simp only[aP]at hv
 unfold aUn at hv
 split at hv
 all_goals first
  |(cases hv;done)
  | (rename_i hc
     obtain rfl:=av hv
     rw[hc]at h1
     simp only[VR]at h1
     exact⟨_,by simp only[execOp,ho,h1];simp[Op.unary,Op.intArith,Op.intBits];try rfl,by simp[VR]⟩)
theorem tC.OQ{P:Program}{o:Oper}{s d:TypeId}{k:IntKind}{x:Operand}{ax:AX}(ho:o.op=.convert s d x)(hs:(P.underlying s).isSome=true)(hd:P.underlying d=some (.int k))(hx:cX x=some ax):tC P o (.OQ k ax):=by
 intro ι e a w v he hv
 have h1:=iR hx he
 obtain⟨ds,hds⟩:=Option.isSome_iff_exists.1 hs
 simp only[aP]at hv
 split at hv
 case h_2=>cases hv
 rename_i k' n hc
 obtain rfl:=av hv
 rw[hc]at h1
 simp only[VR]at h1
 refine⟨.int k (k.wrap n), ?_,by simp[VR]⟩
 simp only[execOp,ho,h1]
 simp[convert,run_underlying hds,run_underlying hd,Conv.intToInt]
theorem tC.Ql{P:Program}{o:Oper}{s d:TypeId}{x:Operand}{ax:AX}(ho:o.op=.convert s d x)(hs:P.underlying s=some .string)(hd:P.underlying d=some .string)(hx:cX x=some ax):tC P o (.Ql ax):=by
 intro ι e a w v he hv
 have h1:=iR hx he
 simp only[aP]at hv
 split at hv
 case h_2=>cases hv
 rename_i k' hc
 obtain rfl:=av hv
 rw[hc]at h1
 refine⟨a.eval x, ?_,h1⟩
 simp only[VR]at h1
 obtain⟨b,h1,_⟩:=h1
 simp only[execOp,ho,h1]
 simp[convert,run_underlying hs,run_underlying hd]
def cXs:List Operand→Option (List AX)
 | []=>some []
 | x::r=>match cX x,cXs r with
  | some a,some l=>some (a::l)
  | _,_=>none
theorem agE{ι:jh}{e:Env}{a:Act}(he:gT ι e a.tmps.toList):∀ {l:List Operand} {al:List AX},cXs l=some al→gT ι (al.map (AX.ev e)) (l.map a.eval)
 | [],al,h=>by
  simp only[cXs,aC]at h
  subst h
  simp[gT]
 | x::r,al,h=>by
  simp only[cXs]at h
  split at h
  case h_2=>cases h
  rename_i b l h1 h2
  obtain rfl:=av h
  simp only[List.map_cons,gT]
  exact⟨iR h1 he,agE he h2⟩
theorem tC.Gs{P:Program}{o:Oper}{f:FuncId}{caps:Array Operand}{al:List AX}(ho:o.op=.makeFunc (.func f) #[] caps)(hx:cXs caps.toList=some al):tC P o (.Gs f al):=by
 intro ι e a w v he hv
 simp only[aP,aC]at hv
 subst hv
 refine⟨.func (.func f) #[] (caps.map a.eval),by simp[execOp,ho,Instr.makeFunc], ?_⟩
 simp only[VR]
 exact⟨_,rfl,by simpa using agE he hx⟩
def cXo:Option Operand→Option (Option AX)
 | none=>some none
 | some x=>(cX x).map some
theorem afc {P:Program} {ι:jh} {v:AV} {v':Value} {m n:Nat} (h:tu v m=some n) (r:VR ι v v') (m':Nat) (hm:m≤m') (code:BoundsCode) (w:World) :
  (Instr.sliceBound v' m' code).run P w=.ok n w∧n≤m:=by
 unfold tu at h
 split at h
 case h_2=>cases h
 split at h
 case isFalse=>cases h
 rename_i k i hi
 obtain rfl:=av h
 simp only[VR]at r
 subst r
 exact⟨run_sliceBound (P:=P) w k i m' code hi.1 (by omega),by omega⟩
def Yk(mx:Option AX)(cap m:Nat):Nat :=
 match mx with
 | none=>cap
 | some _=>m
def ay5(e:Env)(mx:Option AX)(cap cap' m:Nat):Prop :=
 match mx with
 | none=>m=cap'
 | some x=>tu (x.ev e) cap=some m
theorem Qo {P:Program} {ι:jh} {e:Env} {a:Act} (he:gT ι e a.tmps.toList) {lo hi mx:Option Operand} {alo ahi amx:Option AX} (hlo:cXo lo=some alo) (hhi:cXo hi=some ahi) (hmx:cXo mx=some amx) (isSlice:Bool) {len cap cap':Nat} (hcap:cap≤cap') (hlc:len≤cap)
  {l h:Nat} {m:Nat} (w:World) (hm:ay5 e amx cap cap' m)
  (hh:dX e ahi len (Yk amx cap m)=some h) (hn:ahi=none→amx=none) (hl:dX e alo 0 h=some l) :
  (Instr.sliceBounds isSlice len cap' (lo.map a.eval) (hi.map a.eval) (mx.map a.eval)).run P w=.ok (l,h,m) w∧l≤h∧h≤Yk amx cap m∧(amx≠none→m≤cap):=by
 have B:∀(x:Operand) (ax:AX),cX x=some ax→∀m n m',tu (ax.ev e) m=some n→m≤m'→(∀code w,(Instr.sliceBound (a.eval x) m' code).run P w=.ok n w)∧n≤m :=
  λx ax hx m n m' hb hm=>⟨λcode w=>(afc (P:=P) hb (iR hx he) m' hm code w).1,(afc (P:=P) hb (iR hx he) m' hm .index w).2⟩
 have ay6:(lo=none∧alo=none)∨∃x ax,lo=some x∧alo=some ax∧cX x=some ax:=by
  cases lo with
  | none=>simp only[cXo,aC]at hlo;exact .inl ⟨rfl,hlo.symm⟩
  | some x=>simp only[cXo]at hlo;obtain⟨ax,h1,h2⟩:=aH.1 hlo;exact .inr ⟨x,ax,rfl,h2.symm,h1⟩
 have aAp:(hi=none∧ahi=none)∨∃x ax,hi=some x∧ahi=some ax∧cX x=some ax:=by
  cases hi with
  | none=>simp only[cXo,aC]at hhi;exact .inl ⟨rfl,hhi.symm⟩
  | some x=>simp only[cXo]at hhi;obtain⟨ax,h1,h2⟩:=aH.1 hhi;exact .inr ⟨x,ax,rfl,h2.symm,h1⟩
 have aBR:(mx=none∧amx=none)∨∃x ax,mx=some x∧amx=some ax∧cX x=some ax:=by
  cases mx with
  | none=>simp only[cXo,aC]at hmx;exact .inl ⟨rfl,hmx.symm⟩
  | some x=>simp only[cXo]at hmx;obtain⟨ax,h1,h2⟩:=aH.1 hmx;exact .inr ⟨x,ax,rfl,h2.symm,h1⟩
 clear hlo hhi hmx
 rcases aBR with⟨rfl,rfl⟩ |⟨x,ax,rfl,rfl,hx⟩
 ·simp only[ay5]at hm
  subst hm
  simp only[Yk]at hh ⊢
  rcases aAp with⟨rfl,rfl⟩ |⟨y,ay,rfl,rfl,hy⟩
  ·simp only[dX,aC]at hh
   subst hh
   rcases ay6 with⟨rfl,rfl⟩ |⟨z,az,rfl,rfl,hz⟩
   ·simp only[dX,aC]at hl
    subst hl
    exact⟨by simp[Instr.sliceBounds],Nat.zero_le _,hlc,by simp⟩
   ·simp only[dX]at hl
    obtain⟨k1,k2⟩:=B z az hz _ _ _ hl (Nat.le_refl _)
    exact⟨by simp[Instr.sliceBounds,k1],k2,hlc,by simp⟩
  ·simp only[dX]at hh
   obtain⟨j1,j2⟩:=B y ay hy _ _ _ hh hcap
   rcases ay6 with⟨rfl,rfl⟩ |⟨z,az,rfl,rfl,hz⟩
   ·simp only[dX,aC]at hl
    subst hl
    exact⟨by simp[Instr.sliceBounds,j1],Nat.zero_le _,j2,by simp⟩
   ·simp only[dX]at hl
    obtain⟨k1,k2⟩:=B z az hz _ _ _ hl (Nat.le_refl _)
    exact⟨by simp[Instr.sliceBounds,j1,k1],k2,j2,by simp⟩
 ·simp only[ay5]at hm
  simp only[Yk]at hh ⊢
  obtain⟨i1,i2⟩:=B x ax hx _ _ _ hm hcap
  rcases aAp with⟨rfl,rfl⟩ |⟨y,ay,rfl,rfl,hy⟩
  ·cases hn rfl
  ·simp only[dX]at hh
   obtain⟨j1,j2⟩:=B y ay hy _ _ _ hh (Nat.le_refl _)
   rcases ay6 with⟨rfl,rfl⟩ |⟨z,az,rfl,rfl,hz⟩
   ·simp only[dX,aC]at hl
    subst hl
    exact⟨by simp[Instr.sliceBounds,i1,j1],Nat.zero_le _,j2,λ_=>i2⟩
   ·simp only[dX]at hl
    obtain⟨k1,k2⟩:=B z az hz _ _ _ hl (Nat.le_refl _)
    exact⟨by simp[Instr.sliceBounds,i1,j1,k1],k2,j2,λ_=>i2⟩
theorem tC.sj {P:Program} {o:Oper} {t:TypeId} {x:Operand} {lo hi:Option Operand} {ax:AX} {alo ahi:Option AX} (ho:o.op=.slice t x lo hi none) (ht:P.underlying t=some .string) (hx:cX x=some ax)
  (hlo:cXo lo=some alo) (hhi:cXo hi=some ahi):tC P o (.sj ax alo ahi):=by
 intro ι e a w v he hv
 have h1:=iR hx he
 simp only[aP]at hv
 split at hv
 case h_2=>cases hv
 rename_i s hc
 rw[hc]at h1
 simp only[VR]at h1
 obtain⟨b,h1,rfl⟩:=h1
 unfold Iu at hv
 obtain⟨h,hh,hv⟩:=aR.1 hv
 obtain⟨l,hl,hv⟩:=aR.1 hv
 obtain rfl:=av hv
 have hsz:b.data.toList.length=b.size:=by simp
 rw[hsz]at hh
 have key:=Qo (P:=P) he (mx:=none) (amx:=none) hlo hhi rfl false (Nat.le_refl b.size) (Nat.le_refl b.size) (l:=l) (h:=h) (m:=b.size) w rfl hh (λ_=>rfl) hl
 refine⟨.string (b.extract l h), ?_, ?_⟩
 ·simp only[execOp,ho,h1]
  simp only[Option.map_none]at key ⊢
  simp[Instr.sliceAt,run_underlying ht,Instr.slice,key.1]
 ·simp only[VR]
  refine⟨_,rfl, ?_⟩
  obtain⟨⟨bl⟩⟩:=b
  rw[ByteArray.extract_mk]
theorem tC.slice {P:Program} {o:Oper} {t elem:TypeId} {n:Nat} {x:Operand} {lo hi mx:Option Operand} {ax:AX} {alo ahi amx:Option AX} (ho:o.op=.slice t x lo hi mx) (ht:P.underlying t=some (.slice elem)) (hn:ug P elem=some n) (hx:cX x=some ax)
  (hlo:cXo lo=some alo) (hhi:cXo hi=some ahi) (hmx:cXo mx=some amx):tC P o (.slice n ax alo ahi amx):=by
 intro ι e a w v he hv
 have h1:=iR hx he
 simp only[aP]at hv
 split at hv
 case h_2=>cases hv
 rename_i p sz' len cap ex hc
 rw[hc]at h1
 have shape:∃base cap',a.eval x=.slice base len cap'∧len≤cap∧cap≤cap'∧(ex=true→cap'=cap) ∧
   (∀l h m ex',l≤h→h≤m→m≤cap→(p=none∨sz'=n)→∀m',(ex'=true→m'=m)→m≤m'→m'≤cap'→VR ι (.slice (oJ p (l*n)) n (h-l) (m-l) (if p.isNone then true else ex')) (.slice (if m'=l then base else base.map (·.add (l*n))) (h-l) (m'-l))) ∧
   (p=none→ex=true∧cap=0):=by
  cases p with
  | none =>
   simp only[VR]at h1
   obtain⟨h1,rfl,rfl,rfl⟩:=h1
   refine⟨none,0,h1,Nat.le_refl _,Nat.le_refl _,λ_=>rfl,λl h m ex' a1 a2 a3 _ m' _ _ a5=>?_,λ_=>⟨rfl,rfl⟩⟩
   obtain rfl:m=0:=by omega
   obtain rfl:h=0:=by omega
   obtain rfl:l=0:=by omega
   obtain rfl:m'=0:=by omega
   simp[oJ,VR]
  | some q =>
   obtain⟨b,off⟩:=q
   simp only[VR]at h1
   obtain⟨L,ad,cap',e1,e2,e3,e4,e5,e6,e7,e8,e9,e10⟩:=h1
   refine⟨some ad,cap',e2,e6,e7,e8,λl h m ex' a1 a2 a3 a4 m' a5 a6 a7=>?_,λh=>by cases h⟩
   obtain rfl:sz'=n:=a4.resolve_left (by simp)
   simp only[oJ,bH,Option.isNone_some,Bool.false_eq_true,if_false,VR]
   have hsp:∃ad',(if m'=l then some ad else some (ad.add (l*sz')))=some ad'∧(m'-l=0∨ad'.block=L.j)∧(m'-l=0∨ad'.spot=none)∧(m'-l=0∨ad'.off=L.d+(off+l*sz')):=by
    by_cases hm:m'=l
    ·exact⟨ad,by rw[if_pos hm],.inl (by omega),.inl (by omega),.inl (by omega)⟩
    ·rw[if_neg hm]
     replace e3:=e3.resolve_left (by omega)
     replace e4:=e4.resolve_left (by omega)
     refine⟨_,rfl,.inr ?_,.inr ?_,.inr ?_⟩
     ·unfold Addr.add;split<;>simp[e3]
     ·unfold Addr.add;split<;>simp[e4]
     ·have hoff:=e5.resolve_left (by omega)
      unfold Addr.add
      split
      ·rename_i h0;rw[hoff,h0];omega
      ·simp only;rw[hoff];omega
   obtain⟨ad',f1,f2,f3,f4⟩:=hsp
   refine⟨L,ad',m'-l,e1,by rw[f1],f2,f3,f4,by omega,by omega,λhx=>by rw[a5 hx], ?_,e10⟩
   have:l*sz'+(m'-l)*sz'=m'*sz':=by rw[←Nat.add_mul];congr 1;omega
   have:m'*sz'≤cap'*sz':=Nat.mul_le_mul_right _ a7
   omega
 obtain⟨base,cap',hev,hlc,hcc,hex,hres,hnil⟩:=shape
 unfold lH at hv
 split at hv
 case isFalse=>cases hv
 rename_i hsz
 cases amx with
 | none =>
  simp only at hv
  obtain⟨h,hh,hv⟩:=aR.1 hv
  obtain⟨l,hl,hv⟩:=aR.1 hv
  obtain rfl:=av hv
  have key:=Qo (P:=P) he hlo hhi hmx true hcc hlc (l:=l) (h:=h) (m:=cap') w rfl hh (λ_=>rfl) hl
  refine⟨.slice (if cap'=l then base else base.map (·.add (l*n))) (h-l) (cap'-l), ?_, ?_⟩
  ·simp only[execOp,ho,hev]
   simp[Instr.sliceAt,run_underlying ht,Instr.slice,key.1,xL hn]
  ·have:=hres l h cap ex key.2.1 (by simpa[Yk]using key.2.2.1) (Nat.le_refl _) hsz cap' hex hcc (Nat.le_refl _)
   cases hp:p with
   | none =>
    obtain⟨rfl,rfl⟩:=hnil hp
    simpa[hp]using this
   | some q=>simpa[hp]using this
 | some am =>
  simp only at hv
  obtain⟨m,hm,hv⟩:=aR.1 hv
  cases ahi with
  | none=>cases hv
  | some ah =>
   simp only at hv
   obtain⟨h,hh,hv⟩:=aR.1 hv
   obtain⟨l,hl,hv⟩:=aR.1 hv
   obtain rfl:=av hv
   have key:=Qo (P:=P) he hlo hhi hmx true hcc hlc (l:=l) (h:=h) (m:=m) w hm hh (λh=>by cases h) hl
   refine⟨.slice (if m=l then base else base.map (·.add (l*n))) (h-l) (m-l), ?_, ?_⟩
   ·simp only[execOp,ho,hev]
    simp[Instr.sliceAt,run_underlying ht,Instr.slice,key.1,xL hn]
   ·have:=hres l h m true key.2.1 (by simpa[Yk]using key.2.2.1) (key.2.2.2 (by simp)) hsz m (λ_=>rfl) (Nat.le_refl _) (Nat.le_trans (key.2.2.2 (by simp)) hcc)
    cases hp:p with
    | none=>simpa[hp]using this
    | some q=>simpa[hp]using this
theorem tC.fieldAddr{P:Program}{o:Oper}{t:TypeId}{fs:Array Field}{f:Nat}{fd:Field}{n:Nat}{x:Operand}{ax:AX}(ho:o.op=.fieldAddr t x f)(ht:P.underlying t=some (.struct fs))(hf:fs[f]?=some fd)(hn:ug P fd.type=some (n+1))(hx:cX x=some ax):tC P o (.fieldAddr fd.offset ax):=by
 intro ι e a w v he hv
 have h1:=iR hx he
 simp only[aP]at hv
 split at hv
 case h_2=>cases hv
 rename_i p hc
 obtain rfl:=av hv
 rw[hc]at h1
 obtain⟨b,off⟩:=p
 simp only[VR]at h1
 obtain⟨L,hL,h1⟩:=h1
 refine⟨.pointer (some ⟨L.j,L.d+off+fd.offset,none⟩), ?_, ?_⟩
 ·simp only[execOp,ho,h1]
  simp[Instr.fieldAt,run_underlying ht,hf,Instr.sureAddr,fieldPlace,xL hn,uf]
 ·simp only[VR]
  exact⟨L,hL,by rw[Nat.add_assoc]⟩
theorem tC.field{P:Program}{o:Oper}{t:TypeId}{fs:Array Field}{f:Nat}{fd:Field}{n:Nat}{g:Bool}{x:Operand}{ax:AX}(ho:o.op=.field t x f)(ht:P.underlying t=some (.struct fs))(hf:fs[f]?=some fd)(hg:IE P fd.type=some g)(hn:ug P fd.type=some n)(hx:cX x=some ax):tC P o (.field g fd.offset n ax):=by
 intro ι e a w v he hv
 have h1:=iR hx he
 simp only[aP]at hv
 split at hv
 case h_2=>cases hv
 rename_i cs hc
 rw[hc]at h1
 simp only[VR]at h1
 obtain⟨vs,h1,h2⟩:=h1
 obtain⟨v',hr,hv'⟩:=ah5 (P:=P) hg hn h2 hv w
 exact⟨v',by simp only[execOp,ho,h1];simp[Instr.field,run_underlying ht,hf,asAgg,hr],hv'⟩
theorem tC.zU{P:Program}{o:Oper}{t elem:TypeId}{m n:Nat}{x i:Operand}{ax ai:AX}(ho:o.op=.indexAddr t x i)(ht:P.underlying t=some (.array m elem))(hn:ug P elem=some n)(hx:cX x=some ax)(hi:cX i=some ai):tC P o (.zU m n ax ai):=by
 intro ι e a w v he hv
 have h1:=iR hx he
 have h2:=iR hi he
 simp only[aP]at hv
 split at hv
 case h_2=>cases hv
 rename_i p k j hc1 hc2
 rw[hc1]at h1
 rw[hc2]at h2
 obtain⟨b,off⟩:=p
 split at hv
 case isFalse=>cases hv
 rename_i hj
 obtain rfl:=av hv
 simp only[VR]at h1 h2
 obtain⟨L,hL,h1⟩:=h1
 refine⟨.pointer (some ⟨L.j,L.d+off+j.toNat*n,none⟩), ?_, ?_⟩
 ·simp only[execOp,ho,h1,h2]
  simp[Instr.indexAt,asIntOf,run_underlying ht,Instr.sureAddr,hj.1,hj.2,xL hn,uf]
 ·simp only[VR]
  exact⟨L,hL,by rw[Nat.add_assoc]⟩
theorem tC.kU{P:Program}{o:Oper}{t elem:TypeId}{n:Nat}{x i:Operand}{ax ai:AX}(ho:o.op=.indexAddr t x i)(ht:P.underlying t=some (.slice elem))(hn:ug P elem=some n)(hx:cX x=some ax)(hi:cX i=some ai):tC P o (.kU n ax ai):=by
 intro ι e a w v he hv
 have h1:=iR hx he
 have h2:=iR hi he
 simp only[aP]at hv
 split at hv
 case h_2=>cases hv
 rename_i p sz' len cap ex k j hc1 hc2
 rw[hc1]at h1
 rw[hc2]at h2
 obtain⟨b,off⟩:=p
 split at hv
 case isFalse=>cases hv
 rename_i hj
 obtain rfl:=av hv
 obtain⟨hj0,hj1,rfl⟩:=hj
 simp only[VR]at h1 h2
 obtain⟨L,ad,cap',e1,e2,e3,e4,e5,e6,e7,e8,e9,e10⟩:=h1
 have hoff:=e5.resolve_left (by omega)
 replace e3:=e3.resolve_left (by omega)
 replace e4:=e4.resolve_left (by omega)
 obtain⟨ab,ao,asp⟩:=ad
 simp only at e3 e4 hoff
 subst e3 e4 hoff
 refine⟨.pointer (some ⟨L.j,L.d+off+j.toNat*sz',none⟩), ?_, ?_⟩
 ·simp only[execOp,ho,e2,h2]
  simp[Instr.indexAt,asIntOf,run_underlying ht,hj0,hj1,xL hn,uf]
 ·simp only[VR]
  exact⟨L,e1,by rw[Nat.add_assoc]⟩
theorem tC.index{P:Program}{o:Oper}{t elem:TypeId}{m n:Nat}{g:Bool}{x i:Operand}{ax ai:AX}(ho:o.op=.index t x i)(ht:P.underlying t=some (.array m elem))(hg:IE P elem=some g)(hn:ug P elem=some n)(hx:cX x=some ax)(hi:cX i=some ai):tC P o (.index g m n ax ai):=by
 intro ι e a w v he hv
 have h1:=iR hx he
 have h2:=iR hi he
 simp only[aP]at hv
 split at hv
 case h_2=>cases hv
 rename_i cs k j hc1 hc2
 rw[hc1]at h1
 rw[hc2]at h2
 split at hv
 case isFalse=>cases hv
 rename_i hj
 simp only[VR]at h1 h2
 obtain⟨vs,h1,h3⟩:=h1
 obtain⟨v',hr,hv'⟩:=ah5 (P:=P) hg hn h3 hv w
 exact⟨v',by simp only[execOp,ho,h1,h2];simp[Instr.index,asIntOf,run_underlying ht,hj.1,hj.2,xL hn,hr],hv'⟩
theorem tC.xK{P:Program}{o:Oper}{t:TypeId}{x i:Operand}{ax ai:AX}(ho:o.op=.index t x i)(ht:P.underlying t=some .string)(hx:cX x=some ax)(hi:cX i=some ai):tC P o (.xK ax ai):=by
 intro ι e a w v he hv
 have h1:=iR hx he
 have h2:=iR hi he
 simp only[aP]at hv
 split at hv
 case h_2=>cases hv
 rename_i s k j hc1 hc2
 rw[hc1]at h1
 rw[hc2]at h2
 split at hv
 case isFalse=>cases hv
 rename_i hj
 simp only[VR]at h1 h2
 obtain⟨b,h1,rfl⟩:=h1
 obtain⟨c,hcc,rfl⟩:=aH.1 hv
 have hlt:j.toNat<b.size:=by
  have:=(aY.1 hcc).1
  simpa using this
 have hget:b[j.toNat]?=some c:=by
  rw[ByteArray.getElem?_lt' b _ hlt]
  have:=(aY.1 hcc).2
  rw[←this]
  rfl
 refine⟨.int .u8 c.toNat, ?_,by simp[VR]⟩
 simp only[execOp,ho,h1,h2]
 simp[Instr.index,asIntOf,run_underlying ht,hj,hget]
theorem tC.extract{P:Program}{o:Oper}{x:Operand}{i:Nat}{ax:AX}(ho:o.op=.extract x i)(hx:cX x=some ax):tC P o (.extract ax i):=by
 intro ι e a w v he hv
 have h1:=iR hx he
 simp only[aP]at hv
 split at hv
 case h_2=>cases hv
 rename_i cs hc
 rw[hc]at h1
 simp only[VR]at h1
 obtain⟨vs,h1,h2⟩:=h1
 obtain⟨v',hr,hv'⟩:=h2.get i v hv
 rw[Array.getElem?_toList]at hr
 exact⟨v',by simp only[execOp,ho,h1];simp[Instr.extract,hr],hv'⟩
theorem tC.lenStr {P:Program} {o:Oper} {t:TypeId} {x:Operand} {ax:AX} (ho:o.op=.call { callee:=.builtin .len,args:=#[x],argTypes:=#[t] })
  (ht:P.underlying t=some .string) (hx:cX x=some ax):tC P o (.len true ax):=by
 intro ι e a w v he hv
 have h1:=iR hx he
 simp only[aP]at hv
 split at hv
 case h_3=>cases hv
 case h_2=>contradiction
 rename_i s _ hc
 obtain rfl:=av hv
 rw[hc]at h1
 simp only[VR]at h1
 obtain⟨b,h1,rfl⟩:=h1
 refine⟨.int .i64 b.size, ?_,by simp[VR]⟩
 simp[execOp,ho,resolve,invoke,builtin,Builtin.len_,h1,run_underlying ht,goInt]
theorem slice_form{ι:jh}{p:Option (Nat×Nat)}{sz len cap:Nat}{ex:Bool}{v:Value}(h:VR ι (.slice p sz len cap ex) v):∃ad c,v=.slice ad len c∧cap≤c∧len≤cap∧(ex=true→c=cap)∧(ad=none↔p=none):=by
 cases p with
 | none=>simp only[VR]at h;obtain⟨h,rfl,rfl,rfl⟩:=h;exact⟨_,_,h,Nat.le_refl _,Nat.le_refl _,λ_=>rfl,by simp⟩
 | some q =>
  obtain⟨b,off⟩:=q
  simp only[VR]at h
  obtain⟨L,ad,c,_,h1,_,_,_,h2,h3,h4,_⟩:=h
  exact⟨_,_,h1,h3,h2,h4,by simp⟩
theorem tC.apC {P:Program} {o:Oper} {t elem:TypeId} {x:Operand} {ax:AX} (ho:o.op=.call { callee:=.builtin .len,args:=#[x],argTypes:=#[t] })
  (ht:P.underlying t=some (.slice elem)) (hx:cX x=some ax):tC P o (.len false ax):=by
 intro ι e a w v he hv
 have h1:=iR hx he
 simp only[aP]at hv
 split at hv
 case h_3=>cases hv
 case h_1=>contradiction
 rename_i p sz len cap ex _ hc
 obtain rfl:=av hv
 rw[hc]at h1
 obtain⟨ad,c,h1,_⟩:=slice_form h1
 refine⟨.int .i64 len, ?_,by simp[VR]⟩
 simp[execOp,ho,resolve,invoke,builtin,Builtin.len_,h1,run_underlying ht,goInt]
theorem tC.ay7 {P:Program} {o:Oper} {t elem:TypeId} {n:Nat} {x:Operand} (ho:o.op=.call { callee:=.builtin .len,args:=#[x],argTypes:=#[t] })
  (ht:P.underlying t=some (.array n elem)):tC P o (.move (.c (.int .i64 n))):=by
 intro ι e a w v he hv
 simp only[aP,AX.ev,aC]at hv
 subst hv
 refine⟨.int .i64 n, ?_,by simp[VR]⟩
 simp[execOp,ho,resolve,invoke,builtin,Builtin.len_,run_underlying ht,goInt]
theorem tC.cap {P:Program} {o:Oper} {t elem:TypeId} {x:Operand} {ax:AX} (ho:o.op=.call { callee:=.builtin .cap,args:=#[x],argTypes:=#[t] })
  (ht:P.underlying t=some (.slice elem)) (hx:cX x=some ax):tC P o (.cap ax):=by
 intro ι e a w v he hv
 have h1:=iR hx he
 simp only[aP]at hv
 split at hv
 case h_2=>cases hv
 rename_i p sz len cap hc
 obtain rfl:=av hv
 rw[hc]at h1
 obtain⟨ad,c,h1,_,_,h2,_⟩:=slice_form h1
 refine⟨.int .i64 c, ?_,by simp[VR,h2 rfl]⟩
 simp[execOp,ho,resolve,invoke,builtin,Builtin.cap_,h1,run_underlying ht,goInt]
theorem apD{P:Program}{ι:jh}(isMax:Bool):∀(l:List AV) (r:List Value) (a:AV) (v:Value) (b:AV),gT ι l r→VR ι a v→V6 isMax a l=some b→∀w,∃v',((r.foldlM (if isMax then Builtin.max2 else Builtin.min2) v)).run P w=.ok v' w∧VR ι b v':=by
 intro l
 induction l with
 | nil =>
  intro r a v b hl ha hb w
  cases r with
  | nil=>simp only[V6,aC]at hb;subst hb;exact⟨v,by simp,ha⟩
  | cons _ _=>simp[gT]at hl
 | cons x l ih =>
  intro r a v b hl ha hb w
  cases r with
  | nil=>simp[gT]at hl
  | cons y r =>
   simp only[gT]at hl
   simp only[V6]at hb
   obtain⟨z,hz,hb⟩:=aR.1 hb
   unfold abx at hz
   split at hz
   case h_2=>cases hz
   rename_i k m k' m'
   split at hz
   case isFalse=>cases hz
   rename_i hk
   subst hk
   obtain rfl:=av hz
   simp only[VR]at ha
   have hy:=hl.1
   simp only[VR]at hy
   subst ha hy
   have hstep:∀w,((if isMax then Builtin.max2 else Builtin.min2) (.int k m) (.int k m')).run P w=.ok (.int k (if isMax then (if m'>m then m' else m)else (if m'<m then m' else m))) w:=by
    intro w
    cases isMax<;>simp[Builtin.max2,Builtin.min2]
   obtain⟨v',hr,hv'⟩:=ih r _ (.int k (if isMax then (if m'>m then m' else m)else (if m'<m then m' else m))) b hl.2 (by simp[VR]) hb w
   exact⟨v',by rw[List.foldlM_cons,Sem.run_bind,hstep,Result.andThen_ok,hr],hv'⟩
theorem tC.Cv{P:Program}{o:Oper}{isMax:Bool}{xs:Array Operand}{ts:Array TypeId}{al:List AX}(ho:o.op=.call { callee:=.builtin (if isMax then .max else .min),args:=xs,argTypes:=ts })(hx:cXs xs.toList=some al):tC P o (.Cv isMax al):=by
 intro ι e a w v he hv
 have h1:=agE he hx
 simp only[aP]at hv
 split at hv
 case h_2=>cases hv
 rename_i x r hc
 rw[hc]at h1
 cases hxs:xs.toList with
 | nil=>simp[hxs,gT]at h1
 | cons y ys =>
  rw[hxs]at h1
  simp only[List.map_cons,gT]at h1
  obtain⟨v',hr,hv'⟩:=apD (P:=P) isMax r _ x _ v h1.2 h1.1 hv w
  refine⟨v', ?_,hv'⟩
  cases isMax
  ·simp only[Bool.false_eq_true,if_false]at hr ho
   simp only[execOp,ho]
   simp[resolve,invoke,builtin,Builtin.min_,hxs,hr]
  ·simp only[if_true]at hr ho
   simp only[execOp,ho]
   simp[resolve,invoke,builtin,Builtin.max_,hxs,hr]
def IG(f:TypeId→Option (List Kd)):List Field→Nat→Option (List Kd)
 | [],_=>some []
 | fd::r,n=>match f fd.type with
  | some k=>if fd.name≠"_"∧fd.offset=n then (IG f r (n+k.length)).map (k++·)else none
  | none=>none
def sized(P:Program)(u:TypeId)(k:List Kd):Option (List Kd):=if ug P u=some k.length then some k else none
def Gt(P:Program):Nat→TypeId→Option (List Kd)
 | 0,_=>none
 | d+1,t=>match P.underlying t with
  | some .bool=>some [.b]
  | some (.int _)=>some [.i]
  | some .string=>some [.s]
  | some (.struct fs)=>if P.stoodInHeld t=false then IG (λu=>(Gt P d u).bind (sized P u)) fs.toList 0 else none
  | _=>none
theorem V8:∀ {k1 k2:List Kd} {a b:List AV} {r:Bool},qc (k1++k2) a b=some r →
  ∃r1 r2,qc k1 (a.take k1.length) (b.take k1.length)=some r1∧qc k2 (a.drop k1.length) (b.drop k1.length)=some r2∧r=(r1&&r2)
 | [],k2,a,b,r,h=>⟨true,r,by simp[qc],by simpa using h,by simp⟩
 | k::k1,k2,[],b,r,h=>by simp[qc]at h
 | k::k1,k2,_::_,[],r,h=>by simp[qc]at h
 | k::k1,k2,x::a,y::b,r,h=>by
  simp only[List.cons_append,qc]at h
  split at h
  case h_2=>cases h
  rename_i u v h1 h2
  obtain rfl:=av h
  obtain⟨r1,r2,e1,e2,rfl⟩:=V8 h2
  exact⟨u&&r1,r2,by simp[qc,h1,e1],by simpa using e2,by simp[Bool.and_assoc]⟩
def KdT(P:Program)(t:TypeId):Kd→Prop
 |.b=>P.underlying t=some .bool
 |.i=>∃k,P.underlying t=some (.int k)
 |.s=>P.underlying t=some .string
theorem ah6 {P:Program} {ι:jh} {k:Kd} {x y:AV} {r:Bool} (h:ah3 k x y=some r) {v v':Value} (hx:VR ι x v) (hy:VR ι y v') {t:TypeId}
  (ht:KdT P t k) (d:Nat) (w:World) :
  (Op.equalIn (d+1) t v v').run P w=.ok r w:=by
 cases k<;>cases x<;>cases y<;>simp only[ah3]at h<;>first |(cases h;done) | skip
 ·obtain rfl:=av h
  simp only[VR]at hx hy
  subst hx hy
  simp only[KdT]at ht
  simp[Op.equalIn,run_underlying ht]
 ·split at h
  case isFalse=>cases h
  rename_i hk
  subst hk
  obtain rfl:=av h
  simp only[VR]at hx hy
  subst hx hy
  simp only[KdT]at ht
  obtain⟨k',ht⟩:=ht
  simp[Op.equalIn,run_underlying ht]
 ·obtain rfl:=av h
  simp only[VR]at hx hy
  obtain⟨a,rfl,rfl⟩:=hx
  obtain⟨b,rfl,rfl⟩:=hy
  simp only[KdT]at ht
  rw[run_equalIn_string w d t a b ht,ByteArray.toList_eq,ByteArray.toList_eq]
def anW(d:Nat)(t:TypeId)(xs ys:Array Value)(off:Nat):Sem Bool:=do
 let a ←part t xs off
 let b ←part t ys off
 Op.equalIn d t a b
theorem NS:∀ {ks:List Kd} {a b:List AV} {r:Bool},qc ks a b=some r→a.length=ks.length∧b.length=ks.length
 | [],[],[],_,_=>by simp
 | k::ks,x::a,y::b,r,h=>by
  simp only[qc]at h
  split at h
  case h_2=>cases h
  rename_i h2
  have:=NS h2
  simp[this]
 | [],_::_,_,_,h=>by simp[qc]at h
 | [],[],_::_,_,h=>by simp[qc]at h
 | _::_,[],_,_,h=>by simp[qc]at h
 | _::_,_::_,[],_,h=>by simp[qc]at h
theorem Qp {P:Program} {ι:jh} {k:Kd} {as bs:List AV} {xs ys:Array Value} (hx:gT ι as xs.toList) (hy:gT ι bs ys.toList) {off:Nat} {r:Bool} (h:qc [k] ((as.drop off).take 1) ((bs.drop off).take 1)=some r)
  {t:TypeId} (ht:KdT P t k) (d:Nat) (w:World):(anW (d+1) t xs ys off).run P w=.ok r w:=by
 have hl:=NS h
 obtain⟨x,hx1⟩:∃x,as[off]?=some x:=by
  cases ha:as[off]? with
  | some x=>exact⟨x,rfl⟩
  | none =>
   rw[List.getElem?_eq_none_iff]at ha
   have:=hl.1
   rw[List.drop_eq_nil_of_le ha]at this
   simp at this
 obtain⟨y,hy1⟩:∃y,bs[off]?=some y:=by
  cases ha:bs[off]? with
  | some x=>exact⟨x,rfl⟩
  | none =>
   rw[List.getElem?_eq_none_iff]at ha
   have:=hl.2
   rw[List.drop_eq_nil_of_le ha]at this
   simp at this
 have d1:(as.drop off).take 1=[x]:=by
  rw[List.drop_eq_getElem_cons (aY.1 hx1).1]
  simp[(aY.1 hx1).2]
 have d2:(bs.drop off).take 1=[y]:=by
  rw[List.drop_eq_getElem_cons (aY.1 hy1).1]
  simp[(aY.1 hy1).2]
 rw[d1,d2]at h
 simp only[qc]at h
 split at h
 case h_2=>cases h
 rename_i u z h1 h2
 obtain rfl:=av h
 obtain rfl:=av h2
 obtain⟨v,hv,hv'⟩:=hx.get off x hx1
 obtain⟨v2,hv2,aBS⟩:=hy.get off y hy1
 have hagg:IE P t=some false:=by
  unfold IE
  cases k
  ·simp only[KdT]at ht;simp[ht]
  ·simp only[KdT]at ht;obtain⟨_,ht⟩:=ht;simp[ht]
  ·simp only[KdT]at ht;simp[ht]
 rw[Array.getElem?_toList]at hv hv2
 simp only[anW,part,Sem.run_bind,SE hagg,Result.andThen_ok,Bool.false_eq_true,if_false,hv,hv2,Sem.run_pure]
 rw[ah6 (P:=P) h1 hv' aBS ht d w]
 simp
theorem T9 {P:Program} {f:TypeId→Option (List Kd)} {d:Nat} {as bs:List AV} {xs ys:Array Value}
  (hf:∀u ks,f u=some ks→∀off r,qc ks ((as.drop off).take ks.length) ((bs.drop off).take ks.length)=some r→∀w,(anW d u xs ys off).run P w=.ok r w) :
  ∀(fs:List Field) (n:Nat) (ks:List Kd),IG f fs n=some ks→∀r,qc ks ((as.drop n).take ks.length) ((bs.drop n).take ks.length)=some r→∀w,(Op.eqFields d xs ys fs).run P w=.ok r w
 | [],n,ks,h,r,hr,w=>by
  simp only[IG,aC]at h
  subst h
  simp[qc]at hr
  subst hr
  simp[Op.eqFields]
 | fd::fs,n,ks,h,r,hr,w=>by
  simp only[IG]at h
  split at h
  case h_2=>cases h
  rename_i k hk
  split at h
  case isFalse=>cases h
  rename_i hc
  obtain⟨ks',hks,rfl⟩:=aH.1 h
  obtain⟨r1,r2,e1,e2,rfl⟩:=V8 hr
  rw[List.take_take,List.take_take,Nat.min_eq_left (by simp)]at e1
  rw[List.drop_take,List.drop_take,List.drop_drop,List.drop_drop,show(k++ks').length-k.length=ks'.length from by simp]at e2
  have s1:=hf fd.type k hk n r1 e1 w
  have s2:=T9 hf fs (n+k.length) ks' hks r2 e2 w
  simp only[Op.eqFields]
  rw[if_pos hc.1]
  simp only[anW]at s1
  rw[hc.2]
  have e:((do
   let a ←part fd.type xs n
   let b ←part fd.type ys n
   let r ←Op.equalIn d fd.type a b
   if (!r)=true then pure false else Op.eqFields d xs ys fs):Sem Bool)=((do
   let a ←part fd.type xs n
   let b ←part fd.type ys n
   Op.equalIn d fd.type a b):Sem Bool) >>= λr=>if (!r)=true then pure false else Op.eqFields d xs ys fs:=by
   simp
  rw[e,Sem.run_bind,s1,Result.andThen_ok]
  cases r1
  ·simp
  ·simpa using s2
theorem amZ {P:Program} {ι:jh}:∀(d:Nat) (t:TypeId) (ks:List Kd),Gt P d t=some ks→∀d',d≤d' →
  (∀ {as bs:List AV} {xs ys:Array Value},gT ι as xs.toList→gT ι bs ys.toList→∀off r,ug P t=some ks.length→qc ks ((as.drop off).take ks.length) ((bs.drop off).take ks.length)=some r→∀w,(anW d' t xs ys off).run P w=.ok r w) ∧
  (∀ {as bs:List AV} {xs ys:Array Value},gT ι as xs.toList→gT ι bs ys.toList→∀r,(∃fs,P.underlying t=some (.struct fs))→qc ks as bs=some r→∀w,(Op.equalIn d' t (.agg xs) (.agg ys)).run P w=.ok r w)
 | 0,_,_,h,_,_=>by simp[Gt]at h
 | d+1,t,ks,h,d',hd=>by
  obtain⟨d',rfl⟩:∃m,d'=m+1:=⟨d'-1,by omega⟩
  have struct:∀ {as bs:List AV} {xs ys:Array Value},gT ι as xs.toList→gT ι bs ys.toList→∀r,(∃fs,P.underlying t=some (.struct fs))→qc ks as bs=some r→∀w,(Op.equalIn (d'+1) t (.agg xs) (.agg ys)).run P w=.ok r w:=by
   intro as bs xs ys hx hy r ⟨fs,hu⟩ hr w
   simp only[Gt,hu]at h
   split at h
   case isFalse=>cases h
   rename_i hs
   have hfo:P.fieldsOf t=fs:=by simp[Program.fieldsOf,hu]
   rw[run_equalIn_struct w d' t xs ys (by rw[hfo];exact hu) hs,hfo]
   have hl:=NS hr
   refine T9 (as:=as) (bs:=bs) (f:=λu=>(Gt P d u).bind (sized P u)) ?_ fs.toList 0 ks h r (by rw[List.drop_zero,List.drop_zero,List.take_of_length_le (by omega),List.take_of_length_le (by omega)];exact hr) w
   intro u ks' hu' off r' hr' w'
   obtain⟨aBT,h1,h2⟩:=aR.1 hu'
   unfold sized at h2
   split at h2
   case isFalse=>cases h2
   rename_i hsz
   obtain rfl:=av h2
   exact(amZ d u aBT h1 d' (by omega)).1 hx hy off r' hsz hr' w'
  refine⟨?_,struct⟩
  intro as bs xs ys hx hy off r hsz hr w
  cases hu:P.underlying t with
  | none=>simp[Gt,hu]at h
  | some ds =>
   cases ds with
   | bool =>
    simp only[Gt,hu,aC]at h
    subst h
    exact Qp hx hy hr (by exact hu) d' w
   | int k =>
    simp only[Gt,hu,aC]at h
    subst h
    exact Qp hx hy hr (by exact⟨k,hu⟩) d' w
   | string =>
    simp only[Gt,hu,aC]at h
    subst h
    exact Qp hx hy hr (by exact hu) d' w
   | struct fs =>
    have hagg:IE P t=some true:=by simp[IE,hu]
    have p1:∀(zs:Array Value) w,(part t zs off).run P w=.ok (.agg (zs.extract off (off+ks.length))) w:=by
     intro zs w
     simp[part,SE hagg,xL hsz]
    simp only[anW,Sem.run_bind,p1,Result.andThen_ok]
    refine struct (as:=(as.drop off).take ks.length) (bs:=(bs.drop off).take ks.length) ?_ ?_ r ⟨fs,hu⟩ hr w
    ·rw[Array.toList_extract,List.extract_eq_take_drop,Nat.add_sub_cancel_left]
     exact(hx.drop off).take _
    ·rw[Array.toList_extract,List.extract_eq_take_drop,Nat.add_sub_cancel_left]
     exact(hy.drop off).take _
   | _=>simp[Gt,hu]at h
theorem tC.eqS {P:Program} {o:Oper} {neg:Bool} {t u:TypeId} {fs:Array Field} {ks:List Kd} {x y:Operand} {ax ay:AX} (ho:o.op=.binOp (if neg then .neq else .eql) t x y u) (ht:P.underlying t=some (.struct fs)) (hk:Gt P 20 t=some ks)
  (hg:P.eqGuardType P.depth t=false) (hx:cX x=some ax) (hy:cX y=some ay):tC P o (.eqS neg ks ax ay):=by
 intro ι e a w v he hv
 have h1:=iR hx he
 have h2:=iR hy he
 simp only[aP]at hv
 split at hv
 case h_2=>cases hv
 rename_i as bs hc1 hc2
 rw[hc1]at h1
 rw[hc2]at h2
 simp only[VR]at h1 h2
 obtain⟨xs,h1,h1'⟩:=h1
 obtain⟨ys,h2,h2'⟩:=h2
 obtain⟨r,hr,rfl⟩:=aH.1 hv
 have key:=(amZ (P:=P) 20 t ks hk 10000 (by omega)).2 h1' h2' r ⟨fs,ht⟩ hr w
 have g:=λop=>run_eqGuard_agg w op t x y xs ys hg
 refine⟨.bool (if neg then !r else r), ?_,by simp[VR]⟩
 cases neg
 ·simp only[Bool.false_eq_true,if_false]at ho ⊢
  simp only[execOp,ho,h1,h2]
  simp only[Sem.run_bind,g,Result.andThen_ok,run_eql_struct,key,Sem.run_pure]
 ·simp only[if_true]at ho ⊢
  simp only[execOp,ho,h1,h2]
  simp only[Sem.run_bind,g,Result.andThen_ok,run_neq_struct,key,Sem.run_pure]
theorem tC.eqB {P:Program} {o:Oper} {neg:Bool} {t u:TypeId} {x y:Operand} {ax ay:AX} (ho:o.op=.binOp (if neg then .neq else .eql) t x y u) (ht:P.underlying t=some .bool)
  (hx:cX x=some ax) (hy:cX y=some ay):tC P o (.eqB neg ax ay):=by
 intro ι e a w v he hv
 have h1:=iR hx he
 have h2:=iR hy he
 simp only[aP]at hv
 obtain⟨r,hr,rfl⟩:=aH.1 hv
 refine⟨.bool (if neg then !r else r), ?_,by simp[VR]⟩
 have key:=ah6 (P:=P) hr h1 h2 (t:=t) (by exact ht) 9999 w
 have hb:∃b b',a.eval x=.bool b∧a.eval y=.bool b':=by
  revert hr h1 h2
  generalize ax.ev e=p
  generalize ay.ev e=q
  intro h1 h2 hr
  cases p<;>cases q<;>simp only[ah3]at hr<;>first |(cases hr;done) | skip
  simp only[VR]at h1 h2
  exact⟨_,_,h1,h2⟩
 obtain⟨b,b',e1,e2⟩:=hb
 rw[e1,e2]at key
 cases neg
 ·simp only[Bool.false_eq_true,if_false]at ho ⊢
  simp only[execOp,ho,e1,e2]
  simp[eqGuard_at_bool,binOp,Op.equal,Op.maxDepth,key]
 ·simp only[if_true]at ho ⊢
  simp only[execOp,ho,e1,e2]
  simp[eqGuard_at_bool,binOp,Op.equal,Op.maxDepth,key]
theorem auA {P:Program} {t elem:TypeId} {n:Nat} (ht:P.underlying t=some (.pointer elem)) (hn:ug P elem=some (n+1)) {ι:jh} {p q:AV} {v v':Value} (h1:VR ι p v) (h2:VR ι q v') {r:Bool} (hr:aef p q=some r) (d:Nat) (w:World) :
  (∃p,v=.pointer p)∧(Op.equalIn (d+1) t v v').run P w=.ok r w:=by
 unfold aef at hr
 split at hr
 ·rename_i b
  obtain rfl:=av hr
  simp only[VR]at h1
  subst h1
  cases b with
  | none=>simp only[VR]at h2;subst h2;exact⟨⟨_,rfl⟩,by simp[Op.equalIn,run_underlying ht]⟩
  | some b=>obtain⟨b,o⟩:=b;simp only[VR]at h2;obtain⟨l,_,rfl⟩:=h2;exact⟨⟨_,rfl⟩,by simp[Op.equalIn,run_underlying ht]⟩
 ·rename_i b
  obtain rfl:=av hr
  obtain⟨b,o⟩:=b
  simp only[VR]at h1 h2
  obtain⟨l,_,rfl⟩:=h1
  subst h2
  exact⟨⟨_,rfl⟩,by simp[Op.equalIn,run_underlying ht]⟩
 ·rename_i b c
  obtain⟨b,o⟩:=b
  obtain⟨c,o'⟩:=c
  split at hr
  case isFalse=>cases hr
  rename_i hbc
  simp only at hbc
  subst hbc
  obtain rfl:=av hr
  simp only[VR]at h1 h2
  obtain⟨l,hl,rfl⟩:=h1
  obtain⟨l',hl',rfl⟩:=h2
  rw[hl]at hl'
  obtain rfl:=av hl'
  refine⟨⟨_,rfl⟩, ?_⟩
  have e:((⟨l.j,l.d+o,none⟩:Addr)==⟨l.j,l.d+o',none⟩)=(o==o'):=by
   rw[Bool.eq_iff_iff]
   simp
  simp only[Op.equalIn,Sem.run_bind,run_underlying ht,Result.andThen_ok,xL hn,ne_eq,Nat.add_eq_zero_iff,Nat.succ_ne_self,and_false,not_false_eq_true,if_true]
  simp[sameAddr,e]
 ·cases hr
theorem tC.eqP {P:Program} {o:Oper} {neg:Bool} {t u elem:TypeId} {n:Nat} {x y:Operand} {ax ay:AX} (ho:o.op=.binOp (if neg then .neq else .eql) t x y u) (ht:P.underlying t=some (.pointer elem)) (hn:ug P elem=some (n+1))
  (hx:cX x=some ax) (hy:cX y=some ay):tC P o (.eqP neg ax ay):=by
 intro ι e a w v he hv
 have h1:=iR hx he
 have h2:=iR hy he
 simp only[aP]at hv
 obtain⟨r,hr,rfl⟩:=aH.1 hv
 refine⟨.bool (if neg then !r else r), ?_,by simp[VR]⟩
 obtain⟨⟨p,hp⟩,key⟩:=auA (P:=P) ht hn h1 h2 hr 9999 w
 cases neg
 ·simp only[Bool.false_eq_true,if_false]at ho ⊢
  simp only[execOp,ho]
  rw[hp]at key ⊢
  simp[eqGuard_at_pointer,binOp,Op.equal,Op.maxDepth,key]
 ·simp only[if_true]at ho ⊢
  simp only[execOp,ho]
  rw[hp]at key ⊢
  simp[eqGuard_at_pointer,binOp,Op.equal,Op.maxDepth,key]
theorem auB {P:Program} {t elem:TypeId} (ht:P.underlying t=some (.slice elem)) {ι:jh} {p q:AV} {v v':Value} (h1:VR ι p v) (h2:VR ι q v') {r:Bool} (hr:agB p q=some r) (d:Nat) (w:World) :
  (∃p n c,v=.slice p n c)∧(Op.equalIn (d+1) t v v').run P w=.ok r w:=by
 unfold agB at hr
 split at hr
 ·rename_i b _ _ _ _
  obtain rfl:=av hr
  simp only[VR]at h1
  obtain⟨rfl,_⟩:=h1
  obtain⟨ad,c,rfl,_,_,_,hnn⟩:=slice_form h2
  refine⟨⟨_,_,_,rfl⟩, ?_⟩
  have:ad.isNone=b.isNone:=by cases ad<;>cases b<;>simp_all
  simp[Op.equalIn,run_underlying ht,this]
 ·rename_i b _ _ _ _ _ _ _ _
  obtain rfl:=av hr
  simp only[VR]at h2
  obtain⟨rfl,_⟩:=h2
  obtain⟨ad,c,rfl,_,_,_,hnn⟩:=slice_form h1
  refine⟨⟨_,_,_,rfl⟩, ?_⟩
  cases ad with
  | none=>simp at hnn
  | some ad=>simp[Op.equalIn,run_underlying ht]
 ·cases hr
theorem tC.eqN {P:Program} {o:Oper} {neg:Bool} {t u elem:TypeId} {x y:Operand} {ax ay:AX} (ho:o.op=.binOp (if neg then .neq else .eql) t x y u) (ht:P.underlying t=some (.slice elem))
  (hx:cX x=some ax) (hy:cX y=some ay):tC P o (.eqN neg ax ay):=by
 intro ι e a w v he hv
 have h1:=iR hx he
 have h2:=iR hy he
 simp only[aP]at hv
 obtain⟨r,hr,rfl⟩:=aH.1 hv
 refine⟨.bool (if neg then !r else r), ?_,by simp[VR]⟩
 obtain⟨⟨p,n,c,hp⟩,key⟩:=auB (P:=P) ht h1 h2 hr 9999 w
 cases neg
 ·simp only[Bool.false_eq_true,if_false]at ho ⊢
  simp only[execOp,ho]
  rw[hp]at key ⊢
  simp[eqGuard_at_slice,binOp,Op.equal,Op.maxDepth,key]
 ·simp only[if_true]at ho ⊢
  simp only[execOp,ho]
  rw[hp]at key ⊢
  simp[eqGuard_at_slice,binOp,Op.equal,Op.maxDepth,key]
theorem afd:∀(l:List Value) (k off:Nat) (cells:Array Value),off+k+l.length≤cells.size →
  ((l.zipIdx k).foldl (λcs (c,j)=>cs.setIfInBounds (off+j) c) cells).toList=cells.toList.take (off+k)++l++cells.toList.drop (off+k+l.length)
 | [],k,off,cells,h=>by simp
 | x::l,k,off,cells,h=>by
  simp only[List.zipIdx_cons,List.foldl_cons]
  have hl:(x::l).length=l.length+1:=rfl
  rw[afd l (k+1) off _ (by simp;omega)]
  simp only[Array.toList_setIfInBounds,bA]
  have e1:(cells.toList.set (off+k) x).take (off+(k+1))=cells.toList.take (off+k)++[x]:=by
   rw[show off+(k+1)=off+k+1 from by omega,List.take_add_one]
   simp[List.take_set_of_le,show off+k<cells.size from by omega]
  have e2:(cells.toList.set (off+k) x).drop (off+(k+1)+l.length)=cells.toList.drop (off+k+(l.length+1)):=by
   rw[List.drop_set_of_lt (by omega)]
   congr 1;omega
  rw[e1,e2]
  simp
theorem agF {ι:jh} (place:Nat→Option (Nat×Nat)):∀(parts:List (Nat×Value)) (ap:List (Nat×Nat×AV)) (cells:Array Value) (cs cs':List AV),gT ι cs cells.toList→(∀c,c∈cs→c.iI=true) →
  ap.length=parts.length→(∀(i:Nat) (p:Nat×Nat×AV) (q:Nat×Value),ap[i]?=some p→parts[i]?=some q→place q.1=some (p.1,p.2.1)∧VR ι p.2.2 q.2)→wS cs ap=some cs' →
  ∃cells',Instr.fill place cells parts=some cells'∧gT ι cs' cells'.toList∧(∀c,c∈cs'→c.iI=true)
 | [],[],cells,cs,cs',h,hc,_,_,ha=>by
  simp only[wS,aC]at ha
  subst ha
  exact⟨cells,rfl,h,hc⟩
 | [],_::_,_,_,_,_,_,hl,_,_=>by simp at hl
 | _::_,[],_,_,_,_,_,hl,_,_=>by simp at hl
 |(i,v)::parts,(off,n,a)::ap,cells,cs,cs',h,hc,hl,hp,ha=>by
  simp only[wS]at ha
  split at ha
  case h_2=>cases ha
  rename_i l hcells
  split at ha
  case isFalse=>cases ha
  rename_i hcond
  obtain⟨hpl,hrel⟩:=hp 0 (off,n,a) (i,v) rfl rfl
  obtain⟨hvc,hall⟩:=Yj hcells hrel
  have hlen:v.cells.size=n:=by have:=hvc.length;simp at this;omega
  have hcl:cs.length=cells.size:=by have:=h.length;simpa using this
  simp only[Instr.fill]
  simp only at hpl
  rw[hpl]
  simp only
  rw[if_neg (by rw[hlen];simp;omega)]
  have hseg:(v.cells.zipIdx.foldl (λcs (c,j)=>cs.setIfInBounds (off+j) c) cells).toList=cells.toList.take off++v.cells.toList++cells.toList.drop (off+n):=by
   have:=afd v.cells.toList 0 off cells (by simp;omega)
   rw[←Array.foldl_toList,Array.toList_zipIdx]
   simpa[hlen]using this
  refine agF place parts ap _ _ cs' ?_ ?_ (by simpa using hl) (λj p q h1 h2=>hp (j+1) p q (by simpa using h1) (by simpa using h2)) ha
  ·rw[hseg]
   exact((h.take off).append hvc).append (by have:=h.drop (off+n);simpa[hcond.1]using this)
  ·intro c hcm
   rcases List.mem_append.1 hcm with hcm | hcm
   ·rcases List.mem_append.1 hcm with hcm | hcm
    ·exact hc c (List.mem_of_mem_take hcm)
    ·exact hall c hcm
   ·exact hc c (List.mem_of_mem_drop hcm)
def K7(place:Nat→Option (Nat×Nat)):List (Nat×Operand)→Option (List (Nat×Nat×AX))
 | []=>some []
 |(i,x)::r=>match place i,cX x,K7 place r with
  | some p,some ax,some l=>some ((p.1,p.2,ax)::l)
  | _,_,_=>none
theorem Yl {place:Nat→Option (Nat×Nat)} {ι:jh} {e:Env} {a:Act} (he:gT ι e a.tmps.toList):∀ {l:List (Nat×Operand)} {al:List (Nat×Nat×AX)},K7 place l=some al →
  al.length=l.length∧∀(i:Nat) (p:Nat×Nat×AX) (q:Nat×Operand),al[i]?=some p→l[i]?=some q→place q.1=some (p.1,p.2.1)∧VR ι (p.2.2.ev e) (a.eval q.2)
 | [],al,h=>by
  simp only[K7,aC]at h
  subst h
  simp
 |(i,x)::r,al,h=>by
  simp only[K7]at h
  split at h
  case h_2=>cases h
  rename_i p ax l h1 h2 h3
  obtain rfl:=av h
  obtain⟨g1,g2⟩:=Yl he h3
  refine⟨by simp[g1],λj p' q hj hq=>?_⟩
  cases j with
  | zero =>
   simp at hj hq
   subst hj hq
   exact⟨by simp[h1],iR h2 he⟩
  | succ j=>exact g2 j p' q (by simpa using hj) (by simpa using hq)
def placeOf(P:Program)(t:TypeId):Nat→Option (Nat×Nat) :=
 match P.underlying t with
 | some (.array _ e)=>λi=>(ug P e).map λn=>(i*n,n)
 | some (.struct fs)=>λi=>(fs[i]?).bind λf=>(ug P f.type).map λn=>(f.offset,n)
 | _=>λ_=>none
def buildable(P:Program)(t:TypeId):Bool :=
 match P.underlying t with
 | some (.array _ e)=>(ug P e).isSome
 | some (.struct fs)=>fs.toList.all λf=>(ug P f.type).isSome
 | _=>false
theorem abV {P:Program}:∀(fs:List Field),(fs.all λf=>(ug P f.type).isSome)=true →
  ∃places:List (Nat×Nat),fs.mapM (λ(f:Field)=>(P.info? f.type).map λi=>(f.offset,i.size))=some places∧∀i:Nat,places[i]?=(fs[i]?).bind λ(f:Field)=>(ug P f.type).map λn=>(f.offset,n)
 | [],_=>⟨[],by simp,by simp⟩
 | f::fs,h=>by
  simp only[List.all_cons,Bool.and_eq_true]at h
  obtain⟨places,h1,h2⟩:=abV fs h.2
  obtain⟨n,hn⟩:=Option.isSome_iff_exists.1 h.1
  have hn':=hn
  unfold ug at hn'
  obtain⟨i,hi,rfl⟩:=aH.1 hn'
  refine⟨(f.offset,i.size)::places,by simp[List.mapM_cons,hi,h1],λj=>?_⟩
  cases j with
  | zero=>simp[hn]
  | succ j=>simpa using h2 j
theorem tC.build {P:Program} {o:Oper} {t:TypeId} {parts:Array (Nat×Operand)} {zero:List AV} {al:List (Nat×Nat×AX)} (ho:o.op=.build t parts) (hb:buildable P t=true) (hz:zeroOf P t=some zero)
  (hp:K7 (placeOf P t) parts.toList=some al):tC P o (.build zero al):=by
 intro ι e a w v he hv
 simp only[aP]at hv
 obtain⟨cs,hcs,rfl⟩:=aH.1 hv
 obtain⟨g1,g2⟩:=Yl he hp
 have hz':=hz
 unfold zeroOf at hz'
 split at hz'
 case h_2=>cases hz'
 rename_i z hz2
 obtain⟨it,hit,hz3⟩:=aR.1 hz2
 have hzv:=su ι hz'
 obtain⟨cells',hf,hr,_⟩:=agF (ι:=ι) (placeOf P t) (parts.toList.map λp=>(p.1,a.eval p.2)) (al.map λp=>(p.1,p.2.1,p.2.2.ev e)) z.cells zero cs hzv.1 hzv.2 (by simp[g1]) (λi p q h1 h2=>by
  simp only[List.getElem?_map,aH]at h1 h2
  obtain⟨p',hp',rfl⟩:=h1
  obtain⟨q',hq',rfl⟩:=h2
  exact g2 i p' q' hp' hq') hcs
 refine⟨.agg cells', ?_,by simp only[VR];exact⟨_,rfl,hr⟩⟩
 have ay8:P.built t (parts.map λp=>(p.1,a.eval p.2)).toList=some cells':=by
  unfold Program.built
  unfold buildable at hb
  unfold placeOf at hf
  cases hu:P.underlying t with
  | none=>simp[hu]at hb
  | some ds =>
   cases ds with
   | array n el =>
    rw[hu]at hb hf
    simp only at hb hf
    obtain⟨m,hm⟩:=Option.isSome_iff_exists.1 hb
    have hm':=hm
    unfold ug at hm'
    obtain⟨ie,hie,rfl⟩:=aH.1 hm'
    simp only[hm,bH]at hf
    simp only[hit,hz3,hie]
    simpa using hf
   | struct fs =>
    rw[hu]at hb hf
    simp only at hb hf
    obtain⟨places,e1,e2⟩:=abV fs.toList hb
    simp only[hit,hz3,e1]
    have:(λ(i:Nat)=>places.toArray[i]?)=λ(i:Nat)=>(fs[i]?).bind λ(f:Field)=>(ug P f.type).map λn=>(f.offset,n):=by
     funext i
     simpa using e2 i
    rw[this]
    simpa using hf
   | _=>simp[hu]at hb
 have:=run_build (P:=P) w t (parts.map λp=>(p.1,a.eval p.2)) cells' ay8
 simp only[execOp,ho]
 simp[this]
structure Made(w w':World)(ob:Obj):Prop where
 size:w'.heap.size=w.heap.size+1
 old:∀j,j<w.heap.size→w'.heap[j]?=w.heap[j]?
 new:w'.heap[w.heap.size]?=some ob
 os:w'.os=w.os
 tape:w'.tape=w.tape
 output:w'.output=w.output
theorem Made.alloc(w:World)(ob:Obj):Made w (w.alloc ob) ob:=by
 refine⟨by simp,λj hj=>Below.ah7 w ob j hj,by simp[World.alloc,-World.alloc_eq],rfl,rfl,rfl⟩
 where
 Below.ah7 (w:World) (o:Obj) (k:Nat) (h:k<w.heap.size):(w.alloc o).heap[k]?=w.heap[k]?:=by
  show(w.heap.push o)[k]?=_
  rw[Array.getElem?_push,if_neg (by omega)]
theorem Made.akJ(w:World)(ob:Obj):Made w (w.drew.alloc ob) ob :=
 let h:=Made.alloc w.drew ob
 ⟨h.size,h.old,h.new,h.os,h.tape,h.output⟩
def KOk(P:Program)(o:Oper)(k:PL):Prop :=
 ∀(ι:jh) (e:Env) (a:Act) (w:World) (blk:pJ) (mk:Mk),gT ι e a.tmps.toList→aK k e=some (blk,mk) →
  ∃v' w' ob N,(execOp a.eval o).run P w=.ok (.value v') w'∧blk.own=true∧Made w w' ob ∧
   ∀id dK,ι.Le dK→dK id=some ⟨w.heap.size,0,N⟩→BR dK blk ⟨w.heap.size,0,N⟩ ob∧VR dK (mk.val id) v'
def LOk(P:Program)(o:Oper)(l:Ew):Prop :=
 ∀(ι:jh) (M:Heap) (e:Env) (a:Act) (w:World) (v:AV),R ι M w→gT ι e a.tmps.toList→aL l e M=some v→∃v',(execOp a.eval o).run P w=.ok (.value v') w∧VR ι v v'
theorem BR.new {ι:jh} {cs:List AV} {l:Array Value} {ZJ:Bool} {e:TypeId} {fz:Nat×Nat} {j:Nat} (h:∃r,gT ι cs (l.toList.take r)∧r≤l.size∧(ZJ=false→r=l.size)) (hc:∀c,c∈cs→c.iI=true) (hf:(fz.1=fz.2∨l.size≤fz.1)∧(ZJ=false→fz.1=fz.2)) :
  BR ι (.cells cs false ZJ) ⟨j,0,l.size⟩ (.cells l e fz):=by
 obtain⟨r,hr,hle,hs⟩:=h
 have hlen:=hr.length
 simp at hlen
 refine⟨l,e,fz,rfl,by simp,by simp only;omega,λh=>by simp only;rw[hlen,hs h];simp,λi a hi=>?_,λ_=>hf⟩
 obtain⟨v,hv,hr'⟩:=hr.get i a hi
 refine⟨v, ?_,hc a (List.mem_of_getElem? hi),hr'⟩
 simp only[List.getElem?_take]at hv
 split at hv
 case isFalse=>cases hv
 simpa using hv
theorem BR.aby{ι:jh}{cs:List AV}{l:Array Value}{e:TypeId}{j:Nat}(h:gT ι cs l.toList)(hc:∀c,c∈cs→c.iI=true):BR ι (.cells cs false false) ⟨j,0,l.size⟩ (.cells l e (0,0)) :=
 BR.new ⟨l.size,by rw[List.take_of_length_le (by simp)];exact h,Nat.le_refl _,λ_=>rfl⟩ hc ⟨.inl rfl,λ_=>rfl⟩
theorem Ko:∀(n:Nat) (z:List AV),(l5 n z).length=n*z.length
 | 0,z=>by simp[l5]
 | n+1,z=>by simp[l5,Ko n z,Nat.add_mul,Nat.add_comm]
theorem ah8(z:List AV):∀(n i:Nat),i<n*z.length→(l5 n z)[i]?=z[i%z.length]?
 | 0,i,h=>by simp at h
 | n+1,i,h=>by
  simp only[l5]
  rw[List.getElem?_append]
  split
  ·rename_i hi
   rw[Nat.mod_eq_of_lt hi]
  ·rename_i hi
   rw[ah8 z n (i-z.length) (by rw[Nat.add_mul]at h;omega)]
   congr 1
   have:i=(i-z.length)+z.length:=by omega
   rw[this,Nat.add_mod_right]
   simp
theorem V9{n:Nat}{z:List AV}{c:AV}(h:c∈l5 n z):c∈z:=by
 induction n with
 | zero=>simp[l5]at h
 | succ n ih =>
  simp only[l5,List.mem_append]at h
  exact h.elim id ih
theorem abz{ι:jh}{z:List AV}{v:Array Value}(h:gT ι z v.toList)(n:Nat):gT ι (l5 n z) (madeCells v (n*v.size)).toList:=by
 have hl:z.length=v.size:=by have:=h.length;simpa using this
 refine gT.Cx (by simp[Ko,madeCells,hl]) λi a x ha hx=>?_
 have hi:i<n*z.length:=by
  have:=(aY.1 ha).1
  rwa [Ko]at this
 rw[ah8 z n i hi]at ha
 obtain⟨y,hy,hr⟩:=h.get _ a ha
 simp only[madeCells,Array.toList_map,Array.toList_range,List.getElem?_map,List.getElem?_range (show i<n*v.size from by rw[←hl];exact hi),bH,aC]at hx
 subst hx
 rw[hl,Array.getElem?_toList]at hy
 rw[getElem!_def,hy]
 exact hr
theorem KOk.alloc{P:Program}{o:Oper}{t:TypeId}{zero:List AV}(ho:o.op=.alloc t)(hz:zeroOf P t=some zero):KOk P o (.alloc zero):=by
 intro ι e a w blk mk he h
 simp only[aK,aC,aS]at h
 obtain⟨rfl,rfl⟩:=h
 obtain⟨z,hz1,hz2,hz3⟩:=abU (P:=P) hz w
 refine⟨.pointer (some ⟨w.heap.size,0,none⟩),w.alloc (.cells z.cells t),_,z.cells.size, ?_,rfl,Made.alloc _ _,λid dK hle hid=>⟨BR.aby (hz2 dK) hz3, ?_⟩⟩
 ·simp only[execOp,ho]
  simp[Instr.alloc,hz1,newVar,newRow]
 ·simp only[Mk.val,VR]
  exact⟨_,hid,rfl⟩
theorem KOk.box{P:Program}{o:Oper}{t:TypeId}{x:Operand}{ax:AX}(ho:o.op=.box t x)(hx:cX x=some ax):KOk P o (.box ax):=by
 intro ι e a w blk mk he h
 have h1:=iR hx he
 simp only[aK]at h
 obtain⟨cs,hcs,h⟩:=aH.1 h
 simp only[aS]at h
 obtain⟨rfl,rfl⟩:=h
 obtain⟨g1,g2⟩:=Yj hcs h1
 refine⟨.pointer (some ⟨w.heap.size,0,none⟩),w.alloc (.cells (a.eval x).cells t),_,(a.eval x).cells.size, ?_,rfl,Made.alloc _ _,λid dK hle hid=>⟨BR.aby (g1.mono hle) g2, ?_⟩⟩
 ·simp only[execOp,ho]
  simp[Instr.box,newVar,newRow]
 ·simp only[Mk.val,VR]
  exact⟨_,hid,rfl⟩
theorem KOk.buildSlice {P:Program} {o:Oper} {t elem:TypeId} {len n:Nat} {parts:Array (Nat×Operand)} {zero:List AV} {al:List (Nat×AX)} (ho:o.op=.buildSlice t len parts) (ht:P.underlying t=some (.slice elem)) (hn:ug P elem=some n) (hn0:0<n)
  (hlen:len*n≤16777216) (hz:zeroOf P elem=some zero) (hzl:zero.length=n) (hp:K7 (λi=>some (i*n,n)) parts.toList=some (al.map λp=>(p.1*n,n,p.2))):KOk P o (.buildSlice n len zero al):=by
 intro ι e a w blk mk he h
 simp only[aK]at h
 obtain⟨cs,hcs,h⟩:=aH.1 h
 simp only[aS]at h
 obtain⟨rfl,rfl⟩:=h
 obtain⟨g1,g2⟩:=Yl he hp
 obtain⟨z,hz1,hz2,hz3⟩:=abU (P:=P) hz w
 have hzs:z.cells.size=n:=by have:=(hz2 ι).length;simp at this;omega
 have hbase:gT ι (l5 len zero) (madeCells (if len*n=0 then #[]else z.cells) (len*n)).toList:=by
  split
  ·rename_i h0
   have:len=0:=by
    rcases Nat.mul_eq_zero.1 h0 with h | h
    ·exact h
    ·omega
   subst this
   simp[l5,madeCells,gT,Array.range_zero']
  ·have:=abz (hz2 ι) len
   rwa [hzs]at this
 obtain⟨cells',hf,hr,hc⟩:=agF (ι:=ι) (λi=>some (i*n,n)) (parts.toList.map λp=>(p.1,a.eval p.2)) (al.map λp=>(p.1*n,n,p.2.ev e)) (madeCells (if len*n=0 then #[]else z.cells) (len*n)) _ cs hbase (λc hc=>hz3 c (V9 hc)) (by simpa using g1) (λi p q h1 h2=>by
  simp only[List.getElem?_map,aH]at h1 h2
  obtain⟨p',hp',rfl⟩:=h1
  obtain⟨q',hq',rfl⟩:=h2
  exact g2 i (p'.1*n,n,p'.2) q' (by simp[hp']) hq') hcs
 have hsz:cells'.size=len*n:=by
  have h1:=hr.length
  have h2:=hbase.length
  have h3:=V_ hcs
  simp only[Array.length_toList]at h1 h2
  rw[size_madeCells]at h2
  omega
 refine⟨.slice (some ⟨w.heap.size,0,none⟩) len len,w.alloc (.cells cells' elem),_,cells'.size, ?_,rfl,Made.alloc _ _,λid dK hle hid=>⟨BR.aby (hr.mono hle) hc, ?_⟩⟩
 ·simp only[execOp,ho]
  have hng:¬(len*n>2 ^ 24):=by omega
  by_cases h0:len*n=0
  ·rw[if_pos h0,h0,show madeCells (#[]:Array Value) 0=#[]from by simp[madeCells,Array.range_zero']]at hf
   simp[Instr.buildSlice,run_underlying ht,xL hn,hng,h0,newRow,hf,Array.range_zero']
  ·rw[if_neg h0]at hf
   simp only[madeCells]at hf
   simp[Instr.buildSlice,run_underlying ht,xL hn,hng,h0,newRow,hf,hz1]
 ·simp only[Mk.val,VR]
  exact⟨_,_,_,hid,rfl,.inr rfl,.inr rfl,.inr rfl,Nat.le_refl _,Nat.le_refl _,λ_=>rfl,by simp[hsz],hn0⟩
 where
 V_:∀ {cs:List AV} {parts:List (Nat×Nat×AV)} {cs':List AV},wS cs parts=some cs'→cs'.length=cs.length
 | cs,[],cs',h=>by simp only[wS,aC]at h;rw[h]
 | cs,(off,n,v)::r,cs',h=>by
  simp only[wS]at h
  split at h
  case h_2=>cases h
  split at h
  case isFalse=>cases h
  rename_i l _ hc
  rw[V_ h]
  simp
  omega
theorem KOk.makeSlice {P:Program} {o:Oper} {t elem:TypeId} {i:TypeInfo} {l c:Operand} {zero:List AV} {al ac:AX} (ho:o.op=.makeSlice t l c) (ht:P.underlying t=some (.slice elem)) (hi:P.info? elem=some i) (hn0:0<i.size)
  (hz:zeroOf P elem=some zero) (hzl:zero.length=i.size) (hl:cX l=some al) (hc:cX c=some ac):KOk P o (.makeSlice i.size i.bytes zero al ac):=by
 intro ι e a w blk mk he h
 have h1:=iR hl he
 have h2:=iR hc he
 simp only[aK]at h
 unfold NQ at h
 split at h
 case h_2=>cases h
 rename_i kl lv kc cv hc1 hc2
 rw[hc1]at h1
 rw[hc2]at h2
 simp only[VR]at h1 h2
 split at h
 case isFalse=>cases h
 rename_i hcond
 obtain⟨c1,c2,c3,c4⟩:=hcond
 simp only[aC,aS]at h
 obtain⟨rfl,rfl⟩:=h
 have hz':=hz
 unfold zeroOf at hz'
 split at hz'
 case h_2=>cases hz'
 rename_i z hz2
 obtain⟨it,hit,hz3⟩:=aR.1 hz2
 rw[hi]at hit
 obtain rfl:=av hit
 have hzv:=λι=>su ι hz'
 have hzs:z.cells.size=i.size:=by have:=(hzv ι).1.length;simp at this;omega
 have hb:(i.bytes:Int)*cv≤281474976710656:=by
  have:cv=(cv.toNat:Int):=by omega
  rw[this,←Int.natCast_mul]
  omega
 have hrun:=run_make (P:=P) w t elem i z ht hi hz3 kl kc lv cv c1 c2 hb (by omega)
 refine⟨.slice (some ⟨w.heap.size,0,none⟩) lv.toNat cv.toNat,w.alloc (.cells (madeCells z.cells (cv.toNat*i.size)) elem),_,(madeCells z.cells (cv.toNat*i.size)).size, ?_,rfl,Made.alloc _ _,λid dK hle hid=>⟨BR.aby ?_ (λc hc=>(hzv ι).2 c (V9 hc)), ?_⟩⟩
 ·simp only[execOp,ho,h1,h2]
  simp[hrun]
 ·have:=abz (hzv dK).1 cv.toNat
  rwa [hzs]at this
 ·simp only[Mk.val,VR]
  exact⟨_,_,_,hid,rfl,.inr rfl,.inr rfl,.inr rfl,by omega,Nat.le_refl _,λ_=>rfl,by simp[size_madeCells],hn0⟩
theorem KOk.t_{P:Program}{o:Oper}{s d elem:TypeId}{x:Operand}{ax:AX}(ho:o.op=.convert s d x)(hs:P.underlying s=some .string)(hd:P.underlying d=some (.slice elem))(he8:P.underlying elem=some (.int .u8))(hx:cX x=some ax):KOk P o (.t_ ax):=by
 intro ι e a w blk mk he h
 have h1:=iR hx he
 simp only[aK]at h
 split at h
 case h_2=>cases h
 rename_i str hc
 rw[hc]at h1
 simp only[VR]at h1
 obtain⟨b,h1,rfl⟩:=h1
 split at h
 case isFalse=>cases h
 rename_i hlen
 simp only[aC,aS]at h
 obtain⟨rfl,rfl⟩:=h
 have hbl:b.data.toList.length=b.size:=by simp
 have hcap:b.size≤grownCap w b.size 0 elem:=by
  simp only[grownCap,Question.cut]
  omega
 have hsz:(Lib.bytesCells w elem b).size=grownCap w b.size 0 elem:=by
  simp only[Lib.bytesCells,Array.size_append,Array.size_map,Array.size_replicate]
  have:b.data.size=b.size:=rfl
  omega
 refine⟨.slice (some ⟨w.heap.size,0,none⟩) b.size (grownCap w b.size 0 elem),Lib.bytesWorld w elem b,_,(Lib.bytesCells w elem b).size, ?_,rfl,⟨Lib.bytesWorld_size w elem b,Lib.bytesWorld_at_old w elem b,Lib.bytesWorld_at_new w elem b,rfl,rfl,rfl⟩,λid dK hle hid=>⟨BR.new ⟨b.size, ?_,by omega,λh=>by cases h⟩ ?_ ⟨.inr (Nat.le_refl _),λh=>by cases h⟩, ?_⟩⟩
 ·simp only[execOp,ho,h1]
  simp[Lib.run_convert_string_bytes w s d elem b hs hd he8]
 ·have e:(Lib.bytesCells w elem b).toList.take b.size=b.data.toList.map λc=>Value.int .u8 c.toNat:=by
   simp only[Lib.bytesCells,Array.toList_append,Array.toList_map]
   rw[List.take_append_of_le_length (by simp),List.take_of_length_le (by simp)]
  rw[e]
  refine gT.Cx (by simp) λi x y hx hy=>?_
  simp only[List.getElem?_map,aH]at hx hy
  obtain⟨u,hu,rfl⟩:=hx
  obtain⟨u',hu',rfl⟩:=hy
  rw[hu]at hu'
  obtain rfl:=av hu'
  simp[VR]
 ·intro c hc
  obtain⟨u,_,rfl⟩:=List.mem_map.1 hc
  rfl
 ·simp only[Mk.val,VR]
  exact⟨_,_,_,hid,by rw[hbl],.inr rfl,.inr rfl,.inr rfl,Nat.le_refl _,by omega,(λh=>by cases h),by simp[hsz],by omega⟩
theorem KOk.makeMap{P:Program}{o:Oper}{t:TypeId}(ho:o.op=.makeMap t none):KOk P o .makeMap:=by
 intro ι e a w blk mk he h
 simp only[aK,aC,aS]at h
 obtain⟨rfl,rfl⟩:=h
 refine⟨.map (some w.heap.size),w.alloc (.map #[] 0),_,0, ?_,rfl,Made.alloc _ _,λid dK hle hid=>⟨⟨#[],0,rfl,by simp[ERL]⟩, ?_⟩⟩
 ·simp only[execOp,ho]
  simp[Instr.makeMap]
 ·simp only[Mk.val,VR]
  exact⟨_,hid,rfl⟩
theorem T_{P:Program}{ι:jh}{M:Heap}{w:World}(r:R ι M w){b o n:Nat}{cs:List AV}(h:M.read b o n=some cs):∃l vs,ι b=some l∧(loadCells ⟨l.j,l.d+o,none⟩ n).run P w=.ok vs w∧gT ι cs vs.toList∧∀a,a∈cs→a.iI=true:=by
 obtain⟨hlen,hc,l,vs,hl,hr,hcell⟩:=r.read h
 refine⟨l,vs.toArray,hl, ?_,by simpa using hr,hc⟩
 have hvl:vs.length=n:=by rw[←hr.length,hlen]
 rw[←hvl]
 exact run_loadCells_list w _ vs λj v hv=>by rw[uf];exact hcell j v hv
theorem ZL {P:Program} {ι:jh} {M:Heap} {w:World} (r:R ι M w) {t:TypeId} {g:Bool} {n:Nat} (hg:IE P t=some g) (hn:ug P t=some n) {p v:AV} {pv:Value} (hp:VR ι p pv) (h:Kn g n p M=some v) :
  ∃ad v',pv=.pointer (some ad)∧(loadVar t ad).run P w=.ok v' w∧VR ι v v':=by
 unfold Kn at h
 split at h
 case h_2=>cases h
 rename_i b o
 simp only[VR]at hp
 obtain⟨l,hl,rfl⟩:=hp
 cases g with
 | true =>
  simp only[if_true]at h
  obtain⟨cs,hcs,rfl⟩:=aH.1 h
  obtain⟨l',vs,hl',hrun,hr,_⟩:=T_ (P:=P) r hcs
  rw[hl]at hl'
  obtain rfl:=av hl'
  refine⟨_,.agg vs,rfl, ?_,by simp only[VR];exact⟨_,rfl,hr⟩⟩
  simp[loadVar,SE hg,xL hn,hrun]
 | false =>
  simp only[Bool.false_eq_true,if_false]at h
  split at h
  case h_2=>cases h
  rename_i c ro sl hb
  obtain⟨l',ob,hl',hob,cs,elem,fz,rfl,_,_,_,h5,_⟩:=r.blk b _ hb
  rw[hl]at hl'
  obtain rfl:=av hl'
  obtain⟨v',hv',_,hr⟩:=h5 o v h
  refine⟨_,v',rfl, ?_,hr⟩
  simp[loadVar,SE hg,cell_of hob hv']
theorem LOk.load{P:Program}{o:Oper}{t:TypeId}{g:Bool}{n:Nat}{x:Operand}{ax:AX}(ho:o.op=.load t x)(hg:IE P t=some g)(hn:ug P t=some n)(hx:cX x=some ax):LOk P o (.load g n ax):=by
 intro ι M e a w v r he h
 simp only[aL]at h
 obtain⟨ad,v',h1,h2,h3⟩:=ZL (P:=P) r hg hn (iR hx he) h
 refine⟨v', ?_,h3⟩
 simp only[execOp,ho,h1]
 simp[Instr.loadAt,Instr.sureAddr,h2]
theorem abW{ι:jh}:∀ {cs:List AV} {vs:List Value} {bs:List UInt8},mU cs=some bs→gT ι cs vs→∃ns:List Int,vs=ns.map (Value.int .u8)∧bs=ns.map λn=>UInt8.ofNat n.toNat
 | [],[],bs,h,_=>by
  simp only[mU,aC]at h
  subst h
  exact⟨[],rfl,rfl⟩
 | [],_::_,_,_,h=>by simp[gT]at h
 | a::cs,[],_,_,h=>by simp[gT]at h
 | a::cs,v::vs,bs,h,hr=>by
  simp only[gT]at hr
  cases a with
  | int k n =>
   cases k with
   | u8 =>
    simp only[mU]at h
    obtain⟨bs',hb,rfl⟩:=aH.1 h
    obtain⟨ns,rfl,rfl⟩:=abW hb hr.2
    have h1:=hr.1
    simp only[VR]at h1
    subst h1
    exact⟨n::ns,rfl,rfl⟩
   | _=>simp[mU]at h
  | _=>simp[mU]at h
theorem akK(ns:List Int):∀s:ByteArray,(ns.foldl (λr n=>r.push (UInt8.ofNat n.toNat)) s).data.toList=s.data.toList++ns.map λn=>UInt8.ofNat n.toNat:=by
 induction ns with
 | nil=>intro s;simp
 | cons n ns ih =>
  intro s
  rw[List.foldl_cons,ih]
  simp[ByteArray.push]
theorem LOk.oh{P:Program}{o:Oper}{s d elem:TypeId}{x:Operand}{ax:AX}(ho:o.op=.convert s d x)(hs:P.underlying s=some (.slice elem))(he8:P.underlying elem=some (.int .u8))(hd:P.underlying d=some .string)(hx:cX x=some ax):LOk P o (.oh ax):=by
 intro ι M e a w v r he h
 have h1:=iR hx he
 simp only[aL]at h
 unfold yQ at h
 split at h
 case h_3=>cases h
 ·rename_i hc
  obtain rfl:=av h
  rw[hc]at h1
  simp only[VR]at h1
  obtain⟨h1,_⟩:=h1
  refine⟨.string .empty, ?_, ?_⟩
  ·simp only[execOp,ho,h1]
   simp[run_convert_bytes_string w s d elem none 0 0 hs he8 hd,Conv.bytesToString]
  ·simp only[VR]
   exact⟨_,rfl,rfl⟩
 ·rename_i b off len cap ex hc
  rw[hc]at h1
  split at h
  ·rename_i h0
   subst h0
   obtain rfl:=av h
   simp only[VR]at h1
   obtain⟨L,ad,cap',e1,e2,e3,e4,e5,e6,e7,e8,e9,e10⟩:=h1
   refine⟨.string .empty, ?_,by simp only[VR];exact⟨_,rfl,rfl⟩⟩
   simp only[execOp,ho,e2]
   simp[run_convert_bytes_string w s d elem (some ad) 0 cap' hs he8 hd,Conv.bytesToString,loadCells,loadCellsFrom]
  rename_i aAq
  obtain⟨bs,hbs,rfl⟩:=aH.1 h
  obtain⟨cs,hcs,hbs⟩:=aR.1 hbs
  simp only[VR]at h1
  obtain⟨L,ad,cap',e1,e2,e3,e4,e5,e6,e7,e8,e9,e10⟩:=h1
  obtain⟨l',vs,hl',hrun,hr,_⟩:=T_ (P:=P) r hcs
  rw[e1]at hl'
  obtain rfl:=av hl'
  obtain⟨ns,hns,rfl⟩:=abW hbs hr
  have hvs:vs=(ns.map (Value.int .u8)).toArray:=by rw[←hns]
  subst hvs
  have hload:(loadCells ad len).run P w=.ok (ns.map (Value.int .u8)).toArray w:=by
   rcases Nat.eq_zero_or_pos cap' with h0 | hpos
   ·obtain rfl:len=0:=by omega
    have:ns=[]:=by
     have h1:=(r.read hcs).1
     have h2:=hr.length
     simp at h2
     cases ns with
     | nil=>rfl
     | cons _ _=>simp at h2;omega
    subst this
    simp[loadCells,loadCellsFrom]
   ·replace e3:=e3.resolve_left (by omega)
    replace e4:=e4.resolve_left (by omega)
    have h0:=e5.resolve_left (by omega)
    have:ad=⟨L.j,L.d+off,none⟩:=by
     obtain⟨q1,q2,q3⟩:=ad
     simp only at e3 e4 h0
     subst e3 e4 h0
     rfl
    rw[this]
    exact hrun
  refine⟨.string (ns.foldl (λr n=>r.push (UInt8.ofNat n.toNat)) ByteArray.empty), ?_, ?_⟩
  ·simp only[execOp,ho,e2]
   simp[run_convert_bytes_string w s d elem (some ad) len cap' hs he8 hd,run_bytesToString w ad len cap' ns hload]
  ·simp only[VR]
   refine⟨_,rfl, ?_⟩
   rw[akK]
   rfl
structure Turned(w w':World)(j:Nat)(ob:Obj):Prop where
 size:w'.heap.size=w.heap.size
 other:∀i,i≠j→w'.heap[i]?=w.heap[i]?
 new:w'.heap[j]?=some ob
 os:w'.os=w.os
 tape:w'.tape=w.tape
 output:w'.output=w.output
theorem mV{M:Heap}{b:Nat}{x:Option pJ}(i:Nat):(M.put b x).get i=if i=b then x else M.get i:=rfl
theorem Mi{M:Heap}{x:pJ}(i:Nat):(M.push x).get i=if i=M.next then some x else M.get i:=rfl
def jh.set(ι:jh)(b:Nat)(l:Loc):jh:=λi=>if i=b then some l else ι i
theorem jh.K8{ι:jh}{b:Nat}(h:ι b=none)(l:Loc):ι.Le (ι.set b l):=λi x e=>by
 unfold jh.set
 split
 ·rename_i hi
  subst hi
  rw[h]at e
  cases e
 ·exact e
theorem R.lt{ι:jh}{M:Heap}{w:World}(r:R ι M w){b:Nat}{x:pJ}(h:M.get b=some x):b<M.next:=by
 rcases Nat.lt_or_ge b M.next with h1 | h1
 ·exact h1
 ·rw[(r.fresh b h1).1]at h
  cases h
theorem R.lt'{ι:jh}{M:Heap}{w:World}(r:R ι M w){b:Nat}{l:Loc}(h:ι b=some l):b<M.next:=by
 rcases Nat.lt_or_ge b M.next with h1 | h1
 ·exact h1
 ·rw[(r.fresh b h1).2]at h
  cases h
theorem R.Kq{ι:jh}{M:Heap}{w:World}(r:R ι M w){b:Nat}{x:pJ}{l:Loc}(h:M.get b=some x)(hl:ι b=some l):l.j<w.heap.size:=by
 obtain⟨l',o,h1,h2,_⟩:=r.blk b x h
 rw[hl]at h1
 obtain rfl:=av h1
 exact(Array.getElem?_eq_some_iff.1 h2).1
theorem Tr.update {ι:jh} {M:Heap} {w w':World} {b:Nat} {x x':pJ} {l:Loc} {ob:Obj} (r:R ι M w) (hx:M.get b=some x) (ho:x.own=true) (ho':x'.own=true) (hl:ι b=some l) (ht:Turned w w' l.j ob) (hb:BR ι x' l ob) :
  Tr ι M w ι (M.put b (some x')) w' where
 rel:={
  blk:=λi y hy=>by
   rw[mV]at hy
   split at hy
   ·rename_i hi
    subst hi
    obtain rfl:=av hy
    exact⟨l,ob,hl,ht.new,hb⟩
   ·rename_i hi
    obtain⟨l',o,h1,h2,h3⟩:=r.blk i y hy
    refine⟨l',o,h1, ?_,h3⟩
    rw[ht.other _ (r.apart i b y x l' l hy hx h1 hl hi (.inr ho))]
    exact h2
  apart:=λi i' y y' l1 l2 h1 h2 h3 h4 hne hor=>by
   rw[mV]at h1 h2
   split at h1
   ·rename_i hi
    subst hi
    rw[if_neg (Ne.symm hne)]at h2
    exact r.apart i i' x y' l1 l2 hx h2 h3 h4 hne (.inl ho)
   ·split at h2
    ·rename_i hi'
     subst hi'
     exact r.apart i i' y x l1 l2 h1 hx h3 h4 hne (.inr ho)
    ·exact r.apart i i' y y' l1 l2 h1 h2 h3 h4 hne hor
  fresh:=λi hi=>by
   have h1:i≠b:=by
    have:=r.lt hx
    simp only[Heap.put]at hi
    omega
   rw[mV,if_neg h1]
   exact r.fresh i hi }
 agree _ _:=rfl
 next:=Nat.le_refl _
 dead i hi hd:=by
  rw[mV]
  split
  ·rename_i h
   subst h
   rw[hx]at hd
   cases hd
  ·exact hd
 ro i y hy hro:=by
  rw[mV]at hy
  split at hy
  ·obtain rfl:=av hy
   rw[ho']at hro
   cases hro
  ·exact hy
 owned i y l1 h1 h2 h3 h4:=by
  rw[mV]at h1
  split at h1
  ·rename_i h
   subst h
   exact⟨i,x,l1,hx,ho,h3,rfl⟩
  ·exact⟨i,y,l1,h1,h2,h3,rfl⟩
 keep j hj hn:=ht.other j λe=>hn b x l hx ho hl e.symm
 size:=by rw[ht.size];exact Nat.le_refl _
 os:=ht.os
 tape:=ht.tape
 output:=ht.output
theorem Tr.push {ι:jh} {M:Heap} {w w':World} {x:pJ} {N:Nat} {ob:Obj} (r:R ι M w) (ho:x.own=true) (hm:Made w w' ob) (hb:BR (ι.set M.next ⟨w.heap.size,0,N⟩) x ⟨w.heap.size,0,N⟩ ob) :
  Tr ι M w (ι.set M.next ⟨w.heap.size,0,N⟩) (M.push x) w':=by
 have hnone:=(r.fresh M.next (Nat.le_refl _)).2
 have hle:=jh.K8 hnone ⟨w.heap.size,0,N⟩
 have hset:∀i,i≠M.next→(ι.set M.next ⟨w.heap.size,0,N⟩) i=ι i:=λi hi=>by simp[jh.set,hi]
 have hself:(ι.set M.next ⟨w.heap.size,0,N⟩) M.next=some ⟨w.heap.size,0,N⟩:=by simp[jh.set]
 have hget:∀i y,M.get i=some y→i≠M.next:=λi y h=>by have:=r.lt h;omega
 constructor
 ·constructor
  ·intro i y hy
   rw[Mi]at hy
   split at hy
   ·rename_i hi
    subst hi
    obtain rfl:=av hy
    exact⟨_,ob,hself,hm.new,hb⟩
   ·obtain⟨l',o,h1,h2,h3⟩:=r.blk i y hy
    refine⟨l',o,hle _ _ h1, ?_,h3.mono hle⟩
    rw[hm.old _ (r.Kq hy h1)]
    exact h2
  ·intro i i' y y' l1 l2 h1 h2 h3 h4 hne hor
   rw[Mi]at h1 h2
   split at h1
   ·rename_i hi
    subst hi
    rw[if_neg (Ne.symm hne)]at h2
    rw[hself]at h3
    obtain rfl:=av h3
    rw[hset i' (Ne.symm hne)]at h4
    have:=r.Kq h2 h4
    simp only
    omega
   ·rename_i hi
    rw[hset i hi]at h3
    split at h2
    ·rename_i hi'
     subst hi'
     rw[hself]at h4
     obtain rfl:=av h4
     have:=r.Kq h1 h3
     simp only
     omega
    ·rename_i hi'
     rw[hset i' hi']at h4
     exact r.apart i i' y y' l1 l2 h1 h2 h3 h4 hne hor
  ·intro i hi
   simp only[Heap.push]at hi
   have h1:i≠M.next:=by omega
   rw[Mi,if_neg h1,hset i h1]
   exact r.fresh i (by omega)
 ·intro i hi
  exact hset i (by omega)
 ·simp[Heap.push]
 ·intro i hi hd
  rw[Mi,if_neg (by omega)]
  exact hd
 ·intro i y hy hro
  rw[Mi]at hy
  split at hy
  ·obtain rfl:=av hy
   rw[ho]at hro
   cases hro
  ·exact hy
 ·intro i y l1 h1 h2 h3 h4
  rw[Mi]at h1
  split at h1
  ·rename_i hi
   subst hi
   rw[hself]at h3
   obtain rfl:=av h3
   simp at h4
  ·rename_i hi
   rw[hset i hi]at h3
   exact⟨i,y,l1,h1,h2,h3,rfl⟩
 ·intro j hj hn
  exact hm.old j hj
 ·rw[hm.size];omega
 ·exact hm.os
 ·exact hm.tape
 ·exact hm.output
theorem Tr.kill{ι:jh}{M:Heap}{w:World}(r:R ι M w)(b:Nat)(hb:b<M.next):Tr ι M w ι (M.put b none) w where
 rel:={
  blk:=λi y hy=>by
   rw[mV]at hy
   split at hy
   ·cases hy
   ·exact r.blk i y hy
  apart:=λi i' y y' l1 l2 h1 h2 h3 h4 hne hor=>by
   rw[mV]at h1 h2
   split at h1
   ·cases h1
   ·split at h2
    ·cases h2
    ·exact r.apart i i' y y' l1 l2 h1 h2 h3 h4 hne hor
  fresh:=λi hi=>by
   rw[mV]
   split
   ·exact⟨rfl,(r.fresh i hi).2⟩
   ·exact r.fresh i hi }
 agree _ _:=rfl
 next:=Nat.le_refl _
 dead i hi hd:=by
  rw[mV]
  split
  ·rfl
  ·exact hd
 ro i y hy _:=by
  rw[mV]at hy
  split at hy
  ·cases hy
  ·exact hy
 owned i y l1 h1 h2 h3 _:=by
  rw[mV]at h1
  split at h1
  ·cases h1
  ·exact⟨i,y,l1,h1,h2,h3,rfl⟩
 keep _ _ _:=rfl
 size:=Nat.le_refl _
 os:=rfl
 tape:=rfl
 output:=rfl
theorem Tr.rename {ι:jh} {M:Heap} {w w':World} {b:Nat} {x x':pJ} {l l':Loc} {ob:Obj} (r:R ι M w) (hx:M.get b=some x) (ho:x.own=true) (ho':x'.own=true) (hl:ι b=some l) (hj:l'.j=l.j) (ht:Turned w w' l.j ob)
  (hb:BR (ι.set M.next l') x' l' ob):Tr ι M w (ι.set M.next l') ((M.put b none).push x') w':=by
 have hnone:=(r.fresh M.next (Nat.le_refl _)).2
 have hle:=jh.K8 hnone l'
 have hset:∀i,i≠M.next→(ι.set M.next l') i=ι i:=λi hi=>by simp[jh.set,hi]
 have hself:(ι.set M.next l') M.next=some l':=by simp[jh.set]
 have hg:∀i,((M.put b none).push x').get i=if i=M.next then some x' else if i=b then none else M.get i:=λi=>rfl
 constructor
 ·constructor
  ·intro i y hy
   rw[hg]at hy
   split at hy
   ·rename_i hi
    subst hi
    obtain rfl:=av hy
    exact⟨_,ob,hself,by rw[hj];exact ht.new,hb⟩
   ·split at hy
    ·cases hy
    rename_i hib
    obtain⟨l1,o,h1,h2,h3⟩:=r.blk i y hy
    refine⟨l1,o,hle _ _ h1, ?_,h3.mono hle⟩
    rw[ht.other _ (r.apart i b y x l1 l hy hx h1 hl hib (.inr ho))]
    exact h2
  ·intro i i' y y' l1 l2 h1 h2 h3 h4 hne hor
   rw[hg]at h1 h2
   split at h1
   ·rename_i hi
    subst hi
    rw[if_neg (Ne.symm hne)]at h2
    split at h2
    ·cases h2
    rename_i hib
    rw[hself]at h3
    obtain rfl:=av h3
    rw[hset i' (Ne.symm hne)]at h4
    rw[hj]
    exact r.apart b i' x y' l l2 hx h2 hl h4 (λe=>hib e.symm) (.inl ho)
   ·rename_i hi
    split at h1
    ·cases h1
    rename_i hib
    rw[hset i hi]at h3
    split at h2
    ·rename_i hi'
     subst hi'
     rw[hself]at h4
     obtain rfl:=av h4
     rw[hj]
     exact r.apart i b y x l1 l h1 hx h3 hl hib (.inr ho)
    ·split at h2
     ·cases h2
     rename_i hi' _
     rw[hset i' hi']at h4
     exact r.apart i i' y y' l1 l2 h1 h2 h3 h4 hne hor
  ·intro i hi
   have hi':M.next+1≤i:=hi
   have h1:i≠M.next:=by omega
   have h2:i≠b:=by have:=r.lt hx;omega
   rw[hg,if_neg h1,if_neg h2,hset i h1]
   exact r.fresh i (by omega)
 ·intro i hi
  exact hset i (by omega)
 ·show M.next≤M.next+1
  omega
 ·intro i hi hd
  rw[hg,if_neg (by omega)]
  split
  ·rfl
  ·exact hd
 ·intro i y hy hro
  rw[hg]at hy
  split at hy
  ·obtain rfl:=av hy
   rw[ho']at hro
   cases hro
  ·split at hy
   ·cases hy
   ·exact hy
 ·intro i y l1 h1 h2 h3 h4
  rw[hg]at h1
  split at h1
  ·rename_i hi
   subst hi
   rw[hself]at h3
   obtain rfl:=av h3
   exact⟨b,x,l,hx,ho,hl,hj.symm⟩
  ·rename_i hi
   split at h1
   ·cases h1
   ·rw[hset i hi]at h3
    exact⟨i,y,l1,h1,h2,h3,rfl⟩
 ·intro j hj hn
  exact ht.other j λe=>hn b x l hx ho hl e.symm
 ·rw[ht.size];exact Nat.le_refl _
 ·exact ht.os
 ·exact ht.tape
 ·exact ht.output
theorem abX{w:World}{j o:Nat}{cur:Array Value}{t:TypeId}{fz:Nat×Nat}(v:Value)(h:w.heap[j]?=some (.cells cur t fz)):Turned w (w.setCell ⟨j,o,none⟩ v) j (.cells (cur.setIfInBounds o v) t fz):=by
 refine⟨by simp,λi hi=>by simp[World.setCell,Array.getElem?_modify,Ne.symm hi], ?_,rfl,rfl,rfl⟩
 have hj:=(Array.getElem?_eq_some_iff.1 h).1
 have he:=(Array.getElem?_eq_some_iff.1 h).2
 simp[World.setCell,Array.getElem?_modify,h]
theorem Turned.trans{w w1 w2:World}{j:Nat}{o1 o2:Obj}(h:Turned w w1 j o1)(k:Turned w1 w2 j o2):Turned w w2 j o2 :=
 ⟨k.size.trans h.size,λi hi=>(k.other i hi).trans (h.other i hi),k.new,k.os.trans h.os,k.tape.trans h.tape,k.output.trans h.output⟩
theorem Qq {P:Program} {j o:Nat} {t:TypeId} {fz:Nat×Nat}:∀(vs:List Value) (i:Nat) (cur:Array Value) (w:World),w.heap[j]?=some (.cells cur t fz)→o+i+vs.length≤cur.size→(∀v,v∈vs→v.oneCell'=true) →
  (∀k,o+i≤k→k<o+i+vs.length→¬(fz.1≤k∧k<fz.2))→∃w' cur',(storeCells ⟨j,o,none⟩ vs i).run P w=.ok () w'∧(vs=[]→w'=w)∧(vs≠[]→Turned w w' j (.cells cur' t fz))∧cur'.toList=cur.toList.take (o+i)++vs++cur.toList.drop (o+i+vs.length)
 | [],i,cur,w,h,hs,_,_=>⟨w,cur,by simp[storeCells],λ_=>rfl,λh=>absurd rfl h,by simp⟩
 | v::vs,i,cur,w,h,hs,hv,hf=>by
  simp only[bA]at hs hf
  have hcell:w.cell? ⟨j,o+i,none⟩=some cur[o+i]:=cell_of h (by simp)
  have hfro:w.frozen? ⟨j,o+i,none⟩=false:=by
   have:=hf (o+i) (Nat.le_refl _) (by omega)
   simp[World.frozen?,h]
   omega
  have hstep:(store (⟨j,o+i,none⟩:Addr) v .plain).run P w=.ok () (w.setCell ⟨j,o+i,none⟩ v):=by
   rw[run_store P w _ v _ (hv v (by simp))]
   simp[hcell,hfro]
  have ht:=abX (o:=o+i) v h
  obtain⟨w',cur',h1,h2,h3,h4⟩:=Qq (P:=P) (o:=o) vs (i+1) _ _ ht.new (by simp;omega) (λu hu=>hv u (by simp[hu])) (λk hk hk'=>hf k (by omega) (by omega))
  refine⟨w',cur', ?_,λh=>by simp at h,λ_=>?_, ?_⟩
  ·simp only[storeCells,uf,Sem.run_bind,hstep,Result.andThen_ok]
   exact h1
  ·cases vs with
   | nil =>
    obtain rfl:=h2 rfl
    have:cur'=cur.setIfInBounds (o+i) v:=by
     apply Array.ext'
     rw[h4]
     simp
    rw[this]
    exact ht
   | cons u us=>exact ht.trans (h3 (by simp))
  ·rw[h4]
   simp only[Array.toList_setIfInBounds,bA]
   have e1:(cur.toList.set (o+i) v).take (o+(i+1))=cur.toList.take (o+i)++[v]:=by
    rw[show o+(i+1)=o+i+1 from by omega,List.take_add_one]
    simp[List.take_set_of_le,show o+i<cur.size from by omega]
   have e2:(cur.toList.set (o+i) v).drop (o+(i+1)+vs.length)=cur.toList.drop (o+i+(vs.length+1)):=by
    rw[List.drop_set_of_lt (by omega)]
    congr 1;omega
   rw[e1,e2]
   simp
theorem Ym {P:Program} {ι:jh} {M:Heap} {w:World} (r:R ι M w) {b:Nat} {c:List AV} {sl:Bool} (hb:M.get b=some (.cells c false sl)) {l:Loc} (hl:ι b=some l) {o:Nat} {vs:List Value} (hne:vs≠[]) (ho:o+vs.length≤l.N) (hv:∀v,v∈vs→v.oneCell'=true) :
  ∃w' cs cs' elem fz,(storeCells ⟨l.j,l.d+o,none⟩ vs).run P w=.ok () w'∧w.heap[l.j]?=some (.cells cs elem fz)∧Turned w w' l.j (.cells cs' elem fz)∧cs'.toList=cs.toList.take (l.d+o)++vs++cs.toList.drop (l.d+o+vs.length)∧BR ι (.cells c false sl) l (.cells cs elem fz):=by
 obtain⟨l',ob,hl',hob,hbr⟩:=r.blk b _ hb
 rw[hl]at hl'
 obtain rfl:=av hl'
 have aBU:=hbr
 obtain⟨cs,elem,fz,rfl,h2,h3,h4,h5,h6⟩:=hbr
 obtain⟨w',cs',g1,_,g3,g4⟩:=Qq (P:=P) (o:=l.d+o) vs 0 cs w hob (by omega) hv (λk hk hk'=>by have:=(h6 rfl).1;omega)
 exact⟨w',cs,cs',elem,fz,g1,hob,g3 hne,by simpa using g4,aBU⟩
theorem gT.oneCell{ι:jh}{cs:List AV}{vs:List Value}(h:gT ι cs vs)(hc:∀c,c∈cs→c.iI=true):∀v,v∈vs→v.oneCell'=true:=λv hv=>by
 obtain⟨i,hi⟩:=List.mem_iff_getElem?.1 hv
 have hlt:i<cs.length:=by rw[h.length];exact(aY.1 hi).1
 obtain⟨v',hv',hr⟩:=h.get i cs[i] (by simp)
 rw[hi]at hv'
 obtain rfl:=av hv'
 exact Qn (hc _ (List.getElem_mem hlt)) hr
theorem BR.seg {ι:jh} {c c' new:List AV} {sl sl':Bool} {l:Loc} {cs cs':Array Value} {elem:TypeId} {fz:Nat×Nat} {o:Nat} {vs:List Value} (hss:sl'=false→sl=false) (h:BR ι (.cells c false sl) l (.cells cs elem fz)) (hnew:gT ι new vs) (hc:∀a,a∈new→a.iI=true) (ho:o+vs.length≤l.N)
  (hcs:cs'.toList=cs.toList.take (l.d+o)++vs++cs.toList.drop (l.d+o+vs.length)) (hlen:c'.length≤l.N) (hsl:sl'=false→c'.length=l.N)
  (hc':∀i a,c'[i]?=some a→(o≤i∧i<o+new.length∧new[i-o]?=some a)∨((i<o∨o+new.length≤i)∧c[i]?=some a)):BR ι (.cells c' false sl') l (.cells cs' elem fz):=by
 obtain⟨cs0,ah9,fz0,e,h2,h3,h4,h5,h6⟩:=h
 obtain⟨rfl,rfl,rfl⟩:cs0=cs∧ah9=elem∧fz0=fz:=by injection e with e1 e2 e3;exact⟨e1.symm,e2.symm,e3.symm⟩
 have hvl:=hnew.length
 have hsz:cs'.size=cs0.size:=by
  have:=congrArg List.length hcs
  simp at this
  omega
 refine⟨cs',ah9,fz0,rfl,by omega,hlen,hsl,λi a hi=>?_,λhr=>by rw[hsz];exact⟨(h6 hr).1,λhs=>(h6 hr).2 (hss hs)⟩⟩
 rcases hc' i a hi with⟨q1,q2,q3⟩ |⟨q1,q2⟩
 ·obtain⟨v,hv,hr⟩:=hnew.get _ a q3
  refine⟨v, ?_,hc a (List.mem_of_getElem? q3),hr⟩
  rw[←Array.getElem?_toList,hcs,bR,List.getElem?_append_right (by simp;omega),List.getElem?_append_left (by simp;omega)]
  have:l.d+i-(cs0.toList.take (l.d+o)).length=i-o:=by simp;omega
  rw[this]
  exact hv
 ·obtain⟨v,hv,hcell,hr⟩:=h5 i a q2
  refine⟨v, ?_,hcell,hr⟩
  rw[←Array.getElem?_toList,hcs,bR]
  rw[←Array.getElem?_toList]at hv
  rcases q1 with q1 | q1
  ·rw[List.getElem?_append_left (by simp;have:=(aY.1 hv).1;simp at this;omega),List.getElem?_take,if_pos (by omega)]
   exact hv
  ·rw[List.getElem?_append_right (by simp;omega),List.getElem?_append_right (by simp;omega),List.getElem?_drop]
   have:l.d+o+vs.length+(l.d+i-(cs0.toList.take (l.d+o)).length-vs.length)=l.d+i:=by simp;omega
   rw[this]
   exact hv
theorem Yn {P:Program} {ι:jh} {M M':Heap} {w:World} (r:R ι M w) {b o:Nat} {new:List AV} (h:M.write b o new=some M') {vs:List Value} (hnew:gT ι new vs) (hc:∀a,a∈new→a.iI=true) :
  ∃l w',ι b=some l∧(storeCells ⟨l.j,l.d+o,none⟩ vs).run P w=.ok () w'∧Tr ι M w ι M' w':=by
 unfold Heap.write at h
 split at h
 case h_2=>cases h
 rename_i c sl hb
 split at h
 case isFalse=>cases h
 rename_i hle
 obtain rfl:=av h
 obtain⟨l,ob,hl,hob,hbr⟩:=r.blk b _ hb
 have hN:c.length≤l.N:=by obtain⟨_,_,_,_,_,h3,_⟩:=hbr;exact h3
 have hvl:=hnew.length
 refine⟨l, ?_⟩
 cases hv:vs with
 | nil =>
  subst hv
  have hn0:new=[]:=by cases new with | nil=>rfl | cons _ _=>simp at hvl
  subst hn0
  refine⟨w,hl,by simp[storeCells], ?_⟩
  have e:(M.put b (some (.cells (c.take o++[]++c.drop (o+([]:List AV).length)) false sl)))=M:=by
   unfold Heap.put
   cases M with
   | mk g n =>
    congr
    funext i
    split
    ·rename_i hi
     subst hi
     simp only at hb
     rw[hb]
     simp
    ·rfl
  rw[e]
  exact Tr.refl r
 | cons u us =>
  rw[←hv]
  have hne:vs≠[]:=by rw[hv];simp
  obtain⟨w',cs,cs',elem,fz,g1,g2,g3,g4,g5⟩:=Ym (P:=P) r hb hl (o:=o) hne (by omega) (hnew.oneCell hc)
  refine⟨w',hl,g1,Tr.update r hb rfl rfl hl g3 (BR.seg id g5 hnew hc (by omega) g4 (by simp;omega) (λhs=>?_) ?_)⟩
  ·obtain⟨_,_,_,_,_,_,h4,_⟩:=hbr
   have:=h4 hs
   simp
   omega
  ·intro i a hi
   rw[bR,List.getElem?_append]at hi
   split at hi
   ·rename_i h1
    simp at h1
    rw[List.getElem?_take,if_pos (by omega)]at hi
    exact .inr ⟨.inl (by omega),hi⟩
   ·rename_i h1
    simp at h1
    have htl:(c.take o).length=o:=by simp;omega
    rw[htl,List.getElem?_append]at hi
    split at hi
    ·rename_i h2
     exact .inl ⟨by omega,by omega,hi⟩
    ·rename_i h2
     rw[List.getElem?_drop]at hi
     refine .inr ⟨.inr (by omega), ?_⟩
     rw[←hi]
     congr 1
     omega
def Sound(P:Program)(f:FuncId)(g:List AV→Heap→Option (AV×Heap)):Prop :=
 ∀(args:List AV) (M:Heap) (v:AV) (M':Heap),g args M=some (v,M') →
  ∀(ι:jh) (w:World) (vs:Array Value),R ι M w→gT ι args vs.toList →
   Calls P f vs w λe w'=>∃dK v',e=.returned v'∧VR dK v v'∧Tr ι M w dK M' w'
def UU(P:Program)(f:FuncId):Prop:=∃fn c,P.funcs[f]?=some fn∧fn.body=some c∧(fn.name=="runtime.NumGoroutine")=false
def ZM(P:Program)(f:FuncId)(g:List AV→Heap→Option (AV×Heap)):Prop :=
 ∀(args:List AV) (M:Heap) (v:AV) (M':Heap),g args M=some (v,M')→M'=M∧∀(ι:jh) (w:World) (vs:Array Value),R ι M w→gT ι args vs.toList→∃v',(callFunc f vs).run P w=.ok (.value v') w∧VR ι v v'
def Cy(P:Program)(C:dO):Prop:=∀f,((∀args M r,C f args M=some r→UU P f)∧Sound P f (C f))∨ZM P f (C f)
def JZ(P:Program)(C:dO)(o:Oper)(n:JY):Prop :=
 ∀(ι:jh) (M:Heap) (e:Env) (a:Act) (w:World) (v:AV) (M':Heap) (next:Act→World→Prop) (Q:Exit→Act→World→Prop),R ι M w→gT ι e a.tmps.toList→aN C n e M=some (v,M') →
  (∀dK v' w',Tr ι M w dK M' w'→VR dK v v'→next (a.put o.dst v') w')→o.wp P a w next Q
theorem JZ.of_run{P:Program}{o:Oper}{a:Act}{w w':World}{next:Act→World→Prop}{Q:Exit→Act→World→Prop}{v:Value}(h:(execOp a.eval o).run P w=.ok (.value v) w')(hn:next (a.put o.dst v) w'):o.wp P a w next Q:=by
 unfold Oper.wp
 rw[h]
 exact hn
theorem JZ.auC{P:Program}{o:Oper}{a:Act}{w w':World}{next:Act→World→Prop}{Q:Exit→Act→World→Prop}(h:(execOp a.eval o).run P w=.ok .skip w')(hn:next (a.put o.dst undef) w'):o.wp P a w next Q:=by
 unfold Oper.wp
 rw[h]
 exact hn
theorem VR.unit(ι:jh):VR ι (.tuple []) Go.undef:=by
 simp only[VR,Go.undef]
 exact⟨#[],rfl,by simp[gT]⟩
theorem JZ.fail{P:Program}{C:dO}{o:Oper}:JZ P C o .fail:=by
 intro ι M e a w v M' next Q r he h
 simp[aN]at h
theorem JZ.store{P:Program}{C:dO}{o:Oper}{t:TypeId}{n:Nat}{x y:Operand}{ax ay:AX}(ho:o.op=.store t x y)(hn:ug P t=some n)(hx:cX x=some ax)(hy:cX y=some ay):JZ P C o (.store n ax ay):=by
 intro ι M e a w v M' next Q r he h hnext
 have h1:=iR hx he
 have h2:=iR hy he
 simp only[aN]at h
 unfold abQ at h
 split at h
 case h_2=>cases h
 rename_i b off cs hc1 hc2
 split at h
 case isFalse=>cases h
 rename_i hlen
 obtain⟨M1,hM,h⟩:=aH.1 h
 simp only[aS]at h
 obtain⟨rfl,rfl⟩:=h
 rw[hc1]at h1
 simp only[VR]at h1
 obtain⟨L,hL,h1⟩:=h1
 obtain⟨g1,g2⟩:=Yj hc2 h2
 obtain⟨l,w',hl,hrun,htr⟩:=Yn (P:=P) r hM g1 g2
 rw[hL]at hl
 obtain rfl:=av hl
 have hsz:(a.eval y).cells.size=n:=by have:=g1.length;simp at this;omega
 refine JZ.auC (w':=w') ?_ (hnext ι undef w' htr (VR.unit _))
 simp only[execOp,ho,h1]
 simp[Instr.storeAt,Instr.sureAddr,storeVar,xL hn,hsz,hrun]
theorem JZ.call{P:Program}{C:dO}(hC:Cy P C){o:Oper}{f:Operand}{args:Array Operand}{ts:Array TypeId}{af:AX}{al:List AX}(ho:o.op=.call { callee:=.value f,args:=args,argTypes:=ts })(hf:cX f=some af)(hx:cXs args.toList=some al):JZ P C o (.call af al):=by
 intro ι M e a w v M' next Q r he h hnext
 have h1:=iR hf he
 have h2:=agE he hx
 simp only[aN]at h
 unfold ah4 at h
 split at h
 case h_2=>cases h
 rename_i g caps hc
 rw[hc]at h1
 simp only[VR]at h1
 obtain⟨cs,h1,h3⟩:=h1
 rcases hC g with⟨hB,hS⟩ | hE
 case inr =>
  obtain⟨rfl,q⟩:=hE _ _ _ _ h
  obtain⟨v',q1,q2⟩:=q ι w (args.map a.eval++cs) r (by simpa using h2.append h3)
  refine JZ.of_run (w':=w) (v:=v') ?_ (hnext ι v' w (Tr.refl r) q2)
  simp only[execOp,ho]
  simp[resolve,Deferred.ofValue,h1,invoke,q1]
 obtain⟨fn,c,hfn,hbody,hname⟩:=hB _ _ _ h
 have hs:=hS _ _ _ _ h ι w (args.map a.eval++cs) r (by simpa using h2.append h3)
 have hrun:(execOp a.eval o).run P w=.ok (.enter g (args.map a.eval++cs)) w:=by
  simp only[execOp,ho]
  have hname':¬(fn.name="runtime.NumGoroutine"):=by simpa using hname
  simp[resolve,Deferred.ofValue,h1,invoke,callFunc,hfn,hbody,hname']
 unfold Oper.wp
 rw[hrun]
 rw[Oper.upon_enter]
 refine hs.mono ?_
 rintro e' w' ⟨dK,v',rfl,hv',htr⟩
 exact hnext dK v' w' htr hv'
theorem Hq(z:Array Value)(n:Nat):Builtin.zeroCells z n=madeCells z (n*z.size):=rfl
theorem aax {P:Program} (w:World) (t u ty e:TypeId) (i:TypeInfo) (z:Value) (ht:P.underlying t=some (.slice e)) (hu:P.underlying u=some .string∨∃e',P.underlying u=some (.slice e')) (hi:P.info? e=some i) (hz:i.zero=some z)
  (base:Option Addr) (sLen sCap n:Nat) (x:Value) (olds news:Array Value) (hold:∀w',w'.heap=w.heap→(Builtin.firstCells i.size sLen (.slice base sLen sCap)).run P w'=.ok olds w')
  (hlen:∀w',(Builtin.lenOf x).run P w'=.ok n w') (hnew:∀w',w'.heap=w.heap→(Builtin.firstCells i.size n x).run P w'=.ok news w')
  (hg:sCap<sLen+n) (h63:((sLen+n:Nat):Int)≤9223372036854775807) (hfit:Builtin.nextslicecap (sLen+n) sCap*i.bytes≤281474976710656) :
  (Builtin.append_ #[t,u] ty #[.slice base sLen sCap,x]).run P w =
   .ok (.slice (some ⟨w.heap.size,0,none⟩) (sLen+n) (grownCap w (sLen+n) sCap e))
    (w.drew.alloc (.cells (olds++news++madeCells z.cells ((grownCap w (sLen+n) sCap e-(sLen+n))*z.cells.size)) e)):=by
 have hn:¬(sLen+n≤sCap):=by omega
 have h63':¬(9223372036854775807<((sLen:Int)+(n:Int))):=by omega
 have h48':¬(281474976710656<Builtin.nextslicecap (sLen+n) sCap*i.bytes):=by omega
 have h1:=hold w.drew rfl
 have h2:=hnew w.drew rfl
 rcases hu with hu |⟨e',hu⟩ <;>
  simp[Builtin.append_,run_underlying ht,run_underlying hu,sizeOf,typeInfo,zeroValue,hi,hz,hlen,hn,h63',h48',Question.forced,h1,h2,newRow,grownCap,Hq]
theorem PO {P:Program} (w:World) (t u ty e:TypeId) (i:TypeInfo) (z:Value) (ht:P.underlying t=some (.slice e)) (hu:∃k,P.underlying u=some (.int k)) (hi:P.info? e=some i) (hz:i.zero=some z)
  (base:Option Addr) (sLen sCap n:Nat) (kk:IntKind) (olds:Array Value) (hold:∀w',w'.heap=w.heap→(Builtin.firstCells i.size sLen (.slice base sLen sCap)).run P w'=.ok olds w') (hsz:0<i.size) (hzs:z.cells.size=i.size)
  (hn0:0<n) (hg:sCap<sLen+n) (h63:((sLen+n:Nat):Int)≤9223372036854775807) (hb:n*i.bytes≤281474976710656) (hfit:Builtin.nextslicecap (sLen+n) sCap*i.bytes≤281474976710656) :
  (Builtin.append_ #[t,u] ty #[.slice base sLen sCap,.int kk n]).run P w =
   .ok (.slice (some ⟨w.heap.size,0,none⟩) (sLen+n) (grownCap w (sLen+n) sCap e))
    (w.drew.alloc (.cells (olds++madeCells z.cells (n*z.cells.size)++madeCells z.cells ((grownCap w (sLen+n) sCap e-(sLen+n))*z.cells.size)) e)):=by
 have hn:¬(sLen+n≤sCap):=by omega
 have h63':¬(9223372036854775807<((sLen:Int)+(n:Int))):=by omega
 have h48':¬(281474976710656<Builtin.nextslicecap (sLen+n) sCap*i.bytes):=by omega
 obtain⟨k,hu⟩:=hu
 have h1:=hold w.drew rfl
 have hw:IntKind.i64.wrap (n:Int)=n:=by rw[IntKind.wrap_i64];omega
 have hb':¬((281474976710656:Int)<(n:Int)*(i.bytes:Int)):=by
  rw[←Int.natCast_mul]
  omega
 have h0:¬(n*i.size=0):=by
  intro h
  rcases Nat.mul_eq_zero.1 h with h | h<;>omega
 have hneg:¬((n:Int)<0):=by omega
 simp[Builtin.append_,run_underlying ht,run_underlying hu,sizeOf,typeInfo,zeroValue,hi,hz,hn,h63',h48',Question.forced,h1,newRow,grownCap,Hq,asInt,asIntOf,hw,hb',h0,hneg]
theorem run_append_room {P:Program} (w:World) (t u ty e:TypeId) (i:TypeInfo) (ht:P.underlying t=some (.slice e)) (hu:P.underlying u=some .string∨∃e',P.underlying u=some (.slice e')) (hi:P.info? e=some i)
  (ad:Addr) (sLen sCap n:Nat) (x:Value) (news:Array Value) (w':World)
  (hlen:∀w',(Builtin.lenOf x).run P w'=.ok n w') (hnew:(Builtin.firstCells i.size n x).run P w=.ok news w)
  (hg:sLen+n≤sCap) (hst:(storeCells (ad.add (sLen*i.size)) news.toList).run P w=.ok () w') :
  (Builtin.append_ #[t,u] ty #[.slice (some ad) sLen sCap,x]).run P w=.ok (.slice (some ad) (sLen+n) sCap) w':=by
 rcases hu with hu |⟨e',hu⟩ <;>
  simp[Builtin.append_,run_underlying ht,run_underlying hu,sizeOf,typeInfo,hi,hlen,hg,hnew,hst]
theorem PS {P:Program} (w:World) (t u ty e:TypeId) (i:TypeInfo) (z:Value) (ht:P.underlying t=some (.slice e)) (hu:∃k,P.underlying u=some (.int k)) (hi:P.info? e=some i) (hz:i.zero=some z)
  (ad:Addr) (sLen sCap n:Nat) (kk:IntKind) (w':World) (hsz:0<i.size) (hn63:(n:Int)≤9223372036854775807) (hb:n*i.bytes≤281474976710656)
  (hn0:0<n) (hg:sLen+n≤sCap) (hst:(storeCells (ad.add (sLen*i.size)) (madeCells z.cells (n*z.cells.size)).toList).run P w=.ok () w') :
  (Builtin.append_ #[t,u] ty #[.slice (some ad) sLen sCap,.int kk n]).run P w=.ok (.slice (some ad) (sLen+n) sCap) w':=by
 obtain⟨k,hu⟩:=hu
 have hw:IntKind.i64.wrap (n:Int)=n:=by rw[IntKind.wrap_i64];omega
 have hb':¬((281474976710656:Int)<(n:Int)*(i.bytes:Int)):=by
  rw[←Int.natCast_mul]
  omega
 have h0:¬(n*i.size=0):=by
  intro h
  rcases Nat.mul_eq_zero.1 h with h | h<;>omega
 have hneg:¬((n:Int)<0):=by omega
 simp[Builtin.append_,run_underlying ht,run_underlying hu,sizeOf,typeInfo,zeroValue,hi,hz,hg,asInt,asIntOf,hw,hb',h0,Hq,hst,hneg]
theorem run_append_nothing {P:Program} (w:World) (t u ty e:TypeId) (i:TypeInfo) (ht:P.underlying t=some (.slice e)) (hu:P.underlying u=some .string∨∃e',P.underlying u=some (.slice e')) (hi:P.info? e=some i)
  (base:Option Addr) (sLen sCap:Nat) (x:Value) (hlen:∀w',(Builtin.lenOf x).run P w'=.ok 0 w') (hnew:(Builtin.firstCells i.size 0 x).run P w=.ok #[] w) (hg:sLen≤sCap) :
  (Builtin.append_ #[t,u] ty #[.slice base sLen sCap,x]).run P w=.ok (.slice base sLen sCap) w:=by
 rcases hu with hu |⟨e',hu⟩<;>cases base <;>
  simp[Builtin.append_,run_underlying ht,run_underlying hu,sizeOf,typeInfo,hi,hlen,hg,hnew,storeCells]
theorem afe {P:Program} {ι:jh} {M:Heap} {w:World} (r:R ι M w) {x:AV} {v:Value} (hx:VR ι x v) {sz n:Nat} {new:List AV} (hs:gH x sz=true) (h:qd x M=some (n,new)) :
  (∀w',(Builtin.lenOf v).run P w'=.ok n w')∧∃news:Array Value,(∀w',w'.heap=w.heap→(Builtin.firstCells sz n v).run P w'=.ok news w')∧gT ι new news.toList∧(∀a,a∈new→a.iI=true)∧new.length=n*sz:=by
 unfold qd at h
 split at h
 ·rename_i sz' len cap ex
  simp only[aC,aS]at h
  obtain⟨rfl,rfl⟩:=h
  simp only[VR]at hx
  obtain⟨rfl,rfl,_⟩:=hx
  refine⟨λw'=>by simp[Builtin.lenOf],#[],λw' _=>by simp[Builtin.firstCells],by simp[gT],by simp,by simp⟩
 ·rename_i b o sz' len cap ex
  split at h
  ·rename_i h0
   subst h0
   simp only[aC,aS]at h
   obtain⟨rfl,rfl⟩:=h
   simp only[VR]at hx
   obtain⟨L,ad,cap',e1,rfl,e3,e4,e5,e6,e7,e8,e9,e10⟩:=hx
   refine⟨λw'=>by simp[Builtin.lenOf],#[],λw' _=>by simp[Builtin.firstCells,loadCells,loadCellsFrom],by simp[gT],by simp,by simp⟩
  rename_i aAq
  obtain⟨cs,hcs,h⟩:=aH.1 h
  simp only[aS]at h
  obtain⟨rfl,rfl⟩:=h
  simp only[gH,beq_iff_eq]at hs
  subst hs
  simp only[VR]at hx
  obtain⟨L,ad,cap',e1,rfl,e3,e4,e5,e6,e7,e8,e9,e10⟩:=hx
  obtain⟨hlen,hc,l,vs,hl,hr,hcell⟩:=r.read hcs
  rw[e1]at hl
  obtain rfl:=av hl
  refine⟨λw'=>by simp[Builtin.lenOf],vs.toArray,λw' hw'=>?_,by simpa using hr,hc,hlen⟩
  have hvl:vs.length=len*sz':=by rw[←hr.length,hlen]
  rcases Nat.eq_zero_or_pos cap' with h0 | hpos
  ·obtain rfl:len=0:=by omega
   have:vs=[]:=by cases vs with | nil=>rfl | cons _ _=>simp at hvl
   subst this
   simp[Builtin.firstCells,loadCells,loadCellsFrom]
  ·replace e3:=e3.resolve_left (by omega)
   replace e4:=e4.resolve_left (by omega)
   have h0:=e5.resolve_left (by omega)
   have had:ad=⟨L.j,L.d+o,none⟩:=by
    obtain⟨q1,q2,q3⟩:=ad
    simp only at e3 e4 h0
    subst e3 e4 h0
    rfl
   rw[had]
   refine run_firstCells_some w' sz' len _ len cap' vs hvl λj v hv=>?_
   rw[uf]
   have:=hcell j v hv
   unfold World.cell? at this ⊢
   rw[hw']
   exact this
 ·rename_i s
  simp only[aC,aS]at h
  obtain⟨rfl,rfl⟩:=h
  simp only[gH,beq_iff_eq]at hs
  subst hs
  simp only[VR]at hx
  obtain⟨b,rfl,rfl⟩:=hx
  have hbl:b.data.toList.length=b.size:=by simp
  refine⟨λw'=>by simp[Builtin.lenOf],b.data.map (λc=>Value.int .u8 c.toNat),λw' _=>?_, ?_, ?_,by simp⟩
  ·rw[hbl]
   simp[Builtin.firstCells]
  ·refine gT.Cx (by simp) λi x y hx hy=>?_
   simp only[Array.toList_map,List.getElem?_map,aH]at hx hy
   obtain⟨u,hu,rfl⟩:=hx
   obtain⟨u',hu',rfl⟩:=hy
   rw[hu]at hu'
   obtain rfl:=av hu'
   simp[VR]
  ·intro c hc
   obtain⟨u,_,rfl⟩:=List.mem_map.1 hc
   rfl
 ·cases h
theorem Wd {P:Program} {ι:jh} {M M':Heap} {w:World} (r:R ι M w) {e:TypeId} {i:TypeInfo} {z:Value} {s v:AV} {sv:Value} (hs:VR ι s sv) {n:Nat} {new:List AV} {news:Array Value} (hnew:gT ι new news.toList) (hc:∀a,a∈new→a.iI=true) (hlen:new.length=n*i.size) (hsz:0<i.size) (hzs:z.cells.size=i.size)
  (h:iK i.size i.bytes s n new M=some (v,M')) {run:World→Result Value}
  (hroom:∀ad sLen sCap w',0<n→sv=.slice (some ad) sLen sCap→sLen+n≤sCap→(storeCells (ad.add (sLen*i.size)) news.toList).run P w=.ok () w'→run w=.ok (.slice (some ad) (sLen+n) sCap) w')
  (hmore:∀base sLen sCap olds,sv=.slice base sLen sCap→(∀w',w'.heap=w.heap→(Builtin.firstCells i.size sLen (.slice base sLen sCap)).run P w'=.ok olds w')→0<n→sCap<sLen+n→((sLen+n:Nat):Int)≤9223372036854775807→n*i.bytes≤281474976710656→Builtin.nextslicecap (sLen+n) sCap*i.bytes≤281474976710656 →
   run w=.ok (.slice (some ⟨w.heap.size,0,none⟩) (sLen+n) (grownCap w (sLen+n) sCap e)) (w.drew.alloc (.cells (olds++news++madeCells z.cells ((grownCap w (sLen+n) sCap e-(sLen+n))*z.cells.size)) e)))
  (aia:∀base sLen sCap,n=0→sv=.slice base sLen sCap→sLen≤sCap→run w=.ok (.slice base sLen sCap) w) :
  ∃dK v' w',run w=.ok v' w'∧VR dK v v'∧Tr ι M w dK M' w':=by
 have hnl:news.size=n*i.size:=by have:=hnew.length;simp at this;omega
 -- a new block,whatever the base
 have fresh:∀(base:Option Addr) (sLen sCap:Nat) (old:List AV) (olds:Array Value),sv=.slice base sLen sCap→(∀w',w'.heap=w.heap→(Builtin.firstCells i.size sLen (.slice base sLen sCap)).run P w'=.ok olds w')→gT ι old olds.toList→(∀a,a∈old→a.iI=true)→old.length=sLen*i.size→0<n→sCap<sLen+n →
   (sLen+n)*i.bytes≤70368744177664→sLen+n≤70368744177664→∀ {M1:Heap},R ι M1 w→M1.next=M.next→∃dK v' w',run w=.ok v' w'∧VR dK (.slice (some (M.next,0)) i.size (sLen+n) (sLen+n) false) v'∧Tr ι M1 w dK (M1.push (.cells (old++new) false true)) w':=by
  intro base sLen sCap old olds hsv hold ho1 ho2 ho3 hn0 hg hb1 hb2 M1 r1 hnext
  have hb3:n*i.bytes≤(sLen+n)*i.bytes:=Nat.mul_le_mul_right _ (by omega)
  have hrun:=hmore base sLen sCap olds hsv hold hn0 hg (by omega) (by omega) (growslice_fits hg (by omega))
  have hcap:sLen+n≤grownCap w (sLen+n) sCap e:=by simp only[grownCap,Question.cut];omega
  have hos:olds.size=sLen*i.size:=by have:=ho1.length;simp at this;omega
  have hmul:(sLen+n)*i.size=sLen*i.size+n*i.size:=Nat.add_mul _ _ _
  have aAr:grownCap w (sLen+n) sCap e*i.size=(sLen+n)*i.size+(grownCap w (sLen+n) sCap e-(sLen+n))*i.size:=by rw[←Nat.add_mul];congr 1;omega
  have htot:(olds++news++madeCells z.cells ((grownCap w (sLen+n) sCap e-(sLen+n))*z.cells.size)).size=grownCap w (sLen+n) sCap e*i.size:=by
   simp only[Array.size_append,size_madeCells,hzs]
   omega
  have hnone:=(r1.fresh M1.next (Nat.le_refl _)).2
  refine⟨_,_,_,hrun, ?_,Tr.push r1 rfl (Made.akJ _ _) (BR.new (cs:=old++new) ⟨(sLen+n)*i.size, ?_, ?_,λh=>by cases h⟩ ?_ ⟨.inl rfl,λ_=>rfl⟩)⟩
  ·simp only[VR]
   refine⟨_,_,_,by rw[hnext];simp[jh.set];rfl,rfl,.inr rfl,.inr rfl,.inr rfl,Nat.le_refl _,hcap,(λh=>by cases h), ?_,hsz⟩
   have h1:=htot
   simp only[Array.size_append]at h1 ⊢
   omega
  ·have e1:(olds++news++madeCells z.cells ((grownCap w (sLen+n) sCap e-(sLen+n))*z.cells.size)).toList.take ((sLen+n)*i.size)=olds.toList++news.toList:=by
    simp only[Array.toList_append]
    rw[List.take_append_of_le_length (by simp;omega),List.take_of_length_le (by simp;omega)]
   rw[e1]
   have hle:=jh.K8 hnone ⟨w.heap.size,0,(olds++news++madeCells z.cells ((grownCap w (sLen+n) sCap e-(sLen+n))*z.cells.size)).size⟩
   exact(ho1.append hnew).mono hle
  ·rw[htot];omega
  ·intro c hcm
   rcases List.mem_append.1 hcm with hcm | hcm
   ·exact ho2 c hcm
   ·exact hc c hcm
 unfold iK at h
 split at h
 case h_2=>cases h
 rename_i a sz' len cap ex
 split at h
 ·cases h
 rename_i apE
 split at h
 ·-- surely room
  rename_i hroomy
  cases a with
  | none =>
   simp only at h
   split at h
   case isFalse=>cases h
   rename_i hn0
   simp only[aC,aS]at h
   obtain⟨rfl,rfl⟩:=h
   have hs':=hs
   simp only[VR]at hs'
   obtain⟨rfl,rfl,rfl,rfl⟩:=hs'
   refine⟨ι,_,w,aia none 0 0 hn0 rfl (Nat.le_refl _), ?_,Tr.refl r⟩
   simp[VR]
  | some p =>
   obtain⟨b,o⟩:=p
   obtain rfl:sz'=i.size:=by simpa using apE
   have hs':=hs
   simp only[VR]at hs'
   obtain⟨L,ad,cap',e1,rfl,e3,e4,e5,e6,e7,e8,e9,e10⟩:=hs'
   simp only at h
   split at h
   ·rename_i hn0
    simp only[aC,aS]at h
    obtain⟨rfl,rfl⟩:=h
    exact⟨ι,_,w,aia _ _ _ hn0 rfl (by omega),hs,Tr.refl r⟩
   ·rename_i hn0
    obtain⟨M1,hM,h⟩:=aH.1 h
    simp only[aS]at h
    obtain⟨rfl,rfl⟩:=h
    obtain⟨l,w',hl,hrun,htr⟩:=Yn (P:=P) r hM hnew hc
    rw[e1]at hl
    obtain rfl:=av hl
    replace e3:=e3.resolve_left (by omega)
    replace e4:=e4.resolve_left (by omega)
    have h0:=e5.resolve_left (by omega)
    have had:ad=⟨L.j,L.d+o,none⟩:=by
     obtain⟨q1,q2,q3⟩:=ad
     simp only at e3 e4 h0
     subst e3 e4 h0
     rfl
    subst had
    refine⟨ι,_,w',hroom _ _ _ w' (by omega) rfl (by omega) ?_, ?_,htr⟩
    ·rw[uf]
     rw[←Nat.add_assoc]at hrun
     exact hrun
    ·simp only[VR]
     exact⟨L,_,cap',e1,rfl,.inr rfl,.inr rfl,.inr rfl,by omega,e7,e8,e9,e10⟩
 ·rename_i aBQ
  split at h
  case isFalse=>cases h
  rename_i hbounds
  cases a with
  | none =>
   simp only[aC,aS]at h
   obtain⟨rfl,rfl⟩:=h
   have hs':=hs
   simp only[VR]at hs'
   obtain⟨rfl,rfl,rfl,rfl⟩:=hs'
   have:=fresh none 0 0 [] #[] rfl (λw' _=>by simp[Builtin.firstCells]) (by simp[gT]) (by simp) (by simp) (by omega) (by omega) hbounds.1 hbounds.2 r rfl
   simpa using this
  | some p =>
   obtain⟨b,o⟩:=p
   obtain rfl:sz'=i.size:=by simpa using apE
   obtain⟨old,hold,h⟩:=aR.1 h
   have hs':=hs
   simp only[VR]at hs'
   obtain⟨L,ad,cap',e1,rfl,e3,e4,e5,e6,e7,e8,e9,e10⟩:=hs'
   have hel:∃olds:Array Value,(∀w',w'.heap=w.heap→(Builtin.firstCells i.size len (.slice (some ad) len cap')).run P w'=.ok olds w')∧gT ι old olds.toList∧(∀a,a∈old→a.iI=true)∧old.length=len*i.size:=by
    have:=(afe (P:=P) r hs (sz:=i.size) (n:=len) (new:=old) (by simp[gH]) (by
     simp only[qd]
     by_cases h0:len=0
     ·have:old=[]:=by
       split at hold
       ·exact(av hold).symm
       ·have:=(r.read hold).1
        rw[h0]at this
        simpa using this
      simp[h0,this]
     ·rw[if_neg (λhx=>h0 hx.2)]at hold
      simp[h0,hold])).2
    exact this
   obtain⟨olds,ho1,ho2,ho3,ho4⟩:=hel
   split at h
   ·rename_i hex
    simp only[aC,aS]at h
    obtain⟨rfl,rfl⟩:=h
    have:=e8 hex
    exact fresh (some ad) len cap' old olds rfl ho1 ho2 ho3 ho4 (by omega) (by omega) hbounds.1 hbounds.2 r rfl
   ·split at h
    case h_2=>cases h
    rename_i c sl hb
    simp only[aC,aS]at h
    obtain⟨rfl,rfl⟩:=h
    have hblt:=r.lt hb
    rcases Nat.lt_or_ge cap' (len+n)with hg | hg
    ·have hk:=Tr.kill r b hblt
     obtain⟨dK,v',w',q1,q2,q3⟩:=fresh (some ad) len cap' old olds rfl ho1 ho2 ho3 ho4 (by omega) hg hbounds.1 hbounds.2 hk.rel rfl
     exact⟨dK,v',w',q1,q2,hk.trans q3⟩
    ·-- there is room
     replace e3:=e3.resolve_left (by omega)
     replace e4:=e4.resolve_left (by omega)
     have h0:=e5.resolve_left (by omega)
     have had:ad=⟨L.j,L.d+o,none⟩:=by
      obtain⟨q1,q2,q3⟩:=ad
      simp only at e3 e4 h0
      subst e3 e4 h0
      rfl
     subst had
     have hmul:(len+n)*i.size=len*i.size+n*i.size:=Nat.add_mul _ _ _
     have aAr:(len+n)*i.size≤cap'*i.size:=Nat.mul_le_mul_right _ hg
     have aDA:0<n*i.size:=Nat.mul_pos (by omega) hsz
     obtain⟨w',cs,cs',elem,fz,g1,g2,g3,g4,g5⟩:=Ym (P:=P) r hb e1 (o:=o+len*i.size) (vs:=news.toList) (by intro hn;have:=congrArg List.length hn;simp at this;simp[this]at hnl;omega) (by simp;omega) (hnew.oneCell hc)
     rw[←Nat.add_assoc]at g1
     have hrun:=hroom _ _ _ w' (by omega) rfl hg (by rw[uf];exact g1)
     have hnone:=(r.fresh M.next (Nat.le_refl _)).2
     have hle:=jh.K8 hnone ⟨L.j,L.d+o,L.N-o⟩
     refine⟨_,_,w',hrun, ?_,Tr.rename (l':=⟨L.j,L.d+o,L.N-o⟩) r hb rfl rfl e1 rfl g3 ?_⟩
     ·simp only[VR]
      refine⟨⟨L.j,L.d+o,L.N-o⟩,⟨L.j,L.d+o,none⟩,cap',by simp[jh.set],rfl,.inr rfl,.inr rfl,.inr rfl,Nat.le_refl _,hg,(λh=>by cases h), ?_,hsz⟩
      simp only
      omega
     ·obtain⟨cs0,ah9,fz0,eq0,b2,b3,b4,b5,b6⟩:=g5
      obtain⟨rfl,rfl,rfl⟩:cs0=cs∧ah9=elem∧fz0=fz:=by injection eq0 with e1 e2 e3;exact⟨e1.symm,e2.symm,e3.symm⟩
      have hsz':cs'.size=cs0.size:=by
       have:=congrArg List.length g4
       simp at this
       omega
      -- the old cells,too,as they are read
      obtain⟨_,_,l0,vs0,hl0,hr0,hcell0⟩:=r.read (b:=b) (o:=o) (cs:=old) (n:=len*i.size) (by
       rw[if_neg (λhx=>absurd hx.1 ‹¬ex=true›)]at hold
       exact hold)
      rw[e1]at hl0
      obtain rfl:=av hl0
      refine⟨cs',ah9,fz0,rfl,by simp only;omega,by simp;omega,(λh=>by cases h),λk a hk=>?_,λ_=>by rw[hsz'];exact⟨(b6 rfl).1,λh=>by cases h⟩⟩
      simp only
      rw[List.getElem?_append]at hk
      split at hk
      ·rename_i hk1
       obtain⟨v0,hv0,hvr⟩:=hr0.get k a hk
       refine⟨v0, ?_,ho3 a (List.mem_of_getElem? hk),hvr.mono hle⟩
       have hcl:=hcell0 k v0 hv0
       simp[World.cell?,g2]at hcl
       have hlt:=(Array.getElem?_eq_some_iff.1 hcl).1
       rw[←Array.getElem?_toList,g4,bR,List.getElem?_append_left (by simp;omega),List.getElem?_take,if_pos (by omega),Array.getElem?_toList]
       exact hcl
      ·rename_i hk1
       obtain⟨v0,hv0,hvr⟩:=hnew.get _ a hk
       have hlt:=(aY.1 hv0).1
       refine⟨v0, ?_,hc a (List.mem_of_getElem? hk),hvr.mono hle⟩
       rw[←Array.getElem?_toList,g4,bR,List.getElem?_append_right (by simp;omega),List.getElem?_append_left (by simp at hlt ⊢;omega)]
       have:L.d+o+k-(cs0.toList.take (L.d+(o+len*i.size))).length=k-old.length:=by simp;omega
       rw[this]
       exact hv0
theorem aff{P:Program}{t:TypeId}{zero:List AV}{i:TypeInfo}(hz:zeroOf P t=some zero)(hi:P.info? t=some i):∃z,i.zero=some z∧(∀ι,gT ι zero z.cells.toList)∧∀a,a∈zero→a.iI=true:=by
 unfold zeroOf at hz
 split at hz
 case h_2=>cases hz
 rename_i z hz2
 obtain⟨it,hit,hz3⟩:=aR.1 hz2
 rw[hi]at hit
 obtain rfl:=av hit
 exact⟨z,hz3,λι=>(su ι hz).1,(su (λ_=>none) hz).2⟩
theorem JZ.append {P:Program} {C:dO} {o:Oper} {t u elem:TypeId} {i:TypeInfo} {zero:List AV} {x y:Operand} {ax ay:AX} (ho:o.op=.call { callee:=.builtin .append,args:=#[x,y],argTypes:=#[t,u] }) (ht:P.underlying t=some (.slice elem)) (hu:P.underlying u=some .string∨∃e',P.underlying u=some (.slice e'))
  (hi:P.info? elem=some i) (hsz:0<i.size) (hz:zeroOf P elem=some zero) (hzl:zero.length=i.size) (hx:cX x=some ax) (hy:cX y=some ay):JZ P C o (.append i.size i.bytes ax ay):=by
 intro ι M e a w v M' next Q r he h hnext
 have h1:=iR hx he
 have h2:=iR hy he
 simp only[aN]at h
 split at h
 case isFalse=>cases h
 rename_i hes
 obtain⟨⟨n,new⟩,hel,h⟩:=aR.1 h
 obtain⟨z,hz1,hz2,hz3⟩:=aff hz hi
 have hzs:z.cells.size=i.size:=by have:=(hz2 ι).length;simp at this;omega
 obtain⟨g1,news,g2,g3,g4,g5⟩:=afe (P:=P) r h2 hes hel
 obtain⟨dK,v',w',q1,q2,q3⟩:=Wd (P:=P) (e:=elem) r h1 g3 g4 g5 hsz hzs h (run:=λw=>(Builtin.append_ #[t,u] o.type #[a.eval x,a.eval y]).run P w)
  (λad sLen sCap w' hn hsv hle hst=>by
   simp only[hsv]
   exact run_append_room (P:=P) w t u o.type elem i ht hu hi ad sLen sCap n (a.eval y) news w' g1 (g2 w rfl) hle hst)
  (λbase sLen sCap olds hsv hold hn hg h63 hb hfit=>by
   simp only[hsv]
   exact aax (P:=P) w t u o.type elem i z ht hu hi hz1 base sLen sCap n (a.eval y) olds news hold g1 g2 hg h63 hfit)
  (λbase sLen sCap hn hsv hle=>by
   subst hn
   simp only[hsv]
   have hnew:news=#[]:=by
    have:=g3.length
    simp at g5 this
    simp[g5]at this
    exact Array.eq_empty_of_size_eq_zero this.symm
   exact run_append_nothing (P:=P) w t u o.type elem i ht hu hi base sLen sCap (a.eval y) g1 (by rw[←hnew];exact g2 w rfl) hle)
 refine JZ.of_run (w':=w') (v:=v') ?_ (hnext dK v' w' q3 q2)
 simp only[execOp,ho]
 simp[resolve,invoke,builtin,q1]
theorem JZ.Cw {P:Program} {C:dO} {o:Oper} {t u elem:TypeId} {i:TypeInfo} {zero:List AV} {x y:Operand} {ax ay:AX} (ho:o.op=.call { callee:=.builtin .append,args:=#[x,y],argTypes:=#[t,u] }) (ht:P.underlying t=some (.slice elem)) (hu:∃k,P.underlying u=some (.int k))
  (hi:P.info? elem=some i) (hsz:0<i.size) (hz:zeroOf P elem=some zero) (hzl:zero.length=i.size) (hx:cX x=some ax) (hy:cX y=some ay):JZ P C o (.Cw i.size i.bytes zero ax ay):=by
 intro ι M e a w v M' next Q r he h hnext
 have h1:=iR hx he
 have h2:=iR hy he
 simp only[aN]at h
 split at h
 case h_2=>cases h
 rename_i kk n hc
 rw[hc]at h2
 simp only[VR]at h2
 split at h
 case isFalse=>cases h
 rename_i hn
 obtain⟨m,rfl⟩:=Int.eq_ofNat_of_zero_le (Int.le_of_lt hn.1)
 simp only[bL]at h hn
 obtain⟨z,hz1,hz2,hz3⟩:=aff hz hi
 have hzs:z.cells.size=i.size:=by have:=(hz2 ι).length;simp at this;omega
 have hb:m*i.bytes≤281474976710656:=by rw[Nat.mul_comm];exact hn.2.2
 obtain⟨dK,v',w',q1,q2,q3⟩:=Wd (P:=P) (e:=elem) (z:=z) r h1 (abz (hz2 ι) m) (λc hc=>hz3 c (V9 hc)) (by rw[Ko,hzl]) hsz hzs h (run:=λw=>(Builtin.append_ #[t,u] o.type #[a.eval x,a.eval y]).run P w)
  (λad sLen sCap w' hn0 hsv hle hst=>by
   simp only[hsv,h2]
   exact PS (P:=P) w t u o.type elem i z ht hu hi hz1 ad sLen sCap m kk w' hsz (by omega) hb hn0 hle hst)
  (λbase sLen sCap olds hsv hold hn0 hg h63 hb' hfit=>by
   simp only[hsv,h2]
   exact PO (P:=P) w t u o.type elem i z ht hu hi hz1 base sLen sCap m kk olds hold hsz hzs hn0 hg h63 hb' hfit)
  (λbase sLen sCap hn0 hsv hle=>by omega)
 refine JZ.of_run (w':=w') (v:=v') ?_ (hnext dK v' w' q3 q2)
 simp only[execOp,ho]
 simp[resolve,invoke,builtin,q1]
theorem auD {P:Program} {ι:jh} {M:Heap} {w:World} (r:R ι M w) {x:AV} {v:Value} (hx:VR ι x v) {sz m k:Nat} {cs:List AV} (hs:gH x sz=true) (hm:aSize x=some m) (hk:k≤m) (h:agC x k M=some cs) :
  (∀w',(Builtin.lenOf v).run P w'=.ok m w')∧∃news:Array Value,(Builtin.firstCells sz k v).run P w=.ok news w∧gT ι cs news.toList∧(∀a,a∈cs→a.iI=true)∧cs.length=k*sz:=by
 unfold aSize at hm
 split at hm
 ·rename_i p sz' len cap ex
  obtain rfl:=av hm
  cases p with
  | none =>
   simp only[agC,aC]at h
   subst h
   simp only[gH,beq_iff_eq]at hs
   subst hs
   simp only[VR]at hx
   obtain⟨rfl,_⟩:=hx
   obtain rfl:k=0:=by omega
   exact⟨λw'=>by simp[Builtin.lenOf],#[],by simp[Builtin.firstCells],by simp[gT],by simp,by simp⟩
  | some q =>
   obtain⟨b,o⟩:=q
   simp only[gH,beq_iff_eq]at hs
   subst hs
   simp only[agC]at h
   simp only[VR]at hx
   obtain⟨L,ad,cap',e1,rfl,e3,e4,e5,e6,e7,e8,e9,e10⟩:=hx
   refine⟨λw'=>by simp[Builtin.lenOf], ?_⟩
   split at h
   ·rename_i h0
    subst h0
    obtain rfl:=av h
    exact⟨#[],by simp[Builtin.firstCells,loadCells,loadCellsFrom],by simp[gT],by simp,by simp⟩
   rename_i h0
   obtain⟨hlen,hc,l,vs,hl,hr,hcell⟩:=r.read h
   rw[e1]at hl
   obtain rfl:=av hl
   have hvl:vs.length=k*sz':=by rw[←hr.length,hlen]
   replace e3:=e3.resolve_left (by omega)
   replace e4:=e4.resolve_left (by omega)
   have h1:=e5.resolve_left (by omega)
   have had:ad=⟨L.j,L.d+o,none⟩:=by
    obtain⟨q1,q2,q3⟩:=ad
    simp only at e3 e4 h1
    subst e3 e4 h1
    rfl
   refine⟨vs.toArray, ?_,by simpa using hr,hc,hlen⟩
   rw[had]
   refine run_firstCells_some w sz' k _ len cap' vs hvl λj v hv=>?_
   rw[uf]
   exact hcell j v hv
 ·rename_i s
  obtain rfl:=av hm
  simp only[gH,beq_iff_eq]at hs
  subst hs
  simp only[agC,aC]at h
  subst h
  simp only[VR]at hx
  obtain⟨b,rfl,rfl⟩:=hx
  have hbl:b.data.toList.length=b.size:=by simp
  refine⟨λw'=>by simp[Builtin.lenOf],((b.extract 0 k).data.map λc=>Value.int .u8 c.toNat),by simp[Builtin.firstCells], ?_, ?_,by simp at hk ⊢;omega⟩
  ·have e:(b.extract 0 k).data.toList=b.data.toList.take k:=by
    obtain⟨⟨bl⟩⟩:=b
    rw[ByteArray.extract_mk]
    simp
   rw[Array.toList_map,e,←List.map_take]
   refine gT.Cx (by simp) λi x y hx hy=>?_
   simp only[List.getElem?_map,aH]at hx hy
   obtain⟨u,hu,rfl⟩:=hx
   obtain⟨u',hu',rfl⟩:=hy
   rw[hu]at hu'
   obtain rfl:=av hu'
   simp[VR]
  ·intro a ha
   obtain⟨u,_,rfl⟩:=List.mem_map.1 (List.mem_of_mem_take ha)
   rfl
 ·cases hm
theorem auE {P:Program} {ι:jh} {M M':Heap} {w:World} (r:R ι M w) {b o:Nat} {new:List AV} (h:M.lay b o new=some M') {l:Loc} (hl:ι b=some l) (hroom:o+new.length≤l.N) {vs:List Value} (hnew:gT ι new vs) (hc:∀a,a∈new→a.iI=true) (hne:vs≠[]) :
  ∃w',(storeCells ⟨l.j,l.d+o,none⟩ vs).run P w=.ok () w'∧Tr ι M w ι M' w':=by
 unfold Heap.lay at h
 split at h
 case h_2=>cases h
 rename_i c sl hb
 split at h
 case isFalse=>cases h
 rename_i hle
 obtain rfl:=av h
 have hvl:=hnew.length
 obtain⟨w',cs,cs',elem,fz,g1,g2,g3,g4,g5⟩:=Ym (P:=P) r hb hl (o:=o) hne (by omega) (hnew.oneCell hc)
 have hbr:=g5
 obtain⟨_,_,_,_,_,hN,h4,_⟩:=hbr
 have ho:o≤c.length:=by omega
 refine⟨w',g1,Tr.update r hb rfl rfl hl g3 (BR.seg id g5 hnew hc (by omega) g4 (by simp;omega) (λhs=>?_) ?_)⟩
 ·have:=h4 hs
  have:o+new.length≤c.length:=by
   rcases hle with q |⟨q,_⟩
   ·exact q
   ·rw[hs]at q;cases q
  simp
  omega
 ·intro i a hi
  rw[bR,List.getElem?_append]at hi
  split at hi
  ·rename_i h1
   simp at h1
   rw[List.getElem?_take,if_pos (by omega)]at hi
   exact .inr ⟨.inl (by omega),hi⟩
  ·rename_i h1
   simp at h1
   have htl:(c.take o).length=o:=by simp;omega
   rw[htl,List.getElem?_append]at hi
   split at hi
   ·rename_i h2
    exact .inl ⟨by omega,by omega,hi⟩
   ·rename_i h2
    rw[List.getElem?_drop]at hi
    refine .inr ⟨.inr (by omega), ?_⟩
    rw[←hi]
    congr 1
    omega
theorem JZ.copy {P:Program} {C:dO} {o:Oper} {t u elem:TypeId} {sz:Nat} {x y:Operand} {ax ay:AX} (ho:o.op=.call { callee:=.builtin .copy,args:=#[x,y],argTypes:=#[t,u] }) (ht:P.underlying t=some (.slice elem))
  (hsz:ug P elem=some sz) (hx:cX x=some ax) (hy:cX y=some ay):JZ P C o (.copy sz ax ay):=by
 intro ι M e a w v M' next Q r he h hnext
 have h1:=iR hx he
 have h2:=iR hy he
 simp only[aN]at h
 unfold TW at h
 split at h
 case h_2=>cases h
 rename_i p sz' len cap ex hc
 rw[hc]at h1
 split at h
 case isFalse=>cases h
 rename_i hcond
 obtain⟨n,hsn,h⟩:=aR.1 h
 simp only at h
 obtain⟨new,aBV,h⟩:=aR.1 h
 obtain⟨g1,news,k1,k2,g4,g5⟩:=auD (P:=P) r h2 hcond.2 hsn (Nat.min_le_left n len) aBV
 cases p with
 | none =>
  simp only[aC,aS]at h
  obtain⟨rfl,rfl⟩:=h
  simp only[VR]at h1
  obtain⟨h1,rfl,_⟩:=h1
  refine JZ.of_run (w':=w) (v:=.int .i64 (min n 0:Nat)) ?_ (hnext ι _ w (Tr.refl r) (by simp[VR]))
  simp only[execOp,ho]
  simp[resolve,invoke,builtin,Builtin.copy_,h1,run_underlying ht,xL hsz,g1]
  have:=k1
  simp at this
  simp[this,goInt]
 | some q =>
  obtain⟨b,off⟩:=q
  obtain rfl:sz'=sz:=by simpa using hcond.1
  simp only[VR]at h1
  obtain⟨L,ad,cap',e1,h1,e3,e4,e5,e6,e7,e8,e9,e10⟩:=h1
  simp only at h
  split at h
  ·rename_i hn0
   simp only[aC,aS]at h
   obtain⟨rfl,rfl⟩:=h
   rw[hn0]at k1 g5
   have hne:news=#[]:=by
    have:=k2.length
    simp[g5]at this
    exact Array.eq_empty_of_size_eq_zero this.symm
   subst hne
   refine JZ.of_run (w':=w) (v:=.int .i64 (min n len:Nat)) ?_ (hnext ι _ w (Tr.refl r) (by simp[VR]))
   simp only[execOp,ho]
   simp[resolve,invoke,builtin,Builtin.copy_,h1,run_underlying ht,xL hsz,g1,hn0,k1,storeCells,goInt]
  ·rename_i hn0
   obtain⟨M1,hM,h⟩:=aH.1 h
   simp only[aS]at h
   obtain⟨rfl,rfl⟩:=h
   have hmul:min n len*sz'≤cap'*sz':=Nat.mul_le_mul_right _ (by omega)
   obtain⟨w',hrun,htr⟩:=auE (P:=P) r hM e1 (by rw[g5];omega) k2 g4 (λe=>by
    have:=k2.length
    rw[e,g5]at this
    have:0<min n len*sz':=Nat.mul_pos (by omega) e10
    simp at *
    omega)
   replace e3:=e3.resolve_left (by omega)
   replace e4:=e4.resolve_left (by omega)
   have h0:=e5.resolve_left (by omega)
   have had:ad=⟨L.j,L.d+off,none⟩:=by
    obtain⟨q1,q2,q3⟩:=ad
    simp only at e3 e4 h0
    subst e3 e4 h0
    rfl
   subst had
   refine JZ.of_run (w':=w') (v:=.int .i64 (min n len:Nat)) ?_ (hnext ι _ w' htr (by simp[VR]))
   simp only[execOp,ho]
   simp[resolve,invoke,builtin,Builtin.copy_,h1,run_underlying ht,xL hsz,g1,k1,hrun,goInt]
theorem JZ.clear {P:Program} {C:dO} {o:Oper} {t elem:TypeId} {sz:Nat} {zero:List AV} {x:Operand} {ax:AX} (ho:o.op=.call { callee:=.builtin .clear,args:=#[x],argTypes:=#[t] }) (ht:P.underlying t=some (.slice elem))
  (hsz:ug P elem=some sz) (hz:zeroOf P elem=some zero) (hzl:zero.length=sz) (hx:cX x=some ax):JZ P C o (.clear sz zero ax):=by
 intro ι M e a w v M' next Q r he h hnext
 have h1:=iR hx he
 simp only[aN]at h
 unfold agD at h
 split at h
 case h_3=>cases h
 ·rename_i hc
  simp only[aC,aS]at h
  obtain⟨rfl,rfl⟩:=h
  rw[hc]at h1
  simp only[VR]at h1
  obtain⟨h1,_⟩:=h1
  refine JZ.of_run (w':=w) (v:=.tuple #[]) ?_ (hnext ι _ w (Tr.refl r) (by simp[VR,gT]))
  simp only[execOp,ho]
  simp[resolve,invoke,builtin,Builtin.clear_,h1,run_underlying ht]
 ·rename_i b off sz' len cap ex hc
  rw[hc]at h1
  simp only[VR]at h1
  obtain⟨L,ad,cap',e1,h1,e3,e4,e5,e6,e7,e8,e9,e10⟩:=h1
  split at h
  case isFalse=>cases h
  rename_i hss
  subst hss
  split at h
  ·rename_i hl0
   subst hl0
   simp only[aC,aS]at h
   obtain⟨rfl,rfl⟩:=h
   refine JZ.of_run (w':=w) (v:=.tuple #[]) ?_ (hnext ι _ w (Tr.refl r) (by simp[VR,gT]))
   simp only[execOp,ho]
   simp[resolve,invoke,builtin,Builtin.clear_,h1,run_underlying ht]
  ·rename_i hl0
   obtain⟨M1,hM,h⟩:=aH.1 h
   simp only[aS]at h
   obtain⟨rfl,rfl⟩:=h
   obtain⟨z,hz1,hz2,hz3⟩:=abU (P:=P) hz w
   obtain⟨l,w',hl,hrun,htr⟩:=Yn (P:=P) r hM (abz (hz2 ι) len) (λc hc=>hz3 c (V9 hc))
   rw[e1]at hl
   obtain rfl:=av hl
   replace e3:=e3.resolve_left (by omega)
   replace e4:=e4.resolve_left (by omega)
   have h0:=e5.resolve_left (by omega)
   have had:ad=⟨L.j,L.d+off,none⟩:=by
    obtain⟨q1,q2,q3⟩:=ad
    simp only at e3 e4 h0
    subst e3 e4 h0
    rfl
   subst had
   refine JZ.of_run (w':=w') (v:=.tuple #[]) ?_ (hnext ι _ w' htr (by simp[VR,gT]))
   obtain⟨m,rfl⟩:∃m,len=m+1:=⟨len-1,by omega⟩
   simp only[execOp,ho]
   simp[resolve,invoke,builtin,Builtin.clear_,h1,run_underlying ht,hz1,Hq,hrun]
theorem JZ.AZ{P:Program}{C:dO}{o:Oper}{t elem:TypeId}{x:Operand}{ax:AX}(ho:o.op=.convert t t x)(ht:P.underlying t=some (.slice elem))(he8:P.underlying elem=some (.int .u8))(hx:cX x=some ax):JZ P C o (.AZ ax):=by
 intro ι M e a w v M' next Q r he h hnext
 have h1:=iR hx he
 simp only[aN]at h
 unfold abR at h
 split at h
 case h_2=>cases h
 rename_i b off sz len cap ex hc
 split at h
 ·cases h
 rename_i hcap
 split at h
 case h_2=>cases h
 rename_i c sl hb
 simp only[aC,aS]at h
 obtain⟨rfl,rfl⟩:=h
 rw[hc]at h1
 have h1':=h1
 simp only[VR]at h1
 obtain⟨L,ad,cap',e1,h1,e3,e4,e5,e6,e7,e8,e9,e10⟩:=h1
 have e3:=e3.resolve_left (by omega)
 obtain⟨l',ob,hl',hob,cs,el,fz,rfl,b2,b3,b4,b5,b6⟩:=r.blk b _ hb
 rw[e1]at hl'
 obtain rfl:=av hl'
 have hsh:w.shape? ad.block=some (el,cs.size):=by
  unfold World.shape?
  rw[e3,hob]
 have htr:Tr ι M w ι (M.put b (some (.cells c false true))) (w.freeze { block:=ad.block,off:=cs.size } 1):=by
  refine Tr.update (l:=L) (ob:=.cells cs el (if fz.1==fz.2 then (cs.size,cs.size+1)else (min fz.1 cs.size,max fz.2 (cs.size+1)))) r hb rfl rfl e1 ?_ ?_
  ·rw[e3]
   have hj:L.j<w.heap.size:=(Array.getElem?_eq_some_iff.1 hob).1
   obtain⟨lo,hi⟩:=fz
   refine⟨by simp[World.freeze],λi hi=>?_, ?_,rfl,rfl,rfl⟩
   ·simp only[World.freeze,if_neg (show ¬(1=0)by decide),Array.getElem?_modify]
    rw[if_neg (λh=>hi h.symm)]
   ·simp only[World.freeze,if_neg (show ¬(1=0)by decide),Array.getElem?_modify,if_true,hob,bH]
  ·refine⟨cs,el,_,rfl,b2,b3,(λh=>by cases h),b5,λ_=>⟨.inr ?_,(λh=>by cases h)⟩⟩
   have:=(b6 rfl).1
   split
   ·exact Nat.le_refl _
   ·rename_i hne
    simp only[beq_iff_eq]at hne
    simp only
    omega
 refine JZ.of_run (w':=w.freeze { block:=ad.block,off:=cs.size } 1) (v:=a.eval x) ?_ (hnext ι _ _ htr h1')
 simp only[execOp,ho,h1]
 simp[convert,run_underlying ht,run_underlying he8,markStringish,hsh]
def aib(P:Program)(C:dO)(o:Oper):Fw→Prop
 |.p p=>tC P o p
 |.l l=>LOk P o l
 |.k k=>KOk P o k
 |.n n=>JZ P C o n
def cEq(P:Program)(neg:Bool)(t:TypeId)(ax ay:AX):Option pK :=
 match P.underlying t with
 | some .bool=>some (.eqB neg ax ay)
 | some (.struct _)=>match Gt P 20 t with
  | some ks=>if P.eqGuardType P.depth t=false then some (.eqS neg ks ax ay)else none
  | none=>none
 | some (.pointer el)=>match ug P el with
  | some (_+1)=>some (.eqP neg ax ay)
  | _=>none
 | some (.slice _)=>some (.eqN neg ax ay)
 | _=>none
theorem apF{P:Program}{C:dO}{o:Oper}{neg:Bool}{t u:TypeId}{x y:Operand}{ax ay:AX}(ho:o.op=.binOp (if neg then .neq else .eql) t x y u)(hx:cX x=some ax)(hy:cX y=some ay){p:pK}(h:cEq P neg t ax ay=some p):tC P o p:=by
 unfold cEq at h
 split at h
 ·rename_i hu
  obtain rfl:=av h
  exact tC.eqB ho hu hx hy
 ·rename_i fs hu
  split at h
  case h_2=>cases h
  rename_i ks hk
  split at h
  case isFalse=>cases h
  rename_i hg
  obtain rfl:=av h
  exact tC.eqS ho hu hk hg hx hy
 ·rename_i el hu
  split at h
  case h_2=>cases h
  rename_i n hn
  obtain rfl:=av h
  exact tC.eqP ho hu hn hx hy
 ·rename_i el hu
  obtain rfl:=av h
  exact tC.eqN ho hu hx hy
 ·cases h
def ay9(P:Program)(op:BinOp)(t:TypeId)(ax ay:AX):Option pK :=
 match P.underlying t with
 | some (.int _) | some .string=>some (.bin op ax ay)
 | _=>match op with
  |.eql=>cEq P false t ax ay
  |.neq=>cEq P true t ax ay
  | _=>none
theorem auF{P:Program}{C:dO}{o:Oper}{op:BinOp}{t u:TypeId}{x y:Operand}{ax ay:AX}(ho:o.op=.binOp op t x y u)(hx:cX x=some ax)(hy:cX y=some ay){p:pK}(h:ay9 P op t ax ay=some p):tC P o p:=by
 unfold ay9 at h
 split at h
 ·obtain rfl:=av h
  exact tC.bin ho hx hy
 ·obtain rfl:=av h
  exact tC.bin ho hx hy
 ·split at h
  ·exact apF (C:=C) (neg:=false) (by simpa using ho) hx hy h
  ·exact apF (C:=C) (neg:=true) (by simpa using ho) hx hy h
  ·cases h
def apG(P:Program)(s d:TypeId)(ax:AX):Option Fw :=
 match P.underlying s,P.underlying d with
 | some .string,some .string=>some (.p (.Ql ax))
 | some .string,some (.slice el)=>match P.underlying el with
  | some (.int .u8)=>some (.k (.t_ ax))
  | _=>none
 | some (.slice el),some .string=>match P.underlying el with
  | some (.int .u8)=>some (.l (.oh ax))
  | _=>none
 | some (.int _),some (.int k)=>some (.p (.OQ k ax))
 | some (.slice el),some (.slice _)=>if s=d then match P.underlying el with
   | some (.int .u8)=>some (.n (.AZ ax))
   | _=>none
  else none
 | _,_=>none
theorem apH{P:Program}{C:dO}{o:Oper}{s d:TypeId}{x:Operand}{ax:AX}(ho:o.op=.convert s d x)(hx:cX x=some ax){a:Fw}(h:apG P s d ax=some a):aib P C o a:=by
 unfold apG at h
 split at h
 ·rename_i h1 h2
  obtain rfl:=av h
  exact tC.Ql ho h1 h2 hx
 ·rename_i el h1 h2
  split at h
  case h_2=>cases h
  rename_i h3
  obtain rfl:=av h
  exact KOk.t_ ho h1 h2 h3 hx
 ·rename_i el h1 h2
  split at h
  case h_2=>cases h
  rename_i h3
  obtain rfl:=av h
  exact LOk.oh ho h1 h3 h2 hx
 ·rename_i k' k h1 h2
  obtain rfl:=av h
  exact tC.OQ ho (by rw[h1];rfl) h2 hx
 ·rename_i el el' h1 h2
  split at h
  case isFalse=>cases h
  rename_i hsd
  subst hsd
  split at h
  case h_2=>cases h
  rename_i h3
  obtain rfl:=av h
  exact JZ.AZ ho h1 h3 hx
 ·cases h
def apI(P:Program)(t:TypeId)(ax:AX)(lo hi mx:Option AX):Option pK :=
 match P.underlying t with
 | some .string=>match mx with
  | none=>some (.sj ax lo hi)
  | some _=>none
 | some (.slice el)=>match ug P el with
  | some n=>some (.slice n ax lo hi mx)
  | none=>none
 | _=>none
def ayC(P:Program)(t:TypeId)(ax ai:AX):Option pK :=
 match P.underlying t with
 | some (.array m el)=>match ug P el with
  | some n=>some (.zU m n ax ai)
  | none=>none
 | some (.slice el)=>match ug P el with
  | some n=>some (.kU n ax ai)
  | none=>none
 | _=>none
def apJ(P:Program)(t:TypeId)(ax ai:AX):Option pK :=
 match P.underlying t with
 | some .string=>some (.xK ax ai)
 | some (.array m el)=>match IE P el,ug P el with
  | some g,some n=>some (.index g m n ax ai)
  | _,_=>none
 | _=>none
def agG(P:Program)(t:TypeId)(f:Nat)(addr:Bool)(ax:AX):Option pK :=
 match P.underlying t with
 | some (.struct fs)=>match fs[f]? with
  | some fd=>match addr,IE P fd.type,ug P fd.type with
   | true,_,some (_+1)=>some (.fieldAddr fd.offset ax)
   | false,some g,some n=>some (.field g fd.offset n ax)
   | _,_,_=>none
  | none=>none
 | _=>none
def Qr(P:Program)(t:TypeId)(len:Nat)(parts:List (Nat×Operand)):Option PL :=
 match P.underlying t with
 | some (.slice el)=>match ug P el,zeroOf P el with
  | some (n+1),some zero=>match K7 (λi=>some (i*(n+1),n+1)) parts with
   | some al =>
    let bl:=al.zip parts |>.map λp=>(p.2.1,p.1.2.2)
    if len*(n+1)≤16777216∧zero.length=n+1 then some (.buildSlice (n+1) len zero bl)else none
   | none=>none
  | _,_=>none
 | _=>none
theorem abY{P:Program}{o:Oper}{t:TypeId}{len:Nat}{parts:Array (Nat×Operand)}(ho:o.op=.buildSlice t len parts){k:PL}(h:Qr P t len parts.toList=some k):KOk P o k:=by
 unfold Qr at h
 split at h
 case h_2=>cases h
 rename_i el hu
 split at h
 case h_2=>cases h
 rename_i n zero hn hz
 split at h
 case h_2=>cases h
 rename_i al hal
 simp only at h
 split at h
 case isFalse=>cases h
 rename_i hc
 obtain rfl:=av h
 refine KOk.buildSlice ho hu hn (by omega) hc.1 hz hc.2 ?_
 rw[hal]
 congr 1
 clear hz hc h ho
 generalize parts.toList=l at hal
 induction l generalizing al with
 | nil =>
  simp only[K7,aC]at hal
  subst hal
  rfl
 | cons q l ih =>
  obtain⟨i,x⟩:=q
  simp only[K7]at hal
  split at hal
  case h_2=>cases hal
  rename_i p ax al' h1 h2 h3
  obtain rfl:=av hal
  obtain rfl:=av h1
  simp only[List.zip_cons_cons,List.map_cons]
  rw[←ih _ h3]
def am0(P:Program)(t u:TypeId)(ax ay:AX):Option JY :=
 match P.underlying t with
 | some (.slice el)=>match P.info? el,zeroOf P el with
  | some i,some zero=>if 0<i.size∧zero.length=i.size then
    match P.underlying u with
    | some .string | some (.slice _)=>some (.append i.size i.bytes ax ay)
    | some (.int _)=>some (.Cw i.size i.bytes zero ax ay)
    | _=>none
   else none
  | _,_=>none
 | _=>none
def cLen(P:Program)(t:TypeId)(ax:AX):Option pK :=
 match P.underlying t with
 | some .string=>some (.len true ax)
 | some (.slice _)=>some (.len false ax)
 | some (.array n _)=>some (.move (.c (.int .i64 n)))
 | _=>none
def apK(P:Program)(c:Call):Option Fw :=
 match c with
 |⟨.value f,args,_⟩=>match cX f,cXs args.toList with
  | some af,some al=>some (.n (.call af al))
  | _,_=>none
 |⟨.builtin .len,⟨[x]⟩,⟨[t]⟩⟩=>(cX x).bind λax=>(cLen P t ax).map .p
 |⟨.builtin .cap,⟨[x]⟩,⟨[t]⟩⟩=>match P.underlying t with
  | some (.slice _)=>(cX x).map λax=>.p (.cap ax)
  | _=>none
 |⟨.builtin .append,⟨[x,y]⟩,⟨[t,u]⟩⟩=>match cX x,cX y with
  | some ax,some ay=>(am0 P t u ax ay).map .n
  | _,_=>none
 |⟨.builtin .copy,⟨[x,y]⟩,⟨[t,u]⟩⟩=>match cX x,cX y,P.underlying t with
  | some ax,some ay,some (.slice el)=>(ug P el).map λn=>.n (.copy n ax ay)
  | _,_,_=>none
 |⟨.builtin .clear,⟨[x]⟩,⟨[t]⟩⟩=>match cX x,P.underlying t with
  | some ax,some (.slice el)=>match ug P el,zeroOf P el with
   | some n,some zero=>if zero.length=n then some (.n (.clear n zero ax))else none
   | _,_=>none
  | _,_=>none
 |⟨.builtin .max,args,_⟩=>(cXs args.toList).map λal=>.p (.Cv true al)
 |⟨.builtin .min,args,_⟩=>(cXs args.toList).map λal=>.p (.Cv false al)
 | _=>none
theorem apL{P:Program}{C:dO}(hC:Cy P C){o:Oper}{c:Call}(ho:o.op=.call c){a:Fw}(h:apK P c=some a):aib P C o a:=by
 unfold apK at h
 split at h
 ·rename_i f args ts
  split at h
  case h_2=>cases h
  rename_i af al h1 h2
  obtain rfl:=av h
  exact JZ.call hC ho h1 h2
 ·rename_i x t
  obtain⟨ax,hx,h⟩:=aR.1 h
  obtain⟨p,hp,rfl⟩:=aH.1 h
  unfold cLen at hp
  split at hp
  ·rename_i hu
   obtain rfl:=av hp
   exact tC.lenStr ho hu hx
  ·rename_i hu
   obtain rfl:=av hp
   exact tC.apC ho hu hx
  ·rename_i hu
   obtain rfl:=av hp
   exact tC.ay7 ho hu
  ·cases hp
 ·rename_i x t
  split at h
  case h_2=>cases h
  rename_i hu
  obtain⟨ax,hx,rfl⟩:=aH.1 h
  exact tC.cap ho hu hx
 ·rename_i x y t u
  split at h
  case h_2=>cases h
  rename_i ax ay hx hy
  obtain⟨n,hn,rfl⟩:=aH.1 h
  unfold am0 at hn
  split at hn
  case h_2=>cases hn
  rename_i el hu
  split at hn
  case h_2=>cases hn
  rename_i i zero hi hz
  split at hn
  case isFalse=>cases hn
  rename_i hc
  split at hn
  ·rename_i hv
   obtain rfl:=av hn
   exact JZ.append ho hu (.inl hv) hi hc.1 hz hc.2 hx hy
  ·rename_i e' hv
   obtain rfl:=av hn
   exact JZ.append ho hu (.inr ⟨_,hv⟩) hi hc.1 hz hc.2 hx hy
  ·rename_i k hv
   obtain rfl:=av hn
   exact JZ.Cw ho hu ⟨_,hv⟩ hi hc.1 hz hc.2 hx hy
  ·cases hn
 ·rename_i x y t u
  split at h
  case h_2=>cases h
  rename_i ax ay el hx hy hu
  obtain⟨n,hn,rfl⟩:=aH.1 h
  exact JZ.copy ho hu hn hx hy
 ·rename_i x t
  split at h
  case h_2=>cases h
  rename_i ax el hx hu
  split at h
  case h_2=>cases h
  rename_i n zero hn hz
  split at h
  case isFalse=>cases h
  rename_i hc
  obtain rfl:=av h
  exact JZ.clear ho hu hn hz hc hx
 ·rename_i args ts
  obtain⟨al,hal,rfl⟩:=aH.1 h
  exact tC.Cv (isMax:=true) (by simpa using ho) hal
 ·rename_i args ts
  obtain⟨al,hal,rfl⟩:=aH.1 h
  exact tC.Cv (isMax:=false) (by simpa using ho) hal
 ·cases h
theorem apM{m:Option Operand}(h:cXo m=some none):m=none:=by
 cases m with
 | none=>rfl
 | some m =>
  simp only[cXo]at h
  obtain⟨_,_,h5⟩:=aH.1 h
  cases h5
def auG(P:Program)(op:Op):Option Fw :=
 match op with
 |.move x |.assign x=>(cX x).map λx=>.p (.move x)
 |.pick c a b=>match cX c,cX a,cX b with
  | some c,some a,some b=>some (.p (.pick c a b))
  | _,_,_=>none
 |.alloc t=>(zeroOf P t).map λz=>.k (.alloc z)
 |.box _ x=>(cX x).map λx=>.k (.box x)
 |.build t parts=>if buildable P t then (match zeroOf P t,K7 (placeOf P t) parts.toList with
  | some z,some al=>some (.p (.build z al))
  | _,_=>none)else none
 |.buildSlice t len parts=>(Qr P t len parts.toList).map .k
 |.load t x=>match IE P t,ug P t,cX x with
  | some g,some n,some x=>some (.l (.load g n x))
  | _,_,_=>none
 |.store t x y=>match ug P t,cX x,cX y with
  | some n,some x,some y=>some (.n (.store n x y))
  | _,_,_=>none
 |.nilCheck x=>(cX x).map λx=>.p (.nilCheck x)
 |.binOp op t x y _=>match cX x,cX y with
  | some x,some y=>(ay9 P op t x y).map .p
  | _,_=>none
 |.unOp op _ x=>(cX x).map λx=>.p (.un op x)
 |.convert s d x=>(cX x).bind λx=>apG P s d x
 |.makeFunc (.func f) ⟨[]⟩ caps=>(cXs caps.toList).map λl=>.p (.Gs f l)
 |.makeMap _ none=>some (.k .makeMap)
 |.makeSlice t l c=>match P.underlying t with
  | some (.slice el)=>match P.info? el,zeroOf P el,cX l,cX c with
   | some i,some z,some l,some c=>if 0<i.size∧z.length=i.size then some (.k (.makeSlice i.size i.bytes z l c))else none
   | _,_,_,_=>none
  | _=>none
 |.slice t x lo hi mx=>match cX x,cXo lo,cXo hi,cXo mx with
  | some x,some lo,some hi,some mx=>(apI P t x lo hi mx).map .p
  | _,_,_,_=>none
 |.fieldAddr t x f=>(cX x).bind λx=>(agG P t f true x).map .p
 |.field t x f=>(cX x).bind λx=>(agG P t f false x).map .p
 |.indexAddr t x i=>match cX x,cX i with
  | some x,some i=>(ayC P t x i).map .p
  | _,_=>none
 |.index t x i=>match cX x,cX i with
  | some x,some i=>(apJ P t x i).map .p
  | _,_=>none
 |.extract x i=>(cX x).map λx=>.p (.extract x i)
 |.call c=>apK P c
 | _=>none
theorem auH{P:Program}{C:dO}(hC:Cy P C){o:Oper}{a:Fw}(h:auG P o.op=some a):aib P C o a:=by
 generalize ho:o.op=op at h
 unfold auG at h
 split at h
 ·obtain⟨x,hx,rfl⟩:=aH.1 h
  exact tC.move (.inl ho) hx
 ·obtain⟨x,hx,rfl⟩:=aH.1 h
  exact tC.move (.inr ho) hx
 ·split at h
  case h_2=>cases h
  rename_i h1 h2 h3
  obtain rfl:=av h
  exact tC.pick ho h1 h2 h3
 ·obtain⟨x,hx,rfl⟩:=aH.1 h
  exact KOk.alloc ho hx
 ·obtain⟨x,hx,rfl⟩:=aH.1 h
  exact KOk.box ho hx
 ·split at h
  case isFalse=>cases h
  rename_i hb
  split at h
  case h_2=>cases h
  rename_i h1 h2
  obtain rfl:=av h
  exact tC.build ho hb h1 h2
 ·obtain⟨x,hx,rfl⟩:=aH.1 h
  exact abY ho hx
 ·split at h
  case h_2=>cases h
  rename_i h1 h2 h3
  obtain rfl:=av h
  exact LOk.load ho h1 h2 h3
 ·split at h
  case h_2=>cases h
  rename_i h1 h2 h3
  obtain rfl:=av h
  exact JZ.store ho h1 h2 h3
 ·obtain⟨x,hx,rfl⟩:=aH.1 h
  exact tC.nilCheck ho hx
 ·split at h
  case h_2=>cases h
  rename_i h1 h2
  obtain⟨p,hp,rfl⟩:=aH.1 h
  exact auF (C:=C) ho h1 h2 hp
 ·obtain⟨x,hx,rfl⟩:=aH.1 h
  exact tC.un ho hx
 ·obtain⟨x,hx,h⟩:=aR.1 h
  exact apH ho hx h
 ·obtain⟨x,hx,rfl⟩:=aH.1 h
  exact tC.Gs ho hx
 ·obtain rfl:=av h
  exact KOk.makeMap ho
 ·split at h
  case h_2=>cases h
  rename_i hu
  split at h
  case h_2=>cases h
  rename_i h1 h2 h3 h4
  split at h
  case isFalse=>cases h
  rename_i hc
  obtain rfl:=av h
  exact KOk.makeSlice ho hu h1 hc.1 h2 hc.2 h3 h4
 ·split at h
  case h_2=>cases h
  rename_i h1 h2 h3 h4
  obtain⟨p,hp,rfl⟩:=aH.1 h
  unfold apI at hp
  split at hp
  ·rename_i hu
   split at hp
   ·obtain rfl:=av hp
    obtain rfl:=apM h4
    exact tC.sj ho hu h1 h2 h3
   ·cases hp
  ·rename_i hu
   split at hp
   case h_2=>cases hp
   rename_i hn
   obtain rfl:=av hp
   exact tC.slice ho hu hn h1 h2 h3 h4
  ·cases hp
 ·obtain⟨x,hx,h⟩:=aR.1 h
  obtain⟨p,hp,rfl⟩:=aH.1 h
  unfold agG at hp
  split at hp
  case h_2=>cases hp
  rename_i hu
  split at hp
  case h_2=>cases hp
  rename_i fd hf
  split at hp
  ·rename_i hn
   obtain rfl:=av hp
   exact tC.fieldAddr ho hu hf hn hx
  ·contradiction
  ·cases hp
 ·obtain⟨x,hx,h⟩:=aR.1 h
  obtain⟨p,hp,rfl⟩:=aH.1 h
  unfold agG at hp
  split at hp
  case h_2=>cases hp
  rename_i hu
  split at hp
  case h_2=>cases hp
  rename_i fd hf
  split at hp
  ·contradiction
  ·rename_i hg hn
   obtain rfl:=av hp
   exact tC.field ho hu hf hg hn hx
  ·cases hp
 ·split at h
  case h_2=>cases h
  rename_i h1 h2
  obtain⟨p,hp,rfl⟩:=aH.1 h
  unfold ayC at hp
  split at hp
  ·rename_i hu
   split at hp
   case h_2=>cases hp
   rename_i hn
   obtain rfl:=av hp
   exact tC.zU ho hu hn h1 h2
  ·rename_i hu
   split at hp
   case h_2=>cases hp
   rename_i hn
   obtain rfl:=av hp
   exact tC.kU ho hu hn h1 h2
  ·cases hp
 ·split at h
  case h_2=>cases h
  rename_i h1 h2
  obtain⟨p,hp,rfl⟩:=aH.1 h
  unfold apJ at hp
  split at hp
  ·rename_i hu
   obtain rfl:=av hp
   exact tC.xK ho hu h1 h2
  ·rename_i hu
   split at hp
   case h_2=>cases hp
   rename_i hg hn
   obtain rfl:=av hp
   exact tC.index ho hu hg hn h1 h2
  ·cases hp
 ·obtain⟨x,hx,rfl⟩:=aH.1 h
  exact tC.extract ho hx
 ·exact apL hC ho h
 ·cases h
def cOp(P:Program)(op:Op):Fw:=(auG P op).getD (.n .fail)
theorem apN{P:Program}{C:dO}(hC:Cy P C)(o:Oper):aib P C o (cOp P o.op):=by
 unfold cOp
 cases h:auG P o.op with
 | none=>exact JZ.fail
 | some a=>exact auH hC h
def AX.rd:AX→List Nat
 |.t n=>[n]
 |.c _=>[]
def AX.rds(l:List AX):List Nat:=l.flatMap AX.rd
def rdO(x:Option AX):List Nat:=x.elim [] AX.rd
def pK.rd:pK→List Nat
 |.move x |.nilCheck x |.un _ x |.OQ _ x |.Ql x |.fieldAddr _ x |.field _ _ _ x |.extract x _ |.len _ x |.cap x=>x.rd
 |.pick c a b=>c.rd++a.rd++b.rd
 |.build _ ps=>ps.flatMap λp=>p.2.2.rd
 |.bin _ x y |.eqB _ x y |.eqS _ _ x y |.eqP _ x y |.eqN _ x y |.zU _ _ x y |.kU _ x y |.index _ _ _ x y |.xK x y=>x.rd++y.rd
 |.Gs _ l |.Cv _ l=>AX.rds l
 |.sj x lo hi=>x.rd++rdO lo++rdO hi
 |.slice _ x lo hi mx=>x.rd++rdO lo++rdO hi++rdO mx
def Ew.rd:Ew→List Nat
 |.load _ _ x |.oh x |.NP x=>x.rd
 |.lookup _ _ x k=>x.rd++k.rd
def PL.rd:PL→List Nat
 |.alloc _ |.makeMap=>[]
 |.box x |.t_ x=>x.rd
 |.buildSlice _ _ _ ps=>ps.flatMap λp=>p.2.rd
 |.makeSlice _ _ _ l c=>l.rd++c.rd
def JY.rd:JY→List Nat
 |.store _ a v=>a.rd++v.rd
 |.call f l=>f.rd++AX.rds l
 |.append _ _ s x=>s.rd++x.rd
 |.Cw _ _ _ s x=>s.rd++x.rd
 |.copy _ s x=>s.rd++x.rd
 |.clear _ _ x=>x.rd
 |.mapUpdate m k v=>m.rd++k.rd++v.rd
 |.Ir m k=>m.rd++k.rd
 |.AZ x=>x.rd
 |.fail=>[]
def Fw.rd:Fw→List Nat
 |.p o=>o.rd
 |.l o=>o.rd
 |.k o=>o.rd
 |.n o=>o.rd
def zM.rd(o:zM):List Nat:=(match o.guard with | some (t,_)=>[t] | none=>[])++o.op.rd
def Agree(l:List Nat)(e e':Env):Prop:=∀t,t∈l→e.getD t .undef=e'.getD t .undef
theorem AX.Mj{x:AX}{e e':Env}{l:List Nat}(h:Agree l e e')(hx:∀t,t∈x.rd→t∈l):x.ev e=x.ev e':=by
 cases x with
 | t n=>exact h n (hx n (by simp[AX.rd]))
 | c v=>rfl
theorem AX.Yo{l:List AX}{e e':Env}{r:List Nat}(h:Agree r e e')(hx:∀t,t∈AX.rds l→t∈r):l.map (AX.ev e)=l.map (AX.ev e'):=by
 refine List.map_congr_left λx hm=>AX.Mj h λt ht=>hx t ?_
 simp only[AX.rds,List.mem_flatMap]
 exact⟨x,hm,ht⟩
theorem Ac{x:Option AX}{e e':Env}{r:List Nat}(h:Agree r e e')(hx:∀t,t∈rdO x→t∈r)(a b:Nat):dX e x a b=dX e' x a b:=by
 cases x with
 | none=>rfl
 | some x=>simp only[dX];rw[AX.Mj h (λt ht=>hx t (by simpa[rdO]using ht))]
theorem apO{o:pK}{e e':Env}(h:Agree o.rd e e'):aP o e=aP o e':=by
 have one:∀x:AX,(∀t,t∈x.rd→t∈o.rd)→x.ev e=x.ev e':=λx hx=>AX.Mj h hx
 cases o with
 | build z ps =>
  simp only[aP]
  have:(ps.map λp=>(p.1,p.2.1,p.2.2.ev e))=ps.map λp=>(p.1,p.2.1,p.2.2.ev e'):=by
   refine List.map_congr_left λp hp=>?_
   rw[one p.2.2 (λt ht=>by simp only[pK.rd,List.mem_flatMap];exact⟨p,hp,ht⟩)]
  rw[this]
 | Gs f l=>simp only[aP];rw[AX.Yo h (λt ht=>by simpa[pK.rd]using ht)]
 | Cv m l=>simp only[aP];rw[AX.Yo h (λt ht=>by simpa[pK.rd]using ht)]
 | sj x lo hi =>
  simp only[aP,Iu]
  rw[one x (λt ht=>by simp[pK.rd,ht])]
  simp only[Ac h (x:=lo) (λt ht=>by simp[pK.rd,ht]),Ac h (x:=hi) (λt ht=>by simp[pK.rd,ht])]
 | slice n x lo hi mx =>
  simp only[aP,lH]
  rw[one x (λt ht=>by simp[pK.rd,ht])]
  simp only[Ac h (x:=lo) (λt ht=>by simp[pK.rd,ht]),Ac h (x:=hi) (λt ht=>by simp[pK.rd,ht]),Ac h (x:=mx) (λt ht=>by simp[pK.rd,ht])]
 | pick c a b=>simp only[aP];rw[one c (λt ht=>by simp[pK.rd,ht]),one a (λt ht=>by simp[pK.rd,ht]),one b (λt ht=>by simp[pK.rd,ht])]
 | bin _ x y | eqB _ x y | eqS _ _ x y | eqP _ x y | eqN _ x y | zU _ _ x y | kU _ x y | index _ _ _ x y | xK x y =>
  simp only[aP];rw[one x (λt ht=>by simp[pK.rd,ht]),one y (λt ht=>by simp[pK.rd,ht])]
 | move x | nilCheck x | un _ x | OQ _ x | Ql x | fieldAddr _ x | field _ _ _ x | extract x _ | len _ x | cap x =>
  simp only[aP];rw[one x (λt ht=>by simpa[pK.rd]using ht)]
theorem aic{o:Ew}{e e':Env}(h:Agree o.rd e e')(M:Heap):aL o e M=aL o e' M:=by
 have one:∀x:AX,(∀t,t∈x.rd→t∈o.rd)→x.ev e=x.ev e':=λx hx=>AX.Mj h hx
 cases o with
 | lookup _ _ x y=>simp only[aL];rw[one x (λt ht=>by simp[Ew.rd,ht]),one y (λt ht=>by simp[Ew.rd,ht])]
 | load _ _ x | oh x | NP x=>simp only[aL];rw[one x (λt ht=>by simpa[Ew.rd]using ht)]
theorem apP{o:PL}{e e':Env}(h:Agree o.rd e e'):aK o e=aK o e':=by
 have one:∀x:AX,(∀t,t∈x.rd→t∈o.rd)→x.ev e=x.ev e':=λx hx=>AX.Mj h hx
 cases o with
 | alloc _=>rfl
 | makeMap=>rfl
 | buildSlice sz len z ps =>
  simp only[aK]
  have:(ps.map λp=>(p.1*sz,sz,p.2.ev e))=ps.map λp=>(p.1*sz,sz,p.2.ev e'):=by
   refine List.map_congr_left λp hp=>?_
   rw[one p.2 (λt ht=>by simp only[PL.rd,List.mem_flatMap];exact⟨p,hp,ht⟩)]
  rw[this]
 | makeSlice _ _ _ x y=>simp only[aK];rw[one x (λt ht=>by simp[PL.rd,ht]),one y (λt ht=>by simp[PL.rd,ht])]
 | box x | t_ x=>simp only[aK];rw[one x (λt ht=>by simpa[PL.rd]using ht)]
theorem apQ{C:dO}{o:JY}{e e':Env}(h:Agree o.rd e e')(M:Heap):aN C o e M=aN C o e' M:=by
 have one:∀x:AX,(∀t,t∈x.rd→t∈o.rd)→x.ev e=x.ev e':=λx hx=>AX.Mj h hx
 cases o with
 | fail=>rfl
 | call f l=>simp only[aN];rw[one f (λt ht=>by simp[JY.rd,ht]),AX.Yo h (λt ht=>by simp[JY.rd,ht])]
 | mapUpdate x y z=>simp only[aN];rw[one x (λt ht=>by simp[JY.rd,ht]),one y (λt ht=>by simp[JY.rd,ht]),one z (λt ht=>by simp[JY.rd,ht])]
 | clear _ _ x | AZ x=>simp only[aN];rw[one x (λt ht=>by simpa[JY.rd]using ht)]
 | store _ x y | append _ _ x y | Cw _ _ _ x y | copy _ x y | Ir x y =>
  simp only[aN];rw[one x (λt ht=>by simp[JY.rd,ht]),one y (λt ht=>by simp[JY.rd,ht])]
def Heap.Sub(X Y:Heap):Prop:=∀b x,X.get b=some x→Y.get b=some x
theorem abZ{X Y:Heap}(h:X.Sub Y){b o n:Nat}{l:List AV}(hr:X.read b o n=some l):Y.read b o n=some l:=by
 unfold Heap.read at hr ⊢
 cases hb:X.get b with
 | none=>simp[hb]at hr
 | some x=>rw[hb]at hr;rw[h b x hb];exact hr
theorem apR{o:Ew}{e:Env}{X Y:Heap}(h:X.Sub Y){v:AV}(hv:aL o e X=some v):aL o e Y=some v:=by
 cases o with
 | load g n x =>
  simp only[aL,Kn]at hv ⊢
  split at hv
  case h_2=>cases hv
  rename_i b o' hx
  cases g with
  | true =>
   simp only[if_true]at hv ⊢
   obtain⟨l,hl,rfl⟩:=aH.1 hv
   rw[abZ h hl]
   rfl
  | false =>
   simp only[Bool.false_eq_true,if_false]at hv ⊢
   cases hb:X.get b with
   | none=>simp[hb]at hv
   | some x=>rw[hb]at hv;rw[h b x hb];exact hv
 | oh x =>
  simp only[aL,yQ]at hv ⊢
  split at hv
  ·exact hv
  ·split at hv
   ·rename_i h0
    rw[if_pos h0]
    exact hv
   rename_i h0
   rw[if_neg h0]
   obtain⟨l,hl,rfl⟩:=aH.1 hv
   obtain⟨cs,hcs,hl⟩:=aR.1 hl
   rw[abZ h hcs]
   simp[hl]
  ·cases hv
 | NP x =>
  simp only[aL]at hv ⊢
  obtain⟨l,hl,rfl⟩:=aH.1 hv
  rw[Wh h hl]
  rfl
 | lookup ok z x k =>
  simp only[aL,amY]at hv ⊢
  obtain⟨l,hl,hv⟩:=aR.1 hv
  rw[Wh h hl]
  exact hv
 where
 Wh {X Y:Heap} (h:X.Sub Y) {v:AV} {l:List (AV×AV)} (hl:Qm v X=some l):Qm v Y=some l:=by
  unfold Qm at hl ⊢
  split at hl
  ·exact hl
  ·rename_i r
   cases hb:X.get r with
   | none=>simp[hb]at hl
   | some x=>rw[hb]at hl;rw[h r x hb];exact hl
  ·cases hl
mutual
theorem AV.ab0:∀(a b:AV),AV.same a b=true→a=b
 |.bool a,.bool b,h=>by simpa[AV.same]using h
 |.int k a,.int k' b,h=>by simp[AV.same]at h;rw[h.1,h.2]
 |.str a,.str b,h=>by simpa[AV.same]using h
 |.ptr a,.ptr b,h=>by simpa[AV.same]using h
 |.slice a s l c e,.slice a' s' l' c' e',h=>by simp[AV.same]at h;obtain⟨⟨⟨⟨rfl,rfl⟩,rfl⟩,rfl⟩,rfl⟩:=h;rfl
 |.map a,.map b,h=>by simpa[AV.same]using h
 |.func f cs,.func f' cs',h=>by
  simp[AV.same]at h
  rw[h.1,AV.Kr cs cs' h.2]
 |.nilFunc,.nilFunc,_=>rfl
 |.agg a,.agg b,h=>by rw[AV.Kr a b (by simpa[AV.same]using h)]
 |.tuple a,.tuple b,h=>by rw[AV.Kr a b (by simpa[AV.same]using h)]
 |.undef,_,h=>by simp[AV.same]at h
 |.list ..,_,h=>by simp[AV.same]at h
 |.elem _,_,h=>by simp[AV.same]at h
 |.acc ..,_,h=>by simp[AV.same]at h
 |.bool _,.undef,h |.bool _,.int ..,h |.bool _,.str _,h |.bool _,.ptr _,h |.bool _,.slice ..,h |.bool _,.map _,h |.bool _,.func ..,h |.bool _,.nilFunc,h |.bool _,.agg _,h |.bool _,.tuple _,h |.bool _,.list ..,h |.bool _,.elem _,h |.bool _,.acc ..,h=>by simp[AV.same]at h
 |.int ..,.undef,h |.int ..,.bool _,h |.int ..,.str _,h |.int ..,.ptr _,h |.int ..,.slice ..,h |.int ..,.map _,h |.int ..,.func ..,h |.int ..,.nilFunc,h |.int ..,.agg _,h |.int ..,.tuple _,h |.int ..,.list ..,h |.int ..,.elem _,h |.int ..,.acc ..,h=>by simp[AV.same]at h
 |.str _,.undef,h |.str _,.bool _,h |.str _,.int ..,h |.str _,.ptr _,h |.str _,.slice ..,h |.str _,.map _,h |.str _,.func ..,h |.str _,.nilFunc,h |.str _,.agg _,h |.str _,.tuple _,h |.str _,.list ..,h |.str _,.elem _,h |.str _,.acc ..,h=>by simp[AV.same]at h
 |.ptr _,.undef,h |.ptr _,.bool _,h |.ptr _,.int ..,h |.ptr _,.str _,h |.ptr _,.slice ..,h |.ptr _,.map _,h |.ptr _,.func ..,h |.ptr _,.nilFunc,h |.ptr _,.agg _,h |.ptr _,.tuple _,h |.ptr _,.list ..,h |.ptr _,.elem _,h |.ptr _,.acc ..,h=>by simp[AV.same]at h
 |.slice ..,.undef,h |.slice ..,.bool _,h |.slice ..,.int ..,h |.slice ..,.str _,h |.slice ..,.ptr _,h |.slice ..,.map _,h |.slice ..,.func ..,h |.slice ..,.nilFunc,h |.slice ..,.agg _,h |.slice ..,.tuple _,h |.slice ..,.list ..,h |.slice ..,.elem _,h |.slice ..,.acc ..,h=>by simp[AV.same]at h
 |.map _,.undef,h |.map _,.bool _,h |.map _,.int ..,h |.map _,.str _,h |.map _,.ptr _,h |.map _,.slice ..,h |.map _,.func ..,h |.map _,.nilFunc,h |.map _,.agg _,h |.map _,.tuple _,h |.map _,.list ..,h |.map _,.elem _,h |.map _,.acc ..,h=>by simp[AV.same]at h
 |.func ..,.undef,h |.func ..,.bool _,h |.func ..,.int ..,h |.func ..,.str _,h |.func ..,.ptr _,h |.func ..,.slice ..,h |.func ..,.map _,h |.func ..,.nilFunc,h |.func ..,.agg _,h |.func ..,.tuple _,h |.func ..,.list ..,h |.func ..,.elem _,h |.func ..,.acc ..,h=>by simp[AV.same]at h
 |.nilFunc,.undef,h |.nilFunc,.bool _,h |.nilFunc,.int ..,h |.nilFunc,.str _,h |.nilFunc,.ptr _,h |.nilFunc,.slice ..,h |.nilFunc,.map _,h |.nilFunc,.func ..,h |.nilFunc,.agg _,h |.nilFunc,.tuple _,h |.nilFunc,.list ..,h |.nilFunc,.elem _,h |.nilFunc,.acc ..,h=>by simp[AV.same]at h
 |.agg _,.undef,h |.agg _,.bool _,h |.agg _,.int ..,h |.agg _,.str _,h |.agg _,.ptr _,h |.agg _,.slice ..,h |.agg _,.map _,h |.agg _,.func ..,h |.agg _,.nilFunc,h |.agg _,.tuple _,h |.agg _,.list ..,h |.agg _,.elem _,h |.agg _,.acc ..,h=>by simp[AV.same]at h
 |.tuple _,.undef,h |.tuple _,.bool _,h |.tuple _,.int ..,h |.tuple _,.str _,h |.tuple _,.ptr _,h |.tuple _,.slice ..,h |.tuple _,.map _,h |.tuple _,.func ..,h |.tuple _,.nilFunc,h |.tuple _,.agg _,h |.tuple _,.list ..,h |.tuple _,.elem _,h |.tuple _,.acc ..,h=>by simp[AV.same]at h
theorem AV.Kr:∀(a b:List AV),AV.Qk a b=true→a=b
 | [],[],_=>rfl
 | a::l,b::r,h=>by
  simp[AV.Qk]at h
  rw[AV.ab0 a b h.1,AV.Kr l r h.2]
 | [],_::_,h=>by simp[AV.Qk]at h
 | _::_,[],h=>by simp[AV.Qk]at h
end
theorem aeg{g:Option (Nat×Bool)}{e e':Env}(h:Agree (match g with | some (t,_)=>[t] | none=>[]) e e'):yR g e=yR g e':=by
 cases g with
 | none=>rfl
 | some p =>
  obtain⟨t,b⟩:=p
  simp only[yR]
  rw[h t (by simp)]
def Heap.over(M:Heap)(X:Nat→Option pJ):Heap:={ M with get:=λi=>match X i with | some x=>some x | none=>M.get i }
theorem j_{M:Heap}{X:Nat→Option pJ}{i:Nat}{x:pJ}(h:X i=some x):(M.over X).get i=some x:=by simp[Heap.over,h]
theorem jl{M:Heap}{X:Nat→Option pJ}{i:Nat}(h:X i=none):(M.over X).get i=M.get i:=by simp[Heap.over,h]
theorem R.sub{ι:jh}{X Y:Heap}{w:World}(r:R ι Y w)(h:X.Sub Y)(hn:X.next=Y.next):R ι X w where
 blk b x hx:=r.blk b x (h b x hx)
 apart b b' x x' l l' h1 h2:=r.apart b b' x x' l l' (h _ _ h1) (h _ _ h2)
 fresh b hb:=by
  have:=r.fresh b (hn ▸ hb)
  refine⟨?_,this.2⟩
  cases hx:X.get b with
  | none=>rfl
  | some x=>rw[h b x hx]at this;cases this.1
theorem Tr.frame{ι dK:jh}{M M':Heap}{w w':World}{X:Nat→Option pJ}(r:R ι (M.over X) w)(hX:∀i x,X i=some x→M.get i=none∧i<M.next∧x.own=true)(t:Tr ι M w dK M' w'):Tr ι (M.over X) w dK (M'.over X) w':=by
 have hMX:∀b x,M.get b=some x→X b=none:=λb x h=>by
  cases hb:X b with
  | none=>rfl
  | some y=>rw[(hX b y hb).1]at h;cases h
 have hsub:M.Sub (M.over X):=λb x h=>by rw[jl (hMX b x h)];exact h
 have rM:R ι M w:=r.sub hsub rfl
 have hle:=t.le rM
 have aza:∀i x l,X i=some x→ι i=some l→w'.heap[l.j]?=w.heap[l.j]?:=λi x l h hl =>
  t.keep l.j (r.Kq (j_ h) hl) λb x' l' h1 h2 h3=>r.apart b i x' x l' l (hsub _ _ h1) (j_ h) h3 hl (λe=>by subst e;rw[(hX _ _ h).1]at h1;cases h1) (.inl h2)
 have mixed:∀i i' x x' l l',X i=some x→M'.get i'=some x'→ι i=some l→dK i'=some l'→l.j≠l'.j:=by
  intro i i' x x' l l' h1 h2 h3 h4 e
  have hlt:=r.Kq (j_ h1) h3
  cases ho:x'.own with
  | true =>
   obtain⟨b0,x0,l0,c1,c2,c3,c4⟩:=t.owned i' x' l' h2 ho h4 (e ▸ hlt)
   exact r.apart i b0 x x0 l l0 (j_ h1) (hsub _ _ c1) h3 c3 (λe=>by subst e;rw[(hX _ _ h1).1]at c1;cases c1) (.inr c2) (by rw[c4,e])
  | false =>
   have hm:=t.ro i' x' h2 ho
   have h4':ι i'=some l':=by rw[←t.agree i' (rM.lt hm)];exact h4
   exact r.apart i i' x x' l l' (j_ h1) (hsub _ _ hm) h3 h4' (λe=>by subst e;rw[(hX _ _ h1).1]at hm;cases hm) (.inl (hX _ _ h1).2.2) e
 have agX:∀i x,X i=some x→dK i=ι i:=λi x h=>t.agree i (hX i x h).2.1
 constructor
 ·constructor
  ·intro i x hx
   cases hi:X i with
   | some y =>
    rw[j_ hi]at hx
    obtain rfl:=av hx
    obtain⟨l,o,h1,h2,h3⟩:=r.blk i y (j_ hi)
    exact⟨l,o,hle _ _ h1,by rw[aza i y l hi h1];exact h2,h3.mono hle⟩
   | none =>
    rw[jl hi]at hx
    exact t.rel.blk i x hx
  ·intro i i' x x' l l' h1 h2 h3 h4 hne hor
   cases hi:X i with
   | some y =>
    rw[j_ hi]at h1
    obtain rfl:=av h1
    rw[agX i y hi]at h3
    cases hi':X i' with
    | some y' =>
     rw[j_ hi']at h2
     obtain rfl:=av h2
     rw[agX i' y' hi']at h4
     exact r.apart i i' y y' l l' (j_ hi) (j_ hi') h3 h4 hne hor
    | none =>
     rw[jl hi']at h2
     exact mixed i i' y x' l l' hi h2 h3 h4
   | none =>
    rw[jl hi]at h1
    cases hi':X i' with
    | some y' =>
     rw[j_ hi']at h2
     obtain rfl:=av h2
     rw[agX i' y' hi']at h4
     exact λe=>mixed i' i y' x l' l hi' h1 h4 h3 e.symm
    | none =>
     rw[jl hi']at h2
     exact t.rel.apart i i' x x' l l' h1 h2 h3 h4 hne hor
  ·intro i hi
   have hxi:X i=none:=by
    cases hx:X i with
    | none=>rfl
    | some x =>
     have h1:=(hX i x hx).2.1
     have h2:=t.next
     have h3:M'.next≤i:=hi
     omega
   rw[jl hxi]
   exact t.rel.fresh i hi
 ·exact t.agree
 ·exact t.next
 ·intro i hi hd
  cases hx:X i with
  | some x=>rw[j_ hx]at hd;cases hd
  | none =>
   rw[jl hx]at hd ⊢
   exact t.dead i hi hd
 ·intro i x hx ho
  cases hi:X i with
  | some y =>
   rw[j_ hi]at hx
   obtain rfl:=av hx
   rw[(hX i y hi).2.2]at ho
   cases ho
  | none =>
   rw[jl hi]at hx ⊢
   exact t.ro i x hx ho
 ·intro i x l h1 h2 h3 h4
  cases hi:X i with
  | some y =>
   rw[j_ hi]at h1
   obtain rfl:=av h1
   exact⟨i,y,l,j_ hi,h2,by rw[←agX i y hi];exact h3,rfl⟩
  | none =>
   rw[jl hi]at h1
   obtain⟨b0,x0,l0,c1,c2,c3,c4⟩:=t.owned i x l h1 h2 h3 h4
   exact⟨b0,x0,l0,hsub _ _ c1,c2,c3,c4⟩
 ·intro j hj hn
  exact t.keep j hj λb x l h1 h2 h3=>hn b x l (hsub _ _ h1) h2 h3
 ·exact t.size
 ·exact t.os
 ·exact t.tape
 ·exact t.output
theorem Tr.slot {xJ ι:jh} {M0 X:Heap} {w0 w w':World} (t:Tr xJ M0 w0 ι X w) {id N:Nat} (h0:M0.next≤id) (hlt:id<X.next) (hx:X.get id=none) (hi:ι id=none) {x:pJ} {ob:Obj} (ho:x.own=true) (hm:Made w w' ob)
  (hb:BR (ι.set id ⟨w.heap.size,0,N⟩) x ⟨w.heap.size,0,N⟩ ob):Tr xJ M0 w0 (ι.set id ⟨w.heap.size,0,N⟩) (X.put id (some x)) w':=by
 have r:=t.rel
 have hle:=jh.K8 hi ⟨w.heap.size,0,N⟩
 have hset:∀i,i≠id→(ι.set id ⟨w.heap.size,0,N⟩) i=ι i:=λi hi=>by simp[jh.set,hi]
 have hself:(ι.set id ⟨w.heap.size,0,N⟩) id=some ⟨w.heap.size,0,N⟩:=by simp[jh.set]
 constructor
 ·constructor
  ·intro i y hy
   rw[mV]at hy
   split at hy
   ·rename_i hi
    subst hi
    obtain rfl:=av hy
    exact⟨_,ob,hself,hm.new,hb⟩
   ·obtain⟨l',o,h1,h2,h3⟩:=r.blk i y hy
    refine⟨l',o,hle _ _ h1, ?_,h3.mono hle⟩
    rw[hm.old _ (r.Kq hy h1)]
    exact h2
  ·intro i i' y y' l1 l2 h1 h2 h3 h4 hne hor
   rw[mV]at h1 h2
   split at h1
   ·rename_i hi
    subst hi
    rw[if_neg (Ne.symm hne)]at h2
    rw[hself]at h3
    obtain rfl:=av h3
    rw[hset i' (Ne.symm hne)]at h4
    have:=r.Kq h2 h4
    simp only
    omega
   ·rename_i hi
    rw[hset i hi]at h3
    split at h2
    ·rename_i hi'
     subst hi'
     rw[hself]at h4
     obtain rfl:=av h4
     have:=r.Kq h1 h3
     simp only
     omega
    ·rename_i hi'
     rw[hset i' hi']at h4
     exact r.apart i i' y y' l1 l2 h1 h2 h3 h4 hne hor
  ·intro i hi
   have hi':X.next≤i:=hi
   have h2:i≠id:=by omega
   rw[mV,if_neg h2,hset i h2]
   exact r.fresh i hi'
 ·intro i hi
  rw[hset i (by omega)]
  exact t.agree i hi
 ·exact t.next
 ·intro i hi hd
  rw[mV,if_neg (by omega)]
  exact t.dead i hi hd
 ·intro i y hy hro
  rw[mV]at hy
  split at hy
  ·obtain rfl:=av hy
   rw[ho]at hro
   cases hro
  ·exact t.ro i y hy hro
 ·intro i y l1 h1 h2 h3 h4
  rw[mV]at h1
  split at h1
  ·rename_i hi
   subst hi
   rw[hself]at h3
   obtain rfl:=av h3
   have:=t.size
   simp at h4
   omega
  ·rename_i hi
   rw[hset i hi]at h3
   exact t.owned i y l1 h1 h2 h3 h4
 ·intro j hj hn
  rw[hm.old j (by have:=t.size;omega)]
  exact t.keep j hj hn
 ·rw[hm.size]
  have:=t.size
  omega
 ·exact hm.os.trans t.os
 ·exact hm.tape.trans t.tape
 ·exact hm.output.trans t.output
def Fw.loud:Fw→Bool
 |.n _=>true
 | _=>false
def Fw.plain:Fw→Bool
 |.p _=>true
 | _=>false
structure DStep(C:dO)(base nk:Nat)(d:iw)(e:Env)(M:Heap)(g:List Heap)(v:AV)(b:Bool)(blk:Option pJ)(e':Env)(M':Heap)(g':List Heap):Prop where
 env:e'=PN d.o.dst v e
 want:yR d.o.guard e=some b
 hist:g'=if d.o.op.loud then g++[M]else g
 no:b=false→v=.tuple []∧M'=M∧blk=none
 p:∀o,b=true→d.o.op=.p o→aP o e=some v∧M'=M∧blk=none
 l:∀o,b=true→d.o.op=.l o→aL o e (M.hide base nk)=some v∧M'=M∧blk=none∧∀k H,d.lo≤k→g[k]?=some H→aL o e (H.hide base nk)=some v
 k:∀o,b=true→d.o.op=.k o→∃x mk,aK o e=some (x,mk)∧v=mk.val (base+d.ix)∧M'=M.put (base+d.ix) (some x)∧blk=some x
 n:∀o,b=true→d.o.op=.n o→aN C o e M=some (v,M')∧blk=none
structure aay(C:dO)(base nk:Nat)(ds:List iw)(E:Nat→Env)(H:Nat→Heap)(G:Nat→List Heap)(V:Nat→AV)(W:Nat→Bool)(B:Nat→Option pJ):Prop where
 step:∀p d,ds[p]?=some d→DStep C base nk d (E p) (H p) (G p) (V p) (W p) (B p) (E (p+1)) (H (p+1)) (G (p+1))
theorem am1 {C:dO} {base nk:Nat}:∀(ds:List iw) (e:Env) (M:Heap) (g:List Heap) (e':Env) (M':Heap),Mh C base nk ds e M g=some (e',M') →
  ∃E H G V W B,aay C base nk ds E H G V W B∧E 0=e∧H 0=M∧G 0=g∧E ds.length=e'∧H ds.length=M'
 | [],e,M,g,e',M',h=>by
  simp only[Mh,aC,aS]at h
  obtain⟨rfl,rfl⟩:=h
  exact⟨λ_=>e,λ_=>M,λ_=>g,λ_=>.undef,λ_=>true,λ_=>none,⟨λp d h=>by simp at h⟩,rfl,rfl,rfl,rfl,rfl⟩
 | d::ds,e,M,g,e',M',h=>by
  have cont:∀(v:AV) (b:Bool) (blk:Option pJ) (e1:Env) (M1:Heap) (g1:List Heap),DStep C base nk d e M g v b blk e1 M1 g1→Mh C base nk ds e1 M1 g1=some (e',M') →
    ∃E H G V W B,aay C base nk (d::ds) E H G V W B∧E 0=e∧H 0=M∧G 0=g∧E (d::ds).length=e'∧H (d::ds).length=M':=by
   intro v b blk e1 M1 g1 hs hr
   obtain⟨E,H,G,V,W,B,hd,q1,q2,q3,q4,q5⟩:=am1 ds e1 M1 g1 e' M' hr
   refine⟨λp=>match p with | 0=>e | p+1=>E p,λp=>match p with | 0=>M | p+1=>H p,λp=>match p with | 0=>g | p+1=>G p,λp=>match p with | 0=>v | p+1=>V p,λp=>match p with | 0=>b | p+1=>W p,λp=>match p with | 0=>blk | p+1=>B p,⟨λp d' hp=>?_⟩,rfl,rfl,rfl,by simpa using q4,by simpa using q5⟩
   cases p with
   | zero =>
    simp at hp
    subst hp
    simp only[q1,q2,q3]
    exact hs
   | succ p=>exact hd.step p d' (by simpa using hp)
  simp only[Mh]at h
  split at h
  ·rename_i hw
   split at h
   ·rename_i o ho
    obtain⟨v,hv,h⟩:=aR.1 h
    refine cont v true none _ _ _ ?_ h
    constructor
    ·rfl
    ·exact hw
    ·simp[ho,Fw.loud]
    ·intro hb;cases hb
    ·intro o' _ ho'
     rw[ho]at ho'
     injection ho' with ho'
     subst ho'
     exact⟨hv,rfl,rfl⟩
    ·intro o' _ ho';rw[ho]at ho';cases ho'
    ·intro o' _ ho';rw[ho]at ho';cases ho'
    ·intro o' _ ho';rw[ho]at ho';cases ho'
   ·rename_i o ho
    obtain⟨v,hv,h⟩:=aR.1 h
    split at h
    case isFalse=>cases h
    rename_i hall
    refine cont v true none _ _ _ ?_ h
    constructor
    ·rfl
    ·exact hw
    ·simp[ho,Fw.loud]
    ·intro hb;cases hb
    ·intro o' _ ho';rw[ho]at ho';cases ho'
    ·intro o' _ ho'
     rw[ho]at ho'
     injection ho' with ho'
     subst ho'
     refine⟨hv,rfl,rfl,λk X hk hX=>?_⟩
     have hmem:X∈g.drop d.lo:=by
      refine List.mem_iff_getElem?.2 ⟨k-d.lo, ?_⟩
      rw[List.getElem?_drop]
      rw[show d.lo+(k-d.lo)=k from by omega]
      exact hX
     have:=List.all_eq_true.1 hall X hmem
     split at this
     ·rename_i u hu
      rw[hu,AV.ab0 _ _ this]
     ·cases this
    ·intro o' _ ho';rw[ho]at ho';cases ho'
    ·intro o' _ ho';rw[ho]at ho';cases ho'
   ·rename_i o ho
    obtain⟨⟨x,mk⟩,hv,h⟩:=aR.1 h
    refine cont (mk.val (base+d.ix)) true (some x) _ _ _ ?_ h
    constructor
    ·rfl
    ·exact hw
    ·simp[ho,Fw.loud]
    ·intro hb;cases hb
    ·intro o' _ ho';rw[ho]at ho';cases ho'
    ·intro o' _ ho';rw[ho]at ho';cases ho'
    ·intro o' _ ho'
     rw[ho]at ho'
     injection ho' with ho'
     subst ho'
     exact⟨x,mk,hv,rfl,rfl,rfl⟩
    ·intro o' _ ho';rw[ho]at ho';cases ho'
   ·rename_i o ho
    obtain⟨⟨v,M1⟩,hv,h⟩:=aR.1 h
    refine cont v true none _ M1 _ ?_ h
    constructor
    ·rfl
    ·exact hw
    ·simp[ho,Fw.loud]
    ·intro hb;cases hb
    ·intro o' _ ho';rw[ho]at ho';cases ho'
    ·intro o' _ ho';rw[ho]at ho';cases ho'
    ·intro o' _ ho';rw[ho]at ho';cases ho'
    ·intro o' _ ho'
     rw[ho]at ho'
     injection ho' with ho'
     subst ho'
     exact⟨hv,rfl⟩
  ·rename_i hw
   refine cont (.tuple []) false none _ _ _ ?_ h
   constructor
   ·rfl
   ·exact hw
   ·cases ho:d.o.op<;>simp[Fw.loud]
   ·intro _;exact⟨rfl,rfl,rfl⟩
   ·intro _ hb;cases hb
   ·intro _ hb;cases hb
   ·intro _ hb;cases hb
   ·intro _ hb;cases hb
  ·cases h
def nV(ds:List iw)(p:Nat):Bool :=
 match ds[p]? with
 | some d=>d.o.op.loud
 | none=>false
def Cz(ds:List iw)(q:Nat):Nat:=((List.range q).filter (nV ds)).length
def Fw.isK:Fw→Bool
 |.k _=>true
 | _=>false
def Fw.jY:Fw→Bool
 |.l _=>true
 | _=>false
def agH(ds:List iw)(s p:Nat):Bool :=
 match ds[p]? with
 | some d=>d.o.op.isK&&d.ix==s
 | none=>false
def oK(ds:List iw)(s:Nat):Option Nat:=(List.range ds.length).find? (agH ds s)
def isDst(ds:List iw)(t p:Nat):Bool :=
 match ds[p]? with
 | some d=>d.o.dst==some t
 | none=>false
def writer(ds:List iw)(t:Nat):Option Nat:=(List.range ds.length).find? (isDst ds t)
structure Kt(nk:Nat)(ds:List iw)(K9:Nat→Nat→Prop):Prop where
 lt:∀(p q:Nat),K9 p q→p<q
 dst:∀(p q:Nat) (d d':iw) (t:Nat),ds[p]?=some d→ds[q]?=some d'→p≠q→d.o.dst=some t→d'.o.dst≠some t
 rd:∀(p q:Nat) (d d':iw) (t:Nat),ds[p]?=some d→ds[q]?=some d'→p≠q→d'.o.dst=some t→t∈d.o.rd→K9 q p∨K9 p q
 loud:∀(p q:Nat) (d d':iw),ds[p]?=some d→ds[q]?=some d'→p<q→d'.o.op.loud=true→d.o.op.plain=false→K9 p q
 lo:∀(p:Nat) (d:iw) (q:Nat),ds[p]?=some d→d.o.op.jY=true→q<p→nV ds q=true→Cz ds q<d.lo→K9 q p
 azb:∀(p:Nat) (d:iw),ds[p]?=some d→d.o.op.isK=true→d.ix<nk
 ix:∀(p q:Nat) (d d':iw),ds[p]?=some d→ds[q]?=some d'→d.o.op.isK=true→d'.o.op.isK=true→d.ix=d'.ix→p=q
theorem ZN{n:Nat}{f:Nat→Bool}{p:Nat}(hp:p<n)(hf:f p=true)(hu:∀q,q<n→f q=true→q=p):(List.range n).find? f=some p:=by
 cases h:(List.range n).find? f with
 | none =>
  rw[List.find?_eq_none]at h
  exact absurd hf (h p (by simpa using hp))
 | some q =>
  have h1:=List.find?_some h
  have h2:=List.mem_of_find?_eq_some h
  rw[hu q (by simpa using h2) h1]
theorem afg{nk:Nat}{ds:List iw}{K9:Nat→Nat→Prop}(c:Kt nk ds K9){p:Nat}{d:iw}(hp:ds[p]?=some d)(hk:d.o.op.isK=true):oK ds d.ix=some p:=by
 refine ZN (aY.1 hp).1 (by simp[agH,hp,hk]) λq hq h=>?_
 have hq':ds[q]?=some ds[q]:=by simp[hq]
 simp only[agH,hq',Bool.and_eq_true,beq_iff_eq]at h
 exact c.ix q p _ _ hq' hp h.1 hk h.2
theorem uJ{ds:List iw}{s p:Nat}(h:oK ds s=some p):∃d,ds[p]?=some d∧d.o.op.isK=true∧d.ix=s:=by
 have h1:=List.find?_some h
 unfold agH at h1
 split at h1
 ·rename_i d hd
  simp at h1
  exact⟨d,hd,h1.1,h1.2⟩
 ·cases h1
theorem afh{nk:Nat}{ds:List iw}{K9:Nat→Nat→Prop}(c:Kt nk ds K9){p:Nat}{d:iw}{t:Nat}(hp:ds[p]?=some d)(ht:d.o.dst=some t):writer ds t=some p:=by
 refine ZN (aY.1 hp).1 (by simp[isDst,hp,ht]) λq hq h=>?_
 have hq':ds[q]?=some ds[q]:=by simp[hq]
 simp only[isDst,hq',beq_iff_eq]at h
 rcases Nat.lt_or_ge q p with hlt | hge
 ·exact absurd h (λh=>c.dst p q _ _ t hp hq' (by omega) ht h)
 ·rcases Nat.eq_or_lt_of_le hge with e | hlt
  ·exact e.symm
  ·exact absurd h (λh=>c.dst p q _ _ t hp hq' (by omega) ht h)
theorem Ku{ds:List iw}{t p:Nat}(h:writer ds t=some p):∃d,ds[p]?=some d∧d.o.dst=some t:=by
 have h1:=List.find?_some h
 unfold isDst at h1
 split at h1
 ·rename_i d hd
  exact⟨d,hd,by simpa using h1⟩
 ·cases h1
section
variable {C:dO} {base nk:Nat} {ds:List iw} {E:Nat→Env} {H:Nat→Heap} {G:Nat→List Heap} {V:Nat→AV} {W:Nat→Bool} {B:Nat→Option pJ} {K9:Nat→Nat→Prop}
def Ej(ds:List iw)(e0:Env)(V:Nat→AV)(S:Nat→Bool):Env :=
 (List.range e0.length).map λt=>match writer ds t with
  | some p=>if S p then V p else e0.getD t .undef
  | none=>e0.getD t .undef
theorem sw(e0:Env)(S:Nat→Bool):(Ej ds e0 V S).length=e0.length:=by simp[Ej]
theorem xM(e0:Env)(S:Nat→Bool)(t:Nat):(Ej ds e0 V S).getD t .undef=if t<e0.length then (match writer ds t with | some p=>if S p then V p else e0.getD t .undef | none=>e0.getD t .undef)else .undef:=by
 rw[List.getD_eq_getElem?_getD]
 simp only[Ej,List.getElem?_map]
 split
 ·rename_i h
  simp[List.getElem?_range h]
 ·rename_i h
  rw[List.getElem?_eq_none (by simpa using h)]
  rfl
theorem abA{e e':Env}(hl:e.length=e'.length)(h:∀t,e.getD t .undef=e'.getD t .undef):e=e':=by
 refine List.ext_getElem hl λi h1 h2=>?_
 have:=h i
 rw[List.getD_eq_getElem?_getD,List.getD_eq_getElem?_getD,bQ h1,bQ h2]at this
 simpa using this
theorem ZO(d:Option Nat)(v:AV)(e:Env):(PN d v e).length=e.length:=by cases d<;>simp[PN]
theorem afi(d:Option Nat)(v:AV)(e:Env)(t:Nat):(PN d v e).getD t .undef=if d=some t∧t<e.length then v else e.getD t .undef:=by
 cases d with
 | none=>simp[PN]
 | some d =>
  simp only[PN,List.getD_eq_getElem?_getD,List.getElem?_set,aC]
  by_cases hdt:d=t
  ·subst hdt
   by_cases hl:d<e.length
   ·simp[hl]
   ·simp[hl]
  ·simp[hdt]
theorem akL(c:Kt nk ds K9)(r:aay C base nk ds E H G V W B):∀p,p≤ds.length→E p=Ej ds (E 0) V (λq=>decide (q<p))
 | 0,_=>by
  refine abA (sw _ _).symm λt=>?_
  rw[xM]
  split
  ·cases writer ds t<;>simp
  ·rename_i h
   rw[List.getD_eq_getElem?_getD,List.getElem?_eq_none (by omega)]
   rfl
 | p+1,hp=>by
  have hd:ds[p]?=some ds[p]:=by simp[show p<ds.length from by omega]
  have ih:=akL c r p (by omega)
  rw[(r.step p _ hd).env,ih]
  refine abA (by rw[ZO,sw,sw]) λt=>?_
  rw[afi,xM,xM,sw]
  by_cases hl:t<(E 0).length
  ·simp only[hl,and_true,if_true]
   split
   ·rename_i hdst
    rw[afh c hd hdst]
    simp
   ·rename_i hdst
    cases hw:writer ds t with
    | none=>simp
    | some q =>
     have hqp:q≠p:=by
      rintro rfl
      obtain⟨d,hd',ht⟩:=Ku hw
      rw[hd]at hd'
      obtain rfl:=av hd'
      exact hdst ht
     simp only
     by_cases hq:q<p
     ·simp[hq,show q<p+1 from by omega]
     ·simp[hq,show ¬q<p+1 from by omega]
  ·simp[hl]
theorem Yp(c:Kt nk ds K9)(r:aay C base nk ds E H G V W B){S:Nat→Bool}(hcl:∀p q,S q=true→K9 p q→S p=true){p:Nat}{d:iw}(hp:ds[p]?=some d)(hS:S p=false)(hpre:∀q,K9 q p→S q=true):Agree d.o.rd (E p) (Ej ds (E 0) V S):=by
 intro t ht
 have aie:=(aY.1 hp).1
 rw[akL c r p (by omega),xM,xM]
 split
 ·cases hw:writer ds t with
  | none=>rfl
  | some q =>
   simp only
   obtain⟨d',hd',hdst⟩:=Ku hw
   by_cases hqp:q=p
   ·subst hqp
    simp[hS]
   ·rcases c.rd p q d d' t hp hd' (Ne.symm hqp) hdst ht with h | h
    ·simp[c.lt _ _ h,hpre q h]
    ·have:S q=false:=by
      cases hq:S q with
      | false=>rfl
      | true=>rw[hcl p q hq h]at hS;cases hS
     have hlt:=c.lt _ _ h
     simp[this,show ¬q<p from by omega]
 ·rfl
theorem am2(c:Kt nk ds K9){e0:Env}{S:Nat→Bool}{p:Nat}{d:iw}(hp:ds[p]?=some d):Ej ds e0 V (λq=>q==p||S q)=PN d.o.dst (V p) (Ej ds e0 V S):=by
 refine abA (by rw[ZO,sw,sw]) λt=>?_
 rw[afi,xM,xM,sw]
 by_cases hl:t<e0.length
 ·simp only[hl,and_true,if_true]
  by_cases hdst:d.o.dst=some t
  ·rw[if_pos hdst,afh c hp hdst]
   simp
  ·rw[if_neg hdst]
   cases hw:writer ds t with
   | none=>rfl
   | some q =>
    have hqp:(q==p)=false:=by
     cases hqp:q==p with
     | false=>rfl
     | true =>
      have hqp:=beq_iff_eq.1 hqp
      subst hqp
      obtain⟨d',hd',ht⟩:=Ku hw
      rw[hp]at hd'
      obtain rfl:=av hd'
      exact absurd ht hdst
    simp[hqp]
 ·simp[hl]
def jf(base nk:Nat)(ds:List iw)(H:Nat→Heap)(B:Nat→Option pJ)(q:Nat)(S:Nat→Bool):Heap :=
 { next:=(H q).next
   get:=λb=>if base≤b∧b<base+nk then (match oK ds (b-base)with | some p=>if p<q then (H q).get b else if S p then B p else none | none=>none)else (H q).get b }
theorem UW (c:Kt nk ds K9) (r:aay C base nk ds E H G V W B) {q:Nat}:∀p,q≤p→p≤ds.length→(∀j,q≤j→j<p→nV ds j=false) →
  (H p).next=(H q).next∧(∀b,¬(base≤b∧b<base+nk)→(H p).get b=(H q).get b) ∧
  ((∀b p0,base≤b→b<base+nk→oK ds (b-base)=some p0→q≤p0→(H q).get b=none)→∀b,base≤b→b<base+nk→(H p).get b=match oK ds (b-base)with | some p0=>if q≤p0∧p0<p then B p0 else (H q).get b | none=>(H q).get b):=by
 intro p
 induction p with
 | zero =>
  intro h1 h2 h3
  obtain rfl:q=0:=by omega
  refine⟨rfl,λ_ _=>rfl,λ_ b _ _=>?_⟩
  cases oK ds (b-base)<;>simp
 | succ p ih =>
  intro h1 h2 h3
  rcases Nat.eq_or_lt_of_le h1 with e | hlt
  ·subst e
   refine⟨rfl,λ_ _=>rfl,λ_ b _ _=>?_⟩
   cases hs:oK ds (b-base)with
   | none=>rfl
   | some p0=>simp only;rw[if_neg (by omega)]
  ·obtain⟨i1,i2,i3⟩:=ih (by omega) (by omega) (λj a b=>h3 j a (by omega))
   have hd:ds[p]?=some ds[p]:=by simp[show p<ds.length from by omega]
   have am3:(ds[p]).o.op.loud=false:=by
    have:=h3 p (by omega) (by omega)
    simpa[nV,hd]using this
   have st:=r.step p _ hd
   -- either nothing,or a slot
   have key:(H (p+1)=H p∧B p=none)∨(∃x,ds[p].o.op.isK=true∧W p=true∧B p=some x∧H (p+1)=(H p).put (base+ds[p].ix) (some x)):=by
    cases hw:W p with
    | false=>exact .inl ⟨(st.no hw).2.1,(st.no hw).2.2⟩
    | true =>
     cases ho:ds[p].o.op with
     | p o=>exact .inl ⟨(st.p o hw ho).2.1,(st.p o hw ho).2.2⟩
     | l o=>exact .inl ⟨(st.l o hw ho).2.1,(st.l o hw ho).2.2.1⟩
     | k o =>
      obtain⟨x,mk,k1,k2,k3,k4⟩:=st.k o hw ho
      exact .inr ⟨x,by simp[Fw.isK],rfl,k4,k3⟩
     | n o=>rw[ho]at am3;cases am3
   rcases key with⟨hH,hB⟩ |⟨x,hk,hw,hB,hH⟩
   ·rw[hH]
    refine⟨i1,i2,λhn b b1 b2=>?_⟩
    rw[i3 hn b b1 b2]
    cases hs:oK ds (b-base)with
    | none=>rfl
    | some p0 =>
     simp only
     by_cases hp0:p0=p
     ·subst hp0
      rw[if_neg (by omega),if_pos (by omega),hB,hn b p0 b1 b2 hs (by omega)]
     ·by_cases h4:q≤p0∧p0<p
      ·rw[if_pos h4,if_pos (by omega)]
      ·rw[if_neg h4,if_neg (by omega)]
   ·have am4:=afg c hd hk
    have hix:=c.azb p _ hd hk
    rw[hH]
    refine⟨i1,λb hb=>?_,λhn b b1 b2=>?_⟩
    ·rw[mV,if_neg (by omega)]
     exact i2 b hb
    ·rw[mV]
     by_cases hb:b=base+ds[p].ix
     ·subst hb
      rw[if_pos rfl,show base+ds[p].ix-base=ds[p].ix from by omega,am4]
      simp only
      rw[if_pos (by omega),hB]
     ·rw[if_neg hb,i3 hn b b1 b2]
      cases hs:oK ds (b-base)with
      | none=>rfl
      | some p0 =>
       simp only
       have hp0:p0≠p:=by
        rintro rfl
        obtain⟨d',hd',_,hix'⟩:=uJ hs
        rw[hd]at hd'
        obtain rfl:=av hd'
        omega
       by_cases h4:q≤p0∧p0<p
       ·rw[if_pos h4,if_pos (by omega)]
       ·rw[if_neg h4,if_neg (by omega)]
theorem am5(r:aay C base nk ds E H G V W B)(h0:G 0=[]):∀p,p≤ds.length→G p=((List.range p).filter (nV ds)).map H
 | 0,_=>by simp[h0]
 | p+1,hp=>by
  have hd:ds[p]?=some ds[p]:=by simp[show p<ds.length from by omega]
  rw[(r.step p _ hd).hist,am5 r h0 p (by omega),List.range_succ,List.filter_append,List.map_append]
  cases hl:ds[p].o.op.loud<;>simp[nV,hd,hl]
theorem apS(r:aay C base nk ds E H G V W B)(h0:G 0=[]){p j:Nat}(hp:p≤ds.length)(hj:j<p)(hl:nV ds j=true):(G p)[Cz ds j]?=some (H j):=by
 rw[am5 r h0 p hp]
 have e:List.range p=List.range j++(List.range' j (p-j)):=by
  have h1:=List.range'_append (s:=0) (m:=j) (n:=p-j) (step:=1)
  rw[List.range_eq_range',List.range_eq_range']
  simp at h1
  rw[h1]
  congr 1
  omega
 have e2:List.range' j (p-j)=j::List.range' (j+1) (p-j-1):=by
  obtain⟨m,hm⟩:∃m,p-j=m+1:=⟨p-j-1,by omega⟩
  rw[hm,List.range'_succ]
  simp
 rw[e,e2,List.filter_append,List.filter_cons,if_pos hl,List.map_append]
 rw[List.getElem?_append_right (by simp[Cz])]
 simp[Cz]
end
end Go.Proofs.YtohoggieaanllaaGreat
