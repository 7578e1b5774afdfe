import Derived.Calls
import Derived.KernelRfl
import Derived.WalkKit
import Derived.Lib.ConvBytes
import Derived.MapKept
set_option linter.all false
namespace Go.Proofs.Ytkedeiklmpkgkaa
theorem au:type_of% @Option.bind_some:=@Option.bind_some
theorem ak:type_of% @Option.some.inj:=@Option.some.inj
theorem aG:type_of% @List.forall_mem_cons:=@List.forall_mem_cons
theorem av:type_of% @Option.some.injEq:=@Option.some.injEq
theorem aJ:type_of% @List.length_append:=@List.length_append
theorem aC:type_of% @Option.map_eq_some_iff:=@Option.map_eq_some_iff
theorem aF:type_of% @Option.bind_eq_some_iff:=@Option.bind_eq_some_iff
theorem aI:type_of% @Prod.mk.injEq:=@Prod.mk.injEq
theorem aM:type_of% @List.getElem?_eq_some_iff:=@List.getElem?_eq_some_iff
theorem aS:type_of% @List.length_drop:=@List.length_drop
theorem aV:type_of% @List.length_take:=@List.length_take
theorem bZ:type_of% @List.length_cons:=@List.length_cons
theorem bO:type_of% @List.length_set:=@List.length_set
theorem dG:type_of% @List.take_succ_eq_append_getElem:=@List.take_succ_eq_append_getElem
theorem aW:type_of% @Option.map_some:=@Option.map_some
theorem bC:type_of% @Int.toNat_natCast:=@Int.toNat_natCast
theorem fJ:type_of% @List.length_nil:=@List.length_nil
theorem bn:type_of% @List.getElem?_eq_getElem:=@List.getElem?_eq_getElem
theorem bE:type_of% @List.append_assoc:=@List.append_assoc
theorem bg:type_of% @Nat.eq_of_beq_eq_true:=@Nat.eq_of_beq_eq_true
inductive AV where
 | undef
 | bool (b:Bool)
 | int (k:IntKind) (n:Int)
 | str (s:List UInt8)
 | ptr (a:Option (Nat×Nat))
 | slice (a:Option (Nat×Nat)) (sz len cap:Nat) (exact:Bool)
 | map (r:Option Nat)
 | func (f:FuncId) (caps:List AV)
 | nilFunc
 | agg (cs:List AV)
 | tuple (vs:List AV)
 | list (sz len:Nat) (cs:List AV) (ex:Bool)
 | elem (cs:List AV)
 | acc (b o sz n:Nat) (w:Bool)
instance:Inhabited AV:=⟨.undef⟩
def AV.eH:AV→Bool
 |.undef |.agg _ |.tuple _=>false
 | _=>true
def AV.cells?:AV→Option (List AV)
 |.agg cs=>if cs.all AV.eH then some cs else none
 |.undef |.tuple _=>none
 | v=>some [v]
mutual
def AV.same:AV→AV→Bool
 |.bool a,.bool b=>a==b
 |.int k a,.int k' b=>k==k'&&a==b
 |.str a,.str b=>a==b
 |.ptr a,.ptr b=>a==b
 |.slice a s l c e,.slice a' s' l' c' e'=>a==a'&&s==s'&&l==l'&&c==c'&&e==e'
 |.map a,.map b=>a==b
 |.func f cs,.func f' cs'=>f==f'&&AV.BQ cs cs'
 |.nilFunc,.nilFunc=>true
 |.agg a,.agg b=>AV.BQ a b
 |.tuple a,.tuple b=>AV.BQ a b
 | _,_=>false
def AV.BQ:List AV→List AV→Bool
 | [],[]=>true
 | a::l,b::r=>AV.same a b&&AV.BQ l r
 | _,_=>false
end
inductive jN where
 | cells (c:List AV) (ro Hg:Bool)
 | map (es:List (AV×AV))
structure Heap where
 get:Nat→Option jN
 next:Nat
def Heap.put(M:Heap)(b:Nat)(x:Option jN):Heap:={ M with get:=λi=>if i=b then x else M.get i }
def Heap.push(M:Heap)(x:jN):Heap:={ get:=λi=>if i=M.next then some x else M.get i,next:=M.next+1 }
def Heap.hide(M:Heap)(base n:Nat):Heap:={ M with get:=λi=>if base≤i∧i<base+n then none else M.get i }
def Heap.empty:Heap:={ get:=λ_=>.none,next:=0 }
def Heap.read(M:Heap)(b o n:Nat):Option (List AV) :=
 match M.get b with
 | some (.cells c _ _)=>if o+n≤c.length then some ((c.drop o).take n)else .none
 | _=>.none
def Heap.write(M:Heap)(b o:Nat)(new:List AV):Option Heap :=
 match M.get b with
 | some (.cells c false sl) =>
  if o+new.length≤c.length then some (M.put b (some (.cells (c.take o++new++c.drop (o+new.length)) false sl)))else .none
 | _=>.none
inductive AX where
 | t (n:Nat)
 | c (v:AV)
abbrev Env:=List AV
def AX.ev(e:Env):AX→AV
 |.t n=>e.getD n .undef
 |.c v=>v
inductive Kd where
 | b | i | s
 deriving DecidableEq
inductive jZ where
 | move (x:AX)
 | pick (c a b:AX)
 | build (zero:List AV) (parts:List (Nat×Nat×AX))
 | nilCheck (x:AX)
 | bin (op:BinOp) (x y:AX)
 | TJ (neg:Bool) (x y:AX)
 | TK (neg:Bool) (ks:List Kd) (x y:AX)
 | TL (neg:Bool) (x y:AX)
 | R4 (neg:Bool) (x y:AX)
 | un (op:UnOp) (x:AX)
 | Bg (k:IntKind) (x:AX)
 | BS (x:AX)
 | vP (f:FuncId) (caps:List AX)
 | lD (x:AX) (lo hi:Option AX)
 | slice (sz:Nat) (x:AX) (lo hi mx:Option AX)
 | fieldAddr (off:Nat) (x:AX)
 | field (agg:Bool) (off n:Nat) (x:AX)
 | l5 (n sz:Nat) (x i:AX)
 | jE (sz:Nat) (x i:AX)
 | index (agg:Bool) (n sz:Nat) (x i:AX)
 | n_ (x i:AX)
 | extract (x:AX) (i:Nat)
 | len (isStr:Bool) (x:AX)
 | cap (x:AX)
 | rZ (isMax:Bool) (xs:List AX)
inductive rY where
 | load (agg:Bool) (n:Nat) (x:AX)
 | jF (x:AX)
 | qV (x:AX)
 | lookup (kd:Kd) (ok:Bool) (zero:AV) (x k:AX)
inductive Bh where
 | alloc (zero:List AV)
 | box (x:AX)
 | buildSlice (sz len:Nat) (zero:List AV) (parts:List (Nat×AX))
 | makeSlice (sz bytes:Nat) (zero:List AV) (len cap:AX)
 | l6 (x:AX)
 | makeMap
inductive vO where
 | store (n:Nat) (a v:AX)
 | call (f:AX) (args:List AX)
 | append (sz bytes:Nat) (s x:AX)
 | r9 (sz bytes:Nat) (zero:List AV) (s n:AX)
 | copy (sz:Nat) (d s:AX)
 | clear (sz:Nat) (zero:List AV) (x:AX)
 | mapUpdate (kd:Kd) (m k v:AX)
 | lg (kd:Kd) (m k:AX)
 | qO (x:AX)
 | fail
inductive uT where
 | p (o:jZ)
 | l (o:rY)
 | k (o:Bh)
 | n (o:vO)
structure pX where
 dst:Option Nat
 op:uT
 guard:Option (Nat×Bool)
structure d9 where
 o:pX
 lo:Nat
 ix:Nat
inductive dI where
 | skip
 | reg (ops:List pX)
 | Ii (nk:Nat) (ops:List d9)
 | seq (a b:dI)
 | cond (c:AX) (a b:dI)
 | block (id:Nat) (c:dI)
 | loop (keep:List Nat) (c:dI)
 | exit (id:Nat)
 | ret
 | fail
inductive zR where
 | tmp (t:Nat)
 | cell (t:Nat) (agg:Bool) (n:Nat)
structure dD where
 nargs:Nat
 ntmps:Nat
 code:dI
 results:List zR
def zS(op:BinOp)(k:IntKind)(x y:Int):Option AV :=
 match op with
 |.add=>some (.int k (k.wrap (x+y)))
 |.sub=>some (.int k (k.wrap (x-y)))
 |.mul=>some (.int k (k.wrap (x*y)))
 |.quo=>if y=0 then none else some (.int k (k.wrap (x.tdiv y)))
 |.rem=>if y=0 then none else some (.int k (x.tmod y))
 |.and=>some (.int k (k.wrap (BitVec.ofInt k.bits x &&& BitVec.ofInt k.bits y).toNat))
 |.or=>some (.int k (k.wrap (BitVec.ofInt k.bits x ||| BitVec.ofInt k.bits y).toNat))
 |.xor=>some (.int k (k.wrap (BitVec.ofInt k.bits x ^^^ BitVec.ofInt k.bits y).toNat))
 |.andNot=>some (.int k (k.wrap (BitVec.ofInt k.bits x &&& ~~~BitVec.ofInt k.bits y).toNat))
 |.eql=>some (.bool (x==y))
 |.neq=>some (.bool (x != y))
 |.lss=>some (.bool (x<y))
 |.leq=>some (.bool (x≤y))
 |.gtr=>some (.bool (x>y))
 |.geq=>some (.bool (x≥y))
 |.shl |.shr=>none
def NJ(op:BinOp)(x y:List UInt8):Option AV :=
 match op with
 |.add=>if x.length+y.length≤4611686018427387904 then some (.str (x++y))else none
 |.eql=>some (.bool (x==y))
 |.neq=>some (.bool !(x==y))
 |.lss=>some (.bool (Op.bytesLess x y))
 |.leq=>some (.bool (Op.bytesLess x y||x==y))
 |.gtr=>some (.bool !(Op.bytesLess x y||x==y))
 |.geq=>some (.bool !(Op.bytesLess x y))
 | _=>none
def Ij(op:BinOp)(x y:AV):Option AV :=
 match x,y with
 |.int k a,.int k' b =>
  match op with
  |.shl=>if b<0 then none else some (.int k (k.wrap (a*2 ^ (min b.toNat k.bits))))
  |.shr=>if b<0 then none else some (.int k (a.fdiv (2 ^ (min b.toNat k.bits))))
  | _=>if k=k' then zS op k a b else none
 |.str a,.str b=>NJ op a b
 | _,_=>none
def Ik(k:Kd)(x y:AV):Option Bool :=
 match k,x,y with
 |.b,.bool a,.bool b=>some (a==b)
 |.i,.int k a,.int k' b=>if k=k' then some (a==b)else none
 |.s,.str a,.str b=>some (a==b)
 | _,_,_=>none
def ku:List Kd→List AV→List AV→Option Bool
 | [],[],[]=>some true
 | k::ks,a::l,b::r =>
  match Ik k a b,ku ks l r with
  | some x,some y=>some (x&&y)
  | _,_=>none
 | _,_,_=>none
def Ky:AV→AV→Option Bool
 |.ptr .none,.ptr b=>some b.isNone
 |.ptr (some _),.ptr .none=>some false
 |.ptr (some a),.ptr (some b)=>if a.1=b.1 then some (a.2==b.2)else none
 | _,_=>none
def Mr:AV→AV→Option Bool
 |.slice .none _ _ _ _,.slice b _ _ _ _=>some b.isNone
 |.slice (some _) _ _ _ _,.slice .none _ _ _ _=>some false
 | _,_=>none
def Zy(op:UnOp)(x:AV):Option AV :=
 match op,x with
 |.neg,.int k n=>some (.int k (k.wrap (0-n)))
 |.xor,.int k n=>some (.int k (k.wrap (BitVec.ofInt k.bits (if k.signed then -1 else k.max) ^^^ BitVec.ofInt k.bits n).toNat))
 |.not,.bool b=>some (.bool !b)
 | _,_=>none
def nJ:List AV→List (Nat×Nat×AV)→Option (List AV)
 | cs,[]=>some cs
 | cs,(off,n,v)::r =>
  match v.cells? with
  | some l=>if l.length=n∧off+n≤cs.length then nJ (cs.take off++l++cs.drop (off+n)) r else none
  | none=>none
def lS(v:AV)(most:Nat):Option Nat :=
 match v with
 |.int _ i=>if 0≤i∧i≤(most:Int)then some i.toNat else none
 | _=>none
def bT(e:Env)(x:Option AX)(other most:Nat):Option Nat :=
 match x with
 | some x=>lS (x.ev e) most
 | none=>some other
def jO(a:Option (Nat×Nat))(n:Nat):Option (Nat×Nat):=a.map λp=>(p.1,p.2+n)
def xu(s:List UInt8)(e:Env)(lo hi:Option AX):Option AV :=
 (bT e hi s.length s.length).bind λh=>(bT e lo 0 h).bind λl=>some (.str ((s.drop l).take (h-l)))
def iG(sz:Nat)(a:Option (Nat×Nat))(sz' len cap:Nat)(ex:Bool)(e:Env)(lo hi mx:Option AX):Option AV :=
 if a=none∨sz'=sz then
  match mx with
  | none=>(bT e hi len cap).bind λh=>(bT e lo 0 h).bind λl=>some (.slice (jO a (l*sz)) sz (h-l) (cap-l) ex)
  | some _=>(bT e mx cap cap).bind λm=>match hi with
   | none=>none
   | some _=>(bT e hi len m).bind λh=>(bT e lo 0 h).bind λl=>some (.slice (jO a (l*sz)) sz (h-l) (m-l) true)
 else none
def IQ(isMax:Bool):AV→AV→Option AV
 |.int k x,.int k' y=>if k=k' then some (.int k (if isMax then (if y>x then y else x)else (if y<x then y else x)))else none
 | _,_=>none
def E8(isMax:Bool):AV→List AV→Option AV
 | x,[]=>some x
 | x,y::r=>(IQ isMax x y).bind λz=>E8 isMax z r
def wo(agg:Bool)(off n:Nat)(cs:List AV):Option AV :=
 if agg then some (.agg ((cs.drop off).take n))else cs[off]?
def aP(o:jZ)(e:Env):Option AV :=
 match o with
 |.move x=>some (x.ev e)
 |.pick c a b=>match c.ev e with
  |.bool true=>some (a.ev e)
  |.bool false=>some (b.ev e)
  | _=>none
 |.build zero parts=>(nJ zero (parts.map λp=>(p.1,p.2.1,p.2.2.ev e))).map .agg
 |.nilCheck x=>match x.ev e with
  |.ptr (some a)=>some (.ptr (some a))
  |.func f cs=>some (.func f cs)
  | _=>none
 |.bin op x y=>Ij op (x.ev e) (y.ev e)
 |.TJ neg x y=>(Ik .b (x.ev e) (y.ev e)).map λb=>.bool (if neg then !b else b)
 |.TK neg ks x y=>match x.ev e,y.ev e with
  |.agg a,.agg b=>(ku ks a b).map λb=>.bool (if neg then !b else b)
  | _,_=>none
 |.TL neg x y=>(Ky (x.ev e) (y.ev e)).map λb=>.bool (if neg then !b else b)
 |.R4 neg x y=>(Mr (x.ev e) (y.ev e)).map λb=>.bool (if neg then !b else b)
 |.un op x=>Zy op (x.ev e)
 |.Bg k x=>match x.ev e with
  |.int _ n=>some (.int k (k.wrap n))
  | _=>none
 |.BS x=>match x.ev e with
  |.str s=>some (.str s)
  | _=>none
 |.vP f cs=>some (.func f (cs.map (AX.ev e)))
 |.lD x lo hi=>match x.ev e with
  |.str s=>xu s e lo hi
  | _=>none
 |.slice sz x lo hi mx=>match x.ev e with
  |.slice a sz' len cap ex=>iG sz a sz' len cap ex e lo hi mx
  | _=>none
 |.fieldAddr off x=>match x.ev e with
  |.ptr (some a)=>some (.ptr (some (a.1,a.2+off)))
  | _=>none
 |.field agg off n x=>match x.ev e with
  |.agg cs=>wo agg off n cs
  | _=>none
 |.l5 n sz x i=>match x.ev e,i.ev e with
  |.ptr (some a),.int _ j=>if 0≤j∧j<(n:Int)then some (.ptr (some (a.1,a.2+j.toNat*sz)))else none
  | _,_=>none
 |.jE sz x i=>match x.ev e,i.ev e with
  |.slice (some a) sz' len cap ex,.int _ j=>if 0≤j∧j<(len:Int)∧sz'=sz then some (.ptr (some (a.1,a.2+j.toNat*sz)))else none
  | _,_=>none
 |.index agg n sz x i=>match x.ev e,i.ev e with
  |.agg cs,.int _ j=>if 0≤j∧j<(n:Int)then wo agg (j.toNat*sz) sz cs else none
  | _,_=>none
 |.n_ x i=>match x.ev e,i.ev e with
  |.str s,.int _ j=>if 0≤j then (s[j.toNat]?).map λb=>.int .u8 b.toNat else none
  | _,_=>none
 |.extract x i=>match x.ev e with
  |.tuple vs=>vs[i]?
  | _=>none
 |.len isStr x=>match isStr,x.ev e with
  | true,.str s=>some (.int .i64 s.length)
  | false,.slice _ _ len _ _=>some (.int .i64 len)
  | _,_=>none
 |.cap x=>match x.ev e with
  |.slice _ _ _ cap true=>some (.int .i64 cap)
  | _=>none
 |.rZ isMax xs=>match xs.map (AX.ev e)with
  | x::r=>E8 isMax x r
  | []=>none
def lF:List AV→Option (List UInt8)
 | []=>some []
 |.int .u8 n::r=>(lF r).map (UInt8.ofNat n.toNat::·)
 | _::_=>none
def yI(agg:Bool)(n:Nat)(v:AV)(M:Heap):Option AV :=
 match v with
 |.ptr (some (b,o))=>if agg then (M.read b o n).map .agg else match M.get b with
  | some (.cells c _ _)=>c[o]?
  | _=>none
 | _=>none
def o8(v:AV)(M:Heap):Option AV :=
 match v with
 |.slice .none _ _ _ _=>some (.str [])
 |.slice (some (b,o)) 1 len _ _=>if len=0 then some (.str [])else ((M.read b o len).bind lF).map .str
 | _=>none
def yJ(kd:Kd)(k:AV):List (AV×AV)→Nat→Option (Option (Nat×AV))
 | [],_=>some none
 | e::r,i=>match Ik kd k e.1 with
  | some true=>some (some (i,e.2))
  | some false=>yJ kd k r (i+1)
  | none=>none
def og(v:AV)(M:Heap):Option (List (AV×AV)) :=
 match v with
 |.map .none=>some []
 |.map (some r)=>match M.get r with
  | some (.map es)=>some es
  | _=>none
 | _=>none
def E9(kd:Kd)(ok:Bool)(zero v k:AV)(M:Heap):Option AV :=
 (og v M).bind λes=>(yJ kd k es 0).map λr =>
  let p:AV×Bool:=match r with
   | some (_,x)=>(x,true)
   | none=>(zero,false)
  if ok then .tuple [p.1,.bool p.2]else p.1
def aL(o:rY)(e:Env)(M:Heap):Option AV :=
 match o with
 |.load agg n x=>yI agg n (x.ev e) M
 |.jF x=>o8 (x.ev e) M
 |.qV x=>(og (x.ev e) M).map λes=>.int .i64 es.length
 |.lookup kd ok zero x k=>E9 kd ok zero (x.ev e) (k.ev e) M
inductive Mk where
 | ptr
 | slice (sz len cap:Nat) (ex:Bool)
 | map
def Mk.val(k:Mk)(b:Nat):AV :=
 match k with
 |.ptr=>.ptr (some (b,0))
 |.slice sz len cap ex=>.slice (some (b,0)) sz len cap ex
 |.map=>.map (some b)
def jo(n:Nat)(zero:List AV):List AV :=
 match n with
 | 0=>[]
 | n+1=>zero++jo n zero
def Az(sz bytes:Nat)(zero:List AV)(l c:AV):Option (jN×Mk) :=
 match l,c with
 |.int _ l,.int _ c =>
  if 0≤l∧l≤c∧c≤4611686018427387904∧bytes*c.toNat≤281474976710656 then some (.cells (jo c.toNat zero) false false,.slice sz l.toNat c.toNat true)else none
 | _,_=>none
def aK(o:Bh)(e:Env):Option (jN×Mk) :=
 match o with
 |.alloc zero=>some (.cells zero false false,.ptr)
 |.box x=>(x.ev e).cells?.map λcs=>(.cells cs false false,.ptr)
 |.buildSlice sz len zero parts =>
  (nJ (jo len zero) (parts.map λp=>(p.1*sz,sz,p.2.ev e))).map λcs=>(.cells cs false false,.slice sz len len true)
 |.makeSlice sz bytes zero l c=>Az sz bytes zero (l.ev e) (c.ev e)
 |.l6 x=>match x.ev e with
  |.str s=>if s.length≤70368744177664 then some (.cells (s.map λb=>.int .u8 b.toNat) false true,.slice 1 s.length s.length false)else none
  | _=>none
 |.makeMap=>some (.map [],.map)
def I9(n:Nat)(a v:AV)(M:Heap):Option (AV×Heap) :=
 match a,v.cells? with
 |.ptr (some (b,o)),some cs=>if cs.length=n then (M.write b o cs).map λM=>(.tuple [],M)else none
 | _,_=>none
def eO(sz bytes:Nat)(s:AV)(n:Nat)(new:List AV)(M:Heap):Option (AV×Heap) :=
 match s with
 |.slice a sz' len cap ex =>
  if a≠none∧sz'≠sz then none
  else if len+n≤cap then
   match a with
   | none=>if n=0 then some (.slice none sz len cap ex,M)else none
   | some (b,o)=>if n=0 then some (.slice (some (b,o)) sz len cap ex,M)
    else (M.write b (o+len*sz) new).map λM=>(.slice (some (b,o)) sz (len+n) cap ex,M)
  else if (len+n)*bytes≤70368744177664∧len+n≤70368744177664 then
   match a with
   | none=>some (.slice (some (M.next,0)) sz (len+n) (len+n) false,M.push (.cells new false true))
   | some (b,o)=>(if ex=true∧len=0 then some []else M.read b o (len*sz)).bind λold =>
    if ex then some (.slice (some (M.next,0)) sz (len+n) (len+n) false,M.push (.cells (old++new) false true))
    else match M.get b with
     | some (.cells _ false _)=>some (.slice (some (M.next,0)) sz (len+n) (len+n) false,(M.put b none).push (.cells (old++new) false true))
     | _=>none
  else none
 | _=>none
def kC(x:AV)(M:Heap):Option (Nat×List AV) :=
 match x with
 |.slice .none _ len _ _=>some (len,[])
 |.slice (some (b,o)) sz len _ _=>if len=0 then some (0,[])else (M.read b o (len*sz)).map λcs=>(len,cs)
 |.str s=>some (s.length,s.map λb=>.int .u8 b.toNat)
 | _=>none
def dM(x:AV)(sz:Nat):Bool :=
 match x with
 |.slice .none _ len _ _=>len==0
 |.slice (some _) sz' _ _ _=>sz'==sz
 |.str _=>sz==1
 | _=>false
def aSize(x:AV):Option Nat :=
 match x with
 |.slice _ _ len _ _=>some len
 |.str s=>some s.length
 | _=>none
def Ms(x:AV)(k:Nat)(M:Heap):Option (List AV) :=
 match x with
 |.slice .none _ _ _ _=>some []
 |.slice (some (b,o)) sz _ _ _=>if k=0 then some []else M.read b o (k*sz)
 |.str s=>some ((s.map λb=>.int .u8 b.toNat).take k)
 | _=>none
def Heap.lay(M:Heap)(b o:Nat)(new:List AV):Option Heap :=
 match M.get b with
 | some (.cells c false sl) =>
  if o+new.length≤c.length∨(sl=true∧o≤c.length)then some (M.put b (some (.cells (c.take o++new++c.drop (o+new.length)) false sl)))else .none
 | _=>.none
def D7(sz:Nat)(d s:AV)(M:Heap):Option (AV×Heap) :=
 match d with
 |.slice a sz' len _ _ =>
  if (a=none∨sz'=sz)∧dM s sz then
   (aSize s).bind λm =>
    let n:=min m len
    (Ms s n M).bind λcs=>match a with
    | none=>some (.int .i64 n,M)
    | some (b,o)=>if n=0 then some (.int .i64 n,M)else (M.lay b o cs).map λM=>(.int .i64 n,M)
  else none
 | _=>none
def Mt(sz:Nat)(zero:List AV)(x:AV)(M:Heap):Option (AV×Heap) :=
 match x with
 |.slice .none _ _ _ _=>some (.tuple [],M)
 |.slice (some (b,o)) sz' len _ _=>if sz'=sz then (if len=0 then some (.tuple [],M)else (M.write b o (jo len zero)).map λM=>(.tuple [],M))else none
 | _=>none
def Eo(kd:Kd)(m k v:AV)(M:Heap):Option (AV×Heap) :=
 match m with
 |.map (some r)=>match M.get r with
  | some (.map es) =>
   if v.eH=false∧(v.cells?).isNone then none else
   (yJ kd k es 0).bind λp=>match p with
   | some (i,_)=>some (.tuple [],M.put r (some (.map (es.set i (k,v)))))
   | none=>if k.eH then some (.tuple [],M.put r (some (.map (es++[(k,v)]))))else none
  | _=>none
 | _=>none
def Ep(kd:Kd)(m k:AV)(M:Heap):Option (AV×Heap) :=
 match m with
 |.map (some r)=>match M.get r with
  | some (.map es)=>(yJ kd k es 0).bind λp=>match p with
   | some (i,_)=>some (.tuple [],M.put r (some (.map (es.eraseIdx i))))
   | none=>some (.tuple [],M)
  | _=>none
 | _=>none
def I_(x:AV)(M:Heap):Option (AV×Heap) :=
 match x with
 |.slice (some (b,o)) sz len cap ex=>if cap=0 then none else match M.get b with
  | some (.cells c false _)=>some (.slice (some (b,o)) sz len cap ex,M.put b (some (.cells c false true)))
  | _=>none
 | _=>none
abbrev bH:=FuncId→List AV→Heap→Option (AV×Heap)
def NK(C:bH)(f:AV)(args:List AV)(M:Heap):Option (AV×Heap) :=
 match f with
 |.func g caps=>C g (args++caps) M
 | _=>none
def aN(C:bH)(o:vO)(e:Env)(M:Heap):Option (AV×Heap) :=
 match o with
 |.store n a v=>I9 n (a.ev e) (v.ev e) M
 |.call f args=>NK C (f.ev e) (args.map (AX.ev e)) M
 |.append sz bytes s x =>
  if dM (x.ev e) sz then (kC (x.ev e) M).bind λp=>eO sz bytes (s.ev e) p.1 p.2 M else none
 |.r9 sz bytes zero s n=>match n.ev e with
  |.int _ n=>if 0<n∧n≤70368744177664∧bytes*n.toNat≤281474976710656 then eO sz bytes (s.ev e) n.toNat (jo n.toNat zero) M else none
  | _=>none
 |.copy sz d s=>D7 sz (d.ev e) (s.ev e) M
 |.clear sz zero x=>Mt sz zero (x.ev e) M
 |.mapUpdate kd m k v=>Eo kd (m.ev e) (k.ev e) (v.ev e) M
 |.lg kd m k=>Ep kd (m.ev e) (k.ev e) M
 |.qO x=>I_ (x.ev e) M
 |.fail=>none
def Er(C:bH)(o:uT)(e:Env)(M:Heap):Option (AV×Heap) :=
 match o with
 |.p o=>(aP o e).map λv=>(v,M)
 |.l o=>(aL o e M).map λv=>(v,M)
 |.k o=>(aK o e).map λr=>(r.2.val M.next,M.push r.1)
 |.n o=>aN C o e M
def BD(d:Option Nat)(v:AV)(e:Env):Env :=
 match d with
 | some d=>e.set d v
 | none=>e
def o9(g:Option (Nat×Bool))(e:Env):Option Bool :=
 match g with
 | none=>some true
 | some (t,want)=>match e.getD t .undef with
  |.bool b=>some (b==want)
  |.tuple _=>some false
  | _=>none
def Gl(C:bH):List pX→Env→Heap→Option (Env×Heap)
 | [],e,M=>some (e,M)
 | o::r,e,M=>match o9 o.guard e with
  | some true=>(Er C o.op e M).bind λp=>Gl C r (BD o.dst p.1 e) p.2
  | some false=>Gl C r (BD o.dst (.tuple []) e) M
  | none=>none
def zT(C:bH)(base nk:Nat):List d9→Env→Heap→List Heap→Option (Env×Heap)
 | [],e,M,_=>some (e,M)
 | d::r,e,M,hist=>match o9 d.o.guard e with
  | some true=>match d.o.op with
   |.p o=>(aP o e).bind λv=>zT C base nk r (BD d.o.dst v e) M hist
   |.l o=>(aL o e (M.hide base nk)).bind λv =>
    if (hist.drop d.lo).all (λH=>match aL o e (H.hide base nk)with | some u=>AV.same u v | none=>false)then zT C base nk r (BD d.o.dst v e) M hist else none
   |.k o=>(aK o e).bind λp=>zT C base nk r (BD d.o.dst (p.2.val (base+d.ix)) e) (M.put (base+d.ix) (some p.1)) hist
   |.n o=>(aN C o e M).bind λp=>zT C base nk r (BD d.o.dst p.1 e) p.2 (hist++[M])
  | some false=>zT C base nk r (BD d.o.dst (.tuple []) e) M (match d.o.op with |.n _=>hist++[M] | _=>hist)
  | none=>none
inductive Ex where
 | normal
 | exit (id:Nat)
 | ret
 deriving DecidableEq
def jG(keep:List Nat):Nat→Env→Env
 | _,[]=>[]
 | i,v::r=>(if keep.contains i then v else .undef)::jG keep (i+1) r
abbrev Xb:=Option (Ex×Env×Heap)
def Ja(body:Env→Heap→Xb)(keep:List Nat):Nat→Env→Heap→Xb
 | 0,_,_=>none
 | k+1,e,M=>match body (jG keep 0 e) M with
  | some (.normal,e',M')=>Ja body keep k e' M'
  | r=>r
def jH(C:bH)(K:Nat):dI→Env→Heap→Xb
 |.skip,e,M=>some (.normal,e,M)
 |.reg ops,e,M=>(Gl C ops e M).map λp=>(.normal,p)
 |.Ii nk ops,e,M=>(zT C M.next nk ops e { M with next:=M.next+nk } []).map λp=>(.normal,p)
 |.seq a b,e,M=>match jH C K a e M with
  | some (.normal,e',M')=>jH C K b e' M'
  | r=>r
 |.cond c a b,e,M=>match c.ev e with
  |.bool true=>jH C K a e M
  |.bool false=>jH C K b e M
  | _=>none
 |.block id c,e,M=>match jH C K c e M with
  | some (.exit i,e',M')=>if i=id then some (.normal,e',M')else some (.exit i,e',M')
  | r=>r
 |.loop keep c,e,M=>Ja (jH C K c) keep K e M
 |.exit id,e,M=>some (.exit id,e,M)
 |.ret,e,M=>some (.ret,e,M)
 |.fail,_,_=>none
def PD(r:zR)(e:Env)(M:Heap):Option AV :=
 match r with
 |.tmp t=>match e.getD t .undef with
  |.undef=>none
  | v=>some v
 |.cell t agg n=>yI agg n (e.getD t .undef) M
def Jb:List zR→Env→Heap→Option (List AV)
 | [],_,_=>some []
 | r::l,e,M=>(PD r e M).bind λv=>(Jb l e M).map (v::·)
def xB(l:List zR)(e:Env)(M:Heap):Option AV :=
 (Jb l e M).map λvs=>match vs with
  | [v]=>v
  | vs=>.tuple vs
def abody(C:bH)(K:Nat)(f:dD)(args:List AV)(M:Heap):Option (AV×Heap) :=
 if args.length=f.nargs∧f.nargs≤f.ntmps then
  match jH C K f.code (args++List.replicate (f.ntmps-f.nargs) (.tuple [])) M with
  | some (.normal,e,M')=>(xB f.results e M').map λv=>(v,M')
  | some (.ret,e,M')=>(xB f.results e M').map λv=>(v,M')
  | _=>none
 else none
def Bj(G:FuncId→Option (List AV→Heap→Option (AV×Heap)))(T:FuncId→Option dD)(K:Nat):Nat→bH
 | 0,_,_,_=>none
 | d+1,f,args,M=>match G f with
  | some g=>g args M
  | none=>match T f with
   | some af=>abody (Bj G T K d) K af args M
   | none=>none
structure Loc where
 j:Nat
 d:Nat
 N:Nat
abbrev fq:=Nat→Option Loc
mutual
def VR(ι:fq):AV→Value→Prop
 |.undef,_=>True
 |.bool b,v=>v=.bool b
 |.int k n,v=>v=.int k n
 |.str s,v=>∃b:ByteArray,v=.string b∧b.data.toList=s
 |.ptr none,v=>v=.pointer none
 |.ptr (some (b,o)),v=>∃l,ι b=some l∧v=.pointer (some ⟨l.j,l.d+o,none⟩)
 |.slice none _ len cap ex,v=>v=.slice none 0 0∧len=0∧cap=0∧ex=true
 | .slice (some (b,o)) sz len cap ex,v=>∃l a cap',ι b=some l∧v=.slice (some a) len cap'∧(cap'=0∨a.block=l.j)∧(cap'=0∨a.spot=none) ∧
   (cap'=0∨a.off=l.d+o)∧len≤cap∧cap≤cap'∧(ex=true→cap'=cap)∧o+cap'*sz≤l.N∧0<sz
 |.map none,v=>v=.map none
 |.map (some r),v=>∃l,ι r=some l∧v=.map (some l.j)
 |.func f caps,v=>∃cs:Array Value,v=.func (.func f) #[] cs∧dQ ι caps cs.toList
 |.nilFunc,v=>v=.nilFunc
 |.agg cs,v=>∃vs:Array Value,v=.agg vs∧dQ ι cs vs.toList
 |.tuple cs,v=>∃vs:Array Value,v=.tuple vs∧dQ ι cs vs.toList
 |.list ..,_=>False
 |.elem ..,_=>False
 |.acc ..,_=>False
def dQ(ι:fq):List AV→List Value→Prop
 | [],[]=>True
 | a::l,v::r=>VR ι a v∧dQ ι l r
 | _,_=>False
end
theorem VR.undef(ι:fq)(v:Value):VR ι .undef v:=by simp[VR]
def fq.Le(ι bI:fq):Prop:=∀b l,ι b=some l→bI b=some l
theorem fq.Le.refl(ι:fq):ι.Le ι:=λ_ _ h=>h
theorem fq.Le.trans{a b c:fq}(h:a.Le b)(k:b.Le c):a.Le c:=λ_ _ e=>k _ _ (h _ _ e)
mutual
theorem VR.mono{ι bI:fq}(h:ι.Le bI):∀(a:AV) (v:Value),VR ι a v→VR bI a v
 |.undef,_,_=>VR.undef _ _
 |.bool _,_,e=>by simpa[VR]using e
 |.int _ _,_,e=>by simpa[VR]using e
 |.str _,_,e=>by simpa[VR]using e
 |.ptr none,_,e=>by simpa[VR]using e
 |.ptr (some (b,o)),_,e=>by
  simp only[VR]at e ⊢
  obtain⟨l,h1,h2⟩:=e
  exact⟨l,h _ _ h1,h2⟩
 |.slice none _ _ _ _,_,e=>by simpa[VR]using e
 |.slice (some (b,o)) _ _ _ _,_,e=>by
  simp only[VR]at e ⊢
  obtain⟨l,a,c,h1,r⟩:=e
  exact⟨l,a,c,h _ _ h1,r⟩
 |.map none,_,e=>by simpa[VR]using e
 |.map (some r),_,e=>by
  simp only[VR]at e ⊢
  obtain⟨l,h1,h2⟩:=e
  exact⟨l,h _ _ h1,h2⟩
 |.func f caps,_,e=>by
  simp only[VR]at e ⊢
  obtain⟨cs,h1,h2⟩:=e
  exact⟨cs,h1,dQ.mono h _ _ h2⟩
 |.nilFunc,_,e=>by simpa[VR]using e
 |.list ..,_,e=>by simp[VR]at e
 |.elem ..,_,e=>by simp[VR]at e
 |.acc ..,_,e=>by simp[VR]at e
 |.agg cs,_,e=>by
  simp only[VR]at e ⊢
  obtain⟨vs,h1,h2⟩:=e
  exact⟨vs,h1,dQ.mono h _ _ h2⟩
 |.tuple cs,_,e=>by
  simp only[VR]at e ⊢
  obtain⟨vs,h1,h2⟩:=e
  exact⟨vs,h1,dQ.mono h _ _ h2⟩
theorem dQ.mono{ι bI:fq}(h:ι.Le bI):∀(l:List AV) (r:List Value),dQ ι l r→dQ bI l r
 | [],[],_=>by simp[dQ]
 | a::l,v::r,e=>by
  simp only[dQ]at e ⊢
  exact⟨VR.mono h _ _ e.1,dQ.mono h _ _ e.2⟩
 | [],_::_,e=>by simp[dQ]at e
 | _::_,[],e=>by simp[dQ]at e
end
theorem dQ.length{ι:fq}:∀ {l:List AV} {r:List Value},dQ ι l r→l.length=r.length
 | [],[],_=>rfl
 | _::l,_::r,e=>by
  simp only[dQ]at e
  simp[dQ.length e.2]
 | [],_::_,e=>by simp[dQ]at e
 | _::_,[],e=>by simp[dQ]at e
theorem dQ.get{ι:fq}:∀ {l:List AV} {r:List Value},dQ ι l r→∀(i:Nat) (a:AV),l[i]?=some a→∃v,r[i]?=some v∧VR ι a v
 | [],_,_,i,a,h=>by simp at h
 | a::l,v::r,e,i,x,h=>by
  simp only[dQ]at e
  cases i with
  | zero =>
   simp at h
   subst h
   exact⟨v,by simp,e.1⟩
  | succ i=>simpa using dQ.get e.2 i x (by simpa using h)
 | _::_,[],e,_,_,_=>by simp[dQ]at e
theorem dQ.r_{ι:fq}:∀ {l:List AV} {r:List Value},l.length=r.length→(∀(i:Nat) (a:AV) (v:Value),l[i]?=some a→r[i]?=some v→VR ι a v)→dQ ι l r
 | [],[],_,_=>by simp[dQ]
 | a::l,v::r,hl,h=>by
  simp only[dQ]
  exact⟨h 0 a v (by simp) (by simp),dQ.r_ (by simpa using hl) λi x y hx hy=>h (i+1) x y (by simpa using hx) (by simpa using hy)⟩
 | [],_::_,hl,_=>by simp at hl
 | _::_,[],hl,_=>by simp at hl
theorem dQ.append{ι:fq}:∀ {l l':List AV} {r r':List Value},dQ ι l r→dQ ι l' r'→dQ ι (l++l') (r++r')
 | [],_,[],_,_,h=>by simpa using h
 | a::l,_,v::r,_,e,h=>by
  simp only[dQ,List.cons_append]at e ⊢
  exact⟨e.1,dQ.append e.2 h⟩
 | [],_,_::_,_,e,_=>by simp[dQ]at e
 | _::_,_,[],_,e,_=>by simp[dQ]at e
theorem dQ.drop{ι:fq}:∀ {l:List AV} {r:List Value} (n:Nat),dQ ι l r→dQ ι (l.drop n) (r.drop n)
 | _,_,0,e=>by simpa using e
 | [],[],_+1,e=>by simpa using e
 | _::l,_::r,n+1,e=>by
  simp only[dQ]at e
  simpa using dQ.drop n e.2
 | [],_::_,_+1,e=>by simp[dQ]at e
 | _::_,[],_+1,e=>by simp[dQ]at e
theorem dQ.take{ι:fq}:∀ {l:List AV} {r:List Value} (n:Nat),dQ ι l r→dQ ι (l.take n) (r.take n)
 | _,_,0,e=>by simp[dQ]
 | [],[],_+1,e=>by simp[dQ]
 | _::l,_::r,n+1,e=>by
  simp only[dQ]at e
  simp only[List.take_succ_cons,dQ]
  exact⟨e.1,dQ.take n e.2⟩
 | [],_::_,_+1,e=>by simp[dQ]at e
 | _::_,[],_+1,e=>by simp[dQ]at e
theorem dQ.getD{ι:fq}{l:List AV}{r:List Value}(h:dQ ι l r)(i:Nat)(d:Value):VR ι (l.getD i .undef) (r.getD i d):=by
 rw[List.getD_eq_getElem?_getD,List.getD_eq_getElem?_getD]
 cases hi:l[i]? with
 | none=>simp[VR]
 | some a =>
  obtain⟨v,hv,hr⟩:=h.get i a hi
  simpa[hv]using hr
theorem dQ.set{ι:fq}:∀ {l:List AV} {r:List Value} (n:Nat) {a:AV} {v:Value},dQ ι l r→VR ι a v→dQ ι (l.set n a) (r.set n v)
 | [],[],_,_,_,e,_=>by simp[dQ]
 | _::l,_::r,0,_,_,e,h=>by
  simp only[dQ,List.set_cons_zero]at e ⊢
  exact⟨h,e.2⟩
 | _::l,_::r,n+1,_,_,e,h=>by
  simp only[dQ,List.set_cons_succ]at e ⊢
  exact⟨e.1,dQ.set n e.2 h⟩
 | [],_::_,_,_,_,e,_=>by simp[dQ]at e
 | _::_,[],_,_,_,e,_=>by simp[dQ]at e
theorem dQ.jG{ι:fq}(keep:List Nat):∀ {l:List AV} {r:List Value} (i:Nat),dQ ι l r→dQ ι (jG keep i l) r
 | [],[],_,e=>by simp[Proofs.Ytkedeiklmpkgkaa.jG,dQ]
 | a::l,_::r,i,e=>by
  simp only[dQ,Proofs.Ytkedeiklmpkgkaa.jG]at e ⊢
  refine⟨?_,dQ.jG keep (i+1) e.2⟩
  split
  ·exact e.1
  ·exact VR.undef _ _
 | [],_::_,_,e=>by simp[dQ]at e
 | _::_,[],_,e=>by simp[dQ]at e
theorem BU{ι:fq}{a:AV}{v:Value}(h:a.eH=true)(r:VR ι a v):v.oneCell'=true:=by
 cases a with
 | undef=>simp[AV.eH]at h
 | agg _=>simp[AV.eH]at h
 | tuple _=>simp[AV.eH]at h
 | bool b=>simp only[VR]at r;subst r;rfl
 | int k n=>simp only[VR]at r;subst r;rfl
 | str s=>simp only[VR]at r;obtain⟨b,rfl,_⟩:=r;rfl
 | ptr a =>
  cases a with
  | none=>simp only[VR]at r;subst r;rfl
  | some p=>simp only[VR]at r;obtain⟨l,_,rfl⟩:=r;rfl
 | slice a sz len cap ex =>
  cases a with
  | none=>simp only[VR]at r;obtain⟨rfl,_⟩:=r;rfl
  | some p=>simp only[VR]at r;obtain⟨l,a,c,_,rfl,_⟩:=r;rfl
 | map r' =>
  cases r' with
  | none=>simp only[VR]at r;subst r;rfl
  | some p=>simp only[VR]at r;obtain⟨l,_,rfl⟩:=r;rfl
 | func f cs=>simp only[VR]at r;obtain⟨vs,rfl,_⟩:=r;rfl
 | nilFunc=>simp only[VR]at r;subst r;rfl
 | list=>simp[VR]at r
 | elem=>simp[VR]at r
 | acc=>simp[VR]at r
theorem cells_one{v:Value}(h:v.oneCell'=true):v.cells=#[v]:=by
 cases v<;>simp_all [Value.cells,Value.oneCell']
theorem Gm {ι:fq} {a:AV} {v:Value} {cs:List AV} (h:a.cells?=some cs) (r:VR ι a v) :
  dQ ι cs v.cells.toList∧∀x,x∈cs→x.eH=true:=by
 cases a with
 | undef=>simp[AV.cells?]at h
 | tuple _=>simp[AV.cells?]at h
 | agg l =>
  simp only[AV.cells?]at h
  split at h
  ·rename_i hall
   obtain rfl:=ak h
   simp only[VR]at r
   obtain⟨vs,rfl,hr⟩:=r
   exact⟨by simpa[Value.cells]using hr,λx hx=>List.all_eq_true.1 hall x hx⟩
  ·cases h
 | _ =>
  all_goals
   simp only[AV.cells?,av]at h
   subst h
   have ho:=BU (by rfl) r
   rw[cells_one ho]
   exact⟨by simp only[dQ];exact⟨r,trivial⟩,λx hx=>by simp at hx;subst hx;rfl⟩
def jN.own:jN→Bool
 |.cells _ ro _=>!ro
 |.map _=>true
def yj(ι:fq):List (AV×AV)→List MapEntry→Prop
 | [],[]=>True
 | a::l,e::r=>VR ι a.1 e.key∧VR ι a.2 e.val∧yj ι l r
 | _,_=>False
theorem yj.mono{ι bI:fq}(h:ι.Le bI):∀ {l:List (AV×AV)} {r:List MapEntry},yj ι l r→yj bI l r
 | [],[],_=>by simp[yj]
 | _::l,_::r,e=>by
  simp only[yj]at e ⊢
  exact⟨e.1.mono h,e.2.1.mono h,yj.mono h e.2.2⟩
 | [],_::_,e=>by simp[yj]at e
 | _::_,[],e=>by simp[yj]at e
def BR(ι:fq):jN→Loc→Obj→Prop
 | .cells c ro Hg,l,o=>∃(cs:Array Value) (elem:TypeId) (fz:Nat×Nat),o=.cells cs elem fz∧l.d+l.N≤cs.size∧c.length≤l.N∧(Hg=false→c.length=l.N) ∧
   (∀i a,c[i]?=some a→∃v,cs[l.d+i]?=some v∧a.eH=true∧VR ι a v)∧(ro=false→(fz.1=fz.2∨cs.size≤fz.1)∧(Hg=false→fz.1=fz.2))
 |.map es,l,o=>∃(es':Array MapEntry) (clock:Nat),o=.map es' clock∧yj ι es es'.toList
theorem BR.mono{ι bI:fq}(h:ι.Le bI){x:jN}{l:Loc}{o:Obj}(r:BR ι x l o):BR bI x l o:=by
 cases x with
 | cells c ro Hg =>
  obtain⟨cs,elem,fz,h1,h2,h3,h4,h5,h6⟩:=r
  exact⟨cs,elem,fz,h1,h2,h3,h4,λi a hi=>let ⟨v,a1,a2,a3⟩:=h5 i a hi;⟨v,a1,a2,a3.mono h⟩,h6⟩
 | map es =>
  obtain⟨es',clock,h1,h2⟩:=r
  exact⟨es',clock,h1,h2.mono h⟩
structure R(ι:fq)(M:Heap)(w:World):Prop where
 blk:∀b x,M.get b=some x→∃l o,ι b=some l∧w.heap[l.j]?=some o∧BR ι x l o
 apart:∀b b' x x' l l',M.get b=some x→M.get b'=some x'→ι b=some l→ι b'=some l'→b≠b'→(x.own=true∨x'.own=true)→l.j≠l'.j
 fresh:∀b,M.next≤b→M.get b=none∧ι b=none
structure Tr(ι:fq)(M:Heap)(w:World)(bI:fq)(M':Heap)(w':World):Prop where
 rel:R bI M' w'
 agree:∀b,b<M.next→bI b=ι b
 next:M.next≤M'.next
 dead:∀b,b<M.next→M.get b=none→M'.get b=none
 ro:∀b x,M'.get b=some x→x.own=false→M.get b=some x
 owned:∀b x l,M'.get b=some x→x.own=true→bI b=some l→l.j<w.heap.size→∃b0 x0 l0,M.get b0=some x0∧x0.own=true∧ι b0=some l0∧l0.j=l.j
 keep:∀j,j<w.heap.size→(∀b x l,M.get b=some x→x.own=true→ι b=some l→l.j≠j)→w'.heap[j]?=w.heap[j]?
 size:w.heap.size≤w'.heap.size
 os:w'.os=w.os
 tape:w'.tape=w.tape
 output:w'.output=w.output
theorem Tr.le{ι bI:fq}{M M':Heap}{w w':World}(r:R ι M w)(h:Tr ι M w bI M' w'):ι.Le bI:=λb l e=>by
 rcases Nat.lt_or_ge b M.next with hb | hb
 ·rw[h.agree b hb,e]
 ·rw[(r.fresh b hb).2]at e
  cases e
theorem Tr.refl{ι:fq}{M:Heap}{w:World}(r:R ι M w):Tr ι M w ι M w :=
 ⟨r,λ_ _=>rfl,Nat.le_refl _,λ_ _ h=>h,λ_ _ h _=>h,λb x l h1 h2 h3 _=>⟨b,x,l,h1,h2,h3,rfl⟩,λ_ _ _=>rfl,Nat.le_refl _,rfl,rfl,rfl⟩
theorem Tr.trans{ι kD uI:fq}{M M1 M2:Heap}{w w1 w2:World}(h:Tr ι M w kD M1 w1)(k:Tr kD M1 w1 uI M2 w2):Tr ι M w uI M2 w2 where
 rel:=k.rel
 agree b hb:=(k.agree b (Nat.lt_of_lt_of_le hb h.next)).trans (h.agree b hb)
 next:=Nat.le_trans h.next k.next
 dead b hb hd:=k.dead b (Nat.lt_of_lt_of_le hb h.next) (h.dead b hb hd)
 ro b x hx ho:=h.ro b x (k.ro b x hx ho) ho
 owned b x l h1 h2 h3 h4:=by
  obtain⟨b1,x1,l1,a1,a2,a3,a4⟩:=k.owned b x l h1 h2 h3 (Nat.lt_of_lt_of_le h4 h.size)
  obtain⟨b0,x0,l0,c1,c2,c3,c4⟩:=h.owned b1 x1 l1 a1 a2 a3 (a4 ▸ h4)
  exact⟨b0,x0,l0,c1,c2,c3,c4.trans a4⟩
 keep j hj hn:=by
  refine(k.keep j (Nat.lt_of_lt_of_le hj h.size) λb x l h1 h2 h3 e=>?_).trans (h.keep j hj hn)
  obtain⟨b0,x0,l0,c1,c2,c3,c4⟩:=h.owned b x l h1 h2 h3 (e ▸ hj)
  exact hn b0 x0 l0 c1 c2 c3 (c4.trans e)
 size:=Nat.le_trans h.size k.size
 os:=k.os.trans h.os
 tape:=k.tape.trans h.tape
 output:=k.output.trans h.output
theorem R.drew{ι:fq}{M:Heap}{w:World}(r:R ι M w)(n:Nat):R ι M { w with drawn:=n }:=⟨r.blk,r.apart,r.fresh⟩
theorem Tr.drew{ι:fq}{M:Heap}{w:World}(r:R ι M w)(n:Nat):Tr ι M w ι M { w with drawn:=n } :=
 ⟨r.drew n,λ_ _=>rfl,Nat.le_refl _,λ_ _ h=>h,λ_ _ h _=>h,λb x l h1 h2 h3 _=>⟨b,x,l,h1,h2,h3,rfl⟩,λ_ _ _=>rfl,Nat.le_refl _,rfl,rfl,rfl⟩
theorem cell_of{w:World}{j i:Nat}{cs:Array Value}{e:TypeId}{fz:Nat×Nat}{v:Value}(h:w.heap[j]?=some (.cells cs e fz))(hv:cs[i]?=some v):w.cell? ⟨j,i,none⟩=some v:=by
 simp[World.cell?,h,hv]
theorem l7(j o n:Nat):(⟨j,o,none⟩:Addr).add n=⟨j,o+n,none⟩:=by
 unfold Addr.add;split<;>simp_all
theorem R.read {ι:fq} {M:Heap} {w:World} (r:R ι M w) {b o n:Nat} {cs:List AV} (h:M.read b o n=some cs) :
  cs.length=n∧(∀a,a∈cs→a.eH=true)∧∃l vs,ι b=some l∧dQ ι cs vs∧(∀i v,vs[i]?=some v→w.cell? ⟨l.j,l.d+o+i,none⟩=some v):=by
 unfold Heap.read at h
 split at h
 case h_2=>cases h
 rename_i c ro sl hb
 split at h
 case isFalse=>cases h
 rename_i hle
 obtain rfl:=ak h
 obtain⟨l,ob,hl,ho,cs,elem,fz,rfl,h2,h3,h4,h5,h6⟩:=r.blk b _ hb
 refine⟨by simp;omega, ?_,l,((cs.toList.drop (l.d+o)).take n),hl, ?_, ?_⟩
 ·intro a ha
  obtain⟨i,hi⟩:=List.mem_iff_getElem?.1 (List.mem_of_mem_drop (List.mem_of_mem_take ha))
  obtain⟨v,_,hc,_⟩:=h5 i a hi
  exact hc
 ·refine dQ.r_ (by simp;omega) λi a v ha hv=>?_
  simp only[List.getElem?_take,List.getElem?_drop]at ha hv
  split at ha
  case isFalse=>cases ha
  rename_i hi
  rw[if_pos hi]at hv
  obtain⟨v',hv',_,hr⟩:=h5 _ a ha
  rw[show l.d+o+i=l.d+(o+i)from by omega]at hv
  rw[Array.getElem?_toList]at hv
  rw[hv]at hv'
  obtain rfl:=ak hv'
  exact hr
 ·intro i v hv
  simp only[List.getElem?_take,List.getElem?_drop]at hv
  split at hv
  case isFalse=>cases hv
  rw[Array.getElem?_toList]at hv
  exact cell_of ho hv
def E_:Value→Option AV
 |.bool b=>some (.bool b)
 |.int k n=>some (.int k n)
 |.string s=>some (.str s.data.toList)
 |.pointer none=>some (.ptr none)
 |.slice none 0 0=>some (.slice none 1 0 0 true)
 |.map none=>some (.map none)
 |.nilFunc=>some .nilFunc
 | _=>none
def xw:List Value→Option (List AV)
 | []=>some []
 | v::r=>match E_ v,xw r with
  | some a,some l=>some (a::l)
  | _,_=>none
def KV(v:Value):Option AV :=
 match v with
 |.agg cs=>(xw cs.toList).map .agg
 | v=>E_ v
def cX:Operand→Option AX
 |.tmp t=>some (.t t)
 |.const v=>(KV v).map .c
 |.func f=>some (.c (.func f []))
 |.global _=>none
def l9(P:Program)(t:TypeId):Option Nat:=(P.info? t).map (·.size)
def xC(P:Program)(t:TypeId):Option Bool :=
 match P.underlying t with
 | some (.struct _) | some (.array _ _)=>some true
 | some _=>some false
 | none=>none
def zeroOf(P:Program)(t:TypeId):Option (List AV) :=
 match (P.info? t).bind (·.zero)with
 | some z=>xw z.cells.toList
 | none=>none
theorem Hl{v:Value}{a:AV}(h:E_ v=some a)(ι:fq):VR ι a v∧a.eH=true:=by
 unfold E_ at h
 split at h<;>first
  |(obtain rfl:=ak h;simp[VR,AV.eH])
  | cases h
theorem lG(ι:fq):∀ {vs:List Value} {l:List AV},xw vs=some l→dQ ι l vs∧∀a,a∈l→a.eH=true
 | [],l,h=>by
  simp only[xw,av]at h
  subst h
  simp[dQ]
 | v::r,l,h=>by
  simp only[xw]at h
  split at h
  ·rename_i a l' h1 h2
   obtain rfl:=ak h
   have a1:=Hl h1 ι
   have a2:=lG ι h2
   refine⟨by simp only[dQ];exact⟨a1.1,a2.1⟩,λx hx=>?_⟩
   rcases List.mem_cons.1 hx with rfl | hx
   ·exact a1.2
   ·exact a2.2 x hx
  ·cases h
theorem NM{v:Value}{a:AV}(h:KV v=some a)(ι:fq):VR ι a v:=by
 unfold KV at h
 split at h
 ·rename_i cs
  obtain⟨l,hl,rfl⟩:=aC.1 h
  simp only[VR]
  exact⟨cs,rfl,(lG ι hl).1⟩
 ·exact(Hl h ι).1
theorem dY{x:Operand}{ax:AX}(h:cX x=some ax){ι:fq}{e:Env}{a:Act}(he:dQ ι e a.tmps.toList):VR ι (ax.ev e) (a.eval x):=by
 cases x with
 | tmp t =>
  simp only[cX,av]at h
  subst h
  simp only[AX.ev,Act.eval]
  have:=he.getD t undef
  rw[Array.getD_eq_getD_getElem?]
  rw[List.getD_eq_getElem?_getD (l:=a.tmps.toList)]at this
  simpa using this
 | const v =>
  simp only[cX]at h
  obtain⟨b,hb,rfl⟩:=aC.1 h
  exact NM hb ι
 | func f =>
  simp only[cX,av]at h
  subst h
  simp only[AX.ev,Act.eval,VR]
  exact⟨#[],rfl,by simp[dQ]⟩
 | global g=>simp[cX]at h
theorem oh{P:Program}{t:TypeId}{n:Nat}(h:l9 P t=some n)(w:World):(sizeOf t).run P w=.ok n w:=by
 unfold l9 at h
 obtain⟨i,hi,rfl⟩:=aC.1 h
 simp[sizeOf,typeInfo,hi]
theorem Di{P:Program}{t:TypeId}{b:Bool}(h:xC P t=some b)(w:World):(isAgg t).run P w=.ok b w:=by
 unfold xC at h
 cases hd:P.underlying t with
 | none=>simp[hd]at h
 | some d =>
  rw[hd]at h
  cases d<;>(simp only[av]at h;subst h;simp[isAgg,run_underlying hd])
theorem Jc{P:Program}{t:TypeId}{l:List AV}(h:zeroOf P t=some l)(w:World):∃z,(zeroValue t).run P w=.ok z w∧(∀ι,dQ ι l z.cells.toList)∧∀a,a∈l→a.eH=true:=by
 unfold zeroOf at h
 split at h
 case h_2=>cases h
 rename_i z hz
 obtain⟨i,hi,hz⟩:=aF.1 hz
 refine⟨z,by simp[zeroValue,typeInfo,hi,hz],λι=>(lG ι h).1,(lG (λ_=>none) h).2⟩
theorem NP {P:Program} {t:TypeId} {n off:Nat} {g:Bool} (hg:xC P t=some g) (hn:l9 P t=some n) {ι:fq} {cs:List AV} {vs:Array Value} (h:dQ ι cs vs.toList) {a:AV} (ha:wo g off n cs=some a) (w:World) :
  ∃v,(part t vs off).run P w=.ok v w∧VR ι a v:=by
 unfold wo at ha
 cases g with
 | true =>
  simp only[if_true,av]at ha
  subst ha
  refine⟨.agg (vs.extract off (off+n)),by simp[part,Di hg,oh hn], ?_⟩
  simp only[VR]
  refine⟨_,rfl, ?_⟩
  rw[Array.toList_extract,List.extract_eq_take_drop,Nat.add_sub_cancel_left]
  exact(h.drop off).take n
 | false =>
  simp only[Bool.false_eq_true,if_false]at ha
  obtain⟨v,hv,hr⟩:=h.get off a ha
  refine⟨v, ?_,hr⟩
  rw[Array.getElem?_toList]at hv
  simp[part,Di hg,hv]
def lT(P:Program)(o:Oper)(p:jZ):Prop :=
 ∀(ι:fq) (e:Env) (a:Act) (w:World) (v:AV),dQ ι e a.tmps.toList→aP p e=some v→∃v',(execOp a.eval o).run P w=.ok (.value v') w∧VR ι v v'
theorem lT.move{P:Program}{o:Oper}{x:Operand}{ax:AX}(ho:o.op=.move x∨o.op=.assign x)(hx:cX x=some ax):lT P o (.move ax):=by
 intro ι e a w v he hv
 simp only[aP,av]at hv
 subst hv
 refine⟨a.eval x, ?_,dY hx he⟩
 rcases ho with ho | ho<;>simp[execOp,ho]
theorem lT.pick{P:Program}{o:Oper}{x y z:Operand}{ax ay az:AX}(ho:o.op=.pick x y z)(hx:cX x=some ax)(hy:cX y=some ay)(hz:cX z=some az):lT P o (.pick ax ay az):=by
 intro ι e a w v he hv
 have h1:=dY hx he
 simp only[aP]at hv
 split at hv
 ·rename_i hc
  obtain rfl:=ak hv
  rw[hc]at h1
  simp only[VR]at h1
  exact⟨a.eval y,by simp[execOp,ho,h1,asBool],dY hy he⟩
 ·rename_i hc
  obtain rfl:=ak hv
  rw[hc]at h1
  simp only[VR]at h1
  exact⟨a.eval z,by simp[execOp,ho,h1,asBool],dY hz he⟩
 ·cases hv
theorem lT.nilCheck{P:Program}{o:Oper}{x:Operand}{ax:AX}(ho:o.op=.nilCheck x)(hx:cX x=some ax):lT P o (.nilCheck ax):=by
 intro ι e a w v he hv
 have h1:=dY hx he
 simp only[aP]at hv
 split at hv
 ·rename_i p hc
  obtain rfl:=ak hv
  rw[hc]at h1
  refine⟨a.eval x, ?_,h1⟩
  simp only[VR]at h1
  obtain⟨l,_,h2⟩:=h1
  simp[execOp,ho,h2]
 ·rename_i f cs hc
  obtain rfl:=ak hv
  rw[hc]at h1
  refine⟨a.eval x, ?_,h1⟩
  simp only[VR]at h1
  obtain⟨l,h2,_⟩:=h1
  simp[execOp,ho,h2]
 ·cases hv
theorem R5 {P:Program} {op:BinOp} {k:IntKind} {x y:Int} {v:AV} (h:zS op k x y=some v) (t:TypeId) (w:World) (ι:fq) :
  ∃v',(binOp op t (.int k x) (.int k y)).run P w=.ok v' w∧VR ι v v':=by
 cases op<;>simp only[zS]at h
 case quo =>
  split at h
  ·cases h
  rename_i hy
  obtain rfl:=ak h
  exact⟨_,by simp only[binOp_quo,Op.intDiv,if_neg hy];rfl,by simp[VR]⟩
 case rem =>
  split at h
  ·cases h
  rename_i hy
  obtain rfl:=ak h
  exact⟨_,by simp only[binOp_rem,Op.intDiv,if_neg hy];rfl,by simp[VR]⟩
 case shl=>cases h
 case shr=>cases h
 all_goals
  obtain rfl:=ak h
  exact⟨_,by simp[binOp,Op.intArith,Op.intBits,Op.intCmp];try rfl,by simp[VR]⟩
theorem R6 {P:Program} {op:BinOp} {x y:ByteArray} {v:AV} (h:NJ op x.data.toList y.data.toList=some v) (t:TypeId) (w:World) (ι:fq) :
  ∃v',(binOp op t (.string x) (.string y)).run P w=.ok v' w∧VR ι v v':=by
 cases op<;>simp only[NJ]at h
 case add =>
  split at h
  case isFalse=>cases h
  rename_i hl
  obtain rfl:=ak h
  refine⟨.string (x++y), ?_, ?_⟩
  ·have h1:¬(((x.size+y.size:Nat):Int)>IntKind.i64.max):=by
    have e1:x.data.toList.length=x.size:=by simp
    have e2:y.data.toList.length=y.size:=by simp
    rw[e1,e2]at hl
    simp only[IntKind.max_i64]
    omega
   rw[binOp_string_add]
   simp only[Op.stringOp,if_neg h1]
   rfl
  ·simp only[VR]
   exact⟨_,rfl,by simp⟩
 all_goals
  first
   |(cases h;done)
   | (obtain rfl:=ak h
      exact⟨_,by simp[binOp,Op.stringOp,ByteArray.toList_eq];try rfl,by simp[VR]⟩)
theorem D8(op:BinOp)(t:TypeId)(x y:Operand)(a b:Value)(h:¬(∃c d,a=.agg c∧b=.agg d)∧a≠.nilIface):eqGuard op t x y a b=pure ():=by
 unfold eqGuard
 cases op<;>simp<;>(split<;>simp_all)
theorem lT.bin{P:Program}{o:Oper}{op:BinOp}{t u:TypeId}{x y:Operand}{ax ay:AX}(ho:o.op=.binOp op t x y u)(hx:cX x=some ax)(hy:cX y=some ay):lT P o (.bin op ax ay):=by
 intro ι e a w v he hv
 have h1:=dY hx he
 have h2:=dY hy he
 simp only[aP]at hv
 unfold Ij at hv
 split at hv
 ·rename_i k n k' m hc1 hc2
  rw[hc1]at h1
  rw[hc2]at h2
  simp only[VR]at h1 h2
  have hg:=D8 op t x y (.int k n) (.int k' m) (by simp)
  have key:∃v',(binOp op t (.int k n) (.int k' m)).run P w=.ok v' w∧VR ι v v':=by
   cases op
   case shl =>
    simp only at hv
    split at hv
    ·cases hv
    rename_i hb
    obtain rfl:=ak hv
    exact⟨.int k (k.wrap (n*2 ^ min m.toNat k.bits)),by rw[binOp_shl];simp[Op.shift,hb],by simp[VR]⟩
   case shr =>
    simp only at hv
    split at hv
    ·cases hv
    rename_i hb
    obtain rfl:=ak hv
    exact⟨.int k (n.fdiv (2 ^ min m.toNat k.bits)),by rw[binOp_shr];simp[Op.shift,hb],by simp[VR]⟩
   all_goals
    simp only at hv
    split at hv
    case isFalse=>cases hv
    rename_i hk
    subst hk
    exact R5 hv t w ι
  obtain⟨v',hr,hrel⟩:=key
  exact⟨v',by simp only[execOp,ho,h1,h2,hg];simp[hr],hrel⟩
 ·rename_i s s' hc1 hc2
  rw[hc1]at h1
  rw[hc2]at h2
  simp only[VR]at h1 h2
  obtain⟨b1,h1,rfl⟩:=h1
  obtain⟨b2,h2,rfl⟩:=h2
  have hg:=D8 op t x y (.string b1) (.string b2) (by simp)
  obtain⟨v',hr,hrel⟩:=R6 (P:=P) hv t w ι
  exact⟨v',by simp only[execOp,ho,h1,h2,hg];simp[hr],hrel⟩
 ·cases hv
theorem lT.un{P:Program}{o:Oper}{op:UnOp}{t:TypeId}{x:Operand}{ax:AX}(ho:o.op=.unOp op t x)(hx:cX x=some ax):lT P o (.un op ax):=by
 intro ι e a w v he hv
 have h1:=dY hx he
 simp only[aP]at hv
 unfold Zy at hv
 split at hv
 all_goals first
  |(cases hv;done)
  | (rename_i hc
     obtain rfl:=ak hv
     rw[hc]at h1
     simp only[VR]at h1
     exact⟨_,by simp only[execOp,ho,h1];simp[Op.unary,Op.intArith,Op.intBits];try rfl,by simp[VR]⟩)
theorem lT.Bg{P:Program}{o:Oper}{s d:TypeId}{k:IntKind}{x:Operand}{ax:AX}(ho:o.op=.convert s d x)(hs:(P.underlying s).isSome=true)(hd:P.underlying d=some (.int k))(hx:cX x=some ax):lT P o (.Bg k ax):=by
 intro ι e a w v he hv
 have h1:=dY hx he
 obtain⟨ds,hds⟩:=Option.isSome_iff_exists.1 hs
 simp only[aP]at hv
 split at hv
 case h_2=>cases hv
 rename_i k' n hc
 obtain rfl:=ak hv
 rw[hc]at h1
 simp only[VR]at h1
 refine⟨.int k (k.wrap n), ?_,by simp[VR]⟩
 simp only[execOp,ho,h1]
 simp[convert,run_underlying hds,run_underlying hd,Conv.intToInt]
theorem lT.BS{P:Program}{o:Oper}{s d:TypeId}{x:Operand}{ax:AX}(ho:o.op=.convert s d x)(hs:P.underlying s=some .string)(hd:P.underlying d=some .string)(hx:cX x=some ax):lT P o (.BS ax):=by
 intro ι e a w v he hv
 have h1:=dY hx he
 simp only[aP]at hv
 split at hv
 case h_2=>cases hv
 rename_i k' hc
 obtain rfl:=ak hv
 rw[hc]at h1
 refine⟨a.eval x, ?_,h1⟩
 simp only[VR]at h1
 obtain⟨b,h1,_⟩:=h1
 simp only[execOp,ho,h1]
 simp[convert,run_underlying hs,run_underlying hd]
def TM:List Operand→Option (List AX)
 | []=>some []
 | x::r=>match cX x,TM r with
  | some a,some l=>some (a::l)
  | _,_=>none
theorem Mv{ι:fq}{e:Env}{a:Act}(he:dQ ι e a.tmps.toList):∀ {l:List Operand} {al:List AX},TM l=some al→dQ ι (al.map (AX.ev e)) (l.map a.eval)
 | [],al,h=>by
  simp only[TM,av]at h
  subst h
  simp[dQ]
 | x::r,al,h=>by
  simp only[TM]at h
  split at h
  case h_2=>cases h
  rename_i b l h1 h2
  obtain rfl:=ak h
  simp only[List.map_cons,dQ]
  exact⟨dY h1 he,Mv he h2⟩
theorem lT.vP{P:Program}{o:Oper}{f:FuncId}{caps:Array Operand}{al:List AX}(ho:o.op=.makeFunc (.func f) #[] caps)(hx:TM caps.toList=some al):lT P o (.vP f al):=by
 intro ι e a w v he hv
 simp only[aP,av]at hv
 subst hv
 refine⟨.func (.func f) #[] (caps.map a.eval),by simp[execOp,ho,Instr.makeFunc], ?_⟩
 simp only[VR]
 exact⟨_,rfl,by simpa using Mv he hx⟩
def Mw:Option Operand→Option (Option AX)
 | none=>some none
 | some x=>(cX x).map some
theorem KW {P:Program} {ι:fq} {v:AV} {v':Value} {m n:Nat} (h:lS v m=some n) (r:VR ι v v') (m':Nat) (hm:m≤m') (code:BoundsCode) (w:World) :
  (Instr.sliceBound v' m' code).run P w=.ok n w∧n≤m:=by
 unfold lS at h
 split at h
 case h_2=>cases h
 split at h
 case isFalse=>cases h
 rename_i k i hi
 obtain rfl:=ak h
 simp only[VR]at r
 subst r
 exact⟨run_sliceBound (P:=P) w k i m' code hi.1 (by omega),by omega⟩
def Gn(mx:Option AX)(cap m:Nat):Nat :=
 match mx with
 | none=>cap
 | some _=>m
def aae(e:Env)(mx:Option AX)(cap cap' m:Nat):Prop :=
 match mx with
 | none=>m=cap'
 | some x=>lS (x.ev e) cap=some m
theorem BX {P:Program} {ι:fq} {e:Env} {a:Act} (he:dQ ι e a.tmps.toList) {lo hi mx:Option Operand} {WY TB R7:Option AX} (hlo:Mw lo=some WY) (hhi:Mw hi=some TB) (hmx:Mw mx=some R7) (isSlice:Bool) {len cap cap':Nat} (hcap:cap≤cap') (hlc:len≤cap)
  {l h:Nat} {m:Nat} (w:World) (hm:aae e R7 cap cap' m)
  (hh:bT e TB len (Gn R7 cap m)=some h) (hn:TB=none→R7=none) (hl:bT e WY 0 h=some l) :
  (Instr.sliceBounds isSlice len cap' (lo.map a.eval) (hi.map a.eval) (mx.map a.eval)).run P w=.ok (l,h,m) w∧l≤h∧h≤Gn R7 cap m∧(R7≠none→m≤cap):=by
 have B:∀(x:Operand) (ax:AX),cX x=some ax→∀m n m',lS (ax.ev e) m=some n→m≤m'→(∀code w,(Instr.sliceBound (a.eval x) m' code).run P w=.ok n w)∧n≤m :=
  λx ax hx m n m' hb hm=>⟨λcode w=>(KW (P:=P) hb (dY hx he) m' hm code w).1,(KW (P:=P) hb (dY hx he) m' hm .index w).2⟩
 have aaf:(lo=none∧WY=none)∨∃x ax,lo=some x∧WY=some ax∧cX x=some ax:=by
  cases lo with
  | none=>simp only[Mw,av]at hlo;exact .inl ⟨rfl,hlo.symm⟩
  | some x=>simp only[Mw]at hlo;obtain⟨ax,h1,h2⟩:=aC.1 hlo;exact .inr ⟨x,ax,rfl,h2.symm,h1⟩
 have aaU:(hi=none∧TB=none)∨∃x ax,hi=some x∧TB=some ax∧cX x=some ax:=by
  cases hi with
  | none=>simp only[Mw,av]at hhi;exact .inl ⟨rfl,hhi.symm⟩
  | some x=>simp only[Mw]at hhi;obtain⟨ax,h1,h2⟩:=aC.1 hhi;exact .inr ⟨x,ax,rfl,h2.symm,h1⟩
 have abN:(mx=none∧R7=none)∨∃x ax,mx=some x∧R7=some ax∧cX x=some ax:=by
  cases mx with
  | none=>simp only[Mw,av]at hmx;exact .inl ⟨rfl,hmx.symm⟩
  | some x=>simp only[Mw]at hmx;obtain⟨ax,h1,h2⟩:=aC.1 hmx;exact .inr ⟨x,ax,rfl,h2.symm,h1⟩
 clear hlo hhi hmx
 rcases abN with⟨rfl,rfl⟩ |⟨x,ax,rfl,rfl,hx⟩
 ·simp only[aae]at hm
  subst hm
  simp only[Gn]at hh ⊢
  rcases aaU with⟨rfl,rfl⟩ |⟨y,ay,rfl,rfl,hy⟩
  ·simp only[bT,av]at hh
   subst hh
   rcases aaf with⟨rfl,rfl⟩ |⟨z,az,rfl,rfl,hz⟩
   ·simp only[bT,av]at hl
    subst hl
    exact⟨by simp[Instr.sliceBounds],Nat.zero_le _,hlc,by simp⟩
   ·simp only[bT]at hl
    obtain⟨k1,k2⟩:=B z az hz _ _ _ hl (Nat.le_refl _)
    exact⟨by simp[Instr.sliceBounds,k1],k2,hlc,by simp⟩
  ·simp only[bT]at hh
   obtain⟨j1,j2⟩:=B y ay hy _ _ _ hh hcap
   rcases aaf with⟨rfl,rfl⟩ |⟨z,az,rfl,rfl,hz⟩
   ·simp only[bT,av]at hl
    subst hl
    exact⟨by simp[Instr.sliceBounds,j1],Nat.zero_le _,j2,by simp⟩
   ·simp only[bT]at hl
    obtain⟨k1,k2⟩:=B z az hz _ _ _ hl (Nat.le_refl _)
    exact⟨by simp[Instr.sliceBounds,j1,k1],k2,j2,by simp⟩
 ·simp only[aae]at hm
  simp only[Gn]at hh ⊢
  obtain⟨i1,i2⟩:=B x ax hx _ _ _ hm hcap
  rcases aaU with⟨rfl,rfl⟩ |⟨y,ay,rfl,rfl,hy⟩
  ·cases hn rfl
  ·simp only[bT]at hh
   obtain⟨j1,j2⟩:=B y ay hy _ _ _ hh (Nat.le_refl _)
   rcases aaf with⟨rfl,rfl⟩ |⟨z,az,rfl,rfl,hz⟩
   ·simp only[bT,av]at hl
    subst hl
    exact⟨by simp[Instr.sliceBounds,i1,j1],Nat.zero_le _,j2,λ_=>i2⟩
   ·simp only[bT]at hl
    obtain⟨k1,k2⟩:=B z az hz _ _ _ hl (Nat.le_refl _)
    exact⟨by simp[Instr.sliceBounds,i1,j1,k1],k2,j2,λ_=>i2⟩
theorem lT.lD {P:Program} {o:Oper} {t:TypeId} {x:Operand} {lo hi:Option Operand} {ax:AX} {WY TB:Option AX} (ho:o.op=.slice t x lo hi none) (ht:P.underlying t=some .string) (hx:cX x=some ax)
  (hlo:Mw lo=some WY) (hhi:Mw hi=some TB):lT P o (.lD ax WY TB):=by
 intro ι e a w v he hv
 have h1:=dY hx he
 simp only[aP]at hv
 split at hv
 case h_2=>cases hv
 rename_i s hc
 rw[hc]at h1
 simp only[VR]at h1
 obtain⟨b,h1,rfl⟩:=h1
 unfold xu at hv
 obtain⟨h,hh,hv⟩:=aF.1 hv
 obtain⟨l,hl,hv⟩:=aF.1 hv
 obtain rfl:=ak hv
 have hsz:b.data.toList.length=b.size:=by simp
 rw[hsz]at hh
 have key:=BX (P:=P) he (mx:=none) (R7:=none) hlo hhi rfl false (Nat.le_refl b.size) (Nat.le_refl b.size) (l:=l) (h:=h) (m:=b.size) w rfl hh (λ_=>rfl) hl
 refine⟨.string (b.extract l h), ?_, ?_⟩
 ·simp only[execOp,ho,h1]
  simp only[Option.map_none]at key ⊢
  simp[Instr.sliceAt,run_underlying ht,Instr.slice,key.1]
 ·simp only[VR]
  refine⟨_,rfl, ?_⟩
  obtain⟨⟨bl⟩⟩:=b
  rw[ByteArray.extract_mk]
theorem lT.slice {P:Program} {o:Oper} {t elem:TypeId} {n:Nat} {x:Operand} {lo hi mx:Option Operand} {ax:AX} {WY TB R7:Option AX} (ho:o.op=.slice t x lo hi mx) (ht:P.underlying t=some (.slice elem)) (hn:l9 P elem=some n) (hx:cX x=some ax)
  (hlo:Mw lo=some WY) (hhi:Mw hi=some TB) (hmx:Mw mx=some R7):lT P o (.slice n ax WY TB R7):=by
 intro ι e a w v he hv
 have h1:=dY hx he
 simp only[aP]at hv
 split at hv
 case h_2=>cases hv
 rename_i p sz' len cap ex hc
 rw[hc]at h1
 have shape:∃base cap',a.eval x=.slice base len cap'∧len≤cap∧cap≤cap'∧(ex=true→cap'=cap) ∧
   (∀l h m ex',l≤h→h≤m→m≤cap→(p=none∨sz'=n)→∀m',(ex'=true→m'=m)→m≤m'→m'≤cap'→VR ι (.slice (jO p (l*n)) n (h-l) (m-l) (if p.isNone then true else ex')) (.slice (if m'=l then base else base.map (·.add (l*n))) (h-l) (m'-l))) ∧
   (p=none→ex=true∧cap=0):=by
  cases p with
  | none =>
   simp only[VR]at h1
   obtain⟨h1,rfl,rfl,rfl⟩:=h1
   refine⟨none,0,h1,Nat.le_refl _,Nat.le_refl _,λ_=>rfl,λl h m ex' a1 a2 a3 _ m' _ _ a5=>?_,λ_=>⟨rfl,rfl⟩⟩
   obtain rfl:m=0:=by omega
   obtain rfl:h=0:=by omega
   obtain rfl:l=0:=by omega
   obtain rfl:m'=0:=by omega
   simp[jO,VR]
  | some q =>
   obtain⟨b,off⟩:=q
   simp only[VR]at h1
   obtain⟨L,ad,cap',e1,e2,e3,e4,e5,e6,e7,e8,e9,e10⟩:=h1
   refine⟨some ad,cap',e2,e6,e7,e8,λl h m ex' a1 a2 a3 a4 m' a5 a6 a7=>?_,λh=>by cases h⟩
   obtain rfl:sz'=n:=a4.resolve_left (by simp)
   simp only[jO,aW,Option.isNone_some,Bool.false_eq_true,if_false,VR]
   have hsp:∃Xc,(if m'=l then some ad else some (ad.add (l*sz')))=some Xc∧(m'-l=0∨Xc.block=L.j)∧(m'-l=0∨Xc.spot=none)∧(m'-l=0∨Xc.off=L.d+(off+l*sz')):=by
    by_cases hm:m'=l
    ·exact⟨ad,by rw[if_pos hm],.inl (by omega),.inl (by omega),.inl (by omega)⟩
    ·rw[if_neg hm]
     replace e3:=e3.resolve_left (by omega)
     replace e4:=e4.resolve_left (by omega)
     refine⟨_,rfl,.inr ?_,.inr ?_,.inr ?_⟩
     ·unfold Addr.add;split<;>simp[e3]
     ·unfold Addr.add;split<;>simp[e4]
     ·have hoff:=e5.resolve_left (by omega)
      unfold Addr.add
      split
      ·rename_i h0;rw[hoff,h0];omega
      ·simp only;rw[hoff];omega
   obtain⟨Xc,f1,f2,f3,f4⟩:=hsp
   refine⟨L,Xc,m'-l,e1,by rw[f1],f2,f3,f4,by omega,by omega,λhx=>by rw[a5 hx], ?_,e10⟩
   have:l*sz'+(m'-l)*sz'=m'*sz':=by rw[←Nat.add_mul];congr 1;omega
   have:m'*sz'≤cap'*sz':=Nat.mul_le_mul_right _ a7
   omega
 obtain⟨base,cap',hev,hlc,hcc,hex,hres,hnil⟩:=shape
 unfold iG at hv
 split at hv
 case isFalse=>cases hv
 rename_i hsz
 cases R7 with
 | none =>
  simp only at hv
  obtain⟨h,hh,hv⟩:=aF.1 hv
  obtain⟨l,hl,hv⟩:=aF.1 hv
  obtain rfl:=ak hv
  have key:=BX (P:=P) he hlo hhi hmx true hcc hlc (l:=l) (h:=h) (m:=cap') w rfl hh (λ_=>rfl) hl
  refine⟨.slice (if cap'=l then base else base.map (·.add (l*n))) (h-l) (cap'-l), ?_, ?_⟩
  ·simp only[execOp,ho,hev]
   simp[Instr.sliceAt,run_underlying ht,Instr.slice,key.1,oh hn]
  ·have:=hres l h cap ex key.2.1 (by simpa[Gn]using key.2.2.1) (Nat.le_refl _) hsz cap' hex hcc (Nat.le_refl _)
   cases hp:p with
   | none =>
    obtain⟨rfl,rfl⟩:=hnil hp
    simpa[hp]using this
   | some q=>simpa[hp]using this
 | some am =>
  simp only at hv
  obtain⟨m,hm,hv⟩:=aF.1 hv
  cases TB with
  | none=>cases hv
  | some ah =>
   simp only at hv
   obtain⟨h,hh,hv⟩:=aF.1 hv
   obtain⟨l,hl,hv⟩:=aF.1 hv
   obtain rfl:=ak hv
   have key:=BX (P:=P) he hlo hhi hmx true hcc hlc (l:=l) (h:=h) (m:=m) w hm hh (λh=>by cases h) hl
   refine⟨.slice (if m=l then base else base.map (·.add (l*n))) (h-l) (m-l), ?_, ?_⟩
   ·simp only[execOp,ho,hev]
    simp[Instr.sliceAt,run_underlying ht,Instr.slice,key.1,oh hn]
   ·have:=hres l h m true key.2.1 (by simpa[Gn]using key.2.2.1) (key.2.2.2 (by simp)) hsz m (λ_=>rfl) (Nat.le_refl _) (Nat.le_trans (key.2.2.2 (by simp)) hcc)
    cases hp:p with
    | none=>simpa[hp]using this
    | some q=>simpa[hp]using this
theorem lT.fieldAddr{P:Program}{o:Oper}{t:TypeId}{fs:Array Field}{f:Nat}{fd:Field}{n:Nat}{x:Operand}{ax:AX}(ho:o.op=.fieldAddr t x f)(ht:P.underlying t=some (.struct fs))(hf:fs[f]?=some fd)(hn:l9 P fd.type=some (n+1))(hx:cX x=some ax):lT P o (.fieldAddr fd.offset ax):=by
 intro ι e a w v he hv
 have h1:=dY hx he
 simp only[aP]at hv
 split at hv
 case h_2=>cases hv
 rename_i p hc
 obtain rfl:=ak hv
 rw[hc]at h1
 obtain⟨b,off⟩:=p
 simp only[VR]at h1
 obtain⟨L,hL,h1⟩:=h1
 refine⟨.pointer (some ⟨L.j,L.d+off+fd.offset,none⟩), ?_, ?_⟩
 ·simp only[execOp,ho,h1]
  simp[Instr.fieldAt,run_underlying ht,hf,Instr.sureAddr,fieldPlace,oh hn,l7]
 ·simp only[VR]
  exact⟨L,hL,by rw[Nat.add_assoc]⟩
theorem lT.field{P:Program}{o:Oper}{t:TypeId}{fs:Array Field}{f:Nat}{fd:Field}{n:Nat}{g:Bool}{x:Operand}{ax:AX}(ho:o.op=.field t x f)(ht:P.underlying t=some (.struct fs))(hf:fs[f]?=some fd)(hg:xC P fd.type=some g)(hn:l9 P fd.type=some n)(hx:cX x=some ax):lT P o (.field g fd.offset n ax):=by
 intro ι e a w v he hv
 have h1:=dY hx he
 simp only[aP]at hv
 split at hv
 case h_2=>cases hv
 rename_i cs hc
 rw[hc]at h1
 simp only[VR]at h1
 obtain⟨vs,h1,h2⟩:=h1
 obtain⟨v',hr,hv'⟩:=NP (P:=P) hg hn h2 hv w
 exact⟨v',by simp only[execOp,ho,h1];simp[Instr.field,run_underlying ht,hf,asAgg,hr],hv'⟩
theorem lT.l5{P:Program}{o:Oper}{t elem:TypeId}{m n:Nat}{x i:Operand}{ax ai:AX}(ho:o.op=.indexAddr t x i)(ht:P.underlying t=some (.array m elem))(hn:l9 P elem=some n)(hx:cX x=some ax)(hi:cX i=some ai):lT P o (.l5 m n ax ai):=by
 intro ι e a w v he hv
 have h1:=dY hx he
 have h2:=dY hi he
 simp only[aP]at hv
 split at hv
 case h_2=>cases hv
 rename_i p k j hc1 hc2
 rw[hc1]at h1
 rw[hc2]at h2
 obtain⟨b,off⟩:=p
 split at hv
 case isFalse=>cases hv
 rename_i hj
 obtain rfl:=ak hv
 simp only[VR]at h1 h2
 obtain⟨L,hL,h1⟩:=h1
 refine⟨.pointer (some ⟨L.j,L.d+off+j.toNat*n,none⟩), ?_, ?_⟩
 ·simp only[execOp,ho,h1,h2]
  simp[Instr.indexAt,asIntOf,run_underlying ht,Instr.sureAddr,hj.1,hj.2,oh hn,l7]
 ·simp only[VR]
  exact⟨L,hL,by rw[Nat.add_assoc]⟩
theorem lT.jE{P:Program}{o:Oper}{t elem:TypeId}{n:Nat}{x i:Operand}{ax ai:AX}(ho:o.op=.indexAddr t x i)(ht:P.underlying t=some (.slice elem))(hn:l9 P elem=some n)(hx:cX x=some ax)(hi:cX i=some ai):lT P o (.jE n ax ai):=by
 intro ι e a w v he hv
 have h1:=dY hx he
 have h2:=dY hi he
 simp only[aP]at hv
 split at hv
 case h_2=>cases hv
 rename_i p sz' len cap ex k j hc1 hc2
 rw[hc1]at h1
 rw[hc2]at h2
 obtain⟨b,off⟩:=p
 split at hv
 case isFalse=>cases hv
 rename_i hj
 obtain rfl:=ak hv
 obtain⟨hj0,hj1,rfl⟩:=hj
 simp only[VR]at h1 h2
 obtain⟨L,ad,cap',e1,e2,e3,e4,e5,e6,e7,e8,e9,e10⟩:=h1
 have hoff:=e5.resolve_left (by omega)
 replace e3:=e3.resolve_left (by omega)
 replace e4:=e4.resolve_left (by omega)
 obtain⟨ab,ao,asp⟩:=ad
 simp only at e3 e4 hoff
 subst e3 e4 hoff
 refine⟨.pointer (some ⟨L.j,L.d+off+j.toNat*sz',none⟩), ?_, ?_⟩
 ·simp only[execOp,ho,e2,h2]
  simp[Instr.indexAt,asIntOf,run_underlying ht,hj0,hj1,oh hn,l7]
 ·simp only[VR]
  exact⟨L,e1,by rw[Nat.add_assoc]⟩
theorem lT.index{P:Program}{o:Oper}{t elem:TypeId}{m n:Nat}{g:Bool}{x i:Operand}{ax ai:AX}(ho:o.op=.index t x i)(ht:P.underlying t=some (.array m elem))(hg:xC P elem=some g)(hn:l9 P elem=some n)(hx:cX x=some ax)(hi:cX i=some ai):lT P o (.index g m n ax ai):=by
 intro ι e a w v he hv
 have h1:=dY hx he
 have h2:=dY hi he
 simp only[aP]at hv
 split at hv
 case h_2=>cases hv
 rename_i cs k j hc1 hc2
 rw[hc1]at h1
 rw[hc2]at h2
 split at hv
 case isFalse=>cases hv
 rename_i hj
 simp only[VR]at h1 h2
 obtain⟨vs,h1,h3⟩:=h1
 obtain⟨v',hr,hv'⟩:=NP (P:=P) hg hn h3 hv w
 exact⟨v',by simp only[execOp,ho,h1,h2];simp[Instr.index,asIntOf,run_underlying ht,hj.1,hj.2,oh hn,hr],hv'⟩
theorem lT.n_{P:Program}{o:Oper}{t:TypeId}{x i:Operand}{ax ai:AX}(ho:o.op=.index t x i)(ht:P.underlying t=some .string)(hx:cX x=some ax)(hi:cX i=some ai):lT P o (.n_ ax ai):=by
 intro ι e a w v he hv
 have h1:=dY hx he
 have h2:=dY hi he
 simp only[aP]at hv
 split at hv
 case h_2=>cases hv
 rename_i s k j hc1 hc2
 rw[hc1]at h1
 rw[hc2]at h2
 split at hv
 case isFalse=>cases hv
 rename_i hj
 simp only[VR]at h1 h2
 obtain⟨b,h1,rfl⟩:=h1
 obtain⟨c,hcc,rfl⟩:=aC.1 hv
 have hlt:j.toNat<b.size:=by
  have:=(aM.1 hcc).1
  simpa using this
 have hget:b[j.toNat]?=some c:=by
  rw[ByteArray.getElem?_lt' b _ hlt]
  have:=(aM.1 hcc).2
  rw[←this]
  rfl
 refine⟨.int .u8 c.toNat, ?_,by simp[VR]⟩
 simp only[execOp,ho,h1,h2]
 simp[Instr.index,asIntOf,run_underlying ht,hj,hget]
theorem lT.extract{P:Program}{o:Oper}{x:Operand}{i:Nat}{ax:AX}(ho:o.op=.extract x i)(hx:cX x=some ax):lT P o (.extract ax i):=by
 intro ι e a w v he hv
 have h1:=dY hx he
 simp only[aP]at hv
 split at hv
 case h_2=>cases hv
 rename_i cs hc
 rw[hc]at h1
 simp only[VR]at h1
 obtain⟨vs,h1,h2⟩:=h1
 obtain⟨v',hr,hv'⟩:=h2.get i v hv
 rw[Array.getElem?_toList]at hr
 exact⟨v',by simp only[execOp,ho,h1];simp[Instr.extract,hr],hv'⟩
theorem lT.lenStr {P:Program} {o:Oper} {t:TypeId} {x:Operand} {ax:AX} (ho:o.op=.call { callee:=.builtin .len,args:=#[x],argTypes:=#[t] })
  (ht:P.underlying t=some .string) (hx:cX x=some ax):lT P o (.len true ax):=by
 intro ι e a w v he hv
 have h1:=dY hx he
 simp only[aP]at hv
 split at hv
 case h_3=>cases hv
 case h_2=>contradiction
 rename_i s _ hc
 obtain rfl:=ak hv
 rw[hc]at h1
 simp only[VR]at h1
 obtain⟨b,h1,rfl⟩:=h1
 refine⟨.int .i64 b.size, ?_,by simp[VR]⟩
 simp[execOp,ho,resolve,invoke,builtin,Builtin.len_,h1,run_underlying ht,goInt]
theorem slice_form{ι:fq}{p:Option (Nat×Nat)}{sz len cap:Nat}{ex:Bool}{v:Value}(h:VR ι (.slice p sz len cap ex) v):∃ad c,v=.slice ad len c∧cap≤c∧len≤cap∧(ex=true→c=cap)∧(ad=none↔p=none):=by
 cases p with
 | none=>simp only[VR]at h;obtain⟨h,rfl,rfl,rfl⟩:=h;exact⟨_,_,h,Nat.le_refl _,Nat.le_refl _,λ_=>rfl,by simp⟩
 | some q =>
  obtain⟨b,off⟩:=q
  simp only[VR]at h
  obtain⟨L,ad,c,_,h1,_,_,_,h2,h3,h4,_⟩:=h
  exact⟨_,_,h1,h3,h2,h4,by simp⟩
theorem lT.TN {P:Program} {o:Oper} {t elem:TypeId} {x:Operand} {ax:AX} (ho:o.op=.call { callee:=.builtin .len,args:=#[x],argTypes:=#[t] })
  (ht:P.underlying t=some (.slice elem)) (hx:cX x=some ax):lT P o (.len false ax):=by
 intro ι e a w v he hv
 have h1:=dY hx he
 simp only[aP]at hv
 split at hv
 case h_3=>cases hv
 case h_1=>contradiction
 rename_i p sz len cap ex _ hc
 obtain rfl:=ak hv
 rw[hc]at h1
 obtain⟨ad,c,h1,_⟩:=slice_form h1
 refine⟨.int .i64 len, ?_,by simp[VR]⟩
 simp[execOp,ho,resolve,invoke,builtin,Builtin.len_,h1,run_underlying ht,goInt]
theorem lT.aag {P:Program} {o:Oper} {t elem:TypeId} {n:Nat} {x:Operand} (ho:o.op=.call { callee:=.builtin .len,args:=#[x],argTypes:=#[t] })
  (ht:P.underlying t=some (.array n elem)):lT P o (.move (.c (.int .i64 n))):=by
 intro ι e a w v he hv
 simp only[aP,AX.ev,av]at hv
 subst hv
 refine⟨.int .i64 n, ?_,by simp[VR]⟩
 simp[execOp,ho,resolve,invoke,builtin,Builtin.len_,run_underlying ht,goInt]
theorem lT.cap {P:Program} {o:Oper} {t elem:TypeId} {x:Operand} {ax:AX} (ho:o.op=.call { callee:=.builtin .cap,args:=#[x],argTypes:=#[t] })
  (ht:P.underlying t=some (.slice elem)) (hx:cX x=some ax):lT P o (.cap ax):=by
 intro ι e a w v he hv
 have h1:=dY hx he
 simp only[aP]at hv
 split at hv
 case h_2=>cases hv
 rename_i p sz len cap hc
 obtain rfl:=ak hv
 rw[hc]at h1
 obtain⟨ad,c,h1,_,_,h2,_⟩:=slice_form h1
 refine⟨.int .i64 c, ?_,by simp[VR,h2 rfl]⟩
 simp[execOp,ho,resolve,invoke,builtin,Builtin.cap_,h1,run_underlying ht,goInt]
theorem TP{P:Program}{ι:fq}(isMax:Bool):∀(l:List AV) (r:List Value) (a:AV) (v:Value) (b:AV),dQ ι l r→VR ι a v→E8 isMax a l=some b→∀w,∃v',((r.foldlM (if isMax then Builtin.max2 else Builtin.min2) v)).run P w=.ok v' w∧VR ι b v':=by
 intro l
 induction l with
 | nil =>
  intro r a v b hl ha hb w
  cases r with
  | nil=>simp only[E8,av]at hb;subst hb;exact⟨v,by simp,ha⟩
  | cons _ _=>simp[dQ]at hl
 | cons x l ih =>
  intro r a v b hl ha hb w
  cases r with
  | nil=>simp[dQ]at hl
  | cons y r =>
   simp only[dQ]at hl
   simp only[E8]at hb
   obtain⟨z,hz,hb⟩:=aF.1 hb
   unfold IQ at hz
   split at hz
   case h_2=>cases hz
   rename_i k m k' m'
   split at hz
   case isFalse=>cases hz
   rename_i hk
   subst hk
   obtain rfl:=ak hz
   simp only[VR]at ha
   have hy:=hl.1
   simp only[VR]at hy
   subst ha hy
   have hstep:∀w,((if isMax then Builtin.max2 else Builtin.min2) (.int k m) (.int k m')).run P w=.ok (.int k (if isMax then (if m'>m then m' else m)else (if m'<m then m' else m))) w:=by
    intro w
    cases isMax<;>simp[Builtin.max2,Builtin.min2]
   obtain⟨v',hr,hv'⟩:=ih r _ (.int k (if isMax then (if m'>m then m' else m)else (if m'<m then m' else m))) b hl.2 (by simp[VR]) hb w
   exact⟨v',by rw[List.foldlM_cons,Sem.run_bind,hstep,Result.andThen_ok,hr],hv'⟩
theorem lT.rZ{P:Program}{o:Oper}{isMax:Bool}{xs:Array Operand}{ts:Array TypeId}{al:List AX}(ho:o.op=.call { callee:=.builtin (if isMax then .max else .min),args:=xs,argTypes:=ts })(hx:TM xs.toList=some al):lT P o (.rZ isMax al):=by
 intro ι e a w v he hv
 have h1:=Mv he hx
 simp only[aP]at hv
 split at hv
 case h_2=>cases hv
 rename_i x r hc
 rw[hc]at h1
 cases hxs:xs.toList with
 | nil=>simp[hxs,dQ]at h1
 | cons y ys =>
  rw[hxs]at h1
  simp only[List.map_cons,dQ]at h1
  obtain⟨v',hr,hv'⟩:=TP (P:=P) isMax r _ x _ v h1.2 h1.1 hv w
  refine⟨v', ?_,hv'⟩
  cases isMax
  ·simp only[Bool.false_eq_true,if_false]at hr ho
   simp only[execOp,ho]
   simp[resolve,invoke,builtin,Builtin.min_,hxs,hr]
  ·simp only[if_true]at hr ho
   simp only[execOp,ho]
   simp[resolve,invoke,builtin,Builtin.max_,hxs,hr]
def xD(f:TypeId→Option (List Kd)):List Field→Nat→Option (List Kd)
 | [],_=>some []
 | fd::r,n=>match f fd.type with
  | some k=>if fd.name≠"_"∧fd.offset=n then (xD f r (n+k.length)).map (k++·)else none
  | none=>none
def sized(P:Program)(u:TypeId)(k:List Kd):Option (List Kd):=if l9 P u=some k.length then some k else none
def vQ(P:Program):Nat→TypeId→Option (List Kd)
 | 0,_=>none
 | d+1,t=>match P.underlying t with
  | some .bool=>some [.b]
  | some (.int _)=>some [.i]
  | some .string=>some [.s]
  | some (.struct fs)=>if P.stoodInHeld t=false then xD (λu=>(vQ P d u).bind (sized P u)) fs.toList 0 else none
  | _=>none
theorem Fa:∀ {k1 k2:List Kd} {a b:List AV} {r:Bool},ku (k1++k2) a b=some r →
  ∃r1 r2,ku k1 (a.take k1.length) (b.take k1.length)=some r1∧ku k2 (a.drop k1.length) (b.drop k1.length)=some r2∧r=(r1&&r2)
 | [],k2,a,b,r,h=>⟨true,r,by simp[ku],by simpa using h,by simp⟩
 | k::k1,k2,[],b,r,h=>by simp[ku]at h
 | k::k1,k2,_::_,[],r,h=>by simp[ku]at h
 | k::k1,k2,x::a,y::b,r,h=>by
  simp only[List.cons_append,ku]at h
  split at h
  case h_2=>cases h
  rename_i u v h1 h2
  obtain rfl:=ak h
  obtain⟨r1,r2,e1,e2,rfl⟩:=Fa h2
  exact⟨u&&r1,r2,by simp[ku,h1,e1],by simpa using e2,by simp[Bool.and_assoc]⟩
def Zz(P:Program)(t:TypeId):Kd→Prop
 |.b=>P.underlying t=some .bool
 |.i=>∃k,P.underlying t=some (.int k)
 |.s=>P.underlying t=some .string
theorem NQ {P:Program} {ι:fq} {k:Kd} {x y:AV} {r:Bool} (h:Ik k x y=some r) {v v':Value} (hx:VR ι x v) (hy:VR ι y v') {t:TypeId}
  (ht:Zz P t k) (d:Nat) (w:World) :
  (Op.equalIn (d+1) t v v').run P w=.ok r w:=by
 cases k<;>cases x<;>cases y<;>simp only[Ik]at h<;>first |(cases h;done) | skip
 ·obtain rfl:=ak h
  simp only[VR]at hx hy
  subst hx hy
  simp only[Zz]at ht
  simp[Op.equalIn,run_underlying ht]
 ·split at h
  case isFalse=>cases h
  rename_i hk
  subst hk
  obtain rfl:=ak h
  simp only[VR]at hx hy
  subst hx hy
  simp only[Zz]at ht
  obtain⟨k',ht⟩:=ht
  simp[Op.equalIn,run_underlying ht]
 ·obtain rfl:=ak h
  simp only[VR]at hx hy
  obtain⟨a,rfl,rfl⟩:=hx
  obtain⟨b,rfl,rfl⟩:=hy
  simp only[Zz]at ht
  rw[run_equalIn_string w d t a b ht,ByteArray.toList_eq,ByteArray.toList_eq]
def R8(d:Nat)(t:TypeId)(xs ys:Array Value)(off:Nat):Sem Bool:=do
 let a ←part t xs off
 let b ←part t ys off
 Op.equalIn d t a b
theorem AA:∀ {ks:List Kd} {a b:List AV} {r:Bool},ku ks a b=some r→a.length=ks.length∧b.length=ks.length
 | [],[],[],_,_=>by simp
 | k::ks,x::a,y::b,r,h=>by
  simp only[ku]at h
  split at h
  case h_2=>cases h
  rename_i h2
  have:=AA h2
  simp[this]
 | [],_::_,_,_,h=>by simp[ku]at h
 | [],[],_::_,_,h=>by simp[ku]at h
 | _::_,[],_,_,h=>by simp[ku]at h
 | _::_,_::_,[],_,h=>by simp[ku]at h
theorem BZ {P:Program} {ι:fq} {k:Kd} {as bs:List AV} {xs ys:Array Value} (hx:dQ ι as xs.toList) (hy:dQ ι bs ys.toList) {off:Nat} {r:Bool} (h:ku [k] ((as.drop off).take 1) ((bs.drop off).take 1)=some r)
  {t:TypeId} (ht:Zz P t k) (d:Nat) (w:World):(R8 (d+1) t xs ys off).run P w=.ok r w:=by
 have hl:=AA h
 obtain⟨x,hx1⟩:∃x,as[off]?=some x:=by
  cases ha:as[off]? with
  | some x=>exact⟨x,rfl⟩
  | none =>
   rw[List.getElem?_eq_none_iff]at ha
   have:=hl.1
   rw[List.drop_eq_nil_of_le ha]at this
   simp at this
 obtain⟨y,hy1⟩:∃y,bs[off]?=some y:=by
  cases ha:bs[off]? with
  | some x=>exact⟨x,rfl⟩
  | none =>
   rw[List.getElem?_eq_none_iff]at ha
   have:=hl.2
   rw[List.drop_eq_nil_of_le ha]at this
   simp at this
 have d1:(as.drop off).take 1=[x]:=by
  rw[List.drop_eq_getElem_cons (aM.1 hx1).1]
  simp[(aM.1 hx1).2]
 have d2:(bs.drop off).take 1=[y]:=by
  rw[List.drop_eq_getElem_cons (aM.1 hy1).1]
  simp[(aM.1 hy1).2]
 rw[d1,d2]at h
 simp only[ku]at h
 split at h
 case h_2=>cases h
 rename_i u z h1 h2
 obtain rfl:=ak h
 obtain rfl:=ak h2
 obtain⟨v,hv,hv'⟩:=hx.get off x hx1
 obtain⟨v2,hv2,abO⟩:=hy.get off y hy1
 have hagg:xC P t=some false:=by
  unfold xC
  cases k
  ·simp only[Zz]at ht;simp[ht]
  ·simp only[Zz]at ht;obtain⟨_,ht⟩:=ht;simp[ht]
  ·simp only[Zz]at ht;simp[ht]
 rw[Array.getElem?_toList]at hv hv2
 simp only[R8,part,Sem.run_bind,Di hagg,Result.andThen_ok,Bool.false_eq_true,if_false,hv,hv2,Sem.run_pure]
 rw[NQ (P:=P) h1 hv' abO ht d w]
 simp
theorem D9 {P:Program} {f:TypeId→Option (List Kd)} {d:Nat} {as bs:List AV} {xs ys:Array Value}
  (hf:∀u ks,f u=some ks→∀off r,ku ks ((as.drop off).take ks.length) ((bs.drop off).take ks.length)=some r→∀w,(R8 d u xs ys off).run P w=.ok r w) :
  ∀(fs:List Field) (n:Nat) (ks:List Kd),xD f fs n=some ks→∀r,ku ks ((as.drop n).take ks.length) ((bs.drop n).take ks.length)=some r→∀w,(Op.eqFields d xs ys fs).run P w=.ok r w
 | [],n,ks,h,r,hr,w=>by
  simp only[xD,av]at h
  subst h
  simp[ku]at hr
  subst hr
  simp[Op.eqFields]
 | fd::fs,n,ks,h,r,hr,w=>by
  simp only[xD]at h
  split at h
  case h_2=>cases h
  rename_i k hk
  split at h
  case isFalse=>cases h
  rename_i hc
  obtain⟨ks',hks,rfl⟩:=aC.1 h
  obtain⟨r1,r2,e1,e2,rfl⟩:=Fa hr
  rw[List.take_take,List.take_take,Nat.min_eq_left (by simp)]at e1
  rw[List.drop_take,List.drop_take,List.drop_drop,List.drop_drop,show(k++ks').length-k.length=ks'.length from by simp]at e2
  have s1:=hf fd.type k hk n r1 e1 w
  have s2:=D9 hf fs (n+k.length) ks' hks r2 e2 w
  simp only[Op.eqFields]
  rw[if_pos hc.1]
  simp only[R8]at s1
  rw[hc.2]
  have e:((do
   let a ←part fd.type xs n
   let b ←part fd.type ys n
   let r ←Op.equalIn d fd.type a b
   if (!r)=true then pure false else Op.eqFields d xs ys fs):Sem Bool)=((do
   let a ←part fd.type xs n
   let b ←part fd.type ys n
   Op.equalIn d fd.type a b):Sem Bool) >>= λr=>if (!r)=true then pure false else Op.eqFields d xs ys fs:=by
   simp
  rw[e,Sem.run_bind,s1,Result.andThen_ok]
  cases r1
  ·simp
  ·simpa using s2
theorem Q0 {P:Program} {ι:fq}:∀(d:Nat) (t:TypeId) (ks:List Kd),vQ P d t=some ks→∀d',d≤d' →
  (∀ {as bs:List AV} {xs ys:Array Value},dQ ι as xs.toList→dQ ι bs ys.toList→∀off r,l9 P t=some ks.length→ku ks ((as.drop off).take ks.length) ((bs.drop off).take ks.length)=some r→∀w,(R8 d' t xs ys off).run P w=.ok r w) ∧
  (∀ {as bs:List AV} {xs ys:Array Value},dQ ι as xs.toList→dQ ι bs ys.toList→∀r,(∃fs,P.underlying t=some (.struct fs))→ku ks as bs=some r→∀w,(Op.equalIn d' t (.agg xs) (.agg ys)).run P w=.ok r w)
 | 0,_,_,h,_,_=>by simp[vQ]at h
 | d+1,t,ks,h,d',hd=>by
  obtain⟨d',rfl⟩:∃m,d'=m+1:=⟨d'-1,by omega⟩
  have struct:∀ {as bs:List AV} {xs ys:Array Value},dQ ι as xs.toList→dQ ι bs ys.toList→∀r,(∃fs,P.underlying t=some (.struct fs))→ku ks as bs=some r→∀w,(Op.equalIn (d'+1) t (.agg xs) (.agg ys)).run P w=.ok r w:=by
   intro as bs xs ys hx hy r ⟨fs,hu⟩ hr w
   simp only[vQ,hu]at h
   split at h
   case isFalse=>cases h
   rename_i hs
   have hfo:P.fieldsOf t=fs:=by simp[Program.fieldsOf,hu]
   rw[run_equalIn_struct w d' t xs ys (by rw[hfo];exact hu) hs,hfo]
   have hl:=AA hr
   refine D9 (as:=as) (bs:=bs) (f:=λu=>(vQ P d u).bind (sized P u)) ?_ fs.toList 0 ks h r (by rw[List.drop_zero,List.drop_zero,List.take_of_length_le (by omega),List.take_of_length_le (by omega)];exact hr) w
   intro u ks' hu' off r' hr' w'
   obtain⟨abP,h1,h2⟩:=aF.1 hu'
   unfold sized at h2
   split at h2
   case isFalse=>cases h2
   rename_i hsz
   obtain rfl:=ak h2
   exact(Q0 d u abP h1 d' (by omega)).1 hx hy off r' hsz hr' w'
  refine⟨?_,struct⟩
  intro as bs xs ys hx hy off r hsz hr w
  cases hu:P.underlying t with
  | none=>simp[vQ,hu]at h
  | some ds =>
   cases ds with
   | bool =>
    simp only[vQ,hu,av]at h
    subst h
    exact BZ hx hy hr (by exact hu) d' w
   | int k =>
    simp only[vQ,hu,av]at h
    subst h
    exact BZ hx hy hr (by exact⟨k,hu⟩) d' w
   | string =>
    simp only[vQ,hu,av]at h
    subst h
    exact BZ hx hy hr (by exact hu) d' w
   | struct fs =>
    have hagg:xC P t=some true:=by simp[xC,hu]
    have p1:∀(zs:Array Value) w,(part t zs off).run P w=.ok (.agg (zs.extract off (off+ks.length))) w:=by
     intro zs w
     simp[part,Di hagg,oh hsz]
    simp only[R8,Sem.run_bind,p1,Result.andThen_ok]
    refine struct (as:=(as.drop off).take ks.length) (bs:=(bs.drop off).take ks.length) ?_ ?_ r ⟨fs,hu⟩ hr w
    ·rw[Array.toList_extract,List.extract_eq_take_drop,Nat.add_sub_cancel_left]
     exact(hx.drop off).take _
    ·rw[Array.toList_extract,List.extract_eq_take_drop,Nat.add_sub_cancel_left]
     exact(hy.drop off).take _
   | _=>simp[vQ,hu]at h
theorem lT.TK {P:Program} {o:Oper} {neg:Bool} {t u:TypeId} {fs:Array Field} {ks:List Kd} {x y:Operand} {ax ay:AX} (ho:o.op=.binOp (if neg then .neq else .eql) t x y u) (ht:P.underlying t=some (.struct fs)) (hk:vQ P 20 t=some ks)
  (hg:P.eqGuardType P.depth t=false) (hx:cX x=some ax) (hy:cX y=some ay):lT P o (.TK neg ks ax ay):=by
 intro ι e a w v he hv
 have h1:=dY hx he
 have h2:=dY hy he
 simp only[aP]at hv
 split at hv
 case h_2=>cases hv
 rename_i as bs hc1 hc2
 rw[hc1]at h1
 rw[hc2]at h2
 simp only[VR]at h1 h2
 obtain⟨xs,h1,h1'⟩:=h1
 obtain⟨ys,h2,h2'⟩:=h2
 obtain⟨r,hr,rfl⟩:=aC.1 hv
 have key:=(Q0 (P:=P) 20 t ks hk 10000 (by omega)).2 h1' h2' r ⟨fs,ht⟩ hr w
 have g:=λop=>run_eqGuard_agg w op t x y xs ys hg
 refine⟨.bool (if neg then !r else r), ?_,by simp[VR]⟩
 cases neg
 ·simp only[Bool.false_eq_true,if_false]at ho ⊢
  simp only[execOp,ho,h1,h2]
  simp only[Sem.run_bind,g,Result.andThen_ok,run_eql_struct,key,Sem.run_pure]
 ·simp only[if_true]at ho ⊢
  simp only[execOp,ho,h1,h2]
  simp only[Sem.run_bind,g,Result.andThen_ok,run_neq_struct,key,Sem.run_pure]
theorem lT.TJ {P:Program} {o:Oper} {neg:Bool} {t u:TypeId} {x y:Operand} {ax ay:AX} (ho:o.op=.binOp (if neg then .neq else .eql) t x y u) (ht:P.underlying t=some .bool)
  (hx:cX x=some ax) (hy:cX y=some ay):lT P o (.TJ neg ax ay):=by
 intro ι e a w v he hv
 have h1:=dY hx he
 have h2:=dY hy he
 simp only[aP]at hv
 obtain⟨r,hr,rfl⟩:=aC.1 hv
 refine⟨.bool (if neg then !r else r), ?_,by simp[VR]⟩
 have key:=NQ (P:=P) hr h1 h2 (t:=t) (by exact ht) 9999 w
 have hb:∃b b',a.eval x=.bool b∧a.eval y=.bool b':=by
  revert hr h1 h2
  generalize ax.ev e=p
  generalize ay.ev e=q
  intro h1 h2 hr
  cases p<;>cases q<;>simp only[Ik]at hr<;>first |(cases hr;done) | skip
  simp only[VR]at h1 h2
  exact⟨_,_,h1,h2⟩
 obtain⟨b,b',e1,e2⟩:=hb
 rw[e1,e2]at key
 cases neg
 ·simp only[Bool.false_eq_true,if_false]at ho ⊢
  simp only[execOp,ho,e1,e2]
  simp[eqGuard_at_bool,binOp,Op.equal,Op.maxDepth,key]
 ·simp only[if_true]at ho ⊢
  simp only[execOp,ho,e1,e2]
  simp[eqGuard_at_bool,binOp,Op.equal,Op.maxDepth,key]
theorem Xd {P:Program} {t elem:TypeId} {n:Nat} (ht:P.underlying t=some (.pointer elem)) (hn:l9 P elem=some (n+1)) {ι:fq} {p q:AV} {v v':Value} (h1:VR ι p v) (h2:VR ι q v') {r:Bool} (hr:Ky p q=some r) (d:Nat) (w:World) :
  (∃p,v=.pointer p)∧(Op.equalIn (d+1) t v v').run P w=.ok r w:=by
 unfold Ky at hr
 split at hr
 ·rename_i b
  obtain rfl:=ak hr
  simp only[VR]at h1
  subst h1
  cases b with
  | none=>simp only[VR]at h2;subst h2;exact⟨⟨_,rfl⟩,by simp[Op.equalIn,run_underlying ht]⟩
  | some b=>obtain⟨b,o⟩:=b;simp only[VR]at h2;obtain⟨l,_,rfl⟩:=h2;exact⟨⟨_,rfl⟩,by simp[Op.equalIn,run_underlying ht]⟩
 ·rename_i b
  obtain rfl:=ak hr
  obtain⟨b,o⟩:=b
  simp only[VR]at h1 h2
  obtain⟨l,_,rfl⟩:=h1
  subst h2
  exact⟨⟨_,rfl⟩,by simp[Op.equalIn,run_underlying ht]⟩
 ·rename_i b c
  obtain⟨b,o⟩:=b
  obtain⟨c,o'⟩:=c
  split at hr
  case isFalse=>cases hr
  rename_i hbc
  simp only at hbc
  subst hbc
  obtain rfl:=ak hr
  simp only[VR]at h1 h2
  obtain⟨l,hl,rfl⟩:=h1
  obtain⟨l',hl',rfl⟩:=h2
  rw[hl]at hl'
  obtain rfl:=ak hl'
  refine⟨⟨_,rfl⟩, ?_⟩
  have e:((⟨l.j,l.d+o,none⟩:Addr)==⟨l.j,l.d+o',none⟩)=(o==o'):=by
   rw[Bool.eq_iff_iff]
   simp
  simp only[Op.equalIn,Sem.run_bind,run_underlying ht,Result.andThen_ok,oh hn,ne_eq,Nat.add_eq_zero_iff,Nat.succ_ne_self,and_false,not_false_eq_true,if_true]
  simp[sameAddr,e]
 ·cases hr
theorem lT.TL {P:Program} {o:Oper} {neg:Bool} {t u elem:TypeId} {n:Nat} {x y:Operand} {ax ay:AX} (ho:o.op=.binOp (if neg then .neq else .eql) t x y u) (ht:P.underlying t=some (.pointer elem)) (hn:l9 P elem=some (n+1))
  (hx:cX x=some ax) (hy:cX y=some ay):lT P o (.TL neg ax ay):=by
 intro ι e a w v he hv
 have h1:=dY hx he
 have h2:=dY hy he
 simp only[aP]at hv
 obtain⟨r,hr,rfl⟩:=aC.1 hv
 refine⟨.bool (if neg then !r else r), ?_,by simp[VR]⟩
 obtain⟨⟨p,hp⟩,key⟩:=Xd (P:=P) ht hn h1 h2 hr 9999 w
 cases neg
 ·simp only[Bool.false_eq_true,if_false]at ho ⊢
  simp only[execOp,ho]
  rw[hp]at key ⊢
  simp[eqGuard_at_pointer,binOp,Op.equal,Op.maxDepth,key]
 ·simp only[if_true]at ho ⊢
  simp only[execOp,ho]
  rw[hp]at key ⊢
  simp[eqGuard_at_pointer,binOp,Op.equal,Op.maxDepth,key]
theorem Xe {P:Program} {t elem:TypeId} (ht:P.underlying t=some (.slice elem)) {ι:fq} {p q:AV} {v v':Value} (h1:VR ι p v) (h2:VR ι q v') {r:Bool} (hr:Mr p q=some r) (d:Nat) (w:World) :
  (∃p n c,v=.slice p n c)∧(Op.equalIn (d+1) t v v').run P w=.ok r w:=by
 unfold Mr at hr
 split at hr
 ·rename_i b _ _ _ _
  obtain rfl:=ak hr
  simp only[VR]at h1
  obtain⟨rfl,_⟩:=h1
  obtain⟨ad,c,rfl,_,_,_,hnn⟩:=slice_form h2
  refine⟨⟨_,_,_,rfl⟩, ?_⟩
  have:ad.isNone=b.isNone:=by cases ad<;>cases b<;>simp_all
  simp[Op.equalIn,run_underlying ht,this]
 ·rename_i b _ _ _ _ _ _ _ _
  obtain rfl:=ak hr
  simp only[VR]at h2
  obtain⟨rfl,_⟩:=h2
  obtain⟨ad,c,rfl,_,_,_,hnn⟩:=slice_form h1
  refine⟨⟨_,_,_,rfl⟩, ?_⟩
  cases ad with
  | none=>simp at hnn
  | some ad=>simp[Op.equalIn,run_underlying ht]
 ·cases hr
theorem lT.R4 {P:Program} {o:Oper} {neg:Bool} {t u elem:TypeId} {x y:Operand} {ax ay:AX} (ho:o.op=.binOp (if neg then .neq else .eql) t x y u) (ht:P.underlying t=some (.slice elem))
  (hx:cX x=some ax) (hy:cX y=some ay):lT P o (.R4 neg ax ay):=by
 intro ι e a w v he hv
 have h1:=dY hx he
 have h2:=dY hy he
 simp only[aP]at hv
 obtain⟨r,hr,rfl⟩:=aC.1 hv
 refine⟨.bool (if neg then !r else r), ?_,by simp[VR]⟩
 obtain⟨⟨p,n,c,hp⟩,key⟩:=Xe (P:=P) ht h1 h2 hr 9999 w
 cases neg
 ·simp only[Bool.false_eq_true,if_false]at ho ⊢
  simp only[execOp,ho]
  rw[hp]at key ⊢
  simp[eqGuard_at_slice,binOp,Op.equal,Op.maxDepth,key]
 ·simp only[if_true]at ho ⊢
  simp only[execOp,ho]
  rw[hp]at key ⊢
  simp[eqGuard_at_slice,binOp,Op.equal,Op.maxDepth,key]
theorem KX:∀(l:List Value) (k off:Nat) (cells:Array Value),off+k+l.length≤cells.size →
  ((l.zipIdx k).foldl (λcs (c,j)=>cs.setIfInBounds (off+j) c) cells).toList=cells.toList.take (off+k)++l++cells.toList.drop (off+k+l.length)
 | [],k,off,cells,h=>by simp
 | x::l,k,off,cells,h=>by
  simp only[List.zipIdx_cons,List.foldl_cons]
  have hl:(x::l).length=l.length+1:=rfl
  rw[KX l (k+1) off _ (by simp;omega)]
  simp only[Array.toList_setIfInBounds,bZ]
  have e1:(cells.toList.set (off+k) x).take (off+(k+1))=cells.toList.take (off+k)++[x]:=by
   rw[show off+(k+1)=off+k+1 from by omega,List.take_add_one]
   simp[List.take_set_of_le,show off+k<cells.size from by omega]
  have e2:(cells.toList.set (off+k) x).drop (off+(k+1)+l.length)=cells.toList.drop (off+k+(l.length+1)):=by
   rw[List.drop_set_of_lt (by omega)]
   congr 1;omega
  rw[e1,e2]
  simp
theorem Mx {ι:fq} (place:Nat→Option (Nat×Nat)):∀(parts:List (Nat×Value)) (ap:List (Nat×Nat×AV)) (cells:Array Value) (cs cs':List AV),dQ ι cs cells.toList→(∀c,c∈cs→c.eH=true) →
  ap.length=parts.length→(∀(i:Nat) (p:Nat×Nat×AV) (q:Nat×Value),ap[i]?=some p→parts[i]?=some q→place q.1=some (p.1,p.2.1)∧VR ι p.2.2 q.2)→nJ cs ap=some cs' →
  ∃cells',Instr.fill place cells parts=some cells'∧dQ ι cs' cells'.toList∧(∀c,c∈cs'→c.eH=true)
 | [],[],cells,cs,cs',h,hc,_,_,ha=>by
  simp only[nJ,av]at ha
  subst ha
  exact⟨cells,rfl,h,hc⟩
 | [],_::_,_,_,_,_,_,hl,_,_=>by simp at hl
 | _::_,[],_,_,_,_,_,hl,_,_=>by simp at hl
 |(i,v)::parts,(off,n,a)::ap,cells,cs,cs',h,hc,hl,hp,ha=>by
  simp only[nJ]at ha
  split at ha
  case h_2=>cases ha
  rename_i l hcells
  split at ha
  case isFalse=>cases ha
  rename_i hcond
  obtain⟨hpl,hrel⟩:=hp 0 (off,n,a) (i,v) rfl rfl
  obtain⟨hvc,hall⟩:=Gm hcells hrel
  have hlen:v.cells.size=n:=by have:=hvc.length;simp at this;omega
  have hcl:cs.length=cells.size:=by have:=h.length;simpa using this
  simp only[Instr.fill]
  simp only at hpl
  rw[hpl]
  simp only
  rw[if_neg (by rw[hlen];simp;omega)]
  have hseg:(v.cells.zipIdx.foldl (λcs (c,j)=>cs.setIfInBounds (off+j) c) cells).toList=cells.toList.take off++v.cells.toList++cells.toList.drop (off+n):=by
   have:=KX v.cells.toList 0 off cells (by simp;omega)
   rw[←Array.foldl_toList,Array.toList_zipIdx]
   simpa[hlen]using this
  refine Mx place parts ap _ _ cs' ?_ ?_ (by simpa using hl) (λj p q h1 h2=>hp (j+1) p q (by simpa using h1) (by simpa using h2)) ha
  ·rw[hseg]
   exact((h.take off).append hvc).append (by have:=h.drop (off+n);simpa[hcond.1]using this)
  ·intro c hcm
   rcases List.mem_append.1 hcm with hcm | hcm
   ·rcases List.mem_append.1 hcm with hcm | hcm
    ·exact hc c (List.mem_of_mem_take hcm)
    ·exact hall c hcm
   ·exact hc c (List.mem_of_mem_drop hcm)
def zi(place:Nat→Option (Nat×Nat)):List (Nat×Operand)→Option (List (Nat×Nat×AX))
 | []=>some []
 |(i,x)::r=>match place i,cX x,zi place r with
  | some p,some ax,some l=>some ((p.1,p.2,ax)::l)
  | _,_,_=>none
theorem Gp {place:Nat→Option (Nat×Nat)} {ι:fq} {e:Env} {a:Act} (he:dQ ι e a.tmps.toList):∀ {l:List (Nat×Operand)} {al:List (Nat×Nat×AX)},zi place l=some al →
  al.length=l.length∧∀(i:Nat) (p:Nat×Nat×AX) (q:Nat×Operand),al[i]?=some p→l[i]?=some q→place q.1=some (p.1,p.2.1)∧VR ι (p.2.2.ev e) (a.eval q.2)
 | [],al,h=>by
  simp only[zi,av]at h
  subst h
  simp
 |(i,x)::r,al,h=>by
  simp only[zi]at h
  split at h
  case h_2=>cases h
  rename_i p ax l h1 h2 h3
  obtain rfl:=ak h
  obtain⟨g1,g2⟩:=Gp he h3
  refine⟨by simp[g1],λj p' q hj hq=>?_⟩
  cases j with
  | zero =>
   simp at hj hq
   subst hj hq
   exact⟨by simp[h1],dY h2 he⟩
  | succ j=>exact g2 j p' q (by simpa using hj) (by simpa using hq)
def placeOf(P:Program)(t:TypeId):Nat→Option (Nat×Nat) :=
 match P.underlying t with
 | some (.array _ e)=>λi=>(l9 P e).map λn=>(i*n,n)
 | some (.struct fs)=>λi=>(fs[i]?).bind λf=>(l9 P f.type).map λn=>(f.offset,n)
 | _=>λ_=>none
def buildable(P:Program)(t:TypeId):Bool :=
 match P.underlying t with
 | some (.array _ e)=>(l9 P e).isSome
 | some (.struct fs)=>fs.toList.all λf=>(l9 P f.type).isSome
 | _=>false
theorem Jd {P:Program}:∀(fs:List Field),(fs.all λf=>(l9 P f.type).isSome)=true →
  ∃places:List (Nat×Nat),fs.mapM (λ(f:Field)=>(P.info? f.type).map λi=>(f.offset,i.size))=some places∧∀i:Nat,places[i]?=(fs[i]?).bind λ(f:Field)=>(l9 P f.type).map λn=>(f.offset,n)
 | [],_=>⟨[],by simp,by simp⟩
 | f::fs,h=>by
  simp only[List.all_cons,Bool.and_eq_true]at h
  obtain⟨places,h1,h2⟩:=Jd fs h.2
  obtain⟨n,hn⟩:=Option.isSome_iff_exists.1 h.1
  have hn':=hn
  unfold l9 at hn'
  obtain⟨i,hi,rfl⟩:=aC.1 hn'
  refine⟨(f.offset,i.size)::places,by simp[List.mapM_cons,hi,h1],λj=>?_⟩
  cases j with
  | zero=>simp[hn]
  | succ j=>simpa using h2 j
theorem lT.build {P:Program} {o:Oper} {t:TypeId} {parts:Array (Nat×Operand)} {zero:List AV} {al:List (Nat×Nat×AX)} (ho:o.op=.build t parts) (hb:buildable P t=true) (hz:zeroOf P t=some zero)
  (hp:zi (placeOf P t) parts.toList=some al):lT P o (.build zero al):=by
 intro ι e a w v he hv
 simp only[aP]at hv
 obtain⟨cs,hcs,rfl⟩:=aC.1 hv
 obtain⟨g1,g2⟩:=Gp he hp
 have hz':=hz
 unfold zeroOf at hz'
 split at hz'
 case h_2=>cases hz'
 rename_i z hz2
 obtain⟨it,hit,hz3⟩:=aF.1 hz2
 have hzv:=lG ι hz'
 obtain⟨cells',hf,hr,_⟩:=Mx (ι:=ι) (placeOf P t) (parts.toList.map λp=>(p.1,a.eval p.2)) (al.map λp=>(p.1,p.2.1,p.2.2.ev e)) z.cells zero cs hzv.1 hzv.2 (by simp[g1]) (λi p q h1 h2=>by
  simp only[List.getElem?_map,aC]at h1 h2
  obtain⟨p',hp',rfl⟩:=h1
  obtain⟨q',hq',rfl⟩:=h2
  exact g2 i p' q' hp' hq') hcs
 refine⟨.agg cells', ?_,by simp only[VR];exact⟨_,rfl,hr⟩⟩
 have aah:P.built t (parts.map λp=>(p.1,a.eval p.2)).toList=some cells':=by
  unfold Program.built
  unfold buildable at hb
  unfold placeOf at hf
  cases hu:P.underlying t with
  | none=>simp[hu]at hb
  | some ds =>
   cases ds with
   | array n el =>
    rw[hu]at hb hf
    simp only at hb hf
    obtain⟨m,hm⟩:=Option.isSome_iff_exists.1 hb
    have hm':=hm
    unfold l9 at hm'
    obtain⟨ie,hie,rfl⟩:=aC.1 hm'
    simp only[hm,aW]at hf
    simp only[hit,hz3,hie]
    simpa using hf
   | struct fs =>
    rw[hu]at hb hf
    simp only at hb hf
    obtain⟨places,e1,e2⟩:=Jd fs.toList hb
    simp only[hit,hz3,e1]
    have:(λ(i:Nat)=>places.toArray[i]?)=λ(i:Nat)=>(fs[i]?).bind λ(f:Field)=>(l9 P f.type).map λn=>(f.offset,n):=by
     funext i
     simpa using e2 i
    rw[this]
    simpa using hf
   | _=>simp[hu]at hb
 have:=run_build (P:=P) w t (parts.map λp=>(p.1,a.eval p.2)) cells' aah
 simp only[execOp,ho]
 simp[this]
structure Made(w w':World)(ob:Obj):Prop where
 size:w'.heap.size=w.heap.size+1
 old:∀j,j<w.heap.size→w'.heap[j]?=w.heap[j]?
 new:w'.heap[w.heap.size]?=some ob
 os:w'.os=w.os
 tape:w'.tape=w.tape
 output:w'.output=w.output
theorem Made.alloc(w:World)(ob:Obj):Made w (w.alloc ob) ob:=by
 refine⟨by simp,λj hj=>Below.NS w ob j hj,by simp[World.alloc,-World.alloc_eq],rfl,rfl,rfl⟩
 where
 Below.NS (w:World) (o:Obj) (k:Nat) (h:k<w.heap.size):(w.alloc o).heap[k]?=w.heap[k]?:=by
  show(w.heap.push o)[k]?=_
  rw[Array.getElem?_push,if_neg (by omega)]
theorem Made.PE(w:World)(ob:Obj):Made w (w.drew.alloc ob) ob :=
 let h:=Made.alloc w.drew ob
 ⟨h.size,h.old,h.new,h.os,h.tape,h.output⟩
def KY(P:Program)(o:Oper)(k:Bh):Prop :=
 ∀(ι:fq) (e:Env) (a:Act) (w:World) (blk:jN) (mk:Mk),dQ ι e a.tmps.toList→aK k e=some (blk,mk) →
  ∃v' w' ob N,(execOp a.eval o).run P w=.ok (.value v') w'∧blk.own=true∧Made w w' ob ∧
   ∀id bI,ι.Le bI→bI id=some ⟨w.heap.size,0,N⟩→BR bI blk ⟨w.heap.size,0,N⟩ ob∧VR bI (mk.val id) v'
def R9(P:Program)(o:Oper)(l:rY):Prop :=
 ∀(ι:fq) (M:Heap) (e:Env) (a:Act) (w:World) (v:AV),R ι M w→dQ ι e a.tmps.toList→aL l e M=some v→∃v',(execOp a.eval o).run P w=.ok (.value v') w∧VR ι v v'
theorem BR.new {ι:fq} {cs:List AV} {l:Array Value} {Hg:Bool} {e:TypeId} {fz:Nat×Nat} {j:Nat} (h:∃r,dQ ι cs (l.toList.take r)∧r≤l.size∧(Hg=false→r=l.size)) (hc:∀c,c∈cs→c.eH=true) (hf:(fz.1=fz.2∨l.size≤fz.1)∧(Hg=false→fz.1=fz.2)) :
  BR ι (.cells cs false Hg) ⟨j,0,l.size⟩ (.cells l e fz):=by
 obtain⟨r,hr,hle,hs⟩:=h
 have hlen:=hr.length
 simp at hlen
 refine⟨l,e,fz,rfl,by simp,by simp only;omega,λh=>by simp only;rw[hlen,hs h];simp,λi a hi=>?_,λ_=>hf⟩
 obtain⟨v,hv,hr'⟩:=hr.get i a hi
 refine⟨v, ?_,hc a (List.mem_of_getElem? hi),hr'⟩
 simp only[List.getElem?_take]at hv
 split at hv
 case isFalse=>cases hv
 simpa using hv
theorem BR.IU{ι:fq}{cs:List AV}{l:Array Value}{e:TypeId}{j:Nat}(h:dQ ι cs l.toList)(hc:∀c,c∈cs→c.eH=true):BR ι (.cells cs false false) ⟨j,0,l.size⟩ (.cells l e (0,0)) :=
 BR.new ⟨l.size,by rw[List.take_of_length_le (by simp)];exact h,Nat.le_refl _,λ_=>rfl⟩ hc ⟨.inl rfl,λ_=>rfl⟩
theorem yK:∀(n:Nat) (z:List AV),(jo n z).length=n*z.length
 | 0,z=>by simp[jo]
 | n+1,z=>by simp[jo,yK n z,Nat.add_mul,Nat.add_comm]
theorem NT(z:List AV):∀(n i:Nat),i<n*z.length→(jo n z)[i]?=z[i%z.length]?
 | 0,i,h=>by simp at h
 | n+1,i,h=>by
  simp only[jo]
  rw[List.getElem?_append]
  split
  ·rename_i hi
   rw[Nat.mod_eq_of_lt hi]
  ·rename_i hi
   rw[NT z n (i-z.length) (by rw[Nat.add_mul]at h;omega)]
   congr 1
   have:i=(i-z.length)+z.length:=by omega
   rw[this,Nat.add_mod_right]
   simp
theorem Fb{n:Nat}{z:List AV}{c:AV}(h:c∈jo n z):c∈z:=by
 induction n with
 | zero=>simp[jo]at h
 | succ n ih =>
  simp only[jo,List.mem_append]at h
  exact h.elim id ih
theorem IV{ι:fq}{z:List AV}{v:Array Value}(h:dQ ι z v.toList)(n:Nat):dQ ι (jo n z) (madeCells v (n*v.size)).toList:=by
 have hl:z.length=v.size:=by have:=h.length;simpa using this
 refine dQ.r_ (by simp[yK,madeCells,hl]) λi a x ha hx=>?_
 have hi:i<n*z.length:=by
  have:=(aM.1 ha).1
  rwa [yK]at this
 rw[NT z n i hi]at ha
 obtain⟨y,hy,hr⟩:=h.get _ a ha
 simp only[madeCells,Array.toList_map,Array.toList_range,List.getElem?_map,List.getElem?_range (show i<n*v.size from by rw[←hl];exact hi),aW,av]at hx
 subst hx
 rw[hl,Array.getElem?_toList]at hy
 rw[getElem!_def,hy]
 exact hr
theorem KY.alloc{P:Program}{o:Oper}{t:TypeId}{zero:List AV}(ho:o.op=.alloc t)(hz:zeroOf P t=some zero):KY P o (.alloc zero):=by
 intro ι e a w blk mk he h
 simp only[aK,av,aI]at h
 obtain⟨rfl,rfl⟩:=h
 obtain⟨z,hz1,hz2,hz3⟩:=Jc (P:=P) hz w
 refine⟨.pointer (some ⟨w.heap.size,0,none⟩),w.alloc (.cells z.cells t),_,z.cells.size, ?_,rfl,Made.alloc _ _,λid bI hle hid=>⟨BR.IU (hz2 bI) hz3, ?_⟩⟩
 ·simp only[execOp,ho]
  simp[Instr.alloc,hz1,newVar,newRow]
 ·simp only[Mk.val,VR]
  exact⟨_,hid,rfl⟩
theorem KY.box{P:Program}{o:Oper}{t:TypeId}{x:Operand}{ax:AX}(ho:o.op=.box t x)(hx:cX x=some ax):KY P o (.box ax):=by
 intro ι e a w blk mk he h
 have h1:=dY hx he
 simp only[aK]at h
 obtain⟨cs,hcs,h⟩:=aC.1 h
 simp only[aI]at h
 obtain⟨rfl,rfl⟩:=h
 obtain⟨g1,g2⟩:=Gm hcs h1
 refine⟨.pointer (some ⟨w.heap.size,0,none⟩),w.alloc (.cells (a.eval x).cells t),_,(a.eval x).cells.size, ?_,rfl,Made.alloc _ _,λid bI hle hid=>⟨BR.IU (g1.mono hle) g2, ?_⟩⟩
 ·simp only[execOp,ho]
  simp[Instr.box,newVar,newRow]
 ·simp only[Mk.val,VR]
  exact⟨_,hid,rfl⟩
theorem KY.buildSlice {P:Program} {o:Oper} {t elem:TypeId} {len n:Nat} {parts:Array (Nat×Operand)} {zero:List AV} {al:List (Nat×AX)} (ho:o.op=.buildSlice t len parts) (ht:P.underlying t=some (.slice elem)) (hn:l9 P elem=some n) (hn0:0<n)
  (hlen:len*n≤16777216) (hz:zeroOf P elem=some zero) (hzl:zero.length=n) (hp:zi (λi=>some (i*n,n)) parts.toList=some (al.map λp=>(p.1*n,n,p.2))):KY P o (.buildSlice n len zero al):=by
 intro ι e a w blk mk he h
 simp only[aK]at h
 obtain⟨cs,hcs,h⟩:=aC.1 h
 simp only[aI]at h
 obtain⟨rfl,rfl⟩:=h
 obtain⟨g1,g2⟩:=Gp he hp
 obtain⟨z,hz1,hz2,hz3⟩:=Jc (P:=P) hz w
 have hzs:z.cells.size=n:=by have:=(hz2 ι).length;simp at this;omega
 have hbase:dQ ι (jo len zero) (madeCells (if len*n=0 then #[]else z.cells) (len*n)).toList:=by
  split
  ·rename_i h0
   have:len=0:=by
    rcases Nat.mul_eq_zero.1 h0 with h | h
    ·exact h
    ·omega
   subst this
   simp[jo,madeCells,dQ,Array.range_zero']
  ·have:=IV (hz2 ι) len
   rwa [hzs]at this
 obtain⟨cells',hf,hr,hc⟩:=Mx (ι:=ι) (λi=>some (i*n,n)) (parts.toList.map λp=>(p.1,a.eval p.2)) (al.map λp=>(p.1*n,n,p.2.ev e)) (madeCells (if len*n=0 then #[]else z.cells) (len*n)) _ cs hbase (λc hc=>hz3 c (Fb hc)) (by simpa using g1) (λi p q h1 h2=>by
  simp only[List.getElem?_map,aC]at h1 h2
  obtain⟨p',hp',rfl⟩:=h1
  obtain⟨q',hq',rfl⟩:=h2
  exact g2 i (p'.1*n,n,p'.2) q' (by simp[hp']) hq') hcs
 have hsz:cells'.size=len*n:=by
  have h1:=hr.length
  have h2:=hbase.length
  have h3:=Fe hcs
  simp only[Array.length_toList]at h1 h2
  rw[size_madeCells]at h2
  omega
 refine⟨.slice (some ⟨w.heap.size,0,none⟩) len len,w.alloc (.cells cells' elem),_,cells'.size, ?_,rfl,Made.alloc _ _,λid bI hle hid=>⟨BR.IU (hr.mono hle) hc, ?_⟩⟩
 ·simp only[execOp,ho]
  have hng:¬(len*n>2 ^ 24):=by omega
  by_cases h0:len*n=0
  ·rw[if_pos h0,h0,show madeCells (#[]:Array Value) 0=#[]from by simp[madeCells,Array.range_zero']]at hf
   simp[Instr.buildSlice,run_underlying ht,oh hn,hng,h0,newRow,hf,Array.range_zero']
  ·rw[if_neg h0]at hf
   simp only[madeCells]at hf
   simp[Instr.buildSlice,run_underlying ht,oh hn,hng,h0,newRow,hf,hz1]
 ·simp only[Mk.val,VR]
  exact⟨_,_,_,hid,rfl,.inr rfl,.inr rfl,.inr rfl,Nat.le_refl _,Nat.le_refl _,λ_=>rfl,by simp[hsz],hn0⟩
 where
 Fe:∀ {cs:List AV} {parts:List (Nat×Nat×AV)} {cs':List AV},nJ cs parts=some cs'→cs'.length=cs.length
 | cs,[],cs',h=>by simp only[nJ,av]at h;rw[h]
 | cs,(off,n,v)::r,cs',h=>by
  simp only[nJ]at h
  split at h
  case h_2=>cases h
  split at h
  case isFalse=>cases h
  rename_i l _ hc
  rw[Fe h]
  simp
  omega
theorem KY.makeSlice {P:Program} {o:Oper} {t elem:TypeId} {i:TypeInfo} {l c:Operand} {zero:List AV} {al ac:AX} (ho:o.op=.makeSlice t l c) (ht:P.underlying t=some (.slice elem)) (hi:P.info? elem=some i) (hn0:0<i.size)
  (hz:zeroOf P elem=some zero) (hzl:zero.length=i.size) (hl:cX l=some al) (hc:cX c=some ac):KY P o (.makeSlice i.size i.bytes zero al ac):=by
 intro ι e a w blk mk he h
 have h1:=dY hl he
 have h2:=dY hc he
 simp only[aK]at h
 unfold Az at h
 split at h
 case h_2=>cases h
 rename_i kl lv kc cv hc1 hc2
 rw[hc1]at h1
 rw[hc2]at h2
 simp only[VR]at h1 h2
 split at h
 case isFalse=>cases h
 rename_i hcond
 obtain⟨c1,c2,c3,c4⟩:=hcond
 simp only[av,aI]at h
 obtain⟨rfl,rfl⟩:=h
 have hz':=hz
 unfold zeroOf at hz'
 split at hz'
 case h_2=>cases hz'
 rename_i z hz2
 obtain⟨it,hit,hz3⟩:=aF.1 hz2
 rw[hi]at hit
 obtain rfl:=ak hit
 have hzv:=λι=>lG ι hz'
 have hzs:z.cells.size=i.size:=by have:=(hzv ι).1.length;simp at this;omega
 have hb:(i.bytes:Int)*cv≤281474976710656:=by
  have:cv=(cv.toNat:Int):=by omega
  rw[this,←Int.natCast_mul]
  omega
 have hrun:=run_make (P:=P) w t elem i z ht hi hz3 kl kc lv cv c1 c2 hb (by omega)
 refine⟨.slice (some ⟨w.heap.size,0,none⟩) lv.toNat cv.toNat,w.alloc (.cells (madeCells z.cells (cv.toNat*i.size)) elem),_,(madeCells z.cells (cv.toNat*i.size)).size, ?_,rfl,Made.alloc _ _,λid bI hle hid=>⟨BR.IU ?_ (λc hc=>(hzv ι).2 c (Fb hc)), ?_⟩⟩
 ·simp only[execOp,ho,h1,h2]
  simp[hrun]
 ·have:=IV (hzv bI).1 cv.toNat
  rwa [hzs]at this
 ·simp only[Mk.val,VR]
  exact⟨_,_,_,hid,rfl,.inr rfl,.inr rfl,.inr rfl,by omega,Nat.le_refl _,λ_=>rfl,by simp[size_madeCells],hn0⟩
theorem KY.l6{P:Program}{o:Oper}{s d elem:TypeId}{x:Operand}{ax:AX}(ho:o.op=.convert s d x)(hs:P.underlying s=some .string)(hd:P.underlying d=some (.slice elem))(he8:P.underlying elem=some (.int .u8))(hx:cX x=some ax):KY P o (.l6 ax):=by
 intro ι e a w blk mk he h
 have h1:=dY hx he
 simp only[aK]at h
 split at h
 case h_2=>cases h
 rename_i str hc
 rw[hc]at h1
 simp only[VR]at h1
 obtain⟨b,h1,rfl⟩:=h1
 split at h
 case isFalse=>cases h
 rename_i hlen
 simp only[av,aI]at h
 obtain⟨rfl,rfl⟩:=h
 have hbl:b.data.toList.length=b.size:=by simp
 have hcap:b.size≤grownCap w b.size 0 elem:=by
  simp only[grownCap,Question.cut]
  omega
 have hsz:(Lib.bytesCells w elem b).size=grownCap w b.size 0 elem:=by
  simp only[Lib.bytesCells,Array.size_append,Array.size_map,Array.size_replicate]
  have:b.data.size=b.size:=rfl
  omega
 refine⟨.slice (some ⟨w.heap.size,0,none⟩) b.size (grownCap w b.size 0 elem),Lib.bytesWorld w elem b,_,(Lib.bytesCells w elem b).size, ?_,rfl,⟨Lib.bytesWorld_size w elem b,Lib.bytesWorld_at_old w elem b,Lib.bytesWorld_at_new w elem b,rfl,rfl,rfl⟩,λid bI hle hid=>⟨BR.new ⟨b.size, ?_,by omega,λh=>by cases h⟩ ?_ ⟨.inr (Nat.le_refl _),λh=>by cases h⟩, ?_⟩⟩
 ·simp only[execOp,ho,h1]
  simp[Lib.run_convert_string_bytes w s d elem b hs hd he8]
 ·have e:(Lib.bytesCells w elem b).toList.take b.size=b.data.toList.map λc=>Value.int .u8 c.toNat:=by
   simp only[Lib.bytesCells,Array.toList_append,Array.toList_map]
   rw[List.take_append_of_le_length (by simp),List.take_of_length_le (by simp)]
  rw[e]
  refine dQ.r_ (by simp) λi x y hx hy=>?_
  simp only[List.getElem?_map,aC]at hx hy
  obtain⟨u,hu,rfl⟩:=hx
  obtain⟨u',hu',rfl⟩:=hy
  rw[hu]at hu'
  obtain rfl:=ak hu'
  simp[VR]
 ·intro c hc
  obtain⟨u,_,rfl⟩:=List.mem_map.1 hc
  rfl
 ·simp only[Mk.val,VR]
  exact⟨_,_,_,hid,by rw[hbl],.inr rfl,.inr rfl,.inr rfl,Nat.le_refl _,by omega,(λh=>by cases h),by simp[hsz],by omega⟩
theorem KY.makeMap{P:Program}{o:Oper}{t:TypeId}(ho:o.op=.makeMap t none):KY P o .makeMap:=by
 intro ι e a w blk mk he h
 simp only[aK,av,aI]at h
 obtain⟨rfl,rfl⟩:=h
 refine⟨.map (some w.heap.size),w.alloc (.map #[] 0),_,0, ?_,rfl,Made.alloc _ _,λid bI hle hid=>⟨⟨#[],0,rfl,by simp[yj]⟩, ?_⟩⟩
 ·simp only[execOp,ho]
  simp[Instr.makeMap]
 ·simp only[Mk.val,VR]
  exact⟨_,hid,rfl⟩
theorem D_{P:Program}{ι:fq}{M:Heap}{w:World}(r:R ι M w){b o n:Nat}{cs:List AV}(h:M.read b o n=some cs):∃l vs,ι b=some l∧(loadCells ⟨l.j,l.d+o,none⟩ n).run P w=.ok vs w∧dQ ι cs vs.toList∧∀a,a∈cs→a.eH=true:=by
 obtain⟨hlen,hc,l,vs,hl,hr,hcell⟩:=r.read h
 refine⟨l,vs.toArray,hl, ?_,by simpa using hr,hc⟩
 have hvl:vs.length=n:=by rw[←hr.length,hlen]
 rw[←hvl]
 exact run_loadCells_list w _ vs λj v hv=>by rw[l7];exact hcell j v hv
theorem Ho {P:Program} {ι:fq} {M:Heap} {w:World} (r:R ι M w) {t:TypeId} {g:Bool} {n:Nat} (hg:xC P t=some g) (hn:l9 P t=some n) {p v:AV} {pv:Value} (hp:VR ι p pv) (h:yI g n p M=some v) :
  ∃ad v',pv=.pointer (some ad)∧(loadVar t ad).run P w=.ok v' w∧VR ι v v':=by
 unfold yI at h
 split at h
 case h_2=>cases h
 rename_i b o
 simp only[VR]at hp
 obtain⟨l,hl,rfl⟩:=hp
 cases g with
 | true =>
  simp only[if_true]at h
  obtain⟨cs,hcs,rfl⟩:=aC.1 h
  obtain⟨l',vs,hl',hrun,hr,_⟩:=D_ (P:=P) r hcs
  rw[hl]at hl'
  obtain rfl:=ak hl'
  refine⟨_,.agg vs,rfl, ?_,by simp only[VR];exact⟨_,rfl,hr⟩⟩
  simp[loadVar,Di hg,oh hn,hrun]
 | false =>
  simp only[Bool.false_eq_true,if_false]at h
  split at h
  case h_2=>cases h
  rename_i c ro sl hb
  obtain⟨l',ob,hl',Es,cs,elem,fz,rfl,_,_,_,h5,_⟩:=r.blk b _ hb
  rw[hl]at hl'
  obtain rfl:=ak hl'
  obtain⟨v',hv',_,hr⟩:=h5 o v h
  refine⟨_,v',rfl, ?_,hr⟩
  simp[loadVar,Di hg,cell_of Es hv']
theorem R9.load{P:Program}{o:Oper}{t:TypeId}{g:Bool}{n:Nat}{x:Operand}{ax:AX}(ho:o.op=.load t x)(hg:xC P t=some g)(hn:l9 P t=some n)(hx:cX x=some ax):R9 P o (.load g n ax):=by
 intro ι M e a w v r he h
 simp only[aL]at h
 obtain⟨ad,v',h1,h2,h3⟩:=Ho (P:=P) r hg hn (dY hx he) h
 refine⟨v', ?_,h3⟩
 simp only[execOp,ho,h1]
 simp[Instr.loadAt,Instr.sureAddr,h2]
theorem Je{ι:fq}:∀ {cs:List AV} {vs:List Value} {bs:List UInt8},lF cs=some bs→dQ ι cs vs→∃ns:List Int,vs=ns.map (Value.int .u8)∧bs=ns.map λn=>UInt8.ofNat n.toNat
 | [],[],bs,h,_=>by
  simp only[lF,av]at h
  subst h
  exact⟨[],rfl,rfl⟩
 | [],_::_,_,_,h=>by simp[dQ]at h
 | a::cs,[],_,_,h=>by simp[dQ]at h
 | a::cs,v::vs,bs,h,hr=>by
  simp only[dQ]at hr
  cases a with
  | int k n =>
   cases k with
   | u8 =>
    simp only[lF]at h
    obtain⟨bs',hb,rfl⟩:=aC.1 h
    obtain⟨ns,rfl,rfl⟩:=Je hb hr.2
    have h1:=hr.1
    simp only[VR]at h1
    subst h1
    exact⟨n::ns,rfl,rfl⟩
   | _=>simp[lF]at h
  | _=>simp[lF]at h
theorem PG(ns:List Int):∀s:ByteArray,(ns.foldl (λr n=>r.push (UInt8.ofNat n.toNat)) s).data.toList=s.data.toList++ns.map λn=>UInt8.ofNat n.toNat:=by
 induction ns with
 | nil=>intro s;simp
 | cons n ns ih =>
  intro s
  rw[List.foldl_cons,ih]
  simp[ByteArray.push]
theorem R9.jF{P:Program}{o:Oper}{s d elem:TypeId}{x:Operand}{ax:AX}(ho:o.op=.convert s d x)(hs:P.underlying s=some (.slice elem))(he8:P.underlying elem=some (.int .u8))(hd:P.underlying d=some .string)(hx:cX x=some ax):R9 P o (.jF ax):=by
 intro ι M e a w v r he h
 have h1:=dY hx he
 simp only[aL]at h
 unfold o8 at h
 split at h
 case h_3=>cases h
 ·rename_i hc
  obtain rfl:=ak h
  rw[hc]at h1
  simp only[VR]at h1
  obtain⟨h1,_⟩:=h1
  refine⟨.string .empty, ?_, ?_⟩
  ·simp only[execOp,ho,h1]
   simp[run_convert_bytes_string w s d elem none 0 0 hs he8 hd,Conv.bytesToString]
  ·simp only[VR]
   exact⟨_,rfl,rfl⟩
 ·rename_i b off len cap ex hc
  rw[hc]at h1
  split at h
  ·rename_i h0
   subst h0
   obtain rfl:=ak h
   simp only[VR]at h1
   obtain⟨L,ad,cap',e1,e2,e3,e4,e5,e6,e7,e8,e9,e10⟩:=h1
   refine⟨.string .empty, ?_,by simp only[VR];exact⟨_,rfl,rfl⟩⟩
   simp only[execOp,ho,e2]
   simp[run_convert_bytes_string w s d elem (some ad) 0 cap' hs he8 hd,Conv.bytesToString,loadCells,loadCellsFrom]
  rename_i aaV
  obtain⟨bs,hbs,rfl⟩:=aC.1 h
  obtain⟨cs,hcs,hbs⟩:=aF.1 hbs
  simp only[VR]at h1
  obtain⟨L,ad,cap',e1,e2,e3,e4,e5,e6,e7,e8,e9,e10⟩:=h1
  obtain⟨l',vs,hl',hrun,hr,_⟩:=D_ (P:=P) r hcs
  rw[e1]at hl'
  obtain rfl:=ak hl'
  obtain⟨ns,hns,rfl⟩:=Je hbs hr
  have hvs:vs=(ns.map (Value.int .u8)).toArray:=by rw[←hns]
  subst hvs
  have hload:(loadCells ad len).run P w=.ok (ns.map (Value.int .u8)).toArray w:=by
   rcases Nat.eq_zero_or_pos cap' with h0 | hpos
   ·obtain rfl:len=0:=by omega
    have:ns=[]:=by
     have h1:=(r.read hcs).1
     have h2:=hr.length
     simp at h2
     cases ns with
     | nil=>rfl
     | cons _ _=>simp at h2;omega
    subst this
    simp[loadCells,loadCellsFrom]
   ·replace e3:=e3.resolve_left (by omega)
    replace e4:=e4.resolve_left (by omega)
    have h0:=e5.resolve_left (by omega)
    have:ad=⟨L.j,L.d+off,none⟩:=by
     obtain⟨q1,q2,q3⟩:=ad
     simp only at e3 e4 h0
     subst e3 e4 h0
     rfl
    rw[this]
    exact hrun
  refine⟨.string (ns.foldl (λr n=>r.push (UInt8.ofNat n.toNat)) ByteArray.empty), ?_, ?_⟩
  ·simp only[execOp,ho,e2]
   simp[run_convert_bytes_string w s d elem (some ad) len cap' hs he8 hd,run_bytesToString w ad len cap' ns hload]
  ·simp only[VR]
   refine⟨_,rfl, ?_⟩
   rw[PG]
   rfl
structure Turned(w w':World)(j:Nat)(ob:Obj):Prop where
 size:w'.heap.size=w.heap.size
 other:∀i,i≠j→w'.heap[i]?=w.heap[i]?
 new:w'.heap[j]?=some ob
 os:w'.os=w.os
 tape:w'.tape=w.tape
 output:w'.output=w.output
theorem iW{M:Heap}{b:Nat}{x:Option jN}(i:Nat):(M.put b x).get i=if i=b then x else M.get i:=rfl
theorem zU{M:Heap}{x:jN}(i:Nat):(M.push x).get i=if i=M.next then some x else M.get i:=rfl
def fq.set(ι:fq)(b:Nat)(l:Loc):fq:=λi=>if i=b then some l else ι i
theorem fq.zl{ι:fq}{b:Nat}(h:ι b=none)(l:Loc):ι.Le (ι.set b l):=λi x e=>by
 unfold fq.set
 split
 ·rename_i hi
  subst hi
  rw[h]at e
  cases e
 ·exact e
theorem R.lt{ι:fq}{M:Heap}{w:World}(r:R ι M w){b:Nat}{x:jN}(h:M.get b=some x):b<M.next:=by
 rcases Nat.lt_or_ge b M.next with h1 | h1
 ·exact h1
 ·rw[(r.fresh b h1).1]at h
  cases h
theorem R.lt'{ι:fq}{M:Heap}{w:World}(r:R ι M w){b:Nat}{l:Loc}(h:ι b=some l):b<M.next:=by
 rcases Nat.lt_or_ge b M.next with h1 | h1
 ·exact h1
 ·rw[(r.fresh b h1).2]at h
  cases h
theorem R.yL{ι:fq}{M:Heap}{w:World}(r:R ι M w){b:Nat}{x:jN}{l:Loc}(h:M.get b=some x)(hl:ι b=some l):l.j<w.heap.size:=by
 obtain⟨l',o,h1,h2,_⟩:=r.blk b x h
 rw[hl]at h1
 obtain rfl:=ak h1
 exact(Array.getElem?_eq_some_iff.1 h2).1
theorem Tr.update {ι:fq} {M:Heap} {w w':World} {b:Nat} {x x':jN} {l:Loc} {ob:Obj} (r:R ι M w) (hx:M.get b=some x) (ho:x.own=true) (ho':x'.own=true) (hl:ι b=some l) (ht:Turned w w' l.j ob) (hb:BR ι x' l ob) :
  Tr ι M w ι (M.put b (some x')) w' where
 rel:={
  blk:=λi y hy=>by
   rw[iW]at hy
   split at hy
   ·rename_i hi
    subst hi
    obtain rfl:=ak hy
    exact⟨l,ob,hl,ht.new,hb⟩
   ·rename_i hi
    obtain⟨l',o,h1,h2,h3⟩:=r.blk i y hy
    refine⟨l',o,h1, ?_,h3⟩
    rw[ht.other _ (r.apart i b y x l' l hy hx h1 hl hi (.inr ho))]
    exact h2
  apart:=λi i' y y' l1 l2 h1 h2 h3 h4 hne hor=>by
   rw[iW]at h1 h2
   split at h1
   ·rename_i hi
    subst hi
    rw[if_neg (Ne.symm hne)]at h2
    exact r.apart i i' x y' l1 l2 hx h2 h3 h4 hne (.inl ho)
   ·split at h2
    ·rename_i hi'
     subst hi'
     exact r.apart i i' y x l1 l2 h1 hx h3 h4 hne (.inr ho)
    ·exact r.apart i i' y y' l1 l2 h1 h2 h3 h4 hne hor
  fresh:=λi hi=>by
   have h1:i≠b:=by
    have:=r.lt hx
    simp only[Heap.put]at hi
    omega
   rw[iW,if_neg h1]
   exact r.fresh i hi }
 agree _ _:=rfl
 next:=Nat.le_refl _
 dead i hi hd:=by
  rw[iW]
  split
  ·rename_i h
   subst h
   rw[hx]at hd
   cases hd
  ·exact hd
 ro i y hy hro:=by
  rw[iW]at hy
  split at hy
  ·obtain rfl:=ak hy
   rw[ho']at hro
   cases hro
  ·exact hy
 owned i y l1 h1 h2 h3 h4:=by
  rw[iW]at h1
  split at h1
  ·rename_i h
   subst h
   exact⟨i,x,l1,hx,ho,h3,rfl⟩
  ·exact⟨i,y,l1,h1,h2,h3,rfl⟩
 keep j hj hn:=ht.other j λe=>hn b x l hx ho hl e.symm
 size:=by rw[ht.size];exact Nat.le_refl _
 os:=ht.os
 tape:=ht.tape
 output:=ht.output
theorem Tr.push {ι:fq} {M:Heap} {w w':World} {x:jN} {N:Nat} {ob:Obj} (r:R ι M w) (ho:x.own=true) (hm:Made w w' ob) (hb:BR (ι.set M.next ⟨w.heap.size,0,N⟩) x ⟨w.heap.size,0,N⟩ ob) :
  Tr ι M w (ι.set M.next ⟨w.heap.size,0,N⟩) (M.push x) w':=by
 have hnone:=(r.fresh M.next (Nat.le_refl _)).2
 have hle:=fq.zl hnone ⟨w.heap.size,0,N⟩
 have hset:∀i,i≠M.next→(ι.set M.next ⟨w.heap.size,0,N⟩) i=ι i:=λi hi=>by simp[fq.set,hi]
 have hself:(ι.set M.next ⟨w.heap.size,0,N⟩) M.next=some ⟨w.heap.size,0,N⟩:=by simp[fq.set]
 have hget:∀i y,M.get i=some y→i≠M.next:=λi y h=>by have:=r.lt h;omega
 constructor
 ·constructor
  ·intro i y hy
   rw[zU]at hy
   split at hy
   ·rename_i hi
    subst hi
    obtain rfl:=ak hy
    exact⟨_,ob,hself,hm.new,hb⟩
   ·obtain⟨l',o,h1,h2,h3⟩:=r.blk i y hy
    refine⟨l',o,hle _ _ h1, ?_,h3.mono hle⟩
    rw[hm.old _ (r.yL hy h1)]
    exact h2
  ·intro i i' y y' l1 l2 h1 h2 h3 h4 hne hor
   rw[zU]at h1 h2
   split at h1
   ·rename_i hi
    subst hi
    rw[if_neg (Ne.symm hne)]at h2
    rw[hself]at h3
    obtain rfl:=ak h3
    rw[hset i' (Ne.symm hne)]at h4
    have:=r.yL h2 h4
    simp only
    omega
   ·rename_i hi
    rw[hset i hi]at h3
    split at h2
    ·rename_i hi'
     subst hi'
     rw[hself]at h4
     obtain rfl:=ak h4
     have:=r.yL h1 h3
     simp only
     omega
    ·rename_i hi'
     rw[hset i' hi']at h4
     exact r.apart i i' y y' l1 l2 h1 h2 h3 h4 hne hor
  ·intro i hi
   simp only[Heap.push]at hi
   have h1:i≠M.next:=by omega
   rw[zU,if_neg h1,hset i h1]
   exact r.fresh i (by omega)
 ·intro i hi
  exact hset i (by omega)
 ·simp[Heap.push]
 ·intro i hi hd
  rw[zU,if_neg (by omega)]
  exact hd
 ·intro i y hy hro
  rw[zU]at hy
  split at hy
  ·obtain rfl:=ak hy
   rw[ho]at hro
   cases hro
  ·exact hy
 ·intro i y l1 h1 h2 h3 h4
  rw[zU]at h1
  split at h1
  ·rename_i hi
   subst hi
   rw[hself]at h3
   obtain rfl:=ak h3
   simp at h4
  ·rename_i hi
   rw[hset i hi]at h3
   exact⟨i,y,l1,h1,h2,h3,rfl⟩
 ·intro j hj hn
  exact hm.old j hj
 ·rw[hm.size];omega
 ·exact hm.os
 ·exact hm.tape
 ·exact hm.output
theorem Tr.kill{ι:fq}{M:Heap}{w:World}(r:R ι M w)(b:Nat)(hb:b<M.next):Tr ι M w ι (M.put b none) w where
 rel:={
  blk:=λi y hy=>by
   rw[iW]at hy
   split at hy
   ·cases hy
   ·exact r.blk i y hy
  apart:=λi i' y y' l1 l2 h1 h2 h3 h4 hne hor=>by
   rw[iW]at h1 h2
   split at h1
   ·cases h1
   ·split at h2
    ·cases h2
    ·exact r.apart i i' y y' l1 l2 h1 h2 h3 h4 hne hor
  fresh:=λi hi=>by
   rw[iW]
   split
   ·exact⟨rfl,(r.fresh i hi).2⟩
   ·exact r.fresh i hi }
 agree _ _:=rfl
 next:=Nat.le_refl _
 dead i hi hd:=by
  rw[iW]
  split
  ·rfl
  ·exact hd
 ro i y hy _:=by
  rw[iW]at hy
  split at hy
  ·cases hy
  ·exact hy
 owned i y l1 h1 h2 h3 _:=by
  rw[iW]at h1
  split at h1
  ·cases h1
  ·exact⟨i,y,l1,h1,h2,h3,rfl⟩
 keep _ _ _:=rfl
 size:=Nat.le_refl _
 os:=rfl
 tape:=rfl
 output:=rfl
theorem Tr.rename {ι:fq} {M:Heap} {w w':World} {b:Nat} {x x':jN} {l l':Loc} {ob:Obj} (r:R ι M w) (hx:M.get b=some x) (ho:x.own=true) (ho':x'.own=true) (hl:ι b=some l) (hj:l'.j=l.j) (ht:Turned w w' l.j ob)
  (hb:BR (ι.set M.next l') x' l' ob):Tr ι M w (ι.set M.next l') ((M.put b none).push x') w':=by
 have hnone:=(r.fresh M.next (Nat.le_refl _)).2
 have hle:=fq.zl hnone l'
 have hset:∀i,i≠M.next→(ι.set M.next l') i=ι i:=λi hi=>by simp[fq.set,hi]
 have hself:(ι.set M.next l') M.next=some l':=by simp[fq.set]
 have hg:∀i,((M.put b none).push x').get i=if i=M.next then some x' else if i=b then none else M.get i:=λi=>rfl
 constructor
 ·constructor
  ·intro i y hy
   rw[hg]at hy
   split at hy
   ·rename_i hi
    subst hi
    obtain rfl:=ak hy
    exact⟨_,ob,hself,by rw[hj];exact ht.new,hb⟩
   ·split at hy
    ·cases hy
    rename_i hib
    obtain⟨l1,o,h1,h2,h3⟩:=r.blk i y hy
    refine⟨l1,o,hle _ _ h1, ?_,h3.mono hle⟩
    rw[ht.other _ (r.apart i b y x l1 l hy hx h1 hl hib (.inr ho))]
    exact h2
  ·intro i i' y y' l1 l2 h1 h2 h3 h4 hne hor
   rw[hg]at h1 h2
   split at h1
   ·rename_i hi
    subst hi
    rw[if_neg (Ne.symm hne)]at h2
    split at h2
    ·cases h2
    rename_i hib
    rw[hself]at h3
    obtain rfl:=ak h3
    rw[hset i' (Ne.symm hne)]at h4
    rw[hj]
    exact r.apart b i' x y' l l2 hx h2 hl h4 (λe=>hib e.symm) (.inl ho)
   ·rename_i hi
    split at h1
    ·cases h1
    rename_i hib
    rw[hset i hi]at h3
    split at h2
    ·rename_i hi'
     subst hi'
     rw[hself]at h4
     obtain rfl:=ak h4
     rw[hj]
     exact r.apart i b y x l1 l h1 hx h3 hl hib (.inr ho)
    ·split at h2
     ·cases h2
     rename_i hi' _
     rw[hset i' hi']at h4
     exact r.apart i i' y y' l1 l2 h1 h2 h3 h4 hne hor
  ·intro i hi
   have hi':M.next+1≤i:=hi
   have h1:i≠M.next:=by omega
   have h2:i≠b:=by have:=r.lt hx;omega
   rw[hg,if_neg h1,if_neg h2,hset i h1]
   exact r.fresh i (by omega)
 ·intro i hi
  exact hset i (by omega)
 ·show M.next≤M.next+1
  omega
 ·intro i hi hd
  rw[hg,if_neg (by omega)]
  split
  ·rfl
  ·exact hd
 ·intro i y hy hro
  rw[hg]at hy
  split at hy
  ·obtain rfl:=ak hy
   rw[ho']at hro
   cases hro
  ·split at hy
   ·cases hy
   ·exact hy
 ·intro i y l1 h1 h2 h3 h4
  rw[hg]at h1
  split at h1
  ·rename_i hi
   subst hi
   rw[hself]at h3
   obtain rfl:=ak h3
   exact⟨b,x,l,hx,ho,hl,hj.symm⟩
  ·rename_i hi
   split at h1
   ·cases h1
   ·rw[hset i hi]at h3
    exact⟨i,y,l1,h1,h2,h3,rfl⟩
 ·intro j hj hn
  exact ht.other j λe=>hn b x l hx ho hl e.symm
 ·rw[ht.size];exact Nat.le_refl _
 ·exact ht.os
 ·exact ht.tape
 ·exact ht.output
theorem Jf{w:World}{j o:Nat}{cur:Array Value}{t:TypeId}{fz:Nat×Nat}(v:Value)(h:w.heap[j]?=some (.cells cur t fz)):Turned w (w.setCell ⟨j,o,none⟩ v) j (.cells (cur.setIfInBounds o v) t fz):=by
 refine⟨by simp,λi hi=>by simp[World.setCell,Array.getElem?_modify,Ne.symm hi], ?_,rfl,rfl,rfl⟩
 have hj:=(Array.getElem?_eq_some_iff.1 h).1
 have he:=(Array.getElem?_eq_some_iff.1 h).2
 simp[World.setCell,Array.getElem?_modify,h]
theorem Turned.trans{w w1 w2:World}{j:Nat}{o1 o2:Obj}(h:Turned w w1 j o1)(k:Turned w1 w2 j o2):Turned w w2 j o2 :=
 ⟨k.size.trans h.size,λi hi=>(k.other i hi).trans (h.other i hi),k.new,k.os.trans h.os,k.tape.trans h.tape,k.output.trans h.output⟩
theorem B_ {P:Program} {j o:Nat} {t:TypeId} {fz:Nat×Nat}:∀(vs:List Value) (i:Nat) (cur:Array Value) (w:World),w.heap[j]?=some (.cells cur t fz)→o+i+vs.length≤cur.size→(∀v,v∈vs→v.oneCell'=true) →
  (∀k,o+i≤k→k<o+i+vs.length→¬(fz.1≤k∧k<fz.2))→∃w' cur',(storeCells ⟨j,o,none⟩ vs i).run P w=.ok () w'∧(vs=[]→w'=w)∧(vs≠[]→Turned w w' j (.cells cur' t fz))∧cur'.toList=cur.toList.take (o+i)++vs++cur.toList.drop (o+i+vs.length)
 | [],i,cur,w,h,hs,_,_=>⟨w,cur,by simp[storeCells],λ_=>rfl,λh=>absurd rfl h,by simp⟩
 | v::vs,i,cur,w,h,hs,hv,hf=>by
  simp only[bZ]at hs hf
  have hcell:w.cell? ⟨j,o+i,none⟩=some cur[o+i]:=cell_of h (by simp)
  have hfro:w.frozen? ⟨j,o+i,none⟩=false:=by
   have:=hf (o+i) (Nat.le_refl _) (by omega)
   simp[World.frozen?,h]
   omega
  have hstep:(store (⟨j,o+i,none⟩:Addr) v .plain).run P w=.ok () (w.setCell ⟨j,o+i,none⟩ v):=by
   rw[run_store P w _ v _ (hv v (by simp))]
   simp[hcell,hfro]
  have ht:=Jf (o:=o+i) v h
  obtain⟨w',cur',h1,h2,h3,h4⟩:=B_ (P:=P) (o:=o) vs (i+1) _ _ ht.new (by simp;omega) (λu hu=>hv u (by simp[hu])) (λk hk hk'=>hf k (by omega) (by omega))
  refine⟨w',cur', ?_,λh=>by simp at h,λ_=>?_, ?_⟩
  ·simp only[storeCells,l7,Sem.run_bind,hstep,Result.andThen_ok]
   exact h1
  ·cases vs with
   | nil =>
    obtain rfl:=h2 rfl
    have:cur'=cur.setIfInBounds (o+i) v:=by
     apply Array.ext'
     rw[h4]
     simp
    rw[this]
    exact ht
   | cons u us=>exact ht.trans (h3 (by simp))
  ·rw[h4]
   simp only[Array.toList_setIfInBounds,bZ]
   have e1:(cur.toList.set (o+i) v).take (o+(i+1))=cur.toList.take (o+i)++[v]:=by
    rw[show o+(i+1)=o+i+1 from by omega,List.take_add_one]
    simp[List.take_set_of_le,show o+i<cur.size from by omega]
   have e2:(cur.toList.set (o+i) v).drop (o+(i+1)+vs.length)=cur.toList.drop (o+i+(vs.length+1)):=by
    rw[List.drop_set_of_lt (by omega)]
    congr 1;omega
   rw[e1,e2]
   simp
theorem Gq {P:Program} {ι:fq} {M:Heap} {w:World} (r:R ι M w) {b:Nat} {c:List AV} {sl:Bool} (hb:M.get b=some (.cells c false sl)) {l:Loc} (hl:ι b=some l) {o:Nat} {vs:List Value} (hne:vs≠[]) (ho:o+vs.length≤l.N) (hv:∀v,v∈vs→v.oneCell'=true) :
  ∃w' cs cs' elem fz,(storeCells ⟨l.j,l.d+o,none⟩ vs).run P w=.ok () w'∧w.heap[l.j]?=some (.cells cs elem fz)∧Turned w w' l.j (.cells cs' elem fz)∧cs'.toList=cs.toList.take (l.d+o)++vs++cs.toList.drop (l.d+o+vs.length)∧BR ι (.cells c false sl) l (.cells cs elem fz):=by
 obtain⟨l',ob,hl',Es,hbr⟩:=r.blk b _ hb
 rw[hl]at hl'
 obtain rfl:=ak hl'
 have abQ:=hbr
 obtain⟨cs,elem,fz,rfl,h2,h3,h4,h5,h6⟩:=hbr
 obtain⟨w',cs',g1,_,g3,g4⟩:=B_ (P:=P) (o:=l.d+o) vs 0 cs w Es (by omega) hv (λk hk hk'=>by have:=(h6 rfl).1;omega)
 exact⟨w',cs,cs',elem,fz,g1,Es,g3 hne,by simpa using g4,abQ⟩
theorem dQ.oneCell{ι:fq}{cs:List AV}{vs:List Value}(h:dQ ι cs vs)(hc:∀c,c∈cs→c.eH=true):∀v,v∈vs→v.oneCell'=true:=λv hv=>by
 obtain⟨i,hi⟩:=List.mem_iff_getElem?.1 hv
 have hlt:i<cs.length:=by rw[h.length];exact(aM.1 hi).1
 obtain⟨v',hv',hr⟩:=h.get i cs[i] (by simp)
 rw[hi]at hv'
 obtain rfl:=ak hv'
 exact BU (hc _ (List.getElem_mem hlt)) hr
theorem BR.seg {ι:fq} {c c' new:List AV} {sl sl':Bool} {l:Loc} {cs cs':Array Value} {elem:TypeId} {fz:Nat×Nat} {o:Nat} {vs:List Value} (hss:sl'=false→sl=false) (h:BR ι (.cells c false sl) l (.cells cs elem fz)) (hnew:dQ ι new vs) (hc:∀a,a∈new→a.eH=true) (ho:o+vs.length≤l.N)
  (hcs:cs'.toList=cs.toList.take (l.d+o)++vs++cs.toList.drop (l.d+o+vs.length)) (hlen:c'.length≤l.N) (hsl:sl'=false→c'.length=l.N)
  (hc':∀i a,c'[i]?=some a→(o≤i∧i<o+new.length∧new[i-o]?=some a)∨((i<o∨o+new.length≤i)∧c[i]?=some a)):BR ι (.cells c' false sl') l (.cells cs' elem fz):=by
 obtain⟨cs0,NU,fz0,e,h2,h3,h4,h5,h6⟩:=h
 obtain⟨rfl,rfl,rfl⟩:cs0=cs∧NU=elem∧fz0=fz:=by injection e with e1 e2 e3;exact⟨e1.symm,e2.symm,e3.symm⟩
 have hvl:=hnew.length
 have hsz:cs'.size=cs0.size:=by
  have:=congrArg List.length hcs
  simp at this
  omega
 refine⟨cs',NU,fz0,rfl,by omega,hlen,hsl,λi a hi=>?_,λhr=>by rw[hsz];exact⟨(h6 hr).1,λhs=>(h6 hr).2 (hss hs)⟩⟩
 rcases hc' i a hi with⟨q1,q2,q3⟩ |⟨q1,q2⟩
 ·obtain⟨v,hv,hr⟩:=hnew.get _ a q3
  refine⟨v, ?_,hc a (List.mem_of_getElem? q3),hr⟩
  rw[←Array.getElem?_toList,hcs,bE,List.getElem?_append_right (by simp;omega),List.getElem?_append_left (by simp;omega)]
  have:l.d+i-(cs0.toList.take (l.d+o)).length=i-o:=by simp;omega
  rw[this]
  exact hv
 ·obtain⟨v,hv,hcell,hr⟩:=h5 i a q2
  refine⟨v, ?_,hcell,hr⟩
  rw[←Array.getElem?_toList,hcs,bE]
  rw[←Array.getElem?_toList]at hv
  rcases q1 with q1 | q1
  ·rw[List.getElem?_append_left (by simp;have:=(aM.1 hv).1;simp at this;omega),List.getElem?_take,if_pos (by omega)]
   exact hv
  ·rw[List.getElem?_append_right (by simp;omega),List.getElem?_append_right (by simp;omega),List.getElem?_drop]
   have:l.d+o+vs.length+(l.d+i-(cs0.toList.take (l.d+o)).length-vs.length)=l.d+i:=by simp;omega
   rw[this]
   exact hv
theorem Gs {P:Program} {ι:fq} {M M':Heap} {w:World} (r:R ι M w) {b o:Nat} {new:List AV} (h:M.write b o new=some M') {vs:List Value} (hnew:dQ ι new vs) (hc:∀a,a∈new→a.eH=true) :
  ∃l w',ι b=some l∧(storeCells ⟨l.j,l.d+o,none⟩ vs).run P w=.ok () w'∧Tr ι M w ι M' w':=by
 unfold Heap.write at h
 split at h
 case h_2=>cases h
 rename_i c sl hb
 split at h
 case isFalse=>cases h
 rename_i hle
 obtain rfl:=ak h
 obtain⟨l,ob,hl,Es,hbr⟩:=r.blk b _ hb
 have hN:c.length≤l.N:=by obtain⟨_,_,_,_,_,h3,_⟩:=hbr;exact h3
 have hvl:=hnew.length
 refine⟨l, ?_⟩
 cases hv:vs with
 | nil =>
  subst hv
  have hn0:new=[]:=by cases new with | nil=>rfl | cons _ _=>simp at hvl
  subst hn0
  refine⟨w,hl,by simp[storeCells], ?_⟩
  have e:(M.put b (some (.cells (c.take o++[]++c.drop (o+([]:List AV).length)) false sl)))=M:=by
   unfold Heap.put
   cases M with
   | mk g n =>
    congr
    funext i
    split
    ·rename_i hi
     subst hi
     simp only at hb
     rw[hb]
     simp
    ·rfl
  rw[e]
  exact Tr.refl r
 | cons u us =>
  rw[←hv]
  have hne:vs≠[]:=by rw[hv];simp
  obtain⟨w',cs,cs',elem,fz,g1,g2,g3,g4,g5⟩:=Gq (P:=P) r hb hl (o:=o) hne (by omega) (hnew.oneCell hc)
  refine⟨w',hl,g1,Tr.update r hb rfl rfl hl g3 (BR.seg id g5 hnew hc (by omega) g4 (by simp;omega) (λhs=>?_) ?_)⟩
  ·obtain⟨_,_,_,_,_,_,h4,_⟩:=hbr
   have:=h4 hs
   simp
   omega
  ·intro i a hi
   rw[bE,List.getElem?_append]at hi
   split at hi
   ·rename_i h1
    simp at h1
    rw[List.getElem?_take,if_pos (by omega)]at hi
    exact .inr ⟨.inl (by omega),hi⟩
   ·rename_i h1
    simp at h1
    have htl:(c.take o).length=o:=by simp;omega
    rw[htl,List.getElem?_append]at hi
    split at hi
    ·rename_i h2
     exact .inl ⟨by omega,by omega,hi⟩
    ·rename_i h2
     rw[List.getElem?_drop]at hi
     refine .inr ⟨.inr (by omega), ?_⟩
     rw[←hi]
     congr 1
     omega
def Sound(P:Program)(f:FuncId)(g:List AV→Heap→Option (AV×Heap)):Prop :=
 ∀(args:List AV) (M:Heap) (v:AV) (M':Heap),g args M=some (v,M') →
  ∀(ι:fq) (w:World) (vs:Array Value),R ι M w→dQ ι args vs.toList →
   Calls P f vs w λe w'=>∃bI v',e=.returned v'∧VR bI v v'∧Tr ι M w bI M' w'
def Et(P:Program)(f:FuncId):Prop:=∃fn c,P.funcs[f]?=some fn∧fn.body=some c∧(fn.name=="runtime.NumGoroutine")=false
def Hq(P:Program)(f:FuncId)(g:List AV→Heap→Option (AV×Heap)):Prop :=
 ∀(args:List AV) (M:Heap) (v:AV) (M':Heap),g args M=some (v,M')→M'=M∧∀(ι:fq) (w:World) (vs:Array Value),R ι M w→dQ ι args vs.toList→∃v',(callFunc f vs).run P w=.ok (.value v') w∧VR ι v v'
def sj(P:Program)(C:bH):Prop:=∀f,((∀args M r,C f args M=some r→Et P f)∧Sound P f (C f))∨Hq P f (C f)
def uj(P:Program)(C:bH)(o:Oper)(n:vO):Prop :=
 ∀(ι:fq) (M:Heap) (e:Env) (a:Act) (w:World) (v:AV) (M':Heap) (next:Act→World→Prop) (Q:Exit→Act→World→Prop),R ι M w→dQ ι e a.tmps.toList→aN C n e M=some (v,M') →
  (∀bI v' w',Tr ι M w bI M' w'→VR bI v v'→next (a.put o.dst v') w')→o.wp P a w next Q
theorem uj.of_run{P:Program}{o:Oper}{a:Act}{w w':World}{next:Act→World→Prop}{Q:Exit→Act→World→Prop}{v:Value}(h:(execOp a.eval o).run P w=.ok (.value v) w')(hn:next (a.put o.dst v) w'):o.wp P a w next Q:=by
 unfold Oper.wp
 rw[h]
 exact hn
theorem uj.MB{P:Program}{o:Oper}{a:Act}{w w':World}{next:Act→World→Prop}{Q:Exit→Act→World→Prop}(h:(execOp a.eval o).run P w=.ok .skip w')(hn:next (a.put o.dst undef) w'):o.wp P a w next Q:=by
 unfold Oper.wp
 rw[h]
 exact hn
theorem VR.unit(ι:fq):VR ι (.tuple []) Go.undef:=by
 simp only[VR,Go.undef]
 exact⟨#[],rfl,by simp[dQ]⟩
theorem uj.fail{P:Program}{C:bH}{o:Oper}:uj P C o .fail:=by
 intro ι M e a w v M' next Q r he h
 simp[aN]at h
theorem uj.store{P:Program}{C:bH}{o:Oper}{t:TypeId}{n:Nat}{x y:Operand}{ax ay:AX}(ho:o.op=.store t x y)(hn:l9 P t=some n)(hx:cX x=some ax)(hy:cX y=some ay):uj P C o (.store n ax ay):=by
 intro ι M e a w v M' next Q r he h hnext
 have h1:=dY hx he
 have h2:=dY hy he
 simp only[aN]at h
 unfold I9 at h
 split at h
 case h_2=>cases h
 rename_i b off cs hc1 hc2
 split at h
 case isFalse=>cases h
 rename_i hlen
 obtain⟨M1,hM,h⟩:=aC.1 h
 simp only[aI]at h
 obtain⟨rfl,rfl⟩:=h
 rw[hc1]at h1
 simp only[VR]at h1
 obtain⟨L,hL,h1⟩:=h1
 obtain⟨g1,g2⟩:=Gm hc2 h2
 obtain⟨l,w',hl,hrun,htr⟩:=Gs (P:=P) r hM g1 g2
 rw[hL]at hl
 obtain rfl:=ak hl
 have hsz:(a.eval y).cells.size=n:=by have:=g1.length;simp at this;omega
 refine uj.MB (w':=w') ?_ (hnext ι undef w' htr (VR.unit _))
 simp only[execOp,ho,h1]
 simp[Instr.storeAt,Instr.sureAddr,storeVar,oh hn,hsz,hrun]
theorem uj.call{P:Program}{C:bH}(hC:sj P C){o:Oper}{f:Operand}{args:Array Operand}{ts:Array TypeId}{af:AX}{al:List AX}(ho:o.op=.call { callee:=.value f,args:=args,argTypes:=ts })(hf:cX f=some af)(hx:TM args.toList=some al):uj P C o (.call af al):=by
 intro ι M e a w v M' next Q r he h hnext
 have h1:=dY hf he
 have h2:=Mv he hx
 simp only[aN]at h
 unfold NK at h
 split at h
 case h_2=>cases h
 rename_i g caps hc
 rw[hc]at h1
 simp only[VR]at h1
 obtain⟨cs,h1,h3⟩:=h1
 rcases hC g with⟨hB,hS⟩ | hE
 case inr =>
  obtain⟨rfl,q⟩:=hE _ _ _ _ h
  obtain⟨v',q1,q2⟩:=q ι w (args.map a.eval++cs) r (by simpa using h2.append h3)
  refine uj.of_run (w':=w) (v:=v') ?_ (hnext ι v' w (Tr.refl r) q2)
  simp only[execOp,ho]
  simp[resolve,Deferred.ofValue,h1,invoke,q1]
 obtain⟨fn,c,hfn,hbody,hname⟩:=hB _ _ _ h
 have hs:=hS _ _ _ _ h ι w (args.map a.eval++cs) r (by simpa using h2.append h3)
 have hrun:(execOp a.eval o).run P w=.ok (.enter g (args.map a.eval++cs)) w:=by
  simp only[execOp,ho]
  have hname':¬(fn.name="runtime.NumGoroutine"):=by simpa using hname
  simp[resolve,Deferred.ofValue,h1,invoke,callFunc,hfn,hbody,hname']
 unfold Oper.wp
 rw[hrun]
 rw[Oper.upon_enter]
 refine hs.mono ?_
 rintro e' w' ⟨bI,v',rfl,hv',htr⟩
 exact hnext bI v' w' htr hv'
theorem wQ(z:Array Value)(n:Nat):Builtin.zeroCells z n=madeCells z (n*z.size):=rfl
theorem Il {P:Program} (w:World) (t u ty e:TypeId) (i:TypeInfo) (z:Value) (ht:P.underlying t=some (.slice e)) (hu:P.underlying u=some .string∨∃e',P.underlying u=some (.slice e')) (hi:P.info? e=some i) (hz:i.zero=some z)
  (base:Option Addr) (sLen sCap n:Nat) (x:Value) (olds news:Array Value) (hold:∀w',w'.heap=w.heap→(Builtin.firstCells i.size sLen (.slice base sLen sCap)).run P w'=.ok olds w')
  (hlen:∀w',(Builtin.lenOf x).run P w'=.ok n w') (hnew:∀w',w'.heap=w.heap→(Builtin.firstCells i.size n x).run P w'=.ok news w')
  (hg:sCap<sLen+n) (h63:((sLen+n:Nat):Int)≤9223372036854775807) (hfit:Builtin.nextslicecap (sLen+n) sCap*i.bytes≤281474976710656) :
  (Builtin.append_ #[t,u] ty #[.slice base sLen sCap,x]).run P w =
   .ok (.slice (some ⟨w.heap.size,0,none⟩) (sLen+n) (grownCap w (sLen+n) sCap e))
    (w.drew.alloc (.cells (olds++news++madeCells z.cells ((grownCap w (sLen+n) sCap e-(sLen+n))*z.cells.size)) e)):=by
 have hn:¬(sLen+n≤sCap):=by omega
 have h63':¬(9223372036854775807<((sLen:Int)+(n:Int))):=by omega
 have h48':¬(281474976710656<Builtin.nextslicecap (sLen+n) sCap*i.bytes):=by omega
 have h1:=hold w.drew rfl
 have h2:=hnew w.drew rfl
 rcases hu with hu |⟨e',hu⟩ <;>
  simp[Builtin.append_,run_underlying ht,run_underlying hu,sizeOf,typeInfo,zeroValue,hi,hz,hlen,hn,h63',h48',Question.forced,h1,h2,newRow,grownCap,wQ]
theorem BF {P:Program} (w:World) (t u ty e:TypeId) (i:TypeInfo) (z:Value) (ht:P.underlying t=some (.slice e)) (hu:∃k,P.underlying u=some (.int k)) (hi:P.info? e=some i) (hz:i.zero=some z)
  (base:Option Addr) (sLen sCap n:Nat) (kk:IntKind) (olds:Array Value) (hold:∀w',w'.heap=w.heap→(Builtin.firstCells i.size sLen (.slice base sLen sCap)).run P w'=.ok olds w') (hsz:0<i.size) (hzs:z.cells.size=i.size)
  (hn0:0<n) (hg:sCap<sLen+n) (h63:((sLen+n:Nat):Int)≤9223372036854775807) (hb:n*i.bytes≤281474976710656) (hfit:Builtin.nextslicecap (sLen+n) sCap*i.bytes≤281474976710656) :
  (Builtin.append_ #[t,u] ty #[.slice base sLen sCap,.int kk n]).run P w =
   .ok (.slice (some ⟨w.heap.size,0,none⟩) (sLen+n) (grownCap w (sLen+n) sCap e))
    (w.drew.alloc (.cells (olds++madeCells z.cells (n*z.cells.size)++madeCells z.cells ((grownCap w (sLen+n) sCap e-(sLen+n))*z.cells.size)) e)):=by
 have hn:¬(sLen+n≤sCap):=by omega
 have h63':¬(9223372036854775807<((sLen:Int)+(n:Int))):=by omega
 have h48':¬(281474976710656<Builtin.nextslicecap (sLen+n) sCap*i.bytes):=by omega
 obtain⟨k,hu⟩:=hu
 have h1:=hold w.drew rfl
 have hw:IntKind.i64.wrap (n:Int)=n:=by rw[IntKind.wrap_i64];omega
 have hb':¬((281474976710656:Int)<(n:Int)*(i.bytes:Int)):=by
  rw[←Int.natCast_mul]
  omega
 have h0:¬(n*i.size=0):=by
  intro h
  rcases Nat.mul_eq_zero.1 h with h | h<;>omega
 have hneg:¬((n:Int)<0):=by omega
 simp[Builtin.append_,run_underlying ht,run_underlying hu,sizeOf,typeInfo,zeroValue,hi,hz,hn,h63',h48',Question.forced,h1,newRow,grownCap,wQ,asInt,asIntOf,hw,hb',h0,hneg]
theorem run_append_room {P:Program} (w:World) (t u ty e:TypeId) (i:TypeInfo) (ht:P.underlying t=some (.slice e)) (hu:P.underlying u=some .string∨∃e',P.underlying u=some (.slice e')) (hi:P.info? e=some i)
  (ad:Addr) (sLen sCap n:Nat) (x:Value) (news:Array Value) (w':World)
  (hlen:∀w',(Builtin.lenOf x).run P w'=.ok n w') (hnew:(Builtin.firstCells i.size n x).run P w=.ok news w)
  (hg:sLen+n≤sCap) (hst:(storeCells (ad.add (sLen*i.size)) news.toList).run P w=.ok () w') :
  (Builtin.append_ #[t,u] ty #[.slice (some ad) sLen sCap,x]).run P w=.ok (.slice (some ad) (sLen+n) sCap) w':=by
 rcases hu with hu |⟨e',hu⟩ <;>
  simp[Builtin.append_,run_underlying ht,run_underlying hu,sizeOf,typeInfo,hi,hlen,hg,hnew,hst]
theorem BG {P:Program} (w:World) (t u ty e:TypeId) (i:TypeInfo) (z:Value) (ht:P.underlying t=some (.slice e)) (hu:∃k,P.underlying u=some (.int k)) (hi:P.info? e=some i) (hz:i.zero=some z)
  (ad:Addr) (sLen sCap n:Nat) (kk:IntKind) (w':World) (hsz:0<i.size) (hn63:(n:Int)≤9223372036854775807) (hb:n*i.bytes≤281474976710656)
  (hn0:0<n) (hg:sLen+n≤sCap) (hst:(storeCells (ad.add (sLen*i.size)) (madeCells z.cells (n*z.cells.size)).toList).run P w=.ok () w') :
  (Builtin.append_ #[t,u] ty #[.slice (some ad) sLen sCap,.int kk n]).run P w=.ok (.slice (some ad) (sLen+n) sCap) w':=by
 obtain⟨k,hu⟩:=hu
 have hw:IntKind.i64.wrap (n:Int)=n:=by rw[IntKind.wrap_i64];omega
 have hb':¬((281474976710656:Int)<(n:Int)*(i.bytes:Int)):=by
  rw[←Int.natCast_mul]
  omega
 have h0:¬(n*i.size=0):=by
  intro h
  rcases Nat.mul_eq_zero.1 h with h | h<;>omega
 have hneg:¬((n:Int)<0):=by omega
 simp[Builtin.append_,run_underlying ht,run_underlying hu,sizeOf,typeInfo,zeroValue,hi,hz,hg,asInt,asIntOf,hw,hb',h0,wQ,hst,hneg]
theorem run_append_nothing {P:Program} (w:World) (t u ty e:TypeId) (i:TypeInfo) (ht:P.underlying t=some (.slice e)) (hu:P.underlying u=some .string∨∃e',P.underlying u=some (.slice e')) (hi:P.info? e=some i)
  (base:Option Addr) (sLen sCap:Nat) (x:Value) (hlen:∀w',(Builtin.lenOf x).run P w'=.ok 0 w') (hnew:(Builtin.firstCells i.size 0 x).run P w=.ok #[] w) (hg:sLen≤sCap) :
  (Builtin.append_ #[t,u] ty #[.slice base sLen sCap,x]).run P w=.ok (.slice base sLen sCap) w:=by
 rcases hu with hu |⟨e',hu⟩<;>cases base <;>
  simp[Builtin.append_,run_underlying ht,run_underlying hu,sizeOf,typeInfo,hi,hlen,hg,hnew,storeCells]
theorem KZ {P:Program} {ι:fq} {M:Heap} {w:World} (r:R ι M w) {x:AV} {v:Value} (hx:VR ι x v) {sz n:Nat} {new:List AV} (hs:dM x sz=true) (h:kC x M=some (n,new)) :
  (∀w',(Builtin.lenOf v).run P w'=.ok n w')∧∃news:Array Value,(∀w',w'.heap=w.heap→(Builtin.firstCells sz n v).run P w'=.ok news w')∧dQ ι new news.toList∧(∀a,a∈new→a.eH=true)∧new.length=n*sz:=by
 unfold kC at h
 split at h
 ·rename_i sz' len cap ex
  simp only[av,aI]at h
  obtain⟨rfl,rfl⟩:=h
  simp only[VR]at hx
  obtain⟨rfl,rfl,_⟩:=hx
  refine⟨λw'=>by simp[Builtin.lenOf],#[],λw' _=>by simp[Builtin.firstCells],by simp[dQ],by simp,by simp⟩
 ·rename_i b o sz' len cap ex
  split at h
  ·rename_i h0
   subst h0
   simp only[av,aI]at h
   obtain⟨rfl,rfl⟩:=h
   simp only[VR]at hx
   obtain⟨L,ad,cap',e1,rfl,e3,e4,e5,e6,e7,e8,e9,e10⟩:=hx
   refine⟨λw'=>by simp[Builtin.lenOf],#[],λw' _=>by simp[Builtin.firstCells,loadCells,loadCellsFrom],by simp[dQ],by simp,by simp⟩
  rename_i aaV
  obtain⟨cs,hcs,h⟩:=aC.1 h
  simp only[aI]at h
  obtain⟨rfl,rfl⟩:=h
  simp only[dM,beq_iff_eq]at hs
  subst hs
  simp only[VR]at hx
  obtain⟨L,ad,cap',e1,rfl,e3,e4,e5,e6,e7,e8,e9,e10⟩:=hx
  obtain⟨hlen,hc,l,vs,hl,hr,hcell⟩:=r.read hcs
  rw[e1]at hl
  obtain rfl:=ak hl
  refine⟨λw'=>by simp[Builtin.lenOf],vs.toArray,λw' hw'=>?_,by simpa using hr,hc,hlen⟩
  have hvl:vs.length=len*sz':=by rw[←hr.length,hlen]
  rcases Nat.eq_zero_or_pos cap' with h0 | hpos
  ·obtain rfl:len=0:=by omega
   have:vs=[]:=by cases vs with | nil=>rfl | cons _ _=>simp at hvl
   subst this
   simp[Builtin.firstCells,loadCells,loadCellsFrom]
  ·replace e3:=e3.resolve_left (by omega)
   replace e4:=e4.resolve_left (by omega)
   have h0:=e5.resolve_left (by omega)
   have had:ad=⟨L.j,L.d+o,none⟩:=by
    obtain⟨q1,q2,q3⟩:=ad
    simp only at e3 e4 h0
    subst e3 e4 h0
    rfl
   rw[had]
   refine run_firstCells_some w' sz' len _ len cap' vs hvl λj v hv=>?_
   rw[l7]
   have:=hcell j v hv
   unfold World.cell? at this ⊢
   rw[hw']
   exact this
 ·rename_i s
  simp only[av,aI]at h
  obtain⟨rfl,rfl⟩:=h
  simp only[dM,beq_iff_eq]at hs
  subst hs
  simp only[VR]at hx
  obtain⟨b,rfl,rfl⟩:=hx
  have hbl:b.data.toList.length=b.size:=by simp
  refine⟨λw'=>by simp[Builtin.lenOf],b.data.map (λc=>Value.int .u8 c.toNat),λw' _=>?_, ?_, ?_,by simp⟩
  ·rw[hbl]
   simp[Builtin.firstCells]
  ·refine dQ.r_ (by simp) λi x y hx hy=>?_
   simp only[Array.toList_map,List.getElem?_map,aC]at hx hy
   obtain⟨u,hu,rfl⟩:=hx
   obtain⟨u',hu',rfl⟩:=hy
   rw[hu]at hu'
   obtain rfl:=ak hu'
   simp[VR]
  ·intro c hc
   obtain⟨u,_,rfl⟩:=List.mem_map.1 hc
   rfl
 ·cases h
theorem Fg {P:Program} {ι:fq} {M M':Heap} {w:World} (r:R ι M w) {e:TypeId} {i:TypeInfo} {z:Value} {s v:AV} {sv:Value} (hs:VR ι s sv) {n:Nat} {new:List AV} {news:Array Value} (hnew:dQ ι new news.toList) (hc:∀a,a∈new→a.eH=true) (hlen:new.length=n*i.size) (hsz:0<i.size) (hzs:z.cells.size=i.size)
  (h:eO i.size i.bytes s n new M=some (v,M')) {run:World→Result Value}
  (hroom:∀ad sLen sCap w',0<n→sv=.slice (some ad) sLen sCap→sLen+n≤sCap→(storeCells (ad.add (sLen*i.size)) news.toList).run P w=.ok () w'→run w=.ok (.slice (some ad) (sLen+n) sCap) w')
  (hmore:∀base sLen sCap olds,sv=.slice base sLen sCap→(∀w',w'.heap=w.heap→(Builtin.firstCells i.size sLen (.slice base sLen sCap)).run P w'=.ok olds w')→0<n→sCap<sLen+n→((sLen+n:Nat):Int)≤9223372036854775807→n*i.bytes≤281474976710656→Builtin.nextslicecap (sLen+n) sCap*i.bytes≤281474976710656 →
   run w=.ok (.slice (some ⟨w.heap.size,0,none⟩) (sLen+n) (grownCap w (sLen+n) sCap e)) (w.drew.alloc (.cells (olds++news++madeCells z.cells ((grownCap w (sLen+n) sCap e-(sLen+n))*z.cells.size)) e)))
  (NV:∀base sLen sCap,n=0→sv=.slice base sLen sCap→sLen≤sCap→run w=.ok (.slice base sLen sCap) w) :
  ∃bI v' w',run w=.ok v' w'∧VR bI v v'∧Tr ι M w bI M' w':=by
 have hnl:news.size=n*i.size:=by have:=hnew.length;simp at this;omega
 -- a new block,whatever the base
 have fresh:∀(base:Option Addr) (sLen sCap:Nat) (old:List AV) (olds:Array Value),sv=.slice base sLen sCap→(∀w',w'.heap=w.heap→(Builtin.firstCells i.size sLen (.slice base sLen sCap)).run P w'=.ok olds w')→dQ ι old olds.toList→(∀a,a∈old→a.eH=true)→old.length=sLen*i.size→0<n→sCap<sLen+n →
   (sLen+n)*i.bytes≤70368744177664→sLen+n≤70368744177664→∀ {M1:Heap},R ι M1 w→M1.next=M.next→∃bI v' w',run w=.ok v' w'∧VR bI (.slice (some (M.next,0)) i.size (sLen+n) (sLen+n) false) v'∧Tr ι M1 w bI (M1.push (.cells (old++new) false true)) w':=by
  intro base sLen sCap old olds hsv hold ho1 ho2 ho3 hn0 hg hb1 hb2 M1 r1 hnext
  have hb3:n*i.bytes≤(sLen+n)*i.bytes:=Nat.mul_le_mul_right _ (by omega)
  have hrun:=hmore base sLen sCap olds hsv hold hn0 hg (by omega) (by omega) (growslice_fits hg (by omega))
  have hcap:sLen+n≤grownCap w (sLen+n) sCap e:=by simp only[grownCap,Question.cut];omega
  have hos:olds.size=sLen*i.size:=by have:=ho1.length;simp at this;omega
  have hmul:(sLen+n)*i.size=sLen*i.size+n*i.size:=Nat.add_mul _ _ _
  have aaW:grownCap w (sLen+n) sCap e*i.size=(sLen+n)*i.size+(grownCap w (sLen+n) sCap e-(sLen+n))*i.size:=by rw[←Nat.add_mul];congr 1;omega
  have htot:(olds++news++madeCells z.cells ((grownCap w (sLen+n) sCap e-(sLen+n))*z.cells.size)).size=grownCap w (sLen+n) sCap e*i.size:=by
   simp only[Array.size_append,size_madeCells,hzs]
   omega
  have hnone:=(r1.fresh M1.next (Nat.le_refl _)).2
  refine⟨_,_,_,hrun, ?_,Tr.push r1 rfl (Made.PE _ _) (BR.new (cs:=old++new) ⟨(sLen+n)*i.size, ?_, ?_,λh=>by cases h⟩ ?_ ⟨.inl rfl,λ_=>rfl⟩)⟩
  ·simp only[VR]
   refine⟨_,_,_,by rw[hnext];simp[fq.set];rfl,rfl,.inr rfl,.inr rfl,.inr rfl,Nat.le_refl _,hcap,(λh=>by cases h), ?_,hsz⟩
   have h1:=htot
   simp only[Array.size_append]at h1 ⊢
   omega
  ·have e1:(olds++news++madeCells z.cells ((grownCap w (sLen+n) sCap e-(sLen+n))*z.cells.size)).toList.take ((sLen+n)*i.size)=olds.toList++news.toList:=by
    simp only[Array.toList_append]
    rw[List.take_append_of_le_length (by simp;omega),List.take_of_length_le (by simp;omega)]
   rw[e1]
   have hle:=fq.zl hnone ⟨w.heap.size,0,(olds++news++madeCells z.cells ((grownCap w (sLen+n) sCap e-(sLen+n))*z.cells.size)).size⟩
   exact(ho1.append hnew).mono hle
  ·rw[htot];omega
  ·intro c hcm
   rcases List.mem_append.1 hcm with hcm | hcm
   ·exact ho2 c hcm
   ·exact hc c hcm
 unfold eO at h
 split at h
 case h_2=>cases h
 rename_i a sz' len cap ex
 split at h
 ·cases h
 rename_i TQ
 split at h
 ·-- surely room
  rename_i hroomy
  cases a with
  | none =>
   simp only at h
   split at h
   case isFalse=>cases h
   rename_i hn0
   simp only[av,aI]at h
   obtain⟨rfl,rfl⟩:=h
   have hs':=hs
   simp only[VR]at hs'
   obtain⟨rfl,rfl,rfl,rfl⟩:=hs'
   refine⟨ι,_,w,NV none 0 0 hn0 rfl (Nat.le_refl _), ?_,Tr.refl r⟩
   simp[VR]
  | some p =>
   obtain⟨b,o⟩:=p
   obtain rfl:sz'=i.size:=by simpa using TQ
   have hs':=hs
   simp only[VR]at hs'
   obtain⟨L,ad,cap',e1,rfl,e3,e4,e5,e6,e7,e8,e9,e10⟩:=hs'
   simp only at h
   split at h
   ·rename_i hn0
    simp only[av,aI]at h
    obtain⟨rfl,rfl⟩:=h
    exact⟨ι,_,w,NV _ _ _ hn0 rfl (by omega),hs,Tr.refl r⟩
   ·rename_i hn0
    obtain⟨M1,hM,h⟩:=aC.1 h
    simp only[aI]at h
    obtain⟨rfl,rfl⟩:=h
    obtain⟨l,w',hl,hrun,htr⟩:=Gs (P:=P) r hM hnew hc
    rw[e1]at hl
    obtain rfl:=ak hl
    replace e3:=e3.resolve_left (by omega)
    replace e4:=e4.resolve_left (by omega)
    have h0:=e5.resolve_left (by omega)
    have had:ad=⟨L.j,L.d+o,none⟩:=by
     obtain⟨q1,q2,q3⟩:=ad
     simp only at e3 e4 h0
     subst e3 e4 h0
     rfl
    subst had
    refine⟨ι,_,w',hroom _ _ _ w' (by omega) rfl (by omega) ?_, ?_,htr⟩
    ·rw[l7]
     rw[←Nat.add_assoc]at hrun
     exact hrun
    ·simp only[VR]
     exact⟨L,_,cap',e1,rfl,.inr rfl,.inr rfl,.inr rfl,by omega,e7,e8,e9,e10⟩
 ·rename_i abM
  split at h
  case isFalse=>cases h
  rename_i hbounds
  cases a with
  | none =>
   simp only[av,aI]at h
   obtain⟨rfl,rfl⟩:=h
   have hs':=hs
   simp only[VR]at hs'
   obtain⟨rfl,rfl,rfl,rfl⟩:=hs'
   have:=fresh none 0 0 [] #[] rfl (λw' _=>by simp[Builtin.firstCells]) (by simp[dQ]) (by simp) (by simp) (by omega) (by omega) hbounds.1 hbounds.2 r rfl
   simpa using this
  | some p =>
   obtain⟨b,o⟩:=p
   obtain rfl:sz'=i.size:=by simpa using TQ
   obtain⟨old,hold,h⟩:=aF.1 h
   have hs':=hs
   simp only[VR]at hs'
   obtain⟨L,ad,cap',e1,rfl,e3,e4,e5,e6,e7,e8,e9,e10⟩:=hs'
   have hel:∃olds:Array Value,(∀w',w'.heap=w.heap→(Builtin.firstCells i.size len (.slice (some ad) len cap')).run P w'=.ok olds w')∧dQ ι old olds.toList∧(∀a,a∈old→a.eH=true)∧old.length=len*i.size:=by
    have:=(KZ (P:=P) r hs (sz:=i.size) (n:=len) (new:=old) (by simp[dM]) (by
     simp only[kC]
     by_cases h0:len=0
     ·have:old=[]:=by
       split at hold
       ·exact(ak hold).symm
       ·have:=(r.read hold).1
        rw[h0]at this
        simpa using this
      simp[h0,this]
     ·rw[if_neg (λhx=>h0 hx.2)]at hold
      simp[h0,hold])).2
    exact this
   obtain⟨olds,ho1,ho2,ho3,ho4⟩:=hel
   split at h
   ·rename_i hex
    simp only[av,aI]at h
    obtain⟨rfl,rfl⟩:=h
    have:=e8 hex
    exact fresh (some ad) len cap' old olds rfl ho1 ho2 ho3 ho4 (by omega) (by omega) hbounds.1 hbounds.2 r rfl
   ·split at h
    case h_2=>cases h
    rename_i c sl hb
    simp only[av,aI]at h
    obtain⟨rfl,rfl⟩:=h
    have hblt:=r.lt hb
    rcases Nat.lt_or_ge cap' (len+n)with hg | hg
    ·have hk:=Tr.kill r b hblt
     obtain⟨bI,v',w',q1,q2,q3⟩:=fresh (some ad) len cap' old olds rfl ho1 ho2 ho3 ho4 (by omega) hg hbounds.1 hbounds.2 hk.rel rfl
     exact⟨bI,v',w',q1,q2,hk.trans q3⟩
    ·-- there is room
     replace e3:=e3.resolve_left (by omega)
     replace e4:=e4.resolve_left (by omega)
     have h0:=e5.resolve_left (by omega)
     have had:ad=⟨L.j,L.d+o,none⟩:=by
      obtain⟨q1,q2,q3⟩:=ad
      simp only at e3 e4 h0
      subst e3 e4 h0
      rfl
     subst had
     have hmul:(len+n)*i.size=len*i.size+n*i.size:=Nat.add_mul _ _ _
     have aaW:(len+n)*i.size≤cap'*i.size:=Nat.mul_le_mul_right _ hg
     have acJ:0<n*i.size:=Nat.mul_pos (by omega) hsz
     obtain⟨w',cs,cs',elem,fz,g1,g2,g3,g4,g5⟩:=Gq (P:=P) r hb e1 (o:=o+len*i.size) (vs:=news.toList) (by intro hn;have:=congrArg List.length hn;simp at this;simp[this]at hnl;omega) (by simp;omega) (hnew.oneCell hc)
     rw[←Nat.add_assoc]at g1
     have hrun:=hroom _ _ _ w' (by omega) rfl hg (by rw[l7];exact g1)
     have hnone:=(r.fresh M.next (Nat.le_refl _)).2
     have hle:=fq.zl hnone ⟨L.j,L.d+o,L.N-o⟩
     refine⟨_,_,w',hrun, ?_,Tr.rename (l':=⟨L.j,L.d+o,L.N-o⟩) r hb rfl rfl e1 rfl g3 ?_⟩
     ·simp only[VR]
      refine⟨⟨L.j,L.d+o,L.N-o⟩,⟨L.j,L.d+o,none⟩,cap',by simp[fq.set],rfl,.inr rfl,.inr rfl,.inr rfl,Nat.le_refl _,hg,(λh=>by cases h), ?_,hsz⟩
      simp only
      omega
     ·obtain⟨cs0,NU,fz0,eq0,b2,b3,b4,b5,b6⟩:=g5
      obtain⟨rfl,rfl,rfl⟩:cs0=cs∧NU=elem∧fz0=fz:=by injection eq0 with e1 e2 e3;exact⟨e1.symm,e2.symm,e3.symm⟩
      have hsz':cs'.size=cs0.size:=by
       have:=congrArg List.length g4
       simp at this
       omega
      -- the old cells,too,as they are read
      obtain⟨_,_,l0,vs0,hl0,hr0,hcell0⟩:=r.read (b:=b) (o:=o) (cs:=old) (n:=len*i.size) (by
       rw[if_neg (λhx=>absurd hx.1 ‹¬ex=true›)]at hold
       exact hold)
      rw[e1]at hl0
      obtain rfl:=ak hl0
      refine⟨cs',NU,fz0,rfl,by simp only;omega,by simp;omega,(λh=>by cases h),λk a hk=>?_,λ_=>by rw[hsz'];exact⟨(b6 rfl).1,λh=>by cases h⟩⟩
      simp only
      rw[List.getElem?_append]at hk
      split at hk
      ·rename_i hk1
       obtain⟨v0,hv0,TR⟩:=hr0.get k a hk
       refine⟨v0, ?_,ho3 a (List.mem_of_getElem? hk),TR.mono hle⟩
       have hcl:=hcell0 k v0 hv0
       simp[World.cell?,g2]at hcl
       have hlt:=(Array.getElem?_eq_some_iff.1 hcl).1
       rw[←Array.getElem?_toList,g4,bE,List.getElem?_append_left (by simp;omega),List.getElem?_take,if_pos (by omega),Array.getElem?_toList]
       exact hcl
      ·rename_i hk1
       obtain⟨v0,hv0,TR⟩:=hnew.get _ a hk
       have hlt:=(aM.1 hv0).1
       refine⟨v0, ?_,hc a (List.mem_of_getElem? hk),TR.mono hle⟩
       rw[←Array.getElem?_toList,g4,bE,List.getElem?_append_right (by simp;omega),List.getElem?_append_left (by simp at hlt ⊢;omega)]
       have:L.d+o+k-(cs0.toList.take (L.d+(o+len*i.size))).length=k-old.length:=by simp;omega
       rw[this]
       exact hv0
theorem K3{P:Program}{t:TypeId}{zero:List AV}{i:TypeInfo}(hz:zeroOf P t=some zero)(hi:P.info? t=some i):∃z,i.zero=some z∧(∀ι,dQ ι zero z.cells.toList)∧∀a,a∈zero→a.eH=true:=by
 unfold zeroOf at hz
 split at hz
 case h_2=>cases hz
 rename_i z hz2
 obtain⟨it,hit,hz3⟩:=aF.1 hz2
 rw[hi]at hit
 obtain rfl:=ak hit
 exact⟨z,hz3,λι=>(lG ι hz).1,(lG (λ_=>none) hz).2⟩
theorem uj.append {P:Program} {C:bH} {o:Oper} {t u elem:TypeId} {i:TypeInfo} {zero:List AV} {x y:Operand} {ax ay:AX} (ho:o.op=.call { callee:=.builtin .append,args:=#[x,y],argTypes:=#[t,u] }) (ht:P.underlying t=some (.slice elem)) (hu:P.underlying u=some .string∨∃e',P.underlying u=some (.slice e'))
  (hi:P.info? elem=some i) (hsz:0<i.size) (hz:zeroOf P elem=some zero) (hzl:zero.length=i.size) (hx:cX x=some ax) (hy:cX y=some ay):uj P C o (.append i.size i.bytes ax ay):=by
 intro ι M e a w v M' next Q r he h hnext
 have h1:=dY hx he
 have h2:=dY hy he
 simp only[aN]at h
 split at h
 case isFalse=>cases h
 rename_i hes
 obtain⟨⟨n,new⟩,hel,h⟩:=aF.1 h
 obtain⟨z,hz1,hz2,hz3⟩:=K3 hz hi
 have hzs:z.cells.size=i.size:=by have:=(hz2 ι).length;simp at this;omega
 obtain⟨g1,news,g2,g3,g4,g5⟩:=KZ (P:=P) r h2 hes hel
 obtain⟨bI,v',w',q1,q2,q3⟩:=Fg (P:=P) (e:=elem) r h1 g3 g4 g5 hsz hzs h (run:=λw=>(Builtin.append_ #[t,u] o.type #[a.eval x,a.eval y]).run P w)
  (λad sLen sCap w' hn hsv hle hst=>by
   simp only[hsv]
   exact run_append_room (P:=P) w t u o.type elem i ht hu hi ad sLen sCap n (a.eval y) news w' g1 (g2 w rfl) hle hst)
  (λbase sLen sCap olds hsv hold hn hg h63 hb hfit=>by
   simp only[hsv]
   exact Il (P:=P) w t u o.type elem i z ht hu hi hz1 base sLen sCap n (a.eval y) olds news hold g1 g2 hg h63 hfit)
  (λbase sLen sCap hn hsv hle=>by
   subst hn
   simp only[hsv]
   have hnew:news=#[]:=by
    have:=g3.length
    simp at g5 this
    simp[g5]at this
    exact Array.eq_empty_of_size_eq_zero this.symm
   exact run_append_nothing (P:=P) w t u o.type elem i ht hu hi base sLen sCap (a.eval y) g1 (by rw[←hnew];exact g2 w rfl) hle)
 refine uj.of_run (w':=w') (v:=v') ?_ (hnext bI v' w' q3 q2)
 simp only[execOp,ho]
 simp[resolve,invoke,builtin,q1]
theorem uj.r9 {P:Program} {C:bH} {o:Oper} {t u elem:TypeId} {i:TypeInfo} {zero:List AV} {x y:Operand} {ax ay:AX} (ho:o.op=.call { callee:=.builtin .append,args:=#[x,y],argTypes:=#[t,u] }) (ht:P.underlying t=some (.slice elem)) (hu:∃k,P.underlying u=some (.int k))
  (hi:P.info? elem=some i) (hsz:0<i.size) (hz:zeroOf P elem=some zero) (hzl:zero.length=i.size) (hx:cX x=some ax) (hy:cX y=some ay):uj P C o (.r9 i.size i.bytes zero ax ay):=by
 intro ι M e a w v M' next Q r he h hnext
 have h1:=dY hx he
 have h2:=dY hy he
 simp only[aN]at h
 split at h
 case h_2=>cases h
 rename_i kk n hc
 rw[hc]at h2
 simp only[VR]at h2
 split at h
 case isFalse=>cases h
 rename_i hn
 obtain⟨m,rfl⟩:=Int.eq_ofNat_of_zero_le (Int.le_of_lt hn.1)
 simp only[bC]at h hn
 obtain⟨z,hz1,hz2,hz3⟩:=K3 hz hi
 have hzs:z.cells.size=i.size:=by have:=(hz2 ι).length;simp at this;omega
 have hb:m*i.bytes≤281474976710656:=by rw[Nat.mul_comm];exact hn.2.2
 obtain⟨bI,v',w',q1,q2,q3⟩:=Fg (P:=P) (e:=elem) (z:=z) r h1 (IV (hz2 ι) m) (λc hc=>hz3 c (Fb hc)) (by rw[yK,hzl]) hsz hzs h (run:=λw=>(Builtin.append_ #[t,u] o.type #[a.eval x,a.eval y]).run P w)
  (λad sLen sCap w' hn0 hsv hle hst=>by
   simp only[hsv,h2]
   exact BG (P:=P) w t u o.type elem i z ht hu hi hz1 ad sLen sCap m kk w' hsz (by omega) hb hn0 hle hst)
  (λbase sLen sCap olds hsv hold hn0 hg h63 hb' hfit=>by
   simp only[hsv,h2]
   exact BF (P:=P) w t u o.type elem i z ht hu hi hz1 base sLen sCap m kk olds hold hsz hzs hn0 hg h63 hb' hfit)
  (λbase sLen sCap hn0 hsv hle=>by omega)
 refine uj.of_run (w':=w') (v:=v') ?_ (hnext bI v' w' q3 q2)
 simp only[execOp,ho]
 simp[resolve,invoke,builtin,q1]
theorem Xf {P:Program} {ι:fq} {M:Heap} {w:World} (r:R ι M w) {x:AV} {v:Value} (hx:VR ι x v) {sz m k:Nat} {cs:List AV} (hs:dM x sz=true) (hm:aSize x=some m) (hk:k≤m) (h:Ms x k M=some cs) :
  (∀w',(Builtin.lenOf v).run P w'=.ok m w')∧∃news:Array Value,(Builtin.firstCells sz k v).run P w=.ok news w∧dQ ι cs news.toList∧(∀a,a∈cs→a.eH=true)∧cs.length=k*sz:=by
 unfold aSize at hm
 split at hm
 ·rename_i p sz' len cap ex
  obtain rfl:=ak hm
  cases p with
  | none =>
   simp only[Ms,av]at h
   subst h
   simp only[dM,beq_iff_eq]at hs
   subst hs
   simp only[VR]at hx
   obtain⟨rfl,_⟩:=hx
   obtain rfl:k=0:=by omega
   exact⟨λw'=>by simp[Builtin.lenOf],#[],by simp[Builtin.firstCells],by simp[dQ],by simp,by simp⟩
  | some q =>
   obtain⟨b,o⟩:=q
   simp only[dM,beq_iff_eq]at hs
   subst hs
   simp only[Ms]at h
   simp only[VR]at hx
   obtain⟨L,ad,cap',e1,rfl,e3,e4,e5,e6,e7,e8,e9,e10⟩:=hx
   refine⟨λw'=>by simp[Builtin.lenOf], ?_⟩
   split at h
   ·rename_i h0
    subst h0
    obtain rfl:=ak h
    exact⟨#[],by simp[Builtin.firstCells,loadCells,loadCellsFrom],by simp[dQ],by simp,by simp⟩
   rename_i h0
   obtain⟨hlen,hc,l,vs,hl,hr,hcell⟩:=r.read h
   rw[e1]at hl
   obtain rfl:=ak hl
   have hvl:vs.length=k*sz':=by rw[←hr.length,hlen]
   replace e3:=e3.resolve_left (by omega)
   replace e4:=e4.resolve_left (by omega)
   have h1:=e5.resolve_left (by omega)
   have had:ad=⟨L.j,L.d+o,none⟩:=by
    obtain⟨q1,q2,q3⟩:=ad
    simp only at e3 e4 h1
    subst e3 e4 h1
    rfl
   refine⟨vs.toArray, ?_,by simpa using hr,hc,hlen⟩
   rw[had]
   refine run_firstCells_some w sz' k _ len cap' vs hvl λj v hv=>?_
   rw[l7]
   exact hcell j v hv
 ·rename_i s
  obtain rfl:=ak hm
  simp only[dM,beq_iff_eq]at hs
  subst hs
  simp only[Ms,av]at h
  subst h
  simp only[VR]at hx
  obtain⟨b,rfl,rfl⟩:=hx
  have hbl:b.data.toList.length=b.size:=by simp
  refine⟨λw'=>by simp[Builtin.lenOf],((b.extract 0 k).data.map λc=>Value.int .u8 c.toNat),by simp[Builtin.firstCells], ?_, ?_,by simp at hk ⊢;omega⟩
  ·have e:(b.extract 0 k).data.toList=b.data.toList.take k:=by
    obtain⟨⟨bl⟩⟩:=b
    rw[ByteArray.extract_mk]
    simp
   rw[Array.toList_map,e,←List.map_take]
   refine dQ.r_ (by simp) λi x y hx hy=>?_
   simp only[List.getElem?_map,aC]at hx hy
   obtain⟨u,hu,rfl⟩:=hx
   obtain⟨u',hu',rfl⟩:=hy
   rw[hu]at hu'
   obtain rfl:=ak hu'
   simp[VR]
  ·intro a ha
   obtain⟨u,_,rfl⟩:=List.mem_map.1 (List.mem_of_mem_take ha)
   rfl
 ·cases hm
theorem Xg {P:Program} {ι:fq} {M M':Heap} {w:World} (r:R ι M w) {b o:Nat} {new:List AV} (h:M.lay b o new=some M') {l:Loc} (hl:ι b=some l) (hroom:o+new.length≤l.N) {vs:List Value} (hnew:dQ ι new vs) (hc:∀a,a∈new→a.eH=true) (hne:vs≠[]) :
  ∃w',(storeCells ⟨l.j,l.d+o,none⟩ vs).run P w=.ok () w'∧Tr ι M w ι M' w':=by
 unfold Heap.lay at h
 split at h
 case h_2=>cases h
 rename_i c sl hb
 split at h
 case isFalse=>cases h
 rename_i hle
 obtain rfl:=ak h
 have hvl:=hnew.length
 obtain⟨w',cs,cs',elem,fz,g1,g2,g3,g4,g5⟩:=Gq (P:=P) r hb hl (o:=o) hne (by omega) (hnew.oneCell hc)
 have hbr:=g5
 obtain⟨_,_,_,_,_,hN,h4,_⟩:=hbr
 have ho:o≤c.length:=by omega
 refine⟨w',g1,Tr.update r hb rfl rfl hl g3 (BR.seg id g5 hnew hc (by omega) g4 (by simp;omega) (λhs=>?_) ?_)⟩
 ·have:=h4 hs
  have:o+new.length≤c.length:=by
   rcases hle with q |⟨q,_⟩
   ·exact q
   ·rw[hs]at q;cases q
  simp
  omega
 ·intro i a hi
  rw[bE,List.getElem?_append]at hi
  split at hi
  ·rename_i h1
   simp at h1
   rw[List.getElem?_take,if_pos (by omega)]at hi
   exact .inr ⟨.inl (by omega),hi⟩
  ·rename_i h1
   simp at h1
   have htl:(c.take o).length=o:=by simp;omega
   rw[htl,List.getElem?_append]at hi
   split at hi
   ·rename_i h2
    exact .inl ⟨by omega,by omega,hi⟩
   ·rename_i h2
    rw[List.getElem?_drop]at hi
    refine .inr ⟨.inr (by omega), ?_⟩
    rw[←hi]
    congr 1
    omega
theorem uj.copy {P:Program} {C:bH} {o:Oper} {t u elem:TypeId} {sz:Nat} {x y:Operand} {ax ay:AX} (ho:o.op=.call { callee:=.builtin .copy,args:=#[x,y],argTypes:=#[t,u] }) (ht:P.underlying t=some (.slice elem))
  (hsz:l9 P elem=some sz) (hx:cX x=some ax) (hy:cX y=some ay):uj P C o (.copy sz ax ay):=by
 intro ι M e a w v M' next Q r he h hnext
 have h1:=dY hx he
 have h2:=dY hy he
 simp only[aN]at h
 unfold D7 at h
 split at h
 case h_2=>cases h
 rename_i p sz' len cap ex hc
 rw[hc]at h1
 split at h
 case isFalse=>cases h
 rename_i hcond
 obtain⟨n,hsn,h⟩:=aF.1 h
 simp only at h
 obtain⟨new,abR,h⟩:=aF.1 h
 obtain⟨g1,news,k1,k2,g4,g5⟩:=Xf (P:=P) r h2 hcond.2 hsn (Nat.min_le_left n len) abR
 cases p with
 | none =>
  simp only[av,aI]at h
  obtain⟨rfl,rfl⟩:=h
  simp only[VR]at h1
  obtain⟨h1,rfl,_⟩:=h1
  refine uj.of_run (w':=w) (v:=.int .i64 (min n 0:Nat)) ?_ (hnext ι _ w (Tr.refl r) (by simp[VR]))
  simp only[execOp,ho]
  simp[resolve,invoke,builtin,Builtin.copy_,h1,run_underlying ht,oh hsz,g1]
  have:=k1
  simp at this
  simp[this,goInt]
 | some q =>
  obtain⟨b,off⟩:=q
  obtain rfl:sz'=sz:=by simpa using hcond.1
  simp only[VR]at h1
  obtain⟨L,ad,cap',e1,h1,e3,e4,e5,e6,e7,e8,e9,e10⟩:=h1
  simp only at h
  split at h
  ·rename_i hn0
   simp only[av,aI]at h
   obtain⟨rfl,rfl⟩:=h
   rw[hn0]at k1 g5
   have hne:news=#[]:=by
    have:=k2.length
    simp[g5]at this
    exact Array.eq_empty_of_size_eq_zero this.symm
   subst hne
   refine uj.of_run (w':=w) (v:=.int .i64 (min n len:Nat)) ?_ (hnext ι _ w (Tr.refl r) (by simp[VR]))
   simp only[execOp,ho]
   simp[resolve,invoke,builtin,Builtin.copy_,h1,run_underlying ht,oh hsz,g1,hn0,k1,storeCells,goInt]
  ·rename_i hn0
   obtain⟨M1,hM,h⟩:=aC.1 h
   simp only[aI]at h
   obtain⟨rfl,rfl⟩:=h
   have hmul:min n len*sz'≤cap'*sz':=Nat.mul_le_mul_right _ (by omega)
   obtain⟨w',hrun,htr⟩:=Xg (P:=P) r hM e1 (by rw[g5];omega) k2 g4 (λe=>by
    have:=k2.length
    rw[e,g5]at this
    have:0<min n len*sz':=Nat.mul_pos (by omega) e10
    simp at *
    omega)
   replace e3:=e3.resolve_left (by omega)
   replace e4:=e4.resolve_left (by omega)
   have h0:=e5.resolve_left (by omega)
   have had:ad=⟨L.j,L.d+off,none⟩:=by
    obtain⟨q1,q2,q3⟩:=ad
    simp only at e3 e4 h0
    subst e3 e4 h0
    rfl
   subst had
   refine uj.of_run (w':=w') (v:=.int .i64 (min n len:Nat)) ?_ (hnext ι _ w' htr (by simp[VR]))
   simp only[execOp,ho]
   simp[resolve,invoke,builtin,Builtin.copy_,h1,run_underlying ht,oh hsz,g1,k1,hrun,goInt]
theorem uj.clear {P:Program} {C:bH} {o:Oper} {t elem:TypeId} {sz:Nat} {zero:List AV} {x:Operand} {ax:AX} (ho:o.op=.call { callee:=.builtin .clear,args:=#[x],argTypes:=#[t] }) (ht:P.underlying t=some (.slice elem))
  (hsz:l9 P elem=some sz) (hz:zeroOf P elem=some zero) (hzl:zero.length=sz) (hx:cX x=some ax):uj P C o (.clear sz zero ax):=by
 intro ι M e a w v M' next Q r he h hnext
 have h1:=dY hx he
 simp only[aN]at h
 unfold Mt at h
 split at h
 case h_3=>cases h
 ·rename_i hc
  simp only[av,aI]at h
  obtain⟨rfl,rfl⟩:=h
  rw[hc]at h1
  simp only[VR]at h1
  obtain⟨h1,_⟩:=h1
  refine uj.of_run (w':=w) (v:=.tuple #[]) ?_ (hnext ι _ w (Tr.refl r) (by simp[VR,dQ]))
  simp only[execOp,ho]
  simp[resolve,invoke,builtin,Builtin.clear_,h1,run_underlying ht]
 ·rename_i b off sz' len cap ex hc
  rw[hc]at h1
  simp only[VR]at h1
  obtain⟨L,ad,cap',e1,h1,e3,e4,e5,e6,e7,e8,e9,e10⟩:=h1
  split at h
  case isFalse=>cases h
  rename_i hss
  subst hss
  split at h
  ·rename_i hl0
   subst hl0
   simp only[av,aI]at h
   obtain⟨rfl,rfl⟩:=h
   refine uj.of_run (w':=w) (v:=.tuple #[]) ?_ (hnext ι _ w (Tr.refl r) (by simp[VR,dQ]))
   simp only[execOp,ho]
   simp[resolve,invoke,builtin,Builtin.clear_,h1,run_underlying ht]
  ·rename_i hl0
   obtain⟨M1,hM,h⟩:=aC.1 h
   simp only[aI]at h
   obtain⟨rfl,rfl⟩:=h
   obtain⟨z,hz1,hz2,hz3⟩:=Jc (P:=P) hz w
   obtain⟨l,w',hl,hrun,htr⟩:=Gs (P:=P) r hM (IV (hz2 ι) len) (λc hc=>hz3 c (Fb hc))
   rw[e1]at hl
   obtain rfl:=ak hl
   replace e3:=e3.resolve_left (by omega)
   replace e4:=e4.resolve_left (by omega)
   have h0:=e5.resolve_left (by omega)
   have had:ad=⟨L.j,L.d+off,none⟩:=by
    obtain⟨q1,q2,q3⟩:=ad
    simp only at e3 e4 h0
    subst e3 e4 h0
    rfl
   subst had
   refine uj.of_run (w':=w') (v:=.tuple #[]) ?_ (hnext ι _ w' htr (by simp[VR,dQ]))
   obtain⟨m,rfl⟩:∃m,len=m+1:=⟨len-1,by omega⟩
   simp only[execOp,ho]
   simp[resolve,invoke,builtin,Builtin.clear_,h1,run_underlying ht,hz1,wQ,hrun]
theorem uj.qO{P:Program}{C:bH}{o:Oper}{t elem:TypeId}{x:Operand}{ax:AX}(ho:o.op=.convert t t x)(ht:P.underlying t=some (.slice elem))(he8:P.underlying elem=some (.int .u8))(hx:cX x=some ax):uj P C o (.qO ax):=by
 intro ι M e a w v M' next Q r he h hnext
 have h1:=dY hx he
 simp only[aN]at h
 unfold I_ at h
 split at h
 case h_2=>cases h
 rename_i b off sz len cap ex hc
 split at h
 ·cases h
 rename_i hcap
 split at h
 case h_2=>cases h
 rename_i c sl hb
 simp only[av,aI]at h
 obtain⟨rfl,rfl⟩:=h
 rw[hc]at h1
 have h1':=h1
 simp only[VR]at h1
 obtain⟨L,ad,cap',e1,h1,e3,e4,e5,e6,e7,e8,e9,e10⟩:=h1
 have e3:=e3.resolve_left (by omega)
 obtain⟨l',ob,hl',Es,cs,el,fz,rfl,b2,b3,b4,b5,b6⟩:=r.blk b _ hb
 rw[e1]at hl'
 obtain rfl:=ak hl'
 have hsh:w.shape? ad.block=some (el,cs.size):=by
  unfold World.shape?
  rw[e3,Es]
 have htr:Tr ι M w ι (M.put b (some (.cells c false true))) (w.freeze { block:=ad.block,off:=cs.size } 1):=by
  refine Tr.update (l:=L) (ob:=.cells cs el (if fz.1==fz.2 then (cs.size,cs.size+1)else (min fz.1 cs.size,max fz.2 (cs.size+1)))) r hb rfl rfl e1 ?_ ?_
  ·rw[e3]
   have hj:L.j<w.heap.size:=(Array.getElem?_eq_some_iff.1 Es).1
   obtain⟨lo,hi⟩:=fz
   refine⟨by simp[World.freeze],λi hi=>?_, ?_,rfl,rfl,rfl⟩
   ·simp only[World.freeze,if_neg (show ¬(1=0)by decide),Array.getElem?_modify]
    rw[if_neg (λh=>hi h.symm)]
   ·simp only[World.freeze,if_neg (show ¬(1=0)by decide),Array.getElem?_modify,if_true,Es,aW]
  ·refine⟨cs,el,_,rfl,b2,b3,(λh=>by cases h),b5,λ_=>⟨.inr ?_,(λh=>by cases h)⟩⟩
   have:=(b6 rfl).1
   split
   ·exact Nat.le_refl _
   ·rename_i hne
    simp only[beq_iff_eq]at hne
    simp only
    omega
 refine uj.of_run (w':=w.freeze { block:=ad.block,off:=cs.size } 1) (v:=a.eval x) ?_ (hnext ι _ _ htr h1')
 simp only[execOp,ho,h1]
 simp[convert,run_underlying ht,run_underlying he8,markStringish,hsh]
def R_:Kd→TypeDesc→Bool
 |.b,.bool |.i,.int _ |.s,.string=>true
 | _,_=>false
theorem Jg(a b:ByteArray):(a==b)=(a.data.toList==b.data.toList):=by
 rw[Bool.eq_iff_iff,MapKept.bytes_beq,beq_iff_eq]
 constructor
 ·rintro rfl
  rfl
 ·intro h
  obtain⟨x⟩:=a
  obtain⟨y⟩:=b
  congr 1
  exact Array.toList_inj.1 h
theorem Q5 {kd:Kd} {d:TypeDesc} (h:R_ kd d=true) {ι:fq} {k k':AV} {v v':Value} (hk:VR ι k v) (hk':VR ι k' v') {r:Bool} (hr:Ik kd k k'=some r) :
  Instr.sameNow d v v'=some r∧(r=true→Instr.sameBits 10000 v' v=true):=by
 unfold Ik at hr
 split at hr
 ·rename_i a b
  simp only[VR]at hk hk'
  subst hk hk'
  cases d<;>simp[R_]at h
  obtain rfl:=ak hr
  refine⟨rfl,λe=>?_⟩
  simp only[beq_iff_eq]at e
  subst e
  simp[Instr.sameBits]
 ·rename_i q a q' b
  split at hr
  case isFalse=>cases hr
  rename_i e
  subst e
  simp only[VR]at hk hk'
  subst hk hk'
  cases d<;>simp[R_]at h
  obtain rfl:=ak hr
  refine⟨by simp[Instr.sameNow],λe=>?_⟩
  simp only[beq_iff_eq]at e
  subst e
  simp[Instr.sameBits]
 ·rename_i a b
  simp only[VR]at hk hk'
  obtain⟨x,rfl,rfl⟩:=hk
  obtain⟨y,rfl,rfl⟩:=hk'
  cases d<;>simp[R_]at h
  obtain rfl:=ak hr
  refine⟨by simp only[Instr.sameNow,Jg],λe=>?_⟩
  simp only[Instr.sameBits,Jg]
  rw[beq_iff_eq]at e ⊢
  exact e.symm
 ·cases hr
theorem find_ok {kd:Kd} {d:TypeDesc} (h:R_ kd d=true) {ι:fq} {k:AV} {kv:Value} (hk:VR ι k kv):∀ {es:List (AV×AV)} {l:List MapEntry} {i:Nat} {r:Option (Nat×AV)},yj ι es l→yJ kd k es i=some r →
  (r=none∧Instr.findNow d kv l i=some none)∨∃n x xk e,r=some (i+n,x)∧es[n]?=some (xk,x)∧l[n]?=some e∧Instr.findNow d kv l i=some (some (i+n,e.val))∧VR ι x e.val∧Instr.sameBits 10000 e.key kv=true
 | [],[],i,r,_,hr=>by
  simp only[yJ,av]at hr
  exact .inl ⟨hr.symm,rfl⟩
 | [],_::_,_,_,he,_=>by simp[yj]at he
 | _::_,[],_,_,he,_=>by simp[yj]at he
 | a::es,e::l,i,r,he,hr=>by
  simp only[yj]at he
  simp only[yJ]at hr
  split at hr
  ·rename_i hs
   obtain⟨s1,s2⟩:=Q5 h hk he.1 hs
   simp only[av]at hr
   subst hr
   exact .inr ⟨0,a.2,a.1,e,rfl,rfl,rfl,by simp[Instr.findNow,s1],he.2.1,s2 rfl⟩
  ·rename_i hs
   obtain⟨s1,_⟩:=Q5 h hk he.1 hs
   rcases find_ok h hk he.2.2 hr with⟨rfl,q⟩ |⟨n,x,xk,e',rfl,q1,q2,q3,q4,q5⟩
   ·exact .inl ⟨rfl,by simp[Instr.findNow,s1,q]⟩
   ·exact .inr ⟨n+1,x,xk,e',by rw[Nat.add_assoc,Nat.add_comm 1],by simpa using q1,by simpa using q2,by simp[Instr.findNow,s1,q3];omega,q4,q5⟩
  ·cases hr
theorem PI{P:Program}{w:World}{kt:TypeId}{kd:Kd}{d:TypeDesc}{k:Value}(hd:P.underlying kt=some d)(h:R_ kd d=true)(e:Bool)(n:Nat):(Instr.checkKey e (n+1) kt k).run P w=.ok () w:=by
 unfold Instr.checkKey
 simp only[Sem.run_bind,run_underlying hd,Result.andThen]
 cases d<;>simp_all [R_]
 all_goals cases k<;>simp_all
theorem jV{P:Program}{w:World}{kt:TypeId}{kd:Kd}{d:TypeDesc}{k:Value}{e:Bool}(hd:P.underlying kt=some d)(h:R_ kd d=true):(Instr.checkKey e 10000 kt k).run P w=.ok () w:=PI hd h e 9999
theorem Jh {ι:fq} {M:Heap} {w:World} (r:R ι M w) {x:AV} {v:Value} (hx:VR ι x v) {es:List (AV×AV)} (h:og x M=some es) :
  (v=.map none∧es=[])∨∃b l es' clock,x=.map (some b)∧ι b=some l∧v=.map (some l.j)∧w.heap[l.j]?=some (.map es' clock)∧yj ι es es'.toList∧M.get b=some (.map es):=by
 unfold og at h
 split at h
 ·simp only[VR]at hx
  simp only[av]at h
  exact .inl ⟨hx,h.symm⟩
 ·rename_i b
  split at h
  case h_2=>cases h
  rename_i es0 hb
  simp only[av]at h
  subst h
  simp only[VR]at hx
  obtain⟨l,hl,rfl⟩:=hx
  obtain⟨l',ob,hl',Es,es',clock,rfl,he⟩:=r.blk b _ hb
  rw[hl]at hl'
  obtain rfl:=ak hl'
  exact .inr ⟨b,l,es',clock,rfl,hl,rfl,Es,he,hb⟩
 ·cases h
theorem yj.length{ι:fq}:∀ {es:List (AV×AV)} {l:List MapEntry},yj ι es l→es.length=l.length
 | [],[],_=>rfl
 | _::es,_::l,h=>by
  simp only[yj]at h
  simp[yj.length h.2.2]
 | [],_::_,h=>by simp[yj]at h
 | _::_,[],h=>by simp[yj]at h
theorem R9.qV {P:Program} {o:Oper} {t k el:TypeId} {x:Operand} {ax:AX} (ho:o.op=.call { callee:=.builtin .len,args:=#[x],argTypes:=#[t] })
  (ht:P.underlying t=some (.map k el)) (hx:cX x=some ax):R9 P o (.qV ax):=by
 intro ι M e a w v r he h
 have h1:=dY hx he
 simp only[aL]at h
 obtain⟨es,hes,rfl⟩:=aC.1 h
 rcases Jh r h1 hes with⟨h2,rfl⟩ |⟨b,l,es',clock,_,_,h2,h3,h4,_⟩
 ·refine⟨.int .i64 0, ?_,by simp[VR]⟩
  simp[execOp,ho,resolve,invoke,builtin,Builtin.len_,h2,run_underlying ht,goInt]
 ·refine⟨.int .i64 es.length, ?_,by simp[VR]⟩
  have:=h4.length
  simp[execOp,ho,resolve,invoke,builtin,Builtin.len_,h2,run_underlying ht,goInt,MapKept.run_getObj_map h3,Result.andThen,this]
theorem yM{P:Program}{t:TypeId}{i:TypeInfo}{z:Value}(hi:P.info? t=some i)(hz:i.zero=some z)(w:World):(zeroValue t).run P w=.ok z w:=by
 simp[zeroValue,typeInfo,hi,hz,Result.andThen]
theorem R9.lookup {P:Program} {o:Oper} {t kt el:TypeId} {kd:Kd} {d:TypeDesc} {i:TypeInfo} {z:Value} {za:AV} {ok:Bool} {x y:Operand} {ax ay:AX} (ho:o.op=.lookup t x y ok)
  (ht:P.underlying t=some (.map kt el)) (hd:P.underlying kt=some d) (hk:R_ kd d=true) (hi:P.info? el=some i) (hz:i.zero=some z) (hza:KV z=some za) (hx:cX x=some ax) (hy:cX y=some ay):R9 P o (.lookup kd ok za ax ay):=by
 intro ι M e a w v r he h
 have h1:=dY hx he
 have h2:=dY hy he
 have hzr:=NM hza ι
 simp only[aL,E9]at h
 obtain⟨es,hes,h⟩:=aF.1 h
 obtain⟨f,hf,rfl⟩:=aC.1 h
 rcases Jh r h1 hes with⟨e1,rfl⟩ |⟨b,l,es',clock,_,_,e1,e3,e4,_⟩
 ·simp only[yJ,av]at hf
  subst hf
  have q:Instr.findNow d (a.eval y) [] 0=some none:=rfl
  cases ok
  ·exact⟨z,by simp[execOp,ho,e1,Instr.lookup,run_underlying ht,jV hd hk,MapKept.run_findKey hd q,yM hi hz,Result.andThen],hzr⟩
  ·exact⟨.tuple #[z,.bool false],by simp[execOp,ho,e1,Instr.lookup,run_underlying ht,jV hd hk,MapKept.run_findKey hd q,yM hi hz,Result.andThen],by simp only[if_true,VR];exact⟨_,rfl,by simp[dQ,VR,hzr]⟩⟩
 ·rcases find_ok hk h2 e4 hf with⟨rfl,q⟩ |⟨n,x',xk,e',rfl,q1,q2,q3,q4,q5⟩
  ·cases ok
   ·exact⟨z,by simp[execOp,ho,e1,Instr.lookup,run_underlying ht,MapKept.run_getObj_map e3,jV hd hk,MapKept.run_findKey hd q,yM hi hz,Result.andThen],hzr⟩
   ·exact⟨.tuple #[z,.bool false],by simp[execOp,ho,e1,Instr.lookup,run_underlying ht,MapKept.run_getObj_map e3,jV hd hk,MapKept.run_findKey hd q,yM hi hz,Result.andThen],by simp only[if_true,VR];exact⟨_,rfl,by simp[dQ,VR,hzr]⟩⟩
  ·cases ok
   ·exact⟨e'.val,by simp[execOp,ho,e1,Instr.lookup,run_underlying ht,MapKept.run_getObj_map e3,jV hd hk,MapKept.run_findKey hd q3,Result.andThen],q4⟩
   ·exact⟨.tuple #[e'.val,.bool true],by simp[execOp,ho,e1,Instr.lookup,run_underlying ht,MapKept.run_getObj_map e3,jV hd hk,MapKept.run_findKey hd q3,Result.andThen],by simp only[if_true,VR];exact⟨_,rfl,by simp[dQ,VR,q4]⟩⟩
theorem Ji{ι:fq}{k v:AV}(f:MapEntry→MapEntry)(hf:∀e,VR ι k (f e).key∧VR ι v (f e).val):∀ {es:List (AV×AV)} {l:List MapEntry} {n:Nat},yj ι es l→yj ι (es.set n (k,v)) (l.modify n f)
 | [],[],n,_=>by simp[yj]
 | a::es,e::l,0,h=>by
  simp only[yj]at h
  simp only[List.set_cons_zero,List.modify_zero_cons,yj]
  exact⟨(hf e).1,(hf e).2,h.2.2⟩
 | a::es,e::l,n+1,h=>by
  simp only[yj]at h
  simp only[List.set_cons_succ,List.modify_succ_cons,yj]
  exact⟨h.1,h.2.1,Ji f hf h.2.2⟩
 | [],_::_,_,h=>by simp[yj]at h
 | _::_,[],_,h=>by simp[yj]at h
theorem NW{ι:fq}{k v:AV}{e:MapEntry}(hk:VR ι k e.key)(hv:VR ι v e.val):∀ {es:List (AV×AV)} {l:List MapEntry},yj ι es l→yj ι (es++[(k,v)]) (l++[e])
 | [],[],_=>by simp[yj,hk,hv]
 | a::es,x::l,h=>by
  simp only[yj]at h
  simp only[List.cons_append,yj]
  exact⟨h.1,h.2.1,NW hk hv h.2.2⟩
 | [],_::_,h=>by simp[yj]at h
 | _::_,[],h=>by simp[yj]at h
theorem K4{ι:fq}:∀ {es:List (AV×AV)} {l:List MapEntry} {n:Nat},yj ι es l→yj ι (es.eraseIdx n) (l.eraseIdx n)
 | [],[],n,_=>by simp[yj]
 | a::es,e::l,0,h=>by
  simp only[yj]at h
  simpa using h.2.2
 | a::es,e::l,n+1,h=>by
  simp only[yj]at h
  simp only[List.eraseIdx_cons_succ,yj]
  exact⟨h.1,h.2.1,K4 h.2.2⟩
 | [],_::_,_,h=>by simp[yj]at h
 | _::_,[],_,h=>by simp[yj]at h
theorem AB{w:World}{j:Nat}{o ob:Obj}(h:w.heap[j]?=some o):Turned w { w with heap:=w.heap.setIfInBounds j ob } j ob :=
 ⟨by simp,(MapKept.heap_set h).2,(MapKept.heap_set h).1,rfl,rfl,rfl⟩
theorem uj.mapUpdate {P:Program} {C:bH} {o:Oper} {t kt el:TypeId} {kd:Kd} {d:TypeDesc} {x y z:Operand} {ax ay az:AX} (ho:o.op=.mapUpdate t x y z∨o.op=.insert t x y z)
  (ht:P.underlying t=some (.map kt el)) (hd:P.underlying kt=some d) (hk:R_ kd d=true) (hx:cX x=some ax) (hy:cX y=some ay) (hz:cX z=some az):uj P C o (.mapUpdate kd ax ay az):=by
 intro ι M e a w v M' next Q r he h hnext
 have h1:=dY hx he
 have h2:=dY hy he
 have h3:=dY hz he
 simp only[aN]at h
 unfold Eo at h
 split at h
 case h_2=>cases h
 rename_i b hb
 rw[hb]at h1
 split at h
 case h_2=>cases h
 rename_i es hes
 simp only[VR]at h1
 obtain⟨l,hl,h1⟩:=h1
 obtain⟨l',ob,hl',Es,es',clock,rfl,hE⟩:=r.blk b _ hes
 rw[hl]at hl'
 obtain rfl:=ak hl'
 split at h
 ·cases h
 obtain⟨f,hf,h⟩:=aF.1 h
 have hop:execOp a.eval o=(do Instr.mapUpdate t (a.eval x) (a.eval y) (a.eval z);pure Next.skip):=by
  rcases ho with ho | ho<;>simp only[execOp,ho]
 rcases find_ok hk h2 hE hf with⟨rfl,q⟩ |⟨n,x',xk,e',rfl,q1,q2,q3,q4,q5⟩
 ·simp only at h
  split at h
  case isFalse=>cases h
  simp only[av,aI]at h
  obtain⟨rfl,rfl⟩:=h
  have hrun:(Instr.mapUpdate t (a.eval x) (a.eval y) (a.eval z)).run P w=.ok () { w with heap:=w.heap.setIfInBounds l.j (.map (es'.push { key:=a.eval y,val:=a.eval z,born:=clock }) (clock+1)) }:=by
   simp[h1,Instr.mapUpdate,run_underlying ht,MapKept.run_getObj_map Es,jV hd hk,MapKept.run_findKey hd q,MapKept.run_setObj_map _ Es,Result.andThen]
  refine uj.MB (w':=_) (by rw[hop];simp[hrun,Result.andThen];rfl) (hnext ι undef _ (Tr.update r hes rfl rfl hl (AB Es) ⟨_,_,rfl, ?_⟩) (VR.unit _))
  rw[Array.toList_push]
  exact NW h2 h3 hE
 ·simp only[Nat.zero_add,av,aI]at h
  obtain⟨rfl,rfl⟩:=h
  rw[Nat.zero_add]at q3
  have q6:es'[n]?=some e':=by rw[←Array.getElem?_toList];exact q2
  have hrun:(Instr.mapUpdate t (a.eval x) (a.eval y) (a.eval z)).run P w=.ok () { w with heap:=w.heap.setIfInBounds l.j (.map (es'.modify n λe=>{ e with key:=a.eval y,val:=a.eval z }) clock) }:=by
   simp[h1,Instr.mapUpdate,run_underlying ht,MapKept.run_getObj_map Es,jV hd hk,MapKept.run_findKey hd q3,q6,Instr.keyThatStays,q5,MapKept.run_setObj_map _ Es,Result.andThen]
  refine uj.MB (w':=_) (by rw[hop];simp[hrun,Result.andThen];rfl) (hnext ι undef _ (Tr.update r hes rfl rfl hl (AB Es) ⟨_,_,rfl, ?_⟩) (VR.unit _))
  rw[Array.toList_modify]
  exact Ji _ (λ_=>⟨h2,h3⟩) hE
theorem uj.lg {P:Program} {C:bH} {o:Oper} {t u kt el:TypeId} {kd:Kd} {d:TypeDesc} {x y:Operand} {ax ay:AX} (ho:o.op=.call { callee:=.builtin .delete,args:=#[x,y],argTypes:=#[t,u] })
  (ht:P.underlying t=some (.map kt el)) (hd:P.underlying kt=some d) (hk:R_ kd d=true) (hx:cX x=some ax) (hy:cX y=some ay):uj P C o (.lg kd ax ay):=by
 intro ι M e a w v M' next Q r he h hnext
 have h1:=dY hx he
 have h2:=dY hy he
 simp only[aN]at h
 unfold Ep at h
 split at h
 case h_2=>cases h
 rename_i b hb
 rw[hb]at h1
 split at h
 case h_2=>cases h
 rename_i es hes
 simp only[VR]at h1
 obtain⟨l,hl,h1⟩:=h1
 obtain⟨l',ob,hl',Es,es',clock,rfl,hE⟩:=r.blk b _ hes
 rw[hl]at hl'
 obtain rfl:=ak hl'
 obtain⟨f,hf,h⟩:=aF.1 h
 have hu:VR ι (.tuple []) (.tuple #[]):=by simp only[VR];exact⟨_,rfl,by simp[dQ]⟩
 rcases find_ok hk h2 hE hf with⟨rfl,q⟩ |⟨n,x',xk,e',rfl,q1,q2,q3,q4,q5⟩
 ·simp only[av,aI]at h
  obtain⟨rfl,rfl⟩:=h
  have hM:M.put b (some (.map es))=M:=by
   cases M with
   | mk g nx =>
    simp only[Heap.put,Heap.mk.injEq,and_true]
    funext i
    split
    ·rename_i e
     rw[e]
     exact hes.symm
    ·rfl
  have htr:=Tr.update (x':=.map es) (ob:=.map es' clock) (w':={ w with heap:=w.heap.setIfInBounds l.j (.map es' clock) }) r hes rfl rfl hl (AB Es) ⟨_,_,rfl,hE⟩
  rw[hM]at htr
  refine uj.of_run (v:=.tuple #[]) ?_ (hnext ι _ _ htr hu)
  simp[execOp,ho,resolve,invoke,builtin,Builtin.delete_,h1,run_underlying ht,MapKept.run_getObj_map Es,jV hd hk,MapKept.run_findKey hd q,MapKept.run_setObj_map _ Es,Result.andThen]
 ·simp only[Nat.zero_add,av,aI]at h
  obtain⟨rfl,rfl⟩:=h
  rw[Nat.zero_add]at q3
  refine uj.of_run (v:=.tuple #[]) (w':={ w with heap:=w.heap.setIfInBounds l.j (.map (es'.eraseIdxIfInBounds n) clock) }) ?_ (hnext ι _ _ (Tr.update r hes rfl rfl hl (AB Es) ⟨_,_,rfl, ?_⟩) hu)
  ·simp[execOp,ho,resolve,invoke,builtin,Builtin.delete_,h1,run_underlying ht,MapKept.run_getObj_map Es,jV hd hk,MapKept.run_findKey hd q3,MapKept.run_setObj_map _ Es,Result.andThen]
  ·have hn:n<es'.size:=by
    have:=(aM.1 q2).1
    simpa using this
   unfold Array.eraseIdxIfInBounds
   rw[dif_pos hn,Array.toList_eraseIdx]
   exact K4 hE
def NY(P:Program)(C:bH)(o:Oper):uT→Prop
 |.p p=>lT P o p
 |.l l=>R9 P o l
 |.k k=>KY P o k
 |.n n=>uj P C o n
def cEq(P:Program)(neg:Bool)(t:TypeId)(ax ay:AX):Option jZ :=
 match P.underlying t with
 | some .bool=>some (.TJ neg ax ay)
 | some (.struct _)=>match vQ P 20 t with
  | some ks=>if P.eqGuardType P.depth t=false then some (.TK neg ks ax ay)else none
  | none=>none
 | some (.pointer el)=>match l9 P el with
  | some (_+1)=>some (.TL neg ax ay)
  | _=>none
 | some (.slice _)=>some (.R4 neg ax ay)
 | _=>none
theorem TT{P:Program}{C:bH}{o:Oper}{neg:Bool}{t u:TypeId}{x y:Operand}{ax ay:AX}(ho:o.op=.binOp (if neg then .neq else .eql) t x y u)(hx:cX x=some ax)(hy:cX y=some ay){p:jZ}(h:cEq P neg t ax ay=some p):lT P o p:=by
 unfold cEq at h
 split at h
 ·rename_i hu
  obtain rfl:=ak h
  exact lT.TJ ho hu hx hy
 ·rename_i fs hu
  split at h
  case h_2=>cases h
  rename_i ks hk
  split at h
  case isFalse=>cases h
  rename_i hg
  obtain rfl:=ak h
  exact lT.TK ho hu hk hg hx hy
 ·rename_i el hu
  split at h
  case h_2=>cases h
  rename_i n hn
  obtain rfl:=ak h
  exact lT.TL ho hu hn hx hy
 ·rename_i el hu
  obtain rfl:=ak h
  exact lT.R4 ho hu hx hy
 ·cases h
def aai(P:Program)(op:BinOp)(t:TypeId)(ax ay:AX):Option jZ :=
 match P.underlying t with
 | some (.int _) | some .string=>some (.bin op ax ay)
 | _=>match op with
  |.eql=>cEq P false t ax ay
  |.neq=>cEq P true t ax ay
  | _=>none
theorem Xh{P:Program}{C:bH}{o:Oper}{op:BinOp}{t u:TypeId}{x y:Operand}{ax ay:AX}(ho:o.op=.binOp op t x y u)(hx:cX x=some ax)(hy:cX y=some ay){p:jZ}(h:aai P op t ax ay=some p):lT P o p:=by
 unfold aai at h
 split at h
 ·obtain rfl:=ak h
  exact lT.bin ho hx hy
 ·obtain rfl:=ak h
  exact lT.bin ho hx hy
 ·split at h
  ·exact TT (C:=C) (neg:=false) (by simpa using ho) hx hy h
  ·exact TT (C:=C) (neg:=true) (by simpa using ho) hx hy h
  ·cases h
def TU(P:Program)(s d:TypeId)(ax:AX):Option uT :=
 match P.underlying s,P.underlying d with
 | some .string,some .string=>some (.p (.BS ax))
 | some .string,some (.slice el)=>match P.underlying el with
  | some (.int .u8)=>some (.k (.l6 ax))
  | _=>none
 | some (.slice el),some .string=>match P.underlying el with
  | some (.int .u8)=>some (.l (.jF ax))
  | _=>none
 | some (.int _),some (.int k)=>some (.p (.Bg k ax))
 | some (.slice el),some (.slice _)=>if s=d then match P.underlying el with
   | some (.int .u8)=>some (.n (.qO ax))
   | _=>none
  else none
 | _,_=>none
theorem TV{P:Program}{C:bH}{o:Oper}{s d:TypeId}{x:Operand}{ax:AX}(ho:o.op=.convert s d x)(hx:cX x=some ax){a:uT}(h:TU P s d ax=some a):NY P C o a:=by
 unfold TU at h
 split at h
 ·rename_i h1 h2
  obtain rfl:=ak h
  exact lT.BS ho h1 h2 hx
 ·rename_i el h1 h2
  split at h
  case h_2=>cases h
  rename_i h3
  obtain rfl:=ak h
  exact KY.l6 ho h1 h2 h3 hx
 ·rename_i el h1 h2
  split at h
  case h_2=>cases h
  rename_i h3
  obtain rfl:=ak h
  exact R9.jF ho h1 h3 h2 hx
 ·rename_i k' k h1 h2
  obtain rfl:=ak h
  exact lT.Bg ho (by rw[h1];rfl) h2 hx
 ·rename_i el el' h1 h2
  split at h
  case isFalse=>cases h
  rename_i hsd
  subst hsd
  split at h
  case h_2=>cases h
  rename_i h3
  obtain rfl:=ak h
  exact uj.qO ho h1 h3 hx
 ·cases h
def TW(P:Program)(t:TypeId)(ax:AX)(lo hi mx:Option AX):Option jZ :=
 match P.underlying t with
 | some .string=>match mx with
  | none=>some (.lD ax lo hi)
  | some _=>none
 | some (.slice el)=>match l9 P el with
  | some n=>some (.slice n ax lo hi mx)
  | none=>none
 | _=>none
def ZA(P:Program)(t:TypeId)(ax ai:AX):Option jZ :=
 match P.underlying t with
 | some (.array m el)=>match l9 P el with
  | some n=>some (.l5 m n ax ai)
  | none=>none
 | some (.slice el)=>match l9 P el with
  | some n=>some (.jE n ax ai)
  | none=>none
 | _=>none
def TY(P:Program)(t:TypeId)(ax ai:AX):Option jZ :=
 match P.underlying t with
 | some .string=>some (.n_ ax ai)
 | some (.array m el)=>match xC P el,l9 P el with
  | some g,some n=>some (.index g m n ax ai)
  | _,_=>none
 | _=>none
def MC(P:Program)(t:TypeId)(f:Nat)(addr:Bool)(ax:AX):Option jZ :=
 match P.underlying t with
 | some (.struct fs)=>match fs[f]? with
  | some fd=>match addr,xC P fd.type,l9 P fd.type with
   | true,_,some (_+1)=>some (.fieldAddr fd.offset ax)
   | false,some g,some n=>some (.field g fd.offset n ax)
   | _,_,_=>none
  | none=>none
 | _=>none
def Ca(P:Program)(t:TypeId)(len:Nat)(parts:List (Nat×Operand)):Option Bh :=
 match P.underlying t with
 | some (.slice el)=>match l9 P el,zeroOf P el with
  | some (n+1),some zero=>match zi (λi=>some (i*(n+1),n+1)) parts with
   | some al =>
    let bl:=al.zip parts |>.map λp=>(p.2.1,p.1.2.2)
    if len*(n+1)≤16777216∧zero.length=n+1 then some (.buildSlice (n+1) len zero bl)else none
   | none=>none
  | _,_=>none
 | _=>none
theorem Jj{P:Program}{o:Oper}{t:TypeId}{len:Nat}{parts:Array (Nat×Operand)}(ho:o.op=.buildSlice t len parts){k:Bh}(h:Ca P t len parts.toList=some k):KY P o k:=by
 unfold Ca at h
 split at h
 case h_2=>cases h
 rename_i el hu
 split at h
 case h_2=>cases h
 rename_i n zero hn hz
 split at h
 case h_2=>cases h
 rename_i al hal
 simp only at h
 split at h
 case isFalse=>cases h
 rename_i hc
 obtain rfl:=ak h
 refine KY.buildSlice ho hu hn (by omega) hc.1 hz hc.2 ?_
 rw[hal]
 congr 1
 clear hz hc h ho
 generalize parts.toList=l at hal
 induction l generalizing al with
 | nil =>
  simp only[zi,av]at hal
  subst hal
  rfl
 | cons q l ih =>
  obtain⟨i,x⟩:=q
  simp only[zi]at hal
  split at hal
  case h_2=>cases hal
  rename_i p ax al' h1 h2 h3
  obtain rfl:=ak hal
  obtain rfl:=ak h1
  simp only[List.zip_cons_cons,List.map_cons]
  rw[←ih _ h3]
def Q6(P:Program)(t u:TypeId)(ax ay:AX):Option vO :=
 match P.underlying t with
 | some (.slice el)=>match P.info? el,zeroOf P el with
  | some i,some zero=>if 0<i.size∧zero.length=i.size then
    match P.underlying u with
    | some .string | some (.slice _)=>some (.append i.size i.bytes ax ay)
    | some (.int _)=>some (.r9 i.size i.bytes zero ax ay)
    | _=>none
   else none
  | _,_=>none
 | _=>none
def cLen(P:Program)(t:TypeId)(ax:AX):Option jZ :=
 match P.underlying t with
 | some .string=>some (.len true ax)
 | some (.slice _)=>some (.len false ax)
 | some (.array n _)=>some (.move (.c (.int .i64 n)))
 | _=>none
def aaj:TypeDesc→Option Kd
 |.bool=>some .b
 |.int _=>some .i
 |.string=>some .s
 | _=>none
theorem Xi{d:TypeDesc}{kd:Kd}(h:aaj d=some kd):R_ kd d=true:=by
 unfold aaj at h
 split at h<;>first |(obtain rfl:=ak h;rfl) | cases h
def Sb(P:Program)(t:TypeId):Option (Kd×TypeId) :=
 match P.underlying t with
 | some (.map kt el)=>match P.underlying kt with
  | some d=>(aaj d).map λk=>(k,el)
  | none=>none
 | _=>none
theorem Fh{P:Program}{t:TypeId}{p:Kd×TypeId}(h:Sb P t=some p):∃kt d,P.underlying t=some (.map kt p.2)∧P.underlying kt=some d∧R_ p.1 d=true:=by
 unfold Sb at h
 split at h
 case h_2=>cases h
 rename_i kt el hu
 split at h
 case h_2=>cases h
 rename_i d hd
 obtain⟨k,hk,rfl⟩:=aC.1 h
 exact⟨kt,d,hu,hd,Xi hk⟩
def T9(P:Program)(t:TypeId):Option AV:=match P.info? t with
 | some i=>match i.zero with
  | some z=>KV z
  | none=>none
 | none=>none
theorem T_{P:Program}{t:TypeId}{a:AV}(h:T9 P t=some a):∃i z,P.info? t=some i∧i.zero=some z∧KV z=some a:=by
 unfold T9 at h
 split at h
 case h_2=>cases h
 rename_i i hi
 split at h
 case h_2=>cases h
 rename_i z hz
 exact⟨i,z,hi,hz,h⟩
def Ua(P:Program)(c:Call):Option uT :=
 match c with
 |⟨.value f,args,_⟩=>match cX f,TM args.toList with
  | some af,some al=>some (.n (.call af al))
  | _,_=>none
 |⟨.builtin .len,⟨[x]⟩,⟨[t]⟩⟩=>(cX x).bind λax=>match Sb P t with
  | some _=>some (.l (.qV ax))
  | none=>(cLen P t ax).map .p
 |⟨.builtin .delete,⟨[x,y]⟩,⟨[t,_]⟩⟩=>match cX x,cX y,Sb P t with
  | some ax,some ay,some p=>some (.n (.lg p.1 ax ay))
  | _,_,_=>none
 |⟨.builtin .cap,⟨[x]⟩,⟨[t]⟩⟩=>match P.underlying t with
  | some (.slice _)=>(cX x).map λax=>.p (.cap ax)
  | _=>none
 |⟨.builtin .append,⟨[x,y]⟩,⟨[t,u]⟩⟩=>match cX x,cX y with
  | some ax,some ay=>(Q6 P t u ax ay).map .n
  | _,_=>none
 |⟨.builtin .copy,⟨[x,y]⟩,⟨[t,u]⟩⟩=>match cX x,cX y,P.underlying t with
  | some ax,some ay,some (.slice el)=>(l9 P el).map λn=>.n (.copy n ax ay)
  | _,_,_=>none
 |⟨.builtin .clear,⟨[x]⟩,⟨[t]⟩⟩=>match cX x,P.underlying t with
  | some ax,some (.slice el)=>match l9 P el,zeroOf P el with
   | some n,some zero=>if zero.length=n then some (.n (.clear n zero ax))else none
   | _,_=>none
  | _,_=>none
 |⟨.builtin .max,args,_⟩=>(TM args.toList).map λal=>.p (.rZ true al)
 |⟨.builtin .min,args,_⟩=>(TM args.toList).map λal=>.p (.rZ false al)
 | _=>none
theorem Ub{P:Program}{C:bH}(hC:sj P C){o:Oper}{c:Call}(ho:o.op=.call c){a:uT}(h:Ua P c=some a):NY P C o a:=by
 unfold Ua at h
 split at h
 ·rename_i f args ts
  split at h
  case h_2=>cases h
  rename_i af al h1 h2
  obtain rfl:=ak h
  exact uj.call hC ho h1 h2
 ·rename_i x t
  obtain⟨ax,hx,h⟩:=aF.1 h
  split at h
  ·rename_i q hq
   obtain⟨kt,d,hu,_,_⟩:=Fh hq
   obtain rfl:=ak h
   exact R9.qV ho hu hx
  obtain⟨p,hp,rfl⟩:=aC.1 h
  unfold cLen at hp
  split at hp
  ·rename_i hu
   obtain rfl:=ak hp
   exact lT.lenStr ho hu hx
  ·rename_i hu
   obtain rfl:=ak hp
   exact lT.TN ho hu hx
  ·rename_i hu
   obtain rfl:=ak hp
   exact lT.aag ho hu
  ·cases hp
 ·rename_i x y t u
  split at h
  case h_2=>cases h
  rename_i ax ay p hx hy hp
  obtain rfl:=ak h
  obtain⟨kt,d,hu,hd,hk⟩:=Fh hp
  exact uj.lg ho hu hd hk hx hy
 ·rename_i x t
  split at h
  case h_2=>cases h
  rename_i hu
  obtain⟨ax,hx,rfl⟩:=aC.1 h
  exact lT.cap ho hu hx
 ·rename_i x y t u
  split at h
  case h_2=>cases h
  rename_i ax ay hx hy
  obtain⟨n,hn,rfl⟩:=aC.1 h
  unfold Q6 at hn
  split at hn
  case h_2=>cases hn
  rename_i el hu
  split at hn
  case h_2=>cases hn
  rename_i i zero hi hz
  split at hn
  case isFalse=>cases hn
  rename_i hc
  split at hn
  ·rename_i hv
   obtain rfl:=ak hn
   exact uj.append ho hu (.inl hv) hi hc.1 hz hc.2 hx hy
  ·rename_i e' hv
   obtain rfl:=ak hn
   exact uj.append ho hu (.inr ⟨_,hv⟩) hi hc.1 hz hc.2 hx hy
  ·rename_i k hv
   obtain rfl:=ak hn
   exact uj.r9 ho hu ⟨_,hv⟩ hi hc.1 hz hc.2 hx hy
  ·cases hn
 ·rename_i x y t u
  split at h
  case h_2=>cases h
  rename_i ax ay el hx hy hu
  obtain⟨n,hn,rfl⟩:=aC.1 h
  exact uj.copy ho hu hn hx hy
 ·rename_i x t
  split at h
  case h_2=>cases h
  rename_i ax el hx hu
  split at h
  case h_2=>cases h
  rename_i n zero hn hz
  split at h
  case isFalse=>cases h
  rename_i hc
  obtain rfl:=ak h
  exact uj.clear ho hu hn hz hc hx
 ·rename_i args ts
  obtain⟨al,hal,rfl⟩:=aC.1 h
  exact lT.rZ (isMax:=true) (by simpa using ho) hal
 ·rename_i args ts
  obtain⟨al,hal,rfl⟩:=aC.1 h
  exact lT.rZ (isMax:=false) (by simpa using ho) hal
 ·cases h
theorem Uc{m:Option Operand}(h:Mw m=some none):m=none:=by
 cases m with
 | none=>rfl
 | some m =>
  simp only[Mw]at h
  obtain⟨_,_,h5⟩:=aC.1 h
  cases h5
def Xj(P:Program)(op:Op):Option uT :=
 match op with
 |.move x |.assign x=>(cX x).map λx=>.p (.move x)
 |.pick c a b=>match cX c,cX a,cX b with
  | some c,some a,some b=>some (.p (.pick c a b))
  | _,_,_=>none
 |.alloc t=>(zeroOf P t).map λz=>.k (.alloc z)
 |.box _ x=>(cX x).map λx=>.k (.box x)
 |.build t parts=>if buildable P t then (match zeroOf P t,zi (placeOf P t) parts.toList with
  | some z,some al=>some (.p (.build z al))
  | _,_=>none)else none
 |.buildSlice t len parts=>(Ca P t len parts.toList).map .k
 |.load t x=>match xC P t,l9 P t,cX x with
  | some g,some n,some x=>some (.l (.load g n x))
  | _,_,_=>none
 |.store t x y=>match l9 P t,cX x,cX y with
  | some n,some x,some y=>some (.n (.store n x y))
  | _,_,_=>none
 |.nilCheck x=>(cX x).map λx=>.p (.nilCheck x)
 |.binOp op t x y _=>match cX x,cX y with
  | some x,some y=>(aai P op t x y).map .p
  | _,_=>none
 |.unOp op _ x=>(cX x).map λx=>.p (.un op x)
 |.convert s d x=>(cX x).bind λx=>TU P s d x
 |.makeFunc (.func f) ⟨[]⟩ caps=>(TM caps.toList).map λl=>.p (.vP f l)
 |.makeMap _ none=>some (.k .makeMap)
 |.lookup t x y ok=>match Sb P t,cX x,cX y with
  | some p,some x,some y=>(T9 P p.2).map λz=>.l (.lookup p.1 ok z x y)
  | _,_,_=>none
 |.mapUpdate t x y z |.insert t x y z=>match Sb P t,cX x,cX y,cX z with
  | some p,some x,some y,some z=>some (.n (.mapUpdate p.1 x y z))
  | _,_,_,_=>none
 |.makeSlice t l c=>match P.underlying t with
  | some (.slice el)=>match P.info? el,zeroOf P el,cX l,cX c with
   | some i,some z,some l,some c=>if 0<i.size∧z.length=i.size then some (.k (.makeSlice i.size i.bytes z l c))else none
   | _,_,_,_=>none
  | _=>none
 |.slice t x lo hi mx=>match cX x,Mw lo,Mw hi,Mw mx with
  | some x,some lo,some hi,some mx=>(TW P t x lo hi mx).map .p
  | _,_,_,_=>none
 |.fieldAddr t x f=>(cX x).bind λx=>(MC P t f true x).map .p
 |.field t x f=>(cX x).bind λx=>(MC P t f false x).map .p
 |.indexAddr t x i=>match cX x,cX i with
  | some x,some i=>(ZA P t x i).map .p
  | _,_=>none
 |.index t x i=>match cX x,cX i with
  | some x,some i=>(TY P t x i).map .p
  | _,_=>none
 |.extract x i=>(cX x).map λx=>.p (.extract x i)
 |.call c=>Ua P c
 | _=>none
theorem Xk{P:Program}{C:bH}(hC:sj P C){o:Oper}{a:uT}(h:Xj P o.op=some a):NY P C o a:=by
 generalize ho:o.op=op at h
 unfold Xj at h
 split at h
 ·obtain⟨x,hx,rfl⟩:=aC.1 h
  exact lT.move (.inl ho) hx
 ·obtain⟨x,hx,rfl⟩:=aC.1 h
  exact lT.move (.inr ho) hx
 ·split at h
  case h_2=>cases h
  rename_i h1 h2 h3
  obtain rfl:=ak h
  exact lT.pick ho h1 h2 h3
 ·obtain⟨x,hx,rfl⟩:=aC.1 h
  exact KY.alloc ho hx
 ·obtain⟨x,hx,rfl⟩:=aC.1 h
  exact KY.box ho hx
 ·split at h
  case isFalse=>cases h
  rename_i hb
  split at h
  case h_2=>cases h
  rename_i h1 h2
  obtain rfl:=ak h
  exact lT.build ho hb h1 h2
 ·obtain⟨x,hx,rfl⟩:=aC.1 h
  exact Jj ho hx
 ·split at h
  case h_2=>cases h
  rename_i h1 h2 h3
  obtain rfl:=ak h
  exact R9.load ho h1 h2 h3
 ·split at h
  case h_2=>cases h
  rename_i h1 h2 h3
  obtain rfl:=ak h
  exact uj.store ho h1 h2 h3
 ·obtain⟨x,hx,rfl⟩:=aC.1 h
  exact lT.nilCheck ho hx
 ·split at h
  case h_2=>cases h
  rename_i h1 h2
  obtain⟨p,hp,rfl⟩:=aC.1 h
  exact Xh (C:=C) ho h1 h2 hp
 ·obtain⟨x,hx,rfl⟩:=aC.1 h
  exact lT.un ho hx
 ·obtain⟨x,hx,h⟩:=aF.1 h
  exact TV ho hx h
 ·obtain⟨x,hx,rfl⟩:=aC.1 h
  exact lT.vP ho hx
 ·obtain rfl:=ak h
  exact KY.makeMap ho
 ·split at h
  case h_2=>cases h
  rename_i p ax ay hp hx hy
  obtain⟨z,hz,rfl⟩:=aC.1 h
  obtain⟨kt,d,hu,hd,hk⟩:=Fh hp
  obtain⟨i,zv,hi,hz1,hz2⟩:=T_ hz
  exact R9.lookup ho hu hd hk hi hz1 hz2 hx hy
 ·split at h
  case h_2=>cases h
  rename_i p ax ay az hp hx hy hz
  obtain rfl:=ak h
  obtain⟨kt,d,hu,hd,hk⟩:=Fh hp
  exact uj.mapUpdate (.inl ho) hu hd hk hx hy hz
 ·split at h
  case h_2=>cases h
  rename_i p ax ay az hp hx hy hz
  obtain rfl:=ak h
  obtain⟨kt,d,hu,hd,hk⟩:=Fh hp
  exact uj.mapUpdate (.inr ho) hu hd hk hx hy hz
 ·split at h
  case h_2=>cases h
  rename_i hu
  split at h
  case h_2=>cases h
  rename_i h1 h2 h3 h4
  split at h
  case isFalse=>cases h
  rename_i hc
  obtain rfl:=ak h
  exact KY.makeSlice ho hu h1 hc.1 h2 hc.2 h3 h4
 ·split at h
  case h_2=>cases h
  rename_i h1 h2 h3 h4
  obtain⟨p,hp,rfl⟩:=aC.1 h
  unfold TW at hp
  split at hp
  ·rename_i hu
   split at hp
   ·obtain rfl:=ak hp
    obtain rfl:=Uc h4
    exact lT.lD ho hu h1 h2 h3
   ·cases hp
  ·rename_i hu
   split at hp
   case h_2=>cases hp
   rename_i hn
   obtain rfl:=ak hp
   exact lT.slice ho hu hn h1 h2 h3 h4
  ·cases hp
 ·obtain⟨x,hx,h⟩:=aF.1 h
  obtain⟨p,hp,rfl⟩:=aC.1 h
  unfold MC at hp
  split at hp
  case h_2=>cases hp
  rename_i hu
  split at hp
  case h_2=>cases hp
  rename_i fd hf
  split at hp
  ·rename_i hn
   obtain rfl:=ak hp
   exact lT.fieldAddr ho hu hf hn hx
  ·contradiction
  ·cases hp
 ·obtain⟨x,hx,h⟩:=aF.1 h
  obtain⟨p,hp,rfl⟩:=aC.1 h
  unfold MC at hp
  split at hp
  case h_2=>cases hp
  rename_i hu
  split at hp
  case h_2=>cases hp
  rename_i fd hf
  split at hp
  ·contradiction
  ·rename_i hg hn
   obtain rfl:=ak hp
   exact lT.field ho hu hf hg hn hx
  ·cases hp
 ·split at h
  case h_2=>cases h
  rename_i h1 h2
  obtain⟨p,hp,rfl⟩:=aC.1 h
  unfold ZA at hp
  split at hp
  ·rename_i hu
   split at hp
   case h_2=>cases hp
   rename_i hn
   obtain rfl:=ak hp
   exact lT.l5 ho hu hn h1 h2
  ·rename_i hu
   split at hp
   case h_2=>cases hp
   rename_i hn
   obtain rfl:=ak hp
   exact lT.jE ho hu hn h1 h2
  ·cases hp
 ·split at h
  case h_2=>cases h
  rename_i h1 h2
  obtain⟨p,hp,rfl⟩:=aC.1 h
  unfold TY at hp
  split at hp
  ·rename_i hu
   obtain rfl:=ak hp
   exact lT.n_ ho hu h1 h2
  ·rename_i hu
   split at hp
   case h_2=>cases hp
   rename_i hg hn
   obtain rfl:=ak hp
   exact lT.index ho hu hg hn h1 h2
  ·cases hp
 ·obtain⟨x,hx,rfl⟩:=aC.1 h
  exact lT.extract ho hx
 ·exact Ub hC ho h
 ·cases h
def cOp(P:Program)(op:Op):uT:=(Xj P op).getD (.n .fail)
theorem Ud{P:Program}{C:bH}(hC:sj P C)(o:Oper):NY P C o (cOp P o.op):=by
 unfold cOp
 cases h:Xj P o.op with
 | none=>exact uj.fail
 | some a=>exact Xk hC h
def AX.rd:AX→List Nat
 |.t n=>[n]
 |.c _=>[]
def AX.rds(l:List AX):List Nat:=l.flatMap AX.rd
def rdO(x:Option AX):List Nat:=x.elim [] AX.rd
def jZ.rd:jZ→List Nat
 |.move x |.nilCheck x |.un _ x |.Bg _ x |.BS x |.fieldAddr _ x |.field _ _ _ x |.extract x _ |.len _ x |.cap x=>x.rd
 |.pick c a b=>c.rd++a.rd++b.rd
 |.build _ ps=>ps.flatMap λp=>p.2.2.rd
 |.bin _ x y |.TJ _ x y |.TK _ _ x y |.TL _ x y |.R4 _ x y |.l5 _ _ x y |.jE _ x y |.index _ _ _ x y |.n_ x y=>x.rd++y.rd
 |.vP _ l |.rZ _ l=>AX.rds l
 |.lD x lo hi=>x.rd++rdO lo++rdO hi
 |.slice _ x lo hi mx=>x.rd++rdO lo++rdO hi++rdO mx
def rY.rd:rY→List Nat
 |.load _ _ x |.jF x |.qV x=>x.rd
 |.lookup _ _ _ x k=>x.rd++k.rd
def Bh.rd:Bh→List Nat
 |.alloc _ |.makeMap=>[]
 |.box x |.l6 x=>x.rd
 |.buildSlice _ _ _ ps=>ps.flatMap λp=>p.2.rd
 |.makeSlice _ _ _ l c=>l.rd++c.rd
def vO.rd:vO→List Nat
 |.store _ a v=>a.rd++v.rd
 |.call f l=>f.rd++AX.rds l
 |.append _ _ s x=>s.rd++x.rd
 |.r9 _ _ _ s x=>s.rd++x.rd
 |.copy _ s x=>s.rd++x.rd
 |.clear _ _ x=>x.rd
 |.mapUpdate _ m k v=>m.rd++k.rd++v.rd
 |.lg _ m k=>m.rd++k.rd
 |.qO x=>x.rd
 |.fail=>[]
def uT.rd:uT→List Nat
 |.p o=>o.rd
 |.l o=>o.rd
 |.k o=>o.rd
 |.n o=>o.rd
def pX.rd(o:pX):List Nat:=(match o.guard with | some (t,_)=>[t] | none=>[])++o.op.rd
def Agree(l:List Nat)(e e':Env):Prop:=∀t,t∈l→e.getD t .undef=e'.getD t .undef
theorem AX.zV{x:AX}{e e':Env}{l:List Nat}(h:Agree l e e')(hx:∀t,t∈x.rd→t∈l):x.ev e=x.ev e':=by
 cases x with
 | t n=>exact h n (hx n (by simp[AX.rd]))
 | c v=>rfl
theorem AX.Gt{l:List AX}{e e':Env}{r:List Nat}(h:Agree r e e')(hx:∀t,t∈AX.rds l→t∈r):l.map (AX.ev e)=l.map (AX.ev e'):=by
 refine List.map_congr_left λx hm=>AX.zV h λt ht=>hx t ?_
 simp only[AX.rds,List.mem_flatMap]
 exact⟨x,hm,ht⟩
theorem qy{x:Option AX}{e e':Env}{r:List Nat}(h:Agree r e e')(hx:∀t,t∈rdO x→t∈r)(a b:Nat):bT e x a b=bT e' x a b:=by
 cases x with
 | none=>rfl
 | some x=>simp only[bT];rw[AX.zV h (λt ht=>hx t (by simpa[rdO]using ht))]
theorem Ue{o:jZ}{e e':Env}(h:Agree o.rd e e'):aP o e=aP o e':=by
 have one:∀x:AX,(∀t,t∈x.rd→t∈o.rd)→x.ev e=x.ev e':=λx hx=>AX.zV h hx
 cases o with
 | build z ps =>
  simp only[aP]
  have:(ps.map λp=>(p.1,p.2.1,p.2.2.ev e))=ps.map λp=>(p.1,p.2.1,p.2.2.ev e'):=by
   refine List.map_congr_left λp hp=>?_
   rw[one p.2.2 (λt ht=>by simp only[jZ.rd,List.mem_flatMap];exact⟨p,hp,ht⟩)]
  rw[this]
 | vP f l=>simp only[aP];rw[AX.Gt h (λt ht=>by simpa[jZ.rd]using ht)]
 | rZ m l=>simp only[aP];rw[AX.Gt h (λt ht=>by simpa[jZ.rd]using ht)]
 | lD x lo hi =>
  simp only[aP,xu]
  rw[one x (λt ht=>by simp[jZ.rd,ht])]
  simp only[qy h (x:=lo) (λt ht=>by simp[jZ.rd,ht]),qy h (x:=hi) (λt ht=>by simp[jZ.rd,ht])]
 | slice n x lo hi mx =>
  simp only[aP,iG]
  rw[one x (λt ht=>by simp[jZ.rd,ht])]
  simp only[qy h (x:=lo) (λt ht=>by simp[jZ.rd,ht]),qy h (x:=hi) (λt ht=>by simp[jZ.rd,ht]),qy h (x:=mx) (λt ht=>by simp[jZ.rd,ht])]
 | pick c a b=>simp only[aP];rw[one c (λt ht=>by simp[jZ.rd,ht]),one a (λt ht=>by simp[jZ.rd,ht]),one b (λt ht=>by simp[jZ.rd,ht])]
 | bin _ x y | TJ _ x y | TK _ _ x y | TL _ x y | R4 _ x y | l5 _ _ x y | jE _ x y | index _ _ _ x y | n_ x y =>
  simp only[aP];rw[one x (λt ht=>by simp[jZ.rd,ht]),one y (λt ht=>by simp[jZ.rd,ht])]
 | move x | nilCheck x | un _ x | Bg _ x | BS x | fieldAddr _ x | field _ _ _ x | extract x _ | len _ x | cap x =>
  simp only[aP];rw[one x (λt ht=>by simpa[jZ.rd]using ht)]
theorem NZ{o:rY}{e e':Env}(h:Agree o.rd e e')(M:Heap):aL o e M=aL o e' M:=by
 have one:∀x:AX,(∀t,t∈x.rd→t∈o.rd)→x.ev e=x.ev e':=λx hx=>AX.zV h hx
 cases o with
 | lookup _ _ _ x y=>simp only[aL];rw[one x (λt ht=>by simp[rY.rd,ht]),one y (λt ht=>by simp[rY.rd,ht])]
 | load _ _ x | jF x | qV x=>simp only[aL];rw[one x (λt ht=>by simpa[rY.rd]using ht)]
theorem Uf{o:Bh}{e e':Env}(h:Agree o.rd e e'):aK o e=aK o e':=by
 have one:∀x:AX,(∀t,t∈x.rd→t∈o.rd)→x.ev e=x.ev e':=λx hx=>AX.zV h hx
 cases o with
 | alloc _=>rfl
 | makeMap=>rfl
 | buildSlice sz len z ps =>
  simp only[aK]
  have:(ps.map λp=>(p.1*sz,sz,p.2.ev e))=ps.map λp=>(p.1*sz,sz,p.2.ev e'):=by
   refine List.map_congr_left λp hp=>?_
   rw[one p.2 (λt ht=>by simp only[Bh.rd,List.mem_flatMap];exact⟨p,hp,ht⟩)]
  rw[this]
 | makeSlice _ _ _ x y=>simp only[aK];rw[one x (λt ht=>by simp[Bh.rd,ht]),one y (λt ht=>by simp[Bh.rd,ht])]
 | box x | l6 x=>simp only[aK];rw[one x (λt ht=>by simpa[Bh.rd]using ht)]
theorem Ug{C:bH}{o:vO}{e e':Env}(h:Agree o.rd e e')(M:Heap):aN C o e M=aN C o e' M:=by
 have one:∀x:AX,(∀t,t∈x.rd→t∈o.rd)→x.ev e=x.ev e':=λx hx=>AX.zV h hx
 cases o with
 | fail=>rfl
 | call f l=>simp only[aN];rw[one f (λt ht=>by simp[vO.rd,ht]),AX.Gt h (λt ht=>by simp[vO.rd,ht])]
 | mapUpdate _ x y z=>simp only[aN];rw[one x (λt ht=>by simp[vO.rd,ht]),one y (λt ht=>by simp[vO.rd,ht]),one z (λt ht=>by simp[vO.rd,ht])]
 | clear _ _ x | qO x=>simp only[aN];rw[one x (λt ht=>by simpa[vO.rd]using ht)]
 | store _ x y | append _ _ x y | r9 _ _ _ x y | copy _ x y | lg _ x y =>
  simp only[aN];rw[one x (λt ht=>by simp[vO.rd,ht]),one y (λt ht=>by simp[vO.rd,ht])]
def Heap.Sub(X Y:Heap):Prop:=∀b x,X.get b=some x→Y.get b=some x
theorem Jk{X Y:Heap}(h:X.Sub Y){b o n:Nat}{l:List AV}(hr:X.read b o n=some l):Y.read b o n=some l:=by
 unfold Heap.read at hr ⊢
 cases hb:X.get b with
 | none=>simp[hb]at hr
 | some x=>rw[hb]at hr;rw[h b x hb];exact hr
theorem Uh{o:rY}{e:Env}{X Y:Heap}(h:X.Sub Y){v:AV}(hv:aL o e X=some v):aL o e Y=some v:=by
 cases o with
 | load g n x =>
  simp only[aL,yI]at hv ⊢
  split at hv
  case h_2=>cases hv
  rename_i b o' hx
  cases g with
  | true =>
   simp only[if_true]at hv ⊢
   obtain⟨l,hl,rfl⟩:=aC.1 hv
   rw[Jk h hl]
   rfl
  | false =>
   simp only[Bool.false_eq_true,if_false]at hv ⊢
   cases hb:X.get b with
   | none=>simp[hb]at hv
   | some x=>rw[hb]at hv;rw[h b x hb];exact hv
 | jF x =>
  simp only[aL,o8]at hv ⊢
  split at hv
  ·exact hv
  ·split at hv
   ·rename_i h0
    rw[if_pos h0]
    exact hv
   rename_i h0
   rw[if_neg h0]
   obtain⟨l,hl,rfl⟩:=aC.1 hv
   obtain⟨cs,hcs,hl⟩:=aF.1 hl
   rw[Jk h hcs]
   simp[hl]
  ·cases hv
 | qV x =>
  simp only[aL]at hv ⊢
  obtain⟨l,hl,rfl⟩:=aC.1 hv
  rw[Fj h hl]
  rfl
 | lookup kd ok z x k =>
  simp only[aL,E9]at hv ⊢
  obtain⟨l,hl,hv⟩:=aF.1 hv
  rw[Fj h hl]
  exact hv
 where
 Fj {X Y:Heap} (h:X.Sub Y) {v:AV} {l:List (AV×AV)} (hl:og v X=some l):og v Y=some l:=by
  unfold og at hl ⊢
  split at hl
  ·exact hl
  ·rename_i r
   cases hb:X.get r with
   | none=>simp[hb]at hl
   | some x=>rw[hb]at hl;rw[h r x hb];exact hl
  ·cases hl
mutual
theorem AV.Jl:∀(a b:AV),AV.same a b=true→a=b
 |.bool a,.bool b,h=>by simpa[AV.same]using h
 |.int k a,.int k' b,h=>by simp[AV.same]at h;rw[h.1,h.2]
 |.str a,.str b,h=>by simpa[AV.same]using h
 |.ptr a,.ptr b,h=>by simpa[AV.same]using h
 |.slice a s l c e,.slice a' s' l' c' e',h=>by simp[AV.same]at h;obtain⟨⟨⟨⟨rfl,rfl⟩,rfl⟩,rfl⟩,rfl⟩:=h;rfl
 |.map a,.map b,h=>by simpa[AV.same]using h
 |.func f cs,.func f' cs',h=>by
  simp[AV.same]at h
  rw[h.1,AV.yN cs cs' h.2]
 |.nilFunc,.nilFunc,_=>rfl
 |.agg a,.agg b,h=>by rw[AV.yN a b (by simpa[AV.same]using h)]
 |.tuple a,.tuple b,h=>by rw[AV.yN a b (by simpa[AV.same]using h)]
 |.undef,_,h=>by simp[AV.same]at h
 |.list ..,_,h=>by simp[AV.same]at h
 |.elem _,_,h=>by simp[AV.same]at h
 |.acc ..,_,h=>by simp[AV.same]at h
 |.bool _,.undef,h |.bool _,.int ..,h |.bool _,.str _,h |.bool _,.ptr _,h |.bool _,.slice ..,h |.bool _,.map _,h |.bool _,.func ..,h |.bool _,.nilFunc,h |.bool _,.agg _,h |.bool _,.tuple _,h |.bool _,.list ..,h |.bool _,.elem _,h |.bool _,.acc ..,h=>by simp[AV.same]at h
 |.int ..,.undef,h |.int ..,.bool _,h |.int ..,.str _,h |.int ..,.ptr _,h |.int ..,.slice ..,h |.int ..,.map _,h |.int ..,.func ..,h |.int ..,.nilFunc,h |.int ..,.agg _,h |.int ..,.tuple _,h |.int ..,.list ..,h |.int ..,.elem _,h |.int ..,.acc ..,h=>by simp[AV.same]at h
 |.str _,.undef,h |.str _,.bool _,h |.str _,.int ..,h |.str _,.ptr _,h |.str _,.slice ..,h |.str _,.map _,h |.str _,.func ..,h |.str _,.nilFunc,h |.str _,.agg _,h |.str _,.tuple _,h |.str _,.list ..,h |.str _,.elem _,h |.str _,.acc ..,h=>by simp[AV.same]at h
 |.ptr _,.undef,h |.ptr _,.bool _,h |.ptr _,.int ..,h |.ptr _,.str _,h |.ptr _,.slice ..,h |.ptr _,.map _,h |.ptr _,.func ..,h |.ptr _,.nilFunc,h |.ptr _,.agg _,h |.ptr _,.tuple _,h |.ptr _,.list ..,h |.ptr _,.elem _,h |.ptr _,.acc ..,h=>by simp[AV.same]at h
 |.slice ..,.undef,h |.slice ..,.bool _,h |.slice ..,.int ..,h |.slice ..,.str _,h |.slice ..,.ptr _,h |.slice ..,.map _,h |.slice ..,.func ..,h |.slice ..,.nilFunc,h |.slice ..,.agg _,h |.slice ..,.tuple _,h |.slice ..,.list ..,h |.slice ..,.elem _,h |.slice ..,.acc ..,h=>by simp[AV.same]at h
 |.map _,.undef,h |.map _,.bool _,h |.map _,.int ..,h |.map _,.str _,h |.map _,.ptr _,h |.map _,.slice ..,h |.map _,.func ..,h |.map _,.nilFunc,h |.map _,.agg _,h |.map _,.tuple _,h |.map _,.list ..,h |.map _,.elem _,h |.map _,.acc ..,h=>by simp[AV.same]at h
 |.func ..,.undef,h |.func ..,.bool _,h |.func ..,.int ..,h |.func ..,.str _,h |.func ..,.ptr _,h |.func ..,.slice ..,h |.func ..,.map _,h |.func ..,.nilFunc,h |.func ..,.agg _,h |.func ..,.tuple _,h |.func ..,.list ..,h |.func ..,.elem _,h |.func ..,.acc ..,h=>by simp[AV.same]at h
 |.nilFunc,.undef,h |.nilFunc,.bool _,h |.nilFunc,.int ..,h |.nilFunc,.str _,h |.nilFunc,.ptr _,h |.nilFunc,.slice ..,h |.nilFunc,.map _,h |.nilFunc,.func ..,h |.nilFunc,.agg _,h |.nilFunc,.tuple _,h |.nilFunc,.list ..,h |.nilFunc,.elem _,h |.nilFunc,.acc ..,h=>by simp[AV.same]at h
 |.agg _,.undef,h |.agg _,.bool _,h |.agg _,.int ..,h |.agg _,.str _,h |.agg _,.ptr _,h |.agg _,.slice ..,h |.agg _,.map _,h |.agg _,.func ..,h |.agg _,.nilFunc,h |.agg _,.tuple _,h |.agg _,.list ..,h |.agg _,.elem _,h |.agg _,.acc ..,h=>by simp[AV.same]at h
 |.tuple _,.undef,h |.tuple _,.bool _,h |.tuple _,.int ..,h |.tuple _,.str _,h |.tuple _,.ptr _,h |.tuple _,.slice ..,h |.tuple _,.map _,h |.tuple _,.func ..,h |.tuple _,.nilFunc,h |.tuple _,.agg _,h |.tuple _,.list ..,h |.tuple _,.elem _,h |.tuple _,.acc ..,h=>by simp[AV.same]at h
theorem AV.yN:∀(a b:List AV),AV.BQ a b=true→a=b
 | [],[],_=>rfl
 | a::l,b::r,h=>by
  simp[AV.BQ]at h
  rw[AV.Jl a b h.1,AV.yN l r h.2]
 | [],_::_,h=>by simp[AV.BQ]at h
 | _::_,[],h=>by simp[AV.BQ]at h
end
theorem Kz{g:Option (Nat×Bool)}{e e':Env}(h:Agree (match g with | some (t,_)=>[t] | none=>[]) e e'):o9 g e=o9 g e':=by
 cases g with
 | none=>rfl
 | some p =>
  obtain⟨t,b⟩:=p
  simp only[o9]
  rw[h t (by simp)]
def Heap.over(M:Heap)(X:Nat→Option jN):Heap:={ M with get:=λi=>match X i with | some x=>some x | none=>M.get i }
theorem gM{M:Heap}{X:Nat→Option jN}{i:Nat}{x:jN}(h:X i=some x):(M.over X).get i=some x:=by simp[Heap.over,h]
theorem fH{M:Heap}{X:Nat→Option jN}{i:Nat}(h:X i=none):(M.over X).get i=M.get i:=by simp[Heap.over,h]
theorem R.sub{ι:fq}{X Y:Heap}{w:World}(r:R ι Y w)(h:X.Sub Y)(hn:X.next=Y.next):R ι X w where
 blk b x hx:=r.blk b x (h b x hx)
 apart b b' x x' l l' h1 h2:=r.apart b b' x x' l l' (h _ _ h1) (h _ _ h2)
 fresh b hb:=by
  have:=r.fresh b (hn ▸ hb)
  refine⟨?_,this.2⟩
  cases hx:X.get b with
  | none=>rfl
  | some x=>rw[h b x hx]at this;cases this.1
theorem Tr.frame{ι bI:fq}{M M':Heap}{w w':World}{X:Nat→Option jN}(r:R ι (M.over X) w)(hX:∀i x,X i=some x→M.get i=none∧i<M.next∧x.own=true)(t:Tr ι M w bI M' w'):Tr ι (M.over X) w bI (M'.over X) w':=by
 have hMX:∀b x,M.get b=some x→X b=none:=λb x h=>by
  cases hb:X b with
  | none=>rfl
  | some y=>rw[(hX b y hb).1]at h;cases h
 have hsub:M.Sub (M.over X):=λb x h=>by rw[fH (hMX b x h)];exact h
 have rM:R ι M w:=r.sub hsub rfl
 have hle:=t.le rM
 have aak:∀i x l,X i=some x→ι i=some l→w'.heap[l.j]?=w.heap[l.j]?:=λi x l h hl =>
  t.keep l.j (r.yL (gM h) hl) λb x' l' h1 h2 h3=>r.apart b i x' x l' l (hsub _ _ h1) (gM h) h3 hl (λe=>by subst e;rw[(hX _ _ h).1]at h1;cases h1) (.inl h2)
 have mixed:∀i i' x x' l l',X i=some x→M'.get i'=some x'→ι i=some l→bI i'=some l'→l.j≠l'.j:=by
  intro i i' x x' l l' h1 h2 h3 h4 e
  have hlt:=r.yL (gM h1) h3
  cases ho:x'.own with
  | true =>
   obtain⟨b0,x0,l0,c1,c2,c3,c4⟩:=t.owned i' x' l' h2 ho h4 (e ▸ hlt)
   exact r.apart i b0 x x0 l l0 (gM h1) (hsub _ _ c1) h3 c3 (λe=>by subst e;rw[(hX _ _ h1).1]at c1;cases c1) (.inr c2) (by rw[c4,e])
  | false =>
   have hm:=t.ro i' x' h2 ho
   have h4':ι i'=some l':=by rw[←t.agree i' (rM.lt hm)];exact h4
   exact r.apart i i' x x' l l' (gM h1) (hsub _ _ hm) h3 h4' (λe=>by subst e;rw[(hX _ _ h1).1]at hm;cases hm) (.inl (hX _ _ h1).2.2) e
 have agX:∀i x,X i=some x→bI i=ι i:=λi x h=>t.agree i (hX i x h).2.1
 constructor
 ·constructor
  ·intro i x hx
   cases hi:X i with
   | some y =>
    rw[gM hi]at hx
    obtain rfl:=ak hx
    obtain⟨l,o,h1,h2,h3⟩:=r.blk i y (gM hi)
    exact⟨l,o,hle _ _ h1,by rw[aak i y l hi h1];exact h2,h3.mono hle⟩
   | none =>
    rw[fH hi]at hx
    exact t.rel.blk i x hx
  ·intro i i' x x' l l' h1 h2 h3 h4 hne hor
   cases hi:X i with
   | some y =>
    rw[gM hi]at h1
    obtain rfl:=ak h1
    rw[agX i y hi]at h3
    cases hi':X i' with
    | some y' =>
     rw[gM hi']at h2
     obtain rfl:=ak h2
     rw[agX i' y' hi']at h4
     exact r.apart i i' y y' l l' (gM hi) (gM hi') h3 h4 hne hor
    | none =>
     rw[fH hi']at h2
     exact mixed i i' y x' l l' hi h2 h3 h4
   | none =>
    rw[fH hi]at h1
    cases hi':X i' with
    | some y' =>
     rw[gM hi']at h2
     obtain rfl:=ak h2
     rw[agX i' y' hi']at h4
     exact λe=>mixed i' i y' x l' l hi' h1 h4 h3 e.symm
    | none =>
     rw[fH hi']at h2
     exact t.rel.apart i i' x x' l l' h1 h2 h3 h4 hne hor
  ·intro i hi
   have hxi:X i=none:=by
    cases hx:X i with
    | none=>rfl
    | some x =>
     have h1:=(hX i x hx).2.1
     have h2:=t.next
     have h3:M'.next≤i:=hi
     omega
   rw[fH hxi]
   exact t.rel.fresh i hi
 ·exact t.agree
 ·exact t.next
 ·intro i hi hd
  cases hx:X i with
  | some x=>rw[gM hx]at hd;cases hd
  | none =>
   rw[fH hx]at hd ⊢
   exact t.dead i hi hd
 ·intro i x hx ho
  cases hi:X i with
  | some y =>
   rw[gM hi]at hx
   obtain rfl:=ak hx
   rw[(hX i y hi).2.2]at ho
   cases ho
  | none =>
   rw[fH hi]at hx ⊢
   exact t.ro i x hx ho
 ·intro i x l h1 h2 h3 h4
  cases hi:X i with
  | some y =>
   rw[gM hi]at h1
   obtain rfl:=ak h1
   exact⟨i,y,l,gM hi,h2,by rw[←agX i y hi];exact h3,rfl⟩
  | none =>
   rw[fH hi]at h1
   obtain⟨b0,x0,l0,c1,c2,c3,c4⟩:=t.owned i x l h1 h2 h3 h4
   exact⟨b0,x0,l0,hsub _ _ c1,c2,c3,c4⟩
 ·intro j hj hn
  exact t.keep j hj λb x l h1 h2 h3=>hn b x l (hsub _ _ h1) h2 h3
 ·exact t.size
 ·exact t.os
 ·exact t.tape
 ·exact t.output
theorem Tr.slot {nZ ι:fq} {M0 X:Heap} {w0 w w':World} (t:Tr nZ M0 w0 ι X w) {id N:Nat} (h0:M0.next≤id) (hlt:id<X.next) (hx:X.get id=none) (hi:ι id=none) {x:jN} {ob:Obj} (ho:x.own=true) (hm:Made w w' ob)
  (hb:BR (ι.set id ⟨w.heap.size,0,N⟩) x ⟨w.heap.size,0,N⟩ ob):Tr nZ M0 w0 (ι.set id ⟨w.heap.size,0,N⟩) (X.put id (some x)) w':=by
 have r:=t.rel
 have hle:=fq.zl hi ⟨w.heap.size,0,N⟩
 have hset:∀i,i≠id→(ι.set id ⟨w.heap.size,0,N⟩) i=ι i:=λi hi=>by simp[fq.set,hi]
 have hself:(ι.set id ⟨w.heap.size,0,N⟩) id=some ⟨w.heap.size,0,N⟩:=by simp[fq.set]
 constructor
 ·constructor
  ·intro i y hy
   rw[iW]at hy
   split at hy
   ·rename_i hi
    subst hi
    obtain rfl:=ak hy
    exact⟨_,ob,hself,hm.new,hb⟩
   ·obtain⟨l',o,h1,h2,h3⟩:=r.blk i y hy
    refine⟨l',o,hle _ _ h1, ?_,h3.mono hle⟩
    rw[hm.old _ (r.yL hy h1)]
    exact h2
  ·intro i i' y y' l1 l2 h1 h2 h3 h4 hne hor
   rw[iW]at h1 h2
   split at h1
   ·rename_i hi
    subst hi
    rw[if_neg (Ne.symm hne)]at h2
    rw[hself]at h3
    obtain rfl:=ak h3
    rw[hset i' (Ne.symm hne)]at h4
    have:=r.yL h2 h4
    simp only
    omega
   ·rename_i hi
    rw[hset i hi]at h3
    split at h2
    ·rename_i hi'
     subst hi'
     rw[hself]at h4
     obtain rfl:=ak h4
     have:=r.yL h1 h3
     simp only
     omega
    ·rename_i hi'
     rw[hset i' hi']at h4
     exact r.apart i i' y y' l1 l2 h1 h2 h3 h4 hne hor
  ·intro i hi
   have hi':X.next≤i:=hi
   have h2:i≠id:=by omega
   rw[iW,if_neg h2,hset i h2]
   exact r.fresh i hi'
 ·intro i hi
  rw[hset i (by omega)]
  exact t.agree i hi
 ·exact t.next
 ·intro i hi hd
  rw[iW,if_neg (by omega)]
  exact t.dead i hi hd
 ·intro i y hy hro
  rw[iW]at hy
  split at hy
  ·obtain rfl:=ak hy
   rw[ho]at hro
   cases hro
  ·exact t.ro i y hy hro
 ·intro i y l1 h1 h2 h3 h4
  rw[iW]at h1
  split at h1
  ·rename_i hi
   subst hi
   rw[hself]at h3
   obtain rfl:=ak h3
   have:=t.size
   simp at h4
   omega
  ·rename_i hi
   rw[hset i hi]at h3
   exact t.owned i y l1 h1 h2 h3 h4
 ·intro j hj hn
  rw[hm.old j (by have:=t.size;omega)]
  exact t.keep j hj hn
 ·rw[hm.size]
  have:=t.size
  omega
 ·exact hm.os.trans t.os
 ·exact hm.tape.trans t.tape
 ·exact hm.output.trans t.output
def uT.loud:uT→Bool
 |.n _=>true
 | _=>false
def uT.plain:uT→Bool
 |.p _=>true
 | _=>false
structure DStep(C:bH)(base nk:Nat)(d:d9)(e:Env)(M:Heap)(g:List Heap)(v:AV)(b:Bool)(blk:Option jN)(e':Env)(M':Heap)(g':List Heap):Prop where
 env:e'=BD d.o.dst v e
 want:o9 d.o.guard e=some b
 hist:g'=if d.o.op.loud then g++[M]else g
 no:b=false→v=.tuple []∧M'=M∧blk=none
 p:∀o,b=true→d.o.op=.p o→aP o e=some v∧M'=M∧blk=none
 l:∀o,b=true→d.o.op=.l o→aL o e (M.hide base nk)=some v∧M'=M∧blk=none∧∀k H,d.lo≤k→g[k]?=some H→aL o e (H.hide base nk)=some v
 k:∀o,b=true→d.o.op=.k o→∃x mk,aK o e=some (x,mk)∧v=mk.val (base+d.ix)∧M'=M.put (base+d.ix) (some x)∧blk=some x
 n:∀o,b=true→d.o.op=.n o→aN C o e M=some (v,M')∧blk=none
structure Im(C:bH)(base nk:Nat)(ds:List d9)(E:Nat→Env)(H:Nat→Heap)(G:Nat→List Heap)(V:Nat→AV)(W:Nat→Bool)(B:Nat→Option jN):Prop where
 step:∀p d,ds[p]?=some d→DStep C base nk d (E p) (H p) (G p) (V p) (W p) (B p) (E (p+1)) (H (p+1)) (G (p+1))
theorem Q7 {C:bH} {base nk:Nat}:∀(ds:List d9) (e:Env) (M:Heap) (g:List Heap) (e':Env) (M':Heap),zT C base nk ds e M g=some (e',M') →
  ∃E H G V W B,Im C base nk ds E H G V W B∧E 0=e∧H 0=M∧G 0=g∧E ds.length=e'∧H ds.length=M'
 | [],e,M,g,e',M',h=>by
  simp only[zT,av,aI]at h
  obtain⟨rfl,rfl⟩:=h
  exact⟨λ_=>e,λ_=>M,λ_=>g,λ_=>.undef,λ_=>true,λ_=>none,⟨λp d h=>by simp at h⟩,rfl,rfl,rfl,rfl,rfl⟩
 | d::ds,e,M,g,e',M',h=>by
  have cont:∀(v:AV) (b:Bool) (blk:Option jN) (e1:Env) (M1:Heap) (g1:List Heap),DStep C base nk d e M g v b blk e1 M1 g1→zT C base nk ds e1 M1 g1=some (e',M') →
    ∃E H G V W B,Im C base nk (d::ds) E H G V W B∧E 0=e∧H 0=M∧G 0=g∧E (d::ds).length=e'∧H (d::ds).length=M':=by
   intro v b blk e1 M1 g1 hs hr
   obtain⟨E,H,G,V,W,B,hd,q1,q2,q3,q4,q5⟩:=Q7 ds e1 M1 g1 e' M' hr
   refine⟨λp=>match p with | 0=>e | p+1=>E p,λp=>match p with | 0=>M | p+1=>H p,λp=>match p with | 0=>g | p+1=>G p,λp=>match p with | 0=>v | p+1=>V p,λp=>match p with | 0=>b | p+1=>W p,λp=>match p with | 0=>blk | p+1=>B p,⟨λp d' hp=>?_⟩,rfl,rfl,rfl,by simpa using q4,by simpa using q5⟩
   cases p with
   | zero =>
    simp at hp
    subst hp
    simp only[q1,q2,q3]
    exact hs
   | succ p=>exact hd.step p d' (by simpa using hp)
  simp only[zT]at h
  split at h
  ·rename_i hw
   split at h
   ·rename_i o ho
    obtain⟨v,hv,h⟩:=aF.1 h
    refine cont v true none _ _ _ ?_ h
    constructor
    ·rfl
    ·exact hw
    ·simp[ho,uT.loud]
    ·intro hb;cases hb
    ·intro o' _ ho'
     rw[ho]at ho'
     injection ho' with ho'
     subst ho'
     exact⟨hv,rfl,rfl⟩
    ·intro o' _ ho';rw[ho]at ho';cases ho'
    ·intro o' _ ho';rw[ho]at ho';cases ho'
    ·intro o' _ ho';rw[ho]at ho';cases ho'
   ·rename_i o ho
    obtain⟨v,hv,h⟩:=aF.1 h
    split at h
    case isFalse=>cases h
    rename_i hall
    refine cont v true none _ _ _ ?_ h
    constructor
    ·rfl
    ·exact hw
    ·simp[ho,uT.loud]
    ·intro hb;cases hb
    ·intro o' _ ho';rw[ho]at ho';cases ho'
    ·intro o' _ ho'
     rw[ho]at ho'
     injection ho' with ho'
     subst ho'
     refine⟨hv,rfl,rfl,λk X hk hX=>?_⟩
     have hmem:X∈g.drop d.lo:=by
      refine List.mem_iff_getElem?.2 ⟨k-d.lo, ?_⟩
      rw[List.getElem?_drop]
      rw[show d.lo+(k-d.lo)=k from by omega]
      exact hX
     have:=List.all_eq_true.1 hall X hmem
     split at this
     ·rename_i u hu
      rw[hu,AV.Jl _ _ this]
     ·cases this
    ·intro o' _ ho';rw[ho]at ho';cases ho'
    ·intro o' _ ho';rw[ho]at ho';cases ho'
   ·rename_i o ho
    obtain⟨⟨x,mk⟩,hv,h⟩:=aF.1 h
    refine cont (mk.val (base+d.ix)) true (some x) _ _ _ ?_ h
    constructor
    ·rfl
    ·exact hw
    ·simp[ho,uT.loud]
    ·intro hb;cases hb
    ·intro o' _ ho';rw[ho]at ho';cases ho'
    ·intro o' _ ho';rw[ho]at ho';cases ho'
    ·intro o' _ ho'
     rw[ho]at ho'
     injection ho' with ho'
     subst ho'
     exact⟨x,mk,hv,rfl,rfl,rfl⟩
    ·intro o' _ ho';rw[ho]at ho';cases ho'
   ·rename_i o ho
    obtain⟨⟨v,M1⟩,hv,h⟩:=aF.1 h
    refine cont v true none _ M1 _ ?_ h
    constructor
    ·rfl
    ·exact hw
    ·simp[ho,uT.loud]
    ·intro hb;cases hb
    ·intro o' _ ho';rw[ho]at ho';cases ho'
    ·intro o' _ ho';rw[ho]at ho';cases ho'
    ·intro o' _ ho';rw[ho]at ho';cases ho'
    ·intro o' _ ho'
     rw[ho]at ho'
     injection ho' with ho'
     subst ho'
     exact⟨hv,rfl⟩
  ·rename_i hw
   refine cont (.tuple []) false none _ _ _ ?_ h
   constructor
   ·rfl
   ·exact hw
   ·cases ho:d.o.op<;>simp[uT.loud]
   ·intro _;exact⟨rfl,rfl,rfl⟩
   ·intro _ hb;cases hb
   ·intro _ hb;cases hb
   ·intro _ hb;cases hb
   ·intro _ hb;cases hb
  ·cases h
def jC(ds:List d9)(p:Nat):Bool :=
 match ds[p]? with
 | some d=>d.o.op.loud
 | none=>false
def su(ds:List d9)(q:Nat):Nat:=((List.range q).filter (jC ds)).length
def uT.isK:uT→Bool
 |.k _=>true
 | _=>false
def uT.nV:uT→Bool
 |.l _=>true
 | _=>false
def ME(ds:List d9)(s p:Nat):Bool :=
 match ds[p]? with
 | some d=>d.o.op.isK&&d.ix==s
 | none=>false
def jP(ds:List d9)(s:Nat):Option Nat:=(List.range ds.length).find? (ME ds s)
def isDst(ds:List d9)(t p:Nat):Bool :=
 match ds[p]? with
 | some d=>d.o.dst==some t
 | none=>false
def writer(ds:List d9)(t:Nat):Option Nat:=(List.range ds.length).find? (isDst ds t)
structure yO(nk:Nat)(ds:List d9)(zm:Nat→Nat→Prop):Prop where
 lt:∀(p q:Nat),zm p q→p<q
 dst:∀(p q:Nat) (d d':d9) (t:Nat),ds[p]?=some d→ds[q]?=some d'→p≠q→d.o.dst=some t→d'.o.dst≠some t
 rd:∀(p q:Nat) (d d':d9) (t:Nat),ds[p]?=some d→ds[q]?=some d'→p≠q→d'.o.dst=some t→t∈d.o.rd→zm q p∨zm p q
 loud:∀(p q:Nat) (d d':d9),ds[p]?=some d→ds[q]?=some d'→p<q→d'.o.op.loud=true→d.o.op.plain=false→zm p q
 lo:∀(p:Nat) (d:d9) (q:Nat),ds[p]?=some d→d.o.op.nV=true→q<p→jC ds q=true→su ds q<d.lo→zm q p
 aal:∀(p:Nat) (d:d9),ds[p]?=some d→d.o.op.isK=true→d.ix<nk
 ix:∀(p q:Nat) (d d':d9),ds[p]?=some d→ds[q]?=some d'→d.o.op.isK=true→d'.o.op.isK=true→d.ix=d'.ix→p=q
theorem Hr{n:Nat}{f:Nat→Bool}{p:Nat}(hp:p<n)(hf:f p=true)(hu:∀q,q<n→f q=true→q=p):(List.range n).find? f=some p:=by
 cases h:(List.range n).find? f with
 | none =>
  rw[List.find?_eq_none]at h
  exact absurd hf (h p (by simpa using hp))
 | some q =>
  have h1:=List.find?_some h
  have h2:=List.mem_of_find?_eq_some h
  rw[hu q (by simpa using h2) h1]
theorem K5{nk:Nat}{ds:List d9}{zm:Nat→Nat→Prop}(c:yO nk ds zm){p:Nat}{d:d9}(hp:ds[p]?=some d)(hk:d.o.op.isK=true):jP ds d.ix=some p:=by
 refine Hr (aM.1 hp).1 (by simp[ME,hp,hk]) λq hq h=>?_
 have hq':ds[q]?=some ds[q]:=by simp[hq]
 simp only[ME,hq',Bool.and_eq_true,beq_iff_eq]at h
 exact c.ix q p _ _ hq' hp h.1 hk h.2
theorem mD{ds:List d9}{s p:Nat}(h:jP ds s=some p):∃d,ds[p]?=some d∧d.o.op.isK=true∧d.ix=s:=by
 have h1:=List.find?_some h
 unfold ME at h1
 split at h1
 ·rename_i d hd
  simp at h1
  exact⟨d,hd,h1.1,h1.2⟩
 ·cases h1
theorem K6{nk:Nat}{ds:List d9}{zm:Nat→Nat→Prop}(c:yO nk ds zm){p:Nat}{d:d9}{t:Nat}(hp:ds[p]?=some d)(ht:d.o.dst=some t):writer ds t=some p:=by
 refine Hr (aM.1 hp).1 (by simp[isDst,hp,ht]) λq hq h=>?_
 have hq':ds[q]?=some ds[q]:=by simp[hq]
 simp only[isDst,hq',beq_iff_eq]at h
 rcases Nat.lt_or_ge q p with hlt | hge
 ·exact absurd h (λh=>c.dst p q _ _ t hp hq' (by omega) ht h)
 ·rcases Nat.eq_or_lt_of_le hge with e | hlt
  ·exact e.symm
  ·exact absurd h (λh=>c.dst p q _ _ t hp hq' (by omega) ht h)
theorem yP{ds:List d9}{t p:Nat}(h:writer ds t=some p):∃d,ds[p]?=some d∧d.o.dst=some t:=by
 have h1:=List.find?_some h
 unfold isDst at h1
 split at h1
 ·rename_i d hd
  exact⟨d,hd,by simpa using h1⟩
 ·cases h1
section
variable {C:bH} {base nk:Nat} {ds:List d9} {E:Nat→Env} {H:Nat→Heap} {G:Nat→List Heap} {V:Nat→AV} {W:Nat→Bool} {B:Nat→Option jN} {zm:Nat→Nat→Prop}
def uo(ds:List d9)(e0:Env)(V:Nat→AV)(S:Nat→Bool):Env :=
 (List.range e0.length).map λt=>match writer ds t with
  | some p=>if S p then V p else e0.getD t .undef
  | none=>e0.getD t .undef
theorem lH(e0:Env)(S:Nat→Bool):(uo ds e0 V S).length=e0.length:=by simp[uo]
theorem om(e0:Env)(S:Nat→Bool)(t:Nat):(uo ds e0 V S).getD t .undef=if t<e0.length then (match writer ds t with | some p=>if S p then V p else e0.getD t .undef | none=>e0.getD t .undef)else .undef:=by
 rw[List.getD_eq_getElem?_getD]
 simp only[uo,List.getElem?_map]
 split
 ·rename_i h
  simp[List.getElem?_range h]
 ·rename_i h
  rw[List.getElem?_eq_none (by simpa using h)]
  rfl
theorem IW{e e':Env}(hl:e.length=e'.length)(h:∀t,e.getD t .undef=e'.getD t .undef):e=e':=by
 refine List.ext_getElem hl λi h1 h2=>?_
 have:=h i
 rw[List.getD_eq_getElem?_getD,List.getD_eq_getElem?_getD,bn h1,bn h2]at this
 simpa using this
theorem Ht(d:Option Nat)(v:AV)(e:Env):(BD d v e).length=e.length:=by cases d<;>simp[BD]
theorem K7(d:Option Nat)(v:AV)(e:Env)(t:Nat):(BD d v e).getD t .undef=if d=some t∧t<e.length then v else e.getD t .undef:=by
 cases d with
 | none=>simp[BD]
 | some d =>
  simp only[BD,List.getD_eq_getElem?_getD,List.getElem?_set,av]
  by_cases hdt:d=t
  ·subst hdt
   by_cases hl:d<e.length
   ·simp[hl]
   ·simp[hl]
  ·simp[hdt]
theorem PK(c:yO nk ds zm)(r:Im C base nk ds E H G V W B):∀p,p≤ds.length→E p=uo ds (E 0) V (λq=>decide (q<p))
 | 0,_=>by
  refine IW (lH _ _).symm λt=>?_
  rw[om]
  split
  ·cases writer ds t<;>simp
  ·rename_i h
   rw[List.getD_eq_getElem?_getD,List.getElem?_eq_none (by omega)]
   rfl
 | p+1,hp=>by
  have hd:ds[p]?=some ds[p]:=by simp[show p<ds.length from by omega]
  have ih:=PK c r p (by omega)
  rw[(r.step p _ hd).env,ih]
  refine IW (by rw[Ht,lH,lH]) λt=>?_
  rw[K7,om,om,lH]
  by_cases hl:t<(E 0).length
  ·simp only[hl,and_true,if_true]
   split
   ·rename_i hdst
    rw[K6 c hd hdst]
    simp
   ·rename_i hdst
    cases hw:writer ds t with
    | none=>simp
    | some q =>
     have MF:q≠p:=by
      rintro rfl
      obtain⟨d,hd',ht⟩:=yP hw
      rw[hd]at hd'
      obtain rfl:=ak hd'
      exact hdst ht
     simp only
     by_cases hq:q<p
     ·simp[hq,show q<p+1 from by omega]
     ·simp[hq,show ¬q<p+1 from by omega]
  ·simp[hl]
theorem Gu(c:yO nk ds zm)(r:Im C base nk ds E H G V W B){S:Nat→Bool}(hcl:∀p q,S q=true→zm p q→S p=true){p:Nat}{d:d9}(hp:ds[p]?=some d)(hS:S p=false)(hpre:∀q,zm q p→S q=true):Agree d.o.rd (E p) (uo ds (E 0) V S):=by
 intro t ht
 have N7:=(aM.1 hp).1
 rw[PK c r p (by omega),om,om]
 split
 ·cases hw:writer ds t with
  | none=>rfl
  | some q =>
   simp only
   obtain⟨d',hd',hdst⟩:=yP hw
   by_cases MF:q=p
   ·subst MF
    simp[hS]
   ·rcases c.rd p q d d' t hp hd' (Ne.symm MF) hdst ht with h | h
    ·simp[c.lt _ _ h,hpre q h]
    ·have:S q=false:=by
      cases hq:S q with
      | false=>rfl
      | true=>rw[hcl p q hq h]at hS;cases hS
     have hlt:=c.lt _ _ h
     simp[this,show ¬q<p from by omega]
 ·rfl
theorem Q8(c:yO nk ds zm){e0:Env}{S:Nat→Bool}{p:Nat}{d:d9}(hp:ds[p]?=some d):uo ds e0 V (λq=>q==p||S q)=BD d.o.dst (V p) (uo ds e0 V S):=by
 refine IW (by rw[Ht,lH,lH]) λt=>?_
 rw[K7,om,om,lH]
 by_cases hl:t<e0.length
 ·simp only[hl,and_true,if_true]
  by_cases hdst:d.o.dst=some t
  ·rw[if_pos hdst,K6 c hp hdst]
   simp
  ·rw[if_neg hdst]
   cases hw:writer ds t with
   | none=>rfl
   | some q =>
    have MF:(q==p)=false:=by
     cases MF:q==p with
     | false=>rfl
     | true =>
      have MF:=beq_iff_eq.1 MF
      subst MF
      obtain⟨d',hd',ht⟩:=yP hw
      rw[hp]at hd'
      obtain rfl:=ak hd'
      exact absurd ht hdst
    simp[MF]
 ·simp[hl]
def fD(base nk:Nat)(ds:List d9)(H:Nat→Heap)(B:Nat→Option jN)(q:Nat)(S:Nat→Bool):Heap :=
 { next:=(H q).next
   get:=λb=>if base≤b∧b<base+nk then (match jP ds (b-base)with | some p=>if p<q then (H q).get b else if S p then B p else none | none=>none)else (H q).get b }
theorem Eu (c:yO nk ds zm) (r:Im C base nk ds E H G V W B) {q:Nat}:∀p,q≤p→p≤ds.length→(∀j,q≤j→j<p→jC ds j=false) →
  (H p).next=(H q).next∧(∀b,¬(base≤b∧b<base+nk)→(H p).get b=(H q).get b) ∧
  ((∀b p0,base≤b→b<base+nk→jP ds (b-base)=some p0→q≤p0→(H q).get b=none)→∀b,base≤b→b<base+nk→(H p).get b=match jP ds (b-base)with | some p0=>if q≤p0∧p0<p then B p0 else (H q).get b | none=>(H q).get b):=by
 intro p
 induction p with
 | zero =>
  intro h1 h2 h3
  obtain rfl:q=0:=by omega
  refine⟨rfl,λ_ _=>rfl,λ_ b _ _=>?_⟩
  cases jP ds (b-base)<;>simp
 | succ p ih =>
  intro h1 h2 h3
  rcases Nat.eq_or_lt_of_le h1 with e | hlt
  ·subst e
   refine⟨rfl,λ_ _=>rfl,λ_ b _ _=>?_⟩
   cases hs:jP ds (b-base)with
   | none=>rfl
   | some p0=>simp only;rw[if_neg (by omega)]
  ·obtain⟨i1,i2,i3⟩:=ih (by omega) (by omega) (λj a b=>h3 j a (by omega))
   have hd:ds[p]?=some ds[p]:=by simp[show p<ds.length from by omega]
   have Q9:(ds[p]).o.op.loud=false:=by
    have:=h3 p (by omega) (by omega)
    simpa[jC,hd]using this
   have st:=r.step p _ hd
   -- either nothing,or a slot
   have key:(H (p+1)=H p∧B p=none)∨(∃x,ds[p].o.op.isK=true∧W p=true∧B p=some x∧H (p+1)=(H p).put (base+ds[p].ix) (some x)):=by
    cases hw:W p with
    | false=>exact .inl ⟨(st.no hw).2.1,(st.no hw).2.2⟩
    | true =>
     cases ho:ds[p].o.op with
     | p o=>exact .inl ⟨(st.p o hw ho).2.1,(st.p o hw ho).2.2⟩
     | l o=>exact .inl ⟨(st.l o hw ho).2.1,(st.l o hw ho).2.2.1⟩
     | k o =>
      obtain⟨x,mk,k1,k2,k3,k4⟩:=st.k o hw ho
      exact .inr ⟨x,by simp[uT.isK],rfl,k4,k3⟩
     | n o=>rw[ho]at Q9;cases Q9
   rcases key with⟨hH,hB⟩ |⟨x,hk,hw,hB,hH⟩
   ·rw[hH]
    refine⟨i1,i2,λhn b b1 b2=>?_⟩
    rw[i3 hn b b1 b2]
    cases hs:jP ds (b-base)with
    | none=>rfl
    | some p0 =>
     simp only
     by_cases hp0:p0=p
     ·subst hp0
      rw[if_neg (by omega),if_pos (by omega),hB,hn b p0 b1 b2 hs (by omega)]
     ·by_cases h4:q≤p0∧p0<p
      ·rw[if_pos h4,if_pos (by omega)]
      ·rw[if_neg h4,if_neg (by omega)]
   ·have Q_:=K5 c hd hk
    have hix:=c.aal p _ hd hk
    rw[hH]
    refine⟨i1,λb hb=>?_,λhn b b1 b2=>?_⟩
    ·rw[iW,if_neg (by omega)]
     exact i2 b hb
    ·rw[iW]
     by_cases hb:b=base+ds[p].ix
     ·subst hb
      rw[if_pos rfl,show base+ds[p].ix-base=ds[p].ix from by omega,Q_]
      simp only
      rw[if_pos (by omega),hB]
     ·rw[if_neg hb,i3 hn b b1 b2]
      cases hs:jP ds (b-base)with
      | none=>rfl
      | some p0 =>
       simp only
       have hp0:p0≠p:=by
        rintro rfl
        obtain⟨d',hd',_,hix'⟩:=mD hs
        rw[hd]at hd'
        obtain rfl:=ak hd'
        omega
       by_cases h4:q≤p0∧p0<p
       ·rw[if_pos h4,if_pos (by omega)]
       ·rw[if_neg h4,if_neg (by omega)]
theorem Ra(r:Im C base nk ds E H G V W B)(h0:G 0=[]):∀p,p≤ds.length→G p=((List.range p).filter (jC ds)).map H
 | 0,_=>by simp[h0]
 | p+1,hp=>by
  have hd:ds[p]?=some ds[p]:=by simp[show p<ds.length from by omega]
  rw[(r.step p _ hd).hist,Ra r h0 p (by omega),List.range_succ,List.filter_append,List.map_append]
  cases hl:ds[p].o.op.loud<;>simp[jC,hd,hl]
theorem Ui(r:Im C base nk ds E H G V W B)(h0:G 0=[]){p j:Nat}(hp:p≤ds.length)(hj:j<p)(hl:jC ds j=true):(G p)[su ds j]?=some (H j):=by
 rw[Ra r h0 p hp]
 have e:List.range p=List.range j++(List.range' j (p-j)):=by
  have h1:=List.range'_append (s:=0) (m:=j) (n:=p-j) (step:=1)
  rw[List.range_eq_range',List.range_eq_range']
  simp at h1
  rw[h1]
  congr 1
  omega
 have e2:List.range' j (p-j)=j::List.range' (j+1) (p-j-1):=by
  obtain⟨m,hm⟩:∃m,p-j=m+1:=⟨p-j-1,by omega⟩
  rw[hm,List.range'_succ]
  simp
 rw[e,e2,List.filter_append,List.filter_cons,if_pos hl,List.map_append]
 rw[List.getElem?_append_right (by simp[su])]
 simp[su]
end
end Go.Proofs.Ytkedeiklmpkgkaa
