import Derived.Test.YtohoggieaanllaaGreatJ2
section
set_option linter.unusedVariables false
set_option linter.unusedSimpArgs false
namespace Go.Proofs.YtohoggieaanllaaGreat
theorem vN (u t:Nat) (v:AV) (r:Fast):look ((u,v)::r) t=if u=t then v else look r t:=by
 simp only [look]
 cases hb:Nat.beq u t with
 | true=>rw [if_pos (Nat.eq_of_beq_eq_true hb)]
 | false=>rw [if_neg (λh=>by subst h;rw [Nat.beq_refl] at hb;cases hb)]
theorem vO {n d:Nat} (v:AV) (l:Fast) (h:d < n):oh n (some d) v l=(d,v)::l:=by
 have:Nat.blt d n=true:=by simpa [Nat.blt_eq] using h
 simp [oh,this]
theorem akJ (n:Nat) (v:AV) (l:Fast):oh n none v l=l:=rfl
theorem zV (C:bP) (n:Nat) (l:Fast) (M:Heap):SH C n [] l M=some (l,M):=rfl
theorem vP (C:bP) (n:Nat) (dst:Option Nat) (op:CJ) (r:List w9) (l:Fast) (M:Heap) :
  SH C n ({ dst:=dst,op:=op,guard:=none }::r) l M=match Sv C (op.sub (look l)) [] M with
   | some p=>SH C n r (oh n dst p.1 l) p.2
   | none=>none:=by
 simp only [SH,jh]
 split<;>simp [force_eq, *]
theorem vQ (C:bP) (K n:Nat) (ops:List w9) (l:Fast) (M:Heap):aU C K n (.reg ops) l M=(SH C n ops l M).map λp=>(.normal,p):=rfl
theorem vR (C:bP) (K n:Nat) (a b:bG) (l:Fast) (M:Heap):aU C K n (.seq a b) l M=match aU C K n a l M with
  | some (.normal,l',M')=>aU C K n b l' M'
  | r=>r:=rfl
theorem wrap_i64 {n:Int} (h1:-9223372036854775808≤n) (h2:n≤9223372036854775807):IntKind.i64.wrap n=n:=by
 simp [IntKind.wrap,IntKind.signed,IntKind.bits]
 split<;>omega
structure Ext (M M':Heap):Prop where
 sub:M.Sub M'
 next:M.next≤M'.next
 wf:M'.Wf
theorem Ext.refl {M:Heap} (h:M.Wf):Ext M M:=⟨.refl _,Nat.le_refl _,h⟩
theorem Ext.trans {A B C:Heap} (h:Ext A B) (k:Ext B C):Ext A C:=⟨h.sub.trans k.sub,Nat.le_trans h.next k.next,k.wf⟩
theorem Ext.push {M:Heap} (h:M.Wf) (x:mU):Ext M (M.push x) :=
 ⟨λb y hy=>by
  have:b≠M.next:=λe=>by rw [e,h _ (Nat.le_refl _)] at hy;cases hy
  simp [Heap.push,this,hy],Nat.le_succ _,λb hb=>by
  simp only [Heap.push] at hb ⊢
  rw [if_neg (by omega)]
  exact h b (by omega)⟩
def amH (M:Heap) (a:AV) (l:List (List UInt8)):Prop :=
 ∃ p sz cap ex,a=.slice p sz l.length cap ex∧(l≠[]→sz=1∧∃ b o c ro sl,p=some (b,o)∧M.get b=some (.cells c ro sl)∧∀ j s,l[j]?=some s→c[o+j]?=some (.str s))
theorem amH.mono {M M':Heap} (h:M.Sub M') {a:AV} {l:List (List UInt8)} (r:amH M a l):amH M' a l:=by
 obtain ⟨p,sz,cap,ex,h1,h2⟩:=r
 refine ⟨p,sz,cap,ex,h1,λhl=>?_⟩
 obtain ⟨e1,b,o,c,ro,sl,e2,e3,e4⟩:=h2 hl
 exact ⟨e1,b,o,c,ro,sl,e2,h _ _ e3,e4⟩
def alone (g:List AV→Heap→Option (AV×Heap)):List AV→Heap→Option (AV×Heap):=λargs M =>
 match args,g [] Heap.empty with
 | [],some (.bool b,_)=>some (.bool b,M)
 | _,_=>none
theorem acg {P:Program} {G:adF} {T:FuncId→Option bC} (hG:∀ f g,G f=some g→(Rb P f∧Sound P f g)∨Wq P f g) (hT:∀ f af,T f=some af→∃ h,aR P f h=some af) (K d:Nat) {f:FuncId} (hf:G f=none):Sound P f (qX G T K d f):=by
 intro args M v M' h
 have h1:=afp d f args M _ h
 cases d with
 | zero=>simp [LH] at h1
 | succ d =>
  simp only [LH,hf] at h1
  split at h1
  ·rename_i af haf
   obtain ⟨hs,hc⟩:=hT f af haf
   exact YO (Wy hG hT K d) K hc args M v M' h1
  ·cases h1
theorem amI {s:Sh} {ss:List Sh} {ds:List D} (h:D.are (s::ss) ds):∃ d r,ds=d::r∧D.is s d∧D.are ss r:=by
 cases ds with
 | nil=>simp [D.are] at h
 | cons d r=>exact ⟨d,r,rfl,by simpa [D.are] using h⟩
theorem Yn {ds:List D} (h:D.are [] ds):ds=[]:=by
 cases ds with
 | nil=>rfl
 | cons d r=>simp [D.are] at h
end Go.Proofs.YtohoggieaanllaaGreat
end
section
set_option linter.all false
namespace Go.Proofs.YtohoggieaanllaaGreat
abbrev WH:=List (Option mU)
def dJ:WH→Nat→Option mU
 | [],_=>none
 | x::_,0=>x
 | _::r,i+1=>dJ r i
def iG:WH→Nat→Option mU→WH
 | [],_,_=>[]
 | _::r,0,y=>y::r
 | x::r,i+1,y=>x::iG r i y
mutual
def CK:AV→List Nat
 | .ptr (some p)=>[p.1]
 | .map (some r)=>[r]
 | .acc b _ _ _ _=>[b]
 | .func _ cs=>qc cs
 | .agg cs=>qc cs
 | .tuple cs=>qc cs
 | _=>[]
def qc:List AV→List Nat
 | []=>[]
 | v::r=>CK v++qc r
end
def AV.flat:AV→Bool
 | .ptr (some _) | .slice (some _) _ _ _ _ | .map (some _) | .func _ (_::_) | .agg _ | .tuple _ | .acc ..=>false
 | _=>true
def CO:List Nat→Nat→Option Nat
 | [],_=>none
 | a::r,b=>match Nat.beq a b with
  | true=>some 0
  | false=>match CO r b with
   | some k=>some (k+1)
   | none=>none
mutual
def rn (f:Nat→Option Nat):AV→AV
 | .ptr (some q)=>match f q.1 with
  | some b=>.ptr (some (b,q.2))
  | none=>.undef
 | .slice (some _) _ _ _ _=>.undef
 | .map (some r)=>match f r with
  | some b=>.map (some b)
  | none=>.undef
 | .acc b o sz n w=>match f b with
  | some b'=>.acc b' o sz n w
  | none=>.undef
 | .func g cs=>.func g (rnL f cs)
 | .agg cs=>.agg (rnL f cs)
 | .tuple cs=>.tuple (rnL f cs)
 | v=>v
def rnL (f:Nat→Option Nat):List AV→List AV
 | []=>[]
 | v::r=>rn f v::rnL f r
end
def rnB (f:Nat→Option Nat):mU→mU
 | .cells c ro sl=>match sl with
  | true=>.cells c ro true
  | false=>.cells (rnL f c) ro false
 | .map es=>.map es
def axI:Option mU→List Nat
 | some (.cells c _ false)=>qc c
 | _=>[]
def vS:List Nat→Nat→Bool
 | [],_=>false
 | a::r,b=>match Nat.beq a b with
  | true=>true
  | false=>vS r b
def MJ (H:WH) (np:Nat) (seen:List Nat):List Nat→List Nat
 | []=>[]
 | a::r=>match vS seen a with
  | true=>MJ H np seen r
  | false=>match Nat.blt a np with
   | true=>a::MJ H np (a::seen) r
   | false=>match dJ H a with
    | some _=>a::MJ H np (a::seen) r
    | none=>MJ H np (a::seen) r
def auQ (H:WH):List Nat→List Nat
 | []=>[]
 | b::r=>axI (dJ H b)++auQ H r
def amJ (H:WH) (np:Nat) (l:List Nat):List Nat:=MJ H np [] (l++auQ H l)
def U1 (H:WH) (np:Nat) (roots:List Nat):List Nat:=amJ H np (amJ H np (amJ H np (MJ H np [] (List.range np++roots))))
def rnO (f:Nat→Option Nat):Option mU→Option mU
 | some x=>some (rnB f x)
 | none=>none
def zW (H:WH) (p:List Nat):List Nat→WH
 | []=>[]
 | b::r=>rnO (CO p) (dJ H b)::zW H p r
def back (p:List Nat) (n0 k:Nat):Option Nat:=match p[k]? with
 | some b=>some b
 | none=>some (n0+(k - p.length))
def BM (f:Nat→Option Nat):List Nat→WH→WH→WH
 | b::p,x::out,H=>BM f p out (iG H b (rnO f x))
 | _,_,H=>H
def SI (H:WH) (p:List Nat) (out:WH):WH :=
 BM (back p H.length) p out H++(out.drop p.length).map (rnO (back p H.length))
mutual
def retag:AV→AV→AV
 | .slice none s 0 0 true,t=>match t with
  | .slice none z _ _ _=>.slice none z 0 0 true
  | _=>.slice none s 0 0 true
 | .agg cs,t=>match t with
  | .agg ts=>.agg (sV cs ts)
  | _=>.agg cs
 | .tuple cs,t=>match t with
  | .tuple ts=>.tuple (sV cs ts)
  | _=>.tuple cs
 | v,_=>v
def sV:List AV→List AV→List AV
 | c::cs,ts=>match ts with
  | t::ts=>retag c t::sV cs ts
  | []=>c::cs
 | [],_=>[]
end
def KL (g:AV→Option (AV×List Nat)):List AV→Option (List AV×List Nat)
 | []=>some ([],[])
 | v::r=>match g v,KL g r with
  | some p,some q=>some (p.1::q.1,p.2++q.2)
  | _,_=>none
def afq (w:Bool) (c:List AV) (o m:Nat):List AV:=match w with
 | true=>c
 | false=>(c.drop o).take m
def frz (H:WH):Nat→Bool→AV→Option (AV×List Nat)
 | 0,_,_=>none
 | k+1,nested,v=>match v with
  | .acc b o sz n w=>match dJ H b with
   | some (.cells c _ sl)=>match sl with
    | true=>some (.list sz n (afq w c o (n * sz)) false,[b])
    | false=>match w with
     | true=>match KL (frz H k true) c with
      | some p=>some (.list sz n p.1 false,b::p.2)
      | none=>none
     | false=>none
   | _=>none
  | .slice none z 0 0 true=>some (.list z 0 [] false,[])
  | .slice _ _ _ _ _=>none
  | .list sz n cs _=>some (.list sz n cs false,[])
  | .elem _=>none
  | .ptr (some q)=>match nested with
   | true=>none
   | false=>some (.ptr (some q),[])
  | .map (some r)=>match nested with
   | true=>none
   | false=>some (.map (some r),[])
  | .func f cs=>match KL (frz H k nested) cs with
   | some p=>some (.func f p.1,p.2)
   | none=>none
  | .agg cs=>match KL (frz H k nested) cs with
   | some p=>some (.agg p.1,p.2)
   | none=>none
  | .tuple cs=>match KL (frz H k nested) cs with
   | some p=>some (.tuple p.1,p.2)
   | none=>none
  | v=>some (v,[])
def Xr:Option mU→Option mU
 | some (.cells c _ sl)=>some (.cells c true sl)
 | x=>x
def KM (H:WH):List Nat→WH
 | []=>H
 | b::r=>KM (iG H b (Xr (dJ H b))) r
def auR (w:Bool) (c:List AV) (m:Nat):List AV:=match w with
 | true=>c
 | false=>c.take m
mutual
def akK:AV→WH→AV×WH
 | .slice none z 0 0 true,H=>(.acc H.length 0 z 0 true,H++[some (.cells [] false true)])
 | .acc b 0 sz n w,H=>match dJ H b with
  | some (.cells c false true)=>(.acc H.length 0 sz n true,iG H b none++[some (.cells (auR w c (n * sz)) false true)])
  | _=>(.acc b 0 sz n w,H)
 | .agg cs,H=>match ach cs H with
  | (a,H)=>(.agg a,H)
 | .tuple cs,H=>match ach cs H with
  | (a,H)=>(.tuple a,H)
 | v,H=>(v,H)
def ach:List AV→WH→List AV×WH
 | [],H=>([],H)
 | v::r,H=>match akK v H with
  | (a,H)=>match ach r H with
   | (l,H)=>(a::l,H)
end
def nrm (m:Option Bool) (v:AV) (H:WH):AV×WH:=match m with
 | none=>(v,H)
 | some true=>akK v H
 | some false=>match frz H 5 false v with
  | some p=>(p.1,KM H p.2)
  | none=>(v,H)
def SK:List (Option Bool)→List AV→WH→List AV×WH
 | _,[],H=>([],H)
 | ms,v::r,H=>match nrm (ms.headD (some false)) v H with
  | (a,H)=>match SK ms.tail r H with
   | (l,H)=>(a::l,H)
def afr (m:Option Bool):List AV→WH→List AV×WH
 | [],H=>([],H)
 | v::r,H=>match nrm m v H with
  | (a,H)=>match afr m r H with
   | (l,H)=>(a::l,H)
def aq2 (m:Option Bool) (b:Nat) (H:WH):WH:=match m with
 | none=>H
 | some m=>match dJ H b with
  | some (.cells c _ false)=>match afr (some m) c H with
   | (c',H')=>match dJ H' b with
    | some (.cells _ ro false)=>iG H' b (some (.cells c' ro false))
    | _=>H'
  | _=>H
def WA:List (Option Bool)→Option Bool→List Nat→WH→WH
 | _,_,[],H=>H
 | ms,m,b::p,H=>WA ms.tail m p (aq2 (ms.headD m) b H)
def YS (sz:Nat) (sz' len:Nat) (cs:List AV) (lo hi mx:Option AX):Option AV :=
 if sz'=sz then
  match mx with
  | none=>(bW [] hi len len).bind λh=>(bW [] lo 0 h).bind λl=>some (.list sz (h - l) ((cs.drop (l * sz)).take ((h - l) * sz)) false)
  | some _=>(bW [] mx len len).bind λm=>match hi with
   | none=>none
   | some _=>(bW [] hi len m).bind λh=>(bW [] lo 0 h).bind λl=>some (.list sz (h - l) ((cs.drop (l * sz)).take ((h - l) * sz)) false)
 else none
def Hg (sz b off sz' n:Nat) (w:Bool) (lo hi mx:Option AX):Option AV :=
 match lo,hi,mx with
 | none,none,none=>if sz'=sz then some (.acc b off sz n w) else none
 | _,_,none=>if sz'=sz then (bW [] hi n n).bind λh=>(bW [] lo 0 h).bind λl=>some (.acc b (off+l * sz) sz (h - l) false) else none
 | _,some _,some _=>if sz'=sz then (bW [] mx n n).bind λm=>(bW [] hi n m).bind λh=>(bW [] lo 0 h).bind λl=>some (.acc b (off+l * sz) sz (h - l) false) else none
 | _,_,_=>none
def Nh:Nat→List AV→Option (List AV)
 | 0,_=>some []
 | n+1,c::cs=>match Nh n cs with
  | some l=>some (c::l)
  | none=>none
 | _+1,[]=>none
def cAt:List AV→Nat→Option AV
 | [],_=>none
 | v::_,0=>some v
 | _::r,i+1=>cAt r i
def Bv (agg:Bool) (off n:Nat) (cs:List AV):Option AV:=match agg with
 | true=>match Nh n (cs.drop off) with
  | some l=>some (.agg l)
  | none=>none
 | false=>cAt cs off
def wP (o:mV):Option AV :=
 match o with
 | .slice sz x lo hi mx=>match x.ev [] with
  | .list sz' len cs _=>YS sz sz' len cs lo hi mx
  | .acc b off sz' n w=>Hg sz b off sz' n w lo hi mx
  | _=>none
 | .j6 sz x i=>match x.ev [] with
  | .list sz' len cs _=>match i.ev [] with
   | .int _ j=>if 0≤j∧j < (len:Int)∧sz'=sz then some (.elem (cs.drop (j.toNat * sz))) else none
   | _=>none
  | .acc b off sz' n _=>match i.ev [] with
   | .int _ j=>if 0≤j∧j < (n:Int)∧sz'=sz then some (.ptr (some (b,off+j.toNat * sz))) else none
   | _=>none
  | _=>none
 | .xA n sz x i=>match x.ev [] with
  | .elem cs=>match i.ev [] with
   | .int _ j=>if 0≤j∧j < (n:Int) then some (.elem (cs.drop (j.toNat * sz))) else none
   | _=>none
  | _=>aP o []
 | .fieldAddr off x=>match x.ev [] with
  | .elem cs=>some (.elem (cs.drop off))
  | _=>aP o []
 | .nilCheck x=>match x.ev [] with
  | .elem cs=>some (.elem cs)
  | _=>aP o []
 | .field agg off n x=>match x.ev [] with
  | .agg cs=>Bv agg off n cs
  | _=>none
 | .len false x=>match x.ev [] with
  | .list _ len _ _=>some (.int .i64 len)
  | .acc _ _ _ n _=>some (.int .i64 n)
  | .slice none _ 0 0 true=>some (.int .i64 0)
  | _=>none
 | .cap _=>none
 | .eqN neg x y=>match x.ev [],y.ev [] with
  | .list _ (_+1) _ _,.slice none _ 0 0 true=>some (.bool neg)
  | .slice none _ 0 0 true,.list _ (_+1) _ _=>some (.bool neg)
  | .slice none _ 0 0 true,.slice none _ 0 0 true=>some (.bool (!neg))
  | _,_=>none
 | _=>aP o []
def wL (o:BJ) (H:WH):Option AV :=
 match o with
 | .load agg n x=>match agg&&Nat.beq n 0 with
  | true=>none
  | false=>match x.ev [] with
   | .elem cs=>Bv agg 0 n cs
   | .ptr (some (b,off))=>match dJ H b with
    | some (.cells c _ _)=>Bv agg off n c
    | _=>none
   | _=>none
 | .lY x=>match x.ev [] with
  | .list 1 _ cs _=>(kN cs).map .str
  | .acc b off 1 n w=>match dJ H b with
   | some (.cells c _ _)=>(kN (afq w c off n)).map .str
   | _=>none
  | .slice none _ 0 0 true=>some (.str [])
  | _=>none
 | _=>none
def dh (bytes k:Nat):Bool:=decide (k * bytes≤70368744177664∧k≤70368744177664)
def Ni (x:AV) (sz:Nat) (H:WH):Option (Nat×List AV×List Nat) :=
 match x with
 | .list sz' n cs _=>match Nat.beq sz' sz with
  | true=>some (n,cs,[])
  | false=>none
 | .slice none _ 0 0 true=>some (0,[],[])
 | .str s=>match Nat.beq 1 sz with
  | true=>some (s.length,s.map λb=>.int .u8 b.toNat,[])
  | false=>none
 | .acc b o sz' n w=>match Nat.beq sz' sz with
  | true=>match dJ H b with
   | some (.cells c _ sl)=>match sl with
    | true=>some (n,afq w c o (n * sz),[])
    | false=>match w with
     | true=>match KL (frz H 5 true) c with
      | some p=>some (n,p.1,p.2)
      | none=>none
     | false=>none
   | _=>none
  | false=>none
 | _=>none
def YT (s:AV) (sz:Nat) (H:WH):Option (Nat×List AV×WH×List Nat) :=
 match s with
 | .slice none _ 0 0 true=>some (0,[],H,[])
 | .acc b 0 sz' n w=>match Nat.beq sz' sz with
  | true=>match dJ H b with
   | some (.cells c false true)=>some (n,afq w c 0 (n * sz),iG H b none,[b])
   | some (.cells c false false)=>match w with
    | true=>match KL (frz H 5 true) c with
     | some p=>match vS p.2 b with
      | false=>some (n,p.1,iG (KM H p.2) b none,[b])
      | true=>none
     | none=>none
    | false=>none
   | _=>none
  | false=>none
 | _=>none
def U2 (c:List AV) (o:Nat) (cs:List AV):Option (List AV) :=
 if o+cs.length≤c.length then some (c.take o++cs++c.drop (o+cs.length)) else none
def gd {β:Type} (b:Bool) (x:Option β):Option β:=match b with
 | true=>x
 | false=>none
inductive Lf where
 | fin (m:Option Bool) (ts:List AV) (mc:Option Bool)
 | en (keep:List Nat) (ms bs:List (Option Bool)) (ts:List AV)
inductive Tc {R:Type}:Option R→Type 1 where
 | leaf (x:Lf) (v:R):Tc (some v)
 | xP (x:Lf) (v:R) (Q:R→Prop) (h:Q v):Tc (some v)
 | fail:Tc none
 | bd {β:Type} {e:Option β} {f:β→Option R} (k:(x:β)→e=some x→Tc (f x)):Tc (e.bind f)
 | gd {b:Bool} {f:Option R} (k:b=true→Tc f):Tc (Proofs.YtohoggieaanllaaGreat.gd b f)
 | br (t:Nat) {b:Bool} {f g:Option R} (x:b=true→Tc f) (y:b=false→Tc g):Tc (cond b f g)
 | ite {b:Bool} {f g:Option R} (x:b=true→Tc f) (y:b=false→Tc g):Tc (cond b f g)
 | ob {P:Prop} (h:P) {f:Option R} (r:Tc f):Tc f
 | rv (t:Nat) (u:AV) {P:Prop} (h:P) {f:Option R} (r:Tc f):Tc f
 | rb (b:Nat) (c:List AV) {P:Prop} (h:P) {f:Option R} (r:Tc f):Tc f
 | v (d:Nat) (u:AV) {f:Option R} (r:Tc f):Tc f
 | z (d:Nat) (t:List AV) {f:Option R} (r:Tc f):Tc f
 | ap (d:Nat) (n:Nat) (cs:List AV) {f:Option R} (r:Tc f):Tc f
 | st (cs:Option (List AV)) {f:Option R} (r:Tc f):Tc f
 | call (ms:List (Option Bool)) (m:Option Bool) (ts:List AV) (v:AV) (out:WH) {f:Option R} (r:Tc f):Tc f
 | lp (ms:List (Option Bool)) (bs:List (Option Bool)) (ts:List AV) (ex:Ex) (outs:List (Nat×AV)) (out:WH) {f:Option R} (r:Tc f):Tc f
 | jn (keep:List Nat) (ms:List (Option Bool)) (bs:List (Option Bool)) (ts:List AV) (ex:Ex) (outs:List (Nat×AV)) (out:WH) {f:Option R} (r:Tc f):Tc f
 | sk {f:Option R} (r:Tc f):Tc f
 | cb (ms:List (Option Bool)) (ts:List AV) (v:AV) {f:Option R} (r:Tc f):Tc f
 | kl (bs:List Nat) {f:Option R} (r:Tc f):Tc f
 | er {f:Option R} (r:Tc f):Tc f
structure TS:Type 1 where
 {R:Type}
 {f:Option R}
 tr:Tc f
def claim {R:Type} (L:R→Prop) (r:R):{f:Option R}→Tc f→Prop
 | _,.leaf _ v=>L v
 | _,.xP _ _ Q _=>Q r
 | _,.fail=>False
 | _,.bd k=>∃ x,∃ q,claim L r (k x q)
 | _,.gd k=>∃ q,claim L r (k q)
 | _,.br (b:=b) _ x y=>b=b∧((∀ h,claim L r (x h))∧(∀ h,claim L r (y h)))
 | _,.ite x y=>(∀ h,claim L r (x h))∧(∀ h,claim L r (y h))
 | _,.ob (P:=P) _ k=>P∧claim L r k
 | _,.rv _ _ (P:=P) _ k=>P∧claim L r k
 | _,.rb _ _ (P:=P) _ k=>P∧claim L r k
 | _,.v _ _ k=>claim L r k
 | _,.z _ _ k=>claim L r k
 | _,.ap _ _ _ k=>claim L r k
 | _,.st _ k=>claim L r k
 | _,.call _ _ _ _ _ k=>claim L r k
 | _,.lp _ _ _ _ _ _ k=>claim L r k
 | _,.jn _ _ _ _ _ _ _ k=>claim L r k
 | _,.sk k=>claim L r k
 | _,.cb _ _ _ k=>claim L r k
 | _,.kl _ k=>claim L r k
 | _,.er k=>claim L r k
theorem iO {R:Type} {L:R→Prop} {r:R} (hL:L r):∀ {f:Option R} (T:Tc f),f=some r→claim L r T
 | _,.leaf _ v,h=>by
  obtain rfl:=Option.some.inj h
  exact hL
 | _,.xP _ _ Q q,h=>by
  obtain rfl:=Option.some.inj h
  exact q
 | _,.fail,h=>by cases h
 | _,.bd (e:=e) k,h=>by
  have hx:∃ x,e=some x:=by
   cases e with
   | none=>cases h
   | some x=>exact ⟨x,rfl⟩
  obtain ⟨x,he⟩:=hx
  exact ⟨x,he,iO hL (k x he) (by rw [he] at h;exact h)⟩
 | _,.gd (b:=b) k,h=>by
  have hb:b=true:=by
   cases b with
   | false=>cases h
   | true=>rfl
  exact ⟨hb,iO hL (k hb) (by rw [hb] at h;exact h)⟩
 | _,.br (b:=b) _ x y,h=>⟨rfl,λq=>iO hL (x q) (by rw [q] at h;exact h),λq=>iO hL (y q) (by rw [q] at h;exact h)⟩
 | _,.ite x y,h=>⟨λq=>iO hL (x q) (by rw [q] at h;exact h),λq=>iO hL (y q) (by rw [q] at h;exact h)⟩
 | _,.ob p k,h=>⟨p,iO hL k h⟩
 | _,.rv _ _ p k,h=>⟨p,iO hL k h⟩
 | _,.rb _ _ p k,h=>⟨p,iO hL k h⟩
 | _,.v _ _ k,h=>iO hL k h
 | _,.z _ _ k,h=>iO hL k h
 | _,.ap _ _ _ k,h=>iO hL k h
 | _,.st _ k,h=>iO hL k h
 | _,.call _ _ _ _ _ k,h=>iO hL k h
 | _,.lp _ _ _ _ _ _ k,h=>iO hL k h
 | _,.jn _ _ _ _ _ _ _ k,h=>iO hL k h
 | _,.sk k,h=>iO hL k h
 | _,.cb _ _ _ k,h=>iO hL k h
 | _,.kl _ k,h=>iO hL k h
 | _,.er k,h=>iO hL k h
def need (Q:Prop) (k:TS→Prop):TS→Prop
 | ⟨.ob _ r⟩=>Q∧k ⟨r⟩
 | _=>False
def adH (k:Fast→WH→TS→Prop) {R:Type}:{f:Option R}→Tc f→Fast→WH→Prop
 | _,.bd kk,l,H=>∃ x,∃ q,adH k (kk x q) l H
 | _,.gd kk,l,H=>∃ q,adH k (kk q) l H
 | _,.ite x y,l,H=>(∀ h,adH k (x h) l H)∧(∀ h,adH k (y h) l H)
 | _,.rv t u _ r,l,H=>look l t=u∧adH k r ((t,u)::l) H
 | _,.rb b c _ r,l,H=>match dJ H b with
  | some (.cells c0 ro sl)=>c0=c∧adH k r l (iG H b (some (.cells c ro sl)))
  | _=>False
 | _,t,l,H=>k l H ⟨t⟩
def aq3:TS→TS
 | ⟨.kl _ r⟩=>⟨r⟩
 | tr=>tr
def afs (H:WH):List Nat→WH
 | []=>H
 | b::r=>afs (iG H b none) r
def wkl:TS→WH→WH
 | ⟨.kl bs _⟩,H=>afs H bs
 | _,H=>H
def axJ (tr:TS):Bool:=match aq3 tr with
 | ⟨.jn ..⟩=>true
 | _=>false
def isD (d:Option Nat) (k:Nat):Bool:=match d with
 | some d=>Nat.beq d k
 | none=>false
def ovr (d:Option Nat) (x:Option AV) (tr:TS) (k:AV→TS→Prop):Prop :=
 match tr with
 | ⟨.v d' u r⟩=>match isD d d' with
  | true=>need (x=some u) (k u) ⟨r⟩
  | false=>match x with
   | some v=>k v tr
   | none=>False
 | ⟨.z d' t r⟩=>match isD d d' with
  | true=>match x with
   | some v=>k (retag v (t.headD .undef)) ⟨r⟩
   | none=>False
  | false=>match x with
   | some v=>k v tr
   | none=>False
 | _=>match x with
  | some v=>k v tr
  | none=>False
def akL (d:Option Nat) (n:Nat) (cs:List AV) (tr:TS) (k:Nat→List AV→TS→Prop):Prop :=
 match tr with
 | ⟨.ap d' n' cs' r⟩=>match isD d d' with
  | true=>need (n=n') (need (cs=cs') (k n' cs')) ⟨r⟩
  | false=>k n cs tr
 | _=>k n cs tr
def wMk (l c:AV) (n bytes:Nat):Prop:=l=.int .i64 n∧c=.int .i64 n∧n≤4611686018427387904∧bytes * n≤281474976710656
def wK (d:Option Nat) (o:MF) (tr:TS) (k:mU→(Nat→AV)→TS→Prop):Prop :=
 match o with
 | .alloc zero=>match tr with
  | ⟨.z d' t r⟩=>match isD d d' with
   | true=>k (.cells (sV zero t) false false) (λb=>.ptr (some (b,0))) ⟨r⟩
   | false=>k (.cells zero false false) (λb=>.ptr (some (b,0))) tr
  | _=>k (.cells zero false false) (λb=>.ptr (some (b,0))) tr
 | .box x=>match (x.ev []).cells? with
  | some cs=>k (.cells cs false false) (λb=>.ptr (some (b,0))) tr
  | none=>False
 | .buildSlice sz len zero parts=>match tL (jX len zero) (parts.map λp=>(p.1 * sz,sz,p.2.ev [])) with
  | some cs=>match Nat.beq zero.length sz with
   | true=>k (.cells cs false false) (λb=>.acc b 0 sz len true) tr
   | false=>False
  | none=>False
 | .makeSlice sz bytes zero l c=>match tr with
  | ⟨.ap d' n cs r⟩=>match isD d d' with
   | true=>match Nat.beq zero.length sz,zero.all AV.flat with
    | true,true=>need (wMk (l.ev []) (c.ev []) n bytes) (need (jX n zero=cs) (k (.cells cs false true) (λb=>.acc b 0 sz n true))) ⟨r⟩
    | _,_=>False
   | false=>False
  | _=>False
 | .qE x=>match x.ev [] with
  | .str s=>need (s.length≤70368744177664) (k (.cells (s.map λb=>.int .u8 b.toNat) false true) (λb=>.acc b 0 1 s.length true)) tr
  | _=>False
 | .makeMap=>False
structure VI where
 to:Nat→Option Nat
 U3:Nat→Bool
 gone:Nat→Bool
 dim:Nat→Option (Nat×Nat)
instance:CoeFun VI (λ_=>Nat→Option Nat):=⟨VI.to⟩
def VI.none:VI:=⟨λ_=>Option.none,λ_=>false,λ_=>false,λ_=>Option.none⟩
mutual
def VL (M:Heap) (O:Nat→Prop):VI→AV→AV→Prop
 | _,.undef,_=>True
 | _,.bool b,a=>a=.bool b
 | _,.int k n,a=>a=.int k n
 | _,.str s,a=>a=.str s
 | _,.ptr none,a=>a=.ptr none
 | κ,.ptr (some q),a=>∃ j,κ q.1=some j∧a=.ptr (some (j,q.2))
 | _,.slice none _ len cap ex,a=>(len=0∧cap=0∧ex=true)∧∃ s',a=.slice none s' 0 0 true
 | _,.slice (some _) _ _ _ _,_=>False
 | _,.map none,a=>a=.map none
 | κ,.map (some r),a=>∃ j,κ r=some j∧a=.map (some j)
 | κ,.func f cs,a=>∃ cs',a=.func f cs'∧bV M O κ cs cs'
 | _,.nilFunc,a=>a=.nilFunc
 | κ,.agg cs,a=>∃ cs',a=.agg cs'∧bV M O κ cs cs'
 | κ,.tuple cs,a=>∃ cs',a=.tuple cs'∧bV M O κ cs cs'
 | _,.list sz len cs ex,a=>(len=0∧cs=[]∧∃ s',a=.slice none s' 0 0 true)∨∃ b o cap ex',a=.slice (some (b,o)) sz len cap ex'∧len≤cap∧(ex=true→ex'=true∧cap=len)∧cs.length=len * sz ∧
   (len≠0→∃ c ro sl,M.get b=some (.cells c ro sl)∧¬ O b∧b < M.next∧o+len * sz≤c.length∧bV M O VI.none cs ((c.drop o).take (len * sz)))
 | _,.elem cs,a=>∃ b o c ro sl,a=.ptr (some (b,o))∧M.get b=some (.cells c ro sl)∧¬ O b∧b < M.next∧bV M O VI.none cs ((c.drop o).take cs.length)
 | κ,.acc b o sz n w,a=>∃ p s' cap ex,a=.slice p s' n cap ex∧n≤cap∧(p=none→cap=0∧ex=true)∧(p≠none→s'=sz)∧∃ m L,κ.dim b=some (m,L)∧o+n * sz≤m∧(w=true→o=0∧n * sz=m) ∧
   ((∃ j,κ b=some j∧((p=some (j,o)∧o+cap * sz≤L)∨(n=0∧cap=0∧ex=true)))∨(κ.U3 b=true∧n=0∧cap=0∧ex=true∧m=0))
def bV (M:Heap) (O:Nat→Prop):VI→List AV→List AV→Prop
 | _,[],[]=>True
 | κ,a::l,v::r=>VL M O κ a v∧bV M O κ l r
 | _,_,_=>False
end
def own (ι:VI):Nat→Prop:=λj=>∃ i,ι i=some j∧ι.gone i=false
def OR (R:Nat→Prop) (ι:VI):Nat→Prop:=λj=>own ι j∨R j
def Heap.Ok (M:Heap):Prop:=∀ b,M.next≤b→M.get b=none
def BL (M:Heap) (O:Nat→Prop) (κ:VI) (d:Option (Nat×Nat)):mU→Option mU→Prop
 | .cells c ro sl,x=>∃ c' t ro' sl' L,x=some (.cells (c'++t) ro' sl')∧(ro=false→ro'=false)∧d=some (c.length,L)∧L≤(c'++t).length∧bV M O (if sl then VI.none else κ) c c'∧(sl=false→sl'=false)
 | .map _,_=>False
def mU.ro:mU→Bool
 | .cells _ ro _=>ro
 | .map _=>false
def act (ι:VI) (H:WH) (i:Nat):Prop:=(∃ x,dJ H i=some x)∨ι.gone i=false
structure VS (R:Nat→Prop) (ι:VI) (H:WH) (M:Heap):Prop where
 lt:∀ i j,ι i=some j→i < H.length∧j < M.next
 inj:∀ i i' j,act ι H i→act ι H i'→ι i=some j→ι i'=some j→ι.gone i=false∨ι.gone i'=false→i=i'
 blk:∀ i x,dJ H i=some x→(ι.U3 i=true∧ι.dim i=some (0,0)∧∃ ro,x=.cells [] ro true)∨∃ j,ι i=some j∧BL M (OR R ι) ι (ι.dim i) x (M.get j)∧(x.ro=false→ι.gone i=false)
 CP:∀ i,ι.U3 i=true→i < H.length∧ι i=none
 Cq:∀ i,ι.gone i=true→∀ c sl,dJ H i≠some (.cells c false sl)
 okM:M.Ok
 res:∀ j,R j→j < M.next∧∀ i,act ι H i→ι i≠some j
structure Keeps (M:Heap) (O:Nat→Prop) (M':Heap) (O':Nat→Prop):Prop where
 next:M.next≤M'.next
 get:∀ b,b < M.next→¬ O b→M'.get b=M.get b∧¬ O' b
def VI.Le (κ yE:VI) (S:Nat→Prop):Prop:=∀ i,S i→(∀ j,κ i=some j→yE i=some j∧∀ d,κ.dim i=some d→yE.dim i=some d)∧(κ.U3 i=true→yE.U3 i=true∧∀ d,κ.dim i=some d→yE.dim i=some d)
structure Stp (n:Nat) (t:List Nat) (ι:VI) (H:WH) (M:Heap) (bL:VI) (H':WH) (M':Heap):Prop where
 keep:Keeps M (own ι) M' (own bL)
 le:VI.Le ι bL (λi=>i < n)
 gone:∀ i,i < n→ι.gone i=true→bL.gone i=true
 toq:∀ i,i < n→bL i=ι i
 ahL:∀ i,i < n→bL.dim i=ι.dim i
 acj:∀ i,i < n→dJ H i=none→bL.gone i=ι.gone i
 live:∀ i,i < n→(∃ x,dJ H' i=some x)→∃ x,dJ H i=some x
 tch:∀ i j,i < n→act bL H' i→ι i=some j→i ∉ t→M'.get j=M.get j
 next:n≤H'.length
def Spec (C:bP) (f:FuncId) (args:List AV) (blks:WH) (v:AV) (out:WH):Prop :=
 ∀ R ι M as,VS R ι blks M→bV M (OR R ι) ι args as→∃ a M' bL,C f as M=some (a,M')∧VS R bL out M'∧Stp blks.length (List.range blks.length) ι blks M bL out M'∧VL M' (OR R bL) bL v a
def ahM (run:Fast→Heap→Xq) (np:Nat) (ins:Fast) (blks:WH) (ex:Ex) (outs:Fast) (out:WH):Prop :=
 ∀ R ι M lA,VS R ι blks M→(∀ t,VL M (OR R ι) ι (look ins t) (look lA t))→∃ yP M' bL,run lA M=some (ex,yP,M')∧VS R bL out M'∧Stp np (List.range np) ι blks M bL out M'∧∀ t,VL M' (OR R bL) bL (look outs t) (look yP t)
inductive Bt where
 | clone (sz bytes:Nat)
 | clip (sz:Nat)
 | grow (sz bytes:Nat)
 | ins (sz bytes:Nat)
 | del (sz:Nat)
def wBt (b:Bt) (d:Option Nat) (args:List AV) (H:WH) (tr:TS) (k:AV→WH→List Nat→TS→Prop):Prop :=
 match b with
 | .clone sz bytes=>match args with
  | [v]=>match v with
   | .str _=>False
   | v=>match Ni v sz H with
    | some (n,cs,S)=>akL d n cs tr λn cs tr=>need (dh bytes n=true) (k (.acc H.length 0 sz n true) (KM H S++[some (.cells cs false true)]) []) tr
    | none=>False
  | _=>False
 | .grow sz bytes=>match args with
  | [.slice none _ 0 0 true,.int .i64 n]=>need (0≤n∧n≤70368744177664∧bytes * n.toNat≤281474976710656∧n.toNat * bytes≤70368744177664) (k (.acc H.length 0 sz 0 true) (H++[some (.cells [] false true)]) []) tr
  | _=>False
 | .clip sz=>match args with
  | [.slice none z 0 0 true]=>k (.slice none sz 0 0 true) H [] tr
  | [.list sz' n cs _]=>match Nat.beq sz' sz with
   | true=>k (.list sz n cs true) H [] tr
   | false=>False
  | [.acc b o sz' n w]=>match Nat.beq sz' sz with
   | true=>k (.acc b o sz n w) H [] tr
   | false=>False
  | _=>False
 | .ins sz bytes=>match args with
  | [.acc b o sz1 n w,.int .i64 i,.acc b2 o2 sz2 m w2]=>match Nat.beq b b2 with
   | true=>False
   | false=>match dJ H b2 with
    | some (.cells _ false false)=>match Ni (.acc b2 o2 sz2 m w2) sz H with
     | some (m,new,[])=>match Nat.beq m 1 with
      | true=>match YT (.acc b o sz1 n w) sz H with
       | some (len,old,H',t)=>need (0≤i∧i≤(len:Int)) (λtr=>akL d (len+1) (old.take (i.toNat * sz)++(new++old.drop (i.toNat * sz))) tr λN cs tr=>need (dh bytes N=true) (k (.acc H'.length 0 sz N true) (H'++[some (.cells cs false true)]) t) tr) tr
       | none=>False
      | false=>False
     | _=>False
    | _=>False
  | _=>False
 | .del sz=>match args with
  | [.acc b 0 sz1 n true,.int .i64 i,.int .i64 j]=>match Nat.beq sz1 sz with
   | true=>match dJ H b with
    | some (.cells c false true)=>need (0≤i∧i < j∧j≤(n:Int)) (λtr=>akL d (n - (j.toNat - i.toNat)) (c.take (i.toNat * sz)++c.drop (j.toNat * sz)) tr λN cs tr=>k (.acc H.length 0 sz N true) (iG H b none++[some (.cells cs false true)]) [b] tr) tr
    | _=>False
   | false=>False
  | _=>False
def kQ:List Nat→List AV→Fast
 | t::r,v::s=>(t,v)::kQ r s
 | _,_=>[]
def YU (np:Nat) (ms bs:List (Option Bool)) (ts:List AV) (vs:List AV) (H:WH) (k:List AV→WH→Prop):Prop :=
 match SK ms (sV vs ts) H with
 | (vs,H)=>match WA bs none (U1 H np (qc vs)) H with
  | H=>match U1 H np (qc vs) with
   | p=>k (rnL (CO p) vs) (zW H p p)
mutual
def uI:AV→Bool
 | .bool _ | .int .. | .str _ | .ptr none | .nilFunc=>true
 | .slice none _ 0 0 true=>true
 | .tuple cs=>aft cs
 | .agg cs=>aft cs
 | _=>false
def aft:List AV→Bool
 | []=>true
 | v::r=>match uI v with
  | true=>aft r
  | false=>false
end
def amK (C:bP) (g:FuncId) (args:List AV) (H:WH) (tr:TS) (k:AV→WH→List Nat→TS→Prop):Prop :=
 match tr with
 | ⟨.call ms m ts v out r⟩=>match SK ms (sV args ts) H with
  | (vs,H)=>match WA [] m (U1 H 0 (qc vs)) H with
   | H=>match U1 H 0 (qc vs) with
    | p=>match Nat.ble p.length out.length with
     | true=>need (Spec C g (rnL (CO p) vs) (zW H p p) v out) (k (rn (back p H.length) v) (SI H p out) p) ⟨r⟩
     | false=>False
 | ⟨.cb ms ts v r⟩=>match SK ms (sV args ts) H with
  | (vs,H1)=>match U1 H1 0 (qc vs),uI v with
   | [],true=>need (Spec C g (rnL (CO []) vs) [] v []) (k v H []) ⟨r⟩
   | _,_=>False
 | _=>False
def wN (C:bP) (B:FuncId→Option Bt) (d:Option Nat) (o:Gz) (H:WH) (tr:TS) (k:AV→WH→List Nat→TS→Prop):Prop :=
 match o with
 | .store n a v=>match a.ev [],(v.ev []).cells? with
  | .ptr (some (b,off)),some cs=>match Nat.beq cs.length n with
   | true=>match tr with
    | ⟨.st x r⟩=>match dJ H b with
     | some (.cells c false sl)=>match sl with
      | false=>match x with
       | none=>match U2 c off cs with
        | some c'=>k (.tuple []) (iG H b (some (.cells c' false false))) [b] ⟨r⟩
        | none=>False
       | some c'=>need (U2 c off cs=some c') (k (.tuple []) (iG H b (some (.cells c' false false))) [b]) ⟨r⟩
      | true=>match KL (frz H 5 true) cs with
       | some p=>match vS p.2 b with
        | true=>False
        | false=>match x with
         | none=>match U2 c off p.1 with
          | some c'=>k (.tuple []) (iG (KM H p.2) b (some (.cells c' false true))) [b] ⟨r⟩
          | none=>False
         | some c'=>need (U2 c off p.1=some c') (k (.tuple []) (iG (KM H p.2) b (some (.cells c' false true))) [b]) ⟨r⟩
       | none=>False
     | _=>False
    | _=>False
   | false=>False
  | _,_=>False
 | .call f args=>match f.ev [] with
  | .func g caps=>match B g with
   | some bt=>wBt bt d (args.map (AX.ev [])++caps) H tr k
   | none=>amK C g (args.map (AX.ev [])++caps) H tr k
  | _=>False
 | .append sz bytes s x=>match Ni (x.ev []) sz H with
  | some (m,new,S)=>match YT (s.ev []) sz (KM H S) with
   | some (len,old,H',t)=>akL d (len+m) (old++new) tr λn cs tr=>need (dh bytes n=true) (k (.acc H'.length 0 sz n true) (H'++[some (.cells cs false true)]) t) tr
   | none=>False
  | none=>False
 | .yD x=>match x.ev [] with
  | .acc b 0 sz (n+1) true=>match dJ H b with
   | some (.cells c false sl)=>match sl || c.all AV.flat with
    | true=>k (.acc b 0 sz (n+1) true) (iG H b (some (.cells c false true))) [b] tr
    | false=>False
   | _=>False
  | _=>False
 | _=>False
def wIf (c want:Bool) (y n:Prop):Prop :=
 match c,want with
 | true,true=>y
 | false,false=>y
 | _,_=>n
def wGd (g:Option (Nat×Bool)) (l:Fast) (tr:TS) (yes no:Fast→TS→Prop):Prop :=
 match g with
 | none=>yes l tr
 | some (t,want)=>match look l t with
  | .bool c=>match tr with
   | ⟨.br (b:=b) t' x y⟩=>match Nat.beq t t' with
    | true=>c=b∧((∀ h,wIf true want (yes ((t,.bool true)::l) ⟨x h⟩) (no ((t,.bool true)::l) ⟨x h⟩))∧(∀ h,wIf false want (yes ((t,.bool false)::l) ⟨y h⟩) (no ((t,.bool false)::l) ⟨y h⟩)))
    | false=>wIf c want (yes l tr) (no l tr)
   | _=>wIf c want (yes l tr) (no l tr)
  | .tuple _=>no l tr
  | _=>False
def Qv (l:Fast) (H:WH) (tr:TS) (k:Fast→WH→TS→Prop):Prop:=adH k tr.tr l H
def afu (C:bP) (B:FuncId→Option Bt) (n:Nat):List w9→Fast→WH→TS→(Fast→WH→TS→Prop)→Prop
 | [],l,H,tr,k=>k l H tr
 | o::r,l,H,tr,k=>Qv l H tr λl H tr=>wGd o.guard l tr
  (λl tr=>Qv l H tr λl H tr=>match o.op with
   | .p op=>ovr o.dst (wP (op.sub (look l))) tr λv tr=>afu C B n r (oh n o.dst v l) H tr k
   | .l op=>ovr o.dst (wL (op.sub (look l)) H) tr λv tr=>afu C B n r (oh n o.dst v l) H tr k
   | .k op=>wK o.dst (op.sub (look l)) tr λx mk tr=>afu C B n r (oh n o.dst (mk H.length) l) (H++[some x]) tr k
   | .n op=>wN C B o.dst (op.sub (look l)) H tr λv H _ tr=>afu C B n r (oh n o.dst v l) H tr k)
  (λl tr=>afu C B n r (oh n o.dst (.tuple []) l) H tr k)
def rC:List (Nat×Nat)→Nat→Nat
 | [],_=>0
 | p::r,t=>match Nat.beq p.1 t with
  | true=>p.2
  | false=>rC r t
def qH (bt:List (Nat×Nat)):AX→Nat
 | .t t=>rC bt t
 | .c _=>0
def adI (bt:List (Nat×Nat)):Option AX→Nat
 | none=>0
 | some x=>qH bt x
def afv (bt:List (Nat×Nat)) (k:Nat):mV→Nat
 | .move x=>qH bt x
 | .slice _ x a b c=>max (qH bt x) (max (adI bt a) (max (adI bt b) (adI bt c)))
 | .j6 _ x i=>max (qH bt x) (qH bt i)
 | .xA _ _ x i=>max (qH bt x) (qH bt i)
 | .fieldAddr _ x=>qH bt x
 | .nilCheck x=>qH bt x
 | .bin _ x y=>max (qH bt x) (qH bt y)
 | .un _ x=>qH bt x
 | .LG _ x=>qH bt x
 | .field _ _ _ x=>qH bt x
 | .index _ _ _ x i=>max (qH bt x) (qH bt i)
 | .extract x _=>qH bt x
 | .len _ x=>qH bt x
 | _=>k
def oO (n:Nat) (d:Option Nat) (k:Nat) (bt:List (Nat×Nat)):List (Nat×Nat) :=
 match d with
 | some d=>match Nat.blt d n with
  | true=>(d,k)::bt
  | false=>bt
 | none=>bt
mutual
def known:AV→Bool
 | .undef=>false
 | .func _ cs=>U4 cs
 | .agg cs=>U4 cs
 | .tuple cs=>U4 cs
 | _=>true
def U4:List AV→Bool
 | []=>true
 | v::r=>match known v with
  | true=>U4 r
  | false=>false
end
def afw (l:Fast):BJ→Option (Option Nat)
 | .load _ _ (.t t)=>match look l t with
  | .elem _=>some none
  | .ptr (some q)=>some (some q.1)
  | _=>none
 | .lY (.t t)=>match look l t with
  | .list ..=>some none
  | .slice none _ _ _ _=>some none
  | .acc b _ _ _ _=>some (some b)
  | _=>none
 | _=>none
def Nj (bt:List (Nat×Nat)):BJ→Nat
 | .load _ _ x=>qH bt x
 | .lY x=>qH bt x
 | _=>0
def IG (H:WH) (base:Nat):List Nat→Bool
 | []=>true
 | m::r=>match dJ H (base+m) with
  | some (.cells _ false _)=>IG H base r
  | _=>false
def touches (b:Nat):List (List Nat×WH)→Bool
 | []=>false
 | t::r=>match vS t.1 b with
  | true=>true
  | false=>touches b r
def Nk (hs:List (List Nat×WH)) (lo base:Nat) (al:List Nat):Bool:=match hs.drop lo with
 | (_,Hk)::_=>IG Hk base al
 | []=>false
def YV (base:Nat) (al:List Nat) (l:Fast) (bt:List (Nat×Nat)) (lo:Nat) (o:BJ) (v:AV) (H:WH) (hs:List (List Nat×WH)):Bool :=
 match afw l o with
 | some none=>match Nat.ble (Nj bt o) (lo+1),known v,IG H base al || Nk hs lo base al with
  | true,true,true=>true
  | true,true,false=>Nat.beq (Nj bt o) 0
  | _,_,_=>false
 | some (some b)=>match known v,Nat.blt b base,touches b (hs.drop lo) with
  | true,true,false=>true
  | _,_,_=>false
 | none=>false
def Nl (base:Nat) (l:Fast) (bt:List (Nat×Nat)) (lo:Nat) (o:BJ) (v:AV):Bool :=
 match o with
 | .load _ _ (.t t)=>match look l t,v with
  | .ptr (some (b,_)),.int _ _=>Nat.blt b base&&Nat.ble (rC bt t) (lo+1)
  | .ptr (some (b,_)),.str _=>Nat.blt b base&&Nat.ble (rC bt t) (lo+1)
  | .ptr (some (b,_)),.bool _=>Nat.blt b base&&Nat.ble (rC bt t) (lo+1)
  | _,_=>false
 | _=>false
def SL (o:BJ) (x:Option AV) (k:TS→Prop):List (List Nat×WH)→TS→Prop
 | [],tr=>k tr
 | h::r,tr=>need (wL o h.2=x) (SL o x k r) tr
def amL (l:Fast):BJ→Option Nat
 | .load _ _ (.t t)=>match look l t with
  | .ptr (some q)=>some q.1
  | _=>none
 | _=>none
def Jw (C:bP) (B:FuncId→Option Bt) (n base nk:Nat):List fO→Fast→WH→TS→List (List Nat×WH)→List (Nat×Nat)→List Nat→(Fast→WH→TS→Prop)→Prop
 | [],l,H,tr,_,_,_,k=>k l H tr
 | d::r,l,H,tr,hs,bt,al,k=>Qv l H tr λl H tr=>wGd d.o.guard l tr
  (λl tr=>Qv l H tr λl H tr=>match d.o.op with
   | .p op=>ovr d.o.dst (wP (op.sub (look l))) tr λv tr=>Jw C B n base nk r (oh n d.o.dst v l) H tr hs (oO n d.o.dst (afv bt (hs.length+1) op) bt) al k
   | .l op=>ovr d.o.dst (wL (op.sub (look l)) H) tr λv tr=>match YV base al l bt d.lo op v H hs with
    | true=>match tr with
     | ⟨.er t⟩=>match amL l op,Nat.ble (Nj bt op) (d.lo+1) with
      | some _,true=>SL (op.sub (look l)) (wL (op.sub (look l)) H) (λtr=>Jw C B n base nk r (oh n d.o.dst v l) H tr hs (oO n d.o.dst (d.lo+1) bt) al k) (hs.drop d.lo) ⟨t⟩
      | _,_=>False
     | _=>Jw C B n base nk r (oh n d.o.dst v l) H tr hs (oO n d.o.dst (hs.length+1) bt) al k
    | false=>match Nl base l bt d.lo op v with
     | true=>SL (op.sub (look l)) (wL (op.sub (look l)) H) (λtr=>Jw C B n base nk r (oh n d.o.dst v l) H tr hs (oO n d.o.dst (hs.length+1) bt) al k) (hs.drop d.lo) tr
     | false=>False
   | .k op=>match Nat.blt d.ix nk,vS al d.ix with
    | true,false=>wK d.o.dst (op.sub (look l)) tr λx mk tr=>Jw C B n base nk r (oh n d.o.dst (mk (base+d.ix)) l) (iG H (base+d.ix) (some x)) tr hs (oO n d.o.dst (hs.length+1) bt) (d.ix::al) k
    | _,_=>False
   | .n op=>wN C B d.o.dst (op.sub (look l)) H tr λv H' t tr=>Jw C B n base nk r (oh n d.o.dst v l) H' tr (hs++[(t,H)]) (oO n d.o.dst (hs.length+2) bt) al k)
  (λl tr=>match d.o.op with
   | .n _=>Jw C B n base nk r (oh n d.o.dst (.tuple []) l) H tr (hs++[([],H)]) (oO n d.o.dst (hs.length+2) bt) al k
   | _=>Jw C B n base nk r (oh n d.o.dst (.tuple []) l) H tr hs (oO n d.o.dst (hs.length+1) bt) al k)
def holes:Nat→WH
 | 0=>[]
 | k+1=>none::holes k
def El (C:bP) (B:FuncId→Option Bt) (K n np:Nat):bG→Fast→WH→TS→(Ex→Fast→WH→TS→Prop)→Prop
 | .skip,l,H,tr,k=>k .normal l H tr
 | .reg ops,l,H,tr,k=>afu C B n ops l H tr (k .normal)
 | .Xn nk ops,l,H,tr,k=>Jw C B n H.length nk ops l (H++holes nk) tr [] [] [] (k .normal)
 | .seq a b,l,H,tr,k=>Qv l H tr λl H tr=>match axJ tr with
  | true=>match aq3 tr with
   | ⟨.jn keep ms bs ts ex outs out r⟩=>YU np ms bs ts (keep.map (look l)) (wkl tr H) λvs blks=>need (ahM (aU C K n a) np (kQ keep vs) blks ex outs out) (λr =>
    match ex with
    | .normal=>El C B K n np b outs out r k
    | ex=>k ex outs out r) ⟨r⟩
   | _=>False
  | false=>El C B K n np a l H (match tr with
   | ⟨.sk r⟩=>⟨r⟩
   | tr=>tr) λex l H tr=>match ex with
   | .normal=>El C B K n np b l H tr k
   | ex=>k ex l H tr
 | .cond c a b,l,H,tr,k=>Qv l H tr λl H tr=>wGd (match c with
   | .t t=>some (t,true)
   | .c _=>none) l tr
  (λl tr=>match c with
   | .t _=>El C B K n np a l H tr k
   | .c (.bool true)=>El C B K n np a l H tr k
   | .c (.bool false)=>El C B K n np b l H tr k
   | _=>False)
  (λl tr=>match look l (match c with
   | .t t=>t
   | .c _=>0) with
   | .bool _=>El C B K n np b l H tr k
   | _=>False)
 | .block id c,l,H,tr,k=>El C B K n np c l H tr λex l H tr=>match ex with
  | .exit i=>match Nat.beq i id with
   | true=>k .normal l H tr
   | false=>k (.exit i) l H tr
  | ex=>k ex l H tr
 | .loop keep c,l,H,tr,k=>Qv l H tr λl H tr=>match aq3 tr with
  | ⟨.lp ms bs ts ex outs out r⟩=>YU np ms bs ts (keep.map (look l)) (wkl tr H) λvs blks=>need (ahM (eu (aU C K n c) keep K) np (kQ keep vs) blks ex outs out) (k ex outs out) ⟨r⟩
  | _=>False
 | .exit id,l,H,tr,k=>k (.exit id) l H tr
 | .ret,l,H,tr,k=>k .ret l H tr
 | .fail,_,_,_,_=>False
def aq4 (r:Jq) (l:Fast) (H:WH):Option AV :=
 match r with
 | .tmp t=>match look l t with
  | .undef=>none
  | v=>some v
 | .cell t agg n=>wL (.load agg n (.c (look l t))) H
def afx:List Jq→Fast→WH→Option (List AV)
 | [],_,_=>some []
 | r::rs,l,H=>match aq4 r l H,afx rs l H with
  | some v,some vs=>some (v::vs)
  | _,_=>none
def SN (rs:List Jq) (l:Fast) (H:WH):Option AV:=match afx rs l H with
 | some [v]=>some v
 | some vs=>some (.tuple vs)
 | none=>none
def awo (tr:TS):Option Lf:=match aq3 tr with
 | ⟨.leaf x _⟩=>some x
 | ⟨.xP x _ _ _⟩=>some x
 | _=>none
def aq5 (np:Nat) (v:AV) (H:WH) (tr:TS) (v':AV) (out:WH):Prop :=
 match awo tr with
 | some (.fin m ts mc)=>match nrm m (retag v (ts.headD .undef)) (wkl tr H) with
  | (v,H)=>match WA [] mc (U1 H np (CK v)) H with
   | H=>match U1 H np (CK v) with
    | p=>rn (CO p) v=v'∧zW H p p=out
 | _=>False
def auS (C:bP) (B:FuncId→Option Bt) (K:Nat) (f:bC) (args:List AV) (blks:WH) (tr:TS) (v:AV) (out:WH):Prop :=
 El C B K f.ntmps blks.length f.code (start 0 (args++List.replicate (f.ntmps - f.nargs) (.tuple []))) blks tr λex l H tr=>Qv l H tr λl H tr=>match ex with
  | .exit _=>False
  | _=>match SN f.results l H with
   | some u=>aq5 blks.length u H tr v out
   | none=>False
def auT (np:Nat) (e:Ex) (l:Fast) (H:WH) (tr:TS) (x:Ex×Fast×WH):Prop :=
 Qv l H tr λl H tr=>match awo tr with
 | some (.en keep ms bs ts)=>YU np ms bs ts (keep.map (look l)) (wkl tr H) λvs blks=>e=x.1∧kQ keep vs=x.2.1∧blks=x.2.2
 | _=>False
def auU (C:bP) (B:FuncId→Option Bt) (K n np:Nat) (c:bG) (ins:Fast) (blks:WH) (tr:TS) (x:Ex×Fast×WH):Prop :=
 El C B K n np c ins blks tr λe l H tr=>auT np e l H tr x
theorem nP {Q:Prop} {k:TS→Prop} {tr:TS} (h:need Q k tr):∃ lG,Q∧k lG:=by
 unfold need at h
 split at h
 ·exact ⟨_,h⟩
 ·exact h.elim
end Go.Proofs.YtohoggieaanllaaGreat
end
section
set_option linter.all false
set_option linter.unusedSimpArgs false
namespace Go.Proofs.YtohoggieaanllaaGreat
theorem VI.Le.refl (κ:VI) (S:Nat→Prop):VI.Le κ κ S:=λ_ _=>⟨λ_ h=>⟨h,λ_ h=>h⟩,λh=>⟨h,λ_ h=>h⟩⟩
theorem VI.Le.ajT (κ:VI) (S:Nat→Prop):VI.Le VI.none κ S:=λ_ _=>⟨(λ_ h=>by cases h),(λh=>by cases h)⟩
theorem VI.Le.sub {κ yE:VI} {S T:Nat→Prop} (h:VI.Le κ yE S) (k:∀ i,T i→S i):VI.Le κ yE T:=λi hi=>h i (k i hi)
theorem VI.Le.trans {κ κ1 κ2:VI} {S:Nat→Prop} (h:VI.Le κ κ1 S) (k:VI.Le κ1 κ2 S):VI.Le κ κ2 S:=λi hi =>
 ⟨λj hj=>⟨((k i hi).1 j ((h i hi).1 j hj).1).1,λd hd=>((k i hi).1 j ((h i hi).1 j hj).1).2 d (((h i hi).1 j hj).2 d hd)⟩,
  λhj=>⟨((k i hi).2 ((h i hi).2 hj).1).1,λd hd=>((k i hi).2 ((h i hi).2 hj).1).2 d (((h i hi).2 hj).2 d hd)⟩⟩
theorem Keeps.refl (M:Heap) (O:Nat→Prop):Keeps M O M O:=⟨Nat.le_refl _,λ_ _ h=>⟨rfl,h⟩⟩
theorem Keeps.trans {M M1 M2:Heap} {O O1 O2:Nat→Prop} (h:Keeps M O M1 O1) (k:Keeps M1 O1 M2 O2):Keeps M O M2 O2 :=
 ⟨Nat.le_trans h.next k.next,λb hb ho=>by
  obtain ⟨e1,o1⟩:=h.get b hb ho
  obtain ⟨e2,o2⟩:=k.get b (Nat.lt_of_lt_of_le hb h.next) o1
  exact ⟨e2.trans e1,o2⟩⟩
theorem Keeps.or {M M':Heap} {ι bL:VI} (h:Keeps M (own ι) M' (own bL)) (R:Nat→Prop):Keeps M (OR R ι) M' (OR R bL) :=
 ⟨h.next,λb hb ho=>by
  obtain ⟨e1,e2⟩:=h.get b hb (λk=>ho (.inl k))
  exact ⟨e1,λk=>k.elim e2 (λk=>ho (.inr k))⟩⟩
mutual
theorem VL.mono {M M':Heap} {O O':Nat→Prop} (hk:Keeps M O M' O'):∀ (κ yE:VI) (v a:AV),VI.Le κ yE (λi=>i∈CK v)→VL M O κ v a→VL M' O' yE v a
 | _,_,.undef,_,_,_=>by simp [VL]
 | _,_,.bool _,_,_,e=>by simpa [VL] using e
 | _,_,.int _ _,_,_,e=>by simpa [VL] using e
 | _,_,.str _,_,_,e=>by simpa [VL] using e
 | _,_,.ptr none,_,_,e=>by simpa [VL] using e
 | κ,yE,.ptr (some q),_,h,e=>by
  simp only [VL] at e ⊢
  obtain ⟨j,h1,h2⟩:=e
  exact ⟨j,((h _ (by simp [CK])).1 _ h1).1,h2⟩
 | _,_,.slice none _ _ _ _,_,_,e=>by simpa [VL] using e
 | _,_,.slice (some _) _ _ _ _,_,_,e=>by simp [VL] at e
 | _,_,.map none,_,_,e=>by simpa [VL] using e
 | κ,yE,.map (some r),_,h,e=>by
  simp only [VL] at e ⊢
  obtain ⟨j,h1,h2⟩:=e
  exact ⟨j,((h _ (by simp [CK])).1 _ h1).1,h2⟩
 | κ,yE,.func f cs,_,h,e=>by
  simp only [VL] at e ⊢
  obtain ⟨cs',h1,h2⟩:=e
  exact ⟨cs',h1,bV.mono hk κ yE cs cs' (h.sub λi hi=>by simpa [CK] using hi) h2⟩
 | _,_,.nilFunc,_,_,e=>by simpa [VL] using e
 | κ,yE,.agg cs,_,h,e=>by
  simp only [VL] at e ⊢
  obtain ⟨cs',h1,h2⟩:=e
  exact ⟨cs',h1,bV.mono hk κ yE cs cs' (h.sub λi hi=>by simpa [CK] using hi) h2⟩
 | κ,yE,.tuple cs,_,h,e=>by
  simp only [VL] at e ⊢
  obtain ⟨cs',h1,h2⟩:=e
  exact ⟨cs',h1,bV.mono hk κ yE cs cs' (h.sub λi hi=>by simpa [CK] using hi) h2⟩
 | _,_,.list sz len cs ex,_,_,e=>by
  simp only [VL] at e ⊢
  rcases e with e | ⟨b,o,cap,ex',h1,h2,h3,h4,h5⟩
  ·exact .inl e
  refine .inr ⟨b,o,cap,ex',h1,h2,h3,h4,λhl=>?_⟩
  obtain ⟨c,ro,sl,g1,g2,g3,g4,g5⟩:=h5 hl
  obtain ⟨e1,e2⟩:=hk.get b g3 g2
  exact ⟨c,ro,sl,e1.trans g1,e2,Nat.lt_of_lt_of_le g3 hk.next,g4,bV.mono hk _ _ cs _ (VI.Le.refl _ _) g5⟩
 | _,_,.elem cs,_,_,e=>by
  simp only [VL] at e ⊢
  obtain ⟨b,o,c,ro,sl,h1,g1,g2,g3,g5⟩:=e
  obtain ⟨e1,e2⟩:=hk.get b g3 g2
  exact ⟨b,o,c,ro,sl,h1,e1.trans g1,e2,Nat.lt_of_lt_of_le g3 hk.next,bV.mono hk _ _ cs _ (VI.Le.refl _ _) g5⟩
 | κ,yE,.acc b o sz n w,_,h,e=>by
  simp only [VL] at e ⊢
  obtain ⟨p,s',cap,ex,h1,h2,h3,h4,m,L,h5,h6,h7,h8⟩:=e
  have hl:=h b (by simp [CK])
  rcases h8 with ⟨j,k1,k2⟩ | ⟨k1,k2⟩
  ·obtain ⟨g1,g2⟩:=hl.1 j k1
   exact ⟨p,s',cap,ex,h1,h2,h3,h4,m,L,g2 _ h5,h6,h7,.inl ⟨j,g1,k2⟩⟩
  ·obtain ⟨g1,g2⟩:=hl.2 k1
   exact ⟨p,s',cap,ex,h1,h2,h3,h4,m,L,g2 _ h5,h6,h7,.inr ⟨g1,k2⟩⟩
theorem bV.mono {M M':Heap} {O O':Nat→Prop} (hk:Keeps M O M' O'):∀ (κ yE:VI) (l r:List AV),VI.Le κ yE (λi=>i∈qc l)→bV M O κ l r→bV M' O' yE l r
 | _,_,[],[],_,_=>by simp [bV]
 | κ,yE,a::l,v::r,h,e=>by
  simp only [bV] at e ⊢
  exact ⟨VL.mono hk κ yE a v (h.sub λi hi=>by simp [qc,hi]) e.1,bV.mono hk κ yE l r (h.sub λi hi=>by simp [qc,hi]) e.2⟩
 | _,_,[],_::_,_,e=>by simp [bV] at e
 | _,_,_::_,[],_,e=>by simp [bV] at e
end
section
variable {M:Heap} {O:Nat→Prop} {κ:VI}
theorem bV.length:∀ {l r:List AV},bV M O κ l r→l.length=r.length
 | [],[],_=>rfl
 | _::l,_::r,e=>by
  simp only [bV] at e
  simp [bV.length e.2]
 | [],_::_,e=>by simp [bV] at e
 | _::_,[],e=>by simp [bV] at e
theorem bV.get:∀ {l r:List AV},bV M O κ l r→∀ (i:Nat) (a:AV),l[i]?=some a→∃ v,r[i]?=some v∧VL M O κ a v
 | [],_,_,i,a,h=>by simp at h
 | a::l,v::r,e,i,x,h=>by
  simp only [bV] at e
  cases i with
  | zero =>
   simp at h
   subst h
   exact ⟨v,by simp,e.1⟩
  | succ i=>simpa using bV.get e.2 i x (by simpa using h)
 | _::_,[],e,_,_,_=>by simp [bV] at e
theorem bV.append:∀ {l l' r r':List AV},bV M O κ l r→bV M O κ l' r'→bV M O κ (l++l') (r++r')
 | [],_,[],_,_,h=>by simpa using h
 | a::l,_,v::r,_,e,h=>by
  simp only [bV,List.cons_append] at e ⊢
  exact ⟨e.1,bV.append e.2 h⟩
 | [],_,_::_,_,e,_=>by simp [bV] at e
 | _::_,_,[],_,e,_=>by simp [bV] at e
theorem bV.drop:∀ {l r:List AV} (n:Nat),bV M O κ l r→bV M O κ (l.drop n) (r.drop n)
 | _,_,0,e=>by simpa using e
 | [],[],_+1,e=>by simpa using e
 | _::l,_::r,n+1,e=>by
  simp only [bV] at e
  simpa using bV.drop n e.2
 | [],_::_,_+1,e=>by simp [bV] at e
 | _::_,[],_+1,e=>by simp [bV] at e
theorem bV.take:∀ {l r:List AV} (n:Nat),bV M O κ l r→bV M O κ (l.take n) (r.take n)
 | _,_,0,e=>by simp [bV]
 | [],[],_+1,e=>by simp [bV]
 | _::l,_::r,n+1,e=>by
  simp only [bV] at e
  simp only [List.take_succ_cons,bV]
  exact ⟨e.1,bV.take n e.2⟩
 | [],_::_,_+1,e=>by simp [bV] at e
 | _::_,[],_+1,e=>by simp [bV] at e
theorem bV.same {l r:List AV} (h:bV M O κ l r) {n:Nat} (hn:n≤l.length):n≤r.length:=by rw [← h.length];exact hn
theorem VL.f_ {v a:AV} (h:v.f_=true) (r:VL M O κ v a):a.f_=true:=by
 cases v with
 | undef=>simp [AV.f_] at h
 | agg _=>simp [AV.f_] at h
 | tuple _=>simp [AV.f_] at h
 | ptr p=>cases p<;>simp only [VL] at r<;>first | (subst r;rfl) | (obtain ⟨_,_,rfl⟩:=r;rfl)
 | slice p=>cases p<;>simp only [VL] at r;obtain ⟨_,_,rfl⟩:=r;rfl
 | map p=>cases p<;>simp only [VL] at r<;>first | (subst r;rfl) | (obtain ⟨_,_,rfl⟩:=r;rfl)
 | func f cs=>simp only [VL] at r;obtain ⟨_,rfl,_⟩:=r;rfl
 | list=>simp only [VL] at r;rcases r with ⟨_,_,_,rfl⟩ | ⟨_,_,_,_,rfl,_⟩<;>rfl
 | elem=>simp only [VL] at r;obtain ⟨_,_,_,_,_,rfl,_⟩:=r;rfl
 | acc=>simp only [VL] at r;obtain ⟨_,_,_,_,rfl,_⟩:=r;rfl
 | _=>simp only [VL] at r;subst r;rfl
theorem VL.cells {v a:AV} {cs:List AV} (h:v.cells?=some cs) (r:VL M O κ v a):∃ cs',a.cells?=some cs'∧bV M O κ cs cs':=by
 cases v with
 | undef=>simp [AV.cells?] at h
 | tuple _=>simp [AV.cells?] at h
 | agg l =>
  simp only [AV.cells?] at h
  split at h
  case isFalse=>cases h
  rename_i hall
  obtain rfl:=Option.some.inj h
  simp only [VL] at r
  obtain ⟨cs',rfl,hr⟩:=r
  refine ⟨cs', ?_,hr⟩
  simp only [AV.cells?]
  rw [if_pos]
  rw [List.all_eq_true]
  intro x hx
  obtain ⟨i,hi⟩:=List.mem_iff_getElem?.1 hx
  have hlt:i < l.length:=by rw [hr.length];exact (List.getElem?_eq_some_iff.1 hi).1
  obtain ⟨y,hy,hyx⟩:=hr.get i _ (List.getElem?_eq_getElem hlt)
  rw [hi] at hy
  obtain rfl:=Option.some.inj hy
  exact hyx.f_ (List.all_eq_true.1 hall _ (List.getElem_mem hlt))
 | _ =>
  all_goals
   simp only [AV.cells?,Option.some.injEq] at h
   subst h
   have hc:=VL.f_ (by rfl) r
   refine ⟨[a], ?_,by simp only [bV];exact ⟨r,trivial⟩⟩
   cases a<;>simp_all [AV.cells?,AV.f_]
end
mutual
def zX:AV→Bool
 | .ptr (some _) | .slice (some _) _ _ _ _ | .map (some _) | .list .. | .elem _ | .acc ..=>false
 | .slice none _ l c e=>l==0&&c==0&&e
 | .func _ cs=>vT cs
 | .agg cs=>vT cs
 | .tuple cs=>vT cs
 | _=>true
def vT:List AV→Bool
 | []=>true
 | v::r=>zX v&&vT r
end
mutual
theorem VL.const {M:Heap} {O:Nat→Prop} {κ:VI}:∀ v:AV,zX v=true→VL M O κ v v
 | .undef,_=>by simp [VL]
 | .bool _,_=>by simp [VL]
 | .int _ _,_=>by simp [VL]
 | .str _,_=>by simp [VL]
 | .ptr none,_=>by simp [VL]
 | .ptr (some _),h=>by simp [zX] at h
 | .slice none s l c e,h=>by
  simp only [zX,Bool.and_eq_true,beq_iff_eq] at h
  simp only [VL]
  exact ⟨⟨h.1.1,h.1.2,h.2⟩,s,by rw [h.1.1,h.1.2,h.2]⟩
 | .slice (some _) _ _ _ _,h=>by simp [zX] at h
 | .map none,_=>by simp [VL]
 | .map (some _),h=>by simp [zX] at h
 | .func f cs,h=>by simp only [VL];exact ⟨cs,rfl,bV.const cs (by simpa [zX] using h)⟩
 | .nilFunc,_=>by simp [VL]
 | .agg cs,h=>by simp only [VL];exact ⟨cs,rfl,bV.const cs (by simpa [zX] using h)⟩
 | .tuple cs,h=>by simp only [VL];exact ⟨cs,rfl,bV.const cs (by simpa [zX] using h)⟩
 | .list ..,h=>by simp [zX] at h
 | .elem _,h=>by simp [zX] at h
 | .acc ..,h=>by simp [zX] at h
theorem bV.const {M:Heap} {O:Nat→Prop} {κ:VI}:∀ l:List AV,vT l=true→bV M O κ l l
 | [],_=>by simp [bV]
 | v::r,h=>by
  simp only [vT,Bool.and_eq_true] at h
  simp only [bV]
  exact ⟨VL.const v h.1,bV.const r h.2⟩
end
theorem bV.jX {M:Heap} {O:Nat→Prop} {κ:VI} {z:List AV} (h:vT z=true):∀ n,bV M O κ (jX n z) (jX n z)
 | 0=>by simp [Proofs.YtohoggieaanllaaGreat.jX,bV]
 | n+1=>(bV.const z h).append (bV.jX h n)
def AX.bB:AX→Bool
 | .t _=>true
 | .c v=>zX v
def okO:Option AX→Bool
 | none=>true
 | some x=>x.bB
def mV.bB:mV→Bool
 | .move x=>x.bB
 | .pick c a b=>c.bB&&a.bB&&b.bB
 | .build z ps=>vT z&&ps.all λp=>p.2.2.bB
 | .nilCheck x=>x.bB
 | .bin _ x y=>x.bB&&y.bB
 | .eqB _ x y=>x.bB&&y.bB
 | .eqS _ _ x y=>x.bB&&y.bB
 | .eqP _ x y=>x.bB&&y.bB
 | .eqN _ x y=>x.bB&&y.bB
 | .un _ x=>x.bB
 | .LG _ x=>x.bB
 | .M9 x=>x.bB
 | .DL _ cs=>cs.all AX.bB
 | .oJ x a b=>x.bB&&okO a&&okO b
 | .slice _ x a b c=>x.bB&&okO a&&okO b&&okO c
 | .fieldAddr _ x=>x.bB
 | .field _ _ _ x=>x.bB
 | .xA _ _ x i=>x.bB&&i.bB
 | .j6 _ x i=>x.bB&&i.bB
 | .index _ _ _ x i=>x.bB&&i.bB
 | .uE x i=>x.bB&&i.bB
 | .extract x _=>x.bB
 | .len _ x=>x.bB
 | .cap x=>x.bB
 | .zQ _ xs=>xs.all AX.bB
def BJ.bB:BJ→Bool
 | .load _ _ x=>x.bB
 | .lY x=>x.bB
 | .KD x=>x.bB
 | .lookup _ z x k=>zX z&&x.bB&&k.bB
def MF.bB:MF→Bool
 | .alloc z=>vT z
 | .box x=>x.bB
 | .buildSlice _ _ z ps=>vT z&&ps.all λp=>p.2.bB
 | .makeSlice _ _ z l c=>vT z&&l.bB&&c.bB
 | .qE x=>x.bB
 | .makeMap=>true
def Gz.bB:Gz→Bool
 | .store _ a v=>a.bB&&v.bB
 | .call f xs=>f.bB&&xs.all AX.bB
 | .append _ _ s x=>s.bB&&x.bB
 | .zR _ _ z s n=>vT z&&s.bB&&n.bB
 | .copy _ d s=>d.bB&&s.bB
 | .clear _ z x=>vT z&&x.bB
 | .mapUpdate m k v=>m.bB&&k.bB&&v.bB
 | .E8 m k=>m.bB&&k.bB
 | .yD x=>x.bB
 | .fail=>true
def CJ.bB:CJ→Bool
 | .p o=>o.bB
 | .l o=>o.bB
 | .k o=>o.bB
 | .n o=>o.bB
def bG.bB:bG→Bool
 | .reg ops=>ops.all λo=>o.op.bB
 | .Xn _ ops=>ops.all λd=>d.o.op.bB
 | .seq a b=>a.bB&&b.bB
 | .cond c a b=>c.bB&&a.bB&&b.bB
 | .block _ c=>c.bB
 | .loop _ c=>c.bB
 | _=>true
end Go.Proofs.YtohoggieaanllaaGreat
end
section
set_option linter.all false
set_option linter.unusedSimpArgs false
namespace Go.Proofs.YtohoggieaanllaaGreat
def AV.uI:AV→Bool
 | .bool _ | .int _ _ | .str _=>true
 | _=>false
section
variable {M:Heap} {O:Nat→Prop} {κ:VI}
theorem VL.uI {v:AV} (h:v.uI=true):VL M O κ v v:=by
 cases v<;>simp [AV.uI] at h<;>simp [VL]
theorem VL.eq {v a:AV} (h:v.uI=true) (r:VL M O κ v a):a=v:=by
 cases v<;>simp [AV.uI] at h<;>simpa [VL] using r
theorem ahN {op:BinOp} {k:IntKind} {x y:Int} {v:AV} (h:Jr op k x y=some v):v.uI=true:=by
 cases op<;>simp only [Jr] at h
 all_goals first | (cases h;rfl) | (cases h;done) | (split at h<;>cases h<;>rfl)
theorem ahO {op:BinOp} {x y:List UInt8} {v:AV} (h:ae2 op x y=some v):v.uI=true:=by
 cases op<;>simp only [ae2] at h
 all_goals first | (cases h;rfl) | (cases h;done) | (split at h<;>cases h<;>rfl)
theorem akM {op:BinOp} {x y v:AV} (h:UL op x y=some v):v.uI=true∧x.uI=true∧y.uI=true:=by
 cases x<;>cases y<;>simp only [UL] at h<;>first | (cases h;done) | skip
 ·refine ⟨?_,rfl,rfl⟩
  split at h
  ·split at h<;>cases h<;>rfl
  ·split at h<;>cases h<;>rfl
  ·split at h
   ·exact ahN h
   ·cases h
 ·exact ⟨ahO h,rfl,rfl⟩
theorem afy {k:Kd} {x y x' y':AV} {b:Bool} (hx:VL M O κ x x') (hy:VL M O κ y y') (h:ae3 k x y=some b):ae3 k x' y'=some b:=by
 have hs:x.uI=true∧y.uI=true:=by
  cases k<;>cases x<;>simp only [ae3] at h<;>first | (cases h;done) | (cases y<;>simp only at h<;>first | (cases h;done) | exact ⟨rfl,rfl⟩)
 rw [hx.eq hs.1,hy.eq hs.2]
 exact h
theorem acn:∀ {ks:List Kd} {l r l' r':List AV} {b:Bool},bV M O κ l l'→bV M O κ r r'→ni ks l r=some b→ni ks l' r'=some b
 | [],[],[],l',r',b,hl,hr,h=>by
  cases l' with
  | cons _ _=>simp [bV] at hl
  | nil=>cases r' with
   | cons _ _=>simp [bV] at hr
   | nil=>exact h
 | k::ks,a::l,c::r,l',r',b,hl,hr,h=>by
  cases l' with
  | nil=>simp [bV] at hl
  | cons a' l' =>
   cases r' with
   | nil=>simp [bV] at hr
   | cons c' r' =>
    simp only [bV] at hl hr
    simp only [ni] at h ⊢
    split at h
    ·rename_i x y h1 h2
     rw [afy hl.1 hr.1 h1,acn hl.2 hr.2 h2]
     exact h
    ·cases h
 | [],[],_::_,_,_,_,_,_,h=>by simp [ni] at h
 | [],_::_,_,_,_,_,_,_,h=>by simp [ni] at h
 | _::_,[],_,_,_,_,_,_,h=>by simp [ni] at h
 | _::_,_::_,[],_,_,_,_,_,h=>by simp [ni] at h
theorem amM {x y x' y':AV} {b:Bool} (hx:VL M O κ x x') (hy:VL M O κ y y') (h:aa1 x y=some b):aa1 x' y'=some b:=by
 unfold aa1 at h
 split at h
 ·rename_i c
  simp only [VL] at hx
  subst hx
  cases c with
  | none=>simp only [VL] at hy;subst hy;simpa [aa1] using h
  | some c=>simp only [VL] at hy;obtain ⟨j,_,rfl⟩:=hy;simpa [aa1] using h
 ·simp only [VL] at hx hy
  obtain ⟨j,_,rfl⟩:=hx
  subst hy
  simpa [aa1] using h
 ·rename_i c d
  simp only [VL] at hx hy
  obtain ⟨j,h1,rfl⟩:=hx
  obtain ⟨j',h2,rfl⟩:=hy
  split at h
  ·rename_i e
   rw [e,h2] at h1
   obtain rfl:=Option.some.inj h1
   simpa [aa1] using h
  ·cases h
 ·cases h
theorem ahP {v a:AV} {m n:Nat} (r:VL M O κ v a) (h:pY v m=some n):pY a m=some n:=by
 cases v<;>simp only [pY] at h<;>first | (cases h;done) | skip
 simp only [VL] at r
 subst r
 simpa [pY] using h
theorem gX {v:AV} {m m' n:Nat} (h:pY v m=some n) (hm:m≤m'):pY v m'=some n∧n≤m:=by
 cases v<;>simp only [pY] at h<;>first | (cases h;done) | skip
 split at h
 case isFalse=>cases h
 rename_i k i hi
 obtain rfl:=Option.some.inj h
 simp only [pY]
 rw [if_pos (by omega)]
 exact ⟨rfl,by omega⟩
theorem adJ {m:Bool} {x y v:AV} (h:Yh m x y=some v):v.uI=true∧x.uI=true∧y.uI=true:=by
 cases x<;>cases y<;>simp only [Yh] at h<;>first | (cases h;done) | skip
 split at h<;>cases h<;>exact ⟨rfl,rfl,rfl⟩
theorem acp {m:Bool}:∀ {l l':List AV} {x x' v:AV},VL M O κ x x'→bV M O κ l l'→Sw m x l=some v→∃ a,Sw m x' l'=some a∧VL M O κ v a
 | [],l',x,x',v,hx,hl,h=>by
  have:=hl.length
  cases l'<;>simp at this
  simp only [Sw,Option.some.injEq] at h ⊢
  subst h
  exact ⟨x',rfl,hx⟩
 | y::l,l',x,x',v,hx,hl,h=>by
  cases l' with
  | nil=>simp [bV] at hl
  | cons y' l' =>
   simp only [bV] at hl
   simp only [Sw] at h ⊢
   obtain ⟨z,h1,h2⟩:=Option.bind_eq_some_iff.1 h
   obtain ⟨s1,s2,s3⟩:=adJ h1
   obtain rfl:=hx.eq s2
   obtain rfl:=hl.1.eq s3
   rw [h1,Option.bind_some]
   exact acp (VL.uI s1) hl.2 h2
theorem acr {g:Bool} {off n:Nat} {cs cs':List AV} {v:AV} (r:bV M O κ cs cs') (h:Ej g off n cs=some v):∃ a,Ej g off n cs'=some a∧VL M O κ v a:=by
 unfold Ej at h ⊢
 cases g with
 | true =>
  simp only [if_true,Option.some.injEq] at h ⊢
  subst h
  exact ⟨_,rfl,by simp only [VL];exact ⟨_,rfl,(r.drop off).take n⟩⟩
 | false =>
  simp only [Bool.false_eq_true,if_false] at h ⊢
  exact r.get off v h
theorem aa5 {c:List AV} {o n l m:Nat} (h:l+m≤n):((((c.drop o).take n).drop l).take m)=((c.drop (o+l)).take m):=by
 rw [List.drop_take,List.take_take,List.drop_drop,Nat.min_eq_left (by omega)]
theorem acs {sz len h l:Nat} {cs:List AV} {b o:Nat} {ex1:Bool} {aq6:Nat} {ex2:Bool} (hl:l≤h) (hh:h≤len) (hcs:cs.length=len * sz)
  (hc:len≠0→∃ c ro sl,M.get b=some (.cells c ro sl)∧¬ O b∧b < M.next∧o+len * sz≤c.length∧bV M O VI.none cs ((c.drop o).take (len * sz))) (h1:h - l≤aq6) (h2:ex2=true→ex1=true∧aq6=h - l) :
  VL M O κ (.list sz (h - l) ((cs.drop (l * sz)).take ((h - l) * sz)) ex2) (.slice (some (b,o+l * sz)) sz (h - l) aq6 ex1):=by
 have e:l * sz+(h - l) * sz=h * sz:=by rw [← Nat.add_mul];congr 1;omega
 have e2:h * sz≤len * sz:=Nat.mul_le_mul_right _ hh
 simp only [VL]
 refine .inr ⟨b,_,aq6,ex1,rfl,h1,h2, ?_,λhne=>?_⟩
 ·rw [List.length_take,List.length_drop,hcs]
  omega
 ·obtain ⟨c,ro,sl,g1,g2,g3,g4,g5⟩:=hc (by omega)
  refine ⟨c,ro,sl,g1,g2,g3,by omega, ?_⟩
  have:=(g5.drop (l * sz)).take ((h - l) * sz)
  rwa [aa5 (by omega)] at this
theorem afz:∀ {n:Nat} {l r:List AV},Nh n l=some r→n≤l.length∧r=l.take n
 | 0,l,r,h=>by simp only [Nh,Option.some.injEq] at h;subst h;simp
 | n+1,[],r,h=>by simp [Nh] at h
 | n+1,c::l,r,h=>by
  simp only [Nh] at h
  split at h
  case h_2=>cases h
  rename_i q hq
  obtain rfl:=Option.some.inj h
  obtain ⟨h1,h2⟩:=afz hq
  exact ⟨by simp;omega,by simp [h2]⟩
theorem amN:∀ {l:List AV} {i:Nat},cAt l i=l[i]?
 | [],i=>by simp [cAt]
 | v::_,0=>by simp [cAt]
 | _::r,i+1=>by simp [cAt,amN (l:=r)]
theorem YW {g:Bool} {off n:Nat} {cs:List AV} {v:AV} (h:Bv g off n cs=some v):Ej g off n cs=some v∧(g=true→n≤(cs.drop off).length):=by
 unfold Bv at h
 cases g with
 | true =>
  simp only at h
  split at h
  case h_2=>cases h
  rename_i l hl
  obtain rfl:=Option.some.inj h
  obtain ⟨h1,rfl⟩:=afz hl
  exact ⟨by simp [Ej],λ_=>h1⟩
 | false =>
  simp only at h
  rw [amN] at h
  exact ⟨by simpa [Ej] using h,λh=>by cases h⟩
theorem YX {b off sz n cap m L l y cap':Nat} {ex ex':Bool} {p:Option (Nat×Nat)} (hn:n≤cap) (hnp:p=none→cap=0∧ex=true) (hd:κ.dim b=some (m,L)) (hm:off+n * sz≤m)
  (hx:(∃ j,κ b=some j∧((p=some (j,off)∧off+cap * sz≤L)∨(n=0∧cap=0∧ex=true)))∨(κ.U3 b=true∧n=0∧cap=0∧ex=true∧m=0))
  (h1:l≤y) (h2:y≤n) (h3:y - l≤cap') (h4:cap'≤cap - l) (h5:cap=0→ex=true→ex'=true) :
  VL M O κ (.acc b (off+l * sz) sz (y - l) false) (.slice (mo p (l * sz)) sz (y - l) cap' ex'):=by
 have e1:l * sz+(y - l) * sz=y * sz:=by rw [← Nat.add_mul];congr 1;omega
 have e2:y * sz≤n * sz:=Nat.mul_le_mul_right _ h2
 have e3:l * sz+cap' * sz≤cap * sz:=by rw [← Nat.add_mul];exact Nat.mul_le_mul_right _ (by omega)
 simp only [VL]
 refine ⟨_,_,_,_,rfl,h3,λhp=>?_,λ_=>rfl,m,L,hd,by omega,(λh=>by cases h), ?_⟩
 ·cases p with
  | none=>exact ⟨by have:=(hnp rfl).1;omega,h5 (hnp rfl).1 (hnp rfl).2⟩
  | some p=>simp [mo] at hp
 ·rcases hx with ⟨j,g1,g2⟩ | ⟨g1,g2,g3,g4,g5⟩
  ·refine .inl ⟨j,g1, ?_⟩
   rcases g2 with ⟨rfl,g2⟩ | ⟨g2,g3,g4⟩
   ·exact .inl ⟨by simp [mo],by omega⟩
   ·exact .inr ⟨by omega,by omega,h5 g3 g4⟩
  ·exact .inr ⟨g1,by omega,by omega,h5 g3 g4,g5⟩
section
variable {ρ σ:Nat→AV} (h:∀ t,VL M O κ (ρ t) (σ t))
include h
theorem fG {x:AX} (hc:x.bB=true):VL M O κ ((x.sub ρ).ev []) ((x.sub σ).ev []):=by
 cases x with
 | t n=>exact h n
 | c v=>exact VL.const v hc
theorem Yo:∀ {xs:List AX},xs.all AX.bB=true→bV M O κ ((xs.map (AX.sub ρ)).map (AX.ev [])) ((xs.map (AX.sub σ)).map (AX.ev []))
 | [],_=>by simp [bV]
 | x::xs,hc=>by
  simp only [List.all_cons,Bool.and_eq_true] at hc
  simp only [List.map_cons,bV]
  exact ⟨fG h hc.1,Yo hc.2⟩
theorem yQ {x:Option AX} (hc:okO x=true) {other m n:Nat} (hb:bW [] (AX.jl ρ x) other m=some n):bW [] (AX.jl σ x) other m=some n:=by
 cases x with
 | none=>exact hb
 | some x=>exact ahP (fG h hc) hb
theorem acu:∀ {ps:List (Nat×Nat×AX)} {cs cs' l:List AV},(ps.all λp=>p.2.2.bB)=true→bV M O κ cs cs' →
  tL cs (ps.map λp=>(p.1,p.2.1,(p.2.2.sub ρ).ev []))=some l→∃ l',tL cs' (ps.map λp=>(p.1,p.2.1,(p.2.2.sub σ).ev []))=some l'∧bV M O κ l l'
 | [],cs,cs',l,_,hr,hf=>by
  simp only [List.map_nil,tL,Option.some.injEq] at hf ⊢
  subst hf
  exact ⟨cs',rfl,hr⟩
 | p::ps,cs,cs',l,hc,hr,hf=>by
  simp only [List.all_cons,Bool.and_eq_true] at hc
  simp only [List.map_cons,tL] at hf ⊢
  split at hf
  case h_2=>cases hf
  rename_i x hx
  split at hf
  case isFalse=>cases hf
  rename_i hle
  obtain ⟨x',hx',hxr⟩:=(fG h hc.1).cells hx
  rw [hx']
  simp only
  rw [if_pos (by rw [← hxr.length,← hr.length];exact hle)]
  refine acu hc.2 ?_ hf
  exact ((hr.take _).append hxr).append (hr.drop _)
theorem amO {o:mV} (hc:o.bB=true) {v:AV} (hv:wP (o.sub ρ)=some v):∃ a,aP (o.sub σ) []=some a∧VL M O κ v a:=by
 cases o with
 | move x =>
  have hx:=fG h hc
  simp only [mV.sub,wP,aP,Option.some.injEq] at hv ⊢
  subst hv
  exact ⟨_,rfl,hx⟩
 | pick c a b =>
  simp only [mV.bB,Bool.and_eq_true] at hc
  have h1:=fG h hc.1.1
  have h2:=fG h hc.1.2
  have h3:=fG h hc.2
  simp only [mV.sub,wP,aP] at hv ⊢
  generalize (c.sub ρ).ev []=C at *
  cases C<;>(try simp only at hv)<;>first | (cases hv;done) | skip
  rename_i w
  simp only [VL] at h1
  rw [h1]
  cases w<;>simp only [Option.some.injEq] at hv ⊢<;>subst hv
  ·exact ⟨_,rfl,h3⟩
  ·exact ⟨_,rfl,h2⟩
 | build z ps =>
  simp only [mV.bB,Bool.and_eq_true] at hc
  simp only [mV.sub,wP,aP,List.map_map] at hv ⊢
  obtain ⟨l,h1,rfl⟩:=Option.map_eq_some_iff.1 hv
  obtain ⟨l',h2,h3⟩:=acu h hc.2 (bV.const z hc.1) h1
  refine ⟨.agg l', ?_,by simp only [VL];exact ⟨l',rfl,h3⟩⟩
  rw [Option.map_eq_some_iff]
  exact ⟨l',h2,rfl⟩
 | nilCheck x =>
  have hx:=fG h hc
  simp only [mV.sub,wP,aP] at hv ⊢
  generalize (x.sub ρ).ev []=X at *
  generalize (x.sub σ).ev []=X' at *
  cases X with
  | ptr p =>
   cases p with
   | none=>simp at hv
   | some q =>
    simp only [Option.some.injEq] at hv
    subst hv
    simp only [VL] at hx
    obtain ⟨j,h1,rfl⟩:=hx
    exact ⟨_,rfl,by simp only [VL];exact ⟨j,h1,rfl⟩⟩
  | func f cs =>
   simp only [Option.some.injEq] at hv
   subst hv
   simp only [VL] at hx
   obtain ⟨cs',rfl,h1⟩:=hx
   exact ⟨_,rfl,by simp only [VL];exact ⟨cs',rfl,h1⟩⟩
  | elem cs =>
   simp only [Option.some.injEq] at hv
   subst hv
   have hx':=hx
   simp only [VL] at hx
   obtain ⟨b,o,c,ro,sl,rfl,_⟩:=hx
   exact ⟨_,rfl,hx'⟩
  | _=>simp at hv
 | bin op x y =>
  simp only [mV.bB,Bool.and_eq_true] at hc
  have hx:=fG h hc.1
  have hy:=fG h hc.2
  simp only [mV.sub,wP,aP] at hv ⊢
  obtain ⟨s1,s2,s3⟩:=akM hv
  rw [hx.eq s2,hy.eq s3]
  exact ⟨v,hv,VL.uI s1⟩
 | eqB neg x y =>
  simp only [mV.bB,Bool.and_eq_true] at hc
  have hx:=fG h hc.1
  have hy:=fG h hc.2
  simp only [mV.sub,wP,aP] at hv ⊢
  obtain ⟨b,h1,rfl⟩:=Option.map_eq_some_iff.1 hv
  rw [afy hx hy h1]
  exact ⟨_,rfl,by simp [VL]⟩
 | eqS neg ks x y =>
  simp only [mV.bB,Bool.and_eq_true] at hc
  have hx:=fG h hc.1
  have hy:=fG h hc.2
  simp only [mV.sub,wP,aP] at hv ⊢
  generalize (x.sub ρ).ev []=X at *
  generalize (y.sub ρ).ev []=Y at *
  cases X<;>(try simp only at hv)<;>first | (cases hv;done) | skip
  cases Y<;>(try simp only at hv)<;>first | (cases hv;done) | skip
  simp only [VL] at hx hy
  obtain ⟨l',e1,hl⟩:=hx
  obtain ⟨r',e2,hr⟩:=hy
  obtain ⟨b,h1,rfl⟩:=Option.map_eq_some_iff.1 hv
  rw [e1,e2]
  simp only [acn hl hr h1]
  exact ⟨_,rfl,by simp [VL]⟩
 | eqP neg x y =>
  simp only [mV.bB,Bool.and_eq_true] at hc
  have hx:=fG h hc.1
  have hy:=fG h hc.2
  simp only [mV.sub,wP,aP] at hv ⊢
  obtain ⟨b,h1,rfl⟩:=Option.map_eq_some_iff.1 hv
  rw [amM hx hy h1]
  exact ⟨_,rfl,by simp [VL]⟩
 | eqN neg x y =>
  simp only [mV.bB,Bool.and_eq_true] at hc
  have hx:=fG h hc.1
  have hy:=fG h hc.2
  simp only [mV.sub,wP,aP] at hv ⊢
  generalize (x.sub ρ).ev []=X at *
  generalize (y.sub ρ).ev []=Y at *
  generalize (x.sub σ).ev []=X' at *
  generalize (y.sub σ).ev []=Y' at *
  split at hv
  ·simp only [VL] at hx hy
   obtain ⟨b,o,cap,ex',rfl,_⟩:=hx.resolve_left (λh=>by cases h.1)
   obtain ⟨_,s',rfl⟩:=hy
   simp only [Option.some.injEq] at hv
   subst hv
   exact ⟨.bool neg,by simp [adv],by simp [VL]⟩
  ·simp only [VL] at hx hy
   obtain ⟨b,o,cap,ex',rfl,_⟩:=hy.resolve_left (λh=>by cases h.1)
   obtain ⟨_,s',rfl⟩:=hx
   simp only [Option.some.injEq] at hv
   subst hv
   exact ⟨.bool neg,by simp [adv],by simp [VL]⟩
  ·simp only [VL] at hx hy
   obtain ⟨_,s',rfl⟩:=hx
   obtain ⟨_,s'',rfl⟩:=hy
   simp only [Option.some.injEq] at hv
   subst hv
   exact ⟨.bool (!neg),by cases neg<;>simp [adv],by simp [VL]⟩
  ·cases hv
 | un op x =>
  have hx:=fG h hc
  simp only [mV.sub,wP,aP] at hv ⊢
  have:((x.sub ρ).ev []).uI=true∧v.uI=true:=by
   generalize (x.sub ρ).ev []=X at *
   cases X<;>cases op<;>simp only [aUn] at hv<;>first | (cases hv;done) | (cases hv;exact ⟨rfl,rfl⟩)
  rw [hx.eq this.1]
  exact ⟨v,hv,VL.uI this.2⟩
 | LG k x =>
  have hx:=fG h hc
  simp only [mV.sub,wP,aP] at hv ⊢
  generalize (x.sub ρ).ev []=X at *
  cases X<;>(try simp only at hv)<;>first | (cases hv;done) | skip
  obtain rfl:=Option.some.inj hv
  rw [hx.eq rfl]
  exact ⟨_,rfl,by simp [VL]⟩
 | M9 x =>
  have hx:=fG h hc
  simp only [mV.sub,wP,aP] at hv ⊢
  generalize (x.sub ρ).ev []=X at *
  cases X<;>(try simp only at hv)<;>first | (cases hv;done) | skip
  obtain rfl:=Option.some.inj hv
  rw [hx.eq rfl]
  exact ⟨_,rfl,by simp [VL]⟩
 | DL f cs =>
  simp only [mV.sub,wP,aP,Option.some.injEq] at hv ⊢
  subst hv
  exact ⟨_,rfl,by simp only [VL];exact ⟨_,rfl,Yo h hc⟩⟩
 | oJ x lo hi =>
  simp only [mV.bB,Bool.and_eq_true] at hc
  have hx:=fG h hc.1.1
  simp only [mV.sub,wP,aP] at hv ⊢
  generalize (x.sub ρ).ev []=X at *
  cases X<;>(try simp only at hv)<;>first | (cases hv;done) | skip
  rw [hx.eq rfl]
  simp only [E9] at hv ⊢
  obtain ⟨a,h1,hv⟩:=Option.bind_eq_some_iff.1 hv
  obtain ⟨b,h2,hv⟩:=Option.bind_eq_some_iff.1 hv
  obtain rfl:=Option.some.inj hv
  rw [yQ h hc.2 h1,Option.bind_some,yQ h hc.1.2 h2,Option.bind_some]
  exact ⟨_,rfl,by simp [VL]⟩
 | slice sz x lo hi mx =>
  simp only [mV.bB,Bool.and_eq_true] at hc
  obtain ⟨⟨⟨cx,U1⟩,chi⟩,cmx⟩:=hc
  have hx:=fG h cx
  simp only [mV.sub,wP,aP] at hv ⊢
  generalize (x.sub ρ).ev []=X at *
  generalize (x.sub σ).ev []=X' at *
  have tr:∀ {a:Option (Nat×Nat)} {sz' len cap:Nat} {ex:Bool} {w:AV},jJ sz a sz' len cap ex [] (AX.jl ρ lo) (AX.jl ρ hi) (AX.jl ρ mx)=some w→jJ sz a sz' len cap ex [] (AX.jl σ lo) (AX.jl σ hi) (AX.jl σ mx)=some w:=by
   intro a sz' len cap ex w hw
   unfold jJ at hw ⊢
   split at hw
   case isFalse=>cases hw
   rename_i hcond
   rw [if_pos hcond]
   cases mx with
   | none =>
    simp only [AX.jl,Option.map_none] at hw ⊢
    obtain ⟨a,h1,hw⟩:=Option.bind_eq_some_iff.1 hw
    obtain ⟨b,h2,hw⟩:=Option.bind_eq_some_iff.1 hw
    have:=yQ h chi h1
    simp only [AX.jl] at this
    rw [this,Option.bind_some]
    have:=yQ h U1 h2
    simp only [AX.jl] at this
    rw [this,Option.bind_some]
    exact hw
   | some mx =>
    cases hi with
    | none =>
     simp only [AX.jl,Option.map_none,Option.map_some] at hw
     obtain ⟨m,_,hw⟩:=Option.bind_eq_some_iff.1 hw
     cases hw
    | some hi =>
     simp only [AX.jl,Option.map_some] at hw ⊢
     obtain ⟨m,h0,hw⟩:=Option.bind_eq_some_iff.1 hw
     obtain ⟨a,h1,hw⟩:=Option.bind_eq_some_iff.1 hw
     obtain ⟨b,h2,hw⟩:=Option.bind_eq_some_iff.1 hw
     have:=yQ h cmx h0
     simp only [AX.jl,Option.map_some] at this
     rw [this,Option.bind_some]
     have:=yQ h chi h1
     simp only [AX.jl,Option.map_some] at this
     rw [this,Option.bind_some]
     have:=yQ h U1 h2
     simp only [AX.jl] at this
     rw [this,Option.bind_some]
     exact hw
  cases X with
  | list sz' len cs ex =>
   simp only [VL] at hx
   simp only [YS] at hv
   split at hv
   case isFalse=>cases hv
   rename_i he
   subst he
   rcases hx with ⟨rfl,rfl,s',rfl⟩ | ⟨b,o,cap,ex',rfl,h1,h2,h3,h4⟩
   ·have fin:∀ w,jJ sz' none s' 0 0 true [] (AX.jl ρ lo) (AX.jl ρ hi) (AX.jl ρ mx)=some w→VL M O κ v w→∃ a,jJ sz' none s' 0 0 true [] (AX.jl σ lo) (AX.jl σ hi) (AX.jl σ mx)=some a∧VL M O κ v a :=
     λw h1 h2=>⟨w,tr h1,h2⟩
    cases mx with
    | none =>
     simp only [AX.jl,Option.map_none] at hv
     obtain ⟨y,g1,hv⟩:=Option.bind_eq_some_iff.1 hv
     obtain ⟨l,g2,hv⟩:=Option.bind_eq_some_iff.1 hv
     obtain rfl:=Option.some.inj hv
     have gy:y=0:=by
      cases hi with
      | none=>simpa [bW] using g1.symm
      | some hi=>have:=(gX g1 (Nat.le_refl _)).2;omega
     subst gy
     have gl:l=0:=by
      cases lo with
      | none=>simpa [bW] using g2.symm
      | some lo=>have:=(gX g2 (Nat.le_refl _)).2;omega
     subst gl
     refine fin (.slice none sz' 0 0 true) ?_ ?_
     ·unfold jJ
      simp only [AX.jl,true_or,if_true,Option.map_none,mo]
      rw [g1,Option.bind_some,g2]
      rfl
     ·simp only [VL]
      exact .inl (by simp)
    | some mx =>
     cases hi with
     | none =>
      simp only [AX.jl,Option.map_none,Option.map_some] at hv
      obtain ⟨m,_,hv⟩:=Option.bind_eq_some_iff.1 hv
      cases hv
     | some hi =>
      simp only [AX.jl,Option.map_some] at hv
      obtain ⟨m,g0,hv⟩:=Option.bind_eq_some_iff.1 hv
      obtain ⟨y,g1,hv⟩:=Option.bind_eq_some_iff.1 hv
      obtain ⟨l,g2,hv⟩:=Option.bind_eq_some_iff.1 hv
      obtain rfl:=Option.some.inj hv
      have gm:=(gX g0 (Nat.le_refl _)).2
      obtain rfl:m=0:=by omega
      have gy:=(gX g1 (Nat.le_refl _)).2
      obtain rfl:y=0:=by omega
      have gl:l=0:=by
       cases lo with
       | none=>simpa [bW] using g2.symm
       | some lo=>have:=(gX g2 (Nat.le_refl _)).2;omega
      subst gl
      refine fin (.slice none sz' 0 0 true) ?_ ?_
      ·unfold jJ
       simp only [AX.jl,true_or,if_true,Option.map_some,mo]
       rw [g0,Option.bind_some,g1,Option.bind_some,g2]
       rfl
      ·simp only [VL]
       exact .inl (by simp)
   simp only
   cases mx with
   | none =>
    simp only [AX.jl,Option.map_none] at hv
    obtain ⟨y,g1,hv⟩:=Option.bind_eq_some_iff.1 hv
    obtain ⟨l,g2,hv⟩:=Option.bind_eq_some_iff.1 hv
    obtain rfl:=Option.some.inj hv
    have gy:bW [] (AX.jl ρ hi) len cap=some y∧y≤len:=by
     cases hi with
     | none =>
      simp only [bW,Option.map_none,AX.jl,Option.some.injEq] at g1 ⊢
      omega
     | some hi=>exact gX g1 h1
    have gl:l≤y:=by
     cases lo with
     | none=>simp only [bW,Option.map_none,Option.some.injEq] at g2;omega
     | some lo=>exact (gX g2 (Nat.le_refl _)).2
    refine ⟨_,tr (w:=.slice (some (b,o+l * sz')) sz' (y - l) (cap - l) ex') ?_, ?_⟩
    ·unfold jJ
     simp only [AX.jl,or_true,if_true,Option.map_none,mo,Option.map_some]
     rw [show bW [] (hi.map (AX.sub ρ)) len cap=some y from gy.1,Option.bind_some,g2,Option.bind_some]
    ·exact acs gl gy.2 h3 h4 (by omega) λhe=>by cases he
   | some mx =>
    cases hi with
    | none =>
     simp only [AX.jl,Option.map_none,Option.map_some] at hv
     obtain ⟨m,_,hv⟩:=Option.bind_eq_some_iff.1 hv
     cases hv
    | some hi =>
     simp only [AX.jl,Option.map_some] at hv
     obtain ⟨m,g0,hv⟩:=Option.bind_eq_some_iff.1 hv
     obtain ⟨y,g1,hv⟩:=Option.bind_eq_some_iff.1 hv
     obtain ⟨l,g2,hv⟩:=Option.bind_eq_some_iff.1 hv
     obtain rfl:=Option.some.inj hv
     obtain ⟨m1,m2⟩:=gX g0 h1
     obtain ⟨_,y2⟩:=gX g1 (Nat.le_refl _)
     have gl:l≤y:=by
      cases lo with
      | none=>simp only [bW,Option.map_none,Option.some.injEq] at g2;omega
      | some lo=>exact (gX g2 (Nat.le_refl _)).2
     refine ⟨_,tr (w:=.slice (some (b,o+l * sz')) sz' (y - l) (m - l) true) ?_, ?_⟩
     ·unfold jJ
      simp only [AX.jl,or_true,if_true,Option.map_some,mo]
      rw [show bW [] (some (mx.sub ρ)) cap cap=some m from m1,Option.bind_some,g1,Option.bind_some,g2,Option.bind_some]
     ·exact acs gl (by omega) h3 h4 (by omega) λhe=>by cases he
  | acc b off sz' n w =>
   simp only [VL] at hx
   obtain ⟨p,s',cap,ex,rfl,hn,hnp,hns,m,L,hd,hm,hw,hx⟩:=hx
   have hz:p=none∨s'=sz':=by
    cases p with
    | none=>exact .inl rfl
    | some p=>exact .inr (hns (by simp))
   simp only at hv
   cases mx with
   | none =>
    cases lo with
    | none =>
     cases hi with
     | none =>
      simp only [AX.jl,Option.map_none,Hg] at hv
      split at hv
      case isFalse=>cases hv
      rename_i e
      subst e
      obtain rfl:=Option.some.inj hv
      refine ⟨_,tr (w:=.slice (mo p (0 * sz')) sz' (n - 0) (cap - 0) ex) ?_, ?_⟩
      ·unfold jJ
       rw [if_pos hz]
       rfl
      ·have:mo p (0 * sz')=p:=by cases p<;>simp [mo]
       rw [this]
       simp only [VL]
       exact ⟨_,_,_,_,rfl,hn,hnp,λ_=>rfl,m,L,hd,hm,hw,hx⟩
     | some hi =>
      simp only [AX.jl,Option.map_none,Option.map_some,Hg] at hv
      split at hv
      case isFalse=>cases hv
      rename_i e
      subst e
      obtain ⟨y,g1,hv⟩:=Option.bind_eq_some_iff.1 hv
      obtain ⟨l,g2,hv⟩:=Option.bind_eq_some_iff.1 hv
      obtain rfl:=Option.some.inj hv
      have gy:=gX g1 hn
      have gl:l≤y:=by simp only [bW,Option.some.injEq] at g2;omega
      refine ⟨_,tr (w:=.slice (mo p (l * sz')) sz' (y - l) (cap - l) ex) ?_,YX hn hnp hd hm hx gl gy.2 (by omega) (by omega) (λ_ h=>h)⟩
      unfold jJ
      rw [if_pos hz]
      simp only [AX.jl,Option.map_none,Option.map_some]
      rw [show bW [] (some (hi.sub ρ)) n cap=some y from gy.1,Option.bind_some,g2,Option.bind_some]
    | some lo =>
     simp only [AX.jl,Option.map_none,Option.map_some,Hg] at hv
     split at hv
     case isFalse=>cases hv
     rename_i e
     subst e
     obtain ⟨y,g1,hv⟩:=Option.bind_eq_some_iff.1 hv
     obtain ⟨l,g2,hv⟩:=Option.bind_eq_some_iff.1 hv
     obtain rfl:=Option.some.inj hv
     have gy:bW [] (AX.jl ρ hi) n cap=some y∧y≤n:=by
      cases hi with
      | none =>
       simp only [bW,Option.map_none,AX.jl,Option.some.injEq] at g1 ⊢
       omega
      | some hi=>exact gX g1 hn
     have gl:l≤y:=(gX g2 (Nat.le_refl _)).2
     refine ⟨_,tr (w:=.slice (mo p (l * sz')) sz' (y - l) (cap - l) ex) ?_,YX hn hnp hd hm hx gl gy.2 (by omega) (by omega) (λ_ h=>h)⟩
     unfold jJ
     rw [if_pos hz]
     simp only [AX.jl,Option.map_none,Option.map_some]
     rw [show bW [] (hi.map (AX.sub ρ)) n cap=some y from gy.1,Option.bind_some,g2,Option.bind_some]
   | some mx =>
    cases hi with
    | none=>cases lo<;>simp [AX.jl,Hg] at hv
    | some hi =>
     have hv':(if sz'=sz then (bW [] (some (mx.sub ρ)) n n).bind λm=>(bW [] (some (hi.sub ρ)) n m).bind λh=>(bW [] (AX.jl ρ lo) 0 h).bind λl=>some (AV.acc b (off+l * sz) sz (h - l) false) else none)=some v:=by
      cases lo<;>simpa only [AX.jl,Option.map_none,Option.map_some,Hg] using hv
     clear hv
     split at hv'
     case isFalse=>cases hv'
     rename_i e
     subst e
     obtain ⟨m',g0,hv⟩:=Option.bind_eq_some_iff.1 hv'
     obtain ⟨y,g1,hv⟩:=Option.bind_eq_some_iff.1 hv
     obtain ⟨l,g2,hv⟩:=Option.bind_eq_some_iff.1 hv
     obtain rfl:=Option.some.inj hv
     obtain ⟨m1,m2⟩:=gX g0 hn
     obtain ⟨_,y2⟩:=gX g1 (Nat.le_refl _)
     have gl:l≤y:=by
      cases lo with
      | none=>simp only [bW,AX.jl,Option.map_none,Option.some.injEq] at g2;omega
      | some lo=>exact (gX g2 (Nat.le_refl _)).2
     refine ⟨_,tr (w:=.slice (mo p (l * sz')) sz' (y - l) (m' - l) true) ?_,YX hn hnp hd hm hx gl (by omega) (by omega) (by omega) (λ_ _=>rfl)⟩
     unfold jJ
     rw [if_pos hz]
     simp only [AX.jl,Option.map_none,Option.map_some]
     rw [show bW [] (some (mx.sub ρ)) cap cap=some m' from m1,Option.bind_some,g1,Option.bind_some]
     simp only [AX.jl] at g2
     rw [g2]
     rfl
  | _=>simp at hv
 | fieldAddr off x =>
  have hx:=fG h hc
  simp only [mV.sub,wP,aP] at hv ⊢
  generalize (x.sub ρ).ev []=X at *
  generalize (x.sub σ).ev []=X' at *
  cases X with
  | ptr p =>
   cases p with
   | none=>simp at hv
   | some q =>
    simp only [Option.some.injEq] at hv
    subst hv
    simp only [VL] at hx
    obtain ⟨j,h1,rfl⟩:=hx
    exact ⟨_,rfl,by simp only [VL];exact ⟨j,h1,rfl⟩⟩
  | elem cs =>
   simp only [Option.some.injEq] at hv
   subst hv
   simp only [VL] at hx
   obtain ⟨b,o,c,ro,sl,rfl,g1,g2,g3,g4⟩:=hx
   refine ⟨_,rfl, ?_⟩
   simp only [VL]
   refine ⟨b,_,c,ro,sl,rfl,g1,g2,g3, ?_⟩
   have:=g4.drop off
   rwa [List.drop_take,List.drop_drop,← List.length_drop] at this
  | _=>simp at hv
 | field g off n x =>
  have hx:=fG h hc
  simp only [mV.sub,wP,aP] at hv ⊢
  generalize (x.sub ρ).ev []=X at *
  generalize (x.sub σ).ev []=X' at *
  cases X<;>(try simp only at hv)<;>first | (cases hv;done) | skip
  simp only [VL] at hx
  obtain ⟨l',rfl,hl⟩:=hx
  exact acr hl (YW hv).1
 | xA n sz x i =>
  simp only [mV.bB,Bool.and_eq_true] at hc
  have hx:=fG h hc.1
  have hi:=fG h hc.2
  simp only [mV.sub,wP,aP] at hv ⊢
  generalize (x.sub ρ).ev []=X at *
  generalize (x.sub σ).ev []=X' at *
  generalize (i.sub ρ).ev []=I at *
  cases X with
  | ptr p =>
   cases p with
   | none=>simp at hv
   | some q =>
    cases I<;>(try simp only at hv)<;>first | (cases hv;done) | skip
    rw [hi.eq rfl]
    split at hv
    case isFalse=>cases hv
    rename_i hlt
    obtain rfl:=Option.some.inj hv
    simp only [VL] at hx
    obtain ⟨j,h1,rfl⟩:=hx
    simp only
    rw [if_pos hlt]
    exact ⟨_,rfl,by simp only [VL];exact ⟨j,h1,rfl⟩⟩
  | elem cs =>
   cases I<;>(try simp only at hv)<;>first | (cases hv;done) | skip
   rw [hi.eq rfl]
   split at hv
   case isFalse=>cases hv
   rename_i hlt
   obtain rfl:=Option.some.inj hv
   simp only [VL] at hx
   obtain ⟨b,o,c,ro,sl,rfl,g1,g2,g3,g4⟩:=hx
   simp only
   rw [if_pos hlt]
   refine ⟨_,rfl, ?_⟩
   simp only [VL]
   refine ⟨b,_,c,ro,sl,rfl,g1,g2,g3, ?_⟩
   rename_i k z
   have:=g4.drop (z.toNat * sz)
   rwa [List.drop_take,List.drop_drop,← List.length_drop] at this
  | _=>simp at hv
 | j6 sz x i =>
  simp only [mV.bB,Bool.and_eq_true] at hc
  have hx:=fG h hc.1
  have hi:=fG h hc.2
  simp only [mV.sub,wP,aP] at hv ⊢
  generalize (x.sub ρ).ev []=X at *
  generalize (x.sub σ).ev []=X' at *
  generalize (i.sub ρ).ev []=I at *
  cases X with
  | list sz' len cs ex =>
   cases I<;>(try simp only at hv)<;>first | (cases hv;done) | skip
   rename_i k z
   rw [hi.eq rfl]
   split at hv
   case isFalse=>cases hv
   rename_i hlt
   obtain rfl:=Option.some.inj hv
   simp only [VL] at hx
   obtain ⟨b,o,cap,ex',rfl,q1,q2,q3,q4⟩:=hx.resolve_left (λh=>by have:=h.1;omega)
   simp only
   rw [if_pos hlt]
   refine ⟨_,rfl, ?_⟩
   obtain ⟨c,ro,sl,g1,g2,g3,g4,g5⟩:=q4 (by omega)
   simp only [VL]
   refine ⟨b,_,c,ro,sl,rfl,g1,g2,g3, ?_⟩
   have:=g5.drop (z.toNat * sz)
   rwa [← q3,List.drop_take,List.drop_drop,← List.length_drop] at this
  | acc b off sz' n w =>
   cases I<;>(try simp only at hv)<;>first | (cases hv;done) | skip
   rename_i k z
   rw [hi.eq rfl]
   split at hv
   case isFalse=>cases hv
   rename_i hlt
   obtain rfl:=Option.some.inj hv
   simp only [VL] at hx
   obtain ⟨p,s',cap,ex,rfl,hn,hnp,hns,m,L,hd,hm,hw,hx⟩:=hx
   obtain ⟨j,g1,g2⟩:=hx.resolve_right (λh=>by have:=h.2.1;omega)
   obtain ⟨hps,_⟩:=g2.resolve_right (λh=>by have:=h.1;omega)
   subst hps
   obtain rfl:=hns (by simp)
   simp only
   rw [if_pos hlt]
   exact ⟨_,rfl,by simp only [VL];exact ⟨j,g1,rfl⟩⟩
  | _=>simp at hv
 | index g n sz x i =>
  simp only [mV.bB,Bool.and_eq_true] at hc
  have hx:=fG h hc.1
  have hi:=fG h hc.2
  simp only [mV.sub,wP,aP] at hv ⊢
  generalize (x.sub ρ).ev []=X at *
  generalize (x.sub σ).ev []=X' at *
  generalize (i.sub ρ).ev []=I at *
  cases X<;>(try simp only at hv)<;>first | (cases hv;done) | skip
  cases I<;>(try simp only at hv)<;>first | (cases hv;done) | skip
  rw [hi.eq rfl]
  simp only [VL] at hx
  obtain ⟨l',rfl,hl⟩:=hx
  simp only
  split at hv
  case isFalse=>cases hv
  rename_i hlt
  rw [if_pos hlt]
  exact acr hl hv
 | uE x i =>
  simp only [mV.bB,Bool.and_eq_true] at hc
  have hx:=fG h hc.1
  have hi:=fG h hc.2
  simp only [mV.sub,wP,aP] at hv ⊢
  generalize (x.sub ρ).ev []=X at *
  generalize (i.sub ρ).ev []=I at *
  cases X<;>(try simp only at hv)<;>first | (cases hv;done) | skip
  cases I<;>(try simp only at hv)<;>first | (cases hv;done) | skip
  rw [hi.eq rfl,hx.eq rfl]
  simp only
  split at hv
  case isFalse=>cases hv
  rename_i hlt
  rw [if_pos hlt,hv]
  obtain ⟨b,_,rfl⟩:=Option.map_eq_some_iff.1 hv
  exact ⟨_,rfl,by simp [VL]⟩
 | extract x i =>
  have hx:=fG h hc
  simp only [mV.sub,wP,aP] at hv ⊢
  generalize (x.sub ρ).ev []=X at *
  generalize (x.sub σ).ev []=X' at *
  cases X<;>(try simp only at hv)<;>first | (cases hv;done) | skip
  simp only [VL] at hx
  obtain ⟨l',rfl,hl⟩:=hx
  exact hl.get i v hv
 | len s x =>
  have hx:=fG h hc
  generalize hX:(x.sub ρ).ev []=X at *
  generalize hX':(x.sub σ).ev []=X' at *
  cases s with
  | true =>
   simp only [mV.sub,wP,aP,hX,hX'] at hv ⊢
   cases X<;>(try simp only at hv)<;>first | (cases hv;done) | skip
   rw [hx.eq rfl]
   obtain rfl:=Option.some.inj hv
   exact ⟨_,rfl,by simp [VL]⟩
  | false =>
   simp only [mV.sub,wP,aP,hX,hX'] at hv ⊢
   split at hv
   ·simp only [Option.some.injEq] at hv
    subst hv
    simp only [VL] at hx
    rcases hx with ⟨rfl,rfl,s',rfl⟩ | ⟨b,o,cap,ex',rfl,_⟩
    ·exact ⟨_,rfl,by simp [VL]⟩
    ·exact ⟨_,rfl,by simp [VL]⟩
   ·simp only [Option.some.injEq] at hv
    subst hv
    simp only [VL] at hx
    obtain ⟨p,s',cap,ex,rfl,_⟩:=hx
    exact ⟨_,rfl,by simp [VL]⟩
   ·simp only [Option.some.injEq] at hv
    subst hv
    simp only [VL] at hx
    obtain ⟨_,s',rfl⟩:=hx
    exact ⟨_,rfl,by simp [VL]⟩
   ·cases hv
 | cap x=>simp [mV.sub,wP] at hv
 | zQ m xs =>
  have hx:=Yo h hc
  simp only [mV.sub,wP,aP] at hv ⊢
  generalize (xs.map (AX.sub ρ)).map (AX.ev [])=X at *
  generalize (xs.map (AX.sub σ)).map (AX.ev [])=X' at *
  cases X with
  | nil=>simp at hv
  | cons x r =>
   cases X' with
   | nil=>simp [bV] at hx
   | cons x' r' =>
    simp only [bV] at hx
    exact acp hx.1 hx.2 hv
end
end
end Go.Proofs.YtohoggieaanllaaGreat
end
section
set_option linter.all false
set_option linter.unusedSimpArgs false
namespace Go.Proofs.YtohoggieaanllaaGreat
theorem Hl:∀ (H:WH) (i:Nat),dJ H i=(H[i]?).getD none
 | [],i=>by simp [dJ]
 | x::_,0=>by simp [dJ]
 | _::r,i+1=>by simp [dJ,Hl r i]
theorem Yp:∀ (H:WH) (i:Nat) (y:Option mU),iG H i y=H.set i y
 | [],i,y=>by simp [iG]
 | x::_,0,y=>by simp [iG]
 | _::r,i+1,y=>by simp [iG,Yp r i y]
theorem vU {H:WH} {i:Nat} {x:mU} (h:dJ H i=some x):i < H.length:=by
 rw [Hl] at h
 rcases Nat.lt_or_ge i H.length with k | k
 ·exact k
 ·rw [List.getElem?_eq_none k] at h
  cases h
theorem sG (H:WH) (i:Nat) (y:Option mU) (k:Nat):dJ (iG H i y) k=if k=i∧i < H.length then y else dJ H k:=by
 rw [Yp,Hl,Hl,List.getElem?_set]
 by_cases h:i=k
 ·subst h
  by_cases hl:i < H.length
  ·simp [hl]
  ·simp [hl]
 ·simp [h,Ne.symm h,show ¬ k=i from λe=>h e.symm]
theorem SQ (H G:WH) (k:Nat):dJ (H++G) k=if k < H.length then dJ H k else dJ G (k - H.length):=by
 rw [Hl,Hl,Hl]
 by_cases h:k < H.length
 ·rw [if_pos h,List.getElem?_append_left h]
 ·rw [if_neg h,List.getElem?_append_right (by omega)]
theorem amP (x:Option mU) (k:Nat):dJ [x] k=if k=0 then x else none:=by cases k<;>simp [dJ]
theorem fu (H:WH) (i:Nat) (y:Option mU):(iG H i y).length=H.length:=by rw [Yp,List.length_set]
theorem adK {H:WH} {k:Nat} (h:H.length≤k):dJ H k=none:=by rw [Hl,List.getElem?_eq_none h];rfl
theorem qI (H:WH) (x:Option mU) (k:Nat):dJ (H++[x]) k=if k < H.length then dJ H k else if k=H.length then x else none:=by
 rw [SQ,amP]
 by_cases h:k < H.length
 ·rw [if_pos h,if_pos h]
 ·rw [if_neg h,if_neg h]
  by_cases e:k=H.length
  ·rw [if_pos (by omega),if_pos e]
  ·rw [if_neg (by omega),if_neg e]
theorem Stp.refl (n:Nat) (t:List Nat) (ι:VI) (H:WH) (M:Heap) (h:n≤H.length):Stp n t ι H M ι H M :=
 ⟨.refl _ _,.refl _ _,λ_ _ h=>h,λ_ _=>rfl,λ_ _=>rfl,λ_ _ _=>rfl,λ_ _ h=>h,λ_ _ _ _ _ _=>rfl,h⟩
theorem Stp.act {n:Nat} {t:List Nat} {ι nO:VI} {H H1:WH} {M M1:Heap} (h:Stp n t ι H M nO H1 M1) {i:Nat} (hi:i < n) (ha:act nO H1 i):Proofs.YtohoggieaanllaaGreat.act ι H i :=
 ha.imp (h.live i hi) (λhg=>by
  cases e:ι.gone i with
  | false=>rfl
  | true=>rw [h.gone i hi e] at hg;cases hg)
theorem Stp.trans {n n':Nat} {t t':List Nat} {ι nO BK:VI} {H H1 H2:WH} {M M1 M2:Heap} (h:Stp n t ι H M nO H1 M1) (k:Stp n' t' nO H1 M1 BK H2 M2) (hn:n≤n'):Stp n (t++t') ι H M BK H2 M2 :=
 ⟨h.keep.trans k.keep,h.le.trans (k.le.sub λi hi=>by have:i < n:=hi;show i < n';omega),λi hi hg=>k.gone i (by omega) (h.gone i hi hg),λi hi=>(k.toq i (by omega)).trans (h.toq i hi),λi hi=>(k.ahL i (by omega)).trans (h.ahL i hi),
  λi hi hd=>by
   have hd1:dJ H1 i=none:=by
    cases e:dJ H1 i with
    | none=>rfl
    | some x =>
     obtain ⟨y,hy⟩:=h.live i hi ⟨x,e⟩
     rw [hd] at hy
     cases hy
   exact (k.acj i (by omega) hd1).trans (h.acj i hi hd),
  λi hi hl=>h.live i hi (k.live i (by omega) hl),
  λi j hi hl hj ht=>by
   rw [List.mem_append,not_or] at ht
   exact (k.tch i j (by omega) hl ((h.le i hi).1 j hj).1 ht.2).trans (h.tch i j hi (k.act (by omega) hl) hj ht.1),Nat.le_trans hn k.next⟩
theorem Stp.weak {n n':Nat} {t:List Nat} {ι nO:VI} {H H1:WH} {M M1:Heap} (h:Stp n t ι H M nO H1 M1) (hn:n'≤n):Stp n' t ι H M nO H1 M1 :=
 ⟨h.keep,h.le.sub λi hi=>by have:i < n':=hi;show i < n;omega,λi hi=>h.gone i (by omega),λi hi=>h.toq i (by omega),λi hi=>h.ahL i (by omega),λi hi=>h.acj i (by omega),λi hi=>h.live i (by omega),λi j hi=>h.tch i j (by omega),Nat.le_trans hn h.next⟩
theorem Stp.more {n:Nat} {t t':List Nat} {ι nO:VI} {H H1:WH} {M M1:Heap} (h:Stp n t ι H M nO H1 M1) (ht:∀ i,i < n→i∈t→i∈t'):Stp n t' ι H M nO H1 M1 :=
 ⟨h.keep,h.le,h.gone,h.toq,h.ahL,h.acj,h.live,λi j hi hl hj hn=>h.tch i j hi hl hj (λk=>hn (ht i hi k)),h.next⟩
theorem Stp.auV {R:Nat→Prop} {t:List Nat} {ι bL:VI} {H H':WH} {M M':Heap} (s:VS R ι H M) (k:Stp H.length t ι H M bL H' M') (S:Nat→Prop):VI.Le ι bL S:=λi _ =>
 ⟨λj h=>(k.le i (s.lt i j h).1).1 j h,λh=>(k.le i (s.CP i h).1).2 h⟩
theorem VL.step {R:Nat→Prop} {t:List Nat} {ι bL:VI} {H H':WH} {M M':Heap} (s:VS R ι H M) (k:Stp H.length t ι H M bL H' M') {v a:AV} (h:VL M (OR R ι) ι v a):VL M' (OR R bL) bL v a :=
 VL.mono (k.keep.or R) ι bL v a (k.auV s _) h
theorem bV.step {R:Nat→Prop} {t:List Nat} {ι bL:VI} {H H':WH} {M M':Heap} (s:VS R ι H M) (k:Stp H.length t ι H M bL H' M') {v a:List AV} (h:bV M (OR R ι) ι v a):bV M' (OR R bL) bL v a :=
 bV.mono (k.keep.or R) ι bL v a (k.auV s _) h
theorem bV.lift {M:Heap} {O:Nat→Prop} {κ:VI} {l r:List AV} (h:bV M O VI.none l r):bV M O κ l r :=
 bV.mono (.refl M O) _ κ l r (VI.Le.ajT _ _) h
theorem bV.kap {M:Heap} {O:Nat→Prop} {κ:VI} {sl:Bool} {l r:List AV} (h:bV M O (if sl then VI.none else κ) l r):bV M O κ l r:=by
 cases sl with
 | true=>exact bV.lift h
 | false=>exact h
theorem bV.acv {R:Nat→Prop} {n:Nat} {t:List Nat} {ι bL:VI} {H H':WH} {M M':Heap} (k:Stp n t ι H M bL H' M') {v a:List AV} (h:bV M (OR R ι) VI.none v a):bV M' (OR R bL) VI.none v a :=
 bV.mono (k.keep.or R) VI.none VI.none v a (VI.Le.refl _ _) h
theorem BL.mono {M M':Heap} {O O':Nat→Prop} (hk:Keeps M O M' O') {κ yE:VI} (h:∀ S,VI.Le κ yE S) {d d':Option (Nat×Nat)} (hd:∀ x,d=some x→d'=some x) {x:mU} {y:Option mU} (r:BL M O κ d x y):BL M' O' yE d' x y:=by
 cases x with
 | cells c ro sl =>
  obtain ⟨c',t,ro',sl',L,rfl,h0,h1,h2,h3,h4⟩:=r
  refine ⟨c',t,ro',sl',L,rfl,h0,hd _ h1,h2, ?_,h4⟩
  cases sl with
  | true=>exact bV.mono hk _ _ c c' (.refl _ _) h3
  | false=>exact bV.mono hk κ yE c c' (h _) h3
 | map es=>exact r.elim
theorem VS.at {R:Nat→Prop} {ι:VI} {H:WH} {M:Heap} (s:VS R ι H M) {b j:Nat} (hb:ι b=some j) {c:List AV} {ro sl:Bool} (hg:dJ H b=some (.cells c ro sl)) :
  ∃ c' t ro' sl' L,M.get j=some (.cells (c'++t) ro' sl')∧(ro=false→ro'=false∧ι.gone b=false)∧ι.dim b=some (c.length,L)∧L≤(c'++t).length∧bV M (OR R ι) (if sl then VI.none else ι) c c':=by
 rcases s.blk b _ hg with ⟨h,_⟩ | ⟨j',h1,⟨c',t,ro',sl',L,h2,h3,h4,h5,h6,_⟩,h7⟩
 ·rw [(s.CP b h).2] at hb
  cases hb
 ·rw [hb] at h1
  obtain rfl:=Option.some.inj h1
  exact ⟨c',t,ro',sl',L,h2,λh=>⟨h3 h,h7 h⟩,h4,h5,h6⟩
theorem VS.auW {R:Nat→Prop} {ι:VI} {H:WH} {M:Heap} (s:VS R ι H M) {b j:Nat} (hb:ι b=some j) {c:List AV} {ro sl:Bool} (hg:dJ H b=some (.cells c ro sl)) {c':List AV} {ro' sl':Bool} (hj:M.get j=some (.cells c' ro' sl')) (h:sl=false):sl'=false:=by
 rcases s.blk b _ hg with ⟨h,_⟩ | ⟨j',h1,⟨d',t,ro2,sl2,L,h2,h3,h4,h5,h6,h8⟩,h7⟩
 ·rw [(s.CP b h).2] at hb
  cases hb
 ·rw [hb] at h1
  obtain rfl:=Option.some.inj h1
  rw [hj] at h2
  simp only [Option.some.injEq,mU.cells.injEq] at h2
  rw [h2.2.2]
  exact h8 h
def setAt {α:Type} (f:Nat→α) (i:Nat) (x:α):Nat→α:=λk=>if k=i then x else f k
def VI.add (ι:VI) (i j:Nat) (d:Nat×Nat):VI:=⟨setAt ι.to i (some j),setAt ι.U3 i false,setAt ι.gone i false,setAt ι.dim i (some d)⟩
def VI.g_ (ι:VI) (i:Nat):VI:=⟨setAt ι.to i Option.none,setAt ι.U3 i true,setAt ι.gone i false,setAt ι.dim i (some (0,0))⟩
def VI.kill (ι:VI) (i:Nat):VI:=⟨ι.to,ι.U3,setAt ι.gone i true,ι.dim⟩
theorem qd {α:Type} (f:Nat→α) (i:Nat) (x:α):setAt f i x i=x:=by simp [setAt]
theorem bZ {α:Type} (f:Nat→α) {i k:Nat} (x:α) (h:k≠i):setAt f i x k=f k:=by simp [setAt,h]
theorem VS.put {R:Nat→Prop} {ι:VI} {H:WH} {M:Heap} (s:VS R ι H M) {b j:Nat} (hb:ι b=some j) {c0:List AV} {sl0:Bool} (hg:dJ H b=some (.cells c0 false sl0)) {x y:mU} (hx:BL M (OR R ι) ι (ι.dim b) x (some y)) :
  VS R ι (iG H b (some x)) (M.put j (some y))∧Stp H.length [b] ι H M ι (iG H b (some x)) (M.put j (some y)):=by
 obtain ⟨_,_,_,_,_,_,hw,_⟩:=s.at hb hg
 have hgo:=(hw rfl).2
 have hbl:=vU hg
 have hk:Keeps M (own ι) (M.put j (some y)) (own ι):=⟨Nat.le_refl _,λb' _ ho=>⟨by
  have:b'≠j:=λe=>ho (e ▸ ⟨b,hb,hgo⟩)
  simp [Heap.put,this],ho⟩⟩
 have gp:∀ k,dJ (iG H b (some x)) k=if k=b then some x else dJ H k:=λk=>by
  rw [sG]
  by_cases e:k=b
  ·rw [if_pos ⟨e,hbl⟩,if_pos e]
  ·rw [if_neg (λh=>e h.1),if_neg e]
 have lv:∀ k,(∃ z,dJ (iG H b (some x)) k=some z)→∃ z,dJ H k=some z:=λk ⟨z,hz⟩=>by
  rw [gp] at hz
  by_cases e:k=b
  ·exact ⟨_,e ▸ hg⟩
  ·rw [if_neg e] at hz
   exact ⟨z,hz⟩
 refine ⟨⟨λi j h=>?_,λi i' j h h' e e'=>s.inj i i' j (h.imp (lv i) id) (h'.imp (lv i') id) e e',λi z hz=>?_,λi h=>?_,λi hi c sl h=>?_,λi hi=>?_,λj h=>⟨(s.res j h).1,λi hi=>(s.res j h).2 i (hi.imp (lv i) id)⟩⟩,⟨hk,.refl _ _,λ_ _ h=>h,λ_ _=>rfl,λ_ _=>rfl,λ_ _ _=>rfl,λi _=>lv i,λi j' hi hl hj ht=>?_,by rw [fu];exact Nat.le_refl _⟩⟩
 ·rw [fu]
  exact s.lt i j h
 ·rw [gp] at hz
  by_cases e:i=b
  ·subst e
   rw [if_pos rfl] at hz
   obtain rfl:=Option.some.inj hz
   refine .inr ⟨j,hb, ?_,λ_=>hgo⟩
   simp only [Heap.put,if_true]
   exact hx.mono (hk.or R) (λ_=>.refl _ _) (λ_ h=>h)
  ·rw [if_neg e] at hz
   rcases s.blk i z hz with h | ⟨j',h1,h2,h3⟩
   ·exact .inl h
   ·have:j'≠j:=λe'=>e (s.inj i b j (.inl ⟨z,hz⟩) (.inl ⟨_,hg⟩) (e' ▸ h1) hb (.inr hgo))
    refine .inr ⟨j',h1, ?_,h3⟩
    simp only [Heap.put,if_neg this]
    exact h2.mono (hk.or R) (λ_=>.refl _ _) (λ_ h=>h)
 ·rw [fu]
  exact s.CP i h
 ·rw [gp] at h
  have:i≠b:=λe=>by subst e;rw [hgo] at hi;cases hi
  rw [if_neg this] at h
  exact s.Cq i hi c sl h
 ·have:=(s.lt b j hb).2
  have:i≠j:=λe=>by subst e;simp only [Heap.put] at hi;omega
  simp only [Heap.put,if_neg this]
  exact s.okM i hi
 ·have hib:i≠b:=λe=>ht (by simp [e])
  have:j'≠j:=λe'=>hib (s.inj i b j (hl.imp (lv i) id) (.inl ⟨_,hg⟩) (e' ▸ hj) hb (.inr hgo))
  simp [Heap.put,this]
theorem amQ {ι:VI} {b j:Nat} (h:own (ι.kill b) j):own ι j:=by
 obtain ⟨i,h1,h2⟩:=h
 refine ⟨i,h1, ?_⟩
 simp only [VI.kill,setAt] at h2
 split at h2
 ·cases h2
 ·exact h2
theorem VS.kill {R:Nat→Prop} {ι:VI} {H:WH} {M:Heap} (s:VS R ι H M) {b j:Nat} (hb:ι b=some j) {c0:List AV} {sl0:Bool} (hg:dJ H b=some (.cells c0 false sl0)) (y:Option mU) :
  VS R (ι.kill b) (iG H b none) (M.put j y)∧Stp H.length [b] ι H M (ι.kill b) (iG H b none) (M.put j y):=by
 obtain ⟨_,_,_,_,_,_,hw,_⟩:=s.at hb hg
 have hgo:=(hw rfl).2
 have hbl:=vU hg
 have hk:Keeps M (own ι) (M.put j y) (own (ι.kill b)):=⟨Nat.le_refl _,λb' _ ho=>⟨by
  have:b'≠j:=λe=>ho (e ▸ ⟨b,hb,hgo⟩)
  simp [Heap.put,this],λk=>ho (amQ k)⟩⟩
 have gp:∀ k,dJ (iG H b none) k=if k=b then none else dJ H k:=λk=>by
  rw [sG]
  by_cases e:k=b
  ·rw [if_pos ⟨e,hbl⟩,if_pos e]
  ·rw [if_neg (λh=>e h.1),if_neg e]
 have lv:∀ k,(∃ z,dJ (iG H b none) k=some z)→k≠b∧∃ z,dJ H k=some z:=λk ⟨z,hz⟩=>by
  rw [gp] at hz
  by_cases e:k=b
  ·rw [if_pos e] at hz;cases hz
  ·rw [if_neg e] at hz
   exact ⟨e,z,hz⟩
 have gk:∀ i,(ι.kill b).gone i=false→ι.gone i=false:=λi h=>by
  simp only [VI.kill,setAt] at h
  split at h
  ·cases h
  ·exact h
 have ac:∀ i,act (ι.kill b) (iG H b none) i→act ι H i:=λi h=>h.imp (λh=>(lv i h).2) (λh=>by
  simp only [VI.kill,setAt] at h
  split at h
  ·cases h
  ·exact h)
 refine ⟨⟨λi j h=>?_,λi i' j h h' e e' g=>s.inj i i' j (ac i h) (ac i' h') e e' (g.imp (λg=>gk i g) (λg=>gk i' g)),λi z hz=>?_,λi h=>?_,λi hi c sl h=>?_,λi hi=>?_,λj h=>⟨(s.res j h).1,λi hi=>(s.res j h).2 i (ac i hi)⟩⟩,⟨hk,λ_ _=>⟨λ_ h=>⟨h,λ_ h=>h⟩,λh=>⟨h,λ_ h=>h⟩⟩,λi _ h=>?_,λ_ _=>rfl,λ_ _=>rfl,λi _ h=>?_,λi _ h=>(lv i h).2,λi j' hi hl hj ht=>?_,by rw [fu];exact Nat.le_refl _⟩⟩
 ·rw [fu]
  exact s.lt i j h
 ·have e:=(lv i ⟨z,hz⟩).1
  rw [gp,if_neg e] at hz
  rcases s.blk i z hz with h | ⟨j',h1,h2,h3⟩
  ·exact .inl h
  ·have:j'≠j:=λe'=>e (s.inj i b j (.inl ⟨z,hz⟩) (.inl ⟨_,hg⟩) (e' ▸ h1) hb (.inr hgo))
   refine .inr ⟨j',h1, ?_,λh=>by simp only [VI.kill,bZ _ _ e];exact h3 h⟩
   simp only [Heap.put,if_neg this]
   exact BL.mono (κ:=ι) (yE:=ι.kill b) (d:=ι.dim i) (hk.or R) (λ_ _ _=>⟨λ_ h=>⟨h,λ_ h=>h⟩,λh=>⟨h,λ_ h=>h⟩⟩) (λ_ h=>h) h2
 ·rw [fu]
  exact s.CP i h
 ·have e:=(lv i ⟨_,h⟩).1
  rw [gp,if_neg e] at h
  simp only [VI.kill,bZ _ _ e] at hi
  exact s.Cq i hi c sl h
 ·have:=(s.lt b j hb).2
  have:i≠j:=λe=>by subst e;simp only [Heap.put] at hi;omega
  simp only [Heap.put,if_neg this]
  exact s.okM i hi
 ·simp only [VI.kill,setAt]
  split
  ·rfl
  ·exact h
 ·have hib:i≠b:=λe=>by subst e;rw [hg] at h;cases h
  simp only [VI.kill,bZ _ _ hib]
 ·have hib:i≠b:=λe=>ht (by simp [e])
  have:j'≠j:=λe'=>hib (s.inj i b j (ac i hl) (.inl ⟨_,hg⟩) (e' ▸ hj) hb (.inr hgo))
  simp [Heap.put,this]
theorem Heap.SS {M:Heap} {j:Nat} {y:Option mU} (h:M.get j=y):M.put j y=M:=by
 cases M
 simp only [Heap.put]
 congr 1
 funext i
 by_cases e:i=j
 ·subst e;simp;exact h.symm
 ·simp [e]
theorem avv {R:Nat→Prop} {ι:VI} {H:WH} {M:Heap} (s:VS R ι H M) {i:Nat} (hi:H.length≤i) (j:Nat) (d:Nat×Nat) (S:Nat→Prop):VI.Le ι (ι.add i j d) S:=λk _ =>
 ⟨λj' h=>by
  have:k≠i:=by have:=(s.lt k j' h).1;omega
  simp only [VI.add,bZ _ _ this]
  exact ⟨h,λ_ h=>h⟩,
  λh=>by
  have:k≠i:=by have:=(s.CP k h).1;omega
  simp only [VI.add,bZ _ _ this]
  exact ⟨h,λ_ h=>h⟩⟩
theorem akN {R:Nat→Prop} {ι:VI} {H:WH} {M:Heap} (s:VS R ι H M) {i:Nat} (hi:H.length≤i) (S:Nat→Prop):VI.Le ι (ι.g_ i) S:=λk _ =>
 ⟨λj' h=>by
  have:k≠i:=by have:=(s.lt k j' h).1;omega
  simp only [VI.g_,bZ _ _ this]
  exact ⟨h,λ_ h=>h⟩,
  λh=>by
  have:k≠i:=by have:=(s.CP k h).1;omega
  simp only [VI.g_,bZ _ _ this]
  exact ⟨h,λ_ h=>h⟩⟩
theorem VS.push {R:Nat→Prop} {ι:VI} {H:WH} {M:Heap} (s:VS R ι H M) {x y:mU} {d:Nat×Nat} (hx:BL M (OR R ι) ι (some d) x (some y)) :
  VS R (ι.add H.length M.next d) (H++[some x]) (M.push y)∧Stp H.length [] ι H M (ι.add H.length M.next d) (H++[some x]) (M.push y):=by
 have hls:=λS=>avv s (Nat.le_refl _) M.next d S
 have hk:Keeps M (own ι) (M.push y) (own (ι.add H.length M.next d)):=⟨Nat.le_succ _,λb hb ho=>⟨by simp [Heap.push,Nat.ne_of_lt hb],λ⟨i,hi,hg⟩=>by
  by_cases e:i=H.length
  ·subst e
   simp only [VI.add,qd,Option.some.injEq] at hi
   omega
  ·simp only [VI.add,bZ _ _ e] at hi hg
   exact ho ⟨i,hi,hg⟩⟩⟩
 have ac:∀ i,i≠H.length→act (ι.add H.length M.next d) (H++[some x]) i→act ι H i:=λi a h=>by
  rcases h with ⟨z,h⟩ | h
  ·rw [qI] at h
   split at h
   ·exact .inl ⟨z,h⟩
   ·first | (cases h;done) | (rw [if_neg a] at h;cases h)
  ·simp only [VI.add,bZ _ _ a] at h
   exact .inr h
 refine ⟨⟨λi j h=>?_,λi i' j h h' e e' g=>?_,λi z hz=>?_,λi hi=>?_,λi hi c sl h=>?_,λi hi=>?_,λj h=>?_⟩,⟨hk,hls _,λi hi hg=>?_,λi hi=>by simp only [VI.add,bZ _ _ (show i≠H.length by omega)],λi hi=>by simp only [VI.add,bZ _ _ (show i≠H.length by omega)],λi hi _=>by simp only [VI.add,bZ _ _ (show i≠H.length by omega)],λi hi hl=>?_,λi j hi hl hj _=>?_,by simp⟩⟩
 ·by_cases e:i=H.length
  ·subst e
   simp only [VI.add,qd,Option.some.injEq] at h
   simp [Heap.push];omega
  ·simp only [VI.add,bZ _ _ e] at h
   have:=s.lt i j h
   simp [Heap.push];omega
 ·by_cases a:i=H.length
  ·by_cases a':i'=H.length
   ·rw [a,a']
   ·rw [a] at e
    simp only [VI.add,qd,Option.some.injEq] at e
    simp only [VI.add,bZ _ _ a'] at e'
    have:=(s.lt _ _ e').2
    omega
  ·simp only [VI.add,bZ _ _ a] at e
   by_cases a':i'=H.length
   ·rw [a'] at e'
    simp only [VI.add,qd,Option.some.injEq] at e'
    have:=(s.lt _ _ e).2
    omega
   ·simp only [VI.add,bZ _ _ a'] at e'
    simp only [VI.add,bZ _ _ a',bZ _ _ a] at g
    exact s.inj i i' j (ac i a h) (ac i' a' h') e e' g
 ·rw [qI] at hz
  split at hz
  ·rename_i hl
   have e:i≠H.length:=by omega
   rcases s.blk i z hz with ⟨h1,h2,h3⟩ | ⟨j,h1,h2,h3⟩
   ·exact .inl (by simp only [VI.add,bZ _ _ e];exact ⟨h1,h2,h3⟩)
   ·have:=(s.lt i j h1).2
    refine .inr ⟨j,by simp only [VI.add,bZ _ _ e];exact h1, ?_,by simp only [VI.add,bZ _ _ e];exact h3⟩
    simp only [Heap.push,if_neg (show j≠M.next by omega)]
    exact h2.mono (hk.or R) hls (λ_ h=>by simp only [VI.add,bZ _ _ e];exact h)
  ·split at hz
   ·rename_i e
    obtain rfl:=Option.some.inj hz
    subst e
    refine .inr ⟨M.next,by simp [VI.add,setAt], ?_,λ_=>by simp [VI.add,setAt]⟩
    simp only [Heap.push,if_true]
    exact hx.mono (hk.or R) hls (λ_ h=>by simpa [VI.add,setAt] using h)
   ·cases hz
 ·by_cases e:i=H.length
  ·subst e
   simp [VI.add,setAt] at hi
  ·simp only [VI.add,bZ _ _ e] at hi ⊢
   have:=s.CP i hi
   exact ⟨by simp;omega,this.2⟩
 ·by_cases e:i=H.length
  ·subst e
   simp [VI.add,setAt] at hi
  ·simp only [VI.add,bZ _ _ e] at hi
   rw [qI] at h
   split at h
   ·exact s.Cq i hi c sl h
   ·first | (cases h;done) | (rw [if_neg e] at h;cases h)
 ·simp only [Heap.push] at hi ⊢
  rw [if_neg (by omega)]
  exact s.okM i (by omega)
 ·obtain ⟨h1,h2⟩:=s.res j h
  refine ⟨by simp only [Heap.push];omega,λi hi=>?_⟩
  by_cases e:i=H.length
  ·subst e
   simp only [VI.add,qd,ne_eq,Option.some.injEq]
   omega
  ·have:=h2 i (ac i e hi)
   simp only [VI.add,bZ _ _ e]
   exact this
 ·simp only [VI.add,bZ _ _ (show i≠H.length by omega)]
  exact hg
 ·obtain ⟨z,hl⟩:=hl
  rw [qI,if_pos hi] at hl
  exact ⟨z,hl⟩
 ·simp [Heap.push,show j≠M.next from by have:=(s.lt i j hj).2;omega]
theorem VS.aq7 {R:Nat→Prop} {ι:VI} {H:WH} {M:Heap} (s:VS R ι H M) :
  VS R (ι.g_ H.length) (H++[some (.cells [] false true)]) M∧Stp H.length [] ι H M (ι.g_ H.length) (H++[some (.cells [] false true)]) M:=by
 have hls:=λS=>akN s (Nat.le_refl _) S
 have ho:∀ j,own (ι.g_ H.length) j→own ι j:=λj ⟨i,hi,hg⟩=>by
  by_cases e:i=H.length
  ·subst e
   simp [VI.g_,qd] at hi
  ·simp only [VI.g_,bZ _ _ e] at hi hg
   exact ⟨i,hi,hg⟩
 have hk:Keeps M (own ι) M (own (ι.g_ H.length)):=⟨Nat.le_refl _,λb hb h=>⟨rfl,λk=>h (ho b k)⟩⟩
 have ac:∀ i,i≠H.length→act (ι.g_ H.length) (H++[some (.cells [] false true)]) i→act ι H i:=λi a h=>by
  rcases h with ⟨z,h⟩ | h
  ·rw [qI] at h
   split at h
   ·exact .inl ⟨z,h⟩
   ·first | (cases h;done) | (rw [if_neg a] at h;cases h)
  ·simp only [VI.g_,bZ _ _ a] at h
   exact .inr h
 refine ⟨⟨λi j h=>?_,λi i' j h h' e e' g=>?_,λi z hz=>?_,λi hi=>?_,λi hi c sl h=>?_,s.okM,λj h=>⟨(s.res j h).1,λi hi=>?_⟩⟩,⟨hk,hls _,λi hi hg=>?_,λi hi=>by simp only [VI.g_,bZ _ _ (show i≠H.length by omega)],λi hi=>by simp only [VI.g_,bZ _ _ (show i≠H.length by omega)],λi hi _=>by simp only [VI.g_,bZ _ _ (show i≠H.length by omega)],λi hi hl=>?_,λi j hi hl hj _=>rfl,by simp⟩⟩
 ·by_cases e:i=H.length
  ·subst e
   simp [VI.g_,qd] at h
  ·simp only [VI.g_,bZ _ _ e] at h
   have:=s.lt i j h
   simp;omega
 ·have a:i≠H.length:=λa=>by subst a;simp [VI.g_,qd] at e
  have a':i'≠H.length:=λa=>by subst a;simp [VI.g_,qd] at e'
  exact s.inj i i' j (ac i a h) (ac i' a' h') (by simpa only [VI.g_,bZ _ _ a] using e) (by simpa only [VI.g_,bZ _ _ a'] using e') (by simpa only [VI.g_,bZ _ _ a',bZ _ _ a] using g)
 ·rw [qI] at hz
  split at hz
  ·rename_i hl
   have e:i≠H.length:=by omega
   rcases s.blk i z hz with ⟨h1,h2,h3⟩ | ⟨j,h1,h2,h3⟩
   ·exact .inl (by simp only [VI.g_,bZ _ _ e];exact ⟨h1,h2,h3⟩)
   ·exact .inr ⟨j,by simp only [VI.g_,bZ _ _ e];exact h1,h2.mono (hk.or R) hls (λ_ h=>by simp only [VI.g_,bZ _ _ e];exact h),by simp only [VI.g_,bZ _ _ e];exact h3⟩
  ·split at hz
   ·rename_i e
    obtain rfl:=Option.some.inj hz
    subst e
    exact .inl ⟨by simp [VI.g_,setAt],by simp [VI.g_,setAt],false,rfl⟩
   ·cases hz
 ·by_cases e:i=H.length
  ·subst e
   simp [VI.g_,setAt]
  ·simp only [VI.g_,bZ _ _ e] at hi ⊢
   have:=s.CP i hi
   exact ⟨by simp;omega,this.2⟩
 ·by_cases e:i=H.length
  ·subst e
   simp [VI.g_,setAt] at hi
  ·simp only [VI.g_,bZ _ _ e] at hi
   rw [qI] at h
   split at h
   ·exact s.Cq i hi c sl h
   ·first | (cases h;done) | (rw [if_neg e] at h;cases h)
 ·by_cases e:i=H.length
  ·subst e
   simp [VI.g_,qd]
  ·have:=(s.res j h).2 i (ac i e hi)
   simp only [VI.g_,bZ _ _ e]
   exact this
 ·simp only [VI.g_,bZ _ _ (show i≠H.length by omega)]
  exact hg
 ·obtain ⟨z,hl⟩:=hl
  rw [qI,if_pos hi] at hl
  exact ⟨z,hl⟩
theorem VS.ajU {R:Nat→Prop} {ι:VI} {H:WH} {M:Heap} (s:VS R ι H M) {b:Nat} (hb:ι.U3 b=true):VS R ι (iG H b none) M∧Stp H.length [b] ι H M ι (iG H b none) M:=by
 have lv:∀ k,(∃ z,dJ (iG H b none) k=some z)→k≠b∧∃ z,dJ H k=some z:=λk ⟨z,hz⟩=>by
  rw [sG] at hz
  split at hz
  ·cases hz
  ·rename_i h
   exact ⟨λe=>h ⟨e,(s.CP b hb).1⟩,z,hz⟩
 have gn:∀ k,k≠b→dJ (iG H b none) k=dJ H k:=λk h=>by rw [sG,if_neg (λe=>h e.1)]
 refine ⟨⟨λi j h=>by rw [fu];exact s.lt i j h,λi i' j h h' e e'=>s.inj i i' j (h.imp (λh=>(lv i h).2) id) (h'.imp (λh=>(lv i' h).2) id) e e',λi z hz=>?_,λi h=>by rw [fu];exact s.CP i h,λi hi c sl h=>?_,s.okM,λj h=>⟨(s.res j h).1,λi hi=>(s.res j h).2 i (hi.imp (λh=>(lv i h).2) id)⟩⟩,⟨.refl _ _,.refl _ _,λ_ _ h=>h,λ_ _=>rfl,λ_ _=>rfl,λ_ _ _=>rfl,λi _ h=>(lv i h).2,λ_ _ _ _ _ _=>rfl,by rw [fu];exact Nat.le_refl _⟩⟩
 ·have e:=(lv i ⟨z,hz⟩).1
  rw [gn i e] at hz
  exact s.blk i z hz
 ·have e:=(lv i ⟨_,h⟩).1
  rw [gn i e] at h
  exact s.Cq i hi c sl h
theorem VS.swap {R:Nat→Prop} {ι:VI} {H:WH} {M:Heap} (s:VS R ι H M) {b j:Nat} (hb:ι b=some j) {c0:List AV} {sl0:Bool} (hg:dJ H b=some (.cells c0 false sl0)) {x y:mU} {d:Nat×Nat} (hx:BL M (OR R ι) ι (some d) x (some y)) :
  VS R ((ι.kill b).add H.length j d) (iG H b none++[some x]) (M.put j (some y))∧Stp H.length [b] ι H M ((ι.kill b).add H.length j d) (iG H b none++[some x]) (M.put j (some y))∧((ι.kill b).add H.length j d) H.length=some j:=by
 obtain ⟨_,_,_,_,_,_,hw,_⟩:=s.at hb hg
 have hgo:=(hw rfl).2
 have hbl:=vU hg
 have hj:=(s.lt b j hb).2
 have hto:∀ i,i≠H.length→((ι.kill b).add H.length j d) i=ι i:=λi e=>by simp only [VI.add,VI.kill,bZ _ _ e]
 have avw:∀ i,i≠H.length→((ι.kill b).add H.length j d).U3 i=ι.U3 i:=λi e=>by simp only [VI.add,VI.kill,bZ _ _ e]
 have amR:∀ i,i≠H.length→((ι.kill b).add H.length j d).dim i=ι.dim i:=λi e=>by simp only [VI.add,VI.kill,bZ _ _ e]
 have hgn:∀ i,i≠H.length→i≠b→((ι.kill b).add H.length j d).gone i=ι.gone i:=λi e e'=>by simp only [VI.add,VI.kill,bZ _ _ e,bZ _ _ e']
 have hself:((ι.kill b).add H.length j d) H.length=some j:=by simp [VI.add,setAt]
 have ho:∀ k,own ((ι.kill b).add H.length j d) k→own ι k:=λk ⟨i,hi,hg'⟩=>by
  by_cases e:i=H.length
  ·subst e
   rw [hself] at hi
   obtain rfl:=Option.some.inj hi
   exact ⟨b,hb,hgo⟩
  ·rw [hto i e] at hi
   by_cases e':i=b
   ·subst e'
    exact ⟨i,hi,hgo⟩
   ·rw [hgn i e e'] at hg'
    exact ⟨i,hi,hg'⟩
 have hls:∀ S,VI.Le ι ((ι.kill b).add H.length j d) S:=λS k _ =>
  ⟨λj' h=>by
   have:k≠H.length:=by have:=(s.lt k j' h).1;omega
   rw [hto k this,amR k this]
   exact ⟨h,λ_ h=>h⟩,
   λh=>by
   have:k≠H.length:=by have:=(s.CP k h).1;omega
   rw [avw k this,amR k this]
   exact ⟨h,λ_ h=>h⟩⟩
 have hk:Keeps M (own ι) (M.put j (some y)) (own ((ι.kill b).add H.length j d)):=⟨Nat.le_refl _,λb' _ h=>⟨by
  have:b'≠j:=λe=>h (e ▸ ⟨b,hb,hgo⟩)
  simp [Heap.put,this],λk=>h (ho b' k)⟩⟩
 have gp:∀ k,dJ (iG H b none++[some x]) k=if k=H.length then some x else if k=b then none else dJ H k:=λk=>by
  rw [qI,fu,sG]
  by_cases e:k < H.length
  ·rw [if_pos e,if_neg (show k≠H.length by omega)]
   by_cases e':k=b
   ·rw [if_pos ⟨e',hbl⟩,if_pos e']
   ·rw [if_neg (λh=>e' h.1),if_neg e']
  ·rw [if_neg e]
   by_cases e':k=H.length
   ·rw [if_pos e',if_pos e']
   ·rw [if_neg e',if_neg e',if_neg (show k≠b by omega),adK (by omega)]
 have lv:∀ k,k≠H.length→(∃ z,dJ (iG H b none++[some x]) k=some z)→k≠b∧∃ z,dJ H k=some z:=λk hn ⟨z,hz⟩=>by
  rw [gp,if_neg hn] at hz
  by_cases e:k=b
  ·rw [if_pos e] at hz;cases hz
  ·rw [if_neg e] at hz
   exact ⟨e,z,hz⟩
 have ac:∀ i,i≠H.length→act ((ι.kill b).add H.length j d) (iG H b none++[some x]) i→i≠b∧act ι H i:=λi a h=>by
  rcases h with h | h
  ·exact ⟨(lv i a h).1,.inl (lv i a h).2⟩
  ·have e':i≠b:=λe'=>by subst e';simp [VI.add,VI.kill,setAt,a] at h
   rw [hgn i a e'] at h
   exact ⟨e',.inr h⟩
 refine ⟨⟨λi k h=>?_,λi i' k h h' e e' g=>?_,λi z hz=>?_,λi hi=>?_,λi hi c sl h=>?_,λi hi=>?_,λk h=>⟨(s.res k h).1,λi hi=>?_⟩⟩,⟨hk,hls _,λi hi h=>?_,λi hi=>hto i (by omega),λi hi=>amR i (by omega),λi hi h=>hgn i (by omega) (λe=>by subst e;rw [hg] at h;cases h),λi hi h=>(lv i (by omega) h).2,λi k hi hl hk' ht=>?_,by simp [fu]⟩,hself⟩
 ·simp only [List.length_append,fu,List.length_singleton,Heap.put]
  by_cases e:i=H.length
  ·subst e
   rw [hself] at h
   obtain rfl:=Option.some.inj h
   omega
  ·rw [hto i e] at h
   have:=s.lt i k h
   omega
 ·by_cases a:i=H.length
  ·by_cases a':i'=H.length
   ·rw [a,a']
   ·rw [a,hself] at e
    obtain rfl:=Option.some.inj e
    rw [hto i' a'] at e'
    obtain ⟨q1,q2⟩:=ac i' a' h'
    exact absurd (s.inj i' b j q2 (.inl ⟨_,hg⟩) e' hb (.inr hgo)) q1
  ·rw [hto i a] at e
   obtain ⟨q1,q2⟩:=ac i a h
   by_cases a':i'=H.length
   ·rw [a',hself] at e'
    obtain rfl:=Option.some.inj e'
    exact absurd (s.inj i b j q2 (.inl ⟨_,hg⟩) e hb (.inr hgo)) q1
   ·rw [hto i' a'] at e'
    obtain ⟨q3,q4⟩:=ac i' a' h'
    rw [hgn i a q1,hgn i' a' q3] at g
    exact s.inj i i' k q2 q4 e e' g
 ·by_cases e:i=H.length
  ·subst e
   rw [gp,if_pos rfl] at hz
   obtain rfl:=Option.some.inj hz
   refine .inr ⟨j,hself, ?_,λ_=>by simp [VI.add,setAt]⟩
   simp only [Heap.put,if_true]
   exact hx.mono (hk.or R) hls (λ_ h=>by simpa [VI.add,setAt] using h)
  ·obtain ⟨q1,q2⟩:=lv i e ⟨z,hz⟩
   rw [gp,if_neg e,if_neg q1] at hz
   rcases s.blk i z hz with ⟨h1,h2,h3⟩ | ⟨k,h1,h2,h3⟩
   ·exact .inl ⟨by rw [avw i e];exact h1,by rw [amR i e];exact h2,h3⟩
   ·have:k≠j:=λe'=>q1 (s.inj i b j (.inl ⟨z,hz⟩) (.inl ⟨_,hg⟩) (e' ▸ h1) hb (.inr hgo))
    refine .inr ⟨k,by rw [hto i e];exact h1, ?_,by rw [hgn i e q1];exact h3⟩
    simp only [Heap.put,if_neg this]
    exact h2.mono (hk.or R) hls (λ_ h=>by rw [amR i e];exact h)
 ·by_cases e:i=H.length
  ·subst e
   simp [VI.add,setAt] at hi
  ·rw [avw i e] at hi
   have:=s.CP i hi
   rw [hto i e]
   exact ⟨by simp [fu];omega,this.2⟩
 ·by_cases e:i=H.length
  ·subst e
   simp [VI.add,setAt] at hi
  ·obtain ⟨q1,q2⟩:=lv i e ⟨_,h⟩
   rw [gp,if_neg e,if_neg q1] at h
   rw [hgn i e q1] at hi
   exact s.Cq i hi c sl h
 ·have:i≠j:=λe=>by subst e;simp only [Heap.put] at hi;omega
  simp only [Heap.put,if_neg this]
  exact s.okM i hi
 ·by_cases e:i=H.length
  ·subst e
   rw [hself]
   intro e'
   obtain rfl:=Option.some.inj e'
   exact (s.res j h).2 b (.inl ⟨_,hg⟩) hb
  ·rw [hto i e]
   exact (s.res k h).2 i (ac i e hi).2
 ·by_cases e':i=b
  ·subst e'
   simp [VI.add,VI.kill,setAt,show i≠H.length by omega]
  ·rw [hgn i (by omega) e']
   exact h
 ·obtain ⟨q1,q2⟩:=ac i (by omega) hl
  have:k≠j:=λe'=>q1 (s.inj i b j q2 (.inl ⟨_,hg⟩) (e' ▸ hk') hb (.inr hgo))
  simp [Heap.put,this]
end Go.Proofs.YtohoggieaanllaaGreat
end
section
set_option linter.all false
set_option linter.unusedSimpArgs false
namespace Go.Proofs.YtohoggieaanllaaGreat
theorem Nn {M:Heap} {O:Nat→Prop} {κ:VI}:∀ {l l':List AV} {s:List UInt8},bV M O κ l l'→kN l=some s→kN l'=some s
 | [],l',s,h,e=>by
  cases l' with
  | nil=>exact e
  | cons _ _=>simp [bV] at h
 | v::l,l',s,h,e=>by
  cases l' with
  | nil=>simp [bV] at h
  | cons v' l' =>
   simp only [bV] at h
   cases v<;>(try simp only [kN] at e)<;>first | (cases e;done) | skip
   rename_i k n
   cases k<;>(try simp only [kN] at e)<;>first | (cases e;done) | skip
   rw [h.1.eq rfl]
   simp only [kN]
   obtain ⟨t,h1,rfl⟩:=Option.map_eq_some_iff.1 e
   rw [Nn h.2 h1]
   rfl
theorem SV {w:Bool} {c:List AV} {o m:Nat} (h:o+m≤c.length) (hw:w=true→o=0∧m=c.length):(afq w c o m).length=m:=by
 cases w with
 | true=>exact (hw rfl).2.symm
 | false=>simp only [afq,List.length_take,List.length_drop];omega
theorem SX {M:Heap} {O:Nat→Prop} {κ:VI} {w:Bool} {c c' t:List AV} {o m:Nat} (r:bV M O κ c c') (h:o+m≤c.length) (hw:w=true→o=0∧m=c.length) :
  bV M O κ (afq w c o m) (((c'++t).drop o).take m):=by
 have hl:=r.length
 have e:((c'++t).drop o).take m=(c'.drop o).take m:=by
  rw [List.drop_append_of_le_length (by omega),List.take_append_of_le_length (by simp only [List.length_drop];omega)]
 rw [e]
 cases w with
 | true =>
  obtain ⟨rfl,rfl⟩:=hw rfl
  rw [List.drop_zero,List.take_of_length_le (by omega)]
  exact r
 | false=>exact (r.drop o).take m
theorem VL.yR {R:Nat→Prop} {ι:VI} {H:WH} {M:Heap} (s:VS R ι H M) {b o sz n:Nat} {w:Bool} {a:AV} (h:VL M (OR R ι) ι (.acc b o sz n w) a) {c:List AV} {ro sl:Bool} (hg:dJ H b=some (.cells c ro sl)) :
  o+n * sz≤c.length∧(w=true→o=0∧n * sz=c.length)∧∃ p s' cap ex,a=.slice p s' n cap ex∧n≤cap∧(p≠none→s'=sz) ∧
   ((∃ j c' t ro' sl' L,ι b=some j∧M.get j=some (.cells (c'++t) ro' sl')∧(ro=false→ro'=false∧ι.gone b=false)∧ι.dim b=some (c.length,L)∧L≤(c'++t).length∧bV M (OR R ι) (if sl then VI.none else ι) c c'∧p=some (j,o)∧o+cap * sz≤L) ∨
    (n=0∧cap=0∧ex=true∧((∃ j c' t ro' sl' L,ι b=some j∧M.get j=some (.cells (c'++t) ro' sl')∧(ro=false→ro'=false∧ι.gone b=false)∧ι.dim b=some (c.length,L)∧L≤(c'++t).length∧bV M (OR R ι) (if sl then VI.none else ι) c c')∨(ι.U3 b=true∧c=[]∧sl=true)))):=by
 simp only [VL] at h
 obtain ⟨p,s',cap,ex,rfl,h1,h2,h3,m,L,h4,h5,h6,h7⟩:=h
 rcases h7 with ⟨j,k1,k2⟩ | ⟨k1,k2,k3,k4,k5⟩
 ·obtain ⟨c',t,ro',sl',L',g1,g2,g3,g4,g5⟩:=s.at k1 hg
  rw [h4] at g3
  simp only [Option.some.injEq,Prod.mk.injEq] at g3
  obtain ⟨rfl,rfl⟩:=g3
  refine ⟨h5,h6,p,s',cap,ex,rfl,h1,h3, ?_⟩
  rcases k2 with ⟨k2,k3⟩ | ⟨k2,k3,k4⟩
  ·exact .inl ⟨j,c',t,ro',sl',L,k1,g1,g2,h4,g4,g5,k2,k3⟩
  ·exact .inr ⟨k2,k3,k4,.inl ⟨j,c',t,ro',sl',L,k1,g1,g2,h4,g4,g5⟩⟩
 ·rcases s.blk b _ hg with ⟨q1,q2,ro',q3⟩ | ⟨j,q1,_⟩
  ·cases q3
   rw [h4] at q2
   simp only [Option.some.injEq,Prod.mk.injEq] at q2
   obtain ⟨rfl,rfl⟩:=q2
   exact ⟨h5,h6,p,s',cap,ex,rfl,h1,h3,.inr ⟨k2,k3,k4,.inr ⟨k1,rfl,rfl⟩⟩⟩
  ·rw [(s.CP b k1).2] at q1
   cases q1
theorem acw {R:Nat→Prop} {ι:VI} {H:WH} {M:Heap} (s:VS R ι H M) {ρ σ:Nat→AV} (h:∀ t,VL M (OR R ι) ι (ρ t) (σ t)) {o:BJ} (hc:o.bB=true) {v:AV} (hv:wL (o.sub ρ) H=some v):∃ a,aL (o.sub σ) [] M=some a∧VL M (OR R ι) ι v a:=by
 cases o with
 | load agg n x =>
  have hx:=fG h hc
  simp only [BJ.sub,wL,aL] at hv ⊢
  generalize (x.sub ρ).ev []=X at *
  generalize (x.sub σ).ev []=Y at *
  split at hv
  ·cases hv
  rename_i hn0
  cases X with
  | elem cs =>
   simp only [VL] at hx
   obtain ⟨b,o,c,ro,sl,rfl,g1,g2,g3,g4⟩:=hx
   simp only at hv
   have key:∀ g m,Bv g 0 m cs=some v→(g=true→0 < m)→∃ a,G6 g m (.ptr (some (b,o))) M=some a∧VL M (OR R ι) ι v a:=by
    intro g m hp hm
    obtain ⟨h1,h2⟩:=YW hp
    cases g with
    | true =>
     simp only [Ej,if_true,Option.some.injEq,List.drop_zero] at h1
     subst h1
     have hle:=h2 rfl
     simp only [List.drop_zero] at hle
     have hlen:=g4.length
     have hco:o+m≤c.length:=by
      have:=hm rfl
      simp only [List.length_take,List.length_drop] at hlen
      omega
     refine ⟨.agg ((c.drop o).take m), ?_, ?_⟩
     ·simp only [G6,if_true,Heap.read,g1]
      rw [if_pos hco]
      rfl
     ·simp only [VL]
      refine ⟨_,rfl, ?_⟩
      have:=(g4.take m).lift (κ:=ι)
      rwa [List.take_take,Nat.min_eq_left hle] at this
    | false =>
     simp only [Ej,Bool.false_eq_true,if_false] at h1
     obtain ⟨a,h3,h4⟩:=g4.get 0 v h1
     refine ⟨a, ?_,VL.mono (.refl _ _) _ _ _ _ (VI.Le.ajT _ _) h4⟩
     simp only [G6,Bool.false_eq_true,if_false,g1]
     rw [List.getElem?_take,List.getElem?_drop] at h3
     split at h3
     ·simpa using h3
     ·cases h3
   refine key agg n hv λe=>?_
   subst e
   simp only [Bool.true_and] at hn0
   exact Nat.pos_of_ne_zero λe=>by subst e;simp at hn0
  | ptr p =>
   cases p with
   | none=>simp at hv
   | some q =>
    simp only [VL] at hx
    obtain ⟨j,h1,rfl⟩:=hx
    simp only at hv
    split at hv
    case h_2=>cases hv
    rename_i c ro sl hg
    obtain ⟨c',t,ro',sl',L,h2,_,_,_,h3⟩:=s.at h1 hg
    obtain ⟨h4,h5⟩:=YW hv
    have hl:=h3.length
    cases agg with
    | true =>
     simp only [Ej,if_true,Option.some.injEq] at h4
     subst h4
     have:=h5 rfl
     simp only [List.length_drop] at this
     have hn:n≠0:=λe=>by subst e;simp at hn0
     refine ⟨.agg ((c'.drop q.2).take n), ?_,by simp only [VL];exact ⟨_,rfl,(h3.kap.drop _).take _⟩⟩
     simp only [G6,if_true,Heap.read,h2]
     rw [if_pos (by simp only [List.length_append];omega),List.drop_append_of_le_length (by omega),List.take_append_of_le_length (by simp only [List.length_drop];omega)]
     rfl
    | false =>
     simp only [Ej,Bool.false_eq_true,if_false] at h4
     obtain ⟨a,h6,h7⟩:=h3.kap.get _ _ h4
     refine ⟨a, ?_,h7⟩
     simp only [G6,Bool.false_eq_true,if_false,h2]
     rw [List.getElem?_append_left (by rw [← hl];exact (List.getElem?_eq_some_iff.1 h4).1)]
     exact h6
  | _=>simp at hv
 | lY x =>
  have hx:=fG h hc
  simp only [BJ.sub,wL,aL] at hv ⊢
  generalize (x.sub ρ).ev []=X at *
  generalize (x.sub σ).ev []=Y at *
  split at hv
  ·obtain ⟨t,h1,rfl⟩:=Option.map_eq_some_iff.1 hv
   simp only [VL] at hx
   rcases hx with ⟨_,rfl,s',rfl⟩ | ⟨b,o,cap,ex',rfl,q1,q2,q3,q4⟩
   ·simp only [kN,Option.some.injEq] at h1
    subst h1
    exact ⟨.str [],rfl,by simp [VL]⟩
   ·refine ⟨.str t, ?_,by simp [VL]⟩
    simp only [vL]
    split
    ·rename_i hl
     subst hl
     have:‹List AV›=[]:=List.eq_nil_of_length_eq_zero (by simpa using q3)
     subst this
     simp only [kN,Option.some.injEq] at h1
     rw [h1]
    ·rename_i hl
     obtain ⟨c,ro,sl,g1,g2,g3,g4,g5⟩:=q4 hl
     simp only [Nat.mul_one] at g4 g5
     simp only [Heap.read,g1,if_pos g4,Option.bind_some,Nn g5 h1,Option.map_some]
  ·split at hv
   case h_2=>cases hv
   rename_i b off n w _ c ro sl hg
   obtain ⟨t,h1,rfl⟩:=Option.map_eq_some_iff.1 hv
   obtain ⟨k1,k2,p,s',cap,ex,rfl,k3,k4,k5⟩:=VL.yR s hx hg
   simp only [Nat.mul_one] at k1 k2
   refine ⟨.str t, ?_,by simp [VL]⟩
   have hn0:n=0→t=[]:=λe=>by
    subst e
    have:(afq w c off 0).length=0:=SV k1 k2
    rw [List.eq_nil_of_length_eq_zero this] at h1
    simpa [kN] using h1.symm
   rcases k5 with ⟨j,c',t',ro',sl',L,g1,g2,g3,g4,g5,g6,rfl,g7⟩ | ⟨rfl,rfl,rfl,g⟩
   ·obtain rfl:=k4 (by simp)
    simp only [vL]
    split
    ·rename_i hl
     rw [hn0 hl]
    ·have hl:=g6.length
     simp only [Nat.mul_one] at g7
     have:=Nn (SX (t:=t') g6.kap k1 k2) h1
     simp only [Heap.read,g2,if_pos (show off+n≤(c'++t').length by simp only [List.length_append];omega),Option.bind_some,this,Option.map_some]
   ·rw [hn0 rfl]
    cases p with
    | none=>rfl
    | some p =>
     obtain rfl:=k4 (by simp)
     simp [vL]
  ·obtain rfl:=Option.some.inj hv
   simp only [VL] at hx
   obtain ⟨_,s',rfl⟩:=hx
   exact ⟨.str [],rfl,by simp [VL]⟩
  ·cases hv
 | KD x=>simp [BJ.sub,wL] at hv
 | lookup ok z x w=>simp [BJ.sub,wL] at hv
end Go.Proofs.YtohoggieaanllaaGreat
end
section
set_option linter.all false
set_option linter.unusedSimpArgs false
namespace Go.Proofs.YtohoggieaanllaaGreat
theorem CQ:∀ {l:List Nat} {b:Nat},vS l b=true↔b∈l
 | [],b=>by simp [vS]
 | a::r,b=>by
  simp only [vS,List.mem_cons]
  cases h:Nat.beq a b with
  | true=>simp [Nat.eq_of_beq_eq_true h]
  | false =>
   have:b≠a:=λe=>by subst e;simp at h
   simp only
   rw [CQ (l:=r)]
   simp [this]
def VI.Cq (ι:VI) (S:List Nat):VI:=⟨ι.to,ι.U3,λi=>ι.gone i || vS S i,ι.dim⟩
theorem Yq {ι:VI} {S:List Nat} {j:Nat} (h:own (ι.Cq S) j):own ι j:=by
 obtain ⟨i,h1,h2⟩:=h
 simp only [VI.Cq,Bool.or_eq_false_iff] at h2
 exact ⟨i,h1,h2.1⟩
theorem Jy:∀ (S:List Nat) (H:WH) (i:Nat),dJ (KM H S) i=if vS S i=true then Xr (dJ H i) else dJ H i
 | [],H,i=>by simp [KM,vS]
 | b::S,H,i=>by
  simp only [KM,Jy S,sG,vS]
  have ib:∀ x:Option mU,Xr (Xr x)=Xr x:=λx=>by
   cases x with
   | none=>rfl
   | some x=>cases x<;>rfl
  by_cases e:i=b
  ·subst e
   simp only [Nat.beq_refl]
   by_cases hl:i < H.length
   ·simp only [hl,and_self,if_true]
    split<;>simp [ib]
   ·simp only [hl,and_false,if_false,adK (Nat.le_of_not_lt hl)]
    split<;>simp [Xr]
  ·have:Nat.beq b i=false:=by
    cases hh:Nat.beq b i with
    | false=>rfl
    | true=>exact absurd (Nat.eq_of_beq_eq_true hh).symm e
   simp [this,e]
theorem xQ:∀ (S:List Nat) (H:WH),(KM H S).length=H.length
 | [],H=>rfl
 | b::S,H=>by simp only [KM,xQ S,fu]
theorem U5 {x:Option mU} {y:mU} (h:Xr x=some y):∃ z,x=some z∧(y=z∨∃ c ro sl,z=.cells c ro sl∧y=.cells c true sl):=by
 cases x with
 | none=>simp [Xr] at h
 | some z =>
  cases z with
  | cells c ro sl=>simp only [Xr,Option.some.injEq] at h;exact ⟨_,rfl,.inr ⟨c,ro,sl,rfl,h.symm⟩⟩
  | map es=>simp only [Xr,Option.some.injEq] at h;exact ⟨_,rfl,.inl h.symm⟩
theorem adL (ι:VI) (S:List Nat) (T:Nat→Prop):VI.Le ι (ι.Cq S) T:=λ_ _=>⟨λ_ h=>⟨h,λ_ h=>h⟩,λh=>⟨h,λ_ h=>h⟩⟩
theorem VS.akO {R:Nat→Prop} {ι:VI} {H:WH} {M:Heap} (s:VS R ι H M) (S:List Nat) (hS:∀ b∈S,∃ x,dJ H b=some x):VS R (ι.Cq S) (KM H S) M∧Stp H.length [] ι H M (ι.Cq S) (KM H S) M:=by
 have hk:Keeps M (own ι) M (own (ι.Cq S)):=⟨Nat.le_refl _,λb _ h=>⟨rfl,λk=>h (Yq k)⟩⟩
 have lv:∀ k,(∃ z,dJ (KM H S) k=some z)→∃ z,dJ H k=some z:=λk ⟨z,hz⟩=>by
  rw [Jy] at hz
  split at hz
  ·obtain ⟨y,hy,_⟩:=U5 hz
   exact ⟨y,hy⟩
  ·exact ⟨z,hz⟩
 have ac:∀ i,act (ι.Cq S) (KM H S) i→act ι H i:=λi h=>h.imp (lv i) (λh=>by
  simp only [VI.Cq,Bool.or_eq_false_iff] at h
  exact h.1)
 refine ⟨⟨λi j h=>by rw [xQ];exact s.lt i j h,λi i' j h h' e e' g=>s.inj i i' j (ac i h) (ac i' h') e e' (g.imp (λg=>by simp only [VI.Cq,Bool.or_eq_false_iff] at g;exact g.1) (λg=>by simp only [VI.Cq,Bool.or_eq_false_iff] at g;exact g.1)),λi z hz=>?_,λi h=>by rw [xQ];exact s.CP i h,λi hi c sl h=>?_,s.okM,λj h=>⟨(s.res j h).1,λi hi=>(s.res j h).2 i (ac i hi)⟩⟩,
  ⟨hk,adL _ _ _,λi _ h=>by simp only [VI.Cq,h,Bool.true_or],λ_ _=>rfl,λ_ _=>rfl,λi _ h=>by
   have:vS S i=false:=by
    cases e:vS S i with
    | false=>rfl
    | true=>obtain ⟨x,hx⟩:=hS i (CQ.1 e);rw [h] at hx;cases hx
   simp only [VI.Cq,this,Bool.or_false],λi _=>lv i,λ_ _ _ _ _ _=>rfl,by rw [xQ];exact Nat.le_refl _⟩⟩
 ·have hbl:∀ {d x y},BL M (OR R ι) ι d x y→BL M (OR R (ι.Cq S)) (ι.Cq S) d x y:=λh=>BL.mono (κ:=ι) (yE:=ι.Cq S) (hk.or R) (λT=>adL _ _ _) (λ_ h=>h) h
  rw [Jy] at hz
  split at hz
  ·rename_i hS
   obtain ⟨y,hy,h⟩:=U5 hz
   rcases s.blk i y hy with ⟨h1,h2,ro,h3⟩ | ⟨j,h1,h2,h3⟩
   ·rcases h with rfl | ⟨c,ro',sl,rfl,rfl⟩
    ·exact .inl ⟨h1,h2,ro,h3⟩
    ·cases h3
     exact .inl ⟨h1,h2,true,rfl⟩
   ·rcases h with rfl | ⟨c,ro',sl,rfl,rfl⟩
    ·cases z with
     | cells c ro' sl =>
      rw [hy] at hz
      simp only [Xr,Option.some.injEq,mU.cells.injEq] at hz
      obtain ⟨_,rfl,_⟩:=hz
      exact .inr ⟨j,h1,hbl h2,λh=>by cases h⟩
     | map es=>exact h2.elim
    ·obtain ⟨c',t,axK,sl',L,g1,g2,g3⟩:=h2
     exact .inr ⟨j,h1,hbl ⟨c',t,axK,sl',L,g1,(λh=>by cases h),g3⟩,λh=>by cases h⟩
  ·rename_i hS
   rcases s.blk i z hz with h | ⟨j,h1,h2,h3⟩
   ·exact .inl h
   ·refine .inr ⟨j,h1,hbl h2,λh=>?_⟩
    simp only [VI.Cq,h3 h,Bool.false_or]
    simpa using hS
 ·rw [Jy] at h
  simp only [VI.Cq,Bool.or_eq_true] at hi
  split at h
  ·obtain ⟨y,hy,h'⟩:=U5 h
   rcases h' with rfl | ⟨_,_,_,_,h'⟩
   ·rw [hy] at h
    simp [Xr] at h
   ·cases h'
  ·rename_i hS
   exact s.Cq i (hi.resolve_right hS) c sl h
theorem U6 {g:AV→Option (AV×List Nat)} {v:AV} {l:List AV} {p:List AV×List Nat} (h:KL g (v::l)=some p):∃ q r,g v=some q∧KL g l=some r∧p=(q.1::r.1,q.2++r.2):=by
 simp only [KL] at h
 split at h
 ·rename_i q r h1 h2
  exact ⟨q,r,h1,h2,(Option.some.inj h).symm⟩
 ·cases h
def SY (nested:Bool) (κ:VI):VI:=if nested then VI.none else κ
theorem YZ {M:Heap} {O O':Nat→Prop} {κ yE:VI} {g:AV→Option (AV×List Nat)} {P:Nat→Prop} {nested:Bool}
  (hg:∀ v p a,g v=some p→VL M O κ v a→(∀ b∈p.2,P b)→VL M O' (SY nested yE) p.1 a) :
  ∀ (l:List AV) (p:List AV×List Nat) (r:List AV),KL g l=some p→bV M O κ l r→(∀ b∈p.2,P b)→bV M O' (SY nested yE) p.1 r
 | [],p,r,h,hr,_=>by
  simp only [KL,Option.some.injEq] at h
  subst h
  cases r with
  | nil=>simp [bV]
  | cons _ _=>simp [bV] at hr
 | v::l,p,r,h,hr,hP=>by
  obtain ⟨q,q',h1,h2,rfl⟩:=U6 h
  cases r with
  | nil=>simp [bV] at hr
  | cons a r =>
   simp only [bV] at hr ⊢
   exact ⟨hg v q a h1 hr.1 (λb hb=>hP b (by simp [hb])),YZ hg l q' r h2 hr.2 (λb hb=>hP b (by simp [hb]))⟩
theorem zw {g:AV→Option (AV×List Nat)} {P:Nat→Prop} (hg:∀ v p,g v=some p→∀ b∈p.2,P b):∀ (l:List AV) (p:List AV×List Nat),KL g l=some p→∀ b∈p.2,P b
 | [],p,h,b,hb=>by
  simp only [KL,Option.some.injEq] at h
  subst h
  cases hb
 | v::l,p,h,b,hb=>by
  obtain ⟨q,q',h1,h2,rfl⟩:=U6 h
  simp only [List.mem_append] at hb
  exact hb.elim (hg v q h1 b) (zw hg l q' h2 b)
theorem xR {H:WH}:∀ (k:Nat) (nested:Bool) (v:AV) (p:AV×List Nat),frz H k nested v=some p→∀ b∈p.2,∃ x,dJ H b=some x
 | 0,nested,v,p,h=>by simp [frz] at h
 | k+1,nested,v,p,h=>by
  intro b hb
  simp only [frz] at h
  split at h
  ·split at h
   case h_2=>cases h
   rename_i hg
   split at h
   ·obtain rfl:=Option.some.inj h
    simp only [List.mem_singleton] at hb
    exact ⟨_,hb ▸ hg⟩
   ·split at h
    case h_2=>cases h
    split at h
    case h_2=>cases h
    rename_i q hq
    obtain rfl:=Option.some.inj h
    simp only [List.mem_cons] at hb
    rcases hb with rfl | hb
    ·exact ⟨_,hg⟩
    ·exact zw (λv p=>xR k true v p) _ _ hq b hb
  ·obtain rfl:=Option.some.inj h
   cases hb
  ·cases h
  ·obtain rfl:=Option.some.inj h
   cases hb
  ·cases h
  ·split at h
   ·cases h
   ·obtain rfl:=Option.some.inj h
    cases hb
  ·split at h
   ·cases h
   ·obtain rfl:=Option.some.inj h
    cases hb
  ·split at h
   case h_2=>cases h
   rename_i q hq
   obtain rfl:=Option.some.inj h
   exact zw (λv p=>xR k nested v p) _ _ hq b hb
  ·split at h
   case h_2=>cases h
   rename_i q hq
   obtain rfl:=Option.some.inj h
   exact zw (λv p=>xR k nested v p) _ _ hq b hb
  ·split at h
   case h_2=>cases h
   rename_i q hq
   obtain rfl:=Option.some.inj h
   exact zw (λv p=>xR k nested v p) _ _ hq b hb
  ·obtain rfl:=Option.some.inj h
   cases hb
theorem ahQ:∀ {v:AV},(∀ b o sz n w,v=.acc b o sz n w→False)→(∀ q,v=.ptr (some q)→False)→(∀ r,v=.map (some r)→False)→(∀ f cs,v=.func f cs→False)→(∀ cs,v=.agg cs→False)→(∀ cs,v=.tuple cs→False)→CK v=[]
 | .undef,_,_,_,_,_,_=>rfl
 | .bool _,_,_,_,_,_,_=>rfl
 | .int _ _,_,_,_,_,_,_=>rfl
 | .str _,_,_,_,_,_,_=>rfl
 | .ptr none,_,_,_,_,_,_=>rfl
 | .ptr (some q),_,h,_,_,_,_=>(h q rfl).elim
 | .slice _ _ _ _ _,_,_,_,_,_,_=>rfl
 | .map none,_,_,_,_,_,_=>rfl
 | .map (some r),_,_,h,_,_,_=>(h r rfl).elim
 | .func f cs,_,_,_,h,_,_=>(h f cs rfl).elim
 | .nilFunc,_,_,_,_,_,_=>rfl
 | .agg cs,_,_,_,_,h,_=>(h cs rfl).elim
 | .tuple cs,_,_,_,_,_,h=>(h cs rfl).elim
 | .list ..,_,_,_,_,_,_=>rfl
 | .elem _,_,_,_,_,_,_=>rfl
 | .acc b o sz n w,h,_,_,_,_,_=>(h b o sz n w rfl).elim
theorem S9 {g:AV→Option (AV×List Nat)}:∀ (l:List AV) (p:List AV×List Nat),KL g l=some p→p.1.length=l.length
 | [],p,h=>by
  simp only [KL,Option.some.injEq] at h
  subst h
  rfl
 | v::l,p,h=>by
  obtain ⟨q,q',h1,h2,rfl⟩:=U6 h
  simp [S9 l q' h2]
section
variable {R:Nat→Prop} {ι:VI} {H:WH} {M:Heap} (s:VS R ι H M) {O':Nat→Prop} (hO:∀ j,O' j→OR R ι j) {yE:VI} (hle:VI.Le ι yE (λ_=>True))
include s hO hle
theorem ajV {b o sz n:Nat} {w:Bool} {a:AV} (h:VL M (OR R ι) ι (.acc b o sz n w) a) {c:List AV} {ro sl:Bool} (hg:dJ H b=some (.cells c ro sl)) (hb:∀ j,ι b=some j→¬ O' j) {κ:VI}
  {cs:List AV} (hcs:cs.length=n * sz) (hr:∀ c' t,bV M (OR R ι) (if sl then VI.none else ι) c c'→bV M O' VI.none cs (((c'++t).drop o).take (n * sz))):VL M O' κ (.list sz n cs false) a:=by
 obtain ⟨k1,k2,p,s',cap,ex,rfl,k3,k4,k5⟩:=VL.yR s h hg
 simp only [VL]
 rcases k5 with ⟨j,c',t',ro',sl',L,g1,g2,g3,g4,g5,g6,rfl,g7⟩ | ⟨rfl,rfl,rfl,g⟩
 ·obtain rfl:=k4 (by simp)
  have hl:=g6.length
  refine .inr ⟨j,o,cap,ex,rfl,k3,(λh=>by cases h),hcs,λ_=>⟨_,ro',sl',g2,hb j g1,(s.lt b j g1).2,by simp only [List.length_append];omega,hr c' t' g6⟩⟩
 ·rw [Nat.zero_mul] at hcs
  obtain rfl:=List.eq_nil_of_length_eq_zero hcs
  cases p with
  | none=>exact .inl ⟨rfl,rfl,s',rfl⟩
  | some p =>
   obtain rfl:=k4 (by simp)
   exact .inr ⟨p.1,p.2,0,true,rfl,Nat.le_refl _,(λh=>by cases h),by simp,λh=>absurd rfl h⟩
theorem ahR:∀ (k:Nat) (nested:Bool) (v:AV) (p:AV×List Nat) (a:AV),frz H k nested v=some p→VL M (OR R ι) ι v a→(∀ b∈p.2,∀ j,ι b=some j→¬ O' j)→VL M O' (SY nested yE) p.1 a
 | 0,nested,v,p,a,h,hv,hP=>by simp [frz] at h
 | k+1,nested,v,p,a,h,hv,hP=>by
  have hk:Keeps M (OR R ι) M O':=⟨Nat.le_refl _,λb _ h=>⟨rfl,λk=>h (hO b k)⟩⟩
  have nest:∀ {l p r nested},KL (frz H k nested) l=some p→bV M (OR R ι) ι l r→(∀ b∈p.2,∀ j,ι b=some j→¬ O' j)→bV M O' (SY nested yE) p.1 r:=λ{l p r nested} h1 h2 h3 =>
   YZ (λv p a=>ahR k nested v p a) l p r h1 h2 h3
  simp only [frz] at h
  split at h
  ·rename_i b o sz n w
   split at h
   case h_2=>cases h
   rename_i c ro sl hg
   obtain ⟨k1,k2,_⟩:=VL.yR s hv hg
   split at h
   ·obtain rfl:=Option.some.inj h
    refine ajV s hO hle hv hg (hP b (by simp)) (SV k1 k2) λc' t hc=>?_
    simp only [if_true] at hc
    exact SX (bV.mono hk _ _ _ _ (.refl _ _) hc) k1 k2
   ·split at h
    case h_2=>cases h
    split at h
    case h_2=>cases h
    rename_i q hq
    obtain rfl:=Option.some.inj h
    obtain ⟨k3,k4⟩:=k2 rfl
    refine ajV s hO hle hv hg (hP b (by simp)) (by rw [S9 _ _ hq,k4]) λc' t hc=>?_
    simp only [Bool.false_eq_true,if_false] at hc
    have:=nest hq hc (λb hb=>hP b (by simp [hb]))
    have hl:=hc.length
    rw [k3,List.drop_zero,k4,hl,List.take_left']
    ·exact this
    ·rfl
  ·obtain rfl:=Option.some.inj h
   simp only [VL] at hv ⊢
   exact .inl ⟨trivial,trivial,hv.2⟩
  ·cases h
  ·obtain rfl:=Option.some.inj h
   have:=VL.mono hk _ (SY nested yE) _ _ (λi hi=>by simp [CK] at hi) hv
   simp only [VL] at this ⊢
   rcases this with this | ⟨b,o,cap,ex',h1,h2,h3,h4⟩
   ·exact .inl this
   ·exact .inr ⟨b,o,cap,ex',h1,h2,(λh=>by cases h),h4⟩
  ·cases h
  ·split at h
   ·cases h
   ·obtain rfl:=Option.some.inj h
    simp only [VL,SY,Bool.false_eq_true,if_false] at hv ⊢
    obtain ⟨j,h1,h2⟩:=hv
    exact ⟨j,((hle _ trivial).1 j h1).1,h2⟩
  ·split at h
   ·cases h
   ·obtain rfl:=Option.some.inj h
    simp only [VL,SY,Bool.false_eq_true,if_false] at hv ⊢
    obtain ⟨j,h1,h2⟩:=hv
    exact ⟨j,((hle _ trivial).1 j h1).1,h2⟩
  ·split at h
   case h_2=>cases h
   rename_i q hq
   obtain rfl:=Option.some.inj h
   simp only [VL] at hv ⊢
   obtain ⟨cs',h1,h2⟩:=hv
   exact ⟨cs',h1,nest hq h2 hP⟩
  ·split at h
   case h_2=>cases h
   rename_i q hq
   obtain rfl:=Option.some.inj h
   simp only [VL] at hv ⊢
   obtain ⟨cs',h1,h2⟩:=hv
   exact ⟨cs',h1,nest hq h2 hP⟩
  ·split at h
   case h_2=>cases h
   rename_i q hq
   obtain rfl:=Option.some.inj h
   simp only [VL] at hv ⊢
   obtain ⟨cs',h1,h2⟩:=hv
   exact ⟨cs',h1,nest hq h2 hP⟩
  ·obtain rfl:=Option.some.inj h
   have hid:CK v=[]:=by
    rename_i e1 _ _ _ _ e2 e3 e4 e5 e6
    exact ahQ e1 e2 e3 e4 e5 e6
   exact VL.mono hk _ (SY nested yE) _ _ (λi hi=>by rw [hid] at hi;cases hi) hv
end
end Go.Proofs.YtohoggieaanllaaGreat
end
