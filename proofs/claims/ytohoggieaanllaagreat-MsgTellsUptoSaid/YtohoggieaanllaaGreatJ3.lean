import Derived.Test.YtohoggieaanllaaGreatJ2
section
set_option linter.unusedVariables false
set_option linter.unusedSimpArgs false
namespace Go.Proofs.YtohoggieaanllaaGreat
theorem wQ (u t:Nat) (v:AV) (r:Fast):look ((u,v)::r) t=if u=t then v else look r t:=by
 simp only [look]
 cases hb:Nat.beq u t with
 | true=>rw [if_pos (Nat.eq_of_beq_eq_true hb)]
 | false=>rw [if_neg (λh=>by subst h;rw [Nat.beq_refl] at hb;cases hb)]
theorem wR {n d:Nat} (v:AV) (l:Fast) (h:d < n):pW n (some d) v l=(d,v)::l:=by
 have:Nat.blt d n=true:=by simpa [Nat.blt_eq] using h
 simp [pW,this]
theorem ak6 (n:Nat) (v:AV) (l:Fast):pW n none v l=l:=rfl
theorem Ar (C:bU) (n:Nat) (l:Fast) (M:Heap):Tz C n [] l M=some (l,M):=rfl
theorem wS (C:bU) (n:Nat) (dst:Option Nat) (op:Dt) (r:List xP) (l:Fast) (M:Heap) :
  Tz C n ({ dst:=dst,op:=op,guard:=none }::r) l M=match Tg C (op.sub (look l)) [] M with
   | some p=>Tz C n r (pW n dst p.1 l) p.2
   | none=>none:=by
 simp only [Tz,jF]
 split<;>simp [force_eq, *]
theorem wT (C:bU) (K n:Nat) (ops:List xP) (l:Fast) (M:Heap):aV C K n (.reg ops) l M=(Tz C n ops l M).map λp=>(.normal,p):=rfl
theorem wU (C:bU) (K n:Nat) (a b:bI) (l:Fast) (M:Heap):aV C K n (.seq a b) l M=match aV C K n a l M with
  | some (.normal,l',M')=>aV C K n b l' M'
  | r=>r:=rfl
theorem wrap_i64 {n:Int} (h1:-9223372036854775808≤n) (h2:n≤9223372036854775807):IntKind.i64.wrap n=n:=by
 simp [IntKind.wrap,IntKind.signed,IntKind.bits]
 split<;>omega
structure Ext (M M':Heap):Prop where
 sub:M.Sub M'
 next:M.next≤M'.next
 wf:M'.Wf
theorem Ext.refl {M:Heap} (h:M.Wf):Ext M M:=⟨.refl _,Nat.le_refl _,h⟩
theorem Ext.trans {A B C:Heap} (h:Ext A B) (k:Ext B C):Ext A C:=⟨h.sub.trans k.sub,Nat.le_trans h.next k.next,k.wf⟩
theorem Ext.push {M:Heap} (h:M.Wf) (x:nT):Ext M (M.push x) :=
 ⟨λb y hy=>by
  have:b≠M.next:=λe=>by rw [e,h _ (Nat.le_refl _)] at hy;cases hy
  simp [Heap.push,this,hy],Nat.le_succ _,λb hb=>by
  simp only [Heap.push] at hb ⊢
  rw [if_neg (by omega)]
  exact h b (by omega)⟩
def amQ (M:Heap) (a:AV) (l:List (List UInt8)):Prop :=
 ∃ p sz cap ex,a=.slice p sz l.length cap ex∧(l≠[]→sz=1∧∃ b o c ro sl,p=some (b,o)∧M.get b=some (.cells c ro sl)∧∀ j s,l[j]?=some s→c[o+j]?=some (.str s))
theorem amQ.mono {M M':Heap} (h:M.Sub M') {a:AV} {l:List (List UInt8)} (r:amQ M a l):amQ M' a l:=by
 obtain ⟨p,sz,cap,ex,h1,h2⟩:=r
 refine ⟨p,sz,cap,ex,h1,λhl=>?_⟩
 obtain ⟨e1,b,o,c,ro,sl,e2,e3,e4⟩:=h2 hl
 exact ⟨e1,b,o,c,ro,sl,e2,h _ _ e3,e4⟩
def alone (g:List AV→Heap→Option (AV×Heap)):List AV→Heap→Option (AV×Heap):=λargs M =>
 match args,g [] Heap.empty with
 | [],some (.bool b,_)=>some (.bool b,M)
 | _,_=>none
theorem acW {P:Program} {G:aeh} {T:FuncId→Option bF} (hG:∀ f g,G f=some g→(RJ P f∧Sound P f g)∨Xk P f g) (hT:∀ f af,T f=some af→∃ h,aR P f h=some af) (K d:Nat) {f:FuncId} (hf:G f=none):Sound P f (sH G T K d f):=by
 intro args M v M' h
 have h1:=afV d f args M _ h
 cases d with
 | zero=>simp [Mv] at h1
 | succ d =>
  simp only [Mv,hf] at h1
  split at h1
  ·rename_i af haf
   obtain ⟨hs,hc⟩:=hT f af haf
   exact Zz (Xr hG hT K d) K hc args M v M' h1
  ·cases h1
theorem amR {s:Sh} {ss:List Sh} {ds:List D} (h:D.are (s::ss) ds):∃ d r,ds=d::r∧D.is s d∧D.are ss r:=by
 cases ds with
 | nil=>simp [D.are] at h
 | cons d r=>exact ⟨d,r,rfl,by simpa [D.are] using h⟩
theorem Y9 {ds:List D} (h:D.are [] ds):ds=[]:=by
 cases ds with
 | nil=>rfl
 | cons d r=>simp [D.are] at h
end Go.Proofs.YtohoggieaanllaaGreat
end
section
set_option linter.all false
namespace Go.Proofs.YtohoggieaanllaaGreat
abbrev WH:=List (Option nT)
def dS:WH→Nat→Option nT
 | [],_=>none
 | x::_,0=>x
 | _::r,i+1=>dS r i
def iU:WH→Nat→Option nT→WH
 | [],_,_=>[]
 | _::r,0,y=>y::r
 | x::r,i+1,y=>x::iU r i y
mutual
def Du:AV→List Nat
 | .ptr (some p)=>[p.1]
 | .map (some r)=>[r]
 | .acc b _ _ _ _=>[b]
 | .func _ cs=>qW cs
 | .agg cs=>qW cs
 | .tuple cs=>qW cs
 | _=>[]
def qW:List AV→List Nat
 | []=>[]
 | v::r=>Du v++qW r
end
def AV.flat:AV→Bool
 | .ptr (some _) | .slice (some _) _ _ _ _ | .map (some _) | .func _ (_::_) | .agg _ | .tuple _ | .acc ..=>false
 | _=>true
def Dv:List Nat→Nat→Option Nat
 | [],_=>none
 | a::r,b=>match Nat.beq a b with
  | true=>some 0
  | false=>match Dv r b with
   | some k=>some (k+1)
   | none=>none
mutual
def rn (f:Nat→Option Nat):AV→AV
 | .ptr (some q)=>match f q.1 with
  | some b=>.ptr (some (b,q.2))
  | none=>.undef
 | .slice (some _) _ _ _ _=>.undef
 | .map (some r)=>match f r with
  | some b=>.map (some b)
  | none=>.undef
 | .acc b o sz n w=>match f b with
  | some b'=>.acc b' o sz n w
  | none=>.undef
 | .func g cs=>.func g (rnL f cs)
 | .agg cs=>.agg (rnL f cs)
 | .tuple cs=>.tuple (rnL f cs)
 | v=>v
def rnL (f:Nat→Option Nat):List AV→List AV
 | []=>[]
 | v::r=>rn f v::rnL f r
end
def rnB (f:Nat→Option Nat):nT→nT
 | .cells c ro sl=>match sl with
  | true=>.cells c ro true
  | false=>.cells (rnL f c) ro false
 | .map es=>.map es
def aya:Option nT→List Nat
 | some (.cells c _ false)=>qW c
 | _=>[]
def wV:List Nat→Nat→Bool
 | [],_=>false
 | a::r,b=>match Nat.beq a b with
  | true=>true
  | false=>wV r b
def Nk (H:WH) (np:Nat) (seen:List Nat):List Nat→List Nat
 | []=>[]
 | a::r=>match wV seen a with
  | true=>Nk H np seen r
  | false=>match Nat.blt a np with
   | true=>a::Nk H np (a::seen) r
   | false=>match dS H a with
    | some _=>a::Nk H np (a::seen) r
    | none=>Nk H np (a::seen) r
def auL (H:WH):List Nat→List Nat
 | []=>[]
 | b::r=>aya (dS H b)++auL H r
def amS (H:WH) (np:Nat) (l:List Nat):List Nat:=Nk H np [] (l++auL H l)
def VG (H:WH) (np:Nat) (roots:List Nat):List Nat:=amS H np (amS H np (amS H np (Nk H np [] (List.range np++roots))))
def rnO (f:Nat→Option Nat):Option nT→Option nT
 | some x=>some (rnB f x)
 | none=>none
def Au (H:WH) (p:List Nat):List Nat→WH
 | []=>[]
 | b::r=>rnO (Dv p) (dS H b)::Au H p r
def back (p:List Nat) (n0 k:Nat):Option Nat:=match p[k]? with
 | some b=>some b
 | none=>some (n0+(k - p.length))
def Cw (f:Nat→Option Nat):List Nat→WH→WH→WH
 | b::p,x::out,H=>Cw f p out (iU H b (rnO f x))
 | _,_,H=>H
def TA (H:WH) (p:List Nat) (out:WH):WH :=
 Cw (back p H.length) p out H++(out.drop p.length).map (rnO (back p H.length))
mutual
def retag:AV→AV→AV
 | .slice none s 0 0 true,t=>match t with
  | .slice none z _ _ _=>.slice none z 0 0 true
  | _=>.slice none s 0 0 true
 | .agg cs,t=>match t with
  | .agg ts=>.agg (uK cs ts)
  | _=>.agg cs
 | .tuple cs,t=>match t with
  | .tuple ts=>.tuple (uK cs ts)
  | _=>.tuple cs
 | v,_=>v
def uK:List AV→List AV→List AV
 | c::cs,ts=>match ts with
  | t::ts=>retag c t::uK cs ts
  | []=>c::cs
 | [],_=>[]
end
def Li (g:AV→Option (AV×List Nat)):List AV→Option (List AV×List Nat)
 | []=>some ([],[])
 | v::r=>match g v,Li g r with
  | some p,some q=>some (p.1::q.1,p.2++q.2)
  | _,_=>none
def afW (w:Bool) (c:List AV) (o m:Nat):List AV:=match w with
 | true=>c
 | false=>(c.drop o).take m
def frz (H:WH):Nat→Bool→AV→Option (AV×List Nat)
 | 0,_,_=>none
 | k+1,nested,v=>match v with
  | .acc b o sz n w=>match dS H b with
   | some (.cells c _ sl)=>match sl with
    | true=>some (.list sz n (afW w c o (n * sz)) false,[b])
    | false=>match w with
     | true=>match Li (frz H k true) c with
      | some p=>some (.list sz n p.1 false,b::p.2)
      | none=>none
     | false=>none
   | _=>none
  | .slice none z 0 0 true=>some (.list z 0 [] false,[])
  | .slice _ _ _ _ _=>none
  | .list sz n cs _=>some (.list sz n cs false,[])
  | .elem _=>none
  | .ptr (some q)=>match nested with
   | true=>none
   | false=>some (.ptr (some q),[])
  | .map (some r)=>match nested with
   | true=>none
   | false=>some (.map (some r),[])
  | .func f cs=>match Li (frz H k nested) cs with
   | some p=>some (.func f p.1,p.2)
   | none=>none
  | .agg cs=>match Li (frz H k nested) cs with
   | some p=>some (.agg p.1,p.2)
   | none=>none
  | .tuple cs=>match Li (frz H k nested) cs with
   | some p=>some (.tuple p.1,p.2)
   | none=>none
  | v=>some (v,[])
def X7:Option nT→Option nT
 | some (.cells c _ sl)=>some (.cells c true sl)
 | x=>x
def Lj (H:WH):List Nat→WH
 | []=>H
 | b::r=>Lj (iU H b (X7 (dS H b))) r
def auM (w:Bool) (c:List AV) (m:Nat):List AV:=match w with
 | true=>c
 | false=>c.take m
mutual
def ak7:AV→WH→AV×WH
 | .slice none z 0 0 true,H=>(.acc H.length 0 z 0 true,H++[some (.cells [] false true)])
 | .acc b 0 sz n w,H=>match dS H b with
  | some (.cells c false true)=>(.acc H.length 0 sz n true,iU H b none++[some (.cells (auM w c (n * sz)) false true)])
  | _=>(.acc b 0 sz n w,H)
 | .agg cs,H=>match acX cs H with
  | (a,H)=>(.agg a,H)
 | .tuple cs,H=>match acX cs H with
  | (a,H)=>(.tuple a,H)
 | v,H=>(v,H)
def acX:List AV→WH→List AV×WH
 | [],H=>([],H)
 | v::r,H=>match ak7 v H with
  | (a,H)=>match acX r H with
   | (l,H)=>(a::l,H)
end
def nrm (m:Option Bool) (v:AV) (H:WH):AV×WH:=match m with
 | none=>(v,H)
 | some true=>ak7 v H
 | some false=>match frz H 5 false v with
  | some p=>(p.1,Lj H p.2)
  | none=>(v,H)
def TB:List (Option Bool)→List AV→WH→List AV×WH
 | _,[],H=>([],H)
 | ms,v::r,H=>match nrm (ms.headD (some false)) v H with
  | (a,H)=>match TB ms.tail r H with
   | (l,H)=>(a::l,H)
def afX (m:Option Bool):List AV→WH→List AV×WH
 | [],H=>([],H)
 | v::r,H=>match nrm m v H with
  | (a,H)=>match afX m r H with
   | (l,H)=>(a::l,H)
def aq2 (m:Option Bool) (b:Nat) (H:WH):WH:=match m with
 | none=>H
 | some m=>match dS H b with
  | some (.cells c _ false)=>match afX (some m) c H with
   | (c',H')=>match dS H' b with
    | some (.cells _ ro false)=>iU H' b (some (.cells c' ro false))
    | _=>H'
  | _=>H
def Xu:List (Option Bool)→Option Bool→List Nat→WH→WH
 | _,_,[],H=>H
 | ms,m,b::p,H=>Xu ms.tail m p (aq2 (ms.headD m) b H)
def ZE (sz:Nat) (sz' len:Nat) (cs:List AV) (lo hi mx:Option AX):Option AV :=
 if sz'=sz then
  match mx with
  | none=>(b_ [] hi len len).bind λh=>(b_ [] lo 0 h).bind λl=>some (.list sz (h - l) ((cs.drop (l * sz)).take ((h - l) * sz)) false)
  | some _=>(b_ [] mx len len).bind λm=>match hi with
   | none=>none
   | some _=>(b_ [] hi len m).bind λh=>(b_ [] lo 0 h).bind λl=>some (.list sz (h - l) ((cs.drop (l * sz)).take ((h - l) * sz)) false)
 else none
def Ir (sz b off sz' n:Nat) (w:Bool) (lo hi mx:Option AX):Option AV :=
 match lo,hi,mx with
 | none,none,none=>if sz'=sz then some (.acc b off sz n w) else none
 | _,_,none=>if sz'=sz then (b_ [] hi n n).bind λh=>(b_ [] lo 0 h).bind λl=>some (.acc b (off+l * sz) sz (h - l) false) else none
 | _,some _,some _=>if sz'=sz then (b_ [] mx n n).bind λm=>(b_ [] hi n m).bind λh=>(b_ [] lo 0 h).bind λl=>some (.acc b (off+l * sz) sz (h - l) false) else none
 | _,_,_=>none
def NS:Nat→List AV→Option (List AV)
 | 0,_=>some []
 | n+1,c::cs=>match NS n cs with
  | some l=>some (c::l)
  | none=>none
 | _+1,[]=>none
def cAt:List AV→Nat→Option AV
 | [],_=>none
 | v::_,0=>some v
 | _::r,i+1=>cAt r i
def Cj (agg:Bool) (off n:Nat) (cs:List AV):Option AV:=match agg with
 | true=>match NS n (cs.drop off) with
  | some l=>some (.agg l)
  | none=>none
 | false=>cAt cs off
def wP (o:nU):Option AV :=
 match o with
 | .slice sz x lo hi mx=>match x.ev [] with
  | .list sz' len cs _=>ZE sz sz' len cs lo hi mx
  | .acc b off sz' n w=>Ir sz b off sz' n w lo hi mx
  | _=>none
 | .lZ sz x i=>match x.ev [] with
  | .list sz' len cs _=>match i.ev [] with
   | .int _ j=>if 0≤j∧j < (len:Int)∧sz'=sz then some (.elem (cs.drop (j.toNat * sz))) else none
   | _=>none
  | .acc b off sz' n _=>match i.ev [] with
   | .int _ j=>if 0≤j∧j < (n:Int)∧sz'=sz then some (.ptr (some (b,off+j.toNat * sz))) else none
   | _=>none
  | _=>none
 | .xZ n sz x i=>match x.ev [] with
  | .elem cs=>match i.ev [] with
   | .int _ j=>if 0≤j∧j < (n:Int) then some (.elem (cs.drop (j.toNat * sz))) else none
   | _=>none
  | _=>aP o []
 | .fieldAddr off x=>match x.ev [] with
  | .elem cs=>some (.elem (cs.drop off))
  | _=>aP o []
 | .nilCheck x=>match x.ev [] with
  | .elem cs=>some (.elem cs)
  | _=>aP o []
 | .field agg off n x=>match x.ev [] with
  | .agg cs=>Cj agg off n cs
  | _=>none
 | .len false x=>match x.ev [] with
  | .list _ len _ _=>some (.int .i64 len)
  | .acc _ _ _ n _=>some (.int .i64 n)
  | .slice none _ 0 0 true=>some (.int .i64 0)
  | _=>none
 | .cap _=>none
 | .eqN neg x y=>match x.ev [],y.ev [] with
  | .list _ (_+1) _ _,.slice none _ 0 0 true=>some (.bool neg)
  | .slice none _ 0 0 true,.list _ (_+1) _ _=>some (.bool neg)
  | .slice none _ 0 0 true,.slice none _ 0 0 true=>some (.bool (!neg))
  | _,_=>none
 | _=>aP o []
def wL (o:Cu) (H:WH):Option AV :=
 match o with
 | .load agg n x=>match agg&&Nat.beq n 0 with
  | true=>none
  | false=>match x.ev [] with
   | .elem cs=>Cj agg 0 n cs
   | .ptr (some (b,off))=>match dS H b with
    | some (.cells c _ _)=>Cj agg off n c
    | _=>none
   | _=>none
 | .mV x=>match x.ev [] with
  | .list 1 _ cs _=>(kg cs).map .str
  | .acc b off 1 n w=>match dS H b with
   | some (.cells c _ _)=>(kg (afW w c off n)).map .str
   | _=>none
  | .slice none _ 0 0 true=>some (.str [])
  | _=>none
 | _=>none
def dx (bytes k:Nat):Bool:=decide (k * bytes≤70368744177664∧k≤70368744177664)
def NT (x:AV) (sz:Nat) (H:WH):Option (Nat×List AV×List Nat) :=
 match x with
 | .list sz' n cs _=>match Nat.beq sz' sz with
  | true=>some (n,cs,[])
  | false=>none
 | .slice none _ 0 0 true=>some (0,[],[])
 | .str s=>match Nat.beq 1 sz with
  | true=>some (s.length,s.map λb=>.int .u8 b.toNat,[])
  | false=>none
 | .acc b o sz' n w=>match Nat.beq sz' sz with
  | true=>match dS H b with
   | some (.cells c _ sl)=>match sl with
    | true=>some (n,afW w c o (n * sz),[])
    | false=>match w with
     | true=>match Li (frz H 5 true) c with
      | some p=>some (n,p.1,p.2)
      | none=>none
     | false=>none
   | _=>none
  | false=>none
 | _=>none
def ZF (s:AV) (sz:Nat) (H:WH):Option (Nat×List AV×WH×List Nat) :=
 match s with
 | .slice none _ 0 0 true=>some (0,[],H,[])
 | .acc b 0 sz' n w=>match Nat.beq sz' sz with
  | true=>match dS H b with
   | some (.cells c false true)=>some (n,afW w c 0 (n * sz),iU H b none,[b])
   | some (.cells c false false)=>match w with
    | true=>match Li (frz H 5 true) c with
     | some p=>match wV p.2 b with
      | false=>some (n,p.1,iU (Lj H p.2) b none,[b])
      | true=>none
     | none=>none
    | false=>none
   | _=>none
  | false=>none
 | _=>none
def Xv (c:List AV) (o:Nat) (cs:List AV):Option (List AV) :=
 if o+cs.length≤c.length then some (c.take o++cs++c.drop (o+cs.length)) else none
def gd {β:Type} (b:Bool) (x:Option β):Option β:=match b with
 | true=>x
 | false=>none
inductive Lf where
 | fin (m:Option Bool) (ts:List AV) (mc:Option Bool)
 | en (keep:List Nat) (ms bs:List (Option Bool)) (ts:List AV)
inductive Tc {R:Type}:Option R→Type 1 where
 | leaf (x:Lf) (v:R):Tc (some v)
 | xQ (x:Lf) (v:R) (Q:R→Prop) (h:Q v):Tc (some v)
 | fail:Tc none
 | bd {β:Type} {e:Option β} {f:β→Option R} (k:(x:β)→e=some x→Tc (f x)):Tc (e.bind f)
 | gd {b:Bool} {f:Option R} (k:b=true→Tc f):Tc (Proofs.YtohoggieaanllaaGreat.gd b f)
 | br (t:Nat) {b:Bool} {f g:Option R} (x:b=true→Tc f) (y:b=false→Tc g):Tc (cond b f g)
 | ite {b:Bool} {f g:Option R} (x:b=true→Tc f) (y:b=false→Tc g):Tc (cond b f g)
 | ob {P:Prop} (h:P) {f:Option R} (r:Tc f):Tc f
 | rv (t:Nat) (u:AV) {P:Prop} (h:P) {f:Option R} (r:Tc f):Tc f
 | rb (b:Nat) (c:List AV) {P:Prop} (h:P) {f:Option R} (r:Tc f):Tc f
 | v (d:Nat) (u:AV) {f:Option R} (r:Tc f):Tc f
 | z (d:Nat) (t:List AV) {f:Option R} (r:Tc f):Tc f
 | ap (d:Nat) (n:Nat) (cs:List AV) {f:Option R} (r:Tc f):Tc f
 | st (cs:Option (List AV)) {f:Option R} (r:Tc f):Tc f
 | call (ms:List (Option Bool)) (m:Option Bool) (ts:List AV) (v:AV) (out:WH) {f:Option R} (r:Tc f):Tc f
 | lp (ms:List (Option Bool)) (bs:List (Option Bool)) (ts:List AV) (ex:Ex) (outs:List (Nat×AV)) (out:WH) {f:Option R} (r:Tc f):Tc f
 | jn (keep:List Nat) (ms:List (Option Bool)) (bs:List (Option Bool)) (ts:List AV) (ex:Ex) (outs:List (Nat×AV)) (out:WH) {f:Option R} (r:Tc f):Tc f
 | sk {f:Option R} (r:Tc f):Tc f
 | cb (ms:List (Option Bool)) (ts:List AV) (v:AV) {f:Option R} (r:Tc f):Tc f
 | kl (bs:List Nat) {f:Option R} (r:Tc f):Tc f
 | er {f:Option R} (r:Tc f):Tc f
structure TS:Type 1 where
 {R:Type}
 {f:Option R}
 tr:Tc f
def claim {R:Type} (L:R→Prop) (r:R):{f:Option R}→Tc f→Prop
 | _,.leaf _ v=>L v
 | _,.xQ _ _ Q _=>Q r
 | _,.fail=>False
 | _,.bd k=>∃ x,∃ q,claim L r (k x q)
 | _,.gd k=>∃ q,claim L r (k q)
 | _,.br (b:=b) _ x y=>b=b∧((∀ h,claim L r (x h))∧(∀ h,claim L r (y h)))
 | _,.ite x y=>(∀ h,claim L r (x h))∧(∀ h,claim L r (y h))
 | _,.ob (P:=P) _ k=>P∧claim L r k
 | _,.rv _ _ (P:=P) _ k=>P∧claim L r k
 | _,.rb _ _ (P:=P) _ k=>P∧claim L r k
 | _,.v _ _ k=>claim L r k
 | _,.z _ _ k=>claim L r k
 | _,.ap _ _ _ k=>claim L r k
 | _,.st _ k=>claim L r k
 | _,.call _ _ _ _ _ k=>claim L r k
 | _,.lp _ _ _ _ _ _ k=>claim L r k
 | _,.jn _ _ _ _ _ _ _ k=>claim L r k
 | _,.sk k=>claim L r k
 | _,.cb _ _ _ k=>claim L r k
 | _,.kl _ k=>claim L r k
 | _,.er k=>claim L r k
theorem je {R:Type} {L:R→Prop} {r:R} (hL:L r):∀ {f:Option R} (T:Tc f),f=some r→claim L r T
 | _,.leaf _ v,h=>by
  obtain rfl:=Option.some.inj h
  exact hL
 | _,.xQ _ _ Q q,h=>by
  obtain rfl:=Option.some.inj h
  exact q
 | _,.fail,h=>by cases h
 | _,.bd (e:=e) k,h=>by
  have hx:∃ x,e=some x:=by
   cases e with
   | none=>cases h
   | some x=>exact ⟨x,rfl⟩
  obtain ⟨x,he⟩:=hx
  exact ⟨x,he,je hL (k x he) (by rw [he] at h;exact h)⟩
 | _,.gd (b:=b) k,h=>by
  have hb:b=true:=by
   cases b with
   | false=>cases h
   | true=>rfl
  exact ⟨hb,je hL (k hb) (by rw [hb] at h;exact h)⟩
 | _,.br (b:=b) _ x y,h=>⟨rfl,λq=>je hL (x q) (by rw [q] at h;exact h),λq=>je hL (y q) (by rw [q] at h;exact h)⟩
 | _,.ite x y,h=>⟨λq=>je hL (x q) (by rw [q] at h;exact h),λq=>je hL (y q) (by rw [q] at h;exact h)⟩
 | _,.ob p k,h=>⟨p,je hL k h⟩
 | _,.rv _ _ p k,h=>⟨p,je hL k h⟩
 | _,.rb _ _ p k,h=>⟨p,je hL k h⟩
 | _,.v _ _ k,h=>je hL k h
 | _,.z _ _ k,h=>je hL k h
 | _,.ap _ _ _ k,h=>je hL k h
 | _,.st _ k,h=>je hL k h
 | _,.call _ _ _ _ _ k,h=>je hL k h
 | _,.lp _ _ _ _ _ _ k,h=>je hL k h
 | _,.jn _ _ _ _ _ _ _ k,h=>je hL k h
 | _,.sk k,h=>je hL k h
 | _,.cb _ _ _ k,h=>je hL k h
 | _,.kl _ k,h=>je hL k h
 | _,.er k,h=>je hL k h
def need (Q:Prop) (k:TS→Prop):TS→Prop
 | ⟨.ob _ r⟩=>Q∧k ⟨r⟩
 | _=>False
def aej (k:Fast→WH→TS→Prop) {R:Type}:{f:Option R}→Tc f→Fast→WH→Prop
 | _,.bd kk,l,H=>∃ x,∃ q,aej k (kk x q) l H
 | _,.gd kk,l,H=>∃ q,aej k (kk q) l H
 | _,.ite x y,l,H=>(∀ h,aej k (x h) l H)∧(∀ h,aej k (y h) l H)
 | _,.rv t u _ r,l,H=>look l t=u∧aej k r ((t,u)::l) H
 | _,.rb b c _ r,l,H=>match dS H b with
  | some (.cells c0 ro sl)=>c0=c∧aej k r l (iU H b (some (.cells c ro sl)))
  | _=>False
 | _,t,l,H=>k l H ⟨t⟩
def aq3:TS→TS
 | ⟨.kl _ r⟩=>⟨r⟩
 | tr=>tr
def afY (H:WH):List Nat→WH
 | []=>H
 | b::r=>afY (iU H b none) r
def wkl:TS→WH→WH
 | ⟨.kl bs _⟩,H=>afY H bs
 | _,H=>H
def ayb (tr:TS):Bool:=match aq3 tr with
 | ⟨.jn ..⟩=>true
 | _=>false
def isD (d:Option Nat) (k:Nat):Bool:=match d with
 | some d=>Nat.beq d k
 | none=>false
def ovr (d:Option Nat) (x:Option AV) (tr:TS) (k:AV→TS→Prop):Prop :=
 match tr with
 | ⟨.v d' u r⟩=>match isD d d' with
  | true=>need (x=some u) (k u) ⟨r⟩
  | false=>match x with
   | some v=>k v tr
   | none=>False
 | ⟨.z d' t r⟩=>match isD d d' with
  | true=>match x with
   | some v=>k (retag v (t.headD .undef)) ⟨r⟩
   | none=>False
  | false=>match x with
   | some v=>k v tr
   | none=>False
 | _=>match x with
  | some v=>k v tr
  | none=>False
def ak8 (d:Option Nat) (n:Nat) (cs:List AV) (tr:TS) (k:Nat→List AV→TS→Prop):Prop :=
 match tr with
 | ⟨.ap d' n' cs' r⟩=>match isD d d' with
  | true=>need (n=n') (need (cs=cs') (k n' cs')) ⟨r⟩
  | false=>k n cs tr
 | _=>k n cs tr
def wMk (l c:AV) (n bytes:Nat):Prop:=l=.int .i64 n∧c=.int .i64 n∧n≤4611686018427387904∧bytes * n≤281474976710656
def wK (d:Option Nat) (o:Ng) (tr:TS) (k:nT→(Nat→AV)→TS→Prop):Prop :=
 match o with
 | .alloc zero=>match tr with
  | ⟨.z d' t r⟩=>match isD d d' with
   | true=>k (.cells (uK zero t) false false) (λb=>.ptr (some (b,0))) ⟨r⟩
   | false=>k (.cells zero false false) (λb=>.ptr (some (b,0))) tr
  | _=>k (.cells zero false false) (λb=>.ptr (some (b,0))) tr
 | .box x=>match (x.ev []).cells? with
  | some cs=>k (.cells cs false false) (λb=>.ptr (some (b,0))) tr
  | none=>False
 | .buildSlice sz len zero parts=>match uU (kN len zero) (parts.map λp=>(p.1 * sz,sz,p.2.ev [])) with
  | some cs=>match Nat.beq zero.length sz with
   | true=>k (.cells cs false false) (λb=>.acc b 0 sz len true) tr
   | false=>False
  | none=>False
 | .makeSlice sz bytes zero l c=>match tr with
  | ⟨.ap d' n cs r⟩=>match isD d d' with
   | true=>match Nat.beq zero.length sz,zero.all AV.flat with
    | true,true=>need (wMk (l.ev []) (c.ev []) n bytes) (need (kN n zero=cs) (k (.cells cs false true) (λb=>.acc b 0 sz n true))) ⟨r⟩
    | _,_=>False
   | false=>False
  | _=>False
 | .rG x=>match x.ev [] with
  | .str s=>need (s.length≤70368744177664) (k (.cells (s.map λb=>.int .u8 b.toNat) false true) (λb=>.acc b 0 1 s.length true)) tr
  | _=>False
 | .makeMap=>False
structure VI where
 to:Nat→Option Nat
 VH:Nat→Bool
 gone:Nat→Bool
 dim:Nat→Option (Nat×Nat)
instance:CoeFun VI (λ_=>Nat→Option Nat):=⟨VI.to⟩
def VI.none:VI:=⟨λ_=>Option.none,λ_=>false,λ_=>false,λ_=>Option.none⟩
mutual
def VL (M:Heap) (O:Nat→Prop):VI→AV→AV→Prop
 | _,.undef,_=>True
 | _,.bool b,a=>a=.bool b
 | _,.int k n,a=>a=.int k n
 | _,.str s,a=>a=.str s
 | _,.ptr none,a=>a=.ptr none
 | κ,.ptr (some q),a=>∃ j,κ q.1=some j∧a=.ptr (some (j,q.2))
 | _,.slice none _ len cap ex,a=>(len=0∧cap=0∧ex=true)∧∃ s',a=.slice none s' 0 0 true
 | _,.slice (some _) _ _ _ _,_=>False
 | _,.map none,a=>a=.map none
 | κ,.map (some r),a=>∃ j,κ r=some j∧a=.map (some j)
 | κ,.func f cs,a=>∃ cs',a=.func f cs'∧bZ M O κ cs cs'
 | _,.nilFunc,a=>a=.nilFunc
 | κ,.agg cs,a=>∃ cs',a=.agg cs'∧bZ M O κ cs cs'
 | κ,.tuple cs,a=>∃ cs',a=.tuple cs'∧bZ M O κ cs cs'
 | _,.list sz len cs ex,a=>(len=0∧cs=[]∧∃ s',a=.slice none s' 0 0 true)∨∃ b o cap ex',a=.slice (some (b,o)) sz len cap ex'∧len≤cap∧(ex=true→ex'=true∧cap=len)∧cs.length=len * sz ∧
   (len≠0→∃ c ro sl,M.get b=some (.cells c ro sl)∧¬ O b∧b < M.next∧o+len * sz≤c.length∧bZ M O VI.none cs ((c.drop o).take (len * sz)))
 | _,.elem cs,a=>∃ b o c ro sl,a=.ptr (some (b,o))∧M.get b=some (.cells c ro sl)∧¬ O b∧b < M.next∧bZ M O VI.none cs ((c.drop o).take cs.length)
 | κ,.acc b o sz n w,a=>∃ p s' cap ex,a=.slice p s' n cap ex∧n≤cap∧(p=none→cap=0∧ex=true)∧(p≠none→s'=sz)∧∃ m L,κ.dim b=some (m,L)∧o+n * sz≤m∧(w=true→o=0∧n * sz=m) ∧
   ((∃ j,κ b=some j∧((p=some (j,o)∧o+cap * sz≤L)∨(n=0∧cap=0∧ex=true)))∨(κ.VH b=true∧n=0∧cap=0∧ex=true∧m=0))
def bZ (M:Heap) (O:Nat→Prop):VI→List AV→List AV→Prop
 | _,[],[]=>True
 | κ,a::l,v::r=>VL M O κ a v∧bZ M O κ l r
 | _,_,_=>False
end
def own (ι:VI):Nat→Prop:=λj=>∃ i,ι i=some j∧ι.gone i=false
def OR (R:Nat→Prop) (ι:VI):Nat→Prop:=λj=>own ι j∨R j
def Heap.Ok (M:Heap):Prop:=∀ b,M.next≤b→M.get b=none
def BL (M:Heap) (O:Nat→Prop) (κ:VI) (d:Option (Nat×Nat)):nT→Option nT→Prop
 | .cells c ro sl,x=>∃ c' t ro' sl' L,x=some (.cells (c'++t) ro' sl')∧(ro=false→ro'=false)∧d=some (c.length,L)∧L≤(c'++t).length∧bZ M O (if sl then VI.none else κ) c c'∧(sl=false→sl'=false)
 | .map _,_=>False
def nT.ro:nT→Bool
 | .cells _ ro _=>ro
 | .map _=>false
def act (ι:VI) (H:WH) (i:Nat):Prop:=(∃ x,dS H i=some x)∨ι.gone i=false
structure VS (R:Nat→Prop) (ι:VI) (H:WH) (M:Heap):Prop where
 lt:∀ i j,ι i=some j→i < H.length∧j < M.next
 inj:∀ i i' j,act ι H i→act ι H i'→ι i=some j→ι i'=some j→ι.gone i=false∨ι.gone i'=false→i=i'
 blk:∀ i x,dS H i=some x→(ι.VH i=true∧ι.dim i=some (0,0)∧∃ ro,x=.cells [] ro true)∨∃ j,ι i=some j∧BL M (OR R ι) ι (ι.dim i) x (M.get j)∧(x.ro=false→ι.gone i=false)
 Dw:∀ i,ι.VH i=true→i < H.length∧ι i=none
 Dc:∀ i,ι.gone i=true→∀ c sl,dS H i≠some (.cells c false sl)
 okM:M.Ok
 res:∀ j,R j→j < M.next∧∀ i,act ι H i→ι i≠some j
structure Keeps (M:Heap) (O:Nat→Prop) (M':Heap) (O':Nat→Prop):Prop where
 next:M.next≤M'.next
 get:∀ b,b < M.next→¬ O b→M'.get b=M.get b∧¬ O' b
def VI.Le (κ y7:VI) (S:Nat→Prop):Prop:=∀ i,S i→(∀ j,κ i=some j→y7 i=some j∧∀ d,κ.dim i=some d→y7.dim i=some d)∧(κ.VH i=true→y7.VH i=true∧∀ d,κ.dim i=some d→y7.dim i=some d)
structure Stp (n:Nat) (t:List Nat) (ι:VI) (H:WH) (M:Heap) (bP:VI) (H':WH) (M':Heap):Prop where
 keep:Keeps M (own ι) M' (own bP)
 le:VI.Le ι bP (λi=>i < n)
 gone:∀ i,i < n→ι.gone i=true→bP.gone i=true
 toq:∀ i,i < n→bP i=ι i
 aik:∀ i,i < n→bP.dim i=ι.dim i
 acY:∀ i,i < n→dS H i=none→bP.gone i=ι.gone i
 live:∀ i,i < n→(∃ x,dS H' i=some x)→∃ x,dS H i=some x
 tch:∀ i j,i < n→act bP H' i→ι i=some j→i ∉ t→M'.get j=M.get j
 next:n≤H'.length
def Spec (C:bU) (f:FuncId) (args:List AV) (blks:WH) (v:AV) (out:WH):Prop :=
 ∀ R ι M as,VS R ι blks M→bZ M (OR R ι) ι args as→∃ a M' bP,C f as M=some (a,M')∧VS R bP out M'∧Stp blks.length (List.range blks.length) ι blks M bP out M'∧VL M' (OR R bP) bP v a
def ail (run:Fast→Heap→X6) (np:Nat) (ins:Fast) (blks:WH) (ex:Ex) (outs:Fast) (out:WH):Prop :=
 ∀ R ι M lA,VS R ι blks M→(∀ t,VL M (OR R ι) ι (look ins t) (look lA t))→∃ zo M' bP,run lA M=some (ex,zo,M')∧VS R bP out M'∧Stp np (List.range np) ι blks M bP out M'∧∀ t,VL M' (OR R bP) bP (look outs t) (look zo t)
inductive Bt where
 | clone (sz bytes:Nat)
 | clip (sz:Nat)
 | grow (sz bytes:Nat)
 | ins (sz bytes:Nat)
 | del (sz:Nat)
def wBt (b:Bt) (d:Option Nat) (args:List AV) (H:WH) (tr:TS) (k:AV→WH→List Nat→TS→Prop):Prop :=
 match b with
 | .clone sz bytes=>match args with
  | [v]=>match v with
   | .str _=>False
   | v=>match NT v sz H with
    | some (n,cs,S)=>ak8 d n cs tr λn cs tr=>need (dx bytes n=true) (k (.acc H.length 0 sz n true) (Lj H S++[some (.cells cs false true)]) []) tr
    | none=>False
  | _=>False
 | .grow sz bytes=>match args with
  | [.slice none _ 0 0 true,.int .i64 n]=>need (0≤n∧n≤70368744177664∧bytes * n.toNat≤281474976710656∧n.toNat * bytes≤70368744177664) (k (.acc H.length 0 sz 0 true) (H++[some (.cells [] false true)]) []) tr
  | _=>False
 | .clip sz=>match args with
  | [.slice none z 0 0 true]=>k (.slice none sz 0 0 true) H [] tr
  | [.list sz' n cs _]=>match Nat.beq sz' sz with
   | true=>k (.list sz n cs true) H [] tr
   | false=>False
  | [.acc b o sz' n w]=>match Nat.beq sz' sz with
   | true=>k (.acc b o sz n w) H [] tr
   | false=>False
  | _=>False
 | .ins sz bytes=>match args with
  | [.acc b o sz1 n w,.int .i64 i,.acc b2 o2 sz2 m w2]=>match Nat.beq b b2 with
   | true=>False
   | false=>match dS H b2 with
    | some (.cells _ false false)=>match NT (.acc b2 o2 sz2 m w2) sz H with
     | some (m,new,[])=>match Nat.beq m 1 with
      | true=>match ZF (.acc b o sz1 n w) sz H with
       | some (len,old,H',t)=>need (0≤i∧i≤(len:Int)) (λtr=>ak8 d (len+1) (old.take (i.toNat * sz)++(new++old.drop (i.toNat * sz))) tr λN cs tr=>need (dx bytes N=true) (k (.acc H'.length 0 sz N true) (H'++[some (.cells cs false true)]) t) tr) tr
       | none=>False
      | false=>False
     | _=>False
    | _=>False
  | _=>False
 | .del sz=>match args with
  | [.acc b 0 sz1 n true,.int .i64 i,.int .i64 j]=>match Nat.beq sz1 sz with
   | true=>match dS H b with
    | some (.cells c false true)=>need (0≤i∧i < j∧j≤(n:Int)) (λtr=>ak8 d (n - (j.toNat - i.toNat)) (c.take (i.toNat * sz)++c.drop (j.toNat * sz)) tr λN cs tr=>k (.acc H.length 0 sz N true) (iU H b none++[some (.cells cs false true)]) [b] tr) tr
    | _=>False
   | false=>False
  | _=>False
def jG:List Nat→List AV→Fast
 | t::r,v::s=>(t,v)::jG r s
 | _,_=>[]
def ZG (np:Nat) (ms bs:List (Option Bool)) (ts:List AV) (vs:List AV) (H:WH) (k:List AV→WH→Prop):Prop :=
 match TB ms (uK vs ts) H with
 | (vs,H)=>match Xu bs none (VG H np (qW vs)) H with
  | H=>match VG H np (qW vs) with
   | p=>k (rnL (Dv p) vs) (Au H p p)
mutual
def vM:AV→Bool
 | .bool _ | .int .. | .str _ | .ptr none | .nilFunc=>true
 | .slice none _ 0 0 true=>true
 | .tuple cs=>afZ cs
 | .agg cs=>afZ cs
 | _=>false
def afZ:List AV→Bool
 | []=>true
 | v::r=>match vM v with
  | true=>afZ r
  | false=>false
end
def amT (C:bU) (g:FuncId) (args:List AV) (H:WH) (tr:TS) (k:AV→WH→List Nat→TS→Prop):Prop :=
 match tr with
 | ⟨.call ms m ts v out r⟩=>match TB ms (uK args ts) H with
  | (vs,H)=>match Xu [] m (VG H 0 (qW vs)) H with
   | H=>match VG H 0 (qW vs) with
    | p=>match Nat.ble p.length out.length with
     | true=>need (Spec C g (rnL (Dv p) vs) (Au H p p) v out) (k (rn (back p H.length) v) (TA H p out) p) ⟨r⟩
     | false=>False
 | ⟨.cb ms ts v r⟩=>match TB ms (uK args ts) H with
  | (vs,H1)=>match VG H1 0 (qW vs),vM v with
   | [],true=>need (Spec C g (rnL (Dv []) vs) [] v []) (k v H []) ⟨r⟩
   | _,_=>False
 | _=>False
def wN (C:bU) (B:FuncId→Option Bt) (d:Option Nat) (o:Hw) (H:WH) (tr:TS) (k:AV→WH→List Nat→TS→Prop):Prop :=
 match o with
 | .store n a v=>match a.ev [],(v.ev []).cells? with
  | .ptr (some (b,off)),some cs=>match Nat.beq cs.length n with
   | true=>match tr with
    | ⟨.st x r⟩=>match dS H b with
     | some (.cells c false sl)=>match sl with
      | false=>match x with
       | none=>match Xv c off cs with
        | some c'=>k (.tuple []) (iU H b (some (.cells c' false false))) [b] ⟨r⟩
        | none=>False
       | some c'=>need (Xv c off cs=some c') (k (.tuple []) (iU H b (some (.cells c' false false))) [b]) ⟨r⟩
      | true=>match Li (frz H 5 true) cs with
       | some p=>match wV p.2 b with
        | true=>False
        | false=>match x with
         | none=>match Xv c off p.1 with
          | some c'=>k (.tuple []) (iU (Lj H p.2) b (some (.cells c' false true))) [b] ⟨r⟩
          | none=>False
         | some c'=>need (Xv c off p.1=some c') (k (.tuple []) (iU (Lj H p.2) b (some (.cells c' false true))) [b]) ⟨r⟩
       | none=>False
     | _=>False
    | _=>False
   | false=>False
  | _,_=>False
 | .call f args=>match f.ev [] with
  | .func g caps=>match B g with
   | some bt=>wBt bt d (args.map (AX.ev [])++caps) H tr k
   | none=>amT C g (args.map (AX.ev [])++caps) H tr k
  | _=>False
 | .append sz bytes s x=>match NT (x.ev []) sz H with
  | some (m,new,S)=>match ZF (s.ev []) sz (Lj H S) with
   | some (len,old,H',t)=>ak8 d (len+m) (old++new) tr λn cs tr=>need (dx bytes n=true) (k (.acc H'.length 0 sz n true) (H'++[some (.cells cs false true)]) t) tr
   | none=>False
  | none=>False
 | .yZ x=>match x.ev [] with
  | .acc b 0 sz (n+1) true=>match dS H b with
   | some (.cells c false sl)=>match sl || c.all AV.flat with
    | true=>k (.acc b 0 sz (n+1) true) (iU H b (some (.cells c false true))) [b] tr
    | false=>False
   | _=>False
  | _=>False
 | _=>False
def wIf (c want:Bool) (y n:Prop):Prop :=
 match c,want with
 | true,true=>y
 | false,false=>y
 | _,_=>n
def wGd (g:Option (Nat×Bool)) (l:Fast) (tr:TS) (yes no:Fast→TS→Prop):Prop :=
 match g with
 | none=>yes l tr
 | some (t,want)=>match look l t with
  | .bool c=>match tr with
   | ⟨.br (b:=b) t' x y⟩=>match Nat.beq t t' with
    | true=>c=b∧((∀ h,wIf true want (yes ((t,.bool true)::l) ⟨x h⟩) (no ((t,.bool true)::l) ⟨x h⟩))∧(∀ h,wIf false want (yes ((t,.bool false)::l) ⟨y h⟩) (no ((t,.bool false)::l) ⟨y h⟩)))
    | false=>wIf c want (yes l tr) (no l tr)
   | _=>wIf c want (yes l tr) (no l tr)
  | .tuple _=>no l tr
  | _=>False
def Q0 (l:Fast) (H:WH) (tr:TS) (k:Fast→WH→TS→Prop):Prop:=aej k tr.tr l H
def af0 (C:bU) (B:FuncId→Option Bt) (n:Nat):List xP→Fast→WH→TS→(Fast→WH→TS→Prop)→Prop
 | [],l,H,tr,k=>k l H tr
 | o::r,l,H,tr,k=>Q0 l H tr λl H tr=>wGd o.guard l tr
  (λl tr=>Q0 l H tr λl H tr=>match o.op with
   | .p op=>ovr o.dst (wP (op.sub (look l))) tr λv tr=>af0 C B n r (pW n o.dst v l) H tr k
   | .l op=>ovr o.dst (wL (op.sub (look l)) H) tr λv tr=>af0 C B n r (pW n o.dst v l) H tr k
   | .k op=>wK o.dst (op.sub (look l)) tr λx mk tr=>af0 C B n r (pW n o.dst (mk H.length) l) (H++[some x]) tr k
   | .n op=>wN C B o.dst (op.sub (look l)) H tr λv H _ tr=>af0 C B n r (pW n o.dst v l) H tr k)
  (λl tr=>af0 C B n r (pW n o.dst (.tuple []) l) H tr k)
def sO:List (Nat×Nat)→Nat→Nat
 | [],_=>0
 | p::r,t=>match Nat.beq p.1 t with
  | true=>p.2
  | false=>sO r t
def rP (bt:List (Nat×Nat)):AX→Nat
 | .t t=>sO bt t
 | .c _=>0
def aek (bt:List (Nat×Nat)):Option AX→Nat
 | none=>0
 | some x=>rP bt x
def af2 (bt:List (Nat×Nat)) (k:Nat):nU→Nat
 | .move x=>rP bt x
 | .slice _ x a b c=>max (rP bt x) (max (aek bt a) (max (aek bt b) (aek bt c)))
 | .lZ _ x i=>max (rP bt x) (rP bt i)
 | .xZ _ _ x i=>max (rP bt x) (rP bt i)
 | .fieldAddr _ x=>rP bt x
 | .nilCheck x=>rP bt x
 | .bin _ x y=>max (rP bt x) (rP bt y)
 | .un _ x=>rP bt x
 | .Mt _ x=>rP bt x
 | .field _ _ _ x=>rP bt x
 | .index _ _ _ x i=>max (rP bt x) (rP bt i)
 | .extract x _=>rP bt x
 | .len _ x=>rP bt x
 | _=>k
def qC (n:Nat) (d:Option Nat) (k:Nat) (bt:List (Nat×Nat)):List (Nat×Nat) :=
 match d with
 | some d=>match Nat.blt d n with
  | true=>(d,k)::bt
  | false=>bt
 | none=>bt
mutual
def known:AV→Bool
 | .undef=>false
 | .func _ cs=>VJ cs
 | .agg cs=>VJ cs
 | .tuple cs=>VJ cs
 | _=>true
def VJ:List AV→Bool
 | []=>true
 | v::r=>match known v with
  | true=>VJ r
  | false=>false
end
def af3 (l:Fast):Cu→Option (Option Nat)
 | .load _ _ (.t t)=>match look l t with
  | .elem _=>some none
  | .ptr (some q)=>some (some q.1)
  | _=>none
 | .mV (.t t)=>match look l t with
  | .list ..=>some none
  | .slice none _ _ _ _=>some none
  | .acc b _ _ _ _=>some (some b)
  | _=>none
 | _=>none
def NU (bt:List (Nat×Nat)):Cu→Nat
 | .load _ _ x=>rP bt x
 | .mV x=>rP bt x
 | _=>0
def Jh (H:WH) (base:Nat):List Nat→Bool
 | []=>true
 | m::r=>match dS H (base+m) with
  | some (.cells _ false _)=>Jh H base r
  | _=>false
def touches (b:Nat):List (List Nat×WH)→Bool
 | []=>false
 | t::r=>match wV t.1 b with
  | true=>true
  | false=>touches b r
def NV (hs:List (List Nat×WH)) (lo base:Nat) (al:List Nat):Bool:=match hs.drop lo with
 | (_,Hk)::_=>Jh Hk base al
 | []=>false
def ZH (base:Nat) (al:List Nat) (l:Fast) (bt:List (Nat×Nat)) (lo:Nat) (o:Cu) (v:AV) (H:WH) (hs:List (List Nat×WH)):Bool :=
 match af3 l o with
 | some none=>match Nat.ble (NU bt o) (lo+1),known v,Jh H base al || NV hs lo base al with
  | true,true,true=>true
  | true,true,false=>Nat.beq (NU bt o) 0
  | _,_,_=>false
 | some (some b)=>match known v,Nat.blt b base,touches b (hs.drop lo) with
  | true,true,false=>true
  | _,_,_=>false
 | none=>false
def NW (base:Nat) (l:Fast) (bt:List (Nat×Nat)) (lo:Nat) (o:Cu) (v:AV):Bool :=
 match o with
 | .load _ _ (.t t)=>match look l t,v with
  | .ptr (some (b,_)),.int _ _=>Nat.blt b base&&Nat.ble (sO bt t) (lo+1)
  | .ptr (some (b,_)),.str _=>Nat.blt b base&&Nat.ble (sO bt t) (lo+1)
  | .ptr (some (b,_)),.bool _=>Nat.blt b base&&Nat.ble (sO bt t) (lo+1)
  | _,_=>false
 | _=>false
def TD (o:Cu) (x:Option AV) (k:TS→Prop):List (List Nat×WH)→TS→Prop
 | [],tr=>k tr
 | h::r,tr=>need (wL o h.2=x) (TD o x k r) tr
def amU (l:Fast):Cu→Option Nat
 | .load _ _ (.t t)=>match look l t with
  | .ptr (some q)=>some q.1
  | _=>none
 | _=>none
def J4 (C:bU) (B:FuncId→Option Bt) (n base nk:Nat):List gD→Fast→WH→TS→List (List Nat×WH)→List (Nat×Nat)→List Nat→(Fast→WH→TS→Prop)→Prop
 | [],l,H,tr,_,_,_,k=>k l H tr
 | d::r,l,H,tr,hs,bt,al,k=>Q0 l H tr λl H tr=>wGd d.o.guard l tr
  (λl tr=>Q0 l H tr λl H tr=>match d.o.op with
   | .p op=>ovr d.o.dst (wP (op.sub (look l))) tr λv tr=>J4 C B n base nk r (pW n d.o.dst v l) H tr hs (qC n d.o.dst (af2 bt (hs.length+1) op) bt) al k
   | .l op=>ovr d.o.dst (wL (op.sub (look l)) H) tr λv tr=>match ZH base al l bt d.lo op v H hs with
    | true=>match tr with
     | ⟨.er t⟩=>match amU l op,Nat.ble (NU bt op) (d.lo+1) with
      | some _,true=>TD (op.sub (look l)) (wL (op.sub (look l)) H) (λtr=>J4 C B n base nk r (pW n d.o.dst v l) H tr hs (qC n d.o.dst (d.lo+1) bt) al k) (hs.drop d.lo) ⟨t⟩
      | _,_=>False
     | _=>J4 C B n base nk r (pW n d.o.dst v l) H tr hs (qC n d.o.dst (hs.length+1) bt) al k
    | false=>match NW base l bt d.lo op v with
     | true=>TD (op.sub (look l)) (wL (op.sub (look l)) H) (λtr=>J4 C B n base nk r (pW n d.o.dst v l) H tr hs (qC n d.o.dst (hs.length+1) bt) al k) (hs.drop d.lo) tr
     | false=>False
   | .k op=>match Nat.blt d.ix nk,wV al d.ix with
    | true,false=>wK d.o.dst (op.sub (look l)) tr λx mk tr=>J4 C B n base nk r (pW n d.o.dst (mk (base+d.ix)) l) (iU H (base+d.ix) (some x)) tr hs (qC n d.o.dst (hs.length+1) bt) (d.ix::al) k
    | _,_=>False
   | .n op=>wN C B d.o.dst (op.sub (look l)) H tr λv H' t tr=>J4 C B n base nk r (pW n d.o.dst v l) H' tr (hs++[(t,H)]) (qC n d.o.dst (hs.length+2) bt) al k)
  (λl tr=>match d.o.op with
   | .n _=>J4 C B n base nk r (pW n d.o.dst (.tuple []) l) H tr (hs++[([],H)]) (qC n d.o.dst (hs.length+2) bt) al k
   | _=>J4 C B n base nk r (pW n d.o.dst (.tuple []) l) H tr hs (qC n d.o.dst (hs.length+1) bt) al k)
def holes:Nat→WH
 | 0=>[]
 | k+1=>none::holes k
def EO (C:bU) (B:FuncId→Option Bt) (K n np:Nat):bI→Fast→WH→TS→(Ex→Fast→WH→TS→Prop)→Prop
 | .skip,l,H,tr,k=>k .normal l H tr
 | .reg ops,l,H,tr,k=>af0 C B n ops l H tr (k .normal)
 | .X3 nk ops,l,H,tr,k=>J4 C B n H.length nk ops l (H++holes nk) tr [] [] [] (k .normal)
 | .seq a b,l,H,tr,k=>Q0 l H tr λl H tr=>match ayb tr with
  | true=>match aq3 tr with
   | ⟨.jn keep ms bs ts ex outs out r⟩=>ZG np ms bs ts (keep.map (look l)) (wkl tr H) λvs blks=>need (ail (aV C K n a) np (jG keep vs) blks ex outs out) (λr =>
    match ex with
    | .normal=>EO C B K n np b outs out r k
    | ex=>k ex outs out r) ⟨r⟩
   | _=>False
  | false=>EO C B K n np a l H (match tr with
   | ⟨.sk r⟩=>⟨r⟩
   | tr=>tr) λex l H tr=>match ex with
   | .normal=>EO C B K n np b l H tr k
   | ex=>k ex l H tr
 | .cond c a b,l,H,tr,k=>Q0 l H tr λl H tr=>wGd (match c with
   | .t t=>some (t,true)
   | .c _=>none) l tr
  (λl tr=>match c with
   | .t _=>EO C B K n np a l H tr k
   | .c (.bool true)=>EO C B K n np a l H tr k
   | .c (.bool false)=>EO C B K n np b l H tr k
   | _=>False)
  (λl tr=>match look l (match c with
   | .t t=>t
   | .c _=>0) with
   | .bool _=>EO C B K n np b l H tr k
   | _=>False)
 | .block id c,l,H,tr,k=>EO C B K n np c l H tr λex l H tr=>match ex with
  | .exit i=>match Nat.beq i id with
   | true=>k .normal l H tr
   | false=>k (.exit i) l H tr
  | ex=>k ex l H tr
 | .loop keep c,l,H,tr,k=>Q0 l H tr λl H tr=>match aq3 tr with
  | ⟨.lp ms bs ts ex outs out r⟩=>ZG np ms bs ts (keep.map (look l)) (wkl tr H) λvs blks=>need (ail (eY (aV C K n c) keep K) np (jG keep vs) blks ex outs out) (k ex outs out) ⟨r⟩
  | _=>False
 | .exit id,l,H,tr,k=>k (.exit id) l H tr
 | .ret,l,H,tr,k=>k .ret l H tr
 | .fail,_,_,_,_=>False
def aq4 (r:JW) (l:Fast) (H:WH):Option AV :=
 match r with
 | .tmp t=>match look l t with
  | .undef=>none
  | v=>some v
 | .cell t agg n=>wL (.load agg n (.c (look l t))) H
def af4:List JW→Fast→WH→Option (List AV)
 | [],_,_=>some []
 | r::rs,l,H=>match aq4 r l H,af4 rs l H with
  | some v,some vs=>some (v::vs)
  | _,_=>none
def TF (rs:List JW) (l:Fast) (H:WH):Option AV:=match af4 rs l H with
 | some [v]=>some v
 | some vs=>some (.tuple vs)
 | none=>none
def awJ (tr:TS):Option Lf:=match aq3 tr with
 | ⟨.leaf x _⟩=>some x
 | ⟨.xQ x _ _ _⟩=>some x
 | _=>none
def aq5 (np:Nat) (v:AV) (H:WH) (tr:TS) (v':AV) (out:WH):Prop :=
 match awJ tr with
 | some (.fin m ts mc)=>match nrm m (retag v (ts.headD .undef)) (wkl tr H) with
  | (v,H)=>match Xu [] mc (VG H np (Du v)) H with
   | H=>match VG H np (Du v) with
    | p=>rn (Dv p) v=v'∧Au H p p=out
 | _=>False
def auN (C:bU) (B:FuncId→Option Bt) (K:Nat) (f:bF) (args:List AV) (blks:WH) (tr:TS) (v:AV) (out:WH):Prop :=
 EO C B K f.ntmps blks.length f.code (start 0 (args++List.replicate (f.ntmps - f.nargs) (.tuple []))) blks tr λex l H tr=>Q0 l H tr λl H tr=>match ex with
  | .exit _=>False
  | _=>match TF f.results l H with
   | some u=>aq5 blks.length u H tr v out
   | none=>False
def auO (np:Nat) (e:Ex) (l:Fast) (H:WH) (tr:TS) (x:Ex×Fast×WH):Prop :=
 Q0 l H tr λl H tr=>match awJ tr with
 | some (.en keep ms bs ts)=>ZG np ms bs ts (keep.map (look l)) (wkl tr H) λvs blks=>e=x.1∧jG keep vs=x.2.1∧blks=x.2.2
 | _=>False
def auP (C:bU) (B:FuncId→Option Bt) (K n np:Nat) (c:bI) (ins:Fast) (blks:WH) (tr:TS) (x:Ex×Fast×WH):Prop :=
 EO C B K n np c ins blks tr λe l H tr=>auO np e l H tr x
theorem oU {Q:Prop} {k:TS→Prop} {tr:TS} (h:need Q k tr):∃ mo,Q∧k mo:=by
 unfold need at h
 split at h
 ·exact ⟨_,h⟩
 ·exact h.elim
end Go.Proofs.YtohoggieaanllaaGreat
end
section
set_option linter.all false
set_option linter.unusedSimpArgs false
namespace Go.Proofs.YtohoggieaanllaaGreat
theorem VI.Le.refl (κ:VI) (S:Nat→Prop):VI.Le κ κ S:=λ_ _=>⟨λ_ h=>⟨h,λ_ h=>h⟩,λh=>⟨h,λ_ h=>h⟩⟩
theorem VI.Le.akn (κ:VI) (S:Nat→Prop):VI.Le VI.none κ S:=λ_ _=>⟨(λ_ h=>by cases h),(λh=>by cases h)⟩
theorem VI.Le.sub {κ y7:VI} {S T:Nat→Prop} (h:VI.Le κ y7 S) (k:∀ i,T i→S i):VI.Le κ y7 T:=λi hi=>h i (k i hi)
theorem VI.Le.trans {κ κ1 κ2:VI} {S:Nat→Prop} (h:VI.Le κ κ1 S) (k:VI.Le κ1 κ2 S):VI.Le κ κ2 S:=λi hi =>
 ⟨λj hj=>⟨((k i hi).1 j ((h i hi).1 j hj).1).1,λd hd=>((k i hi).1 j ((h i hi).1 j hj).1).2 d (((h i hi).1 j hj).2 d hd)⟩,
  λhj=>⟨((k i hi).2 ((h i hi).2 hj).1).1,λd hd=>((k i hi).2 ((h i hi).2 hj).1).2 d (((h i hi).2 hj).2 d hd)⟩⟩
theorem Keeps.refl (M:Heap) (O:Nat→Prop):Keeps M O M O:=⟨Nat.le_refl _,λ_ _ h=>⟨rfl,h⟩⟩
theorem Keeps.trans {M M1 M2:Heap} {O O1 O2:Nat→Prop} (h:Keeps M O M1 O1) (k:Keeps M1 O1 M2 O2):Keeps M O M2 O2 :=
 ⟨Nat.le_trans h.next k.next,λb hb ho=>by
  obtain ⟨e1,o1⟩:=h.get b hb ho
  obtain ⟨e2,o2⟩:=k.get b (Nat.lt_of_lt_of_le hb h.next) o1
  exact ⟨e2.trans e1,o2⟩⟩
theorem Keeps.or {M M':Heap} {ι bP:VI} (h:Keeps M (own ι) M' (own bP)) (R:Nat→Prop):Keeps M (OR R ι) M' (OR R bP) :=
 ⟨h.next,λb hb ho=>by
  obtain ⟨e1,e2⟩:=h.get b hb (λk=>ho (.inl k))
  exact ⟨e1,λk=>k.elim e2 (λk=>ho (.inr k))⟩⟩
mutual
theorem VL.mono {M M':Heap} {O O':Nat→Prop} (hk:Keeps M O M' O'):∀ (κ y7:VI) (v a:AV),VI.Le κ y7 (λi=>i∈Du v)→VL M O κ v a→VL M' O' y7 v a
 | _,_,.undef,_,_,_=>by simp [VL]
 | _,_,.bool _,_,_,e=>by simpa [VL] using e
 | _,_,.int _ _,_,_,e=>by simpa [VL] using e
 | _,_,.str _,_,_,e=>by simpa [VL] using e
 | _,_,.ptr none,_,_,e=>by simpa [VL] using e
 | κ,y7,.ptr (some q),_,h,e=>by
  simp only [VL] at e ⊢
  obtain ⟨j,h1,h2⟩:=e
  exact ⟨j,((h _ (by simp [Du])).1 _ h1).1,h2⟩
 | _,_,.slice none _ _ _ _,_,_,e=>by simpa [VL] using e
 | _,_,.slice (some _) _ _ _ _,_,_,e=>by simp [VL] at e
 | _,_,.map none,_,_,e=>by simpa [VL] using e
 | κ,y7,.map (some r),_,h,e=>by
  simp only [VL] at e ⊢
  obtain ⟨j,h1,h2⟩:=e
  exact ⟨j,((h _ (by simp [Du])).1 _ h1).1,h2⟩
 | κ,y7,.func f cs,_,h,e=>by
  simp only [VL] at e ⊢
  obtain ⟨cs',h1,h2⟩:=e
  exact ⟨cs',h1,bZ.mono hk κ y7 cs cs' (h.sub λi hi=>by simpa [Du] using hi) h2⟩
 | _,_,.nilFunc,_,_,e=>by simpa [VL] using e
 | κ,y7,.agg cs,_,h,e=>by
  simp only [VL] at e ⊢
  obtain ⟨cs',h1,h2⟩:=e
  exact ⟨cs',h1,bZ.mono hk κ y7 cs cs' (h.sub λi hi=>by simpa [Du] using hi) h2⟩
 | κ,y7,.tuple cs,_,h,e=>by
  simp only [VL] at e ⊢
  obtain ⟨cs',h1,h2⟩:=e
  exact ⟨cs',h1,bZ.mono hk κ y7 cs cs' (h.sub λi hi=>by simpa [Du] using hi) h2⟩
 | _,_,.list sz len cs ex,_,_,e=>by
  simp only [VL] at e ⊢
  rcases e with e | ⟨b,o,cap,ex',h1,h2,h3,h4,h5⟩
  ·exact .inl e
  refine .inr ⟨b,o,cap,ex',h1,h2,h3,h4,λhl=>?_⟩
  obtain ⟨c,ro,sl,g1,g2,g3,g4,g5⟩:=h5 hl
  obtain ⟨e1,e2⟩:=hk.get b g3 g2
  exact ⟨c,ro,sl,e1.trans g1,e2,Nat.lt_of_lt_of_le g3 hk.next,g4,bZ.mono hk _ _ cs _ (VI.Le.refl _ _) g5⟩
 | _,_,.elem cs,_,_,e=>by
  simp only [VL] at e ⊢
  obtain ⟨b,o,c,ro,sl,h1,g1,g2,g3,g5⟩:=e
  obtain ⟨e1,e2⟩:=hk.get b g3 g2
  exact ⟨b,o,c,ro,sl,h1,e1.trans g1,e2,Nat.lt_of_lt_of_le g3 hk.next,bZ.mono hk _ _ cs _ (VI.Le.refl _ _) g5⟩
 | κ,y7,.acc b o sz n w,_,h,e=>by
  simp only [VL] at e ⊢
  obtain ⟨p,s',cap,ex,h1,h2,h3,h4,m,L,h5,h6,h7,h8⟩:=e
  have hl:=h b (by simp [Du])
  rcases h8 with ⟨j,k1,k2⟩ | ⟨k1,k2⟩
  ·obtain ⟨g1,g2⟩:=hl.1 j k1
   exact ⟨p,s',cap,ex,h1,h2,h3,h4,m,L,g2 _ h5,h6,h7,.inl ⟨j,g1,k2⟩⟩
  ·obtain ⟨g1,g2⟩:=hl.2 k1
   exact ⟨p,s',cap,ex,h1,h2,h3,h4,m,L,g2 _ h5,h6,h7,.inr ⟨g1,k2⟩⟩
theorem bZ.mono {M M':Heap} {O O':Nat→Prop} (hk:Keeps M O M' O'):∀ (κ y7:VI) (l r:List AV),VI.Le κ y7 (λi=>i∈qW l)→bZ M O κ l r→bZ M' O' y7 l r
 | _,_,[],[],_,_=>by simp [bZ]
 | κ,y7,a::l,v::r,h,e=>by
  simp only [bZ] at e ⊢
  exact ⟨VL.mono hk κ y7 a v (h.sub λi hi=>by simp [qW,hi]) e.1,bZ.mono hk κ y7 l r (h.sub λi hi=>by simp [qW,hi]) e.2⟩
 | _,_,[],_::_,_,e=>by simp [bZ] at e
 | _,_,_::_,[],_,e=>by simp [bZ] at e
end
section
variable {M:Heap} {O:Nat→Prop} {κ:VI}
theorem bZ.length:∀ {l r:List AV},bZ M O κ l r→l.length=r.length
 | [],[],_=>rfl
 | _::l,_::r,e=>by
  simp only [bZ] at e
  simp [bZ.length e.2]
 | [],_::_,e=>by simp [bZ] at e
 | _::_,[],e=>by simp [bZ] at e
theorem bZ.get:∀ {l r:List AV},bZ M O κ l r→∀ (i:Nat) (a:AV),l[i]?=some a→∃ v,r[i]?=some v∧VL M O κ a v
 | [],_,_,i,a,h=>by simp at h
 | a::l,v::r,e,i,x,h=>by
  simp only [bZ] at e
  cases i with
  | zero =>
   simp at h
   subst h
   exact ⟨v,by simp,e.1⟩
  | succ i=>simpa using bZ.get e.2 i x (by simpa using h)
 | _::_,[],e,_,_,_=>by simp [bZ] at e
theorem bZ.append:∀ {l l' r r':List AV},bZ M O κ l r→bZ M O κ l' r'→bZ M O κ (l++l') (r++r')
 | [],_,[],_,_,h=>by simpa using h
 | a::l,_,v::r,_,e,h=>by
  simp only [bZ,List.cons_append] at e ⊢
  exact ⟨e.1,bZ.append e.2 h⟩
 | [],_,_::_,_,e,_=>by simp [bZ] at e
 | _::_,_,[],_,e,_=>by simp [bZ] at e
theorem bZ.drop:∀ {l r:List AV} (n:Nat),bZ M O κ l r→bZ M O κ (l.drop n) (r.drop n)
 | _,_,0,e=>by simpa using e
 | [],[],_+1,e=>by simpa using e
 | _::l,_::r,n+1,e=>by
  simp only [bZ] at e
  simpa using bZ.drop n e.2
 | [],_::_,_+1,e=>by simp [bZ] at e
 | _::_,[],_+1,e=>by simp [bZ] at e
theorem bZ.take:∀ {l r:List AV} (n:Nat),bZ M O κ l r→bZ M O κ (l.take n) (r.take n)
 | _,_,0,e=>by simp [bZ]
 | [],[],_+1,e=>by simp [bZ]
 | _::l,_::r,n+1,e=>by
  simp only [bZ] at e
  simp only [List.take_succ_cons,bZ]
  exact ⟨e.1,bZ.take n e.2⟩
 | [],_::_,_+1,e=>by simp [bZ] at e
 | _::_,[],_+1,e=>by simp [bZ] at e
theorem bZ.same {l r:List AV} (h:bZ M O κ l r) {n:Nat} (hn:n≤l.length):n≤r.length:=by rw [← h.length];exact hn
theorem VL.gP {v a:AV} (h:v.gP=true) (r:VL M O κ v a):a.gP=true:=by
 cases v with
 | undef=>simp [AV.gP] at h
 | agg _=>simp [AV.gP] at h
 | tuple _=>simp [AV.gP] at h
 | ptr p=>cases p<;>simp only [VL] at r<;>first | (subst r;rfl) | (obtain ⟨_,_,rfl⟩:=r;rfl)
 | slice p=>cases p<;>simp only [VL] at r;obtain ⟨_,_,rfl⟩:=r;rfl
 | map p=>cases p<;>simp only [VL] at r<;>first | (subst r;rfl) | (obtain ⟨_,_,rfl⟩:=r;rfl)
 | func f cs=>simp only [VL] at r;obtain ⟨_,rfl,_⟩:=r;rfl
 | list=>simp only [VL] at r;rcases r with ⟨_,_,_,rfl⟩ | ⟨_,_,_,_,rfl,_⟩<;>rfl
 | elem=>simp only [VL] at r;obtain ⟨_,_,_,_,_,rfl,_⟩:=r;rfl
 | acc=>simp only [VL] at r;obtain ⟨_,_,_,_,rfl,_⟩:=r;rfl
 | _=>simp only [VL] at r;subst r;rfl
theorem VL.cells {v a:AV} {cs:List AV} (h:v.cells?=some cs) (r:VL M O κ v a):∃ cs',a.cells?=some cs'∧bZ M O κ cs cs':=by
 cases v with
 | undef=>simp [AV.cells?] at h
 | tuple _=>simp [AV.cells?] at h
 | agg l =>
  simp only [AV.cells?] at h
  split at h
  case isFalse=>cases h
  rename_i hall
  obtain rfl:=Option.some.inj h
  simp only [VL] at r
  obtain ⟨cs',rfl,hr⟩:=r
  refine ⟨cs', ?_,hr⟩
  simp only [AV.cells?]
  rw [if_pos]
  rw [List.all_eq_true]
  intro x hx
  obtain ⟨i,hi⟩:=List.mem_iff_getElem?.1 hx
  have hlt:i < l.length:=by rw [hr.length];exact (List.getElem?_eq_some_iff.1 hi).1
  obtain ⟨y,hy,hyx⟩:=hr.get i _ (List.getElem?_eq_getElem hlt)
  rw [hi] at hy
  obtain rfl:=Option.some.inj hy
  exact hyx.gP (List.all_eq_true.1 hall _ (List.getElem_mem hlt))
 | _ =>
  all_goals
   simp only [AV.cells?,Option.some.injEq] at h
   subst h
   have hc:=VL.gP (by rfl) r
   refine ⟨[a], ?_,by simp only [bZ];exact ⟨r,trivial⟩⟩
   cases a<;>simp_all [AV.cells?,AV.gP]
end
mutual
def Av:AV→Bool
 | .ptr (some _) | .slice (some _) _ _ _ _ | .map (some _) | .list .. | .elem _ | .acc ..=>false
 | .slice none _ l c e=>l==0&&c==0&&e
 | .func _ cs=>wW cs
 | .agg cs=>wW cs
 | .tuple cs=>wW cs
 | _=>true
def wW:List AV→Bool
 | []=>true
 | v::r=>Av v&&wW r
end
mutual
theorem VL.const {M:Heap} {O:Nat→Prop} {κ:VI}:∀ v:AV,Av v=true→VL M O κ v v
 | .undef,_=>by simp [VL]
 | .bool _,_=>by simp [VL]
 | .int _ _,_=>by simp [VL]
 | .str _,_=>by simp [VL]
 | .ptr none,_=>by simp [VL]
 | .ptr (some _),h=>by simp [Av] at h
 | .slice none s l c e,h=>by
  simp only [Av,Bool.and_eq_true,beq_iff_eq] at h
  simp only [VL]
  exact ⟨⟨h.1.1,h.1.2,h.2⟩,s,by rw [h.1.1,h.1.2,h.2]⟩
 | .slice (some _) _ _ _ _,h=>by simp [Av] at h
 | .map none,_=>by simp [VL]
 | .map (some _),h=>by simp [Av] at h
 | .func f cs,h=>by simp only [VL];exact ⟨cs,rfl,bZ.const cs (by simpa [Av] using h)⟩
 | .nilFunc,_=>by simp [VL]
 | .agg cs,h=>by simp only [VL];exact ⟨cs,rfl,bZ.const cs (by simpa [Av] using h)⟩
 | .tuple cs,h=>by simp only [VL];exact ⟨cs,rfl,bZ.const cs (by simpa [Av] using h)⟩
 | .list ..,h=>by simp [Av] at h
 | .elem _,h=>by simp [Av] at h
 | .acc ..,h=>by simp [Av] at h
theorem bZ.const {M:Heap} {O:Nat→Prop} {κ:VI}:∀ l:List AV,wW l=true→bZ M O κ l l
 | [],_=>by simp [bZ]
 | v::r,h=>by
  simp only [wW,Bool.and_eq_true] at h
  simp only [bZ]
  exact ⟨VL.const v h.1,bZ.const r h.2⟩
end
theorem bZ.kN {M:Heap} {O:Nat→Prop} {κ:VI} {z:List AV} (h:wW z=true):∀ n,bZ M O κ (kN n z) (kN n z)
 | 0=>by simp [Proofs.YtohoggieaanllaaGreat.kN,bZ]
 | n+1=>(bZ.const z h).append (bZ.kN h n)
def AX.bD:AX→Bool
 | .t _=>true
 | .c v=>Av v
def okO:Option AX→Bool
 | none=>true
 | some x=>x.bD
def nU.bD:nU→Bool
 | .move x=>x.bD
 | .pick c a b=>c.bD&&a.bD&&b.bD
 | .build z ps=>wW z&&ps.all λp=>p.2.2.bD
 | .nilCheck x=>x.bD
 | .bin _ x y=>x.bD&&y.bD
 | .eqB _ x y=>x.bD&&y.bD
 | .eqS _ _ x y=>x.bD&&y.bD
 | .eqP _ x y=>x.bD&&y.bD
 | .eqN _ x y=>x.bD&&y.bD
 | .un _ x=>x.bD
 | .Mt _ x=>x.bD
 | .NH x=>x.bD
 | .Eo _ cs=>cs.all AX.bD
 | .qy x a b=>x.bD&&okO a&&okO b
 | .slice _ x a b c=>x.bD&&okO a&&okO b&&okO c
 | .fieldAddr _ x=>x.bD
 | .field _ _ _ x=>x.bD
 | .xZ _ _ x i=>x.bD&&i.bD
 | .lZ _ x i=>x.bD&&i.bD
 | .index _ _ _ x i=>x.bD&&i.bD
 | .vI x i=>x.bD&&i.bD
 | .extract x _=>x.bD
 | .len _ x=>x.bD
 | .cap x=>x.bD
 | .Ak _ xs=>xs.all AX.bD
def Cu.bD:Cu→Bool
 | .load _ _ x=>x.bD
 | .mV x=>x.bD
 | .K9 x=>x.bD
 | .lookup _ z x k=>Av z&&x.bD&&k.bD
def Ng.bD:Ng→Bool
 | .alloc z=>wW z
 | .box x=>x.bD
 | .buildSlice _ _ z ps=>wW z&&ps.all λp=>p.2.bD
 | .makeSlice _ _ z l c=>wW z&&l.bD&&c.bD
 | .rG x=>x.bD
 | .makeMap=>true
def Hw.bD:Hw→Bool
 | .store _ a v=>a.bD&&v.bD
 | .call f xs=>f.bD&&xs.all AX.bD
 | .append _ _ s x=>s.bD&&x.bD
 | .Al _ _ z s n=>wW z&&s.bD&&n.bD
 | .copy _ d s=>d.bD&&s.bD
 | .clear _ z x=>wW z&&x.bD
 | .mapUpdate m k v=>m.bD&&k.bD&&v.bD
 | .FL m k=>m.bD&&k.bD
 | .yZ x=>x.bD
 | .fail=>true
def Dt.bD:Dt→Bool
 | .p o=>o.bD
 | .l o=>o.bD
 | .k o=>o.bD
 | .n o=>o.bD
def bI.bD:bI→Bool
 | .reg ops=>ops.all λo=>o.op.bD
 | .X3 _ ops=>ops.all λd=>d.o.op.bD
 | .seq a b=>a.bD&&b.bD
 | .cond c a b=>c.bD&&a.bD&&b.bD
 | .block _ c=>c.bD
 | .loop _ c=>c.bD
 | _=>true
end Go.Proofs.YtohoggieaanllaaGreat
end
section
set_option linter.all false
set_option linter.unusedSimpArgs false
namespace Go.Proofs.YtohoggieaanllaaGreat
def AV.vM:AV→Bool
 | .bool _ | .int _ _ | .str _=>true
 | _=>false
section
variable {M:Heap} {O:Nat→Prop} {κ:VI}
theorem VL.vM {v:AV} (h:v.vM=true):VL M O κ v v:=by
 cases v<;>simp [AV.vM] at h<;>simp [VL]
theorem VL.eq {v a:AV} (h:v.vM=true) (r:VL M O κ v a):a=v:=by
 cases v<;>simp [AV.vM] at h<;>simpa [VL] using r
theorem ain {op:BinOp} {k:IntKind} {x y:Int} {v:AV} (h:JX op k x y=some v):v.vM=true:=by
 cases op<;>simp only [JX] at h
 all_goals first | (cases h;rfl) | (cases h;done) | (split at h<;>cases h<;>rfl)
theorem aio {op:BinOp} {x y:List UInt8} {v:AV} (h:afy op x y=some v):v.vM=true:=by
 cases op<;>simp only [afy] at h
 all_goals first | (cases h;rfl) | (cases h;done) | (split at h<;>cases h<;>rfl)
theorem ak9 {op:BinOp} {x y v:AV} (h:Vu op x y=some v):v.vM=true∧x.vM=true∧y.vM=true:=by
 cases x<;>cases y<;>simp only [Vu] at h<;>first | (cases h;done) | skip
 ·refine ⟨?_,rfl,rfl⟩
  split at h
  ·split at h<;>cases h<;>rfl
  ·split at h<;>cases h<;>rfl
  ·split at h
   ·exact ain h
   ·cases h
 ·exact ⟨aio h,rfl,rfl⟩
theorem af5 {k:Kd} {x y x' y':AV} {b:Bool} (hx:VL M O κ x x') (hy:VL M O κ y y') (h:afz k x y=some b):afz k x' y'=some b:=by
 have hs:x.vM=true∧y.vM=true:=by
  cases k<;>cases x<;>simp only [afz] at h<;>first | (cases h;done) | (cases y<;>simp only at h<;>first | (cases h;done) | exact ⟨rfl,rfl⟩)
 rw [hx.eq hs.1,hy.eq hs.2]
 exact h
theorem acZ:∀ {ks:List Kd} {l r l' r':List AV} {b:Bool},bZ M O κ l l'→bZ M O κ r r'→og ks l r=some b→og ks l' r'=some b
 | [],[],[],l',r',b,hl,hr,h=>by
  cases l' with
  | cons _ _=>simp [bZ] at hl
  | nil=>cases r' with
   | cons _ _=>simp [bZ] at hr
   | nil=>exact h
 | k::ks,a::l,c::r,l',r',b,hl,hr,h=>by
  cases l' with
  | nil=>simp [bZ] at hl
  | cons a' l' =>
   cases r' with
   | nil=>simp [bZ] at hr
   | cons c' r' =>
    simp only [bZ] at hl hr
    simp only [og] at h ⊢
    split at h
    ·rename_i x y h1 h2
     rw [af5 hl.1 hr.1 h1,acZ hl.2 hr.2 h2]
     exact h
    ·cases h
 | [],[],_::_,_,_,_,_,_,h=>by simp [og] at h
 | [],_::_,_,_,_,_,_,_,h=>by simp [og] at h
 | _::_,[],_,_,_,_,_,_,h=>by simp [og] at h
 | _::_,_::_,[],_,_,_,_,_,h=>by simp [og] at h
theorem amV {x y x' y':AV} {b:Bool} (hx:VL M O κ x x') (hy:VL M O κ y y') (h:abF x y=some b):abF x' y'=some b:=by
 unfold abF at h
 split at h
 ·rename_i c
  simp only [VL] at hx
  subst hx
  cases c with
  | none=>simp only [VL] at hy;subst hy;simpa [abF] using h
  | some c=>simp only [VL] at hy;obtain ⟨j,_,rfl⟩:=hy;simpa [abF] using h
 ·simp only [VL] at hx hy
  obtain ⟨j,_,rfl⟩:=hx
  subst hy
  simpa [abF] using h
 ·rename_i c d
  simp only [VL] at hx hy
  obtain ⟨j,h1,rfl⟩:=hx
  obtain ⟨j',h2,rfl⟩:=hy
  split at h
  ·rename_i e
   rw [e,h2] at h1
   obtain rfl:=Option.some.inj h1
   simpa [abF] using h
  ·cases h
 ·cases h
theorem aip {v a:AV} {m n:Nat} (r:VL M O κ v a) (h:qU v m=some n):qU a m=some n:=by
 cases v<;>simp only [qU] at h<;>first | (cases h;done) | skip
 simp only [VL] at r
 subst r
 simpa [qU] using h
theorem iF {v:AV} {m m' n:Nat} (h:qU v m=some n) (hm:m≤m'):qU v m'=some n∧n≤m:=by
 cases v<;>simp only [qU] at h<;>first | (cases h;done) | skip
 split at h
 case isFalse=>cases h
 rename_i k i hi
 obtain rfl:=Option.some.inj h
 simp only [qU]
 rw [if_pos (by omega)]
 exact ⟨rfl,by omega⟩
theorem ael {m:Bool} {x y v:AV} (h:Y3 m x y=some v):v.vM=true∧x.vM=true∧y.vM=true:=by
 cases x<;>cases y<;>simp only [Y3] at h<;>first | (cases h;done) | skip
 split at h<;>cases h<;>exact ⟨rfl,rfl,rfl⟩
theorem ac0 {m:Bool}:∀ {l l':List AV} {x x' v:AV},VL M O κ x x'→bZ M O κ l l'→Ti m x l=some v→∃ a,Ti m x' l'=some a∧VL M O κ v a
 | [],l',x,x',v,hx,hl,h=>by
  have:=hl.length
  cases l'<;>simp at this
  simp only [Ti,Option.some.injEq] at h ⊢
  subst h
  exact ⟨x',rfl,hx⟩
 | y::l,l',x,x',v,hx,hl,h=>by
  cases l' with
  | nil=>simp [bZ] at hl
  | cons y' l' =>
   simp only [bZ] at hl
   simp only [Ti] at h ⊢
   obtain ⟨z,h1,h2⟩:=Option.bind_eq_some_iff.1 h
   obtain ⟨s1,s2,s3⟩:=ael h1
   obtain rfl:=hx.eq s2
   obtain rfl:=hl.1.eq s3
   rw [h1,Option.bind_some]
   exact ac0 (VL.vM s1) hl.2 h2
theorem ac1 {g:Bool} {off n:Nat} {cs cs':List AV} {v:AV} (r:bZ M O κ cs cs') (h:EN g off n cs=some v):∃ a,EN g off n cs'=some a∧VL M O κ v a:=by
 unfold EN at h ⊢
 cases g with
 | true =>
  simp only [if_true,Option.some.injEq] at h ⊢
  subst h
  exact ⟨_,rfl,by simp only [VL];exact ⟨_,rfl,(r.drop off).take n⟩⟩
 | false =>
  simp only [Bool.false_eq_true,if_false] at h ⊢
  exact r.get off v h
theorem abJ {c:List AV} {o n l m:Nat} (h:l+m≤n):((((c.drop o).take n).drop l).take m)=((c.drop (o+l)).take m):=by
 rw [List.drop_take,List.take_take,List.drop_drop,Nat.min_eq_left (by omega)]
theorem ac2 {sz len h l:Nat} {cs:List AV} {b o:Nat} {ex1:Bool} {aq6:Nat} {ex2:Bool} (hl:l≤h) (hh:h≤len) (hcs:cs.length=len * sz)
  (hc:len≠0→∃ c ro sl,M.get b=some (.cells c ro sl)∧¬ O b∧b < M.next∧o+len * sz≤c.length∧bZ M O VI.none cs ((c.drop o).take (len * sz))) (h1:h - l≤aq6) (h2:ex2=true→ex1=true∧aq6=h - l) :
  VL M O κ (.list sz (h - l) ((cs.drop (l * sz)).take ((h - l) * sz)) ex2) (.slice (some (b,o+l * sz)) sz (h - l) aq6 ex1):=by
 have e:l * sz+(h - l) * sz=h * sz:=by rw [← Nat.add_mul];congr 1;omega
 have e2:h * sz≤len * sz:=Nat.mul_le_mul_right _ hh
 simp only [VL]
 refine .inr ⟨b,_,aq6,ex1,rfl,h1,h2, ?_,λhne=>?_⟩
 ·rw [List.length_take,List.length_drop,hcs]
  omega
 ·obtain ⟨c,ro,sl,g1,g2,g3,g4,g5⟩:=hc (by omega)
  refine ⟨c,ro,sl,g1,g2,g3,by omega, ?_⟩
  have:=(g5.drop (l * sz)).take ((h - l) * sz)
  rwa [abJ (by omega)] at this
theorem af6:∀ {n:Nat} {l r:List AV},NS n l=some r→n≤l.length∧r=l.take n
 | 0,l,r,h=>by simp only [NS,Option.some.injEq] at h;subst h;simp
 | n+1,[],r,h=>by simp [NS] at h
 | n+1,c::l,r,h=>by
  simp only [NS] at h
  split at h
  case h_2=>cases h
  rename_i q hq
  obtain rfl:=Option.some.inj h
  obtain ⟨h1,h2⟩:=af6 hq
  exact ⟨by simp;omega,by simp [h2]⟩
theorem amW:∀ {l:List AV} {i:Nat},cAt l i=l[i]?
 | [],i=>by simp [cAt]
 | v::_,0=>by simp [cAt]
 | _::r,i+1=>by simp [cAt,amW (l:=r)]
theorem ZI {g:Bool} {off n:Nat} {cs:List AV} {v:AV} (h:Cj g off n cs=some v):EN g off n cs=some v∧(g=true→n≤(cs.drop off).length):=by
 unfold Cj at h
 cases g with
 | true =>
  simp only at h
  split at h
  case h_2=>cases h
  rename_i l hl
  obtain rfl:=Option.some.inj h
  obtain ⟨h1,rfl⟩:=af6 hl
  exact ⟨by simp [EN],λ_=>h1⟩
 | false =>
  simp only at h
  rw [amW] at h
  exact ⟨by simpa [EN] using h,λh=>by cases h⟩
theorem ZJ {b off sz n cap m L l y cap':Nat} {ex ex':Bool} {p:Option (Nat×Nat)} (hn:n≤cap) (hnp:p=none→cap=0∧ex=true) (hd:κ.dim b=some (m,L)) (hm:off+n * sz≤m)
  (hx:(∃ j,κ b=some j∧((p=some (j,off)∧off+cap * sz≤L)∨(n=0∧cap=0∧ex=true)))∨(κ.VH b=true∧n=0∧cap=0∧ex=true∧m=0))
  (h1:l≤y) (h2:y≤n) (h3:y - l≤cap') (h4:cap'≤cap - l) (h5:cap=0→ex=true→ex'=true) :
  VL M O κ (.acc b (off+l * sz) sz (y - l) false) (.slice (nC p (l * sz)) sz (y - l) cap' ex'):=by
 have e1:l * sz+(y - l) * sz=y * sz:=by rw [← Nat.add_mul];congr 1;omega
 have e2:y * sz≤n * sz:=Nat.mul_le_mul_right _ h2
 have e3:l * sz+cap' * sz≤cap * sz:=by rw [← Nat.add_mul];exact Nat.mul_le_mul_right _ (by omega)
 simp only [VL]
 refine ⟨_,_,_,_,rfl,h3,λhp=>?_,λ_=>rfl,m,L,hd,by omega,(λh=>by cases h), ?_⟩
 ·cases p with
  | none=>exact ⟨by have:=(hnp rfl).1;omega,h5 (hnp rfl).1 (hnp rfl).2⟩
  | some p=>simp [nC] at hp
 ·rcases hx with ⟨j,g1,g2⟩ | ⟨g1,g2,g3,g4,g5⟩
  ·refine .inl ⟨j,g1, ?_⟩
   rcases g2 with ⟨rfl,g2⟩ | ⟨g2,g3,g4⟩
   ·exact .inl ⟨by simp [nC],by omega⟩
   ·exact .inr ⟨by omega,by omega,h5 g3 g4⟩
  ·exact .inr ⟨g1,by omega,by omega,h5 g3 g4,g5⟩
section
variable {ρ σ:Nat→AV} (h:∀ t,VL M O κ (ρ t) (σ t))
include h
theorem fT {x:AX} (hc:x.bD=true):VL M O κ ((x.sub ρ).ev []) ((x.sub σ).ev []):=by
 cases x with
 | t n=>exact h n
 | c v=>exact VL.const v hc
theorem Y_:∀ {xs:List AX},xs.all AX.bD=true→bZ M O κ ((xs.map (AX.sub ρ)).map (AX.ev [])) ((xs.map (AX.sub σ)).map (AX.ev []))
 | [],_=>by simp [bZ]
 | x::xs,hc=>by
  simp only [List.all_cons,Bool.and_eq_true] at hc
  simp only [List.map_cons,bZ]
  exact ⟨fT h hc.1,Y_ hc.2⟩
theorem zq {x:Option AX} (hc:okO x=true) {other m n:Nat} (hb:b_ [] (AX.jK ρ x) other m=some n):b_ [] (AX.jK σ x) other m=some n:=by
 cases x with
 | none=>exact hb
 | some x=>exact aip (fT h hc) hb
theorem ac3:∀ {ps:List (Nat×Nat×AX)} {cs cs' l:List AV},(ps.all λp=>p.2.2.bD)=true→bZ M O κ cs cs' →
  uU cs (ps.map λp=>(p.1,p.2.1,(p.2.2.sub ρ).ev []))=some l→∃ l',uU cs' (ps.map λp=>(p.1,p.2.1,(p.2.2.sub σ).ev []))=some l'∧bZ M O κ l l'
 | [],cs,cs',l,_,hr,hf=>by
  simp only [List.map_nil,uU,Option.some.injEq] at hf ⊢
  subst hf
  exact ⟨cs',rfl,hr⟩
 | p::ps,cs,cs',l,hc,hr,hf=>by
  simp only [List.all_cons,Bool.and_eq_true] at hc
  simp only [List.map_cons,uU] at hf ⊢
  split at hf
  case h_2=>cases hf
  rename_i x hx
  split at hf
  case isFalse=>cases hf
  rename_i hle
  obtain ⟨x',hx',hxr⟩:=(fT h hc.1).cells hx
  rw [hx']
  simp only
  rw [if_pos (by rw [← hxr.length,← hr.length];exact hle)]
  refine ac3 hc.2 ?_ hf
  exact ((hr.take _).append hxr).append (hr.drop _)
theorem amX {o:nU} (hc:o.bD=true) {v:AV} (hv:wP (o.sub ρ)=some v):∃ a,aP (o.sub σ) []=some a∧VL M O κ v a:=by
 cases o with
 | move x =>
  have hx:=fT h hc
  simp only [nU.sub,wP,aP,Option.some.injEq] at hv ⊢
  subst hv
  exact ⟨_,rfl,hx⟩
 | pick c a b =>
  simp only [nU.bD,Bool.and_eq_true] at hc
  have h1:=fT h hc.1.1
  have h2:=fT h hc.1.2
  have h3:=fT h hc.2
  simp only [nU.sub,wP,aP] at hv ⊢
  generalize (c.sub ρ).ev []=C at *
  cases C<;>(try simp only at hv)<;>first | (cases hv;done) | skip
  rename_i w
  simp only [VL] at h1
  rw [h1]
  cases w<;>simp only [Option.some.injEq] at hv ⊢<;>subst hv
  ·exact ⟨_,rfl,h3⟩
  ·exact ⟨_,rfl,h2⟩
 | build z ps =>
  simp only [nU.bD,Bool.and_eq_true] at hc
  simp only [nU.sub,wP,aP,List.map_map] at hv ⊢
  obtain ⟨l,h1,rfl⟩:=Option.map_eq_some_iff.1 hv
  obtain ⟨l',h2,h3⟩:=ac3 h hc.2 (bZ.const z hc.1) h1
  refine ⟨.agg l', ?_,by simp only [VL];exact ⟨l',rfl,h3⟩⟩
  rw [Option.map_eq_some_iff]
  exact ⟨l',h2,rfl⟩
 | nilCheck x =>
  have hx:=fT h hc
  simp only [nU.sub,wP,aP] at hv ⊢
  generalize (x.sub ρ).ev []=X at *
  generalize (x.sub σ).ev []=X' at *
  cases X with
  | ptr p =>
   cases p with
   | none=>simp at hv
   | some q =>
    simp only [Option.some.injEq] at hv
    subst hv
    simp only [VL] at hx
    obtain ⟨j,h1,rfl⟩:=hx
    exact ⟨_,rfl,by simp only [VL];exact ⟨j,h1,rfl⟩⟩
  | func f cs =>
   simp only [Option.some.injEq] at hv
   subst hv
   simp only [VL] at hx
   obtain ⟨cs',rfl,h1⟩:=hx
   exact ⟨_,rfl,by simp only [VL];exact ⟨cs',rfl,h1⟩⟩
  | elem cs =>
   simp only [Option.some.injEq] at hv
   subst hv
   have hx':=hx
   simp only [VL] at hx
   obtain ⟨b,o,c,ro,sl,rfl,_⟩:=hx
   exact ⟨_,rfl,hx'⟩
  | _=>simp at hv
 | bin op x y =>
  simp only [nU.bD,Bool.and_eq_true] at hc
  have hx:=fT h hc.1
  have hy:=fT h hc.2
  simp only [nU.sub,wP,aP] at hv ⊢
  obtain ⟨s1,s2,s3⟩:=ak9 hv
  rw [hx.eq s2,hy.eq s3]
  exact ⟨v,hv,VL.vM s1⟩
 | eqB neg x y =>
  simp only [nU.bD,Bool.and_eq_true] at hc
  have hx:=fT h hc.1
  have hy:=fT h hc.2
  simp only [nU.sub,wP,aP] at hv ⊢
  obtain ⟨b,h1,rfl⟩:=Option.map_eq_some_iff.1 hv
  rw [af5 hx hy h1]
  exact ⟨_,rfl,by simp [VL]⟩
 | eqS neg ks x y =>
  simp only [nU.bD,Bool.and_eq_true] at hc
  have hx:=fT h hc.1
  have hy:=fT h hc.2
  simp only [nU.sub,wP,aP] at hv ⊢
  generalize (x.sub ρ).ev []=X at *
  generalize (y.sub ρ).ev []=Y at *
  cases X<;>(try simp only at hv)<;>first | (cases hv;done) | skip
  cases Y<;>(try simp only at hv)<;>first | (cases hv;done) | skip
  simp only [VL] at hx hy
  obtain ⟨l',e1,hl⟩:=hx
  obtain ⟨r',e2,hr⟩:=hy
  obtain ⟨b,h1,rfl⟩:=Option.map_eq_some_iff.1 hv
  rw [e1,e2]
  simp only [acZ hl hr h1]
  exact ⟨_,rfl,by simp [VL]⟩
 | eqP neg x y =>
  simp only [nU.bD,Bool.and_eq_true] at hc
  have hx:=fT h hc.1
  have hy:=fT h hc.2
  simp only [nU.sub,wP,aP] at hv ⊢
  obtain ⟨b,h1,rfl⟩:=Option.map_eq_some_iff.1 hv
  rw [amV hx hy h1]
  exact ⟨_,rfl,by simp [VL]⟩
 | eqN neg x y =>
  simp only [nU.bD,Bool.and_eq_true] at hc
  have hx:=fT h hc.1
  have hy:=fT h hc.2
  simp only [nU.sub,wP,aP] at hv ⊢
  generalize (x.sub ρ).ev []=X at *
  generalize (y.sub ρ).ev []=Y at *
  generalize (x.sub σ).ev []=X' at *
  generalize (y.sub σ).ev []=Y' at *
  split at hv
  ·simp only [VL] at hx hy
   obtain ⟨b,o,cap,ex',rfl,_⟩:=hx.resolve_left (λh=>by cases h.1)
   obtain ⟨_,s',rfl⟩:=hy
   simp only [Option.some.injEq] at hv
   subst hv
   exact ⟨.bool neg,by simp [ad7],by simp [VL]⟩
  ·simp only [VL] at hx hy
   obtain ⟨b,o,cap,ex',rfl,_⟩:=hy.resolve_left (λh=>by cases h.1)
   obtain ⟨_,s',rfl⟩:=hx
   simp only [Option.some.injEq] at hv
   subst hv
   exact ⟨.bool neg,by simp [ad7],by simp [VL]⟩
  ·simp only [VL] at hx hy
   obtain ⟨_,s',rfl⟩:=hx
   obtain ⟨_,s'',rfl⟩:=hy
   simp only [Option.some.injEq] at hv
   subst hv
   exact ⟨.bool (!neg),by cases neg<;>simp [ad7],by simp [VL]⟩
  ·cases hv
 | un op x =>
  have hx:=fT h hc
  simp only [nU.sub,wP,aP] at hv ⊢
  have:((x.sub ρ).ev []).vM=true∧v.vM=true:=by
   generalize (x.sub ρ).ev []=X at *
   cases X<;>cases op<;>simp only [aUn] at hv<;>first | (cases hv;done) | (cases hv;exact ⟨rfl,rfl⟩)
  rw [hx.eq this.1]
  exact ⟨v,hv,VL.vM this.2⟩
 | Mt k x =>
  have hx:=fT h hc
  simp only [nU.sub,wP,aP] at hv ⊢
  generalize (x.sub ρ).ev []=X at *
  cases X<;>(try simp only at hv)<;>first | (cases hv;done) | skip
  obtain rfl:=Option.some.inj hv
  rw [hx.eq rfl]
  exact ⟨_,rfl,by simp [VL]⟩
 | NH x =>
  have hx:=fT h hc
  simp only [nU.sub,wP,aP] at hv ⊢
  generalize (x.sub ρ).ev []=X at *
  cases X<;>(try simp only at hv)<;>first | (cases hv;done) | skip
  obtain rfl:=Option.some.inj hv
  rw [hx.eq rfl]
  exact ⟨_,rfl,by simp [VL]⟩
 | Eo f cs =>
  simp only [nU.sub,wP,aP,Option.some.injEq] at hv ⊢
  subst hv
  exact ⟨_,rfl,by simp only [VL];exact ⟨_,rfl,Y_ h hc⟩⟩
 | qy x lo hi =>
  simp only [nU.bD,Bool.and_eq_true] at hc
  have hx:=fT h hc.1.1
  simp only [nU.sub,wP,aP] at hv ⊢
  generalize (x.sub ρ).ev []=X at *
  cases X<;>(try simp only at hv)<;>first | (cases hv;done) | skip
  rw [hx.eq rfl]
  simp only [FM] at hv ⊢
  obtain ⟨a,h1,hv⟩:=Option.bind_eq_some_iff.1 hv
  obtain ⟨b,h2,hv⟩:=Option.bind_eq_some_iff.1 hv
  obtain rfl:=Option.some.inj hv
  rw [zq h hc.2 h1,Option.bind_some,zq h hc.1.2 h2,Option.bind_some]
  exact ⟨_,rfl,by simp [VL]⟩
 | slice sz x lo hi mx =>
  simp only [nU.bD,Bool.and_eq_true] at hc
  obtain ⟨⟨⟨cx,VG⟩,chi⟩,cmx⟩:=hc
  have hx:=fT h cx
  simp only [nU.sub,wP,aP] at hv ⊢
  generalize (x.sub ρ).ev []=X at *
  generalize (x.sub σ).ev []=X' at *
  have tr:∀ {a:Option (Nat×Nat)} {sz' len cap:Nat} {ex:Bool} {w:AV},j_ sz a sz' len cap ex [] (AX.jK ρ lo) (AX.jK ρ hi) (AX.jK ρ mx)=some w→j_ sz a sz' len cap ex [] (AX.jK σ lo) (AX.jK σ hi) (AX.jK σ mx)=some w:=by
   intro a sz' len cap ex w hw
   unfold j_ at hw ⊢
   split at hw
   case isFalse=>cases hw
   rename_i hcond
   rw [if_pos hcond]
   cases mx with
   | none =>
    simp only [AX.jK,Option.map_none] at hw ⊢
    obtain ⟨a,h1,hw⟩:=Option.bind_eq_some_iff.1 hw
    obtain ⟨b,h2,hw⟩:=Option.bind_eq_some_iff.1 hw
    have:=zq h chi h1
    simp only [AX.jK] at this
    rw [this,Option.bind_some]
    have:=zq h VG h2
    simp only [AX.jK] at this
    rw [this,Option.bind_some]
    exact hw
   | some mx =>
    cases hi with
    | none =>
     simp only [AX.jK,Option.map_none,Option.map_some] at hw
     obtain ⟨m,_,hw⟩:=Option.bind_eq_some_iff.1 hw
     cases hw
    | some hi =>
     simp only [AX.jK,Option.map_some] at hw ⊢
     obtain ⟨m,h0,hw⟩:=Option.bind_eq_some_iff.1 hw
     obtain ⟨a,h1,hw⟩:=Option.bind_eq_some_iff.1 hw
     obtain ⟨b,h2,hw⟩:=Option.bind_eq_some_iff.1 hw
     have:=zq h cmx h0
     simp only [AX.jK,Option.map_some] at this
     rw [this,Option.bind_some]
     have:=zq h chi h1
     simp only [AX.jK,Option.map_some] at this
     rw [this,Option.bind_some]
     have:=zq h VG h2
     simp only [AX.jK] at this
     rw [this,Option.bind_some]
     exact hw
  cases X with
  | list sz' len cs ex =>
   simp only [VL] at hx
   simp only [ZE] at hv
   split at hv
   case isFalse=>cases hv
   rename_i he
   subst he
   rcases hx with ⟨rfl,rfl,s',rfl⟩ | ⟨b,o,cap,ex',rfl,h1,h2,h3,h4⟩
   ·have fin:∀ w,j_ sz' none s' 0 0 true [] (AX.jK ρ lo) (AX.jK ρ hi) (AX.jK ρ mx)=some w→VL M O κ v w→∃ a,j_ sz' none s' 0 0 true [] (AX.jK σ lo) (AX.jK σ hi) (AX.jK σ mx)=some a∧VL M O κ v a :=
     λw h1 h2=>⟨w,tr h1,h2⟩
    cases mx with
    | none =>
     simp only [AX.jK,Option.map_none] at hv
     obtain ⟨y,g1,hv⟩:=Option.bind_eq_some_iff.1 hv
     obtain ⟨l,g2,hv⟩:=Option.bind_eq_some_iff.1 hv
     obtain rfl:=Option.some.inj hv
     have gy:y=0:=by
      cases hi with
      | none=>simpa [b_] using g1.symm
      | some hi=>have:=(iF g1 (Nat.le_refl _)).2;omega
     subst gy
     have gl:l=0:=by
      cases lo with
      | none=>simpa [b_] using g2.symm
      | some lo=>have:=(iF g2 (Nat.le_refl _)).2;omega
     subst gl
     refine fin (.slice none sz' 0 0 true) ?_ ?_
     ·unfold j_
      simp only [AX.jK,true_or,if_true,Option.map_none,nC]
      rw [g1,Option.bind_some,g2]
      rfl
     ·simp only [VL]
      exact .inl (by simp)
    | some mx =>
     cases hi with
     | none =>
      simp only [AX.jK,Option.map_none,Option.map_some] at hv
      obtain ⟨m,_,hv⟩:=Option.bind_eq_some_iff.1 hv
      cases hv
     | some hi =>
      simp only [AX.jK,Option.map_some] at hv
      obtain ⟨m,g0,hv⟩:=Option.bind_eq_some_iff.1 hv
      obtain ⟨y,g1,hv⟩:=Option.bind_eq_some_iff.1 hv
      obtain ⟨l,g2,hv⟩:=Option.bind_eq_some_iff.1 hv
      obtain rfl:=Option.some.inj hv
      have gm:=(iF g0 (Nat.le_refl _)).2
      obtain rfl:m=0:=by omega
      have gy:=(iF g1 (Nat.le_refl _)).2
      obtain rfl:y=0:=by omega
      have gl:l=0:=by
       cases lo with
       | none=>simpa [b_] using g2.symm
       | some lo=>have:=(iF g2 (Nat.le_refl _)).2;omega
      subst gl
      refine fin (.slice none sz' 0 0 true) ?_ ?_
      ·unfold j_
       simp only [AX.jK,true_or,if_true,Option.map_some,nC]
       rw [g0,Option.bind_some,g1,Option.bind_some,g2]
       rfl
      ·simp only [VL]
       exact .inl (by simp)
   simp only
   cases mx with
   | none =>
    simp only [AX.jK,Option.map_none] at hv
    obtain ⟨y,g1,hv⟩:=Option.bind_eq_some_iff.1 hv
    obtain ⟨l,g2,hv⟩:=Option.bind_eq_some_iff.1 hv
    obtain rfl:=Option.some.inj hv
    have gy:b_ [] (AX.jK ρ hi) len cap=some y∧y≤len:=by
     cases hi with
     | none =>
      simp only [b_,Option.map_none,AX.jK,Option.some.injEq] at g1 ⊢
      omega
     | some hi=>exact iF g1 h1
    have gl:l≤y:=by
     cases lo with
     | none=>simp only [b_,Option.map_none,Option.some.injEq] at g2;omega
     | some lo=>exact (iF g2 (Nat.le_refl _)).2
    refine ⟨_,tr (w:=.slice (some (b,o+l * sz')) sz' (y - l) (cap - l) ex') ?_, ?_⟩
    ·unfold j_
     simp only [AX.jK,or_true,if_true,Option.map_none,nC,Option.map_some]
     rw [show b_ [] (hi.map (AX.sub ρ)) len cap=some y from gy.1,Option.bind_some,g2,Option.bind_some]
    ·exact ac2 gl gy.2 h3 h4 (by omega) λhe=>by cases he
   | some mx =>
    cases hi with
    | none =>
     simp only [AX.jK,Option.map_none,Option.map_some] at hv
     obtain ⟨m,_,hv⟩:=Option.bind_eq_some_iff.1 hv
     cases hv
    | some hi =>
     simp only [AX.jK,Option.map_some] at hv
     obtain ⟨m,g0,hv⟩:=Option.bind_eq_some_iff.1 hv
     obtain ⟨y,g1,hv⟩:=Option.bind_eq_some_iff.1 hv
     obtain ⟨l,g2,hv⟩:=Option.bind_eq_some_iff.1 hv
     obtain rfl:=Option.some.inj hv
     obtain ⟨m1,m2⟩:=iF g0 h1
     obtain ⟨_,y2⟩:=iF g1 (Nat.le_refl _)
     have gl:l≤y:=by
      cases lo with
      | none=>simp only [b_,Option.map_none,Option.some.injEq] at g2;omega
      | some lo=>exact (iF g2 (Nat.le_refl _)).2
     refine ⟨_,tr (w:=.slice (some (b,o+l * sz')) sz' (y - l) (m - l) true) ?_, ?_⟩
     ·unfold j_
      simp only [AX.jK,or_true,if_true,Option.map_some,nC]
      rw [show b_ [] (some (mx.sub ρ)) cap cap=some m from m1,Option.bind_some,g1,Option.bind_some,g2,Option.bind_some]
     ·exact ac2 gl (by omega) h3 h4 (by omega) λhe=>by cases he
  | acc b off sz' n w =>
   simp only [VL] at hx
   obtain ⟨p,s',cap,ex,rfl,hn,hnp,hns,m,L,hd,hm,hw,hx⟩:=hx
   have hz:p=none∨s'=sz':=by
    cases p with
    | none=>exact .inl rfl
    | some p=>exact .inr (hns (by simp))
   simp only at hv
   cases mx with
   | none =>
    cases lo with
    | none =>
     cases hi with
     | none =>
      simp only [AX.jK,Option.map_none,Ir] at hv
      split at hv
      case isFalse=>cases hv
      rename_i e
      subst e
      obtain rfl:=Option.some.inj hv
      refine ⟨_,tr (w:=.slice (nC p (0 * sz')) sz' (n - 0) (cap - 0) ex) ?_, ?_⟩
      ·unfold j_
       rw [if_pos hz]
       rfl
      ·have:nC p (0 * sz')=p:=by cases p<;>simp [nC]
       rw [this]
       simp only [VL]
       exact ⟨_,_,_,_,rfl,hn,hnp,λ_=>rfl,m,L,hd,hm,hw,hx⟩
     | some hi =>
      simp only [AX.jK,Option.map_none,Option.map_some,Ir] at hv
      split at hv
      case isFalse=>cases hv
      rename_i e
      subst e
      obtain ⟨y,g1,hv⟩:=Option.bind_eq_some_iff.1 hv
      obtain ⟨l,g2,hv⟩:=Option.bind_eq_some_iff.1 hv
      obtain rfl:=Option.some.inj hv
      have gy:=iF g1 hn
      have gl:l≤y:=by simp only [b_,Option.some.injEq] at g2;omega
      refine ⟨_,tr (w:=.slice (nC p (l * sz')) sz' (y - l) (cap - l) ex) ?_,ZJ hn hnp hd hm hx gl gy.2 (by omega) (by omega) (λ_ h=>h)⟩
      unfold j_
      rw [if_pos hz]
      simp only [AX.jK,Option.map_none,Option.map_some]
      rw [show b_ [] (some (hi.sub ρ)) n cap=some y from gy.1,Option.bind_some,g2,Option.bind_some]
    | some lo =>
     simp only [AX.jK,Option.map_none,Option.map_some,Ir] at hv
     split at hv
     case isFalse=>cases hv
     rename_i e
     subst e
     obtain ⟨y,g1,hv⟩:=Option.bind_eq_some_iff.1 hv
     obtain ⟨l,g2,hv⟩:=Option.bind_eq_some_iff.1 hv
     obtain rfl:=Option.some.inj hv
     have gy:b_ [] (AX.jK ρ hi) n cap=some y∧y≤n:=by
      cases hi with
      | none =>
       simp only [b_,Option.map_none,AX.jK,Option.some.injEq] at g1 ⊢
       omega
      | some hi=>exact iF g1 hn
     have gl:l≤y:=(iF g2 (Nat.le_refl _)).2
     refine ⟨_,tr (w:=.slice (nC p (l * sz')) sz' (y - l) (cap - l) ex) ?_,ZJ hn hnp hd hm hx gl gy.2 (by omega) (by omega) (λ_ h=>h)⟩
     unfold j_
     rw [if_pos hz]
     simp only [AX.jK,Option.map_none,Option.map_some]
     rw [show b_ [] (hi.map (AX.sub ρ)) n cap=some y from gy.1,Option.bind_some,g2,Option.bind_some]
   | some mx =>
    cases hi with
    | none=>cases lo<;>simp [AX.jK,Ir] at hv
    | some hi =>
     have hv':(if sz'=sz then (b_ [] (some (mx.sub ρ)) n n).bind λm=>(b_ [] (some (hi.sub ρ)) n m).bind λh=>(b_ [] (AX.jK ρ lo) 0 h).bind λl=>some (AV.acc b (off+l * sz) sz (h - l) false) else none)=some v:=by
      cases lo<;>simpa only [AX.jK,Option.map_none,Option.map_some,Ir] using hv
     clear hv
     split at hv'
     case isFalse=>cases hv'
     rename_i e
     subst e
     obtain ⟨m',g0,hv⟩:=Option.bind_eq_some_iff.1 hv'
     obtain ⟨y,g1,hv⟩:=Option.bind_eq_some_iff.1 hv
     obtain ⟨l,g2,hv⟩:=Option.bind_eq_some_iff.1 hv
     obtain rfl:=Option.some.inj hv
     obtain ⟨m1,m2⟩:=iF g0 hn
     obtain ⟨_,y2⟩:=iF g1 (Nat.le_refl _)
     have gl:l≤y:=by
      cases lo with
      | none=>simp only [b_,AX.jK,Option.map_none,Option.some.injEq] at g2;omega
      | some lo=>exact (iF g2 (Nat.le_refl _)).2
     refine ⟨_,tr (w:=.slice (nC p (l * sz')) sz' (y - l) (m' - l) true) ?_,ZJ hn hnp hd hm hx gl (by omega) (by omega) (by omega) (λ_ _=>rfl)⟩
     unfold j_
     rw [if_pos hz]
     simp only [AX.jK,Option.map_none,Option.map_some]
     rw [show b_ [] (some (mx.sub ρ)) cap cap=some m' from m1,Option.bind_some,g1,Option.bind_some]
     simp only [AX.jK] at g2
     rw [g2]
     rfl
  | _=>simp at hv
 | fieldAddr off x =>
  have hx:=fT h hc
  simp only [nU.sub,wP,aP] at hv ⊢
  generalize (x.sub ρ).ev []=X at *
  generalize (x.sub σ).ev []=X' at *
  cases X with
  | ptr p =>
   cases p with
   | none=>simp at hv
   | some q =>
    simp only [Option.some.injEq] at hv
    subst hv
    simp only [VL] at hx
    obtain ⟨j,h1,rfl⟩:=hx
    exact ⟨_,rfl,by simp only [VL];exact ⟨j,h1,rfl⟩⟩
  | elem cs =>
   simp only [Option.some.injEq] at hv
   subst hv
   simp only [VL] at hx
   obtain ⟨b,o,c,ro,sl,rfl,g1,g2,g3,g4⟩:=hx
   refine ⟨_,rfl, ?_⟩
   simp only [VL]
   refine ⟨b,_,c,ro,sl,rfl,g1,g2,g3, ?_⟩
   have:=g4.drop off
   rwa [List.drop_take,List.drop_drop,← List.length_drop] at this
  | _=>simp at hv
 | field g off n x =>
  have hx:=fT h hc
  simp only [nU.sub,wP,aP] at hv ⊢
  generalize (x.sub ρ).ev []=X at *
  generalize (x.sub σ).ev []=X' at *
  cases X<;>(try simp only at hv)<;>first | (cases hv;done) | skip
  simp only [VL] at hx
  obtain ⟨l',rfl,hl⟩:=hx
  exact ac1 hl (ZI hv).1
 | xZ n sz x i =>
  simp only [nU.bD,Bool.and_eq_true] at hc
  have hx:=fT h hc.1
  have hi:=fT h hc.2
  simp only [nU.sub,wP,aP] at hv ⊢
  generalize (x.sub ρ).ev []=X at *
  generalize (x.sub σ).ev []=X' at *
  generalize (i.sub ρ).ev []=I at *
  cases X with
  | ptr p =>
   cases p with
   | none=>simp at hv
   | some q =>
    cases I<;>(try simp only at hv)<;>first | (cases hv;done) | skip
    rw [hi.eq rfl]
    split at hv
    case isFalse=>cases hv
    rename_i hlt
    obtain rfl:=Option.some.inj hv
    simp only [VL] at hx
    obtain ⟨j,h1,rfl⟩:=hx
    simp only
    rw [if_pos hlt]
    exact ⟨_,rfl,by simp only [VL];exact ⟨j,h1,rfl⟩⟩
  | elem cs =>
   cases I<;>(try simp only at hv)<;>first | (cases hv;done) | skip
   rw [hi.eq rfl]
   split at hv
   case isFalse=>cases hv
   rename_i hlt
   obtain rfl:=Option.some.inj hv
   simp only [VL] at hx
   obtain ⟨b,o,c,ro,sl,rfl,g1,g2,g3,g4⟩:=hx
   simp only
   rw [if_pos hlt]
   refine ⟨_,rfl, ?_⟩
   simp only [VL]
   refine ⟨b,_,c,ro,sl,rfl,g1,g2,g3, ?_⟩
   rename_i k z
   have:=g4.drop (z.toNat * sz)
   rwa [List.drop_take,List.drop_drop,← List.length_drop] at this
  | _=>simp at hv
 | lZ sz x i =>
  simp only [nU.bD,Bool.and_eq_true] at hc
  have hx:=fT h hc.1
  have hi:=fT h hc.2
  simp only [nU.sub,wP,aP] at hv ⊢
  generalize (x.sub ρ).ev []=X at *
  generalize (x.sub σ).ev []=X' at *
  generalize (i.sub ρ).ev []=I at *
  cases X with
  | list sz' len cs ex =>
   cases I<;>(try simp only at hv)<;>first | (cases hv;done) | skip
   rename_i k z
   rw [hi.eq rfl]
   split at hv
   case isFalse=>cases hv
   rename_i hlt
   obtain rfl:=Option.some.inj hv
   simp only [VL] at hx
   obtain ⟨b,o,cap,ex',rfl,q1,q2,q3,q4⟩:=hx.resolve_left (λh=>by have:=h.1;omega)
   simp only
   rw [if_pos hlt]
   refine ⟨_,rfl, ?_⟩
   obtain ⟨c,ro,sl,g1,g2,g3,g4,g5⟩:=q4 (by omega)
   simp only [VL]
   refine ⟨b,_,c,ro,sl,rfl,g1,g2,g3, ?_⟩
   have:=g5.drop (z.toNat * sz)
   rwa [← q3,List.drop_take,List.drop_drop,← List.length_drop] at this
  | acc b off sz' n w =>
   cases I<;>(try simp only at hv)<;>first | (cases hv;done) | skip
   rename_i k z
   rw [hi.eq rfl]
   split at hv
   case isFalse=>cases hv
   rename_i hlt
   obtain rfl:=Option.some.inj hv
   simp only [VL] at hx
   obtain ⟨p,s',cap,ex,rfl,hn,hnp,hns,m,L,hd,hm,hw,hx⟩:=hx
   obtain ⟨j,g1,g2⟩:=hx.resolve_right (λh=>by have:=h.2.1;omega)
   obtain ⟨hps,_⟩:=g2.resolve_right (λh=>by have:=h.1;omega)
   subst hps
   obtain rfl:=hns (by simp)
   simp only
   rw [if_pos hlt]
   exact ⟨_,rfl,by simp only [VL];exact ⟨j,g1,rfl⟩⟩
  | _=>simp at hv
 | index g n sz x i =>
  simp only [nU.bD,Bool.and_eq_true] at hc
  have hx:=fT h hc.1
  have hi:=fT h hc.2
  simp only [nU.sub,wP,aP] at hv ⊢
  generalize (x.sub ρ).ev []=X at *
  generalize (x.sub σ).ev []=X' at *
  generalize (i.sub ρ).ev []=I at *
  cases X<;>(try simp only at hv)<;>first | (cases hv;done) | skip
  cases I<;>(try simp only at hv)<;>first | (cases hv;done) | skip
  rw [hi.eq rfl]
  simp only [VL] at hx
  obtain ⟨l',rfl,hl⟩:=hx
  simp only
  split at hv
  case isFalse=>cases hv
  rename_i hlt
  rw [if_pos hlt]
  exact ac1 hl hv
 | vI x i =>
  simp only [nU.bD,Bool.and_eq_true] at hc
  have hx:=fT h hc.1
  have hi:=fT h hc.2
  simp only [nU.sub,wP,aP] at hv ⊢
  generalize (x.sub ρ).ev []=X at *
  generalize (i.sub ρ).ev []=I at *
  cases X<;>(try simp only at hv)<;>first | (cases hv;done) | skip
  cases I<;>(try simp only at hv)<;>first | (cases hv;done) | skip
  rw [hi.eq rfl,hx.eq rfl]
  simp only
  split at hv
  case isFalse=>cases hv
  rename_i hlt
  rw [if_pos hlt,hv]
  obtain ⟨b,_,rfl⟩:=Option.map_eq_some_iff.1 hv
  exact ⟨_,rfl,by simp [VL]⟩
 | extract x i =>
  have hx:=fT h hc
  simp only [nU.sub,wP,aP] at hv ⊢
  generalize (x.sub ρ).ev []=X at *
  generalize (x.sub σ).ev []=X' at *
  cases X<;>(try simp only at hv)<;>first | (cases hv;done) | skip
  simp only [VL] at hx
  obtain ⟨l',rfl,hl⟩:=hx
  exact hl.get i v hv
 | len s x =>
  have hx:=fT h hc
  generalize hX:(x.sub ρ).ev []=X at *
  generalize hX':(x.sub σ).ev []=X' at *
  cases s with
  | true =>
   simp only [nU.sub,wP,aP,hX,hX'] at hv ⊢
   cases X<;>(try simp only at hv)<;>first | (cases hv;done) | skip
   rw [hx.eq rfl]
   obtain rfl:=Option.some.inj hv
   exact ⟨_,rfl,by simp [VL]⟩
  | false =>
   simp only [nU.sub,wP,aP,hX,hX'] at hv ⊢
   split at hv
   ·simp only [Option.some.injEq] at hv
    subst hv
    simp only [VL] at hx
    rcases hx with ⟨rfl,rfl,s',rfl⟩ | ⟨b,o,cap,ex',rfl,_⟩
    ·exact ⟨_,rfl,by simp [VL]⟩
    ·exact ⟨_,rfl,by simp [VL]⟩
   ·simp only [Option.some.injEq] at hv
    subst hv
    simp only [VL] at hx
    obtain ⟨p,s',cap,ex,rfl,_⟩:=hx
    exact ⟨_,rfl,by simp [VL]⟩
   ·simp only [Option.some.injEq] at hv
    subst hv
    simp only [VL] at hx
    obtain ⟨_,s',rfl⟩:=hx
    exact ⟨_,rfl,by simp [VL]⟩
   ·cases hv
 | cap x=>simp [nU.sub,wP] at hv
 | Ak m xs =>
  have hx:=Y_ h hc
  simp only [nU.sub,wP,aP] at hv ⊢
  generalize (xs.map (AX.sub ρ)).map (AX.ev [])=X at *
  generalize (xs.map (AX.sub σ)).map (AX.ev [])=X' at *
  cases X with
  | nil=>simp at hv
  | cons x r =>
   cases X' with
   | nil=>simp [bZ] at hx
   | cons x' r' =>
    simp only [bZ] at hx
    exact ac0 hx.1 hx.2 hv
end
end
end Go.Proofs.YtohoggieaanllaaGreat
end
section
set_option linter.all false
set_option linter.unusedSimpArgs false
namespace Go.Proofs.YtohoggieaanllaaGreat
theorem Iu:∀ (H:WH) (i:Nat),dS H i=(H[i]?).getD none
 | [],i=>by simp [dS]
 | x::_,0=>by simp [dS]
 | _::r,i+1=>by simp [dS,Iu r i]
theorem Za:∀ (H:WH) (i:Nat) (y:Option nT),iU H i y=H.set i y
 | [],i,y=>by simp [iU]
 | x::_,0,y=>by simp [iU]
 | _::r,i+1,y=>by simp [iU,Za r i y]
theorem wX {H:WH} {i:Nat} {x:nT} (h:dS H i=some x):i < H.length:=by
 rw [Iu] at h
 rcases Nat.lt_or_ge i H.length with k | k
 ·exact k
 ·rw [List.getElem?_eq_none k] at h
  cases h
theorem uf (H:WH) (i:Nat) (y:Option nT) (k:Nat):dS (iU H i y) k=if k=i∧i < H.length then y else dS H k:=by
 rw [Za,Iu,Iu,List.getElem?_set]
 by_cases h:i=k
 ·subst h
  by_cases hl:i < H.length
  ·simp [hl]
  ·simp [hl]
 ·simp [h,Ne.symm h,show ¬ k=i from λe=>h e.symm]
theorem TG (H G:WH) (k:Nat):dS (H++G) k=if k < H.length then dS H k else dS G (k - H.length):=by
 rw [Iu,Iu,Iu]
 by_cases h:k < H.length
 ·rw [if_pos h,List.getElem?_append_left h]
 ·rw [if_neg h,List.getElem?_append_right (by omega)]
theorem amY (x:Option nT) (k:Nat):dS [x] k=if k=0 then x else none:=by cases k<;>simp [dS]
theorem fG (H:WH) (i:Nat) (y:Option nT):(iU H i y).length=H.length:=by rw [Za,List.length_set]
theorem aem {H:WH} {k:Nat} (h:H.length≤k):dS H k=none:=by rw [Iu,List.getElem?_eq_none h];rfl
theorem rQ (H:WH) (x:Option nT) (k:Nat):dS (H++[x]) k=if k < H.length then dS H k else if k=H.length then x else none:=by
 rw [TG,amY]
 by_cases h:k < H.length
 ·rw [if_pos h,if_pos h]
 ·rw [if_neg h,if_neg h]
  by_cases e:k=H.length
  ·rw [if_pos (by omega),if_pos e]
  ·rw [if_neg (by omega),if_neg e]
theorem Stp.refl (n:Nat) (t:List Nat) (ι:VI) (H:WH) (M:Heap) (h:n≤H.length):Stp n t ι H M ι H M :=
 ⟨.refl _ _,.refl _ _,λ_ _ h=>h,λ_ _=>rfl,λ_ _=>rfl,λ_ _ _=>rfl,λ_ _ h=>h,λ_ _ _ _ _ _=>rfl,h⟩
theorem Stp.act {n:Nat} {t:List Nat} {ι oQ:VI} {H H1:WH} {M M1:Heap} (h:Stp n t ι H M oQ H1 M1) {i:Nat} (hi:i < n) (ha:act oQ H1 i):Proofs.YtohoggieaanllaaGreat.act ι H i :=
 ha.imp (h.live i hi) (λhg=>by
  cases e:ι.gone i with
  | false=>rfl
  | true=>rw [h.gone i hi e] at hg;cases hg)
theorem Stp.trans {n n':Nat} {t t':List Nat} {ι oQ Cv:VI} {H H1 H2:WH} {M M1 M2:Heap} (h:Stp n t ι H M oQ H1 M1) (k:Stp n' t' oQ H1 M1 Cv H2 M2) (hn:n≤n'):Stp n (t++t') ι H M Cv H2 M2 :=
 ⟨h.keep.trans k.keep,h.le.trans (k.le.sub λi hi=>by have:i < n:=hi;show i < n';omega),λi hi hg=>k.gone i (by omega) (h.gone i hi hg),λi hi=>(k.toq i (by omega)).trans (h.toq i hi),λi hi=>(k.aik i (by omega)).trans (h.aik i hi),
  λi hi hd=>by
   have hd1:dS H1 i=none:=by
    cases e:dS H1 i with
    | none=>rfl
    | some x =>
     obtain ⟨y,hy⟩:=h.live i hi ⟨x,e⟩
     rw [hd] at hy
     cases hy
   exact (k.acY i (by omega) hd1).trans (h.acY i hi hd),
  λi hi hl=>h.live i hi (k.live i (by omega) hl),
  λi j hi hl hj ht=>by
   rw [List.mem_append,not_or] at ht
   exact (k.tch i j (by omega) hl ((h.le i hi).1 j hj).1 ht.2).trans (h.tch i j hi (k.act (by omega) hl) hj ht.1),Nat.le_trans hn k.next⟩
theorem Stp.weak {n n':Nat} {t:List Nat} {ι oQ:VI} {H H1:WH} {M M1:Heap} (h:Stp n t ι H M oQ H1 M1) (hn:n'≤n):Stp n' t ι H M oQ H1 M1 :=
 ⟨h.keep,h.le.sub λi hi=>by have:i < n':=hi;show i < n;omega,λi hi=>h.gone i (by omega),λi hi=>h.toq i (by omega),λi hi=>h.aik i (by omega),λi hi=>h.acY i (by omega),λi hi=>h.live i (by omega),λi j hi=>h.tch i j (by omega),Nat.le_trans hn h.next⟩
theorem Stp.more {n:Nat} {t t':List Nat} {ι oQ:VI} {H H1:WH} {M M1:Heap} (h:Stp n t ι H M oQ H1 M1) (ht:∀ i,i < n→i∈t→i∈t'):Stp n t' ι H M oQ H1 M1 :=
 ⟨h.keep,h.le,h.gone,h.toq,h.aik,h.acY,h.live,λi j hi hl hj hn=>h.tch i j hi hl hj (λk=>hn (ht i hi k)),h.next⟩
theorem Stp.auQ {R:Nat→Prop} {t:List Nat} {ι bP:VI} {H H':WH} {M M':Heap} (s:VS R ι H M) (k:Stp H.length t ι H M bP H' M') (S:Nat→Prop):VI.Le ι bP S:=λi _ =>
 ⟨λj h=>(k.le i (s.lt i j h).1).1 j h,λh=>(k.le i (s.Dw i h).1).2 h⟩
theorem VL.step {R:Nat→Prop} {t:List Nat} {ι bP:VI} {H H':WH} {M M':Heap} (s:VS R ι H M) (k:Stp H.length t ι H M bP H' M') {v a:AV} (h:VL M (OR R ι) ι v a):VL M' (OR R bP) bP v a :=
 VL.mono (k.keep.or R) ι bP v a (k.auQ s _) h
theorem bZ.step {R:Nat→Prop} {t:List Nat} {ι bP:VI} {H H':WH} {M M':Heap} (s:VS R ι H M) (k:Stp H.length t ι H M bP H' M') {v a:List AV} (h:bZ M (OR R ι) ι v a):bZ M' (OR R bP) bP v a :=
 bZ.mono (k.keep.or R) ι bP v a (k.auQ s _) h
theorem bZ.lift {M:Heap} {O:Nat→Prop} {κ:VI} {l r:List AV} (h:bZ M O VI.none l r):bZ M O κ l r :=
 bZ.mono (.refl M O) _ κ l r (VI.Le.akn _ _) h
theorem bZ.kap {M:Heap} {O:Nat→Prop} {κ:VI} {sl:Bool} {l r:List AV} (h:bZ M O (if sl then VI.none else κ) l r):bZ M O κ l r:=by
 cases sl with
 | true=>exact bZ.lift h
 | false=>exact h
theorem bZ.ac4 {R:Nat→Prop} {n:Nat} {t:List Nat} {ι bP:VI} {H H':WH} {M M':Heap} (k:Stp n t ι H M bP H' M') {v a:List AV} (h:bZ M (OR R ι) VI.none v a):bZ M' (OR R bP) VI.none v a :=
 bZ.mono (k.keep.or R) VI.none VI.none v a (VI.Le.refl _ _) h
theorem BL.mono {M M':Heap} {O O':Nat→Prop} (hk:Keeps M O M' O') {κ y7:VI} (h:∀ S,VI.Le κ y7 S) {d d':Option (Nat×Nat)} (hd:∀ x,d=some x→d'=some x) {x:nT} {y:Option nT} (r:BL M O κ d x y):BL M' O' y7 d' x y:=by
 cases x with
 | cells c ro sl =>
  obtain ⟨c',t,ro',sl',L,rfl,h0,h1,h2,h3,h4⟩:=r
  refine ⟨c',t,ro',sl',L,rfl,h0,hd _ h1,h2, ?_,h4⟩
  cases sl with
  | true=>exact bZ.mono hk _ _ c c' (.refl _ _) h3
  | false=>exact bZ.mono hk κ y7 c c' (h _) h3
 | map es=>exact r.elim
theorem VS.at {R:Nat→Prop} {ι:VI} {H:WH} {M:Heap} (s:VS R ι H M) {b j:Nat} (hb:ι b=some j) {c:List AV} {ro sl:Bool} (hg:dS H b=some (.cells c ro sl)) :
  ∃ c' t ro' sl' L,M.get j=some (.cells (c'++t) ro' sl')∧(ro=false→ro'=false∧ι.gone b=false)∧ι.dim b=some (c.length,L)∧L≤(c'++t).length∧bZ M (OR R ι) (if sl then VI.none else ι) c c':=by
 rcases s.blk b _ hg with ⟨h,_⟩ | ⟨j',h1,⟨c',t,ro',sl',L,h2,h3,h4,h5,h6,_⟩,h7⟩
 ·rw [(s.Dw b h).2] at hb
  cases hb
 ·rw [hb] at h1
  obtain rfl:=Option.some.inj h1
  exact ⟨c',t,ro',sl',L,h2,λh=>⟨h3 h,h7 h⟩,h4,h5,h6⟩
theorem VS.auR {R:Nat→Prop} {ι:VI} {H:WH} {M:Heap} (s:VS R ι H M) {b j:Nat} (hb:ι b=some j) {c:List AV} {ro sl:Bool} (hg:dS H b=some (.cells c ro sl)) {c':List AV} {ro' sl':Bool} (hj:M.get j=some (.cells c' ro' sl')) (h:sl=false):sl'=false:=by
 rcases s.blk b _ hg with ⟨h,_⟩ | ⟨j',h1,⟨d',t,ro2,sl2,L,h2,h3,h4,h5,h6,h8⟩,h7⟩
 ·rw [(s.Dw b h).2] at hb
  cases hb
 ·rw [hb] at h1
  obtain rfl:=Option.some.inj h1
  rw [hj] at h2
  simp only [Option.some.injEq,nT.cells.injEq] at h2
  rw [h2.2.2]
  exact h8 h
def setAt {α:Type} (f:Nat→α) (i:Nat) (x:α):Nat→α:=λk=>if k=i then x else f k
def VI.add (ι:VI) (i j:Nat) (d:Nat×Nat):VI:=⟨setAt ι.to i (some j),setAt ι.VH i false,setAt ι.gone i false,setAt ι.dim i (some d)⟩
def VI.iJ (ι:VI) (i:Nat):VI:=⟨setAt ι.to i Option.none,setAt ι.VH i true,setAt ι.gone i false,setAt ι.dim i (some (0,0))⟩
def VI.kill (ι:VI) (i:Nat):VI:=⟨ι.to,ι.VH,setAt ι.gone i true,ι.dim⟩
theorem qX {α:Type} (f:Nat→α) (i:Nat) (x:α):setAt f i x i=x:=by simp [setAt]
theorem cu {α:Type} (f:Nat→α) {i k:Nat} (x:α) (h:k≠i):setAt f i x k=f k:=by simp [setAt,h]
theorem VS.put {R:Nat→Prop} {ι:VI} {H:WH} {M:Heap} (s:VS R ι H M) {b j:Nat} (hb:ι b=some j) {c0:List AV} {sl0:Bool} (hg:dS H b=some (.cells c0 false sl0)) {x y:nT} (hx:BL M (OR R ι) ι (ι.dim b) x (some y)) :
  VS R ι (iU H b (some x)) (M.put j (some y))∧Stp H.length [b] ι H M ι (iU H b (some x)) (M.put j (some y)):=by
 obtain ⟨_,_,_,_,_,_,hw,_⟩:=s.at hb hg
 have hgo:=(hw rfl).2
 have hbl:=wX hg
 have hk:Keeps M (own ι) (M.put j (some y)) (own ι):=⟨Nat.le_refl _,λb' _ ho=>⟨by
  have:b'≠j:=λe=>ho (e ▸ ⟨b,hb,hgo⟩)
  simp [Heap.put,this],ho⟩⟩
 have gp:∀ k,dS (iU H b (some x)) k=if k=b then some x else dS H k:=λk=>by
  rw [uf]
  by_cases e:k=b
  ·rw [if_pos ⟨e,hbl⟩,if_pos e]
  ·rw [if_neg (λh=>e h.1),if_neg e]
 have lv:∀ k,(∃ z,dS (iU H b (some x)) k=some z)→∃ z,dS H k=some z:=λk ⟨z,hz⟩=>by
  rw [gp] at hz
  by_cases e:k=b
  ·exact ⟨_,e ▸ hg⟩
  ·rw [if_neg e] at hz
   exact ⟨z,hz⟩
 refine ⟨⟨λi j h=>?_,λi i' j h h' e e'=>s.inj i i' j (h.imp (lv i) id) (h'.imp (lv i') id) e e',λi z hz=>?_,λi h=>?_,λi hi c sl h=>?_,λi hi=>?_,λj h=>⟨(s.res j h).1,λi hi=>(s.res j h).2 i (hi.imp (lv i) id)⟩⟩,⟨hk,.refl _ _,λ_ _ h=>h,λ_ _=>rfl,λ_ _=>rfl,λ_ _ _=>rfl,λi _=>lv i,λi j' hi hl hj ht=>?_,by rw [fG];exact Nat.le_refl _⟩⟩
 ·rw [fG]
  exact s.lt i j h
 ·rw [gp] at hz
  by_cases e:i=b
  ·subst e
   rw [if_pos rfl] at hz
   obtain rfl:=Option.some.inj hz
   refine .inr ⟨j,hb, ?_,λ_=>hgo⟩
   simp only [Heap.put,if_true]
   exact hx.mono (hk.or R) (λ_=>.refl _ _) (λ_ h=>h)
  ·rw [if_neg e] at hz
   rcases s.blk i z hz with h | ⟨j',h1,h2,h3⟩
   ·exact .inl h
   ·have:j'≠j:=λe'=>e (s.inj i b j (.inl ⟨z,hz⟩) (.inl ⟨_,hg⟩) (e' ▸ h1) hb (.inr hgo))
    refine .inr ⟨j',h1, ?_,h3⟩
    simp only [Heap.put,if_neg this]
    exact h2.mono (hk.or R) (λ_=>.refl _ _) (λ_ h=>h)
 ·rw [fG]
  exact s.Dw i h
 ·rw [gp] at h
  have:i≠b:=λe=>by subst e;rw [hgo] at hi;cases hi
  rw [if_neg this] at h
  exact s.Dc i hi c sl h
 ·have:=(s.lt b j hb).2
  have:i≠j:=λe=>by subst e;simp only [Heap.put] at hi;omega
  simp only [Heap.put,if_neg this]
  exact s.okM i hi
 ·have hib:i≠b:=λe=>ht (by simp [e])
  have:j'≠j:=λe'=>hib (s.inj i b j (hl.imp (lv i) id) (.inl ⟨_,hg⟩) (e' ▸ hj) hb (.inr hgo))
  simp [Heap.put,this]
theorem amZ {ι:VI} {b j:Nat} (h:own (ι.kill b) j):own ι j:=by
 obtain ⟨i,h1,h2⟩:=h
 refine ⟨i,h1, ?_⟩
 simp only [VI.kill,setAt] at h2
 split at h2
 ·cases h2
 ·exact h2
theorem VS.kill {R:Nat→Prop} {ι:VI} {H:WH} {M:Heap} (s:VS R ι H M) {b j:Nat} (hb:ι b=some j) {c0:List AV} {sl0:Bool} (hg:dS H b=some (.cells c0 false sl0)) (y:Option nT) :
  VS R (ι.kill b) (iU H b none) (M.put j y)∧Stp H.length [b] ι H M (ι.kill b) (iU H b none) (M.put j y):=by
 obtain ⟨_,_,_,_,_,_,hw,_⟩:=s.at hb hg
 have hgo:=(hw rfl).2
 have hbl:=wX hg
 have hk:Keeps M (own ι) (M.put j y) (own (ι.kill b)):=⟨Nat.le_refl _,λb' _ ho=>⟨by
  have:b'≠j:=λe=>ho (e ▸ ⟨b,hb,hgo⟩)
  simp [Heap.put,this],λk=>ho (amZ k)⟩⟩
 have gp:∀ k,dS (iU H b none) k=if k=b then none else dS H k:=λk=>by
  rw [uf]
  by_cases e:k=b
  ·rw [if_pos ⟨e,hbl⟩,if_pos e]
  ·rw [if_neg (λh=>e h.1),if_neg e]
 have lv:∀ k,(∃ z,dS (iU H b none) k=some z)→k≠b∧∃ z,dS H k=some z:=λk ⟨z,hz⟩=>by
  rw [gp] at hz
  by_cases e:k=b
  ·rw [if_pos e] at hz;cases hz
  ·rw [if_neg e] at hz
   exact ⟨e,z,hz⟩
 have gk:∀ i,(ι.kill b).gone i=false→ι.gone i=false:=λi h=>by
  simp only [VI.kill,setAt] at h
  split at h
  ·cases h
  ·exact h
 have ac:∀ i,act (ι.kill b) (iU H b none) i→act ι H i:=λi h=>h.imp (λh=>(lv i h).2) (λh=>by
  simp only [VI.kill,setAt] at h
  split at h
  ·cases h
  ·exact h)
 refine ⟨⟨λi j h=>?_,λi i' j h h' e e' g=>s.inj i i' j (ac i h) (ac i' h') e e' (g.imp (λg=>gk i g) (λg=>gk i' g)),λi z hz=>?_,λi h=>?_,λi hi c sl h=>?_,λi hi=>?_,λj h=>⟨(s.res j h).1,λi hi=>(s.res j h).2 i (ac i hi)⟩⟩,⟨hk,λ_ _=>⟨λ_ h=>⟨h,λ_ h=>h⟩,λh=>⟨h,λ_ h=>h⟩⟩,λi _ h=>?_,λ_ _=>rfl,λ_ _=>rfl,λi _ h=>?_,λi _ h=>(lv i h).2,λi j' hi hl hj ht=>?_,by rw [fG];exact Nat.le_refl _⟩⟩
 ·rw [fG]
  exact s.lt i j h
 ·have e:=(lv i ⟨z,hz⟩).1
  rw [gp,if_neg e] at hz
  rcases s.blk i z hz with h | ⟨j',h1,h2,h3⟩
  ·exact .inl h
  ·have:j'≠j:=λe'=>e (s.inj i b j (.inl ⟨z,hz⟩) (.inl ⟨_,hg⟩) (e' ▸ h1) hb (.inr hgo))
   refine .inr ⟨j',h1, ?_,λh=>by simp only [VI.kill,cu _ _ e];exact h3 h⟩
   simp only [Heap.put,if_neg this]
   exact BL.mono (κ:=ι) (y7:=ι.kill b) (d:=ι.dim i) (hk.or R) (λ_ _ _=>⟨λ_ h=>⟨h,λ_ h=>h⟩,λh=>⟨h,λ_ h=>h⟩⟩) (λ_ h=>h) h2
 ·rw [fG]
  exact s.Dw i h
 ·have e:=(lv i ⟨_,h⟩).1
  rw [gp,if_neg e] at h
  simp only [VI.kill,cu _ _ e] at hi
  exact s.Dc i hi c sl h
 ·have:=(s.lt b j hb).2
  have:i≠j:=λe=>by subst e;simp only [Heap.put] at hi;omega
  simp only [Heap.put,if_neg this]
  exact s.okM i hi
 ·simp only [VI.kill,setAt]
  split
  ·rfl
  ·exact h
 ·have hib:i≠b:=λe=>by subst e;rw [hg] at h;cases h
  simp only [VI.kill,cu _ _ hib]
 ·have hib:i≠b:=λe=>ht (by simp [e])
  have:j'≠j:=λe'=>hib (s.inj i b j (ac i hl) (.inl ⟨_,hg⟩) (e' ▸ hj) hb (.inr hgo))
  simp [Heap.put,this]
theorem Heap.TH {M:Heap} {j:Nat} {y:Option nT} (h:M.get j=y):M.put j y=M:=by
 cases M
 simp only [Heap.put]
 congr 1
 funext i
 by_cases e:i=j
 ·subst e;simp;exact h.symm
 ·simp [e]
theorem avn {R:Nat→Prop} {ι:VI} {H:WH} {M:Heap} (s:VS R ι H M) {i:Nat} (hi:H.length≤i) (j:Nat) (d:Nat×Nat) (S:Nat→Prop):VI.Le ι (ι.add i j d) S:=λk _ =>
 ⟨λj' h=>by
  have:k≠i:=by have:=(s.lt k j' h).1;omega
  simp only [VI.add,cu _ _ this]
  exact ⟨h,λ_ h=>h⟩,
  λh=>by
  have:k≠i:=by have:=(s.Dw k h).1;omega
  simp only [VI.add,cu _ _ this]
  exact ⟨h,λ_ h=>h⟩⟩
theorem ala {R:Nat→Prop} {ι:VI} {H:WH} {M:Heap} (s:VS R ι H M) {i:Nat} (hi:H.length≤i) (S:Nat→Prop):VI.Le ι (ι.iJ i) S:=λk _ =>
 ⟨λj' h=>by
  have:k≠i:=by have:=(s.lt k j' h).1;omega
  simp only [VI.iJ,cu _ _ this]
  exact ⟨h,λ_ h=>h⟩,
  λh=>by
  have:k≠i:=by have:=(s.Dw k h).1;omega
  simp only [VI.iJ,cu _ _ this]
  exact ⟨h,λ_ h=>h⟩⟩
theorem VS.push {R:Nat→Prop} {ι:VI} {H:WH} {M:Heap} (s:VS R ι H M) {x y:nT} {d:Nat×Nat} (hx:BL M (OR R ι) ι (some d) x (some y)) :
  VS R (ι.add H.length M.next d) (H++[some x]) (M.push y)∧Stp H.length [] ι H M (ι.add H.length M.next d) (H++[some x]) (M.push y):=by
 have hls:=λS=>avn s (Nat.le_refl _) M.next d S
 have hk:Keeps M (own ι) (M.push y) (own (ι.add H.length M.next d)):=⟨Nat.le_succ _,λb hb ho=>⟨by simp [Heap.push,Nat.ne_of_lt hb],λ⟨i,hi,hg⟩=>by
  by_cases e:i=H.length
  ·subst e
   simp only [VI.add,qX,Option.some.injEq] at hi
   omega
  ·simp only [VI.add,cu _ _ e] at hi hg
   exact ho ⟨i,hi,hg⟩⟩⟩
 have ac:∀ i,i≠H.length→act (ι.add H.length M.next d) (H++[some x]) i→act ι H i:=λi a h=>by
  rcases h with ⟨z,h⟩ | h
  ·rw [rQ] at h
   split at h
   ·exact .inl ⟨z,h⟩
   ·first | (cases h;done) | (rw [if_neg a] at h;cases h)
  ·simp only [VI.add,cu _ _ a] at h
   exact .inr h
 refine ⟨⟨λi j h=>?_,λi i' j h h' e e' g=>?_,λi z hz=>?_,λi hi=>?_,λi hi c sl h=>?_,λi hi=>?_,λj h=>?_⟩,⟨hk,hls _,λi hi hg=>?_,λi hi=>by simp only [VI.add,cu _ _ (show i≠H.length by omega)],λi hi=>by simp only [VI.add,cu _ _ (show i≠H.length by omega)],λi hi _=>by simp only [VI.add,cu _ _ (show i≠H.length by omega)],λi hi hl=>?_,λi j hi hl hj _=>?_,by simp⟩⟩
 ·by_cases e:i=H.length
  ·subst e
   simp only [VI.add,qX,Option.some.injEq] at h
   simp [Heap.push];omega
  ·simp only [VI.add,cu _ _ e] at h
   have:=s.lt i j h
   simp [Heap.push];omega
 ·by_cases a:i=H.length
  ·by_cases a':i'=H.length
   ·rw [a,a']
   ·rw [a] at e
    simp only [VI.add,qX,Option.some.injEq] at e
    simp only [VI.add,cu _ _ a'] at e'
    have:=(s.lt _ _ e').2
    omega
  ·simp only [VI.add,cu _ _ a] at e
   by_cases a':i'=H.length
   ·rw [a'] at e'
    simp only [VI.add,qX,Option.some.injEq] at e'
    have:=(s.lt _ _ e).2
    omega
   ·simp only [VI.add,cu _ _ a'] at e'
    simp only [VI.add,cu _ _ a',cu _ _ a] at g
    exact s.inj i i' j (ac i a h) (ac i' a' h') e e' g
 ·rw [rQ] at hz
  split at hz
  ·rename_i hl
   have e:i≠H.length:=by omega
   rcases s.blk i z hz with ⟨h1,h2,h3⟩ | ⟨j,h1,h2,h3⟩
   ·exact .inl (by simp only [VI.add,cu _ _ e];exact ⟨h1,h2,h3⟩)
   ·have:=(s.lt i j h1).2
    refine .inr ⟨j,by simp only [VI.add,cu _ _ e];exact h1, ?_,by simp only [VI.add,cu _ _ e];exact h3⟩
    simp only [Heap.push,if_neg (show j≠M.next by omega)]
    exact h2.mono (hk.or R) hls (λ_ h=>by simp only [VI.add,cu _ _ e];exact h)
  ·split at hz
   ·rename_i e
    obtain rfl:=Option.some.inj hz
    subst e
    refine .inr ⟨M.next,by simp [VI.add,setAt], ?_,λ_=>by simp [VI.add,setAt]⟩
    simp only [Heap.push,if_true]
    exact hx.mono (hk.or R) hls (λ_ h=>by simpa [VI.add,setAt] using h)
   ·cases hz
 ·by_cases e:i=H.length
  ·subst e
   simp [VI.add,setAt] at hi
  ·simp only [VI.add,cu _ _ e] at hi ⊢
   have:=s.Dw i hi
   exact ⟨by simp;omega,this.2⟩
 ·by_cases e:i=H.length
  ·subst e
   simp [VI.add,setAt] at hi
  ·simp only [VI.add,cu _ _ e] at hi
   rw [rQ] at h
   split at h
   ·exact s.Dc i hi c sl h
   ·first | (cases h;done) | (rw [if_neg e] at h;cases h)
 ·simp only [Heap.push] at hi ⊢
  rw [if_neg (by omega)]
  exact s.okM i (by omega)
 ·obtain ⟨h1,h2⟩:=s.res j h
  refine ⟨by simp only [Heap.push];omega,λi hi=>?_⟩
  by_cases e:i=H.length
  ·subst e
   simp only [VI.add,qX,ne_eq,Option.some.injEq]
   omega
  ·have:=h2 i (ac i e hi)
   simp only [VI.add,cu _ _ e]
   exact this
 ·simp only [VI.add,cu _ _ (show i≠H.length by omega)]
  exact hg
 ·obtain ⟨z,hl⟩:=hl
  rw [rQ,if_pos hi] at hl
  exact ⟨z,hl⟩
 ·simp [Heap.push,show j≠M.next from by have:=(s.lt i j hj).2;omega]
theorem VS.aq7 {R:Nat→Prop} {ι:VI} {H:WH} {M:Heap} (s:VS R ι H M) :
  VS R (ι.iJ H.length) (H++[some (.cells [] false true)]) M∧Stp H.length [] ι H M (ι.iJ H.length) (H++[some (.cells [] false true)]) M:=by
 have hls:=λS=>ala s (Nat.le_refl _) S
 have ho:∀ j,own (ι.iJ H.length) j→own ι j:=λj ⟨i,hi,hg⟩=>by
  by_cases e:i=H.length
  ·subst e
   simp [VI.iJ,qX] at hi
  ·simp only [VI.iJ,cu _ _ e] at hi hg
   exact ⟨i,hi,hg⟩
 have hk:Keeps M (own ι) M (own (ι.iJ H.length)):=⟨Nat.le_refl _,λb hb h=>⟨rfl,λk=>h (ho b k)⟩⟩
 have ac:∀ i,i≠H.length→act (ι.iJ H.length) (H++[some (.cells [] false true)]) i→act ι H i:=λi a h=>by
  rcases h with ⟨z,h⟩ | h
  ·rw [rQ] at h
   split at h
   ·exact .inl ⟨z,h⟩
   ·first | (cases h;done) | (rw [if_neg a] at h;cases h)
  ·simp only [VI.iJ,cu _ _ a] at h
   exact .inr h
 refine ⟨⟨λi j h=>?_,λi i' j h h' e e' g=>?_,λi z hz=>?_,λi hi=>?_,λi hi c sl h=>?_,s.okM,λj h=>⟨(s.res j h).1,λi hi=>?_⟩⟩,⟨hk,hls _,λi hi hg=>?_,λi hi=>by simp only [VI.iJ,cu _ _ (show i≠H.length by omega)],λi hi=>by simp only [VI.iJ,cu _ _ (show i≠H.length by omega)],λi hi _=>by simp only [VI.iJ,cu _ _ (show i≠H.length by omega)],λi hi hl=>?_,λi j hi hl hj _=>rfl,by simp⟩⟩
 ·by_cases e:i=H.length
  ·subst e
   simp [VI.iJ,qX] at h
  ·simp only [VI.iJ,cu _ _ e] at h
   have:=s.lt i j h
   simp;omega
 ·have a:i≠H.length:=λa=>by subst a;simp [VI.iJ,qX] at e
  have a':i'≠H.length:=λa=>by subst a;simp [VI.iJ,qX] at e'
  exact s.inj i i' j (ac i a h) (ac i' a' h') (by simpa only [VI.iJ,cu _ _ a] using e) (by simpa only [VI.iJ,cu _ _ a'] using e') (by simpa only [VI.iJ,cu _ _ a',cu _ _ a] using g)
 ·rw [rQ] at hz
  split at hz
  ·rename_i hl
   have e:i≠H.length:=by omega
   rcases s.blk i z hz with ⟨h1,h2,h3⟩ | ⟨j,h1,h2,h3⟩
   ·exact .inl (by simp only [VI.iJ,cu _ _ e];exact ⟨h1,h2,h3⟩)
   ·exact .inr ⟨j,by simp only [VI.iJ,cu _ _ e];exact h1,h2.mono (hk.or R) hls (λ_ h=>by simp only [VI.iJ,cu _ _ e];exact h),by simp only [VI.iJ,cu _ _ e];exact h3⟩
  ·split at hz
   ·rename_i e
    obtain rfl:=Option.some.inj hz
    subst e
    exact .inl ⟨by simp [VI.iJ,setAt],by simp [VI.iJ,setAt],false,rfl⟩
   ·cases hz
 ·by_cases e:i=H.length
  ·subst e
   simp [VI.iJ,setAt]
  ·simp only [VI.iJ,cu _ _ e] at hi ⊢
   have:=s.Dw i hi
   exact ⟨by simp;omega,this.2⟩
 ·by_cases e:i=H.length
  ·subst e
   simp [VI.iJ,setAt] at hi
  ·simp only [VI.iJ,cu _ _ e] at hi
   rw [rQ] at h
   split at h
   ·exact s.Dc i hi c sl h
   ·first | (cases h;done) | (rw [if_neg e] at h;cases h)
 ·by_cases e:i=H.length
  ·subst e
   simp [VI.iJ,qX]
  ·have:=(s.res j h).2 i (ac i e hi)
   simp only [VI.iJ,cu _ _ e]
   exact this
 ·simp only [VI.iJ,cu _ _ (show i≠H.length by omega)]
  exact hg
 ·obtain ⟨z,hl⟩:=hl
  rw [rQ,if_pos hi] at hl
  exact ⟨z,hl⟩
theorem VS.ako {R:Nat→Prop} {ι:VI} {H:WH} {M:Heap} (s:VS R ι H M) {b:Nat} (hb:ι.VH b=true):VS R ι (iU H b none) M∧Stp H.length [b] ι H M ι (iU H b none) M:=by
 have lv:∀ k,(∃ z,dS (iU H b none) k=some z)→k≠b∧∃ z,dS H k=some z:=λk ⟨z,hz⟩=>by
  rw [uf] at hz
  split at hz
  ·cases hz
  ·rename_i h
   exact ⟨λe=>h ⟨e,(s.Dw b hb).1⟩,z,hz⟩
 have gn:∀ k,k≠b→dS (iU H b none) k=dS H k:=λk h=>by rw [uf,if_neg (λe=>h e.1)]
 refine ⟨⟨λi j h=>by rw [fG];exact s.lt i j h,λi i' j h h' e e'=>s.inj i i' j (h.imp (λh=>(lv i h).2) id) (h'.imp (λh=>(lv i' h).2) id) e e',λi z hz=>?_,λi h=>by rw [fG];exact s.Dw i h,λi hi c sl h=>?_,s.okM,λj h=>⟨(s.res j h).1,λi hi=>(s.res j h).2 i (hi.imp (λh=>(lv i h).2) id)⟩⟩,⟨.refl _ _,.refl _ _,λ_ _ h=>h,λ_ _=>rfl,λ_ _=>rfl,λ_ _ _=>rfl,λi _ h=>(lv i h).2,λ_ _ _ _ _ _=>rfl,by rw [fG];exact Nat.le_refl _⟩⟩
 ·have e:=(lv i ⟨z,hz⟩).1
  rw [gn i e] at hz
  exact s.blk i z hz
 ·have e:=(lv i ⟨_,h⟩).1
  rw [gn i e] at h
  exact s.Dc i hi c sl h
theorem VS.swap {R:Nat→Prop} {ι:VI} {H:WH} {M:Heap} (s:VS R ι H M) {b j:Nat} (hb:ι b=some j) {c0:List AV} {sl0:Bool} (hg:dS H b=some (.cells c0 false sl0)) {x y:nT} {d:Nat×Nat} (hx:BL M (OR R ι) ι (some d) x (some y)) :
  VS R ((ι.kill b).add H.length j d) (iU H b none++[some x]) (M.put j (some y))∧Stp H.length [b] ι H M ((ι.kill b).add H.length j d) (iU H b none++[some x]) (M.put j (some y))∧((ι.kill b).add H.length j d) H.length=some j:=by
 obtain ⟨_,_,_,_,_,_,hw,_⟩:=s.at hb hg
 have hgo:=(hw rfl).2
 have hbl:=wX hg
 have hj:=(s.lt b j hb).2
 have hto:∀ i,i≠H.length→((ι.kill b).add H.length j d) i=ι i:=λi e=>by simp only [VI.add,VI.kill,cu _ _ e]
 have avo:∀ i,i≠H.length→((ι.kill b).add H.length j d).VH i=ι.VH i:=λi e=>by simp only [VI.add,VI.kill,cu _ _ e]
 have am0:∀ i,i≠H.length→((ι.kill b).add H.length j d).dim i=ι.dim i:=λi e=>by simp only [VI.add,VI.kill,cu _ _ e]
 have hgn:∀ i,i≠H.length→i≠b→((ι.kill b).add H.length j d).gone i=ι.gone i:=λi e e'=>by simp only [VI.add,VI.kill,cu _ _ e,cu _ _ e']
 have hself:((ι.kill b).add H.length j d) H.length=some j:=by simp [VI.add,setAt]
 have ho:∀ k,own ((ι.kill b).add H.length j d) k→own ι k:=λk ⟨i,hi,hg'⟩=>by
  by_cases e:i=H.length
  ·subst e
   rw [hself] at hi
   obtain rfl:=Option.some.inj hi
   exact ⟨b,hb,hgo⟩
  ·rw [hto i e] at hi
   by_cases e':i=b
   ·subst e'
    exact ⟨i,hi,hgo⟩
   ·rw [hgn i e e'] at hg'
    exact ⟨i,hi,hg'⟩
 have hls:∀ S,VI.Le ι ((ι.kill b).add H.length j d) S:=λS k _ =>
  ⟨λj' h=>by
   have:k≠H.length:=by have:=(s.lt k j' h).1;omega
   rw [hto k this,am0 k this]
   exact ⟨h,λ_ h=>h⟩,
   λh=>by
   have:k≠H.length:=by have:=(s.Dw k h).1;omega
   rw [avo k this,am0 k this]
   exact ⟨h,λ_ h=>h⟩⟩
 have hk:Keeps M (own ι) (M.put j (some y)) (own ((ι.kill b).add H.length j d)):=⟨Nat.le_refl _,λb' _ h=>⟨by
  have:b'≠j:=λe=>h (e ▸ ⟨b,hb,hgo⟩)
  simp [Heap.put,this],λk=>h (ho b' k)⟩⟩
 have gp:∀ k,dS (iU H b none++[some x]) k=if k=H.length then some x else if k=b then none else dS H k:=λk=>by
  rw [rQ,fG,uf]
  by_cases e:k < H.length
  ·rw [if_pos e,if_neg (show k≠H.length by omega)]
   by_cases e':k=b
   ·rw [if_pos ⟨e',hbl⟩,if_pos e']
   ·rw [if_neg (λh=>e' h.1),if_neg e']
  ·rw [if_neg e]
   by_cases e':k=H.length
   ·rw [if_pos e',if_pos e']
   ·rw [if_neg e',if_neg e',if_neg (show k≠b by omega),aem (by omega)]
 have lv:∀ k,k≠H.length→(∃ z,dS (iU H b none++[some x]) k=some z)→k≠b∧∃ z,dS H k=some z:=λk hn ⟨z,hz⟩=>by
  rw [gp,if_neg hn] at hz
  by_cases e:k=b
  ·rw [if_pos e] at hz;cases hz
  ·rw [if_neg e] at hz
   exact ⟨e,z,hz⟩
 have ac:∀ i,i≠H.length→act ((ι.kill b).add H.length j d) (iU H b none++[some x]) i→i≠b∧act ι H i:=λi a h=>by
  rcases h with h | h
  ·exact ⟨(lv i a h).1,.inl (lv i a h).2⟩
  ·have e':i≠b:=λe'=>by subst e';simp [VI.add,VI.kill,setAt,a] at h
   rw [hgn i a e'] at h
   exact ⟨e',.inr h⟩
 refine ⟨⟨λi k h=>?_,λi i' k h h' e e' g=>?_,λi z hz=>?_,λi hi=>?_,λi hi c sl h=>?_,λi hi=>?_,λk h=>⟨(s.res k h).1,λi hi=>?_⟩⟩,⟨hk,hls _,λi hi h=>?_,λi hi=>hto i (by omega),λi hi=>am0 i (by omega),λi hi h=>hgn i (by omega) (λe=>by subst e;rw [hg] at h;cases h),λi hi h=>(lv i (by omega) h).2,λi k hi hl hk' ht=>?_,by simp [fG]⟩,hself⟩
 ·simp only [List.length_append,fG,List.length_singleton,Heap.put]
  by_cases e:i=H.length
  ·subst e
   rw [hself] at h
   obtain rfl:=Option.some.inj h
   omega
  ·rw [hto i e] at h
   have:=s.lt i k h
   omega
 ·by_cases a:i=H.length
  ·by_cases a':i'=H.length
   ·rw [a,a']
   ·rw [a,hself] at e
    obtain rfl:=Option.some.inj e
    rw [hto i' a'] at e'
    obtain ⟨q1,q2⟩:=ac i' a' h'
    exact absurd (s.inj i' b j q2 (.inl ⟨_,hg⟩) e' hb (.inr hgo)) q1
  ·rw [hto i a] at e
   obtain ⟨q1,q2⟩:=ac i a h
   by_cases a':i'=H.length
   ·rw [a',hself] at e'
    obtain rfl:=Option.some.inj e'
    exact absurd (s.inj i b j q2 (.inl ⟨_,hg⟩) e hb (.inr hgo)) q1
   ·rw [hto i' a'] at e'
    obtain ⟨q3,q4⟩:=ac i' a' h'
    rw [hgn i a q1,hgn i' a' q3] at g
    exact s.inj i i' k q2 q4 e e' g
 ·by_cases e:i=H.length
  ·subst e
   rw [gp,if_pos rfl] at hz
   obtain rfl:=Option.some.inj hz
   refine .inr ⟨j,hself, ?_,λ_=>by simp [VI.add,setAt]⟩
   simp only [Heap.put,if_true]
   exact hx.mono (hk.or R) hls (λ_ h=>by simpa [VI.add,setAt] using h)
  ·obtain ⟨q1,q2⟩:=lv i e ⟨z,hz⟩
   rw [gp,if_neg e,if_neg q1] at hz
   rcases s.blk i z hz with ⟨h1,h2,h3⟩ | ⟨k,h1,h2,h3⟩
   ·exact .inl ⟨by rw [avo i e];exact h1,by rw [am0 i e];exact h2,h3⟩
   ·have:k≠j:=λe'=>q1 (s.inj i b j (.inl ⟨z,hz⟩) (.inl ⟨_,hg⟩) (e' ▸ h1) hb (.inr hgo))
    refine .inr ⟨k,by rw [hto i e];exact h1, ?_,by rw [hgn i e q1];exact h3⟩
    simp only [Heap.put,if_neg this]
    exact h2.mono (hk.or R) hls (λ_ h=>by rw [am0 i e];exact h)
 ·by_cases e:i=H.length
  ·subst e
   simp [VI.add,setAt] at hi
  ·rw [avo i e] at hi
   have:=s.Dw i hi
   rw [hto i e]
   exact ⟨by simp [fG];omega,this.2⟩
 ·by_cases e:i=H.length
  ·subst e
   simp [VI.add,setAt] at hi
  ·obtain ⟨q1,q2⟩:=lv i e ⟨_,h⟩
   rw [gp,if_neg e,if_neg q1] at h
   rw [hgn i e q1] at hi
   exact s.Dc i hi c sl h
 ·have:i≠j:=λe=>by subst e;simp only [Heap.put] at hi;omega
  simp only [Heap.put,if_neg this]
  exact s.okM i hi
 ·by_cases e:i=H.length
  ·subst e
   rw [hself]
   intro e'
   obtain rfl:=Option.some.inj e'
   exact (s.res j h).2 b (.inl ⟨_,hg⟩) hb
  ·rw [hto i e]
   exact (s.res k h).2 i (ac i e hi).2
 ·by_cases e':i=b
  ·subst e'
   simp [VI.add,VI.kill,setAt,show i≠H.length by omega]
  ·rw [hgn i (by omega) e']
   exact h
 ·obtain ⟨q1,q2⟩:=ac i (by omega) hl
  have:k≠j:=λe'=>q1 (s.inj i b j q2 (.inl ⟨_,hg⟩) (e' ▸ hk') hb (.inr hgo))
  simp [Heap.put,this]
end Go.Proofs.YtohoggieaanllaaGreat
end
section
set_option linter.all false
set_option linter.unusedSimpArgs false
namespace Go.Proofs.YtohoggieaanllaaGreat
theorem NY {M:Heap} {O:Nat→Prop} {κ:VI}:∀ {l l':List AV} {s:List UInt8},bZ M O κ l l'→kg l=some s→kg l'=some s
 | [],l',s,h,e=>by
  cases l' with
  | nil=>exact e
  | cons _ _=>simp [bZ] at h
 | v::l,l',s,h,e=>by
  cases l' with
  | nil=>simp [bZ] at h
  | cons v' l' =>
   simp only [bZ] at h
   cases v<;>(try simp only [kg] at e)<;>first | (cases e;done) | skip
   rename_i k n
   cases k<;>(try simp only [kg] at e)<;>first | (cases e;done) | skip
   rw [h.1.eq rfl]
   simp only [kg]
   obtain ⟨t,h1,rfl⟩:=Option.map_eq_some_iff.1 e
   rw [NY h.2 h1]
   rfl
theorem TI {w:Bool} {c:List AV} {o m:Nat} (h:o+m≤c.length) (hw:w=true→o=0∧m=c.length):(afW w c o m).length=m:=by
 cases w with
 | true=>exact (hw rfl).2.symm
 | false=>simp only [afW,List.length_take,List.length_drop];omega
theorem TJ {M:Heap} {O:Nat→Prop} {κ:VI} {w:Bool} {c c' t:List AV} {o m:Nat} (r:bZ M O κ c c') (h:o+m≤c.length) (hw:w=true→o=0∧m=c.length) :
  bZ M O κ (afW w c o m) (((c'++t).drop o).take m):=by
 have hl:=r.length
 have e:((c'++t).drop o).take m=(c'.drop o).take m:=by
  rw [List.drop_append_of_le_length (by omega),List.take_append_of_le_length (by simp only [List.length_drop];omega)]
 rw [e]
 cases w with
 | true =>
  obtain ⟨rfl,rfl⟩:=hw rfl
  rw [List.drop_zero,List.take_of_length_le (by omega)]
  exact r
 | false=>exact (r.drop o).take m
theorem VL.zu {R:Nat→Prop} {ι:VI} {H:WH} {M:Heap} (s:VS R ι H M) {b o sz n:Nat} {w:Bool} {a:AV} (h:VL M (OR R ι) ι (.acc b o sz n w) a) {c:List AV} {ro sl:Bool} (hg:dS H b=some (.cells c ro sl)) :
  o+n * sz≤c.length∧(w=true→o=0∧n * sz=c.length)∧∃ p s' cap ex,a=.slice p s' n cap ex∧n≤cap∧(p≠none→s'=sz) ∧
   ((∃ j c' t ro' sl' L,ι b=some j∧M.get j=some (.cells (c'++t) ro' sl')∧(ro=false→ro'=false∧ι.gone b=false)∧ι.dim b=some (c.length,L)∧L≤(c'++t).length∧bZ M (OR R ι) (if sl then VI.none else ι) c c'∧p=some (j,o)∧o+cap * sz≤L) ∨
    (n=0∧cap=0∧ex=true∧((∃ j c' t ro' sl' L,ι b=some j∧M.get j=some (.cells (c'++t) ro' sl')∧(ro=false→ro'=false∧ι.gone b=false)∧ι.dim b=some (c.length,L)∧L≤(c'++t).length∧bZ M (OR R ι) (if sl then VI.none else ι) c c')∨(ι.VH b=true∧c=[]∧sl=true)))):=by
 simp only [VL] at h
 obtain ⟨p,s',cap,ex,rfl,h1,h2,h3,m,L,h4,h5,h6,h7⟩:=h
 rcases h7 with ⟨j,k1,k2⟩ | ⟨k1,k2,k3,k4,k5⟩
 ·obtain ⟨c',t,ro',sl',L',g1,g2,g3,g4,g5⟩:=s.at k1 hg
  rw [h4] at g3
  simp only [Option.some.injEq,Prod.mk.injEq] at g3
  obtain ⟨rfl,rfl⟩:=g3
  refine ⟨h5,h6,p,s',cap,ex,rfl,h1,h3, ?_⟩
  rcases k2 with ⟨k2,k3⟩ | ⟨k2,k3,k4⟩
  ·exact .inl ⟨j,c',t,ro',sl',L,k1,g1,g2,h4,g4,g5,k2,k3⟩
  ·exact .inr ⟨k2,k3,k4,.inl ⟨j,c',t,ro',sl',L,k1,g1,g2,h4,g4,g5⟩⟩
 ·rcases s.blk b _ hg with ⟨q1,q2,ro',q3⟩ | ⟨j,q1,_⟩
  ·cases q3
   rw [h4] at q2
   simp only [Option.some.injEq,Prod.mk.injEq] at q2
   obtain ⟨rfl,rfl⟩:=q2
   exact ⟨h5,h6,p,s',cap,ex,rfl,h1,h3,.inr ⟨k2,k3,k4,.inr ⟨k1,rfl,rfl⟩⟩⟩
  ·rw [(s.Dw b k1).2] at q1
   cases q1
theorem ac5 {R:Nat→Prop} {ι:VI} {H:WH} {M:Heap} (s:VS R ι H M) {ρ σ:Nat→AV} (h:∀ t,VL M (OR R ι) ι (ρ t) (σ t)) {o:Cu} (hc:o.bD=true) {v:AV} (hv:wL (o.sub ρ) H=some v):∃ a,aL (o.sub σ) [] M=some a∧VL M (OR R ι) ι v a:=by
 cases o with
 | load agg n x =>
  have hx:=fT h hc
  simp only [Cu.sub,wL,aL] at hv ⊢
  generalize (x.sub ρ).ev []=X at *
  generalize (x.sub σ).ev []=Y at *
  split at hv
  ·cases hv
  rename_i hn0
  cases X with
  | elem cs =>
   simp only [VL] at hx
   obtain ⟨b,o,c,ro,sl,rfl,g1,g2,g3,g4⟩:=hx
   simp only at hv
   have key:∀ g m,Cj g 0 m cs=some v→(g=true→0 < m)→∃ a,Ij g m (.ptr (some (b,o))) M=some a∧VL M (OR R ι) ι v a:=by
    intro g m hp hm
    obtain ⟨h1,h2⟩:=ZI hp
    cases g with
    | true =>
     simp only [EN,if_true,Option.some.injEq,List.drop_zero] at h1
     subst h1
     have hle:=h2 rfl
     simp only [List.drop_zero] at hle
     have hlen:=g4.length
     have hco:o+m≤c.length:=by
      have:=hm rfl
      simp only [List.length_take,List.length_drop] at hlen
      omega
     refine ⟨.agg ((c.drop o).take m), ?_, ?_⟩
     ·simp only [Ij,if_true,Heap.read,g1]
      rw [if_pos hco]
      rfl
     ·simp only [VL]
      refine ⟨_,rfl, ?_⟩
      have:=(g4.take m).lift (κ:=ι)
      rwa [List.take_take,Nat.min_eq_left hle] at this
    | false =>
     simp only [EN,Bool.false_eq_true,if_false] at h1
     obtain ⟨a,h3,h4⟩:=g4.get 0 v h1
     refine ⟨a, ?_,VL.mono (.refl _ _) _ _ _ _ (VI.Le.akn _ _) h4⟩
     simp only [Ij,Bool.false_eq_true,if_false,g1]
     rw [List.getElem?_take,List.getElem?_drop] at h3
     split at h3
     ·simpa using h3
     ·cases h3
   refine key agg n hv λe=>?_
   subst e
   simp only [Bool.true_and] at hn0
   exact Nat.pos_of_ne_zero λe=>by subst e;simp at hn0
  | ptr p =>
   cases p with
   | none=>simp at hv
   | some q =>
    simp only [VL] at hx
    obtain ⟨j,h1,rfl⟩:=hx
    simp only at hv
    split at hv
    case h_2=>cases hv
    rename_i c ro sl hg
    obtain ⟨c',t,ro',sl',L,h2,_,_,_,h3⟩:=s.at h1 hg
    obtain ⟨h4,h5⟩:=ZI hv
    have hl:=h3.length
    cases agg with
    | true =>
     simp only [EN,if_true,Option.some.injEq] at h4
     subst h4
     have:=h5 rfl
     simp only [List.length_drop] at this
     have hn:n≠0:=λe=>by subst e;simp at hn0
     refine ⟨.agg ((c'.drop q.2).take n), ?_,by simp only [VL];exact ⟨_,rfl,(h3.kap.drop _).take _⟩⟩
     simp only [Ij,if_true,Heap.read,h2]
     rw [if_pos (by simp only [List.length_append];omega),List.drop_append_of_le_length (by omega),List.take_append_of_le_length (by simp only [List.length_drop];omega)]
     rfl
    | false =>
     simp only [EN,Bool.false_eq_true,if_false] at h4
     obtain ⟨a,h6,h7⟩:=h3.kap.get _ _ h4
     refine ⟨a, ?_,h7⟩
     simp only [Ij,Bool.false_eq_true,if_false,h2]
     rw [List.getElem?_append_left (by rw [← hl];exact (List.getElem?_eq_some_iff.1 h4).1)]
     exact h6
  | _=>simp at hv
 | mV x =>
  have hx:=fT h hc
  simp only [Cu.sub,wL,aL] at hv ⊢
  generalize (x.sub ρ).ev []=X at *
  generalize (x.sub σ).ev []=Y at *
  split at hv
  ·obtain ⟨t,h1,rfl⟩:=Option.map_eq_some_iff.1 hv
   simp only [VL] at hx
   rcases hx with ⟨_,rfl,s',rfl⟩ | ⟨b,o,cap,ex',rfl,q1,q2,q3,q4⟩
   ·simp only [kg,Option.some.injEq] at h1
    subst h1
    exact ⟨.str [],rfl,by simp [VL]⟩
   ·refine ⟨.str t, ?_,by simp [VL]⟩
    simp only [wM]
    split
    ·rename_i hl
     subst hl
     have:‹List AV›=[]:=List.eq_nil_of_length_eq_zero (by simpa using q3)
     subst this
     simp only [kg,Option.some.injEq] at h1
     rw [h1]
    ·rename_i hl
     obtain ⟨c,ro,sl,g1,g2,g3,g4,g5⟩:=q4 hl
     simp only [Nat.mul_one] at g4 g5
     simp only [Heap.read,g1,if_pos g4,Option.bind_some,NY g5 h1,Option.map_some]
  ·split at hv
   case h_2=>cases hv
   rename_i b off n w _ c ro sl hg
   obtain ⟨t,h1,rfl⟩:=Option.map_eq_some_iff.1 hv
   obtain ⟨k1,k2,p,s',cap,ex,rfl,k3,k4,k5⟩:=VL.zu s hx hg
   simp only [Nat.mul_one] at k1 k2
   refine ⟨.str t, ?_,by simp [VL]⟩
   have hn0:n=0→t=[]:=λe=>by
    subst e
    have:(afW w c off 0).length=0:=TI k1 k2
    rw [List.eq_nil_of_length_eq_zero this] at h1
    simpa [kg] using h1.symm
   rcases k5 with ⟨j,c',t',ro',sl',L,g1,g2,g3,g4,g5,g6,rfl,g7⟩ | ⟨rfl,rfl,rfl,g⟩
   ·obtain rfl:=k4 (by simp)
    simp only [wM]
    split
    ·rename_i hl
     rw [hn0 hl]
    ·have hl:=g6.length
     simp only [Nat.mul_one] at g7
     have:=NY (TJ (t:=t') g6.kap k1 k2) h1
     simp only [Heap.read,g2,if_pos (show off+n≤(c'++t').length by simp only [List.length_append];omega),Option.bind_some,this,Option.map_some]
   ·rw [hn0 rfl]
    cases p with
    | none=>rfl
    | some p =>
     obtain rfl:=k4 (by simp)
     simp [wM]
  ·obtain rfl:=Option.some.inj hv
   simp only [VL] at hx
   obtain ⟨_,s',rfl⟩:=hx
   exact ⟨.str [],rfl,by simp [VL]⟩
  ·cases hv
 | K9 x=>simp [Cu.sub,wL] at hv
 | lookup ok z x w=>simp [Cu.sub,wL] at hv
end Go.Proofs.YtohoggieaanllaaGreat
end
section
set_option linter.all false
set_option linter.unusedSimpArgs false
namespace Go.Proofs.YtohoggieaanllaaGreat
theorem Dx:∀ {l:List Nat} {b:Nat},wV l b=true↔b∈l
 | [],b=>by simp [wV]
 | a::r,b=>by
  simp only [wV,List.mem_cons]
  cases h:Nat.beq a b with
  | true=>simp [Nat.eq_of_beq_eq_true h]
  | false =>
   have:b≠a:=λe=>by subst e;simp at h
   simp only
   rw [Dx (l:=r)]
   simp [this]
def VI.Dc (ι:VI) (S:List Nat):VI:=⟨ι.to,ι.VH,λi=>ι.gone i || wV S i,ι.dim⟩
theorem Zb {ι:VI} {S:List Nat} {j:Nat} (h:own (ι.Dc S) j):own ι j:=by
 obtain ⟨i,h1,h2⟩:=h
 simp only [VI.Dc,Bool.or_eq_false_iff] at h2
 exact ⟨i,h1,h2.1⟩
theorem J5:∀ (S:List Nat) (H:WH) (i:Nat),dS (Lj H S) i=if wV S i=true then X7 (dS H i) else dS H i
 | [],H,i=>by simp [Lj,wV]
 | b::S,H,i=>by
  simp only [Lj,J5 S,uf,wV]
  have ib:∀ x:Option nT,X7 (X7 x)=X7 x:=λx=>by
   cases x with
   | none=>rfl
   | some x=>cases x<;>rfl
  by_cases e:i=b
  ·subst e
   simp only [Nat.beq_refl]
   by_cases hl:i < H.length
   ·simp only [hl,and_self,if_true]
    split<;>simp [ib]
   ·simp only [hl,and_false,if_false,aem (Nat.le_of_not_lt hl)]
    split<;>simp [X7]
  ·have:Nat.beq b i=false:=by
    cases hh:Nat.beq b i with
    | false=>rfl
    | true=>exact absurd (Nat.eq_of_beq_eq_true hh).symm e
   simp [this,e]
theorem yD:∀ (S:List Nat) (H:WH),(Lj H S).length=H.length
 | [],H=>rfl
 | b::S,H=>by simp only [Lj,yD S,fG]
theorem VK {x:Option nT} {y:nT} (h:X7 x=some y):∃ z,x=some z∧(y=z∨∃ c ro sl,z=.cells c ro sl∧y=.cells c true sl):=by
 cases x with
 | none=>simp [X7] at h
 | some z =>
  cases z with
  | cells c ro sl=>simp only [X7,Option.some.injEq] at h;exact ⟨_,rfl,.inr ⟨c,ro,sl,rfl,h.symm⟩⟩
  | map es=>simp only [X7,Option.some.injEq] at h;exact ⟨_,rfl,.inl h.symm⟩
theorem aen (ι:VI) (S:List Nat) (T:Nat→Prop):VI.Le ι (ι.Dc S) T:=λ_ _=>⟨λ_ h=>⟨h,λ_ h=>h⟩,λh=>⟨h,λ_ h=>h⟩⟩
theorem VS.alb {R:Nat→Prop} {ι:VI} {H:WH} {M:Heap} (s:VS R ι H M) (S:List Nat) (hS:∀ b∈S,∃ x,dS H b=some x):VS R (ι.Dc S) (Lj H S) M∧Stp H.length [] ι H M (ι.Dc S) (Lj H S) M:=by
 have hk:Keeps M (own ι) M (own (ι.Dc S)):=⟨Nat.le_refl _,λb _ h=>⟨rfl,λk=>h (Zb k)⟩⟩
 have lv:∀ k,(∃ z,dS (Lj H S) k=some z)→∃ z,dS H k=some z:=λk ⟨z,hz⟩=>by
  rw [J5] at hz
  split at hz
  ·obtain ⟨y,hy,_⟩:=VK hz
   exact ⟨y,hy⟩
  ·exact ⟨z,hz⟩
 have ac:∀ i,act (ι.Dc S) (Lj H S) i→act ι H i:=λi h=>h.imp (lv i) (λh=>by
  simp only [VI.Dc,Bool.or_eq_false_iff] at h
  exact h.1)
 refine ⟨⟨λi j h=>by rw [yD];exact s.lt i j h,λi i' j h h' e e' g=>s.inj i i' j (ac i h) (ac i' h') e e' (g.imp (λg=>by simp only [VI.Dc,Bool.or_eq_false_iff] at g;exact g.1) (λg=>by simp only [VI.Dc,Bool.or_eq_false_iff] at g;exact g.1)),λi z hz=>?_,λi h=>by rw [yD];exact s.Dw i h,λi hi c sl h=>?_,s.okM,λj h=>⟨(s.res j h).1,λi hi=>(s.res j h).2 i (ac i hi)⟩⟩,
  ⟨hk,aen _ _ _,λi _ h=>by simp only [VI.Dc,h,Bool.true_or],λ_ _=>rfl,λ_ _=>rfl,λi _ h=>by
   have:wV S i=false:=by
    cases e:wV S i with
    | false=>rfl
    | true=>obtain ⟨x,hx⟩:=hS i (Dx.1 e);rw [h] at hx;cases hx
   simp only [VI.Dc,this,Bool.or_false],λi _=>lv i,λ_ _ _ _ _ _=>rfl,by rw [yD];exact Nat.le_refl _⟩⟩
 ·have hbl:∀ {d x y},BL M (OR R ι) ι d x y→BL M (OR R (ι.Dc S)) (ι.Dc S) d x y:=λh=>BL.mono (κ:=ι) (y7:=ι.Dc S) (hk.or R) (λT=>aen _ _ _) (λ_ h=>h) h
  rw [J5] at hz
  split at hz
  ·rename_i hS
   obtain ⟨y,hy,h⟩:=VK hz
   rcases s.blk i y hy with ⟨h1,h2,ro,h3⟩ | ⟨j,h1,h2,h3⟩
   ·rcases h with rfl | ⟨c,ro',sl,rfl,rfl⟩
    ·exact .inl ⟨h1,h2,ro,h3⟩
    ·cases h3
     exact .inl ⟨h1,h2,true,rfl⟩
   ·rcases h with rfl | ⟨c,ro',sl,rfl,rfl⟩
    ·cases z with
     | cells c ro' sl =>
      rw [hy] at hz
      simp only [X7,Option.some.injEq,nT.cells.injEq] at hz
      obtain ⟨_,rfl,_⟩:=hz
      exact .inr ⟨j,h1,hbl h2,λh=>by cases h⟩
     | map es=>exact h2.elim
    ·obtain ⟨c',t,ayc,sl',L,g1,g2,g3⟩:=h2
     exact .inr ⟨j,h1,hbl ⟨c',t,ayc,sl',L,g1,(λh=>by cases h),g3⟩,λh=>by cases h⟩
  ·rename_i hS
   rcases s.blk i z hz with h | ⟨j,h1,h2,h3⟩
   ·exact .inl h
   ·refine .inr ⟨j,h1,hbl h2,λh=>?_⟩
    simp only [VI.Dc,h3 h,Bool.false_or]
    simpa using hS
 ·rw [J5] at h
  simp only [VI.Dc,Bool.or_eq_true] at hi
  split at h
  ·obtain ⟨y,hy,h'⟩:=VK h
   rcases h' with rfl | ⟨_,_,_,_,h'⟩
   ·rw [hy] at h
    simp [X7] at h
   ·cases h'
  ·rename_i hS
   exact s.Dc i (hi.resolve_right hS) c sl h
theorem VN {g:AV→Option (AV×List Nat)} {v:AV} {l:List AV} {p:List AV×List Nat} (h:Li g (v::l)=some p):∃ q r,g v=some q∧Li g l=some r∧p=(q.1::r.1,q.2++r.2):=by
 simp only [Li] at h
 split at h
 ·rename_i q r h1 h2
  exact ⟨q,r,h1,h2,(Option.some.inj h).symm⟩
 ·cases h
def TK (nested:Bool) (κ:VI):VI:=if nested then VI.none else κ
theorem ZK {M:Heap} {O O':Nat→Prop} {κ y7:VI} {g:AV→Option (AV×List Nat)} {P:Nat→Prop} {nested:Bool}
  (hg:∀ v p a,g v=some p→VL M O κ v a→(∀ b∈p.2,P b)→VL M O' (TK nested y7) p.1 a) :
  ∀ (l:List AV) (p:List AV×List Nat) (r:List AV),Li g l=some p→bZ M O κ l r→(∀ b∈p.2,P b)→bZ M O' (TK nested y7) p.1 r
 | [],p,r,h,hr,_=>by
  simp only [Li,Option.some.injEq] at h
  subst h
  cases r with
  | nil=>simp [bZ]
  | cons _ _=>simp [bZ] at hr
 | v::l,p,r,h,hr,hP=>by
  obtain ⟨q,q',h1,h2,rfl⟩:=VN h
  cases r with
  | nil=>simp [bZ] at hr
  | cons a r =>
   simp only [bZ] at hr ⊢
   exact ⟨hg v q a h1 hr.1 (λb hb=>hP b (by simp [hb])),ZK hg l q' r h2 hr.2 (λb hb=>hP b (by simp [hb]))⟩
theorem zT {g:AV→Option (AV×List Nat)} {P:Nat→Prop} (hg:∀ v p,g v=some p→∀ b∈p.2,P b):∀ (l:List AV) (p:List AV×List Nat),Li g l=some p→∀ b∈p.2,P b
 | [],p,h,b,hb=>by
  simp only [Li,Option.some.injEq] at h
  subst h
  cases hb
 | v::l,p,h,b,hb=>by
  obtain ⟨q,q',h1,h2,rfl⟩:=VN h
  simp only [List.mem_append] at hb
  exact hb.elim (hg v q h1 b) (zT hg l q' h2 b)
theorem yE {H:WH}:∀ (k:Nat) (nested:Bool) (v:AV) (p:AV×List Nat),frz H k nested v=some p→∀ b∈p.2,∃ x,dS H b=some x
 | 0,nested,v,p,h=>by simp [frz] at h
 | k+1,nested,v,p,h=>by
  intro b hb
  simp only [frz] at h
  split at h
  ·split at h
   case h_2=>cases h
   rename_i hg
   split at h
   ·obtain rfl:=Option.some.inj h
    simp only [List.mem_singleton] at hb
    exact ⟨_,hb ▸ hg⟩
   ·split at h
    case h_2=>cases h
    split at h
    case h_2=>cases h
    rename_i q hq
    obtain rfl:=Option.some.inj h
    simp only [List.mem_cons] at hb
    rcases hb with rfl | hb
    ·exact ⟨_,hg⟩
    ·exact zT (λv p=>yE k true v p) _ _ hq b hb
  ·obtain rfl:=Option.some.inj h
   cases hb
  ·cases h
  ·obtain rfl:=Option.some.inj h
   cases hb
  ·cases h
  ·split at h
   ·cases h
   ·obtain rfl:=Option.some.inj h
    cases hb
  ·split at h
   ·cases h
   ·obtain rfl:=Option.some.inj h
    cases hb
  ·split at h
   case h_2=>cases h
   rename_i q hq
   obtain rfl:=Option.some.inj h
   exact zT (λv p=>yE k nested v p) _ _ hq b hb
  ·split at h
   case h_2=>cases h
   rename_i q hq
   obtain rfl:=Option.some.inj h
   exact zT (λv p=>yE k nested v p) _ _ hq b hb
  ·split at h
   case h_2=>cases h
   rename_i q hq
   obtain rfl:=Option.some.inj h
   exact zT (λv p=>yE k nested v p) _ _ hq b hb
  ·obtain rfl:=Option.some.inj h
   cases hb
theorem aiq:∀ {v:AV},(∀ b o sz n w,v=.acc b o sz n w→False)→(∀ q,v=.ptr (some q)→False)→(∀ r,v=.map (some r)→False)→(∀ f cs,v=.func f cs→False)→(∀ cs,v=.agg cs→False)→(∀ cs,v=.tuple cs→False)→Du v=[]
 | .undef,_,_,_,_,_,_=>rfl
 | .bool _,_,_,_,_,_,_=>rfl
 | .int _ _,_,_,_,_,_,_=>rfl
 | .str _,_,_,_,_,_,_=>rfl
 | .ptr none,_,_,_,_,_,_=>rfl
 | .ptr (some q),_,h,_,_,_,_=>(h q rfl).elim
 | .slice _ _ _ _ _,_,_,_,_,_,_=>rfl
 | .map none,_,_,_,_,_,_=>rfl
 | .map (some r),_,_,h,_,_,_=>(h r rfl).elim
 | .func f cs,_,_,_,h,_,_=>(h f cs rfl).elim
 | .nilFunc,_,_,_,_,_,_=>rfl
 | .agg cs,_,_,_,_,h,_=>(h cs rfl).elim
 | .tuple cs,_,_,_,_,_,h=>(h cs rfl).elim
 | .list ..,_,_,_,_,_,_=>rfl
 | .elem _,_,_,_,_,_,_=>rfl
 | .acc b o sz n w,h,_,_,_,_,_=>(h b o sz n w rfl).elim
theorem TL {g:AV→Option (AV×List Nat)}:∀ (l:List AV) (p:List AV×List Nat),Li g l=some p→p.1.length=l.length
 | [],p,h=>by
  simp only [Li,Option.some.injEq] at h
  subst h
  rfl
 | v::l,p,h=>by
  obtain ⟨q,q',h1,h2,rfl⟩:=VN h
  simp [TL l q' h2]
section
variable {R:Nat→Prop} {ι:VI} {H:WH} {M:Heap} (s:VS R ι H M) {O':Nat→Prop} (hO:∀ j,O' j→OR R ι j) {y7:VI} (hle:VI.Le ι y7 (λ_=>True))
include s hO hle
theorem akp {b o sz n:Nat} {w:Bool} {a:AV} (h:VL M (OR R ι) ι (.acc b o sz n w) a) {c:List AV} {ro sl:Bool} (hg:dS H b=some (.cells c ro sl)) (hb:∀ j,ι b=some j→¬ O' j) {κ:VI}
  {cs:List AV} (hcs:cs.length=n * sz) (hr:∀ c' t,bZ M (OR R ι) (if sl then VI.none else ι) c c'→bZ M O' VI.none cs (((c'++t).drop o).take (n * sz))):VL M O' κ (.list sz n cs false) a:=by
 obtain ⟨k1,k2,p,s',cap,ex,rfl,k3,k4,k5⟩:=VL.zu s h hg
 simp only [VL]
 rcases k5 with ⟨j,c',t',ro',sl',L,g1,g2,g3,g4,g5,g6,rfl,g7⟩ | ⟨rfl,rfl,rfl,g⟩
 ·obtain rfl:=k4 (by simp)
  have hl:=g6.length
  refine .inr ⟨j,o,cap,ex,rfl,k3,(λh=>by cases h),hcs,λ_=>⟨_,ro',sl',g2,hb j g1,(s.lt b j g1).2,by simp only [List.length_append];omega,hr c' t' g6⟩⟩
 ·rw [Nat.zero_mul] at hcs
  obtain rfl:=List.eq_nil_of_length_eq_zero hcs
  cases p with
  | none=>exact .inl ⟨rfl,rfl,s',rfl⟩
  | some p =>
   obtain rfl:=k4 (by simp)
   exact .inr ⟨p.1,p.2,0,true,rfl,Nat.le_refl _,(λh=>by cases h),by simp,λh=>absurd rfl h⟩
theorem air:∀ (k:Nat) (nested:Bool) (v:AV) (p:AV×List Nat) (a:AV),frz H k nested v=some p→VL M (OR R ι) ι v a→(∀ b∈p.2,∀ j,ι b=some j→¬ O' j)→VL M O' (TK nested y7) p.1 a
 | 0,nested,v,p,a,h,hv,hP=>by simp [frz] at h
 | k+1,nested,v,p,a,h,hv,hP=>by
  have hk:Keeps M (OR R ι) M O':=⟨Nat.le_refl _,λb _ h=>⟨rfl,λk=>h (hO b k)⟩⟩
  have nest:∀ {l p r nested},Li (frz H k nested) l=some p→bZ M (OR R ι) ι l r→(∀ b∈p.2,∀ j,ι b=some j→¬ O' j)→bZ M O' (TK nested y7) p.1 r:=λ{l p r nested} h1 h2 h3 =>
   ZK (λv p a=>air k nested v p a) l p r h1 h2 h3
  simp only [frz] at h
  split at h
  ·rename_i b o sz n w
   split at h
   case h_2=>cases h
   rename_i c ro sl hg
   obtain ⟨k1,k2,_⟩:=VL.zu s hv hg
   split at h
   ·obtain rfl:=Option.some.inj h
    refine akp s hO hle hv hg (hP b (by simp)) (TI k1 k2) λc' t hc=>?_
    simp only [if_true] at hc
    exact TJ (bZ.mono hk _ _ _ _ (.refl _ _) hc) k1 k2
   ·split at h
    case h_2=>cases h
    split at h
    case h_2=>cases h
    rename_i q hq
    obtain rfl:=Option.some.inj h
    obtain ⟨k3,k4⟩:=k2 rfl
    refine akp s hO hle hv hg (hP b (by simp)) (by rw [TL _ _ hq,k4]) λc' t hc=>?_
    simp only [Bool.false_eq_true,if_false] at hc
    have:=nest hq hc (λb hb=>hP b (by simp [hb]))
    have hl:=hc.length
    rw [k3,List.drop_zero,k4,hl,List.take_left']
    ·exact this
    ·rfl
  ·obtain rfl:=Option.some.inj h
   simp only [VL] at hv ⊢
   exact .inl ⟨trivial,trivial,hv.2⟩
  ·cases h
  ·obtain rfl:=Option.some.inj h
   have:=VL.mono hk _ (TK nested y7) _ _ (λi hi=>by simp [Du] at hi) hv
   simp only [VL] at this ⊢
   rcases this with this | ⟨b,o,cap,ex',h1,h2,h3,h4⟩
   ·exact .inl this
   ·exact .inr ⟨b,o,cap,ex',h1,h2,(λh=>by cases h),h4⟩
  ·cases h
  ·split at h
   ·cases h
   ·obtain rfl:=Option.some.inj h
    simp only [VL,TK,Bool.false_eq_true,if_false] at hv ⊢
    obtain ⟨j,h1,h2⟩:=hv
    exact ⟨j,((hle _ trivial).1 j h1).1,h2⟩
  ·split at h
   ·cases h
   ·obtain rfl:=Option.some.inj h
    simp only [VL,TK,Bool.false_eq_true,if_false] at hv ⊢
    obtain ⟨j,h1,h2⟩:=hv
    exact ⟨j,((hle _ trivial).1 j h1).1,h2⟩
  ·split at h
   case h_2=>cases h
   rename_i q hq
   obtain rfl:=Option.some.inj h
   simp only [VL] at hv ⊢
   obtain ⟨cs',h1,h2⟩:=hv
   exact ⟨cs',h1,nest hq h2 hP⟩
  ·split at h
   case h_2=>cases h
   rename_i q hq
   obtain rfl:=Option.some.inj h
   simp only [VL] at hv ⊢
   obtain ⟨cs',h1,h2⟩:=hv
   exact ⟨cs',h1,nest hq h2 hP⟩
  ·split at h
   case h_2=>cases h
   rename_i q hq
   obtain rfl:=Option.some.inj h
   simp only [VL] at hv ⊢
   obtain ⟨cs',h1,h2⟩:=hv
   exact ⟨cs',h1,nest hq h2 hP⟩
  ·obtain rfl:=Option.some.inj h
   have hid:Du v=[]:=by
    rename_i e1 _ _ _ _ e2 e3 e4 e5 e6
    exact aiq e1 e2 e3 e4 e5 e6
   exact VL.mono hk _ (TK nested y7) _ _ (λi hi=>by rw [hid] at hi;cases hi) hv
end
end Go.Proofs.YtohoggieaanllaaGreat
end
