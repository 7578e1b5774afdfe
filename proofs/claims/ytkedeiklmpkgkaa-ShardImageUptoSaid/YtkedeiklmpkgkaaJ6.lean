import Derived.Test.YtkedeiklmpkgkaaJ5
import Derived.Lib.Overlaps
import Derived.Laws.Externs
set_option linter.all false
namespace Go.Proofs.Ytkedeiklmpkgkaa
def ow(sz i n o:Nat)(c new:List AV):List AV:=c.take (o+i*sz)++(new++((c.drop (o+i*sz)).take ((n-i)*sz)++c.drop (o+(n+1)*sz)))
def JN(M:Heap)(b:Nat):Bool:=match M.get b with
 | some (.cells _ false false)=>true
 | _=>false
def Nb(sz:Nat)(i:Int)(n:Nat)(new:List AV)(p:AV×Heap):Option (AV×Heap) :=
 if i=(n:Int)then some p else match p.1 with
  |.slice (some (q,o)) _ _ _ _=>match p.2.get q with
   | some (.cells c false sl)=>some (p.1,p.2.put q (some (.cells (ow sz i.toNat n o c new) false sl)))
   | _=>none
  | _=>none
def Qq(sz bytes:Nat)(args:List AV)(M:Heap):Option (AV×Heap) :=
 match args with
 | [.slice a sz' n cap ex,.int .i64 i,.slice (some (b2,o2)) Xu m2 cap2 MQ] =>
  if Xu=sz∧m2=1∧0≤i∧i≤(n:Int)∧JN M b2=true∧(i=(n:Int)∨∀q,a=some q→q.1≠b2)∧n+1≤70368744177664 then
   (M.read b2 o2 (1*sz)).bind λnew=>(eO sz bytes (.slice a sz' n cap ex) 1 new M).bind (Nb sz i n new)
  else none
 | _=>none
theorem XT{A:Tab}{d:Nat}{f:FuncId}{sz bytes:Nat}(hG:A.1 f=some (Qq sz bytes)):Pz (aY A (d+1)) f (.ins sz bytes):=by
 intro R ι H M args as dst tr k s hv h
 have run:aY A (d+1) f as M=Qq sz bytes as M:=by simp only[aY,mE,hG]
 rw[run]
 simp only[wBt]at h
 split at h
 case h_2=>exact h.elim
 rename_i b o sz1 n w i b2 o2 Xu m2 w2
 match as,hv with
 | [],hv=>simp[bL]at hv
 | [_],hv=>simp[bL]at hv
 | [_,_],hv=>simp[bL]at hv
 | _::_::_::_::_,hv=>simp[bL]at hv
 | [a,ai,x],hv =>
 simp only[bL]at hv
 obtain⟨ha,hi,hx,_⟩:=hv
 simp only[VL]at hi
 subst hi
 split at h
 ·exact h.elim
 rename_i hne
 have hbb:b≠b2:=λe=>by rw[e,Nat.beq_refl]at hne;cases hne
 split at h
 case h_2=>exact h.elim
 rename_i cx hgx
 split at h
 case h_2=>exact h.elim
 rename_i m new hel
 split at h
 case h_2=>exact h.elim
 rename_i hm1
 obtain rfl:=bg hm1
 split at h
 case h_2=>exact h.elim
 rename_i len old H' t hbase
 obtain⟨_,⟨hi0,hi1⟩,h⟩:=iM h
 obtain⟨_,h⟩:=I7 h
 obtain⟨iN,hf,hk⟩:=iM h
 obtain⟨e1,e2,new',e3,e4⟩:=GH s hx hel
 obtain⟨u1,u2⟩:=s.OA [] (Ck hel)
 obtain⟨a',M',bI,q1,q2,q3,q4⟩:=LC u1 (VL.step s u2 ha) e4 e2 hbase hf
 have q3':Stp H.length t ι H M bI (H'++[some (.cells (old++new) false true)]) M':=by
  have:=u2.trans q3 (Nat.le_refl _)
  simpa using this
 -- what is put in
 obtain⟨hx1,hx2,px,sx,ab0,exx,rfl,hx3,hx4,hx5⟩:=VL.qX s hx hgx
 have hm2:m2=1:=by
  cases px with
  | none=>simp only[kC,av,aI]at e3;exact e3.1
  | some q =>
   simp only[kC]at e3
   split at e3
   ·simp only[av,aI]at e3;omega
   ·obtain⟨cs,_,e⟩:=aC.1 e3
    simp only[aI]at e
    exact e.1
 subst hm2
 rcases hx5 with⟨j2,cx',tx,rox,acS,Lx,g1,g2,g3,g4,g5,g6,rfl,g7⟩ |⟨hx5,_⟩
 case inr=>omega
 obtain rfl:=hx4 (by simp)
 obtain⟨rfl,abk⟩:=g3 rfl
 have hsx:sx=sz:=by simpa[dM]using e1
 subst hsx
 have hread:M.read j2 o2 (1*sx)=some new':=by
  simp only[kC]at e3
  rw[if_neg (by omega)]at e3
  obtain⟨cs,e,e'⟩:=aC.1 e3
  simp only[aI,true_and]at e'
  rw[e,e']
 have hown:JN M j2=true:=by
  have:=s.ZN g1 hgx g2 rfl
  subst this
  simp[JN,g2]
 -- to what
 have hga:∃c ro sl,b_ H b=some (.cells c ro sl):=by
  unfold Js at hbase
  split at hbase
  ·rename_i hq
   cases hq
  ·rename_i b' sz' n' w' hq
   injection hq with q1 q2 q3 q4 q5
   subst q1
   split at hbase
   case h_2=>cases hbase
   split at hbase
   ·exact⟨_,_,_,by assumption⟩
   ·exact⟨_,_,_,by assumption⟩
   ·cases hbase
  ·cases hbase
 obtain⟨ca,roa,sla,hga⟩:=hga
 obtain⟨ha1,ha2,pa,sa,ab1,exa,rfl,ha3,ha4,ha5⟩:=VL.qX s ha hga
 have hlen:len=n:=by
  unfold Js at hbase
  split at hbase
  ·rename_i hq
   cases hq
  ·rename_i b' sz' n' w' hq
   injection hq with q1 q2 q3 q4 q5
   subst q4
   split at hbase
   case h_2=>cases hbase
   split at hbase
   ·simp only[av,aI]at hbase;exact hbase.1.symm
   ·split at hbase
    case h_2=>cases hbase
    split at hbase
    case h_2=>cases hbase
    split at hbase
    ·simp only[av,aI]at hbase;exact hbase.1.symm
    ·cases hbase
   ·cases hbase
  ·cases hbase
 subst hlen
 have hap:i=(len:Int)∨∀q,pa=some q→q.1≠j2:=by
  rcases ha5 with⟨j,c',t',ro',sl',L,k1,k2,k3,k4,k5,k6,k7,k8⟩ |⟨k1,k2,k3,k4⟩
  ·right
   intro q hq
   rw[k7]at hq
   obtain rfl:=ak hq
   intro e
   simp only at e
   subst e
   exact hbb (s.inj _ _ _ (.inl ⟨_,hga⟩) (.inl ⟨_,hgx⟩) k1 g1 (.inr abk))
  ·left
   omega
 have hdef:Qq sx bytes [.slice pa sa len ab1 exa,.int .i64 i,.slice (some (j2,o2)) sx 1 ab0 exx] M=Nb sx i len new' (a',M'):=by
  unfold Qq
  simp only
  rw[if_pos ⟨trivial,trivial,hi0,hi1,hown,hap,(GD hf).2⟩,hread,au,q1,au]
 have hol:old.length=len*sx∧(old++new).length=(len+1)*sx:=by
  have hgr:b_ (H'++[some (.cells (old++new) false true)]) H'.length=some (.cells (old++new) false true):=by rw[mh,if_neg (by omega),if_pos rfl]
  obtain⟨_,z2,_⟩:=VL.qX q2 q4 hgr
  have:=(z2 rfl).2
  rw[aJ,e2]at this
  refine⟨?_,by rw[aJ,e2];omega⟩
  rw[Nat.add_mul]at this
  omega
 rw[hdef]
 unfold Nb
 by_cases hin:i=(len:Int)
 ·rw[if_pos hin]
  have hrow:old.take (i.toNat*sx)++(new++old.drop (i.toNat*sx))=old++new:=by
   rw[hin,bC,List.take_of_length_le (by omega),List.drop_of_length_le (by omega),List.append_nil]
  rw[hrow]at hk
  exact⟨_,M',bI,_,_,t,iN,rfl,q2,q3',q4,hk⟩
 ·rw[if_neg hin]
  obtain⟨k,rfl⟩:∃k:Nat,i=(k:Int):=⟨i.toNat,by omega⟩
  rw[bC]at hk ⊢
  have hkl:k<len:=by omega
  have hgr:b_ (H'++[some (.cells (old++new) false true)]) H'.length=some (.cells (old++new) false true):=by rw[mh,if_neg (by omega),if_pos rfl]
  obtain⟨z1,z2,pr,sr,acT,exr,rfl,z3,z4,z5⟩:=VL.qX q2 q4 hgr
  rcases z5 with⟨j,c',t',ro',sl',L,k1,k2,k3,k4,k5,k6,rfl,k8⟩ |⟨z5,_⟩
  case inr=>omega
  obtain⟨rfl,hgo⟩:=k3 rfl
  obtain rfl:=z4 (by simp)
  simp only[k2]
  have hcl:=k6.length
  simp only[if_true]at k6
  have hks:k*sr≤len*sr:=Nat.mul_le_mul_right _ (by omega)
  have hmul:(len+1)*sr=len*sr+sr:=by rw[Nat.add_mul,Nat.one_mul]
  have hsub:(len-k)*sr=len*sr-k*sr:=Nat.sub_mul _ _ _
  have ab2:c'.length=(len+1)*sr:=by rw[←hcl];exact hol.2
  have hrow:ow sr k len 0 (c'++t') new'=(c'.take (k*sr)++(new'++(c'.drop (k*sr)).take ((len-k)*sr)))++t':=by
   unfold ow
   rw[Nat.zero_add,Nat.zero_add,List.take_append_of_le_length (by omega),List.drop_append_of_le_length (by omega),List.take_append_of_le_length (by rw[aS];omega),←ab2,List.drop_left]
   simp only[bE]
  have hnew1:bL M' (OR R bI) VI.none new new':=bL.Lv q3 e4
  have hold:old=(old++new).take (len*sr):=by rw[←hol.1,List.take_left]
  have hpre:bL M' (OR R bI) VI.none (old.take (k*sr)) (c'.take (k*sr)):=by
   have:=bL.take (k*sr) k6
   rw[List.take_append_of_le_length (by omega)]at this
   exact this
  have hpost:bL M' (OR R bI) VI.none (old.drop (k*sr)) ((c'.drop (k*sr)).take ((len-k)*sr)):=by
   have:=bL.take ((len-k)*sr) (bL.drop (k*sr) k6)
   rw[List.drop_append_of_le_length (by omega),List.take_append_of_le_length (by rw[aS];omega),List.take_of_length_le (by rw[aS];omega)]at this
   exact this
  have hall:=hpre.append (hnew1.append hpost)
  have ZY:(old.take (k*sr)++(new++old.drop (k*sr))).length=(old++new).length:=by
   simp only[aJ,aV,aS]
   omega
  have hlen3:(c'.take (k*sr)++(new'++(c'.drop (k*sr)).take ((len-k)*sr))).length=c'.length:=by
   rw[←hall.length,ZY,hcl]
  obtain⟨r1,r2⟩:=q2.put k1 hgr (x:=.cells (old.take (k*sr)++(new++old.drop (k*sr))) false true) (y:=.cells ((c'.take (k*sr)++(new'++(c'.drop (k*sr)).take ((len-k)*sr)))++t') false sl')
   ⟨_,t',false,sl',L,rfl,λ_=>rfl,by rw[ZY];exact k4,by rw[aJ,hlen3,←aJ];exact k5,by simpa using hall,λh=>by cases h⟩
  have hput:fQ (H'++[some (jN.cells (old++new) false true)]) H'.length (some (jN.cells (old.take (k*sr)++(new++old.drop (k*sr))) false true))=H'++[some (jN.cells (old.take (k*sr)++(new++old.drop (k*sr))) false true)]:=by
   rw[I4,List.set_append_right _ _ (Nat.le_refl _),Nat.sub_self]
   rfl
  rw[hput]at r1 r2
  rw[hrow]
  refine⟨_,_,bI,_,_,t,iN,rfl,r1, ?_,VL.step q2 r2 q4,hk⟩
  have hle:H.length≤(H'++[some (jN.cells (old++new) false true)]).length:=q3'.next
  have:=(q3'.trans r2 hle).more (t':=t) (λx hx hm=>by
   rcases List.mem_append.1 hm with hm | hm
   ·exact hm
   ·rw[List.mem_singleton.1 hm]at hx
    have:H.length≤H'.length:=by
     have hH:H'.length=H.length:=by
      unfold Js at hbase
      split at hbase
      ·rename_i hq;cases hq
      ·rename_i b' sz' n' w' hq
       split at hbase
       case h_2=>cases hbase
       split at hbase
       ·simp only[av,aI]at hbase;rw[←hbase.2.2.1,dO];try rfl
       ·split at hbase
        case h_2=>cases hbase
        split at hbase
        case h_2=>cases hbase
        split at hbase
        ·simp only[av,aI]at hbase;rw[←hbase.2.2.1,dO,qE];try rfl
        ·cases hbase
       ·cases hbase
      ·cases hbase
     omega
    omega)
  exact this
def Iu(sz bytes:Nat)(zero:List AV)(ov rr:FuncId):dD:={ nargs:=3,ntmps:=95,code:=(.seq (.reg [oC 6 (.slice none 1 0 0 true)]) (.seq (.reg [oV 10 0,oV 11 1,oP 12 (.slice sz (.t 10) (some (.t 11)) none none)]) (.seq (.reg [oV 13 2,oP 14 (.len false (.t 13)),oV 7 14]) (.seq (.seq (.reg [oV 15 7,oP 16 (.bin .eql (.t 15) (iC 0))]) (.cond (.t 16) (.seq (.reg [oV 17 0,oV 6 17]) .ret) .skip)) (.seq (.reg [oV 18 0,oP 19 (.len false (.t 18)),oV 8 19]) (.seq (.seq (.reg [oV 20 1,oV 21 8,oP 22 (.bin .eql (.t 20) (.t 21))]) (.cond (.t 22) (.seq (.reg [oV 23 0,oV 24 2,oN 25 (.append sz bytes (.t 23) (.t 24)),oV 6 25]) .ret) .skip)) (.seq (.seq (.reg [oV 26 8,oV 27 7,oP 28 (.bin .add (.t 26) (.t 27)),oV 29 0,oP 30 (.cap (.t 29)),oP 31 (.bin .gtr (.t 28) (.t 30))]) (.cond (.t 31) (.seq (.reg [oV 32 0,oV 33 1,oP 34 (.slice sz (.t 32) none (some (.t 33)) none),oV 35 8,oV 36 7,oP 37 (.bin .add (.t 35) (.t 36)),oV 38 1,oP 39 (.bin .sub (.t 37) (.t 38)),oN 40 (.r9 sz bytes zero (.t 34) (.t 39)),oV 9 40]) (.seq (.reg [oV 41 9,oV 42 1,oP 43 (.slice sz (.t 41) (some (.t 42)) none none),oV 44 2,oN 45 (.copy sz (.t 43) (.t 44))]) (.seq (.Ii 0 [oD (oV 46 9) 0 0,oD (oV 47 1) 0 0,oD (oV 48 7) 0 0,oD (oP 49 (.bin .add (.t 47) (.t 48))) 0 0,oD (oP 50 (.slice sz (.t 46) (some (.t 49)) none none)) 0 0,oD (oV 51 0) 0 0,oD (oV 52 1) 0 0,oD (oP 53 (.slice sz (.t 51) (some (.t 52)) none none)) 0 0,oD (oN 54 (.copy sz (.t 50) (.t 53))) 0 0]) (.seq (.reg [oV 55 9,oV 6 55]) .ret)))) .skip)) (.seq (.reg [oV 56 0,oV 57 8,oV 58 7,oP 59 (.bin .add (.t 57) (.t 58)),oP 60 (.slice sz (.t 56) none (some (.t 59)) none),oV 0 60]) (.seq (.seq (.reg [oV 61 2,oV 62 0,oV 63 1,oV 64 7,oP 65 (.bin .add (.t 63) (.t 64)),oP 66 (.slice sz (.t 62) (some (.t 65)) none none),oN 67 (.call (.c (.func ov [])) [(.t 61),(.t 66)]),oP 68 (.un .not (.t 67))]) (.cond (.t 68) (.seq (.Ii 0 [oD (oV 69 0) 0 0,oD (oV 70 1) 0 0,oD (oV 71 7) 0 0,oD (oP 72 (.bin .add (.t 70) (.t 71))) 0 0,oD (oP 73 (.slice sz (.t 69) (some (.t 72)) none none)) 0 0,oD (oV 74 0) 0 0,oD (oV 75 1) 0 0,oD (oP 76 (.slice sz (.t 74) (some (.t 75)) none none)) 0 0,oD (oN 77 (.copy sz (.t 73) (.t 76))) 0 0]) (.seq (.reg [oV 78 0,oV 79 1,oP 80 (.slice sz (.t 78) (some (.t 79)) none none),oV 81 2,oN 82 (.copy sz (.t 80) (.t 81))]) (.seq (.reg [oV 83 0,oV 6 83]) .ret))) .skip)) (.seq (.reg [oV 84 0,oV 85 8,oP 86 (.slice sz (.t 84) (some (.t 85)) none none),oV 87 2,oN 88 (.copy sz (.t 86) (.t 87))]) (.seq (.reg [oV 89 0,oV 90 1,oP 91 (.slice sz (.t 89) (some (.t 90)) none none),oV 92 7,oN 93 (.call (.c (.func rr [])) [(.t 91),(.t 92)])]) (.seq (.reg [oV 94 0,oV 6 94]) .ret)))))))))))),results:=[(.tmp 6)] }
theorem JO{sz b o len cap l:Nat}{ex:Bool}(h:l≤len):iG sz (some (b,o)) sz len cap ex [] (some (.c (.int .i64 (l:Int)))) none none=some (.slice (some (b,o+l*sz)) sz (len-l) (cap-l) ex):=by
 unfold iG
 rw[if_pos (.inr rfl)]
 simp only[bT,lS,AX.ev,au]
 rw[if_pos ⟨by omega,by omega⟩]
 simp[jO]
theorem Vb{sz b o len cap l:Nat}{ex:Bool}(h:l≤cap):iG sz (some (b,o)) sz len cap ex [] none (some (.c (.int .i64 (l:Int)))) none=some (.slice (some (b,o)) sz l cap ex):=by
 unfold iG
 rw[if_pos (.inr rfl)]
 simp only[bT,lS,AX.ev,au]
 rw[if_pos ⟨by omega,by omega⟩]
 simp[jO]
theorem XU (C:bH) (K sz bytes:Nat) (zero:List AV) (ov rr:FuncId) (hz:zero.length=sz) (hsz:0<sz) (M:Heap) {b o n cap i b2 o2 cap2:Nat} {MQ ro sl:Bool} {c new:List AV} (hb:M.get b=some (.cells c ro sl)) (hbn:b≠M.next) (aaz:b2≠M.next)
  (hc:o+n*sz≤c.length) (hnew:M.read b2 o2 (1*sz)=some new) (hi:i<n) (hcap:cap<n+1) (hnc:n≤cap) (h1:(n+1)*bytes≤70368744177664) (h2:n+1≤70368744177664) :
  bbody C K (Iu sz bytes zero ov rr) [.slice (some (b,o)) sz n cap true,.int .i64 (i:Int),.slice (some (b2,o2)) sz 1 cap2 MQ] M =
   some (.slice (some (M.next,0)) sz (n+1) (n+1) false,M.push (.cells ((c.drop o).take (i*sz)++(new++(c.drop (o+i*sz)).take ((n-i)*sz))) false true)):=by
 obtain⟨N,hN⟩:∃N,N=n+1:=⟨_,rfl⟩
 obtain⟨I,hI⟩:∃I,I=i+1:=⟨_,rfl⟩
 obtain⟨D,hD⟩:∃D,D=N-i:=⟨_,rfl⟩
 have w1:IntKind.i64.wrap ((n:Int)+1)=(N:Int):=by rw[Proofs.Ytkedeiklmpkgkaa.wrap_i64 (by omega) (by omega)];omega
 have w2:IntKind.i64.wrap ((i:Int)+1)=(I:Int):=by rw[Proofs.Ytkedeiklmpkgkaa.wrap_i64 (by omega) (by omega)];omega
 have w3:IntKind.i64.wrap ((N:Int)-(i:Int))=(D:Int):=by rw[Proofs.Ytkedeiklmpkgkaa.wrap_i64 (by omega) (by omega)];omega
 have c1:(D:Int)≤70368744177664:=by omega
 have c2:0<D:=by omega
 have c3:bytes*D≤281474976710656:=by
  have:=Nat.mul_le_mul_left bytes (show D≤n+1 by omega)
  rw[Nat.mul_comm bytes (n+1)]at this
  omega
 have hne:¬i=n:=by omega
 have hgt:cap<N:=by omega
 have hbq:((i:Int)==(n:Int))=false:=by rw[beq_eq_false_iff_ne];omega
 have rl:(jo D zero).length=D*sz:=by rw[xL,hz]
 have hnl:new.length=sz:=by
  unfold Heap.read at hnew
  split at hnew
  case h_2=>cases hnew
  split at hnew
  case isFalse=>cases hnew
  obtain rfl:=ak hnew
  simp only[aV,aS]
  omega
 have his:i*sz≤n*sz:=Nat.mul_le_mul_right _ (by omega)
 have hpl:((c.drop o).take (i*sz)).length=i*sz:=by rw[aV,aS];omega
 have hsub:(n-i)*sz=n*sz-i*sz:=Nat.sub_mul _ _ _
 have hDs:D*sz=sz+(n-i)*sz:=by rw[hD,hN,show n+1-i=1+(n-i)by omega,Nat.add_mul,Nat.one_mul]
 have hIs:I*sz=i*sz+sz:=by rw[hI,Nat.add_mul,Nat.one_mul]
 have hql:((c.drop (o+i*sz)).take ((n-i)*sz)).length=(n-i)*sz:=by rw[aV,aS];omega
 generalize hpre:(c.drop o).take (i*sz)=pre at *
 generalize hpost:(c.drop (o+i*sz)).take ((n-i)*sz)=post at *
 have a1:eO sz bytes (.slice (some (b,o)) sz i cap true) D (jo D zero) M=some (.slice (some (M.next,0)) sz N N false,M.push (.cells (pre++jo D zero) false true)):=by
  have hold:(if True∧i=0 then some []else M.read b o (i*sz))=some pre:=by
   by_cases h0:i=0
   ·subst h0
    rw[if_pos ⟨trivial,rfl⟩,←hpre]
    simp
   ·rw[if_neg (by simp[h0])]
    simp only[Heap.read,hb]
    rw[if_pos (by omega),hpre]
  have e:i+D=N:=by omega
  simp only[eO]
  rw[if_neg (by simp),e,if_neg (by omega),if_pos ⟨by rw[hN];exact h1,by omega⟩]
  simp only[hold,au,if_true]
 have r1:(M.push (.cells (pre++jo D zero) false true)).read b2 o2 (1*sz)=some new:=by
  rw[←hnew]
  simp only[Heap.read,Heap.push,if_neg aaz]
 have k1:D7 sz (.slice (some (M.next,0+i*sz)) sz (N-i) (N-i) false) (.slice (some (b2,o2)) sz 1 cap2 MQ) (M.push (.cells (pre++jo D zero) false true))=some (.int .i64 ((1:Nat):Int),M.push (.cells (pre++(new++(jo D zero).drop sz)) false true)):=by
  have hm:min 1 (N-i)=1:=by omega
  simp only[D7,dM,aSize,beq_self_eq_true,au,hm,Ms,if_neg (show ¬(1=0)by omega),r1]
  rw[if_pos ⟨.inr trivial,trivial⟩]
  simp only[au,Heap.lay,Heap.push,if_true]
  rw[if_pos (.inl (by simp only[aJ];omega))]
  simp only[aW,Heap.put,av,aI,true_and,Heap.mk.injEq,and_true]
  funext z
  by_cases hz2:z=M.next
  ·simp only[hz2,if_true]
   congr 2
   rw[Nat.zero_add,←hpl,List.take_left,bE,List.drop_append,List.drop_of_length_le (by omega),List.nil_append]
   congr 3
   omega
  ·simp only[if_neg hz2]
 have r2:(M.push (.cells (pre++(new++(jo D zero).drop sz)) false true)).read b (o+i*sz) ((n-i)*sz)=some post:=by
  simp only[Heap.read,Heap.push,if_neg hbn,hb]
  rw[if_pos (by omega),hpost]
 have k2:D7 sz (.slice (some (M.next,0+I*sz)) sz (N-I) (N-I) false) (.slice (some (b,o+i*sz)) sz (n-i) (cap-i) true) (M.push (.cells (pre++(new++(jo D zero).drop sz)) false true))=some (.int .i64 ((n-i:Nat):Int),M.push (.cells (pre++(new++post)) false true)):=by
  have hm:min (n-i) (N-I)=n-i:=by omega
  simp only[D7,dM,aSize,beq_self_eq_true,au,hm,Ms,if_neg (show ¬(n-i=0)by omega),r2]
  rw[if_pos ⟨.inr trivial,trivial⟩]
  simp only[au,Heap.lay,Heap.push,if_true]
  rw[if_pos (.inl (by simp only[aJ,aS];omega))]
  simp only[aW,Heap.put,av,aI,true_and,Heap.mk.injEq,and_true]
  funext z
  by_cases hz2:z=M.next
  ·simp only[hz2,if_true]
   congr 2
   have e1:0+I*sz=(pre++new).length:=by rw[aJ];omega
   have e2:pre++(new++(jo D zero).drop sz)=(pre++new)++(jo D zero).drop sz:=by rw[bE]
   rw[e2,e1,List.take_left,List.drop_append,List.drop_of_length_le (by omega),List.nil_append,List.drop_of_length_le (by rw[aS];omega),List.append_nil,bE]
  ·simp only[if_neg hz2]
 have s1:=JO (sz:=sz) (b:=b) (o:=o) (cap:=cap) (ex:=true) (show i≤n by omega)
 have s2:=Vb (sz:=sz) (b:=b) (o:=o) (len:=n) (ex:=true) (show i≤cap by omega)
 have s3:=JO (sz:=sz) (b:=M.next) (o:=0) (cap:=N) (ex:=false) (show i≤N by omega)
 have s4:=JO (sz:=sz) (b:=M.next) (o:=0) (cap:=N) (ex:=false) (show I≤N by omega)
 rw[Nat.zero_add]at s3 s4 k1 k2
 rw[←hN]
 simp[bbody,Iu,start,List.replicate,List.replicate_succ,pF,pE,pz,sw,uq,uT.sub,jZ.sub,vO.sub,AX.sub,AX.gZ,bM,Proofs.Ytkedeiklmpkgkaa.o_,pq,Er,aP,aN,AX.ev,Ij,zS,Zy,jI,xI,Dy,gV,force_eq,w1,w2,w3,c1,c2,c3,hne,hgt,hbq,a1,k1,k2,s1,s2,s3,s4]
theorem Vd (C:bH) (K sz bytes:Nat) (zero:List AV) (ov rr:FuncId) (hsz:0<sz) (M:Heap) {b o n cap i b2 o2 cap2:Nat} {MQ sl:Bool} {c new:List AV} (hb:M.get b=some (.cells c false sl)) (hbb:b2≠b)
  (hc:o+n*sz≤c.length) (hcr:o+(n+1)*sz≤c.length∨sl=true) (hnew:M.read b2 o2 (1*sz)=some new) (hi:i<n) (hcap:n+1≤cap) (h2:n+1≤70368744177664)
  (hov:C ov [.slice (some (b2,o2)) sz 1 cap2 MQ,.slice (some (b,o+(i+1)*sz)) sz (n-i) (cap-(i+1)) true] M=some (.bool false,M)) :
  bbody C K (Iu sz bytes zero ov rr) [.slice (some (b,o)) sz n cap true,.int .i64 (i:Int),.slice (some (b2,o2)) sz 1 cap2 MQ] M =
   some (.slice (some (b,o)) sz (n+1) cap true,M.put b (some (.cells (ow sz i n o c new) false sl))):=by
 obtain⟨N,hN⟩:∃N,N=n+1:=⟨_,rfl⟩
 obtain⟨I,hI⟩:∃I,I=i+1:=⟨_,rfl⟩
 have w1:IntKind.i64.wrap ((n:Int)+1)=(N:Int):=by rw[Proofs.Ytkedeiklmpkgkaa.wrap_i64 (by omega) (by omega)];omega
 have w2:IntKind.i64.wrap ((i:Int)+1)=(I:Int):=by rw[Proofs.Ytkedeiklmpkgkaa.wrap_i64 (by omega) (by omega)];omega
 have hne:¬i=n:=by omega
 have hgt:¬cap<N:=by omega
 have hbq:((i:Int)==(n:Int))=false:=by rw[beq_eq_false_iff_ne];omega
 have hnl:new.length=sz:=by
  unfold Heap.read at hnew
  split at hnew
  case h_2=>cases hnew
  split at hnew
  case isFalse=>cases hnew
  obtain rfl:=ak hnew
  simp only[aV,aS]
  omega
 have his:i*sz≤n*sz:=Nat.mul_le_mul_right _ (by omega)
 have hsub:(n-i)*sz=n*sz-i*sz:=Nat.sub_mul _ _ _
 have hIs:I*sz=i*sz+sz:=by rw[hI,Nat.add_mul,Nat.one_mul]
 have hNs:N*sz=n*sz+sz:=by rw[hN,Nat.add_mul,Nat.one_mul]
 have hIn:I*sz≤n*sz:=Nat.mul_le_mul_right _ (by omega)
 have hql:((c.drop (o+i*sz)).take ((n-i)*sz)).length=(n-i)*sz:=by rw[aV,aS];omega
 rw[←hN]at hcr
 have hrow:ow sz i n o c new=c.take (o+i*sz)++(new++((c.drop (o+i*sz)).take ((n-i)*sz)++c.drop (o+N*sz))):=by rw[hN];rfl
 rw[hrow]
 generalize hpost:(c.drop (o+i*sz)).take ((n-i)*sz)=post at *
 have r2:M.read b (o+i*sz) ((n-i)*sz)=some post:=by
  simp only[Heap.read,hb]
  rw[if_pos (by omega),hpost]
 obtain⟨c1,hc1⟩:∃c1,c1=c.take (o+I*sz)++post++c.drop (o+I*sz+post.length):=⟨_,rfl⟩
 have ab3:o+i*sz+sz≤c1.length:=by rw[hc1];simp only[aJ,aV];omega
 have k1:D7 sz (.slice (some (b,o+I*sz)) sz (N-I) (cap-I) true) (.slice (some (b,o+i*sz)) sz (N-i) (cap-i) true) M=some (.int .i64 ((n-i:Nat):Int),M.put b (some (.cells c1 false sl))):=by
  have hm:min (N-i) (N-I)=n-i:=by omega
  simp only[D7,dM,aSize,beq_self_eq_true,au,hm,Ms,if_neg (show ¬(n-i=0)by omega),r2]
  rw[if_pos ⟨.inr trivial,trivial⟩]
  simp only[au,Heap.lay,hb]
  rw[if_pos (by
   rcases hcr with q | q
   ·left;omega
   ·right;exact⟨q,by omega⟩)]
  simp only[aW,hc1]
 have r1:(M.put b (some (.cells c1 false sl))).read b2 o2 (1*sz)=some new:=by
  rw[←hnew]
  simp only[Heap.read,Heap.put,if_neg hbb]
 have k2:D7 sz (.slice (some (b,o+i*sz)) sz (N-i) (cap-i) true) (.slice (some (b2,o2)) sz 1 cap2 MQ) (M.put b (some (.cells c1 false sl)))=some (.int .i64 ((1:Nat):Int),M.put b (some (.cells (c.take (o+i*sz)++(new++(post++c.drop (o+N*sz)))) false sl))):=by
  have hm:min 1 (N-i)=1:=by omega
  simp only[D7,dM,aSize,beq_self_eq_true,au,hm,Ms,if_neg (show ¬(1=0)by omega),r1]
  rw[if_pos ⟨.inr trivial,trivial⟩]
  simp only[au,Heap.lay,Heap.put,if_true]
  rw[if_pos (.inl (by omega))]
  simp only[aW,av,aI,true_and,Heap.mk.injEq,and_true]
  funext z
  by_cases hz2:z=b
  ·simp only[hz2,if_true]
   congr 2
   have e1:c1.take (o+i*sz)=c.take (o+i*sz):=by
    rw[hc1,bE,List.take_append_of_le_length (by rw[aV];omega),List.take_take,Nat.min_eq_left (by omega)]
   have e2:c1.drop (o+i*sz+new.length)=post++c.drop (o+N*sz):=by
    have e3:o+i*sz+new.length=(c.take (o+I*sz)).length:=by rw[aV];omega
    rw[hc1,bE,e3,List.drop_left]
    congr 2
    omega
   rw[e1,e2,bE]
  ·simp only[if_neg hz2]
 have s1:=JO (sz:=sz) (b:=b) (o:=o) (cap:=cap) (ex:=true) (show i≤n by omega)
 have s2:=Vb (sz:=sz) (b:=b) (o:=o) (len:=n) (ex:=true) (show N≤cap by omega)
 have s3:=JO (sz:=sz) (b:=b) (o:=o) (cap:=cap) (ex:=true) (show i≤N by omega)
 have s4:=JO (sz:=sz) (b:=b) (o:=o) (cap:=cap) (ex:=true) (show I≤N by omega)
 rw[←hI,show n-i=N-I by omega]at hov
 rw[←hN]
 simp[bbody,Iu,start,List.replicate,List.replicate_succ,pF,pE,pz,sw,uq,uT.sub,jZ.sub,vO.sub,AX.sub,AX.gZ,bM,Proofs.Ytkedeiklmpkgkaa.o_,pq,Er,aP,aN,NK,AX.ev,Ij,zS,Zy,jI,xI,Dy,gV,force_eq,w1,w2,hne,hgt,hbq,hov,k1,k2,s1,s2,s3,s4]
theorem KJ{sz bytes n:Nat}{s v:AV}{new:List AV}{M M':Heap}(h:eO sz bytes s n new M=some (v,M')):∃a z l c e,v=.slice a z l c e:=by
 unfold eO at h
 split at h
 case h_2=>cases h
 rename_i a sz' len cap ex
 split at h
 ·cases h
 split at h
 ·cases a with
  | none =>
   simp only at h
   split at h
   ·simp only[av,aI]at h;exact⟨_,_,_,_,_,h.1.symm⟩
   ·cases h
  | some q =>
   simp only at h
   split at h
   ·simp only[av,aI]at h;exact⟨_,_,_,_,_,h.1.symm⟩
   ·obtain⟨_,_,h⟩:=aC.1 h
    simp only[aI]at h
    exact⟨_,_,_,_,_,h.1.symm⟩
 ·split at h
  case isFalse=>cases h
  cases a with
  | none=>simp only[av,aI]at h;exact⟨_,_,_,_,_,h.1.symm⟩
  | some q =>
   obtain⟨old,_,h⟩:=aF.1 h
   split at h
   ·simp only[av,aI]at h;exact⟨_,_,_,_,_,h.1.symm⟩
   ·split at h
    ·simp only[av,aI]at h;exact⟨_,_,_,_,_,h.1.symm⟩
    ·cases h
theorem XV (C:bH) (K sz bytes:Nat) (zero:List AV) (ov rr:FuncId) (M:Heap) {a:Option (Nat×Nat)} {sz' n cap b2 o2 cap2:Nat} {ex MQ:Bool} {new:List AV} (ha:∀q,a=some q→sz'=sz) (hnc:n≤cap) (hnew:M.read b2 o2 (1*sz)=some new) :
  bbody C K (Iu sz bytes zero ov rr) [.slice a sz' n cap ex,.int .i64 (n:Int),.slice (some (b2,o2)) sz 1 cap2 MQ] M=eO sz bytes (.slice a sz' n cap ex) 1 new M:=by
 have hbq:((n:Int)==(n:Int))=true:=by simp
 have he:kC (.slice (some (b2,o2)) sz 1 cap2 MQ) M=some (1,new):=by
  simp only[kC]
  rw[if_neg (by omega),hnew]
  rfl
 have hs:dM (.slice (some (b2,o2)) sz 1 cap2 MQ) sz=true:=by simp[dM]
 have s1:iG sz a sz' n cap ex [] (some (.c (.int .i64 (n:Int)))) none none=some (.slice (jO a (n*sz)) sz (n-n) (cap-n) ex):=by
  unfold iG
  rw[if_pos (by
   cases a with
   | none=>exact .inl rfl
   | some q=>exact .inr (ha q rfl))]
  simp only[bT,lS,AX.ev,au]
  rw[if_pos ⟨by omega,by omega⟩]
  simp
 cases hA:eO sz bytes (.slice a sz' n cap ex) 1 new M with
 | none=>simp[bbody,Iu,start,List.replicate,List.replicate_succ,pF,pE,pz,sw,uq,uT.sub,jZ.sub,vO.sub,AX.sub,AX.gZ,bM,Proofs.Ytkedeiklmpkgkaa.o_,pq,Er,aP,aN,AX.ev,Ij,zS,Zy,jI,xI,Dy,gV,force_eq,hbq,he,hs,s1,hA]
 | some p =>
  obtain⟨v,M'⟩:=p
  obtain⟨_,_,_,_,_,rfl⟩:=KJ hA
  simp[bbody,Iu,start,List.replicate,List.replicate_succ,pF,pE,pz,sw,uq,uT.sub,jZ.sub,vO.sub,AX.sub,AX.gZ,bM,Proofs.Ytkedeiklmpkgkaa.o_,pq,Er,aP,aN,AX.ev,Ij,zS,Zy,jI,xI,Dy,gV,force_eq,hbq,he,hs,s1,hA]
def ownB(M:Heap)(b:Nat):Bool:=match M.get b with
 | some (.cells _ false _)=>true
 | _=>false
def Z0(args:List AV)(M:Heap):Option (AV×Heap) :=
 match args with
 | [.slice (some (b1,_)) _ n1 _ _,.slice (some (b2,_)) _ n2 _ _]=>if b1≠b2∧0<n1∧0<n2∧JN M b1=true∧ownB M b2=true then some (.bool false,M)else none
 | _=>none
theorem aaA {P:Program} {ov:FuncId} {fn:Func} {tS tR e:TypeId} {size:Nat} (hf:P.funcs[ov]?=some fn) (hname:(fn.name=="runtime.NumGoroutine")=false) (hb:fn.body.isNone=true) (hn:Extern.findNext fn=none)
  (he:Extern.find fn=some (Extern.SlicesOverlaps.overlaps #[tS,tS] #[tR])) (ht:P.underlying tS=some (.slice e)) (hz:l9 P e=some size):Hq P ov Z0:=by
 intro args M v M' h
 unfold Z0 at h
 split at h
 case h_2=>cases h
 rename_i b1 o1 sz1 n1 c1 e1 b2 o2 Xu n2 c2 e2
 split at h
 case isFalse=>cases h
 rename_i hc
 obtain⟨h1,h2,h3,h4,h5⟩:=hc
 simp only[av,aI]at h
 obtain⟨rfl,rfl⟩:=h
 refine⟨rfl,λι w vs r hv=>?_⟩
 obtain⟨x,y,hvs⟩:∃x y,vs.toList=[x,y]:=by
  have:=hv.length
  match hl:vs.toList,this with
  | [x,y],_=>exact⟨x,y,rfl⟩
  | [],h=>simp at h
  | [_],h=>simp at h
  | _::_::_::_,h=>simp at h
 have ab4:vs=#[x,y]:=by
  apply Array.ext'
  simpa using hvs
 subst ab4
 simp only[dQ,VR,and_true]at hv
 obtain⟨⟨l1,a1,k1,p1,rfl,p3,p4,p5,p6,p7,p8,p9,p10⟩,⟨l2,a2,k2,q1,rfl,q3,q4,q5,q6,q7,q8,q9,W_⟩⟩:=hv
 refine⟨.bool false, ?_,by simp[VR]⟩
 rw[run_callFunc_extern hf hname hb hn he]
 obtain⟨d1,hd1⟩:∃d,M.get b1=some (.cells d false false):=by
  unfold JN at h4
  split at h4
  ·exact⟨_,by assumption⟩
  ·cases h4
 obtain⟨d2,sl2,hd2⟩:∃d sl,M.get b2=some (.cells d false sl):=by
  unfold ownB at h5
  split at h5
  ·exact⟨_,_,by assumption⟩
  ·cases h5
 obtain⟨L1,ob1,m1,m2,m3⟩:=r.blk b1 _ hd1
 obtain⟨L2,ob2,n1',n2',n3'⟩:=r.blk b2 _ hd2
 rw[p1]at m1
 obtain rfl:=ak m1
 rw[q1]at n1'
 obtain rfl:=ak n1'
 obtain⟨cs1,t1,fz1,rfl,u2,u3,u4,u5,u6⟩:=m3
 obtain⟨cs2,t2,fz2,rfl,v2,v3,v4,v5,v6⟩:=n3'
 have hap:=r.apart b1 b2 _ _ _ _ hd1 hd2 p1 q1 h1 (.inl rfl)
 have hk1:k1≠0:=by omega
 have hk2:k2≠0:=by omega
 have e1:=p3.resolve_left hk1
 have e2:=q3.resolve_left hk2
 have hfz:=(u6 rfl).2 rfl
 have hm2:k2*Xu≠0:=Nat.mul_ne_zero hk2 (by omega)
 rw[Lib.run_overlaps_apart w tS tR e ht size (λw=>oh hz w) a1 a2 n1 k1 n2 k2 (by rw[e1,e2];exact hap) t1 t2 cs1.size cs2.size
  (by unfold World.shape?;rw[e1,m2]) (by unfold World.shape?;rw[e2,n2']) (by omega)
  (by unfold World.frozen?;rw[e1,m2];simp[hfz]) (by unfold World.frozen?;simp only[e1,m2];simp[hfz])]
 rfl
def Nc(sz i n o:Nat)(c new:List AV):List AV:=(c.drop o).take (i*sz)++(new++(c.drop (o+i*sz)).take ((n-i)*sz))
section
variable {sz i n o:Nat} {c new:List AV} (hi:i<n) (hc:o+n*sz≤c.length) (hn:new.length=sz)
include hi hc hn
theorem OT:(Nc sz i n o c new).length=(n+1)*sz:=by
 have his:i*sz≤n*sz:=Nat.mul_le_mul_right _ (by omega)
 have hsub:(n-i)*sz=n*sz-i*sz:=Nat.sub_mul _ _ _
 have hmul:(n+1)*sz=n*sz+sz:=by rw[Nat.add_mul,Nat.one_mul]
 unfold Nc
 simp only[aJ,aV,aS]
 omega
theorem XW:ow sz i n 0 ((c.drop o).take (n*sz)++new) new=Nc sz i n o c new:=by
 have his:i*sz≤n*sz:=Nat.mul_le_mul_right _ (by omega)
 have hsub:(n-i)*sz=n*sz-i*sz:=Nat.sub_mul _ _ _
 have hmul:(n+1)*sz=n*sz+sz:=by rw[Nat.add_mul,Nat.one_mul]
 have hl:((c.drop o).take (n*sz)).length=n*sz:=by rw[aV,aS];omega
 have d3:((c.drop o).take (n*sz)++new).drop ((n+1)*sz)=[]:=List.drop_of_length_le (by rw[aJ];omega)
 unfold ow Nc
 rw[Nat.zero_add,Nat.zero_add,d3,List.take_append_of_le_length (by omega),List.drop_append_of_le_length (by omega),List.take_append_of_le_length (by rw[aS];omega),List.append_nil,List.take_take,Nat.min_eq_left his,List.drop_take,List.drop_drop,List.take_take,Nat.min_eq_left (by omega)]
theorem row_in:((ow sz i n o c new).drop o).take ((n+1)*sz)=Nc sz i n o c new:=by
 have his:i*sz≤n*sz:=Nat.mul_le_mul_right _ (by omega)
 have hsub:(n-i)*sz=n*sz-i*sz:=Nat.sub_mul _ _ _
 have hl:=OT hi hc hn
 have e:ow sz i n o c new=c.take o++(Nc sz i n o c new++c.drop (o+(n+1)*sz)):=by
  unfold ow Nc
  rw[List.take_add]
  simp only[bE]
 have ho:(c.take o).length=o:=by rw[aV];omega
 rw[e,List.drop_left' ho,List.take_left' hl]
end
theorem RP(M:Heap)(b:Nat)(x y:Option jN):(M.put b x).put b y=M.put b y:=by
 unfold Heap.put
 congr 1
 funext i
 simp only
 split<;>rfl
theorem JQ(M:Heap)(x y:jN):(M.push x).put M.next (some y)=M.push y:=by
 unfold Heap.put Heap.push
 congr 1
 funext i
 simp only
 split<;>rfl
theorem SI(M:Heap){b:Nat}(hb:b≠M.next)(y:jN):(M.push y).put b none=(M.put b none).push y:=by
 unfold Heap.put Heap.push
 congr 1
 funext i
 simp only
 by_cases h1:i=b
 ·subst h1
  rw[if_pos rfl,if_neg hb,if_pos rfl]
 ·rw[if_neg h1,if_neg h1]
theorem Qr{P:Program}{f ov rr:FuncId}{hs:Hints}{sz bytes:Nat}{zero:List AV}(hz:zero.length=sz)(hsz:0<sz)(hcf:bJ P f hs=some (Iu sz bytes zero ov rr))(hfo:f≠ov)(hov:Hq P ov Z0):Et P f∧Sound P f (Qq sz bytes):=by
 refine⟨Fq hcf, ?_⟩
 intro args M v M' h ι w vs r hv
 -- the machine that has its code
 obtain⟨G,hGd⟩:∃G:MJ,G=λg=>if g=ov then some Z0 else none:=⟨_,rfl⟩
 obtain⟨T,hTd⟩:∃T:FuncId→Option dD,T=λg=>if g=f then some (Iu sz bytes zero ov rr)else none:=⟨_,rfl⟩
 have hGf:G f=none:=by rw[hGd];simp[hfo]
 have hS:Sound P f (mE G T KK 2 f):=Lc (λg x hg=>by
  rw[hGd]at hg
  simp only at hg
  split at hg
  ·rename_i e
   obtain rfl:=ak hg
   subst e
   exact .inr hov
  ·cases hg) (λg x hg=>by
  rw[hTd]at hg
  simp only at hg
  split at hg
  ·rename_i e
   obtain rfl:=ak hg
   subst e
   exact⟨hs,hcf⟩
  ·cases hg) KK 2 hGf
 have hrun:∀as M,mE G T KK 2 f as M=bbody (mE G T KK 1) KK (Iu sz bytes zero ov rr) as M:=λas M=>by
  have:T f=some (Iu sz bytes zero ov rr):=by rw[hTd];simp
  simp only[mE,hGf,this]
 have ab5:∀as M,mE G T KK 1 ov as M=Z0 as M:=λas M=>by
  have:G ov=some Z0:=by rw[hGd];simp
  simp only[mE,this]
 -- what is told
 unfold Qq at h
 split at h
 case h_2=>cases h
 rename_i a sz' n cap ex i b2 o2 Xu m2 cap2 MQ
 split at h
 case isFalse=>cases h
 rename_i hc
 obtain⟨rfl,rfl,hi0,hi1,hpl,hap,hbig⟩:=hc
 obtain⟨new,hnew,h⟩:=aF.1 h
 obtain⟨⟨v1,M1⟩,happ,h⟩:=aF.1 h
 obtain⟨k,rfl⟩:∃k:Nat,i=(k:Int):=⟨i.toNat,by omega⟩
 have TQ:∀q,a=some q→sz'=Xu:=λq hq=>by
  unfold eO at happ
  simp only at happ
  split at happ
  ·cases happ
  ·rename_i hh
   rcases Classical.em (sz'=Xu)with e | e
   ·exact e
   ·exact absurd ⟨by rw[hq];simp,e⟩ hh
 have hv0:=hv
 obtain⟨x,y,z,hvs⟩:∃x y z,vs.toList=[x,y,z]:=by
  have:=hv.length
  match hl:vs.toList,this with
  | [x,y,z],_=>exact⟨x,y,z,rfl⟩
  | [],h=>simp at h
  | [_],h=>simp at h
  | [_,_],h=>simp at h
  | _::_::_::_::_,h=>simp at h
 rw[hvs]at hv
 simp only[dQ,and_true]at hv
 obtain⟨hv1,hv2,hv3⟩:=hv
 have abl:n≤cap:=by
  cases a with
  | none=>simp only[VR]at hv1;omega
  | some q=>obtain⟨b,o⟩:=q;simp only[VR]at hv1;obtain⟨_,_,_,_,_,_,_,_,e,_⟩:=hv1;exact e
 unfold Nb at h
 split at h
 ·-- at the end
  rename_i hin
  simp only[av,aI]at h
  obtain⟨rfl,rfl⟩:=h
  have hkn:k=n:=by omega
  subst hkn
  refine hS _ _ _ _ ?_ ι w vs r hv0
  rw[hrun,XV _ _ _ _ _ _ _ _ TQ abl hnew]
  exact happ
 rename_i hin
 have hkn:k<n:=by omega
 cases a with
 | none=>simp only[VR]at hv1;omega
 | some q =>
 obtain⟨b,o⟩:=q
 obtain rfl:=TQ _ rfl
 have hbb:b≠b2:=(hap.resolve_left hin) _ rfl
 simp only[VR]at hv1
 obtain⟨l,ad,cap',q1,rfl,q3,q4,q5,q6,q7,q8,q9,W_⟩:=hv1
 have hvE:dQ ι [.slice (some (b,o)) sz' n cap' true,.int .i64 (k:Int),.slice (some (b2,o2)) sz' 1 cap2 MQ] vs.toList:=by
  rw[hvs]
  simp only[dQ,and_true]
  exact⟨by simp only[VR];exact⟨l,ad,cap',q1,rfl,q3,q4,q5,by omega,Nat.le_refl _,λ_=>rfl,q9,W_⟩,hv2,hv3⟩
 have hbn:b≠M.next:=Nat.ne_of_lt (r.lt' q1)
 have aaz:b2≠M.next:=by
  obtain⟨_,hg⟩:∃d,M.get b2=some d:=by
   unfold Heap.read at hnew
   split at hnew
   ·exact⟨_,by assumption⟩
   ·cases hnew
  exact Nat.ne_of_lt (r.lt hg)
 have hnl:new.length=sz':=by
  have:=(r.read hnew).1
  omega
 have hbig':n+1≤70368744177664:=hbig
 -- what stands there
 obtain⟨c,ro,sl,hb,hcl,hro⟩:∃c ro sl,M.get b=some (.cells c ro sl)∧o+n*sz'≤c.length∧(n+1≤cap∨ex=false→ro=false):=by
  unfold eO at happ
  simp only at happ
  rw[if_neg (by simp)]at happ
  split at happ
  ·rw[if_neg (by omega)]at happ
   obtain⟨M2,hw,_⟩:=aC.1 happ
   unfold Heap.write at hw
   split at hw
   case h_2=>cases hw
   rename_i c sl hg
   split at hw
   case isFalse=>cases hw
   exact⟨c,false,sl,hg,by omega,λ_=>rfl⟩
  ·split at happ
   case isFalse=>cases happ
   rw[if_neg (by omega)]at happ
   obtain⟨old,hold,happ⟩:=aF.1 happ
   unfold Heap.read at hold
   split at hold
   case h_2=>cases hold
   rename_i c ro sl hg
   split at hold
   case isFalse=>cases hold
   rename_i hle
   refine⟨c,ro,sl,hg,hle, ?_⟩
   rintro(hh | hh)
   ·omega
   ·subst hh
    simp only[Bool.false_eq_true,if_false,hg]at happ
    split at happ
    ·rename_i hh2
     simp only[av,jN.cells.injEq]at hh2
     exact hh2.2.1
    ·cases happ
 have hold:cap<n+1→(if (ex=true∧n=0)then some []else M.read b o (n*sz'))=some ((c.drop o).take (n*sz')):=λ_=>by
  rw[if_neg (by omega)]
  simp only[Heap.read,hb]
  rw[if_pos hcl]
 have hsub:=Nat.add_mul n 1 sz'
 have hrow:=XW hkn hcl hnl
 have hrl:=OT hkn hcl hnl
 -- its bounds
 have hbounds:cap<n+1→(n+1)*bytes≤70368744177664:=λhlt=>by
  unfold eO at happ
  simp only at happ
  rw[if_neg (by simp),if_neg (by omega)]at happ
  split at happ
  ·rename_i hh;exact hh.1
  ·cases happ
 rcases Nat.lt_or_ge cap' (n+1)with hlt | hge
 ·-- a new row
  have hlt':cap<n+1:=by omega
  have hE:=hrun [.slice (some (b,o)) sz' n cap' true,.int .i64 (k:Int),.slice (some (b2,o2)) sz' 1 cap2 MQ] M
  rw[XU _ _ _ _ _ _ _ hz hsz M hb hbn aaz hcl hnew hkn hlt (by omega) (hbounds hlt') hbig']at hE
  have hres:=hS _ _ _ _ hE ι w vs r hvE
  unfold eO at happ
  simp only at happ
  rw[if_neg (by simp),if_neg (by omega),if_pos ⟨hbounds hlt',hbig'⟩,hold hlt',au]at happ
  split at happ
  ·simp only[av,aI]at happ
   obtain⟨rfl,rfl⟩:=happ
   simp only[Heap.push,if_true,av,aI]at h
   obtain⟨rfl,rfl⟩:=h
   refine hres.mono ?_
   rintro e w' ⟨bI,v',g1,g2,g3⟩
   refine⟨bI,v',g1,g2, ?_⟩
   rw[bC,hrow]
   rw[show({ get:=λi=>if i=M.next then some (jN.cells ((c.drop o).take (n*sz')++new) false true)else M.get i,next:=M.next+1 }:Heap)=M.push (.cells ((c.drop o).take (n*sz')++new) false true)from rfl,JQ]
   exact g3
  ·rename_i hex
   have aaB:=hro (.inr (by simpa using hex))
   subst aaB
   simp only[hb,av,aI]at happ
   obtain⟨rfl,rfl⟩:=happ
   have hnx:(M.put b none).next=M.next:=rfl
   simp only[Heap.push,hnx,if_true,av,aI]at h
   obtain⟨rfl,rfl⟩:=h
   refine hres.mono ?_
   rintro e w' ⟨bI,v',g1,g2,g3⟩
   refine⟨bI,v',g1,g2, ?_⟩
   rw[bC,hrow]
   have hk:=Tr.kill g3.rel b (by have:=r.lt' q1;have:=g3.next;omega)
   have:=g3.trans hk
   rw[SI M hbn]at this
   rw[show({ get:=λi=>if i=M.next then some (jN.cells ((c.drop o).take (n*sz')++new) false true)else (M.put b none).get i,next:=M.next+1 }:Heap)=(M.put b none).push (.cells ((c.drop o).take (n*sz')++new) false true)from rfl]
   rw[←hnx,JQ]
   exact this
 ·-- in place
  have aaB:ro=false:=hro (by
   rcases Nat.lt_or_ge cap (n+1)with hh | hh
   ·right
    cases ex with
    | false=>rfl
    | true=>have:=q8 rfl;omega
   ·exact .inl hh)
  subst aaB
  obtain⟨lb,ob,z1,z2,z3⟩:=r.blk b _ hb
  rw[q1]at z1
  obtain rfl:=ak z1
  have hcs:=Nat.mul_le_mul_right sz' hge
  have hcr:o+(n+1)*sz'≤c.length∨sl=true:=by
   cases sl with
   | true=>exact .inr rfl
   | false =>
    obtain⟨_,_,_,_,_,_,z4,_⟩:=z3
    have:=z4 rfl
    left
    omega
  have ab6:mE G T KK 1 ov [.slice (some (b2,o2)) sz' 1 cap2 MQ,.slice (some (b,o+(k+1)*sz')) sz' (n-k) (cap'-(k+1)) true] M=some (.bool false,M):=by
   rw[ab5]
   unfold Z0
   simp only
   rw[if_pos ⟨λe=>hbb e.symm,by omega,by omega,hpl,by simp[ownB,hb]⟩]
  have hE:=hrun [.slice (some (b,o)) sz' n cap' true,.int .i64 (k:Int),.slice (some (b2,o2)) sz' 1 cap2 MQ] M
  rw[Vd _ _ _ _ _ _ _ hsz M hb (λe=>hbb e.symm) hcl hcr hnew hkn hge hbig' ab6]at hE
  have hres:=hS _ _ _ _ hE ι w vs r hvE
  refine hres.mono ?_
  rintro e w' ⟨bI,v',g1,g2,g3⟩
  simp only[VR]at g2
  obtain⟨l',Xc,Z4,t1,rfl,t3,t4,t5,t6,t7,t8,t9,t10⟩:=g2
  obtain rfl:=t8 trivial
  unfold eO at happ
  simp only at happ
  rw[if_neg (by simp)]at happ
  split at happ
  ·-- it was known
   rename_i hroom
   rw[if_neg (by omega)]at happ
   obtain⟨M2,hw,happ⟩:=aC.1 happ
   simp only[aI]at happ
   obtain⟨rfl,rfl⟩:=happ
   unfold Heap.write at hw
   rw[hb]at hw
   simp only at hw
   split at hw
   case isFalse=>cases hw
   rename_i hle
   obtain rfl:=ak hw
   simp only[Heap.put,if_true,av,aI]at h
   obtain⟨rfl,rfl⟩:=h
   refine⟨bI,_,g1,by simp only[VR];exact⟨l',Xc,Z4,t1,rfl,t3,t4,t5,hroom,by omega,λhx=>q8 hx,t9,t10⟩, ?_⟩
   have his:k*sz'≤n*sz':=Nat.mul_le_mul_right _ (by omega)
   have hsb:(n-k)*sz'=n*sz'-k*sz':=Nat.sub_mul _ _ _
   have hrow2:ow sz' k n o (c.take (o+n*sz')++new++c.drop (o+n*sz'+new.length)) new=ow sz' k n o c new:=by
    have acU:(c.take (o+n*sz')).length=o+n*sz':=by rw[aV];omega
    unfold ow
    have d1:(c.take (o+n*sz')++new++c.drop (o+n*sz'+new.length)).take (o+k*sz')=c.take (o+k*sz'):=by
     rw[bE,List.take_append_of_le_length (by omega),List.take_take,Nat.min_eq_left (by omega)]
    have d2:((c.take (o+n*sz')++new++c.drop (o+n*sz'+new.length)).drop (o+k*sz')).take ((n-k)*sz')=(c.drop (o+k*sz')).take ((n-k)*sz'):=by
     rw[bE,List.drop_append_of_le_length (by omega),List.take_append_of_le_length (by rw[aS];omega),List.drop_take,List.take_take,Nat.min_eq_left (by omega)]
    have d3:(c.take (o+n*sz')++new++c.drop (o+n*sz'+new.length)).drop (o+(n+1)*sz')=c.drop (o+(n+1)*sz'):=by
     have e1:o+(n+1)*sz'=(c.take (o+n*sz')++new).length:=by rw[aJ];omega
     rw[e1,List.drop_left]
     congr 1
     rw[aJ]
     omega
    rw[d1,d2,d3]
   rw[bC,hrow2]
   rw[show({ get:=λi=>if i=b then some (jN.cells (ow sz' k n o c new) false sl)else if i=b then some (jN.cells (c.take (o+n*sz')++new++c.drop (o+n*sz'+new.length)) false sl)else M.get i,next:=M.next }:Heap)=(M.put b (some (.cells (c.take (o+n*sz')++new++c.drop (o+n*sz'+new.length)) false sl))).put b (some (.cells (ow sz' k n o c new) false sl))from rfl,RP]
   exact g3
  ·-- the old row's place is taken
   rename_i hroom
   have hlt':cap<n+1:=by omega
   rw[if_pos ⟨hbounds hlt',hbig'⟩,hold hlt',au]at happ
   have hex:ex=false:=by
    cases ex with
    | false=>rfl
    | true=>have:=q8 rfl;omega
   subst hex
   simp only[Bool.false_eq_true,if_false,hb,av,aI]at happ
   obtain⟨rfl,rfl⟩:=happ
   have hnx:(M.put b none).next=M.next:=rfl
   simp only[Heap.push,hnx,if_true,av,aI]at h
   obtain⟨rfl,rfl⟩:=h
   have hl':bI b=some l:=by rw[g3.agree b (r.lt' q1),q1]
   rw[hl']at t1
   obtain rfl:=ak t1
   have hgb:(M.put b (some (.cells (ow sz' k n o c new) false sl))).get b=some (.cells (ow sz' k n o c new) false sl):=by simp[Heap.put]
   obtain⟨lb',ob',y1,y2,y3⟩:=g3.rel.blk b _ hgb
   rw[hl']at y1
   obtain rfl:=ak y1
   have y3':=y3
   obtain⟨cs,el,fz,rfl,u2,u3,u4,u5,u6⟩:=y3
   have hnone:=(g3.rel.fresh M.next (Nat.le_refl _)).2
   have hle:=fq.zl hnone ⟨l.j,l.d+o,l.N-o⟩
   have hbr:BR (bI.set M.next ⟨l.j,l.d+o,l.N-o⟩) (.cells (Nc sz' k n o c new) false true) ⟨l.j,l.d+o,l.N-o⟩ (.cells cs el fz):=by
    refine⟨cs,el,fz,rfl,by simp only;omega,by simp only;omega,(λh=>by cases h),λz x hx=>?_,λhr=>⟨(u6 hr).1,λh=>by cases h⟩⟩
    rw[←row_in hkn hcl hnl,List.getElem?_take]at hx
    split at hx
    case isFalse=>cases hx
    rw[List.getElem?_drop]at hx
    obtain⟨vv,a1,a2,a3⟩:=u5 _ _ hx
    exact⟨vv,by simp only;rw[Nat.add_assoc];exact a1,a2,a3.mono hle⟩
   have hrn:=Tr.rename g3.rel hgb rfl rfl hl' (l':=⟨l.j,l.d+o,l.N-o⟩) (x':=.cells (Nc sz' k n o c new) false true) rfl ⟨rfl,λ_ _=>rfl,y2,rfl,rfl,rfl⟩ hbr
   have hall:=g3.trans hrn
   rw[RP]at hall
   refine⟨bI.set M.next ⟨l.j,l.d+o,l.N-o⟩,_,g1, ?_, ?_⟩
   rotate_left
   ·rw[bC,hrow]
    rw[show({ get:=λi=>if i=M.next then some (jN.cells ((c.drop o).take (n*sz')++new) false true)else (M.put b none).get i,next:=M.next+1 }:Heap)=(M.put b none).push (.cells ((c.drop o).take (n*sz')++new) false true)from rfl]
    rw[←hnx,JQ]
    exact hall
   ·simp only[VR]
    refine⟨⟨l.j,l.d+o,l.N-o⟩,Xc,Z4,by simp[fq.set,Heap.put],rfl,t3,t4, ?_,Nat.le_refl _,t6,(λh=>by cases h),by simp only;omega,t10⟩
    rcases t5 with t5 | t5
    ·exact .inl t5
    ·right
     simp only
     omega
def Ve(sz bytes:Nat)(zero:List AV):dD:={ nargs:=3,ntmps:=33,code:=(.seq (.reg [oC 6 (.slice none 1 0 0 true)]) (.seq (.reg [oV 8 0,oV 9 1,oV 10 2,oV 11 0,oP 12 (.len false (.t 11)),oP 13 (.slice sz (.t 8) (some (.t 9)) (some (.t 10)) (some (.t 12)))]) (.seq (.seq (.reg [oV 14 1,oV 15 2,oP 16 (.bin .eql (.t 14) (.t 15))]) (.cond (.t 16) (.seq (.reg [oV 17 0,oV 6 17]) .ret) .skip)) (.seq (.reg [oV 18 0,oP 19 (.len false (.t 18)),oV 7 19]) (.seq (.Ii 0 [oD (oV 20 0) 0 0,oD (oV 21 1) 0 0,oD (oP 22 (.slice sz (.t 20) none (some (.t 21)) none)) 0 0,oD (oV 23 0) 0 0,oD (oV 24 2) 0 0,oD (oP 25 (.slice sz (.t 23) (some (.t 24)) none none)) 0 0,oD (oN 26 (.append sz bytes (.t 22) (.t 25))) 0 0,oD (oV 0 26) 1 0]) (.seq (.reg [oV 27 0,oV 28 0,oP 29 (.len false (.t 28)),oV 30 7,oP 31 (.slice sz (.t 27) (some (.t 29)) (some (.t 30)) none),oZ (.clear sz zero (.t 31))]) (.seq (.reg [oV 32 0,oV 6 32]) .ret))))))),results:=[(.tmp 6)] }
theorem XY{sz b o len cap l h:Nat}{ex:Bool}(h1:l≤h)(h2:h≤cap):iG sz (some (b,o)) sz len cap ex [] (some (.c (.int .i64 (l:Int)))) (some (.c (.int .i64 (h:Int)))) none=some (.slice (some (b,o+l*sz)) sz (h-l) (cap-l) ex):=by
 unfold iG
 rw[if_pos (.inr rfl)]
 simp only[bT,lS,AX.ev]
 rw[if_pos ⟨by omega,by omega⟩,au,if_pos ⟨by omega,by omega⟩]
 simp[jO]
theorem Vf{sz b o len cap l h m:Nat}{ex:Bool}(h1:l≤h)(h2:h≤m)(h3:m≤cap):iG sz (some (b,o)) sz len cap ex [] (some (.c (.int .i64 (l:Int)))) (some (.c (.int .i64 (h:Int)))) (some (.c (.int .i64 (m:Int))))=some (.slice (some (b,o+l*sz)) sz (h-l) (m-l) true):=by
 unfold iG
 rw[if_pos (.inr rfl)]
 simp only[bT,lS,AX.ev]
 rw[if_pos ⟨by omega,by omega⟩,au,bC,if_pos ⟨by omega,by omega⟩,au,bC,if_pos ⟨by omega,by omega⟩]
 simp[jO]
theorem XZ (C:bH) (K sz bytes:Nat) (zero:List AV) (hz:zero.length=sz) (M:Heap) {b o n cap i j:Nat} {ex sl:Bool} {c:List AV} (hb:M.get b=some (.cells c false sl)) (hc:o+n*sz≤c.length) (hij:i<j) (hjn:j≤n) (hnc:n≤cap) :
  bbody C K (Ve sz bytes zero) [.slice (some (b,o)) sz n cap ex,.int .i64 (i:Int),.int .i64 (j:Int)] M =
   some (.slice (some (b,o)) sz (n-(j-i)) cap ex,M.put b (some (.cells ((c.take (o+i*sz)++(c.drop (o+j*sz)).take ((n-j)*sz))++(jo (j-i) zero++c.drop (o+n*sz))) false sl))):=by
 obtain⟨R,hR⟩:∃R,R=n-(j-i):=⟨_,rfl⟩
 have hRe:i+(n-j)=R:=by omega
 have hnR:n-R=j-i:=by omega
 have hne:¬i=j:=by omega
 have hbq:((i:Int)==(j:Int))=false:=by rw[beq_eq_false_iff_ne];omega
 have m1:i*sz≤j*sz:=Nat.mul_le_mul_right _ (by omega)
 have m2:j*sz≤n*sz:=Nat.mul_le_mul_right _ hjn
 have m3:(n-j)*sz=n*sz-j*sz:=Nat.sub_mul _ _ _
 have m4:(j-i)*sz=j*sz-i*sz:=Nat.sub_mul _ _ _
 have m5:R*sz=i*sz+(n-j)*sz:=by rw[←hRe,Nat.add_mul]
 have hpl:((c.drop (o+j*sz)).take ((n-j)*sz)).length=(n-j)*sz:=by rw[aV,aS];omega
 have hrl:(jo (j-i) zero).length=(j-i)*sz:=by rw[xL,hz]
 obtain⟨post,hpost⟩:∃post,post=(c.drop (o+j*sz)).take ((n-j)*sz):=⟨_,rfl⟩
 rw[←hpost]at hpl ⊢
 have he:kC (.slice (some (b,o+j*sz)) sz (n-j) (cap-j) ex) M=some (n-j,post):=by
  simp only[kC]
  by_cases h0:n-j=0
  ·rw[if_pos h0,h0]
   have:post=[]:=List.eq_nil_of_length_eq_zero (by rw[hpl,h0,Nat.zero_mul])
   rw[this]
  ·rw[if_neg h0]
   simp only[Heap.read,hb]
   rw[if_pos (by omega),←hpost]
   rfl
 have hs:dM (.slice (some (b,o+j*sz)) sz (n-j) (cap-j) ex) sz=true:=by simp[dM]
 obtain⟨c1,hc1⟩:∃c1,c1=c.take (o+i*sz)++post++c.drop (o+i*sz+post.length):=⟨_,rfl⟩
 have a1:eO sz bytes (.slice (some (b,o)) sz i cap ex) (n-j) post M=some (.slice (some (b,o)) sz R cap ex,M.put b (some (.cells c1 false sl))):=by
  simp only[eO]
  rw[if_neg (by simp),if_pos (by omega)]
  by_cases h0:n-j=0
  ·rw[if_pos h0]
   have hp0:post=[]:=List.eq_nil_of_length_eq_zero (by rw[hpl,h0,Nat.zero_mul])
   have:M.put b (some (.cells c1 false sl))=M:=by
    rw[hc1,hp0,List.append_nil,fJ,Nat.add_zero,List.take_append_drop]
    exact Heap.FB hb
   rw[this,show R=i by omega]
  ·rw[if_neg h0]
   simp only[Heap.write,hb]
   rw[if_pos (by omega),aW,hRe,hc1]
 have ab3:c1.length=c.length:=by rw[hc1];simp only[aJ,aV,aS];omega
 have k1:Mt sz zero (.slice (some (b,o+R*sz)) sz (n-R) (cap-R) ex) (M.put b (some (.cells c1 false sl)))=some (.tuple [],M.put b (some (.cells ((c.take (o+i*sz)++post)++(jo (j-i) zero++c.drop (o+n*sz))) false sl))):=by
  simp only[Mt]
  rw[if_pos trivial,if_neg (by omega),hnR]
  simp only[Heap.write,Heap.put,if_true]
  rw[if_pos (by omega)]
  simp only[aW,av,aI,true_and,Heap.mk.injEq,and_true]
  funext z
  by_cases hz2:z=b
  ·simp only[hz2,if_true]
   congr 2
   have e1:o+R*sz=(c.take (o+i*sz)++post).length:=by rw[aJ,aV];omega
   have e2:c1.take (o+R*sz)=c.take (o+i*sz)++post:=by rw[hc1,e1,List.take_left]
   have e3:c1.drop (o+R*sz+(jo (j-i) zero).length)=c.drop (o+n*sz):=by
    rw[hc1,List.drop_append,List.drop_of_length_le (by omega),List.nil_append,List.drop_drop]
    congr 1
    omega
   rw[e2,e3,bE]
  ·simp only[if_neg hz2]
 have s1:=Vf (sz:=sz) (b:=b) (o:=o) (len:=n) (ex:=ex) (show i≤j by omega) hjn hnc
 have s2:=Vb (sz:=sz) (b:=b) (o:=o) (len:=n) (ex:=ex) (show i≤cap by omega)
 have s3:=JO (sz:=sz) (b:=b) (o:=o) (cap:=cap) (ex:=ex) hjn
 have s4:=XY (sz:=sz) (b:=b) (o:=o) (len:=R) (ex:=ex) (show R≤n by omega) hnc
 rw[←hR]
 simp[bbody,Ve,start,List.replicate,List.replicate_succ,pF,pE,pz,sw,uq,uT.sub,jZ.sub,vO.sub,AX.sub,AX.gZ,bM,Proofs.Ytkedeiklmpkgkaa.o_,pq,Sk,Er,aP,aN,AX.ev,Ij,zS,Zy,jI,xI,Dy,gV,force_eq,hne,hbq,he,hs,a1,k1,s1,s2,s3,s4]
theorem X0{A:Tab}{d:Nat}{f:FuncId}{sz bytes:Nat}{zero:List AV}(hz:zero.length=sz)(hG:A.1 f=none)(hT:A.2 f=some (Ve sz bytes zero)):Pz (aY A (d+1)) f (.del sz):=by
 intro R ι H M args as dst tr k s hv h
 simp only[wBt]at h
 split at h
 case h_2=>exact h.elim
 rename_i b sz1 n i j
 match as,hv with
 | [],hv=>simp[bL]at hv
 | [_],hv=>simp[bL]at hv
 | [_,_],hv=>simp[bL]at hv
 | _::_::_::_::_,hv=>simp[bL]at hv
 | [a,ai,aj],hv =>
 simp only[bL]at hv
 obtain⟨ha,hi,hj,_⟩:=hv
 simp only[VL]at hi hj
 subst hi hj
 split at h
 case h_2=>exact h.elim
 rename_i hsz
 obtain rfl:=bg hsz
 split at h
 case h_2=>exact h.elim
 rename_i c hg
 obtain⟨_,⟨h0,h1,h2⟩,h⟩:=iM h
 obtain⟨iN,hk⟩:=I7 h
 obtain⟨i,rfl⟩:∃k:Nat,i=(k:Int):=⟨i.toNat,by omega⟩
 obtain⟨j,rfl⟩:∃k:Nat,j=(k:Int):=⟨j.toNat,by omega⟩
 simp only[bC]at hk
 obtain⟨k1,k2,p,s',cap,ex,rfl,k3,k4,k5⟩:=VL.qX s ha hg
 rcases k5 with⟨q,c',t,ro',sl',L,g1,g2,g3,g4,g5,g6,rfl,g7⟩ |⟨e,_⟩
 case inr=>omega
 obtain rfl:=k4 (by simp)
 obtain⟨rfl,_⟩:=g3 rfl
 simp only[if_true]at g6
 have hcn:=(k2 rfl).2
 have hcl:=g6.length
 have m1:i*s'≤j*s':=Nat.mul_le_mul_right _ (by omega)
 have m2:j*s'≤n*s':=Nat.mul_le_mul_right _ (by omega)
 have m3:(n-j)*s'=n*s'-j*s':=Nat.sub_mul _ _ _
 have m4:(j-i)*s'=j*s'-i*s':=Nat.sub_mul _ _ _
 have m5:(n-(j-i))*s'=n*s'-(j-i)*s':=Nat.sub_mul _ _ _
 have hrun:aY A (d+1) f [.slice (some (q,0)) s' n cap ex,.int .i64 (i:Int),.int .i64 (j:Int)] M=bbody (aY A d) KK (Ve s' bytes zero) [.slice (some (q,0)) s' n cap ex,.int .i64 (i:Int),.int .i64 (j:Int)] M:=by simp only[aY,mE,hG,hT]
 rw[hrun,XZ _ _ _ _ _ hz M g2 (by rw[aJ];omega) (show i<j by omega) (by omega) k3]
 have hrow:((c'++t).take (0+i*s')++((c'++t).drop (0+j*s')).take ((n-j)*s'))++(jo (j-i) zero++(c'++t).drop (0+n*s'))=(c'.take (i*s')++c'.drop (j*s'))++(jo (j-i) zero++t):=by
  have d1:(c'++t).take (i*s')=c'.take (i*s'):=List.take_append_of_le_length (by omega)
  have d2:((c'++t).drop (j*s')).take ((n-j)*s')=c'.drop (j*s'):=by
   have hl:(c'.drop (j*s')).length=(n-j)*s':=by rw[aS];omega
   rw[List.drop_append_of_le_length (by omega),List.take_left' hl]
  have d3:(c'++t).drop (n*s')=t:=List.drop_left' (by omega)
  rw[Nat.zero_add,Nat.zero_add,Nat.zero_add,d1,d2,d3]
 rw[hrow]
 have hrl:(jo (j-i) zero).length=(j-i)*s':=by rw[xL,hz]
 have hall:bL M (OR R ι) VI.none (c.take (i*s')++c.drop (j*s')) (c'.take (i*s')++c'.drop (j*s')):=(bL.take _ g6).append (bL.drop _ g6)
 have hxl:(c.take (i*s')++c.drop (j*s')).length=(n-(j-i))*s':=by rw[aJ,aV,aS];omega
 obtain⟨r1,r2,r3⟩:=s.swap g1 hg (x:=.cells (c.take (i*s')++c.drop (j*s')) false true) (y:=.cells ((c'.take (i*s')++c'.drop (j*s'))++(jo (j-i) zero++t)) false sl') (d:=((c.take (i*s')++c.drop (j*s')).length,L))
  ⟨_,_,false,sl',L,rfl,λ_=>rfl,rfl,by simp only[aJ,aV,aS]at g5 ⊢;omega,by simpa using hall,λh=>by cases h⟩
 refine⟨_,_,_,_,_,[b],iN,rfl,r1,r2, ?_,hk⟩
 simp only[VL]
 refine⟨some (q,0),s',cap,ex,rfl,by omega,(λh=>by cases h),λ_=>rfl,(c.take (i*s')++c.drop (j*s')).length,L,by simp[VI.add,setAt],by rw[hxl];omega,λ_=>⟨trivial,hxl.symm⟩,.inl ⟨q,r3,.inl ⟨rfl,by omega⟩⟩⟩
end Go.Proofs.Ytkedeiklmpkgkaa
