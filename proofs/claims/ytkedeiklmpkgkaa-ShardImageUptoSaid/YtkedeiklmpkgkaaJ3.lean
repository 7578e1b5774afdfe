import Derived.Test.YtkedeiklmpkgkaaJ1
import Derived.ProofKit
import Derived.OpenShut
import Derived.ChangeOld
import Derived.Below
import Derived.Carry
import Derived.SizedLaws
import Derived.Deep.CondSized
set_option linter.all false
namespace Go.Proofs.Ytkedeiklmpkgkaa
theorem IX{ι:fq}{e:Env}{a:Act}(h:dQ ι e a.tmps.toList){d:Option Nat}{v:AV}{v':Value}(hv:VR ι v v'):dQ ι (BD d v e) (a.put d v').tmps.toList:=by
 cases d with
 | none=>exact h
 | some d =>
  simp only[BD,Act.put,Array.toList_setIfInBounds]
  exact h.set d hv
theorem put_defers(a:Act)(d:Option Nat)(v:Value):(a.put d v).defers=a.defers:=by cases d<;>rfl
theorem xE{M N:Heap}(h:∀b,M.get b=N.get b)(hn:M.next=N.next):M=N:=by
 cases M
 cases N
 simp only at h hn
 subst hn
 congr
 funext b
 exact h b
section
variable {P:Program} {C:bH} {base nk:Nat} {ds:List d9} {E:Nat→Env} {H:Nat→Heap} {G:Nat→List Heap} {V:Nat→AV} {W:Nat→Bool} {B:Nat→Option jN} {zm:Nat→Nat→Prop}
structure AJ(base nk:Nat)(ds:List d9)(E:Nat→Env)(H:Nat→Heap)(V:Nat→AV)(B:Nat→Option jN)(zm:Nat→Nat→Prop)(nZ:fq)(M0:Heap)(w0:World)(q:Nat)(S:Nat→Bool)(ι:fq)(a:Act)(w:World):Prop where
 qle:q≤ds.length
 Uj:q=0∨∃j,S j=true∧jC ds j=true∧j+1=q
 below:∀j,S j=true→jC ds j=true→j<q
 closed:∀p r,S r=true→zm p r→S p=true
 nones:∀b,base≤b→b<base+nk→(∀p0,jP ds (b-base)=some p0→q≤p0→(H q).get b=none)∧(jP ds (b-base)=none→(H q).get b=none)
 Rb:base+nk≤(H q).next
 tr:Tr nZ M0 w0 ι (fD base nk ds H B q S) w
 ZB:∀p d,ds[p]?=some d→d.o.op.isK=true→S p=false→ι (base+d.ix)=none
 env:dQ ι (uo ds (E 0) V S) a.tmps.toList
 defs:a.defers=[]
def more(S:Nat→Bool)(p:Nat):Nat→Bool:=λr=>r==p||S r
theorem K8(S:Nat→Bool)(p:Nat):more S p p=true:=by simp[more]
theorem uU{S:Nat→Bool}{p r:Nat}(h:r≠p):more S p r=S r:=by simp[more,h]
theorem AJ.quiet (c:yO nk ds zm) {nZ:fq} {M0:Heap} {w0:World} {q:Nat} {S:Nat→Bool} {ι:fq} {a:Act} {w:World} (I:AJ base nk ds E H V B zm nZ M0 w0 q S ι a w) {p:Nat} {d:d9} (hd:ds[p]?=some d) (hS:S p=false)
  (hpre:∀r,zm r p→S r=true) (hq:d.o.op.loud=false) {bI:fq} {w':World} {v':Value} (hle:ι.Le bI) (ht:Tr nZ M0 w0 bI (fD base nk ds H B q (more S p)) w') (hu:∀r d',ds[r]?=some d'→d'.o.op.isK=true→S r=false→r≠p→bI (base+d'.ix)=none)
  (hv:VR bI (V p) v'):AJ base nk ds E H V B zm nZ M0 w0 q (more S p) bI (a.put d.o.dst v') w' where
 qle:=I.qle
 Uj:=I.Uj.imp id λ⟨j,h1,h2,h3⟩=>⟨j,by simp[more,h1],h2,h3⟩
 below j h1 h2:=by
  by_cases hj:j=p
  ·subst hj
   simp[jC,hd,hq]at h2
  ·rw[uU hj]at h1
   exact I.below j h1 h2
 closed r s h1 h2:=by
  by_cases hs:s=p
  ·subst hs
   simp[more,hpre r h2]
  ·rw[uU hs]at h1
   simp[more,I.closed r s h1 h2]
 nones:=I.nones
 Rb:=I.Rb
 tr:=ht
 ZB r d' h1 h2 h3:=by
  by_cases hr:r=p
  ·subst hr
   simp[more]at h3
  ·rw[uU hr]at h3
   exact hu r d' h1 h2 h3 hr
 env:=by
  have:=Q8 (V:=V) (e0:=E 0) (S:=S) c hd
  show dQ bI (uo ds (E 0) V (more S p)) _
  unfold more
  rw[this]
  exact IX (dQ.mono hle _ _ I.env) hv
 defs:=by rw[put_defers];exact I.defs
theorem Hu{q:Nat}{S:Nat→Bool}{p:Nat}{d:d9}(hd:ds[p]?=some d)(hk:d.o.op.isK=false):fD base nk ds H B q (more S p)=fD base nk ds H B q S:=by
 refine xE (λb=>?_) rfl
 simp only[fD]
 split
 ·cases hs:jP ds (b-base)with
  | none=>rfl
  | some p0 =>
   simp only
   have:p0≠p:=by
    rintro rfl
    obtain⟨d',h1,h2,_⟩:=mD hs
    rw[hd]at h1
    obtain rfl:=ak h1
    rw[hk]at h2
    cases h2
   rw[uU this]
 ·rfl
theorem AJ.Jm(c:yO nk ds zm){nZ:fq}{M0:Heap}{w0:World}{q:Nat}{S:Nat→Bool}{ι:fq}{a:Act}{w:World}(I:AJ base nk ds E H V B zm nZ M0 w0 q S ι a w){p:Nat}{d:d9}(hd:ds[p]?=some d)(hS:S p=false)(hp:d.o.op.plain=false):q≤p:=by
 rcases I.Uj with h |⟨j,h1,h2,h3⟩
 ·omega
 ·rcases Nat.lt_or_ge p j with hlt | hge
  ·have hj:=h2
   unfold jC at hj
   split at hj
   ·rename_i d' hd'
    have:=I.closed p j h1 (c.loud p j d d' hd hd' hlt hj hp)
    rw[hS]at this
    cases this
   ·cases hj
  ·rcases Nat.eq_or_lt_of_le hge with e | hlt
   ·subst e
    rw[hS]at h1
    cases h1
   ·omega
def pending(base nk:Nat)(ds:List d9)(B:Nat→Option jN)(S:Nat→Bool)(p:Nat)(b:Nat):Option jN :=
 if base≤b∧b<base+nk then (match jP ds (b-base)with | some p0=>if p<p0∧S p0=true then B p0 else none | none=>none)else none
theorem AJ.Xl (c:yO nk ds zm) (r:Im C base nk ds E H G V W B) {nZ:fq} {M0:Heap} {w0:World} {q:Nat} {S:Nat→Bool} {ι:fq} {a:Act} {w:World} (I:AJ base nk ds E H V B zm nZ M0 w0 q S ι a w) {p:Nat} {d:d9} (hd:ds[p]?=some d) (hS:S p=false)
  (hpre:∀r,zm r p→S r=true) (hl:d.o.op.loud=true) :
  q≤p∧fD base nk ds H B q S=(H p).over (pending base nk ds B S p)∧(∀b,base≤b→b<base+nk→(∀p0,jP ds (b-base)=some p0→p≤p0→(H p).get b=none)∧(jP ds (b-base)=none→(H p).get b=none))∧base+nk≤(H p).next:=by
 have hplain:d.o.op.plain=false:=by
  cases ho:d.o.op with
  | p o=>rw[ho]at hl;cases hl
  | _=>rfl
 have MF:=I.Jm c hd hS hplain
 have N7:=(aM.1 hd).1
 have hno:∀j,q≤j→j<p→jC ds j=false:=by
  intro j h1 h2
  cases hj:jC ds j with
  | false=>rfl
  | true =>
   have hj':=hj
   unfold jC at hj'
   split at hj'
   ·rename_i d' hd'
    have hnp:d'.o.op.plain=false:=by
     cases ho:d'.o.op with
     | p o=>rw[ho]at hj';cases hj'
     | _=>rfl
    have:=I.below j (hpre j (c.loud j p d' d hd' hd h2 hl hnp)) hj
    omega
   ·cases hj'
 obtain⟨g1,g2,g3⟩:=Eu c r p MF (by omega) hno
 have g3':=g3 (λb p0 b1 b2 hs hq=>(I.nones b b1 b2).1 p0 hs hq)
 have hK:∀p0 s,jP ds s=some p0→p0≠p:=by
  rintro p0 s hs rfl
  obtain⟨d',h1,h2,_⟩:=mD hs
  rw[hd]at h1
  obtain rfl:=ak h1
  cases ho:d.o.op with
  | n o=>rw[ho]at h2;cases h2
  | p o=>rw[ho]at hl;cases hl
  | l o=>rw[ho]at hl;cases hl
  | k o=>rw[ho]at hl;cases hl
 refine⟨MF,xE (λb=>?_) g1.symm,λb b1 b2=>⟨λp0 hs hp0=>?_,λhs=>?_⟩,by rw[g1];exact I.Rb⟩
 ·by_cases hb:base≤b∧b<base+nk
  ·have hg:=g3' b hb.1 hb.2
   cases hs:jP ds (b-base)with
   | none =>
    rw[hs]at hg
    have hX:pending base nk ds B S p b=none:=by simp[pending,hb,hs]
    rw[fH hX,hg]
    simp[fD,hb,hs,(I.nones b hb.1 hb.2).2 hs]
   | some p0 =>
    rw[hs]at hg
    simp only at hg
    have hne:=hK p0 _ hs
    rcases Nat.lt_or_ge p0 q with h1 | h1
    ·have hX:pending base nk ds B S p b=none:=by
      simp only[pending,if_pos hb,hs]
      rw[if_neg (by omega)]
     rw[fH hX,hg,if_neg (by omega)]
     simp[fD,hb,hs,h1]
    ·rcases Nat.lt_or_ge p0 p with h2 | h2
     ·have hX:pending base nk ds B S p b=none:=by
       simp only[pending,if_pos hb,hs]
       rw[if_neg (by omega)]
      rw[fH hX,hg,if_pos ⟨h1,h2⟩]
      obtain⟨d',k1,k2,_⟩:=mD hs
      have hS0:S p0=true:=hpre p0 (c.loud p0 p d' d k1 hd h2 hl (by cases ho:d'.o.op with | p o=>rw[ho]at k2;cases k2 | _=>rfl))
      simp[fD,hb,hs,show ¬p0<q from by omega,hS0]
     ·have hnn:=(I.nones b hb.1 hb.2).1 p0 hs h1
      have hlhs:(fD base nk ds H B q S).get b=if S p0 then B p0 else none:=by
       simp[fD,hb,hs,show ¬p0<q from by omega]
      rw[hlhs]
      have hgn:(H p).get b=none:=by rw[hg,if_neg (by omega)];exact hnn
      cases hS0:S p0 with
      | false =>
       have hX:pending base nk ds B S p b=none:=by simp[pending,hb,hs,hS0]
       rw[fH hX,hgn]
       simp
      | true =>
       simp only[if_true]
       cases hB:B p0 with
       | none =>
        have hX:pending base nk ds B S p b=none:=by simp[pending,hb,hs,hS0,hB]
        rw[fH hX,hgn]
       | some x =>
        have hX:pending base nk ds B S p b=some x:=by
         simp only[pending,if_pos hb,hs]
         rw[if_pos ⟨by omega,hS0⟩,hB]
        rw[gM hX]
  ·have hX:pending base nk ds B S p b=none:=by simp only[pending];rw[if_neg hb]
   rw[fH hX,g2 b hb]
   simp only[fD]
   rw[if_neg hb]
 ·have hg:=g3' b b1 b2
  rw[hs]at hg
  simp only at hg
  rw[hg]
  have:=hK p0 _ hs
  split
  ·omega
  ·exact(I.nones b b1 b2).1 p0 hs (by omega)
 ·have hg:=g3' b b1 b2
  rw[hs]at hg
  rw[hg]
  exact(I.nones b b1 b2).2 hs
theorem AJ.behind (c:yO nk ds zm) {nZ:fq} {M0:Heap} {w0:World} {q:Nat} {S:Nat→Bool} {ι:fq} {a:Act} {w:World} (I:AJ base nk ds E H V B zm nZ M0 w0 q S ι a w) {p:Nat} {d:d9} (hd:ds[p]?=some d) (hS:S p=false)
  (hpre:∀r,zm r p→S r=true) (hl:d.o.op.loud=true) (MF:q≤p)
  (hn:∀b,base≤b→b<base+nk→(∀p0,jP ds (b-base)=some p0→p≤p0→(H (p+1)).get b=none)∧(jP ds (b-base)=none→(H (p+1)).get b=none)) (hnx:base+nk≤(H (p+1)).next)
  {bI:fq} {w':World} {v':Value} (hle:ι.Le bI) (ht:Tr nZ M0 w0 bI ((H (p+1)).over (pending base nk ds B S p)) w') (hu:∀r d',ds[r]?=some d'→d'.o.op.isK=true→S r=false→bI (base+d'.ix)=none)
  (hv:VR bI (V p) v'):AJ base nk ds E H V B zm nZ M0 w0 (p+1) (more S p) bI (a.put d.o.dst v') w':=by
 have N7:=(aM.1 hd).1
 have hK:∀p0 s,jP ds s=some p0→p0≠p:=by
  rintro p0 s hs rfl
  obtain⟨d',h1,h2,_⟩:=mD hs
  rw[hd]at h1
  obtain rfl:=ak h1
  cases ho:d.o.op with
  | n o=>rw[ho]at h2;cases h2
  | p o=>rw[ho]at hl;cases hl
  | l o=>rw[ho]at hl;cases hl
  | k o=>rw[ho]at hl;cases hl
 have hheap:fD base nk ds H B (p+1) (more S p)=(H (p+1)).over (pending base nk ds B S p):=by
  refine xE (λb=>?_) rfl
  by_cases hb:base≤b∧b<base+nk
  ·cases hs:jP ds (b-base)with
   | none =>
    have hX:pending base nk ds B S p b=none:=by simp[pending,hb,hs]
    rw[fH hX,(hn b hb.1 hb.2).2 hs]
    simp[fD,hb,hs]
   | some p0 =>
    have hne:=hK p0 _ hs
    rcases Nat.lt_or_ge p0 (p+1)with h1 | h1
    ·have hX:pending base nk ds B S p b=none:=by
      simp only[pending,if_pos hb,hs]
      rw[if_neg (by omega)]
     rw[fH hX]
     simp[fD,hb,hs,h1]
    ·have hgn:=(hn b hb.1 hb.2).1 p0 hs (by omega)
     have hlhs:(fD base nk ds H B (p+1) (more S p)).get b=if S p0 then B p0 else none:=by
      simp[fD,hb,hs,show ¬p0<p+1 from by omega,uU hne]
     rw[hlhs]
     cases hS0:S p0 with
     | false =>
      have hX:pending base nk ds B S p b=none:=by simp[pending,hb,hs,hS0]
      rw[fH hX,hgn]
      simp
     | true =>
      simp only[if_true]
      cases hB:B p0 with
      | none =>
       have hX:pending base nk ds B S p b=none:=by simp[pending,hb,hs,hS0,hB]
       rw[fH hX,hgn]
      | some x =>
       have hX:pending base nk ds B S p b=some x:=by
        simp only[pending,if_pos hb,hs]
        rw[if_pos ⟨by omega,hS0⟩,hB]
       rw[gM hX]
  ·have hX:pending base nk ds B S p b=none:=by simp only[pending];rw[if_neg hb]
   rw[fH hX]
   simp only[fD]
   rw[if_neg hb]
 constructor
 ·omega
 ·exact .inr ⟨p,K8 S p,by simp[jC,hd,hl],rfl⟩
 ·intro j h1 h2
  by_cases hj:j=p
  ·omega
  ·rw[uU hj]at h1
   have:=I.below j h1 h2
   omega
 ·intro r s h1 h2
  by_cases hs:s=p
  ·subst hs
   simp[more,hpre r h2]
  ·rw[uU hs]at h1
   simp[more,I.closed r s h1 h2]
 ·intro b b1 b2
  exact⟨λp0 hs hp0=>(hn b b1 b2).1 p0 hs (by omega),(hn b b1 b2).2⟩
 ·exact hnx
 ·rw[hheap]
  exact ht
 ·intro r d' h1 h2 h3
  by_cases hr:r=p
  ·subst hr
   simp[more]at h3
  ·rw[uU hr]at h3
   exact hu r d' h1 h2 h3
 ·have:=Q8 (V:=V) (e0:=E 0) (S:=S) c hd
  show dQ bI (uo ds (E 0) V (more S p)) _
  unfold more
  rw[this]
  exact IX (dQ.mono hle _ _ I.env) hv
 ·rw[put_defers]
  exact I.defs
end
theorem aam{o:Bh}{e:Env}{x:jN}{mk:Mk}(h:aK o e=some (x,mk)):x.own=true:=by
 cases o with
 | alloc z=>simp only[aK,av,aI]at h;obtain⟨rfl,_⟩:=h;rfl
 | makeMap=>simp only[aK,av,aI]at h;obtain⟨rfl,_⟩:=h;rfl
 | box y =>
  simp only[aK]at h
  obtain⟨cs,_,h⟩:=aC.1 h
  simp only[aI]at h
  obtain⟨rfl,_⟩:=h
  rfl
 | buildSlice a b c d =>
  simp only[aK]at h
  obtain⟨cs,_,h⟩:=aC.1 h
  simp only[aI]at h
  obtain⟨rfl,_⟩:=h
  rfl
 | makeSlice a b c d f =>
  simp only[aK,Az]at h
  split at h
  case h_2=>cases h
  split at h
  case isFalse=>cases h
  simp only[av,aI]at h
  obtain⟨rfl,_⟩:=h
  rfl
 | l6 y =>
  simp only[aK]at h
  split at h
  case h_2=>cases h
  split at h
  case isFalse=>cases h
  simp only[av,aI]at h
  obtain⟨rfl,_⟩:=h
  rfl
section
variable {P:Program} {C:bH} {base nk:Nat} {ds:List d9} {E:Nat→Env} {H:Nat→Heap} {G:Nat→List Heap} {V:Nat→AV} {W:Nat→Bool} {B:Nat→Option jN} {zm:Nat→Nat→Prop}
theorem aaX(r:Im C base nk ds E H G V W B){p:Nat}{x:jN}(hp:p<ds.length)(h:B p=some x):x.own=true:=by
 have hd:ds[p]?=some ds[p]:=by simp[hp]
 have st:=r.step p _ hd
 cases hw:W p with
 | false=>rw[(st.no hw).2.2]at h;cases h
 | true =>
  cases ho:ds[p].o.op with
  | p o=>rw[(st.p o hw ho).2.2]at h;cases h
  | l o=>rw[(st.l o hw ho).2.2.1]at h;cases h
  | n o=>rw[(st.n o hw ho).2]at h;cases h
  | k o =>
   obtain⟨y,mk,k1,_,_,k4⟩:=st.k o hw ho
   rw[k4]at h
   obtain rfl:=ak h
   exact aam k1
theorem AJ.read (c:yO nk ds zm) (r:Im C base nk ds E H G V W B) (hg0:G 0=[]) {nZ:fq} {M0:Heap} {w0:World} {q:Nat} {S:Nat→Bool} {ι:fq} {a:Act} {w:World} (I:AJ base nk ds E H V B zm nZ M0 w0 q S ι a w) {p:Nat} {d:d9} (hd:ds[p]?=some d) (hS:S p=false)
  (hpre:∀r,zm r p→S r=true) {o:rY} (ho:d.o.op=.l o) (hw:W p=true):aL o (uo ds (E 0) V S) (fD base nk ds H B q S)=some (V p):=by
 have st:=r.step p d hd
 obtain⟨h1,_,_,h4⟩:=st.l o hw ho
 have N7:=(aM.1 hd).1
 have MF:=I.Jm c hd hS (by rw[ho];rfl)
 have hag:Agree o.rd (E p) (uo ds (E 0) V S):=by
  have:=Gu c r I.closed hd hS hpre
  intro t ht
  exact this t (by simp[pX.rd,ho,uT.rd,ht])
 have hsub:∀j,q≤j→j≤ds.length→(∀i,q≤i→i<j→jC ds i=false)→((H j).hide base nk).Sub (fD base nk ds H B q S):=by
  intro j j1 j2 j3 b x hx
  obtain⟨_,g2,_⟩:=Eu c r j j1 j2 j3
  simp only[Heap.hide]at hx
  split at hx
  ·cases hx
  ·rename_i hb
   rw[g2 b hb]at hx
   simp only[fD]
   rw[if_neg hb]
   exact hx
 by_cases hex:∃j,q≤j∧j<p∧jC ds j=true
 ·obtain ⟨j,j1,j2,j3,j4⟩:∃j,q≤j∧j<p∧jC ds j=true∧∀i,q≤i→i<j→jC ds i=false:=by
   obtain⟨j,hj⟩:=hex
   induction j using Nat.strongRecOn with
   | _ j ih =>
    by_cases hsm:∃i,i<j∧q≤i∧i<p∧jC ds i=true
    ·obtain⟨i,i1,i2⟩:=hsm
     exact ih i i1 i2
    ·refine⟨j,hj.1,hj.2.1,hj.2.2,λi i1 i2=>?_⟩
     cases hi:jC ds i with
     | false=>rfl
     | true=>exact absurd ⟨i,i2,i1,by omega,hi⟩ hsm
  have hlo:d.lo≤su ds j:=by
   rcases Nat.lt_or_ge (su ds j) d.lo with h | h
   ·have:=I.below j (hpre j (c.lo p d j hd (by rw[ho];rfl) j2 j3 h)) j3
    omega
   ·exact h
  have:=h4 (su ds j) (H j) hlo (Ui r hg0 (by omega) j2 j3)
  rw[←NZ hag]
  exact Uh (hsub j j1 (by omega) j4) this
 ·rw[←NZ hag]
  refine Uh (hsub p MF (by omega) λi i1 i2=>?_) h1
  cases hi:jC ds i with
  | false=>rfl
  | true=>exact absurd ⟨i,i1,i2,hi⟩ hex
theorem AJ.step (c:yO nk ds zm) (r:Im C base nk ds E H G V W B) (hg0:G 0=[]) {nZ:fq} {M0:Heap} {w0:World} (hbase:M0.next=base) {q:Nat} {S:Nat→Bool} {ι:fq} {a:Act} {w:World} (I:AJ base nk ds E H V B zm nZ M0 w0 q S ι a w)
  {p:Nat} {d:d9} (hd:ds[p]?=some d) (hS:S p=false) (hpre:∀r,zm r p→S r=true) {o:Oper} (hok:NY P C o d.o.op) (hdst:o.dst=d.o.dst) :
  (W p=true→∀(next:Act→World→Prop) (Q:Exit→Act→World→Prop),(∀q' bI v' w',AJ base nk ds E H V B zm nZ M0 w0 q' (more S p) bI (a.put o.dst v') w'→next (a.put o.dst v') w')→o.wp P a w next Q) ∧
  (W p=false→∃q',AJ base nk ds E H V B zm nZ M0 w0 q' (more S p) ι (a.put o.dst undef) w):=by
 have st:=r.step p d hd
 have N7:=(aM.1 hd).1
 have rr:=I.tr.rel
 have PL:=Gu c r I.closed hd hS hpre
 have hag:Agree d.o.op.rd (E p) (uo ds (E 0) V S):=λt ht=>PL t (by simp[pX.rd,ht])
 rw[hdst]
 cases ho:d.o.op with
 | p po =>
  rw[ho]at hok hag
  have hs:=Hu (base:=base) (nk:=nk) (H:=H) (B:=B) (q:=q) (S:=S) hd (by rw[ho];rfl)
  have fin:∀v',VR ι (V p) v'→AJ base nk ds E H V B zm nZ M0 w0 q (more S p) ι (a.put d.o.dst v') w:=λv' hv =>
   I.quiet c hd hS hpre (by rw[ho];rfl) (fq.Le.refl ι) (by rw[hs];exact I.tr) (λr d' h1 h2 h3 _=>I.ZB r d' h1 h2 h3) hv
  refine⟨λhw next Q hn=>?_,λhw=>⟨q,fin undef ?_⟩⟩
  ·have hv:=(st.p po hw ho).1
   rw[Ue hag]at hv
   obtain⟨v',hrun,TR⟩:=hok ι _ a w _ I.env hv
   rw[←hdst]at hn
   exact uj.of_run hrun (hn q ι v' w (by rw[hdst];exact fin v' TR))
  ·rw[(st.no hw).1]
   exact VR.unit ι
 | l lo =>
  rw[ho]at hok hag
  have hs:=Hu (base:=base) (nk:=nk) (H:=H) (B:=B) (q:=q) (S:=S) hd (by rw[ho];rfl)
  have fin:∀v',VR ι (V p) v'→AJ base nk ds E H V B zm nZ M0 w0 q (more S p) ι (a.put d.o.dst v') w:=λv' hv =>
   I.quiet c hd hS hpre (by rw[ho];rfl) (fq.Le.refl ι) (by rw[hs];exact I.tr) (λr d' h1 h2 h3 _=>I.ZB r d' h1 h2 h3) hv
  refine⟨λhw next Q hn=>?_,λhw=>⟨q,fin undef ?_⟩⟩
  ·have hv:=I.read c r hg0 hd hS hpre ho hw
   obtain⟨v',hrun,TR⟩:=hok ι _ _ a w _ rr I.env hv
   rw[←hdst]at hn
   exact uj.of_run hrun (hn q ι v' w (by rw[hdst];exact fin v' TR))
  ·rw[(st.no hw).1]
   exact VR.unit ι
 | k ko =>
  rw[ho]at hok hag
  have hk:d.o.op.isK=true:=by rw[ho];rfl
  have MF:=I.Jm c hd hS (by rw[ho];rfl)
  have Q_:=K5 c hd hk
  have hix:=c.aal p d hd hk
  have hget:(fD base nk ds H B q S).get (base+d.ix)=none:=by
   simp only[fD]
   rw[if_pos ⟨by omega,by omega⟩,show base+d.ix-base=d.ix from by omega,Q_]
   simp only
   rw[if_neg (by omega),hS]
   simp
  have hother:∀b,b≠base+d.ix→(fD base nk ds H B q (more S p)).get b=(fD base nk ds H B q S).get b:=by
   intro b hb
   simp only[fD]
   split
   ·rename_i hr
    cases hs:jP ds (b-base)with
    | none=>rfl
    | some p0 =>
     simp only
     have:p0≠p:=by
      rintro rfl
      obtain⟨d',h1,_,h3⟩:=mD hs
      rw[hd]at h1
      obtain rfl:=ak h1
      omega
     rw[uU this]
   ·rfl
  have hself:(fD base nk ds H B q (more S p)).get (base+d.ix)=B p:=by
   simp only[fD]
   rw[if_pos ⟨by omega,by omega⟩,show base+d.ix-base=d.ix from by omega,Q_]
   simp only
   rw[if_neg (by omega),K8]
   simp
  refine⟨λhw next Q hn=>?_,λhw=>?_⟩
  ·obtain⟨x,mk,k1,k2,k3,k4⟩:=st.k ko hw ho
   rw[Uf hag]at k1
   obtain⟨v',w',ob,N,hrun,hown,aaY,hrel⟩:=hok ι _ a w x mk I.env k1
   have hnone:=I.ZB p d hd hk hS
   have hle:=fq.zl hnone ⟨w.heap.size,0,N⟩
   have hset:(ι.set (base+d.ix) ⟨w.heap.size,0,N⟩) (base+d.ix)=some ⟨w.heap.size,0,N⟩:=by simp[fq.set]
   obtain⟨hb,TR⟩:=hrel _ _ hle hset
   have htr:=Tr.slot I.tr (id:=base+d.ix) (by omega) (by have:=I.Rb;simp only[fD];omega) hget hnone hown aaY hb
   have hheap:(fD base nk ds H B q S).put (base+d.ix) (some x)=fD base nk ds H B q (more S p):=by
    refine xE (λb=>?_) rfl
    rw[iW]
    split
    ·rename_i hb
     rw[hb,hself,k4]
    ·rename_i hb
     rw[hother b hb]
   rw[hheap]at htr
   rw[←hdst]at hn
   refine uj.of_run hrun (hn q (ι.set (base+d.ix) ⟨w.heap.size,0,N⟩) v' w' ?_)
   rw[hdst]
   refine I.quiet c hd hS hpre (by rw[ho];rfl) hle htr (λs d' h1 h2 h3 h4=>?_) (by rw[k2];exact TR)
   have:base+d'.ix≠base+d.ix:=λe=>h4 (c.ix s p d' d h1 hd h2 hk (by omega))
   simp only[fq.set,if_neg this]
   exact I.ZB s d' h1 h2 h3
  ·refine⟨q,I.quiet c hd hS hpre (by rw[ho];rfl) (fq.Le.refl ι) ?_ (λs d' h1 h2 h3 _=>I.ZB s d' h1 h2 h3) (by rw[(st.no hw).1];exact VR.unit ι)⟩
   have hheap:fD base nk ds H B q (more S p)=fD base nk ds H B q S:=by
    refine xE (λb=>?_) rfl
    by_cases hb:b=base+d.ix
    ·rw[hb,hself,hget,(st.no hw).2.2]
    ·exact hother b hb
   rw[hheap]
   exact I.tr
 | n no =>
  rw[ho]at hok hag
  have hl:d.o.op.loud=true:=by rw[ho];rfl
  obtain⟨MF,hheap,hn0,hnx⟩:=I.Xl c r hd hS hpre hl
  have hX:∀i x,pending base nk ds B S p i=some x→(H p).get i=none∧i<(H p).next∧x.own=true:=by
   intro i x hx
   unfold pending at hx
   split at hx
   case isFalse=>cases hx
   rename_i hb
   split at hx
   case h_2=>cases hx
   rename_i p0 hs
   split at hx
   case isFalse=>cases hx
   rename_i hc
   obtain⟨d',h1,_,_⟩:=mD hs
   exact⟨(hn0 i hb.1 hb.2).1 p0 hs (by omega),by omega,aaX r (aM.1 h1).1 hx⟩
  rw[hheap]at rr
  have aan:=I.tr
  rw[hheap]at aan
  refine⟨λhw next Q hnext=>?_,λhw=>?_⟩
  ·have hrunA:=(st.n no hw ho).1
   rw[Ug hag]at hrunA
   have rH:R ι (H p) w:=rr.sub (λb x hx=>by
    have:pending base nk ds B S p b=none:=by
     cases hb:pending base nk ds B S p b with
     | none=>rfl
     | some y=>rw[(hX b y hb).1]at hx;cases hx
    rw[fH this]
    exact hx) rfl
   refine hok ι (H p) _ a w (V p) (H (p+1)) next Q rH I.env hrunA λbI v' w' ht hv=>?_
   have hf:=Tr.frame rr hX ht
   rw[hdst]
   refine hnext (p+1) bI v' w' ?_
   refine I.behind c hd hS hpre hl MF (λb b1 b2=>⟨λp0 hs hp0=>?_,λhs=>?_⟩) (by have:=ht.next;omega) (ht.le rH) (aan.trans hf) (λs d' h1 h2 h3=>?_) hv
   ·exact ht.dead b (by omega) ((hn0 b b1 b2).1 p0 hs hp0)
   ·exact ht.dead b (by omega) ((hn0 b b1 b2).2 hs)
   ·have hix:=c.aal s d' h1 h2
    rw[ht.agree _ (by omega)]
    exact I.ZB s d' h1 h2 h3
  ·obtain⟨n1,n2,n3⟩:=st.no hw
   refine⟨p+1,I.behind c hd hS hpre hl MF (λb b1 b2=>?_) (by rw[n2];exact hnx) (fq.Le.refl ι) (by rw[n2];exact aan) (λs d' h1 h2 h3=>I.ZB s d' h1 h2 h3) (by rw[n1];exact VR.unit ι)⟩
   rw[n2]
   exact hn0 b b1 b2
end
theorem Dj:∀(l acc:List Nat),l.Nodup→(∀x,x∈l→x∈acc)→l.length≤acc.length
 | [],acc,_,_=>by simp
 | x::l,acc,h,hs=>by
  rw[List.nodup_cons]at h
  have hx:=hs x (by simp)
  have ih:=Dj l (acc.erase x) h.2 λy hy=>by
   have hne:y≠x:=λe=>by subst e;exact h.1 hy
   exact(List.mem_erase_of_ne hne).2 (hs y (by simp[hy]))
  rw[List.length_erase_of_mem hx]at ih
  have:0<acc.length:=List.length_pos_of_mem hx
  simp
  omega
theorem least{n:Nat}{f:Nat→Prop}(rank:Nat→Nat)(h:∃i,i<n∧f i):∃i,i<n∧f i∧∀j,j<n→f j→rank i≤rank j:=by
 obtain⟨i,hi,hf⟩:=h
 generalize hr:rank i=r
 induction r using Nat.strongRecOn generalizing i with
 | _ r ih =>
  by_cases hs:∃j,j<n∧f j∧rank j<r
  ·obtain⟨j,h1,h2,h3⟩:=hs
   exact ih (rank j) h3 j h1 h2 rfl
  ·refine⟨i,hi,hf,λj h1 h2=>?_⟩
   rcases Nat.lt_or_ge (rank j) (rank i)with h | h
   ·exact absurd ⟨j,h1,h2,by omega⟩ hs
   ·exact h
structure WZ(m:Region.Mode)(ops:Array Oper)(l:List Nat):Prop where
 nodup:l.Nodup
 lt:∀i,i∈l→i<ops.size
 all:∀i,i<ops.size→i∈l
 after:∀l1 i l2,l=l1++i::l2→∀o e,ops[i]?=some o→e∈o.after→Region.binds m e=true→e.on∈l1
theorem KA{l:List Nat}(h:l.Nodup):l.reverse.Nodup:=by
 unfold List.Nodup at h ⊢
 rw[List.pairwise_reverse]
 exact h.imp λh=>Ne.symm h
theorem aao {m:Region.Mode} {ops:Array Oper} (rank:Nat→Nat) (hb:∀i o e,ops[i]?=some o→e∈o.after→Region.binds m e=true→rank e.on<rank i∧e.on<ops.size) :
  ∀(fuel t:Nat) (listed:Array Bool) (acc:List Nat),listed.size=ops.size→(∀i,i<ops.size→(listed.getD i true=true↔i∈acc))→acc.Nodup→(∀i,i∈acc→i<ops.size) →
   (∀l1 i l2,acc.reverse=l1++i::l2→∀o e,ops[i]?=some o→e∈o.after→Region.binds m e=true→e.on∈l1)→fuel+acc.length=ops.size→WZ m ops (Region.linearise.go m ops fuel t listed acc):=by
 intro fuel
 induction fuel with
 | zero =>
  intro t listed acc h1 h2 h3 h4 h5 h6
  simp only[Region.linearise.go]
  refine⟨KA h3,λi hi=>h4 i (by simpa using hi),λi hi=>?_,h5⟩
  simp only[List.mem_reverse]
  by_cases hm:i∈acc
  ·exact hm
  ·have:=Dj (i::acc) (List.range ops.size) (List.nodup_cons.2 ⟨hm,h3⟩) (λx hx=>by
    rcases List.mem_cons.1 hx with rfl | hx
    ·simpa using hi
    ·simpa using h4 x hx)
   simp at this
   omega
 | succ fuel ih =>
  intro t listed acc h1 h2 h3 h4 h5 h6
  simp only[Region.linearise.go]
  have hF:∀i,i<ops.size→(listed.getD i false=true↔i∈acc):=λi hi=>by
   rw[←h2 i hi]
   simp[Array.getD_eq_getD_getElem?,h1,hi]
  generalize hrs:(List.range ops.size).filter (λi=>!listed.getD i true&&((ops[i]?).map (·.after.all λe=>!Region.binds m e||listed.getD e.on false)).getD false)=rs
  have hne:rs≠[]:=by
   have hex:∃i,i<ops.size∧i∉acc:=by
    refine Classical.byContradiction λhc=>?_
    have:=Dj (List.range ops.size) acc List.nodup_range (λx hx=>by
     by_cases hm:x∈acc
     ·exact hm
     ·exact absurd ⟨x,by simpa using hx,hm⟩ hc)
    simp at this
    omega
   obtain⟨i,i1,i2,i3⟩:=least rank hex
   have hi:i∈rs:=by
    rw[←hrs,List.mem_filter]
    refine⟨by simpa using i1, ?_⟩
    have ho:ops[i]?=some ops[i]:=by simp[i1]
    rw[ho]
    simp only[Bool.and_eq_true,Bool.not_eq_true',aW,Option.getD_some,Array.all_eq_true_iff_forall_mem]
    refine⟨?_,λe he=>?_⟩
    ·cases hl:listed.getD i true with
     | false=>rfl
     | true=>exact absurd ((h2 i i1).1 hl) i2
    ·cases hbd:Region.binds m e with
     | false=>simp
     | true =>
      obtain⟨r1,r2⟩:=hb i _ e ho he hbd
      have hm:e.on∈acc:=by
       by_cases hm:e.on∈acc
       ·exact hm
       ·have:=i3 e.on r2 hm
        omega
      simp[(hF e.on r2).2 hm]
   intro he
   rw[he]at hi
   cases hi
  have hlen:0<rs.length:=List.length_pos_iff.2 hne
  have hget:∃i,rs[t%rs.length]?=some i:=⟨_,bn (Nat.mod_lt _ hlen)⟩
  obtain⟨i,hi⟩:=hget
  rw[hi]
  simp only
  have hmem:i∈rs:=List.mem_of_getElem? hi
  rw[←hrs,List.mem_filter]at hmem
  obtain⟨hm1,hm2⟩:=hmem
  have hilt:i<ops.size:=by simpa using hm1
  have ho:ops[i]?=some ops[i]:=by simp[hilt]
  rw[ho]at hm2
  simp only[Bool.and_eq_true,Bool.not_eq_true',aW,Option.getD_some,Array.all_eq_true_iff_forall_mem]at hm2
  have hni:i∉acc:=λhm=>by rw[(h2 i hilt).2 hm]at hm2;cases hm2.1
  refine ih _ _ _ (by simpa using h1) (λj hj=>?_) (List.nodup_cons.2 ⟨hni,h3⟩) (λj hj=>?_) ?_ (by simp;omega)
  ·simp only[Array.getD_eq_getD_getElem?,Array.getElem?_setIfInBounds,List.mem_cons]
   have:=h2 j hj
   rw[Array.getD_eq_getD_getElem?]at this
   by_cases hij:i=j
   ·subst hij
    simp[h1,hilt]
   ·rw[if_neg hij]
    rw[this]
    simp[Ne.symm hij]
  ·rcases List.mem_cons.1 hj with rfl | hj
   ·exact hilt
   ·exact h4 j hj
  ·intro l1 j l2 hl o e ho' he hbd
   rw[List.reverse_cons]at hl
   rcases List.eq_nil_or_concat l2 with rfl |⟨l2',x,rfl⟩
   ·have hl':acc.reverse++[i]=l1++[j]:=hl
    have:=List.append_inj' hl' rfl
    obtain⟨e1,e2⟩:=this
    injection e2 with e2
    subst e2
    rw[ho]at ho'
    obtain rfl:=ak ho'
    have:=hm2.2 e he
    rw[hbd]at this
    simp only[Bool.not_true,Bool.false_or]at this
    obtain⟨_,r2⟩:=hb i _ e ho he hbd
    rw[←e1]
    simpa using (hF e.on r2).1 this
   ·have hl':acc.reverse++[i]=(l1++j::l2')++[x]:=by rw[hl];simp
    have:=List.append_inj' hl' rfl
    exact h5 l1 j l2' this.1 o e ho' he hbd
theorem zn{m:Region.Mode}{ops:Array Oper}(rank:Nat→Nat)(hb:∀i o e,ops[i]?=some o→e∈o.after→Region.binds m e=true→rank e.on<rank i∧e.on<ops.size)(t:Nat):WZ m ops (Region.linearise m ops t):=by
 unfold Region.linearise
 refine aao rank hb ops.size t _ [] (by simp) (λi hi=>?_) (by simp) (by simp) (by simp) (by simp)
 simp[Array.getD_eq_getD_getElem?,hi]
def IY(ops:Array Oper)(rho:List Nat):Bool :=
 ops.toList.zipIdx.all λp=>p.1.after.toList.all λe =>
  (match e.ground with |.gcOnly _=>true | _=>decide (e.on<p.2))&&(match e.ground with |.textOnly _=>true | _=>decide (rho.idxOf e.on<rho.idxOf p.2∧e.on<ops.size))
theorem Fp{ops:Array Oper}{rho:List Nat}(h:IY ops rho=true)(mixed:Bool)(t:Nat):WZ .any ops (Region.schedule mixed ops t):=by
 have hE:∀(i:Nat) (o:Oper) (e:Edge),ops[i]?=some o→e∈o.after→(match e.ground with |.gcOnly _=>true | _=>decide (e.on<i))=true∧(match e.ground with |.textOnly _=>true | _=>decide (rho.idxOf e.on<rho.idxOf i∧e.on<ops.size))=true:=by
  intro i o e ho he
  unfold IY at h
  rw[List.all_eq_true]at h
  have:=h (o,i) (by rw[List.mem_zipIdx_iff_getElem?];simpa using ho)
  rw[List.all_eq_true]at this
  have:=this e (by simpa using he)
  rw[Bool.and_eq_true]at this
  exact this
 have hlt:∀i o,ops[i]?=some o→i<ops.size:=λi o h=>(Array.getElem?_eq_some_iff.1 h).1
 have weak:∀m l,WZ m ops l→(∀e,Region.binds .any e=true→Region.binds m e=true)→WZ .any ops l:=λm l L hw =>
  ⟨L.nodup,L.lt,L.all,λl1 i l2 hl o e ho he hb=>L.after l1 i l2 hl o e ho he (hw e hb)⟩
 have hany:∀t,WZ .any ops (Region.linearise .any ops t):=zn id λi o e ho he hb=>by
  have:=(hE i o e ho he).1
  cases hg:e.ground<;>simp[Region.binds,hg]at hb this ⊢<;>(refine⟨this, ?_⟩;have:=hlt i o ho;omega)
 have htext:∀t,WZ .any ops (Region.linearise .text ops t):=λt=>weak _ _ (zn id (λi o e ho he hb=>by
  have:=(hE i o e ho he).1
  cases hg:e.ground<;>simp[Region.binds,hg]at hb this ⊢<;>(refine⟨this, ?_⟩;have:=hlt i o ho;omega)) t) (λe hb=>by cases hg:e.ground<;>simp[Region.binds,hg]at hb ⊢)
 have hgc:∀t,WZ .any ops (Region.linearise .gc ops t):=λt=>weak _ _ (zn (rho.idxOf ·) (λi o e ho he hb=>by
  have:=(hE i o e ho he).2
  cases hg:e.ground<;>simp[Region.binds,hg]at hb this ⊢<;>exact this) t) (λe hb=>by cases hg:e.ground<;>simp[Region.binds,hg]at hb ⊢)
 unfold Region.schedule
 split
 ·exact hany t
 ·split
  ·exact htext _
  ·exact hgc _
def xG(P:Program)(ops:Array Oper)(o:Oper):pX :=
 match o.guard with
 | none=>{ dst:=o.dst,op:=cOp P o.op,guard:=none }
 | some (j,want)=>match (ops[j]?).bind (·.dst)with
  | some t=>{ dst:=o.dst,op:=cOp P o.op,guard:=some (t,want) }
  | none=>{ dst:=o.dst,op:=.n .fail,guard:=none }
theorem Gv(P:Program)(ops:Array Oper)(o:Oper):(xG P ops o).dst=o.dst:=by
 unfold xG
 split
 ·rfl
 ·split<;>rfl
theorem N8{P:Program}{C:bH}(hC:sj P C)(ops:Array Oper)(o:Oper):NY P C o (xG P ops o).op:=by
 unfold xG
 split
 ·exact Ud hC o
 ·split
  ·exact Ud hC o
  ·exact uj.fail
theorem AL{P:Program}(ops:Array Oper)(o:Oper){e:Env}{a:Act}{ι:fq}(he:dQ ι e a.tmps.toList){b:Bool}(h:o9 (xG P ops o).guard e=some b):Region.wanted o (yielded ops a.tmps)=b∨((xG P ops o).op=.n .fail∧b=true):=by
 unfold xG at h ⊢
 cases hg:o.guard with
 | none =>
  rw[hg]at h
  simp only[o9,av]at h
  subst h
  exact .inl (by simp[Region.wanted,hg])
 | some p =>
  obtain⟨j,want⟩:=p
  rw[hg]at h
  simp only at h ⊢
  cases ht:(ops[j]?).bind (·.dst)with
  | none =>
   rw[ht]at h
   simp only[o9,av]at h
   subst h
   exact .inr ⟨rfl,rfl⟩
  | some t =>
   rw[ht]at h
   simp only[o9]at h
   left
   have hr:=he.getD t undef
   have hcell:∀v,a.tmps.toList.getD t undef=v→(t<a.tmps.size→a.tmps[t]?=some v):=by
    intro v hv hlt
    rw[List.getD_eq_getElem?_getD,Array.getElem?_toList]at hv
    have:a.tmps[t]?=some a.tmps[t]:=by simp[hlt]
    rw[this]at hv ⊢
    simpa using hv
   have hlt:e.getD t .undef≠.undef→t<a.tmps.size:=by
    intro hne
    rcases Nat.lt_or_ge t a.tmps.size with hc | hc
    ·exact hc
    exfalso
    apply hne
    have hl:List.length e=a.tmps.size:=by simpa using he.length
    have hle:List.length e≤t:=by omega
    rw[List.getD_eq_getElem?_getD,List.getElem?_eq_none hle]
    rfl
   split at h
   ·rename_i c hc
    rw[hc]at hr
    simp only[VR]at hr
    have:=hcell _ hr (hlt (by rw[hc];simp))
    obtain rfl:=ak h
    simp[Region.wanted,hg,yielded,ht,this]
   ·rename_i vs hc
    rw[hc]at hr
    simp only[VR]at hr
    obtain⟨ws,hr,_⟩:=hr
    have:=hcell _ hr (hlt (by rw[hc];simp))
    obtain rfl:=ak h
    simp[Region.wanted,hg,yielded,ht,this]
   ·cases h
theorem Sc {P:Program} {C:bH} {o:Oper} {ao:uT} (hok:NY P C o ao) {ι:fq} {M M':Heap} {e:Env} {a:Act} {w:World} {v:AV} {next:Act→World→Prop} {Q:Exit→Act→World→Prop} (r:R ι M w) (he:dQ ι e a.tmps.toList) (h:Er C ao e M=some (v,M'))
  (hn:∀bI v' w',Tr ι M w bI M' w'→VR bI v v'→next (a.put o.dst v') w'):o.wp P a w next Q:=by
 cases ao with
 | p po =>
  simp only[Er]at h
  obtain⟨u,hu,h⟩:=aC.1 h
  simp only[aI]at h
  obtain⟨rfl,rfl⟩:=h
  obtain⟨v',h1,h2⟩:=hok ι e a w u he hu
  exact uj.of_run h1 (hn ι v' w (Tr.refl r) h2)
 | l lo =>
  simp only[Er]at h
  obtain⟨u,hu,h⟩:=aC.1 h
  simp only[aI]at h
  obtain⟨rfl,rfl⟩:=h
  obtain⟨v',h1,h2⟩:=hok ι M e a w u r he hu
  exact uj.of_run h1 (hn ι v' w (Tr.refl r) h2)
 | k ko =>
  simp only[Er]at h
  obtain⟨⟨x,mk⟩,hu,h⟩:=aC.1 h
  simp only[aI]at h
  obtain⟨rfl,rfl⟩:=h
  obtain⟨v',w',ob,N,h1,h2,h3,h4⟩:=hok ι e a w x mk he hu
  have hnone:=(r.fresh M.next (Nat.le_refl _)).2
  obtain⟨hb,hv⟩:=h4 M.next (ι.set M.next ⟨w.heap.size,0,N⟩) (fq.zl hnone _) (by simp[fq.set])
  exact uj.of_run h1 (hn _ v' w' (Tr.push r h2 h3 hb) hv)
 | n no =>
  simp only[Er]at h
  exact hok ι M e a w v M' next Q r he h hn
theorem Ev {P:Program} {C:bH} (hC:sj P C) {ops:Array Oper} {Q:Exit→Act→World→Prop}:∀(l:List Nat) (ι:fq) (M:Heap) (e:Env) (a:Act) (w:World) (e':Env) (M':Heap),(∀i,i∈l→i<ops.size)→R ι M w→dQ ι e a.tmps.toList→a.defers=[] →
  Gl C (l.map λi=>xG P ops (ops.getD i default)) e M=some (e',M')→(∀bI a' w',Tr ι M w bI M' w'→dQ bI e' a'.tmps.toList→a'.defers=[]→Q .normal a' w')→wpOps P ops Q l a w
 | [],ι,M,e,a,w,e',M',_,r,he,hd,h,hq=>by
  simp only[List.map_nil,Gl,av,aI]at h
  obtain⟨rfl,rfl⟩:=h
  exact hq ι a w (Tr.refl r) he hd
 | i::l,ι,M,e,a,w,e',M',hlt,r,he,hd,h,hq=>by
  have hi:=hlt i (by simp)
  have ho:ops[i]?=some ops[i]:=by simp[hi]
  have hg:ops.getD i default=ops[i]:=by simp[Array.getD_eq_getD_getElem?,hi]
  simp only[List.map_cons,Gl,hg]at h
  simp only[wpOps,ho]
  have hok:=N8 hC ops ops[i]
  split at h
  ·rename_i hw
   obtain⟨⟨v,M1⟩,hop,h⟩:=aF.1 h
   have hwant:Region.wanted ops[i] (yielded ops a.tmps)=true:=by
    rcases AL (P:=P) ops ops[i] he hw with hw' |⟨hf,_⟩
    ·exact hw'
    ·rw[hf]at hop
     simp[Er,aN]at hop
   rw[if_pos hwant]
   left
   rw[Gv]at h
   refine Sc hok r he hop λkD v' w' ht hv=>?_
   exact Ev hC l kD M1 _ _ w' e' M' (λj hj=>hlt j (by simp[hj])) ht.rel (IX (dQ.mono (ht.le r) _ _ he) hv) (by rw[put_defers];exact hd) h λuI a2 w2 ht2=>hq uI a2 w2 (ht.trans ht2)
  ·rename_i hw
   have hwant:¬Region.wanted ops[i] (yielded ops a.tmps)=true:=by
    rcases AL (P:=P) ops ops[i] he hw with hw' |⟨_,hf⟩
    ·simp[hw']
    ·cases hf
   rw[if_neg hwant]
   rw[Gv]at h
   exact Ev hC l ι M _ _ w e' M' (λj hj=>hlt j (by simp[hj])) r (IX he (VR.unit ι)) (by rw[put_defers];exact hd) h hq
  ·cases h
def Hw(o:Oper):List Nat:=(o.after.toList.filter (Region.binds .any)).map (·.on)
def PN:List Oper→List Nat→List Nat
 | [],acc=>acc
 | o::r,acc=>PN r (acc++[(Hw o).foldl (λx p=>x ||| 2 ^ p ||| acc.getD p 0) 0])
def Good(ops:List Oper)(A:List Nat):Prop:=∀i a,(A.getD i 0).testBit a=true→∃o,ops[i]?=some o∧∃p,p∈Hw o∧(a=p∨(p<i∧(A.getD p 0).testBit a=true))
theorem N9(acc:List Nat)(a:Nat):∀(l:List Nat) (x:Nat),(l.foldl (λx p=>x ||| 2 ^ p ||| acc.getD p 0) x).testBit a=true→x.testBit a=true∨∃p,p∈l∧(a=p∨(acc.getD p 0).testBit a=true)
 | [],x,h=>.inl h
 | p::l,x,h=>by
  rw[List.foldl_cons]at h
  rcases N9 acc a l _ h with h |⟨q,hq,h⟩
  ·rw[Nat.testBit_or,Nat.testBit_or,Nat.testBit_two_pow,Bool.or_eq_true,Bool.or_eq_true,decide_eq_true_eq]at h
   rcases h with(h | h) | h
   ·exact .inl h
   ·exact .inr ⟨p,by simp,.inl h.symm⟩
   ·exact .inr ⟨p,by simp,.inr h⟩
  ·exact .inr ⟨q,by simp[hq],h⟩
theorem K9(all:List Oper):∀(r pre:List Oper) (acc:List Nat),all=pre++r→acc.length=pre.length→Good all acc→Good all (PN r acc)
 | [],_,acc,_,_,h=>h
 | o::r,pre,acc,he,hl,h=>by
  simp only[PN]
  refine K9 all r (pre++[o]) _ (by simp[he]) (by simp[hl]) λi a ha=>?_
  have hgd:∀j,j<acc.length→∀x,(acc++[x]).getD j 0=acc.getD j 0:=λj hj x=>by
   simp[List.getD_eq_getElem?_getD,List.getElem?_append_left hj]
  rcases Nat.lt_or_ge i acc.length with hi | hi
  ·rw[hgd i hi]at ha
   obtain⟨o',h1,p,h2,h3⟩:=h i a ha
   refine⟨o',h1,p,h2,h3.imp id λ⟨h4,h5⟩=>⟨h4, ?_⟩⟩
   rw[hgd p (by omega)]
   exact h5
  ·rcases Nat.eq_or_lt_of_le hi with e | hi
   ·subst e
    have e1:(acc++[(Hw o).foldl (λx p=>x ||| 2 ^ p ||| acc.getD p 0) 0]).getD acc.length 0=(Hw o).foldl (λx p=>x ||| 2 ^ p ||| acc.getD p 0) 0:=by
     simp[List.getD_eq_getElem?_getD]
    rw[e1]at ha
    rcases N9 acc a _ _ ha with ha |⟨p,hp,ha⟩
    ·simp at ha
    refine⟨o,by rw[he,hl];simp,p,hp, ?_⟩
    rcases ha with ha | ha
    ·exact .inl ha
    ·have N7:p<acc.length:=by
      refine Classical.byContradiction λhc=>?_
      rw[List.getD_eq_getElem?_getD,List.getElem?_eq_none (by omega)]at ha
      simp at ha
     refine .inr ⟨N7, ?_⟩
     rw[hgd p N7]
     exact ha
   ·rw[List.getD_eq_getElem?_getD,List.getElem?_eq_none (by simp;omega)]at ha
    simp at ha
theorem N_{ops:List Oper}{A:List Nat}(h:Good ops A){S:Nat→Prop}(hS:∀i,S i→∀o,ops[i]?=some o→∀p,p∈Hw o→S p):∀i,S i→∀a,(A.getD i 0).testBit a=true→S a:=by
 intro i
 induction i using Nat.strongRecOn with
 | _ i ih =>
  intro hi a ha
  obtain⟨o,h1,p,h2,h3⟩:=h i a ha
  have hp:=hS i hi o h1 p h2
  rcases h3 with rfl |⟨h3,h4⟩
  ·exact hp
  ·exact ih p h3 hp a h4
def aap(A:List Nat)(loud:Nat→Bool)(n:Nat):List Nat :=
 let acc:=(List.range n).foldl (λacc j=>if loud j then acc++((List.range n).filter λi=>(A.getD j 0).testBit i&&!acc.contains i)++[j]else acc) []
 acc++(List.range n).filter λi=>!acc.contains i
def MG(A:List Nat)(um:List Nat)(p q:Nat):Bool:=(A.getD (um.getD q 0) 0).testBit (um.getD p 0)
def dList(P:Program)(ops:Array Oper)(A:List Nat)(um:List Nat):List d9 :=
 let Gl:=ops.toList.map (xG P ops)
 let at_ (i:Nat):pX:=Gl.getD i { dst:=none,op:=.n .fail,guard:=none }
 let aaZ:=um.filter λi=>(at_ i).op.loud
 let ks:=um.filter λi=>(at_ i).op.isK
 um.map λi=>{ o:=at_ i,lo:=(aaZ.takeWhile λj=>(A.getD i 0).testBit j).length,ix:=ks.idxOf i }
structure DZ where
 d:d9
 p:Nat
 i:Nat
 m:Nat
 r:Nat
 c:Nat
def MH(l:List Nat):Nat:=l.foldl (λx t=>x ||| 2 ^ t) 0
theorem Hy(t:Nat):∀(l:List Nat) (x:Nat),(t∈l∨x.testBit t=true)→(l.foldl (λx t=>x ||| 2 ^ t) x).testBit t=true
 | [],x,h=>by simpa using h
 | u::l,x,h=>by
  rw[List.foldl_cons]
  refine Hy t l _ ?_
  rcases h with h | h
  ·rcases List.mem_cons.1 h with rfl | h
   ·right
    rw[Nat.testBit_or,Nat.testBit_two_pow]
    simp
   ·exact .inl h
  ·right
   rw[Nat.testBit_or,h]
   simp
theorem PO{t:Nat}{l:List Nat}(h:t∈l):(MH l).testBit t=true:=Hy t l 0 (.inl h)
def PS(A:List Nat):List d9→List Nat→Nat→Nat→List DZ
 | d::ds,i::um,p,c=>⟨d,p,i,A.getD i 0,MH d.o.rd,c⟩::PS A ds um (p+1) (if d.o.op.loud then c+1 else c)
 | _,_,_,_=>[]
def Sd(ds:List d9)(j:Nat):Nat:=((ds.take j).filter λd=>d.o.op.loud).length
theorem Rc(ds:List d9):∀j,j≤ds.length→su ds j=Sd ds j
 | 0,_=>by simp[su,Sd]
 | j+1,h=>by
  have ih:=Rc ds j (by omega)
  unfold su Sd at ih ⊢
  rw[List.range_succ,List.filter_append,aJ,ih,List.take_add_one,List.filter_append,aJ]
  congr 1
  have hj:ds[j]?=some ds[j]:=bn (by omega)
  simp only[hj,Option.toList_some,List.filter_cons,List.filter_nil,jC]
  split<;>rfl
theorem Oa(A:List Nat):∀(ds:List d9) (um:List Nat) (p c j:Nat) (d:d9) (i:Nat),ds[j]?=some d→um[j]?=some i→(PS A ds um p c)[j]?=some ⟨d,p+j,i,A.getD i 0,MH d.o.rd,c+Sd ds j⟩
 | [],_,_,_,_,_,_,h,_=>by simp at h
 | _::_,[],_,_,_,_,_,_,h=>by simp at h
 | d::ds,i::um,p,c,0,d',i',h1,h2=>by
  simp at h1 h2
  subst h1 h2
  simp[PS,Sd]
 | d::ds,i::um,p,c,j+1,d',i',h1,h2=>by
  simp only[List.getElem?_cons_succ]at h1 h2
  simp only[PS,List.getElem?_cons_succ]
  rw[Oa A ds um _ _ j d' i' h1 h2]
  simp only[av,DZ.mk.injEq,true_and]
  refine⟨by omega, ?_⟩
  simp only[Sd,List.take_succ_cons,List.filter_cons]
  cases d.o.op.loud<;>simp<;>omega
def PU(nk:Nat)(dz:List DZ):Bool :=
 (dz.all λp=>dz.all λq =>
  (!q.m.testBit p.i||decide (p.p<q.p)) &&
  (p.p==q.p||(
   (match p.d.o.dst with | some t=>q.d.o.dst != some t | none=>true) &&
   (match q.d.o.dst with | some t=>!(p.r.testBit t)||p.m.testBit q.i||q.m.testBit p.i | none=>true) &&
   (!(q.d.o.op.loud&&decide (p.p<q.p)&&!p.d.o.op.plain)||q.m.testBit p.i) &&
   (!(p.d.o.op.nV&&q.d.o.op.loud&&decide (q.p<p.p)&&decide (q.c<p.d.lo))||p.m.testBit q.i) &&
   (!(p.d.o.op.isK&&q.d.o.op.isK)||p.d.ix != q.d.ix)))) &&
 (dz.all λp=>!p.d.o.op.isK||decide (p.d.ix<nk))
theorem Ob{nk:Nat}{ds:List d9}{A um:List Nat}(hlen:ds.length=um.length)(h:PU nk (PS A ds um 0 0)=true):yO nk ds (λp q=>p<ds.length∧q<ds.length∧MG A um p q=true):=by
 unfold PU at h
 simp only[Bool.and_eq_true,List.all_eq_true]at h
 obtain⟨h1,h2⟩:=h
 have lt:∀p (d:d9),ds[p]?=some d→p<ds.length:=λp d h=>(aM.1 h).1
 have tg:∀p,p<ds.length→um[p]?=some (um.getD p 0):=λp hp=>by
  rw[List.getD_eq_getElem?_getD,bn (by omega)]
  rfl
 have hm:∀(p:Nat) (d:d9),ds[p]?=some d→(⟨d,p,um.getD p 0,A.getD (um.getD p 0) 0,MH d.o.rd,su ds p⟩:DZ)∈PS A ds um 0 0:=λp d hp=>by
  have:=Oa A ds um 0 0 p d _ hp (tg p (lt p d hp))
  rw[Nat.zero_add,Nat.zero_add,←Rc ds p (Nat.le_of_lt (lt p d hp))]at this
  exact List.mem_of_getElem? this
 have H:∀(p q:Nat) (d d':d9),ds[p]?=some d→ds[q]?=some d'→_:=λp q d d' hp hq=>h1 _ (hm p d hp) _ (hm q d' hq)
 have or1:∀ {a b:Bool},(a||b)=true→a=false→b=true:=λ{a b} h1 h2=>by subst h2;simpa using h1
 have N:∀(p q:Nat) (d d':d9),ds[p]?=some d→ds[q]?=some d'→p≠q→_:=λp q d d' hp hq hne=>or1 (H p q d d' hp hq).2 (by simpa using hne)
 constructor
 ·rintro p q ⟨hp,hq,ha⟩
  have:=(H p q _ _ (bn hp) (bn hq)).1
  have ha':(A.getD (um.getD q 0) 0).testBit (um.getD p 0)=true:=ha
  rw[ha']at this
  simpa using this
 ·intro p q d d' t hp hq hne ht
  have:=N p q d d' hp hq hne
  simp only[Bool.and_eq_true]at this
  have:=this.1.1.1.1
  rw[ht]at this
  simpa using this
 ·intro p q d d' t hp hq hne ht hr
  have:=N p q d d' hp hq hne
  simp only[Bool.and_eq_true]at this
  have:=this.1.1.1.2
  rw[ht]at this
  simp[PO hr]at this
  exact this.imp (λh=>⟨lt _ _ hq,lt _ _ hp,by simpa[MG]using h⟩) (λh=>⟨lt _ _ hp,lt _ _ hq,by simpa[MG]using h⟩)
 ·intro p q d d' hp hq hlt hl hpl
  have:=N p q d d' hp hq (by omega)
  simp only[Bool.and_eq_true]at this
  have:=this.1.1.2
  simp[hlt,hl,hpl]at this
  exact⟨lt _ _ hp,lt _ _ hq,by simpa[MG]using this⟩
 ·intro p d q hp hl hlt Q9 hc
  have hq:q<ds.length:=by have:=lt _ _ hp;omega
  have hq':=bn hq
  have:=N p q d _ hp hq' (by omega)
  simp only[Bool.and_eq_true]at this
  have:=this.1.2
  have hl2:ds[q].o.op.loud=true:=by simpa[jC,hq']using Q9
  simp[hl,hlt,hl2,hc]at this
  exact⟨hq,lt _ _ hp,by simpa[MG]using this⟩
 ·intro p d hp hk
  have:=h2 _ (hm p d hp)
  simpa[hk]using this
 ·intro p q d d' hp hq hk hk' hix
  refine Classical.byContradiction λhne=>?_
  have:=N p q d d' hp hq hne
  simp only[Bool.and_eq_true]at this
  have:=this.2
  simp[hk,hk',hix]at this
def Oc(P:Program)(ops:Array Oper):dI :=
 let A:=PN ops.toList []
 let n:=ops.size
 let Gl:=ops.toList.map (xG P ops)
 let um:=aap A (λi=>(Gl.getD i { dst:=none,op:=.n .fail,guard:=none }).op.loud) n
 let ds:=dList P ops A um
 let nk:=(Gl.filter λo=>o.op.isK).length
 if (IY ops (List.range n)||IY ops (Region.linearise .gc ops 0))&&(um.length==n&&decide um.Nodup&&(List.range n).all λi=>um.contains i)&&PU nk (PS A ds um 0 0)then .Ii nk ds else .fail
theorem Sg{l:List Nat}(h:l.Nodup){i j x:Nat}(hi:l[i]?=some x)(hj:l[j]?=some x):i=j:=by
 obtain⟨i1,i2⟩:=aM.1 hi
 obtain⟨j1,j2⟩:=aM.1 hj
 rcases Nat.lt_trichotomy i j with hlt | he | hlt
 ·exact absurd (i2.trans j2.symm) (List.pairwise_iff_getElem.1 h i j i1 j1 hlt)
 ·exact he
 ·exact absurd (j2.trans i2.symm) (List.pairwise_iff_getElem.1 h j i j1 i1 hlt)
theorem Uk {P:Program} {C:bH} (hC:sj P C) {ops:Array Oper} {A:List Nat} (hA:Good ops.toList A) {um:List Nat} (htl:um.length=ops.size) (htn:um.Nodup) (hta:∀i,i<ops.size→i∈um) {ds:List d9} (hds:ds.length=um.length)
  (hdo:∀(p i:Nat),um[p]?=some i→∃(d:d9) (o:Oper),ds[p]?=some d∧ops[i]?=some o∧d.o=xG P ops o) {nk base:Nat} (c:yO nk ds (λp q=>p<ds.length∧q<ds.length∧MG A um p q=true))
  {E:Nat→Env} {H:Nat→Heap} {G:Nat→List Heap} {V:Nat→AV} {W:Nat→Bool} {B:Nat→Option jN} (r:Im C base nk ds E H G V W B) (hg0:G 0=[]) {nZ:fq} {M0:Heap} {w0:World} (hbase:M0.next=base)
  {L:List Nat} (hL:WZ .any ops L) {Q:Exit→Act→World→Prop} (hq:∀ι a w,Tr nZ M0 w0 ι (H ds.length) w→dQ ι (E ds.length) a.tmps.toList→a.defers=[]→Q .normal a w) :
  ∀(l dn:List Nat),L=dn++l→∀(q:Nat) (S:Nat→Bool) (ι:fq) (a:Act) (w:World),(∀p i,um[p]?=some i→(S p=true↔i∈dn)) →
   AJ base nk ds E H V B (λp q=>p<ds.length∧q<ds.length∧MG A um p q=true) nZ M0 w0 q S ι a w→wpOps P ops Q l a w:=by
 intro l
 induction l with
 | nil =>
  intro dn hdn q S ι a w hS I
  simp only[wpOps]
  have hall:∀p,p<ds.length→S p=true:=λp hp=>by
   have ht:um[p]?=some um[p]:=by simp[show p<um.length from by omega]
   have hlt:=hL.lt
   rw[hS p _ ht]
   have:dn=L:=by simpa using hdn.symm
   rw[this]
   refine hL.all _ ?_
   -- a place of tau is an operation
   have:=hdo p _ ht
   obtain⟨d,o,_,h2,_⟩:=this
   exact(Array.getElem?_eq_some_iff.1 h2).1
  have abS:uo ds (E 0) V S=E ds.length:=by
   rw[PK c r ds.length (Nat.le_refl _)]
   unfold uo
   refine List.map_congr_left λt _=>?_
   cases hw:writer ds t with
   | none=>rfl
   | some p =>
    obtain⟨d,hd,_⟩:=yP hw
    have hp:=(aM.1 hd).1
    simp[hall p hp,hp]
  have hheap:fD base nk ds H B q S=H ds.length:=by
   obtain⟨g1,g2,g3⟩:=Eu c r ds.length I.qle (Nat.le_refl _) λj j1 j2=>by
    cases hj:jC ds j with
    | false=>rfl
    | true=>have:=I.below j (hall j j2) hj;omega
   refine xE (λb=>?_) g1.symm
   by_cases hb:base≤b∧b<base+nk
   ·rw[g3 (λb p0 b1 b2 hs hq=>(I.nones b b1 b2).1 p0 hs hq) b hb.1 hb.2]
    simp only[fD]
    rw[if_pos hb]
    cases hs:jP ds (b-base)with
    | none=>exact((I.nones b hb.1 hb.2).2 hs).symm
    | some p0 =>
     obtain⟨d,hd,_⟩:=mD hs
     have hp:=(aM.1 hd).1
     simp only
     by_cases h:p0<q
     ·rw[if_pos h,if_neg (by omega)]
     ·rw[if_neg h,if_pos (hall p0 hp),if_pos ⟨by omega,hp⟩]
   ·rw[g2 b hb]
    simp only[fD]
    rw[if_neg hb]
  have h1:=I.tr
  rw[hheap]at h1
  have h2:=I.env
  rw[abS]at h2
  exact hq ι a w h1 h2 I.defs
 | cons i l ih =>
  intro dn hdn q S ι a w hS I
  have hmem:i∈L:=by rw[hdn];simp
  have hi:=hL.lt i hmem
  have aa0:=hta i hi
  obtain⟨p,hp⟩:=List.mem_iff_getElem?.1 aa0
  obtain⟨d,o,hd,ho,Xm⟩:=hdo p i hp
  have N7:=(aM.1 hd).1
  have hni:i∉dn:=by
   have:=hL.nodup
   rw[hdn,List.nodup_append]at this
   intro h
   exact this.2.2 i h i (by simp) rfl
  have hSp:S p=false:=by
   cases h:S p with
   | false=>rfl
   | true=>exact absurd ((hS p i hp).1 h) hni
  -- what it hangs on is done
  have hclosed:∀j,j∈dn→∀o,ops.toList[j]?=some o→∀x,x∈Hw o→x∈dn:=by
   intro j hj o' ho' x hx
   obtain⟨l1,l2,hl⟩:=List.append_of_mem hj
   unfold Hw at hx
   obtain⟨e,he,rfl⟩:=List.mem_map.1 hx
   obtain⟨he,hb⟩:=List.mem_filter.1 he
   have:=hL.after l1 j (l2++i::l) (by rw[hdn,hl];simp) o' e (by simpa using ho') (by simpa using he) hb
   rw[hl]
   simp[this]
  have abT:∀x,(A.getD i 0).testBit x=true→x∈dn:=by
   intro x hx
   obtain⟨o',ho',y,hy,hxy⟩:=hA i x hx
   have hyd:y∈dn:=by
    unfold Hw at hy
    obtain⟨e,he,rfl⟩:=List.mem_map.1 hy
    obtain⟨he,hb⟩:=List.mem_filter.1 he
    exact hL.after dn i l hdn o' e (by simpa using ho') (by simpa using he) hb
   rcases hxy with rfl |⟨_,hxy⟩
   ·exact hyd
   ·exact N_ hA (S:=λj=>j∈dn) hclosed y hyd x hxy
  have hpre:∀s,(s<ds.length∧p<ds.length∧MG A um s p=true)→S s=true:=by
   rintro s ⟨hs,_,ha⟩
   have hts:um[s]?=some um[s]:=by simp[show s<um.length from by omega]
   rw[hS s _ hts]
   refine abT _ ?_
   unfold MG at ha
   have e1:um.getD p 0=i:=by rw[List.getD_eq_getElem?_getD,hp];rfl
   have e2:um.getD s 0=um[s]:=by rw[List.getD_eq_getElem?_getD,hts];rfl
   rw[e1,e2]at ha
   simpa using ha
  have hok:NY P C o d.o.op:=by rw[Xm];exact N8 hC ops o
  have hdst:o.dst=d.o.dst:=by rw[Xm,Gv]
  have hstep:=I.step c r hg0 hbase hd hSp hpre hok hdst
  have st:=r.step p d hd
  have PL:=Gu c r I.closed hd hSp hpre
  have hwant:o9 d.o.guard (uo ds (E 0) V S)=some (W p):=by
   rw[←Kz (e:=E p) (λt ht=>PL t (by simp only[pX.rd,List.mem_append];exact .inl ht))]
   exact st.want
  have hcw:=AL (P:=P) ops o I.env (by rw[←Xm];exact hwant)
  have hSm:∀s j,um[s]?=some j→(more S p s=true↔j∈dn++[i]):=by
   intro s j hs
   by_cases hsp:s=p
   ·subst hsp
    rw[hp]at hs
    obtain rfl:=ak hs
    simp[more]
   ·rw[uU hsp,hS s j hs]
    have:j≠i:=by
     rintro rfl
     exact hsp (Sg htn hs hp)
    simp[this]
  simp only[wpOps,ho]
  cases hw:W p with
  | true =>
   rw[hw]at hcw
   have PV:Region.wanted o (yielded ops a.tmps)=true:=by
    rcases hcw with h |⟨hf,_⟩
    ·exact h
    ·rw[←Xm]at hf
     have:=(st.n .fail hw hf).1
     simp[aN]at this
   rw[if_pos PV]
   left
   exact hstep.1 hw _ Q λq' bI v' w' I'=>ih (dn++[i]) (by rw[hdn];simp) q' (more S p) bI _ w' hSm I'
  | false =>
   rw[hw]at hcw
   have PV:¬Region.wanted o (yielded ops a.tmps)=true:=by
    rcases hcw with h |⟨_,hf⟩
    ·simp[h]
    ·cases hf
   rw[if_neg PV]
   obtain⟨q',I'⟩:=hstep.2 hw
   exact ih (dn++[i]) (by rw[hdn];simp) q' (more S p) ι _ w hSm I'
theorem PW {P:Program} {C:bH} (hC:sj P C) {id:Nat} {ops:Array Oper} {nk:Nat} {ds:List d9} (hc:Oc P ops=.Ii nk ds) {ι:fq} {M:Heap} {e:Env} {a:Act} {w:World} (r:R ι M w) (he:dQ ι e a.tmps.toList) (hd:a.defers=[]) {e':Env} {M':Heap}
  (h:zT C M.next nk ds e { M with next:=M.next+nk } []=some (e',M')) {Q:Exit→Act→World→Prop} (hq:∀bI a' w',Tr ι M w bI M' w'→dQ bI e' a'.tmps.toList→a'.defers=[]→Q .normal a' w'):(Code.region id ops true).wp P Q a w:=by
 unfold Oc at hc
 simp only at hc
 split at hc
 case isFalse=>cases hc
 rename_i hcond
 simp only[Bool.and_eq_true,beq_iff_eq,decide_eq_true_eq,List.all_eq_true]at hcond
 obtain⟨⟨Ul,⟨htl,htn⟩,hta⟩,Um⟩:=hcond
 injection hc with hc1 hc2
 rw[hc1,hc2]at Um
 have cnd:=Ob (by rw[←hc2];simp[dList]) Um
 obtain⟨E,H,G,V,W,B,hr,q1,q2,q3,q4,q5⟩:=Q7 ds e _ _ e' M' h
 refine wp_region_draw λt=>?_
 have hL:WZ .any ops (Region.schedule (P.follows .mixedOrders) ops t):=by
  rw[Bool.or_eq_true]at Ul
  rcases Ul with h | h
  ·exact Fp h (P.follows .mixedOrders) t
  ·exact Fp h (P.follows .mixedOrders) t
 have hA:Good ops.toList (PN ops.toList []):=K9 ops.toList ops.toList [] [] (by simp) rfl (λi a ha=>by simp[List.getD_eq_getElem?_getD]at ha)
 have rd:=r.drew (w.drawn+1)
 have aa1:∀i,i<ops.size→i∈aap (PN ops.toList []) (λi=>((ops.toList.map (xG P ops)).getD i { dst:=none,op:=.n .fail,guard:=none }).op.loud) ops.size:=λi hi=>by
  have:=hta i (by simpa using hi)
  simpa using this
 generalize acP:aap (PN ops.toList []) (λi=>((ops.toList.map (xG P ops)).getD i { dst:=none,op:=.n .fail,guard:=none }).op.loud) ops.size=um at *
 have hlt:∀i,i∈um→i<ops.size:=by
  intro i hi
  rcases Nat.lt_or_ge i ops.size with h | h
  ·exact h
  ·exfalso
   have:=Dj (i::List.range ops.size) um (List.nodup_cons.2 ⟨by simpa using h,List.nodup_range⟩) (λx hx=>by
    rcases List.mem_cons.1 hx with rfl | hx
    ·exact hi
    ·exact aa1 x (by simpa using hx))
   simp at this
   omega
 have hds:ds.length=um.length:=by rw[←hc2];simp[dList]
 have hdo:∀(p i:Nat),um[p]?=some i→∃(d:d9) (o:Oper),ds[p]?=some d∧ops[i]?=some o∧d.o=xG P ops o:=by
  intro p i hp
  have hi:=hlt i (List.mem_of_getElem? hp)
  have ho:ops[i]?=some ops[i]:=by simp[hi]
  refine⟨_,ops[i],by rw[←hc2];simp only[dList,List.getElem?_map,hp,aW];rfl,ho, ?_⟩
  simp[List.getD_eq_getElem?_getD,hi]
 have hbase:∀b,M.next≤b→b<M.next+nk→(H 0).get b=none:=λb b1 _=>by
  rw[q2]
  exact(r.fresh b b1).1
 have hheap:fD M.next nk ds H B 0 (λ_=>false)={ M with next:=M.next+nk }:=by
  refine xE (λb=>?_) (by simp[fD,q2])
  simp only[fD]
  split
  ·rename_i hb
   have:=(r.fresh b hb.1).1
   cases jP ds (b-M.next)<;>simp[this]
  ·rw[q2]
 have hR0:R ι { M with next:=M.next+nk } { w with drawn:=w.drawn+1 }:=⟨rd.blk,rd.apart,λb hb=>rd.fresh b (by simp only at hb;omega)⟩
 refine Uk hC hA htl htn aa1 hds hdo (base:=M.next) cnd hr q3 (nZ:=ι) (M0:=M) (w0:=w) rfl hL (λbI a' w' ht hv hd'=>?_) _ [] rfl 0 (λ_=>false) ι a _ (λp i _=>by simp) ?_
 ·rw[q5]at ht
  rw[q4]at hv
  exact hq bI a' w' ht hv hd'
 ·refine⟨Nat.zero_le _,.inl rfl,λj h=>by simp at h,λp s h=>by simp at h,λb b1 b2=>⟨λp0 _ _=>hbase b b1 b2,λ_=>hbase b b1 b2⟩,by rw[q2];exact Nat.le_refl _, ?_,λp d' _ _ _=>(r.fresh _ (by omega)).2, ?_,hd⟩
  ·rw[hheap]
   exact⟨hR0,λ_ _=>rfl,by simp,λ_ _ h=>h,λ_ _ h _=>h,λb x l h1 h2 h3 _=>⟨b,x,l,h1,h2,h3,rfl⟩,λ_ _ _=>rfl,Nat.le_refl _,rfl,rfl,rfl⟩
  ·have:uo ds (E 0) V (λ_=>false)=e:=by
    rw[q1]
    refine IW (lH _ _) λt=>?_
    rw[om]
    split
    ·cases writer ds t<;>simp
    ·rename_i h
     have hle:List.length e≤t:=by omega
     rw[List.getD_eq_getElem?_getD,List.getElem?_eq_none hle]
     rfl
   rw[this]
   exact he
abbrev Hints:=List (List Nat)
def oo(P:Program):Code→Hints→dI×Hints
 |.skip,h=>(.skip,h)
 |.region _ ops true,h=>(Oc P ops,h)
 |.region _ ops false,h=>(.reg ((List.range ops.size).map λi=>xG P ops (ops.getD i default)),h)
 |.seq a b,h =>
  let x:=oo P a h
  let y:=oo P b x.2
  (.seq x.1 y.1,y.2)
 |.cond c a b,h=>match cX c with
  | some ax =>
   let x:=oo P a h
   let y:=oo P b x.2
   (.cond ax x.1 y.1,y.2)
  | none=>(.fail,h)
 |.block id c,h =>
  let x:=oo P c h
  (.block id x.1,x.2)
 |.loop c,h =>
  let x:=oo P c h.tail
  (.loop (h.headD []) x.1,x.2)
 |.exit id,h=>(.exit id,h)
 |.ret,h=>(.ret,h)
 |.rangeFunc ..,h |.scope _,h |.label _,h |.goto _,h |.refuse _,h=>(.fail,h)
def Ex.of:Ex→Exit
 |.normal=>.normal
 |.exit id=>.exit id
 |.ret=>.ret
def Un(P:Program)(C:bH)(K:Nat)(c:Code)(ac:dI):Prop :=
 ∀(ι:fq) (M:Heap) (e:Env) (a:Act) (w:World) (x:Ex) (e':Env) (M':Heap) (Q:Exit→Act→World→Prop),R ι M w→dQ ι e a.tmps.toList→a.defers=[]→jH C K ac e M=some (x,e',M') →
  (∀bI a' w',Tr ι M w bI M' w'→dQ bI e' a'.tmps.toList→a'.defers=[]→Q x.of a' w')→c.wp P Q a w
theorem Hz {P:Program} {C:bH} {K:Nat} {c:Code} {ac:dI} {keep:List Nat} (hc:Un P C K c ac) {Q:Exit→Act→World→Prop}:∀(k:Nat) (ι:fq) (M:Heap) (e:Env) (a:Act) (w:World) (x:Ex) (e':Env) (M':Heap),R ι M w→dQ ι e a.tmps.toList→a.defers=[] →
  Ja (jH C K ac) keep k e M=some (x,e',M')→(∀bI a' w',Tr ι M w bI M' w'→dQ bI e' a'.tmps.toList→a'.defers=[]→Q x.of a' w')→Code.rounds P c Q k a w
 | 0,ι,M,e,a,w,x,e',M',r,he,hd,h,hq=>by simp[Ja]at h
 | k+1,ι,M,e,a,w,x,e',M',r,he,hd,h,hq=>by
  simp only[Ja]at h
  rw[rounds_succ]
  split at h
  ·rename_i e1 M1 hb
   refine hc ι M _ a w _ _ _ _ r (he.jG keep 0) hd hb λkD a1 w1 ht hv hd1=>?_
   simp only[Ex.of,Exit.then]
   exact Hz hc k kD M1 e1 a1 w1 x e' M' ht.rel hv hd1 h λuI a2 w2 ht2=>hq uI a2 w2 (ht.trans ht2)
  ·rename_i hne
   refine hc ι M _ a w _ _ _ _ r (he.jG keep 0) hd h λkD a1 w1 ht hv hd1=>?_
   have:=hq kD a1 w1 ht hv hd1
   cases x with
   | normal=>exact absurd h (hne e' M')
   | exit id=>exact this
   | ret=>exact this
theorem mG{P:Program}{C:bH}(hC:sj P C)(K:Nat):∀(c:Code) (h:Hints),Un P C K c (oo P c h).1
 |.skip,hs=>by
  intro ι M e a w x e' M' Q r he hd h hq
  simp only[oo,jH,av,aI]at h
  obtain⟨rfl,rfl,rfl⟩:=h
  exact wp_skip (hq ι a w (Tr.refl r) he hd)
 |.region id ops true,hs=>by
  intro ι M e a w x e' M' Q r he hd h hq
  simp only[oo]at h
  cases hc:Oc P ops with
  | Ii nk ds =>
   rw[hc]at h
   simp only[jH]at h
   obtain⟨p,hp,h⟩:=aC.1 h
   obtain⟨e1,M1⟩:=p
   simp only[aI]at h
   obtain⟨rfl,rfl,rfl⟩:=h
   exact PW hC hc r he hd hp hq
  | fail=>rw[hc]at h;simp[jH]at h
  | _ =>
   unfold Oc at hc
   simp only at hc
   split at hc<;>cases hc
 |.region id ops false,hs=>by
  intro ι M e a w x e' M' Q r he hd h hq
  simp only[oo,jH]at h
  obtain⟨⟨e1,M1⟩,hp,h⟩:=aC.1 h
  simp only[aI]at h
  obtain⟨rfl,rfl,rfl⟩:=h
  exact wp_region (Ev hC _ ι M e a w _ _ (λi hi=>by simpa using hi) r he hd hp hq)
 |.seq c1 c2,hs=>by
  intro ι M e a w x e' M' Q r he hd h hq
  simp only[oo,jH]at h
  refine wp_seq ?_
  split at h
  ·rename_i e1 M1 h1
   refine mG hC K c1 hs ι M e a w _ _ _ _ r he hd h1 λkD a1 w1 ht hv hd1=>?_
   simp only[Ex.of,Exit.then]
   exact mG hC K c2 _ kD M1 e1 a1 w1 x e' M' Q ht.rel hv hd1 h λuI a2 w2 ht2=>hq uI a2 w2 (ht.trans ht2)
  ·rename_i hne
   refine mG hC K c1 hs ι M e a w _ _ _ _ r he hd h λkD a1 w1 ht hv hd1=>?_
   have:=hq kD a1 w1 ht hv hd1
   cases x with
   | normal=>exact absurd h (hne e' M')
   | exit id=>exact this
   | ret=>exact this
 |.cond c c1 c2,hs=>by
  intro ι M e a w x e' M' Q r he hd h hq
  simp only[oo]at h
  cases hx:cX c with
  | none=>rw[hx]at h;simp[jH]at h
  | some ax =>
   rw[hx]at h
   simp only[jH]at h
   have hv:=dY hx he
   split at h
   ·rename_i hb
    rw[hb]at hv
    simp only[VR]at hv
    exact wp_cond_true hv (mG hC K c1 _ ι M e a w x e' M' Q r he hd h hq)
   ·rename_i hb
    rw[hb]at hv
    simp only[VR]at hv
    exact wp_cond_false hv (mG hC K c2 _ ι M e a w x e' M' Q r he hd h hq)
   ·cases h
 |.block id c,hs=>by
  intro ι M e a w x e' M' Q r he hd h hq
  simp only[oo,jH]at h
  refine wp_block ?_
  split at h
  ·rename_i i e1 M1 h1
   refine mG hC K c hs ι M e a w _ _ _ _ r he hd h1 λkD a1 w1 ht hv hd1=>?_
   simp only[Ex.of,Exit.inBlock]
   split at h
   ·rename_i hi
    simp only[av,aI]at h
    obtain⟨rfl,rfl,rfl⟩:=h
    rw[if_pos hi]
    exact hq kD a1 w1 ht hv hd1
   ·rename_i hi
    simp only[av,aI]at h
    obtain⟨rfl,rfl,rfl⟩:=h
    rw[if_neg hi]
    exact hq kD a1 w1 ht hv hd1
  ·rename_i hne
   refine mG hC K c hs ι M e a w _ _ _ _ r he hd h λkD a1 w1 ht hv hd1=>?_
   have:=hq kD a1 w1 ht hv hd1
   cases x with
   | normal=>exact this
   | exit i=>exact absurd h (hne i e' M')
   | ret=>exact this
 |.loop c,hs=>by
  intro ι M e a w x e' M' Q r he hd h hq
  simp only[oo,jH]at h
  exact wp_loop_rounds K (Hz (mG hC K c _) K ι M e a w x e' M' r he hd h hq)
 |.exit id,hs=>by
  intro ι M e a w x e' M' Q r he hd h hq
  simp only[oo,jH,av,aI]at h
  obtain⟨rfl,rfl,rfl⟩:=h
  exact wp_exit (hq ι a w (Tr.refl r) he hd)
 |.ret,hs=>by
  intro ι M e a w x e' M' Q r he hd h hq
  simp only[oo,jH,av,aI]at h
  obtain⟨rfl,rfl,rfl⟩:=h
  exact wp_ret (hq ι a w (Tr.refl r) he hd)
 |.rangeFunc ..,hs=>by
  intro ι M e a w x e' M' Q r he hd h hq
  simp[oo,jH]at h
 |.scope _,hs=>by
  intro ι M e a w x e' M' Q r he hd h hq
  simp[oo,jH]at h
 |.label _,hs=>by
  intro ι M e a w x e' M' Q r he hd h hq
  simp[oo,jH]at h
 |.goto _,hs=>by
  intro ι M e a w x e' M' Q r he hd h hq
  simp[oo,jH]at h
 |.refuse _,hs=>by
  intro ι M e a w x e' M' Q r he hd h hq
  simp[oo,jH]at h
def Xn(P:Program):ResultVar→Option zR
 |.tmp t=>some (.tmp t)
 |.cell t ty=>match xC P ty,l9 P ty with
  | some g,some n=>some (.cell t g n)
  | _,_=>none
def K_(P:Program):List ResultVar→Option (List zR)
 | []=>some []
 | x::l=>match Xn P x,K_ P l with
  | some a,some r=>some (a::r)
  | _,_=>none
def bJ(P:Program)(f:FuncId)(h:Hints):Option dD :=
 match P.funcs[f]? with
 | some fn=>match fn.body,K_ P fn.results.toList with
  | some c,some rs=>if fn.name=="runtime.NumGoroutine" then none else some { nargs:=fn.params.size+fn.nfree,ntmps:=fn.ntmps,code:=(oo P c h).1,results:=rs }
  | _,_=>none
 | none=>none
theorem Xo {P:Program} {x:ResultVar} {a:zR} (hc:Xn P x=some a) {ι:fq} {M:Heap} {w:World} (r:R ι M w) {e:Env} {tmps:Array Value} (he:dQ ι e tmps.toList) {v:AV} (h:PD a e M=some v) :
  ∃v',((match x with |.tmp t=>pure (tmps.getD t undef) |.cell a t=>do loadVar t (←asAddr (tmps.getD a undef))):Sem Value).run P w=.ok v' w∧VR ι v v':=by
 have hg:∀t,VR ι (e.getD t .undef) (tmps.getD t undef):=λt=>by
  have:=he.getD t undef
  rw[Array.getD_eq_getD_getElem?]
  rw[List.getD_eq_getElem?_getD (l:=tmps.toList)]at this
  simpa using this
 cases x with
 | tmp t =>
  simp only[Xn,av]at hc
  subst hc
  simp only[PD]at h
  split at h
  ·cases h
  ·obtain rfl:=ak h
   exact⟨_,rfl,hg t⟩
 | cell t ty =>
  simp only[Xn]at hc
  split at hc
  case h_2=>cases hc
  rename_i g n hga hgn
  obtain rfl:=ak hc
  simp only[PD]at h
  obtain⟨ad,v',h1,h2,h3⟩:=Ho (P:=P) r hga hgn (hg t) h
  refine⟨v', ?_,h3⟩
  simp[h1,asAddr,h2]
theorem Od {P:Program} {ι:fq} {M:Heap} {w:World} (r:R ι M w) {e:Env} {tmps:Array Value} (he:dQ ι e tmps.toList):∀(l:List ResultVar) (al:List zR) (vs:List AV),K_ P l=some al→Jb al e M=some vs →
  ∃vs',((l.mapM λx=>(match x with |.tmp t=>pure (tmps.getD t undef) |.cell a t=>do loadVar t (←asAddr (tmps.getD a undef)):Sem Value)):Sem (List Value)).run P w=.ok vs' w∧dQ ι vs vs'
 | [],al,vs,hc,h=>by
  simp only[K_,av]at hc
  subst hc
  simp only[Jb,av]at h
  subst h
  exact⟨[],by simp,by simp[dQ]⟩
 | x::l,al,vs,hc,h=>by
  simp only[K_]at hc
  split at hc
  case h_2=>cases hc
  rename_i a al' h1 h2
  obtain rfl:=ak hc
  simp only[Jb]at h
  obtain⟨v,hv,h⟩:=aF.1 h
  obtain⟨vs2,hvs,rfl⟩:=aC.1 h
  obtain⟨v',q1,q2⟩:=Xo (P:=P) h1 r he hv
  obtain⟨vs',q3,q4⟩:=Od r he l al' vs2 h2 hvs
  refine⟨v'::vs', ?_,by simp only[dQ];exact⟨q2,q4⟩⟩
  simp only[List.mapM_cons,Sem.run_bind,q1,Result.andThen_ok,q3,Sem.run_pure]
theorem Oe {P:Program} {fn:Func} {al:List zR} (hc:K_ P fn.results.toList=some al) {ι:fq} {M:Heap} {w:World} (r:R ι M w) {e:Env} {tmps:Array Value} (he:dQ ι e tmps.toList) {v:AV} (h:xB al e M=some v) :
  ∃v',(results fn tmps).run P w=.ok v' w∧VR ι v v':=by
 unfold xB at h
 obtain⟨vs,hvs,h⟩:=aC.1 h
 obtain⟨vs',q1,q2⟩:=Od (P:=P) r he _ al vs hc hvs
 unfold results
 rw[Sem.run_bind,Array.mapM_eq_mapM_toList,Sem.run_map]
 erw [q1]
 simp only[Result.andThen_ok,Sem.run_pure]
 refine⟨_,rfl, ?_⟩
 subst h
 match vs,vs',q2 with
 | [],[],q2=>simp[VR,dQ]
 | [x],[y],q2 =>
  simp only[dQ]at q2
  simpa using q2.1
 | x::x2::xs,y::y2::ys,q2 =>
  simp only[VR]
  refine⟨(y::y2::ys).toArray,by simp, ?_⟩
  simpa using q2
 | [],_::_,q2=>simp[dQ]at q2
 | _::_,[],q2=>simp[dQ]at q2
 | [_],_::_::_,q2=>simp[dQ]at q2
 | _::_::_,[_],q2=>simp[dQ]at q2
theorem Fq{P:Program}{f:FuncId}{h:Hints}{af:dD}(hc:bJ P f h=some af):Et P f:=by
 unfold bJ at hc
 split at hc
 case h_2=>cases hc
 rename_i fn hfn
 split at hc
 case h_2=>cases hc
 rename_i c rs hb _
 split at hc
 ·cases hc
 ·rename_i hn
  exact⟨fn,c,hfn,hb,by simpa using hn⟩
theorem Jo{P:Program}{C:bH}(hC:sj P C)(K:Nat){f:FuncId}{hs:Hints}{af:dD}(hc:bJ P f hs=some af):Sound P f (abody C K af):=by
 intro args M v M' h ι w vs r hv
 unfold bJ at hc
 split at hc
 case h_2=>cases hc
 rename_i fn hfn
 split at hc
 case h_2=>cases hc
 rename_i c rs hb hrs
 split at hc
 ·cases hc
 obtain rfl:=ak hc
 unfold abody at h
 simp only at h
 split at h
 case isFalse=>cases h
 rename_i hlen
 have hsz:vs.size=fn.params.size+fn.nfree:=by
  have:=hv.length
  simp at this
  omega
 refine calls_of_wp hfn hb ?_
 have he:dQ ι (args++List.replicate (fn.ntmps-(fn.params.size+fn.nfree)) (.tuple [])) ({ tmps:=vs++Array.replicate (fn.ntmps-vs.size) undef,defers:=[] }:Act).tmps.toList:=by
  simp only[Array.toList_append,Array.toList_replicate]
  refine hv.append ?_
  rw[hsz]
  refine dQ.r_ (by simp) λi a b ha hb=>?_
  simp only[List.getElem?_replicate]at ha hb
  split at ha
  case isFalse=>cases ha
  rename_i hi
  rw[if_pos hi]at hb
  obtain rfl:=ak ha
  obtain rfl:=ak hb
  exact VR.unit ι
 have fin:∀(x:Ex) (e':Env) (M1:Heap),(x=.normal∨x=.ret)→jH C K (oo P c hs).1 (args++List.replicate (fn.ntmps-(fn.params.size+fn.nfree)) (.tuple [])) M=some (x,e',M1)→(xB rs e' M1).map (λv=>(v,M1))=some (v,M') →
   c.wp P (bodyPost P fn λe w'=>∃bI v',e=.returned v'∧VR bI v v'∧Tr ι M w bI M' w') { tmps:=vs++Array.replicate (fn.ntmps-vs.size) undef,defers:=[] } w:=by
  intro x e' M1 hx hex hres
  obtain⟨u,hu,hres⟩:=aC.1 hres
  simp only[aI]at hres
  obtain⟨rfl,rfl⟩:=hres
  refine mG hC K c hs ι M _ _ w x e' M1 _ r he rfl hex λbI a' w' ht hv' hd=>?_
  obtain⟨v',q1,q2⟩:=Oe (P:=P) hrs ht.rel hv' hu
  have:a'.defers=[]∧∃v0,(results fn a'.tmps).run P w'=.ok v0 w'∧(∃bI v',Ending.returned v0=.returned v'∧VR bI u v'∧Tr ι M w bI M1 w'):=⟨hd,v',q1,bI,v',rfl,q2,ht⟩
  rcases hx with rfl | rfl<;>exact this
 split at h
 ·rename_i e' M1 hex
  exact fin .normal e' M1 (.inl rfl) hex h
 ·rename_i e' M1 hex
  exact fin .ret e' M1 (.inr rfl) hex h
 ·cases h
theorem HV{P:Program}{G:FuncId→Option (List AV→Heap→Option (AV×Heap))}{T:FuncId→Option dD}(hG:∀f g,G f=some g→(Et P f∧Sound P f g)∨Hq P f g)(hT:∀f af,T f=some af→∃h,bJ P f h=some af)(K:Nat):∀d,sj P (Bj G T K d)
 | 0=>λf=>.inl ⟨λargs M r h=>by simp[Bj]at h,λargs M v M' h=>by simp[Bj]at h⟩
 | d+1=>λf=>by
  have ih:=HV hG hT K d
  cases hg:G f with
  | some g =>
   have e:Bj G T K (d+1) f=g:=by funext a M;simp only[Bj,hg]
   rw[e]
   rcases hG f g hg with⟨q1,q2⟩ | q
   ·exact .inl ⟨λ_ _ _ _=>q1,q2⟩
   ·exact .inr q
  | none =>
   left
   constructor
   ·intro args M r h
    simp only[Bj,hg]at h
    split at h
    ·rename_i af haf
     obtain⟨hs,hc⟩:=hT f af haf
     exact Fq hc
    ·cases h
   ·intro args M v M' h
    simp only[Bj,hg]at h
    split at h
    ·rename_i af haf
     obtain⟨hs,hc⟩:=hT f af haf
     exact Jo ih K hc args M v M' h
    ·cases h
open Go.ChangeShapes Go.WideShapes Go.ChangeAt Go.RowKit
theorem Ea {H:Type} {enc:TypeId×Value→H} {P:Program} (hl:laidOutB P=true) {W W':World} (bel:Below W.heap.size W W') :
  ∀(ts:List TypeId) (vs:List Value) (ds:List (DataW H)) (p:List MemPlace),(ts.all λt=>P.readableRec t&&decide (t<P.types.size))=true →
   DataW.TrodAll enc P W 0 (λ_=>true) true ts vs ds p→DataW.TrodAll enc P W' 0 (λb=>decide (b<W.heap.size)) true ts vs ds p
 | [],[],[],p,_,h=>by simpa[DataW.TrodAll]using h
 | t::ts,v::vs,d::ds,p,ht,h=>by
  simp only[List.all_cons,Bool.and_eq_true,decide_eq_true_eq]at ht
  simp only[DataW.TrodAll]at h ⊢
  obtain⟨p1,p2,h1,h2,rfl⟩:=h
  refine⟨p1,p2, ?_,Ea hl bel ts vs ds p2 (by simpa using ht.2) h2,rfl⟩
  refine Below.trod hl ht.1.1 ht.1.2 h1 bel ?_
  obtain⟨n,hn⟩:=h1
  exact DataW.trod_lt n t _ _ hn
 | [],_::_,_,_,_,h=>by simp[DataW.TrodAll]at h
 | [],[],_::_,_,_,h=>by simp[DataW.TrodAll]at h
 | _::_,[],_,_,_,h=>by simp[DataW.TrodAll]at h
 | _::_,_::_,[],_,_,h=>by simp[DataW.TrodAll]at h
theorem Uo {H:Type} {enc:TypeId×Value→H} {P:Program} {f:Func} {s:ChangeSpec} {W W':World} {args:Array Value} {ds gs:List (DataW H)} {before:List MemPlace} {rt:TypeId}
  (hl:laidOutB P=true) (hps:(f.params.toList.all λt=>P.readableRec t&&decide (t<P.types.size))=true) (hvars:s.vars=[]) (hres:f.resultTypes=#[rt]) (hrt:P.underlying rt=some .bool)
  (hfn:s.fn H ds={ results:=[.lit (.bool true)],args:=ds })
  (hW:DataW.Whole enc P f.params.toList s.vars false W args.toList ds gs before) (bel:Below W.heap.size W W') :
  s.post enc P f false true false false W args (.bool true) W':=by
 have hW':=hW
 obtain⟨p,q,hA,hV,rfl,hfz,hnd⟩:=hW
 rw[hvars]at hV
 have hgs:gs=[]:=by
  cases gs with
  | nil=>rfl
  | cons _ _=>simp[DataW.TrodVars]at hV
 subst hgs
 unfold ChangeSpec.post
 refine⟨ds,[],_,[],p,[],hW', ?_, ?_, ?_,bel.frame _,λh=>by cases h⟩
 ·rw[List.append_nil,hfn,hres]
  exact trodAll_mk1 (shut_bool hrt _)
 ·rw[List.append_nil,hfn]
  exact Ea hl bel _ _ _ _ hps hA
 ·rw[List.append_nil,hfn,hvars]
  simp[DataW.TrodVars]
theorem Og{ι bI:fq}{M M':Heap}{w w':World}(ht:Tr ι M w bI M' w')(hro:∀b x,M.get b=some x→x.own=false):Below w.heap.size w w' :=
 ⟨ht.os,ht.tape,ht.output,ht.size,λk hk=>ht.keep k hk λb x l h1 h2=>by rw[hro b x h1]at h2;cases h2⟩
theorem R.empty(w:World):R (λ_=>none) Heap.empty w:=⟨λb x h=>by simp[Heap.empty]at h,λb b' x x' l l' h=>by simp[Heap.empty]at h,λb _=>⟨rfl,rfl⟩⟩
open Go.ChangeShapes Go.WideShapes Go.ChangeAt Go.RowKit
inductive D where
 | bool (b:Bool)
 | int (k:IntKind) (n:Int)
 | str (s:List UInt8)
 | list (l:List D)
 | agg (l:List D)
 | other
mutual
def xH{H:Type}:DataW H→D
 |.lit (.bool b)=>.bool b
 |.lit (.int k n)=>.int k n
 |.lit (.string s)=>.str s
 |.nil=>.list []
 |.slice es _=>.list (Gw es)
 |.agg es=>.agg (Gw es)
 | _=>.other
def Gw{H:Type}:List (DataW H)→List D
 | []=>[]
 | d::r=>xH d::Gw r
end
theorem AO{H:Type}:∀l:List (DataW H),Gw l=l.map xH
 | []=>rfl
 | d::r=>by simp[Gw,AO r]
mutual
def Rd(M:Heap):D→List AV→Prop
 |.bool b,cs=>cs=[.bool b]
 |.int k n,cs=>cs=[.int k n]
 |.str s,cs=>cs=[.str s]
 | .list l,cs=>(l=[]∧∃sz,cs=[.slice none sz 0 0 true]) ∨
   ∃b o sz cap,0<sz∧l.length≤cap∧cs=[.slice (some (b,o)) sz l.length cap true]∧(l≠[]→∃pieces,M.read b o (l.length*sz)=some pieces.flatten∧(∀p∈pieces,p.length=sz)∧Parts M l pieces)
 |.agg l,cs=>∃pieces,cs=pieces.flatten∧Parts M l pieces
 |.other,_=>False
def Parts(M:Heap):List D→List (List AV)→Prop
 | [],[]=>True
 | d::r,p::s=>Rd M d p∧Parts M r s
 | _,_=>False
end
mutual
theorem Rd.mono{M M':Heap}(h:M.Sub M'):∀(d:D) (cs:List AV),Rd M d cs→Rd M' d cs
 |.bool b,cs,e=>by simpa[Rd]using e
 |.int k n,cs,e=>by simpa[Rd]using e
 |.str s,cs,e=>by simpa[Rd]using e
 |.list l,cs,e=>by
  simp only[Rd]at e ⊢
  rcases e with e |⟨b,o,sz,cap,h1,h2,h3,h4⟩
  ·exact .inl e
  ·refine .inr ⟨b,o,sz,cap,h1,h2,h3,λhl=>?_⟩
   obtain⟨pieces,g1,g2,g3⟩:=h4 hl
   exact⟨pieces,Jk h g1,g2,Parts.mono h _ _ g3⟩
 |.agg l,cs,e=>by
  simp only[Rd]at e ⊢
  obtain⟨pieces,g1,g3⟩:=e
  exact⟨pieces,g1,Parts.mono h _ _ g3⟩
 |.other,cs,e=>by simp[Rd]at e
theorem Parts.mono{M M':Heap}(h:M.Sub M'):∀(l:List D) (ps:List (List AV)),Parts M l ps→Parts M' l ps
 | [],[],_=>by simp[Parts]
 | d::r,p::s,e=>by
  simp only[Parts]at e ⊢
  exact⟨Rd.mono h _ _ e.1,Parts.mono h _ _ e.2⟩
 | [],_::_,e=>by simp[Parts]at e
 | _::_,[],e=>by simp[Parts]at e
end
inductive Sh where
 | bool
 | int (k:IntKind)
 | str
 | list (e:Sh)
 | agg (l:List Sh)
mutual
def D.is:Sh→D→Prop
 |.bool,d=>∃b,d=.bool b
 |.int k,d=>∃n,d=.int k n∧k.min≤n∧n≤k.max
 |.str,d=>∃s,d=.str s
 |.list e,d=>∃l,d=.list l∧∀x∈l,D.is e x
 |.agg ss,d=>∃l,d=.agg l∧D.are ss l
def D.are:List Sh→List D→Prop
 | [],[]=>True
 | s::ss,d::l=>D.is s d∧D.are ss l
 | _,_=>False
end
def KC{α β:Type}(f:α→Option β):List α→Option (List β)
 | []=>some []
 | x::l=>match f x,KC f l with
  | some a,some r=>some (a::r)
  | _,_=>none
def Ew(P:Program):Nat→TypeId→Option Sh
 | 0,_=>none
 | k+1,t=>match P.underlying t with
  | some .bool=>some .bool
  | some (.int i)=>some (.int i)
  | some .string=>some .str
  | some (.slice e)=>if P.cellsOf e=0 then none else (Ew P k e).map .list
  | some (.struct fs)=>(KC (Ew P k) (fs.toList.map λf=>f.type)).map .agg
  | some (.array n e)=>(Ew P k e).map λs=>.agg (List.replicate n s)
  | _=>none
def Jp(P:Program)(k:Nat)(l:List TypeId):Option (List Sh):=KC (Ew P k) l
def qz(M:Heap):Prop:=∀b x,M.get b=some x→x.own=false
structure Grow(ι:fq)(M:Heap)(bI:fq)(M':Heap)(W:World):Prop where
 le:ι.Le bI
 sub:M.Sub M'
 next:M.next≤M'.next
 rel:R bI M' W
 ro:qz M'
theorem Heap.Sub.refl(M:Heap):M.Sub M:=λ_ _ h=>h
theorem Heap.Sub.trans{A B C:Heap}(h:A.Sub B)(k:B.Sub C):A.Sub C:=λ_ _ e=>k _ _ (h _ _ e)
theorem Grow.refl{ι:fq}{M:Heap}{W:World}(r:R ι M W)(ro:qz M):Grow ι M ι M W:=⟨.refl _,.refl _,Nat.le_refl _,r,ro⟩
theorem Grow.trans{ι kD uI:fq}{M M1 M2:Heap}{W:World}(h:Grow ι M kD M1 W)(k:Grow kD M1 uI M2 W):Grow ι M uI M2 W :=
 ⟨h.le.trans k.le,h.sub.trans k.sub,Nat.le_trans h.next k.next,k.rel,k.ro⟩
theorem Grow.see {ι:fq} {M:Heap} {W:World} (r:R ι M W) (ro:qz M) {c:List AV} {l:Loc} {o:Obj} (ho:W.heap[l.j]?=some o) (hb:BR ι (.cells c true true) l o) :
  Grow ι M (ι.set M.next l) (M.push (.cells c true true)) W:=by
 have hnone:=(r.fresh M.next (Nat.le_refl _)).2
 have hle:=fq.zl hnone l
 refine⟨hle,λb x h=>?_,Nat.le_succ _,⟨λb x h=>?_,λb b' x x' l1 l2 h1 h2 h3 h4 h5 h6=>?_,λb hb'=>?_⟩,λb x h=>?_⟩
 ·have:b≠M.next:=λe=>by rw[e,(r.fresh _ (Nat.le_refl _)).1]at h;cases h
  simp[Heap.push,this,h]
 ·simp only[Heap.push]at h
  split at h
  ·rename_i e
   obtain rfl:=ak h
   subst e
   exact⟨l,o,by simp[fq.set],ho,hb.mono hle⟩
  ·obtain⟨l1,o1,g1,g2,g3⟩:=r.blk b x h
   exact⟨l1,o1,hle _ _ g1,g2,g3.mono hle⟩
 ·exfalso
  have one:∀b x,(M.push (.cells c true true)).get b=some x→x.own=false:=λb x h=>by
   simp only[Heap.push]at h
   split at h
   ·obtain rfl:=ak h
    rfl
   ·exact ro b x h
  rcases h6 with h6 | h6
  ·rw[one b x h1]at h6;cases h6
  ·rw[one b' x' h2]at h6;cases h6
 ·simp only[Heap.push]at hb' ⊢
  have:b≠M.next:=by omega
  simp only[fq.set,this,if_false]
  exact r.fresh b (by omega)
 ·simp only[Heap.push]at h
  split at h
  ·obtain rfl:=ak h
   rfl
  ·exact ro b x h
theorem Grow.skip {ι:fq} {M:Heap} {W:World} (r:R ι M W) (ro:qz M) (l:Loc) :
  Grow ι M (ι.set M.next l) { M with next:=M.next+1 } W:=by
 have hnone:=(r.fresh M.next (Nat.le_refl _)).2
 have hle:=fq.zl hnone l
 refine⟨hle,λb x h=>h,Nat.le_succ _,⟨λb x h=>?_,λb b' x x' l1 l2 h1 h2 h3 h4 h5 h6=>?_,λb hb'=>?_⟩,ro⟩
 ·obtain⟨l1,o1,g1,g2,g3⟩:=r.blk b x h
  exact⟨l1,o1,hle _ _ g1,g2,g3.mono hle⟩
 ·exfalso
  rcases h6 with h6 | h6
  ·rw[ro b x h1]at h6;cases h6
  ·rw[ro b' x' h2]at h6;cases h6
 ·have:b≠M.next:=by simp only at hb';omega
  simp only[fq.set,this,if_false]
  exact r.fresh b (by simp only at hb';omega)
def Opens(W:World)(s:Sh)(cs:List Value)(d:D):Prop :=
 ∀ι M,R ι M W→qz M→∃bI M' PX,Grow ι M bI M' W∧dQ bI PX cs∧(∀a∈PX,a.eH=true)∧Rd M' d PX∧D.is s d
def lI(W:World):List Sh→List (List Value)→List D→Prop
 | [],[],[]=>True
 | s::ss,c::cs,d::ds=>Opens W s c d∧lI W ss cs ds
 | _,_,_=>False
theorem lI.open {W:World}:∀ {ss:List Sh} {css:List (List Value)} {ds:List D},lI W ss css ds→∀ι M,R ι M W→qz M →
  ∃bI M' pieces,Grow ι M bI M' W∧pieces.map List.length=css.map List.length∧dQ bI pieces.flatten css.flatten∧(∀p∈pieces,∀a∈p,a.eH=true)∧Parts M' ds pieces∧D.are ss ds
 | [],[],[],_,ι,M,r,ro=>⟨ι,M,[],.refl r ro,rfl,by simp[dQ],by simp,by simp[Parts],by simp[D.are]⟩
 | s::ss,c::css,d::ds,h,ι,M,r,ro=>by
  simp only[lI]at h
  obtain⟨kD,M1,PX,g1,v1,c1,r1,i1⟩:=h.1 ι M r ro
  obtain⟨uI,M2,ps,g2,l2,v2,c2,r2,i2⟩:=lI.open h.2 kD M1 g1.rel g1.ro
  refine⟨uI,M2,PX::ps,g1.trans g2, ?_, ?_, ?_, ?_, ?_⟩
  ·have:=v1.length
   simp[l2,this]
  ·simp only[List.flatten_cons]
   exact(v1.mono g2.le).append v2
  ·intro p hp
   rcases List.mem_cons.1 hp with rfl | hp
   ·exact c1
   ·exact c2 p hp
  ·simp only[Parts]
   exact⟨Rd.mono g2.sub _ _ r1,r2⟩
  ·simp only[D.are]
   exact⟨i1,i2⟩
 | [],[],_::_,h,_,_,_,_=>by simp[lI]at h
 | [],_::_,_,h,_,_,_,_=>by simp[lI]at h
 | _::_,[],_,h,_,_,_,_=>by simp[lI]at h
 | _::_,_::_,[],h,_,_,_,_=>by simp[lI]at h
theorem D.Eb{s:Sh}:∀ {n:Nat} {l:List D},D.are (List.replicate n s) l→l.length=n∧∀x∈l,D.is s x
 | 0,[],_=>by simp
 | 0,_::_,h=>by simp[D.are]at h
 | n+1,[],h=>by simp[List.replicate_succ,D.are]at h
 | n+1,d::l,h=>by
  simp only[List.replicate_succ,D.are]at h
  obtain⟨h1,h2⟩:=D.Eb h.2
  refine⟨by simp[h1],λx hx=>?_⟩
  rcases List.mem_cons.1 hx with rfl | hx
  ·exact h.1
  ·exact h2 x hx
open Go.ChangeShapes Go.WideShapes Go.ChangeAt Go.RowKit
def chunks{α:Type}:List Nat→List α→List (List α)
 | [],_=>[]
 | n::ns,l=>l.take n::chunks ns (l.drop n)
theorem uV{α:Type}:∀(ns:List Nat) (l:List α),(chunks ns l).length=ns.length
 | [],_=>rfl
 | n::ns,l=>by simp[chunks,uV ns]
theorem chunks_flatten{α:Type}:∀(ns:List Nat) (l:List α),(chunks ns l).flatten=l.take ns.sum
 | [],l=>by simp[chunks]
 | n::ns,l=>by
  rw[chunks,List.flatten_cons,chunks_flatten ns,List.sum_cons,List.take_add]
theorem AP{α:Type}:∀(ns:List Nat) (l:List α) (j n:Nat),ns[j]?=some n→(chunks ns l)[j]?=some ((l.drop (ns.take j).sum).take n)
 | [],_,_,_,h=>by simp at h
 | m::ns,l,0,n,h=>by
  simp at h
  subst h
  simp[chunks]
 | m::ns,l,j+1,n,h=>by
  simp only[List.getElem?_cons_succ]at h
  simp only[chunks,List.getElem?_cons_succ]
  rw[AP ns _ j n h]
  simp[List.drop_drop]
theorem lI.r_ {W:World}:∀ {ss:List Sh} {css:List (List Value)} {ds:List D},ss.length=ds.length→css.length=ds.length →
  (∀(i:Nat) s c d,ss[i]?=some s→css[i]?=some c→ds[i]?=some d→Opens W s c d)→lI W ss css ds
 | [],[],[],_,_,_=>by simp[lI]
 | s::ss,c::css,d::ds,h1,h2,h=>by
  simp only[lI]
  exact⟨h 0 s c d (by simp) (by simp) (by simp),lI.r_ (by simpa using h1) (by simpa using h2) λi s c d a1 a2 a3=>h (i+1) s c d (by simpa using a1) (by simpa using a2) (by simpa using a3)⟩
 | [],_,_::_,h1,_,_=>by simp at h1
 | _::_,_,[],h1,_,_=>by simp at h1
 | _,[],_::_,_,h2,_=>by simp at h2
 | _,_::_,[],_,h2,_=>by simp at h2
theorem La{P:Program}{k:Nat}:∀ {ts:List TypeId} {ss:List Sh},Jp P k ts=some ss→ss.length=ts.length∧∀(i:Nat) t,ts[i]?=some t→∃s,ss[i]?=some s∧Ew P k t=some s
 | [],ss,h=>by
  simp[Jp,KC]at h
  subst h
  simp
 | t::ts,ss,h=>by
  simp only[Jp,KC]at h
  split at h
  case h_2=>cases h
  rename_i s r h1 h2
  obtain rfl:=ak h
  obtain⟨e1,e2⟩:=La h2
  refine⟨by simp[e1],λi u hu=>?_⟩
  cases i with
  | zero =>
   simp at hu
   subst hu
   exact⟨s,by simp,h1⟩
  | succ i=>simpa using e2 i u (by simpa using hu)
theorem Sj{W:World}{a:Addr}{v:Value}(h:W.cell? a=some v):∃c e fz,W.heap[a.block]?=some (.cells c e fz)∧a.spot=none∧c[a.off]?=some v:=by
 unfold World.cell? at h
 split at h
 ·rename_i c e fz hc
  split at h
  ·cases h
  ·rename_i hs
   refine⟨c,e,fz,hc, ?_,h⟩
   cases hsp:a.spot with
   | none=>rfl
   | some _=>simp[hsp]at hs
 ·cases h
open Go.ChangeShapes Go.WideShapes Go.ChangeAt Go.RowKit
def Rf(M:Heap)(a:AV):D→Prop
 |.agg l=>∃cs,a=.agg cs∧Rd M (.agg l) cs
 | d=>Rd M d [a]
theorem Rf.mono{M M':Heap}(h:M.Sub M'){a:AV}{d:D}(r:Rf M a d):Rf M' a d:=by
 cases d with
 | agg l =>
  obtain⟨cs,h1,h2⟩:=r
  exact⟨cs,h1,h2.mono h⟩
 | _=>exact Rd.mono h _ _ r
def Args(M:Heap):List AV→List D→Prop
 | [],[]=>True
 | a::as,d::ds=>Rf M a d∧Args M as ds
 | _,_=>False
theorem Args.mono{M M':Heap}(h:M.Sub M'):∀ {as:List AV} {ds:List D},Args M as ds→Args M' as ds
 | [],[],_=>by simp[Args]
 | _::_,_::_,e=>by
  simp only[Args]at e ⊢
  exact⟨e.1.mono h,e.2.mono h⟩
 | [],_::_,e=>by simp[Args]at e
 | _::_,[],e=>by simp[Args]at e
mutual
def D.bulk:D→Nat
 |.str s=>s.length+1
 |.list l=>D.wu l+1
 |.agg l=>D.wu l+1
 |.other=>0
 | _=>1
def D.wu:List D→Nat
 | []=>0
 | d::r=>D.bulk d+D.wu r
end
def Heap.Wf(M:Heap):Prop:=∀b,M.next≤b→M.get b=none
abbrev Fast:=List (Nat×AV)
def look:Fast→Nat→AV
 | [],_=>.undef
 | p::r,t=>match Nat.beq p.1 t with
  | true=>p.2
  | false=>look r t
def AX.sub(ρ:Nat→AV):AX→AX
 |.t n=>.c (ρ n)
 |.c v=>.c v
def AX.gZ(ρ:Nat→AV)(x:Option AX):Option AX:=x.map (AX.sub ρ)
def jZ.sub(ρ:Nat→AV):jZ→jZ
 |.move x=>.move (x.sub ρ)
 |.pick c a b=>.pick (c.sub ρ) (a.sub ρ) (b.sub ρ)
 |.build z ps=>.build z (ps.map λp=>(p.1,p.2.1,p.2.2.sub ρ))
 |.nilCheck x=>.nilCheck (x.sub ρ)
 |.bin op x y=>.bin op (x.sub ρ) (y.sub ρ)
 |.TJ n x y=>.TJ n (x.sub ρ) (y.sub ρ)
 |.TK n ks x y=>.TK n ks (x.sub ρ) (y.sub ρ)
 |.TL n x y=>.TL n (x.sub ρ) (y.sub ρ)
 |.R4 n x y=>.R4 n (x.sub ρ) (y.sub ρ)
 |.un op x=>.un op (x.sub ρ)
 |.Bg k x=>.Bg k (x.sub ρ)
 |.BS x=>.BS (x.sub ρ)
 |.vP f cs=>.vP f (cs.map (AX.sub ρ))
 |.lD x a b=>.lD (x.sub ρ) (AX.gZ ρ a) (AX.gZ ρ b)
 |.slice s x a b c=>.slice s (x.sub ρ) (AX.gZ ρ a) (AX.gZ ρ b) (AX.gZ ρ c)
 |.fieldAddr o x=>.fieldAddr o (x.sub ρ)
 |.field g o n x=>.field g o n (x.sub ρ)
 |.l5 n s x i=>.l5 n s (x.sub ρ) (i.sub ρ)
 |.jE s x i=>.jE s (x.sub ρ) (i.sub ρ)
 |.index g n s x i=>.index g n s (x.sub ρ) (i.sub ρ)
 |.n_ x i=>.n_ (x.sub ρ) (i.sub ρ)
 |.extract x i=>.extract (x.sub ρ) i
 |.len s x=>.len s (x.sub ρ)
 |.cap x=>.cap (x.sub ρ)
 |.rZ m xs=>.rZ m (xs.map (AX.sub ρ))
def rY.sub(ρ:Nat→AV):rY→rY
 |.load g n x=>.load g n (x.sub ρ)
 |.jF x=>.jF (x.sub ρ)
 |.qV x=>.qV (x.sub ρ)
 |.lookup kd ok z x k=>.lookup kd ok z (x.sub ρ) (k.sub ρ)
def Bh.sub(ρ:Nat→AV):Bh→Bh
 |.alloc z=>.alloc z
 |.box x=>.box (x.sub ρ)
 |.buildSlice s l z ps=>.buildSlice s l z (ps.map λp=>(p.1,p.2.sub ρ))
 |.makeSlice s b z l c=>.makeSlice s b z (l.sub ρ) (c.sub ρ)
 |.l6 x=>.l6 (x.sub ρ)
 |.makeMap=>.makeMap
def vO.sub(ρ:Nat→AV):vO→vO
 |.store n a v=>.store n (a.sub ρ) (v.sub ρ)
 |.call f xs=>.call (f.sub ρ) (xs.map (AX.sub ρ))
 |.append s b x y=>.append s b (x.sub ρ) (y.sub ρ)
 |.r9 s b z x y=>.r9 s b z (x.sub ρ) (y.sub ρ)
 |.copy s x y=>.copy s (x.sub ρ) (y.sub ρ)
 |.clear s z x=>.clear s z (x.sub ρ)
 |.mapUpdate kd m k v=>.mapUpdate kd (m.sub ρ) (k.sub ρ) (v.sub ρ)
 |.lg kd m k=>.lg kd (m.sub ρ) (k.sub ρ)
 |.qO x=>.qO (x.sub ρ)
 |.fail=>.fail
def uT.sub(ρ:Nat→AV):uT→uT
 |.p o=>.p (o.sub ρ)
 |.l o=>.l (o.sub ρ)
 |.k o=>.k (o.sub ρ)
 |.n o=>.n (o.sub ρ)
section
variable {ρ:Nat→AV} {e:Env} (h:∀t,ρ t=e.getD t .undef)
include h
theorem vR(x:AX):(x.sub ρ).ev []=x.ev e:=by
 cases x with
 | t n=>exact h n
 | c v=>rfl
theorem MI(l:List AX):(l.map (AX.sub ρ)).map (AX.ev [])=l.map (AX.ev e):=by
 rw[List.map_map]
 exact List.map_congr_left λx _=>vR h x
theorem Jq(x:Option AX)(a b:Nat):bT [] (AX.gZ ρ x) a b=bT e x a b:=by
 cases x with
 | none=>rfl
 | some x=>simp only[AX.gZ,aW,bT,vR h]
theorem Uq(o:jZ):aP (o.sub ρ) []=aP o e:=by
 cases o with
 | build z ps =>
  simp only[jZ.sub,aP,List.map_map]
  congr 2
  exact List.map_congr_left λp _=>by simp only[Function.comp,vR h]
 | vP f cs=>simp only[jZ.sub,aP,MI h]
 | rZ m xs=>simp only[jZ.sub,aP,MI h]
 | lD x a b=>simp only[jZ.sub,aP,vR h,xu,Jq h]
 | slice s x a b c =>
  simp only[jZ.sub,aP,vR h]
  split
  ·simp only[iG,Jq h]
   cases c with
   | none=>rfl
   | some c=>cases b with
    | none=>rfl
    | some b=>rfl
  ·rfl
 | _=>simp only[jZ.sub,aP,vR h]
theorem Rh(o:rY)(M:Heap):aL (o.sub ρ) [] M=aL o e M:=by
 cases o<;>simp only[rY.sub,aL,vR h]
theorem Ur(o:Bh):aK (o.sub ρ) []=aK o e:=by
 cases o with
 | buildSlice s l z ps =>
  simp only[Bh.sub,aK,List.map_map]
  congr 2
  exact List.map_congr_left λp _=>by simp only[Function.comp,vR h]
 | _=>simp only[Bh.sub,aK,vR h]
theorem Us(C:bH)(o:vO)(M:Heap):aN C (o.sub ρ) [] M=aN C o e M:=by
 cases o with
 | call f xs=>simp only[vO.sub,aN,vR h,MI h]
 | _=>simp only[vO.sub,aN,vR h]
theorem Xp(C:bH)(o:uT)(M:Heap):Er C (o.sub ρ) [] M=Er C o e M:=by
 cases o with
 | p o=>simp only[uT.sub,Er,Uq h]
 | l o=>simp only[uT.sub,Er,Rh h]
 | k o=>simp only[uT.sub,Er,Ur h]
 | n o=>simp only[uT.sub,Er,Us h]
end
def bH.Le(C C':bH):Prop:=∀f a M r,C f a M=some r→C' f a M=some r
theorem ZC{C C':bH}(h:C.Le C'){o:vO}{e:Env}{M:Heap}{r:AV×Heap}(hr:aN C o e M=some r):aN C' o e M=some r:=by
 cases o with
 | call f xs =>
  simp only[aN,NK]at hr ⊢
  split at hr
  ·exact h _ _ _ _ hr
  ·cases hr
 | _=>exact hr
theorem aaq{C C':bH}(h:C.Le C'){o:uT}{e:Env}{M:Heap}{r:AV×Heap}(hr:Er C o e M=some r):Er C' o e M=some r:=by
 cases o with
 | n o=>exact ZC h hr
 | _=>exact hr
def AV.force{β:Type}(v:AV)(k:AV→β):β :=
 match v with
 |.int kd (.ofNat m)=>match m with
  | 0=>k (.int kd (.ofNat 0))
  | m+1=>k (.int kd (.ofNat (m+1)))
 |.bool true=>k (.bool true)
 |.bool false=>k (.bool false)
 | v=>k v
theorem force_eq{β:Type}(v:AV)(k:AV→β):v.force k=k v:=by
 unfold AV.force
 split
 ·split<;>rfl
 ·rfl
 ·rfl
 ·rfl
def j5(n:Nat)(d:Option Nat)(v:AV)(l:Fast):Fast :=
 match d with
 | some d=>match Nat.blt d n with
  | true=>(d,v)::l
  | false=>l
 | none=>l
def gV(g:Option (Nat×Bool))(l:Fast):Option Bool :=
 match g with
 | none=>some true
 | some (t,want)=>match look l t with
  |.bool b=>some (b==want)
  |.tuple _=>some false
  | _=>none
def Fu(C:bH)(n:Nat):List pX→Fast→Heap→Option (Fast×Heap)
 | [],l,M=>some (l,M)
 | o::r,l,M=>match gV o.guard l with
  | some true=>match Er C (o.op.sub (look l)) [] M with
   | some p=>p.1.force λv=>Fu C n r (j5 n o.dst v l) p.2
   | none=>none
  | some false=>Fu C n r (j5 n o.dst (.tuple []) l) M
  | none=>none
def uq(C:bH)(n base nk:Nat):List d9→Fast→Heap→List Heap→Option (Fast×Heap)
 | [],l,M,_=>some (l,M)
 | d::r,l,M,hist=>match gV d.o.guard l with
  | some true=>match d.o.op with
   |.p o=>match aP (o.sub (look l)) []with
    | some v=>v.force λv=>uq C n base nk r (j5 n d.o.dst v l) M hist
    | none=>none
   |.l o=>match aL (o.sub (look l)) [] (M.hide base nk)with
    | some v=>if (hist.drop d.lo).all (λH=>match aL (o.sub (look l)) [] (H.hide base nk)with | some u=>AV.same u v | none=>false)then v.force λv=>uq C n base nk r (j5 n d.o.dst v l) M hist else none
    | none=>none
   |.k o=>match aK (o.sub (look l)) []with
    | some p=>uq C n base nk r (j5 n d.o.dst (p.2.val (base+d.ix)) l) (M.put (base+d.ix) (some p.1)) hist
    | none=>none
   |.n o=>match aN C (o.sub (look l)) [] M with
    | some p=>p.1.force λv=>uq C n base nk r (j5 n d.o.dst v l) p.2 (hist++[M])
    | none=>none
  | some false=>uq C n base nk r (j5 n d.o.dst (.tuple []) l) M (match d.o.op with |.n _=>hist++[M] | _=>hist)
  | none=>none
def yQ(l:Fast):List Nat→Fast
 | []=>[]
 | t::r=>(t,look l t)::yQ l r
abbrev Io:=Option (Ex×Fast×Heap)
def jW(body:Fast→Heap→Io)(keep:List Nat):Nat→Fast→Heap→Io
 | 0,_,_=>none
 | k+1,l,M=>match body (yQ l keep) M with
  | some (.normal,l',M')=>jW body keep k l' M'
  | r=>r
def bM(C:bH)(K n:Nat):dI→Fast→Heap→Io
 |.skip,l,M=>some (.normal,l,M)
 |.reg ops,l,M=>(Fu C n ops l M).map λp=>(.normal,p)
 |.Ii nk ops,l,M=>(uq C n M.next nk ops l { M with next:=M.next+nk } []).map λp=>(.normal,p)
 |.seq a b,l,M=>match bM C K n a l M with
  | some (.normal,l',M')=>bM C K n b l' M'
  | r=>r
 |.cond c a b,l,M=>match (c.sub (look l)).ev []with
  |.bool true=>bM C K n a l M
  |.bool false=>bM C K n b l M
  | _=>none
 |.block id c,l,M=>match bM C K n c l M with
  | some (.exit i,l',M')=>if i=id then some (.normal,l',M')else some (.exit i,l',M')
  | r=>r
 |.loop keep c,l,M=>jW (bM C K n c) keep K l M
 |.exit id,l,M=>some (.exit id,l,M)
 |.ret,l,M=>some (.ret,l,M)
 |.fail,_,_=>none
def Dy(r:zR)(l:Fast)(M:Heap):Option AV :=
 match r with
 |.tmp t=>match look l t with
  |.undef=>none
  | v=>some v
 |.cell t agg n=>yI agg n (look l t) M
def xI:List zR→Fast→Heap→Option (List AV)
 | [],_,_=>some []
 | r::rs,l,M=>(Dy r l M).bind λv=>(xI rs l M).map (v::·)
def jI(rs:List zR)(l:Fast)(M:Heap):Option AV :=
 (xI rs l M).map λvs=>match vs with
  | [v]=>v
  | vs=>.tuple vs
def start:Nat→List AV→Fast
 | _,[]=>[]
 | i,v::r=>(i,v)::start (i+1) r
def bbody(C:bH)(K:Nat)(f:dD)(args:List AV)(M:Heap):Option (AV×Heap) :=
 if args.length=f.nargs∧f.nargs≤f.ntmps then
  match bM C K f.ntmps f.code (start 0 (args++List.replicate (f.ntmps-f.nargs) (.tuple []))) M with
  | some (.normal,l,M')=>(jI f.results l M').map λv=>(v,M')
  | some (.ret,l,M')=>(jI f.results l M').map λv=>(v,M')
  | _=>none
 else none
abbrev MJ:=FuncId→Option (List AV→Heap→Option (AV×Heap))
def mE(G:MJ)(T:FuncId→Option dD)(K:Nat):Nat→bH
 | 0,_,_,_=>none
 | d+1,f,args,M=>match G f with
  | some g=>g args M
  | none=>match T f with
   | some af=>bbody (mE G T K d) K af args M
   | none=>none
structure Same(n:Nat)(l:Fast)(e:Env):Prop where
 len:e.length=n
 get:∀t,look l t=e.getD t .undef
theorem Same.put{n:Nat}{l:Fast}{e:Env}(s:Same n l e)(d:Option Nat)(v:AV):Same n (j5 n d v l) (BD d v e):=by
 cases d with
 | none=>exact s
 | some d =>
  simp only[j5,BD]
  cases hb:Nat.blt d n with
  | false =>
   have hd:e.length≤d:=by
    rw[s.len]
    refine Nat.le_of_not_lt λhlt=>?_
    have:Nat.blt d n=true:=by simpa[Nat.blt_eq]using hlt
    rw[hb]at this
    cases this
   rw[List.set_eq_of_length_le hd]
   exact s
  | true =>
   have hd:d<n:=by simpa[Nat.blt_eq]using hb
   refine⟨by simp[s.len],λt=>?_⟩
   simp only[look]
   rw[List.getD_eq_getElem?_getD,List.getElem?_set]
   by_cases h:d=t
   ·subst h
    simp[s.len,hd]
   ·have:Nat.beq d t=false:=by
     cases hh:Nat.beq d t with
     | false=>rfl
     | true=>exact absurd (bg hh) h
    simp only[this,if_neg h]
    rw[s.get t,List.getD_eq_getElem?_getD]
theorem Same.wanted{n:Nat}{l:Fast}{e:Env}(s:Same n l e)(g:Option (Nat×Bool)):gV g l=o9 g e:=by
 cases g with
 | none=>rfl
 | some g =>
  obtain⟨t,want⟩:=g
  simp only[gV,o9,s.get]
  generalize e.getD t .undef=x
  cases x<;>rfl
theorem MK{C C':bH}(hC:C.Le C'){n:Nat}:∀(ops:List pX) (l:Fast) (e:Env) (M:Heap) (l':Fast) (M':Heap),Same n l e→Fu C n ops l M=some (l',M')→∃e',Gl C' ops e M=some (e',M')∧Same n l' e'
 | [],l,e,M,l',M',s,h=>by
  simp only[Fu,av,aI]at h
  obtain⟨rfl,rfl⟩:=h
  exact⟨e,rfl,s⟩
 | o::r,l,e,M,l',M',s,h=>by
  simp only[Fu]at h
  rw[s.wanted]at h
  simp only[Gl]
  split at h
  ·rename_i hw
   rw[hw]
   rw[Xp s.get]at h
   split at h
   ·rename_i p hp
    rw[force_eq]at h
    simp only[aaq hC hp,au]
    exact MK hC r _ _ _ _ _ (s.put _ _) h
   ·cases h
  ·rename_i hw
   rw[hw]
   exact MK hC r _ _ _ _ _ (s.put _ _) h
  ·cases h
theorem zW{C C':bH}(hC:C.Le C'){n base nk:Nat}:∀(ops:List d9) (l:Fast) (e:Env) (M:Heap) (hist:List Heap) (l':Fast) (M':Heap),Same n l e→uq C n base nk ops l M hist=some (l',M')→∃e',zT C' base nk ops e M hist=some (e',M')∧Same n l' e'
 | [],l,e,M,hist,l',M',s,h=>by
  simp only[uq,av,aI]at h
  obtain⟨rfl,rfl⟩:=h
  exact⟨e,rfl,s⟩
 | d::r,l,e,M,hist,l',M',s,h=>by
  simp only[uq]at h
  rw[s.wanted]at h
  simp only[zT]
  split at h
  ·rename_i hw
   rw[hw]
   simp only
   split at h
   ·rename_i o ho
    rw[Uq s.get]at h
    split at h
    ·rename_i v hv
     rw[force_eq]at h
     simp only[ho,hv,au]
     exact zW hC r _ _ _ _ _ _ (s.put _ _) h
    ·cases h
   ·rename_i o ho
    simp only[Rh s.get]at h
    split at h
    ·rename_i v hv
     simp only[ho,hv,au]
     split at h
     ·rename_i hall
      rw[force_eq]at h
      split
      ·exact zW hC r _ _ _ _ _ _ (s.put _ _) h
      ·rename_i hn
       exact absurd hall hn
     ·cases h
    ·cases h
   ·rename_i o ho
    rw[Ur s.get]at h
    split at h
    ·rename_i p hp
     simp only[ho,hp,au]
     exact zW hC r _ _ _ _ _ _ (s.put _ _) h
    ·cases h
   ·rename_i o ho
    rw[Us s.get]at h
    split at h
    ·rename_i p hp
     rw[force_eq]at h
     simp only[ho,ZC hC hp,au]
     exact zW hC r _ _ _ _ _ _ (s.put _ _) h
    ·cases h
  ·rename_i hw
   rw[hw]
   exact zW hC r _ _ _ _ _ _ (s.put _ _) h
  ·cases h
theorem Lb(l:Fast)(t:Nat):∀keep:List Nat,look (yQ l keep) t=if keep.contains t then look l t else .undef
 | []=>by simp[yQ,look]
 | u::r=>by
  simp only[yQ,look,List.contains_cons]
  cases hb:Nat.beq u t with
  | true =>
   obtain rfl:=bg hb
   simp
  | false =>
   have:(t==u)=false:=by
    cases h:t==u with
    | false=>rfl
    | true =>
     rw[beq_iff_eq]at h
     subst h
     rw[Nat.beq_refl]at hb
     cases hb
   simp only[this,Bool.false_or]
   exact Lb l t r
theorem Ec(keep:List Nat):∀(e:Env) (i t:Nat),(jG keep i e).getD t .undef=if keep.contains (i+t)then e.getD t .undef else .undef
 | [],i,t=>by simp[jG]
 | v::r,i,0=>by simp[jG]
 | v::r,i,t+1=>by
  have:=Ec keep r (i+1) t
  simp only[jG,List.getD_cons_succ]
  rw[this,show i+1+t=i+(t+1)from by omega]
theorem Bl(keep:List Nat):∀(e:Env) (i:Nat),(jG keep i e).length=e.length
 | [],i=>rfl
 | v::r,i=>by simp[jG,Bl keep r]
theorem Same.keep{n:Nat}{l:Fast}{e:Env}(s:Same n l e)(keep:List Nat):Same n (yQ l keep) (jG keep 0 e) :=
 ⟨by rw[Bl,s.len],λt=>by rw[Lb,Ec,Nat.zero_add,s.get]⟩
theorem Oh {n:Nat} {b:Fast→Heap→Io} {a:Env→Heap→Xb} (h:∀l e M x l' M',Same n l e→b l M=some (x,l',M')→∃e',a e M=some (x,e',M')∧Same n l' e') (keep:List Nat) :
  ∀(k:Nat) (l:Fast) (e:Env) (M:Heap) (x:Ex) (l':Fast) (M':Heap),Same n l e→jW b keep k l M=some (x,l',M')→∃e',Ja a keep k e M=some (x,e',M')∧Same n l' e'
 | 0,_,_,_,_,_,_,_,hb=>by simp[jW]at hb
 | k+1,l,e,M,x,l',M',s,hb=>by
  simp only[jW]at hb
  simp only[Ja]
  split at hb
  ·rename_i l1 M1 h1
   obtain⟨e1,g1,g2⟩:=h _ _ _ _ _ _ (s.keep keep) h1
   rw[g1]
   exact Oh h keep k _ _ _ _ _ _ g2 hb
  ·rename_i hne
   obtain⟨e1,g1,g2⟩:=h _ _ _ _ _ _ (s.keep keep) hb
   rw[g1]
   refine⟨e1, ?_,g2⟩
   cases x with
   | normal=>exact absurd hb (hne _ _)
   | _=>rfl
theorem qA{C C':bH}(hC:C.Le C'){K n:Nat}:∀(c:dI) (l:Fast) (e:Env) (M:Heap) (x:Ex) (l':Fast) (M':Heap),Same n l e→bM C K n c l M=some (x,l',M')→∃e',jH C' K c e M=some (x,e',M')∧Same n l' e'
 |.skip,l,e,M,x,l',M',s,h=>by
  simp only[bM,av,aI]at h
  obtain⟨rfl,rfl,rfl⟩:=h
  exact⟨e,rfl,s⟩
 |.reg ops,l,e,M,x,l',M',s,h=>by
  simp only[bM]at h
  obtain⟨p,hp,h2⟩:=aC.1 h
  simp only[aI]at h2
  obtain⟨rfl,h3⟩:=h2
  subst h3
  obtain⟨e',g1,g2⟩:=MK hC ops _ _ _ _ _ s hp
  exact⟨e',by simp only[jH,g1,aW],g2⟩
 |.Ii nk ops,l,e,M,x,l',M',s,h=>by
  simp only[bM]at h
  obtain⟨p,hp,h2⟩:=aC.1 h
  simp only[aI]at h2
  obtain⟨rfl,h3⟩:=h2
  subst h3
  obtain⟨e',g1,g2⟩:=zW hC ops _ _ _ _ _ _ s hp
  exact⟨e',by simp only[jH,g1,aW],g2⟩
 |.seq a b,l,e,M,x,l',M',s,h=>by
  simp only[bM]at h
  simp only[jH]
  split at h
  ·rename_i l1 M1 h1
   obtain⟨e1,g1,g2⟩:=qA hC a _ _ _ _ _ _ s h1
   rw[g1]
   exact qA hC b _ _ _ _ _ _ g2 h
  ·rename_i hne
   obtain⟨e1,g1,g2⟩:=qA hC a _ _ _ _ _ _ s h
   rw[g1]
   refine⟨e1, ?_,g2⟩
   cases x with
   | normal=>exact absurd h (hne _ _)
   | _=>rfl
 |.cond c a b,l,e,M,x,l',M',s,h=>by
  simp only[bM]at h
  rw[vR s.get]at h
  simp only[jH]
  split at h
  ·rename_i hc
   rw[hc]
   exact qA hC a _ _ _ _ _ _ s h
  ·rename_i hc
   rw[hc]
   exact qA hC b _ _ _ _ _ _ s h
  ·cases h
 |.block id c,l,e,M,x,l',M',s,h=>by
  simp only[bM]at h
  simp only[jH]
  split at h
  ·rename_i i l1 M1 h1
   obtain⟨e1,g1,g2⟩:=qA hC c _ _ _ _ _ _ s h1
   rw[g1]
   simp only
   split at h
   ·rename_i hi
    rw[if_pos hi]
    simp only[av,aI]at h
    obtain⟨rfl,rfl,rfl⟩:=h
    exact⟨e1,rfl,g2⟩
   ·rename_i hi
    rw[if_neg hi]
    simp only[av,aI]at h
    obtain⟨rfl,rfl,rfl⟩:=h
    exact⟨e1,rfl,g2⟩
  ·rename_i hne
   obtain⟨e1,g1,g2⟩:=qA hC c _ _ _ _ _ _ s h
   rw[g1]
   refine⟨e1, ?_,g2⟩
   cases x with
   | exit i=>exact absurd h (hne _ _ _)
   | _=>rfl
 |.loop keep c,l,e,M,x,l',M',s,h=>by
  simp only[bM]at h
  simp only[jH]
  exact Oh (λl e M x l' M' s h=>qA hC c l e M x l' M' s h) keep K _ _ _ _ _ _ s h
 |.exit id,l,e,M,x,l',M',s,h=>by
  simp only[bM,av,aI]at h
  obtain⟨rfl,rfl,rfl⟩:=h
  exact⟨e,rfl,s⟩
 |.ret,l,e,M,x,l',M',s,h=>by
  simp only[bM,av,aI]at h
  obtain⟨rfl,rfl,rfl⟩:=h
  exact⟨e,rfl,s⟩
 |.fail,_,_,_,_,_,_,_,h=>by simp[bM]at h
theorem Oi{n:Nat}{l:Fast}{e:Env}(s:Same n l e)(M:Heap):∀rs:List zR,xI rs l M=Jb rs e M
 | []=>rfl
 | r::rs=>by
  have h1:Dy r l M=PD r e M:=by
   cases r with
   | tmp t =>
    simp only[Dy,PD,s.get]
    generalize e.getD t .undef=x
    cases x<;>rfl
   | cell t g n=>simp only[Dy,PD,s.get]
  simp only[xI,Jb,h1,Oi s M rs]
theorem HY{n:Nat}{l:Fast}{e:Env}(s:Same n l e)(M:Heap)(rs:List zR):jI rs l M=xB rs e M:=by
 unfold jI xB
 rw[Oi s]
 congr 1
theorem Jr:∀(l:List AV) (i t:Nat),look (start i l) t=if i≤t then l.getD (t-i) .undef else .undef
 | [],i,t=>by simp[start,look]
 | v::r,i,t=>by
  simp only[start,look]
  cases hb:Nat.beq i t with
  | true =>
   obtain rfl:=bg hb
   simp
  | false =>
   have hne:i≠t:=λe=>by subst e;rw[Nat.beq_refl]at hb;cases hb
   simp only
   rw[Jr r (i+1) t]
   by_cases h:i≤t
   ·rw[if_pos h,if_pos (by omega),show t-i=(t-(i+1))+1 from by omega,List.getD_cons_succ]
   ·rw[if_neg h,if_neg (by omega)]
theorem Ut{C C':bH}(hC:C.Le C'){K:Nat}{f:dD}{args:List AV}{M:Heap}{r:AV×Heap}(h:bbody C K f args M=some r):abody C' K f args M=some r:=by
 unfold bbody at h
 unfold abody
 split at h
 case isFalse=>cases h
 rename_i hcond
 rw[if_pos hcond]
 have s:Same f.ntmps (start 0 (args++List.replicate (f.ntmps-f.nargs) (.tuple []))) (args++List.replicate (f.ntmps-f.nargs) (.tuple [])) :=
  ⟨by simp;omega,λt=>by rw[Jr];simp⟩
 split at h
 ·rename_i l M1 h1
  obtain⟨e1,g1,g2⟩:=qA hC f.code _ _ _ _ _ _ s h1
  rw[g1]
  rw[HY g2]at h
  exact h
 ·rename_i l M1 h1
  obtain⟨e1,g1,g2⟩:=qA hC f.code _ _ _ _ _ _ s h1
  rw[g1]
  rw[HY g2]at h
  exact h
 ·cases h
theorem Oj{G:MJ}{T:FuncId→Option dD}{K:Nat}:∀d,(mE G T K d).Le (Bj G T K d)
 | 0=>λf a M r h=>by simp[mE]at h
 | d+1=>λf a M r h=>by
  simp only[mE]at h
  simp only[Bj]
  split at h
  ·rename_i g hg
   rw[hg]
   exact h
  ·rename_i hg
   rw[hg]
   split at h
   ·rename_i af haf
    rw[haf]
    exact Ut (Oj d) h
   ·cases h
theorem o_(u t:Nat)(v:AV)(r:Fast):look ((u,v)::r) t=if u=t then v else look r t:=by
 simp only[look]
 cases hb:Nat.beq u t with
 | true=>rw[if_pos (bg hb)]
 | false=>rw[if_neg (λh=>by subst h;rw[Nat.beq_refl]at hb;cases hb)]
theorem pq{n d:Nat}(v:AV)(l:Fast)(h:d<n):j5 n (some d) v l=(d,v)::l:=by
 have:Nat.blt d n=true:=by simpa[Nat.blt_eq]using h
 simp[j5,this]
theorem Sk(n:Nat)(v:AV)(l:Fast):j5 n none v l=l:=rfl
theorem sw(C:bH)(n:Nat)(l:Fast)(M:Heap):Fu C n [] l M=some (l,M):=rfl
theorem pz (C:bH) (n:Nat) (dst:Option Nat) (op:uT) (r:List pX) (l:Fast) (M:Heap) :
  Fu C n ({ dst:=dst,op:=op,guard:=none }::r) l M=match Er C (op.sub (look l)) [] M with
   | some p=>Fu C n r (j5 n dst p.1 l) p.2
   | none=>none:=by
 simp only[Fu,gV]
 split<;>simp[force_eq, *]
theorem pE(C:bH)(K n:Nat)(ops:List pX)(l:Fast)(M:Heap):bM C K n (.reg ops) l M=(Fu C n ops l M).map λp=>(.normal,p):=rfl
theorem pF (C:bH) (K n:Nat) (a b:dI) (l:Fast) (M:Heap):bM C K n (.seq a b) l M=match bM C K n a l M with
  | some (.normal,l',M')=>bM C K n b l' M'
  | r=>r:=rfl
theorem wrap_i64{n:Int}(h1:-9223372036854775808≤n)(h2:n≤9223372036854775807):IntKind.i64.wrap n=n:=by
 simp[IntKind.wrap,IntKind.signed,IntKind.bits]
 split<;>omega
structure Ext(M M':Heap):Prop where
 sub:M.Sub M'
 next:M.next≤M'.next
 wf:M'.Wf
theorem Ext.refl{M:Heap}(h:M.Wf):Ext M M:=⟨.refl _,Nat.le_refl _,h⟩
theorem Ext.trans{A B C:Heap}(h:Ext A B)(k:Ext B C):Ext A C:=⟨h.sub.trans k.sub,Nat.le_trans h.next k.next,k.wf⟩
theorem Ext.push{M:Heap}(h:M.Wf)(x:jN):Ext M (M.push x) :=
 ⟨λb y hy=>by
  have:b≠M.next:=λe=>by rw[e,h _ (Nat.le_refl _)]at hy;cases hy
  simp[Heap.push,this,hy],Nat.le_succ _,λb hb=>by
  simp only[Heap.push]at hb ⊢
  rw[if_neg (by omega)]
  exact h b (by omega)⟩
def Uu(M:Heap)(a:AV)(l:List (List UInt8)):Prop :=
 ∃p sz cap ex,a=.slice p sz l.length cap ex∧(l≠[]→sz=1∧∃b o c ro sl,p=some (b,o)∧M.get b=some (.cells c ro sl)∧∀j s,l[j]?=some s→c[o+j]?=some (.str s))
theorem Uu.mono{M M':Heap}(h:M.Sub M'){a:AV}{l:List (List UInt8)}(r:Uu M a l):Uu M' a l:=by
 obtain⟨p,sz,cap,ex,h1,h2⟩:=r
 refine⟨p,sz,cap,ex,h1,λhl=>?_⟩
 obtain⟨e1,b,o,c,ro,sl,e2,e3,e4⟩:=h2 hl
 exact⟨e1,b,o,c,ro,sl,e2,h _ _ e3,e4⟩
def alone(g:List AV→Heap→Option (AV×Heap)):List AV→Heap→Option (AV×Heap):=λargs M =>
 match args,g [] Heap.empty with
 | [],some (.bool b,_)=>some (.bool b,M)
 | _,_=>none
theorem Lc{P:Program}{G:MJ}{T:FuncId→Option dD}(hG:∀f g,G f=some g→(Et P f∧Sound P f g)∨Hq P f g)(hT:∀f af,T f=some af→∃h,bJ P f h=some af)(K d:Nat){f:FuncId}(hf:G f=none):Sound P f (mE G T K d f):=by
 intro args M v M' h
 have h1:=Oj d f args M _ h
 cases d with
 | zero=>simp[Bj]at h1
 | succ d =>
  simp only[Bj,hf]at h1
  split at h1
  ·rename_i af haf
   obtain⟨hs,hc⟩:=hT f af haf
   exact Jo (HV hG hT K d) K hc args M v M' h1
  ·cases h1
theorem Uv{s:Sh}{ss:List Sh}{ds:List D}(h:D.are (s::ss) ds):∃d r,ds=d::r∧D.is s d∧D.are ss r:=by
 cases ds with
 | nil=>simp[D.are]at h
 | cons d r=>exact⟨d,r,rfl,by simpa[D.are]using h⟩
theorem Ri{ds:List D}(h:D.are [] ds):ds=[]:=by
 cases ds with
 | nil=>rfl
 | cons d r=>simp[D.are]at h
abbrev WH:=List (Option jN)
def b_:WH→Nat→Option jN
 | [],_=>none
 | x::_,0=>x
 | _::r,i+1=>b_ r i
def fQ:WH→Nat→Option jN→WH
 | [],_,_=>[]
 | _::r,0,y=>y::r
 | x::r,i+1,y=>x::fQ r i y
mutual
def u_:AV→List Nat
 |.ptr (some p)=>[p.1]
 |.map (some r)=>[r]
 |.acc b _ _ _ _=>[b]
 |.func _ cs=>jQ cs
 |.agg cs=>jQ cs
 |.tuple cs=>jQ cs
 | _=>[]
def jQ:List AV→List Nat
 | []=>[]
 | v::r=>u_ v++jQ r
end
def AV.flat:AV→Bool
 |.ptr (some _) |.slice (some _) _ _ _ _ |.map (some _) |.func _ (_::_) |.agg _ |.tuple _ |.acc ..=>false
 | _=>true
def sD:List Nat→Nat→Option Nat
 | [],_=>none
 | a::r,b=>match Nat.beq a b with
  | true=>some 0
  | false=>match sD r b with
   | some k=>some (k+1)
   | none=>none
mutual
def rn(f:Nat→Option Nat):AV→AV
 |.ptr (some q)=>match f q.1 with
  | some b=>.ptr (some (b,q.2))
  | none=>.undef
 |.slice (some _) _ _ _ _=>.undef
 |.map (some r)=>match f r with
  | some b=>.map (some b)
  | none=>.undef
 |.acc b o sz n w=>match f b with
  | some b'=>.acc b' o sz n w
  | none=>.undef
 |.func g cs=>.func g (KD f cs)
 |.agg cs=>.agg (KD f cs)
 |.tuple cs=>.tuple (KD f cs)
 | v=>v
def KD(f:Nat→Option Nat):List AV→List AV
 | []=>[]
 | v::r=>rn f v::KD f r
end
def rnB(f:Nat→Option Nat):jN→jN
 |.cells c ro sl=>match sl with
  | true=>.cells c ro true
  | false=>.cells (KD f c) ro false
 |.map es=>.map es
def abU:Option jN→List Nat
 | some (.cells c _ false)=>jQ c
 | _=>[]
def nW:List Nat→Nat→Bool
 | [],_=>false
 | a::r,b=>match Nat.beq a b with
  | true=>true
  | false=>nW r b
def BH(H:WH)(np:Nat)(seen:List Nat):List Nat→List Nat
 | []=>[]
 | a::r=>match nW seen a with
  | true=>BH H np seen r
  | false=>match Nat.blt a np with
   | true=>a::BH H np (a::seen) r
   | false=>match b_ H a with
    | some _=>a::BH H np (a::seen) r
    | none=>BH H np (a::seen) r
def ZE(H:WH):List Nat→List Nat
 | []=>[]
 | b::r=>abU (b_ H b)++ZE H r
def Uw(H:WH)(np:Nat)(l:List Nat):List Nat:=BH H np [] (l++ZE H l)
def Fv(H:WH)(np:Nat)(roots:List Nat):List Nat:=Uw H np (Uw H np (Uw H np (BH H np [] (List.range np++roots))))
def TD(f:Nat→Option Nat):Option jN→Option jN
 | some x=>some (rnB f x)
 | none=>none
def qj(H:WH)(p:List Nat):List Nat→WH
 | []=>[]
 | b::r=>TD (sD p) (b_ H b)::qj H p r
def back(p:List Nat)(n0 k:Nat):Option Nat:=match p[k]? with
 | some b=>some b
 | none=>some (n0+(k-p.length))
def uJ(f:Nat→Option Nat):List Nat→WH→WH→WH
 | b::p,x::out,H=>uJ f p out (fQ H b (TD f x))
 | _,_,H=>H
def Bn(H:WH)(p:List Nat)(out:WH):WH :=
 uJ (back p H.length) p out H++(out.drop p.length).map (TD (back p H.length))
mutual
def retag:AV→AV→AV
 |.slice none s 0 0 true,t=>match t with
  |.slice none z _ _ _=>.slice none z 0 0 true
  | _=>.slice none s 0 0 true
 |.agg cs,t=>match t with
  |.agg ts=>.agg (lU cs ts)
  | _=>.agg cs
 |.tuple cs,t=>match t with
  |.tuple ts=>.tuple (lU cs ts)
  | _=>.tuple cs
 | v,_=>v
def lU:List AV→List AV→List AV
 | c::cs,ts=>match ts with
  | t::ts=>retag c t::lU cs ts
  | []=>c::cs
 | [],_=>[]
end
def AQ(g:AV→Option (AV×List Nat)):List AV→Option (List AV×List Nat)
 | []=>some ([],[])
 | v::r=>match g v,AQ g r with
  | some p,some q=>some (p.1::q.1,p.2++q.2)
  | _,_=>none
def Ol(w:Bool)(c:List AV)(o m:Nat):List AV:=match w with
 | true=>c
 | false=>(c.drop o).take m
def Om(H:WH):Nat→Bool→AV→Option (AV×List Nat)
 | 0,_,_=>none
 | k+1,nested,v=>match v with
  |.acc b o sz n w=>match b_ H b with
   | some (.cells c _ sl)=>match sl with
    | true=>some (.list sz n (Ol w c o (n*sz)) false,[b])
    | false=>match w with
     | true=>match AQ (Om H k true) c with
      | some p=>some (.list sz n p.1 false,b::p.2)
      | none=>none
     | false=>none
   | _=>none
  |.slice none z 0 0 true=>some (.list z 0 [] false,[])
  |.slice _ _ _ _ _=>none
  |.list sz n cs _=>some (.list sz n cs false,[])
  |.elem _=>none
  |.ptr (some q)=>match nested with
   | true=>none
   | false=>some (.ptr (some q),[])
  |.map (some r)=>match nested with
   | true=>none
   | false=>some (.map (some r),[])
  |.func f cs=>match AQ (Om H k nested) cs with
   | some p=>some (.func f p.1,p.2)
   | none=>none
  |.agg cs=>match AQ (Om H k nested) cs with
   | some p=>some (.agg p.1,p.2)
   | none=>none
  |.tuple cs=>match AQ (Om H k nested) cs with
   | some p=>some (.tuple p.1,p.2)
   | none=>none
  | v=>some (v,[])
def Gx:Option jN→Option jN
 | some (.cells c _ sl)=>some (.cells c true sl)
 | _=>none
def wR(H:WH):List Nat→WH
 | []=>H
 | b::r=>wR (fQ H b (Gx (b_ H b))) r
def ZF(w:Bool)(c:List AV)(m:Nat):List AV:=match w with
 | true=>c
 | false=>c.take m
mutual
def Sm:AV→WH→AV×WH
 |.slice none z 0 0 true,H=>(.acc H.length 0 z 0 true,H++[some (.cells [] false true)])
 |.acc b 0 sz n w,H=>match b_ H b with
  | some (.cells c false true)=>(.acc H.length 0 sz n true,fQ H b none++[some (.cells (ZF w c (n*sz)) false true)])
  | _=>(.acc b 0 sz n w,H)
 |.agg cs,H=>match Lg cs H with
  |(a,H)=>(.agg a,H)
 |.tuple cs,H=>match Lg cs H with
  |(a,H)=>(.tuple a,H)
 | v,H=>(v,H)
def Lg:List AV→WH→List AV×WH
 | [],H=>([],H)
 | v::r,H=>match Sm v H with
  |(a,H)=>match Lg r H with
   |(l,H)=>(a::l,H)
end
def nrm(m:Option Bool)(v:AV)(H:WH):AV×WH:=match m with
 | none=>(v,H)
 | some true=>Sm v H
 | some false=>match Om H 5 false v with
  | some p=>(p.1,wR H p.2)
  | none=>(v,H)
def Dz:List (Option Bool)→List AV→WH→List AV×WH
 | _,[],H=>([],H)
 | ms,v::r,H=>match nrm (ms.headD (some false)) v H with
  |(a,H)=>match Dz ms.tail r H with
   |(l,H)=>(a::l,H)
def Oo(m:Option Bool):List AV→WH→List AV×WH
 | [],H=>([],H)
 | v::r,H=>match nrm m v H with
  |(a,H)=>match Oo m r H with
   |(l,H)=>(a::l,H)
def Xq(m:Option Bool)(b:Nat)(H:WH):WH:=match m with
 | none=>H
 | some m=>match b_ H b with
  | some (.cells c _ false)=>match Oo (some m) c H with
   |(c',H')=>match b_ H' b with
    | some (.cells _ ro false)=>fQ H' b (some (.cells c' ro false))
    | _=>H'
  | _=>H
def HZ:List (Option Bool)→Option Bool→List Nat→WH→WH
 | _,_,[],H=>H
 | ms,m,b::p,H=>HZ ms.tail m p (Xq (ms.headD m) b H)
def ML(sz:Nat)(sz' len:Nat)(cs:List AV)(lo hi mx:Option AX):Option AV :=
 if sz'=sz then
  match mx with
  | none=>(bT [] hi len len).bind λh=>(bT [] lo 0 h).bind λl=>some (.list sz (h-l) ((cs.drop (l*sz)).take ((h-l)*sz)) false)
  | some _=>(bT [] mx len len).bind λm=>match hi with
   | none=>none
   | some _=>(bT [] hi len m).bind λh=>(bT [] lo 0 h).bind λl=>some (.list sz (h-l) ((cs.drop (l*sz)).take ((h-l)*sz)) false)
 else none
def yR(sz b off sz' n:Nat)(w:Bool)(lo hi mx:Option AX):Option AV :=
 match lo,hi,mx with
 | none,none,none=>if sz'=sz then some (.acc b off sz n w)else none
 | _,_,none=>if sz'=sz then (bT [] hi n n).bind λh=>(bT [] lo 0 h).bind λl=>some (.acc b (off+l*sz) sz (h-l) false)else none
 | _,some _,some _=>if sz'=sz then (bT [] mx n n).bind λm=>(bT [] hi n m).bind λh=>(bT [] lo 0 h).bind λl=>some (.acc b (off+l*sz) sz (h-l) false)else none
 | _,_,_=>none
def Cc:Nat→List AV→Option (List AV)
 | 0,_=>some []
 | n+1,c::cs=>match Cc n cs with
  | some l=>some (c::l)
  | none=>none
 | _+1,[]=>none
def Rj:List AV→Nat→Option AV
 | [],_=>none
 | v::_,0=>some v
 | _::r,i+1=>Rj r i
def qB(agg:Bool)(off n:Nat)(cs:List AV):Option AV:=match agg with
 | true=>match Cc n (cs.drop off)with
  | some l=>some (.agg l)
  | none=>none
 | false=>Rj cs off
def wP(o:jZ):Option AV :=
 match o with
 |.slice sz x lo hi mx=>match x.ev []with
  |.list sz' len cs _=>ML sz sz' len cs lo hi mx
  |.acc b off sz' n w=>yR sz b off sz' n w lo hi mx
  | _=>none
 |.jE sz x i=>match x.ev []with
  |.list sz' len cs _=>match i.ev []with
   |.int _ j=>if 0≤j∧j<(len:Int)∧sz'=sz then some (.elem (cs.drop (j.toNat*sz)))else none
   | _=>none
  |.acc b off sz' n _=>match i.ev []with
   |.int _ j=>if 0≤j∧j<(n:Int)∧sz'=sz then some (.ptr (some (b,off+j.toNat*sz)))else none
   | _=>none
  | _=>none
 |.l5 n sz x i=>match x.ev []with
  |.elem cs=>match i.ev []with
   |.int _ j=>if 0≤j∧j<(n:Int)then some (.elem (cs.drop (j.toNat*sz)))else none
   | _=>none
  | _=>aP o []
 |.fieldAddr off x=>match x.ev []with
  |.elem cs=>some (.elem (cs.drop off))
  | _=>aP o []
 |.nilCheck x=>match x.ev []with
  |.elem cs=>some (.elem cs)
  | _=>aP o []
 |.field agg off n x=>match x.ev []with
  |.agg cs=>qB agg off n cs
  | _=>none
 |.len false x=>match x.ev []with
  |.list _ len _ _=>some (.int .i64 len)
  |.acc _ _ _ n _=>some (.int .i64 n)
  |.slice none _ 0 0 true=>some (.int .i64 0)
  | _=>none
 |.cap _=>none
 |.R4 neg x y=>match x.ev [],y.ev []with
  |.list _ (_+1) _ _,.slice none _ 0 0 true=>some (.bool neg)
  |.slice none _ 0 0 true,.list _ (_+1) _ _=>some (.bool neg)
  |.slice none _ 0 0 true,.slice none _ 0 0 true=>some (.bool (!neg))
  | _,_=>none
 | _=>aP o []
mutual
def sc:AV→Bool
 |.bool _ |.int .. |.str _=>true
 |.tuple cs=>scL cs
 |.agg cs=>scL cs
 | _=>false
def scL:List AV→Bool
 | []=>true
 | v::r=>match sc v with
  | true=>scL r
  | false=>false
end
def Lh:List (AV×AV)→Bool
 | []=>true
 | p::r=>match sc p.1,sc p.2 with
  | true,true=>Lh r
  | _,_=>false
def Ux(kd:Kd)(k v:AV)(es:List (AV×AV)):Option (List (AV×AV)):=(yJ kd k es 0).map λp=>match p with
 | some q=>es.set q.1 (k,v)
 | none=>es++[(k,v)]
def ZG(kd:Kd)(k:AV)(es:List (AV×AV)):Option (List (AV×AV)):=(yJ kd k es 0).map λp=>match p with
 | some q=>es.eraseIdx q.1
 | none=>es
def ZH(kd:Kd)(ok:Bool)(zero k:AV)(es:List (AV×AV)):Option AV:=(yJ kd k es 0).map λr =>
 let p:AV×Bool:=match r with
  | some (_,x)=>(x,true)
  | none=>(zero,false)
 if ok then .tuple [p.1,.bool p.2]else p.1
def wL(o:rY)(H:WH):Option AV :=
 match o with
 |.load agg n x=>match agg&&Nat.beq n 0 with
  | true=>none
  | false=>match x.ev []with
   |.elem cs=>qB agg 0 n cs
   |.ptr (some (b,off))=>match b_ H b with
    | some (.cells c _ _)=>qB agg off n c
    | _=>none
   | _=>none
 |.jF x=>match x.ev []with
  |.list 1 _ cs _=>(lF cs).map .str
  |.acc b off 1 n w=>match b_ H b with
   | some (.cells c _ _)=>(lF (Ol w c off n)).map .str
   | _=>none
  |.slice none _ 0 0 true=>some (.str [])
  | _=>none
 |.qV x=>match x.ev []with
  |.map (some r)=>match b_ H r with
   | some (.map es)=>some (.int .i64 es.length)
   | _=>none
  | _=>none
 |.lookup kd ok zero x k=>match x.ev []with
  |.map (some r)=>match b_ H r,sc (k.ev [])with
   | some (.map es),true=>ZH kd ok zero (k.ev []) es
   | _,_=>none
  | _=>none
def fu(bytes k:Nat):Bool:=decide (k*bytes≤70368744177664∧k≤70368744177664)
def Ce(x:AV)(sz:Nat)(H:WH):Option (Nat×List AV×List Nat) :=
 match x with
 |.list sz' n cs _=>match Nat.beq sz' sz with
  | true=>some (n,cs,[])
  | false=>none
 |.slice none _ 0 0 true=>some (0,[],[])
 |.str s=>match Nat.beq 1 sz with
  | true=>some (s.length,s.map λb=>.int .u8 b.toNat,[])
  | false=>none
 |.acc b o sz' n w=>match Nat.beq sz' sz with
  | true=>match b_ H b with
   | some (.cells c _ sl)=>match sl with
    | true=>some (n,Ol w c o (n*sz),[])
    | false=>match w with
     | true=>match AQ (Om H 5 true) c with
      | some p=>some (n,p.1,p.2)
      | none=>none
     | false=>none
   | _=>none
  | false=>none
 | _=>none
def Js(s:AV)(sz:Nat)(H:WH):Option (Nat×List AV×WH×List Nat) :=
 match s with
 |.slice none _ 0 0 true=>some (0,[],H,[])
 |.acc b 0 sz' n w=>match Nat.beq sz' sz with
  | true=>match b_ H b with
   | some (.cells c false true)=>some (n,Ol w c 0 (n*sz),fQ H b none,[b])
   | some (.cells c false false)=>match w with
    | true=>match AQ (Om H 5 true) c with
     | some p=>match nW p.2 b with
      | false=>some (n,p.1,fQ (wR H p.2) b none,[b])
      | true=>none
     | none=>none
    | false=>none
   | _=>none
  | false=>none
 | _=>none
def H6(c:List AV)(o:Nat)(cs:List AV):Option (List AV) :=
 if o+cs.length≤c.length then some (c.take o++cs++c.drop (o+cs.length))else none
def gd{β:Type}(b:Bool)(x:Option β):Option β:=match b with
 | true=>x
 | false=>none
inductive Lf where
 | fin (m:Option Bool) (ts:List AV) (mc:Option Bool)
 | en (keep:List Nat) (ms bs:List (Option Bool)) (ts:List AV)
inductive Tc{R:Type}:Option R→Type 1 where
 | leaf (x:Lf) (v:R):Tc (some v)
 | Bo (x:Lf) (v:R) (Q:R→Prop) (h:Q v):Tc (some v)
 | fail:Tc none
 | bd {β:Type} {e:Option β} {f:β→Option R} (k:(x:β)→e=some x→Tc (f x)):Tc (e.bind f)
 | gd {b:Bool} {f:Option R} (k:b=true→Tc f):Tc (Proofs.Ytkedeiklmpkgkaa.gd b f)
 | br (t:Nat) {b:Bool} {f g:Option R} (x:b=true→Tc f) (y:b=false→Tc g):Tc (cond b f g)
 | ite {b:Bool} {f g:Option R} (x:b=true→Tc f) (y:b=false→Tc g):Tc (cond b f g)
 | ob {P:Prop} (h:P) {f:Option R} (r:Tc f):Tc f
 | rv (t:Nat) (u:AV) {P:Prop} (h:P) {f:Option R} (r:Tc f):Tc f
 | rb (b:Nat) (c:List AV) {P:Prop} (h:P) {f:Option R} (r:Tc f):Tc f
 | v (d:Nat) (u:AV) {f:Option R} (r:Tc f):Tc f
 | z (d:Nat) (t:List AV) {f:Option R} (r:Tc f):Tc f
 | ap (d:Nat) (n:Nat) (cs:List AV) {f:Option R} (r:Tc f):Tc f
 | st (cs:Option (List AV)) {f:Option R} (r:Tc f):Tc f
 | call (ms:List (Option Bool)) (m:Option Bool) (ts:List AV) (v:AV) (out:WH) {f:Option R} (r:Tc f):Tc f
 | lp (ms:List (Option Bool)) (bs:List (Option Bool)) (ts:List AV) (ex:Ex) (outs:List (Nat×AV)) (out:WH) {f:Option R} (r:Tc f):Tc f
 | jn (keep:List Nat) (ms:List (Option Bool)) (bs:List (Option Bool)) (ts:List AV) (ex:Ex) (outs:List (Nat×AV)) (out:WH) {f:Option R} (r:Tc f):Tc f
 | sk {f:Option R} (r:Tc f):Tc f
 | cb (ms:List (Option Bool)) (ts:List AV) (v:AV) {f:Option R} (r:Tc f):Tc f
 | kl (bs:List Nat) {f:Option R} (r:Tc f):Tc f
 | mp (es:List (AV×AV)) {f:Option R} (r:Tc f):Tc f
 | cl (ms:List (Option Bool)) (ls:List Bool) (ts:List AV) (v:AV) (out:WH) {f:Option R} (r:Tc f):Tc f
 | er {f:Option R} (r:Tc f):Tc f
structure TS:Type 1 where
 {R:Type}
 {f:Option R}
 tr:Tc f
def claim{R:Type}(L:R→Prop)(r:R):{f:Option R}→Tc f→Prop
 | _,.leaf _ v=>L v
 | _,.Bo _ _ Q _=>Q r
 | _,.fail=>False
 | _,.bd k=>∃x,∃q,claim L r (k x q)
 | _,.gd k=>∃q,claim L r (k q)
 | _,.br (b:=b) _ x y=>b=b∧((∀h,claim L r (x h))∧(∀h,claim L r (y h)))
 | _,.ite x y=>(∀h,claim L r (x h))∧(∀h,claim L r (y h))
 | _,.ob (P:=P) _ k=>P∧claim L r k
 | _,.rv _ _ (P:=P) _ k=>P∧claim L r k
 | _,.rb _ _ (P:=P) _ k=>P∧claim L r k
 | _,.v _ _ k=>claim L r k
 | _,.z _ _ k=>claim L r k
 | _,.ap _ _ _ k=>claim L r k
 | _,.st _ k=>claim L r k
 | _,.call _ _ _ _ _ k=>claim L r k
 | _,.lp _ _ _ _ _ _ k=>claim L r k
 | _,.jn _ _ _ _ _ _ _ k=>claim L r k
 | _,.sk k=>claim L r k
 | _,.cb _ _ _ k=>claim L r k
 | _,.kl _ k=>claim L r k
 | _,.mp _ k=>claim L r k
 | _,.cl _ _ _ _ _ k=>claim L r k
 | _,.er k=>claim L r k
theorem fK{R:Type}{L:R→Prop}{r:R}(hL:L r):∀ {f:Option R} (T:Tc f),f=some r→claim L r T
 | _,.leaf _ v,h=>by
  obtain rfl:=ak h
  exact hL
 | _,.Bo _ _ Q q,h=>by
  obtain rfl:=ak h
  exact q
 | _,.fail,h=>by cases h
 | _,.bd (e:=e) k,h=>by
  have hx:∃x,e=some x:=by
   cases e with
   | none=>cases h
   | some x=>exact⟨x,rfl⟩
  obtain⟨x,he⟩:=hx
  exact⟨x,he,fK hL (k x he) (by rw[he]at h;exact h)⟩
 | _,.gd (b:=b) k,h=>by
  have hb:b=true:=by
   cases b with
   | false=>cases h
   | true=>rfl
  exact⟨hb,fK hL (k hb) (by rw[hb]at h;exact h)⟩
 | _,.br (b:=b) _ x y,h=>⟨rfl,λq=>fK hL (x q) (by rw[q]at h;exact h),λq=>fK hL (y q) (by rw[q]at h;exact h)⟩
 | _,.ite x y,h=>⟨λq=>fK hL (x q) (by rw[q]at h;exact h),λq=>fK hL (y q) (by rw[q]at h;exact h)⟩
 | _,.ob p k,h=>⟨p,fK hL k h⟩
 | _,.rv _ _ p k,h=>⟨p,fK hL k h⟩
 | _,.rb _ _ p k,h=>⟨p,fK hL k h⟩
 | _,.v _ _ k,h=>fK hL k h
 | _,.z _ _ k,h=>fK hL k h
 | _,.ap _ _ _ k,h=>fK hL k h
 | _,.st _ k,h=>fK hL k h
 | _,.call _ _ _ _ _ k,h=>fK hL k h
 | _,.lp _ _ _ _ _ _ k,h=>fK hL k h
 | _,.jn _ _ _ _ _ _ _ k,h=>fK hL k h
 | _,.sk k,h=>fK hL k h
 | _,.cb _ _ _ k,h=>fK hL k h
 | _,.kl _ k,h=>fK hL k h
 | _,.mp _ k,h=>fK hL k h
 | _,.cl _ _ _ _ _ k,h=>fK hL k h
 | _,.er k,h=>fK hL k h
def need(Q:Prop)(k:TS→Prop):TS→Prop
 |⟨.ob _ r⟩=>Q∧k ⟨r⟩
 | _=>False
def MN(k:Fast→WH→TS→Prop){R:Type}:{f:Option R}→Tc f→Fast→WH→Prop
 | _,.bd kk,l,H=>∃x,∃q,MN k (kk x q) l H
 | _,.gd kk,l,H=>∃q,MN k (kk q) l H
 | _,.ite x y,l,H=>(∀h,MN k (x h) l H)∧(∀h,MN k (y h) l H)
 | _,.rv t u _ r,l,H=>look l t=u∧MN k r ((t,u)::l) H
 | _,.rb b c _ r,l,H=>match b_ H b with
  | some (.cells c0 ro sl)=>c0=c∧MN k r l (fQ H b (some (.cells c ro sl)))
  | _=>False
 | _,t,l,H=>k l H ⟨t⟩
def Xr:TS→TS
 |⟨.kl _ r⟩=>⟨r⟩
 | tr=>tr
def Oq(H:WH):List Nat→WH
 | []=>H
 | b::r=>Oq (fQ H b none) r
def Xt:TS→WH→WH
 |⟨.kl bs _⟩,H=>Oq H bs
 | _,H=>H
def abV(tr:TS):Bool:=match Xr tr with
 |⟨.jn ..⟩=>true
 | _=>false
def isD(d:Option Nat)(k:Nat):Bool:=match d with
 | some d=>Nat.beq d k
 | none=>false
def ovr(d:Option Nat)(x:Option AV)(tr:TS)(k:AV→TS→Prop):Prop :=
 match tr with
 |⟨.v d' u r⟩=>match isD d d' with
  | true=>need (x=some u) (k u) ⟨r⟩
  | false=>match x with
   | some v=>k v tr
   | none=>False
 |⟨.z d' t r⟩=>match isD d d' with
  | true=>match x with
   | some v=>k (retag v (t.headD .undef)) ⟨r⟩
   | none=>False
  | false=>match x with
   | some v=>k v tr
   | none=>False
 | _=>match x with
  | some v=>k v tr
  | none=>False
def Sn(d:Option Nat)(n:Nat)(cs:List AV)(tr:TS)(k:Nat→List AV→TS→Prop):Prop :=
 match tr with
 |⟨.ap d' n' cs' r⟩=>match isD d d' with
  | true=>need (n=n') (need (cs=cs') (k n' cs')) ⟨r⟩
  | false=>k n cs tr
 | _=>k n cs tr
def wMk(l c:AV)(n bytes:Nat):Prop:=l=.int .i64 n∧c=.int .i64 n∧n≤4611686018427387904∧bytes*n≤281474976710656
def wK(d:Option Nat)(o:Bh)(tr:TS)(k:jN→(Nat→AV)→TS→Prop):Prop :=
 match o with
 |.alloc zero=>match tr with
  |⟨.z d' t r⟩=>match isD d d' with
   | true=>k (.cells (lU zero t) false false) (λb=>.ptr (some (b,0))) ⟨r⟩
   | false=>k (.cells zero false false) (λb=>.ptr (some (b,0))) tr
  | _=>k (.cells zero false false) (λb=>.ptr (some (b,0))) tr
 |.box x=>match (x.ev []).cells? with
  | some cs=>k (.cells cs false false) (λb=>.ptr (some (b,0))) tr
  | none=>False
 |.buildSlice sz len zero parts=>match nJ (jo len zero) (parts.map λp=>(p.1*sz,sz,p.2.ev []))with
  | some cs=>match Nat.beq zero.length sz with
   | true=>k (.cells cs false false) (λb=>.acc b 0 sz len true) tr
   | false=>False
  | none=>False
 |.makeSlice sz bytes zero l c=>match tr with
  |⟨.ap d' n cs r⟩=>match isD d d' with
   | true=>match Nat.beq zero.length sz,zero.all AV.flat with
    | true,true=>need (wMk (l.ev []) (c.ev []) n bytes) (need (jo n zero=cs) (k (.cells cs false true) (λb=>.acc b 0 sz n true))) ⟨r⟩
    | _,_=>False
   | false=>False
  | _=>False
 |.l6 x=>match x.ev []with
  |.str s=>need (s.length≤70368744177664) (k (.cells (s.map λb=>.int .u8 b.toNat) false true) (λb=>.acc b 0 1 s.length true)) tr
  | _=>False
 |.makeMap=>False
structure VI where
 to:Nat→Option Nat
 Gy:Nat→Bool
 gone:Nat→Bool
 dim:Nat→Option (Nat×Nat)
instance:CoeFun VI (λ_=>Nat→Option Nat):=⟨VI.to⟩
def VI.none:VI:=⟨λ_=>Option.none,λ_=>false,λ_=>false,λ_=>Option.none⟩
mutual
def VL(M:Heap)(O:Nat→Prop):VI→AV→AV→Prop
 | _,.undef,_=>True
 | _,.bool b,a=>a=.bool b
 | _,.int k n,a=>a=.int k n
 | _,.str s,a=>a=.str s
 | _,.ptr none,a=>a=.ptr none
 | κ,.ptr (some q),a=>∃j,κ q.1=some j∧a=.ptr (some (j,q.2))
 | _,.slice none _ len cap ex,a=>(len=0∧cap=0∧ex=true)∧∃s',a=.slice none s' 0 0 true
 | _,.slice (some _) _ _ _ _,_=>False
 | _,.map none,a=>a=.map none
 | κ,.map (some r),a=>∃j,κ r=some j∧a=.map (some j)
 | κ,.func f cs,a=>∃cs',a=.func f cs'∧bL M O κ cs cs'
 | _,.nilFunc,a=>a=.nilFunc
 | κ,.agg cs,a=>∃cs',a=.agg cs'∧bL M O κ cs cs'
 | κ,.tuple cs,a=>∃cs',a=.tuple cs'∧bL M O κ cs cs'
 | _,.list sz len cs ex,a=>(len=0∧cs=[]∧∃s',a=.slice none s' 0 0 true)∨∃b o cap ex',a=.slice (some (b,o)) sz len cap ex'∧len≤cap∧(ex=true→ex'=true∧cap=len)∧cs.length=len*sz ∧
   (len≠0→∃c ro sl,M.get b=some (.cells c ro sl)∧¬O b∧b<M.next∧o+len*sz≤c.length∧bL M O VI.none cs ((c.drop o).take (len*sz)))
 | _,.elem cs,a=>∃b o c ro sl,a=.ptr (some (b,o))∧M.get b=some (.cells c ro sl)∧¬O b∧b<M.next∧bL M O VI.none cs ((c.drop o).take cs.length)
 | κ,.acc b o sz n w,a=>∃p s' cap ex,a=.slice p s' n cap ex∧n≤cap∧(p=none→cap=0∧ex=true)∧(p≠none→s'=sz)∧∃m L,κ.dim b=some (m,L)∧o+n*sz≤m∧(w=true→o=0∧n*sz=m) ∧
   ((∃j,κ b=some j∧((p=some (j,o)∧o+cap*sz≤L)∨(n=0∧cap=0∧ex=true)))∨(κ.Gy b=true∧n=0∧cap=0∧ex=true∧m=0))
def bL(M:Heap)(O:Nat→Prop):VI→List AV→List AV→Prop
 | _,[],[]=>True
 | κ,a::l,v::r=>VL M O κ a v∧bL M O κ l r
 | _,_,_=>False
end
def own(ι:VI):Nat→Prop:=λj=>∃i,ι i=some j∧ι.gone i=false
def OR(R:Nat→Prop)(ι:VI):Nat→Prop:=λj=>own ι j∨R j
def Heap.Ok(M:Heap):Prop:=∀b,M.next≤b→M.get b=none
def BL(M:Heap)(O:Nat→Prop)(κ:VI)(d:Option (Nat×Nat)):jN→Option jN→Prop
 |.cells c ro sl,x=>∃c' t ro' sl' L,x=some (.cells (c'++t) ro' sl')∧(ro=false→ro'=false)∧d=some (c.length,L)∧L≤(c'++t).length∧bL M O (if sl then VI.none else κ) c c'∧(sl=false→sl'=false)
 |.map es,x=>x=some (.map es)∧d=some (0,0)∧Lh es=true
def jN.ro:jN→Bool
 |.cells _ ro _=>ro
 |.map _=>false
def act(ι:VI)(H:WH)(i:Nat):Prop:=(∃x,b_ H i=some x)∨ι.gone i=false
structure VS(R:Nat→Prop)(ι:VI)(H:WH)(M:Heap):Prop where
 lt:∀i j,ι i=some j→i<H.length∧j<M.next
 inj:∀i i' j,act ι H i→act ι H i'→ι i=some j→ι i'=some j→ι.gone i=false∨ι.gone i'=false→i=i'
 blk:∀i x,b_ H i=some x→(ι.Gy i=true∧ι.dim i=some (0,0)∧∃ro,x=.cells [] ro true)∨∃j,ι i=some j∧BL M (OR R ι) ι (ι.dim i) x (M.get j)∧(x.ro=false→ι.gone i=false)
 sF:∀i,ι.Gy i=true→i<H.length∧ι i=none
 pG:∀i,ι.gone i=true→∀c sl,b_ H i≠some (.cells c false sl)
 Ot:M.Ok
 res:∀j,R j→j<M.next∧∀i,act ι H i→ι i≠some j
structure Keeps(M:Heap)(O:Nat→Prop)(M':Heap)(O':Nat→Prop):Prop where
 next:M.next≤M'.next
 get:∀b,b<M.next→¬O b→M'.get b=M.get b∧¬O' b
def VI.Le(κ qC:VI)(S:Nat→Prop):Prop:=∀i,S i→(∀j,κ i=some j→qC i=some j∧∀d,κ.dim i=some d→qC.dim i=some d)∧(κ.Gy i=true→qC.Gy i=true∧∀d,κ.dim i=some d→qC.dim i=some d)
structure Stp(n:Nat)(t:List Nat)(ι:VI)(H:WH)(M:Heap)(bI:VI)(H':WH)(M':Heap):Prop where
 keep:Keeps M (own ι) M' (own bI)
 le:VI.Le ι bI (λi=>i<n)
 gone:∀i,i<n→ι.gone i=true→bI.gone i=true
 ZI:∀i,i<n→bI i=ι i
 PY:∀i,i<n→bI.dim i=ι.dim i
 Li:∀i,i<n→b_ H i=none→bI.gone i=ι.gone i
 live:∀i,i<n→(∃x,b_ H' i=some x)→∃x,b_ H i=some x
 tch:∀i j,i<n→act bI H' i→ι i=some j→i∉t→M'.get j=M.get j
 next:n≤H'.length
def Spec(C:bH)(f:FuncId)(args:List AV)(blks:WH)(v:AV)(out:WH):Prop :=
 ∀R ι M as,VS R ι blks M→bL M (OR R ι) ι args as→∃a M' bI,C f as M=some (a,M')∧VS R bI out M'∧Stp blks.length (List.range blks.length) ι blks M bI out M'∧VL M' (OR R bI) bI v a
def PZ(run:Fast→Heap→Io)(np:Nat)(ins:Fast)(blks:WH)(ex:Ex)(outs:Fast)(out:WH):Prop :=
 ∀R ι M lA,VS R ι blks M→(∀t,VL M (OR R ι) ι (look ins t) (look lA t))→∃qD M' bI,run lA M=some (ex,qD,M')∧VS R bI out M'∧Stp np (List.range np) ι blks M bI out M'∧∀t,VL M' (OR R bI) bI (look outs t) (look qD t)
inductive Bt where
 | clone (sz bytes:Nat)
 | clip (sz:Nat)
 | grow (sz bytes:Nat)
 | ins (sz bytes:Nat)
 | del (sz:Nat)
def wBt(b:Bt)(d:Option Nat)(args:List AV)(H:WH)(tr:TS)(k:AV→WH→List Nat→TS→Prop):Prop :=
 match b with
 |.clone sz bytes=>match args with
  | [v]=>match v with
   |.str _=>False
   | v=>match Ce v sz H with
    | some (n,cs,S)=>Sn d n cs tr λn cs tr=>need (fu bytes n=true) (k (.acc H.length 0 sz n true) (wR H S++[some (.cells cs false true)]) []) tr
    | none=>False
  | _=>False
 |.grow sz bytes=>match args with
  | [.slice none _ 0 0 true,.int .i64 n]=>need (0≤n∧n≤70368744177664∧bytes*n.toNat≤281474976710656∧n.toNat*bytes≤70368744177664) (k (.acc H.length 0 sz 0 true) (H++[some (.cells [] false true)]) []) tr
  | _=>False
 |.clip sz=>match args with
  | [.slice none z 0 0 true]=>k (.slice none sz 0 0 true) H [] tr
  | [.list sz' n cs _]=>match Nat.beq sz' sz with
   | true=>k (.list sz n cs true) H [] tr
   | false=>False
  | [.acc b o sz' n w]=>match Nat.beq sz' sz with
   | true=>k (.acc b o sz n w) H [] tr
   | false=>False
  | _=>False
 |.ins sz bytes=>match args with
  | [.acc b o sz1 n w,.int .i64 i,.acc b2 o2 Xu m w2]=>match Nat.beq b b2 with
   | true=>False
   | false=>match b_ H b2 with
    | some (.cells _ false false)=>match Ce (.acc b2 o2 Xu m w2) sz H with
     | some (m,new,[])=>match Nat.beq m 1 with
      | true=>match Js (.acc b o sz1 n w) sz H with
       | some (len,old,H',t)=>need (0≤i∧i≤(len:Int)) (λtr=>Sn d (len+1) (old.take (i.toNat*sz)++(new++old.drop (i.toNat*sz))) tr λN cs tr=>need (fu bytes N=true) (k (.acc H'.length 0 sz N true) (H'++[some (.cells cs false true)]) t) tr) tr
       | none=>False
      | false=>False
     | _=>False
    | _=>False
  | _=>False
 |.del sz=>match args with
  | [.acc b 0 sz1 n true,.int .i64 i,.int .i64 j]=>match Nat.beq sz1 sz with
   | true=>match b_ H b with
    | some (.cells c false true)=>need (0≤i∧i<j∧j≤(n:Int)) (λtr=>Sn d (n-(j.toNat-i.toNat)) (c.take (i.toNat*sz)++c.drop (j.toNat*sz)) tr λN cs tr=>k (.acc H.length 0 sz N true) (fQ H b none++[some (.cells cs false true)]) [b] tr) tr
    | _=>False
   | false=>False
  | _=>False
def iX:List Nat→List AV→Fast
 | t::r,v::s=>(t,v)::iX r s
 | _,_=>[]
def Jt(np:Nat)(ms bs:List (Option Bool))(ts:List AV)(vs:List AV)(H:WH)(k:List AV→WH→Prop):Prop :=
 match Dz ms (lU vs ts) H with
 |(vs,H)=>match HZ bs none (Fv H np (jQ vs)) H with
  | H=>match Fv H np (jQ vs)with
   | p=>k (KD (sD p) vs) (qj H p p)
mutual
def oq:AV→Bool
 |.bool _ |.int .. |.str _ |.ptr none |.nilFunc=>true
 |.slice none _ 0 0 true=>true
 |.tuple cs=>Ou cs
 |.agg cs=>Ou cs
 | _=>false
def Ou:List AV→Bool
 | []=>true
 | v::r=>match oq v with
  | true=>Ou r
  | false=>false
end
mutual
def clean:AV→Bool
 |.list .. |.elem _=>false
 |.func _ cs=>kS cs
 |.tuple cs=>kS cs
 |.agg cs=>kS cs
 | _=>true
def kS:List AV→Bool
 | []=>true
 | v::r=>match clean v with
  | true=>kS r
  | false=>false
end
def Lj:WH→(TS→Prop)→TS→Prop
 | [],k,tr=>k tr
 | none::r,k,tr=>Lj r k tr
 | some (.cells c ro sl)::r,k,tr=>match ro,sl with
  | false,false=>match kS c with
   | true=>Lj r k tr
   | false=>False
  | false,true=>need (kS c=true) (Lj r k) tr
  | _,_=>False
 | some (.map _)::_,_,_=>False
def Fw(H:WH):List Bool→List AV→Option (List AV×List Nat)
 | _,[]=>some ([],[])
 | bs,v::r=>match Fw H bs.tail r with
  | some q=>match bs.headD false with
   | false=>some (v::q.1,q.2)
   | true=>match Om H 5 false v with
    | some p=>some (p.1::q.1,p.2++q.2)
    | none=>none
  | none=>none
def apart(S:List Nat):List Nat→Bool
 | []=>true
 | b::p=>match nW S b with
  | true=>false
  | false=>apart S p
def Uy(C:bH)(g:FuncId)(args:List AV)(H:WH)(tr:TS)(k:AV→WH→List Nat→TS→Prop):Prop :=
 match tr with
 |⟨.call ms m ts v out r⟩=>match Dz ms (lU args ts) H with
  |(vs,H)=>match HZ [] m (Fv H 0 (jQ vs)) H with
   | H=>match Fv H 0 (jQ vs)with
    | p=>match Nat.ble p.length out.length with
     | true=>need (Spec C g (KD (sD p) vs) (qj H p p) v out) (k (rn (back p H.length) v) (Bn H p out) p) ⟨r⟩
     | false=>False
 |⟨.cl ms ls ts v out r⟩=>match Dz ms (lU args ts) H with
  |(vs,H)=>match Fw H ls vs with
   | some q=>match Fv (wR H q.2) 0 (jQ q.1)with
    | p=>match Nat.ble p.length out.length,apart q.2 p,clean v with
     | true,true,true=>Lj out (need (Spec C g (KD (sD p) q.1) (qj (wR H q.2) p p) v out) (k (rn (back p H.length) v) (Bn H p out) p)) ⟨r⟩
     | _,_,_=>False
   | none=>False
 |⟨.cb ms ts v r⟩=>match Dz ms (lU args ts) H with
  |(vs,H1)=>match Fv H1 0 (jQ vs),oq v with
   | [],true=>need (Spec C g (KD (sD []) vs) [] v []) (k v H []) ⟨r⟩
   | _,_=>False
 | _=>False
def wN(C:bH)(B:FuncId→Option Bt)(d:Option Nat)(o:vO)(H:WH)(tr:TS)(k:AV→WH→List Nat→TS→Prop):Prop :=
 match o with
 |.store n a v=>match a.ev [],(v.ev []).cells? with
  |.ptr (some (b,off)),some cs=>match Nat.beq cs.length n with
   | true=>match tr with
    |⟨.st x r⟩=>match b_ H b with
     | some (.cells c false sl)=>match sl with
      | false=>match x with
       | none=>match H6 c off cs with
        | some c'=>k (.tuple []) (fQ H b (some (.cells c' false false))) [b] ⟨r⟩
        | none=>False
       | some c'=>need (H6 c off cs=some c') (k (.tuple []) (fQ H b (some (.cells c' false false))) [b]) ⟨r⟩
      | true=>match AQ (Om H 5 true) cs with
       | some p=>match nW p.2 b with
        | true=>False
        | false=>match x with
         | none=>match H6 c off p.1 with
          | some c'=>k (.tuple []) (fQ (wR H p.2) b (some (.cells c' false true))) [b] ⟨r⟩
          | none=>False
         | some c'=>need (H6 c off p.1=some c') (k (.tuple []) (fQ (wR H p.2) b (some (.cells c' false true))) [b]) ⟨r⟩
       | none=>False
     | _=>False
    | _=>False
   | false=>False
  | _,_=>False
 |.call f args=>match f.ev []with
  |.func g caps=>match B g with
   | some bt=>wBt bt d (args.map (AX.ev [])++caps) H tr k
   | none=>Uy C g (args.map (AX.ev [])++caps) H tr k
  | _=>False
 |.append sz bytes s x=>match Ce (x.ev []) sz H with
  | some (m,new,S)=>match Js (s.ev []) sz (wR H S)with
   | some (len,old,H',t)=>Sn d (len+m) (old++new) tr λn cs tr=>need (fu bytes n=true) (k (.acc H'.length 0 sz n true) (H'++[some (.cells cs false true)]) t) tr
   | none=>False
  | none=>False
 |.mapUpdate kd m x v=>match m.ev []with
  |.map (some r)=>match b_ H r,sc (x.ev []),AV.eH (x.ev []),sc (v.ev []),(v.ev []).cells? with
   | some (.map es),true,true,true,some _=>match tr with
    |⟨.mp es' t⟩=>need (Ux kd (x.ev []) (v.ev []) es=some es') (k (.tuple []) (fQ H r (some (.map es'))) [r]) ⟨t⟩
    | _=>False
   | _,_,_,_,_=>False
  | _=>False
 |.lg kd m x=>match m.ev []with
  |.map (some r)=>match b_ H r,sc (x.ev [])with
   | some (.map es),true=>match tr with
    |⟨.mp es' t⟩=>need (ZG kd (x.ev []) es=some es') (k (.tuple []) (fQ H r (some (.map es'))) [r]) ⟨t⟩
    | _=>False
   | _,_=>False
  | _=>False
 |.qO x=>match x.ev []with
  |.acc b 0 sz (n+1) true=>match b_ H b with
   | some (.cells c false sl)=>match sl||c.all AV.flat with
    | true=>k (.acc b 0 sz (n+1) true) (fQ H b (some (.cells c false true))) [b] tr
    | false=>False
   | _=>False
  | _=>False
 | _=>False
def wIf(c want:Bool)(y n:Prop):Prop :=
 match c,want with
 | true,true=>y
 | false,false=>y
 | _,_=>n
def wGd(g:Option (Nat×Bool))(l:Fast)(tr:TS)(yes no:Fast→TS→Prop):Prop :=
 match g with
 | none=>yes l tr
 | some (t,want)=>match look l t with
  |.bool c=>match tr with
   |⟨.br (b:=b) t' x y⟩=>match Nat.beq t t' with
    | true=>c=b∧((∀h,wIf true want (yes ((t,.bool true)::l) ⟨x h⟩) (no ((t,.bool true)::l) ⟨x h⟩))∧(∀h,wIf false want (yes ((t,.bool false)::l) ⟨y h⟩) (no ((t,.bool false)::l) ⟨y h⟩)))
    | false=>wIf c want (yes l tr) (no l tr)
   | _=>wIf c want (yes l tr) (no l tr)
  |.tuple _=>no l tr
  | _=>False
def Ed(l:Fast)(H:WH)(tr:TS)(k:Fast→WH→TS→Prop):Prop:=MN k tr.tr l H
def KE(C:bH)(B:FuncId→Option Bt)(n:Nat):List pX→Fast→WH→TS→(Fast→WH→TS→Prop)→Prop
 | [],l,H,tr,k=>k l H tr
 | o::r,l,H,tr,k=>Ed l H tr λl H tr=>wGd o.guard l tr
  (λl tr=>Ed l H tr λl H tr=>match o.op with
   |.p op=>ovr o.dst (wP (op.sub (look l))) tr λv tr=>KE C B n r (j5 n o.dst v l) H tr k
   |.l op=>ovr o.dst (wL (op.sub (look l)) H) tr λv tr=>KE C B n r (j5 n o.dst v l) H tr k
   |.k .makeMap=>KE C B n r (j5 n o.dst (.map (some H.length)) l) (H++[some (.map [])]) tr k
   |.k op=>wK o.dst (op.sub (look l)) tr λx mk tr=>KE C B n r (j5 n o.dst (mk H.length) l) (H++[some x]) tr k
   |.n op=>wN C B o.dst (op.sub (look l)) H tr λv H _ tr=>KE C B n r (j5 n o.dst v l) H tr k)
  (λl tr=>KE C B n r (j5 n o.dst (.tuple []) l) H tr k)
def mH:List (Nat×Nat)→Nat→Nat
 | [],_=>0
 | p::r,t=>match Nat.beq p.1 t with
  | true=>p.2
  | false=>mH r t
def mg(bt:List (Nat×Nat)):AX→Nat
 |.t t=>mH bt t
 |.c _=>0
def MO(bt:List (Nat×Nat)):Option AX→Nat
 | none=>0
 | some x=>mg bt x
def Ov(bt:List (Nat×Nat))(k:Nat):jZ→Nat
 |.move x=>mg bt x
 |.slice _ x a b c=>max (mg bt x) (max (MO bt a) (max (MO bt b) (MO bt c)))
 |.jE _ x i=>max (mg bt x) (mg bt i)
 |.l5 _ _ x i=>max (mg bt x) (mg bt i)
 |.fieldAddr _ x=>mg bt x
 |.nilCheck x=>mg bt x
 |.bin _ x y=>max (mg bt x) (mg bt y)
 |.un _ x=>mg bt x
 |.Bg _ x=>mg bt x
 |.field _ _ _ x=>mg bt x
 |.index _ _ _ x i=>max (mg bt x) (mg bt i)
 |.extract x _=>mg bt x
 |.len _ x=>mg bt x
 | _=>k
def lJ(n:Nat)(d:Option Nat)(k:Nat)(bt:List (Nat×Nat)):List (Nat×Nat) :=
 match d with
 | some d=>match Nat.blt d n with
  | true=>(d,k)::bt
  | false=>bt
 | none=>bt
mutual
def known:AV→Bool
 |.undef=>false
 |.func _ cs=>Gz cs
 |.agg cs=>Gz cs
 |.tuple cs=>Gz cs
 | _=>true
def Gz:List AV→Bool
 | []=>true
 | v::r=>match known v with
  | true=>Gz r
  | false=>false
end
def KF(l:Fast):rY→Option (Option Nat)
 |.load _ _ (.t t)=>match look l t with
  |.elem _=>some none
  |.ptr (some q)=>some (some q.1)
  | _=>none
 |.jF (.t t)=>match look l t with
  |.list ..=>some none
  |.slice none _ _ _ _=>some none
  |.acc b _ _ _ _=>some (some b)
  | _=>none
 |.qV (.t t)=>match look l t with
  |.map (some r)=>some (some r)
  | _=>none
 |.lookup _ _ _ (.t t) _=>match look l t with
  |.map (some r)=>some (some r)
  | _=>none
 | _=>none
def Cg(bt:List (Nat×Nat)):rY→Nat
 |.load _ _ x=>mg bt x
 |.jF x=>mg bt x
 | _=>0
def zo(H:WH)(base:Nat):List Nat→Bool
 | []=>true
 | m::r=>match b_ H (base+m)with
  | some (.cells _ false _)=>zo H base r
  | _=>false
def touches(b:Nat):List (List Nat×WH)→Bool
 | []=>false
 | t::r=>match nW t.1 b with
  | true=>true
  | false=>touches b r
def Ch(hs:List (List Nat×WH))(lo base:Nat)(al:List Nat):Bool:=match hs.drop lo with
 |(_,Hk)::_=>zo Hk base al
 | []=>false
def Ju(base:Nat)(al:List Nat)(l:Fast)(bt:List (Nat×Nat))(lo:Nat)(o:rY)(v:AV)(H:WH)(hs:List (List Nat×WH)):Bool :=
 match KF l o with
 | some none=>match Nat.ble (Cg bt o) (lo+1),known v,zo H base al||Ch hs lo base al with
  | true,true,true=>true
  | true,true,false=>Nat.beq (Cg bt o) 0
  | _,_,_=>false
 | some (some b)=>match known v,Nat.blt b base,touches b (hs.drop lo)with
  | true,true,false=>true
  | _,_,_=>false
 | none=>false
def Ci(base:Nat)(l:Fast)(bt:List (Nat×Nat))(lo:Nat)(o:rY)(v:AV):Bool :=
 match o with
 |.load _ _ (.t t)=>match look l t,v with
  |.ptr (some (b,_)),.int _ _=>Nat.blt b base&&Nat.ble (mH bt t) (lo+1)
  |.ptr (some (b,_)),.str _=>Nat.blt b base&&Nat.ble (mH bt t) (lo+1)
  |.ptr (some (b,_)),.bool _=>Nat.blt b base&&Nat.ble (mH bt t) (lo+1)
  | _,_=>false
 | _=>false
def Fx(o:rY)(x:Option AV)(k:TS→Prop):List (List Nat×WH)→TS→Prop
 | [],tr=>k tr
 | h::r,tr=>need (wL o h.2=x) (Fx o x k r) tr
def Uz(l:Fast):rY→Option Nat
 |.load _ _ (.t t)=>match look l t with
  |.ptr (some q)=>some q.1
  | _=>none
 | _=>none
def zX(C:bH)(B:FuncId→Option Bt)(n base nk:Nat):List d9→Fast→WH→TS→List (List Nat×WH)→List (Nat×Nat)→List Nat→(Fast→WH→TS→Prop)→Prop
 | [],l,H,tr,_,_,_,k=>k l H tr
 | d::r,l,H,tr,hs,bt,al,k=>Ed l H tr λl H tr=>wGd d.o.guard l tr
  (λl tr=>Ed l H tr λl H tr=>match d.o.op with
   |.p op=>ovr d.o.dst (wP (op.sub (look l))) tr λv tr=>zX C B n base nk r (j5 n d.o.dst v l) H tr hs (lJ n d.o.dst (Ov bt (hs.length+1) op) bt) al k
   |.l op=>ovr d.o.dst (wL (op.sub (look l)) H) tr λv tr=>match Ju base al l bt d.lo op v H hs with
    | true=>match tr with
     |⟨.er t⟩=>match Uz l op,Nat.ble (Cg bt op) (d.lo+1)with
      | some _,true=>Fx (op.sub (look l)) (wL (op.sub (look l)) H) (λtr=>zX C B n base nk r (j5 n d.o.dst v l) H tr hs (lJ n d.o.dst (d.lo+1) bt) al k) (hs.drop d.lo) ⟨t⟩
      | _,_=>False
     | _=>zX C B n base nk r (j5 n d.o.dst v l) H tr hs (lJ n d.o.dst (hs.length+1) bt) al k
    | false=>match Ci base l bt d.lo op v with
     | true=>Fx (op.sub (look l)) (wL (op.sub (look l)) H) (λtr=>zX C B n base nk r (j5 n d.o.dst v l) H tr hs (lJ n d.o.dst (hs.length+1) bt) al k) (hs.drop d.lo) tr
     | false=>False
   |.k op=>match Nat.blt d.ix nk,nW al d.ix with
    | true,false=>wK d.o.dst (op.sub (look l)) tr λx mk tr=>zX C B n base nk r (j5 n d.o.dst (mk (base+d.ix)) l) (fQ H (base+d.ix) (some x)) tr hs (lJ n d.o.dst (hs.length+1) bt) (d.ix::al) k
    | _,_=>False
   |.n op=>wN C B d.o.dst (op.sub (look l)) H tr λv H' t tr=>zX C B n base nk r (j5 n d.o.dst v l) H' tr (hs++[(t,H)]) (lJ n d.o.dst (hs.length+2) bt) al k)
  (λl tr=>match d.o.op with
   |.n _=>zX C B n base nk r (j5 n d.o.dst (.tuple []) l) H tr (hs++[([],H)]) (lJ n d.o.dst (hs.length+2) bt) al k
   | _=>zX C B n base nk r (j5 n d.o.dst (.tuple []) l) H tr hs (lJ n d.o.dst (hs.length+1) bt) al k)
def holes:Nat→WH
 | 0=>[]
 | k+1=>none::holes k
def wz(C:bH)(B:FuncId→Option Bt)(K n np:Nat):dI→Fast→WH→TS→(Ex→Fast→WH→TS→Prop)→Prop
 |.skip,l,H,tr,k=>k .normal l H tr
 |.reg ops,l,H,tr,k=>KE C B n ops l H tr (k .normal)
 |.Ii nk ops,l,H,tr,k=>zX C B n H.length nk ops l (H++holes nk) tr [] [] [] (k .normal)
 |.seq a b,l,H,tr,k=>Ed l H tr λl H tr=>match abV tr with
  | true=>match Xr tr with
   |⟨.jn keep ms bs ts ex outs out r⟩=>Jt np ms bs ts (keep.map (look l)) (Xt tr H) λvs blks=>need (PZ (bM C K n a) np (iX keep vs) blks ex outs out) (λr =>
    match ex with
    |.normal=>wz C B K n np b outs out r k
    | ex=>k ex outs out r) ⟨r⟩
   | _=>False
  | false=>wz C B K n np a l H (match tr with
   |⟨.sk r⟩=>⟨r⟩
   | tr=>tr) λex l H tr=>match ex with
   |.normal=>wz C B K n np b l H tr k
   | ex=>k ex l H tr
 | .cond c a b,l,H,tr,k=>Ed l H tr λl H tr=>wGd (match c with
   |.t t=>some (t,true)
   |.c _=>none) l tr
  (λl tr=>match c with
   |.t _=>wz C B K n np a l H tr k
   |.c (.bool true)=>wz C B K n np a l H tr k
   |.c (.bool false)=>wz C B K n np b l H tr k
   | _=>False)
  (λl tr=>match look l (match c with
   |.t t=>t
   |.c _=>0)with
   |.bool _=>wz C B K n np b l H tr k
   | _=>False)
 |.block id c,l,H,tr,k=>wz C B K n np c l H tr λex l H tr=>match ex with
  |.exit i=>match Nat.beq i id with
   | true=>k .normal l H tr
   | false=>k (.exit i) l H tr
  | ex=>k ex l H tr
 |.loop keep c,l,H,tr,k=>Ed l H tr λl H tr=>match Xr tr with
  |⟨.lp ms bs ts ex outs out r⟩=>Jt np ms bs ts (keep.map (look l)) (Xt tr H) λvs blks=>need (PZ (jW (bM C K n c) keep K) np (iX keep vs) blks ex outs out) (k ex outs out) ⟨r⟩
  | _=>False
 |.exit id,l,H,tr,k=>k (.exit id) l H tr
 |.ret,l,H,tr,k=>k .ret l H tr
 |.fail,_,_,_,_=>False
def Xv(r:zR)(l:Fast)(H:WH):Option AV :=
 match r with
 |.tmp t=>match look l t with
  |.undef=>none
  | v=>some v
 |.cell t agg n=>wL (.load agg n (.c (look l t))) H
def Ow:List zR→Fast→WH→Option (List AV)
 | [],_,_=>some []
 | r::rs,l,H=>match Xv r l H,Ow rs l H with
  | some v,some vs=>some (v::vs)
  | _,_=>none
def Fy(rs:List zR)(l:Fast)(H:WH):Option AV:=match Ow rs l H with
 | some [v]=>some v
 | some vs=>some (.tuple vs)
 | none=>none
def aa2(tr:TS):Option Lf:=match Xr tr with
 |⟨.leaf x _⟩=>some x
 |⟨.Bo x _ _ _⟩=>some x
 | _=>none
def Xw(np:Nat)(v:AV)(H:WH)(tr:TS)(v':AV)(out:WH):Prop :=
 match aa2 tr with
 | some (.fin m ts mc)=>match nrm m (retag v (ts.headD .undef)) (Xt tr H)with
  |(v,H)=>match HZ [] mc (Fv H np (u_ v)) H with
   | H=>match Fv H np (u_ v)with
    | p=>rn (sD p) v=v'∧qj H p p=out
 | _=>False
def ZJ(C:bH)(B:FuncId→Option Bt)(K:Nat)(f:dD)(args:List AV)(blks:WH)(tr:TS)(v:AV)(out:WH):Prop :=
 wz C B K f.ntmps blks.length f.code (start 0 (args++List.replicate (f.ntmps-f.nargs) (.tuple []))) blks tr λex l H tr=>Ed l H tr λl H tr=>match ex with
  |.exit _=>False
  | _=>match Fy f.results l H with
   | some u=>Xw blks.length u H tr v out
   | none=>False
def ZK(np:Nat)(e:Ex)(l:Fast)(H:WH)(tr:TS)(x:Ex×Fast×WH):Prop :=
 Ed l H tr λl H tr=>match aa2 tr with
 | some (.en keep ms bs ts)=>Jt np ms bs ts (keep.map (look l)) (Xt tr H) λvs blks=>e=x.1∧iX keep vs=x.2.1∧blks=x.2.2
 | _=>False
def ZL(C:bH)(B:FuncId→Option Bt)(K n np:Nat)(c:dI)(ins:Fast)(blks:WH)(tr:TS)(x:Ex×Fast×WH):Prop :=
 wz C B K n np c ins blks tr λe l H tr=>ZK np e l H tr x
theorem iM{Q:Prop}{k:TS→Prop}{tr:TS}(h:need Q k tr):∃iN,Q∧k iN:=by
 unfold need at h
 split at h
 ·exact⟨_,h⟩
 ·exact h.elim
theorem VI.Le.refl(κ:VI)(S:Nat→Prop):VI.Le κ κ S:=λ_ _=>⟨λ_ h=>⟨h,λ_ h=>h⟩,λh=>⟨h,λ_ h=>h⟩⟩
theorem VI.Le.Rk(κ:VI)(S:Nat→Prop):VI.Le VI.none κ S:=λ_ _=>⟨(λ_ h=>by cases h),(λh=>by cases h)⟩
theorem VI.Le.sub{κ qC:VI}{S T:Nat→Prop}(h:VI.Le κ qC S)(k:∀i,T i→S i):VI.Le κ qC T:=λi hi=>h i (k i hi)
theorem VI.Le.trans{κ κ1 κ2:VI}{S:Nat→Prop}(h:VI.Le κ κ1 S)(k:VI.Le κ1 κ2 S):VI.Le κ κ2 S:=λi hi =>
 ⟨λj hj=>⟨((k i hi).1 j ((h i hi).1 j hj).1).1,λd hd=>((k i hi).1 j ((h i hi).1 j hj).1).2 d (((h i hi).1 j hj).2 d hd)⟩,
  λhj=>⟨((k i hi).2 ((h i hi).2 hj).1).1,λd hd=>((k i hi).2 ((h i hi).2 hj).1).2 d (((h i hi).2 hj).2 d hd)⟩⟩
theorem Keeps.refl(M:Heap)(O:Nat→Prop):Keeps M O M O:=⟨Nat.le_refl _,λ_ _ h=>⟨rfl,h⟩⟩
theorem Keeps.trans{M M1 M2:Heap}{O O1 O2:Nat→Prop}(h:Keeps M O M1 O1)(k:Keeps M1 O1 M2 O2):Keeps M O M2 O2 :=
 ⟨Nat.le_trans h.next k.next,λb hb ho=>by
  obtain⟨e1,o1⟩:=h.get b hb ho
  obtain⟨e2,o2⟩:=k.get b (Nat.lt_of_lt_of_le hb h.next) o1
  exact⟨e2.trans e1,o2⟩⟩
theorem Keeps.or{M M':Heap}{ι bI:VI}(h:Keeps M (own ι) M' (own bI))(R:Nat→Prop):Keeps M (OR R ι) M' (OR R bI) :=
 ⟨h.next,λb hb ho=>by
  obtain⟨e1,e2⟩:=h.get b hb (λk=>ho (.inl k))
  exact⟨e1,λk=>k.elim e2 (λk=>ho (.inr k))⟩⟩
mutual
theorem VL.mono{M M':Heap}{O O':Nat→Prop}(hk:Keeps M O M' O'):∀(κ qC:VI) (v a:AV),VI.Le κ qC (λi=>i∈u_ v)→VL M O κ v a→VL M' O' qC v a
 | _,_,.undef,_,_,_=>by simp[VL]
 | _,_,.bool _,_,_,e=>by simpa[VL]using e
 | _,_,.int _ _,_,_,e=>by simpa[VL]using e
 | _,_,.str _,_,_,e=>by simpa[VL]using e
 | _,_,.ptr none,_,_,e=>by simpa[VL]using e
 | κ,qC,.ptr (some q),_,h,e=>by
  simp only[VL]at e ⊢
  obtain⟨j,h1,h2⟩:=e
  exact⟨j,((h _ (by simp[u_])).1 _ h1).1,h2⟩
 | _,_,.slice none _ _ _ _,_,_,e=>by simpa[VL]using e
 | _,_,.slice (some _) _ _ _ _,_,_,e=>by simp[VL]at e
 | _,_,.map none,_,_,e=>by simpa[VL]using e
 | κ,qC,.map (some r),_,h,e=>by
  simp only[VL]at e ⊢
  obtain⟨j,h1,h2⟩:=e
  exact⟨j,((h _ (by simp[u_])).1 _ h1).1,h2⟩
 | κ,qC,.func f cs,_,h,e=>by
  simp only[VL]at e ⊢
  obtain⟨cs',h1,h2⟩:=e
  exact⟨cs',h1,bL.mono hk κ qC cs cs' (h.sub λi hi=>by simpa[u_]using hi) h2⟩
 | _,_,.nilFunc,_,_,e=>by simpa[VL]using e
 | κ,qC,.agg cs,_,h,e=>by
  simp only[VL]at e ⊢
  obtain⟨cs',h1,h2⟩:=e
  exact⟨cs',h1,bL.mono hk κ qC cs cs' (h.sub λi hi=>by simpa[u_]using hi) h2⟩
 | κ,qC,.tuple cs,_,h,e=>by
  simp only[VL]at e ⊢
  obtain⟨cs',h1,h2⟩:=e
  exact⟨cs',h1,bL.mono hk κ qC cs cs' (h.sub λi hi=>by simpa[u_]using hi) h2⟩
 | _,_,.list sz len cs ex,_,_,e=>by
  simp only[VL]at e ⊢
  rcases e with e |⟨b,o,cap,ex',h1,h2,h3,h4,h5⟩
  ·exact .inl e
  refine .inr ⟨b,o,cap,ex',h1,h2,h3,h4,λhl=>?_⟩
  obtain⟨c,ro,sl,g1,g2,g3,g4,g5⟩:=h5 hl
  obtain⟨e1,e2⟩:=hk.get b g3 g2
  exact⟨c,ro,sl,e1.trans g1,e2,Nat.lt_of_lt_of_le g3 hk.next,g4,bL.mono hk _ _ cs _ (VI.Le.refl _ _) g5⟩
 | _,_,.elem cs,_,_,e=>by
  simp only[VL]at e ⊢
  obtain⟨b,o,c,ro,sl,h1,g1,g2,g3,g5⟩:=e
  obtain⟨e1,e2⟩:=hk.get b g3 g2
  exact⟨b,o,c,ro,sl,h1,e1.trans g1,e2,Nat.lt_of_lt_of_le g3 hk.next,bL.mono hk _ _ cs _ (VI.Le.refl _ _) g5⟩
 | κ,qC,.acc b o sz n w,_,h,e=>by
  simp only[VL]at e ⊢
  obtain⟨p,s',cap,ex,h1,h2,h3,h4,m,L,h5,h6,h7,h8⟩:=e
  have hl:=h b (by simp[u_])
  rcases h8 with⟨j,k1,k2⟩ |⟨k1,k2⟩
  ·obtain⟨g1,g2⟩:=hl.1 j k1
   exact⟨p,s',cap,ex,h1,h2,h3,h4,m,L,g2 _ h5,h6,h7,.inl ⟨j,g1,k2⟩⟩
  ·obtain⟨g1,g2⟩:=hl.2 k1
   exact⟨p,s',cap,ex,h1,h2,h3,h4,m,L,g2 _ h5,h6,h7,.inr ⟨g1,k2⟩⟩
theorem bL.mono{M M':Heap}{O O':Nat→Prop}(hk:Keeps M O M' O'):∀(κ qC:VI) (l r:List AV),VI.Le κ qC (λi=>i∈jQ l)→bL M O κ l r→bL M' O' qC l r
 | _,_,[],[],_,_=>by simp[bL]
 | κ,qC,a::l,v::r,h,e=>by
  simp only[bL]at e ⊢
  exact⟨VL.mono hk κ qC a v (h.sub λi hi=>by simp[jQ,hi]) e.1,bL.mono hk κ qC l r (h.sub λi hi=>by simp[jQ,hi]) e.2⟩
 | _,_,[],_::_,_,e=>by simp[bL]at e
 | _,_,_::_,[],_,e=>by simp[bL]at e
end
section
variable {M:Heap} {O:Nat→Prop} {κ:VI}
theorem bL.length:∀ {l r:List AV},bL M O κ l r→l.length=r.length
 | [],[],_=>rfl
 | _::l,_::r,e=>by
  simp only[bL]at e
  simp[bL.length e.2]
 | [],_::_,e=>by simp[bL]at e
 | _::_,[],e=>by simp[bL]at e
theorem bL.get:∀ {l r:List AV},bL M O κ l r→∀(i:Nat) (a:AV),l[i]?=some a→∃v,r[i]?=some v∧VL M O κ a v
 | [],_,_,i,a,h=>by simp at h
 | a::l,v::r,e,i,x,h=>by
  simp only[bL]at e
  cases i with
  | zero =>
   simp at h
   subst h
   exact⟨v,by simp,e.1⟩
  | succ i=>simpa using bL.get e.2 i x (by simpa using h)
 | _::_,[],e,_,_,_=>by simp[bL]at e
theorem bL.append:∀ {l l' r r':List AV},bL M O κ l r→bL M O κ l' r'→bL M O κ (l++l') (r++r')
 | [],_,[],_,_,h=>by simpa using h
 | a::l,_,v::r,_,e,h=>by
  simp only[bL,List.cons_append]at e ⊢
  exact⟨e.1,bL.append e.2 h⟩
 | [],_,_::_,_,e,_=>by simp[bL]at e
 | _::_,_,[],_,e,_=>by simp[bL]at e
theorem bL.drop:∀ {l r:List AV} (n:Nat),bL M O κ l r→bL M O κ (l.drop n) (r.drop n)
 | _,_,0,e=>by simpa using e
 | [],[],_+1,e=>by simpa using e
 | _::l,_::r,n+1,e=>by
  simp only[bL]at e
  simpa using bL.drop n e.2
 | [],_::_,_+1,e=>by simp[bL]at e
 | _::_,[],_+1,e=>by simp[bL]at e
theorem bL.take:∀ {l r:List AV} (n:Nat),bL M O κ l r→bL M O κ (l.take n) (r.take n)
 | _,_,0,e=>by simp[bL]
 | [],[],_+1,e=>by simp[bL]
 | _::l,_::r,n+1,e=>by
  simp only[bL]at e
  simp only[List.take_succ_cons,bL]
  exact⟨e.1,bL.take n e.2⟩
 | [],_::_,_+1,e=>by simp[bL]at e
 | _::_,[],_+1,e=>by simp[bL]at e
theorem bL.same{l r:List AV}(h:bL M O κ l r){n:Nat}(hn:n≤l.length):n≤r.length:=by rw[←h.length];exact hn
theorem VL.eH{v a:AV}(h:v.eH=true)(r:VL M O κ v a):a.eH=true:=by
 cases v with
 | undef=>simp[AV.eH]at h
 | agg _=>simp[AV.eH]at h
 | tuple _=>simp[AV.eH]at h
 | ptr p=>cases p<;>simp only[VL]at r<;>first |(subst r;rfl) |(obtain⟨_,_,rfl⟩:=r;rfl)
 | slice p=>cases p<;>simp only[VL]at r;obtain⟨_,_,rfl⟩:=r;rfl
 | map p=>cases p<;>simp only[VL]at r<;>first |(subst r;rfl) |(obtain⟨_,_,rfl⟩:=r;rfl)
 | func f cs=>simp only[VL]at r;obtain⟨_,rfl,_⟩:=r;rfl
 | list=>simp only[VL]at r;rcases r with⟨_,_,_,rfl⟩ |⟨_,_,_,_,rfl,_⟩<;>rfl
 | elem=>simp only[VL]at r;obtain⟨_,_,_,_,_,rfl,_⟩:=r;rfl
 | acc=>simp only[VL]at r;obtain⟨_,_,_,_,rfl,_⟩:=r;rfl
 | _=>simp only[VL]at r;subst r;rfl
theorem VL.cells{v a:AV}{cs:List AV}(h:v.cells?=some cs)(r:VL M O κ v a):∃cs',a.cells?=some cs'∧bL M O κ cs cs':=by
 cases v with
 | undef=>simp[AV.cells?]at h
 | tuple _=>simp[AV.cells?]at h
 | agg l =>
  simp only[AV.cells?]at h
  split at h
  case isFalse=>cases h
  rename_i hall
  obtain rfl:=ak h
  simp only[VL]at r
  obtain⟨cs',rfl,hr⟩:=r
  refine⟨cs', ?_,hr⟩
  simp only[AV.cells?]
  rw[if_pos]
  rw[List.all_eq_true]
  intro x hx
  obtain⟨i,hi⟩:=List.mem_iff_getElem?.1 hx
  have hlt:i<l.length:=by rw[hr.length];exact(aM.1 hi).1
  obtain⟨y,hy,hyx⟩:=hr.get i _ (bn hlt)
  rw[hi]at hy
  obtain rfl:=ak hy
  exact hyx.eH (List.all_eq_true.1 hall _ (List.getElem_mem hlt))
 | _ =>
  all_goals
   simp only[AV.cells?,av]at h
   subst h
   have hc:=VL.eH (by rfl) r
   refine⟨[a], ?_,by simp only[bL];exact⟨r,trivial⟩⟩
   cases a<;>simp_all [AV.cells?,AV.eH]
end
mutual
def sG:AV→Bool
 |.ptr (some _) |.slice (some _) _ _ _ _ |.map (some _) |.list .. |.elem _ |.acc ..=>false
 |.slice none _ l c e=>l==0&&c==0&&e
 |.func _ cs=>pI cs
 |.agg cs=>pI cs
 |.tuple cs=>pI cs
 | _=>true
def pI:List AV→Bool
 | []=>true
 | v::r=>sG v&&pI r
end
mutual
theorem VL.const{M:Heap}{O:Nat→Prop}{κ:VI}:∀v:AV,sG v=true→VL M O κ v v
 |.undef,_=>by simp[VL]
 |.bool _,_=>by simp[VL]
 |.int _ _,_=>by simp[VL]
 |.str _,_=>by simp[VL]
 |.ptr none,_=>by simp[VL]
 |.ptr (some _),h=>by simp[sG]at h
 |.slice none s l c e,h=>by
  simp only[sG,Bool.and_eq_true,beq_iff_eq]at h
  simp only[VL]
  exact⟨⟨h.1.1,h.1.2,h.2⟩,s,by rw[h.1.1,h.1.2,h.2]⟩
 |.slice (some _) _ _ _ _,h=>by simp[sG]at h
 |.map none,_=>by simp[VL]
 |.map (some _),h=>by simp[sG]at h
 |.func f cs,h=>by simp only[VL];exact⟨cs,rfl,bL.const cs (by simpa[sG]using h)⟩
 |.nilFunc,_=>by simp[VL]
 |.agg cs,h=>by simp only[VL];exact⟨cs,rfl,bL.const cs (by simpa[sG]using h)⟩
 |.tuple cs,h=>by simp only[VL];exact⟨cs,rfl,bL.const cs (by simpa[sG]using h)⟩
 |.list ..,h=>by simp[sG]at h
 |.elem _,h=>by simp[sG]at h
 |.acc ..,h=>by simp[sG]at h
theorem bL.const{M:Heap}{O:Nat→Prop}{κ:VI}:∀l:List AV,pI l=true→bL M O κ l l
 | [],_=>by simp[bL]
 | v::r,h=>by
  simp only[pI,Bool.and_eq_true]at h
  simp only[bL]
  exact⟨VL.const v h.1,bL.const r h.2⟩
end
theorem bL.jo{M:Heap}{O:Nat→Prop}{κ:VI}{z:List AV}(h:pI z=true):∀n,bL M O κ (jo n z) (jo n z)
 | 0=>by simp[Proofs.Ytkedeiklmpkgkaa.jo,bL]
 | n+1=>(bL.const z h).append (bL.jo h n)
def AX.cZ:AX→Bool
 |.t _=>true
 |.c v=>sG v
def okO:Option AX→Bool
 | none=>true
 | some x=>x.cZ
def jZ.cZ:jZ→Bool
 |.move x=>x.cZ
 |.pick c a b=>c.cZ&&a.cZ&&b.cZ
 |.build z ps=>pI z&&ps.all λp=>p.2.2.cZ
 |.nilCheck x=>x.cZ
 |.bin _ x y=>x.cZ&&y.cZ
 |.TJ _ x y=>x.cZ&&y.cZ
 |.TK _ _ x y=>x.cZ&&y.cZ
 |.TL _ x y=>x.cZ&&y.cZ
 |.R4 _ x y=>x.cZ&&y.cZ
 |.un _ x=>x.cZ
 |.Bg _ x=>x.cZ
 |.BS x=>x.cZ
 |.vP _ cs=>cs.all AX.cZ
 |.lD x a b=>x.cZ&&okO a&&okO b
 |.slice _ x a b c=>x.cZ&&okO a&&okO b&&okO c
 |.fieldAddr _ x=>x.cZ
 |.field _ _ _ x=>x.cZ
 |.l5 _ _ x i=>x.cZ&&i.cZ
 |.jE _ x i=>x.cZ&&i.cZ
 |.index _ _ _ x i=>x.cZ&&i.cZ
 |.n_ x i=>x.cZ&&i.cZ
 |.extract x _=>x.cZ
 |.len _ x=>x.cZ
 |.cap x=>x.cZ
 |.rZ _ xs=>xs.all AX.cZ
def rY.cZ:rY→Bool
 |.load _ _ x=>x.cZ
 |.jF x=>x.cZ
 |.qV x=>x.cZ
 |.lookup _ _ z x k=>sG z&&x.cZ&&k.cZ
def Bh.cZ:Bh→Bool
 |.alloc z=>pI z
 |.box x=>x.cZ
 |.buildSlice _ _ z ps=>pI z&&ps.all λp=>p.2.cZ
 |.makeSlice _ _ z l c=>pI z&&l.cZ&&c.cZ
 |.l6 x=>x.cZ
 |.makeMap=>true
def vO.cZ:vO→Bool
 |.store _ a v=>a.cZ&&v.cZ
 |.call f xs=>f.cZ&&xs.all AX.cZ
 |.append _ _ s x=>s.cZ&&x.cZ
 |.r9 _ _ z s n=>pI z&&s.cZ&&n.cZ
 |.copy _ d s=>d.cZ&&s.cZ
 |.clear _ z x=>pI z&&x.cZ
 |.mapUpdate _ m k v=>m.cZ&&k.cZ&&v.cZ
 |.lg _ m k=>m.cZ&&k.cZ
 |.qO x=>x.cZ
 |.fail=>true
def uT.cZ:uT→Bool
 |.p o=>o.cZ
 |.l o=>o.cZ
 |.k o=>o.cZ
 |.n o=>o.cZ
def dI.cZ:dI→Bool
 |.reg ops=>ops.all λo=>o.op.cZ
 |.Ii _ ops=>ops.all λd=>d.o.op.cZ
 |.seq a b=>a.cZ&&b.cZ
 |.cond c a b=>c.cZ&&a.cZ&&b.cZ
 |.block _ c=>c.cZ
 |.loop _ c=>c.cZ
 | _=>true
def AV.oq:AV→Bool
 |.bool _ |.int _ _ |.str _=>true
 | _=>false
section
variable {M:Heap} {O:Nat→Prop} {κ:VI}
theorem VL.oq{v:AV}(h:v.oq=true):VL M O κ v v:=by
 cases v<;>simp[AV.oq]at h<;>simp[VL]
theorem VL.eq{v a:AV}(h:v.oq=true)(r:VL M O κ v a):a=v:=by
 cases v<;>simp[AV.oq]at h<;>simpa[VL]using r
theorem P5{op:BinOp}{k:IntKind}{x y:Int}{v:AV}(h:zS op k x y=some v):v.oq=true:=by
 cases op<;>simp only[zS]at h
 all_goals first |(cases h;rfl) |(cases h;done) |(split at h<;>cases h<;>rfl)
theorem P6{op:BinOp}{x y:List UInt8}{v:AV}(h:NJ op x y=some v):v.oq=true:=by
 cases op<;>simp only[NJ]at h
 all_goals first |(cases h;rfl) |(cases h;done) |(split at h<;>cases h<;>rfl)
theorem Sq{op:BinOp}{x y v:AV}(h:Ij op x y=some v):v.oq=true∧x.oq=true∧y.oq=true:=by
 cases x<;>cases y<;>simp only[Ij]at h<;>first |(cases h;done) | skip
 ·refine⟨?_,rfl,rfl⟩
  split at h
  ·split at h<;>cases h<;>rfl
  ·split at h<;>cases h<;>rfl
  ·split at h
   ·exact P5 h
   ·cases h
 ·exact⟨P6 h,rfl,rfl⟩
theorem Ox{k:Kd}{x y x' y':AV}{b:Bool}(hx:VL M O κ x x')(hy:VL M O κ y y')(h:Ik k x y=some b):Ik k x' y'=some b:=by
 have hs:x.oq=true∧y.oq=true:=by
  cases k<;>cases x<;>simp only[Ik]at h<;>first |(cases h;done) |(cases y<;>simp only at h<;>first |(cases h;done) | exact⟨rfl,rfl⟩)
 rw[hx.eq hs.1,hy.eq hs.2]
 exact h
theorem Ll:∀ {ks:List Kd} {l r l' r':List AV} {b:Bool},bL M O κ l l'→bL M O κ r r'→ku ks l r=some b→ku ks l' r'=some b
 | [],[],[],l',r',b,hl,hr,h=>by
  cases l' with
  | cons _ _=>simp[bL]at hl
  | nil=>cases r' with
   | cons _ _=>simp[bL]at hr
   | nil=>exact h
 | k::ks,a::l,c::r,l',r',b,hl,hr,h=>by
  cases l' with
  | nil=>simp[bL]at hl
  | cons a' l' =>
   cases r' with
   | nil=>simp[bL]at hr
   | cons c' r' =>
    simp only[bL]at hl hr
    simp only[ku]at h ⊢
    split at h
    ·rename_i x y h1 h2
     rw[Ox hl.1 hr.1 h1,Ll hl.2 hr.2 h2]
     exact h
    ·cases h
 | [],[],_::_,_,_,_,_,_,h=>by simp[ku]at h
 | [],_::_,_,_,_,_,_,_,h=>by simp[ku]at h
 | _::_,[],_,_,_,_,_,_,h=>by simp[ku]at h
 | _::_,_::_,[],_,_,_,_,_,h=>by simp[ku]at h
theorem UA{x y x' y':AV}{b:Bool}(hx:VL M O κ x x')(hy:VL M O κ y y')(h:Ky x y=some b):Ky x' y'=some b:=by
 unfold Ky at h
 split at h
 ·rename_i c
  simp only[VL]at hx
  subst hx
  cases c with
  | none=>simp only[VL]at hy;subst hy;simpa[Ky]using h
  | some c=>simp only[VL]at hy;obtain⟨j,_,rfl⟩:=hy;simpa[Ky]using h
 ·simp only[VL]at hx hy
  obtain⟨j,_,rfl⟩:=hx
  subst hy
  simpa[Ky]using h
 ·rename_i c d
  simp only[VL]at hx hy
  obtain⟨j,h1,rfl⟩:=hx
  obtain⟨j',h2,rfl⟩:=hy
  split at h
  ·rename_i e
   rw[e,h2]at h1
   obtain rfl:=ak h1
   simpa[Ky]using h
  ·cases h
 ·cases h
theorem P7{v a:AV}{m n:Nat}(r:VL M O κ v a)(h:lS v m=some n):lS a m=some n:=by
 cases v<;>simp only[lS]at h<;>first |(cases h;done) | skip
 simp only[VL]at r
 subst r
 simpa[lS]using h
theorem fI{v:AV}{m m' n:Nat}(h:lS v m=some n)(hm:m≤m'):lS v m'=some n∧n≤m:=by
 cases v<;>simp only[lS]at h<;>first |(cases h;done) | skip
 split at h
 case isFalse=>cases h
 rename_i k i hi
 obtain rfl:=ak h
 simp only[lS]
 rw[if_pos (by omega)]
 exact⟨rfl,by omega⟩
theorem MP{m:Bool}{x y v:AV}(h:IQ m x y=some v):v.oq=true∧x.oq=true∧y.oq=true:=by
 cases x<;>cases y<;>simp only[IQ]at h<;>first |(cases h;done) | skip
 split at h<;>cases h<;>exact⟨rfl,rfl,rfl⟩
theorem Lm{m:Bool}:∀ {l l':List AV} {x x' v:AV},VL M O κ x x'→bL M O κ l l'→E8 m x l=some v→∃a,E8 m x' l'=some a∧VL M O κ v a
 | [],l',x,x',v,hx,hl,h=>by
  have:=hl.length
  cases l'<;>simp at this
  simp only[E8,av]at h ⊢
  subst h
  exact⟨x',rfl,hx⟩
 | y::l,l',x,x',v,hx,hl,h=>by
  cases l' with
  | nil=>simp[bL]at hl
  | cons y' l' =>
   simp only[bL]at hl
   simp only[E8]at h ⊢
   obtain⟨z,h1,h2⟩:=aF.1 h
   obtain⟨s1,s2,s3⟩:=MP h1
   obtain rfl:=hx.eq s2
   obtain rfl:=hl.1.eq s3
   rw[h1,au]
   exact Lm (VL.oq s1) hl.2 h2
theorem Lr{g:Bool}{off n:Nat}{cs cs':List AV}{v:AV}(r:bL M O κ cs cs')(h:wo g off n cs=some v):∃a,wo g off n cs'=some a∧VL M O κ v a:=by
 unfold wo at h ⊢
 cases g with
 | true =>
  simp only[if_true,av]at h ⊢
  subst h
  exact⟨_,rfl,by simp only[VL];exact⟨_,rfl,(r.drop off).take n⟩⟩
 | false =>
  simp only[Bool.false_eq_true,if_false]at h ⊢
  exact r.get off v h
theorem KG{c:List AV}{o n l m:Nat}(h:l+m≤n):((((c.drop o).take n).drop l).take m)=((c.drop (o+l)).take m):=by
 rw[List.drop_take,List.take_take,List.drop_drop,Nat.min_eq_left (by omega)]
theorem Ls {sz len h l:Nat} {cs:List AV} {b o:Nat} {ex1:Bool} {Xx:Nat} {MQ:Bool} (hl:l≤h) (hh:h≤len) (hcs:cs.length=len*sz)
  (hc:len≠0→∃c ro sl,M.get b=some (.cells c ro sl)∧¬O b∧b<M.next∧o+len*sz≤c.length∧bL M O VI.none cs ((c.drop o).take (len*sz))) (h1:h-l≤Xx) (h2:MQ=true→ex1=true∧Xx=h-l) :
  VL M O κ (.list sz (h-l) ((cs.drop (l*sz)).take ((h-l)*sz)) MQ) (.slice (some (b,o+l*sz)) sz (h-l) Xx ex1):=by
 have e:l*sz+(h-l)*sz=h*sz:=by rw[←Nat.add_mul];congr 1;omega
 have e2:h*sz≤len*sz:=Nat.mul_le_mul_right _ hh
 simp only[VL]
 refine .inr ⟨b,_,Xx,ex1,rfl,h1,h2, ?_,λhne=>?_⟩
 ·rw[aV,aS,hcs]
  omega
 ·obtain⟨c,ro,sl,g1,g2,g3,g4,g5⟩:=hc (by omega)
  refine⟨c,ro,sl,g1,g2,g3,by omega, ?_⟩
  have:=(g5.drop (l*sz)).take ((h-l)*sz)
  rwa [KG (by omega)]at this
theorem Oy:∀ {n:Nat} {l r:List AV},Cc n l=some r→n≤l.length∧r=l.take n
 | 0,l,r,h=>by simp only[Cc,av]at h;subst h;simp
 | n+1,[],r,h=>by simp[Cc]at h
 | n+1,c::l,r,h=>by
  simp only[Cc]at h
  split at h
  case h_2=>cases h
  rename_i q hq
  obtain rfl:=ak h
  obtain⟨h1,h2⟩:=Oy hq
  exact⟨by simp;omega,by simp[h2]⟩
theorem UC:∀ {l:List AV} {i:Nat},Rj l i=l[i]?
 | [],i=>by simp[Rj]
 | v::_,0=>by simp[Rj]
 | _::r,i+1=>by simp[Rj,UC (l:=r)]
theorem Jv{g:Bool}{off n:Nat}{cs:List AV}{v:AV}(h:qB g off n cs=some v):wo g off n cs=some v∧(g=true→n≤(cs.drop off).length):=by
 unfold qB at h
 cases g with
 | true =>
  simp only at h
  split at h
  case h_2=>cases h
  rename_i l hl
  obtain rfl:=ak h
  obtain⟨h1,rfl⟩:=Oy hl
  exact⟨by simp[wo],λ_=>h1⟩
 | false =>
  simp only at h
  rw[UC]at h
  exact⟨by simpa[wo]using h,λh=>by cases h⟩
theorem Jw {b off sz n cap m L l y cap':Nat} {ex ex':Bool} {p:Option (Nat×Nat)} (hn:n≤cap) (hnp:p=none→cap=0∧ex=true) (hd:κ.dim b=some (m,L)) (hm:off+n*sz≤m)
  (hx:(∃j,κ b=some j∧((p=some (j,off)∧off+cap*sz≤L)∨(n=0∧cap=0∧ex=true)))∨(κ.Gy b=true∧n=0∧cap=0∧ex=true∧m=0))
  (h1:l≤y) (h2:y≤n) (h3:y-l≤cap') (h4:cap'≤cap-l) (h5:cap=0→ex=true→ex'=true) :
  VL M O κ (.acc b (off+l*sz) sz (y-l) false) (.slice (jO p (l*sz)) sz (y-l) cap' ex'):=by
 have e1:l*sz+(y-l)*sz=y*sz:=by rw[←Nat.add_mul];congr 1;omega
 have e2:y*sz≤n*sz:=Nat.mul_le_mul_right _ h2
 have e3:l*sz+cap'*sz≤cap*sz:=by rw[←Nat.add_mul];exact Nat.mul_le_mul_right _ (by omega)
 simp only[VL]
 refine⟨_,_,_,_,rfl,h3,λhp=>?_,λ_=>rfl,m,L,hd,by omega,(λh=>by cases h), ?_⟩
 ·cases p with
  | none=>exact⟨by have:=(hnp rfl).1;omega,h5 (hnp rfl).1 (hnp rfl).2⟩
  | some p=>simp[jO]at hp
 ·rcases hx with⟨j,g1,g2⟩ |⟨g1,g2,g3,g4,g5⟩
  ·refine .inl ⟨j,g1, ?_⟩
   rcases g2 with⟨rfl,g2⟩ |⟨g2,g3,g4⟩
   ·exact .inl ⟨by simp[jO],by omega⟩
   ·exact .inr ⟨by omega,by omega,h5 g3 g4⟩
  ·exact .inr ⟨g1,by omega,by omega,h5 g3 g4,g5⟩
section
variable {ρ σ:Nat→AV} (h:∀t,VL M O κ (ρ t) (σ t))
include h
theorem dJ{x:AX}(hc:x.cZ=true):VL M O κ ((x.sub ρ).ev []) ((x.sub σ).ev []):=by
 cases x with
 | t n=>exact h n
 | c v=>exact VL.const v hc
theorem IZ:∀ {xs:List AX},xs.all AX.cZ=true→bL M O κ ((xs.map (AX.sub ρ)).map (AX.ev [])) ((xs.map (AX.sub σ)).map (AX.ev []))
 | [],_=>by simp[bL]
 | x::xs,hc=>by
  simp only[List.all_cons,Bool.and_eq_true]at hc
  simp only[List.map_cons,bL]
  exact⟨dJ h hc.1,IZ hc.2⟩
theorem qW{x:Option AX}(hc:okO x=true){other m n:Nat}(hb:bT [] (AX.gZ ρ x) other m=some n):bT [] (AX.gZ σ x) other m=some n:=by
 cases x with
 | none=>exact hb
 | some x=>exact P7 (dJ h hc) hb
theorem Lu:∀ {ps:List (Nat×Nat×AX)} {cs cs' l:List AV},(ps.all λp=>p.2.2.cZ)=true→bL M O κ cs cs' →
  nJ cs (ps.map λp=>(p.1,p.2.1,(p.2.2.sub ρ).ev []))=some l→∃l',nJ cs' (ps.map λp=>(p.1,p.2.1,(p.2.2.sub σ).ev []))=some l'∧bL M O κ l l'
 | [],cs,cs',l,_,hr,hf=>by
  simp only[List.map_nil,nJ,av]at hf ⊢
  subst hf
  exact⟨cs',rfl,hr⟩
 | p::ps,cs,cs',l,hc,hr,hf=>by
  simp only[List.all_cons,Bool.and_eq_true]at hc
  simp only[List.map_cons,nJ]at hf ⊢
  split at hf
  case h_2=>cases hf
  rename_i x hx
  split at hf
  case isFalse=>cases hf
  rename_i hle
  obtain⟨x',hx',hxr⟩:=(dJ h hc.1).cells hx
  rw[hx']
  simp only
  rw[if_pos (by rw[←hxr.length,←hr.length];exact hle)]
  refine Lu hc.2 ?_ hf
  exact((hr.take _).append hxr).append (hr.drop _)
theorem UD{o:jZ}(hc:o.cZ=true){v:AV}(hv:wP (o.sub ρ)=some v):∃a,aP (o.sub σ) []=some a∧VL M O κ v a:=by
 cases o with
 | move x =>
  have hx:=dJ h hc
  simp only[jZ.sub,wP,aP,av]at hv ⊢
  subst hv
  exact⟨_,rfl,hx⟩
 | pick c a b =>
  simp only[jZ.cZ,Bool.and_eq_true]at hc
  have h1:=dJ h hc.1.1
  have h2:=dJ h hc.1.2
  have h3:=dJ h hc.2
  simp only[jZ.sub,wP,aP]at hv ⊢
  generalize (c.sub ρ).ev []=C at *
  cases C<;>(try simp only at hv)<;>first |(cases hv;done) | skip
  rename_i w
  simp only[VL]at h1
  rw[h1]
  cases w<;>simp only[av]at hv ⊢<;>subst hv
  ·exact⟨_,rfl,h3⟩
  ·exact⟨_,rfl,h2⟩
 | build z ps =>
  simp only[jZ.cZ,Bool.and_eq_true]at hc
  simp only[jZ.sub,wP,aP,List.map_map]at hv ⊢
  obtain⟨l,h1,rfl⟩:=aC.1 hv
  obtain⟨l',h2,h3⟩:=Lu h hc.2 (bL.const z hc.1) h1
  refine⟨.agg l', ?_,by simp only[VL];exact⟨l',rfl,h3⟩⟩
  rw[aC]
  exact⟨l',h2,rfl⟩
 | nilCheck x =>
  have hx:=dJ h hc
  simp only[jZ.sub,wP,aP]at hv ⊢
  generalize (x.sub ρ).ev []=X at *
  generalize (x.sub σ).ev []=X' at *
  cases X with
  | ptr p =>
   cases p with
   | none=>simp at hv
   | some q =>
    simp only[av]at hv
    subst hv
    simp only[VL]at hx
    obtain⟨j,h1,rfl⟩:=hx
    exact⟨_,rfl,by simp only[VL];exact⟨j,h1,rfl⟩⟩
  | func f cs =>
   simp only[av]at hv
   subst hv
   simp only[VL]at hx
   obtain⟨cs',rfl,h1⟩:=hx
   exact⟨_,rfl,by simp only[VL];exact⟨cs',rfl,h1⟩⟩
  | elem cs =>
   simp only[av]at hv
   subst hv
   have hx':=hx
   simp only[VL]at hx
   obtain⟨b,o,c,ro,sl,rfl,_⟩:=hx
   exact⟨_,rfl,hx'⟩
  | _=>simp at hv
 | bin op x y =>
  simp only[jZ.cZ,Bool.and_eq_true]at hc
  have hx:=dJ h hc.1
  have hy:=dJ h hc.2
  simp only[jZ.sub,wP,aP]at hv ⊢
  obtain⟨s1,s2,s3⟩:=Sq hv
  rw[hx.eq s2,hy.eq s3]
  exact⟨v,hv,VL.oq s1⟩
 | TJ neg x y =>
  simp only[jZ.cZ,Bool.and_eq_true]at hc
  have hx:=dJ h hc.1
  have hy:=dJ h hc.2
  simp only[jZ.sub,wP,aP]at hv ⊢
  obtain⟨b,h1,rfl⟩:=aC.1 hv
  rw[Ox hx hy h1]
  exact⟨_,rfl,by simp[VL]⟩
 | TK neg ks x y =>
  simp only[jZ.cZ,Bool.and_eq_true]at hc
  have hx:=dJ h hc.1
  have hy:=dJ h hc.2
  simp only[jZ.sub,wP,aP]at hv ⊢
  generalize (x.sub ρ).ev []=X at *
  generalize (y.sub ρ).ev []=Y at *
  cases X<;>(try simp only at hv)<;>first |(cases hv;done) | skip
  cases Y<;>(try simp only at hv)<;>first |(cases hv;done) | skip
  simp only[VL]at hx hy
  obtain⟨l',e1,hl⟩:=hx
  obtain⟨r',e2,hr⟩:=hy
  obtain⟨b,h1,rfl⟩:=aC.1 hv
  rw[e1,e2]
  simp only[Ll hl hr h1]
  exact⟨_,rfl,by simp[VL]⟩
 | TL neg x y =>
  simp only[jZ.cZ,Bool.and_eq_true]at hc
  have hx:=dJ h hc.1
  have hy:=dJ h hc.2
  simp only[jZ.sub,wP,aP]at hv ⊢
  obtain⟨b,h1,rfl⟩:=aC.1 hv
  rw[UA hx hy h1]
  exact⟨_,rfl,by simp[VL]⟩
 | R4 neg x y =>
  simp only[jZ.cZ,Bool.and_eq_true]at hc
  have hx:=dJ h hc.1
  have hy:=dJ h hc.2
  simp only[jZ.sub,wP,aP]at hv ⊢
  generalize (x.sub ρ).ev []=X at *
  generalize (y.sub ρ).ev []=Y at *
  generalize (x.sub σ).ev []=X' at *
  generalize (y.sub σ).ev []=Y' at *
  split at hv
  ·simp only[VL]at hx hy
   obtain⟨b,o,cap,ex',rfl,_⟩:=hx.resolve_left (λh=>by cases h.1)
   obtain⟨_,s',rfl⟩:=hy
   simp only[av]at hv
   subst hv
   exact⟨.bool neg,by simp[Mr],by simp[VL]⟩
  ·simp only[VL]at hx hy
   obtain⟨b,o,cap,ex',rfl,_⟩:=hy.resolve_left (λh=>by cases h.1)
   obtain⟨_,s',rfl⟩:=hx
   simp only[av]at hv
   subst hv
   exact⟨.bool neg,by simp[Mr],by simp[VL]⟩
  ·simp only[VL]at hx hy
   obtain⟨_,s',rfl⟩:=hx
   obtain⟨_,s'',rfl⟩:=hy
   simp only[av]at hv
   subst hv
   exact⟨.bool (!neg),by cases neg<;>simp[Mr],by simp[VL]⟩
  ·cases hv
 | un op x =>
  have hx:=dJ h hc
  simp only[jZ.sub,wP,aP]at hv ⊢
  have:((x.sub ρ).ev []).oq=true∧v.oq=true:=by
   generalize (x.sub ρ).ev []=X at *
   cases X<;>cases op<;>simp only[Zy]at hv<;>first |(cases hv;done) |(cases hv;exact⟨rfl,rfl⟩)
  rw[hx.eq this.1]
  exact⟨v,hv,VL.oq this.2⟩
 | Bg k x =>
  have hx:=dJ h hc
  simp only[jZ.sub,wP,aP]at hv ⊢
  generalize (x.sub ρ).ev []=X at *
  cases X<;>(try simp only at hv)<;>first |(cases hv;done) | skip
  obtain rfl:=ak hv
  rw[hx.eq rfl]
  exact⟨_,rfl,by simp[VL]⟩
 | BS x =>
  have hx:=dJ h hc
  simp only[jZ.sub,wP,aP]at hv ⊢
  generalize (x.sub ρ).ev []=X at *
  cases X<;>(try simp only at hv)<;>first |(cases hv;done) | skip
  obtain rfl:=ak hv
  rw[hx.eq rfl]
  exact⟨_,rfl,by simp[VL]⟩
 | vP f cs =>
  simp only[jZ.sub,wP,aP,av]at hv ⊢
  subst hv
  exact⟨_,rfl,by simp only[VL];exact⟨_,rfl,IZ h hc⟩⟩
 | lD x lo hi =>
  simp only[jZ.cZ,Bool.and_eq_true]at hc
  have hx:=dJ h hc.1.1
  simp only[jZ.sub,wP,aP]at hv ⊢
  generalize (x.sub ρ).ev []=X at *
  cases X<;>(try simp only at hv)<;>first |(cases hv;done) | skip
  rw[hx.eq rfl]
  simp only[xu]at hv ⊢
  obtain⟨a,h1,hv⟩:=aF.1 hv
  obtain⟨b,h2,hv⟩:=aF.1 hv
  obtain rfl:=ak hv
  rw[qW h hc.2 h1,au,qW h hc.1.2 h2,au]
  exact⟨_,rfl,by simp[VL]⟩
 | slice sz x lo hi mx =>
  simp only[jZ.cZ,Bool.and_eq_true]at hc
  obtain⟨⟨⟨cx,Fv⟩,chi⟩,cmx⟩:=hc
  have hx:=dJ h cx
  simp only[jZ.sub,wP,aP]at hv ⊢
  generalize (x.sub ρ).ev []=X at *
  generalize (x.sub σ).ev []=X' at *
  have tr:∀ {a:Option (Nat×Nat)} {sz' len cap:Nat} {ex:Bool} {w:AV},iG sz a sz' len cap ex [] (AX.gZ ρ lo) (AX.gZ ρ hi) (AX.gZ ρ mx)=some w→iG sz a sz' len cap ex [] (AX.gZ σ lo) (AX.gZ σ hi) (AX.gZ σ mx)=some w:=by
   intro a sz' len cap ex w hw
   unfold iG at hw ⊢
   split at hw
   case isFalse=>cases hw
   rename_i hcond
   rw[if_pos hcond]
   cases mx with
   | none =>
    simp only[AX.gZ,Option.map_none]at hw ⊢
    obtain⟨a,h1,hw⟩:=aF.1 hw
    obtain⟨b,h2,hw⟩:=aF.1 hw
    have:=qW h chi h1
    simp only[AX.gZ]at this
    rw[this,au]
    have:=qW h Fv h2
    simp only[AX.gZ]at this
    rw[this,au]
    exact hw
   | some mx =>
    cases hi with
    | none =>
     simp only[AX.gZ,Option.map_none,aW]at hw
     obtain⟨m,_,hw⟩:=aF.1 hw
     cases hw
    | some hi =>
     simp only[AX.gZ,aW]at hw ⊢
     obtain⟨m,h0,hw⟩:=aF.1 hw
     obtain⟨a,h1,hw⟩:=aF.1 hw
     obtain⟨b,h2,hw⟩:=aF.1 hw
     have:=qW h cmx h0
     simp only[AX.gZ,aW]at this
     rw[this,au]
     have:=qW h chi h1
     simp only[AX.gZ,aW]at this
     rw[this,au]
     have:=qW h Fv h2
     simp only[AX.gZ]at this
     rw[this,au]
     exact hw
  cases X with
  | list sz' len cs ex =>
   simp only[VL]at hx
   simp only[ML]at hv
   split at hv
   case isFalse=>cases hv
   rename_i he
   subst he
   rcases hx with⟨rfl,rfl,s',rfl⟩ |⟨b,o,cap,ex',rfl,h1,h2,h3,h4⟩
   ·have fin:∀w,iG sz' none s' 0 0 true [] (AX.gZ ρ lo) (AX.gZ ρ hi) (AX.gZ ρ mx)=some w→VL M O κ v w→∃a,iG sz' none s' 0 0 true [] (AX.gZ σ lo) (AX.gZ σ hi) (AX.gZ σ mx)=some a∧VL M O κ v a :=
     λw h1 h2=>⟨w,tr h1,h2⟩
    cases mx with
    | none =>
     simp only[AX.gZ,Option.map_none]at hv
     obtain⟨y,g1,hv⟩:=aF.1 hv
     obtain⟨l,g2,hv⟩:=aF.1 hv
     obtain rfl:=ak hv
     have gy:y=0:=by
      cases hi with
      | none=>simpa[bT]using g1.symm
      | some hi=>have:=(fI g1 (Nat.le_refl _)).2;omega
     subst gy
     have gl:l=0:=by
      cases lo with
      | none=>simpa[bT]using g2.symm
      | some lo=>have:=(fI g2 (Nat.le_refl _)).2;omega
     subst gl
     refine fin (.slice none sz' 0 0 true) ?_ ?_
     ·unfold iG
      simp only[AX.gZ,true_or,if_true,Option.map_none,jO]
      rw[g1,au,g2]
      rfl
     ·simp only[VL]
      exact .inl (by simp)
    | some mx =>
     cases hi with
     | none =>
      simp only[AX.gZ,Option.map_none,aW]at hv
      obtain⟨m,_,hv⟩:=aF.1 hv
      cases hv
     | some hi =>
      simp only[AX.gZ,aW]at hv
      obtain⟨m,g0,hv⟩:=aF.1 hv
      obtain⟨y,g1,hv⟩:=aF.1 hv
      obtain⟨l,g2,hv⟩:=aF.1 hv
      obtain rfl:=ak hv
      have gm:=(fI g0 (Nat.le_refl _)).2
      obtain rfl:m=0:=by omega
      have gy:=(fI g1 (Nat.le_refl _)).2
      obtain rfl:y=0:=by omega
      have gl:l=0:=by
       cases lo with
       | none=>simpa[bT]using g2.symm
       | some lo=>have:=(fI g2 (Nat.le_refl _)).2;omega
      subst gl
      refine fin (.slice none sz' 0 0 true) ?_ ?_
      ·unfold iG
       simp only[AX.gZ,true_or,if_true,aW,jO]
       rw[g0,au,g1,au,g2]
       rfl
      ·simp only[VL]
       exact .inl (by simp)
   simp only
   cases mx with
   | none =>
    simp only[AX.gZ,Option.map_none]at hv
    obtain⟨y,g1,hv⟩:=aF.1 hv
    obtain⟨l,g2,hv⟩:=aF.1 hv
    obtain rfl:=ak hv
    have gy:bT [] (AX.gZ ρ hi) len cap=some y∧y≤len:=by
     cases hi with
     | none =>
      simp only[bT,Option.map_none,AX.gZ,av]at g1 ⊢
      omega
     | some hi=>exact fI g1 h1
    have gl:l≤y:=by
     cases lo with
     | none=>simp only[bT,Option.map_none,av]at g2;omega
     | some lo=>exact(fI g2 (Nat.le_refl _)).2
    refine⟨_,tr (w:=.slice (some (b,o+l*sz')) sz' (y-l) (cap-l) ex') ?_, ?_⟩
    ·unfold iG
     simp only[AX.gZ,or_true,if_true,Option.map_none,jO,aW]
     rw[show bT [] (hi.map (AX.sub ρ)) len cap=some y from gy.1,au,g2,au]
    ·exact Ls gl gy.2 h3 h4 (by omega) λhe=>by cases he
   | some mx =>
    cases hi with
    | none =>
     simp only[AX.gZ,Option.map_none,aW]at hv
     obtain⟨m,_,hv⟩:=aF.1 hv
     cases hv
    | some hi =>
     simp only[AX.gZ,aW]at hv
     obtain⟨m,g0,hv⟩:=aF.1 hv
     obtain⟨y,g1,hv⟩:=aF.1 hv
     obtain⟨l,g2,hv⟩:=aF.1 hv
     obtain rfl:=ak hv
     obtain⟨m1,m2⟩:=fI g0 h1
     obtain⟨_,y2⟩:=fI g1 (Nat.le_refl _)
     have gl:l≤y:=by
      cases lo with
      | none=>simp only[bT,Option.map_none,av]at g2;omega
      | some lo=>exact(fI g2 (Nat.le_refl _)).2
     refine⟨_,tr (w:=.slice (some (b,o+l*sz')) sz' (y-l) (m-l) true) ?_, ?_⟩
     ·unfold iG
      simp only[AX.gZ,or_true,if_true,aW,jO]
      rw[show bT [] (some (mx.sub ρ)) cap cap=some m from m1,au,g1,au,g2,au]
     ·exact Ls gl (by omega) h3 h4 (by omega) λhe=>by cases he
  | acc b off sz' n w =>
   simp only[VL]at hx
   obtain⟨p,s',cap,ex,rfl,hn,hnp,hns,m,L,hd,hm,hw,hx⟩:=hx
   have hz:p=none∨s'=sz':=by
    cases p with
    | none=>exact .inl rfl
    | some p=>exact .inr (hns (by simp))
   simp only at hv
   cases mx with
   | none =>
    cases lo with
    | none =>
     cases hi with
     | none =>
      simp only[AX.gZ,Option.map_none,yR]at hv
      split at hv
      case isFalse=>cases hv
      rename_i e
      subst e
      obtain rfl:=ak hv
      refine⟨_,tr (w:=.slice (jO p (0*sz')) sz' (n-0) (cap-0) ex) ?_, ?_⟩
      ·unfold iG
       rw[if_pos hz]
       rfl
      ·have:jO p (0*sz')=p:=by cases p<;>simp[jO]
       rw[this]
       simp only[VL]
       exact⟨_,_,_,_,rfl,hn,hnp,λ_=>rfl,m,L,hd,hm,hw,hx⟩
     | some hi =>
      simp only[AX.gZ,Option.map_none,aW,yR]at hv
      split at hv
      case isFalse=>cases hv
      rename_i e
      subst e
      obtain⟨y,g1,hv⟩:=aF.1 hv
      obtain⟨l,g2,hv⟩:=aF.1 hv
      obtain rfl:=ak hv
      have gy:=fI g1 hn
      have gl:l≤y:=by simp only[bT,av]at g2;omega
      refine⟨_,tr (w:=.slice (jO p (l*sz')) sz' (y-l) (cap-l) ex) ?_,Jw hn hnp hd hm hx gl gy.2 (by omega) (by omega) (λ_ h=>h)⟩
      unfold iG
      rw[if_pos hz]
      simp only[AX.gZ,Option.map_none,aW]
      rw[show bT [] (some (hi.sub ρ)) n cap=some y from gy.1,au,g2,au]
    | some lo =>
     simp only[AX.gZ,Option.map_none,aW,yR]at hv
     split at hv
     case isFalse=>cases hv
     rename_i e
     subst e
     obtain⟨y,g1,hv⟩:=aF.1 hv
     obtain⟨l,g2,hv⟩:=aF.1 hv
     obtain rfl:=ak hv
     have gy:bT [] (AX.gZ ρ hi) n cap=some y∧y≤n:=by
      cases hi with
      | none =>
       simp only[bT,Option.map_none,AX.gZ,av]at g1 ⊢
       omega
      | some hi=>exact fI g1 hn
     have gl:l≤y:=(fI g2 (Nat.le_refl _)).2
     refine⟨_,tr (w:=.slice (jO p (l*sz')) sz' (y-l) (cap-l) ex) ?_,Jw hn hnp hd hm hx gl gy.2 (by omega) (by omega) (λ_ h=>h)⟩
     unfold iG
     rw[if_pos hz]
     simp only[AX.gZ,Option.map_none,aW]
     rw[show bT [] (hi.map (AX.sub ρ)) n cap=some y from gy.1,au,g2,au]
   | some mx =>
    cases hi with
    | none=>cases lo<;>simp[AX.gZ,yR]at hv
    | some hi =>
     have hv':(if sz'=sz then (bT [] (some (mx.sub ρ)) n n).bind λm=>(bT [] (some (hi.sub ρ)) n m).bind λh=>(bT [] (AX.gZ ρ lo) 0 h).bind λl=>some (AV.acc b (off+l*sz) sz (h-l) false)else none)=some v:=by
      cases lo<;>simpa only[AX.gZ,Option.map_none,aW,yR]using hv
     clear hv
     split at hv'
     case isFalse=>cases hv'
     rename_i e
     subst e
     obtain⟨m',g0,hv⟩:=aF.1 hv'
     obtain⟨y,g1,hv⟩:=aF.1 hv
     obtain⟨l,g2,hv⟩:=aF.1 hv
     obtain rfl:=ak hv
     obtain⟨m1,m2⟩:=fI g0 hn
     obtain⟨_,y2⟩:=fI g1 (Nat.le_refl _)
     have gl:l≤y:=by
      cases lo with
      | none=>simp only[bT,AX.gZ,Option.map_none,av]at g2;omega
      | some lo=>exact(fI g2 (Nat.le_refl _)).2
     refine⟨_,tr (w:=.slice (jO p (l*sz')) sz' (y-l) (m'-l) true) ?_,Jw hn hnp hd hm hx gl (by omega) (by omega) (by omega) (λ_ _=>rfl)⟩
     unfold iG
     rw[if_pos hz]
     simp only[AX.gZ,Option.map_none,aW]
     rw[show bT [] (some (mx.sub ρ)) cap cap=some m' from m1,au,g1,au]
     simp only[AX.gZ]at g2
     rw[g2]
     rfl
  | _=>simp at hv
 | fieldAddr off x =>
  have hx:=dJ h hc
  simp only[jZ.sub,wP,aP]at hv ⊢
  generalize (x.sub ρ).ev []=X at *
  generalize (x.sub σ).ev []=X' at *
  cases X with
  | ptr p =>
   cases p with
   | none=>simp at hv
   | some q =>
    simp only[av]at hv
    subst hv
    simp only[VL]at hx
    obtain⟨j,h1,rfl⟩:=hx
    exact⟨_,rfl,by simp only[VL];exact⟨j,h1,rfl⟩⟩
  | elem cs =>
   simp only[av]at hv
   subst hv
   simp only[VL]at hx
   obtain⟨b,o,c,ro,sl,rfl,g1,g2,g3,g4⟩:=hx
   refine⟨_,rfl, ?_⟩
   simp only[VL]
   refine⟨b,_,c,ro,sl,rfl,g1,g2,g3, ?_⟩
   have:=g4.drop off
   rwa [List.drop_take,List.drop_drop,←aS]at this
  | _=>simp at hv
 | field g off n x =>
  have hx:=dJ h hc
  simp only[jZ.sub,wP,aP]at hv ⊢
  generalize (x.sub ρ).ev []=X at *
  generalize (x.sub σ).ev []=X' at *
  cases X<;>(try simp only at hv)<;>first |(cases hv;done) | skip
  simp only[VL]at hx
  obtain⟨l',rfl,hl⟩:=hx
  exact Lr hl (Jv hv).1
 | l5 n sz x i =>
  simp only[jZ.cZ,Bool.and_eq_true]at hc
  have hx:=dJ h hc.1
  have hi:=dJ h hc.2
  simp only[jZ.sub,wP,aP]at hv ⊢
  generalize (x.sub ρ).ev []=X at *
  generalize (x.sub σ).ev []=X' at *
  generalize (i.sub ρ).ev []=I at *
  cases X with
  | ptr p =>
   cases p with
   | none=>simp at hv
   | some q =>
    cases I<;>(try simp only at hv)<;>first |(cases hv;done) | skip
    rw[hi.eq rfl]
    split at hv
    case isFalse=>cases hv
    rename_i hlt
    obtain rfl:=ak hv
    simp only[VL]at hx
    obtain⟨j,h1,rfl⟩:=hx
    simp only
    rw[if_pos hlt]
    exact⟨_,rfl,by simp only[VL];exact⟨j,h1,rfl⟩⟩
  | elem cs =>
   cases I<;>(try simp only at hv)<;>first |(cases hv;done) | skip
   rw[hi.eq rfl]
   split at hv
   case isFalse=>cases hv
   rename_i hlt
   obtain rfl:=ak hv
   simp only[VL]at hx
   obtain⟨b,o,c,ro,sl,rfl,g1,g2,g3,g4⟩:=hx
   simp only
   rw[if_pos hlt]
   refine⟨_,rfl, ?_⟩
   simp only[VL]
   refine⟨b,_,c,ro,sl,rfl,g1,g2,g3, ?_⟩
   rename_i k z
   have:=g4.drop (z.toNat*sz)
   rwa [List.drop_take,List.drop_drop,←aS]at this
  | _=>simp at hv
 | jE sz x i =>
  simp only[jZ.cZ,Bool.and_eq_true]at hc
  have hx:=dJ h hc.1
  have hi:=dJ h hc.2
  simp only[jZ.sub,wP,aP]at hv ⊢
  generalize (x.sub ρ).ev []=X at *
  generalize (x.sub σ).ev []=X' at *
  generalize (i.sub ρ).ev []=I at *
  cases X with
  | list sz' len cs ex =>
   cases I<;>(try simp only at hv)<;>first |(cases hv;done) | skip
   rename_i k z
   rw[hi.eq rfl]
   split at hv
   case isFalse=>cases hv
   rename_i hlt
   obtain rfl:=ak hv
   simp only[VL]at hx
   obtain⟨b,o,cap,ex',rfl,q1,q2,q3,q4⟩:=hx.resolve_left (λh=>by have:=h.1;omega)
   simp only
   rw[if_pos hlt]
   refine⟨_,rfl, ?_⟩
   obtain⟨c,ro,sl,g1,g2,g3,g4,g5⟩:=q4 (by omega)
   simp only[VL]
   refine⟨b,_,c,ro,sl,rfl,g1,g2,g3, ?_⟩
   have:=g5.drop (z.toNat*sz)
   rwa [←q3,List.drop_take,List.drop_drop,←aS]at this
  | acc b off sz' n w =>
   cases I<;>(try simp only at hv)<;>first |(cases hv;done) | skip
   rename_i k z
   rw[hi.eq rfl]
   split at hv
   case isFalse=>cases hv
   rename_i hlt
   obtain rfl:=ak hv
   simp only[VL]at hx
   obtain⟨p,s',cap,ex,rfl,hn,hnp,hns,m,L,hd,hm,hw,hx⟩:=hx
   obtain⟨j,g1,g2⟩:=hx.resolve_right (λh=>by have:=h.2.1;omega)
   obtain⟨hps,_⟩:=g2.resolve_right (λh=>by have:=h.1;omega)
   subst hps
   obtain rfl:=hns (by simp)
   simp only
   rw[if_pos hlt]
   exact⟨_,rfl,by simp only[VL];exact⟨j,g1,rfl⟩⟩
  | _=>simp at hv
 | index g n sz x i =>
  simp only[jZ.cZ,Bool.and_eq_true]at hc
  have hx:=dJ h hc.1
  have hi:=dJ h hc.2
  simp only[jZ.sub,wP,aP]at hv ⊢
  generalize (x.sub ρ).ev []=X at *
  generalize (x.sub σ).ev []=X' at *
  generalize (i.sub ρ).ev []=I at *
  cases X<;>(try simp only at hv)<;>first |(cases hv;done) | skip
  cases I<;>(try simp only at hv)<;>first |(cases hv;done) | skip
  rw[hi.eq rfl]
  simp only[VL]at hx
  obtain⟨l',rfl,hl⟩:=hx
  simp only
  split at hv
  case isFalse=>cases hv
  rename_i hlt
  rw[if_pos hlt]
  exact Lr hl hv
 | n_ x i =>
  simp only[jZ.cZ,Bool.and_eq_true]at hc
  have hx:=dJ h hc.1
  have hi:=dJ h hc.2
  simp only[jZ.sub,wP,aP]at hv ⊢
  generalize (x.sub ρ).ev []=X at *
  generalize (i.sub ρ).ev []=I at *
  cases X<;>(try simp only at hv)<;>first |(cases hv;done) | skip
  cases I<;>(try simp only at hv)<;>first |(cases hv;done) | skip
  rw[hi.eq rfl,hx.eq rfl]
  simp only
  split at hv
  case isFalse=>cases hv
  rename_i hlt
  rw[if_pos hlt,hv]
  obtain⟨b,_,rfl⟩:=aC.1 hv
  exact⟨_,rfl,by simp[VL]⟩
 | extract x i =>
  have hx:=dJ h hc
  simp only[jZ.sub,wP,aP]at hv ⊢
  generalize (x.sub ρ).ev []=X at *
  generalize (x.sub σ).ev []=X' at *
  cases X<;>(try simp only at hv)<;>first |(cases hv;done) | skip
  simp only[VL]at hx
  obtain⟨l',rfl,hl⟩:=hx
  exact hl.get i v hv
 | len s x =>
  have hx:=dJ h hc
  generalize hX:(x.sub ρ).ev []=X at *
  generalize Rl:(x.sub σ).ev []=X' at *
  cases s with
  | true =>
   simp only[jZ.sub,wP,aP,hX,Rl]at hv ⊢
   cases X<;>(try simp only at hv)<;>first |(cases hv;done) | skip
   rw[hx.eq rfl]
   obtain rfl:=ak hv
   exact⟨_,rfl,by simp[VL]⟩
  | false =>
   simp only[jZ.sub,wP,aP,hX,Rl]at hv ⊢
   split at hv
   ·simp only[av]at hv
    subst hv
    simp only[VL]at hx
    rcases hx with⟨rfl,rfl,s',rfl⟩ |⟨b,o,cap,ex',rfl,_⟩
    ·exact⟨_,rfl,by simp[VL]⟩
    ·exact⟨_,rfl,by simp[VL]⟩
   ·simp only[av]at hv
    subst hv
    simp only[VL]at hx
    obtain⟨p,s',cap,ex,rfl,_⟩:=hx
    exact⟨_,rfl,by simp[VL]⟩
   ·simp only[av]at hv
    subst hv
    simp only[VL]at hx
    obtain⟨_,s',rfl⟩:=hx
    exact⟨_,rfl,by simp[VL]⟩
   ·cases hv
 | cap x=>simp[jZ.sub,wP]at hv
 | rZ m xs =>
  have hx:=IZ h hc
  simp only[jZ.sub,wP,aP]at hv ⊢
  generalize (xs.map (AX.sub ρ)).map (AX.ev [])=X at *
  generalize (xs.map (AX.sub σ)).map (AX.ev [])=X' at *
  cases X with
  | nil=>simp at hv
  | cons x r =>
   cases X' with
   | nil=>simp[bL]at hx
   | cons x' r' =>
    simp only[bL]at hx
    exact Lm hx.1 hx.2 hv
end
end
theorem yS:∀(H:WH) (i:Nat),b_ H i=(H[i]?).getD none
 | [],i=>by simp[b_]
 | x::_,0=>by simp[b_]
 | _::r,i+1=>by simp[b_,yS r i]
theorem I4:∀(H:WH) (i:Nat) (y:Option jN),fQ H i y=H.set i y
 | [],i,y=>by simp[fQ]
 | x::_,0,y=>by simp[fQ]
 | _::r,i+1,y=>by simp[fQ,I4 r i y]
theorem nK{H:WH}{i:Nat}{x:jN}(h:b_ H i=some x):i<H.length:=by
 rw[yS]at h
 rcases Nat.lt_or_ge i H.length with k | k
 ·exact k
 ·rw[List.getElem?_eq_none k]at h
  cases h
theorem mV(H:WH)(i:Nat)(y:Option jN)(k:Nat):b_ (fQ H i y) k=if k=i∧i<H.length then y else b_ H k:=by
 rw[I4,yS,yS,List.getElem?_set]
 by_cases h:i=k
 ·subst h
  by_cases hl:i<H.length
  ·simp[hl]
  ·simp[hl]
 ·simp[h,Ne.symm h,show ¬k=i from λe=>h e.symm]
theorem Fz(H G:WH)(k:Nat):b_ (H++G) k=if k<H.length then b_ H k else b_ G (k-H.length):=by
 rw[yS,yS,yS]
 by_cases h:k<H.length
 ·rw[if_pos h,List.getElem?_append_left h]
 ·rw[if_neg h,List.getElem?_append_right (by omega)]
theorem UE(x:Option jN)(k:Nat):b_ [x] k=if k=0 then x else none:=by cases k<;>simp[b_]
theorem dO(H:WH)(i:Nat)(y:Option jN):(fQ H i y).length=H.length:=by rw[I4,bO]
theorem MR{H:WH}{k:Nat}(h:H.length≤k):b_ H k=none:=by rw[yS,List.getElem?_eq_none h];rfl
theorem mh(H:WH)(x:Option jN)(k:Nat):b_ (H++[x]) k=if k<H.length then b_ H k else if k=H.length then x else none:=by
 rw[Fz,UE]
 by_cases h:k<H.length
 ·rw[if_pos h,if_pos h]
 ·rw[if_neg h,if_neg h]
  by_cases e:k=H.length
  ·rw[if_pos (by omega),if_pos e]
  ·rw[if_neg (by omega),if_neg e]
theorem Stp.refl(n:Nat)(t:List Nat)(ι:VI)(H:WH)(M:Heap)(h:n≤H.length):Stp n t ι H M ι H M :=
 ⟨.refl _ _,.refl _ _,λ_ _ h=>h,λ_ _=>rfl,λ_ _=>rfl,λ_ _ _=>rfl,λ_ _ h=>h,λ_ _ _ _ _ _=>rfl,h⟩
theorem Stp.act{n:Nat}{t:List Nat}{ι kD:VI}{H H1:WH}{M M1:Heap}(h:Stp n t ι H M kD H1 M1){i:Nat}(hi:i<n)(ha:act kD H1 i):Proofs.Ytkedeiklmpkgkaa.act ι H i :=
 ha.imp (h.live i hi) (λhg=>by
  cases e:ι.gone i with
  | false=>rfl
  | true=>rw[h.gone i hi e]at hg;cases hg)
theorem Stp.trans{n n':Nat}{t t':List Nat}{ι kD uI:VI}{H H1 H2:WH}{M M1 M2:Heap}(h:Stp n t ι H M kD H1 M1)(k:Stp n' t' kD H1 M1 uI H2 M2)(hn:n≤n'):Stp n (t++t') ι H M uI H2 M2 :=
 ⟨h.keep.trans k.keep,h.le.trans (k.le.sub λi hi=>by have:i<n:=hi;show i<n';omega),λi hi hg=>k.gone i (by omega) (h.gone i hi hg),λi hi=>(k.ZI i (by omega)).trans (h.ZI i hi),λi hi=>(k.PY i (by omega)).trans (h.PY i hi),
  λi hi hd=>by
   have hd1:b_ H1 i=none:=by
    cases e:b_ H1 i with
    | none=>rfl
    | some x =>
     obtain⟨y,hy⟩:=h.live i hi ⟨x,e⟩
     rw[hd]at hy
     cases hy
   exact(k.Li i (by omega) hd1).trans (h.Li i hi hd),
  λi hi hl=>h.live i hi (k.live i (by omega) hl),
  λi j hi hl hj ht=>by
   rw[List.mem_append,not_or]at ht
   exact(k.tch i j (by omega) hl ((h.le i hi).1 j hj).1 ht.2).trans (h.tch i j hi (k.act (by omega) hl) hj ht.1),Nat.le_trans hn k.next⟩
theorem Stp.weak{n n':Nat}{t:List Nat}{ι kD:VI}{H H1:WH}{M M1:Heap}(h:Stp n t ι H M kD H1 M1)(hn:n'≤n):Stp n' t ι H M kD H1 M1 :=
 ⟨h.keep,h.le.sub λi hi=>by have:i<n':=hi;show i<n;omega,λi hi=>h.gone i (by omega),λi hi=>h.ZI i (by omega),λi hi=>h.PY i (by omega),λi hi=>h.Li i (by omega),λi hi=>h.live i (by omega),λi j hi=>h.tch i j (by omega),Nat.le_trans hn h.next⟩
theorem Stp.more{n:Nat}{t t':List Nat}{ι kD:VI}{H H1:WH}{M M1:Heap}(h:Stp n t ι H M kD H1 M1)(ht:∀i,i<n→i∈t→i∈t'):Stp n t' ι H M kD H1 M1 :=
 ⟨h.keep,h.le,h.gone,h.ZI,h.PY,h.Li,h.live,λi j hi hl hj hn=>h.tch i j hi hl hj (λk=>hn (ht i hi k)),h.next⟩
theorem Stp.ZM{R:Nat→Prop}{t:List Nat}{ι bI:VI}{H H':WH}{M M':Heap}(s:VS R ι H M)(k:Stp H.length t ι H M bI H' M')(S:Nat→Prop):VI.Le ι bI S:=λi _ =>
 ⟨λj h=>(k.le i (s.lt i j h).1).1 j h,λh=>(k.le i (s.sF i h).1).2 h⟩
theorem VL.step{R:Nat→Prop}{t:List Nat}{ι bI:VI}{H H':WH}{M M':Heap}(s:VS R ι H M)(k:Stp H.length t ι H M bI H' M'){v a:AV}(h:VL M (OR R ι) ι v a):VL M' (OR R bI) bI v a :=
 VL.mono (k.keep.or R) ι bI v a (k.ZM s _) h
theorem bL.step{R:Nat→Prop}{t:List Nat}{ι bI:VI}{H H':WH}{M M':Heap}(s:VS R ι H M)(k:Stp H.length t ι H M bI H' M'){v a:List AV}(h:bL M (OR R ι) ι v a):bL M' (OR R bI) bI v a :=
 bL.mono (k.keep.or R) ι bI v a (k.ZM s _) h
theorem bL.lift{M:Heap}{O:Nat→Prop}{κ:VI}{l r:List AV}(h:bL M O VI.none l r):bL M O κ l r :=
 bL.mono (.refl M O) _ κ l r (VI.Le.Rk _ _) h
theorem bL.kap{M:Heap}{O:Nat→Prop}{κ:VI}{sl:Bool}{l r:List AV}(h:bL M O (if sl then VI.none else κ) l r):bL M O κ l r:=by
 cases sl with
 | true=>exact bL.lift h
 | false=>exact h
theorem bL.Lv{R:Nat→Prop}{n:Nat}{t:List Nat}{ι bI:VI}{H H':WH}{M M':Heap}(k:Stp n t ι H M bI H' M'){v a:List AV}(h:bL M (OR R ι) VI.none v a):bL M' (OR R bI) VI.none v a :=
 bL.mono (k.keep.or R) VI.none VI.none v a (VI.Le.refl _ _) h
theorem BL.mono{M M':Heap}{O O':Nat→Prop}(hk:Keeps M O M' O'){κ qC:VI}(h:∀S,VI.Le κ qC S){d d':Option (Nat×Nat)}(hd:∀x,d=some x→d'=some x){x:jN}{y:Option jN}(r:BL M O κ d x y):BL M' O' qC d' x y:=by
 cases x with
 | cells c ro sl =>
  obtain⟨c',t,ro',sl',L,rfl,h0,h1,h2,h3,h4⟩:=r
  refine⟨c',t,ro',sl',L,rfl,h0,hd _ h1,h2, ?_,h4⟩
  cases sl with
  | true=>exact bL.mono hk _ _ c c' (.refl _ _) h3
  | false=>exact bL.mono hk κ qC c c' (h _) h3
 | map es=>exact⟨r.1,hd _ r.2.1,r.2.2⟩
theorem VS.at {R:Nat→Prop} {ι:VI} {H:WH} {M:Heap} (s:VS R ι H M) {b j:Nat} (hb:ι b=some j) {c:List AV} {ro sl:Bool} (hg:b_ H b=some (.cells c ro sl)) :
  ∃c' t ro' sl' L,M.get j=some (.cells (c'++t) ro' sl')∧(ro=false→ro'=false∧ι.gone b=false)∧ι.dim b=some (c.length,L)∧L≤(c'++t).length∧bL M (OR R ι) (if sl then VI.none else ι) c c':=by
 rcases s.blk b _ hg with⟨h,_⟩ |⟨j',h1,⟨c',t,ro',sl',L,h2,h3,h4,h5,h6,_⟩,h7⟩
 ·rw[(s.sF b h).2]at hb
  cases hb
 ·rw[hb]at h1
  obtain rfl:=ak h1
  exact⟨c',t,ro',sl',L,h2,λh=>⟨h3 h,h7 h⟩,h4,h5,h6⟩
theorem VS.ZN{R:Nat→Prop}{ι:VI}{H:WH}{M:Heap}(s:VS R ι H M){b j:Nat}(hb:ι b=some j){c:List AV}{ro sl:Bool}(hg:b_ H b=some (.cells c ro sl)){c':List AV}{ro' sl':Bool}(hj:M.get j=some (.cells c' ro' sl'))(h:sl=false):sl'=false:=by
 rcases s.blk b _ hg with⟨h,_⟩ |⟨j',h1,⟨d',t,ro2,sl2,L,h2,h3,h4,h5,h6,h8⟩,h7⟩
 ·rw[(s.sF b h).2]at hb
  cases hb
 ·rw[hb]at h1
  obtain rfl:=ak h1
  rw[hj]at h2
  simp only[av,jN.cells.injEq]at h2
  rw[h2.2.2]
  exact h8 h
def setAt{α:Type}(f:Nat→α)(i:Nat)(x:α):Nat→α:=λk=>if k=i then x else f k
def VI.add(ι:VI)(i j:Nat)(d:Nat×Nat):VI:=⟨setAt ι.to i (some j),setAt ι.Gy i false,setAt ι.gone i false,setAt ι.dim i (some d)⟩
def VI.fT(ι:VI)(i:Nat):VI:=⟨setAt ι.to i Option.none,setAt ι.Gy i true,setAt ι.gone i false,setAt ι.dim i (some (0,0))⟩
def VI.kill(ι:VI)(i:Nat):VI:=⟨ι.to,ι.Gy,setAt ι.gone i true,ι.dim⟩
theorem lV{α:Type}(f:Nat→α)(i:Nat)(x:α):setAt f i x i=x:=by simp[setAt]
theorem bU{α:Type}(f:Nat→α){i k:Nat}(x:α)(h:k≠i):setAt f i x k=f k:=by simp[setAt,h]
theorem VS.aar {R:Nat→Prop} {ι:VI} {H:WH} {M:Heap} (s:VS R ι H M) {b j:Nat} (hb:ι b=some j) {x0:jN} (h0:x0.ro=false) (hg:b_ H b=some x0) {x y:jN} (hx:BL M (OR R ι) ι (ι.dim b) x (some y)) :
  VS R ι (fQ H b (some x)) (M.put j (some y))∧Stp H.length [b] ι H M ι (fQ H b (some x)) (M.put j (some y)):=by
 have hgo:ι.gone b=false:=by
  rcases s.blk b _ hg with⟨q,_⟩ |⟨_,_,_,q⟩
  ·rw[(s.sF b q).2]at hb
   cases hb
  ·exact q h0
 have hbl:=nK hg
 have hk:Keeps M (own ι) (M.put j (some y)) (own ι):=⟨Nat.le_refl _,λb' _ ho=>⟨by
  have:b'≠j:=λe=>ho (e ▸ ⟨b,hb,hgo⟩)
  simp[Heap.put,this],ho⟩⟩
 have gp:∀k,b_ (fQ H b (some x)) k=if k=b then some x else b_ H k:=λk=>by
  rw[mV]
  by_cases e:k=b
  ·rw[if_pos ⟨e,hbl⟩,if_pos e]
  ·rw[if_neg (λh=>e h.1),if_neg e]
 have lv:∀k,(∃z,b_ (fQ H b (some x)) k=some z)→∃z,b_ H k=some z:=λk ⟨z,hz⟩=>by
  rw[gp]at hz
  by_cases e:k=b
  ·exact⟨_,e ▸ hg⟩
  ·rw[if_neg e]at hz
   exact⟨z,hz⟩
 refine⟨⟨λi j h=>?_,λi i' j h h' e e'=>s.inj i i' j (h.imp (lv i) id) (h'.imp (lv i') id) e e',λi z hz=>?_,λi h=>?_,λi hi c sl h=>?_,λi hi=>?_,λj h=>⟨(s.res j h).1,λi hi=>(s.res j h).2 i (hi.imp (lv i) id)⟩⟩,⟨hk,.refl _ _,λ_ _ h=>h,λ_ _=>rfl,λ_ _=>rfl,λ_ _ _=>rfl,λi _=>lv i,λi j' hi hl hj ht=>?_,by rw[dO];exact Nat.le_refl _⟩⟩
 ·rw[dO]
  exact s.lt i j h
 ·rw[gp]at hz
  by_cases e:i=b
  ·subst e
   rw[if_pos rfl]at hz
   obtain rfl:=ak hz
   refine .inr ⟨j,hb, ?_,λ_=>hgo⟩
   simp only[Heap.put,if_true]
   exact hx.mono (hk.or R) (λ_=>.refl _ _) (λ_ h=>h)
  ·rw[if_neg e]at hz
   rcases s.blk i z hz with h |⟨j',h1,h2,h3⟩
   ·exact .inl h
   ·have:j'≠j:=λe'=>e (s.inj i b j (.inl ⟨z,hz⟩) (.inl ⟨_,hg⟩) (e' ▸ h1) hb (.inr hgo))
    refine .inr ⟨j',h1, ?_,h3⟩
    simp only[Heap.put,if_neg this]
    exact h2.mono (hk.or R) (λ_=>.refl _ _) (λ_ h=>h)
 ·rw[dO]
  exact s.sF i h
 ·rw[gp]at h
  have:i≠b:=λe=>by subst e;rw[hgo]at hi;cases hi
  rw[if_neg this]at h
  exact s.pG i hi c sl h
 ·have:=(s.lt b j hb).2
  have:i≠j:=λe=>by subst e;simp only[Heap.put]at hi;omega
  simp only[Heap.put,if_neg this]
  exact s.Ot i hi
 ·have hib:i≠b:=λe=>ht (by simp[e])
  have:j'≠j:=λe'=>hib (s.inj i b j (hl.imp (lv i) id) (.inl ⟨_,hg⟩) (e' ▸ hj) hb (.inr hgo))
  simp[Heap.put,this]
theorem VS.put {R:Nat→Prop} {ι:VI} {H:WH} {M:Heap} (s:VS R ι H M) {b j:Nat} (hb:ι b=some j) {c0:List AV} {sl0:Bool} (hg:b_ H b=some (.cells c0 false sl0)) {x y:jN} (hx:BL M (OR R ι) ι (ι.dim b) x (some y)) :
  VS R ι (fQ H b (some x)) (M.put j (some y))∧Stp H.length [b] ι H M ι (fQ H b (some x)) (M.put j (some y)):=s.aar hb rfl hg hx
theorem UF{ι:VI}{b j:Nat}(h:own (ι.kill b) j):own ι j:=by
 obtain⟨i,h1,h2⟩:=h
 refine⟨i,h1, ?_⟩
 simp only[VI.kill,setAt]at h2
 split at h2
 ·cases h2
 ·exact h2
theorem VS.kill {R:Nat→Prop} {ι:VI} {H:WH} {M:Heap} (s:VS R ι H M) {b j:Nat} (hb:ι b=some j) {c0:List AV} {sl0:Bool} (hg:b_ H b=some (.cells c0 false sl0)) (y:Option jN) :
  VS R (ι.kill b) (fQ H b none) (M.put j y)∧Stp H.length [b] ι H M (ι.kill b) (fQ H b none) (M.put j y):=by
 obtain⟨_,_,_,_,_,_,hw,_⟩:=s.at hb hg
 have hgo:=(hw rfl).2
 have hbl:=nK hg
 have hk:Keeps M (own ι) (M.put j y) (own (ι.kill b)):=⟨Nat.le_refl _,λb' _ ho=>⟨by
  have:b'≠j:=λe=>ho (e ▸ ⟨b,hb,hgo⟩)
  simp[Heap.put,this],λk=>ho (UF k)⟩⟩
 have gp:∀k,b_ (fQ H b none) k=if k=b then none else b_ H k:=λk=>by
  rw[mV]
  by_cases e:k=b
  ·rw[if_pos ⟨e,hbl⟩,if_pos e]
  ·rw[if_neg (λh=>e h.1),if_neg e]
 have lv:∀k,(∃z,b_ (fQ H b none) k=some z)→k≠b∧∃z,b_ H k=some z:=λk ⟨z,hz⟩=>by
  rw[gp]at hz
  by_cases e:k=b
  ·rw[if_pos e]at hz;cases hz
  ·rw[if_neg e]at hz
   exact⟨e,z,hz⟩
 have gk:∀i,(ι.kill b).gone i=false→ι.gone i=false:=λi h=>by
  simp only[VI.kill,setAt]at h
  split at h
  ·cases h
  ·exact h
 have ac:∀i,act (ι.kill b) (fQ H b none) i→act ι H i:=λi h=>h.imp (λh=>(lv i h).2) (λh=>by
  simp only[VI.kill,setAt]at h
  split at h
  ·cases h
  ·exact h)
 refine⟨⟨λi j h=>?_,λi i' j h h' e e' g=>s.inj i i' j (ac i h) (ac i' h') e e' (g.imp (λg=>gk i g) (λg=>gk i' g)),λi z hz=>?_,λi h=>?_,λi hi c sl h=>?_,λi hi=>?_,λj h=>⟨(s.res j h).1,λi hi=>(s.res j h).2 i (ac i hi)⟩⟩,⟨hk,λ_ _=>⟨λ_ h=>⟨h,λ_ h=>h⟩,λh=>⟨h,λ_ h=>h⟩⟩,λi _ h=>?_,λ_ _=>rfl,λ_ _=>rfl,λi _ h=>?_,λi _ h=>(lv i h).2,λi j' hi hl hj ht=>?_,by rw[dO];exact Nat.le_refl _⟩⟩
 ·rw[dO]
  exact s.lt i j h
 ·have e:=(lv i ⟨z,hz⟩).1
  rw[gp,if_neg e]at hz
  rcases s.blk i z hz with h |⟨j',h1,h2,h3⟩
  ·exact .inl h
  ·have:j'≠j:=λe'=>e (s.inj i b j (.inl ⟨z,hz⟩) (.inl ⟨_,hg⟩) (e' ▸ h1) hb (.inr hgo))
   refine .inr ⟨j',h1, ?_,λh=>by simp only[VI.kill,bU _ _ e];exact h3 h⟩
   simp only[Heap.put,if_neg this]
   exact BL.mono (κ:=ι) (qC:=ι.kill b) (d:=ι.dim i) (hk.or R) (λ_ _ _=>⟨λ_ h=>⟨h,λ_ h=>h⟩,λh=>⟨h,λ_ h=>h⟩⟩) (λ_ h=>h) h2
 ·rw[dO]
  exact s.sF i h
 ·have e:=(lv i ⟨_,h⟩).1
  rw[gp,if_neg e]at h
  simp only[VI.kill,bU _ _ e]at hi
  exact s.pG i hi c sl h
 ·have:=(s.lt b j hb).2
  have:i≠j:=λe=>by subst e;simp only[Heap.put]at hi;omega
  simp only[Heap.put,if_neg this]
  exact s.Ot i hi
 ·simp only[VI.kill,setAt]
  split
  ·rfl
  ·exact h
 ·have hib:i≠b:=λe=>by subst e;rw[hg]at h;cases h
  simp only[VI.kill,bU _ _ hib]
 ·have hib:i≠b:=λe=>ht (by simp[e])
  have:j'≠j:=λe'=>hib (s.inj i b j (ac i hl) (.inl ⟨_,hg⟩) (e' ▸ hj) hb (.inr hgo))
  simp[Heap.put,this]
theorem Heap.FB{M:Heap}{j:Nat}{y:Option jN}(h:M.get j=y):M.put j y=M:=by
 cases M
 simp only[Heap.put]
 congr 1
 funext i
 by_cases e:i=j
 ·subst e;simp;exact h.symm
 ·simp[e]
theorem aas{R:Nat→Prop}{ι:VI}{H:WH}{M:Heap}(s:VS R ι H M){i:Nat}(hi:H.length≤i)(j:Nat)(d:Nat×Nat)(S:Nat→Prop):VI.Le ι (ι.add i j d) S:=λk _ =>
 ⟨λj' h=>by
  have:k≠i:=by have:=(s.lt k j' h).1;omega
  simp only[VI.add,bU _ _ this]
  exact⟨h,λ_ h=>h⟩,
  λh=>by
  have:k≠i:=by have:=(s.sF k h).1;omega
  simp only[VI.add,bU _ _ this]
  exact⟨h,λ_ h=>h⟩⟩
theorem Sr{R:Nat→Prop}{ι:VI}{H:WH}{M:Heap}(s:VS R ι H M){i:Nat}(hi:H.length≤i)(S:Nat→Prop):VI.Le ι (ι.fT i) S:=λk _ =>
 ⟨λj' h=>by
  have:k≠i:=by have:=(s.lt k j' h).1;omega
  simp only[VI.fT,bU _ _ this]
  exact⟨h,λ_ h=>h⟩,
  λh=>by
  have:k≠i:=by have:=(s.sF k h).1;omega
  simp only[VI.fT,bU _ _ this]
  exact⟨h,λ_ h=>h⟩⟩
theorem VS.push {R:Nat→Prop} {ι:VI} {H:WH} {M:Heap} (s:VS R ι H M) {x y:jN} {d:Nat×Nat} (hx:BL M (OR R ι) ι (some d) x (some y)) :
  VS R (ι.add H.length M.next d) (H++[some x]) (M.push y)∧Stp H.length [] ι H M (ι.add H.length M.next d) (H++[some x]) (M.push y):=by
 have hls:=λS=>aas s (Nat.le_refl _) M.next d S
 have hk:Keeps M (own ι) (M.push y) (own (ι.add H.length M.next d)):=⟨Nat.le_succ _,λb hb ho=>⟨by simp[Heap.push,Nat.ne_of_lt hb],λ⟨i,hi,hg⟩=>by
  by_cases e:i=H.length
  ·subst e
   simp only[VI.add,lV,av]at hi
   omega
  ·simp only[VI.add,bU _ _ e]at hi hg
   exact ho ⟨i,hi,hg⟩⟩⟩
 have ac:∀i,i≠H.length→act (ι.add H.length M.next d) (H++[some x]) i→act ι H i:=λi a h=>by
  rcases h with⟨z,h⟩ | h
  ·rw[mh]at h
   split at h
   ·exact .inl ⟨z,h⟩
   ·first |(cases h;done) |(rw[if_neg a]at h;cases h)
  ·simp only[VI.add,bU _ _ a]at h
   exact .inr h
 refine⟨⟨λi j h=>?_,λi i' j h h' e e' g=>?_,λi z hz=>?_,λi hi=>?_,λi hi c sl h=>?_,λi hi=>?_,λj h=>?_⟩,⟨hk,hls _,λi hi hg=>?_,λi hi=>by simp only[VI.add,bU _ _ (show i≠H.length by omega)],λi hi=>by simp only[VI.add,bU _ _ (show i≠H.length by omega)],λi hi _=>by simp only[VI.add,bU _ _ (show i≠H.length by omega)],λi hi hl=>?_,λi j hi hl hj _=>?_,by simp⟩⟩
 ·by_cases e:i=H.length
  ·subst e
   simp only[VI.add,lV,av]at h
   simp[Heap.push];omega
  ·simp only[VI.add,bU _ _ e]at h
   have:=s.lt i j h
   simp[Heap.push];omega
 ·by_cases a:i=H.length
  ·by_cases a':i'=H.length
   ·rw[a,a']
   ·rw[a]at e
    simp only[VI.add,lV,av]at e
    simp only[VI.add,bU _ _ a']at e'
    have:=(s.lt _ _ e').2
    omega
  ·simp only[VI.add,bU _ _ a]at e
   by_cases a':i'=H.length
   ·rw[a']at e'
    simp only[VI.add,lV,av]at e'
    have:=(s.lt _ _ e).2
    omega
   ·simp only[VI.add,bU _ _ a']at e'
    simp only[VI.add,bU _ _ a',bU _ _ a]at g
    exact s.inj i i' j (ac i a h) (ac i' a' h') e e' g
 ·rw[mh]at hz
  split at hz
  ·rename_i hl
   have e:i≠H.length:=by omega
   rcases s.blk i z hz with⟨h1,h2,h3⟩ |⟨j,h1,h2,h3⟩
   ·exact .inl (by simp only[VI.add,bU _ _ e];exact⟨h1,h2,h3⟩)
   ·have:=(s.lt i j h1).2
    refine .inr ⟨j,by simp only[VI.add,bU _ _ e];exact h1, ?_,by simp only[VI.add,bU _ _ e];exact h3⟩
    simp only[Heap.push,if_neg (show j≠M.next by omega)]
    exact h2.mono (hk.or R) hls (λ_ h=>by simp only[VI.add,bU _ _ e];exact h)
  ·split at hz
   ·rename_i e
    obtain rfl:=ak hz
    subst e
    refine .inr ⟨M.next,by simp[VI.add,setAt], ?_,λ_=>by simp[VI.add,setAt]⟩
    simp only[Heap.push,if_true]
    exact hx.mono (hk.or R) hls (λ_ h=>by simpa[VI.add,setAt]using h)
   ·cases hz
 ·by_cases e:i=H.length
  ·subst e
   simp[VI.add,setAt]at hi
  ·simp only[VI.add,bU _ _ e]at hi ⊢
   have:=s.sF i hi
   exact⟨by simp;omega,this.2⟩
 ·by_cases e:i=H.length
  ·subst e
   simp[VI.add,setAt]at hi
  ·simp only[VI.add,bU _ _ e]at hi
   rw[mh]at h
   split at h
   ·exact s.pG i hi c sl h
   ·first |(cases h;done) |(rw[if_neg e]at h;cases h)
 ·simp only[Heap.push]at hi ⊢
  rw[if_neg (by omega)]
  exact s.Ot i (by omega)
 ·obtain⟨h1,h2⟩:=s.res j h
  refine⟨by simp only[Heap.push];omega,λi hi=>?_⟩
  by_cases e:i=H.length
  ·subst e
   simp only[VI.add,lV,ne_eq,av]
   omega
  ·have:=h2 i (ac i e hi)
   simp only[VI.add,bU _ _ e]
   exact this
 ·simp only[VI.add,bU _ _ (show i≠H.length by omega)]
  exact hg
 ·obtain⟨z,hl⟩:=hl
  rw[mh,if_pos hi]at hl
  exact⟨z,hl⟩
 ·simp[Heap.push,show j≠M.next from by have:=(s.lt i j hj).2;omega]
theorem VS.Xy {R:Nat→Prop} {ι:VI} {H:WH} {M:Heap} (s:VS R ι H M) :
  VS R (ι.fT H.length) (H++[some (.cells [] false true)]) M∧Stp H.length [] ι H M (ι.fT H.length) (H++[some (.cells [] false true)]) M:=by
 have hls:=λS=>Sr s (Nat.le_refl _) S
 have ho:∀j,own (ι.fT H.length) j→own ι j:=λj ⟨i,hi,hg⟩=>by
  by_cases e:i=H.length
  ·subst e
   simp[VI.fT,lV]at hi
  ·simp only[VI.fT,bU _ _ e]at hi hg
   exact⟨i,hi,hg⟩
 have hk:Keeps M (own ι) M (own (ι.fT H.length)):=⟨Nat.le_refl _,λb hb h=>⟨rfl,λk=>h (ho b k)⟩⟩
 have ac:∀i,i≠H.length→act (ι.fT H.length) (H++[some (.cells [] false true)]) i→act ι H i:=λi a h=>by
  rcases h with⟨z,h⟩ | h
  ·rw[mh]at h
   split at h
   ·exact .inl ⟨z,h⟩
   ·first |(cases h;done) |(rw[if_neg a]at h;cases h)
  ·simp only[VI.fT,bU _ _ a]at h
   exact .inr h
 refine⟨⟨λi j h=>?_,λi i' j h h' e e' g=>?_,λi z hz=>?_,λi hi=>?_,λi hi c sl h=>?_,s.Ot,λj h=>⟨(s.res j h).1,λi hi=>?_⟩⟩,⟨hk,hls _,λi hi hg=>?_,λi hi=>by simp only[VI.fT,bU _ _ (show i≠H.length by omega)],λi hi=>by simp only[VI.fT,bU _ _ (show i≠H.length by omega)],λi hi _=>by simp only[VI.fT,bU _ _ (show i≠H.length by omega)],λi hi hl=>?_,λi j hi hl hj _=>rfl,by simp⟩⟩
 ·by_cases e:i=H.length
  ·subst e
   simp[VI.fT,lV]at h
  ·simp only[VI.fT,bU _ _ e]at h
   have:=s.lt i j h
   simp;omega
 ·have a:i≠H.length:=λa=>by subst a;simp[VI.fT,lV]at e
  have a':i'≠H.length:=λa=>by subst a;simp[VI.fT,lV]at e'
  exact s.inj i i' j (ac i a h) (ac i' a' h') (by simpa only[VI.fT,bU _ _ a]using e) (by simpa only[VI.fT,bU _ _ a']using e') (by simpa only[VI.fT,bU _ _ a',bU _ _ a]using g)
 ·rw[mh]at hz
  split at hz
  ·rename_i hl
   have e:i≠H.length:=by omega
   rcases s.blk i z hz with⟨h1,h2,h3⟩ |⟨j,h1,h2,h3⟩
   ·exact .inl (by simp only[VI.fT,bU _ _ e];exact⟨h1,h2,h3⟩)
   ·exact .inr ⟨j,by simp only[VI.fT,bU _ _ e];exact h1,h2.mono (hk.or R) hls (λ_ h=>by simp only[VI.fT,bU _ _ e];exact h),by simp only[VI.fT,bU _ _ e];exact h3⟩
  ·split at hz
   ·rename_i e
    obtain rfl:=ak hz
    subst e
    exact .inl ⟨by simp[VI.fT,setAt],by simp[VI.fT,setAt],false,rfl⟩
   ·cases hz
 ·by_cases e:i=H.length
  ·subst e
   simp[VI.fT,setAt]
  ·simp only[VI.fT,bU _ _ e]at hi ⊢
   have:=s.sF i hi
   exact⟨by simp;omega,this.2⟩
 ·by_cases e:i=H.length
  ·subst e
   simp[VI.fT,setAt]at hi
  ·simp only[VI.fT,bU _ _ e]at hi
   rw[mh]at h
   split at h
   ·exact s.pG i hi c sl h
   ·first |(cases h;done) |(rw[if_neg e]at h;cases h)
 ·by_cases e:i=H.length
  ·subst e
   simp[VI.fT,lV]
  ·have:=(s.res j h).2 i (ac i e hi)
   simp only[VI.fT,bU _ _ e]
   exact this
 ·simp only[VI.fT,bU _ _ (show i≠H.length by omega)]
  exact hg
 ·obtain⟨z,hl⟩:=hl
  rw[mh,if_pos hi]at hl
  exact⟨z,hl⟩
theorem VS.Rm{R:Nat→Prop}{ι:VI}{H:WH}{M:Heap}(s:VS R ι H M){b:Nat}(hb:ι.Gy b=true):VS R ι (fQ H b none) M∧Stp H.length [b] ι H M ι (fQ H b none) M:=by
 have lv:∀k,(∃z,b_ (fQ H b none) k=some z)→k≠b∧∃z,b_ H k=some z:=λk ⟨z,hz⟩=>by
  rw[mV]at hz
  split at hz
  ·cases hz
  ·rename_i h
   exact⟨λe=>h ⟨e,(s.sF b hb).1⟩,z,hz⟩
 have gn:∀k,k≠b→b_ (fQ H b none) k=b_ H k:=λk h=>by rw[mV,if_neg (λe=>h e.1)]
 refine⟨⟨λi j h=>by rw[dO];exact s.lt i j h,λi i' j h h' e e'=>s.inj i i' j (h.imp (λh=>(lv i h).2) id) (h'.imp (λh=>(lv i' h).2) id) e e',λi z hz=>?_,λi h=>by rw[dO];exact s.sF i h,λi hi c sl h=>?_,s.Ot,λj h=>⟨(s.res j h).1,λi hi=>(s.res j h).2 i (hi.imp (λh=>(lv i h).2) id)⟩⟩,⟨.refl _ _,.refl _ _,λ_ _ h=>h,λ_ _=>rfl,λ_ _=>rfl,λ_ _ _=>rfl,λi _ h=>(lv i h).2,λ_ _ _ _ _ _=>rfl,by rw[dO];exact Nat.le_refl _⟩⟩
 ·have e:=(lv i ⟨z,hz⟩).1
  rw[gn i e]at hz
  exact s.blk i z hz
 ·have e:=(lv i ⟨_,h⟩).1
  rw[gn i e]at h
  exact s.pG i hi c sl h
theorem VS.swap {R:Nat→Prop} {ι:VI} {H:WH} {M:Heap} (s:VS R ι H M) {b j:Nat} (hb:ι b=some j) {c0:List AV} {sl0:Bool} (hg:b_ H b=some (.cells c0 false sl0)) {x y:jN} {d:Nat×Nat} (hx:BL M (OR R ι) ι (some d) x (some y)) :
  VS R ((ι.kill b).add H.length j d) (fQ H b none++[some x]) (M.put j (some y))∧Stp H.length [b] ι H M ((ι.kill b).add H.length j d) (fQ H b none++[some x]) (M.put j (some y))∧((ι.kill b).add H.length j d) H.length=some j:=by
 obtain⟨_,_,_,_,_,_,hw,_⟩:=s.at hb hg
 have hgo:=(hw rfl).2
 have hbl:=nK hg
 have hj:=(s.lt b j hb).2
 have hto:∀i,i≠H.length→((ι.kill b).add H.length j d) i=ι i:=λi e=>by simp only[VI.add,VI.kill,bU _ _ e]
 have aat:∀i,i≠H.length→((ι.kill b).add H.length j d).Gy i=ι.Gy i:=λi e=>by simp only[VI.add,VI.kill,bU _ _ e]
 have UG:∀i,i≠H.length→((ι.kill b).add H.length j d).dim i=ι.dim i:=λi e=>by simp only[VI.add,VI.kill,bU _ _ e]
 have hgn:∀i,i≠H.length→i≠b→((ι.kill b).add H.length j d).gone i=ι.gone i:=λi e e'=>by simp only[VI.add,VI.kill,bU _ _ e,bU _ _ e']
 have hself:((ι.kill b).add H.length j d) H.length=some j:=by simp[VI.add,setAt]
 have ho:∀k,own ((ι.kill b).add H.length j d) k→own ι k:=λk ⟨i,hi,hg'⟩=>by
  by_cases e:i=H.length
  ·subst e
   rw[hself]at hi
   obtain rfl:=ak hi
   exact⟨b,hb,hgo⟩
  ·rw[hto i e]at hi
   by_cases e':i=b
   ·subst e'
    exact⟨i,hi,hgo⟩
   ·rw[hgn i e e']at hg'
    exact⟨i,hi,hg'⟩
 have hls:∀S,VI.Le ι ((ι.kill b).add H.length j d) S:=λS k _ =>
  ⟨λj' h=>by
   have:k≠H.length:=by have:=(s.lt k j' h).1;omega
   rw[hto k this,UG k this]
   exact⟨h,λ_ h=>h⟩,
   λh=>by
   have:k≠H.length:=by have:=(s.sF k h).1;omega
   rw[aat k this,UG k this]
   exact⟨h,λ_ h=>h⟩⟩
 have hk:Keeps M (own ι) (M.put j (some y)) (own ((ι.kill b).add H.length j d)):=⟨Nat.le_refl _,λb' _ h=>⟨by
  have:b'≠j:=λe=>h (e ▸ ⟨b,hb,hgo⟩)
  simp[Heap.put,this],λk=>h (ho b' k)⟩⟩
 have gp:∀k,b_ (fQ H b none++[some x]) k=if k=H.length then some x else if k=b then none else b_ H k:=λk=>by
  rw[mh,dO,mV]
  by_cases e:k<H.length
  ·rw[if_pos e,if_neg (show k≠H.length by omega)]
   by_cases e':k=b
   ·rw[if_pos ⟨e',hbl⟩,if_pos e']
   ·rw[if_neg (λh=>e' h.1),if_neg e']
  ·rw[if_neg e]
   by_cases e':k=H.length
   ·rw[if_pos e',if_pos e']
   ·rw[if_neg e',if_neg e',if_neg (show k≠b by omega),MR (by omega)]
 have lv:∀k,k≠H.length→(∃z,b_ (fQ H b none++[some x]) k=some z)→k≠b∧∃z,b_ H k=some z:=λk hn ⟨z,hz⟩=>by
  rw[gp,if_neg hn]at hz
  by_cases e:k=b
  ·rw[if_pos e]at hz;cases hz
  ·rw[if_neg e]at hz
   exact⟨e,z,hz⟩
 have ac:∀i,i≠H.length→act ((ι.kill b).add H.length j d) (fQ H b none++[some x]) i→i≠b∧act ι H i:=λi a h=>by
  rcases h with h | h
  ·exact⟨(lv i a h).1,.inl (lv i a h).2⟩
  ·have e':i≠b:=λe'=>by subst e';simp[VI.add,VI.kill,setAt,a]at h
   rw[hgn i a e']at h
   exact⟨e',.inr h⟩
 refine⟨⟨λi k h=>?_,λi i' k h h' e e' g=>?_,λi z hz=>?_,λi hi=>?_,λi hi c sl h=>?_,λi hi=>?_,λk h=>⟨(s.res k h).1,λi hi=>?_⟩⟩,⟨hk,hls _,λi hi h=>?_,λi hi=>hto i (by omega),λi hi=>UG i (by omega),λi hi h=>hgn i (by omega) (λe=>by subst e;rw[hg]at h;cases h),λi hi h=>(lv i (by omega) h).2,λi k hi hl hk' ht=>?_,by simp[dO]⟩,hself⟩
 ·simp only[aJ,dO,List.length_singleton,Heap.put]
  by_cases e:i=H.length
  ·subst e
   rw[hself]at h
   obtain rfl:=ak h
   omega
  ·rw[hto i e]at h
   have:=s.lt i k h
   omega
 ·by_cases a:i=H.length
  ·by_cases a':i'=H.length
   ·rw[a,a']
   ·rw[a,hself]at e
    obtain rfl:=ak e
    rw[hto i' a']at e'
    obtain⟨q1,q2⟩:=ac i' a' h'
    exact absurd (s.inj i' b j q2 (.inl ⟨_,hg⟩) e' hb (.inr hgo)) q1
  ·rw[hto i a]at e
   obtain⟨q1,q2⟩:=ac i a h
   by_cases a':i'=H.length
   ·rw[a',hself]at e'
    obtain rfl:=ak e'
    exact absurd (s.inj i b j q2 (.inl ⟨_,hg⟩) e hb (.inr hgo)) q1
   ·rw[hto i' a']at e'
    obtain⟨q3,q4⟩:=ac i' a' h'
    rw[hgn i a q1,hgn i' a' q3]at g
    exact s.inj i i' k q2 q4 e e' g
 ·by_cases e:i=H.length
  ·subst e
   rw[gp,if_pos rfl]at hz
   obtain rfl:=ak hz
   refine .inr ⟨j,hself, ?_,λ_=>by simp[VI.add,setAt]⟩
   simp only[Heap.put,if_true]
   exact hx.mono (hk.or R) hls (λ_ h=>by simpa[VI.add,setAt]using h)
  ·obtain⟨q1,q2⟩:=lv i e ⟨z,hz⟩
   rw[gp,if_neg e,if_neg q1]at hz
   rcases s.blk i z hz with⟨h1,h2,h3⟩ |⟨k,h1,h2,h3⟩
   ·exact .inl ⟨by rw[aat i e];exact h1,by rw[UG i e];exact h2,h3⟩
   ·have:k≠j:=λe'=>q1 (s.inj i b j (.inl ⟨z,hz⟩) (.inl ⟨_,hg⟩) (e' ▸ h1) hb (.inr hgo))
    refine .inr ⟨k,by rw[hto i e];exact h1, ?_,by rw[hgn i e q1];exact h3⟩
    simp only[Heap.put,if_neg this]
    exact h2.mono (hk.or R) hls (λ_ h=>by rw[UG i e];exact h)
 ·by_cases e:i=H.length
  ·subst e
   simp[VI.add,setAt]at hi
  ·rw[aat i e]at hi
   have:=s.sF i hi
   rw[hto i e]
   exact⟨by simp[dO];omega,this.2⟩
 ·by_cases e:i=H.length
  ·subst e
   simp[VI.add,setAt]at hi
  ·obtain⟨q1,q2⟩:=lv i e ⟨_,h⟩
   rw[gp,if_neg e,if_neg q1]at h
   rw[hgn i e q1]at hi
   exact s.pG i hi c sl h
 ·have:i≠j:=λe=>by subst e;simp only[Heap.put]at hi;omega
  simp only[Heap.put,if_neg this]
  exact s.Ot i hi
 ·by_cases e:i=H.length
  ·subst e
   rw[hself]
   intro e'
   obtain rfl:=ak e'
   exact(s.res j h).2 b (.inl ⟨_,hg⟩) hb
  ·rw[hto i e]
   exact(s.res k h).2 i (ac i e hi).2
 ·by_cases e':i=b
  ·subst e'
   simp[VI.add,VI.kill,setAt,show i≠H.length by omega]
  ·rw[hgn i (by omega) e']
   exact h
 ·obtain⟨q1,q2⟩:=ac i (by omega) hl
  have:k≠j:=λe'=>q1 (s.inj i b j q2 (.inl ⟨_,hg⟩) (e' ▸ hk') hb (.inr hgo))
  simp[Heap.put,this]
mutual
theorem UH{M:Heap}{O:Nat→Prop}{κ:VI}:∀(v a:AV),sc v=true→VL M O κ v a→v=a
 |.bool _,a,_,h=>by simp only[VL]at h;exact h.symm
 |.int ..,a,_,h=>by simp only[VL]at h;exact h.symm
 |.str _,a,_,h=>by simp only[VL]at h;exact h.symm
 |.tuple cs,a,hs,h=>by
  simp only[sc]at hs
  simp only[VL]at h
  obtain⟨cs',rfl,h⟩:=h
  rw[MS cs cs' hs h]
 |.agg cs,a,hs,h=>by
  simp only[sc]at hs
  simp only[VL]at h
  obtain⟨cs',rfl,h⟩:=h
  rw[MS cs cs' hs h]
 |.undef,_,hs,_=>by simp[sc]at hs
 |.ptr _,_,hs,_=>by simp[sc]at hs
 |.slice ..,_,hs,_=>by simp[sc]at hs
 |.map _,_,hs,_=>by simp[sc]at hs
 |.func _ _,_,hs,_=>by simp[sc]at hs
 |.nilFunc,_,hs,_=>by simp[sc]at hs
 |.list ..,_,hs,_=>by simp[sc]at hs
 |.elem ..,_,hs,_=>by simp[sc]at hs
 |.acc ..,_,hs,_=>by simp[sc]at hs
theorem MS{M:Heap}{O:Nat→Prop}{κ:VI}:∀(v a:List AV),scL v=true→bL M O κ v a→v=a
 | [],[],_,_=>rfl
 | [],_::_,_,h=>by simp[bL]at h
 | _::_,[],_,h=>by simp[bL]at h
 | v::r,a::l,hs,h=>by
  simp only[scL]at hs
  split at hs
  case h_2=>cases hs
  rename_i hv
  simp only[bL]at h
  rw[UH v a hv h.1,MS r l hs h.2]
end
theorem Rn{M:Heap}{O:Nat→Prop}{κ:VI}{v a:AV}(hs:sc v=true)(h:VL M O κ v a):v=a:=UH v a hs h
mutual
theorem UJ{M:Heap}{O:Nat→Prop}{κ:VI}:∀(v:AV),sc v=true→VL M O κ v v
 |.bool _,_=>by simp[VL]
 |.int ..,_=>by simp[VL]
 |.str _,_=>by simp[VL]
 |.tuple cs,hs=>by
  simp only[sc]at hs
  simp only[VL]
  exact⟨_,rfl,MU cs hs⟩
 |.agg cs,hs=>by
  simp only[sc]at hs
  simp only[VL]
  exact⟨_,rfl,MU cs hs⟩
 |.undef,hs=>by simp[sc]at hs
 |.ptr _,hs=>by simp[sc]at hs
 |.slice ..,hs=>by simp[sc]at hs
 |.map _,hs=>by simp[sc]at hs
 |.func _ _,hs=>by simp[sc]at hs
 |.nilFunc,hs=>by simp[sc]at hs
 |.list ..,hs=>by simp[sc]at hs
 |.elem ..,hs=>by simp[sc]at hs
 |.acc ..,hs=>by simp[sc]at hs
theorem MU{M:Heap}{O:Nat→Prop}{κ:VI}:∀(v:List AV),scL v=true→bL M O κ v v
 | [],_=>by simp[bL]
 | v::r,hs=>by
  simp only[scL]at hs
  split at hs
  case h_2=>cases hs
  rename_i hv
  simp only[bL]
  exact⟨UJ v hv,MU r hs⟩
end
theorem aa3{M:Heap}{O:Nat→Prop}{κ:VI}{v:AV}(hs:sc v=true):VL M O κ v v:=UJ v hs
theorem mW{p:AV×AV}{es:List (AV×AV)}(h:Lh (p::es)=true):sc p.1=true∧sc p.2=true∧Lh es=true:=by
 simp only[Lh]at h
 split at h
 ·rename_i h1 h2
  exact⟨h1,h2,h⟩
 ·cases h
theorem Jy{p:AV×AV}{es:List (AV×AV)}(h1:sc p.1=true)(h2:sc p.2=true)(h:Lh es=true):Lh (p::es)=true:=by
 simp only[Lh,h1,h2]
 exact h
theorem Ro{kd:Kd}{k:AV}:∀ {es:List (AV×AV)} {i:Nat} {q:Nat×AV},Lh es=true→yJ kd k es i=some (some q)→sc q.2=true
 | [],i,q,_,h=>by simp[yJ]at h
 | p::es,i,q,hs,h=>by
  obtain⟨h1,h2,h3⟩:=mW hs
  simp only[yJ]at h
  split at h
  ·simp only[av]at h
   rw[←h]
   exact h2
  ·exact Ro h3 h
  ·cases h
theorem Rp{k v:AV}(hk:sc k=true)(hv:sc v=true):∀ {es:List (AV×AV)} {i:Nat},Lh es=true→Lh (es.set i (k,v))=true
 | [],i,_=>by simp[Lh]
 | p::es,0,h=>Jy hk hv (mW h).2.2
 | p::es,i+1,h=>Jy (mW h).1 (mW h).2.1 (Rp hk hv (mW h).2.2)
theorem Oz{k v:AV}(hk:sc k=true)(hv:sc v=true):∀ {es:List (AV×AV)},Lh es=true→Lh (es++[(k,v)])=true
 | [],_=>Jy hk hv rfl
 | p::es,h=>Jy (mW h).1 (mW h).2.1 (Oz hk hv (mW h).2.2)
theorem LA:∀ {es:List (AV×AV)} {i:Nat},Lh es=true→Lh (es.eraseIdx i)=true
 | [],i,_=>by simp[Lh]
 | p::es,0,h=>(mW h).2.2
 | p::es,i+1,h=>Jy (mW h).1 (mW h).2.1 (LA (mW h).2.2)
theorem VS.MV{R:Nat→Prop}{ι:VI}{H:WH}{M:Heap}(s:VS R ι H M){r:Nat}{y:AV}(h:VL M (OR R ι) ι (.map (some r)) y){es:List (AV×AV)}(hg:b_ H r=some (.map es)):∃j,y=.map (some j)∧M.get j=some (.map es)∧Lh es=true∧ι r=some j:=by
 simp only[VL]at h
 obtain⟨j,h1,rfl⟩:=h
 rcases s.blk r _ hg with⟨_,_,_,q⟩ |⟨j',h2,⟨h3,_,h4⟩,_⟩
 ·cases q
 ·rw[h1]at h2
  obtain rfl:=ak h2
  exact⟨j,rfl,h3,h4,h1⟩
theorem Cj{M:Heap}{O:Nat→Prop}{κ:VI}:∀ {l l':List AV} {s:List UInt8},bL M O κ l l'→lF l=some s→lF l'=some s
 | [],l',s,h,e=>by
  cases l' with
  | nil=>exact e
  | cons _ _=>simp[bL]at h
 | v::l,l',s,h,e=>by
  cases l' with
  | nil=>simp[bL]at h
  | cons v' l' =>
   simp only[bL]at h
   cases v<;>(try simp only[lF]at e)<;>first |(cases e;done) | skip
   rename_i k n
   cases k<;>(try simp only[lF]at e)<;>first |(cases e;done) | skip
   rw[h.1.eq rfl]
   simp only[lF]
   obtain⟨t,h1,rfl⟩:=aC.1 e
   rw[Cj h.2 h1]
   rfl
theorem FC{w:Bool}{c:List AV}{o m:Nat}(h:o+m≤c.length)(hw:w=true→o=0∧m=c.length):(Ol w c o m).length=m:=by
 cases w with
 | true=>exact(hw rfl).2.symm
 | false=>simp only[Ol,aV,aS];omega
theorem FD {M:Heap} {O:Nat→Prop} {κ:VI} {w:Bool} {c c' t:List AV} {o m:Nat} (r:bL M O κ c c') (h:o+m≤c.length) (hw:w=true→o=0∧m=c.length) :
  bL M O κ (Ol w c o m) (((c'++t).drop o).take m):=by
 have hl:=r.length
 have e:((c'++t).drop o).take m=(c'.drop o).take m:=by
  rw[List.drop_append_of_le_length (by omega),List.take_append_of_le_length (by simp only[aS];omega)]
 rw[e]
 cases w with
 | true =>
  obtain⟨rfl,rfl⟩:=hw rfl
  rw[List.drop_zero,List.take_of_length_le (by omega)]
  exact r
 | false=>exact(r.drop o).take m
theorem VL.qX {R:Nat→Prop} {ι:VI} {H:WH} {M:Heap} (s:VS R ι H M) {b o sz n:Nat} {w:Bool} {a:AV} (h:VL M (OR R ι) ι (.acc b o sz n w) a) {c:List AV} {ro sl:Bool} (hg:b_ H b=some (.cells c ro sl)) :
  o+n*sz≤c.length∧(w=true→o=0∧n*sz=c.length)∧∃p s' cap ex,a=.slice p s' n cap ex∧n≤cap∧(p≠none→s'=sz) ∧
   ((∃j c' t ro' sl' L,ι b=some j∧M.get j=some (.cells (c'++t) ro' sl')∧(ro=false→ro'=false∧ι.gone b=false)∧ι.dim b=some (c.length,L)∧L≤(c'++t).length∧bL M (OR R ι) (if sl then VI.none else ι) c c'∧p=some (j,o)∧o+cap*sz≤L) ∨
    (n=0∧cap=0∧ex=true∧((∃j c' t ro' sl' L,ι b=some j∧M.get j=some (.cells (c'++t) ro' sl')∧(ro=false→ro'=false∧ι.gone b=false)∧ι.dim b=some (c.length,L)∧L≤(c'++t).length∧bL M (OR R ι) (if sl then VI.none else ι) c c')∨(ι.Gy b=true∧c=[]∧sl=true)))):=by
 simp only[VL]at h
 obtain⟨p,s',cap,ex,rfl,h1,h2,h3,m,L,h4,h5,h6,h7⟩:=h
 rcases h7 with⟨j,k1,k2⟩ |⟨k1,k2,k3,k4,k5⟩
 ·obtain⟨c',t,ro',sl',L',g1,g2,g3,g4,g5⟩:=s.at k1 hg
  rw[h4]at g3
  simp only[av,aI]at g3
  obtain⟨rfl,rfl⟩:=g3
  refine⟨h5,h6,p,s',cap,ex,rfl,h1,h3, ?_⟩
  rcases k2 with⟨k2,k3⟩ |⟨k2,k3,k4⟩
  ·exact .inl ⟨j,c',t,ro',sl',L,k1,g1,g2,h4,g4,g5,k2,k3⟩
  ·exact .inr ⟨k2,k3,k4,.inl ⟨j,c',t,ro',sl',L,k1,g1,g2,h4,g4,g5⟩⟩
 ·rcases s.blk b _ hg with⟨q1,q2,ro',q3⟩ |⟨j,q1,_⟩
  ·cases q3
   rw[h4]at q2
   simp only[av,aI]at q2
   obtain⟨rfl,rfl⟩:=q2
   exact⟨h5,h6,p,s',cap,ex,rfl,h1,h3,.inr ⟨k2,k3,k4,.inr ⟨k1,rfl,rfl⟩⟩⟩
  ·rw[(s.sF b k1).2]at q1
   cases q1
theorem LB{R:Nat→Prop}{ι:VI}{H:WH}{M:Heap}(s:VS R ι H M){ρ σ:Nat→AV}(h:∀t,VL M (OR R ι) ι (ρ t) (σ t)){o:rY}(hc:o.cZ=true){v:AV}(hv:wL (o.sub ρ) H=some v):∃a,aL (o.sub σ) [] M=some a∧VL M (OR R ι) ι v a:=by
 cases o with
 | load agg n x =>
  have hx:=dJ h hc
  simp only[rY.sub,wL,aL]at hv ⊢
  generalize (x.sub ρ).ev []=X at *
  generalize (x.sub σ).ev []=Y at *
  split at hv
  ·cases hv
  rename_i hn0
  cases X with
  | elem cs =>
   simp only[VL]at hx
   obtain⟨b,o,c,ro,sl,rfl,g1,g2,g3,g4⟩:=hx
   simp only at hv
   have key:∀g m,qB g 0 m cs=some v→(g=true→0<m)→∃a,yI g m (.ptr (some (b,o))) M=some a∧VL M (OR R ι) ι v a:=by
    intro g m hp hm
    obtain⟨h1,h2⟩:=Jv hp
    cases g with
    | true =>
     simp only[wo,if_true,av,List.drop_zero]at h1
     subst h1
     have hle:=h2 rfl
     simp only[List.drop_zero]at hle
     have hlen:=g4.length
     have hco:o+m≤c.length:=by
      have:=hm rfl
      simp only[aV,aS]at hlen
      omega
     refine⟨.agg ((c.drop o).take m), ?_, ?_⟩
     ·simp only[yI,if_true,Heap.read,g1]
      rw[if_pos hco]
      rfl
     ·simp only[VL]
      refine⟨_,rfl, ?_⟩
      have:=(g4.take m).lift (κ:=ι)
      rwa [List.take_take,Nat.min_eq_left hle]at this
    | false =>
     simp only[wo,Bool.false_eq_true,if_false]at h1
     obtain⟨a,h3,h4⟩:=g4.get 0 v h1
     refine⟨a, ?_,VL.mono (.refl _ _) _ _ _ _ (VI.Le.Rk _ _) h4⟩
     simp only[yI,Bool.false_eq_true,if_false,g1]
     rw[List.getElem?_take,List.getElem?_drop]at h3
     split at h3
     ·simpa using h3
     ·cases h3
   refine key agg n hv λe=>?_
   subst e
   simp only[Bool.true_and]at hn0
   exact Nat.pos_of_ne_zero λe=>by subst e;simp at hn0
  | ptr p =>
   cases p with
   | none=>simp at hv
   | some q =>
    simp only[VL]at hx
    obtain⟨j,h1,rfl⟩:=hx
    simp only at hv
    split at hv
    case h_2=>cases hv
    rename_i c ro sl hg
    obtain⟨c',t,ro',sl',L,h2,_,_,_,h3⟩:=s.at h1 hg
    obtain⟨h4,h5⟩:=Jv hv
    have hl:=h3.length
    cases agg with
    | true =>
     simp only[wo,if_true,av]at h4
     subst h4
     have:=h5 rfl
     simp only[aS]at this
     have hn:n≠0:=λe=>by subst e;simp at hn0
     refine⟨.agg ((c'.drop q.2).take n), ?_,by simp only[VL];exact⟨_,rfl,(h3.kap.drop _).take _⟩⟩
     simp only[yI,if_true,Heap.read,h2]
     rw[if_pos (by simp only[aJ];omega),List.drop_append_of_le_length (by omega),List.take_append_of_le_length (by simp only[aS];omega)]
     rfl
    | false =>
     simp only[wo,Bool.false_eq_true,if_false]at h4
     obtain⟨a,h6,h7⟩:=h3.kap.get _ _ h4
     refine⟨a, ?_,h7⟩
     simp only[yI,Bool.false_eq_true,if_false,h2]
     rw[List.getElem?_append_left (by rw[←hl];exact(aM.1 h4).1)]
     exact h6
  | _=>simp at hv
 | jF x =>
  have hx:=dJ h hc
  simp only[rY.sub,wL,aL]at hv ⊢
  generalize (x.sub ρ).ev []=X at *
  generalize (x.sub σ).ev []=Y at *
  split at hv
  ·obtain⟨t,h1,rfl⟩:=aC.1 hv
   simp only[VL]at hx
   rcases hx with⟨_,rfl,s',rfl⟩ |⟨b,o,cap,ex',rfl,q1,q2,q3,q4⟩
   ·simp only[lF,av]at h1
    subst h1
    exact⟨.str [],rfl,by simp[VL]⟩
   ·refine⟨.str t, ?_,by simp[VL]⟩
    simp only[o8]
    split
    ·rename_i hl
     subst hl
     have:‹List AV›=[]:=List.eq_nil_of_length_eq_zero (by simpa using q3)
     subst this
     simp only[lF,av]at h1
     rw[h1]
    ·rename_i hl
     obtain⟨c,ro,sl,g1,g2,g3,g4,g5⟩:=q4 hl
     simp only[Nat.mul_one]at g4 g5
     simp only[Heap.read,g1,if_pos g4,au,Cj g5 h1,aW]
  ·split at hv
   case h_2=>cases hv
   rename_i b off n w _ c ro sl hg
   obtain⟨t,h1,rfl⟩:=aC.1 hv
   obtain⟨k1,k2,p,s',cap,ex,rfl,k3,k4,k5⟩:=VL.qX s hx hg
   simp only[Nat.mul_one]at k1 k2
   refine⟨.str t, ?_,by simp[VL]⟩
   have hn0:n=0→t=[]:=λe=>by
    subst e
    have:(Ol w c off 0).length=0:=FC k1 k2
    rw[List.eq_nil_of_length_eq_zero this]at h1
    simpa[lF]using h1.symm
   rcases k5 with⟨j,c',t',ro',sl',L,g1,g2,g3,g4,g5,g6,rfl,g7⟩ |⟨rfl,rfl,rfl,g⟩
   ·obtain rfl:=k4 (by simp)
    simp only[o8]
    split
    ·rename_i hl
     rw[hn0 hl]
    ·have hl:=g6.length
     simp only[Nat.mul_one]at g7
     have:=Cj (FD (t:=t') g6.kap k1 k2) h1
     simp only[Heap.read,g2,if_pos (show off+n≤(c'++t').length by simp only[aJ];omega),au,this,aW]
   ·rw[hn0 rfl]
    cases p with
    | none=>rfl
    | some p =>
     obtain rfl:=k4 (by simp)
     simp[o8]
  ·obtain rfl:=ak hv
   simp only[VL]at hx
   obtain⟨_,s',rfl⟩:=hx
   exact⟨.str [],rfl,by simp[VL]⟩
  ·cases hv
 | qV x =>
  have hx:=dJ h hc
  simp only[rY.sub,wL,aL]at hv ⊢
  generalize (x.sub ρ).ev []=X at *
  generalize (x.sub σ).ev []=Y at *
  split at hv
  case h_2=>cases hv
  rename_i r
  split at hv
  case h_2=>cases hv
  rename_i es hg
  obtain rfl:=ak hv
  obtain⟨j,rfl,hm,_⟩:=s.MV hx hg
  exact⟨.int .i64 es.length,by simp only[og,hm,aW],by simp[VL]⟩
 | lookup kd ok z x w =>
  simp only[rY.cZ,Bool.and_eq_true]at hc
  have hx:=dJ h hc.1.2
  have hw:=dJ h hc.2
  simp only[rY.sub,wL,aL]at hv ⊢
  generalize (x.sub ρ).ev []=X at *
  generalize (x.sub σ).ev []=Y at *
  generalize (w.sub ρ).ev []=X2 at *
  generalize (w.sub σ).ev []=Y2 at *
  split at hv
  case h_2=>cases hv
  rename_i r
  split at hv
  case h_2=>cases hv
  rename_i es hg hs
  obtain⟨j,rfl,hm,he,_⟩:=s.MV hx hg
  obtain rfl:=Rn hs hw
  refine⟨v,by simp only[E9,og,hm,au];exact hv, ?_⟩
  unfold ZH at hv
  obtain⟨f,hf,rfl⟩:=aC.1 hv
  have hz:VL M (OR R ι) ι z z:=VL.const z hc.1.1
  cases f with
  | none =>
   cases ok
   ·exact hz
   ·simp only[if_true,VL]
    exact⟨_,rfl,by simp only[bL,VL];exact⟨hz,trivial,trivial⟩⟩
  | some q =>
   have:=aa3 (M:=M) (O:=OR R ι) (κ:=ι) (Ro he hf)
   cases ok
   ·exact this
   ·simp only[if_true,VL]
    exact⟨_,rfl,by simp only[bL,VL];exact⟨this,trivial,trivial⟩⟩
theorem sH:∀ {l:List Nat} {b:Nat},nW l b=true↔b∈l
 | [],b=>by simp[nW]
 | a::r,b=>by
  simp only[nW,List.mem_cons]
  cases h:Nat.beq a b with
  | true=>simp[bg h]
  | false =>
   have:b≠a:=λe=>by subst e;simp at h
   simp only
   rw[sH (l:=r)]
   simp[this]
def VI.pG(ι:VI)(S:List Nat):VI:=⟨ι.to,ι.Gy,λi=>ι.gone i||nW S i,ι.dim⟩
theorem FE{ι:VI}{S:List Nat}{j:Nat}(h:own (ι.pG S) j):own ι j:=by
 obtain⟨i,h1,h2⟩:=h
 simp only[VI.pG,Bool.or_eq_false_iff]at h2
 exact⟨i,h1,h2.1⟩
theorem xJ:∀(S:List Nat) (H:WH) (i:Nat),b_ (wR H S) i=if nW S i=true then Gx (b_ H i)else b_ H i
 | [],H,i=>by simp[wR,nW]
 | b::S,H,i=>by
  simp only[wR,xJ S,mV,nW]
  have ib:∀x:Option jN,Gx (Gx x)=Gx x:=λx=>by
   cases x with
   | none=>rfl
   | some x=>cases x<;>rfl
  by_cases e:i=b
  ·subst e
   simp only[Nat.beq_refl]
   by_cases hl:i<H.length
   ·simp only[hl,and_self,if_true]
    split<;>simp[ib]
   ·simp only[hl,and_false,if_false,MR (Nat.le_of_not_lt hl)]
    split<;>simp[Gx]
  ·have:Nat.beq b i=false:=by
    cases hh:Nat.beq b i with
    | false=>rfl
    | true=>exact absurd (bg hh).symm e
   simp[this,e]
theorem qE:∀(S:List Nat) (H:WH),(wR H S).length=H.length
 | [],H=>rfl
 | b::S,H=>by simp only[wR,qE S,dO]
theorem Dk{x:Option jN}{y:jN}(h:Gx x=some y):∃z,x=some z∧(y=z∨∃c ro sl,z=.cells c ro sl∧y=.cells c true sl):=by
 cases x with
 | none=>simp[Gx]at h
 | some z =>
  cases z with
  | cells c ro sl=>simp only[Gx,av]at h;exact⟨_,rfl,.inr ⟨c,ro,sl,rfl,h.symm⟩⟩
  | map es=>simp[Gx]at h
theorem Jz(ι:VI)(S:List Nat)(T:Nat→Prop):VI.Le ι (ι.pG S) T:=λ_ _=>⟨λ_ h=>⟨h,λ_ h=>h⟩,λh=>⟨h,λ_ h=>h⟩⟩
theorem VS.OA{R:Nat→Prop}{ι:VI}{H:WH}{M:Heap}(s:VS R ι H M)(S:List Nat)(hS:∀b∈S,∃x,b_ H b=some x):VS R (ι.pG S) (wR H S) M∧Stp H.length [] ι H M (ι.pG S) (wR H S) M:=by
 have hk:Keeps M (own ι) M (own (ι.pG S)):=⟨Nat.le_refl _,λb _ h=>⟨rfl,λk=>h (FE k)⟩⟩
 have lv:∀k,(∃z,b_ (wR H S) k=some z)→∃z,b_ H k=some z:=λk ⟨z,hz⟩=>by
  rw[xJ]at hz
  split at hz
  ·obtain⟨y,hy,_⟩:=Dk hz
   exact⟨y,hy⟩
  ·exact⟨z,hz⟩
 have ac:∀i,act (ι.pG S) (wR H S) i→act ι H i:=λi h=>h.imp (lv i) (λh=>by
  simp only[VI.pG,Bool.or_eq_false_iff]at h
  exact h.1)
 refine⟨⟨λi j h=>by rw[qE];exact s.lt i j h,λi i' j h h' e e' g=>s.inj i i' j (ac i h) (ac i' h') e e' (g.imp (λg=>by simp only[VI.pG,Bool.or_eq_false_iff]at g;exact g.1) (λg=>by simp only[VI.pG,Bool.or_eq_false_iff]at g;exact g.1)),λi z hz=>?_,λi h=>by rw[qE];exact s.sF i h,λi hi c sl h=>?_,s.Ot,λj h=>⟨(s.res j h).1,λi hi=>(s.res j h).2 i (ac i hi)⟩⟩,
  ⟨hk,Jz _ _ _,λi _ h=>by simp only[VI.pG,h,Bool.true_or],λ_ _=>rfl,λ_ _=>rfl,λi _ h=>by
   have:nW S i=false:=by
    cases e:nW S i with
    | false=>rfl
    | true=>obtain⟨x,hx⟩:=hS i (sH.1 e);rw[h]at hx;cases hx
   simp only[VI.pG,this,Bool.or_false],λi _=>lv i,λ_ _ _ _ _ _=>rfl,by rw[qE];exact Nat.le_refl _⟩⟩
 ·have hbl:∀ {d x y},BL M (OR R ι) ι d x y→BL M (OR R (ι.pG S)) (ι.pG S) d x y:=λh=>BL.mono (κ:=ι) (qC:=ι.pG S) (hk.or R) (λT=>Jz _ _ _) (λ_ h=>h) h
  rw[xJ]at hz
  split at hz
  ·rename_i hS
   obtain⟨y,hy,h⟩:=Dk hz
   rcases s.blk i y hy with⟨h1,h2,ro,h3⟩ |⟨j,h1,h2,h3⟩
   ·rcases h with rfl |⟨c,ro',sl,rfl,rfl⟩
    ·exact .inl ⟨h1,h2,ro,h3⟩
    ·cases h3
     exact .inl ⟨h1,h2,true,rfl⟩
   ·rcases h with rfl |⟨c,ro',sl,rfl,rfl⟩
    ·cases z with
     | cells c ro' sl =>
      rw[hy]at hz
      simp only[Gx,av,jN.cells.injEq]at hz
      obtain⟨_,rfl,_⟩:=hz
      exact .inr ⟨j,h1,hbl h2,λh=>by cases h⟩
     | map es =>
      rw[hy]at hz
      simp[Gx]at hz
    ·obtain⟨c',t,abW,sl',L,g1,g2,g3⟩:=h2
     exact .inr ⟨j,h1,hbl ⟨c',t,abW,sl',L,g1,(λh=>by cases h),g3⟩,λh=>by cases h⟩
  ·rename_i hS
   rcases s.blk i z hz with h |⟨j,h1,h2,h3⟩
   ·exact .inl h
   ·refine .inr ⟨j,h1,hbl h2,λh=>?_⟩
    simp only[VI.pG,h3 h,Bool.false_or]
    simpa using hS
 ·rw[xJ]at h
  simp only[VI.pG,Bool.or_eq_true]at hi
  split at h
  ·obtain⟨y,hy,h'⟩:=Dk h
   rcases h' with rfl |⟨_,_,_,_,h'⟩
   ·rw[hy]at h
    simp[Gx]at h
   ·cases h'
  ·rename_i hS
   exact s.pG i (hi.resolve_right hS) c sl h
theorem GA{g:AV→Option (AV×List Nat)}{v:AV}{l:List AV}{p:List AV×List Nat}(h:AQ g (v::l)=some p):∃q r,g v=some q∧AQ g l=some r∧p=(q.1::r.1,q.2++r.2):=by
 simp only[AQ]at h
 split at h
 ·rename_i q r h1 h2
  exact⟨q,r,h1,h2,(ak h).symm⟩
 ·cases h
def FH(nested:Bool)(κ:VI):VI:=if nested then VI.none else κ
theorem JA {M:Heap} {O O':Nat→Prop} {κ qC:VI} {g:AV→Option (AV×List Nat)} {P:Nat→Prop} {nested:Bool}
  (hg:∀v p a,g v=some p→VL M O κ v a→(∀b∈p.2,P b)→VL M O' (FH nested qC) p.1 a) :
  ∀(l:List AV) (p:List AV×List Nat) (r:List AV),AQ g l=some p→bL M O κ l r→(∀b∈p.2,P b)→bL M O' (FH nested qC) p.1 r
 | [],p,r,h,hr,_=>by
  simp only[AQ,av]at h
  subst h
  cases r with
  | nil=>simp[bL]
  | cons _ _=>simp[bL]at hr
 | v::l,p,r,h,hr,hP=>by
  obtain⟨q,q',h1,h2,rfl⟩:=GA h
  cases r with
  | nil=>simp[bL]at hr
  | cons a r =>
   simp only[bL]at hr ⊢
   exact⟨hg v q a h1 hr.1 (λb hb=>hP b (by simp[hb])),JA hg l q' r h2 hr.2 (λb hb=>hP b (by simp[hb]))⟩
theorem rA{g:AV→Option (AV×List Nat)}{P:Nat→Prop}(hg:∀v p,g v=some p→∀b∈p.2,P b):∀(l:List AV) (p:List AV×List Nat),AQ g l=some p→∀b∈p.2,P b
 | [],p,h,b,hb=>by
  simp only[AQ,av]at h
  subst h
  cases hb
 | v::l,p,h,b,hb=>by
  obtain⟨q,q',h1,h2,rfl⟩:=GA h
  simp only[List.mem_append]at hb
  exact hb.elim (hg v q h1 b) (rA hg l q' h2 b)
theorem mX{H:WH}:∀(k:Nat) (nested:Bool) (v:AV) (p:AV×List Nat),Om H k nested v=some p→∀b∈p.2,∃x,b_ H b=some x
 | 0,nested,v,p,h=>by simp[Om]at h
 | k+1,nested,v,p,h=>by
  intro b hb
  simp only[Om]at h
  split at h
  ·split at h
   case h_2=>cases h
   rename_i hg
   split at h
   ·obtain rfl:=ak h
    simp only[List.mem_singleton]at hb
    exact⟨_,hb ▸ hg⟩
   ·split at h
    case h_2=>cases h
    split at h
    case h_2=>cases h
    rename_i q hq
    obtain rfl:=ak h
    simp only[List.mem_cons]at hb
    rcases hb with rfl | hb
    ·exact⟨_,hg⟩
    ·exact rA (λv p=>mX k true v p) _ _ hq b hb
  ·obtain rfl:=ak h
   cases hb
  ·cases h
  ·obtain rfl:=ak h
   cases hb
  ·cases h
  ·split at h
   ·cases h
   ·obtain rfl:=ak h
    cases hb
  ·split at h
   ·cases h
   ·obtain rfl:=ak h
    cases hb
  ·split at h
   case h_2=>cases h
   rename_i q hq
   obtain rfl:=ak h
   exact rA (λv p=>mX k nested v p) _ _ hq b hb
  ·split at h
   case h_2=>cases h
   rename_i q hq
   obtain rfl:=ak h
   exact rA (λv p=>mX k nested v p) _ _ hq b hb
  ·split at h
   case h_2=>cases h
   rename_i q hq
   obtain rfl:=ak h
   exact rA (λv p=>mX k nested v p) _ _ hq b hb
  ·obtain rfl:=ak h
   cases hb
theorem P8:∀ {v:AV},(∀b o sz n w,v=.acc b o sz n w→False)→(∀q,v=.ptr (some q)→False)→(∀r,v=.map (some r)→False)→(∀f cs,v=.func f cs→False)→(∀cs,v=.agg cs→False)→(∀cs,v=.tuple cs→False)→u_ v=[]
 |.undef,_,_,_,_,_,_=>rfl
 |.bool _,_,_,_,_,_,_=>rfl
 |.int _ _,_,_,_,_,_,_=>rfl
 |.str _,_,_,_,_,_,_=>rfl
 |.ptr none,_,_,_,_,_,_=>rfl
 |.ptr (some q),_,h,_,_,_,_=>(h q rfl).elim
 |.slice _ _ _ _ _,_,_,_,_,_,_=>rfl
 |.map none,_,_,_,_,_,_=>rfl
 |.map (some r),_,_,h,_,_,_=>(h r rfl).elim
 |.func f cs,_,_,_,h,_,_=>(h f cs rfl).elim
 |.nilFunc,_,_,_,_,_,_=>rfl
 |.agg cs,_,_,_,_,h,_=>(h cs rfl).elim
 |.tuple cs,_,_,_,_,_,h=>(h cs rfl).elim
 |.list ..,_,_,_,_,_,_=>rfl
 |.elem _,_,_,_,_,_,_=>rfl
 |.acc b o sz n w,h,_,_,_,_,_=>(h b o sz n w rfl).elim
theorem FI{g:AV→Option (AV×List Nat)}:∀(l:List AV) (p:List AV×List Nat),AQ g l=some p→p.1.length=l.length
 | [],p,h=>by
  simp only[AQ,av]at h
  subst h
  rfl
 | v::l,p,h=>by
  obtain⟨q,q',h1,h2,rfl⟩:=GA h
  simp[FI l q' h2]
section
variable {R:Nat→Prop} {ι:VI} {H:WH} {M:Heap} (s:VS R ι H M) {O':Nat→Prop} (hO:∀j,O' j→OR R ι j) {qC:VI} (hle:VI.Le ι qC (λ_=>True))
include s hO hle
theorem Rq {b o sz n:Nat} {w:Bool} {a:AV} (h:VL M (OR R ι) ι (.acc b o sz n w) a) {c:List AV} {ro sl:Bool} (hg:b_ H b=some (.cells c ro sl)) (hb:∀j,ι b=some j→¬O' j) {κ:VI}
  {cs:List AV} (hcs:cs.length=n*sz) (hr:∀c' t,bL M (OR R ι) (if sl then VI.none else ι) c c'→bL M O' VI.none cs (((c'++t).drop o).take (n*sz))):VL M O' κ (.list sz n cs false) a:=by
 obtain⟨k1,k2,p,s',cap,ex,rfl,k3,k4,k5⟩:=VL.qX s h hg
 simp only[VL]
 rcases k5 with⟨j,c',t',ro',sl',L,g1,g2,g3,g4,g5,g6,rfl,g7⟩ |⟨rfl,rfl,rfl,g⟩
 ·obtain rfl:=k4 (by simp)
  have hl:=g6.length
  refine .inr ⟨j,o,cap,ex,rfl,k3,(λh=>by cases h),hcs,λ_=>⟨_,ro',sl',g2,hb j g1,(s.lt b j g1).2,by simp only[aJ];omega,hr c' t' g6⟩⟩
 ·rw[Nat.zero_mul]at hcs
  obtain rfl:=List.eq_nil_of_length_eq_zero hcs
  cases p with
  | none=>exact .inl ⟨rfl,rfl,s',rfl⟩
  | some p =>
   obtain rfl:=k4 (by simp)
   exact .inr ⟨p.1,p.2,0,true,rfl,Nat.le_refl _,(λh=>by cases h),by simp,λh=>absurd rfl h⟩
theorem MW:∀(k:Nat) (nested:Bool) (v:AV) (p:AV×List Nat) (a:AV),Om H k nested v=some p→VL M (OR R ι) ι v a→(∀b∈p.2,∀j,ι b=some j→¬O' j)→VL M O' (FH nested qC) p.1 a
 | 0,nested,v,p,a,h,hv,hP=>by simp[Om]at h
 | k+1,nested,v,p,a,h,hv,hP=>by
  have hk:Keeps M (OR R ι) M O':=⟨Nat.le_refl _,λb _ h=>⟨rfl,λk=>h (hO b k)⟩⟩
  have nest:∀ {l p r nested},AQ (Om H k nested) l=some p→bL M (OR R ι) ι l r→(∀b∈p.2,∀j,ι b=some j→¬O' j)→bL M O' (FH nested qC) p.1 r:=λ{l p r nested} h1 h2 h3 =>
   JA (λv p a=>MW k nested v p a) l p r h1 h2 h3
  simp only[Om]at h
  split at h
  ·rename_i b o sz n w
   split at h
   case h_2=>cases h
   rename_i c ro sl hg
   obtain⟨k1,k2,_⟩:=VL.qX s hv hg
   split at h
   ·obtain rfl:=ak h
    refine Rq s hO hle hv hg (hP b (by simp)) (FC k1 k2) λc' t hc=>?_
    simp only[if_true]at hc
    exact FD (bL.mono hk _ _ _ _ (.refl _ _) hc) k1 k2
   ·split at h
    case h_2=>cases h
    split at h
    case h_2=>cases h
    rename_i q hq
    obtain rfl:=ak h
    obtain⟨k3,k4⟩:=k2 rfl
    refine Rq s hO hle hv hg (hP b (by simp)) (by rw[FI _ _ hq,k4]) λc' t hc=>?_
    simp only[Bool.false_eq_true,if_false]at hc
    have:=nest hq hc (λb hb=>hP b (by simp[hb]))
    have hl:=hc.length
    rw[k3,List.drop_zero,k4,hl,List.take_left']
    ·exact this
    ·rfl
  ·obtain rfl:=ak h
   simp only[VL]at hv ⊢
   exact .inl ⟨trivial,trivial,hv.2⟩
  ·cases h
  ·obtain rfl:=ak h
   have:=VL.mono hk _ (FH nested qC) _ _ (λi hi=>by simp[u_]at hi) hv
   simp only[VL]at this ⊢
   rcases this with this |⟨b,o,cap,ex',h1,h2,h3,h4⟩
   ·exact .inl this
   ·exact .inr ⟨b,o,cap,ex',h1,h2,(λh=>by cases h),h4⟩
  ·cases h
  ·split at h
   ·cases h
   ·obtain rfl:=ak h
    simp only[VL,FH,Bool.false_eq_true,if_false]at hv ⊢
    obtain⟨j,h1,h2⟩:=hv
    exact⟨j,((hle _ trivial).1 j h1).1,h2⟩
  ·split at h
   ·cases h
   ·obtain rfl:=ak h
    simp only[VL,FH,Bool.false_eq_true,if_false]at hv ⊢
    obtain⟨j,h1,h2⟩:=hv
    exact⟨j,((hle _ trivial).1 j h1).1,h2⟩
  ·split at h
   case h_2=>cases h
   rename_i q hq
   obtain rfl:=ak h
   simp only[VL]at hv ⊢
   obtain⟨cs',h1,h2⟩:=hv
   exact⟨cs',h1,nest hq h2 hP⟩
  ·split at h
   case h_2=>cases h
   rename_i q hq
   obtain rfl:=ak h
   simp only[VL]at hv ⊢
   obtain⟨cs',h1,h2⟩:=hv
   exact⟨cs',h1,nest hq h2 hP⟩
  ·split at h
   case h_2=>cases h
   rename_i q hq
   obtain rfl:=ak h
   simp only[VL]at hv ⊢
   obtain⟨cs',h1,h2⟩:=hv
   exact⟨cs',h1,nest hq h2 hP⟩
  ·obtain rfl:=ak h
   have hid:u_ v=[]:=by
    rename_i e1 _ _ _ _ e2 e3 e4 e5 e6
    exact P8 e1 e2 e3 e4 e5 e6
   exact VL.mono hk _ (FH nested qC) _ _ (λi hi=>by rw[hid]at hi;cases hi) hv
end
end Go.Proofs.Ytkedeiklmpkgkaa
