import Derived.Test.YtkedeiklmpkgkaaJ1
import Derived.ProofKit
import Derived.OpenShut
import Derived.ChangeOld
import Derived.Below
import Derived.Carry
import Derived.SizedLaws
import Derived.Deep.CondSized
set_option linter.all false
namespace Go.Proofs.Ytkedeiklmpkgkaa
theorem E_{ι:cu}{e:Env}{a:Act}(h:bL ι e a.tmps.toList){d:Option Nat}{v:AV}{v':Value}(hv:VR ι v v'):bL ι (xP d v e) (a.put d v').tmps.toList:=by
 cases d with
 | none=>exact h
 | some d =>
  simp only[xP,Act.put,Array.toList_setIfInBounds]
  exact h.set d hv
theorem put_defers(a:Act)(d:Option Nat)(v:Value):(a.put d v).defers=a.defers:=by cases d<;>rfl
theorem sG{M N:Heap}(h:∀b,M.get b=N.get b)(hn:M.next=N.next):M=N:=by
 cases M
 cases N
 simp only at h hn
 subst hn
 congr
 funext b
 exact h b
section
variable {P:Program} {C:aW} {base nk:Nat} {ds:List bQ} {E:Nat→Env} {H:Nat→Heap} {G:Nat→List Heap} {V:Nat→AV} {W:Nat→Bool} {B:Nat→Option ji} {uK:Nat→Nat→Prop}
structure wh(base nk:Nat)(ds:List bQ)(E:Nat→Env)(H:Nat→Heap)(V:Nat→AV)(B:Nat→Option ji)(uK:Nat→Nat→Prop)(kL:cu)(M0:Heap)(w0:World)(q:Nat)(S:Nat→Bool)(ι:cu)(a:Act)(w:World):Prop where
 qle:q≤ds.length
 RQ:q=0∨∃j,S j=true∧gD ds j=true∧j+1=q
 below:∀j,S j=true→gD ds j=true→j<q
 closed:∀p r,S r=true→uK p r→S p=true
 nones:∀b,base≤b→b<base+nk→(∀p0,gL ds (b-base)=some p0→q≤p0→(H q).get b=none)∧(gL ds (b-base)=none→(H q).get b=none)
 O5:base+nk≤(H q).next
 tr:Tr kL M0 w0 ι (cO base nk ds H B q S) w
 XC:∀p d,ds[p]?=some d→d.o.op.isK=true→S p=false→ι (base+d.ix)=none
 env:bL ι (oJ ds (E 0) V S) a.tmps.toList
 defs:a.defers=[]
def more(S:Nat→Bool)(p:Nat):Nat→Bool:=λr=>r==p||S r
theorem I4(S:Nat→Bool)(p:Nat):more S p p=true:=by simp[more]
theorem pI{S:Nat→Bool}{p r:Nat}(h:r≠p):more S p r=S r:=by simp[more,h]
theorem wh.quiet (c:uj nk ds uK) {kL:cu} {M0:Heap} {w0:World} {q:Nat} {S:Nat→Bool} {ι:cu} {a:Act} {w:World} (I:wh base nk ds E H V B uK kL M0 w0 q S ι a w) {p:Nat} {d:bQ} (hd:ds[p]?=some d) (hS:S p=false)
  (hpre:∀r,uK r p→S r=true) (hq:d.o.op.loud=false) {aV:cu} {w':World} {v':Value} (hle:ι.Le aV) (ht:Tr kL M0 w0 aV (cO base nk ds H B q (more S p)) w') (hu:∀r d',ds[r]?=some d'→d'.o.op.isK=true→S r=false→r≠p→aV (base+d'.ix)=none)
  (hv:VR aV (V p) v'):wh base nk ds E H V B uK kL M0 w0 q (more S p) aV (a.put d.o.dst v') w' where
 qle:=I.qle
 RQ:=I.RQ.imp id λ⟨j,h1,h2,h3⟩=>⟨j,by simp[more,h1],h2,h3⟩
 below j h1 h2:=by
  by_cases hj:j=p
  ·subst hj
   simp[gD,hd,hq]at h2
  ·rw[pI hj]at h1
   exact I.below j h1 h2
 closed r s h1 h2:=by
  by_cases hs:s=p
  ·subst hs
   simp[more,hpre r h2]
  ·rw[pI hs]at h1
   simp[more,I.closed r s h1 h2]
 nones:=I.nones
 O5:=I.O5
 tr:=ht
 XC r d' h1 h2 h3:=by
  by_cases hr:r=p
  ·subst hr
   simp[more]at h3
  ·rw[pI hr]at h3
   exact hu r d' h1 h2 h3 hr
 env:=by
  have:=OX (V:=V) (e0:=E 0) (S:=S) c hd
  show bL aV (oJ ds (E 0) V (more S p)) _
  unfold more
  rw[this]
  exact E_ (bL.mono hle _ _ I.env) hv
 defs:=by rw[put_defers];exact I.defs
theorem Ef{q:Nat}{S:Nat→Bool}{p:Nat}{d:bQ}(hd:ds[p]?=some d)(hk:d.o.op.isK=false):cO base nk ds H B q (more S p)=cO base nk ds H B q S:=by
 refine sG (λb=>?_) rfl
 simp only[cO]
 split
 ·cases hs:gL ds (b-base)with
  | none=>rfl
  | some p0 =>
   simp only
   have:p0≠p:=by
    rintro rfl
    obtain⟨d',h1,h2,_⟩:=jO hs
    rw[hd]at h1
    obtain rfl:=aj h1
    rw[hk]at h2
    cases h2
   rw[pI this]
 ·rfl
theorem wh.FJ(c:uj nk ds uK){kL:cu}{M0:Heap}{w0:World}{q:Nat}{S:Nat→Bool}{ι:cu}{a:Act}{w:World}(I:wh base nk ds E H V B uK kL M0 w0 q S ι a w){p:Nat}{d:bQ}(hd:ds[p]?=some d)(hS:S p=false)(hp:d.o.op.plain=false):q≤p:=by
 rcases I.RQ with h |⟨j,h1,h2,h3⟩
 ·omega
 ·rcases Nat.lt_or_ge p j with hlt | hge
  ·have hj:=h2
   unfold gD at hj
   split at hj
   ·rename_i d' hd'
    have:=I.closed p j h1 (c.loud p j d d' hd hd' hlt hj hp)
    rw[hS]at this
    cases this
   ·cases hj
  ·rcases Nat.eq_or_lt_of_le hge with e | hlt
   ·subst e
    rw[hS]at h1
    cases h1
   ·omega
def pending(base nk:Nat)(ds:List bQ)(B:Nat→Option ji)(S:Nat→Bool)(p:Nat)(b:Nat):Option ji :=
 if base≤b∧b<base+nk then (match gL ds (b-base)with | some p0=>if p<p0∧S p0=true then B p0 else none | none=>none)else none
theorem wh.U3 (c:uj nk ds uK) (r:EH C base nk ds E H G V W B) {kL:cu} {M0:Heap} {w0:World} {q:Nat} {S:Nat→Bool} {ι:cu} {a:Act} {w:World} (I:wh base nk ds E H V B uK kL M0 w0 q S ι a w) {p:Nat} {d:bQ} (hd:ds[p]?=some d) (hS:S p=false)
  (hpre:∀r,uK r p→S r=true) (hl:d.o.op.loud=true) :
  q≤p∧cO base nk ds H B q S=(H p).over (pending base nk ds B S p)∧(∀b,base≤b→b<base+nk→(∀p0,gL ds (b-base)=some p0→p≤p0→(H p).get b=none)∧(gL ds (b-base)=none→(H p).get b=none))∧base+nk≤(H p).next:=by
 have hplain:d.o.op.plain=false:=by
  cases ho:d.o.op with
  | p o=>rw[ho]at hl;cases hl
  | _=>rfl
 have J3:=I.FJ c hd hS hplain
 have K_:=(aC.1 hd).1
 have hno:∀j,q≤j→j<p→gD ds j=false:=by
  intro j h1 h2
  cases hj:gD ds j with
  | false=>rfl
  | true =>
   have hj':=hj
   unfold gD at hj'
   split at hj'
   ·rename_i d' hd'
    have hnp:d'.o.op.plain=false:=by
     cases ho:d'.o.op with
     | p o=>rw[ho]at hj';cases hj'
     | _=>rfl
    have:=I.below j (hpre j (c.loud j p d' d hd' hd h2 hl hnp)) hj
    omega
   ·cases hj'
 obtain⟨g1,g2,g3⟩:=AB c r p J3 (by omega) hno
 have g3':=g3 (λb p0 b1 b2 hs hq=>(I.nones b b1 b2).1 p0 hs hq)
 have hK:∀p0 s,gL ds s=some p0→p0≠p:=by
  rintro p0 s hs rfl
  obtain⟨d',h1,h2,_⟩:=jO hs
  rw[hd]at h1
  obtain rfl:=aj h1
  cases ho:d.o.op with
  | n o=>rw[ho]at h2;cases h2
  | p o=>rw[ho]at hl;cases hl
  | l o=>rw[ho]at hl;cases hl
  | k o=>rw[ho]at hl;cases hl
 refine⟨J3,sG (λb=>?_) g1.symm,λb b1 b2=>⟨λp0 hs hp0=>?_,λhs=>?_⟩,by rw[g1];exact I.O5⟩
 ·by_cases hb:base≤b∧b<base+nk
  ·have hg:=g3' b hb.1 hb.2
   cases hs:gL ds (b-base)with
   | none =>
    rw[hs]at hg
    have hX:pending base nk ds B S p b=none:=by simp[pending,hb,hs]
    rw[dD hX,hg]
    simp[cO,hb,hs,(I.nones b hb.1 hb.2).2 hs]
   | some p0 =>
    rw[hs]at hg
    simp only at hg
    have hne:=hK p0 _ hs
    rcases Nat.lt_or_ge p0 q with h1 | h1
    ·have hX:pending base nk ds B S p b=none:=by
      simp only[pending,if_pos hb,hs]
      rw[if_neg (by omega)]
     rw[dD hX,hg,if_neg (by omega)]
     simp[cO,hb,hs,h1]
    ·rcases Nat.lt_or_ge p0 p with h2 | h2
     ·have hX:pending base nk ds B S p b=none:=by
       simp only[pending,if_pos hb,hs]
       rw[if_neg (by omega)]
      rw[dD hX,hg,if_pos ⟨h1,h2⟩]
      obtain⟨d',k1,k2,_⟩:=jO hs
      have hS0:S p0=true:=hpre p0 (c.loud p0 p d' d k1 hd h2 hl (by cases ho:d'.o.op with | p o=>rw[ho]at k2;cases k2 | _=>rfl))
      simp[cO,hb,hs,show ¬p0<q from by omega,hS0]
     ·have hnn:=(I.nones b hb.1 hb.2).1 p0 hs h1
      have hlhs:(cO base nk ds H B q S).get b=if S p0 then B p0 else none:=by
       simp[cO,hb,hs,show ¬p0<q from by omega]
      rw[hlhs]
      have hgn:(H p).get b=none:=by rw[hg,if_neg (by omega)];exact hnn
      cases hS0:S p0 with
      | false =>
       have hX:pending base nk ds B S p b=none:=by simp[pending,hb,hs,hS0]
       rw[dD hX,hgn]
       simp
      | true =>
       simp only[if_true]
       cases hB:B p0 with
       | none =>
        have hX:pending base nk ds B S p b=none:=by simp[pending,hb,hs,hS0,hB]
        rw[dD hX,hgn]
       | some x =>
        have hX:pending base nk ds B S p b=some x:=by
         simp only[pending,if_pos hb,hs]
         rw[if_pos ⟨by omega,hS0⟩,hB]
        rw[d9 hX]
  ·have hX:pending base nk ds B S p b=none:=by simp only[pending];rw[if_neg hb]
   rw[dD hX,g2 b hb]
   simp only[cO]
   rw[if_neg hb]
 ·have hg:=g3' b b1 b2
  rw[hs]at hg
  simp only at hg
  rw[hg]
  have:=hK p0 _ hs
  split
  ·omega
  ·exact(I.nones b b1 b2).1 p0 hs (by omega)
 ·have hg:=g3' b b1 b2
  rw[hs]at hg
  rw[hg]
  exact(I.nones b b1 b2).2 hs
theorem wh.behind (c:uj nk ds uK) {kL:cu} {M0:Heap} {w0:World} {q:Nat} {S:Nat→Bool} {ι:cu} {a:Act} {w:World} (I:wh base nk ds E H V B uK kL M0 w0 q S ι a w) {p:Nat} {d:bQ} (hd:ds[p]?=some d) (hS:S p=false)
  (hpre:∀r,uK r p→S r=true) (hl:d.o.op.loud=true) (J3:q≤p)
  (hn:∀b,base≤b→b<base+nk→(∀p0,gL ds (b-base)=some p0→p≤p0→(H (p+1)).get b=none)∧(gL ds (b-base)=none→(H (p+1)).get b=none)) (hnx:base+nk≤(H (p+1)).next)
  {aV:cu} {w':World} {v':Value} (hle:ι.Le aV) (ht:Tr kL M0 w0 aV ((H (p+1)).over (pending base nk ds B S p)) w') (hu:∀r d',ds[r]?=some d'→d'.o.op.isK=true→S r=false→aV (base+d'.ix)=none)
  (hv:VR aV (V p) v'):wh base nk ds E H V B uK kL M0 w0 (p+1) (more S p) aV (a.put d.o.dst v') w':=by
 have K_:=(aC.1 hd).1
 have hK:∀p0 s,gL ds s=some p0→p0≠p:=by
  rintro p0 s hs rfl
  obtain⟨d',h1,h2,_⟩:=jO hs
  rw[hd]at h1
  obtain rfl:=aj h1
  cases ho:d.o.op with
  | n o=>rw[ho]at h2;cases h2
  | p o=>rw[ho]at hl;cases hl
  | l o=>rw[ho]at hl;cases hl
  | k o=>rw[ho]at hl;cases hl
 have hheap:cO base nk ds H B (p+1) (more S p)=(H (p+1)).over (pending base nk ds B S p):=by
  refine sG (λb=>?_) rfl
  by_cases hb:base≤b∧b<base+nk
  ·cases hs:gL ds (b-base)with
   | none =>
    have hX:pending base nk ds B S p b=none:=by simp[pending,hb,hs]
    rw[dD hX,(hn b hb.1 hb.2).2 hs]
    simp[cO,hb,hs]
   | some p0 =>
    have hne:=hK p0 _ hs
    rcases Nat.lt_or_ge p0 (p+1)with h1 | h1
    ·have hX:pending base nk ds B S p b=none:=by
      simp only[pending,if_pos hb,hs]
      rw[if_neg (by omega)]
     rw[dD hX]
     simp[cO,hb,hs,h1]
    ·have hgn:=(hn b hb.1 hb.2).1 p0 hs (by omega)
     have hlhs:(cO base nk ds H B (p+1) (more S p)).get b=if S p0 then B p0 else none:=by
      simp[cO,hb,hs,show ¬p0<p+1 from by omega,pI hne]
     rw[hlhs]
     cases hS0:S p0 with
     | false =>
      have hX:pending base nk ds B S p b=none:=by simp[pending,hb,hs,hS0]
      rw[dD hX,hgn]
      simp
     | true =>
      simp only[if_true]
      cases hB:B p0 with
      | none =>
       have hX:pending base nk ds B S p b=none:=by simp[pending,hb,hs,hS0,hB]
       rw[dD hX,hgn]
      | some x =>
       have hX:pending base nk ds B S p b=some x:=by
        simp only[pending,if_pos hb,hs]
        rw[if_pos ⟨by omega,hS0⟩,hB]
       rw[d9 hX]
  ·have hX:pending base nk ds B S p b=none:=by simp only[pending];rw[if_neg hb]
   rw[dD hX]
   simp only[cO]
   rw[if_neg hb]
 constructor
 ·omega
 ·exact .inr ⟨p,I4 S p,by simp[gD,hd,hl],rfl⟩
 ·intro j h1 h2
  by_cases hj:j=p
  ·omega
  ·rw[pI hj]at h1
   have:=I.below j h1 h2
   omega
 ·intro r s h1 h2
  by_cases hs:s=p
  ·subst hs
   simp[more,hpre r h2]
  ·rw[pI hs]at h1
   simp[more,I.closed r s h1 h2]
 ·intro b b1 b2
  exact⟨λp0 hs hp0=>(hn b b1 b2).1 p0 hs (by omega),(hn b b1 b2).2⟩
 ·exact hnx
 ·rw[hheap]
  exact ht
 ·intro r d' h1 h2 h3
  by_cases hr:r=p
  ·subst hr
   simp[more]at h3
  ·rw[pI hr]at h3
   exact hu r d' h1 h2 h3
 ·have:=OX (V:=V) (e0:=E 0) (S:=S) c hd
  show bL aV (oJ ds (E 0) V (more S p)) _
  unfold more
  rw[this]
  exact E_ (bL.mono hle _ _ I.env) hv
 ·rw[put_defers]
  exact I.defs
end
theorem Yg{o:xA}{e:Env}{x:ji}{mk:Mk}(h:aK o e=some (x,mk)):x.own=true:=by
 cases o with
 | alloc z=>simp only[aK,au,aD]at h;obtain⟨rfl,_⟩:=h;rfl
 | makeMap=>simp only[aK,au,aD]at h;obtain⟨rfl,_⟩:=h;rfl
 | box y =>
  simp only[aK]at h
  obtain⟨cs,_,h⟩:=av.1 h
  simp only[aD]at h
  obtain⟨rfl,_⟩:=h
  rfl
 | buildSlice a b c d =>
  simp only[aK]at h
  obtain⟨cs,_,h⟩:=av.1 h
  simp only[aD]at h
  obtain⟨rfl,_⟩:=h
  rfl
 | makeSlice a b c d f =>
  simp only[aK,vW]at h
  split at h
  case h_2=>cases h
  split at h
  case isFalse=>cases h
  simp only[au,aD]at h
  obtain⟨rfl,_⟩:=h
  rfl
 | jo y =>
  simp only[aK]at h
  split at h
  case h_2=>cases h
  split at h
  case isFalse=>cases h
  simp only[au,aD]at h
  obtain⟨rfl,_⟩:=h
  rfl
section
variable {P:Program} {C:aW} {base nk:Nat} {ds:List bQ} {E:Nat→Env} {H:Nat→Heap} {G:Nat→List Heap} {V:Nat→AV} {W:Nat→Bool} {B:Nat→Option ji} {uK:Nat→Nat→Prop}
theorem Zc(r:EH C base nk ds E H G V W B){p:Nat}{x:ji}(hp:p<ds.length)(h:B p=some x):x.own=true:=by
 have hd:ds[p]?=some ds[p]:=by simp[hp]
 have st:=r.step p _ hd
 cases hw:W p with
 | false=>rw[(st.no hw).2.2]at h;cases h
 | true =>
  cases ho:ds[p].o.op with
  | p o=>rw[(st.p o hw ho).2.2]at h;cases h
  | l o=>rw[(st.l o hw ho).2.2.1]at h;cases h
  | n o=>rw[(st.n o hw ho).2]at h;cases h
  | k o =>
   obtain⟨y,mk,k1,_,_,k4⟩:=st.k o hw ho
   rw[k4]at h
   obtain rfl:=aj h
   exact Yg k1
theorem wh.read (c:uj nk ds uK) (r:EH C base nk ds E H G V W B) (hg0:G 0=[]) {kL:cu} {M0:Heap} {w0:World} {q:Nat} {S:Nat→Bool} {ι:cu} {a:Act} {w:World} (I:wh base nk ds E H V B uK kL M0 w0 q S ι a w) {p:Nat} {d:bQ} (hd:ds[p]?=some d) (hS:S p=false)
  (hpre:∀r,uK r p→S r=true) {o:ny} (ho:d.o.op=.l o) (hw:W p=true):aL o (oJ ds (E 0) V S) (cO base nk ds H B q S)=some (V p):=by
 have st:=r.step p d hd
 obtain⟨h1,_,_,h4⟩:=st.l o hw ho
 have K_:=(aC.1 hd).1
 have J3:=I.FJ c hd hS (by rw[ho];rfl)
 have hag:Agree o.rd (E p) (oJ ds (E 0) V S):=by
  have:=Dm c r I.closed hd hS hpre
  intro t ht
  exact this t (by simp[qV.rd,ho,qz.rd,ht])
 have hsub:∀j,q≤j→j≤ds.length→(∀i,q≤i→i<j→gD ds i=false)→((H j).hide base nk).Sub (cO base nk ds H B q S):=by
  intro j j1 j2 j3 b x hx
  obtain⟨_,g2,_⟩:=AB c r j j1 j2 j3
  simp only[Heap.hide]at hx
  split at hx
  ·cases hx
  ·rename_i hb
   rw[g2 b hb]at hx
   simp only[cO]
   rw[if_neg hb]
   exact hx
 by_cases hex:∃j,q≤j∧j<p∧gD ds j=true
 ·obtain ⟨j,j1,j2,j3,j4⟩:∃j,q≤j∧j<p∧gD ds j=true∧∀i,q≤i→i<j→gD ds i=false:=by
   obtain⟨j,hj⟩:=hex
   induction j using Nat.strongRecOn with
   | _ j ih =>
    by_cases hsm:∃i,i<j∧q≤i∧i<p∧gD ds i=true
    ·obtain⟨i,i1,i2⟩:=hsm
     exact ih i i1 i2
    ·refine⟨j,hj.1,hj.2.1,hj.2.2,λi i1 i2=>?_⟩
     cases hi:gD ds i with
     | false=>rfl
     | true=>exact absurd ⟨i,i2,i1,by omega,hi⟩ hsm
  have hlo:d.lo≤nG ds j:=by
   rcases Nat.lt_or_ge (nG ds j) d.lo with h | h
   ·have:=I.below j (hpre j (c.lo p d j hd (by rw[ho];rfl) j2 j3 h)) j3
    omega
   ·exact h
  have:=h4 (nG ds j) (H j) hlo (RP r hg0 (by omega) j2 j3)
  rw[←K9 hag]
  exact RO (hsub j j1 (by omega) j4) this
 ·rw[←K9 hag]
  refine RO (hsub p J3 (by omega) λi i1 i2=>?_) h1
  cases hi:gD ds i with
  | false=>rfl
  | true=>exact absurd ⟨i,i1,i2,hi⟩ hex
theorem wh.step (c:uj nk ds uK) (r:EH C base nk ds E H G V W B) (hg0:G 0=[]) {kL:cu} {M0:Heap} {w0:World} (hbase:M0.next=base) {q:Nat} {S:Nat→Bool} {ι:cu} {a:Act} {w:World} (I:wh base nk ds E H V B uK kL M0 w0 q S ι a w)
  {p:Nat} {d:bQ} (hd:ds[p]?=some d) (hS:S p=false) (hpre:∀r,uK r p→S r=true) {o:Oper} (hok:K8 P C o d.o.op) (hdst:o.dst=d.o.dst) :
  (W p=true→∀(next:Act→World→Prop) (Q:Exit→Act→World→Prop),(∀q' aV v' w',wh base nk ds E H V B uK kL M0 w0 q' (more S p) aV (a.put o.dst v') w'→next (a.put o.dst v') w')→o.wp P a w next Q) ∧
  (W p=false→∃q',wh base nk ds E H V B uK kL M0 w0 q' (more S p) ι (a.put o.dst undef) w):=by
 have st:=r.step p d hd
 have K_:=(aC.1 hd).1
 have rr:=I.tr.rel
 have Na:=Dm c r I.closed hd hS hpre
 have hag:Agree d.o.op.rd (E p) (oJ ds (E 0) V S):=λt ht=>Na t (by simp[qV.rd,ht])
 rw[hdst]
 cases ho:d.o.op with
 | p po =>
  rw[ho]at hok hag
  have hs:=Ef (base:=base) (nk:=nk) (H:=H) (B:=B) (q:=q) (S:=S) hd (by rw[ho];rfl)
  have fin:∀v',VR ι (V p) v'→wh base nk ds E H V B uK kL M0 w0 q (more S p) ι (a.put d.o.dst v') w:=λv' hv =>
   I.quiet c hd hS hpre (by rw[ho];rfl) (cu.Le.refl ι) (by rw[hs];exact I.tr) (λr d' h1 h2 h3 _=>I.XC r d' h1 h2 h3) hv
  refine⟨λhw next Q hn=>?_,λhw=>⟨q,fin undef ?_⟩⟩
  ·have hv:=(st.p po hw ho).1
   rw[RJ hag]at hv
   obtain⟨v',hrun,Rv⟩:=hok ι _ a w _ I.env hv
   rw[←hdst]at hn
   exact oC.of_run hrun (hn q ι v' w (by rw[hdst];exact fin v' Rv))
  ·rw[(st.no hw).1]
   exact VR.unit ι
 | l lo =>
  rw[ho]at hok hag
  have hs:=Ef (base:=base) (nk:=nk) (H:=H) (B:=B) (q:=q) (S:=S) hd (by rw[ho];rfl)
  have fin:∀v',VR ι (V p) v'→wh base nk ds E H V B uK kL M0 w0 q (more S p) ι (a.put d.o.dst v') w:=λv' hv =>
   I.quiet c hd hS hpre (by rw[ho];rfl) (cu.Le.refl ι) (by rw[hs];exact I.tr) (λr d' h1 h2 h3 _=>I.XC r d' h1 h2 h3) hv
  refine⟨λhw next Q hn=>?_,λhw=>⟨q,fin undef ?_⟩⟩
  ·have hv:=I.read c r hg0 hd hS hpre ho hw
   obtain⟨v',hrun,Rv⟩:=hok ι _ _ a w _ rr I.env hv
   rw[←hdst]at hn
   exact oC.of_run hrun (hn q ι v' w (by rw[hdst];exact fin v' Rv))
  ·rw[(st.no hw).1]
   exact VR.unit ι
 | k ko =>
  rw[ho]at hok hag
  have hk:d.o.op.isK=true:=by rw[ho];rfl
  have J3:=I.FJ c hd hS (by rw[ho];rfl)
  have OZ:=IX c hd hk
  have hix:=c.Yf p d hd hk
  have hget:(cO base nk ds H B q S).get (base+d.ix)=none:=by
   simp only[cO]
   rw[if_pos ⟨by omega,by omega⟩,show base+d.ix-base=d.ix from by omega,OZ]
   simp only
   rw[if_neg (by omega),hS]
   simp
  have hother:∀b,b≠base+d.ix→(cO base nk ds H B q (more S p)).get b=(cO base nk ds H B q S).get b:=by
   intro b hb
   simp only[cO]
   split
   ·rename_i hr
    cases hs:gL ds (b-base)with
    | none=>rfl
    | some p0 =>
     simp only
     have:p0≠p:=by
      rintro rfl
      obtain⟨d',h1,_,h3⟩:=jO hs
      rw[hd]at h1
      obtain rfl:=aj h1
      omega
     rw[pI this]
   ·rfl
  have hself:(cO base nk ds H B q (more S p)).get (base+d.ix)=B p:=by
   simp only[cO]
   rw[if_pos ⟨by omega,by omega⟩,show base+d.ix-base=d.ix from by omega,OZ]
   simp only
   rw[if_neg (by omega),I4]
   simp
  refine⟨λhw next Q hn=>?_,λhw=>?_⟩
  ·obtain⟨x,mk,k1,k2,k3,k4⟩:=st.k ko hw ho
   rw[RL hag]at k1
   obtain⟨v',w',ob,N,hrun,hown,Zd,hrel⟩:=hok ι _ a w x mk I.env k1
   have hnone:=I.XC p d hd hk hS
   have hle:=cu.vY hnone ⟨w.heap.size,0,N⟩
   have hset:(ι.set (base+d.ix) ⟨w.heap.size,0,N⟩) (base+d.ix)=some ⟨w.heap.size,0,N⟩:=by simp[cu.set]
   obtain⟨hb,Rv⟩:=hrel _ _ hle hset
   have htr:=Tr.slot I.tr (id:=base+d.ix) (by omega) (by have:=I.O5;simp only[cO];omega) hget hnone hown Zd hb
   have hheap:(cO base nk ds H B q S).put (base+d.ix) (some x)=cO base nk ds H B q (more S p):=by
    refine sG (λb=>?_) rfl
    rw[fM]
    split
    ·rename_i hb
     rw[hb,hself,k4]
    ·rename_i hb
     rw[hother b hb]
   rw[hheap]at htr
   rw[←hdst]at hn
   refine oC.of_run hrun (hn q (ι.set (base+d.ix) ⟨w.heap.size,0,N⟩) v' w' ?_)
   rw[hdst]
   refine I.quiet c hd hS hpre (by rw[ho];rfl) hle htr (λs d' h1 h2 h3 h4=>?_) (by rw[k2];exact Rv)
   have:base+d'.ix≠base+d.ix:=λe=>h4 (c.ix s p d' d h1 hd h2 hk (by omega))
   simp only[cu.set,if_neg this]
   exact I.XC s d' h1 h2 h3
  ·refine⟨q,I.quiet c hd hS hpre (by rw[ho];rfl) (cu.Le.refl ι) ?_ (λs d' h1 h2 h3 _=>I.XC s d' h1 h2 h3) (by rw[(st.no hw).1];exact VR.unit ι)⟩
   have hheap:cO base nk ds H B q (more S p)=cO base nk ds H B q S:=by
    refine sG (λb=>?_) rfl
    by_cases hb:b=base+d.ix
    ·rw[hb,hself,hget,(st.no hw).2.2]
    ·exact hother b hb
   rw[hheap]
   exact I.tr
 | n no =>
  rw[ho]at hok hag
  have hl:d.o.op.loud=true:=by rw[ho];rfl
  obtain⟨J3,hheap,hn0,hnx⟩:=I.U3 c r hd hS hpre hl
  have hX:∀i x,pending base nk ds B S p i=some x→(H p).get i=none∧i<(H p).next∧x.own=true:=by
   intro i x hx
   unfold pending at hx
   split at hx
   case isFalse=>cases hx
   rename_i hb
   split at hx
   case h_2=>cases hx
   rename_i p0 hs
   split at hx
   case isFalse=>cases hx
   rename_i hc
   obtain⟨d',h1,_,_⟩:=jO hs
   exact⟨(hn0 i hb.1 hb.2).1 p0 hs (by omega),by omega,Zc r (aC.1 h1).1 hx⟩
  rw[hheap]at rr
  have Yh:=I.tr
  rw[hheap]at Yh
  refine⟨λhw next Q hnext=>?_,λhw=>?_⟩
  ·have hrunA:=(st.n no hw ho).1
   rw[RN hag]at hrunA
   have rH:R ι (H p) w:=rr.sub (λb x hx=>by
    have:pending base nk ds B S p b=none:=by
     cases hb:pending base nk ds B S p b with
     | none=>rfl
     | some y=>rw[(hX b y hb).1]at hx;cases hx
    rw[dD this]
    exact hx) rfl
   refine hok ι (H p) _ a w (V p) (H (p+1)) next Q rH I.env hrunA λaV v' w' ht hv=>?_
   have hf:=Tr.frame rr hX ht
   rw[hdst]
   refine hnext (p+1) aV v' w' ?_
   refine I.behind c hd hS hpre hl J3 (λb b1 b2=>⟨λp0 hs hp0=>?_,λhs=>?_⟩) (by have:=ht.next;omega) (ht.le rH) (Yh.trans hf) (λs d' h1 h2 h3=>?_) hv
   ·exact ht.dead b (by omega) ((hn0 b b1 b2).1 p0 hs hp0)
   ·exact ht.dead b (by omega) ((hn0 b b1 b2).2 hs)
   ·have hix:=c.Yf s d' h1 h2
    rw[ht.agree _ (by omega)]
    exact I.XC s d' h1 h2 h3
  ·obtain⟨n1,n2,n3⟩:=st.no hw
   refine⟨p+1,I.behind c hd hS hpre hl J3 (λb b1 b2=>?_) (by rw[n2];exact hnx) (cu.Le.refl ι) (by rw[n2];exact Yh) (λs d' h1 h2 h3=>I.XC s d' h1 h2 h3) (by rw[n1];exact VR.unit ι)⟩
   rw[n2]
   exact hn0 b b1 b2
end
theorem zD:∀(l acc:List Nat),l.Nodup→(∀x,x∈l→x∈acc)→l.length≤acc.length
 | [],acc,_,_=>by simp
 | x::l,acc,h,hs=>by
  rw[List.nodup_cons]at h
  have hx:=hs x (by simp)
  have ih:=zD l (acc.erase x) h.2 λy hy=>by
   have hne:y≠x:=λe=>by subst e;exact h.1 hy
   exact(List.mem_erase_of_ne hne).2 (hs y (by simp[hy]))
  rw[List.length_erase_of_mem hx]at ih
  have:0<acc.length:=List.length_pos_of_mem hx
  simp
  omega
theorem least{n:Nat}{f:Nat→Prop}(rank:Nat→Nat)(h:∃i,i<n∧f i):∃i,i<n∧f i∧∀j,j<n→f j→rank i≤rank j:=by
 obtain⟨i,hi,hf⟩:=h
 generalize hr:rank i=r
 induction r using Nat.strongRecOn generalizing i with
 | _ r ih =>
  by_cases hs:∃j,j<n∧f j∧rank j<r
  ·obtain⟨j,h1,h2,h3⟩:=hs
   exact ih (rank j) h3 j h1 h2 rfl
  ·refine⟨i,hi,hf,λj h1 h2=>?_⟩
   rcases Nat.lt_or_ge (rank j) (rank i)with h | h
   ·exact absurd ⟨j,h1,h2,by omega⟩ hs
   ·exact h
structure UL(m:Region.Mode)(ops:Array Oper)(l:List Nat):Prop where
 nodup:l.Nodup
 lt:∀i,i∈l→i<ops.size
 all:∀i,i<ops.size→i∈l
 after:∀l1 i l2,l=l1++i::l2→∀o e,ops[i]?=some o→e∈o.after→Region.binds m e=true→e.on∈l1
theorem HY{l:List Nat}(h:l.Nodup):l.reverse.Nodup:=by
 unfold List.Nodup at h ⊢
 rw[List.pairwise_reverse]
 exact h.imp λh=>Ne.symm h
theorem Yi {m:Region.Mode} {ops:Array Oper} (rank:Nat→Nat) (hb:∀i o e,ops[i]?=some o→e∈o.after→Region.binds m e=true→rank e.on<rank i∧e.on<ops.size) :
  ∀(fuel t:Nat) (listed:Array Bool) (acc:List Nat),listed.size=ops.size→(∀i,i<ops.size→(listed.getD i true=true↔i∈acc))→acc.Nodup→(∀i,i∈acc→i<ops.size) →
   (∀l1 i l2,acc.reverse=l1++i::l2→∀o e,ops[i]?=some o→e∈o.after→Region.binds m e=true→e.on∈l1)→fuel+acc.length=ops.size→UL m ops (Region.linearise.go m ops fuel t listed acc):=by
 intro fuel
 induction fuel with
 | zero =>
  intro t listed acc h1 h2 h3 h4 h5 h6
  simp only[Region.linearise.go]
  refine⟨HY h3,λi hi=>h4 i (by simpa using hi),λi hi=>?_,h5⟩
  simp only[List.mem_reverse]
  by_cases hm:i∈acc
  ·exact hm
  ·have:=zD (i::acc) (List.range ops.size) (List.nodup_cons.2 ⟨hm,h3⟩) (λx hx=>by
    rcases List.mem_cons.1 hx with rfl | hx
    ·simpa using hi
    ·simpa using h4 x hx)
   simp at this
   omega
 | succ fuel ih =>
  intro t listed acc h1 h2 h3 h4 h5 h6
  simp only[Region.linearise.go]
  have hF:∀i,i<ops.size→(listed.getD i false=true↔i∈acc):=λi hi=>by
   rw[←h2 i hi]
   simp[Array.getD_eq_getD_getElem?,h1,hi]
  generalize hrs:(List.range ops.size).filter (λi=>!listed.getD i true&&((ops[i]?).map (·.after.all λe=>!Region.binds m e||listed.getD e.on false)).getD false)=rs
  have hne:rs≠[]:=by
   have hex:∃i,i<ops.size∧i∉acc:=by
    refine Classical.byContradiction λhc=>?_
    have:=zD (List.range ops.size) acc List.nodup_range (λx hx=>by
     by_cases hm:x∈acc
     ·exact hm
     ·exact absurd ⟨x,by simpa using hx,hm⟩ hc)
    simp at this
    omega
   obtain⟨i,i1,i2,i3⟩:=least rank hex
   have hi:i∈rs:=by
    rw[←hrs,List.mem_filter]
    refine⟨by simpa using i1, ?_⟩
    have ho:ops[i]?=some ops[i]:=by simp[i1]
    rw[ho]
    simp only[Bool.and_eq_true,Bool.not_eq_true',aG,Option.getD_some,Array.all_eq_true_iff_forall_mem]
    refine⟨?_,λe he=>?_⟩
    ·cases hl:listed.getD i true with
     | false=>rfl
     | true=>exact absurd ((h2 i i1).1 hl) i2
    ·cases hbd:Region.binds m e with
     | false=>simp
     | true =>
      obtain⟨r1,r2⟩:=hb i _ e ho he hbd
      have hm:e.on∈acc:=by
       by_cases hm:e.on∈acc
       ·exact hm
       ·have:=i3 e.on r2 hm
        omega
      simp[(hF e.on r2).2 hm]
   intro he
   rw[he]at hi
   cases hi
  have hlen:0<rs.length:=List.length_pos_iff.2 hne
  have hget:∃i,rs[t%rs.length]?=some i:=⟨_,aS (Nat.mod_lt _ hlen)⟩
  obtain⟨i,hi⟩:=hget
  rw[hi]
  simp only
  have hmem:i∈rs:=List.mem_of_getElem? hi
  rw[←hrs,List.mem_filter]at hmem
  obtain⟨hm1,hm2⟩:=hmem
  have hilt:i<ops.size:=by simpa using hm1
  have ho:ops[i]?=some ops[i]:=by simp[hilt]
  rw[ho]at hm2
  simp only[Bool.and_eq_true,Bool.not_eq_true',aG,Option.getD_some,Array.all_eq_true_iff_forall_mem]at hm2
  have hni:i∉acc:=λhm=>by rw[(h2 i hilt).2 hm]at hm2;cases hm2.1
  refine ih _ _ _ (by simpa using h1) (λj hj=>?_) (List.nodup_cons.2 ⟨hni,h3⟩) (λj hj=>?_) ?_ (by simp;omega)
  ·simp only[Array.getD_eq_getD_getElem?,Array.getElem?_setIfInBounds,List.mem_cons]
   have:=h2 j hj
   rw[Array.getD_eq_getD_getElem?]at this
   by_cases hij:i=j
   ·subst hij
    simp[h1,hilt]
   ·rw[if_neg hij]
    rw[this]
    simp[Ne.symm hij]
  ·rcases List.mem_cons.1 hj with rfl | hj
   ·exact hilt
   ·exact h4 j hj
  ·intro l1 j l2 hl o e ho' he hbd
   rw[List.reverse_cons]at hl
   rcases List.eq_nil_or_concat l2 with rfl |⟨l2',x,rfl⟩
   ·have hl':acc.reverse++[i]=l1++[j]:=hl
    have:=List.append_inj' hl' rfl
    obtain⟨e1,e2⟩:=this
    injection e2 with e2
    subst e2
    rw[ho]at ho'
    obtain rfl:=aj ho'
    have:=hm2.2 e he
    rw[hbd]at this
    simp only[Bool.not_true,Bool.false_or]at this
    obtain⟨_,r2⟩:=hb i _ e ho he hbd
    rw[←e1]
    simpa using (hF e.on r2).1 this
   ·have hl':acc.reverse++[i]=(l1++j::l2')++[x]:=by rw[hl];simp
    have:=List.append_inj' hl' rfl
    exact h5 l1 j l2' this.1 o e ho' he hbd
theorem uL{m:Region.Mode}{ops:Array Oper}(rank:Nat→Nat)(hb:∀i o e,ops[i]?=some o→e∈o.after→Region.binds m e=true→rank e.on<rank i∧e.on<ops.size)(t:Nat):UL m ops (Region.linearise m ops t):=by
 unfold Region.linearise
 refine Yi rank hb ops.size t _ [] (by simp) (λi hi=>?_) (by simp) (by simp) (by simp) (by simp)
 simp[Array.getD_eq_getD_getElem?,hi]
def Fa(ops:Array Oper)(Yj:List Nat):Bool :=
 ops.toList.zipIdx.all λp=>p.1.after.toList.all λe =>
  (match e.ground with |.gcOnly _=>true | _=>decide (e.on<p.2))&&(match e.ground with |.textOnly _=>true | _=>decide (Yj.idxOf e.on<Yj.idxOf p.2∧e.on<ops.size))
theorem Bz{ops:Array Oper}{Yj:List Nat}(h:Fa ops Yj=true)(mixed:Bool)(t:Nat):UL .any ops (Region.schedule mixed ops t):=by
 have hE:∀(i:Nat) (o:Oper) (e:Edge),ops[i]?=some o→e∈o.after→(match e.ground with |.gcOnly _=>true | _=>decide (e.on<i))=true∧(match e.ground with |.textOnly _=>true | _=>decide (Yj.idxOf e.on<Yj.idxOf i∧e.on<ops.size))=true:=by
  intro i o e ho he
  unfold Fa at h
  rw[List.all_eq_true]at h
  have:=h (o,i) (by rw[List.mem_zipIdx_iff_getElem?];simpa using ho)
  rw[List.all_eq_true]at this
  have:=this e (by simpa using he)
  rw[Bool.and_eq_true]at this
  exact this
 have hlt:∀i o,ops[i]?=some o→i<ops.size:=λi o h=>(Array.getElem?_eq_some_iff.1 h).1
 have weak:∀m l,UL m ops l→(∀e,Region.binds .any e=true→Region.binds m e=true)→UL .any ops l:=λm l L hw =>
  ⟨L.nodup,L.lt,L.all,λl1 i l2 hl o e ho he hb=>L.after l1 i l2 hl o e ho he (hw e hb)⟩
 have hany:∀t,UL .any ops (Region.linearise .any ops t):=uL id λi o e ho he hb=>by
  have:=(hE i o e ho he).1
  cases hg:e.ground<;>simp[Region.binds,hg]at hb this ⊢<;>(refine⟨this, ?_⟩;have:=hlt i o ho;omega)
 have htext:∀t,UL .any ops (Region.linearise .text ops t):=λt=>weak _ _ (uL id (λi o e ho he hb=>by
  have:=(hE i o e ho he).1
  cases hg:e.ground<;>simp[Region.binds,hg]at hb this ⊢<;>(refine⟨this, ?_⟩;have:=hlt i o ho;omega)) t) (λe hb=>by cases hg:e.ground<;>simp[Region.binds,hg]at hb ⊢)
 have hgc:∀t,UL .any ops (Region.linearise .gc ops t):=λt=>weak _ _ (uL (Yj.idxOf ·) (λi o e ho he hb=>by
  have:=(hE i o e ho he).2
  cases hg:e.ground<;>simp[Region.binds,hg]at hb this ⊢<;>exact this) t) (λe hb=>by cases hg:e.ground<;>simp[Region.binds,hg]at hb ⊢)
 unfold Region.schedule
 split
 ·exact hany t
 ·split
  ·exact htext _
  ·exact hgc _
def sH(P:Program)(ops:Array Oper)(o:Oper):qV :=
 match o.guard with
 | none=>{ dst:=o.dst,op:=cOp P o.op,guard:=none }
 | some (j,want)=>match (ops[j]?).bind (·.dst)with
  | some t=>{ dst:=o.dst,op:=cOp P o.op,guard:=some (t,want) }
  | none=>{ dst:=o.dst,op:=.n .fail,guard:=none }
theorem Dn(P:Program)(ops:Array Oper)(o:Oper):(sH P ops o).dst=o.dst:=by
 unfold sH
 split
 ·rfl
 ·split<;>rfl
theorem La{P:Program}{C:aW}(hC:nE P C)(ops:Array Oper)(o:Oper):K8 P C o (sH P ops o).op:=by
 unfold sH
 split
 ·exact RI hC o
 ·split
  ·exact RI hC o
  ·exact oC.fail
theorem wm{P:Program}(ops:Array Oper)(o:Oper){e:Env}{a:Act}{ι:cu}(he:bL ι e a.tmps.toList){b:Bool}(h:kY (sH P ops o).guard e=some b):Region.wanted o (yielded ops a.tmps)=b∨((sH P ops o).op=.n .fail∧b=true):=by
 unfold sH at h ⊢
 cases hg:o.guard with
 | none =>
  rw[hg]at h
  simp only[kY,au]at h
  subst h
  exact .inl (by simp[Region.wanted,hg])
 | some p =>
  obtain⟨j,want⟩:=p
  rw[hg]at h
  simp only at h ⊢
  cases ht:(ops[j]?).bind (·.dst)with
  | none =>
   rw[ht]at h
   simp only[kY,au]at h
   subst h
   exact .inr ⟨rfl,rfl⟩
  | some t =>
   rw[ht]at h
   simp only[kY]at h
   left
   have hr:=he.getD t undef
   have hcell:∀v,a.tmps.toList.getD t undef=v→(t<a.tmps.size→a.tmps[t]?=some v):=by
    intro v hv hlt
    rw[List.getD_eq_getElem?_getD,Array.getElem?_toList]at hv
    have:a.tmps[t]?=some a.tmps[t]:=by simp[hlt]
    rw[this]at hv ⊢
    simpa using hv
   have hlt:e.getD t .undef≠.undef→t<a.tmps.size:=by
    intro hne
    rcases Nat.lt_or_ge t a.tmps.size with hc | hc
    ·exact hc
    exfalso
    apply hne
    have hl:List.length e=a.tmps.size:=by simpa using he.length
    have hle:List.length e≤t:=by omega
    rw[List.getD_eq_getElem?_getD,List.getElem?_eq_none hle]
    rfl
   split at h
   ·rename_i c hc
    rw[hc]at hr
    simp only[VR]at hr
    have:=hcell _ hr (hlt (by rw[hc];simp))
    obtain rfl:=aj h
    simp[Region.wanted,hg,yielded,ht,this]
   ·rename_i vs hc
    rw[hc]at hr
    simp only[VR]at hr
    obtain⟨ws,hr,_⟩:=hr
    have:=hcell _ hr (hlt (by rw[hc];simp))
    obtain rfl:=aj h
    simp[Region.wanted,hg,yielded,ht,this]
   ·cases h
theorem P7 {P:Program} {C:aW} {o:Oper} {ao:qz} (hok:K8 P C o ao) {ι:cu} {M M':Heap} {e:Env} {a:Act} {w:World} {v:AV} {next:Act→World→Prop} {Q:Exit→Act→World→Prop} (r:R ι M w) (he:bL ι e a.tmps.toList) (h:Da C ao e M=some (v,M'))
  (hn:∀aV v' w',Tr ι M w aV M' w'→VR aV v v'→next (a.put o.dst v') w'):o.wp P a w next Q:=by
 cases ao with
 | p po =>
  simp only[Da]at h
  obtain⟨u,hu,h⟩:=av.1 h
  simp only[aD]at h
  obtain⟨rfl,rfl⟩:=h
  obtain⟨v',h1,h2⟩:=hok ι e a w u he hu
  exact oC.of_run h1 (hn ι v' w (Tr.refl r) h2)
 | l lo =>
  simp only[Da]at h
  obtain⟨u,hu,h⟩:=av.1 h
  simp only[aD]at h
  obtain⟨rfl,rfl⟩:=h
  obtain⟨v',h1,h2⟩:=hok ι M e a w u r he hu
  exact oC.of_run h1 (hn ι v' w (Tr.refl r) h2)
 | k ko =>
  simp only[Da]at h
  obtain⟨⟨x,mk⟩,hu,h⟩:=av.1 h
  simp only[aD]at h
  obtain⟨rfl,rfl⟩:=h
  obtain⟨v',w',ob,N,h1,h2,h3,h4⟩:=hok ι e a w x mk he hu
  have hnone:=(r.fresh M.next (Nat.le_refl _)).2
  obtain⟨hb,hv⟩:=h4 M.next (ι.set M.next ⟨w.heap.size,0,N⟩) (cu.vY hnone _) (by simp[cu.set])
  exact oC.of_run h1 (hn _ v' w' (Tr.push r h2 h3 hb) hv)
 | n no =>
  simp only[Da]at h
  exact hok ι M e a w v M' next Q r he h hn
theorem AJ {P:Program} {C:aW} (hC:nE P C) {ops:Array Oper} {Q:Exit→Act→World→Prop}:∀(l:List Nat) (ι:cu) (M:Heap) (e:Env) (a:Act) (w:World) (e':Env) (M':Heap),(∀i,i∈l→i<ops.size)→R ι M w→bL ι e a.tmps.toList→a.defers=[] →
  Dc C (l.map λi=>sH P ops (ops.getD i default)) e M=some (e',M')→(∀aV a' w',Tr ι M w aV M' w'→bL aV e' a'.tmps.toList→a'.defers=[]→Q .normal a' w')→wpOps P ops Q l a w
 | [],ι,M,e,a,w,e',M',_,r,he,hd,h,hq=>by
  simp only[List.map_nil,Dc,au,aD]at h
  obtain⟨rfl,rfl⟩:=h
  exact hq ι a w (Tr.refl r) he hd
 | i::l,ι,M,e,a,w,e',M',hlt,r,he,hd,h,hq=>by
  have hi:=hlt i (by simp)
  have ho:ops[i]?=some ops[i]:=by simp[hi]
  have hg:ops.getD i default=ops[i]:=by simp[Array.getD_eq_getD_getElem?,hi]
  simp only[List.map_cons,Dc,hg]at h
  simp only[wpOps,ho]
  have hok:=La hC ops ops[i]
  split at h
  ·rename_i hw
   obtain⟨⟨v,M1⟩,hop,h⟩:=aA.1 h
   have hwant:Region.wanted ops[i] (yielded ops a.tmps)=true:=by
    rcases wm (P:=P) ops ops[i] he hw with hw' |⟨hf,_⟩
    ·exact hw'
    ·rw[hf]at hop
     simp[Da,aN]at hop
   rw[if_pos hwant]
   left
   rw[Dn]at h
   refine P7 hok r he hop λiC v' w' ht hv=>?_
   exact AJ hC l iC M1 _ _ w' e' M' (λj hj=>hlt j (by simp[hj])) ht.rel (E_ (bL.mono (ht.le r) _ _ he) hv) (by rw[put_defers];exact hd) h λoV a2 w2 ht2=>hq oV a2 w2 (ht.trans ht2)
  ·rename_i hw
   have hwant:¬Region.wanted ops[i] (yielded ops a.tmps)=true:=by
    rcases wm (P:=P) ops ops[i] he hw with hw' |⟨_,hf⟩
    ·simp[hw']
    ·cases hf
   rw[if_neg hwant]
   rw[Dn]at h
   exact AJ hC l ι M _ _ w e' M' (λj hj=>hlt j (by simp[hj])) r (E_ he (VR.unit ι)) (by rw[put_defers];exact hd) h hq
  ·cases h
def Eh(o:Oper):List Nat:=(o.after.toList.filter (Region.binds .any)).map (·.on)
def Nb:List Oper→List Nat→List Nat
 | [],acc=>acc
 | o::r,acc=>Nb r (acc++[(Eh o).foldl (λx p=>x ||| 2 ^ p ||| acc.getD p 0) 0])
def Good(ops:List Oper)(A:List Nat):Prop:=∀i a,(A.getD i 0).testBit a=true→∃o,ops[i]?=some o∧∃p,p∈Eh o∧(a=p∨(p<i∧(A.getD p 0).testBit a=true))
theorem Lb(acc:List Nat)(a:Nat):∀(l:List Nat) (x:Nat),(l.foldl (λx p=>x ||| 2 ^ p ||| acc.getD p 0) x).testBit a=true→x.testBit a=true∨∃p,p∈l∧(a=p∨(acc.getD p 0).testBit a=true)
 | [],x,h=>.inl h
 | p::l,x,h=>by
  rw[List.foldl_cons]at h
  rcases Lb acc a l _ h with h |⟨q,hq,h⟩
  ·rw[Nat.testBit_or,Nat.testBit_or,Nat.testBit_two_pow,Bool.or_eq_true,Bool.or_eq_true,decide_eq_true_eq]at h
   rcases h with(h | h) | h
   ·exact .inl h
   ·exact .inr ⟨p,by simp,.inl h.symm⟩
   ·exact .inr ⟨p,by simp,.inr h⟩
  ·exact .inr ⟨q,by simp[hq],h⟩
theorem I5(all:List Oper):∀(r pre:List Oper) (acc:List Nat),all=pre++r→acc.length=pre.length→Good all acc→Good all (Nb r acc)
 | [],_,acc,_,_,h=>h
 | o::r,pre,acc,he,hl,h=>by
  simp only[Nb]
  refine I5 all r (pre++[o]) _ (by simp[he]) (by simp[hl]) λi a ha=>?_
  have hgd:∀j,j<acc.length→∀x,(acc++[x]).getD j 0=acc.getD j 0:=λj hj x=>by
   simp[List.getD_eq_getElem?_getD,List.getElem?_append_left hj]
  rcases Nat.lt_or_ge i acc.length with hi | hi
  ·rw[hgd i hi]at ha
   obtain⟨o',h1,p,h2,h3⟩:=h i a ha
   refine⟨o',h1,p,h2,h3.imp id λ⟨h4,h5⟩=>⟨h4, ?_⟩⟩
   rw[hgd p (by omega)]
   exact h5
  ·rcases Nat.eq_or_lt_of_le hi with e | hi
   ·subst e
    have e1:(acc++[(Eh o).foldl (λx p=>x ||| 2 ^ p ||| acc.getD p 0) 0]).getD acc.length 0=(Eh o).foldl (λx p=>x ||| 2 ^ p ||| acc.getD p 0) 0:=by
     simp[List.getD_eq_getElem?_getD]
    rw[e1]at ha
    rcases Lb acc a _ _ ha with ha |⟨p,hp,ha⟩
    ·simp at ha
    refine⟨o,by rw[he,hl];simp,p,hp, ?_⟩
    rcases ha with ha | ha
    ·exact .inl ha
    ·have K_:p<acc.length:=by
      refine Classical.byContradiction λhc=>?_
      rw[List.getD_eq_getElem?_getD,List.getElem?_eq_none (by omega)]at ha
      simp at ha
     refine .inr ⟨K_, ?_⟩
     rw[hgd p K_]
     exact ha
   ·rw[List.getD_eq_getElem?_getD,List.getElem?_eq_none (by simp;omega)]at ha
    simp at ha
theorem Lc{ops:List Oper}{A:List Nat}(h:Good ops A){S:Nat→Prop}(hS:∀i,S i→∀o,ops[i]?=some o→∀p,p∈Eh o→S p):∀i,S i→∀a,(A.getD i 0).testBit a=true→S a:=by
 intro i
 induction i using Nat.strongRecOn with
 | _ i ih =>
  intro hi a ha
  obtain⟨o,h1,p,h2,h3⟩:=h i a ha
  have hp:=hS i hi o h1 p h2
  rcases h3 with rfl |⟨h3,h4⟩
  ·exact hp
  ·exact ih p h3 hp a h4
def Yk(A:List Nat)(loud:Nat→Bool)(n:Nat):List Nat :=
 let acc:=(List.range n).foldl (λacc j=>if loud j then acc++((List.range n).filter λi=>(A.getD j 0).testBit i&&!acc.contains i)++[j]else acc) []
 acc++(List.range n).filter λi=>!acc.contains i
def J4(A:List Nat)(oD:List Nat)(p q:Nat):Bool:=(A.getD (oD.getD q 0) 0).testBit (oD.getD p 0)
def dList(P:Program)(ops:Array Oper)(A:List Nat)(oD:List Nat):List bQ :=
 let Dc:=ops.toList.map (sH P ops)
 let at_ (i:Nat):qV:=Dc.getD i { dst:=none,op:=.n .fail,guard:=none }
 let Ze:=oD.filter λi=>(at_ i).op.loud
 let ks:=oD.filter λi=>(at_ i).op.isK
 oD.map λi=>{ o:=at_ i,lo:=(Ze.takeWhile λj=>(A.getD i 0).testBit j).length,ix:=ks.idxOf i }
structure DZ where
 d:bQ
 p:Nat
 i:Nat
 m:Nat
 r:Nat
 c:Nat
def J5(l:List Nat):Nat:=l.foldl (λx t=>x ||| 2 ^ t) 0
theorem Ei(t:Nat):∀(l:List Nat) (x:Nat),(t∈l∨x.testBit t=true)→(l.foldl (λx t=>x ||| 2 ^ t) x).testBit t=true
 | [],x,h=>by simpa using h
 | u::l,x,h=>by
  rw[List.foldl_cons]
  refine Ei t l _ ?_
  rcases h with h | h
  ·rcases List.mem_cons.1 h with rfl | h
   ·right
    rw[Nat.testBit_or,Nat.testBit_two_pow]
    simp
   ·exact .inl h
  ·right
   rw[Nat.testBit_or,h]
   simp
theorem Nc{t:Nat}{l:List Nat}(h:t∈l):(J5 l).testBit t=true:=Ei t l 0 (.inl h)
def Nf(A:List Nat):List bQ→List Nat→Nat→Nat→List DZ
 | d::ds,i::oD,p,c=>⟨d,p,i,A.getD i 0,J5 d.o.rd,c⟩::Nf A ds oD (p+1) (if d.o.op.loud then c+1 else c)
 | _,_,_,_=>[]
def P8(ds:List bQ)(j:Nat):Nat:=((ds.take j).filter λd=>d.o.op.loud).length
theorem O6(ds:List bQ):∀j,j≤ds.length→nG ds j=P8 ds j
 | 0,_=>by simp[nG,P8]
 | j+1,h=>by
  have ih:=O6 ds j (by omega)
  unfold nG P8 at ih ⊢
  rw[List.range_succ,List.filter_append,aF,ih,List.take_add_one,List.filter_append,aF]
  congr 1
  have hj:ds[j]?=some ds[j]:=aS (by omega)
  simp only[hj,Option.toList_some,List.filter_cons,List.filter_nil,gD]
  split<;>rfl
theorem Lg(A:List Nat):∀(ds:List bQ) (oD:List Nat) (p c j:Nat) (d:bQ) (i:Nat),ds[j]?=some d→oD[j]?=some i→(Nf A ds oD p c)[j]?=some ⟨d,p+j,i,A.getD i 0,J5 d.o.rd,c+P8 ds j⟩
 | [],_,_,_,_,_,_,h,_=>by simp at h
 | _::_,[],_,_,_,_,_,_,h=>by simp at h
 | d::ds,i::oD,p,c,0,d',i',h1,h2=>by
  simp at h1 h2
  subst h1 h2
  simp[Nf,P8]
 | d::ds,i::oD,p,c,j+1,d',i',h1,h2=>by
  simp only[List.getElem?_cons_succ]at h1 h2
  simp only[Nf,List.getElem?_cons_succ]
  rw[Lg A ds oD _ _ j d' i' h1 h2]
  simp only[au,DZ.mk.injEq,true_and]
  refine⟨by omega, ?_⟩
  simp only[P8,List.take_succ_cons,List.filter_cons]
  cases d.o.op.loud<;>simp<;>omega
def Ng(nk:Nat)(dz:List DZ):Bool :=
 (dz.all λp=>dz.all λq =>
  (!q.m.testBit p.i||decide (p.p<q.p)) &&
  (p.p==q.p||(
   (match p.d.o.dst with | some t=>q.d.o.dst != some t | none=>true) &&
   (match q.d.o.dst with | some t=>!(p.r.testBit t)||p.m.testBit q.i||q.m.testBit p.i | none=>true) &&
   (!(q.d.o.op.loud&&decide (p.p<q.p)&&!p.d.o.op.plain)||q.m.testBit p.i) &&
   (!(p.d.o.op.qw&&q.d.o.op.loud&&decide (q.p<p.p)&&decide (q.c<p.d.lo))||p.m.testBit q.i) &&
   (!(p.d.o.op.isK&&q.d.o.op.isK)||p.d.ix != q.d.ix)))) &&
 (dz.all λp=>!p.d.o.op.isK||decide (p.d.ix<nk))
theorem Lh{nk:Nat}{ds:List bQ}{A oD:List Nat}(hlen:ds.length=oD.length)(h:Ng nk (Nf A ds oD 0 0)=true):uj nk ds (λp q=>p<ds.length∧q<ds.length∧J4 A oD p q=true):=by
 unfold Ng at h
 simp only[Bool.and_eq_true,List.all_eq_true]at h
 obtain⟨h1,h2⟩:=h
 have lt:∀p (d:bQ),ds[p]?=some d→p<ds.length:=λp d h=>(aC.1 h).1
 have tg:∀p,p<ds.length→oD[p]?=some (oD.getD p 0):=λp hp=>by
  rw[List.getD_eq_getElem?_getD,aS (by omega)]
  rfl
 have hm:∀(p:Nat) (d:bQ),ds[p]?=some d→(⟨d,p,oD.getD p 0,A.getD (oD.getD p 0) 0,J5 d.o.rd,nG ds p⟩:DZ)∈Nf A ds oD 0 0:=λp d hp=>by
  have:=Lg A ds oD 0 0 p d _ hp (tg p (lt p d hp))
  rw[Nat.zero_add,Nat.zero_add,←O6 ds p (Nat.le_of_lt (lt p d hp))]at this
  exact List.mem_of_getElem? this
 have H:∀(p q:Nat) (d d':bQ),ds[p]?=some d→ds[q]?=some d'→_:=λp q d d' hp hq=>h1 _ (hm p d hp) _ (hm q d' hq)
 have or1:∀ {a b:Bool},(a||b)=true→a=false→b=true:=λ{a b} h1 h2=>by subst h2;simpa using h1
 have N:∀(p q:Nat) (d d':bQ),ds[p]?=some d→ds[q]?=some d'→p≠q→_:=λp q d d' hp hq hne=>or1 (H p q d d' hp hq).2 (by simpa using hne)
 constructor
 ·rintro p q ⟨hp,hq,ha⟩
  have:=(H p q _ _ (aS hp) (aS hq)).1
  have ha':(A.getD (oD.getD q 0) 0).testBit (oD.getD p 0)=true:=ha
  rw[ha']at this
  simpa using this
 ·intro p q d d' t hp hq hne ht
  have:=N p q d d' hp hq hne
  simp only[Bool.and_eq_true]at this
  have:=this.1.1.1.1
  rw[ht]at this
  simpa using this
 ·intro p q d d' t hp hq hne ht hr
  have:=N p q d d' hp hq hne
  simp only[Bool.and_eq_true]at this
  have:=this.1.1.1.2
  rw[ht]at this
  simp[Nc hr]at this
  exact this.imp (λh=>⟨lt _ _ hq,lt _ _ hp,by simpa[J4]using h⟩) (λh=>⟨lt _ _ hp,lt _ _ hq,by simpa[J4]using h⟩)
 ·intro p q d d' hp hq hlt hl hpl
  have:=N p q d d' hp hq (by omega)
  simp only[Bool.and_eq_true]at this
  have:=this.1.1.2
  simp[hlt,hl,hpl]at this
  exact⟨lt _ _ hp,lt _ _ hq,by simpa[J4]using this⟩
 ·intro p d q hp hl hlt OY hc
  have hq:q<ds.length:=by have:=lt _ _ hp;omega
  have hq':=aS hq
  have:=N p q d _ hp hq' (by omega)
  simp only[Bool.and_eq_true]at this
  have:=this.1.2
  have hl2:ds[q].o.op.loud=true:=by simpa[gD,hq']using OY
  simp[hl,hlt,hl2,hc]at this
  exact⟨hq,lt _ _ hp,by simpa[J4]using this⟩
 ·intro p d hp hk
  have:=h2 _ (hm p d hp)
  simpa[hk]using this
 ·intro p q d d' hp hq hk hk' hix
  refine Classical.byContradiction λhne=>?_
  have:=N p q d d' hp hq hne
  simp only[Bool.and_eq_true]at this
  have:=this.2
  simp[hk,hk',hix]at this
def Li(P:Program)(ops:Array Oper):bK :=
 let A:=Nb ops.toList []
 let n:=ops.size
 let Dc:=ops.toList.map (sH P ops)
 let oD:=Yk A (λi=>(Dc.getD i { dst:=none,op:=.n .fail,guard:=none }).op.loud) n
 let ds:=dList P ops A oD
 let nk:=(Dc.filter λo=>o.op.isK).length
 if (Fa ops (List.range n)||Fa ops (Region.linearise .gc ops 0))&&(oD.length==n&&decide oD.Nodup&&(List.range n).all λi=>oD.contains i)&&Ng nk (Nf A ds oD 0 0)then .JR nk ds else .fail
theorem P9{l:List Nat}(h:l.Nodup){i j x:Nat}(hi:l[i]?=some x)(hj:l[j]?=some x):i=j:=by
 obtain⟨i1,i2⟩:=aC.1 hi
 obtain⟨j1,j2⟩:=aC.1 hj
 rcases Nat.lt_trichotomy i j with hlt | he | hlt
 ·exact absurd (i2.trans j2.symm) (List.pairwise_iff_getElem.1 h i j i1 j1 hlt)
 ·exact he
 ·exact absurd (j2.trans i2.symm) (List.pairwise_iff_getElem.1 h j i j1 i1 hlt)
theorem RS {P:Program} {C:aW} (hC:nE P C) {ops:Array Oper} {A:List Nat} (hA:Good ops.toList A) {oD:List Nat} (htl:oD.length=ops.size) (htn:oD.Nodup) (hta:∀i,i<ops.size→i∈oD) {ds:List bQ} (hds:ds.length=oD.length)
  (hdo:∀(p i:Nat),oD[p]?=some i→∃(d:bQ) (o:Oper),ds[p]?=some d∧ops[i]?=some o∧d.o=sH P ops o) {nk base:Nat} (c:uj nk ds (λp q=>p<ds.length∧q<ds.length∧J4 A oD p q=true))
  {E:Nat→Env} {H:Nat→Heap} {G:Nat→List Heap} {V:Nat→AV} {W:Nat→Bool} {B:Nat→Option ji} (r:EH C base nk ds E H G V W B) (hg0:G 0=[]) {kL:cu} {M0:Heap} {w0:World} (hbase:M0.next=base)
  {L:List Nat} (hL:UL .any ops L) {Q:Exit→Act→World→Prop} (hq:∀ι a w,Tr kL M0 w0 ι (H ds.length) w→bL ι (E ds.length) a.tmps.toList→a.defers=[]→Q .normal a w) :
  ∀(l dn:List Nat),L=dn++l→∀(q:Nat) (S:Nat→Bool) (ι:cu) (a:Act) (w:World),(∀p i,oD[p]?=some i→(S p=true↔i∈dn)) →
   wh base nk ds E H V B (λp q=>p<ds.length∧q<ds.length∧J4 A oD p q=true) kL M0 w0 q S ι a w→wpOps P ops Q l a w:=by
 intro l
 induction l with
 | nil =>
  intro dn hdn q S ι a w hS I
  simp only[wpOps]
  have hall:∀p,p<ds.length→S p=true:=λp hp=>by
   have ht:oD[p]?=some oD[p]:=by simp[show p<oD.length from by omega]
   have hlt:=hL.lt
   rw[hS p _ ht]
   have:dn=L:=by simpa using hdn.symm
   rw[this]
   refine hL.all _ ?_
   -- a place of tau is an operation
   have:=hdo p _ ht
   obtain⟨d,o,_,h2,_⟩:=this
   exact(Array.getElem?_eq_some_iff.1 h2).1
  have aaj:oJ ds (E 0) V S=E ds.length:=by
   rw[M_ c r ds.length (Nat.le_refl _)]
   unfold oJ
   refine List.map_congr_left λt _=>?_
   cases hw:writer ds t with
   | none=>rfl
   | some p =>
    obtain⟨d,hd,_⟩:=um hw
    have hp:=(aC.1 hd).1
    simp[hall p hp,hp]
  have hheap:cO base nk ds H B q S=H ds.length:=by
   obtain⟨g1,g2,g3⟩:=AB c r ds.length I.qle (Nat.le_refl _) λj j1 j2=>by
    cases hj:gD ds j with
    | false=>rfl
    | true=>have:=I.below j (hall j j2) hj;omega
   refine sG (λb=>?_) g1.symm
   by_cases hb:base≤b∧b<base+nk
   ·rw[g3 (λb p0 b1 b2 hs hq=>(I.nones b b1 b2).1 p0 hs hq) b hb.1 hb.2]
    simp only[cO]
    rw[if_pos hb]
    cases hs:gL ds (b-base)with
    | none=>exact((I.nones b hb.1 hb.2).2 hs).symm
    | some p0 =>
     obtain⟨d,hd,_⟩:=jO hs
     have hp:=(aC.1 hd).1
     simp only
     by_cases h:p0<q
     ·rw[if_pos h,if_neg (by omega)]
     ·rw[if_neg h,if_pos (hall p0 hp),if_pos ⟨by omega,hp⟩]
   ·rw[g2 b hb]
    simp only[cO]
    rw[if_neg hb]
  have h1:=I.tr
  rw[hheap]at h1
  have h2:=I.env
  rw[aaj]at h2
  exact hq ι a w h1 h2 I.defs
 | cons i l ih =>
  intro dn hdn q S ι a w hS I
  have hmem:i∈L:=by rw[hdn];simp
  have hi:=hL.lt i hmem
  have Zf:=hta i hi
  obtain⟨p,hp⟩:=List.mem_iff_getElem?.1 Zf
  obtain⟨d,o,hd,ho,U4⟩:=hdo p i hp
  have K_:=(aC.1 hd).1
  have hni:i∉dn:=by
   have:=hL.nodup
   rw[hdn,List.nodup_append]at this
   intro h
   exact this.2.2 i h i (by simp) rfl
  have hSp:S p=false:=by
   cases h:S p with
   | false=>rfl
   | true=>exact absurd ((hS p i hp).1 h) hni
  -- what it hangs on is done
  have hclosed:∀j,j∈dn→∀o,ops.toList[j]?=some o→∀x,x∈Eh o→x∈dn:=by
   intro j hj o' ho' x hx
   obtain⟨l1,l2,hl⟩:=List.append_of_mem hj
   unfold Eh at hx
   obtain⟨e,he,rfl⟩:=List.mem_map.1 hx
   obtain⟨he,hb⟩:=List.mem_filter.1 he
   have:=hL.after l1 j (l2++i::l) (by rw[hdn,hl];simp) o' e (by simpa using ho') (by simpa using he) hb
   rw[hl]
   simp[this]
  have aak:∀x,(A.getD i 0).testBit x=true→x∈dn:=by
   intro x hx
   obtain⟨o',ho',y,hy,hxy⟩:=hA i x hx
   have hyd:y∈dn:=by
    unfold Eh at hy
    obtain⟨e,he,rfl⟩:=List.mem_map.1 hy
    obtain⟨he,hb⟩:=List.mem_filter.1 he
    exact hL.after dn i l hdn o' e (by simpa using ho') (by simpa using he) hb
   rcases hxy with rfl |⟨_,hxy⟩
   ·exact hyd
   ·exact Lc hA (S:=λj=>j∈dn) hclosed y hyd x hxy
  have hpre:∀s,(s<ds.length∧p<ds.length∧J4 A oD s p=true)→S s=true:=by
   rintro s ⟨hs,_,ha⟩
   have hts:oD[s]?=some oD[s]:=by simp[show s<oD.length from by omega]
   rw[hS s _ hts]
   refine aak _ ?_
   unfold J4 at ha
   have e1:oD.getD p 0=i:=by rw[List.getD_eq_getElem?_getD,hp];rfl
   have e2:oD.getD s 0=oD[s]:=by rw[List.getD_eq_getElem?_getD,hts];rfl
   rw[e1,e2]at ha
   simpa using ha
  have hok:K8 P C o d.o.op:=by rw[U4];exact La hC ops o
  have hdst:o.dst=d.o.dst:=by rw[U4,Dn]
  have hstep:=I.step c r hg0 hbase hd hSp hpre hok hdst
  have st:=r.step p d hd
  have Na:=Dm c r I.closed hd hSp hpre
  have hwant:kY d.o.guard (oJ ds (E 0) V S)=some (W p):=by
   rw[←HV (e:=E p) (λt ht=>Na t (by simp only[qV.rd,List.mem_append];exact .inl ht))]
   exact st.want
  have hcw:=wm (P:=P) ops o I.env (by rw[←U4];exact hwant)
  have hSm:∀s j,oD[s]?=some j→(more S p s=true↔j∈dn++[i]):=by
   intro s j hs
   by_cases hsp:s=p
   ·subst hsp
    rw[hp]at hs
    obtain rfl:=aj hs
    simp[more]
   ·rw[pI hsp,hS s j hs]
    have:j≠i:=by
     rintro rfl
     exact hsp (P9 htn hs hp)
    simp[this]
  simp only[wpOps,ho]
  cases hw:W p with
  | true =>
   rw[hw]at hcw
   have Nh:Region.wanted o (yielded ops a.tmps)=true:=by
    rcases hcw with h |⟨hf,_⟩
    ·exact h
    ·rw[←U4]at hf
     have:=(st.n .fail hw hf).1
     simp[aN]at this
   rw[if_pos Nh]
   left
   exact hstep.1 hw _ Q λq' aV v' w' I'=>ih (dn++[i]) (by rw[hdn];simp) q' (more S p) aV _ w' hSm I'
  | false =>
   rw[hw]at hcw
   have Nh:¬Region.wanted o (yielded ops a.tmps)=true:=by
    rcases hcw with h |⟨_,hf⟩
    ·simp[h]
    ·cases hf
   rw[if_neg Nh]
   obtain⟨q',I'⟩:=hstep.2 hw
   exact ih (dn++[i]) (by rw[hdn];simp) q' (more S p) ι _ w hSm I'
theorem Ni {P:Program} {C:aW} (hC:nE P C) {id:Nat} {ops:Array Oper} {nk:Nat} {ds:List bQ} (hc:Li P ops=.JR nk ds) {ι:cu} {M:Heap} {e:Env} {a:Act} {w:World} (r:R ι M w) (he:bL ι e a.tmps.toList) (hd:a.defers=[]) {e':Env} {M':Heap}
  (h:uZ C M.next nk ds e { M with next:=M.next+nk } []=some (e',M')) {Q:Exit→Act→World→Prop} (hq:∀aV a' w',Tr ι M w aV M' w'→bL aV e' a'.tmps.toList→a'.defers=[]→Q .normal a' w'):(Code.region id ops true).wp P Q a w:=by
 unfold Li at hc
 simp only at hc
 split at hc
 case isFalse=>cases hc
 rename_i hcond
 simp only[Bool.and_eq_true,beq_iff_eq,decide_eq_true_eq,List.all_eq_true]at hcond
 obtain⟨⟨RU,⟨htl,htn⟩,hta⟩,RV⟩:=hcond
 injection hc with hc1 hc2
 rw[hc1,hc2]at RV
 have cnd:=Lh (by rw[←hc2];simp[dList]) RV
 obtain⟨E,H,G,V,W,B,hr,q1,q2,q3,q4,q5⟩:=OW ds e _ _ e' M' h
 refine wp_region_draw λt=>?_
 have hL:UL .any ops (Region.schedule (P.follows .mixedOrders) ops t):=by
  rw[Bool.or_eq_true]at RU
  rcases RU with h | h
  ·exact Bz h (P.follows .mixedOrders) t
  ·exact Bz h (P.follows .mixedOrders) t
 have hA:Good ops.toList (Nb ops.toList []):=I5 ops.toList ops.toList [] [] (by simp) rfl (λi a ha=>by simp[List.getD_eq_getElem?_getD]at ha)
 have rd:=r.drew (w.drawn+1)
 have Zg:∀i,i<ops.size→i∈Yk (Nb ops.toList []) (λi=>((ops.toList.map (sH P ops)).getD i { dst:=none,op:=.n .fail,guard:=none }).op.loud) ops.size:=λi hi=>by
  have:=hta i (by simpa using hi)
  simpa using this
 generalize aa6:Yk (Nb ops.toList []) (λi=>((ops.toList.map (sH P ops)).getD i { dst:=none,op:=.n .fail,guard:=none }).op.loud) ops.size=oD at *
 have hlt:∀i,i∈oD→i<ops.size:=by
  intro i hi
  rcases Nat.lt_or_ge i ops.size with h | h
  ·exact h
  ·exfalso
   have:=zD (i::List.range ops.size) oD (List.nodup_cons.2 ⟨by simpa using h,List.nodup_range⟩) (λx hx=>by
    rcases List.mem_cons.1 hx with rfl | hx
    ·exact hi
    ·exact Zg x (by simpa using hx))
   simp at this
   omega
 have hds:ds.length=oD.length:=by rw[←hc2];simp[dList]
 have hdo:∀(p i:Nat),oD[p]?=some i→∃(d:bQ) (o:Oper),ds[p]?=some d∧ops[i]?=some o∧d.o=sH P ops o:=by
  intro p i hp
  have hi:=hlt i (List.mem_of_getElem? hp)
  have ho:ops[i]?=some ops[i]:=by simp[hi]
  refine⟨_,ops[i],by rw[←hc2];simp only[dList,List.getElem?_map,hp,aG];rfl,ho, ?_⟩
  simp[List.getD_eq_getElem?_getD,hi]
 have hbase:∀b,M.next≤b→b<M.next+nk→(H 0).get b=none:=λb b1 _=>by
  rw[q2]
  exact(r.fresh b b1).1
 have hheap:cO M.next nk ds H B 0 (λ_=>false)={ M with next:=M.next+nk }:=by
  refine sG (λb=>?_) (by simp[cO,q2])
  simp only[cO]
  split
  ·rename_i hb
   have:=(r.fresh b hb.1).1
   cases gL ds (b-M.next)<;>simp[this]
  ·rw[q2]
 have hR0:R ι { M with next:=M.next+nk } { w with drawn:=w.drawn+1 }:=⟨rd.blk,rd.apart,λb hb=>rd.fresh b (by simp only at hb;omega)⟩
 refine RS hC hA htl htn Zg hds hdo (base:=M.next) cnd hr q3 (kL:=ι) (M0:=M) (w0:=w) rfl hL (λaV a' w' ht hv hd'=>?_) _ [] rfl 0 (λ_=>false) ι a _ (λp i _=>by simp) ?_
 ·rw[q5]at ht
  rw[q4]at hv
  exact hq aV a' w' ht hv hd'
 ·refine⟨Nat.zero_le _,.inl rfl,λj h=>by simp at h,λp s h=>by simp at h,λb b1 b2=>⟨λp0 _ _=>hbase b b1 b2,λ_=>hbase b b1 b2⟩,by rw[q2];exact Nat.le_refl _, ?_,λp d' _ _ _=>(r.fresh _ (by omega)).2, ?_,hd⟩
  ·rw[hheap]
   exact⟨hR0,λ_ _=>rfl,by simp,λ_ _ h=>h,λ_ _ h _=>h,λb x l h1 h2 h3 _=>⟨b,x,l,h1,h2,h3,rfl⟩,λ_ _ _=>rfl,Nat.le_refl _,rfl,rfl,rfl⟩
  ·have:oJ ds (E 0) V (λ_=>false)=e:=by
    rw[q1]
    refine E9 (iT _ _) λt=>?_
    rw[kN]
    split
    ·cases writer ds t<;>simp
    ·rename_i h
     have hle:List.length e≤t:=by omega
     rw[List.getD_eq_getElem?_getD,List.getElem?_eq_none hle]
     rfl
   rw[this]
   exact he
abbrev Hints:=List (List Nat)
def kP(P:Program):Code→Hints→bK×Hints
 |.skip,h=>(.skip,h)
 |.region _ ops true,h=>(Li P ops,h)
 |.region _ ops false,h=>(.reg ((List.range ops.size).map λi=>sH P ops (ops.getD i default)),h)
 |.seq a b,h =>
  let x:=kP P a h
  let y:=kP P b x.2
  (.seq x.1 y.1,y.2)
 |.cond c a b,h=>match cX c with
  | some ax =>
   let x:=kP P a h
   let y:=kP P b x.2
   (.cond ax x.1 y.1,y.2)
  | none=>(.fail,h)
 |.block id c,h =>
  let x:=kP P c h
  (.block id x.1,x.2)
 |.loop c,h =>
  let x:=kP P c h.tail
  (.loop (h.headD []) x.1,x.2)
 |.exit id,h=>(.exit id,h)
 |.ret,h=>(.ret,h)
 |.rangeFunc ..,h |.scope _,h |.label _,h |.goto _,h |.refuse _,h=>(.fail,h)
def Ex.of:Ex→Exit
 |.normal=>.normal
 |.exit id=>.exit id
 |.ret=>.ret
def RX(P:Program)(C:aW)(K:Nat)(c:Code)(ac:bK):Prop :=
 ∀(ι:cu) (M:Heap) (e:Env) (a:Act) (w:World) (x:Ex) (e':Env) (M':Heap) (Q:Exit→Act→World→Prop),R ι M w→bL ι e a.tmps.toList→a.defers=[]→gJ C K ac e M=some (x,e',M') →
  (∀aV a' w',Tr ι M w aV M' w'→bL aV e' a'.tmps.toList→a'.defers=[]→Q x.of a' w')→c.wp P Q a w
theorem Ej {P:Program} {C:aW} {K:Nat} {c:Code} {ac:bK} {keep:List Nat} (hc:RX P C K c ac) {Q:Exit→Act→World→Prop}:∀(k:Nat) (ι:cu) (M:Heap) (e:Env) (a:Act) (w:World) (x:Ex) (e':Env) (M':Heap),R ι M w→bL ι e a.tmps.toList→a.defers=[] →
  Fu (gJ C K ac) keep k e M=some (x,e',M')→(∀aV a' w',Tr ι M w aV M' w'→bL aV e' a'.tmps.toList→a'.defers=[]→Q x.of a' w')→Code.rounds P c Q k a w
 | 0,ι,M,e,a,w,x,e',M',r,he,hd,h,hq=>by simp[Fu]at h
 | k+1,ι,M,e,a,w,x,e',M',r,he,hd,h,hq=>by
  simp only[Fu]at h
  rw[rounds_succ]
  split at h
  ·rename_i e1 M1 hb
   refine hc ι M _ a w _ _ _ _ r (he.gI keep 0) hd hb λiC a1 w1 ht hv hd1=>?_
   simp only[Ex.of,Exit.then]
   exact Ej hc k iC M1 e1 a1 w1 x e' M' ht.rel hv hd1 h λoV a2 w2 ht2=>hq oV a2 w2 (ht.trans ht2)
  ·rename_i hne
   refine hc ι M _ a w _ _ _ _ r (he.gI keep 0) hd h λiC a1 w1 ht hv hd1=>?_
   have:=hq iC a1 w1 ht hv hd1
   cases x with
   | normal=>exact absurd h (hne e' M')
   | exit id=>exact this
   | ret=>exact this
theorem jQ{P:Program}{C:aW}(hC:nE P C)(K:Nat):∀(c:Code) (h:Hints),RX P C K c (kP P c h).1
 |.skip,hs=>by
  intro ι M e a w x e' M' Q r he hd h hq
  simp only[kP,gJ,au,aD]at h
  obtain⟨rfl,rfl,rfl⟩:=h
  exact wp_skip (hq ι a w (Tr.refl r) he hd)
 |.region id ops true,hs=>by
  intro ι M e a w x e' M' Q r he hd h hq
  simp only[kP]at h
  cases hc:Li P ops with
  | JR nk ds =>
   rw[hc]at h
   simp only[gJ]at h
   obtain⟨p,hp,h⟩:=av.1 h
   obtain⟨e1,M1⟩:=p
   simp only[aD]at h
   obtain⟨rfl,rfl,rfl⟩:=h
   exact Ni hC hc r he hd hp hq
  | fail=>rw[hc]at h;simp[gJ]at h
  | _ =>
   unfold Li at hc
   simp only at hc
   split at hc<;>cases hc
 |.region id ops false,hs=>by
  intro ι M e a w x e' M' Q r he hd h hq
  simp only[kP,gJ]at h
  obtain⟨⟨e1,M1⟩,hp,h⟩:=av.1 h
  simp only[aD]at h
  obtain⟨rfl,rfl,rfl⟩:=h
  exact wp_region (AJ hC _ ι M e a w _ _ (λi hi=>by simpa using hi) r he hd hp hq)
 |.seq c1 c2,hs=>by
  intro ι M e a w x e' M' Q r he hd h hq
  simp only[kP,gJ]at h
  refine wp_seq ?_
  split at h
  ·rename_i e1 M1 h1
   refine jQ hC K c1 hs ι M e a w _ _ _ _ r he hd h1 λiC a1 w1 ht hv hd1=>?_
   simp only[Ex.of,Exit.then]
   exact jQ hC K c2 _ iC M1 e1 a1 w1 x e' M' Q ht.rel hv hd1 h λoV a2 w2 ht2=>hq oV a2 w2 (ht.trans ht2)
  ·rename_i hne
   refine jQ hC K c1 hs ι M e a w _ _ _ _ r he hd h λiC a1 w1 ht hv hd1=>?_
   have:=hq iC a1 w1 ht hv hd1
   cases x with
   | normal=>exact absurd h (hne e' M')
   | exit id=>exact this
   | ret=>exact this
 |.cond c c1 c2,hs=>by
  intro ι M e a w x e' M' Q r he hd h hq
  simp only[kP]at h
  cases hx:cX c with
  | none=>rw[hx]at h;simp[gJ]at h
  | some ax =>
   rw[hx]at h
   simp only[gJ]at h
   have hv:=bO hx he
   split at h
   ·rename_i hb
    rw[hb]at hv
    simp only[VR]at hv
    exact wp_cond_true hv (jQ hC K c1 _ ι M e a w x e' M' Q r he hd h hq)
   ·rename_i hb
    rw[hb]at hv
    simp only[VR]at hv
    exact wp_cond_false hv (jQ hC K c2 _ ι M e a w x e' M' Q r he hd h hq)
   ·cases h
 |.block id c,hs=>by
  intro ι M e a w x e' M' Q r he hd h hq
  simp only[kP,gJ]at h
  refine wp_block ?_
  split at h
  ·rename_i i e1 M1 h1
   refine jQ hC K c hs ι M e a w _ _ _ _ r he hd h1 λiC a1 w1 ht hv hd1=>?_
   simp only[Ex.of,Exit.inBlock]
   split at h
   ·rename_i hi
    simp only[au,aD]at h
    obtain⟨rfl,rfl,rfl⟩:=h
    rw[if_pos hi]
    exact hq iC a1 w1 ht hv hd1
   ·rename_i hi
    simp only[au,aD]at h
    obtain⟨rfl,rfl,rfl⟩:=h
    rw[if_neg hi]
    exact hq iC a1 w1 ht hv hd1
  ·rename_i hne
   refine jQ hC K c hs ι M e a w _ _ _ _ r he hd h λiC a1 w1 ht hv hd1=>?_
   have:=hq iC a1 w1 ht hv hd1
   cases x with
   | normal=>exact this
   | exit i=>exact absurd h (hne i e' M')
   | ret=>exact this
 |.loop c,hs=>by
  intro ι M e a w x e' M' Q r he hd h hq
  simp only[kP,gJ]at h
  exact wp_loop_rounds K (Ej (jQ hC K c _) K ι M e a w x e' M' r he hd h hq)
 |.exit id,hs=>by
  intro ι M e a w x e' M' Q r he hd h hq
  simp only[kP,gJ,au,aD]at h
  obtain⟨rfl,rfl,rfl⟩:=h
  exact wp_exit (hq ι a w (Tr.refl r) he hd)
 |.ret,hs=>by
  intro ι M e a w x e' M' Q r he hd h hq
  simp only[kP,gJ,au,aD]at h
  obtain⟨rfl,rfl,rfl⟩:=h
  exact wp_ret (hq ι a w (Tr.refl r) he hd)
 |.rangeFunc ..,hs=>by
  intro ι M e a w x e' M' Q r he hd h hq
  simp[kP,gJ]at h
 |.scope _,hs=>by
  intro ι M e a w x e' M' Q r he hd h hq
  simp[kP,gJ]at h
 |.label _,hs=>by
  intro ι M e a w x e' M' Q r he hd h hq
  simp[kP,gJ]at h
 |.goto _,hs=>by
  intro ι M e a w x e' M' Q r he hd h hq
  simp[kP,gJ]at h
 |.refuse _,hs=>by
  intro ι M e a w x e' M' Q r he hd h hq
  simp[kP,gJ]at h
def U5(P:Program):ResultVar→Option uX
 |.tmp t=>some (.tmp t)
 |.cell t ty=>match sD P ty,jN P ty with
  | some g,some n=>some (.cell t g n)
  | _,_=>none
def I6(P:Program):List ResultVar→Option (List uX)
 | []=>some []
 | x::l=>match U5 P x,I6 P l with
  | some a,some r=>some (a::r)
  | _,_=>none
def aX(P:Program)(f:FuncId)(h:Hints):Option bF :=
 match P.funcs[f]? with
 | some fn=>match fn.body,I6 P fn.results.toList with
  | some c,some rs=>if fn.name=="runtime.NumGoroutine" then none else some { nargs:=fn.params.size+fn.nfree,ntmps:=fn.ntmps,code:=(kP P c h).1,results:=rs }
  | _,_=>none
 | none=>none
theorem U6 {P:Program} {x:ResultVar} {a:uX} (hc:U5 P x=some a) {ι:cu} {M:Heap} {w:World} (r:R ι M w) {e:Env} {tmps:Array Value} (he:bL ι e tmps.toList) {v:AV} (h:M6 a e M=some v) :
  ∃v',((match x with |.tmp t=>pure (tmps.getD t undef) |.cell a t=>do loadVar t (←asAddr (tmps.getD a undef))):Sem Value).run P w=.ok v' w∧VR ι v v':=by
 have hg:∀t,VR ι (e.getD t .undef) (tmps.getD t undef):=λt=>by
  have:=he.getD t undef
  rw[Array.getD_eq_getD_getElem?]
  rw[List.getD_eq_getElem?_getD (l:=tmps.toList)]at this
  simpa using this
 cases x with
 | tmp t =>
  simp only[U5,au]at hc
  subst hc
  simp only[M6]at h
  split at h
  ·cases h
  ·obtain rfl:=aj h
   exact⟨_,rfl,hg t⟩
 | cell t ty =>
  simp only[U5]at hc
  split at hc
  case h_2=>cases hc
  rename_i g n hga hgn
  obtain rfl:=aj hc
  simp only[M6]at h
  obtain⟨ad,v',h1,h2,h3⟩:=Ec (P:=P) r hga hgn (hg t) h
  refine⟨v', ?_,h3⟩
  simp[h1,asAddr,h2]
theorem Lj {P:Program} {ι:cu} {M:Heap} {w:World} (r:R ι M w) {e:Env} {tmps:Array Value} (he:bL ι e tmps.toList):∀(l:List ResultVar) (al:List uX) (vs:List AV),I6 P l=some al→Fv al e M=some vs →
  ∃vs',((l.mapM λx=>(match x with |.tmp t=>pure (tmps.getD t undef) |.cell a t=>do loadVar t (←asAddr (tmps.getD a undef)):Sem Value)):Sem (List Value)).run P w=.ok vs' w∧bL ι vs vs'
 | [],al,vs,hc,h=>by
  simp only[I6,au]at hc
  subst hc
  simp only[Fv,au]at h
  subst h
  exact⟨[],by simp,by simp[bL]⟩
 | x::l,al,vs,hc,h=>by
  simp only[I6]at hc
  split at hc
  case h_2=>cases hc
  rename_i a al' h1 h2
  obtain rfl:=aj hc
  simp only[Fv]at h
  obtain⟨v,hv,h⟩:=aA.1 h
  obtain⟨vs2,hvs,rfl⟩:=av.1 h
  obtain⟨v',q1,q2⟩:=U6 (P:=P) h1 r he hv
  obtain⟨vs',q3,q4⟩:=Lj r he l al' vs2 h2 hvs
  refine⟨v'::vs', ?_,by simp only[bL];exact⟨q2,q4⟩⟩
  simp only[List.mapM_cons,Sem.run_bind,q1,Result.andThen_ok,q3,Sem.run_pure]
theorem Ll {P:Program} {fn:Func} {al:List uX} (hc:I6 P fn.results.toList=some al) {ι:cu} {M:Heap} {w:World} (r:R ι M w) {e:Env} {tmps:Array Value} (he:bL ι e tmps.toList) {v:AV} (h:sw al e M=some v) :
  ∃v',(results fn tmps).run P w=.ok v' w∧VR ι v v':=by
 unfold sw at h
 obtain⟨vs,hvs,h⟩:=av.1 h
 obtain⟨vs',q1,q2⟩:=Lj (P:=P) r he _ al vs hc hvs
 unfold results
 rw[Sem.run_bind,Array.mapM_eq_mapM_toList,Sem.run_map]
 erw [q1]
 simp only[Result.andThen_ok,Sem.run_pure]
 refine⟨_,rfl, ?_⟩
 subst h
 match vs,vs',q2 with
 | [],[],q2=>simp[VR,bL]
 | [x],[y],q2 =>
  simp only[bL]at q2
  simpa using q2.1
 | x::x2::xs,y::y2::ys,q2 =>
  simp only[VR]
  refine⟨(y::y2::ys).toArray,by simp, ?_⟩
  simpa using q2
 | [],_::_,q2=>simp[bL]at q2
 | _::_,[],q2=>simp[bL]at q2
 | [_],_::_::_,q2=>simp[bL]at q2
 | _::_::_,[_],q2=>simp[bL]at q2
theorem J6{P:Program}{f:FuncId}{h:Hints}{af:bF}(hc:aX P f h=some af):Dk P f:=by
 unfold aX at hc
 split at hc
 case h_2=>cases hc
 rename_i fn hfn
 split at hc
 case h_2=>cases hc
 rename_i c rs hb _
 split at hc
 ·cases hc
 ·rename_i hn
  exact⟨fn,c,hfn,hb,by simpa using hn⟩
theorem FK{P:Program}{C:aW}(hC:nE P C)(K:Nat){f:FuncId}{hs:Hints}{af:bF}(hc:aX P f hs=some af):Sound P f (abody C K af):=by
 intro args M v M' h ι w vs r hv
 unfold aX at hc
 split at hc
 case h_2=>cases hc
 rename_i fn hfn
 split at hc
 case h_2=>cases hc
 rename_i c rs hb hrs
 split at hc
 ·cases hc
 obtain rfl:=aj hc
 unfold abody at h
 simp only at h
 split at h
 case isFalse=>cases h
 rename_i hlen
 have hsz:vs.size=fn.params.size+fn.nfree:=by
  have:=hv.length
  simp at this
  omega
 refine calls_of_wp hfn hb ?_
 have he:bL ι (args++List.replicate (fn.ntmps-(fn.params.size+fn.nfree)) (.tuple [])) ({ tmps:=vs++Array.replicate (fn.ntmps-vs.size) undef,defers:=[] }:Act).tmps.toList:=by
  simp only[Array.toList_append,Array.toList_replicate]
  refine hv.append ?_
  rw[hsz]
  refine bL.nD (by simp) λi a b ha hb=>?_
  simp only[List.getElem?_replicate]at ha hb
  split at ha
  case isFalse=>cases ha
  rename_i hi
  rw[if_pos hi]at hb
  obtain rfl:=aj ha
  obtain rfl:=aj hb
  exact VR.unit ι
 have fin:∀(x:Ex) (e':Env) (M1:Heap),(x=.normal∨x=.ret)→gJ C K (kP P c hs).1 (args++List.replicate (fn.ntmps-(fn.params.size+fn.nfree)) (.tuple [])) M=some (x,e',M1)→(sw rs e' M1).map (λv=>(v,M1))=some (v,M') →
   c.wp P (bodyPost P fn λe w'=>∃aV v',e=.returned v'∧VR aV v v'∧Tr ι M w aV M' w') { tmps:=vs++Array.replicate (fn.ntmps-vs.size) undef,defers:=[] } w:=by
  intro x e' M1 hx hex hres
  obtain⟨u,hu,hres⟩:=av.1 hres
  simp only[aD]at hres
  obtain⟨rfl,rfl⟩:=hres
  refine jQ hC K c hs ι M _ _ w x e' M1 _ r he rfl hex λaV a' w' ht hv' hd=>?_
  obtain⟨v',q1,q2⟩:=Ll (P:=P) hrs ht.rel hv' hu
  have:a'.defers=[]∧∃v0,(results fn a'.tmps).run P w'=.ok v0 w'∧(∃aV v',Ending.returned v0=.returned v'∧VR aV u v'∧Tr ι M w aV M1 w'):=⟨hd,v',q1,aV,v',rfl,q2,ht⟩
  rcases hx with rfl | rfl<;>exact this
 split at h
 ·rename_i e' M1 hex
  exact fin .normal e' M1 (.inl rfl) hex h
 ·rename_i e' M1 hex
  exact fin .ret e' M1 (.inr rfl) hex h
 ·cases h
theorem El{P:Program}{G:FuncId→Option (List AV→Heap→Option (AV×Heap))}{T:FuncId→Option bF}(hG:∀f g,G f=some g→(Dk P f∧Sound P f g)∨K5 P f g)(hT:∀f af,T f=some af→∃h,aX P f h=some af)(K:Nat):∀d,nE P (xB G T K d)
 | 0=>λf=>.inl ⟨λargs M r h=>by simp[xB]at h,λargs M v M' h=>by simp[xB]at h⟩
 | d+1=>λf=>by
  have ih:=El hG hT K d
  cases hg:G f with
  | some g =>
   have e:xB G T K (d+1) f=g:=by funext a M;simp only[xB,hg]
   rw[e]
   rcases hG f g hg with⟨q1,q2⟩ | q
   ·exact .inl ⟨λ_ _ _ _=>q1,q2⟩
   ·exact .inr q
  | none =>
   left
   constructor
   ·intro args M r h
    simp only[xB,hg]at h
    split at h
    ·rename_i af Yl
     obtain⟨hs,hc⟩:=hT f af Yl
     exact J6 hc
    ·cases h
   ·intro args M v M' h
    simp only[xB,hg]at h
    split at h
    ·rename_i af Yl
     obtain⟨hs,hc⟩:=hT f af Yl
     exact FK ih K hc args M v M' h
    ·cases h
open Go.ChangeShapes Go.WideShapes Go.ChangeAt Go.RowKit
theorem Ab {H:Type} {enc:TypeId×Value→H} {P:Program} (hl:laidOutB P=true) {W W':World} (Ym:Below W.heap.size W W') :
  ∀(ts:List TypeId) (vs:List Value) (ds:List (DataW H)) (p:List MemPlace),(ts.all λt=>P.readableRec t&&decide (t<P.types.size))=true →
   DataW.TrodAll enc P W 0 (λ_=>true) true ts vs ds p→DataW.TrodAll enc P W' 0 (λb=>decide (b<W.heap.size)) true ts vs ds p
 | [],[],[],p,_,h=>by simpa[DataW.TrodAll]using h
 | t::ts,v::vs,d::ds,p,ht,h=>by
  simp only[List.all_cons,Bool.and_eq_true,decide_eq_true_eq]at ht
  simp only[DataW.TrodAll]at h ⊢
  obtain⟨p1,p2,h1,h2,rfl⟩:=h
  refine⟨p1,p2, ?_,Ab hl Ym ts vs ds p2 (by simpa using ht.2) h2,rfl⟩
  refine Below.trod hl ht.1.1 ht.1.2 h1 Ym ?_
  obtain⟨n,hn⟩:=h1
  exact DataW.trod_lt n t _ _ hn
 | [],_::_,_,_,_,h=>by simp[DataW.TrodAll]at h
 | [],[],_::_,_,_,h=>by simp[DataW.TrodAll]at h
 | _::_,[],_,_,_,h=>by simp[DataW.TrodAll]at h
 | _::_,_::_,[],_,_,h=>by simp[DataW.TrodAll]at h
theorem RY {H:Type} {enc:TypeId×Value→H} {P:Program} {f:Func} {s:ChangeSpec} {W W':World} {args:Array Value} {ds gs:List (DataW H)} {before:List MemPlace} {rt:TypeId}
  (hl:laidOutB P=true) (hps:(f.params.toList.all λt=>P.readableRec t&&decide (t<P.types.size))=true) (hvars:s.vars=[]) (hres:f.resultTypes=#[rt]) (hrt:P.underlying rt=some .bool)
  (hfn:s.fn H ds={ results:=[.lit (.bool true)],args:=ds })
  (hW:DataW.Whole enc P f.params.toList s.vars false W args.toList ds gs before) (Ym:Below W.heap.size W W') :
  s.post enc P f false true false false W args (.bool true) W':=by
 have hW':=hW
 obtain⟨p,q,hA,hV,rfl,hfz,hnd⟩:=hW
 rw[hvars]at hV
 have hgs:gs=[]:=by
  cases gs with
  | nil=>rfl
  | cons _ _=>simp[DataW.TrodVars]at hV
 subst hgs
 unfold ChangeSpec.post
 refine⟨ds,[],_,[],p,[],hW', ?_, ?_, ?_,Ym.frame _,λh=>by cases h⟩
 ·rw[List.append_nil,hfn,hres]
  exact trodAll_mk1 (shut_bool hrt _)
 ·rw[List.append_nil,hfn]
  exact Ab hl Ym _ _ _ _ hps hA
 ·rw[List.append_nil,hfn,hvars]
  simp[DataW.TrodVars]
theorem Lm{ι aV:cu}{M M':Heap}{w w':World}(ht:Tr ι M w aV M' w')(hro:∀b x,M.get b=some x→x.own=false):Below w.heap.size w w' :=
 ⟨ht.os,ht.tape,ht.output,ht.size,λk hk=>ht.keep k hk λb x l h1 h2=>by rw[hro b x h1]at h2;cases h2⟩
theorem R.empty(w:World):R (λ_=>none) Heap.empty w:=⟨λb x h=>by simp[Heap.empty]at h,λb b' x x' l l' h=>by simp[Heap.empty]at h,λb _=>⟨rfl,rfl⟩⟩
open Go.ChangeShapes Go.WideShapes Go.ChangeAt Go.RowKit
inductive D where
 | bool (b:Bool)
 | int (k:IntKind) (n:Int)
 | str (s:List UInt8)
 | list (l:List D)
 | agg (l:List D)
 | other
mutual
def sI{H:Type}:DataW H→D
 |.lit (.bool b)=>.bool b
 |.lit (.int k n)=>.int k n
 |.lit (.string s)=>.str s
 |.nil=>.list []
 |.slice es _=>.list (Dp es)
 |.agg es=>.agg (Dp es)
 | _=>.other
def Dp{H:Type}:List (DataW H)→List D
 | []=>[]
 | d::r=>sI d::Dp r
end
theorem wo{H:Type}:∀l:List (DataW H),Dp l=l.map sI
 | []=>rfl
 | d::r=>by simp[Dp,wo r]
mutual
def Rd(M:Heap):D→List AV→Prop
 |.bool b,cs=>cs=[.bool b]
 |.int k n,cs=>cs=[.int k n]
 |.str s,cs=>cs=[.str s]
 | .list l,cs=>(l=[]∧∃sz,cs=[.slice none sz 0 0 true]) ∨
   ∃b o sz cap,0<sz∧l.length≤cap∧cs=[.slice (some (b,o)) sz l.length cap true]∧(l≠[]→∃pieces,M.read b o (l.length*sz)=some pieces.flatten∧(∀p∈pieces,p.length=sz)∧Parts M l pieces)
 |.agg l,cs=>∃pieces,cs=pieces.flatten∧Parts M l pieces
 |.other,_=>False
def Parts(M:Heap):List D→List (List AV)→Prop
 | [],[]=>True
 | d::r,p::s=>Rd M d p∧Parts M r s
 | _,_=>False
end
mutual
theorem Rd.mono{M M':Heap}(h:M.Sub M'):∀(d:D) (cs:List AV),Rd M d cs→Rd M' d cs
 |.bool b,cs,e=>by simpa[Rd]using e
 |.int k n,cs,e=>by simpa[Rd]using e
 |.str s,cs,e=>by simpa[Rd]using e
 |.list l,cs,e=>by
  simp only[Rd]at e ⊢
  rcases e with e |⟨b,o,sz,cap,h1,h2,h3,h4⟩
  ·exact .inl e
  ·refine .inr ⟨b,o,sz,cap,h1,h2,h3,λhl=>?_⟩
   obtain⟨pieces,g1,g2,g3⟩:=h4 hl
   exact⟨pieces,FH h g1,g2,Parts.mono h _ _ g3⟩
 |.agg l,cs,e=>by
  simp only[Rd]at e ⊢
  obtain⟨pieces,g1,g3⟩:=e
  exact⟨pieces,g1,Parts.mono h _ _ g3⟩
 |.other,cs,e=>by simp[Rd]at e
theorem Parts.mono{M M':Heap}(h:M.Sub M'):∀(l:List D) (ps:List (List AV)),Parts M l ps→Parts M' l ps
 | [],[],_=>by simp[Parts]
 | d::r,p::s,e=>by
  simp only[Parts]at e ⊢
  exact⟨Rd.mono h _ _ e.1,Parts.mono h _ _ e.2⟩
 | [],_::_,e=>by simp[Parts]at e
 | _::_,[],e=>by simp[Parts]at e
end
inductive Sh where
 | bool
 | int (k:IntKind)
 | str
 | list (e:Sh)
 | agg (l:List Sh)
mutual
def D.is:Sh→D→Prop
 |.bool,d=>∃b,d=.bool b
 |.int k,d=>∃n,d=.int k n∧k.min≤n∧n≤k.max
 |.str,d=>∃s,d=.str s
 |.list e,d=>∃l,d=.list l∧∀x∈l,D.is e x
 |.agg ss,d=>∃l,d=.agg l∧D.are ss l
def D.are:List Sh→List D→Prop
 | [],[]=>True
 | s::ss,d::l=>D.is s d∧D.are ss l
 | _,_=>False
end
def HZ{α β:Type}(f:α→Option β):List α→Option (List β)
 | []=>some []
 | x::l=>match f x,HZ f l with
  | some a,some r=>some (a::r)
  | _,_=>none
def AL(P:Program):Nat→TypeId→Option Sh
 | 0,_=>none
 | k+1,t=>match P.underlying t with
  | some .bool=>some .bool
  | some (.int i)=>some (.int i)
  | some .string=>some .str
  | some (.slice e)=>if P.cellsOf e=0 then none else (AL P k e).map .list
  | some (.struct fs)=>(HZ (AL P k) (fs.toList.map λf=>f.type)).map .agg
  | some (.array n e)=>(AL P k e).map λs=>.agg (List.replicate n s)
  | _=>none
def FL(P:Program)(k:Nat)(l:List TypeId):Option (List Sh):=HZ (AL P k) l
def l5(M:Heap):Prop:=∀b x,M.get b=some x→x.own=false
structure Grow(ι:cu)(M:Heap)(aV:cu)(M':Heap)(W:World):Prop where
 le:ι.Le aV
 sub:M.Sub M'
 next:M.next≤M'.next
 rel:R aV M' W
 ro:l5 M'
theorem Heap.Sub.refl(M:Heap):M.Sub M:=λ_ _ h=>h
theorem Heap.Sub.trans{A B C:Heap}(h:A.Sub B)(k:B.Sub C):A.Sub C:=λ_ _ e=>k _ _ (h _ _ e)
theorem Grow.refl{ι:cu}{M:Heap}{W:World}(r:R ι M W)(ro:l5 M):Grow ι M ι M W:=⟨.refl _,.refl _,Nat.le_refl _,r,ro⟩
theorem Grow.trans{ι iC oV:cu}{M M1 M2:Heap}{W:World}(h:Grow ι M iC M1 W)(k:Grow iC M1 oV M2 W):Grow ι M oV M2 W :=
 ⟨h.le.trans k.le,h.sub.trans k.sub,Nat.le_trans h.next k.next,k.rel,k.ro⟩
theorem Grow.see {ι:cu} {M:Heap} {W:World} (r:R ι M W) (ro:l5 M) {c:List AV} {l:Loc} {o:Obj} (ho:W.heap[l.j]?=some o) (hb:BR ι (.cells c true true) l o) :
  Grow ι M (ι.set M.next l) (M.push (.cells c true true)) W:=by
 have hnone:=(r.fresh M.next (Nat.le_refl _)).2
 have hle:=cu.vY hnone l
 refine⟨hle,λb x h=>?_,Nat.le_succ _,⟨λb x h=>?_,λb b' x x' l1 l2 h1 h2 h3 h4 h5 h6=>?_,λb hb'=>?_⟩,λb x h=>?_⟩
 ·have:b≠M.next:=λe=>by rw[e,(r.fresh _ (Nat.le_refl _)).1]at h;cases h
  simp[Heap.push,this,h]
 ·simp only[Heap.push]at h
  split at h
  ·rename_i e
   obtain rfl:=aj h
   subst e
   exact⟨l,o,by simp[cu.set],ho,hb.mono hle⟩
  ·obtain⟨l1,o1,g1,g2,g3⟩:=r.blk b x h
   exact⟨l1,o1,hle _ _ g1,g2,g3.mono hle⟩
 ·exfalso
  have one:∀b x,(M.push (.cells c true true)).get b=some x→x.own=false:=λb x h=>by
   simp only[Heap.push]at h
   split at h
   ·obtain rfl:=aj h
    rfl
   ·exact ro b x h
  rcases h6 with h6 | h6
  ·rw[one b x h1]at h6;cases h6
  ·rw[one b' x' h2]at h6;cases h6
 ·simp only[Heap.push]at hb' ⊢
  have:b≠M.next:=by omega
  simp only[cu.set,this,if_false]
  exact r.fresh b (by omega)
 ·simp only[Heap.push]at h
  split at h
  ·obtain rfl:=aj h
   rfl
  ·exact ro b x h
theorem Grow.skip {ι:cu} {M:Heap} {W:World} (r:R ι M W) (ro:l5 M) (l:Loc) :
  Grow ι M (ι.set M.next l) { M with next:=M.next+1 } W:=by
 have hnone:=(r.fresh M.next (Nat.le_refl _)).2
 have hle:=cu.vY hnone l
 refine⟨hle,λb x h=>h,Nat.le_succ _,⟨λb x h=>?_,λb b' x x' l1 l2 h1 h2 h3 h4 h5 h6=>?_,λb hb'=>?_⟩,ro⟩
 ·obtain⟨l1,o1,g1,g2,g3⟩:=r.blk b x h
  exact⟨l1,o1,hle _ _ g1,g2,g3.mono hle⟩
 ·exfalso
  rcases h6 with h6 | h6
  ·rw[ro b x h1]at h6;cases h6
  ·rw[ro b' x' h2]at h6;cases h6
 ·have:b≠M.next:=by simp only at hb';omega
  simp only[cu.set,this,if_false]
  exact r.fresh b (by simp only at hb';omega)
def Opens(W:World)(s:Sh)(cs:List Value)(d:D):Prop :=
 ∀ι M,R ι M W→l5 M→∃aV M' Nj,Grow ι M aV M' W∧bL aV Nj cs∧(∀a∈Nj,a.bU=true)∧Rd M' d Nj∧D.is s d
def iU(W:World):List Sh→List (List Value)→List D→Prop
 | [],[],[]=>True
 | s::ss,c::cs,d::ds=>Opens W s c d∧iU W ss cs ds
 | _,_,_=>False
theorem iU.open {W:World}:∀ {ss:List Sh} {css:List (List Value)} {ds:List D},iU W ss css ds→∀ι M,R ι M W→l5 M →
  ∃aV M' pieces,Grow ι M aV M' W∧pieces.map List.length=css.map List.length∧bL aV pieces.flatten css.flatten∧(∀p∈pieces,∀a∈p,a.bU=true)∧Parts M' ds pieces∧D.are ss ds
 | [],[],[],_,ι,M,r,ro=>⟨ι,M,[],.refl r ro,rfl,by simp[bL],by simp,by simp[Parts],by simp[D.are]⟩
 | s::ss,c::css,d::ds,h,ι,M,r,ro=>by
  simp only[iU]at h
  obtain⟨iC,M1,Nj,g1,v1,c1,r1,i1⟩:=h.1 ι M r ro
  obtain⟨oV,M2,ps,g2,l2,v2,c2,r2,i2⟩:=iU.open h.2 iC M1 g1.rel g1.ro
  refine⟨oV,M2,Nj::ps,g1.trans g2, ?_, ?_, ?_, ?_, ?_⟩
  ·have:=v1.length
   simp[l2,this]
  ·simp only[List.flatten_cons]
   exact(v1.mono g2.le).append v2
  ·intro p hp
   rcases List.mem_cons.1 hp with rfl | hp
   ·exact c1
   ·exact c2 p hp
  ·simp only[Parts]
   exact⟨Rd.mono g2.sub _ _ r1,r2⟩
  ·simp only[D.are]
   exact⟨i1,i2⟩
 | [],[],_::_,h,_,_,_,_=>by simp[iU]at h
 | [],_::_,_,h,_,_,_,_=>by simp[iU]at h
 | _::_,[],_,h,_,_,_,_=>by simp[iU]at h
 | _::_,_::_,[],h,_,_,_,_=>by simp[iU]at h
theorem D.Ac{s:Sh}:∀ {n:Nat} {l:List D},D.are (List.replicate n s) l→l.length=n∧∀x∈l,D.is s x
 | 0,[],_=>by simp
 | 0,_::_,h=>by simp[D.are]at h
 | n+1,[],h=>by simp[List.replicate_succ,D.are]at h
 | n+1,d::l,h=>by
  simp only[List.replicate_succ,D.are]at h
  obtain⟨h1,h2⟩:=D.Ac h.2
  refine⟨by simp[h1],λx hx=>?_⟩
  rcases List.mem_cons.1 hx with rfl | hx
  ·exact h.1
  ·exact h2 x hx
open Go.ChangeShapes Go.WideShapes Go.ChangeAt Go.RowKit
def chunks{α:Type}:List Nat→List α→List (List α)
 | [],_=>[]
 | n::ns,l=>l.take n::chunks ns (l.drop n)
theorem pJ{α:Type}:∀(ns:List Nat) (l:List α),(chunks ns l).length=ns.length
 | [],_=>rfl
 | n::ns,l=>by simp[chunks,pJ ns]
theorem chunks_flatten{α:Type}:∀(ns:List Nat) (l:List α),(chunks ns l).flatten=l.take ns.sum
 | [],l=>by simp[chunks]
 | n::ns,l=>by
  rw[chunks,List.flatten_cons,chunks_flatten ns,List.sum_cons,List.take_add]
theorem wu{α:Type}:∀(ns:List Nat) (l:List α) (j n:Nat),ns[j]?=some n→(chunks ns l)[j]?=some ((l.drop (ns.take j).sum).take n)
 | [],_,_,_,h=>by simp at h
 | m::ns,l,0,n,h=>by
  simp at h
  subst h
  simp[chunks]
 | m::ns,l,j+1,n,h=>by
  simp only[List.getElem?_cons_succ]at h
  simp only[chunks,List.getElem?_cons_succ]
  rw[wu ns _ j n h]
  simp[List.drop_drop]
theorem iU.nD {W:World}:∀ {ss:List Sh} {css:List (List Value)} {ds:List D},ss.length=ds.length→css.length=ds.length →
  (∀(i:Nat) s c d,ss[i]?=some s→css[i]?=some c→ds[i]?=some d→Opens W s c d)→iU W ss css ds
 | [],[],[],_,_,_=>by simp[iU]
 | s::ss,c::css,d::ds,h1,h2,h=>by
  simp only[iU]
  exact⟨h 0 s c d (by simp) (by simp) (by simp),iU.nD (by simpa using h1) (by simpa using h2) λi s c d a1 a2 a3=>h (i+1) s c d (by simpa using a1) (by simpa using a2) (by simpa using a3)⟩
 | [],_,_::_,h1,_,_=>by simp at h1
 | _::_,_,[],h1,_,_=>by simp at h1
 | _,[],_::_,_,h2,_=>by simp at h2
 | _,_::_,[],_,h2,_=>by simp at h2
theorem I7{P:Program}{k:Nat}:∀ {ts:List TypeId} {ss:List Sh},FL P k ts=some ss→ss.length=ts.length∧∀(i:Nat) t,ts[i]?=some t→∃s,ss[i]?=some s∧AL P k t=some s
 | [],ss,h=>by
  simp[FL,HZ]at h
  subst h
  simp
 | t::ts,ss,h=>by
  simp only[FL,HZ]at h
  split at h
  case h_2=>cases h
  rename_i s r h1 h2
  obtain rfl:=aj h
  obtain⟨e1,e2⟩:=I7 h2
  refine⟨by simp[e1],λi u hu=>?_⟩
  cases i with
  | zero =>
   simp at hu
   subst hu
   exact⟨s,by simp,h1⟩
  | succ i=>simpa using e2 i u (by simpa using hu)
theorem P_{W:World}{a:Addr}{v:Value}(h:W.cell? a=some v):∃c e fz,W.heap[a.block]?=some (.cells c e fz)∧a.spot=none∧c[a.off]?=some v:=by
 unfold World.cell? at h
 split at h
 ·rename_i c e fz hc
  split at h
  ·cases h
  ·rename_i hs
   refine⟨c,e,fz,hc, ?_,h⟩
   cases hsp:a.spot with
   | none=>rfl
   | some _=>simp[hsp]at hs
 ·cases h
open Go.ChangeShapes Go.WideShapes Go.ChangeAt Go.RowKit
def O7(M:Heap)(a:AV):D→Prop
 |.agg l=>∃cs,a=.agg cs∧Rd M (.agg l) cs
 | d=>Rd M d [a]
theorem O7.mono{M M':Heap}(h:M.Sub M'){a:AV}{d:D}(r:O7 M a d):O7 M' a d:=by
 cases d with
 | agg l =>
  obtain⟨cs,h1,h2⟩:=r
  exact⟨cs,h1,h2.mono h⟩
 | _=>exact Rd.mono h _ _ r
def Args(M:Heap):List AV→List D→Prop
 | [],[]=>True
 | a::as,d::ds=>O7 M a d∧Args M as ds
 | _,_=>False
theorem Args.mono{M M':Heap}(h:M.Sub M'):∀ {as:List AV} {ds:List D},Args M as ds→Args M' as ds
 | [],[],_=>by simp[Args]
 | _::_,_::_,e=>by
  simp only[Args]at e ⊢
  exact⟨e.1.mono h,e.2.mono h⟩
 | [],_::_,e=>by simp[Args]at e
 | _::_,[],e=>by simp[Args]at e
mutual
def D.bulk:D→Nat
 |.str s=>s.length+1
 |.list l=>D.qW l+1
 |.agg l=>D.qW l+1
 |.other=>0
 | _=>1
def D.qW:List D→Nat
 | []=>0
 | d::r=>D.bulk d+D.qW r
end
def Heap.Wf(M:Heap):Prop:=∀b,M.next≤b→M.get b=none
abbrev Fast:=List (Nat×AV)
def look:Fast→Nat→AV
 | [],_=>.undef
 | p::r,t=>match Nat.beq p.1 t with
  | true=>p.2
  | false=>look r t
def AX.sub(ρ:Nat→AV):AX→AX
 |.t n=>.c (ρ n)
 |.c v=>.c v
def AX.fq(ρ:Nat→AV)(x:Option AX):Option AX:=x.map (AX.sub ρ)
def iJ.sub(ρ:Nat→AV):iJ→iJ
 |.move x=>.move (x.sub ρ)
 |.pick c a b=>.pick (c.sub ρ) (a.sub ρ) (b.sub ρ)
 |.build z ps=>.build z (ps.map λp=>(p.1,p.2.1,p.2.2.sub ρ))
 |.nilCheck x=>.nilCheck (x.sub ρ)
 |.bin op x y=>.bin op (x.sub ρ) (y.sub ρ)
 |.Rl n x y=>.Rl n (x.sub ρ) (y.sub ρ)
 |.Rm n ks x y=>.Rm n ks (x.sub ρ) (y.sub ρ)
 |.Rn n x y=>.Rn n (x.sub ρ) (y.sub ρ)
 |.PU n x y=>.PU n (x.sub ρ) (y.sub ρ)
 |.un op x=>.un op (x.sub ρ)
 |.xw k x=>.xw k (x.sub ρ)
 |.yh x=>.yh (x.sub ρ)
 |.qy f cs=>.qy f (cs.map (AX.sub ρ))
 |.jW x a b=>.jW (x.sub ρ) (AX.fq ρ a) (AX.fq ρ b)
 |.slice s x a b c=>.slice s (x.sub ρ) (AX.fq ρ a) (AX.fq ρ b) (AX.fq ρ c)
 |.fieldAddr o x=>.fieldAddr o (x.sub ρ)
 |.field g o n x=>.field g o n (x.sub ρ)
 |.oU n s x i=>.oU n s (x.sub ρ) (i.sub ρ)
 |.iy s x i=>.iy s (x.sub ρ) (i.sub ρ)
 |.index g n s x i=>.index g n s (x.sub ρ) (i.sub ρ)
 |.jm x i=>.jm (x.sub ρ) (i.sub ρ)
 |.extract x i=>.extract (x.sub ρ) i
 |.len s x=>.len s (x.sub ρ)
 |.cap x=>.cap (x.sub ρ)
 |.nA m xs=>.nA m (xs.map (AX.sub ρ))
def ny.sub(ρ:Nat→AV):ny→ny
 |.load g n x=>.load g n (x.sub ρ)
 |.gH x=>.gH (x.sub ρ)
 |.mJ x=>.mJ (x.sub ρ)
 |.lookup kd ok z x k=>.lookup kd ok z (x.sub ρ) (k.sub ρ)
def xA.sub(ρ:Nat→AV):xA→xA
 |.alloc z=>.alloc z
 |.box x=>.box (x.sub ρ)
 |.buildSlice s l z ps=>.buildSlice s l z (ps.map λp=>(p.1,p.2.sub ρ))
 |.makeSlice s b z l c=>.makeSlice s b z (l.sub ρ) (c.sub ρ)
 |.jo x=>.jo (x.sub ρ)
 |.makeMap=>.makeMap
def tL.sub(ρ:Nat→AV):tL→tL
 |.store n a v=>.store n (a.sub ρ) (v.sub ρ)
 |.call f xs=>.call (f.sub ρ) (xs.map (AX.sub ρ))
 |.append s b x y=>.append s b (x.sub ρ) (y.sub ρ)
 |.nC s b z x y=>.nC s b z (x.sub ρ) (y.sub ρ)
 |.copy s x y=>.copy s (x.sub ρ) (y.sub ρ)
 |.clear s z x=>.clear s z (x.sub ρ)
 |.mapUpdate kd m k v=>.mapUpdate kd (m.sub ρ) (k.sub ρ) (v.sub ρ)
 |.iO kd m k=>.iO kd (m.sub ρ) (k.sub ρ)
 |.mD x=>.mD (x.sub ρ)
 |.fail=>.fail
def qz.sub(ρ:Nat→AV):qz→qz
 |.p o=>.p (o.sub ρ)
 |.l o=>.l (o.sub ρ)
 |.k o=>.k (o.sub ρ)
 |.n o=>.n (o.sub ρ)
section
variable {ρ:Nat→AV} {e:Env} (h:∀t,ρ t=e.getD t .undef)
include h
theorem qB(x:AX):(x.sub ρ).ev []=x.ev e:=by
 cases x with
 | t n=>exact h n
 | c v=>rfl
theorem J7(l:List AX):(l.map (AX.sub ρ)).map (AX.ev [])=l.map (AX.ev e):=by
 rw[List.map_map]
 exact List.map_congr_left λx _=>qB h x
theorem FM(x:Option AX)(a b:Nat):bA [] (AX.fq ρ x) a b=bA e x a b:=by
 cases x with
 | none=>rfl
 | some x=>simp only[AX.fq,aG,bA,qB h]
theorem RZ(o:iJ):aP (o.sub ρ) []=aP o e:=by
 cases o with
 | build z ps =>
  simp only[iJ.sub,aP,List.map_map]
  congr 2
  exact List.map_congr_left λp _=>by simp only[Function.comp,qB h]
 | qy f cs=>simp only[iJ.sub,aP,J7 h]
 | nA m xs=>simp only[iJ.sub,aP,J7 h]
 | jW x a b=>simp only[iJ.sub,aP,qB h,uY,FM h]
 | slice s x a b c =>
  simp only[iJ.sub,aP,qB h]
  split
  ·simp only[iB,FM h]
   cases c with
   | none=>rfl
   | some c=>cases b with
    | none=>rfl
    | some b=>rfl
  ·rfl
 | _=>simp only[iJ.sub,aP,qB h]
theorem O8(o:ny)(M:Heap):aL (o.sub ρ) [] M=aL o e M:=by
 cases o<;>simp only[ny.sub,aL,qB h]
theorem R3(o:xA):aK (o.sub ρ) []=aK o e:=by
 cases o with
 | buildSlice s l z ps =>
  simp only[xA.sub,aK,List.map_map]
  congr 2
  exact List.map_congr_left λp _=>by simp only[Function.comp,qB h]
 | _=>simp only[xA.sub,aK,qB h]
theorem R4(C:aW)(o:tL)(M:Heap):aN C (o.sub ρ) [] M=aN C o e M:=by
 cases o with
 | call f xs=>simp only[tL.sub,aN,qB h,J7 h]
 | _=>simp only[tL.sub,aN,qB h]
theorem U7(C:aW)(o:qz)(M:Heap):Da C (o.sub ρ) [] M=Da C o e M:=by
 cases o with
 | p o=>simp only[qz.sub,Da,RZ h]
 | l o=>simp only[qz.sub,Da,O8 h]
 | k o=>simp only[qz.sub,Da,R3 h]
 | n o=>simp only[qz.sub,Da,R4 h]
end
def aW.Le(C C':aW):Prop:=∀f a M r,C f a M=some r→C' f a M=some r
theorem XD{C C':aW}(h:C.Le C'){o:tL}{e:Env}{M:Heap}{r:AV×Heap}(hr:aN C o e M=some r):aN C' o e M=some r:=by
 cases o with
 | call f xs =>
  simp only[aN,OQ]at hr ⊢
  split at hr
  ·exact h _ _ _ _ hr
  ·cases hr
 | _=>exact hr
theorem Yn{C C':aW}(h:C.Le C'){o:qz}{e:Env}{M:Heap}{r:AV×Heap}(hr:Da C o e M=some r):Da C' o e M=some r:=by
 cases o with
 | n o=>exact XD h hr
 | _=>exact hr
def AV.force{β:Type}(v:AV)(k:AV→β):β :=
 match v with
 |.int kd (.ofNat m)=>match m with
  | 0=>k (.int kd (.ofNat 0))
  | m+1=>k (.int kd (.ofNat (m+1)))
 |.bool true=>k (.bool true)
 |.bool false=>k (.bool false)
 | v=>k v
theorem force_eq{β:Type}(v:AV)(k:AV→β):v.force k=k v:=by
 unfold AV.force
 split
 ·split<;>rfl
 ·rfl
 ·rfl
 ·rfl
def iD(n:Nat)(d:Option Nat)(v:AV)(l:Fast):Fast :=
 match d with
 | some d=>match Nat.blt d n with
  | true=>(d,v)::l
  | false=>l
 | none=>l
def f_(g:Option (Nat×Bool))(l:Fast):Option Bool :=
 match g with
 | none=>some true
 | some (t,want)=>match look l t with
  |.bool b=>some (b==want)
  |.tuple _=>some false
  | _=>none
def BA(C:aW)(n:Nat):List qV→Fast→Heap→Option (Fast×Heap)
 | [],l,M=>some (l,M)
 | o::r,l,M=>match f_ o.guard l with
  | some true=>match Da C (o.op.sub (look l)) [] M with
   | some p=>p.1.force λv=>BA C n r (iD n o.dst v l) p.2
   | none=>none
  | some false=>BA C n r (iD n o.dst (.tuple []) l) M
  | none=>none
def u_(C:aW)(n base nk:Nat):List bQ→Fast→Heap→List Heap→Option (Fast×Heap)
 | [],l,M,_=>some (l,M)
 | d::r,l,M,hist=>match f_ d.o.guard l with
  | some true=>match d.o.op with
   |.p o=>match aP (o.sub (look l)) []with
    | some v=>v.force λv=>u_ C n base nk r (iD n d.o.dst v l) M hist
    | none=>none
   |.l o=>match aL (o.sub (look l)) [] (M.hide base nk)with
    | some v=>if (hist.drop d.lo).all (λH=>match aL (o.sub (look l)) [] (H.hide base nk)with | some u=>AV.same u v | none=>false)then v.force λv=>u_ C n base nk r (iD n d.o.dst v l) M hist else none
    | none=>none
   |.k o=>match aK (o.sub (look l)) []with
    | some p=>u_ C n base nk r (iD n d.o.dst (p.2.val (base+d.ix)) l) (M.put (base+d.ix) (some p.1)) hist
    | none=>none
   |.n o=>match aN C (o.sub (look l)) [] M with
    | some p=>p.1.force λv=>u_ C n base nk r (iD n d.o.dst v l) p.2 (hist++[M])
    | none=>none
  | some false=>u_ C n base nk r (iD n d.o.dst (.tuple []) l) M (match d.o.op with |.n _=>hist++[M] | _=>hist)
  | none=>none
def uo(l:Fast):List Nat→Fast
 | []=>[]
 | t::r=>(t,look l t)::uo l r
abbrev EI:=Option (Ex×Fast×Heap)
def fF(body:Fast→Heap→EI)(keep:List Nat):Nat→Fast→Heap→EI
 | 0,_,_=>none
 | k+1,l,M=>match body (uo l keep) M with
  | some (.normal,l',M')=>fF body keep k l' M'
  | r=>r
def bf(C:aW)(K n:Nat):bK→Fast→Heap→EI
 |.skip,l,M=>some (.normal,l,M)
 |.reg ops,l,M=>(BA C n ops l M).map λp=>(.normal,p)
 |.JR nk ops,l,M=>(u_ C n M.next nk ops l { M with next:=M.next+nk } []).map λp=>(.normal,p)
 |.seq a b,l,M=>match bf C K n a l M with
  | some (.normal,l',M')=>bf C K n b l' M'
  | r=>r
 |.cond c a b,l,M=>match (c.sub (look l)).ev []with
  |.bool true=>bf C K n a l M
  |.bool false=>bf C K n b l M
  | _=>none
 |.block id c,l,M=>match bf C K n c l M with
  | some (.exit i,l',M')=>if i=id then some (.normal,l',M')else some (.exit i,l',M')
  | r=>r
 |.loop keep c,l,M=>fF (bf C K n c) keep K l M
 |.exit id,l,M=>some (.exit id,l,M)
 |.ret,l,M=>some (.ret,l,M)
 |.fail,_,_=>none
def Dq(r:uX)(l:Fast)(M:Heap):Option AV :=
 match r with
 |.tmp t=>match look l t with
  |.undef=>none
  | v=>some v
 |.cell t agg n=>tY agg n (look l t) M
def xC:List uX→Fast→Heap→Option (List AV)
 | [],_,_=>some []
 | r::rs,l,M=>(Dq r l M).bind λv=>(xC rs l M).map (v::·)
def jr(rs:List uX)(l:Fast)(M:Heap):Option AV :=
 (xC rs l M).map λvs=>match vs with
  | [v]=>v
  | vs=>.tuple vs
def start:Nat→List AV→Fast
 | _,[]=>[]
 | i,v::r=>(i,v)::start (i+1) r
def bbody(C:aW)(K:Nat)(f:bF)(args:List AV)(M:Heap):Option (AV×Heap) :=
 if args.length=f.nargs∧f.nargs≤f.ntmps then
  match bf C K f.ntmps f.code (start 0 (args++List.replicate (f.ntmps-f.nargs) (.tuple []))) M with
  | some (.normal,l,M')=>(jr f.results l M').map λv=>(v,M')
  | some (.ret,l,M')=>(jr f.results l M').map λv=>(v,M')
  | _=>none
 else none
abbrev Lr:=FuncId→Option (List AV→Heap→Option (AV×Heap))
def oK(G:Lr)(T:FuncId→Option bF)(K:Nat):Nat→aW
 | 0,_,_,_=>none
 | d+1,f,args,M=>match G f with
  | some g=>g args M
  | none=>match T f with
   | some af=>bbody (oK G T K d) K af args M
   | none=>none
structure Same(n:Nat)(l:Fast)(e:Env):Prop where
 len:e.length=n
 get:∀t,look l t=e.getD t .undef
theorem Same.put{n:Nat}{l:Fast}{e:Env}(s:Same n l e)(d:Option Nat)(v:AV):Same n (iD n d v l) (xP d v e):=by
 cases d with
 | none=>exact s
 | some d =>
  simp only[iD,xP]
  cases hb:Nat.blt d n with
  | false =>
   have hd:e.length≤d:=by
    rw[s.len]
    refine Nat.le_of_not_lt λhlt=>?_
    have:Nat.blt d n=true:=by simpa[Nat.blt_eq]using hlt
    rw[hb]at this
    cases this
   rw[List.set_eq_of_length_le hd]
   exact s
  | true =>
   have hd:d<n:=by simpa[Nat.blt_eq]using hb
   refine⟨by simp[s.len],λt=>?_⟩
   simp only[look]
   rw[List.getD_eq_getElem?_getD,List.getElem?_set]
   by_cases h:d=t
   ·subst h
    simp[s.len,hd]
   ·have:Nat.beq d t=false:=by
     cases hh:Nat.beq d t with
     | false=>rfl
     | true=>exact absurd (aM hh) h
    simp only[this,if_neg h]
    rw[s.get t,List.getD_eq_getElem?_getD]
theorem Same.wanted{n:Nat}{l:Fast}{e:Env}(s:Same n l e)(g:Option (Nat×Bool)):f_ g l=kY g e:=by
 cases g with
 | none=>rfl
 | some g =>
  obtain⟨t,want⟩:=g
  simp only[f_,kY,s.get]
  generalize e.getD t .undef=x
  cases x<;>rfl
theorem J8{C C':aW}(hC:C.Le C'){n:Nat}:∀(ops:List qV) (l:Fast) (e:Env) (M:Heap) (l':Fast) (M':Heap),Same n l e→BA C n ops l M=some (l',M')→∃e',Dc C' ops e M=some (e',M')∧Same n l' e'
 | [],l,e,M,l',M',s,h=>by
  simp only[BA,au,aD]at h
  obtain⟨rfl,rfl⟩:=h
  exact⟨e,rfl,s⟩
 | o::r,l,e,M,l',M',s,h=>by
  simp only[BA]at h
  rw[s.wanted]at h
  simp only[Dc]
  split at h
  ·rename_i hw
   rw[hw]
   rw[U7 s.get]at h
   split at h
   ·rename_i p hp
    rw[force_eq]at h
    simp only[Yn hC hp,ak]
    exact J8 hC r _ _ _ _ _ (s.put _ _) h
   ·cases h
  ·rename_i hw
   rw[hw]
   exact J8 hC r _ _ _ _ _ (s.put _ _) h
  ·cases h
theorem vg{C C':aW}(hC:C.Le C'){n base nk:Nat}:∀(ops:List bQ) (l:Fast) (e:Env) (M:Heap) (hist:List Heap) (l':Fast) (M':Heap),Same n l e→u_ C n base nk ops l M hist=some (l',M')→∃e',uZ C' base nk ops e M hist=some (e',M')∧Same n l' e'
 | [],l,e,M,hist,l',M',s,h=>by
  simp only[u_,au,aD]at h
  obtain⟨rfl,rfl⟩:=h
  exact⟨e,rfl,s⟩
 | d::r,l,e,M,hist,l',M',s,h=>by
  simp only[u_]at h
  rw[s.wanted]at h
  simp only[uZ]
  split at h
  ·rename_i hw
   rw[hw]
   simp only
   split at h
   ·rename_i o ho
    rw[RZ s.get]at h
    split at h
    ·rename_i v hv
     rw[force_eq]at h
     simp only[ho,hv,ak]
     exact vg hC r _ _ _ _ _ _ (s.put _ _) h
    ·cases h
   ·rename_i o ho
    simp only[O8 s.get]at h
    split at h
    ·rename_i v hv
     simp only[ho,hv,ak]
     split at h
     ·rename_i hall
      rw[force_eq]at h
      split
      ·exact vg hC r _ _ _ _ _ _ (s.put _ _) h
      ·rename_i hn
       exact absurd hall hn
     ·cases h
    ·cases h
   ·rename_i o ho
    rw[R3 s.get]at h
    split at h
    ·rename_i p hp
     simp only[ho,hp,ak]
     exact vg hC r _ _ _ _ _ _ (s.put _ _) h
    ·cases h
   ·rename_i o ho
    rw[R4 s.get]at h
    split at h
    ·rename_i p hp
     rw[force_eq]at h
     simp only[ho,XD hC hp,ak]
     exact vg hC r _ _ _ _ _ _ (s.put _ _) h
    ·cases h
  ·rename_i hw
   rw[hw]
   exact vg hC r _ _ _ _ _ _ (s.put _ _) h
  ·cases h
theorem I8(l:Fast)(t:Nat):∀keep:List Nat,look (uo l keep) t=if keep.contains t then look l t else .undef
 | []=>by simp[uo,look]
 | u::r=>by
  simp only[uo,look,List.contains_cons]
  cases hb:Nat.beq u t with
  | true =>
   obtain rfl:=aM hb
   simp
  | false =>
   have:(t==u)=false:=by
    cases h:t==u with
    | false=>rfl
    | true =>
     rw[beq_iff_eq]at h
     subst h
     rw[Nat.beq_refl]at hb
     cases hb
   simp only[this,Bool.false_or]
   exact I8 l t r
theorem Ad(keep:List Nat):∀(e:Env) (i t:Nat),(gI keep i e).getD t .undef=if keep.contains (i+t)then e.getD t .undef else .undef
 | [],i,t=>by simp[gI]
 | v::r,i,0=>by simp[gI]
 | v::r,i,t+1=>by
  have:=Ad keep r (i+1) t
  simp only[gI,List.getD_cons_succ]
  rw[this,show i+1+t=i+(t+1)from by omega]
theorem xD(keep:List Nat):∀(e:Env) (i:Nat),(gI keep i e).length=e.length
 | [],i=>rfl
 | v::r,i=>by simp[gI,xD keep r]
theorem Same.keep{n:Nat}{l:Fast}{e:Env}(s:Same n l e)(keep:List Nat):Same n (uo l keep) (gI keep 0 e) :=
 ⟨by rw[xD,s.len],λt=>by rw[I8,Ad,Nat.zero_add,s.get]⟩
theorem Ls {n:Nat} {b:Fast→Heap→EI} {a:Env→Heap→UQ} (h:∀l e M x l' M',Same n l e→b l M=some (x,l',M')→∃e',a e M=some (x,e',M')∧Same n l' e') (keep:List Nat) :
  ∀(k:Nat) (l:Fast) (e:Env) (M:Heap) (x:Ex) (l':Fast) (M':Heap),Same n l e→fF b keep k l M=some (x,l',M')→∃e',Fu a keep k e M=some (x,e',M')∧Same n l' e'
 | 0,_,_,_,_,_,_,_,hb=>by simp[fF]at hb
 | k+1,l,e,M,x,l',M',s,hb=>by
  simp only[fF]at hb
  simp only[Fu]
  split at hb
  ·rename_i l1 M1 h1
   obtain⟨e1,g1,g2⟩:=h _ _ _ _ _ _ (s.keep keep) h1
   rw[g1]
   exact Ls h keep k _ _ _ _ _ _ g2 hb
  ·rename_i hne
   obtain⟨e1,g1,g2⟩:=h _ _ _ _ _ _ (s.keep keep) hb
   rw[g1]
   refine⟨e1, ?_,g2⟩
   cases x with
   | normal=>exact absurd hb (hne _ _)
   | _=>rfl
theorem l6{C C':aW}(hC:C.Le C'){K n:Nat}:∀(c:bK) (l:Fast) (e:Env) (M:Heap) (x:Ex) (l':Fast) (M':Heap),Same n l e→bf C K n c l M=some (x,l',M')→∃e',gJ C' K c e M=some (x,e',M')∧Same n l' e'
 |.skip,l,e,M,x,l',M',s,h=>by
  simp only[bf,au,aD]at h
  obtain⟨rfl,rfl,rfl⟩:=h
  exact⟨e,rfl,s⟩
 |.reg ops,l,e,M,x,l',M',s,h=>by
  simp only[bf]at h
  obtain⟨p,hp,h2⟩:=av.1 h
  simp only[aD]at h2
  obtain⟨rfl,h3⟩:=h2
  subst h3
  obtain⟨e',g1,g2⟩:=J8 hC ops _ _ _ _ _ s hp
  exact⟨e',by simp only[gJ,g1,aG],g2⟩
 |.JR nk ops,l,e,M,x,l',M',s,h=>by
  simp only[bf]at h
  obtain⟨p,hp,h2⟩:=av.1 h
  simp only[aD]at h2
  obtain⟨rfl,h3⟩:=h2
  subst h3
  obtain⟨e',g1,g2⟩:=vg hC ops _ _ _ _ _ _ s hp
  exact⟨e',by simp only[gJ,g1,aG],g2⟩
 |.seq a b,l,e,M,x,l',M',s,h=>by
  simp only[bf]at h
  simp only[gJ]
  split at h
  ·rename_i l1 M1 h1
   obtain⟨e1,g1,g2⟩:=l6 hC a _ _ _ _ _ _ s h1
   rw[g1]
   exact l6 hC b _ _ _ _ _ _ g2 h
  ·rename_i hne
   obtain⟨e1,g1,g2⟩:=l6 hC a _ _ _ _ _ _ s h
   rw[g1]
   refine⟨e1, ?_,g2⟩
   cases x with
   | normal=>exact absurd h (hne _ _)
   | _=>rfl
 |.cond c a b,l,e,M,x,l',M',s,h=>by
  simp only[bf]at h
  rw[qB s.get]at h
  simp only[gJ]
  split at h
  ·rename_i hc
   rw[hc]
   exact l6 hC a _ _ _ _ _ _ s h
  ·rename_i hc
   rw[hc]
   exact l6 hC b _ _ _ _ _ _ s h
  ·cases h
 |.block id c,l,e,M,x,l',M',s,h=>by
  simp only[bf]at h
  simp only[gJ]
  split at h
  ·rename_i i l1 M1 h1
   obtain⟨e1,g1,g2⟩:=l6 hC c _ _ _ _ _ _ s h1
   rw[g1]
   simp only
   split at h
   ·rename_i hi
    rw[if_pos hi]
    simp only[au,aD]at h
    obtain⟨rfl,rfl,rfl⟩:=h
    exact⟨e1,rfl,g2⟩
   ·rename_i hi
    rw[if_neg hi]
    simp only[au,aD]at h
    obtain⟨rfl,rfl,rfl⟩:=h
    exact⟨e1,rfl,g2⟩
  ·rename_i hne
   obtain⟨e1,g1,g2⟩:=l6 hC c _ _ _ _ _ _ s h
   rw[g1]
   refine⟨e1, ?_,g2⟩
   cases x with
   | exit i=>exact absurd h (hne _ _ _)
   | _=>rfl
 |.loop keep c,l,e,M,x,l',M',s,h=>by
  simp only[bf]at h
  simp only[gJ]
  exact Ls (λl e M x l' M' s h=>l6 hC c l e M x l' M' s h) keep K _ _ _ _ _ _ s h
 |.exit id,l,e,M,x,l',M',s,h=>by
  simp only[bf,au,aD]at h
  obtain⟨rfl,rfl,rfl⟩:=h
  exact⟨e,rfl,s⟩
 |.ret,l,e,M,x,l',M',s,h=>by
  simp only[bf,au,aD]at h
  obtain⟨rfl,rfl,rfl⟩:=h
  exact⟨e,rfl,s⟩
 |.fail,_,_,_,_,_,_,_,h=>by simp[bf]at h
theorem Lu{n:Nat}{l:Fast}{e:Env}(s:Same n l e)(M:Heap):∀rs:List uX,xC rs l M=Fv rs e M
 | []=>rfl
 | r::rs=>by
  have h1:Dq r l M=M6 r e M:=by
   cases r with
   | tmp t =>
    simp only[Dq,M6,s.get]
    generalize e.getD t .undef=x
    cases x<;>rfl
   | cell t g n=>simp only[Dq,M6,s.get]
  simp only[xC,Fv,h1,Lu s M rs]
theorem Em{n:Nat}{l:Fast}{e:Env}(s:Same n l e)(M:Heap)(rs:List uX):jr rs l M=sw rs e M:=by
 unfold jr sw
 rw[Lu s]
 congr 1
theorem FN:∀(l:List AV) (i t:Nat),look (start i l) t=if i≤t then l.getD (t-i) .undef else .undef
 | [],i,t=>by simp[start,look]
 | v::r,i,t=>by
  simp only[start,look]
  cases hb:Nat.beq i t with
  | true =>
   obtain rfl:=aM hb
   simp
  | false =>
   have hne:i≠t:=λe=>by subst e;rw[Nat.beq_refl]at hb;cases hb
   simp only
   rw[FN r (i+1) t]
   by_cases h:i≤t
   ·rw[if_pos h,if_pos (by omega),show t-i=(t-(i+1))+1 from by omega,List.getD_cons_succ]
   ·rw[if_neg h,if_neg (by omega)]
theorem R5{C C':aW}(hC:C.Le C'){K:Nat}{f:bF}{args:List AV}{M:Heap}{r:AV×Heap}(h:bbody C K f args M=some r):abody C' K f args M=some r:=by
 unfold bbody at h
 unfold abody
 split at h
 case isFalse=>cases h
 rename_i hcond
 rw[if_pos hcond]
 have s:Same f.ntmps (start 0 (args++List.replicate (f.ntmps-f.nargs) (.tuple []))) (args++List.replicate (f.ntmps-f.nargs) (.tuple [])) :=
  ⟨by simp;omega,λt=>by rw[FN];simp⟩
 split at h
 ·rename_i l M1 h1
  obtain⟨e1,g1,g2⟩:=l6 hC f.code _ _ _ _ _ _ s h1
  rw[g1]
  rw[Em g2]at h
  exact h
 ·rename_i l M1 h1
  obtain⟨e1,g1,g2⟩:=l6 hC f.code _ _ _ _ _ _ s h1
  rw[g1]
  rw[Em g2]at h
  exact h
 ·cases h
theorem Lv{G:Lr}{T:FuncId→Option bF}{K:Nat}:∀d,(oK G T K d).Le (xB G T K d)
 | 0=>λf a M r h=>by simp[oK]at h
 | d+1=>λf a M r h=>by
  simp only[oK]at h
  simp only[xB]
  split at h
  ·rename_i g hg
   rw[hg]
   exact h
  ·rename_i hg
   rw[hg]
   split at h
   ·rename_i af Yl
    rw[Yl]
    exact R5 (Lv d) h
   ·cases h
theorem rW(u t:Nat)(v:AV)(r:Fast):look ((u,v)::r) t=if u=t then v else look r t:=by
 simp only[look]
 cases hb:Nat.beq u t with
 | true=>rw[if_pos (aM hb)]
 | false=>rw[if_neg (λh=>by subst h;rw[Nat.beq_refl]at hb;cases hb)]
theorem rX{n d:Nat}(v:AV)(l:Fast)(h:d<n):iD n (some d) v l=(d,v)::l:=by
 have:Nat.blt d n=true:=by simpa[Nat.blt_eq]using h
 simp[iD,this]
theorem vk(C:aW)(n:Nat)(l:Fast)(M:Heap):BA C n [] l M=some (l,M):=rfl
theorem rY (C:aW) (n:Nat) (dst:Option Nat) (op:qz) (r:List qV) (l:Fast) (M:Heap) :
  BA C n ({ dst:=dst,op:=op,guard:=none }::r) l M=match Da C (op.sub (look l)) [] M with
   | some p=>BA C n r (iD n dst p.1 l) p.2
   | none=>none:=by
 simp only[BA,f_]
 split<;>simp[force_eq, *]
theorem rZ(C:aW)(K n:Nat)(ops:List qV)(l:Fast)(M:Heap):bf C K n (.reg ops) l M=(BA C n ops l M).map λp=>(.normal,p):=rfl
theorem r9 (C:aW) (K n:Nat) (a b:bK) (l:Fast) (M:Heap):bf C K n (.seq a b) l M=match bf C K n a l M with
  | some (.normal,l',M')=>bf C K n b l' M'
  | r=>r:=rfl
theorem wrap_i64{n:Int}(h1:-9223372036854775808≤n)(h2:n≤9223372036854775807):IntKind.i64.wrap n=n:=by
 simp[IntKind.wrap,IntKind.signed,IntKind.bits]
 split<;>omega
structure Ext(M M':Heap):Prop where
 sub:M.Sub M'
 next:M.next≤M'.next
 wf:M'.Wf
theorem Ext.refl{M:Heap}(h:M.Wf):Ext M M:=⟨.refl _,Nat.le_refl _,h⟩
theorem Ext.trans{A B C:Heap}(h:Ext A B)(k:Ext B C):Ext A C:=⟨h.sub.trans k.sub,Nat.le_trans h.next k.next,k.wf⟩
theorem Ext.push{M:Heap}(h:M.Wf)(x:ji):Ext M (M.push x) :=
 ⟨λb y hy=>by
  have:b≠M.next:=λe=>by rw[e,h _ (Nat.le_refl _)]at hy;cases hy
  simp[Heap.push,this,hy],Nat.le_succ _,λb hb=>by
  simp only[Heap.push]at hb ⊢
  rw[if_neg (by omega)]
  exact h b (by omega)⟩
def R6(M:Heap)(a:AV)(l:List (List UInt8)):Prop :=
 ∃p sz cap ex,a=.slice p sz l.length cap ex∧(l≠[]→sz=1∧∃b o c ro sl,p=some (b,o)∧M.get b=some (.cells c ro sl)∧∀j s,l[j]?=some s→c[o+j]?=some (.str s))
theorem R6.mono{M M':Heap}(h:M.Sub M'){a:AV}{l:List (List UInt8)}(r:R6 M a l):R6 M' a l:=by
 obtain⟨p,sz,cap,ex,h1,h2⟩:=r
 refine⟨p,sz,cap,ex,h1,λhl=>?_⟩
 obtain⟨e1,b,o,c,ro,sl,e2,e3,e4⟩:=h2 hl
 exact⟨e1,b,o,c,ro,sl,e2,h _ _ e3,e4⟩
def alone(g:List AV→Heap→Option (AV×Heap)):List AV→Heap→Option (AV×Heap):=λargs M =>
 match args,g [] Heap.empty with
 | [],some (.bool b,_)=>some (.bool b,M)
 | _,_=>none
theorem Qa{P:Program}{G:Lr}{T:FuncId→Option bF}(hG:∀f g,G f=some g→(Dk P f∧Sound P f g)∨K5 P f g)(hT:∀f af,T f=some af→∃h,aX P f h=some af)(K d:Nat){f:FuncId}(hf:G f=none):Sound P f (oK G T K d f):=by
 intro args M v M' h
 have h1:=Lv d f args M _ h
 cases d with
 | zero=>simp[xB]at h1
 | succ d =>
  simp only[xB,hf]at h1
  split at h1
  ·rename_i af Yl
   obtain⟨hs,hc⟩:=hT f af Yl
   exact FK (El hG hT K d) K hc args M v M' h1
  ·cases h1
theorem R7{s:Sh}{ss:List Sh}{ds:List D}(h:D.are (s::ss) ds):∃d r,ds=d::r∧D.is s d∧D.are ss r:=by
 cases ds with
 | nil=>simp[D.are]at h
 | cons d r=>exact⟨d,r,rfl,by simpa[D.are]using h⟩
theorem O9{ds:List D}(h:D.are [] ds):ds=[]:=by
 cases ds with
 | nil=>rfl
 | cons d r=>simp[D.are]at h
abbrev WH:=List (Option ji)
def bD:WH→Nat→Option ji
 | [],_=>none
 | x::_,0=>x
 | _::r,i+1=>bD r i
def dP:WH→Nat→Option ji→WH
 | [],_,_=>[]
 | _::r,0,y=>y::r
 | x::r,i+1,y=>x::dP r i y
mutual
def pU:AV→List Nat
 |.ptr (some p)=>[p.1]
 |.map (some r)=>[r]
 |.acc b _ _ _ _=>[b]
 |.func _ cs=>gM cs
 |.agg cs=>gM cs
 |.tuple cs=>gM cs
 | _=>[]
def gM:List AV→List Nat
 | []=>[]
 | v::r=>pU v++gM r
end
def AV.flat:AV→Bool
 |.ptr (some _) |.slice (some _) _ _ _ _ |.map (some _) |.func _ (_::_) |.agg _ |.tuple _ |.acc ..=>false
 | _=>true
def nH:List Nat→Nat→Option Nat
 | [],_=>none
 | a::r,b=>match Nat.beq a b with
  | true=>some 0
  | false=>match nH r b with
   | some k=>some (k+1)
   | none=>none
mutual
def rn(f:Nat→Option Nat):AV→AV
 |.ptr (some q)=>match f q.1 with
  | some b=>.ptr (some (b,q.2))
  | none=>.undef
 |.slice (some _) _ _ _ _=>.undef
 |.map (some r)=>match f r with
  | some b=>.map (some b)
  | none=>.undef
 |.acc b o sz n w=>match f b with
  | some b'=>.acc b' o sz n w
  | none=>.undef
 |.func g cs=>.func g (H6 f cs)
 |.agg cs=>.agg (H6 f cs)
 |.tuple cs=>.tuple (H6 f cs)
 | v=>v
def H6(f:Nat→Option Nat):List AV→List AV
 | []=>[]
 | v::r=>rn f v::H6 f r
end
def rnB(f:Nat→Option Nat):ji→ji
 |.cells c ro sl=>match sl with
  | true=>.cells c ro true
  | false=>.cells (H6 f c) ro false
 |.map es=>.map es
def aal:Option ji→List Nat
 | some (.cells c _ false)=>gM c
 | _=>[]
def kK:List Nat→Nat→Bool
 | [],_=>false
 | a::r,b=>match Nat.beq a b with
  | true=>true
  | false=>kK r b
def xS(H:WH)(np:Nat)(seen:List Nat):List Nat→List Nat
 | []=>[]
 | a::r=>match kK seen a with
  | true=>xS H np seen r
  | false=>match Nat.blt a np with
   | true=>a::xS H np (a::seen) r
   | false=>match bD H a with
    | some _=>a::xS H np (a::seen) r
    | none=>xS H np (a::seen) r
def XE(H:WH):List Nat→List Nat
 | []=>[]
 | b::r=>aal (bD H b)++XE H r
def R8(H:WH)(np:Nat)(l:List Nat):List Nat:=xS H np [] (l++XE H l)
def BD(H:WH)(np:Nat)(roots:List Nat):List Nat:=R8 H np (R8 H np (R8 H np (xS H np [] (List.range np++roots))))
def Rh(f:Nat→Option Nat):Option ji→Option ji
 | some x=>some (rnB f x)
 | none=>none
def lS(H:WH)(p:List Nat):List Nat→WH
 | []=>[]
 | b::r=>Rh (nH p) (bD H b)::lS H p r
def back(p:List Nat)(n0 k:Nat):Option Nat:=match p[k]? with
 | some b=>some b
 | none=>some (n0+(k-p.length))
def oW(f:Nat→Option Nat):List Nat→WH→WH→WH
 | b::p,x::out,H=>oW f p out (dP H b (Rh f x))
 | _,_,H=>H
def xE(H:WH)(p:List Nat)(out:WH):WH :=
 oW (back p H.length) p out H++(out.drop p.length).map (Rh (back p H.length))
mutual
def retag:AV→AV→AV
 |.slice none s 0 0 true,t=>match t with
  |.slice none z _ _ _=>.slice none z 0 0 true
  | _=>.slice none s 0 0 true
 |.agg cs,t=>match t with
  |.agg ts=>.agg (jg cs ts)
  | _=>.agg cs
 |.tuple cs,t=>match t with
  |.tuple ts=>.tuple (jg cs ts)
  | _=>.tuple cs
 | v,_=>v
def jg:List AV→List AV→List AV
 | c::cs,ts=>match ts with
  | t::ts=>retag c t::jg cs ts
  | []=>c::cs
 | [],_=>[]
end
def wz(g:AV→Option (AV×List Nat)):List AV→Option (List AV×List Nat)
 | []=>some ([],[])
 | v::r=>match g v,wz g r with
  | some p,some q=>some (p.1::q.1,p.2++q.2)
  | _,_=>none
def Lx(w:Bool)(c:List AV)(o m:Nat):List AV:=match w with
 | true=>c
 | false=>(c.drop o).take m
def LA(H:WH):Nat→Bool→AV→Option (AV×List Nat)
 | 0,_,_=>none
 | k+1,nested,v=>match v with
  |.acc b o sz n w=>match bD H b with
   | some (.cells c _ sl)=>match sl with
    | true=>some (.list sz n (Lx w c o (n*sz)) false,[b])
    | false=>match w with
     | true=>match wz (LA H k true) c with
      | some p=>some (.list sz n p.1 false,b::p.2)
      | none=>none
     | false=>none
   | _=>none
  |.slice none z 0 0 true=>some (.list z 0 [] false,[])
  |.slice _ _ _ _ _=>none
  |.list sz n cs _=>some (.list sz n cs false,[])
  |.elem _=>none
  |.ptr (some q)=>match nested with
   | true=>none
   | false=>some (.ptr (some q),[])
  |.map (some r)=>match nested with
   | true=>none
   | false=>some (.map (some r),[])
  |.func f cs=>match wz (LA H k nested) cs with
   | some p=>some (.func f p.1,p.2)
   | none=>none
  |.agg cs=>match wz (LA H k nested) cs with
   | some p=>some (.agg p.1,p.2)
   | none=>none
  |.tuple cs=>match wz (LA H k nested) cs with
   | some p=>some (.tuple p.1,p.2)
   | none=>none
  | v=>some (v,[])
def Dr:Option ji→Option ji
 | some (.cells c _ sl)=>some (.cells c true sl)
 | _=>none
def rD(H:WH):List Nat→WH
 | []=>H
 | b::r=>rD (dP H b (Dr (bD H b))) r
def XF(w:Bool)(c:List AV)(m:Nat):List AV:=match w with
 | true=>c
 | false=>c.take m
mutual
def Qb:AV→WH→AV×WH
 |.slice none z 0 0 true,H=>(.acc H.length 0 z 0 true,H++[some (.cells [] false true)])
 |.acc b 0 sz n w,H=>match bD H b with
  | some (.cells c false true)=>(.acc H.length 0 sz n true,dP H b none++[some (.cells (XF w c (n*sz)) false true)])
  | _=>(.acc b 0 sz n w,H)
 |.agg cs,H=>match I9 cs H with
  |(a,H)=>(.agg a,H)
 |.tuple cs,H=>match I9 cs H with
  |(a,H)=>(.tuple a,H)
 | v,H=>(v,H)
def I9:List AV→WH→List AV×WH
 | [],H=>([],H)
 | v::r,H=>match Qb v H with
  |(a,H)=>match I9 r H with
   |(l,H)=>(a::l,H)
end
def Yo(m:Option Bool)(v:AV)(H:WH):AV×WH:=match m with
 | none=>(v,H)
 | some true=>Qb v H
 | some false=>match LA H 5 false v with
  | some p=>(p.1,rD H p.2)
  | none=>(v,H)
def zT:List (Option Bool)→List AV→WH→List AV×WH
 | _,[],H=>([],H)
 | ms,v::r,H=>match Yo (ms.headD (some false)) v H with
  |(a,H)=>match zT ms.tail r H with
   |(l,H)=>(a::l,H)
def LB(m:Option Bool):List AV→WH→List AV×WH
 | [],H=>([],H)
 | v::r,H=>match Yo m v H with
  |(a,H)=>match LB m r H with
   |(l,H)=>(a::l,H)
def U8(m:Option Bool)(b:Nat)(H:WH):WH:=match m with
 | none=>H
 | some m=>match bD H b with
  | some (.cells c _ false)=>match LB (some m) c H with
   |(c',H')=>match bD H' b with
    | some (.cells _ ro false)=>dP H' b (some (.cells c' ro false))
    | _=>H'
  | _=>H
def Eo:List (Option Bool)→Option Bool→List Nat→WH→WH
 | _,_,[],H=>H
 | ms,m,b::p,H=>Eo ms.tail m p (U8 (ms.headD m) b H)
def FP(sz:Nat)(sz' len:Nat)(cs:List AV)(lo hi mx:Option AX):Option AV :=
 if sz'=sz then
  match mx with
  | none=>(bA [] hi len len).bind λh=>(bA [] lo 0 h).bind λl=>some (.list sz (h-l) ((cs.drop (l*sz)).take ((h-l)*sz)) false)
  | some _=>(bA [] mx len len).bind λm=>match hi with
   | none=>none
   | some _=>(bA [] hi len m).bind λh=>(bA [] lo 0 h).bind λl=>some (.list sz (h-l) ((cs.drop (l*sz)).take ((h-l)*sz)) false)
 else none
def wC(sz b off sz' n:Nat)(w:Bool)(lo hi mx:Option AX):Option AV :=
 match lo,hi,mx with
 | none,none,none=>if sz'=sz then some (.acc b off sz n w)else none
 | _,_,none=>if sz'=sz then (bA [] hi n n).bind λh=>(bA [] lo 0 h).bind λl=>some (.acc b (off+l*sz) sz (h-l) false)else none
 | _,some _,some _=>if sz'=sz then (bA [] mx n n).bind λm=>(bA [] hi n m).bind λh=>(bA [] lo 0 h).bind λl=>some (.acc b (off+l*sz) sz (h-l) false)else none
 | _,_,_=>none
def yA:Nat→List AV→Option (List AV)
 | 0,_=>some []
 | n+1,c::cs=>match yA n cs with
  | some l=>some (c::l)
  | none=>none
 | _+1,[]=>none
def O_:List AV→Nat→Option AV
 | [],_=>none
 | v::_,0=>some v
 | _::r,i+1=>O_ r i
def sJ(agg:Bool)(off n:Nat)(cs:List AV):Option AV:=match agg with
 | true=>match yA n (cs.drop off)with
  | some l=>some (.agg l)
  | none=>none
 | false=>O_ cs off
def wP(o:iJ):Option AV :=
 match o with
 |.slice sz x lo hi mx=>match x.ev []with
  |.list sz' len cs _=>FP sz sz' len cs lo hi mx
  |.acc b off sz' n w=>wC sz b off sz' n w lo hi mx
  | _=>none
 |.iy sz x i=>match x.ev []with
  |.list sz' len cs _=>match i.ev []with
   |.int _ j=>if 0≤j∧j<(len:Int)∧sz'=sz then some (.elem (cs.drop (j.toNat*sz)))else none
   | _=>none
  |.acc b off sz' n _=>match i.ev []with
   |.int _ j=>if 0≤j∧j<(n:Int)∧sz'=sz then some (.ptr (some (b,off+j.toNat*sz)))else none
   | _=>none
  | _=>none
 |.oU n sz x i=>match x.ev []with
  |.elem cs=>match i.ev []with
   |.int _ j=>if 0≤j∧j<(n:Int)then some (.elem (cs.drop (j.toNat*sz)))else none
   | _=>none
  | _=>aP o []
 |.fieldAddr off x=>match x.ev []with
  |.elem cs=>some (.elem (cs.drop off))
  | _=>aP o []
 |.nilCheck x=>match x.ev []with
  |.elem cs=>some (.elem cs)
  | _=>aP o []
 |.field agg off n x=>match x.ev []with
  |.agg cs=>sJ agg off n cs
  | _=>none
 |.len false x=>match x.ev []with
  |.list _ len _ _=>some (.int .i64 len)
  |.acc _ _ _ n _=>some (.int .i64 n)
  |.slice none _ 0 0 true=>some (.int .i64 0)
  | _=>none
 |.cap _=>none
 |.PU neg x y=>match x.ev [],y.ev []with
  |.list _ (_+1) _ _,.slice none _ 0 0 true=>some (.bool neg)
  |.slice none _ 0 0 true,.list _ (_+1) _ _=>some (.bool neg)
  |.slice none _ 0 0 true,.slice none _ 0 0 true=>some (.bool (!neg))
  | _,_=>none
 | _=>aP o []
mutual
def sc:AV→Bool
 |.bool _ |.int .. |.str _=>true
 |.tuple cs=>Yp cs
 |.agg cs=>Yp cs
 | _=>false
def Yp:List AV→Bool
 | []=>true
 | v::r=>match sc v with
  | true=>Yp r
  | false=>false
end
def I_:List (AV×AV)→Bool
 | []=>true
 | p::r=>match sc p.1,sc p.2 with
  | true,true=>I_ r
  | _,_=>false
def R9(kd:Kd)(k v:AV)(es:List (AV×AV)):Option (List (AV×AV)):=(tZ kd k es 0).map λp=>match p with
 | some q=>es.set q.1 (k,v)
 | none=>es++[(k,v)]
def XG(kd:Kd)(k:AV)(es:List (AV×AV)):Option (List (AV×AV)):=(tZ kd k es 0).map λp=>match p with
 | some q=>es.eraseIdx q.1
 | none=>es
def XH(kd:Kd)(ok:Bool)(zero k:AV)(es:List (AV×AV)):Option AV:=(tZ kd k es 0).map λr =>
 let p:AV×Bool:=match r with
  | some (_,x)=>(x,true)
  | none=>(zero,false)
 if ok then .tuple [p.1,.bool p.2]else p.1
def wL(o:ny)(H:WH):Option AV :=
 match o with
 |.load agg n x=>match agg&&Nat.beq n 0 with
  | true=>none
  | false=>match x.ev []with
   |.elem cs=>sJ agg 0 n cs
   |.ptr (some (b,off))=>match bD H b with
    | some (.cells c _ _)=>sJ agg off n c
    | _=>none
   | _=>none
 |.gH x=>match x.ev []with
  |.list 1 _ cs _=>(dI cs).map .str
  |.acc b off 1 n w=>match bD H b with
   | some (.cells c _ _)=>(dI (Lx w c off n)).map .str
   | _=>none
  |.slice none _ 0 0 true=>some (.str [])
  | _=>none
 |.mJ x=>match x.ev []with
  |.map (some r)=>match bD H r with
   | some (.map es)=>some (.int .i64 es.length)
   | _=>none
  | _=>none
 |.lookup kd ok zero x k=>match x.ev []with
  |.map (some r)=>match bD H r,sc (k.ev [])with
   | some (.map es),true=>XH kd ok zero (k.ev []) es
   | _,_=>none
  | _=>none
def dS(bytes k:Nat):Bool:=decide (k*bytes≤70368744177664∧k≤70368744177664)
def yB(x:AV)(sz:Nat)(H:WH):Option (Nat×List AV×List Nat) :=
 match x with
 |.list sz' n cs _=>match Nat.beq sz' sz with
  | true=>some (n,cs,[])
  | false=>none
 |.slice none _ 0 0 true=>some (0,[],[])
 |.str s=>match Nat.beq 1 sz with
  | true=>some (s.length,s.map λb=>.int .u8 b.toNat,[])
  | false=>none
 |.acc b o sz' n w=>match Nat.beq sz' sz with
  | true=>match bD H b with
   | some (.cells c _ sl)=>match sl with
    | true=>some (n,Lx w c o (n*sz),[])
    | false=>match w with
     | true=>match wz (LA H 5 true) c with
      | some p=>some (n,p.1,p.2)
      | none=>none
     | false=>none
   | _=>none
  | false=>none
 | _=>none
def Pb(s:AV)(sz:Nat)(H:WH):Option (Nat×List AV×WH×List Nat) :=
 match s with
 |.slice none _ 0 0 true=>some (0,[],H,[])
 |.acc b 0 sz' n w=>match Nat.beq sz' sz with
  | true=>match bD H b with
   | some (.cells c false true)=>some (n,Lx w c 0 (n*sz),dP H b none,[b])
   | some (.cells c false false)=>match w with
    | true=>match wz (LA H 5 true) c with
     | some p=>match kK p.2 b with
      | false=>some (n,p.1,dP (rD H p.2) b none,[b])
      | true=>none
     | none=>none
    | false=>none
   | _=>none
  | false=>none
 | _=>none
def Pf(c:List AV)(o:Nat)(cs:List AV):Option (List AV) :=
 if o+cs.length≤c.length then some (c.take o++cs++c.drop (o+cs.length))else none
def gd{β:Type}(b:Bool)(x:Option β):Option β:=match b with
 | true=>x
 | false=>none
inductive Lf where
 | fin (m:Option Bool) (ts:List AV) (mc:Option Bool)
 | en (keep:List Nat) (ms bs:List (Option Bool)) (ts:List AV)
inductive Tc{R:Type}:Option R→Type 1 where
 | leaf (x:Lf) (v:R):Tc (some v)
 | yC (x:Lf) (v:R) (Q:R→Prop) (h:Q v):Tc (some v)
 | fail:Tc none
 | bd {β:Type} {e:Option β} {f:β→Option R} (k:(x:β)→e=some x→Tc (f x)):Tc (e.bind f)
 | gd {b:Bool} {f:Option R} (k:b=true→Tc f):Tc (Proofs.Ytkedeiklmpkgkaa.gd b f)
 | br (t:Nat) {b:Bool} {f g:Option R} (x:b=true→Tc f) (y:b=false→Tc g):Tc (cond b f g)
 | ite {b:Bool} {f g:Option R} (x:b=true→Tc f) (y:b=false→Tc g):Tc (cond b f g)
 | ob {P:Prop} (h:P) {f:Option R} (r:Tc f):Tc f
 | rv (t:Nat) (u:AV) {P:Prop} (h:P) {f:Option R} (r:Tc f):Tc f
 | rb (b:Nat) (c:List AV) {P:Prop} (h:P) {f:Option R} (r:Tc f):Tc f
 | v (d:Nat) (u:AV) {f:Option R} (r:Tc f):Tc f
 | z (d:Nat) (t:List AV) {f:Option R} (r:Tc f):Tc f
 | ap (d:Nat) (n:Nat) (cs:List AV) {f:Option R} (r:Tc f):Tc f
 | st (cs:Option (List AV)) {f:Option R} (r:Tc f):Tc f
 | call (ms:List (Option Bool)) (m:Option Bool) (ts:List AV) (v:AV) (out:WH) {f:Option R} (r:Tc f):Tc f
 | lp (ms:List (Option Bool)) (bs:List (Option Bool)) (ts:List AV) (ex:Ex) (outs:List (Nat×AV)) (out:WH) {f:Option R} (r:Tc f):Tc f
 | jn (keep:List Nat) (ms:List (Option Bool)) (bs:List (Option Bool)) (ts:List AV) (ex:Ex) (outs:List (Nat×AV)) (out:WH) {f:Option R} (r:Tc f):Tc f
 | sk {f:Option R} (r:Tc f):Tc f
 | cb (ms:List (Option Bool)) (ts:List AV) (v:AV) {f:Option R} (r:Tc f):Tc f
 | kl (bs:List Nat) {f:Option R} (r:Tc f):Tc f
 | mp (es:List (AV×AV)) {f:Option R} (r:Tc f):Tc f
 | cl (ms:List (Option Bool)) (ls:List Bool) (ts:List AV) (v:AV) (out:WH) {f:Option R} (r:Tc f):Tc f
 | er {f:Option R} (r:Tc f):Tc f
structure TS:Type 1 where
 {R:Type}
 {f:Option R}
 tr:Tc f
def claim{R:Type}(L:R→Prop)(r:R):{f:Option R}→Tc f→Prop
 | _,.leaf _ v=>L v
 | _,.yC _ _ Q _=>Q r
 | _,.fail=>False
 | _,.bd k=>∃x,∃q,claim L r (k x q)
 | _,.gd k=>∃q,claim L r (k q)
 | _,.br (b:=b) _ x y=>b=b∧((∀h,claim L r (x h))∧(∀h,claim L r (y h)))
 | _,.ite x y=>(∀h,claim L r (x h))∧(∀h,claim L r (y h))
 | _,.ob (P:=P) _ k=>P∧claim L r k
 | _,.rv _ _ (P:=P) _ k=>P∧claim L r k
 | _,.rb _ _ (P:=P) _ k=>P∧claim L r k
 | _,.v _ _ k=>claim L r k
 | _,.z _ _ k=>claim L r k
 | _,.ap _ _ _ k=>claim L r k
 | _,.st _ k=>claim L r k
 | _,.call _ _ _ _ _ k=>claim L r k
 | _,.lp _ _ _ _ _ _ k=>claim L r k
 | _,.jn _ _ _ _ _ _ _ k=>claim L r k
 | _,.sk k=>claim L r k
 | _,.cb _ _ _ k=>claim L r k
 | _,.kl _ k=>claim L r k
 | _,.mp _ k=>claim L r k
 | _,.cl _ _ _ _ _ k=>claim L r k
 | _,.er k=>claim L r k
theorem dJ{R:Type}{L:R→Prop}{r:R}(hL:L r):∀ {f:Option R} (T:Tc f),f=some r→claim L r T
 | _,.leaf _ v,h=>by
  obtain rfl:=aj h
  exact hL
 | _,.yC _ _ Q q,h=>by
  obtain rfl:=aj h
  exact q
 | _,.fail,h=>by cases h
 | _,.bd (e:=e) k,h=>by
  have hx:∃x,e=some x:=by
   cases e with
   | none=>cases h
   | some x=>exact⟨x,rfl⟩
  obtain⟨x,he⟩:=hx
  exact⟨x,he,dJ hL (k x he) (by rw[he]at h;exact h)⟩
 | _,.gd (b:=b) k,h=>by
  have hb:b=true:=by
   cases b with
   | false=>cases h
   | true=>rfl
  exact⟨hb,dJ hL (k hb) (by rw[hb]at h;exact h)⟩
 | _,.br (b:=b) _ x y,h=>⟨rfl,λq=>dJ hL (x q) (by rw[q]at h;exact h),λq=>dJ hL (y q) (by rw[q]at h;exact h)⟩
 | _,.ite x y,h=>⟨λq=>dJ hL (x q) (by rw[q]at h;exact h),λq=>dJ hL (y q) (by rw[q]at h;exact h)⟩
 | _,.ob p k,h=>⟨p,dJ hL k h⟩
 | _,.rv _ _ p k,h=>⟨p,dJ hL k h⟩
 | _,.rb _ _ p k,h=>⟨p,dJ hL k h⟩
 | _,.v _ _ k,h=>dJ hL k h
 | _,.z _ _ k,h=>dJ hL k h
 | _,.ap _ _ _ k,h=>dJ hL k h
 | _,.st _ k,h=>dJ hL k h
 | _,.call _ _ _ _ _ k,h=>dJ hL k h
 | _,.lp _ _ _ _ _ _ k,h=>dJ hL k h
 | _,.jn _ _ _ _ _ _ _ k,h=>dJ hL k h
 | _,.sk k,h=>dJ hL k h
 | _,.cb _ _ _ k,h=>dJ hL k h
 | _,.kl _ k,h=>dJ hL k h
 | _,.mp _ k,h=>dJ hL k h
 | _,.cl _ _ _ _ _ k,h=>dJ hL k h
 | _,.er k,h=>dJ hL k h
def need(Q:Prop)(k:TS→Prop):TS→Prop
 |⟨.ob _ r⟩=>Q∧k ⟨r⟩
 | _=>False
def J9(k:Fast→WH→TS→Prop){R:Type}:{f:Option R}→Tc f→Fast→WH→Prop
 | _,.bd kk,l,H=>∃x,∃q,J9 k (kk x q) l H
 | _,.gd kk,l,H=>∃q,J9 k (kk q) l H
 | _,.ite x y,l,H=>(∀h,J9 k (x h) l H)∧(∀h,J9 k (y h) l H)
 | _,.rv t u _ r,l,H=>look l t=u∧J9 k r ((t,u)::l) H
 | _,.rb b c _ r,l,H=>match bD H b with
  | some (.cells c0 ro sl)=>c0=c∧J9 k r l (dP H b (some (.cells c ro sl)))
  | _=>False
 | _,t,l,H=>k l H ⟨t⟩
def U9:TS→TS
 |⟨.kl _ r⟩=>⟨r⟩
 | tr=>tr
def LC(H:WH):List Nat→WH
 | []=>H
 | b::r=>LC (dP H b none) r
def U_:TS→WH→WH
 |⟨.kl bs _⟩,H=>LC H bs
 | _,H=>H
def aam(tr:TS):Bool:=match U9 tr with
 |⟨.jn ..⟩=>true
 | _=>false
def Zh(d:Option Nat)(k:Nat):Bool:=match d with
 | some d=>Nat.beq d k
 | none=>false
def Y3(d:Option Nat)(x:Option AV)(tr:TS)(k:AV→TS→Prop):Prop :=
 match tr with
 |⟨.v d' u r⟩=>match Zh d d' with
  | true=>need (x=some u) (k u) ⟨r⟩
  | false=>match x with
   | some v=>k v tr
   | none=>False
 |⟨.z d' t r⟩=>match Zh d d' with
  | true=>match x with
   | some v=>k (retag v (t.headD .undef)) ⟨r⟩
   | none=>False
  | false=>match x with
   | some v=>k v tr
   | none=>False
 | _=>match x with
  | some v=>k v tr
  | none=>False
def Qc(d:Option Nat)(n:Nat)(cs:List AV)(tr:TS)(k:Nat→List AV→TS→Prop):Prop :=
 match tr with
 |⟨.ap d' n' cs' r⟩=>match Zh d d' with
  | true=>need (n=n') (need (cs=cs') (k n' cs')) ⟨r⟩
  | false=>k n cs tr
 | _=>k n cs tr
def wMk(l c:AV)(n bytes:Nat):Prop:=l=.int .i64 n∧c=.int .i64 n∧n≤4611686018427387904∧bytes*n≤281474976710656
def wK(d:Option Nat)(o:xA)(tr:TS)(k:ji→(Nat→AV)→TS→Prop):Prop :=
 match o with
 |.alloc zero=>match tr with
  |⟨.z d' t r⟩=>match Zh d d' with
   | true=>k (.cells (jg zero t) false false) (λb=>.ptr (some (b,0))) ⟨r⟩
   | false=>k (.cells zero false false) (λb=>.ptr (some (b,0))) tr
  | _=>k (.cells zero false false) (λb=>.ptr (some (b,0))) tr
 |.box x=>match (x.ev []).cells? with
  | some cs=>k (.cells cs false false) (λb=>.ptr (some (b,0))) tr
  | none=>False
 |.buildSlice sz len zero parts=>match kF (je len zero) (parts.map λp=>(p.1*sz,sz,p.2.ev []))with
  | some cs=>match Nat.beq zero.length sz with
   | true=>k (.cells cs false false) (λb=>.acc b 0 sz len true) tr
   | false=>False
  | none=>False
 |.makeSlice sz bytes zero l c=>match tr with
  |⟨.ap d' n cs r⟩=>match Zh d d' with
   | true=>match Nat.beq zero.length sz,zero.all AV.flat with
    | true,true=>need (wMk (l.ev []) (c.ev []) n bytes) (need (je n zero=cs) (k (.cells cs false true) (λb=>.acc b 0 sz n true))) ⟨r⟩
    | _,_=>False
   | false=>False
  | _=>False
 |.jo x=>match x.ev []with
  |.str s=>need (s.length≤70368744177664) (k (.cells (s.map λb=>.int .u8 b.toNat) false true) (λb=>.acc b 0 1 s.length true)) tr
  | _=>False
 |.makeMap=>False
structure VI where
 to:Nat→Option Nat
 Dt:Nat→Bool
 gone:Nat→Bool
 dim:Nat→Option (Nat×Nat)
instance:CoeFun VI (λ_=>Nat→Option Nat):=⟨VI.to⟩
def VI.none:VI:=⟨λ_=>Option.none,λ_=>false,λ_=>false,λ_=>Option.none⟩
mutual
def VL(M:Heap)(O:Nat→Prop):VI→AV→AV→Prop
 | _,.undef,_=>True
 | _,.bool b,a=>a=.bool b
 | _,.int k n,a=>a=.int k n
 | _,.str s,a=>a=.str s
 | _,.ptr none,a=>a=.ptr none
 | κ,.ptr (some q),a=>∃j,κ q.1=some j∧a=.ptr (some (j,q.2))
 | _,.slice none _ len cap ex,a=>(len=0∧cap=0∧ex=true)∧∃s',a=.slice none s' 0 0 true
 | _,.slice (some _) _ _ _ _,_=>False
 | _,.map none,a=>a=.map none
 | κ,.map (some r),a=>∃j,κ r=some j∧a=.map (some j)
 | κ,.func f cs,a=>∃cs',a=.func f cs'∧aZ M O κ cs cs'
 | _,.nilFunc,a=>a=.nilFunc
 | κ,.agg cs,a=>∃cs',a=.agg cs'∧aZ M O κ cs cs'
 | κ,.tuple cs,a=>∃cs',a=.tuple cs'∧aZ M O κ cs cs'
 | _,.list sz len cs ex,a=>(len=0∧cs=[]∧∃s',a=.slice none s' 0 0 true)∨∃b o cap ex',a=.slice (some (b,o)) sz len cap ex'∧len≤cap∧(ex=true→ex'=true∧cap=len)∧cs.length=len*sz ∧
   (len≠0→∃c ro sl,M.get b=some (.cells c ro sl)∧¬O b∧b<M.next∧o+len*sz≤c.length∧aZ M O VI.none cs ((c.drop o).take (len*sz)))
 | _,.elem cs,a=>∃b o c ro sl,a=.ptr (some (b,o))∧M.get b=some (.cells c ro sl)∧¬O b∧b<M.next∧aZ M O VI.none cs ((c.drop o).take cs.length)
 | κ,.acc b o sz n w,a=>∃p s' cap ex,a=.slice p s' n cap ex∧n≤cap∧(p=none→cap=0∧ex=true)∧(p≠none→s'=sz)∧∃m L,κ.dim b=some (m,L)∧o+n*sz≤m∧(w=true→o=0∧n*sz=m) ∧
   ((∃j,κ b=some j∧((p=some (j,o)∧o+cap*sz≤L)∨(n=0∧cap=0∧ex=true)))∨(κ.Dt b=true∧n=0∧cap=0∧ex=true∧m=0))
def aZ(M:Heap)(O:Nat→Prop):VI→List AV→List AV→Prop
 | _,[],[]=>True
 | κ,a::l,v::r=>VL M O κ a v∧aZ M O κ l r
 | _,_,_=>False
end
def own(ι:VI):Nat→Prop:=λj=>∃i,ι i=some j∧ι.gone i=false
def OR(R:Nat→Prop)(ι:VI):Nat→Prop:=λj=>own ι j∨R j
def Heap.Ok(M:Heap):Prop:=∀b,M.next≤b→M.get b=none
def BL(M:Heap)(O:Nat→Prop)(κ:VI)(d:Option (Nat×Nat)):ji→Option ji→Prop
 |.cells c ro sl,x=>∃c' t ro' sl' L,x=some (.cells (c'++t) ro' sl')∧(ro=false→ro'=false)∧d=some (c.length,L)∧L≤(c'++t).length∧aZ M O (if sl then VI.none else κ) c c'∧(sl=false→sl'=false)
 |.map es,x=>x=some (.map es)∧d=some (0,0)∧I_ es=true
def ji.ro:ji→Bool
 |.cells _ ro _=>ro
 |.map _=>false
def act(ι:VI)(H:WH)(i:Nat):Prop:=(∃x,bD H i=some x)∨ι.gone i=false
structure VS(R:Nat→Prop)(ι:VI)(H:WH)(M:Heap):Prop where
 lt:∀i j,ι i=some j→i<H.length∧j<M.next
 inj:∀i i' j,act ι H i→act ι H i'→ι i=some j→ι i'=some j→ι.gone i=false∨ι.gone i'=false→i=i'
 blk:∀i x,bD H i=some x→(ι.Dt i=true∧ι.dim i=some (0,0)∧∃ro,x=.cells [] ro true)∨∃j,ι i=some j∧BL M (OR R ι) ι (ι.dim i) x (M.get j)∧(x.ro=false→ι.gone i=false)
 nI:∀i,ι.Dt i=true→i<H.length∧ι i=none
 kZ:∀i,ι.gone i=true→∀c sl,bD H i≠some (.cells c false sl)
 LD:M.Ok
 res:∀j,R j→j<M.next∧∀i,act ι H i→ι i≠some j
structure Keeps(M:Heap)(O:Nat→Prop)(M':Heap)(O':Nat→Prop):Prop where
 next:M.next≤M'.next
 get:∀b,b<M.next→¬O b→M'.get b=M.get b∧¬O' b
def VI.Le(κ l7:VI)(S:Nat→Prop):Prop:=∀i,S i→(∀j,κ i=some j→l7 i=some j∧∀d,κ.dim i=some d→l7.dim i=some d)∧(κ.Dt i=true→l7.Dt i=true∧∀d,κ.dim i=some d→l7.dim i=some d)
structure Stp(n:Nat)(t:List Nat)(ι:VI)(H:WH)(M:Heap)(aV:VI)(H':WH)(M':Heap):Prop where
 keep:Keeps M (own ι) M' (own aV)
 le:VI.Le ι aV (λi=>i<n)
 gone:∀i,i<n→ι.gone i=true→aV.gone i=true
 XI:∀i,i<n→aV i=ι i
 Nk:∀i,i<n→aV.dim i=ι.dim i
 Ja:∀i,i<n→bD H i=none→aV.gone i=ι.gone i
 live:∀i,i<n→(∃x,bD H' i=some x)→∃x,bD H i=some x
 Y4:∀i j,i<n→act aV H' i→ι i=some j→i∉t→M'.get j=M.get j
 next:n≤H'.length
def Spec(C:aW)(f:FuncId)(args:List AV)(blks:WH)(v:AV)(out:WH):Prop :=
 ∀R ι M as,VS R ι blks M→aZ M (OR R ι) ι args as→∃a M' aV,C f as M=some (a,M')∧VS R aV out M'∧Stp blks.length (List.range blks.length) ι blks M aV out M'∧VL M' (OR R aV) aV v a
def Nl(run:Fast→Heap→EI)(np:Nat)(ins:Fast)(blks:WH)(ex:Ex)(outs:Fast)(out:WH):Prop :=
 ∀R ι M lA,VS R ι blks M→(∀t,VL M (OR R ι) ι (look ins t) (look lA t))→∃l8 M' aV,run lA M=some (ex,l8,M')∧VS R aV out M'∧Stp np (List.range np) ι blks M aV out M'∧∀t,VL M' (OR R aV) aV (look outs t) (look l8 t)
inductive Bt where
 | clone (sz bytes:Nat)
 | clip (sz:Nat)
 | grow (sz bytes:Nat)
 | ins (sz bytes:Nat)
 | del (sz:Nat)
def Zi(b:Bt)(d:Option Nat)(args:List AV)(H:WH)(tr:TS)(k:AV→WH→List Nat→TS→Prop):Prop :=
 match b with
 |.clone sz bytes=>match args with
  | [v]=>match v with
   |.str _=>False
   | v=>match yB v sz H with
    | some (n,cs,S)=>Qc d n cs tr λn cs tr=>need (dS bytes n=true) (k (.acc H.length 0 sz n true) (rD H S++[some (.cells cs false true)]) []) tr
    | none=>False
  | _=>False
 |.grow sz bytes=>match args with
  | [.slice none _ 0 0 true,.int .i64 n]=>need (0≤n∧n≤70368744177664∧bytes*n.toNat≤281474976710656∧n.toNat*bytes≤70368744177664) (k (.acc H.length 0 sz 0 true) (H++[some (.cells [] false true)]) []) tr
  | _=>False
 |.clip sz=>match args with
  | [.slice none z 0 0 true]=>k (.slice none sz 0 0 true) H [] tr
  | [.list sz' n cs _]=>match Nat.beq sz' sz with
   | true=>k (.list sz n cs true) H [] tr
   | false=>False
  | [.acc b o sz' n w]=>match Nat.beq sz' sz with
   | true=>k (.acc b o sz n w) H [] tr
   | false=>False
  | _=>False
 |.ins sz bytes=>match args with
  | [.acc b o sz1 n w,.int .i64 i,.acc b2 o2 sz2 m w2]=>match Nat.beq b b2 with
   | true=>False
   | false=>match bD H b2 with
    | some (.cells _ false false)=>match yB (.acc b2 o2 sz2 m w2) sz H with
     | some (m,new,[])=>match Nat.beq m 1 with
      | true=>match Pb (.acc b o sz1 n w) sz H with
       | some (len,old,H',t)=>need (0≤i∧i≤(len:Int)) (λtr=>Qc d (len+1) (old.take (i.toNat*sz)++(new++old.drop (i.toNat*sz))) tr λN cs tr=>need (dS bytes N=true) (k (.acc H'.length 0 sz N true) (H'++[some (.cells cs false true)]) t) tr) tr
       | none=>False
      | false=>False
     | _=>False
    | _=>False
  | _=>False
 |.del sz=>match args with
  | [.acc b 0 sz1 n true,.int .i64 i,.int .i64 j]=>match Nat.beq sz1 sz with
   | true=>match bD H b with
    | some (.cells c false true)=>need (0≤i∧i<j∧j≤(n:Int)) (λtr=>Qc d (n-(j.toNat-i.toNat)) (c.take (i.toNat*sz)++c.drop (j.toNat*sz)) tr λN cs tr=>k (.acc H.length 0 sz N true) (dP H b none++[some (.cells cs false true)]) [b] tr) tr
    | _=>False
   | false=>False
  | _=>False
def fA:List Nat→List AV→Fast
 | t::r,v::s=>(t,v)::fA r s
 | _,_=>[]
def FQ(np:Nat)(ms bs:List (Option Bool))(ts:List AV)(vs:List AV)(H:WH)(k:List AV→WH→Prop):Prop :=
 match zT ms (jg vs ts) H with
 |(vs,H)=>match Eo bs none (BD H np (gM vs)) H with
  | H=>match BD H np (gM vs)with
   | p=>k (H6 (nH p) vs) (lS H p p)
mutual
def kQ:AV→Bool
 |.bool _ |.int .. |.str _ |.ptr none |.nilFunc=>true
 |.slice none _ 0 0 true=>true
 |.tuple cs=>LG cs
 |.agg cs=>LG cs
 | _=>false
def LG:List AV→Bool
 | []=>true
 | v::r=>match kQ v with
  | true=>LG r
  | false=>false
end
mutual
def clean:AV→Bool
 |.list .. |.elem _=>false
 |.func _ cs=>nJ cs
 |.tuple cs=>nJ cs
 |.agg cs=>nJ cs
 | _=>true
def nJ:List AV→Bool
 | []=>true
 | v::r=>match clean v with
  | true=>nJ r
  | false=>false
end
def Jb:WH→(TS→Prop)→TS→Prop
 | [],k,tr=>k tr
 | none::r,k,tr=>Jb r k tr
 | some (.cells c ro sl)::r,k,tr=>match ro,sl with
  | false,false=>match nJ c with
   | true=>Jb r k tr
   | false=>False
  | false,true=>need (nJ c=true) (Jb r k) tr
  | _,_=>False
 | some (.map _)::_,_,_=>False
def BF(H:WH):List Bool→List AV→Option (List AV×List Nat)
 | _,[]=>some ([],[])
 | bs,v::r=>match BF H bs.tail r with
  | some q=>match bs.headD false with
   | false=>some (v::q.1,q.2)
   | true=>match LA H 5 false v with
    | some p=>some (p.1::q.1,p.2++q.2)
    | none=>none
  | none=>none
def apart(S:List Nat):List Nat→Bool
 | []=>true
 | b::p=>match kK S b with
  | true=>false
  | false=>apart S p
def R_(C:aW)(g:FuncId)(args:List AV)(H:WH)(tr:TS)(k:AV→WH→List Nat→TS→Prop):Prop :=
 match tr with
 |⟨.call ms m ts v out r⟩=>match zT ms (jg args ts) H with
  |(vs,H)=>match Eo [] m (BD H 0 (gM vs)) H with
   | H=>match BD H 0 (gM vs)with
    | p=>match Nat.ble p.length out.length with
     | true=>need (Spec C g (H6 (nH p) vs) (lS H p p) v out) (k (rn (back p H.length) v) (xE H p out) p) ⟨r⟩
     | false=>False
 |⟨.cl ms ls ts v out r⟩=>match zT ms (jg args ts) H with
  |(vs,H)=>match BF H ls vs with
   | some q=>match BD (rD H q.2) 0 (gM q.1)with
    | p=>match Nat.ble p.length out.length,apart q.2 p,clean v with
     | true,true,true=>Jb out (need (Spec C g (H6 (nH p) q.1) (lS (rD H q.2) p p) v out) (k (rn (back p H.length) v) (xE H p out) p)) ⟨r⟩
     | _,_,_=>False
   | none=>False
 |⟨.cb ms ts v r⟩=>match zT ms (jg args ts) H with
  |(vs,H1)=>match BD H1 0 (gM vs),kQ v with
   | [],true=>need (Spec C g (H6 (nH []) vs) [] v []) (k v H []) ⟨r⟩
   | _,_=>False
 | _=>False
def wN(C:aW)(B:FuncId→Option Bt)(d:Option Nat)(o:tL)(H:WH)(tr:TS)(k:AV→WH→List Nat→TS→Prop):Prop :=
 match o with
 |.store n a v=>match a.ev [],(v.ev []).cells? with
  |.ptr (some (b,off)),some cs=>match Nat.beq cs.length n with
   | true=>match tr with
    |⟨.st x r⟩=>match bD H b with
     | some (.cells c false sl)=>match sl with
      | false=>match x with
       | none=>match Pf c off cs with
        | some c'=>k (.tuple []) (dP H b (some (.cells c' false false))) [b] ⟨r⟩
        | none=>False
       | some c'=>need (Pf c off cs=some c') (k (.tuple []) (dP H b (some (.cells c' false false))) [b]) ⟨r⟩
      | true=>match wz (LA H 5 true) cs with
       | some p=>match kK p.2 b with
        | true=>False
        | false=>match x with
         | none=>match Pf c off p.1 with
          | some c'=>k (.tuple []) (dP (rD H p.2) b (some (.cells c' false true))) [b] ⟨r⟩
          | none=>False
         | some c'=>need (Pf c off p.1=some c') (k (.tuple []) (dP (rD H p.2) b (some (.cells c' false true))) [b]) ⟨r⟩
       | none=>False
     | _=>False
    | _=>False
   | false=>False
  | _,_=>False
 |.call f args=>match f.ev []with
  |.func g caps=>match B g with
   | some bt=>Zi bt d (args.map (AX.ev [])++caps) H tr k
   | none=>R_ C g (args.map (AX.ev [])++caps) H tr k
  | _=>False
 |.append sz bytes s x=>match yB (x.ev []) sz H with
  | some (m,new,S)=>match Pb (s.ev []) sz (rD H S)with
   | some (len,old,H',t)=>Qc d (len+m) (old++new) tr λn cs tr=>need (dS bytes n=true) (k (.acc H'.length 0 sz n true) (H'++[some (.cells cs false true)]) t) tr
   | none=>False
  | none=>False
 |.mapUpdate kd m x v=>match m.ev []with
  |.map (some r)=>match bD H r,sc (x.ev []),AV.bU (x.ev []),sc (v.ev []),(v.ev []).cells? with
   | some (.map es),true,true,true,some _=>match tr with
    |⟨.mp es' t⟩=>need (R9 kd (x.ev []) (v.ev []) es=some es') (k (.tuple []) (dP H r (some (.map es'))) [r]) ⟨t⟩
    | _=>False
   | _,_,_,_,_=>False
  | _=>False
 |.iO kd m x=>match m.ev []with
  |.map (some r)=>match bD H r,sc (x.ev [])with
   | some (.map es),true=>match tr with
    |⟨.mp es' t⟩=>need (XG kd (x.ev []) es=some es') (k (.tuple []) (dP H r (some (.map es'))) [r]) ⟨t⟩
    | _=>False
   | _,_=>False
  | _=>False
 |.mD x=>match x.ev []with
  |.acc b 0 sz (n+1) true=>match bD H b with
   | some (.cells c false sl)=>match sl||c.all AV.flat with
    | true=>k (.acc b 0 sz (n+1) true) (dP H b (some (.cells c false true))) [b] tr
    | false=>False
   | _=>False
  | _=>False
 | _=>False
def Y5(c want:Bool)(y n:Prop):Prop :=
 match c,want with
 | true,true=>y
 | false,false=>y
 | _,_=>n
def Zj(g:Option (Nat×Bool))(l:Fast)(tr:TS)(yes no:Fast→TS→Prop):Prop :=
 match g with
 | none=>yes l tr
 | some (t,want)=>match look l t with
  |.bool c=>match tr with
   |⟨.br (b:=b) t' x y⟩=>match Nat.beq t t' with
    | true=>c=b∧((∀h,Y5 true want (yes ((t,.bool true)::l) ⟨x h⟩) (no ((t,.bool true)::l) ⟨x h⟩))∧(∀h,Y5 false want (yes ((t,.bool false)::l) ⟨y h⟩) (no ((t,.bool false)::l) ⟨y h⟩)))
    | false=>Y5 c want (yes l tr) (no l tr)
   | _=>Y5 c want (yes l tr) (no l tr)
  |.tuple _=>no l tr
  | _=>False
def Ae(l:Fast)(H:WH)(tr:TS)(k:Fast→WH→TS→Prop):Prop:=J9 k tr.tr l H
def H7(C:aW)(B:FuncId→Option Bt)(n:Nat):List qV→Fast→WH→TS→(Fast→WH→TS→Prop)→Prop
 | [],l,H,tr,k=>k l H tr
 | o::r,l,H,tr,k=>Ae l H tr λl H tr=>Zj o.guard l tr
  (λl tr=>Ae l H tr λl H tr=>match o.op with
   |.p op=>Y3 o.dst (wP (op.sub (look l))) tr λv tr=>H7 C B n r (iD n o.dst v l) H tr k
   |.l op=>Y3 o.dst (wL (op.sub (look l)) H) tr λv tr=>H7 C B n r (iD n o.dst v l) H tr k
   |.k .makeMap=>H7 C B n r (iD n o.dst (.map (some H.length)) l) (H++[some (.map [])]) tr k
   |.k op=>wK o.dst (op.sub (look l)) tr λx mk tr=>H7 C B n r (iD n o.dst (mk H.length) l) (H++[some x]) tr k
   |.n op=>wN C B o.dst (op.sub (look l)) H tr λv H _ tr=>H7 C B n r (iD n o.dst v l) H tr k)
  (λl tr=>H7 C B n r (iD n o.dst (.tuple []) l) H tr k)
def jR:List (Nat×Nat)→Nat→Nat
 | [],_=>0
 | p::r,t=>match Nat.beq p.1 t with
  | true=>p.2
  | false=>jR r t
def jv(bt:List (Nat×Nat)):AX→Nat
 |.t t=>jR bt t
 |.c _=>0
def J_(bt:List (Nat×Nat)):Option AX→Nat
 | none=>0
 | some x=>jv bt x
def LH(bt:List (Nat×Nat))(k:Nat):iJ→Nat
 |.move x=>jv bt x
 |.slice _ x a b c=>max (jv bt x) (max (J_ bt a) (max (J_ bt b) (J_ bt c)))
 |.iy _ x i=>max (jv bt x) (jv bt i)
 |.oU _ _ x i=>max (jv bt x) (jv bt i)
 |.fieldAddr _ x=>jv bt x
 |.nilCheck x=>jv bt x
 |.bin _ x y=>max (jv bt x) (jv bt y)
 |.un _ x=>jv bt x
 |.xw _ x=>jv bt x
 |.field _ _ _ x=>jv bt x
 |.index _ _ _ x i=>max (jv bt x) (jv bt i)
 |.extract x _=>jv bt x
 |.len _ x=>jv bt x
 | _=>k
def iV(n:Nat)(d:Option Nat)(k:Nat)(bt:List (Nat×Nat)):List (Nat×Nat) :=
 match d with
 | some d=>match Nat.blt d n with
  | true=>(d,k)::bt
  | false=>bt
 | none=>bt
mutual
def known:AV→Bool
 |.undef=>false
 |.func _ cs=>Du cs
 |.agg cs=>Du cs
 |.tuple cs=>Du cs
 | _=>true
def Du:List AV→Bool
 | []=>true
 | v::r=>match known v with
  | true=>Du r
  | false=>false
end
def H8(l:Fast):ny→Option (Option Nat)
 |.load _ _ (.t t)=>match look l t with
  |.elem _=>some none
  |.ptr (some q)=>some (some q.1)
  | _=>none
 |.gH (.t t)=>match look l t with
  |.list ..=>some none
  |.slice none _ _ _ _=>some none
  |.acc b _ _ _ _=>some (some b)
  | _=>none
 |.mJ (.t t)=>match look l t with
  |.map (some r)=>some (some r)
  | _=>none
 |.lookup _ _ _ (.t t) _=>match look l t with
  |.map (some r)=>some (some r)
  | _=>none
 | _=>none
def yD(bt:List (Nat×Nat)):ny→Nat
 |.load _ _ x=>jv bt x
 |.gH x=>jv bt x
 | _=>0
def uM(H:WH)(base:Nat):List Nat→Bool
 | []=>true
 | m::r=>match bD H (base+m)with
  | some (.cells _ false _)=>uM H base r
  | _=>false
def touches(b:Nat):List (List Nat×WH)→Bool
 | []=>false
 | t::r=>match kK t.1 b with
  | true=>true
  | false=>touches b r
def yE(hs:List (List Nat×WH))(lo base:Nat)(al:List Nat):Bool:=match hs.drop lo with
 |(_,Hk)::_=>uM Hk base al
 | []=>false
def FR(base:Nat)(al:List Nat)(l:Fast)(bt:List (Nat×Nat))(lo:Nat)(o:ny)(v:AV)(H:WH)(hs:List (List Nat×WH)):Bool :=
 match H8 l o with
 | some none=>match Nat.ble (yD bt o) (lo+1),known v,uM H base al||yE hs lo base al with
  | true,true,true=>true
  | true,true,false=>Nat.beq (yD bt o) 0
  | _,_,_=>false
 | some (some b)=>match known v,Nat.blt b base,touches b (hs.drop lo)with
  | true,true,false=>true
  | _,_,_=>false
 | none=>false
def yF(base:Nat)(l:Fast)(bt:List (Nat×Nat))(lo:Nat)(o:ny)(v:AV):Bool :=
 match o with
 |.load _ _ (.t t)=>match look l t,v with
  |.ptr (some (b,_)),.int _ _=>Nat.blt b base&&Nat.ble (jR bt t) (lo+1)
  |.ptr (some (b,_)),.str _=>Nat.blt b base&&Nat.ble (jR bt t) (lo+1)
  |.ptr (some (b,_)),.bool _=>Nat.blt b base&&Nat.ble (jR bt t) (lo+1)
  | _,_=>false
 | _=>false
def BG(o:ny)(x:Option AV)(k:TS→Prop):List (List Nat×WH)→TS→Prop
 | [],tr=>k tr
 | h::r,tr=>need (wL o h.2=x) (BG o x k r) tr
def Sc(l:Fast):ny→Option Nat
 |.load _ _ (.t t)=>match look l t with
  |.ptr (some q)=>some q.1
  | _=>none
 | _=>none
def vo(C:aW)(B:FuncId→Option Bt)(n base nk:Nat):List bQ→Fast→WH→TS→List (List Nat×WH)→List (Nat×Nat)→List Nat→(Fast→WH→TS→Prop)→Prop
 | [],l,H,tr,_,_,_,k=>k l H tr
 | d::r,l,H,tr,hs,bt,al,k=>Ae l H tr λl H tr=>Zj d.o.guard l tr
  (λl tr=>Ae l H tr λl H tr=>match d.o.op with
   |.p op=>Y3 d.o.dst (wP (op.sub (look l))) tr λv tr=>vo C B n base nk r (iD n d.o.dst v l) H tr hs (iV n d.o.dst (LH bt (hs.length+1) op) bt) al k
   |.l op=>Y3 d.o.dst (wL (op.sub (look l)) H) tr λv tr=>match FR base al l bt d.lo op v H hs with
    | true=>match tr with
     |⟨.er t⟩=>match Sc l op,Nat.ble (yD bt op) (d.lo+1)with
      | some _,true=>BG (op.sub (look l)) (wL (op.sub (look l)) H) (λtr=>vo C B n base nk r (iD n d.o.dst v l) H tr hs (iV n d.o.dst (d.lo+1) bt) al k) (hs.drop d.lo) ⟨t⟩
      | _,_=>False
     | _=>vo C B n base nk r (iD n d.o.dst v l) H tr hs (iV n d.o.dst (hs.length+1) bt) al k
    | false=>match yF base l bt d.lo op v with
     | true=>BG (op.sub (look l)) (wL (op.sub (look l)) H) (λtr=>vo C B n base nk r (iD n d.o.dst v l) H tr hs (iV n d.o.dst (hs.length+1) bt) al k) (hs.drop d.lo) tr
     | false=>False
   |.k op=>match Nat.blt d.ix nk,kK al d.ix with
    | true,false=>wK d.o.dst (op.sub (look l)) tr λx mk tr=>vo C B n base nk r (iD n d.o.dst (mk (base+d.ix)) l) (dP H (base+d.ix) (some x)) tr hs (iV n d.o.dst (hs.length+1) bt) (d.ix::al) k
    | _,_=>False
   |.n op=>wN C B d.o.dst (op.sub (look l)) H tr λv H' t tr=>vo C B n base nk r (iD n d.o.dst v l) H' tr (hs++[(t,H)]) (iV n d.o.dst (hs.length+2) bt) al k)
  (λl tr=>match d.o.op with
   |.n _=>vo C B n base nk r (iD n d.o.dst (.tuple []) l) H tr (hs++[([],H)]) (iV n d.o.dst (hs.length+2) bt) al k
   | _=>vo C B n base nk r (iD n d.o.dst (.tuple []) l) H tr hs (iV n d.o.dst (hs.length+1) bt) al k)
def holes:Nat→WH
 | 0=>[]
 | k+1=>none::holes k
def qX(C:aW)(B:FuncId→Option Bt)(K n np:Nat):bK→Fast→WH→TS→(Ex→Fast→WH→TS→Prop)→Prop
 |.skip,l,H,tr,k=>k .normal l H tr
 |.reg ops,l,H,tr,k=>H7 C B n ops l H tr (k .normal)
 |.JR nk ops,l,H,tr,k=>vo C B n H.length nk ops l (H++holes nk) tr [] [] [] (k .normal)
 |.seq a b,l,H,tr,k=>Ae l H tr λl H tr=>match aam tr with
  | true=>match U9 tr with
   |⟨.jn keep ms bs ts ex outs out r⟩=>FQ np ms bs ts (keep.map (look l)) (U_ tr H) λvs blks=>need (Nl (bf C K n a) np (fA keep vs) blks ex outs out) (λr =>
    match ex with
    |.normal=>qX C B K n np b outs out r k
    | ex=>k ex outs out r) ⟨r⟩
   | _=>False
  | false=>qX C B K n np a l H (match tr with
   |⟨.sk r⟩=>⟨r⟩
   | tr=>tr) λex l H tr=>match ex with
   |.normal=>qX C B K n np b l H tr k
   | ex=>k ex l H tr
 | .cond c a b,l,H,tr,k=>Ae l H tr λl H tr=>Zj (match c with
   |.t t=>some (t,true)
   |.c _=>none) l tr
  (λl tr=>match c with
   |.t _=>qX C B K n np a l H tr k
   |.c (.bool true)=>qX C B K n np a l H tr k
   |.c (.bool false)=>qX C B K n np b l H tr k
   | _=>False)
  (λl tr=>match look l (match c with
   |.t t=>t
   |.c _=>0)with
   |.bool _=>qX C B K n np b l H tr k
   | _=>False)
 |.block id c,l,H,tr,k=>qX C B K n np c l H tr λex l H tr=>match ex with
  |.exit i=>match Nat.beq i id with
   | true=>k .normal l H tr
   | false=>k (.exit i) l H tr
  | ex=>k ex l H tr
 |.loop keep c,l,H,tr,k=>Ae l H tr λl H tr=>match U9 tr with
  |⟨.lp ms bs ts ex outs out r⟩=>FQ np ms bs ts (keep.map (look l)) (U_ tr H) λvs blks=>need (Nl (fF (bf C K n c) keep K) np (fA keep vs) blks ex outs out) (k ex outs out) ⟨r⟩
  | _=>False
 |.exit id,l,H,tr,k=>k (.exit id) l H tr
 |.ret,l,H,tr,k=>k .ret l H tr
 |.fail,_,_,_,_=>False
def Va(r:uX)(l:Fast)(H:WH):Option AV :=
 match r with
 |.tmp t=>match look l t with
  |.undef=>none
  | v=>some v
 |.cell t agg n=>wL (.load agg n (.c (look l t))) H
def LJ:List uX→Fast→WH→Option (List AV)
 | [],_,_=>some []
 | r::rs,l,H=>match Va r l H,LJ rs l H with
  | some v,some vs=>some (v::vs)
  | _,_=>none
def BH(rs:List uX)(l:Fast)(H:WH):Option AV:=match LJ rs l H with
 | some [v]=>some v
 | some vs=>some (.tuple vs)
 | none=>none
def Zk(tr:TS):Option Lf:=match U9 tr with
 |⟨.leaf x _⟩=>some x
 |⟨.yC x _ _ _⟩=>some x
 | _=>none
def Vb(np:Nat)(v:AV)(H:WH)(tr:TS)(v':AV)(out:WH):Prop :=
 match Zk tr with
 | some (.fin m ts mc)=>match Yo m (retag v (ts.headD .undef)) (U_ tr H)with
  |(v,H)=>match Eo [] mc (BD H np (pU v)) H with
   | H=>match BD H np (pU v)with
    | p=>rn (nH p) v=v'∧lS H p p=out
 | _=>False
def XJ(C:aW)(B:FuncId→Option Bt)(K:Nat)(f:bF)(args:List AV)(blks:WH)(tr:TS)(v:AV)(out:WH):Prop :=
 qX C B K f.ntmps blks.length f.code (start 0 (args++List.replicate (f.ntmps-f.nargs) (.tuple []))) blks tr λex l H tr=>Ae l H tr λl H tr=>match ex with
  |.exit _=>False
  | _=>match BH f.results l H with
   | some u=>Vb blks.length u H tr v out
   | none=>False
def XK(np:Nat)(e:Ex)(l:Fast)(H:WH)(tr:TS)(x:Ex×Fast×WH):Prop :=
 Ae l H tr λl H tr=>match Zk tr with
 | some (.en keep ms bs ts)=>FQ np ms bs ts (keep.map (look l)) (U_ tr H) λvs blks=>e=x.1∧fA keep vs=x.2.1∧blks=x.2.2
 | _=>False
def XL(C:aW)(B:FuncId→Option Bt)(K n np:Nat)(c:bK)(ins:Fast)(blks:WH)(tr:TS)(x:Ex×Fast×WH):Prop :=
 qX C B K n np c ins blks tr λe l H tr=>XK np e l H tr x
theorem gq{Q:Prop}{k:TS→Prop}{tr:TS}(h:need Q k tr):∃fO,Q∧k fO:=by
 unfold need at h
 split at h
 ·exact⟨_,h⟩
 ·exact h.elim
theorem VI.Le.refl(κ:VI)(S:Nat→Prop):VI.Le κ κ S:=λ_ _=>⟨λ_ h=>⟨h,λ_ h=>h⟩,λh=>⟨h,λ_ h=>h⟩⟩
theorem VI.Le.Pg(κ:VI)(S:Nat→Prop):VI.Le VI.none κ S:=λ_ _=>⟨(λ_ h=>by cases h),(λh=>by cases h)⟩
theorem VI.Le.sub{κ l7:VI}{S T:Nat→Prop}(h:VI.Le κ l7 S)(k:∀i,T i→S i):VI.Le κ l7 T:=λi hi=>h i (k i hi)
theorem VI.Le.trans{κ κ1 κ2:VI}{S:Nat→Prop}(h:VI.Le κ κ1 S)(k:VI.Le κ1 κ2 S):VI.Le κ κ2 S:=λi hi =>
 ⟨λj hj=>⟨((k i hi).1 j ((h i hi).1 j hj).1).1,λd hd=>((k i hi).1 j ((h i hi).1 j hj).1).2 d (((h i hi).1 j hj).2 d hd)⟩,
  λhj=>⟨((k i hi).2 ((h i hi).2 hj).1).1,λd hd=>((k i hi).2 ((h i hi).2 hj).1).2 d (((h i hi).2 hj).2 d hd)⟩⟩
theorem Keeps.refl(M:Heap)(O:Nat→Prop):Keeps M O M O:=⟨Nat.le_refl _,λ_ _ h=>⟨rfl,h⟩⟩
theorem Keeps.trans{M M1 M2:Heap}{O O1 O2:Nat→Prop}(h:Keeps M O M1 O1)(k:Keeps M1 O1 M2 O2):Keeps M O M2 O2 :=
 ⟨Nat.le_trans h.next k.next,λb hb ho=>by
  obtain⟨e1,o1⟩:=h.get b hb ho
  obtain⟨e2,o2⟩:=k.get b (Nat.lt_of_lt_of_le hb h.next) o1
  exact⟨e2.trans e1,o2⟩⟩
theorem Keeps.or{M M':Heap}{ι aV:VI}(h:Keeps M (own ι) M' (own aV))(R:Nat→Prop):Keeps M (OR R ι) M' (OR R aV) :=
 ⟨h.next,λb hb ho=>by
  obtain⟨e1,e2⟩:=h.get b hb (λk=>ho (.inl k))
  exact⟨e1,λk=>k.elim e2 (λk=>ho (.inr k))⟩⟩
mutual
theorem VL.mono{M M':Heap}{O O':Nat→Prop}(hk:Keeps M O M' O'):∀(κ l7:VI) (v a:AV),VI.Le κ l7 (λi=>i∈pU v)→VL M O κ v a→VL M' O' l7 v a
 | _,_,.undef,_,_,_=>by simp[VL]
 | _,_,.bool _,_,_,e=>by simpa[VL]using e
 | _,_,.int _ _,_,_,e=>by simpa[VL]using e
 | _,_,.str _,_,_,e=>by simpa[VL]using e
 | _,_,.ptr none,_,_,e=>by simpa[VL]using e
 | κ,l7,.ptr (some q),_,h,e=>by
  simp only[VL]at e ⊢
  obtain⟨j,h1,h2⟩:=e
  exact⟨j,((h _ (by simp[pU])).1 _ h1).1,h2⟩
 | _,_,.slice none _ _ _ _,_,_,e=>by simpa[VL]using e
 | _,_,.slice (some _) _ _ _ _,_,_,e=>by simp[VL]at e
 | _,_,.map none,_,_,e=>by simpa[VL]using e
 | κ,l7,.map (some r),_,h,e=>by
  simp only[VL]at e ⊢
  obtain⟨j,h1,h2⟩:=e
  exact⟨j,((h _ (by simp[pU])).1 _ h1).1,h2⟩
 | κ,l7,.func f cs,_,h,e=>by
  simp only[VL]at e ⊢
  obtain⟨cs',h1,h2⟩:=e
  exact⟨cs',h1,aZ.mono hk κ l7 cs cs' (h.sub λi hi=>by simpa[pU]using hi) h2⟩
 | _,_,.nilFunc,_,_,e=>by simpa[VL]using e
 | κ,l7,.agg cs,_,h,e=>by
  simp only[VL]at e ⊢
  obtain⟨cs',h1,h2⟩:=e
  exact⟨cs',h1,aZ.mono hk κ l7 cs cs' (h.sub λi hi=>by simpa[pU]using hi) h2⟩
 | κ,l7,.tuple cs,_,h,e=>by
  simp only[VL]at e ⊢
  obtain⟨cs',h1,h2⟩:=e
  exact⟨cs',h1,aZ.mono hk κ l7 cs cs' (h.sub λi hi=>by simpa[pU]using hi) h2⟩
 | _,_,.list sz len cs ex,_,_,e=>by
  simp only[VL]at e ⊢
  rcases e with e |⟨b,o,cap,ex',h1,h2,h3,h4,h5⟩
  ·exact .inl e
  refine .inr ⟨b,o,cap,ex',h1,h2,h3,h4,λhl=>?_⟩
  obtain⟨c,ro,sl,g1,g2,g3,g4,g5⟩:=h5 hl
  obtain⟨e1,e2⟩:=hk.get b g3 g2
  exact⟨c,ro,sl,e1.trans g1,e2,Nat.lt_of_lt_of_le g3 hk.next,g4,aZ.mono hk _ _ cs _ (VI.Le.refl _ _) g5⟩
 | _,_,.elem cs,_,_,e=>by
  simp only[VL]at e ⊢
  obtain⟨b,o,c,ro,sl,h1,g1,g2,g3,g5⟩:=e
  obtain⟨e1,e2⟩:=hk.get b g3 g2
  exact⟨b,o,c,ro,sl,h1,e1.trans g1,e2,Nat.lt_of_lt_of_le g3 hk.next,aZ.mono hk _ _ cs _ (VI.Le.refl _ _) g5⟩
 | κ,l7,.acc b o sz n w,_,h,e=>by
  simp only[VL]at e ⊢
  obtain⟨p,s',cap,ex,h1,h2,h3,h4,m,L,h5,h6,h7,h8⟩:=e
  have hl:=h b (by simp[pU])
  rcases h8 with⟨j,k1,k2⟩ |⟨k1,k2⟩
  ·obtain⟨g1,g2⟩:=hl.1 j k1
   exact⟨p,s',cap,ex,h1,h2,h3,h4,m,L,g2 _ h5,h6,h7,.inl ⟨j,g1,k2⟩⟩
  ·obtain⟨g1,g2⟩:=hl.2 k1
   exact⟨p,s',cap,ex,h1,h2,h3,h4,m,L,g2 _ h5,h6,h7,.inr ⟨g1,k2⟩⟩
theorem aZ.mono{M M':Heap}{O O':Nat→Prop}(hk:Keeps M O M' O'):∀(κ l7:VI) (l r:List AV),VI.Le κ l7 (λi=>i∈gM l)→aZ M O κ l r→aZ M' O' l7 l r
 | _,_,[],[],_,_=>by simp[aZ]
 | κ,l7,a::l,v::r,h,e=>by
  simp only[aZ]at e ⊢
  exact⟨VL.mono hk κ l7 a v (h.sub λi hi=>by simp[gM,hi]) e.1,aZ.mono hk κ l7 l r (h.sub λi hi=>by simp[gM,hi]) e.2⟩
 | _,_,[],_::_,_,e=>by simp[aZ]at e
 | _,_,_::_,[],_,e=>by simp[aZ]at e
end
section
variable {M:Heap} {O:Nat→Prop} {κ:VI}
theorem aZ.length:∀ {l r:List AV},aZ M O κ l r→l.length=r.length
 | [],[],_=>rfl
 | _::l,_::r,e=>by
  simp only[aZ]at e
  simp[aZ.length e.2]
 | [],_::_,e=>by simp[aZ]at e
 | _::_,[],e=>by simp[aZ]at e
theorem aZ.get:∀ {l r:List AV},aZ M O κ l r→∀(i:Nat) (a:AV),l[i]?=some a→∃v,r[i]?=some v∧VL M O κ a v
 | [],_,_,i,a,h=>by simp at h
 | a::l,v::r,e,i,x,h=>by
  simp only[aZ]at e
  cases i with
  | zero =>
   simp at h
   subst h
   exact⟨v,by simp,e.1⟩
  | succ i=>simpa using aZ.get e.2 i x (by simpa using h)
 | _::_,[],e,_,_,_=>by simp[aZ]at e
theorem aZ.append:∀ {l l' r r':List AV},aZ M O κ l r→aZ M O κ l' r'→aZ M O κ (l++l') (r++r')
 | [],_,[],_,_,h=>by simpa using h
 | a::l,_,v::r,_,e,h=>by
  simp only[aZ,List.cons_append]at e ⊢
  exact⟨e.1,aZ.append e.2 h⟩
 | [],_,_::_,_,e,_=>by simp[aZ]at e
 | _::_,_,[],_,e,_=>by simp[aZ]at e
theorem aZ.drop:∀ {l r:List AV} (n:Nat),aZ M O κ l r→aZ M O κ (l.drop n) (r.drop n)
 | _,_,0,e=>by simpa using e
 | [],[],_+1,e=>by simpa using e
 | _::l,_::r,n+1,e=>by
  simp only[aZ]at e
  simpa using aZ.drop n e.2
 | [],_::_,_+1,e=>by simp[aZ]at e
 | _::_,[],_+1,e=>by simp[aZ]at e
theorem aZ.take:∀ {l r:List AV} (n:Nat),aZ M O κ l r→aZ M O κ (l.take n) (r.take n)
 | _,_,0,e=>by simp[aZ]
 | [],[],_+1,e=>by simp[aZ]
 | _::l,_::r,n+1,e=>by
  simp only[aZ]at e
  simp only[List.take_succ_cons,aZ]
  exact⟨e.1,aZ.take n e.2⟩
 | [],_::_,_+1,e=>by simp[aZ]at e
 | _::_,[],_+1,e=>by simp[aZ]at e
theorem aZ.same{l r:List AV}(h:aZ M O κ l r){n:Nat}(hn:n≤l.length):n≤r.length:=by rw[←h.length];exact hn
theorem VL.bU{v a:AV}(h:v.bU=true)(r:VL M O κ v a):a.bU=true:=by
 cases v with
 | undef=>simp[AV.bU]at h
 | agg _=>simp[AV.bU]at h
 | tuple _=>simp[AV.bU]at h
 | ptr p=>cases p<;>simp only[VL]at r<;>first |(subst r;rfl) |(obtain⟨_,_,rfl⟩:=r;rfl)
 | slice p=>cases p<;>simp only[VL]at r;obtain⟨_,_,rfl⟩:=r;rfl
 | map p=>cases p<;>simp only[VL]at r<;>first |(subst r;rfl) |(obtain⟨_,_,rfl⟩:=r;rfl)
 | func f cs=>simp only[VL]at r;obtain⟨_,rfl,_⟩:=r;rfl
 | list=>simp only[VL]at r;rcases r with⟨_,_,_,rfl⟩ |⟨_,_,_,_,rfl,_⟩<;>rfl
 | elem=>simp only[VL]at r;obtain⟨_,_,_,_,_,rfl,_⟩:=r;rfl
 | acc=>simp only[VL]at r;obtain⟨_,_,_,_,rfl,_⟩:=r;rfl
 | _=>simp only[VL]at r;subst r;rfl
theorem VL.cells{v a:AV}{cs:List AV}(h:v.cells?=some cs)(r:VL M O κ v a):∃cs',a.cells?=some cs'∧aZ M O κ cs cs':=by
 cases v with
 | undef=>simp[AV.cells?]at h
 | tuple _=>simp[AV.cells?]at h
 | agg l =>
  simp only[AV.cells?]at h
  split at h
  case isFalse=>cases h
  rename_i hall
  obtain rfl:=aj h
  simp only[VL]at r
  obtain⟨cs',rfl,hr⟩:=r
  refine⟨cs', ?_,hr⟩
  simp only[AV.cells?]
  rw[if_pos]
  rw[List.all_eq_true]
  intro x hx
  obtain⟨i,hi⟩:=List.mem_iff_getElem?.1 hx
  have hlt:i<l.length:=by rw[hr.length];exact(aC.1 hi).1
  obtain⟨y,hy,hyx⟩:=hr.get i _ (aS hlt)
  rw[hi]at hy
  obtain rfl:=aj hy
  exact hyx.bU (List.all_eq_true.1 hall _ (List.getElem_mem hlt))
 | _ =>
  all_goals
   simp only[AV.cells?,au]at h
   subst h
   have hc:=VL.bU (by rfl) r
   refine⟨[a], ?_,by simp only[aZ];exact⟨r,trivial⟩⟩
   cases a<;>simp_all [AV.cells?,AV.bU]
end
mutual
def nK:AV→Bool
 |.ptr (some _) |.slice (some _) _ _ _ _ |.map (some _) |.list .. |.elem _ |.acc ..=>false
 |.slice none _ l c e=>l==0&&c==0&&e
 |.func _ cs=>lg cs
 |.agg cs=>lg cs
 |.tuple cs=>lg cs
 | _=>true
def lg:List AV→Bool
 | []=>true
 | v::r=>nK v&&lg r
end
mutual
theorem VL.const{M:Heap}{O:Nat→Prop}{κ:VI}:∀v:AV,nK v=true→VL M O κ v v
 |.undef,_=>by simp[VL]
 |.bool _,_=>by simp[VL]
 |.int _ _,_=>by simp[VL]
 |.str _,_=>by simp[VL]
 |.ptr none,_=>by simp[VL]
 |.ptr (some _),h=>by simp[nK]at h
 |.slice none s l c e,h=>by
  simp only[nK,Bool.and_eq_true,beq_iff_eq]at h
  simp only[VL]
  exact⟨⟨h.1.1,h.1.2,h.2⟩,s,by rw[h.1.1,h.1.2,h.2]⟩
 |.slice (some _) _ _ _ _,h=>by simp[nK]at h
 |.map none,_=>by simp[VL]
 |.map (some _),h=>by simp[nK]at h
 |.func f cs,h=>by simp only[VL];exact⟨cs,rfl,aZ.const cs (by simpa[nK]using h)⟩
 |.nilFunc,_=>by simp[VL]
 |.agg cs,h=>by simp only[VL];exact⟨cs,rfl,aZ.const cs (by simpa[nK]using h)⟩
 |.tuple cs,h=>by simp only[VL];exact⟨cs,rfl,aZ.const cs (by simpa[nK]using h)⟩
 |.list ..,h=>by simp[nK]at h
 |.elem _,h=>by simp[nK]at h
 |.acc ..,h=>by simp[nK]at h
theorem aZ.const{M:Heap}{O:Nat→Prop}{κ:VI}:∀l:List AV,lg l=true→aZ M O κ l l
 | [],_=>by simp[aZ]
 | v::r,h=>by
  simp only[lg,Bool.and_eq_true]at h
  simp only[aZ]
  exact⟨VL.const v h.1,aZ.const r h.2⟩
end
theorem aZ.je{M:Heap}{O:Nat→Prop}{κ:VI}{z:List AV}(h:lg z=true):∀n,aZ M O κ (je n z) (je n z)
 | 0=>by simp[Proofs.Ytkedeiklmpkgkaa.je,aZ]
 | n+1=>(aZ.const z h).append (aZ.je h n)
def AX.bE:AX→Bool
 |.t _=>true
 |.c v=>nK v
def okO:Option AX→Bool
 | none=>true
 | some x=>x.bE
def iJ.bE:iJ→Bool
 |.move x=>x.bE
 |.pick c a b=>c.bE&&a.bE&&b.bE
 |.build z ps=>lg z&&ps.all λp=>p.2.2.bE
 |.nilCheck x=>x.bE
 |.bin _ x y=>x.bE&&y.bE
 |.Rl _ x y=>x.bE&&y.bE
 |.Rm _ _ x y=>x.bE&&y.bE
 |.Rn _ x y=>x.bE&&y.bE
 |.PU _ x y=>x.bE&&y.bE
 |.un _ x=>x.bE
 |.xw _ x=>x.bE
 |.yh x=>x.bE
 |.qy _ cs=>cs.all AX.bE
 |.jW x a b=>x.bE&&okO a&&okO b
 |.slice _ x a b c=>x.bE&&okO a&&okO b&&okO c
 |.fieldAddr _ x=>x.bE
 |.field _ _ _ x=>x.bE
 |.oU _ _ x i=>x.bE&&i.bE
 |.iy _ x i=>x.bE&&i.bE
 |.index _ _ _ x i=>x.bE&&i.bE
 |.jm x i=>x.bE&&i.bE
 |.extract x _=>x.bE
 |.len _ x=>x.bE
 |.cap x=>x.bE
 |.nA _ xs=>xs.all AX.bE
def ny.bE:ny→Bool
 |.load _ _ x=>x.bE
 |.gH x=>x.bE
 |.mJ x=>x.bE
 |.lookup _ _ z x k=>nK z&&x.bE&&k.bE
def xA.bE:xA→Bool
 |.alloc z=>lg z
 |.box x=>x.bE
 |.buildSlice _ _ z ps=>lg z&&ps.all λp=>p.2.bE
 |.makeSlice _ _ z l c=>lg z&&l.bE&&c.bE
 |.jo x=>x.bE
 |.makeMap=>true
def tL.bE:tL→Bool
 |.store _ a v=>a.bE&&v.bE
 |.call f xs=>f.bE&&xs.all AX.bE
 |.append _ _ s x=>s.bE&&x.bE
 |.nC _ _ z s n=>lg z&&s.bE&&n.bE
 |.copy _ d s=>d.bE&&s.bE
 |.clear _ z x=>lg z&&x.bE
 |.mapUpdate _ m k v=>m.bE&&k.bE&&v.bE
 |.iO _ m k=>m.bE&&k.bE
 |.mD x=>x.bE
 |.fail=>true
def qz.bE:qz→Bool
 |.p o=>o.bE
 |.l o=>o.bE
 |.k o=>o.bE
 |.n o=>o.bE
def bK.bE:bK→Bool
 |.reg ops=>ops.all λo=>o.op.bE
 |.JR _ ops=>ops.all λd=>d.o.op.bE
 |.seq a b=>a.bE&&b.bE
 |.cond c a b=>c.bE&&a.bE&&b.bE
 |.block _ c=>c.bE
 |.loop _ c=>c.bE
 | _=>true
def AV.kQ:AV→Bool
 |.bool _ |.int _ _ |.str _=>true
 | _=>false
section
variable {M:Heap} {O:Nat→Prop} {κ:VI}
theorem VL.kQ{v:AV}(h:v.kQ=true):VL M O κ v v:=by
 cases v<;>simp[AV.kQ]at h<;>simp[VL]
theorem VL.eq{v a:AV}(h:v.kQ=true)(r:VL M O κ v a):a=v:=by
 cases v<;>simp[AV.kQ]at h<;>simpa[VL]using r
theorem Nn{op:BinOp}{k:IntKind}{x y:Int}{v:AV}(h:zZ op k x y=some v):v.kQ=true:=by
 cases op<;>simp only[zZ]at h
 all_goals first |(cases h;rfl) |(cases h;done) |(split at h<;>cases h<;>rfl)
theorem Np{op:BinOp}{x y:List UInt8}{v:AV}(h:KV op x y=some v):v.kQ=true:=by
 cases op<;>simp only[KV]at h
 all_goals first |(cases h;rfl) |(cases h;done) |(split at h<;>cases h<;>rfl)
theorem Qd{op:BinOp}{x y v:AV}(h:ED op x y=some v):v.kQ=true∧x.kQ=true∧y.kQ=true:=by
 cases x<;>cases y<;>simp only[ED]at h<;>first |(cases h;done) | skip
 ·refine⟨?_,rfl,rfl⟩
  split at h
  ·split at h<;>cases h<;>rfl
  ·split at h<;>cases h<;>rfl
  ·split at h
   ·exact Nn h
   ·cases h
 ·exact⟨Np h,rfl,rfl⟩
theorem LK{k:Kd}{x y x' y':AV}{b:Bool}(hx:VL M O κ x x')(hy:VL M O κ y y')(h:EF k x y=some b):EF k x' y'=some b:=by
 have hs:x.kQ=true∧y.kQ=true:=by
  cases k<;>cases x<;>simp only[EF]at h<;>first |(cases h;done) |(cases y<;>simp only at h<;>first |(cases h;done) | exact⟨rfl,rfl⟩)
 rw[hx.eq hs.1,hy.eq hs.2]
 exact h
theorem Jc:∀ {ks:List Kd} {l r l' r':List AV} {b:Bool},aZ M O κ l l'→aZ M O κ r r'→iA ks l r=some b→iA ks l' r'=some b
 | [],[],[],l',r',b,hl,hr,h=>by
  cases l' with
  | cons _ _=>simp[aZ]at hl
  | nil=>cases r' with
   | cons _ _=>simp[aZ]at hr
   | nil=>exact h
 | k::ks,a::l,c::r,l',r',b,hl,hr,h=>by
  cases l' with
  | nil=>simp[aZ]at hl
  | cons a' l' =>
   cases r' with
   | nil=>simp[aZ]at hr
   | cons c' r' =>
    simp only[aZ]at hl hr
    simp only[iA]at h ⊢
    split at h
    ·rename_i x y h1 h2
     rw[LK hl.1 hr.1 h1,Jc hl.2 hr.2 h2]
     exact h
    ·cases h
 | [],[],_::_,_,_,_,_,_,h=>by simp[iA]at h
 | [],_::_,_,_,_,_,_,_,h=>by simp[iA]at h
 | _::_,[],_,_,_,_,_,_,h=>by simp[iA]at h
 | _::_,_::_,[],_,_,_,_,_,h=>by simp[iA]at h
theorem Sd{x y x' y':AV}{b:Bool}(hx:VL M O κ x x')(hy:VL M O κ y y')(h:Hz x y=some b):Hz x' y'=some b:=by
 unfold Hz at h
 split at h
 ·rename_i c
  simp only[VL]at hx
  subst hx
  cases c with
  | none=>simp only[VL]at hy;subst hy;simpa[Hz]using h
  | some c=>simp only[VL]at hy;obtain⟨j,_,rfl⟩:=hy;simpa[Hz]using h
 ·simp only[VL]at hx hy
  obtain⟨j,_,rfl⟩:=hx
  subst hy
  simpa[Hz]using h
 ·rename_i c d
  simp only[VL]at hx hy
  obtain⟨j,h1,rfl⟩:=hx
  obtain⟨j',h2,rfl⟩:=hy
  split at h
  ·rename_i e
   rw[e,h2]at h1
   obtain rfl:=aj h1
   simpa[Hz]using h
  ·cases h
 ·cases h
theorem Nq{v a:AV}{m n:Nat}(r:VL M O κ v a)(h:kD v m=some n):kD a m=some n:=by
 cases v<;>simp only[kD]at h<;>first |(cases h;done) | skip
 simp only[VL]at r
 subst r
 simpa[kD]using h
theorem dG{v:AV}{m m' n:Nat}(h:kD v m=some n)(hm:m≤m'):kD v m'=some n∧n≤m:=by
 cases v<;>simp only[kD]at h<;>first |(cases h;done) | skip
 split at h
 case isFalse=>cases h
 rename_i k i hi
 obtain rfl:=aj h
 simp only[kD]
 rw[if_pos (by omega)]
 exact⟨rfl,by omega⟩
theorem Ka{m:Bool}{x y v:AV}(h:EZ m x y=some v):v.kQ=true∧x.kQ=true∧y.kQ=true:=by
 cases x<;>cases y<;>simp only[EZ]at h<;>first |(cases h;done) | skip
 split at h<;>cases h<;>exact⟨rfl,rfl,rfl⟩
theorem Jd{m:Bool}:∀ {l l':List AV} {x x' v:AV},VL M O κ x x'→aZ M O κ l l'→Bl m x l=some v→∃a,Bl m x' l'=some a∧VL M O κ v a
 | [],l',x,x',v,hx,hl,h=>by
  have:=hl.length
  cases l'<;>simp at this
  simp only[Bl,au]at h ⊢
  subst h
  exact⟨x',rfl,hx⟩
 | y::l,l',x,x',v,hx,hl,h=>by
  cases l' with
  | nil=>simp[aZ]at hl
  | cons y' l' =>
   simp only[aZ]at hl
   simp only[Bl]at h ⊢
   obtain⟨z,h1,h2⟩:=aA.1 h
   obtain⟨s1,s2,s3⟩:=Ka h1
   obtain rfl:=hx.eq s2
   obtain rfl:=hl.1.eq s3
   rw[h1,ak]
   exact Jd (VL.kQ s1) hl.2 h2
theorem Je{g:Bool}{off n:Nat}{cs cs':List AV}{v:AV}(r:aZ M O κ cs cs')(h:tX g off n cs=some v):∃a,tX g off n cs'=some a∧VL M O κ v a:=by
 unfold tX at h ⊢
 cases g with
 | true =>
  simp only[if_true,au]at h ⊢
  subst h
  exact⟨_,rfl,by simp only[VL];exact⟨_,rfl,(r.drop off).take n⟩⟩
 | false =>
  simp only[Bool.false_eq_true,if_false]at h ⊢
  exact r.get off v h
theorem H9{c:List AV}{o n l m:Nat}(h:l+m≤n):((((c.drop o).take n).drop l).take m)=((c.drop (o+l)).take m):=by
 rw[List.drop_take,List.take_take,List.drop_drop,Nat.min_eq_left (by omega)]
theorem Jf {sz len h l:Nat} {cs:List AV} {b o:Nat} {ex1:Bool} {Vd:Nat} {ex2:Bool} (hl:l≤h) (hh:h≤len) (hcs:cs.length=len*sz)
  (hc:len≠0→∃c ro sl,M.get b=some (.cells c ro sl)∧¬O b∧b<M.next∧o+len*sz≤c.length∧aZ M O VI.none cs ((c.drop o).take (len*sz))) (h1:h-l≤Vd) (h2:ex2=true→ex1=true∧Vd=h-l) :
  VL M O κ (.list sz (h-l) ((cs.drop (l*sz)).take ((h-l)*sz)) ex2) (.slice (some (b,o+l*sz)) sz (h-l) Vd ex1):=by
 have e:l*sz+(h-l)*sz=h*sz:=by rw[←Nat.add_mul];congr 1;omega
 have e2:h*sz≤len*sz:=Nat.mul_le_mul_right _ hh
 simp only[VL]
 refine .inr ⟨b,_,Vd,ex1,rfl,h1,h2, ?_,λhne=>?_⟩
 ·rw[aJ,aO,hcs]
  omega
 ·obtain⟨c,ro,sl,g1,g2,g3,g4,g5⟩:=hc (by omega)
  refine⟨c,ro,sl,g1,g2,g3,by omega, ?_⟩
  have:=(g5.drop (l*sz)).take ((h-l)*sz)
  rwa [H9 (by omega)]at this
theorem LM:∀ {n:Nat} {l r:List AV},yA n l=some r→n≤l.length∧r=l.take n
 | 0,l,r,h=>by simp only[yA,au]at h;subst h;simp
 | n+1,[],r,h=>by simp[yA]at h
 | n+1,c::l,r,h=>by
  simp only[yA]at h
  split at h
  case h_2=>cases h
  rename_i q hq
  obtain rfl:=aj h
  obtain⟨h1,h2⟩:=LM hq
  exact⟨by simp;omega,by simp[h2]⟩
theorem Sg:∀ {l:List AV} {i:Nat},O_ l i=l[i]?
 | [],i=>by simp[O_]
 | v::_,0=>by simp[O_]
 | _::r,i+1=>by simp[O_,Sg (l:=r)]
theorem FT{g:Bool}{off n:Nat}{cs:List AV}{v:AV}(h:sJ g off n cs=some v):tX g off n cs=some v∧(g=true→n≤(cs.drop off).length):=by
 unfold sJ at h
 cases g with
 | true =>
  simp only at h
  split at h
  case h_2=>cases h
  rename_i l hl
  obtain rfl:=aj h
  obtain⟨h1,rfl⟩:=LM hl
  exact⟨by simp[tX],λ_=>h1⟩
 | false =>
  simp only at h
  rw[Sg]at h
  exact⟨by simpa[tX]using h,λh=>by cases h⟩
theorem FU {b off sz n cap m L l y cap':Nat} {ex ex':Bool} {p:Option (Nat×Nat)} (hn:n≤cap) (hnp:p=none→cap=0∧ex=true) (hd:κ.dim b=some (m,L)) (hm:off+n*sz≤m)
  (hx:(∃j,κ b=some j∧((p=some (j,off)∧off+cap*sz≤L)∨(n=0∧cap=0∧ex=true)))∨(κ.Dt b=true∧n=0∧cap=0∧ex=true∧m=0))
  (h1:l≤y) (h2:y≤n) (h3:y-l≤cap') (h4:cap'≤cap-l) (h5:cap=0→ex=true→ex'=true) :
  VL M O κ (.acc b (off+l*sz) sz (y-l) false) (.slice (jd p (l*sz)) sz (y-l) cap' ex'):=by
 have e1:l*sz+(y-l)*sz=y*sz:=by rw[←Nat.add_mul];congr 1;omega
 have e2:y*sz≤n*sz:=Nat.mul_le_mul_right _ h2
 have e3:l*sz+cap'*sz≤cap*sz:=by rw[←Nat.add_mul];exact Nat.mul_le_mul_right _ (by omega)
 simp only[VL]
 refine⟨_,_,_,_,rfl,h3,λhp=>?_,λ_=>rfl,m,L,hd,by omega,(λh=>by cases h), ?_⟩
 ·cases p with
  | none=>exact⟨by have:=(hnp rfl).1;omega,h5 (hnp rfl).1 (hnp rfl).2⟩
  | some p=>simp[jd]at hp
 ·rcases hx with⟨j,g1,g2⟩ |⟨g1,g2,g3,g4,g5⟩
  ·refine .inl ⟨j,g1, ?_⟩
   rcases g2 with⟨rfl,g2⟩ |⟨g2,g3,g4⟩
   ·exact .inl ⟨by simp[jd],by omega⟩
   ·exact .inr ⟨by omega,by omega,h5 g3 g4⟩
  ·exact .inr ⟨g1,by omega,by omega,h5 g3 g4,g5⟩
section
variable {ρ σ:Nat→AV} (h:∀t,VL M O κ (ρ t) (σ t))
include h
theorem bI{x:AX}(hc:x.bE=true):VL M O κ ((x.sub ρ).ev []) ((x.sub σ).ev []):=by
 cases x with
 | t n=>exact h n
 | c v=>exact VL.const v hc
theorem Fb:∀ {xs:List AX},xs.all AX.bE=true→aZ M O κ ((xs.map (AX.sub ρ)).map (AX.ev [])) ((xs.map (AX.sub σ)).map (AX.ev []))
 | [],_=>by simp[aZ]
 | x::xs,hc=>by
  simp only[List.all_cons,Bool.and_eq_true]at hc
  simp only[List.map_cons,aZ]
  exact⟨bI h hc.1,Fb hc.2⟩
theorem mK{x:Option AX}(hc:okO x=true){other m n:Nat}(hb:bA [] (AX.fq ρ x) other m=some n):bA [] (AX.fq σ x) other m=some n:=by
 cases x with
 | none=>exact hb
 | some x=>exact Nq (bI h hc) hb
theorem Jg:∀ {ps:List (Nat×Nat×AX)} {cs cs' l:List AV},(ps.all λp=>p.2.2.bE)=true→aZ M O κ cs cs' →
  kF cs (ps.map λp=>(p.1,p.2.1,(p.2.2.sub ρ).ev []))=some l→∃l',kF cs' (ps.map λp=>(p.1,p.2.1,(p.2.2.sub σ).ev []))=some l'∧aZ M O κ l l'
 | [],cs,cs',l,_,hr,hf=>by
  simp only[List.map_nil,kF,au]at hf ⊢
  subst hf
  exact⟨cs',rfl,hr⟩
 | p::ps,cs,cs',l,hc,hr,hf=>by
  simp only[List.all_cons,Bool.and_eq_true]at hc
  simp only[List.map_cons,kF]at hf ⊢
  split at hf
  case h_2=>cases hf
  rename_i x hx
  split at hf
  case isFalse=>cases hf
  rename_i hle
  obtain⟨x',hx',Zl⟩:=(bI h hc.1).cells hx
  rw[hx']
  simp only
  rw[if_pos (by rw[←Zl.length,←hr.length];exact hle)]
  refine Jg hc.2 ?_ hf
  exact((hr.take _).append Zl).append (hr.drop _)
theorem Sj{o:iJ}(hc:o.bE=true){v:AV}(hv:wP (o.sub ρ)=some v):∃a,aP (o.sub σ) []=some a∧VL M O κ v a:=by
 cases o with
 | move x =>
  have hx:=bI h hc
  simp only[iJ.sub,wP,aP,au]at hv ⊢
  subst hv
  exact⟨_,rfl,hx⟩
 | pick c a b =>
  simp only[iJ.bE,Bool.and_eq_true]at hc
  have h1:=bI h hc.1.1
  have h2:=bI h hc.1.2
  have h3:=bI h hc.2
  simp only[iJ.sub,wP,aP]at hv ⊢
  generalize (c.sub ρ).ev []=C at *
  cases C<;>(try simp only at hv)<;>first |(cases hv;done) | skip
  rename_i w
  simp only[VL]at h1
  rw[h1]
  cases w<;>simp only[au]at hv ⊢<;>subst hv
  ·exact⟨_,rfl,h3⟩
  ·exact⟨_,rfl,h2⟩
 | build z ps =>
  simp only[iJ.bE,Bool.and_eq_true]at hc
  simp only[iJ.sub,wP,aP,List.map_map]at hv ⊢
  obtain⟨l,h1,rfl⟩:=av.1 hv
  obtain⟨l',h2,h3⟩:=Jg h hc.2 (aZ.const z hc.1) h1
  refine⟨.agg l', ?_,by simp only[VL];exact⟨l',rfl,h3⟩⟩
  rw[av]
  exact⟨l',h2,rfl⟩
 | nilCheck x =>
  have hx:=bI h hc
  simp only[iJ.sub,wP,aP]at hv ⊢
  generalize (x.sub ρ).ev []=X at *
  generalize (x.sub σ).ev []=X' at *
  cases X with
  | ptr p =>
   cases p with
   | none=>simp at hv
   | some q =>
    simp only[au]at hv
    subst hv
    simp only[VL]at hx
    obtain⟨j,h1,rfl⟩:=hx
    exact⟨_,rfl,by simp only[VL];exact⟨j,h1,rfl⟩⟩
  | func f cs =>
   simp only[au]at hv
   subst hv
   simp only[VL]at hx
   obtain⟨cs',rfl,h1⟩:=hx
   exact⟨_,rfl,by simp only[VL];exact⟨cs',rfl,h1⟩⟩
  | elem cs =>
   simp only[au]at hv
   subst hv
   have hx':=hx
   simp only[VL]at hx
   obtain⟨b,o,c,ro,sl,rfl,_⟩:=hx
   exact⟨_,rfl,hx'⟩
  | _=>simp at hv
 | bin op x y =>
  simp only[iJ.bE,Bool.and_eq_true]at hc
  have hx:=bI h hc.1
  have hy:=bI h hc.2
  simp only[iJ.sub,wP,aP]at hv ⊢
  obtain⟨s1,s2,s3⟩:=Qd hv
  rw[hx.eq s2,hy.eq s3]
  exact⟨v,hv,VL.kQ s1⟩
 | Rl neg x y =>
  simp only[iJ.bE,Bool.and_eq_true]at hc
  have hx:=bI h hc.1
  have hy:=bI h hc.2
  simp only[iJ.sub,wP,aP]at hv ⊢
  obtain⟨b,h1,rfl⟩:=av.1 hv
  rw[LK hx hy h1]
  exact⟨_,rfl,by simp[VL]⟩
 | Rm neg ks x y =>
  simp only[iJ.bE,Bool.and_eq_true]at hc
  have hx:=bI h hc.1
  have hy:=bI h hc.2
  simp only[iJ.sub,wP,aP]at hv ⊢
  generalize (x.sub ρ).ev []=X at *
  generalize (y.sub ρ).ev []=Y at *
  cases X<;>(try simp only at hv)<;>first |(cases hv;done) | skip
  cases Y<;>(try simp only at hv)<;>first |(cases hv;done) | skip
  simp only[VL]at hx hy
  obtain⟨l',e1,hl⟩:=hx
  obtain⟨r',e2,hr⟩:=hy
  obtain⟨b,h1,rfl⟩:=av.1 hv
  rw[e1,e2]
  simp only[Jc hl hr h1]
  exact⟨_,rfl,by simp[VL]⟩
 | Rn neg x y =>
  simp only[iJ.bE,Bool.and_eq_true]at hc
  have hx:=bI h hc.1
  have hy:=bI h hc.2
  simp only[iJ.sub,wP,aP]at hv ⊢
  obtain⟨b,h1,rfl⟩:=av.1 hv
  rw[Sd hx hy h1]
  exact⟨_,rfl,by simp[VL]⟩
 | PU neg x y =>
  simp only[iJ.bE,Bool.and_eq_true]at hc
  have hx:=bI h hc.1
  have hy:=bI h hc.2
  simp only[iJ.sub,wP,aP]at hv ⊢
  generalize (x.sub ρ).ev []=X at *
  generalize (y.sub ρ).ev []=Y at *
  generalize (x.sub σ).ev []=X' at *
  generalize (y.sub σ).ev []=Y' at *
  split at hv
  ·simp only[VL]at hx hy
   obtain⟨b,o,cap,ex',rfl,_⟩:=hx.resolve_left (λh=>by cases h.1)
   obtain⟨_,s',rfl⟩:=hy
   simp only[au]at hv
   subst hv
   exact⟨.bool neg,by simp[JU],by simp[VL]⟩
  ·simp only[VL]at hx hy
   obtain⟨b,o,cap,ex',rfl,_⟩:=hy.resolve_left (λh=>by cases h.1)
   obtain⟨_,s',rfl⟩:=hx
   simp only[au]at hv
   subst hv
   exact⟨.bool neg,by simp[JU],by simp[VL]⟩
  ·simp only[VL]at hx hy
   obtain⟨_,s',rfl⟩:=hx
   obtain⟨_,s'',rfl⟩:=hy
   simp only[au]at hv
   subst hv
   exact⟨.bool (!neg),by cases neg<;>simp[JU],by simp[VL]⟩
  ·cases hv
 | un op x =>
  have hx:=bI h hc
  simp only[iJ.sub,wP,aP]at hv ⊢
  have:((x.sub ρ).ev []).kQ=true∧v.kQ=true:=by
   generalize (x.sub ρ).ev []=X at *
   cases X<;>cases op<;>simp only[aUn]at hv<;>first |(cases hv;done) |(cases hv;exact⟨rfl,rfl⟩)
  rw[hx.eq this.1]
  exact⟨v,hv,VL.kQ this.2⟩
 | xw k x =>
  have hx:=bI h hc
  simp only[iJ.sub,wP,aP]at hv ⊢
  generalize (x.sub ρ).ev []=X at *
  cases X<;>(try simp only at hv)<;>first |(cases hv;done) | skip
  obtain rfl:=aj hv
  rw[hx.eq rfl]
  exact⟨_,rfl,by simp[VL]⟩
 | yh x =>
  have hx:=bI h hc
  simp only[iJ.sub,wP,aP]at hv ⊢
  generalize (x.sub ρ).ev []=X at *
  cases X<;>(try simp only at hv)<;>first |(cases hv;done) | skip
  obtain rfl:=aj hv
  rw[hx.eq rfl]
  exact⟨_,rfl,by simp[VL]⟩
 | qy f cs =>
  simp only[iJ.sub,wP,aP,au]at hv ⊢
  subst hv
  exact⟨_,rfl,by simp only[VL];exact⟨_,rfl,Fb h hc⟩⟩
 | jW x lo hi =>
  simp only[iJ.bE,Bool.and_eq_true]at hc
  have hx:=bI h hc.1.1
  simp only[iJ.sub,wP,aP]at hv ⊢
  generalize (x.sub ρ).ev []=X at *
  cases X<;>(try simp only at hv)<;>first |(cases hv;done) | skip
  rw[hx.eq rfl]
  simp only[uY]at hv ⊢
  obtain⟨a,h1,hv⟩:=aA.1 hv
  obtain⟨b,h2,hv⟩:=aA.1 hv
  obtain rfl:=aj hv
  rw[mK h hc.2 h1,ak,mK h hc.1.2 h2,ak]
  exact⟨_,rfl,by simp[VL]⟩
 | slice sz x lo hi mx =>
  simp only[iJ.bE,Bool.and_eq_true]at hc
  obtain⟨⟨⟨cx,BD⟩,chi⟩,cmx⟩:=hc
  have hx:=bI h cx
  simp only[iJ.sub,wP,aP]at hv ⊢
  generalize (x.sub ρ).ev []=X at *
  generalize (x.sub σ).ev []=X' at *
  have tr:∀ {a:Option (Nat×Nat)} {sz' len cap:Nat} {ex:Bool} {w:AV},iB sz a sz' len cap ex [] (AX.fq ρ lo) (AX.fq ρ hi) (AX.fq ρ mx)=some w→iB sz a sz' len cap ex [] (AX.fq σ lo) (AX.fq σ hi) (AX.fq σ mx)=some w:=by
   intro a sz' len cap ex w hw
   unfold iB at hw ⊢
   split at hw
   case isFalse=>cases hw
   rename_i hcond
   rw[if_pos hcond]
   cases mx with
   | none =>
    simp only[AX.fq,Option.map_none]at hw ⊢
    obtain⟨a,h1,hw⟩:=aA.1 hw
    obtain⟨b,h2,hw⟩:=aA.1 hw
    have:=mK h chi h1
    simp only[AX.fq]at this
    rw[this,ak]
    have:=mK h BD h2
    simp only[AX.fq]at this
    rw[this,ak]
    exact hw
   | some mx =>
    cases hi with
    | none =>
     simp only[AX.fq,Option.map_none,aG]at hw
     obtain⟨m,_,hw⟩:=aA.1 hw
     cases hw
    | some hi =>
     simp only[AX.fq,aG]at hw ⊢
     obtain⟨m,h0,hw⟩:=aA.1 hw
     obtain⟨a,h1,hw⟩:=aA.1 hw
     obtain⟨b,h2,hw⟩:=aA.1 hw
     have:=mK h cmx h0
     simp only[AX.fq,aG]at this
     rw[this,ak]
     have:=mK h chi h1
     simp only[AX.fq,aG]at this
     rw[this,ak]
     have:=mK h BD h2
     simp only[AX.fq]at this
     rw[this,ak]
     exact hw
  cases X with
  | list sz' len cs ex =>
   simp only[VL]at hx
   simp only[FP]at hv
   split at hv
   case isFalse=>cases hv
   rename_i he
   subst he
   rcases hx with⟨rfl,rfl,s',rfl⟩ |⟨b,o,cap,ex',rfl,h1,h2,h3,h4⟩
   ·have fin:∀w,iB sz' none s' 0 0 true [] (AX.fq ρ lo) (AX.fq ρ hi) (AX.fq ρ mx)=some w→VL M O κ v w→∃a,iB sz' none s' 0 0 true [] (AX.fq σ lo) (AX.fq σ hi) (AX.fq σ mx)=some a∧VL M O κ v a :=
     λw h1 h2=>⟨w,tr h1,h2⟩
    cases mx with
    | none =>
     simp only[AX.fq,Option.map_none]at hv
     obtain⟨y,g1,hv⟩:=aA.1 hv
     obtain⟨l,g2,hv⟩:=aA.1 hv
     obtain rfl:=aj hv
     have gy:y=0:=by
      cases hi with
      | none=>simpa[bA]using g1.symm
      | some hi=>have:=(dG g1 (Nat.le_refl _)).2;omega
     subst gy
     have gl:l=0:=by
      cases lo with
      | none=>simpa[bA]using g2.symm
      | some lo=>have:=(dG g2 (Nat.le_refl _)).2;omega
     subst gl
     refine fin (.slice none sz' 0 0 true) ?_ ?_
     ·unfold iB
      simp only[AX.fq,true_or,if_true,Option.map_none,jd]
      rw[g1,ak,g2]
      rfl
     ·simp only[VL]
      exact .inl (by simp)
    | some mx =>
     cases hi with
     | none =>
      simp only[AX.fq,Option.map_none,aG]at hv
      obtain⟨m,_,hv⟩:=aA.1 hv
      cases hv
     | some hi =>
      simp only[AX.fq,aG]at hv
      obtain⟨m,g0,hv⟩:=aA.1 hv
      obtain⟨y,g1,hv⟩:=aA.1 hv
      obtain⟨l,g2,hv⟩:=aA.1 hv
      obtain rfl:=aj hv
      have gm:=(dG g0 (Nat.le_refl _)).2
      obtain rfl:m=0:=by omega
      have gy:=(dG g1 (Nat.le_refl _)).2
      obtain rfl:y=0:=by omega
      have gl:l=0:=by
       cases lo with
       | none=>simpa[bA]using g2.symm
       | some lo=>have:=(dG g2 (Nat.le_refl _)).2;omega
      subst gl
      refine fin (.slice none sz' 0 0 true) ?_ ?_
      ·unfold iB
       simp only[AX.fq,true_or,if_true,aG,jd]
       rw[g0,ak,g1,ak,g2]
       rfl
      ·simp only[VL]
       exact .inl (by simp)
   simp only
   cases mx with
   | none =>
    simp only[AX.fq,Option.map_none]at hv
    obtain⟨y,g1,hv⟩:=aA.1 hv
    obtain⟨l,g2,hv⟩:=aA.1 hv
    obtain rfl:=aj hv
    have gy:bA [] (AX.fq ρ hi) len cap=some y∧y≤len:=by
     cases hi with
     | none =>
      simp only[bA,Option.map_none,AX.fq,au]at g1 ⊢
      omega
     | some hi=>exact dG g1 h1
    have gl:l≤y:=by
     cases lo with
     | none=>simp only[bA,Option.map_none,au]at g2;omega
     | some lo=>exact(dG g2 (Nat.le_refl _)).2
    refine⟨_,tr (w:=.slice (some (b,o+l*sz')) sz' (y-l) (cap-l) ex') ?_, ?_⟩
    ·unfold iB
     simp only[AX.fq,or_true,if_true,Option.map_none,jd,aG]
     rw[show bA [] (hi.map (AX.sub ρ)) len cap=some y from gy.1,ak,g2,ak]
    ·exact Jf gl gy.2 h3 h4 (by omega) λhe=>by cases he
   | some mx =>
    cases hi with
    | none =>
     simp only[AX.fq,Option.map_none,aG]at hv
     obtain⟨m,_,hv⟩:=aA.1 hv
     cases hv
    | some hi =>
     simp only[AX.fq,aG]at hv
     obtain⟨m,g0,hv⟩:=aA.1 hv
     obtain⟨y,g1,hv⟩:=aA.1 hv
     obtain⟨l,g2,hv⟩:=aA.1 hv
     obtain rfl:=aj hv
     obtain⟨m1,m2⟩:=dG g0 h1
     obtain⟨_,y2⟩:=dG g1 (Nat.le_refl _)
     have gl:l≤y:=by
      cases lo with
      | none=>simp only[bA,Option.map_none,au]at g2;omega
      | some lo=>exact(dG g2 (Nat.le_refl _)).2
     refine⟨_,tr (w:=.slice (some (b,o+l*sz')) sz' (y-l) (m-l) true) ?_, ?_⟩
     ·unfold iB
      simp only[AX.fq,or_true,if_true,aG,jd]
      rw[show bA [] (some (mx.sub ρ)) cap cap=some m from m1,ak,g1,ak,g2,ak]
     ·exact Jf gl (by omega) h3 h4 (by omega) λhe=>by cases he
  | acc b off sz' n w =>
   simp only[VL]at hx
   obtain⟨p,s',cap,ex,rfl,hn,hnp,hns,m,L,hd,hm,hw,hx⟩:=hx
   have hz:p=none∨s'=sz':=by
    cases p with
    | none=>exact .inl rfl
    | some p=>exact .inr (hns (by simp))
   simp only at hv
   cases mx with
   | none =>
    cases lo with
    | none =>
     cases hi with
     | none =>
      simp only[AX.fq,Option.map_none,wC]at hv
      split at hv
      case isFalse=>cases hv
      rename_i e
      subst e
      obtain rfl:=aj hv
      refine⟨_,tr (w:=.slice (jd p (0*sz')) sz' (n-0) (cap-0) ex) ?_, ?_⟩
      ·unfold iB
       rw[if_pos hz]
       rfl
      ·have:jd p (0*sz')=p:=by cases p<;>simp[jd]
       rw[this]
       simp only[VL]
       exact⟨_,_,_,_,rfl,hn,hnp,λ_=>rfl,m,L,hd,hm,hw,hx⟩
     | some hi =>
      simp only[AX.fq,Option.map_none,aG,wC]at hv
      split at hv
      case isFalse=>cases hv
      rename_i e
      subst e
      obtain⟨y,g1,hv⟩:=aA.1 hv
      obtain⟨l,g2,hv⟩:=aA.1 hv
      obtain rfl:=aj hv
      have gy:=dG g1 hn
      have gl:l≤y:=by simp only[bA,au]at g2;omega
      refine⟨_,tr (w:=.slice (jd p (l*sz')) sz' (y-l) (cap-l) ex) ?_,FU hn hnp hd hm hx gl gy.2 (by omega) (by omega) (λ_ h=>h)⟩
      unfold iB
      rw[if_pos hz]
      simp only[AX.fq,Option.map_none,aG]
      rw[show bA [] (some (hi.sub ρ)) n cap=some y from gy.1,ak,g2,ak]
    | some lo =>
     simp only[AX.fq,Option.map_none,aG,wC]at hv
     split at hv
     case isFalse=>cases hv
     rename_i e
     subst e
     obtain⟨y,g1,hv⟩:=aA.1 hv
     obtain⟨l,g2,hv⟩:=aA.1 hv
     obtain rfl:=aj hv
     have gy:bA [] (AX.fq ρ hi) n cap=some y∧y≤n:=by
      cases hi with
      | none =>
       simp only[bA,Option.map_none,AX.fq,au]at g1 ⊢
       omega
      | some hi=>exact dG g1 hn
     have gl:l≤y:=(dG g2 (Nat.le_refl _)).2
     refine⟨_,tr (w:=.slice (jd p (l*sz')) sz' (y-l) (cap-l) ex) ?_,FU hn hnp hd hm hx gl gy.2 (by omega) (by omega) (λ_ h=>h)⟩
     unfold iB
     rw[if_pos hz]
     simp only[AX.fq,Option.map_none,aG]
     rw[show bA [] (hi.map (AX.sub ρ)) n cap=some y from gy.1,ak,g2,ak]
   | some mx =>
    cases hi with
    | none=>cases lo<;>simp[AX.fq,wC]at hv
    | some hi =>
     have hv':(if sz'=sz then (bA [] (some (mx.sub ρ)) n n).bind λm=>(bA [] (some (hi.sub ρ)) n m).bind λh=>(bA [] (AX.fq ρ lo) 0 h).bind λl=>some (AV.acc b (off+l*sz) sz (h-l) false)else none)=some v:=by
      cases lo<;>simpa only[AX.fq,Option.map_none,aG,wC]using hv
     clear hv
     split at hv'
     case isFalse=>cases hv'
     rename_i e
     subst e
     obtain⟨m',g0,hv⟩:=aA.1 hv'
     obtain⟨y,g1,hv⟩:=aA.1 hv
     obtain⟨l,g2,hv⟩:=aA.1 hv
     obtain rfl:=aj hv
     obtain⟨m1,m2⟩:=dG g0 hn
     obtain⟨_,y2⟩:=dG g1 (Nat.le_refl _)
     have gl:l≤y:=by
      cases lo with
      | none=>simp only[bA,AX.fq,Option.map_none,au]at g2;omega
      | some lo=>exact(dG g2 (Nat.le_refl _)).2
     refine⟨_,tr (w:=.slice (jd p (l*sz')) sz' (y-l) (m'-l) true) ?_,FU hn hnp hd hm hx gl (by omega) (by omega) (by omega) (λ_ _=>rfl)⟩
     unfold iB
     rw[if_pos hz]
     simp only[AX.fq,Option.map_none,aG]
     rw[show bA [] (some (mx.sub ρ)) cap cap=some m' from m1,ak,g1,ak]
     simp only[AX.fq]at g2
     rw[g2]
     rfl
  | _=>simp at hv
 | fieldAddr off x =>
  have hx:=bI h hc
  simp only[iJ.sub,wP,aP]at hv ⊢
  generalize (x.sub ρ).ev []=X at *
  generalize (x.sub σ).ev []=X' at *
  cases X with
  | ptr p =>
   cases p with
   | none=>simp at hv
   | some q =>
    simp only[au]at hv
    subst hv
    simp only[VL]at hx
    obtain⟨j,h1,rfl⟩:=hx
    exact⟨_,rfl,by simp only[VL];exact⟨j,h1,rfl⟩⟩
  | elem cs =>
   simp only[au]at hv
   subst hv
   simp only[VL]at hx
   obtain⟨b,o,c,ro,sl,rfl,g1,g2,g3,g4⟩:=hx
   refine⟨_,rfl, ?_⟩
   simp only[VL]
   refine⟨b,_,c,ro,sl,rfl,g1,g2,g3, ?_⟩
   have:=g4.drop off
   rwa [List.drop_take,List.drop_drop,←aO]at this
  | _=>simp at hv
 | field g off n x =>
  have hx:=bI h hc
  simp only[iJ.sub,wP,aP]at hv ⊢
  generalize (x.sub ρ).ev []=X at *
  generalize (x.sub σ).ev []=X' at *
  cases X<;>(try simp only at hv)<;>first |(cases hv;done) | skip
  simp only[VL]at hx
  obtain⟨l',rfl,hl⟩:=hx
  exact Je hl (FT hv).1
 | oU n sz x i =>
  simp only[iJ.bE,Bool.and_eq_true]at hc
  have hx:=bI h hc.1
  have hi:=bI h hc.2
  simp only[iJ.sub,wP,aP]at hv ⊢
  generalize (x.sub ρ).ev []=X at *
  generalize (x.sub σ).ev []=X' at *
  generalize (i.sub ρ).ev []=I at *
  cases X with
  | ptr p =>
   cases p with
   | none=>simp at hv
   | some q =>
    cases I<;>(try simp only at hv)<;>first |(cases hv;done) | skip
    rw[hi.eq rfl]
    split at hv
    case isFalse=>cases hv
    rename_i hlt
    obtain rfl:=aj hv
    simp only[VL]at hx
    obtain⟨j,h1,rfl⟩:=hx
    simp only
    rw[if_pos hlt]
    exact⟨_,rfl,by simp only[VL];exact⟨j,h1,rfl⟩⟩
  | elem cs =>
   cases I<;>(try simp only at hv)<;>first |(cases hv;done) | skip
   rw[hi.eq rfl]
   split at hv
   case isFalse=>cases hv
   rename_i hlt
   obtain rfl:=aj hv
   simp only[VL]at hx
   obtain⟨b,o,c,ro,sl,rfl,g1,g2,g3,g4⟩:=hx
   simp only
   rw[if_pos hlt]
   refine⟨_,rfl, ?_⟩
   simp only[VL]
   refine⟨b,_,c,ro,sl,rfl,g1,g2,g3, ?_⟩
   rename_i k z
   have:=g4.drop (z.toNat*sz)
   rwa [List.drop_take,List.drop_drop,←aO]at this
  | _=>simp at hv
 | iy sz x i =>
  simp only[iJ.bE,Bool.and_eq_true]at hc
  have hx:=bI h hc.1
  have hi:=bI h hc.2
  simp only[iJ.sub,wP,aP]at hv ⊢
  generalize (x.sub ρ).ev []=X at *
  generalize (x.sub σ).ev []=X' at *
  generalize (i.sub ρ).ev []=I at *
  cases X with
  | list sz' len cs ex =>
   cases I<;>(try simp only at hv)<;>first |(cases hv;done) | skip
   rename_i k z
   rw[hi.eq rfl]
   split at hv
   case isFalse=>cases hv
   rename_i hlt
   obtain rfl:=aj hv
   simp only[VL]at hx
   obtain⟨b,o,cap,ex',rfl,q1,q2,q3,q4⟩:=hx.resolve_left (λh=>by have:=h.1;omega)
   simp only
   rw[if_pos hlt]
   refine⟨_,rfl, ?_⟩
   obtain⟨c,ro,sl,g1,g2,g3,g4,g5⟩:=q4 (by omega)
   simp only[VL]
   refine⟨b,_,c,ro,sl,rfl,g1,g2,g3, ?_⟩
   have:=g5.drop (z.toNat*sz)
   rwa [←q3,List.drop_take,List.drop_drop,←aO]at this
  | acc b off sz' n w =>
   cases I<;>(try simp only at hv)<;>first |(cases hv;done) | skip
   rename_i k z
   rw[hi.eq rfl]
   split at hv
   case isFalse=>cases hv
   rename_i hlt
   obtain rfl:=aj hv
   simp only[VL]at hx
   obtain⟨p,s',cap,ex,rfl,hn,hnp,hns,m,L,hd,hm,hw,hx⟩:=hx
   obtain⟨j,g1,g2⟩:=hx.resolve_right (λh=>by have:=h.2.1;omega)
   obtain⟨hps,_⟩:=g2.resolve_right (λh=>by have:=h.1;omega)
   subst hps
   obtain rfl:=hns (by simp)
   simp only
   rw[if_pos hlt]
   exact⟨_,rfl,by simp only[VL];exact⟨j,g1,rfl⟩⟩
  | _=>simp at hv
 | index g n sz x i =>
  simp only[iJ.bE,Bool.and_eq_true]at hc
  have hx:=bI h hc.1
  have hi:=bI h hc.2
  simp only[iJ.sub,wP,aP]at hv ⊢
  generalize (x.sub ρ).ev []=X at *
  generalize (x.sub σ).ev []=X' at *
  generalize (i.sub ρ).ev []=I at *
  cases X<;>(try simp only at hv)<;>first |(cases hv;done) | skip
  cases I<;>(try simp only at hv)<;>first |(cases hv;done) | skip
  rw[hi.eq rfl]
  simp only[VL]at hx
  obtain⟨l',rfl,hl⟩:=hx
  simp only
  split at hv
  case isFalse=>cases hv
  rename_i hlt
  rw[if_pos hlt]
  exact Je hl hv
 | jm x i =>
  simp only[iJ.bE,Bool.and_eq_true]at hc
  have hx:=bI h hc.1
  have hi:=bI h hc.2
  simp only[iJ.sub,wP,aP]at hv ⊢
  generalize (x.sub ρ).ev []=X at *
  generalize (i.sub ρ).ev []=I at *
  cases X<;>(try simp only at hv)<;>first |(cases hv;done) | skip
  cases I<;>(try simp only at hv)<;>first |(cases hv;done) | skip
  rw[hi.eq rfl,hx.eq rfl]
  simp only
  split at hv
  case isFalse=>cases hv
  rename_i hlt
  rw[if_pos hlt,hv]
  obtain⟨b,_,rfl⟩:=av.1 hv
  exact⟨_,rfl,by simp[VL]⟩
 | extract x i =>
  have hx:=bI h hc
  simp only[iJ.sub,wP,aP]at hv ⊢
  generalize (x.sub ρ).ev []=X at *
  generalize (x.sub σ).ev []=X' at *
  cases X<;>(try simp only at hv)<;>first |(cases hv;done) | skip
  simp only[VL]at hx
  obtain⟨l',rfl,hl⟩:=hx
  exact hl.get i v hv
 | len s x =>
  have hx:=bI h hc
  generalize hX:(x.sub ρ).ev []=X at *
  generalize Ph:(x.sub σ).ev []=X' at *
  cases s with
  | true =>
   simp only[iJ.sub,wP,aP,hX,Ph]at hv ⊢
   cases X<;>(try simp only at hv)<;>first |(cases hv;done) | skip
   rw[hx.eq rfl]
   obtain rfl:=aj hv
   exact⟨_,rfl,by simp[VL]⟩
  | false =>
   simp only[iJ.sub,wP,aP,hX,Ph]at hv ⊢
   split at hv
   ·simp only[au]at hv
    subst hv
    simp only[VL]at hx
    rcases hx with⟨rfl,rfl,s',rfl⟩ |⟨b,o,cap,ex',rfl,_⟩
    ·exact⟨_,rfl,by simp[VL]⟩
    ·exact⟨_,rfl,by simp[VL]⟩
   ·simp only[au]at hv
    subst hv
    simp only[VL]at hx
    obtain⟨p,s',cap,ex,rfl,_⟩:=hx
    exact⟨_,rfl,by simp[VL]⟩
   ·simp only[au]at hv
    subst hv
    simp only[VL]at hx
    obtain⟨_,s',rfl⟩:=hx
    exact⟨_,rfl,by simp[VL]⟩
   ·cases hv
 | cap x=>simp[iJ.sub,wP]at hv
 | nA m xs =>
  have hx:=Fb h hc
  simp only[iJ.sub,wP,aP]at hv ⊢
  generalize (xs.map (AX.sub ρ)).map (AX.ev [])=X at *
  generalize (xs.map (AX.sub σ)).map (AX.ev [])=X' at *
  cases X with
  | nil=>simp at hv
  | cons x r =>
   cases X' with
   | nil=>simp[aZ]at hx
   | cons x' r' =>
    simp only[aZ]at hx
    exact Jd hx.1 hx.2 hv
end
end
theorem uq:∀(H:WH) (i:Nat),bD H i=(H[i]?).getD none
 | [],i=>by simp[bD]
 | x::_,0=>by simp[bD]
 | _::r,i+1=>by simp[bD,uq r i]
theorem Kc:∀(H:WH) (i:Nat) (y:Option ji),dP H i y=H.set i y
 | [],i,y=>by simp[dP]
 | x::_,0,y=>by simp[dP]
 | _::r,i+1,y=>by simp[dP,Kc r i y]
theorem kG{H:WH}{i:Nat}{x:ji}(h:bD H i=some x):i<H.length:=by
 rw[uq]at h
 rcases Nat.lt_or_ge i H.length with k | k
 ·exact k
 ·rw[List.getElem?_eq_none k]at h
  cases h
theorem jX(H:WH)(i:Nat)(y:Option ji)(k:Nat):bD (dP H i y) k=if k=i∧i<H.length then y else bD H k:=by
 rw[Kc,uq,uq,List.getElem?_set]
 by_cases h:i=k
 ·subst h
  by_cases hl:i<H.length
  ·simp[hl]
  ·simp[hl]
 ·simp[h,Ne.symm h,show ¬k=i from λe=>h e.symm]
theorem BI(H G:WH)(k:Nat):bD (H++G) k=if k<H.length then bD H k else bD G (k-H.length):=by
 rw[uq,uq,uq]
 by_cases h:k<H.length
 ·rw[if_pos h,List.getElem?_append_left h]
 ·rw[if_neg h,List.getElem?_append_right (by omega)]
theorem Sk(x:Option ji)(k:Nat):bD [x] k=if k=0 then x else none:=by cases k<;>simp[bD]
theorem bN(H:WH)(i:Nat)(y:Option ji):(dP H i y).length=H.length:=by rw[Kc,dH]
theorem Ke{H:WH}{k:Nat}(h:H.length≤k):bD H k=none:=by rw[uq,List.getElem?_eq_none h];rfl
theorem lq(H:WH)(x:Option ji)(k:Nat):bD (H++[x]) k=if k<H.length then bD H k else if k=H.length then x else none:=by
 rw[BI,Sk]
 by_cases h:k<H.length
 ·rw[if_pos h,if_pos h]
 ·rw[if_neg h,if_neg h]
  by_cases e:k=H.length
  ·rw[if_pos (by omega),if_pos e]
  ·rw[if_neg (by omega),if_neg e]
theorem Stp.refl(n:Nat)(t:List Nat)(ι:VI)(H:WH)(M:Heap)(h:n≤H.length):Stp n t ι H M ι H M :=
 ⟨.refl _ _,.refl _ _,λ_ _ h=>h,λ_ _=>rfl,λ_ _=>rfl,λ_ _ _=>rfl,λ_ _ h=>h,λ_ _ _ _ _ _=>rfl,h⟩
theorem Stp.act{n:Nat}{t:List Nat}{ι iC:VI}{H H1:WH}{M M1:Heap}(h:Stp n t ι H M iC H1 M1){i:Nat}(hi:i<n)(ha:act iC H1 i):Proofs.Ytkedeiklmpkgkaa.act ι H i :=
 ha.imp (h.live i hi) (λhg=>by
  cases e:ι.gone i with
  | false=>rfl
  | true=>rw[h.gone i hi e]at hg;cases hg)
theorem Stp.trans{n n':Nat}{t t':List Nat}{ι iC oV:VI}{H H1 H2:WH}{M M1 M2:Heap}(h:Stp n t ι H M iC H1 M1)(k:Stp n' t' iC H1 M1 oV H2 M2)(hn:n≤n'):Stp n (t++t') ι H M oV H2 M2 :=
 ⟨h.keep.trans k.keep,h.le.trans (k.le.sub λi hi=>by have:i<n:=hi;show i<n';omega),λi hi hg=>k.gone i (by omega) (h.gone i hi hg),λi hi=>(k.XI i (by omega)).trans (h.XI i hi),λi hi=>(k.Nk i (by omega)).trans (h.Nk i hi),
  λi hi hd=>by
   have hd1:bD H1 i=none:=by
    cases e:bD H1 i with
    | none=>rfl
    | some x =>
     obtain⟨y,hy⟩:=h.live i hi ⟨x,e⟩
     rw[hd]at hy
     cases hy
   exact(k.Ja i (by omega) hd1).trans (h.Ja i hi hd),
  λi hi hl=>h.live i hi (k.live i (by omega) hl),
  λi j hi hl hj ht=>by
   rw[List.mem_append,not_or]at ht
   exact(k.Y4 i j (by omega) hl ((h.le i hi).1 j hj).1 ht.2).trans (h.Y4 i j hi (k.act (by omega) hl) hj ht.1),Nat.le_trans hn k.next⟩
theorem Stp.weak{n n':Nat}{t:List Nat}{ι iC:VI}{H H1:WH}{M M1:Heap}(h:Stp n t ι H M iC H1 M1)(hn:n'≤n):Stp n' t ι H M iC H1 M1 :=
 ⟨h.keep,h.le.sub λi hi=>by have:i<n':=hi;show i<n;omega,λi hi=>h.gone i (by omega),λi hi=>h.XI i (by omega),λi hi=>h.Nk i (by omega),λi hi=>h.Ja i (by omega),λi hi=>h.live i (by omega),λi j hi=>h.Y4 i j (by omega),Nat.le_trans hn h.next⟩
theorem Stp.more{n:Nat}{t t':List Nat}{ι iC:VI}{H H1:WH}{M M1:Heap}(h:Stp n t ι H M iC H1 M1)(ht:∀i,i<n→i∈t→i∈t'):Stp n t' ι H M iC H1 M1 :=
 ⟨h.keep,h.le,h.gone,h.XI,h.Nk,h.Ja,h.live,λi j hi hl hj hn=>h.Y4 i j hi hl hj (λk=>hn (ht i hi k)),h.next⟩
theorem Stp.XM{R:Nat→Prop}{t:List Nat}{ι aV:VI}{H H':WH}{M M':Heap}(s:VS R ι H M)(k:Stp H.length t ι H M aV H' M')(S:Nat→Prop):VI.Le ι aV S:=λi _ =>
 ⟨λj h=>(k.le i (s.lt i j h).1).1 j h,λh=>(k.le i (s.nI i h).1).2 h⟩
theorem VL.step{R:Nat→Prop}{t:List Nat}{ι aV:VI}{H H':WH}{M M':Heap}(s:VS R ι H M)(k:Stp H.length t ι H M aV H' M'){v a:AV}(h:VL M (OR R ι) ι v a):VL M' (OR R aV) aV v a :=
 VL.mono (k.keep.or R) ι aV v a (k.XM s _) h
theorem aZ.step{R:Nat→Prop}{t:List Nat}{ι aV:VI}{H H':WH}{M M':Heap}(s:VS R ι H M)(k:Stp H.length t ι H M aV H' M'){v a:List AV}(h:aZ M (OR R ι) ι v a):aZ M' (OR R aV) aV v a :=
 aZ.mono (k.keep.or R) ι aV v a (k.XM s _) h
theorem aZ.lift{M:Heap}{O:Nat→Prop}{κ:VI}{l r:List AV}(h:aZ M O VI.none l r):aZ M O κ l r :=
 aZ.mono (.refl M O) _ κ l r (VI.Le.Pg _ _) h
theorem aZ.kap{M:Heap}{O:Nat→Prop}{κ:VI}{sl:Bool}{l r:List AV}(h:aZ M O (if sl then VI.none else κ) l r):aZ M O κ l r:=by
 cases sl with
 | true=>exact aZ.lift h
 | false=>exact h
theorem aZ.LP{R:Nat→Prop}{n:Nat}{t:List Nat}{ι aV:VI}{H H':WH}{M M':Heap}(k:Stp n t ι H M aV H' M'){v a:List AV}(h:aZ M (OR R ι) VI.none v a):aZ M' (OR R aV) VI.none v a :=
 aZ.mono (k.keep.or R) VI.none VI.none v a (VI.Le.refl _ _) h
theorem BL.mono{M M':Heap}{O O':Nat→Prop}(hk:Keeps M O M' O'){κ l7:VI}(h:∀S,VI.Le κ l7 S){d d':Option (Nat×Nat)}(hd:∀x,d=some x→d'=some x){x:ji}{y:Option ji}(r:BL M O κ d x y):BL M' O' l7 d' x y:=by
 cases x with
 | cells c ro sl =>
  obtain⟨c',t,ro',sl',L,rfl,h0,h1,h2,h3,h4⟩:=r
  refine⟨c',t,ro',sl',L,rfl,h0,hd _ h1,h2, ?_,h4⟩
  cases sl with
  | true=>exact aZ.mono hk _ _ c c' (.refl _ _) h3
  | false=>exact aZ.mono hk κ l7 c c' (h _) h3
 | map es=>exact⟨r.1,hd _ r.2.1,r.2.2⟩
theorem VS.at {R:Nat→Prop} {ι:VI} {H:WH} {M:Heap} (s:VS R ι H M) {b j:Nat} (hb:ι b=some j) {c:List AV} {ro sl:Bool} (hg:bD H b=some (.cells c ro sl)) :
  ∃c' t ro' sl' L,M.get j=some (.cells (c'++t) ro' sl')∧(ro=false→ro'=false∧ι.gone b=false)∧ι.dim b=some (c.length,L)∧L≤(c'++t).length∧aZ M (OR R ι) (if sl then VI.none else ι) c c':=by
 rcases s.blk b _ hg with⟨h,_⟩ |⟨j',h1,⟨c',t,ro',sl',L,h2,h3,h4,h5,h6,_⟩,h7⟩
 ·rw[(s.nI b h).2]at hb
  cases hb
 ·rw[hb]at h1
  obtain rfl:=aj h1
  exact⟨c',t,ro',sl',L,h2,λh=>⟨h3 h,h7 h⟩,h4,h5,h6⟩
theorem VS.Zm{R:Nat→Prop}{ι:VI}{H:WH}{M:Heap}(s:VS R ι H M){b j:Nat}(hb:ι b=some j){c:List AV}{ro sl:Bool}(hg:bD H b=some (.cells c ro sl)){c':List AV}{ro' sl':Bool}(hj:M.get j=some (.cells c' ro' sl'))(h:sl=false):sl'=false:=by
 rcases s.blk b _ hg with⟨h,_⟩ |⟨j',h1,⟨d',t,ro2,sl2,L,h2,h3,h4,h5,h6,h8⟩,h7⟩
 ·rw[(s.nI b h).2]at hb
  cases hb
 ·rw[hb]at h1
  obtain rfl:=aj h1
  rw[hj]at h2
  simp only[au,ji.cells.injEq]at h2
  rw[h2.2.2]
  exact h8 h
def setAt{α:Type}(f:Nat→α)(i:Nat)(x:α):Nat→α:=λk=>if k=i then x else f k
def VI.add(ι:VI)(i j:Nat)(d:Nat×Nat):VI:=⟨setAt ι.to i (some j),setAt ι.Dt i false,setAt ι.gone i false,setAt ι.dim i (some d)⟩
def VI.dM(ι:VI)(i:Nat):VI:=⟨setAt ι.to i Option.none,setAt ι.Dt i true,setAt ι.gone i false,setAt ι.dim i (some (0,0))⟩
def VI.kill(ι:VI)(i:Nat):VI:=⟨ι.to,ι.Dt,setAt ι.gone i true,ι.dim⟩
theorem jh{α:Type}(f:Nat→α)(i:Nat)(x:α):setAt f i x i=x:=by simp[setAt]
theorem bn{α:Type}(f:Nat→α){i k:Nat}(x:α)(h:k≠i):setAt f i x k=f k:=by simp[setAt,h]
theorem VS.Yq {R:Nat→Prop} {ι:VI} {H:WH} {M:Heap} (s:VS R ι H M) {b j:Nat} (hb:ι b=some j) {x0:ji} (h0:x0.ro=false) (hg:bD H b=some x0) {x y:ji} (hx:BL M (OR R ι) ι (ι.dim b) x (some y)) :
  VS R ι (dP H b (some x)) (M.put j (some y))∧Stp H.length [b] ι H M ι (dP H b (some x)) (M.put j (some y)):=by
 have hgo:ι.gone b=false:=by
  rcases s.blk b _ hg with⟨q,_⟩ |⟨_,_,_,q⟩
  ·rw[(s.nI b q).2]at hb
   cases hb
  ·exact q h0
 have hbl:=kG hg
 have hk:Keeps M (own ι) (M.put j (some y)) (own ι):=⟨Nat.le_refl _,λb' _ ho=>⟨by
  have:b'≠j:=λe=>ho (e ▸ ⟨b,hb,hgo⟩)
  simp[Heap.put,this],ho⟩⟩
 have gp:∀k,bD (dP H b (some x)) k=if k=b then some x else bD H k:=λk=>by
  rw[jX]
  by_cases e:k=b
  ·rw[if_pos ⟨e,hbl⟩,if_pos e]
  ·rw[if_neg (λh=>e h.1),if_neg e]
 have lv:∀k,(∃z,bD (dP H b (some x)) k=some z)→∃z,bD H k=some z:=λk ⟨z,hz⟩=>by
  rw[gp]at hz
  by_cases e:k=b
  ·exact⟨_,e ▸ hg⟩
  ·rw[if_neg e]at hz
   exact⟨z,hz⟩
 refine⟨⟨λi j h=>?_,λi i' j h h' e e'=>s.inj i i' j (h.imp (lv i) id) (h'.imp (lv i') id) e e',λi z hz=>?_,λi h=>?_,λi hi c sl h=>?_,λi hi=>?_,λj h=>⟨(s.res j h).1,λi hi=>(s.res j h).2 i (hi.imp (lv i) id)⟩⟩,⟨hk,.refl _ _,λ_ _ h=>h,λ_ _=>rfl,λ_ _=>rfl,λ_ _ _=>rfl,λi _=>lv i,λi j' hi hl hj ht=>?_,by rw[bN];exact Nat.le_refl _⟩⟩
 ·rw[bN]
  exact s.lt i j h
 ·rw[gp]at hz
  by_cases e:i=b
  ·subst e
   rw[if_pos rfl]at hz
   obtain rfl:=aj hz
   refine .inr ⟨j,hb, ?_,λ_=>hgo⟩
   simp only[Heap.put,if_true]
   exact hx.mono (hk.or R) (λ_=>.refl _ _) (λ_ h=>h)
  ·rw[if_neg e]at hz
   rcases s.blk i z hz with h |⟨j',h1,h2,h3⟩
   ·exact .inl h
   ·have:j'≠j:=λe'=>e (s.inj i b j (.inl ⟨z,hz⟩) (.inl ⟨_,hg⟩) (e' ▸ h1) hb (.inr hgo))
    refine .inr ⟨j',h1, ?_,h3⟩
    simp only[Heap.put,if_neg this]
    exact h2.mono (hk.or R) (λ_=>.refl _ _) (λ_ h=>h)
 ·rw[bN]
  exact s.nI i h
 ·rw[gp]at h
  have:i≠b:=λe=>by subst e;rw[hgo]at hi;cases hi
  rw[if_neg this]at h
  exact s.kZ i hi c sl h
 ·have:=(s.lt b j hb).2
  have:i≠j:=λe=>by subst e;simp only[Heap.put]at hi;omega
  simp only[Heap.put,if_neg this]
  exact s.LD i hi
 ·have hib:i≠b:=λe=>ht (by simp[e])
  have:j'≠j:=λe'=>hib (s.inj i b j (hl.imp (lv i) id) (.inl ⟨_,hg⟩) (e' ▸ hj) hb (.inr hgo))
  simp[Heap.put,this]
theorem VS.put {R:Nat→Prop} {ι:VI} {H:WH} {M:Heap} (s:VS R ι H M) {b j:Nat} (hb:ι b=some j) {c0:List AV} {sl0:Bool} (hg:bD H b=some (.cells c0 false sl0)) {x y:ji} (hx:BL M (OR R ι) ι (ι.dim b) x (some y)) :
  VS R ι (dP H b (some x)) (M.put j (some y))∧Stp H.length [b] ι H M ι (dP H b (some x)) (M.put j (some y)):=s.Yq hb rfl hg hx
theorem Sm{ι:VI}{b j:Nat}(h:own (ι.kill b) j):own ι j:=by
 obtain⟨i,h1,h2⟩:=h
 refine⟨i,h1, ?_⟩
 simp only[VI.kill,setAt]at h2
 split at h2
 ·cases h2
 ·exact h2
theorem VS.kill {R:Nat→Prop} {ι:VI} {H:WH} {M:Heap} (s:VS R ι H M) {b j:Nat} (hb:ι b=some j) {c0:List AV} {sl0:Bool} (hg:bD H b=some (.cells c0 false sl0)) (y:Option ji) :
  VS R (ι.kill b) (dP H b none) (M.put j y)∧Stp H.length [b] ι H M (ι.kill b) (dP H b none) (M.put j y):=by
 obtain⟨_,_,_,_,_,_,hw,_⟩:=s.at hb hg
 have hgo:=(hw rfl).2
 have hbl:=kG hg
 have hk:Keeps M (own ι) (M.put j y) (own (ι.kill b)):=⟨Nat.le_refl _,λb' _ ho=>⟨by
  have:b'≠j:=λe=>ho (e ▸ ⟨b,hb,hgo⟩)
  simp[Heap.put,this],λk=>ho (Sm k)⟩⟩
 have gp:∀k,bD (dP H b none) k=if k=b then none else bD H k:=λk=>by
  rw[jX]
  by_cases e:k=b
  ·rw[if_pos ⟨e,hbl⟩,if_pos e]
  ·rw[if_neg (λh=>e h.1),if_neg e]
 have lv:∀k,(∃z,bD (dP H b none) k=some z)→k≠b∧∃z,bD H k=some z:=λk ⟨z,hz⟩=>by
  rw[gp]at hz
  by_cases e:k=b
  ·rw[if_pos e]at hz;cases hz
  ·rw[if_neg e]at hz
   exact⟨e,z,hz⟩
 have gk:∀i,(ι.kill b).gone i=false→ι.gone i=false:=λi h=>by
  simp only[VI.kill,setAt]at h
  split at h
  ·cases h
  ·exact h
 have ac:∀i,act (ι.kill b) (dP H b none) i→act ι H i:=λi h=>h.imp (λh=>(lv i h).2) (λh=>by
  simp only[VI.kill,setAt]at h
  split at h
  ·cases h
  ·exact h)
 refine⟨⟨λi j h=>?_,λi i' j h h' e e' g=>s.inj i i' j (ac i h) (ac i' h') e e' (g.imp (λg=>gk i g) (λg=>gk i' g)),λi z hz=>?_,λi h=>?_,λi hi c sl h=>?_,λi hi=>?_,λj h=>⟨(s.res j h).1,λi hi=>(s.res j h).2 i (ac i hi)⟩⟩,⟨hk,λ_ _=>⟨λ_ h=>⟨h,λ_ h=>h⟩,λh=>⟨h,λ_ h=>h⟩⟩,λi _ h=>?_,λ_ _=>rfl,λ_ _=>rfl,λi _ h=>?_,λi _ h=>(lv i h).2,λi j' hi hl hj ht=>?_,by rw[bN];exact Nat.le_refl _⟩⟩
 ·rw[bN]
  exact s.lt i j h
 ·have e:=(lv i ⟨z,hz⟩).1
  rw[gp,if_neg e]at hz
  rcases s.blk i z hz with h |⟨j',h1,h2,h3⟩
  ·exact .inl h
  ·have:j'≠j:=λe'=>e (s.inj i b j (.inl ⟨z,hz⟩) (.inl ⟨_,hg⟩) (e' ▸ h1) hb (.inr hgo))
   refine .inr ⟨j',h1, ?_,λh=>by simp only[VI.kill,bn _ _ e];exact h3 h⟩
   simp only[Heap.put,if_neg this]
   exact BL.mono (κ:=ι) (l7:=ι.kill b) (d:=ι.dim i) (hk.or R) (λ_ _ _=>⟨λ_ h=>⟨h,λ_ h=>h⟩,λh=>⟨h,λ_ h=>h⟩⟩) (λ_ h=>h) h2
 ·rw[bN]
  exact s.nI i h
 ·have e:=(lv i ⟨_,h⟩).1
  rw[gp,if_neg e]at h
  simp only[VI.kill,bn _ _ e]at hi
  exact s.kZ i hi c sl h
 ·have:=(s.lt b j hb).2
  have:i≠j:=λe=>by subst e;simp only[Heap.put]at hi;omega
  simp only[Heap.put,if_neg this]
  exact s.LD i hi
 ·simp only[VI.kill,setAt]
  split
  ·rfl
  ·exact h
 ·have hib:i≠b:=λe=>by subst e;rw[hg]at h;cases h
  simp only[VI.kill,bn _ _ hib]
 ·have hib:i≠b:=λe=>ht (by simp[e])
  have:j'≠j:=λe'=>hib (s.inj i b j (ac i hl) (.inl ⟨_,hg⟩) (e' ▸ hj) hb (.inr hgo))
  simp[Heap.put,this]
theorem Heap.FV{M:Heap}{j:Nat}{y:Option ji}(h:M.get j=y):M.put j y=M:=by
 cases M
 simp only[Heap.put]
 congr 1
 funext i
 by_cases e:i=j
 ·subst e;simp;exact h.symm
 ·simp[e]
theorem Yr{R:Nat→Prop}{ι:VI}{H:WH}{M:Heap}(s:VS R ι H M){i:Nat}(hi:H.length≤i)(j:Nat)(d:Nat×Nat)(S:Nat→Prop):VI.Le ι (ι.add i j d) S:=λk _ =>
 ⟨λj' h=>by
  have:k≠i:=by have:=(s.lt k j' h).1;omega
  simp only[VI.add,bn _ _ this]
  exact⟨h,λ_ h=>h⟩,
  λh=>by
  have:k≠i:=by have:=(s.nI k h).1;omega
  simp only[VI.add,bn _ _ this]
  exact⟨h,λ_ h=>h⟩⟩
theorem Qe{R:Nat→Prop}{ι:VI}{H:WH}{M:Heap}(s:VS R ι H M){i:Nat}(hi:H.length≤i)(S:Nat→Prop):VI.Le ι (ι.dM i) S:=λk _ =>
 ⟨λj' h=>by
  have:k≠i:=by have:=(s.lt k j' h).1;omega
  simp only[VI.dM,bn _ _ this]
  exact⟨h,λ_ h=>h⟩,
  λh=>by
  have:k≠i:=by have:=(s.nI k h).1;omega
  simp only[VI.dM,bn _ _ this]
  exact⟨h,λ_ h=>h⟩⟩
theorem VS.push {R:Nat→Prop} {ι:VI} {H:WH} {M:Heap} (s:VS R ι H M) {x y:ji} {d:Nat×Nat} (hx:BL M (OR R ι) ι (some d) x (some y)) :
  VS R (ι.add H.length M.next d) (H++[some x]) (M.push y)∧Stp H.length [] ι H M (ι.add H.length M.next d) (H++[some x]) (M.push y):=by
 have hls:=λS=>Yr s (Nat.le_refl _) M.next d S
 have hk:Keeps M (own ι) (M.push y) (own (ι.add H.length M.next d)):=⟨Nat.le_succ _,λb hb ho=>⟨by simp[Heap.push,Nat.ne_of_lt hb],λ⟨i,hi,hg⟩=>by
  by_cases e:i=H.length
  ·subst e
   simp only[VI.add,jh,au]at hi
   omega
  ·simp only[VI.add,bn _ _ e]at hi hg
   exact ho ⟨i,hi,hg⟩⟩⟩
 have ac:∀i,i≠H.length→act (ι.add H.length M.next d) (H++[some x]) i→act ι H i:=λi a h=>by
  rcases h with⟨z,h⟩ | h
  ·rw[lq]at h
   split at h
   ·exact .inl ⟨z,h⟩
   ·first |(cases h;done) |(rw[if_neg a]at h;cases h)
  ·simp only[VI.add,bn _ _ a]at h
   exact .inr h
 refine⟨⟨λi j h=>?_,λi i' j h h' e e' g=>?_,λi z hz=>?_,λi hi=>?_,λi hi c sl h=>?_,λi hi=>?_,λj h=>?_⟩,⟨hk,hls _,λi hi hg=>?_,λi hi=>by simp only[VI.add,bn _ _ (show i≠H.length by omega)],λi hi=>by simp only[VI.add,bn _ _ (show i≠H.length by omega)],λi hi _=>by simp only[VI.add,bn _ _ (show i≠H.length by omega)],λi hi hl=>?_,λi j hi hl hj _=>?_,by simp⟩⟩
 ·by_cases e:i=H.length
  ·subst e
   simp only[VI.add,jh,au]at h
   simp[Heap.push];omega
  ·simp only[VI.add,bn _ _ e]at h
   have:=s.lt i j h
   simp[Heap.push];omega
 ·by_cases a:i=H.length
  ·by_cases a':i'=H.length
   ·rw[a,a']
   ·rw[a]at e
    simp only[VI.add,jh,au]at e
    simp only[VI.add,bn _ _ a']at e'
    have:=(s.lt _ _ e').2
    omega
  ·simp only[VI.add,bn _ _ a]at e
   by_cases a':i'=H.length
   ·rw[a']at e'
    simp only[VI.add,jh,au]at e'
    have:=(s.lt _ _ e).2
    omega
   ·simp only[VI.add,bn _ _ a']at e'
    simp only[VI.add,bn _ _ a',bn _ _ a]at g
    exact s.inj i i' j (ac i a h) (ac i' a' h') e e' g
 ·rw[lq]at hz
  split at hz
  ·rename_i hl
   have e:i≠H.length:=by omega
   rcases s.blk i z hz with⟨h1,h2,h3⟩ |⟨j,h1,h2,h3⟩
   ·exact .inl (by simp only[VI.add,bn _ _ e];exact⟨h1,h2,h3⟩)
   ·have:=(s.lt i j h1).2
    refine .inr ⟨j,by simp only[VI.add,bn _ _ e];exact h1, ?_,by simp only[VI.add,bn _ _ e];exact h3⟩
    simp only[Heap.push,if_neg (show j≠M.next by omega)]
    exact h2.mono (hk.or R) hls (λ_ h=>by simp only[VI.add,bn _ _ e];exact h)
  ·split at hz
   ·rename_i e
    obtain rfl:=aj hz
    subst e
    refine .inr ⟨M.next,by simp[VI.add,setAt], ?_,λ_=>by simp[VI.add,setAt]⟩
    simp only[Heap.push,if_true]
    exact hx.mono (hk.or R) hls (λ_ h=>by simpa[VI.add,setAt]using h)
   ·cases hz
 ·by_cases e:i=H.length
  ·subst e
   simp[VI.add,setAt]at hi
  ·simp only[VI.add,bn _ _ e]at hi ⊢
   have:=s.nI i hi
   exact⟨by simp;omega,this.2⟩
 ·by_cases e:i=H.length
  ·subst e
   simp[VI.add,setAt]at hi
  ·simp only[VI.add,bn _ _ e]at hi
   rw[lq]at h
   split at h
   ·exact s.kZ i hi c sl h
   ·first |(cases h;done) |(rw[if_neg e]at h;cases h)
 ·simp only[Heap.push]at hi ⊢
  rw[if_neg (by omega)]
  exact s.LD i (by omega)
 ·obtain⟨h1,h2⟩:=s.res j h
  refine⟨by simp only[Heap.push];omega,λi hi=>?_⟩
  by_cases e:i=H.length
  ·subst e
   simp only[VI.add,jh,ne_eq,au]
   omega
  ·have:=h2 i (ac i e hi)
   simp only[VI.add,bn _ _ e]
   exact this
 ·simp only[VI.add,bn _ _ (show i≠H.length by omega)]
  exact hg
 ·obtain⟨z,hl⟩:=hl
  rw[lq,if_pos hi]at hl
  exact⟨z,hl⟩
 ·simp[Heap.push,show j≠M.next from by have:=(s.lt i j hj).2;omega]
theorem VS.Ve {R:Nat→Prop} {ι:VI} {H:WH} {M:Heap} (s:VS R ι H M) :
  VS R (ι.dM H.length) (H++[some (.cells [] false true)]) M∧Stp H.length [] ι H M (ι.dM H.length) (H++[some (.cells [] false true)]) M:=by
 have hls:=λS=>Qe s (Nat.le_refl _) S
 have ho:∀j,own (ι.dM H.length) j→own ι j:=λj ⟨i,hi,hg⟩=>by
  by_cases e:i=H.length
  ·subst e
   simp[VI.dM,jh]at hi
  ·simp only[VI.dM,bn _ _ e]at hi hg
   exact⟨i,hi,hg⟩
 have hk:Keeps M (own ι) M (own (ι.dM H.length)):=⟨Nat.le_refl _,λb hb h=>⟨rfl,λk=>h (ho b k)⟩⟩
 have ac:∀i,i≠H.length→act (ι.dM H.length) (H++[some (.cells [] false true)]) i→act ι H i:=λi a h=>by
  rcases h with⟨z,h⟩ | h
  ·rw[lq]at h
   split at h
   ·exact .inl ⟨z,h⟩
   ·first |(cases h;done) |(rw[if_neg a]at h;cases h)
  ·simp only[VI.dM,bn _ _ a]at h
   exact .inr h
 refine⟨⟨λi j h=>?_,λi i' j h h' e e' g=>?_,λi z hz=>?_,λi hi=>?_,λi hi c sl h=>?_,s.LD,λj h=>⟨(s.res j h).1,λi hi=>?_⟩⟩,⟨hk,hls _,λi hi hg=>?_,λi hi=>by simp only[VI.dM,bn _ _ (show i≠H.length by omega)],λi hi=>by simp only[VI.dM,bn _ _ (show i≠H.length by omega)],λi hi _=>by simp only[VI.dM,bn _ _ (show i≠H.length by omega)],λi hi hl=>?_,λi j hi hl hj _=>rfl,by simp⟩⟩
 ·by_cases e:i=H.length
  ·subst e
   simp[VI.dM,jh]at h
  ·simp only[VI.dM,bn _ _ e]at h
   have:=s.lt i j h
   simp;omega
 ·have a:i≠H.length:=λa=>by subst a;simp[VI.dM,jh]at e
  have a':i'≠H.length:=λa=>by subst a;simp[VI.dM,jh]at e'
  exact s.inj i i' j (ac i a h) (ac i' a' h') (by simpa only[VI.dM,bn _ _ a]using e) (by simpa only[VI.dM,bn _ _ a']using e') (by simpa only[VI.dM,bn _ _ a',bn _ _ a]using g)
 ·rw[lq]at hz
  split at hz
  ·rename_i hl
   have e:i≠H.length:=by omega
   rcases s.blk i z hz with⟨h1,h2,h3⟩ |⟨j,h1,h2,h3⟩
   ·exact .inl (by simp only[VI.dM,bn _ _ e];exact⟨h1,h2,h3⟩)
   ·exact .inr ⟨j,by simp only[VI.dM,bn _ _ e];exact h1,h2.mono (hk.or R) hls (λ_ h=>by simp only[VI.dM,bn _ _ e];exact h),by simp only[VI.dM,bn _ _ e];exact h3⟩
  ·split at hz
   ·rename_i e
    obtain rfl:=aj hz
    subst e
    exact .inl ⟨by simp[VI.dM,setAt],by simp[VI.dM,setAt],false,rfl⟩
   ·cases hz
 ·by_cases e:i=H.length
  ·subst e
   simp[VI.dM,setAt]
  ·simp only[VI.dM,bn _ _ e]at hi ⊢
   have:=s.nI i hi
   exact⟨by simp;omega,this.2⟩
 ·by_cases e:i=H.length
  ·subst e
   simp[VI.dM,setAt]at hi
  ·simp only[VI.dM,bn _ _ e]at hi
   rw[lq]at h
   split at h
   ·exact s.kZ i hi c sl h
   ·first |(cases h;done) |(rw[if_neg e]at h;cases h)
 ·by_cases e:i=H.length
  ·subst e
   simp[VI.dM,jh]
  ·have:=(s.res j h).2 i (ac i e hi)
   simp only[VI.dM,bn _ _ e]
   exact this
 ·simp only[VI.dM,bn _ _ (show i≠H.length by omega)]
  exact hg
 ·obtain⟨z,hl⟩:=hl
  rw[lq,if_pos hi]at hl
  exact⟨z,hl⟩
theorem VS.Pj{R:Nat→Prop}{ι:VI}{H:WH}{M:Heap}(s:VS R ι H M){b:Nat}(hb:ι.Dt b=true):VS R ι (dP H b none) M∧Stp H.length [b] ι H M ι (dP H b none) M:=by
 have lv:∀k,(∃z,bD (dP H b none) k=some z)→k≠b∧∃z,bD H k=some z:=λk ⟨z,hz⟩=>by
  rw[jX]at hz
  split at hz
  ·cases hz
  ·rename_i h
   exact⟨λe=>h ⟨e,(s.nI b hb).1⟩,z,hz⟩
 have gn:∀k,k≠b→bD (dP H b none) k=bD H k:=λk h=>by rw[jX,if_neg (λe=>h e.1)]
 refine⟨⟨λi j h=>by rw[bN];exact s.lt i j h,λi i' j h h' e e'=>s.inj i i' j (h.imp (λh=>(lv i h).2) id) (h'.imp (λh=>(lv i' h).2) id) e e',λi z hz=>?_,λi h=>by rw[bN];exact s.nI i h,λi hi c sl h=>?_,s.LD,λj h=>⟨(s.res j h).1,λi hi=>(s.res j h).2 i (hi.imp (λh=>(lv i h).2) id)⟩⟩,⟨.refl _ _,.refl _ _,λ_ _ h=>h,λ_ _=>rfl,λ_ _=>rfl,λ_ _ _=>rfl,λi _ h=>(lv i h).2,λ_ _ _ _ _ _=>rfl,by rw[bN];exact Nat.le_refl _⟩⟩
 ·have e:=(lv i ⟨z,hz⟩).1
  rw[gn i e]at hz
  exact s.blk i z hz
 ·have e:=(lv i ⟨_,h⟩).1
  rw[gn i e]at h
  exact s.kZ i hi c sl h
theorem VS.swap {R:Nat→Prop} {ι:VI} {H:WH} {M:Heap} (s:VS R ι H M) {b j:Nat} (hb:ι b=some j) {c0:List AV} {sl0:Bool} (hg:bD H b=some (.cells c0 false sl0)) {x y:ji} {d:Nat×Nat} (hx:BL M (OR R ι) ι (some d) x (some y)) :
  VS R ((ι.kill b).add H.length j d) (dP H b none++[some x]) (M.put j (some y))∧Stp H.length [b] ι H M ((ι.kill b).add H.length j d) (dP H b none++[some x]) (M.put j (some y))∧((ι.kill b).add H.length j d) H.length=some j:=by
 obtain⟨_,_,_,_,_,_,hw,_⟩:=s.at hb hg
 have hgo:=(hw rfl).2
 have hbl:=kG hg
 have hj:=(s.lt b j hb).2
 have hto:∀i,i≠H.length→((ι.kill b).add H.length j d) i=ι i:=λi e=>by simp only[VI.add,VI.kill,bn _ _ e]
 have Yt:∀i,i≠H.length→((ι.kill b).add H.length j d).Dt i=ι.Dt i:=λi e=>by simp only[VI.add,VI.kill,bn _ _ e]
 have Sn:∀i,i≠H.length→((ι.kill b).add H.length j d).dim i=ι.dim i:=λi e=>by simp only[VI.add,VI.kill,bn _ _ e]
 have hgn:∀i,i≠H.length→i≠b→((ι.kill b).add H.length j d).gone i=ι.gone i:=λi e e'=>by simp only[VI.add,VI.kill,bn _ _ e,bn _ _ e']
 have hself:((ι.kill b).add H.length j d) H.length=some j:=by simp[VI.add,setAt]
 have ho:∀k,own ((ι.kill b).add H.length j d) k→own ι k:=λk ⟨i,hi,hg'⟩=>by
  by_cases e:i=H.length
  ·subst e
   rw[hself]at hi
   obtain rfl:=aj hi
   exact⟨b,hb,hgo⟩
  ·rw[hto i e]at hi
   by_cases e':i=b
   ·subst e'
    exact⟨i,hi,hgo⟩
   ·rw[hgn i e e']at hg'
    exact⟨i,hi,hg'⟩
 have hls:∀S,VI.Le ι ((ι.kill b).add H.length j d) S:=λS k _ =>
  ⟨λj' h=>by
   have:k≠H.length:=by have:=(s.lt k j' h).1;omega
   rw[hto k this,Sn k this]
   exact⟨h,λ_ h=>h⟩,
   λh=>by
   have:k≠H.length:=by have:=(s.nI k h).1;omega
   rw[Yt k this,Sn k this]
   exact⟨h,λ_ h=>h⟩⟩
 have hk:Keeps M (own ι) (M.put j (some y)) (own ((ι.kill b).add H.length j d)):=⟨Nat.le_refl _,λb' _ h=>⟨by
  have:b'≠j:=λe=>h (e ▸ ⟨b,hb,hgo⟩)
  simp[Heap.put,this],λk=>h (ho b' k)⟩⟩
 have gp:∀k,bD (dP H b none++[some x]) k=if k=H.length then some x else if k=b then none else bD H k:=λk=>by
  rw[lq,bN,jX]
  by_cases e:k<H.length
  ·rw[if_pos e,if_neg (show k≠H.length by omega)]
   by_cases e':k=b
   ·rw[if_pos ⟨e',hbl⟩,if_pos e']
   ·rw[if_neg (λh=>e' h.1),if_neg e']
  ·rw[if_neg e]
   by_cases e':k=H.length
   ·rw[if_pos e',if_pos e']
   ·rw[if_neg e',if_neg e',if_neg (show k≠b by omega),Ke (by omega)]
 have lv:∀k,k≠H.length→(∃z,bD (dP H b none++[some x]) k=some z)→k≠b∧∃z,bD H k=some z:=λk hn ⟨z,hz⟩=>by
  rw[gp,if_neg hn]at hz
  by_cases e:k=b
  ·rw[if_pos e]at hz;cases hz
  ·rw[if_neg e]at hz
   exact⟨e,z,hz⟩
 have ac:∀i,i≠H.length→act ((ι.kill b).add H.length j d) (dP H b none++[some x]) i→i≠b∧act ι H i:=λi a h=>by
  rcases h with h | h
  ·exact⟨(lv i a h).1,.inl (lv i a h).2⟩
  ·have e':i≠b:=λe'=>by subst e';simp[VI.add,VI.kill,setAt,a]at h
   rw[hgn i a e']at h
   exact⟨e',.inr h⟩
 refine⟨⟨λi k h=>?_,λi i' k h h' e e' g=>?_,λi z hz=>?_,λi hi=>?_,λi hi c sl h=>?_,λi hi=>?_,λk h=>⟨(s.res k h).1,λi hi=>?_⟩⟩,⟨hk,hls _,λi hi h=>?_,λi hi=>hto i (by omega),λi hi=>Sn i (by omega),λi hi h=>hgn i (by omega) (λe=>by subst e;rw[hg]at h;cases h),λi hi h=>(lv i (by omega) h).2,λi k hi hl hk' ht=>?_,by simp[bN]⟩,hself⟩
 ·simp only[aF,bN,List.length_singleton,Heap.put]
  by_cases e:i=H.length
  ·subst e
   rw[hself]at h
   obtain rfl:=aj h
   omega
  ·rw[hto i e]at h
   have:=s.lt i k h
   omega
 ·by_cases a:i=H.length
  ·by_cases a':i'=H.length
   ·rw[a,a']
   ·rw[a,hself]at e
    obtain rfl:=aj e
    rw[hto i' a']at e'
    obtain⟨q1,q2⟩:=ac i' a' h'
    exact absurd (s.inj i' b j q2 (.inl ⟨_,hg⟩) e' hb (.inr hgo)) q1
  ·rw[hto i a]at e
   obtain⟨q1,q2⟩:=ac i a h
   by_cases a':i'=H.length
   ·rw[a',hself]at e'
    obtain rfl:=aj e'
    exact absurd (s.inj i b j q2 (.inl ⟨_,hg⟩) e hb (.inr hgo)) q1
   ·rw[hto i' a']at e'
    obtain⟨q3,q4⟩:=ac i' a' h'
    rw[hgn i a q1,hgn i' a' q3]at g
    exact s.inj i i' k q2 q4 e e' g
 ·by_cases e:i=H.length
  ·subst e
   rw[gp,if_pos rfl]at hz
   obtain rfl:=aj hz
   refine .inr ⟨j,hself, ?_,λ_=>by simp[VI.add,setAt]⟩
   simp only[Heap.put,if_true]
   exact hx.mono (hk.or R) hls (λ_ h=>by simpa[VI.add,setAt]using h)
  ·obtain⟨q1,q2⟩:=lv i e ⟨z,hz⟩
   rw[gp,if_neg e,if_neg q1]at hz
   rcases s.blk i z hz with⟨h1,h2,h3⟩ |⟨k,h1,h2,h3⟩
   ·exact .inl ⟨by rw[Yt i e];exact h1,by rw[Sn i e];exact h2,h3⟩
   ·have:k≠j:=λe'=>q1 (s.inj i b j (.inl ⟨z,hz⟩) (.inl ⟨_,hg⟩) (e' ▸ h1) hb (.inr hgo))
    refine .inr ⟨k,by rw[hto i e];exact h1, ?_,by rw[hgn i e q1];exact h3⟩
    simp only[Heap.put,if_neg this]
    exact h2.mono (hk.or R) hls (λ_ h=>by rw[Sn i e];exact h)
 ·by_cases e:i=H.length
  ·subst e
   simp[VI.add,setAt]at hi
  ·rw[Yt i e]at hi
   have:=s.nI i hi
   rw[hto i e]
   exact⟨by simp[bN];omega,this.2⟩
 ·by_cases e:i=H.length
  ·subst e
   simp[VI.add,setAt]at hi
  ·obtain⟨q1,q2⟩:=lv i e ⟨_,h⟩
   rw[gp,if_neg e,if_neg q1]at h
   rw[hgn i e q1]at hi
   exact s.kZ i hi c sl h
 ·have:i≠j:=λe=>by subst e;simp only[Heap.put]at hi;omega
  simp only[Heap.put,if_neg this]
  exact s.LD i hi
 ·by_cases e:i=H.length
  ·subst e
   rw[hself]
   intro e'
   obtain rfl:=aj e'
   exact(s.res j h).2 b (.inl ⟨_,hg⟩) hb
  ·rw[hto i e]
   exact(s.res k h).2 i (ac i e hi).2
 ·by_cases e':i=b
  ·subst e'
   simp[VI.add,VI.kill,setAt,show i≠H.length by omega]
  ·rw[hgn i (by omega) e']
   exact h
 ·obtain⟨q1,q2⟩:=ac i (by omega) hl
  have:k≠j:=λe'=>q1 (s.inj i b j q2 (.inl ⟨_,hg⟩) (e' ▸ hk') hb (.inr hgo))
  simp[Heap.put,this]
mutual
theorem Sq{M:Heap}{O:Nat→Prop}{κ:VI}:∀(v a:AV),sc v=true→VL M O κ v a→v=a
 |.bool _,a,_,h=>by simp only[VL]at h;exact h.symm
 |.int ..,a,_,h=>by simp only[VL]at h;exact h.symm
 |.str _,a,_,h=>by simp only[VL]at h;exact h.symm
 |.tuple cs,a,hs,h=>by
  simp only[sc]at hs
  simp only[VL]at h
  obtain⟨cs',rfl,h⟩:=h
  rw[Kg cs cs' hs h]
 |.agg cs,a,hs,h=>by
  simp only[sc]at hs
  simp only[VL]at h
  obtain⟨cs',rfl,h⟩:=h
  rw[Kg cs cs' hs h]
 |.undef,_,hs,_=>by simp[sc]at hs
 |.ptr _,_,hs,_=>by simp[sc]at hs
 |.slice ..,_,hs,_=>by simp[sc]at hs
 |.map _,_,hs,_=>by simp[sc]at hs
 |.func _ _,_,hs,_=>by simp[sc]at hs
 |.nilFunc,_,hs,_=>by simp[sc]at hs
 |.list ..,_,hs,_=>by simp[sc]at hs
 |.elem ..,_,hs,_=>by simp[sc]at hs
 |.acc ..,_,hs,_=>by simp[sc]at hs
theorem Kg{M:Heap}{O:Nat→Prop}{κ:VI}:∀(v a:List AV),Yp v=true→aZ M O κ v a→v=a
 | [],[],_,_=>rfl
 | [],_::_,_,h=>by simp[aZ]at h
 | _::_,[],_,h=>by simp[aZ]at h
 | v::r,a::l,hs,h=>by
  simp only[Yp]at hs
  split at hs
  case h_2=>cases hs
  rename_i hv
  simp only[aZ]at h
  rw[Sq v a hv h.1,Kg r l hs h.2]
end
theorem Pk{M:Heap}{O:Nat→Prop}{κ:VI}{v a:AV}(hs:sc v=true)(h:VL M O κ v a):v=a:=Sq v a hs h
mutual
theorem Sr{M:Heap}{O:Nat→Prop}{κ:VI}:∀(v:AV),sc v=true→VL M O κ v v
 |.bool _,_=>by simp[VL]
 |.int ..,_=>by simp[VL]
 |.str _,_=>by simp[VL]
 |.tuple cs,hs=>by
  simp only[sc]at hs
  simp only[VL]
  exact⟨_,rfl,Kh cs hs⟩
 |.agg cs,hs=>by
  simp only[sc]at hs
  simp only[VL]
  exact⟨_,rfl,Kh cs hs⟩
 |.undef,hs=>by simp[sc]at hs
 |.ptr _,hs=>by simp[sc]at hs
 |.slice ..,hs=>by simp[sc]at hs
 |.map _,hs=>by simp[sc]at hs
 |.func _ _,hs=>by simp[sc]at hs
 |.nilFunc,hs=>by simp[sc]at hs
 |.list ..,hs=>by simp[sc]at hs
 |.elem ..,hs=>by simp[sc]at hs
 |.acc ..,hs=>by simp[sc]at hs
theorem Kh{M:Heap}{O:Nat→Prop}{κ:VI}:∀(v:List AV),Yp v=true→aZ M O κ v v
 | [],_=>by simp[aZ]
 | v::r,hs=>by
  simp only[Yp]at hs
  split at hs
  case h_2=>cases hs
  rename_i hv
  simp only[aZ]
  exact⟨Sr v hv,Kh r hs⟩
end
theorem Zn{M:Heap}{O:Nat→Prop}{κ:VI}{v:AV}(hs:sc v=true):VL M O κ v v:=Sr v hs
theorem jY{p:AV×AV}{es:List (AV×AV)}(h:I_ (p::es)=true):sc p.1=true∧sc p.2=true∧I_ es=true:=by
 simp only[I_]at h
 split at h
 ·rename_i h1 h2
  exact⟨h1,h2,h⟩
 ·cases h
theorem FW{p:AV×AV}{es:List (AV×AV)}(h1:sc p.1=true)(h2:sc p.2=true)(h:I_ es=true):I_ (p::es)=true:=by
 simp only[I_,h1,h2]
 exact h
theorem Pm{kd:Kd}{k:AV}:∀ {es:List (AV×AV)} {i:Nat} {q:Nat×AV},I_ es=true→tZ kd k es i=some (some q)→sc q.2=true
 | [],i,q,_,h=>by simp[tZ]at h
 | p::es,i,q,hs,h=>by
  obtain⟨h1,h2,h3⟩:=jY hs
  simp only[tZ]at h
  split at h
  ·simp only[au]at h
   rw[←h]
   exact h2
  ·exact Pm h3 h
  ·cases h
theorem Pn{k v:AV}(hk:sc k=true)(hv:sc v=true):∀ {es:List (AV×AV)} {i:Nat},I_ es=true→I_ (es.set i (k,v))=true
 | [],i,_=>by simp[I_]
 | p::es,0,h=>FW hk hv (jY h).2.2
 | p::es,i+1,h=>FW (jY h).1 (jY h).2.1 (Pn hk hv (jY h).2.2)
theorem LQ{k v:AV}(hk:sc k=true)(hv:sc v=true):∀ {es:List (AV×AV)},I_ es=true→I_ (es++[(k,v)])=true
 | [],_=>FW hk hv rfl
 | p::es,h=>FW (jY h).1 (jY h).2.1 (LQ hk hv (jY h).2.2)
theorem Jh:∀ {es:List (AV×AV)} {i:Nat},I_ es=true→I_ (es.eraseIdx i)=true
 | [],i,_=>by simp[I_]
 | p::es,0,h=>(jY h).2.2
 | p::es,i+1,h=>FW (jY h).1 (jY h).2.1 (Jh (jY h).2.2)
theorem VS.Ki{R:Nat→Prop}{ι:VI}{H:WH}{M:Heap}(s:VS R ι H M){r:Nat}{y:AV}(h:VL M (OR R ι) ι (.map (some r)) y){es:List (AV×AV)}(hg:bD H r=some (.map es)):∃j,y=.map (some j)∧M.get j=some (.map es)∧I_ es=true∧ι r=some j:=by
 simp only[VL]at h
 obtain⟨j,h1,rfl⟩:=h
 rcases s.blk r _ hg with⟨_,_,_,q⟩ |⟨j',h2,⟨h3,_,h4⟩,_⟩
 ·cases q
 ·rw[h1]at h2
  obtain rfl:=aj h2
  exact⟨j,rfl,h3,h4,h1⟩
theorem yG{M:Heap}{O:Nat→Prop}{κ:VI}:∀ {l l':List AV} {s:List UInt8},aZ M O κ l l'→dI l=some s→dI l'=some s
 | [],l',s,h,e=>by
  cases l' with
  | nil=>exact e
  | cons _ _=>simp[aZ]at h
 | v::l,l',s,h,e=>by
  cases l' with
  | nil=>simp[aZ]at h
  | cons v' l' =>
   simp only[aZ]at h
   cases v<;>(try simp only[dI]at e)<;>first |(cases e;done) | skip
   rename_i k n
   cases k<;>(try simp only[dI]at e)<;>first |(cases e;done) | skip
   rw[h.1.eq rfl]
   simp only[dI]
   obtain⟨t,h1,rfl⟩:=av.1 e
   rw[yG h.2 h1]
   rfl
theorem BJ{w:Bool}{c:List AV}{o m:Nat}(h:o+m≤c.length)(hw:w=true→o=0∧m=c.length):(Lx w c o m).length=m:=by
 cases w with
 | true=>exact(hw rfl).2.symm
 | false=>simp only[Lx,aJ,aO];omega
theorem BK {M:Heap} {O:Nat→Prop} {κ:VI} {w:Bool} {c c' t:List AV} {o m:Nat} (r:aZ M O κ c c') (h:o+m≤c.length) (hw:w=true→o=0∧m=c.length) :
  aZ M O κ (Lx w c o m) (((c'++t).drop o).take m):=by
 have hl:=r.length
 have e:((c'++t).drop o).take m=(c'.drop o).take m:=by
  rw[List.drop_append_of_le_length (by omega),List.take_append_of_le_length (by simp only[aO];omega)]
 rw[e]
 cases w with
 | true =>
  obtain⟨rfl,rfl⟩:=hw rfl
  rw[List.drop_zero,List.take_of_length_le (by omega)]
  exact r
 | false=>exact(r.drop o).take m
theorem VL.uN {R:Nat→Prop} {ι:VI} {H:WH} {M:Heap} (s:VS R ι H M) {b o sz n:Nat} {w:Bool} {a:AV} (h:VL M (OR R ι) ι (.acc b o sz n w) a) {c:List AV} {ro sl:Bool} (hg:bD H b=some (.cells c ro sl)) :
  o+n*sz≤c.length∧(w=true→o=0∧n*sz=c.length)∧∃p s' cap ex,a=.slice p s' n cap ex∧n≤cap∧(p≠none→s'=sz) ∧
   ((∃j c' t ro' sl' L,ι b=some j∧M.get j=some (.cells (c'++t) ro' sl')∧(ro=false→ro'=false∧ι.gone b=false)∧ι.dim b=some (c.length,L)∧L≤(c'++t).length∧aZ M (OR R ι) (if sl then VI.none else ι) c c'∧p=some (j,o)∧o+cap*sz≤L) ∨
    (n=0∧cap=0∧ex=true∧((∃j c' t ro' sl' L,ι b=some j∧M.get j=some (.cells (c'++t) ro' sl')∧(ro=false→ro'=false∧ι.gone b=false)∧ι.dim b=some (c.length,L)∧L≤(c'++t).length∧aZ M (OR R ι) (if sl then VI.none else ι) c c')∨(ι.Dt b=true∧c=[]∧sl=true)))):=by
 simp only[VL]at h
 obtain⟨p,s',cap,ex,rfl,h1,h2,h3,m,L,h4,h5,h6,h7⟩:=h
 rcases h7 with⟨j,k1,k2⟩ |⟨k1,k2,k3,k4,k5⟩
 ·obtain⟨c',t,ro',sl',L',g1,g2,g3,g4,g5⟩:=s.at k1 hg
  rw[h4]at g3
  simp only[au,aD]at g3
  obtain⟨rfl,rfl⟩:=g3
  refine⟨h5,h6,p,s',cap,ex,rfl,h1,h3, ?_⟩
  rcases k2 with⟨k2,k3⟩ |⟨k2,k3,k4⟩
  ·exact .inl ⟨j,c',t,ro',sl',L,k1,g1,g2,h4,g4,g5,k2,k3⟩
  ·exact .inr ⟨k2,k3,k4,.inl ⟨j,c',t,ro',sl',L,k1,g1,g2,h4,g4,g5⟩⟩
 ·rcases s.blk b _ hg with⟨q1,q2,ro',q3⟩ |⟨j,q1,_⟩
  ·cases q3
   rw[h4]at q2
   simp only[au,aD]at q2
   obtain⟨rfl,rfl⟩:=q2
   exact⟨h5,h6,p,s',cap,ex,rfl,h1,h3,.inr ⟨k2,k3,k4,.inr ⟨k1,rfl,rfl⟩⟩⟩
  ·rw[(s.nI b k1).2]at q1
   cases q1
theorem Ji{R:Nat→Prop}{ι:VI}{H:WH}{M:Heap}(s:VS R ι H M){ρ σ:Nat→AV}(h:∀t,VL M (OR R ι) ι (ρ t) (σ t)){o:ny}(hc:o.bE=true){v:AV}(hv:wL (o.sub ρ) H=some v):∃a,aL (o.sub σ) [] M=some a∧VL M (OR R ι) ι v a:=by
 cases o with
 | load agg n x =>
  have hx:=bI h hc
  simp only[ny.sub,wL,aL]at hv ⊢
  generalize (x.sub ρ).ev []=X at *
  generalize (x.sub σ).ev []=Y at *
  split at hv
  ·cases hv
  rename_i hn0
  cases X with
  | elem cs =>
   simp only[VL]at hx
   obtain⟨b,o,c,ro,sl,rfl,g1,g2,g3,g4⟩:=hx
   simp only at hv
   have key:∀g m,sJ g 0 m cs=some v→(g=true→0<m)→∃a,tY g m (.ptr (some (b,o))) M=some a∧VL M (OR R ι) ι v a:=by
    intro g m hp hm
    obtain⟨h1,h2⟩:=FT hp
    cases g with
    | true =>
     simp only[tX,if_true,au,List.drop_zero]at h1
     subst h1
     have hle:=h2 rfl
     simp only[List.drop_zero]at hle
     have hlen:=g4.length
     have hco:o+m≤c.length:=by
      have:=hm rfl
      simp only[aJ,aO]at hlen
      omega
     refine⟨.agg ((c.drop o).take m), ?_, ?_⟩
     ·simp only[tY,if_true,Heap.read,g1]
      rw[if_pos hco]
      rfl
     ·simp only[VL]
      refine⟨_,rfl, ?_⟩
      have:=(g4.take m).lift (κ:=ι)
      rwa [List.take_take,Nat.min_eq_left hle]at this
    | false =>
     simp only[tX,Bool.false_eq_true,if_false]at h1
     obtain⟨a,h3,h4⟩:=g4.get 0 v h1
     refine⟨a, ?_,VL.mono (.refl _ _) _ _ _ _ (VI.Le.Pg _ _) h4⟩
     simp only[tY,Bool.false_eq_true,if_false,g1]
     rw[List.getElem?_take,List.getElem?_drop]at h3
     split at h3
     ·simpa using h3
     ·cases h3
   refine key agg n hv λe=>?_
   subst e
   simp only[Bool.true_and]at hn0
   exact Nat.pos_of_ne_zero λe=>by subst e;simp at hn0
  | ptr p =>
   cases p with
   | none=>simp at hv
   | some q =>
    simp only[VL]at hx
    obtain⟨j,h1,rfl⟩:=hx
    simp only at hv
    split at hv
    case h_2=>cases hv
    rename_i c ro sl hg
    obtain⟨c',t,ro',sl',L,h2,_,_,_,h3⟩:=s.at h1 hg
    obtain⟨h4,h5⟩:=FT hv
    have hl:=h3.length
    cases agg with
    | true =>
     simp only[tX,if_true,au]at h4
     subst h4
     have:=h5 rfl
     simp only[aO]at this
     have hn:n≠0:=λe=>by subst e;simp at hn0
     refine⟨.agg ((c'.drop q.2).take n), ?_,by simp only[VL];exact⟨_,rfl,(h3.kap.drop _).take _⟩⟩
     simp only[tY,if_true,Heap.read,h2]
     rw[if_pos (by simp only[aF];omega),List.drop_append_of_le_length (by omega),List.take_append_of_le_length (by simp only[aO];omega)]
     rfl
    | false =>
     simp only[tX,Bool.false_eq_true,if_false]at h4
     obtain⟨a,h6,h7⟩:=h3.kap.get _ _ h4
     refine⟨a, ?_,h7⟩
     simp only[tY,Bool.false_eq_true,if_false,h2]
     rw[List.getElem?_append_left (by rw[←hl];exact(aC.1 h4).1)]
     exact h6
  | _=>simp at hv
 | gH x =>
  have hx:=bI h hc
  simp only[ny.sub,wL,aL]at hv ⊢
  generalize (x.sub ρ).ev []=X at *
  generalize (x.sub σ).ev []=Y at *
  split at hv
  ·obtain⟨t,h1,rfl⟩:=av.1 hv
   simp only[VL]at hx
   rcases hx with⟨_,rfl,s',rfl⟩ |⟨b,o,cap,ex',rfl,q1,q2,q3,q4⟩
   ·simp only[dI,au]at h1
    subst h1
    exact⟨.str [],rfl,by simp[VL]⟩
   ·refine⟨.str t, ?_,by simp[VL]⟩
    simp only[kX]
    split
    ·rename_i hl
     subst hl
     have:‹List AV›=[]:=List.eq_nil_of_length_eq_zero (by simpa using q3)
     subst this
     simp only[dI,au]at h1
     rw[h1]
    ·rename_i hl
     obtain⟨c,ro,sl,g1,g2,g3,g4,g5⟩:=q4 hl
     simp only[Nat.mul_one]at g4 g5
     simp only[Heap.read,g1,if_pos g4,ak,yG g5 h1,aG]
  ·split at hv
   case h_2=>cases hv
   rename_i b off n w _ c ro sl hg
   obtain⟨t,h1,rfl⟩:=av.1 hv
   obtain⟨k1,k2,p,s',cap,ex,rfl,k3,k4,k5⟩:=VL.uN s hx hg
   simp only[Nat.mul_one]at k1 k2
   refine⟨.str t, ?_,by simp[VL]⟩
   have hn0:n=0→t=[]:=λe=>by
    subst e
    have:(Lx w c off 0).length=0:=BJ k1 k2
    rw[List.eq_nil_of_length_eq_zero this]at h1
    simpa[dI]using h1.symm
   rcases k5 with⟨j,c',t',ro',sl',L,g1,g2,g3,g4,g5,g6,rfl,g7⟩ |⟨rfl,rfl,rfl,g⟩
   ·obtain rfl:=k4 (by simp)
    simp only[kX]
    split
    ·rename_i hl
     rw[hn0 hl]
    ·have hl:=g6.length
     simp only[Nat.mul_one]at g7
     have:=yG (BK (t:=t') g6.kap k1 k2) h1
     simp only[Heap.read,g2,if_pos (show off+n≤(c'++t').length by simp only[aF];omega),ak,this,aG]
   ·rw[hn0 rfl]
    cases p with
    | none=>rfl
    | some p =>
     obtain rfl:=k4 (by simp)
     simp[kX]
  ·obtain rfl:=aj hv
   simp only[VL]at hx
   obtain⟨_,s',rfl⟩:=hx
   exact⟨.str [],rfl,by simp[VL]⟩
  ·cases hv
 | mJ x =>
  have hx:=bI h hc
  simp only[ny.sub,wL,aL]at hv ⊢
  generalize (x.sub ρ).ev []=X at *
  generalize (x.sub σ).ev []=Y at *
  split at hv
  case h_2=>cases hv
  rename_i r
  split at hv
  case h_2=>cases hv
  rename_i es hg
  obtain rfl:=aj hv
  obtain⟨j,rfl,hm,_⟩:=s.Ki hx hg
  exact⟨.int .i64 es.length,by simp only[kM,hm,aG],by simp[VL]⟩
 | lookup kd ok z x w =>
  simp only[ny.bE,Bool.and_eq_true]at hc
  have hx:=bI h hc.1.2
  have hw:=bI h hc.2
  simp only[ny.sub,wL,aL]at hv ⊢
  generalize (x.sub ρ).ev []=X at *
  generalize (x.sub σ).ev []=Y at *
  generalize (w.sub ρ).ev []=X2 at *
  generalize (w.sub σ).ev []=Y2 at *
  split at hv
  case h_2=>cases hv
  rename_i r
  split at hv
  case h_2=>cases hv
  rename_i es hg hs
  obtain⟨j,rfl,hm,he,_⟩:=s.Ki hx hg
  obtain rfl:=Pk hs hw
  refine⟨v,by simp only[Bn,kM,hm,ak];exact hv, ?_⟩
  unfold XH at hv
  obtain⟨f,hf,rfl⟩:=av.1 hv
  have hz:VL M (OR R ι) ι z z:=VL.const z hc.1.1
  cases f with
  | none =>
   cases ok
   ·exact hz
   ·simp only[if_true,VL]
    exact⟨_,rfl,by simp only[aZ,VL];exact⟨hz,trivial,trivial⟩⟩
  | some q =>
   have:=Zn (M:=M) (O:=OR R ι) (κ:=ι) (Pm he hf)
   cases ok
   ·exact this
   ·simp only[if_true,VL]
    exact⟨_,rfl,by simp only[aZ,VL];exact⟨this,trivial,trivial⟩⟩
theorem nL:∀ {l:List Nat} {b:Nat},kK l b=true↔b∈l
 | [],b=>by simp[kK]
 | a::r,b=>by
  simp only[kK,List.mem_cons]
  cases h:Nat.beq a b with
  | true=>simp[aM h]
  | false =>
   have:b≠a:=λe=>by subst e;simp at h
   simp only
   rw[nL (l:=r)]
   simp[this]
def VI.kZ(ι:VI)(S:List Nat):VI:=⟨ι.to,ι.Dt,λi=>ι.gone i||kK S i,ι.dim⟩
theorem BM{ι:VI}{S:List Nat}{j:Nat}(h:own (ι.kZ S) j):own ι j:=by
 obtain⟨i,h1,h2⟩:=h
 simp only[VI.kZ,Bool.or_eq_false_iff]at h2
 exact⟨i,h1,h2.1⟩
theorem sK:∀(S:List Nat) (H:WH) (i:Nat),bD (rD H S) i=if kK S i=true then Dr (bD H i)else bD H i
 | [],H,i=>by simp[rD,kK]
 | b::S,H,i=>by
  simp only[rD,sK S,jX,kK]
  have ib:∀x:Option ji,Dr (Dr x)=Dr x:=λx=>by
   cases x with
   | none=>rfl
   | some x=>cases x<;>rfl
  by_cases e:i=b
  ·subst e
   simp only[Nat.beq_refl]
   by_cases hl:i<H.length
   ·simp only[hl,and_self,if_true]
    split<;>simp[ib]
   ·simp only[hl,and_false,if_false,Ke (Nat.le_of_not_lt hl)]
    split<;>simp[Dr]
  ·have:Nat.beq b i=false:=by
    cases hh:Nat.beq b i with
    | false=>rfl
    | true=>exact absurd (aM hh).symm e
   simp[this,e]
theorem nM:∀(S:List Nat) (H:WH),(rD H S).length=H.length
 | [],H=>rfl
 | b::S,H=>by simp only[rD,nM S,bN]
theorem zF{x:Option ji}{y:ji}(h:Dr x=some y):∃z,x=some z∧(y=z∨∃c ro sl,z=.cells c ro sl∧y=.cells c true sl):=by
 cases x with
 | none=>simp[Dr]at h
 | some z =>
  cases z with
  | cells c ro sl=>simp only[Dr,au]at h;exact⟨_,rfl,.inr ⟨c,ro,sl,rfl,h.symm⟩⟩
  | map es=>simp[Dr]at h
theorem FX(ι:VI)(S:List Nat)(T:Nat→Prop):VI.Le ι (ι.kZ S) T:=λ_ _=>⟨λ_ h=>⟨h,λ_ h=>h⟩,λh=>⟨h,λ_ h=>h⟩⟩
theorem VS.Nr{R:Nat→Prop}{ι:VI}{H:WH}{M:Heap}(s:VS R ι H M)(S:List Nat)(hS:∀b∈S,∃x,bD H b=some x):VS R (ι.kZ S) (rD H S) M∧Stp H.length [] ι H M (ι.kZ S) (rD H S) M:=by
 have hk:Keeps M (own ι) M (own (ι.kZ S)):=⟨Nat.le_refl _,λb _ h=>⟨rfl,λk=>h (BM k)⟩⟩
 have lv:∀k,(∃z,bD (rD H S) k=some z)→∃z,bD H k=some z:=λk ⟨z,hz⟩=>by
  rw[sK]at hz
  split at hz
  ·obtain⟨y,hy,_⟩:=zF hz
   exact⟨y,hy⟩
  ·exact⟨z,hz⟩
 have ac:∀i,act (ι.kZ S) (rD H S) i→act ι H i:=λi h=>h.imp (lv i) (λh=>by
  simp only[VI.kZ,Bool.or_eq_false_iff]at h
  exact h.1)
 refine⟨⟨λi j h=>by rw[nM];exact s.lt i j h,λi i' j h h' e e' g=>s.inj i i' j (ac i h) (ac i' h') e e' (g.imp (λg=>by simp only[VI.kZ,Bool.or_eq_false_iff]at g;exact g.1) (λg=>by simp only[VI.kZ,Bool.or_eq_false_iff]at g;exact g.1)),λi z hz=>?_,λi h=>by rw[nM];exact s.nI i h,λi hi c sl h=>?_,s.LD,λj h=>⟨(s.res j h).1,λi hi=>(s.res j h).2 i (ac i hi)⟩⟩,
  ⟨hk,FX _ _ _,λi _ h=>by simp only[VI.kZ,h,Bool.true_or],λ_ _=>rfl,λ_ _=>rfl,λi _ h=>by
   have:kK S i=false:=by
    cases e:kK S i with
    | false=>rfl
    | true=>obtain⟨x,hx⟩:=hS i (nL.1 e);rw[h]at hx;cases hx
   simp only[VI.kZ,this,Bool.or_false],λi _=>lv i,λ_ _ _ _ _ _=>rfl,by rw[nM];exact Nat.le_refl _⟩⟩
 ·have hbl:∀ {d x y},BL M (OR R ι) ι d x y→BL M (OR R (ι.kZ S)) (ι.kZ S) d x y:=λh=>BL.mono (κ:=ι) (l7:=ι.kZ S) (hk.or R) (λT=>FX _ _ _) (λ_ h=>h) h
  rw[sK]at hz
  split at hz
  ·rename_i hS
   obtain⟨y,hy,h⟩:=zF hz
   rcases s.blk i y hy with⟨h1,h2,ro,h3⟩ |⟨j,h1,h2,h3⟩
   ·rcases h with rfl |⟨c,ro',sl,rfl,rfl⟩
    ·exact .inl ⟨h1,h2,ro,h3⟩
    ·cases h3
     exact .inl ⟨h1,h2,true,rfl⟩
   ·rcases h with rfl |⟨c,ro',sl,rfl,rfl⟩
    ·cases z with
     | cells c ro' sl =>
      rw[hy]at hz
      simp only[Dr,au,ji.cells.injEq]at hz
      obtain⟨_,rfl,_⟩:=hz
      exact .inr ⟨j,h1,hbl h2,λh=>by cases h⟩
     | map es =>
      rw[hy]at hz
      simp[Dr]at hz
    ·obtain⟨c',t,aan,sl',L,g1,g2,g3⟩:=h2
     exact .inr ⟨j,h1,hbl ⟨c',t,aan,sl',L,g1,(λh=>by cases h),g3⟩,λh=>by cases h⟩
  ·rename_i hS
   rcases s.blk i z hz with h |⟨j,h1,h2,h3⟩
   ·exact .inl h
   ·refine .inr ⟨j,h1,hbl h2,λh=>?_⟩
    simp only[VI.kZ,h3 h,Bool.false_or]
    simpa using hS
 ·rw[sK]at h
  simp only[VI.kZ,Bool.or_eq_true]at hi
  split at h
  ·obtain⟨y,hy,h'⟩:=zF h
   rcases h' with rfl |⟨_,_,_,_,h'⟩
   ·rw[hy]at h
    simp[Dr]at h
   ·cases h'
  ·rename_i hS
   exact s.kZ i (hi.resolve_right hS) c sl h
theorem Dv{g:AV→Option (AV×List Nat)}{v:AV}{l:List AV}{p:List AV×List Nat}(h:wz g (v::l)=some p):∃q r,g v=some q∧wz g l=some r∧p=(q.1::r.1,q.2++r.2):=by
 simp only[wz]at h
 split at h
 ·rename_i q r h1 h2
  exact⟨q,r,h1,h2,(aj h).symm⟩
 ·cases h
def BN(nested:Bool)(κ:VI):VI:=if nested then VI.none else κ
theorem FY {M:Heap} {O O':Nat→Prop} {κ l7:VI} {g:AV→Option (AV×List Nat)} {P:Nat→Prop} {nested:Bool}
  (hg:∀v p a,g v=some p→VL M O κ v a→(∀b∈p.2,P b)→VL M O' (BN nested l7) p.1 a) :
  ∀(l:List AV) (p:List AV×List Nat) (r:List AV),wz g l=some p→aZ M O κ l r→(∀b∈p.2,P b)→aZ M O' (BN nested l7) p.1 r
 | [],p,r,h,hr,_=>by
  simp only[wz,au]at h
  subst h
  cases r with
  | nil=>simp[aZ]
  | cons _ _=>simp[aZ]at hr
 | v::l,p,r,h,hr,hP=>by
  obtain⟨q,q',h1,h2,rfl⟩:=Dv h
  cases r with
  | nil=>simp[aZ]at hr
  | cons a r =>
   simp only[aZ]at hr ⊢
   exact⟨hg v q a h1 hr.1 (λb hb=>hP b (by simp[hb])),FY hg l q' r h2 hr.2 (λb hb=>hP b (by simp[hb]))⟩
theorem mW{g:AV→Option (AV×List Nat)}{P:Nat→Prop}(hg:∀v p,g v=some p→∀b∈p.2,P b):∀(l:List AV) (p:List AV×List Nat),wz g l=some p→∀b∈p.2,P b
 | [],p,h,b,hb=>by
  simp only[wz,au]at h
  subst h
  cases hb
 | v::l,p,h,b,hb=>by
  obtain⟨q,q',h1,h2,rfl⟩:=Dv h
  simp only[List.mem_append]at hb
  exact hb.elim (hg v q h1 b) (mW hg l q' h2 b)
theorem jZ{H:WH}:∀(k:Nat) (nested:Bool) (v:AV) (p:AV×List Nat),LA H k nested v=some p→∀b∈p.2,∃x,bD H b=some x
 | 0,nested,v,p,h=>by simp[LA]at h
 | k+1,nested,v,p,h=>by
  intro b hb
  simp only[LA]at h
  split at h
  ·split at h
   case h_2=>cases h
   rename_i hg
   split at h
   ·obtain rfl:=aj h
    simp only[List.mem_singleton]at hb
    exact⟨_,hb ▸ hg⟩
   ·split at h
    case h_2=>cases h
    split at h
    case h_2=>cases h
    rename_i q hq
    obtain rfl:=aj h
    simp only[List.mem_cons]at hb
    rcases hb with rfl | hb
    ·exact⟨_,hg⟩
    ·exact mW (λv p=>jZ k true v p) _ _ hq b hb
  ·obtain rfl:=aj h
   cases hb
  ·cases h
  ·obtain rfl:=aj h
   cases hb
  ·cases h
  ·split at h
   ·cases h
   ·obtain rfl:=aj h
    cases hb
  ·split at h
   ·cases h
   ·obtain rfl:=aj h
    cases hb
  ·split at h
   case h_2=>cases h
   rename_i q hq
   obtain rfl:=aj h
   exact mW (λv p=>jZ k nested v p) _ _ hq b hb
  ·split at h
   case h_2=>cases h
   rename_i q hq
   obtain rfl:=aj h
   exact mW (λv p=>jZ k nested v p) _ _ hq b hb
  ·split at h
   case h_2=>cases h
   rename_i q hq
   obtain rfl:=aj h
   exact mW (λv p=>jZ k nested v p) _ _ hq b hb
  ·obtain rfl:=aj h
   cases hb
theorem Ns:∀ {v:AV},(∀b o sz n w,v=.acc b o sz n w→False)→(∀q,v=.ptr (some q)→False)→(∀r,v=.map (some r)→False)→(∀f cs,v=.func f cs→False)→(∀cs,v=.agg cs→False)→(∀cs,v=.tuple cs→False)→pU v=[]
 |.undef,_,_,_,_,_,_=>rfl
 |.bool _,_,_,_,_,_,_=>rfl
 |.int _ _,_,_,_,_,_,_=>rfl
 |.str _,_,_,_,_,_,_=>rfl
 |.ptr none,_,_,_,_,_,_=>rfl
 |.ptr (some q),_,h,_,_,_,_=>(h q rfl).elim
 |.slice _ _ _ _ _,_,_,_,_,_,_=>rfl
 |.map none,_,_,_,_,_,_=>rfl
 |.map (some r),_,_,h,_,_,_=>(h r rfl).elim
 |.func f cs,_,_,_,h,_,_=>(h f cs rfl).elim
 |.nilFunc,_,_,_,_,_,_=>rfl
 |.agg cs,_,_,_,_,h,_=>(h cs rfl).elim
 |.tuple cs,_,_,_,_,_,h=>(h cs rfl).elim
 |.list ..,_,_,_,_,_,_=>rfl
 |.elem _,_,_,_,_,_,_=>rfl
 |.acc b o sz n w,h,_,_,_,_,_=>(h b o sz n w rfl).elim
theorem BO{g:AV→Option (AV×List Nat)}:∀(l:List AV) (p:List AV×List Nat),wz g l=some p→p.1.length=l.length
 | [],p,h=>by
  simp only[wz,au]at h
  subst h
  rfl
 | v::l,p,h=>by
  obtain⟨q,q',h1,h2,rfl⟩:=Dv h
  simp[BO l q' h2]
section
variable {R:Nat→Prop} {ι:VI} {H:WH} {M:Heap} (s:VS R ι H M) {O':Nat→Prop} (hO:∀j,O' j→OR R ι j) {l7:VI} (hle:VI.Le ι l7 (λ_=>True))
include s hO hle
theorem Po {b o sz n:Nat} {w:Bool} {a:AV} (h:VL M (OR R ι) ι (.acc b o sz n w) a) {c:List AV} {ro sl:Bool} (hg:bD H b=some (.cells c ro sl)) (hb:∀j,ι b=some j→¬O' j) {κ:VI}
  {cs:List AV} (hcs:cs.length=n*sz) (hr:∀c' t,aZ M (OR R ι) (if sl then VI.none else ι) c c'→aZ M O' VI.none cs (((c'++t).drop o).take (n*sz))):VL M O' κ (.list sz n cs false) a:=by
 obtain⟨k1,k2,p,s',cap,ex,rfl,k3,k4,k5⟩:=VL.uN s h hg
 simp only[VL]
 rcases k5 with⟨j,c',t',ro',sl',L,g1,g2,g3,g4,g5,g6,rfl,g7⟩ |⟨rfl,rfl,rfl,g⟩
 ·obtain rfl:=k4 (by simp)
  have hl:=g6.length
  refine .inr ⟨j,o,cap,ex,rfl,k3,(λh=>by cases h),hcs,λ_=>⟨_,ro',sl',g2,hb j g1,(s.lt b j g1).2,by simp only[aF];omega,hr c' t' g6⟩⟩
 ·rw[Nat.zero_mul]at hcs
  obtain rfl:=List.eq_nil_of_length_eq_zero hcs
  cases p with
  | none=>exact .inl ⟨rfl,rfl,s',rfl⟩
  | some p =>
   obtain rfl:=k4 (by simp)
   exact .inr ⟨p.1,p.2,0,true,rfl,Nat.le_refl _,(λh=>by cases h),by simp,λh=>absurd rfl h⟩
theorem Kj:∀(k:Nat) (nested:Bool) (v:AV) (p:AV×List Nat) (a:AV),LA H k nested v=some p→VL M (OR R ι) ι v a→(∀b∈p.2,∀j,ι b=some j→¬O' j)→VL M O' (BN nested l7) p.1 a
 | 0,nested,v,p,a,h,hv,hP=>by simp[LA]at h
 | k+1,nested,v,p,a,h,hv,hP=>by
  have hk:Keeps M (OR R ι) M O':=⟨Nat.le_refl _,λb _ h=>⟨rfl,λk=>h (hO b k)⟩⟩
  have nest:∀ {l p r nested},wz (LA H k nested) l=some p→aZ M (OR R ι) ι l r→(∀b∈p.2,∀j,ι b=some j→¬O' j)→aZ M O' (BN nested l7) p.1 r:=λ{l p r nested} h1 h2 h3 =>
   FY (λv p a=>Kj k nested v p a) l p r h1 h2 h3
  simp only[LA]at h
  split at h
  ·rename_i b o sz n w
   split at h
   case h_2=>cases h
   rename_i c ro sl hg
   obtain⟨k1,k2,_⟩:=VL.uN s hv hg
   split at h
   ·obtain rfl:=aj h
    refine Po s hO hle hv hg (hP b (by simp)) (BJ k1 k2) λc' t hc=>?_
    simp only[if_true]at hc
    exact BK (aZ.mono hk _ _ _ _ (.refl _ _) hc) k1 k2
   ·split at h
    case h_2=>cases h
    split at h
    case h_2=>cases h
    rename_i q hq
    obtain rfl:=aj h
    obtain⟨k3,k4⟩:=k2 rfl
    refine Po s hO hle hv hg (hP b (by simp)) (by rw[BO _ _ hq,k4]) λc' t hc=>?_
    simp only[Bool.false_eq_true,if_false]at hc
    have:=nest hq hc (λb hb=>hP b (by simp[hb]))
    have hl:=hc.length
    rw[k3,List.drop_zero,k4,hl,List.take_left']
    ·exact this
    ·rfl
  ·obtain rfl:=aj h
   simp only[VL]at hv ⊢
   exact .inl ⟨trivial,trivial,hv.2⟩
  ·cases h
  ·obtain rfl:=aj h
   have:=VL.mono hk _ (BN nested l7) _ _ (λi hi=>by simp[pU]at hi) hv
   simp only[VL]at this ⊢
   rcases this with this |⟨b,o,cap,ex',h1,h2,h3,h4⟩
   ·exact .inl this
   ·exact .inr ⟨b,o,cap,ex',h1,h2,(λh=>by cases h),h4⟩
  ·cases h
  ·split at h
   ·cases h
   ·obtain rfl:=aj h
    simp only[VL,BN,Bool.false_eq_true,if_false]at hv ⊢
    obtain⟨j,h1,h2⟩:=hv
    exact⟨j,((hle _ trivial).1 j h1).1,h2⟩
  ·split at h
   ·cases h
   ·obtain rfl:=aj h
    simp only[VL,BN,Bool.false_eq_true,if_false]at hv ⊢
    obtain⟨j,h1,h2⟩:=hv
    exact⟨j,((hle _ trivial).1 j h1).1,h2⟩
  ·split at h
   case h_2=>cases h
   rename_i q hq
   obtain rfl:=aj h
   simp only[VL]at hv ⊢
   obtain⟨cs',h1,h2⟩:=hv
   exact⟨cs',h1,nest hq h2 hP⟩
  ·split at h
   case h_2=>cases h
   rename_i q hq
   obtain rfl:=aj h
   simp only[VL]at hv ⊢
   obtain⟨cs',h1,h2⟩:=hv
   exact⟨cs',h1,nest hq h2 hP⟩
  ·split at h
   case h_2=>cases h
   rename_i q hq
   obtain rfl:=aj h
   simp only[VL]at hv ⊢
   obtain⟨cs',h1,h2⟩:=hv
   exact⟨cs',h1,nest hq h2 hP⟩
  ·obtain rfl:=aj h
   have hid:pU v=[]:=by
    rename_i e1 _ _ _ _ e2 e3 e4 e5 e6
    exact Ns e1 e2 e3 e4 e5 e6
   exact VL.mono hk _ (BN nested l7) _ _ (λi hi=>by rw[hid]at hi;cases hi) hv
end
end Go.Proofs.Ytkedeiklmpkgkaa
