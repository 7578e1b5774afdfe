import Derived.Test.YtohoggieaanllaaGreatJ1
import Derived.ProofKit
import Derived.OpenShut
import Derived.ChangeOld
import Derived.Below
import Derived.Carry
import Derived.SizedLaws
import Derived.Deep.CondSized
set_option linter.all false
namespace Go.Proofs.YtohoggieaanllaaGreat
theorem abB{ι:jh}{e:Env}{a:Act}(h:gT ι e a.tmps.toList){d:Option Nat}{v:AV}{v':Value}(hv:VR ι v v'):gT ι (PN d v e) (a.put d v').tmps.toList:=by
 cases d with
 | none=>exact h
 | some d =>
  simp only[PN,Act.put,Array.toList_setIfInBounds]
  exact h.set d hv
theorem put_defers(a:Act)(d:Option Nat)(v:Value):(a.put d v).defers=a.defers:=by cases d<;>rfl
theorem II{M N:Heap}(h:∀b,M.get b=N.get b)(hn:M.next=N.next):M=N:=by
 cases M
 cases N
 simp only at h hn
 subst hn
 congr
 funext b
 exact h b
section
variable {P:Program} {C:dO} {base nk:Nat} {ds:List iw} {E:Nat→Env} {H:Nat→Heap} {G:Nat→List Heap} {V:Nat→AV} {W:Nat→Bool} {B:Nat→Option pJ} {K9:Nat→Nat→Prop}
structure NT(base nk:Nat)(ds:List iw)(E:Nat→Env)(H:Nat→Heap)(V:Nat→AV)(B:Nat→Option pJ)(K9:Nat→Nat→Prop)(xJ:jh)(M0:Heap)(w0:World)(q:Nat)(S:Nat→Bool)(ι:jh)(a:Act)(w:World):Prop where
 qle:q≤ds.length
 apT:q=0∨∃j,S j=true∧nV ds j=true∧j+1=q
 below:∀j,S j=true→nV ds j=true→j<q
 closed:∀p r,S r=true→K9 p r→S p=true
 nones:∀b,base≤b→b<base+nk→(∀p0,oK ds (b-base)=some p0→q≤p0→(H q).get b=none)∧(oK ds (b-base)=none→(H q).get b=none)
 am6:base+nk≤(H q).next
 tr:Tr xJ M0 w0 ι (jf base nk ds H B q S) w
 unm:∀p d,ds[p]?=some d→d.o.op.isK=true→S p=false→ι (base+d.ix)=none
 env:gT ι (Ej ds (E 0) V S) a.tmps.toList
 defs:a.defers=[]
def more(S:Nat→Bool)(p:Nat):Nat→Bool:=λr=>r==p||S r
theorem afj(S:Nat→Bool)(p:Nat):more S p p=true:=by simp[more]
theorem EZ{S:Nat→Bool}{p r:Nat}(h:r≠p):more S p r=S r:=by simp[more,h]
theorem NT.quiet (c:Kt nk ds K9) {xJ:jh} {M0:Heap} {w0:World} {q:Nat} {S:Nat→Bool} {ι:jh} {a:Act} {w:World} (I:NT base nk ds E H V B K9 xJ M0 w0 q S ι a w) {p:Nat} {d:iw} (hd:ds[p]?=some d) (hS:S p=false)
  (hpre:∀r,K9 r p→S r=true) (hq:d.o.op.loud=false) {dK:jh} {w':World} {v':Value} (hle:ι.Le dK) (ht:Tr xJ M0 w0 dK (jf base nk ds H B q (more S p)) w') (hu:∀r d',ds[r]?=some d'→d'.o.op.isK=true→S r=false→r≠p→dK (base+d'.ix)=none)
  (hv:VR dK (V p) v'):NT base nk ds E H V B K9 xJ M0 w0 q (more S p) dK (a.put d.o.dst v') w' where
 qle:=I.qle
 apT:=I.apT.imp id λ⟨j,h1,h2,h3⟩=>⟨j,by simp[more,h1],h2,h3⟩
 below j h1 h2:=by
  by_cases hj:j=p
  ·subst hj
   simp[nV,hd,hq]at h2
  ·rw[EZ hj]at h1
   exact I.below j h1 h2
 closed r s h1 h2:=by
  by_cases hs:s=p
  ·subst hs
   simp[more,hpre r h2]
  ·rw[EZ hs]at h1
   simp[more,I.closed r s h1 h2]
 nones:=I.nones
 am6:=I.am6
 tr:=ht
 unm r d' h1 h2 h3:=by
  by_cases hr:r=p
  ·subst hr
   simp[more]at h3
  ·rw[EZ hr]at h3
   exact hu r d' h1 h2 h3 hr
 env:=by
  have:=am2 (V:=V) (e0:=E 0) (S:=S) c hd
  show gT dK (Ej ds (E 0) V (more S p)) _
  unfold more
  rw[this]
  exact abB (gT.mono hle _ _ I.env) hv
 defs:=by rw[put_defers];exact I.defs
theorem ZP{q:Nat}{S:Nat→Bool}{p:Nat}{d:iw}(hd:ds[p]?=some d)(hk:d.o.op.isK=false):jf base nk ds H B q (more S p)=jf base nk ds H B q S:=by
 refine II (λb=>?_) rfl
 simp only[jf]
 split
 ·cases hs:oK ds (b-base)with
  | none=>rfl
  | some p0 =>
   simp only
   have:p0≠p:=by
    rintro rfl
    obtain⟨d',h1,h2,_⟩:=uJ hs
    rw[hd]at h1
    obtain rfl:=av h1
    rw[hk]at h2
    cases h2
   rw[EZ this]
 ·rfl
theorem NT.ab1(c:Kt nk ds K9){xJ:jh}{M0:Heap}{w0:World}{q:Nat}{S:Nat→Bool}{ι:jh}{a:Act}{w:World}(I:NT base nk ds E H V B K9 xJ M0 w0 q S ι a w){p:Nat}{d:iw}(hd:ds[p]?=some d)(hS:S p=false)(hp:d.o.op.plain=false):q≤p:=by
 rcases I.apT with h |⟨j,h1,h2,h3⟩
 ·omega
 ·rcases Nat.lt_or_ge p j with hlt | hge
  ·have hj:=h2
   unfold nV at hj
   split at hj
   ·rename_i d' hd'
    have:=I.closed p j h1 (c.loud p j d d' hd hd' hlt hj hp)
    rw[hS]at this
    cases this
   ·cases hj
  ·rcases Nat.eq_or_lt_of_le hge with e | hlt
   ·subst e
    rw[hS]at h1
    cases h1
   ·omega
def pending(base nk:Nat)(ds:List iw)(B:Nat→Option pJ)(S:Nat→Bool)(p:Nat)(b:Nat):Option pJ :=
 if base≤b∧b<base+nk then (match oK ds (b-base)with | some p0=>if p<p0∧S p0=true then B p0 else none | none=>none)else none
theorem NT.auI (c:Kt nk ds K9) (r:aay C base nk ds E H G V W B) {xJ:jh} {M0:Heap} {w0:World} {q:Nat} {S:Nat→Bool} {ι:jh} {a:Act} {w:World} (I:NT base nk ds E H V B K9 xJ M0 w0 q S ι a w) {p:Nat} {d:iw} (hd:ds[p]?=some d) (hS:S p=false)
  (hpre:∀r,K9 r p→S r=true) (hl:d.o.op.loud=true) :
  q≤p∧jf base nk ds H B q S=(H p).over (pending base nk ds B S p)∧(∀b,base≤b→b<base+nk→(∀p0,oK ds (b-base)=some p0→p≤p0→(H p).get b=none)∧(oK ds (b-base)=none→(H p).get b=none))∧base+nk≤(H p).next:=by
 have hplain:d.o.op.plain=false:=by
  cases ho:d.o.op with
  | p o=>rw[ho]at hl;cases hl
  | _=>rfl
 have hqp:=I.ab1 c hd hS hplain
 have aie:=(aY.1 hd).1
 have hno:∀j,q≤j→j<p→nV ds j=false:=by
  intro j h1 h2
  cases hj:nV ds j with
  | false=>rfl
  | true =>
   have hj':=hj
   unfold nV at hj'
   split at hj'
   ·rename_i d' hd'
    have hnp:d'.o.op.plain=false:=by
     cases ho:d'.o.op with
     | p o=>rw[ho]at hj';cases hj'
     | _=>rfl
    have:=I.below j (hpre j (c.loud j p d' d hd' hd h2 hl hnp)) hj
    omega
   ·cases hj'
 obtain⟨g1,g2,g3⟩:=UW c r p hqp (by omega) hno
 have g3':=g3 (λb p0 b1 b2 hs hq=>(I.nones b b1 b2).1 p0 hs hq)
 have hK:∀p0 s,oK ds s=some p0→p0≠p:=by
  rintro p0 s hs rfl
  obtain⟨d',h1,h2,_⟩:=uJ hs
  rw[hd]at h1
  obtain rfl:=av h1
  cases ho:d.o.op with
  | n o=>rw[ho]at h2;cases h2
  | p o=>rw[ho]at hl;cases hl
  | l o=>rw[ho]at hl;cases hl
  | k o=>rw[ho]at hl;cases hl
 refine⟨hqp,II (λb=>?_) g1.symm,λb b1 b2=>⟨λp0 hs hp0=>?_,λhs=>?_⟩,by rw[g1];exact I.am6⟩
 ·by_cases hb:base≤b∧b<base+nk
  ·have hg:=g3' b hb.1 hb.2
   cases hs:oK ds (b-base)with
   | none =>
    rw[hs]at hg
    have hX:pending base nk ds B S p b=none:=by simp[pending,hb,hs]
    rw[jl hX,hg]
    simp[jf,hb,hs,(I.nones b hb.1 hb.2).2 hs]
   | some p0 =>
    rw[hs]at hg
    simp only at hg
    have hne:=hK p0 _ hs
    rcases Nat.lt_or_ge p0 q with h1 | h1
    ·have hX:pending base nk ds B S p b=none:=by
      simp only[pending,if_pos hb,hs]
      rw[if_neg (by omega)]
     rw[jl hX,hg,if_neg (by omega)]
     simp[jf,hb,hs,h1]
    ·rcases Nat.lt_or_ge p0 p with h2 | h2
     ·have hX:pending base nk ds B S p b=none:=by
       simp only[pending,if_pos hb,hs]
       rw[if_neg (by omega)]
      rw[jl hX,hg,if_pos ⟨h1,h2⟩]
      obtain⟨d',k1,k2,_⟩:=uJ hs
      have hS0:S p0=true:=hpre p0 (c.loud p0 p d' d k1 hd h2 hl (by cases ho:d'.o.op with | p o=>rw[ho]at k2;cases k2 | _=>rfl))
      simp[jf,hb,hs,show ¬p0<q from by omega,hS0]
     ·have hnn:=(I.nones b hb.1 hb.2).1 p0 hs h1
      have hlhs:(jf base nk ds H B q S).get b=if S p0 then B p0 else none:=by
       simp[jf,hb,hs,show ¬p0<q from by omega]
      rw[hlhs]
      have hgn:(H p).get b=none:=by rw[hg,if_neg (by omega)];exact hnn
      cases hS0:S p0 with
      | false =>
       have hX:pending base nk ds B S p b=none:=by simp[pending,hb,hs,hS0]
       rw[jl hX,hgn]
       simp
      | true =>
       simp only[if_true]
       cases hB:B p0 with
       | none =>
        have hX:pending base nk ds B S p b=none:=by simp[pending,hb,hs,hS0,hB]
        rw[jl hX,hgn]
       | some x =>
        have hX:pending base nk ds B S p b=some x:=by
         simp only[pending,if_pos hb,hs]
         rw[if_pos ⟨by omega,hS0⟩,hB]
        rw[j_ hX]
  ·have hX:pending base nk ds B S p b=none:=by simp only[pending];rw[if_neg hb]
   rw[jl hX,g2 b hb]
   simp only[jf]
   rw[if_neg hb]
 ·have hg:=g3' b b1 b2
  rw[hs]at hg
  simp only at hg
  rw[hg]
  have:=hK p0 _ hs
  split
  ·omega
  ·exact(I.nones b b1 b2).1 p0 hs (by omega)
 ·have hg:=g3' b b1 b2
  rw[hs]at hg
  rw[hg]
  exact(I.nones b b1 b2).2 hs
theorem NT.behind (c:Kt nk ds K9) {xJ:jh} {M0:Heap} {w0:World} {q:Nat} {S:Nat→Bool} {ι:jh} {a:Act} {w:World} (I:NT base nk ds E H V B K9 xJ M0 w0 q S ι a w) {p:Nat} {d:iw} (hd:ds[p]?=some d) (hS:S p=false)
  (hpre:∀r,K9 r p→S r=true) (hl:d.o.op.loud=true) (hqp:q≤p)
  (hn:∀b,base≤b→b<base+nk→(∀p0,oK ds (b-base)=some p0→p≤p0→(H (p+1)).get b=none)∧(oK ds (b-base)=none→(H (p+1)).get b=none)) (hnx:base+nk≤(H (p+1)).next)
  {dK:jh} {w':World} {v':Value} (hle:ι.Le dK) (ht:Tr xJ M0 w0 dK ((H (p+1)).over (pending base nk ds B S p)) w') (hu:∀r d',ds[r]?=some d'→d'.o.op.isK=true→S r=false→dK (base+d'.ix)=none)
  (hv:VR dK (V p) v'):NT base nk ds E H V B K9 xJ M0 w0 (p+1) (more S p) dK (a.put d.o.dst v') w':=by
 have aie:=(aY.1 hd).1
 have hK:∀p0 s,oK ds s=some p0→p0≠p:=by
  rintro p0 s hs rfl
  obtain⟨d',h1,h2,_⟩:=uJ hs
  rw[hd]at h1
  obtain rfl:=av h1
  cases ho:d.o.op with
  | n o=>rw[ho]at h2;cases h2
  | p o=>rw[ho]at hl;cases hl
  | l o=>rw[ho]at hl;cases hl
  | k o=>rw[ho]at hl;cases hl
 have hheap:jf base nk ds H B (p+1) (more S p)=(H (p+1)).over (pending base nk ds B S p):=by
  refine II (λb=>?_) rfl
  by_cases hb:base≤b∧b<base+nk
  ·cases hs:oK ds (b-base)with
   | none =>
    have hX:pending base nk ds B S p b=none:=by simp[pending,hb,hs]
    rw[jl hX,(hn b hb.1 hb.2).2 hs]
    simp[jf,hb,hs]
   | some p0 =>
    have hne:=hK p0 _ hs
    rcases Nat.lt_or_ge p0 (p+1)with h1 | h1
    ·have hX:pending base nk ds B S p b=none:=by
      simp only[pending,if_pos hb,hs]
      rw[if_neg (by omega)]
     rw[jl hX]
     simp[jf,hb,hs,h1]
    ·have hgn:=(hn b hb.1 hb.2).1 p0 hs (by omega)
     have hlhs:(jf base nk ds H B (p+1) (more S p)).get b=if S p0 then B p0 else none:=by
      simp[jf,hb,hs,show ¬p0<p+1 from by omega,EZ hne]
     rw[hlhs]
     cases hS0:S p0 with
     | false =>
      have hX:pending base nk ds B S p b=none:=by simp[pending,hb,hs,hS0]
      rw[jl hX,hgn]
      simp
     | true =>
      simp only[if_true]
      cases hB:B p0 with
      | none =>
       have hX:pending base nk ds B S p b=none:=by simp[pending,hb,hs,hS0,hB]
       rw[jl hX,hgn]
      | some x =>
       have hX:pending base nk ds B S p b=some x:=by
        simp only[pending,if_pos hb,hs]
        rw[if_pos ⟨by omega,hS0⟩,hB]
       rw[j_ hX]
  ·have hX:pending base nk ds B S p b=none:=by simp only[pending];rw[if_neg hb]
   rw[jl hX]
   simp only[jf]
   rw[if_neg hb]
 constructor
 ·omega
 ·exact .inr ⟨p,afj S p,by simp[nV,hd,hl],rfl⟩
 ·intro j h1 h2
  by_cases hj:j=p
  ·omega
  ·rw[EZ hj]at h1
   have:=I.below j h1 h2
   omega
 ·intro r s h1 h2
  by_cases hs:s=p
  ·subst hs
   simp[more,hpre r h2]
  ·rw[EZ hs]at h1
   simp[more,I.closed r s h1 h2]
 ·intro b b1 b2
  exact⟨λp0 hs hp0=>(hn b b1 b2).1 p0 hs (by omega),(hn b b1 b2).2⟩
 ·exact hnx
 ·rw[hheap]
  exact ht
 ·intro r d' h1 h2 h3
  by_cases hr:r=p
  ·subst hr
   simp[more]at h3
  ·rw[EZ hr]at h3
   exact hu r d' h1 h2 h3
 ·have:=am2 (V:=V) (e0:=E 0) (S:=S) c hd
  show gT dK (Ej ds (E 0) V (more S p)) _
  unfold more
  rw[this]
  exact abB (gT.mono hle _ _ I.env) hv
 ·rw[put_defers]
  exact I.defs
end
theorem azc{o:PL}{e:Env}{x:pJ}{mk:Mk}(h:aK o e=some (x,mk)):x.own=true:=by
 cases o with
 | alloc z=>simp only[aK,aC,aS]at h;obtain⟨rfl,_⟩:=h;rfl
 | makeMap=>simp only[aK,aC,aS]at h;obtain⟨rfl,_⟩:=h;rfl
 | box y =>
  simp only[aK]at h
  obtain⟨cs,_,h⟩:=aH.1 h
  simp only[aS]at h
  obtain⟨rfl,_⟩:=h
  rfl
 | buildSlice a b c d =>
  simp only[aK]at h
  obtain⟨cs,_,h⟩:=aH.1 h
  simp only[aS]at h
  obtain⟨rfl,_⟩:=h
  rfl
 | makeSlice a b c d f =>
  simp only[aK,NQ]at h
  split at h
  case h_2=>cases h
  split at h
  case isFalse=>cases h
  simp only[aC,aS]at h
  obtain⟨rfl,_⟩:=h
  rfl
 | t_ y =>
  simp only[aK]at h
  split at h
  case h_2=>cases h
  split at h
  case isFalse=>cases h
  simp only[aC,aS]at h
  obtain⟨rfl,_⟩:=h
  rfl
section
variable {P:Program} {C:dO} {base nk:Nat} {ds:List iw} {E:Nat→Env} {H:Nat→Heap} {G:Nat→List Heap} {V:Nat→AV} {W:Nat→Bool} {B:Nat→Option pJ} {K9:Nat→Nat→Prop}
theorem aAs(r:aay C base nk ds E H G V W B){p:Nat}{x:pJ}(hp:p<ds.length)(h:B p=some x):x.own=true:=by
 have hd:ds[p]?=some ds[p]:=by simp[hp]
 have st:=r.step p _ hd
 cases hw:W p with
 | false=>rw[(st.no hw).2.2]at h;cases h
 | true =>
  cases ho:ds[p].o.op with
  | p o=>rw[(st.p o hw ho).2.2]at h;cases h
  | l o=>rw[(st.l o hw ho).2.2.1]at h;cases h
  | n o=>rw[(st.n o hw ho).2]at h;cases h
  | k o =>
   obtain⟨y,mk,k1,_,_,k4⟩:=st.k o hw ho
   rw[k4]at h
   obtain rfl:=av h
   exact azc k1
theorem NT.read (c:Kt nk ds K9) (r:aay C base nk ds E H G V W B) (hg0:G 0=[]) {xJ:jh} {M0:Heap} {w0:World} {q:Nat} {S:Nat→Bool} {ι:jh} {a:Act} {w:World} (I:NT base nk ds E H V B K9 xJ M0 w0 q S ι a w) {p:Nat} {d:iw} (hd:ds[p]?=some d) (hS:S p=false)
  (hpre:∀r,K9 r p→S r=true) {o:Ew} (ho:d.o.op=.l o) (hw:W p=true):aL o (Ej ds (E 0) V S) (jf base nk ds H B q S)=some (V p):=by
 have st:=r.step p d hd
 obtain⟨h1,_,_,h4⟩:=st.l o hw ho
 have aie:=(aY.1 hd).1
 have hqp:=I.ab1 c hd hS (by rw[ho];rfl)
 have hag:Agree o.rd (E p) (Ej ds (E 0) V S):=by
  have:=Yp c r I.closed hd hS hpre
  intro t ht
  exact this t (by simp[zM.rd,ho,Fw.rd,ht])
 have hsub:∀j,q≤j→j≤ds.length→(∀i,q≤i→i<j→nV ds i=false)→((H j).hide base nk).Sub (jf base nk ds H B q S):=by
  intro j j1 j2 j3 b x hx
  obtain⟨_,g2,_⟩:=UW c r j j1 j2 j3
  simp only[Heap.hide]at hx
  split at hx
  ·cases hx
  ·rename_i hb
   rw[g2 b hb]at hx
   simp only[jf]
   rw[if_neg hb]
   exact hx
 by_cases hex:∃j,q≤j∧j<p∧nV ds j=true
 ·obtain ⟨j,j1,j2,j3,j4⟩:∃j,q≤j∧j<p∧nV ds j=true∧∀i,q≤i→i<j→nV ds i=false:=by
   obtain⟨j,hj⟩:=hex
   induction j using Nat.strongRecOn with
   | _ j ih =>
    by_cases hsm:∃i,i<j∧q≤i∧i<p∧nV ds i=true
    ·obtain⟨i,i1,i2⟩:=hsm
     exact ih i i1 i2
    ·refine⟨j,hj.1,hj.2.1,hj.2.2,λi i1 i2=>?_⟩
     cases hi:nV ds i with
     | false=>rfl
     | true=>exact absurd ⟨i,i2,i1,by omega,hi⟩ hsm
  have hlo:d.lo≤Cz ds j:=by
   rcases Nat.lt_or_ge (Cz ds j) d.lo with h | h
   ·have:=I.below j (hpre j (c.lo p d j hd (by rw[ho];rfl) j2 j3 h)) j3
    omega
   ·exact h
  have:=h4 (Cz ds j) (H j) hlo (apS r hg0 (by omega) j2 j3)
  rw[←aic hag]
  exact apR (hsub j j1 (by omega) j4) this
 ·rw[←aic hag]
  refine apR (hsub p hqp (by omega) λi i1 i2=>?_) h1
  cases hi:nV ds i with
  | false=>rfl
  | true=>exact absurd ⟨i,i1,i2,hi⟩ hex
theorem NT.step (c:Kt nk ds K9) (r:aay C base nk ds E H G V W B) (hg0:G 0=[]) {xJ:jh} {M0:Heap} {w0:World} (hbase:M0.next=base) {q:Nat} {S:Nat→Bool} {ι:jh} {a:Act} {w:World} (I:NT base nk ds E H V B K9 xJ M0 w0 q S ι a w)
  {p:Nat} {d:iw} (hd:ds[p]?=some d) (hS:S p=false) (hpre:∀r,K9 r p→S r=true) {o:Oper} (hok:aib P C o d.o.op) (hdst:o.dst=d.o.dst) :
  (W p=true→∀(next:Act→World→Prop) (Q:Exit→Act→World→Prop),(∀q' dK v' w',NT base nk ds E H V B K9 xJ M0 w0 q' (more S p) dK (a.put o.dst v') w'→next (a.put o.dst v') w')→o.wp P a w next Q) ∧
  (W p=false→∃q',NT base nk ds E H V B K9 xJ M0 w0 q' (more S p) ι (a.put o.dst undef) w):=by
 have st:=r.step p d hd
 have aie:=(aY.1 hd).1
 have rr:=I.tr.rel
 have akM:=Yp c r I.closed hd hS hpre
 have hag:Agree d.o.op.rd (E p) (Ej ds (E 0) V S):=λt ht=>akM t (by simp[zM.rd,ht])
 rw[hdst]
 cases ho:d.o.op with
 | p po =>
  rw[ho]at hok hag
  have hs:=ZP (base:=base) (nk:=nk) (H:=H) (B:=B) (q:=q) (S:=S) hd (by rw[ho];rfl)
  have fin:∀v',VR ι (V p) v'→NT base nk ds E H V B K9 xJ M0 w0 q (more S p) ι (a.put d.o.dst v') w:=λv' hv =>
   I.quiet c hd hS hpre (by rw[ho];rfl) (jh.Le.refl ι) (by rw[hs];exact I.tr) (λr d' h1 h2 h3 _=>I.unm r d' h1 h2 h3) hv
  refine⟨λhw next Q hn=>?_,λhw=>⟨q,fin undef ?_⟩⟩
  ·have hv:=(st.p po hw ho).1
   rw[apO hag]at hv
   obtain⟨v',hrun,hvr⟩:=hok ι _ a w _ I.env hv
   rw[←hdst]at hn
   exact JZ.of_run hrun (hn q ι v' w (by rw[hdst];exact fin v' hvr))
  ·rw[(st.no hw).1]
   exact VR.unit ι
 | l lo =>
  rw[ho]at hok hag
  have hs:=ZP (base:=base) (nk:=nk) (H:=H) (B:=B) (q:=q) (S:=S) hd (by rw[ho];rfl)
  have fin:∀v',VR ι (V p) v'→NT base nk ds E H V B K9 xJ M0 w0 q (more S p) ι (a.put d.o.dst v') w:=λv' hv =>
   I.quiet c hd hS hpre (by rw[ho];rfl) (jh.Le.refl ι) (by rw[hs];exact I.tr) (λr d' h1 h2 h3 _=>I.unm r d' h1 h2 h3) hv
  refine⟨λhw next Q hn=>?_,λhw=>⟨q,fin undef ?_⟩⟩
  ·have hv:=I.read c r hg0 hd hS hpre ho hw
   obtain⟨v',hrun,hvr⟩:=hok ι _ _ a w _ rr I.env hv
   rw[←hdst]at hn
   exact JZ.of_run hrun (hn q ι v' w (by rw[hdst];exact fin v' hvr))
  ·rw[(st.no hw).1]
   exact VR.unit ι
 | k ko =>
  rw[ho]at hok hag
  have hk:d.o.op.isK=true:=by rw[ho];rfl
  have hqp:=I.ab1 c hd hS (by rw[ho];rfl)
  have am4:=afg c hd hk
  have hix:=c.azb p d hd hk
  have hget:(jf base nk ds H B q S).get (base+d.ix)=none:=by
   simp only[jf]
   rw[if_pos ⟨by omega,by omega⟩,show base+d.ix-base=d.ix from by omega,am4]
   simp only
   rw[if_neg (by omega),hS]
   simp
  have hother:∀b,b≠base+d.ix→(jf base nk ds H B q (more S p)).get b=(jf base nk ds H B q S).get b:=by
   intro b hb
   simp only[jf]
   split
   ·rename_i hr
    cases hs:oK ds (b-base)with
    | none=>rfl
    | some p0 =>
     simp only
     have:p0≠p:=by
      rintro rfl
      obtain⟨d',h1,_,h3⟩:=uJ hs
      rw[hd]at h1
      obtain rfl:=av h1
      omega
     rw[EZ this]
   ·rfl
  have hself:(jf base nk ds H B q (more S p)).get (base+d.ix)=B p:=by
   simp only[jf]
   rw[if_pos ⟨by omega,by omega⟩,show base+d.ix-base=d.ix from by omega,am4]
   simp only
   rw[if_neg (by omega),afj]
   simp
  refine⟨λhw next Q hn=>?_,λhw=>?_⟩
  ·obtain⟨x,mk,k1,k2,k3,k4⟩:=st.k ko hw ho
   rw[apP hag]at k1
   obtain⟨v',w',ob,N,hrun,hown,aAt,hrel⟩:=hok ι _ a w x mk I.env k1
   have hnone:=I.unm p d hd hk hS
   have hle:=jh.K8 hnone ⟨w.heap.size,0,N⟩
   have hset:(ι.set (base+d.ix) ⟨w.heap.size,0,N⟩) (base+d.ix)=some ⟨w.heap.size,0,N⟩:=by simp[jh.set]
   obtain⟨hb,hvr⟩:=hrel _ _ hle hset
   have htr:=Tr.slot I.tr (id:=base+d.ix) (by omega) (by have:=I.am6;simp only[jf];omega) hget hnone hown aAt hb
   have hheap:(jf base nk ds H B q S).put (base+d.ix) (some x)=jf base nk ds H B q (more S p):=by
    refine II (λb=>?_) rfl
    rw[mV]
    split
    ·rename_i hb
     rw[hb,hself,k4]
    ·rename_i hb
     rw[hother b hb]
   rw[hheap]at htr
   rw[←hdst]at hn
   refine JZ.of_run hrun (hn q (ι.set (base+d.ix) ⟨w.heap.size,0,N⟩) v' w' ?_)
   rw[hdst]
   refine I.quiet c hd hS hpre (by rw[ho];rfl) hle htr (λs d' h1 h2 h3 h4=>?_) (by rw[k2];exact hvr)
   have:base+d'.ix≠base+d.ix:=λe=>h4 (c.ix s p d' d h1 hd h2 hk (by omega))
   simp only[jh.set,if_neg this]
   exact I.unm s d' h1 h2 h3
  ·refine⟨q,I.quiet c hd hS hpre (by rw[ho];rfl) (jh.Le.refl ι) ?_ (λs d' h1 h2 h3 _=>I.unm s d' h1 h2 h3) (by rw[(st.no hw).1];exact VR.unit ι)⟩
   have hheap:jf base nk ds H B q (more S p)=jf base nk ds H B q S:=by
    refine II (λb=>?_) rfl
    by_cases hb:b=base+d.ix
    ·rw[hb,hself,hget,(st.no hw).2.2]
    ·exact hother b hb
   rw[hheap]
   exact I.tr
 | n no =>
  rw[ho]at hok hag
  have hl:d.o.op.loud=true:=by rw[ho];rfl
  obtain⟨hqp,hheap,hn0,hnx⟩:=I.auI c r hd hS hpre hl
  have hX:∀i x,pending base nk ds B S p i=some x→(H p).get i=none∧i<(H p).next∧x.own=true:=by
   intro i x hx
   unfold pending at hx
   split at hx
   case isFalse=>cases hx
   rename_i hb
   split at hx
   case h_2=>cases hx
   rename_i p0 hs
   split at hx
   case isFalse=>cases hx
   rename_i hc
   obtain⟨d',h1,_,_⟩:=uJ hs
   exact⟨(hn0 i hb.1 hb.2).1 p0 hs (by omega),by omega,aAs r (aY.1 h1).1 hx⟩
  rw[hheap]at rr
  have azd:=I.tr
  rw[hheap]at azd
  refine⟨λhw next Q hnext=>?_,λhw=>?_⟩
  ·have hrunA:=(st.n no hw ho).1
   rw[apQ hag]at hrunA
   have rH:R ι (H p) w:=rr.sub (λb x hx=>by
    have:pending base nk ds B S p b=none:=by
     cases hb:pending base nk ds B S p b with
     | none=>rfl
     | some y=>rw[(hX b y hb).1]at hx;cases hx
    rw[jl this]
    exact hx) rfl
   refine hok ι (H p) _ a w (V p) (H (p+1)) next Q rH I.env hrunA λdK v' w' ht hv=>?_
   have hf:=Tr.frame rr hX ht
   rw[hdst]
   refine hnext (p+1) dK v' w' ?_
   refine I.behind c hd hS hpre hl hqp (λb b1 b2=>⟨λp0 hs hp0=>?_,λhs=>?_⟩) (by have:=ht.next;omega) (ht.le rH) (azd.trans hf) (λs d' h1 h2 h3=>?_) hv
   ·exact ht.dead b (by omega) ((hn0 b b1 b2).1 p0 hs hp0)
   ·exact ht.dead b (by omega) ((hn0 b b1 b2).2 hs)
   ·have hix:=c.azb s d' h1 h2
    rw[ht.agree _ (by omega)]
    exact I.unm s d' h1 h2 h3
  ·obtain⟨n1,n2,n3⟩:=st.no hw
   refine⟨p+1,I.behind c hd hS hpre hl hqp (λb b1 b2=>?_) (by rw[n2];exact hnx) (jh.Le.refl ι) (by rw[n2];exact azd) (λs d' h1 h2 h3=>I.unm s d' h1 h2 h3) (by rw[n1];exact VR.unit ι)⟩
   rw[n2]
   exact hn0 b b1 b2
end
theorem SF:∀(l acc:List Nat),l.Nodup→(∀x,x∈l→x∈acc)→l.length≤acc.length
 | [],acc,_,_=>by simp
 | x::l,acc,h,hs=>by
  rw[List.nodup_cons]at h
  have hx:=hs x (by simp)
  have ih:=SF l (acc.erase x) h.2 λy hy=>by
   have hne:y≠x:=λe=>by subst e;exact h.1 hy
   exact(List.mem_erase_of_ne hne).2 (hs y (by simp[hy]))
  rw[List.length_erase_of_mem hx]at ih
  have:0<acc.length:=List.length_pos_of_mem hx
  simp
  omega
theorem least{n:Nat}{f:Nat→Prop}(rank:Nat→Nat)(h:∃i,i<n∧f i):∃i,i<n∧f i∧∀j,j<n→f j→rank i≤rank j:=by
 obtain⟨i,hi,hf⟩:=h
 generalize hr:rank i=r
 induction r using Nat.strongRecOn generalizing i with
 | _ r ih =>
  by_cases hs:∃j,j<n∧f j∧rank j<r
  ·obtain⟨j,h1,h2,h3⟩:=hs
   exact ih (rank j) h3 j h1 h2 rfl
  ·refine⟨i,hi,hf,λj h1 h2=>?_⟩
   rcases Nat.lt_or_ge (rank j) (rank i)with h | h
   ·exact absurd ⟨j,h1,h2,by omega⟩ hs
   ·exact h
structure Lin(m:Region.Mode)(ops:Array Oper)(l:List Nat):Prop where
 nodup:l.Nodup
 lt:∀i,i∈l→i<ops.size
 all:∀i,i<ops.size→i∈l
 after:∀l1 i l2,l=l1++i::l2→∀o e,ops[i]?=some o→e∈o.after→Region.binds m e=true→e.on∈l1
theorem aeh{l:List Nat}(h:l.Nodup):l.reverse.Nodup:=by
 unfold List.Nodup at h ⊢
 rw[List.pairwise_reverse]
 exact h.imp λh=>Ne.symm h
theorem aze {m:Region.Mode} {ops:Array Oper} (rank:Nat→Nat) (hb:∀i o e,ops[i]?=some o→e∈o.after→Region.binds m e=true→rank e.on<rank i∧e.on<ops.size) :
  ∀(fuel t:Nat) (listed:Array Bool) (acc:List Nat),listed.size=ops.size→(∀i,i<ops.size→(listed.getD i true=true↔i∈acc))→acc.Nodup→(∀i,i∈acc→i<ops.size) →
   (∀l1 i l2,acc.reverse=l1++i::l2→∀o e,ops[i]?=some o→e∈o.after→Region.binds m e=true→e.on∈l1)→fuel+acc.length=ops.size→Lin m ops (Region.linearise.go m ops fuel t listed acc):=by
 intro fuel
 induction fuel with
 | zero =>
  intro t listed acc h1 h2 h3 h4 h5 h6
  simp only[Region.linearise.go]
  refine⟨aeh h3,λi hi=>h4 i (by simpa using hi),λi hi=>?_,h5⟩
  simp only[List.mem_reverse]
  by_cases hm:i∈acc
  ·exact hm
  ·have:=SF (i::acc) (List.range ops.size) (List.nodup_cons.2 ⟨hm,h3⟩) (λx hx=>by
    rcases List.mem_cons.1 hx with rfl | hx
    ·simpa using hi
    ·simpa using h4 x hx)
   simp at this
   omega
 | succ fuel ih =>
  intro t listed acc h1 h2 h3 h4 h5 h6
  simp only[Region.linearise.go]
  have hF:∀i,i<ops.size→(listed.getD i false=true↔i∈acc):=λi hi=>by
   rw[←h2 i hi]
   simp[Array.getD_eq_getD_getElem?,h1,hi]
  generalize hrs:(List.range ops.size).filter (λi=>!listed.getD i true&&((ops[i]?).map (·.after.all λe=>!Region.binds m e||listed.getD e.on false)).getD false)=rs
  have hne:rs≠[]:=by
   have hex:∃i,i<ops.size∧i∉acc:=by
    refine Classical.byContradiction λhc=>?_
    have:=SF (List.range ops.size) acc List.nodup_range (λx hx=>by
     by_cases hm:x∈acc
     ·exact hm
     ·exact absurd ⟨x,by simpa using hx,hm⟩ hc)
    simp at this
    omega
   obtain⟨i,i1,i2,i3⟩:=least rank hex
   have hi:i∈rs:=by
    rw[←hrs,List.mem_filter]
    refine⟨by simpa using i1, ?_⟩
    have ho:ops[i]?=some ops[i]:=by simp[i1]
    rw[ho]
    simp only[Bool.and_eq_true,Bool.not_eq_true',bH,Option.getD_some,Array.all_eq_true_iff_forall_mem]
    refine⟨?_,λe he=>?_⟩
    ·cases hl:listed.getD i true with
     | false=>rfl
     | true=>exact absurd ((h2 i i1).1 hl) i2
    ·cases hbd:Region.binds m e with
     | false=>simp
     | true =>
      obtain⟨r1,r2⟩:=hb i _ e ho he hbd
      have hm:e.on∈acc:=by
       by_cases hm:e.on∈acc
       ·exact hm
       ·have:=i3 e.on r2 hm
        omega
      simp[(hF e.on r2).2 hm]
   intro he
   rw[he]at hi
   cases hi
  have hlen:0<rs.length:=List.length_pos_iff.2 hne
  have hget:∃i,rs[t%rs.length]?=some i:=⟨_,bQ (Nat.mod_lt _ hlen)⟩
  obtain⟨i,hi⟩:=hget
  rw[hi]
  simp only
  have hmem:i∈rs:=List.mem_of_getElem? hi
  rw[←hrs,List.mem_filter]at hmem
  obtain⟨hm1,hm2⟩:=hmem
  have hilt:i<ops.size:=by simpa using hm1
  have ho:ops[i]?=some ops[i]:=by simp[hilt]
  rw[ho]at hm2
  simp only[Bool.and_eq_true,Bool.not_eq_true',bH,Option.getD_some,Array.all_eq_true_iff_forall_mem]at hm2
  have hni:i∉acc:=λhm=>by rw[(h2 i hilt).2 hm]at hm2;cases hm2.1
  refine ih _ _ _ (by simpa using h1) (λj hj=>?_) (List.nodup_cons.2 ⟨hni,h3⟩) (λj hj=>?_) ?_ (by simp;omega)
  ·simp only[Array.getD_eq_getD_getElem?,Array.getElem?_setIfInBounds,List.mem_cons]
   have:=h2 j hj
   rw[Array.getD_eq_getD_getElem?]at this
   by_cases hij:i=j
   ·subst hij
    simp[h1,hilt]
   ·rw[if_neg hij]
    rw[this]
    simp[Ne.symm hij]
  ·rcases List.mem_cons.1 hj with rfl | hj
   ·exact hilt
   ·exact h4 j hj
  ·intro l1 j l2 hl o e ho' he hbd
   rw[List.reverse_cons]at hl
   rcases List.eq_nil_or_concat l2 with rfl |⟨l2',x,rfl⟩
   ·have hl':acc.reverse++[i]=l1++[j]:=hl
    have:=List.append_inj' hl' rfl
    obtain⟨e1,e2⟩:=this
    injection e2 with e2
    subst e2
    rw[ho]at ho'
    obtain rfl:=av ho'
    have:=hm2.2 e he
    rw[hbd]at this
    simp only[Bool.not_true,Bool.false_or]at this
    obtain⟨_,r2⟩:=hb i _ e ho he hbd
    rw[←e1]
    simpa using (hF e.on r2).1 this
   ·have hl':acc.reverse++[i]=(l1++j::l2')++[x]:=by rw[hl];simp
    have:=List.append_inj' hl' rfl
    exact h5 l1 j l2' this.1 o e ho' he hbd
theorem K_{m:Region.Mode}{ops:Array Oper}(rank:Nat→Nat)(hb:∀i o e,ops[i]?=some o→e∈o.after→Region.binds m e=true→rank e.on<rank i∧e.on<ops.size)(t:Nat):Lin m ops (Region.linearise m ops t):=by
 unfold Region.linearise
 refine aze rank hb ops.size t _ [] (by simp) (λi hi=>?_) (by simp) (by simp) (by simp) (by simp)
 simp[Array.getD_eq_getD_getElem?,hi]
def abC(ops:Array Oper)(rho:List Nat):Bool :=
 ops.toList.zipIdx.all λp=>p.1.after.toList.all λe =>
  (match e.ground with |.gcOnly _=>true | _=>decide (e.on<p.2))&&(match e.ground with |.textOnly _=>true | _=>decide (rho.idxOf e.on<rho.idxOf p.2∧e.on<ops.size))
theorem Wi{ops:Array Oper}{rho:List Nat}(h:abC ops rho=true)(mixed:Bool)(t:Nat):Lin .any ops (Region.schedule mixed ops t):=by
 have hE:∀(i:Nat) (o:Oper) (e:Edge),ops[i]?=some o→e∈o.after→(match e.ground with |.gcOnly _=>true | _=>decide (e.on<i))=true∧(match e.ground with |.textOnly _=>true | _=>decide (rho.idxOf e.on<rho.idxOf i∧e.on<ops.size))=true:=by
  intro i o e ho he
  unfold abC at h
  rw[List.all_eq_true]at h
  have:=h (o,i) (by rw[List.mem_zipIdx_iff_getElem?];simpa using ho)
  rw[List.all_eq_true]at this
  have:=this e (by simpa using he)
  rw[Bool.and_eq_true]at this
  exact this
 have hlt:∀i o,ops[i]?=some o→i<ops.size:=λi o h=>(Array.getElem?_eq_some_iff.1 h).1
 have weak:∀m l,Lin m ops l→(∀e,Region.binds .any e=true→Region.binds m e=true)→Lin .any ops l:=λm l L hw =>
  ⟨L.nodup,L.lt,L.all,λl1 i l2 hl o e ho he hb=>L.after l1 i l2 hl o e ho he (hw e hb)⟩
 have hany:∀t,Lin .any ops (Region.linearise .any ops t):=K_ id λi o e ho he hb=>by
  have:=(hE i o e ho he).1
  cases hg:e.ground<;>simp[Region.binds,hg]at hb this ⊢<;>(refine⟨this, ?_⟩;have:=hlt i o ho;omega)
 have htext:∀t,Lin .any ops (Region.linearise .text ops t):=λt=>weak _ _ (K_ id (λi o e ho he hb=>by
  have:=(hE i o e ho he).1
  cases hg:e.ground<;>simp[Region.binds,hg]at hb this ⊢<;>(refine⟨this, ?_⟩;have:=hlt i o ho;omega)) t) (λe hb=>by cases hg:e.ground<;>simp[Region.binds,hg]at hb ⊢)
 have hgc:∀t,Lin .any ops (Region.linearise .gc ops t):=λt=>weak _ _ (K_ (rho.idxOf ·) (λi o e ho he hb=>by
  have:=(hE i o e ho he).2
  cases hg:e.ground<;>simp[Region.binds,hg]at hb this ⊢<;>exact this) t) (λe hb=>by cases hg:e.ground<;>simp[Region.binds,hg]at hb ⊢)
 unfold Region.schedule
 split
 ·exact hany t
 ·split
  ·exact htext _
  ·exact hgc _
def IJ(P:Program)(ops:Array Oper)(o:Oper):zM :=
 match o.guard with
 | none=>{ dst:=o.dst,op:=cOp P o.op,guard:=none }
 | some (j,want)=>match (ops[j]?).bind (·.dst)with
  | some t=>{ dst:=o.dst,op:=cOp P o.op,guard:=some (t,want) }
  | none=>{ dst:=o.dst,op:=.n .fail,guard:=none }
theorem Yq(P:Program)(ops:Array Oper)(o:Oper):(IJ P ops o).dst=o.dst:=by
 unfold IJ
 split
 ·rfl
 ·split<;>rfl
theorem aif{P:Program}{C:dO}(hC:Cy P C)(ops:Array Oper)(o:Oper):aib P C o (IJ P ops o).op:=by
 unfold IJ
 split
 ·exact apN hC o
 ·split
  ·exact apN hC o
  ·exact JZ.fail
theorem NU{P:Program}(ops:Array Oper)(o:Oper){e:Env}{a:Act}{ι:jh}(he:gT ι e a.tmps.toList){b:Bool}(h:yR (IJ P ops o).guard e=some b):Region.wanted o (yielded ops a.tmps)=b∨((IJ P ops o).op=.n .fail∧b=true):=by
 unfold IJ at h ⊢
 cases hg:o.guard with
 | none =>
  rw[hg]at h
  simp only[yR,aC]at h
  subst h
  exact .inl (by simp[Region.wanted,hg])
 | some p =>
  obtain⟨j,want⟩:=p
  rw[hg]at h
  simp only at h ⊢
  cases ht:(ops[j]?).bind (·.dst)with
  | none =>
   rw[ht]at h
   simp only[yR,aC]at h
   subst h
   exact .inr ⟨rfl,rfl⟩
  | some t =>
   rw[ht]at h
   simp only[yR]at h
   left
   have hr:=he.getD t undef
   have hcell:∀v,a.tmps.toList.getD t undef=v→(t<a.tmps.size→a.tmps[t]?=some v):=by
    intro v hv hlt
    rw[List.getD_eq_getElem?_getD,Array.getElem?_toList]at hv
    have:a.tmps[t]?=some a.tmps[t]:=by simp[hlt]
    rw[this]at hv ⊢
    simpa using hv
   have hlt:e.getD t .undef≠.undef→t<a.tmps.size:=by
    intro hne
    rcases Nat.lt_or_ge t a.tmps.size with hc | hc
    ·exact hc
    exfalso
    apply hne
    have hl:List.length e=a.tmps.size:=by simpa using he.length
    have hle:List.length e≤t:=by omega
    rw[List.getD_eq_getElem?_getD,List.getElem?_eq_none hle]
    rfl
   split at h
   ·rename_i c hc
    rw[hc]at hr
    simp only[VR]at hr
    have:=hcell _ hr (hlt (by rw[hc];simp))
    obtain rfl:=av h
    simp[Region.wanted,hg,yielded,ht,this]
   ·rename_i vs hc
    rw[hc]at hr
    simp only[VR]at hr
    obtain⟨ws,hr,_⟩:=hr
    have:=hcell _ hr (hlt (by rw[hc];simp))
    obtain rfl:=av h
    simp[Region.wanted,hg,yielded,ht,this]
   ·cases h
theorem anX {P:Program} {C:dO} {o:Oper} {ao:Fw} (hok:aib P C o ao) {ι:jh} {M M':Heap} {e:Env} {a:Act} {w:World} {v:AV} {next:Act→World→Prop} {Q:Exit→Act→World→Prop} (r:R ι M w) (he:gT ι e a.tmps.toList) (h:V5 C ao e M=some (v,M'))
  (hn:∀dK v' w',Tr ι M w dK M' w'→VR dK v v'→next (a.put o.dst v') w'):o.wp P a w next Q:=by
 cases ao with
 | p po =>
  simp only[V5]at h
  obtain⟨u,hu,h⟩:=aH.1 h
  simp only[aS]at h
  obtain⟨rfl,rfl⟩:=h
  obtain⟨v',h1,h2⟩:=hok ι e a w u he hu
  exact JZ.of_run h1 (hn ι v' w (Tr.refl r) h2)
 | l lo =>
  simp only[V5]at h
  obtain⟨u,hu,h⟩:=aH.1 h
  simp only[aS]at h
  obtain⟨rfl,rfl⟩:=h
  obtain⟨v',h1,h2⟩:=hok ι M e a w u r he hu
  exact JZ.of_run h1 (hn ι v' w (Tr.refl r) h2)
 | k ko =>
  simp only[V5]at h
  obtain⟨⟨x,mk⟩,hu,h⟩:=aH.1 h
  simp only[aS]at h
  obtain⟨rfl,rfl⟩:=h
  obtain⟨v',w',ob,N,h1,h2,h3,h4⟩:=hok ι e a w x mk he hu
  have hnone:=(r.fresh M.next (Nat.le_refl _)).2
  obtain⟨hb,hv⟩:=h4 M.next (ι.set M.next ⟨w.heap.size,0,N⟩) (jh.K8 hnone _) (by simp[jh.set])
  exact JZ.of_run h1 (hn _ v' w' (Tr.push r h2 h3 hb) hv)
 | n no =>
  simp only[V5]at h
  exact hok ι M e a w v M' next Q r he h hn
theorem UY {P:Program} {C:dO} (hC:Cy P C) {ops:Array Oper} {Q:Exit→Act→World→Prop}:∀(l:List Nat) (ι:jh) (M:Heap) (e:Env) (a:Act) (w:World) (e':Env) (M':Heap),(∀i,i∈l→i<ops.size)→R ι M w→gT ι e a.tmps.toList→a.defers=[] →
  Yi C (l.map λi=>IJ P ops (ops.getD i default)) e M=some (e',M')→(∀dK a' w',Tr ι M w dK M' w'→gT dK e' a'.tmps.toList→a'.defers=[]→Q .normal a' w')→wpOps P ops Q l a w
 | [],ι,M,e,a,w,e',M',_,r,he,hd,h,hq=>by
  simp only[List.map_nil,Yi,aC,aS]at h
  obtain⟨rfl,rfl⟩:=h
  exact hq ι a w (Tr.refl r) he hd
 | i::l,ι,M,e,a,w,e',M',hlt,r,he,hd,h,hq=>by
  have hi:=hlt i (by simp)
  have ho:ops[i]?=some ops[i]:=by simp[hi]
  have hg:ops.getD i default=ops[i]:=by simp[Array.getD_eq_getD_getElem?,hi]
  simp only[List.map_cons,Yi,hg]at h
  simp only[wpOps,ho]
  have hok:=aif hC ops ops[i]
  split at h
  ·rename_i hw
   obtain⟨⟨v,M1⟩,hop,h⟩:=aR.1 h
   have hwant:Region.wanted ops[i] (yielded ops a.tmps)=true:=by
    rcases NU (P:=P) ops ops[i] he hw with hw' |⟨hf,_⟩
    ·exact hw'
    ·rw[hf]at hop
     simp[V5,aN]at hop
   rw[if_pos hwant]
   left
   rw[Yq]at h
   refine anX hok r he hop λqK v' w' ht hv=>?_
   exact UY hC l qK M1 _ _ w' e' M' (λj hj=>hlt j (by simp[hj])) ht.rel (abB (gT.mono (ht.le r) _ _ he) hv) (by rw[put_defers];exact hd) h λEy a2 w2 ht2=>hq Ey a2 w2 (ht.trans ht2)
  ·rename_i hw
   have hwant:¬Region.wanted ops[i] (yielded ops a.tmps)=true:=by
    rcases NU (P:=P) ops ops[i] he hw with hw' |⟨_,hf⟩
    ·simp[hw']
    ·cases hf
   rw[if_neg hwant]
   rw[Yq]at h
   exact UY hC l ι M _ _ w e' M' (λj hj=>hlt j (by simp[hj])) r (abB he (VR.unit ι)) (by rw[put_defers];exact hd) h hq
  ·cases h
def ZQ(o:Oper):List Nat:=(o.after.toList.filter (Region.binds .any)).map (·.on)
def akN:List Oper→List Nat→List Nat
 | [],acc=>acc
 | o::r,acc=>akN r (acc++[(ZQ o).foldl (λx p=>x ||| 2 ^ p ||| acc.getD p 0) 0])
def Good(ops:List Oper)(A:List Nat):Prop:=∀i a,(A.getD i 0).testBit a=true→∃o,ops[i]?=some o∧∃p,p∈ZQ o∧(a=p∨(p<i∧(A.getD p 0).testBit a=true))
theorem aii(acc:List Nat)(a:Nat):∀(l:List Nat) (x:Nat),(l.foldl (λx p=>x ||| 2 ^ p ||| acc.getD p 0) x).testBit a=true→x.testBit a=true∨∃p,p∈l∧(a=p∨(acc.getD p 0).testBit a=true)
 | [],x,h=>.inl h
 | p::l,x,h=>by
  rw[List.foldl_cons]at h
  rcases aii acc a l _ h with h |⟨q,hq,h⟩
  ·rw[Nat.testBit_or,Nat.testBit_or,Nat.testBit_two_pow,Bool.or_eq_true,Bool.or_eq_true,decide_eq_true_eq]at h
   rcases h with(h | h) | h
   ·exact .inl h
   ·exact .inr ⟨p,by simp,.inl h.symm⟩
   ·exact .inr ⟨p,by simp,.inr h⟩
  ·exact .inr ⟨q,by simp[hq],h⟩
theorem afk(all:List Oper):∀(r pre:List Oper) (acc:List Nat),all=pre++r→acc.length=pre.length→Good all acc→Good all (akN r acc)
 | [],_,acc,_,_,h=>h
 | o::r,pre,acc,he,hl,h=>by
  simp only[akN]
  refine afk all r (pre++[o]) _ (by simp[he]) (by simp[hl]) λi a ha=>?_
  have hgd:∀j,j<acc.length→∀x,(acc++[x]).getD j 0=acc.getD j 0:=λj hj x=>by
   simp[List.getD_eq_getElem?_getD,List.getElem?_append_left hj]
  rcases Nat.lt_or_ge i acc.length with hi | hi
  ·rw[hgd i hi]at ha
   obtain⟨o',h1,p,h2,h3⟩:=h i a ha
   refine⟨o',h1,p,h2,h3.imp id λ⟨h4,h5⟩=>⟨h4, ?_⟩⟩
   rw[hgd p (by omega)]
   exact h5
  ·rcases Nat.eq_or_lt_of_le hi with e | hi
   ·subst e
    have e1:(acc++[(ZQ o).foldl (λx p=>x ||| 2 ^ p ||| acc.getD p 0) 0]).getD acc.length 0=(ZQ o).foldl (λx p=>x ||| 2 ^ p ||| acc.getD p 0) 0:=by
     simp[List.getD_eq_getElem?_getD]
    rw[e1]at ha
    rcases aii acc a _ _ ha with ha |⟨p,hp,ha⟩
    ·simp at ha
    refine⟨o,by rw[he,hl];simp,p,hp, ?_⟩
    rcases ha with ha | ha
    ·exact .inl ha
    ·have aie:p<acc.length:=by
      refine Classical.byContradiction λhc=>?_
      rw[List.getD_eq_getElem?_getD,List.getElem?_eq_none (by omega)]at ha
      simp at ha
     refine .inr ⟨aie, ?_⟩
     rw[hgd p aie]
     exact ha
   ·rw[List.getD_eq_getElem?_getD,List.getElem?_eq_none (by simp;omega)]at ha
    simp at ha
theorem aij{ops:List Oper}{A:List Nat}(h:Good ops A){S:Nat→Prop}(hS:∀i,S i→∀o,ops[i]?=some o→∀p,p∈ZQ o→S p):∀i,S i→∀a,(A.getD i 0).testBit a=true→S a:=by
 intro i
 induction i using Nat.strongRecOn with
 | _ i ih =>
  intro hi a ha
  obtain⟨o,h1,p,h2,h3⟩:=h i a ha
  have hp:=hS i hi o h1 p h2
  rcases h3 with rfl |⟨h3,h4⟩
  ·exact hp
  ·exact ih p h3 hp a h4
def azf(A:List Nat)(loud:Nat→Bool)(n:Nat):List Nat :=
 let acc:=(List.range n).foldl (λacc j=>if loud j then acc++((List.range n).filter λi=>(A.getD j 0).testBit i&&!acc.contains i)++[j]else acc) []
 acc++(List.range n).filter λi=>!acc.contains i
def agI(A:List Nat)(Ee:List Nat)(p q:Nat):Bool:=(A.getD (Ee.getD q 0) 0).testBit (Ee.getD p 0)
def dList(P:Program)(ops:Array Oper)(A:List Nat)(Ee:List Nat):List iw :=
 let Yi:=ops.toList.map (IJ P ops)
 let at_ (i:Nat):zM:=Yi.getD i { dst:=none,op:=.n .fail,guard:=none }
 let aAu:=Ee.filter λi=>(at_ i).op.loud
 let ks:=Ee.filter λi=>(at_ i).op.isK
 Ee.map λi=>{ o:=at_ i,lo:=(aAu.takeWhile λj=>(A.getD i 0).testBit j).length,ix:=ks.idxOf i }
structure DZ where
 d:iw
 p:Nat
 i:Nat
 m:Nat
 r:Nat
 c:Nat
def agJ(l:List Nat):Nat:=l.foldl (λx t=>x ||| 2 ^ t) 0
theorem ZR(t:Nat):∀(l:List Nat) (x:Nat),(t∈l∨x.testBit t=true)→(l.foldl (λx t=>x ||| 2 ^ t) x).testBit t=true
 | [],x,h=>by simpa using h
 | u::l,x,h=>by
  rw[List.foldl_cons]
  refine ZR t l _ ?_
  rcases h with h | h
  ·rcases List.mem_cons.1 h with rfl | h
   ·right
    rw[Nat.testBit_or,Nat.testBit_two_pow]
    simp
   ·exact .inl h
  ·right
   rw[Nat.testBit_or,h]
   simp
theorem akO{t:Nat}{l:List Nat}(h:t∈l):(agJ l).testBit t=true:=ZR t l 0 (.inl h)
def akP(A:List Nat):List iw→List Nat→Nat→Nat→List DZ
 | d::ds,i::Ee,p,c=>⟨d,p,i,A.getD i 0,agJ d.o.rd,c⟩::akP A ds Ee (p+1) (if d.o.op.loud then c+1 else c)
 | _,_,_,_=>[]
def anY(ds:List iw)(j:Nat):Nat:=((ds.take j).filter λd=>d.o.op.loud).length
theorem am7(ds:List iw):∀j,j≤ds.length→Cz ds j=anY ds j
 | 0,_=>by simp[Cz,anY]
 | j+1,h=>by
  have ih:=am7 ds j (by omega)
  unfold Cz anY at ih ⊢
  rw[List.range_succ,List.filter_append,aD,ih,List.take_add_one,List.filter_append,aD]
  congr 1
  have hj:ds[j]?=some ds[j]:=bQ (by omega)
  simp only[hj,Option.toList_some,List.filter_cons,List.filter_nil,nV]
  split<;>rfl
theorem aik(A:List Nat):∀(ds:List iw) (Ee:List Nat) (p c j:Nat) (d:iw) (i:Nat),ds[j]?=some d→Ee[j]?=some i→(akP A ds Ee p c)[j]?=some ⟨d,p+j,i,A.getD i 0,agJ d.o.rd,c+anY ds j⟩
 | [],_,_,_,_,_,_,h,_=>by simp at h
 | _::_,[],_,_,_,_,_,_,h=>by simp at h
 | d::ds,i::Ee,p,c,0,d',i',h1,h2=>by
  simp at h1 h2
  subst h1 h2
  simp[akP,anY]
 | d::ds,i::Ee,p,c,j+1,d',i',h1,h2=>by
  simp only[List.getElem?_cons_succ]at h1 h2
  simp only[akP,List.getElem?_cons_succ]
  rw[aik A ds Ee _ _ j d' i' h1 h2]
  simp only[aC,DZ.mk.injEq,true_and]
  refine⟨by omega, ?_⟩
  simp only[anY,List.take_succ_cons,List.filter_cons]
  cases d.o.op.loud<;>simp<;>omega
def akQ(nk:Nat)(dz:List DZ):Bool :=
 (dz.all λp=>dz.all λq =>
  (!q.m.testBit p.i||decide (p.p<q.p)) &&
  (p.p==q.p||(
   (match p.d.o.dst with | some t=>q.d.o.dst != some t | none=>true) &&
   (match q.d.o.dst with | some t=>!(p.r.testBit t)||p.m.testBit q.i||q.m.testBit p.i | none=>true) &&
   (!(q.d.o.op.loud&&decide (p.p<q.p)&&!p.d.o.op.plain)||q.m.testBit p.i) &&
   (!(p.d.o.op.jY&&q.d.o.op.loud&&decide (q.p<p.p)&&decide (q.c<p.d.lo))||p.m.testBit q.i) &&
   (!(p.d.o.op.isK&&q.d.o.op.isK)||p.d.ix != q.d.ix)))) &&
 (dz.all λp=>!p.d.o.op.isK||decide (p.d.ix<nk))
theorem ail{nk:Nat}{ds:List iw}{A Ee:List Nat}(hlen:ds.length=Ee.length)(h:akQ nk (akP A ds Ee 0 0)=true):Kt nk ds (λp q=>p<ds.length∧q<ds.length∧agI A Ee p q=true):=by
 unfold akQ at h
 simp only[Bool.and_eq_true,List.all_eq_true]at h
 obtain⟨h1,h2⟩:=h
 have lt:∀p (d:iw),ds[p]?=some d→p<ds.length:=λp d h=>(aY.1 h).1
 have tg:∀p,p<ds.length→Ee[p]?=some (Ee.getD p 0):=λp hp=>by
  rw[List.getD_eq_getElem?_getD,bQ (by omega)]
  rfl
 have hm:∀(p:Nat) (d:iw),ds[p]?=some d→(⟨d,p,Ee.getD p 0,A.getD (Ee.getD p 0) 0,agJ d.o.rd,Cz ds p⟩:DZ)∈akP A ds Ee 0 0:=λp d hp=>by
  have:=aik A ds Ee 0 0 p d _ hp (tg p (lt p d hp))
  rw[Nat.zero_add,Nat.zero_add,←am7 ds p (Nat.le_of_lt (lt p d hp))]at this
  exact List.mem_of_getElem? this
 have H:∀(p q:Nat) (d d':iw),ds[p]?=some d→ds[q]?=some d'→_:=λp q d d' hp hq=>h1 _ (hm p d hp) _ (hm q d' hq)
 have or1:∀ {a b:Bool},(a||b)=true→a=false→b=true:=λ{a b} h1 h2=>by subst h2;simpa using h1
 have N:∀(p q:Nat) (d d':iw),ds[p]?=some d→ds[q]?=some d'→p≠q→_:=λp q d d' hp hq hne=>or1 (H p q d d' hp hq).2 (by simpa using hne)
 constructor
 ·rintro p q ⟨hp,hq,ha⟩
  have:=(H p q _ _ (bQ hp) (bQ hq)).1
  have ha':(A.getD (Ee.getD q 0) 0).testBit (Ee.getD p 0)=true:=ha
  rw[ha']at this
  simpa using this
 ·intro p q d d' t hp hq hne ht
  have:=N p q d d' hp hq hne
  simp only[Bool.and_eq_true]at this
  have:=this.1.1.1.1
  rw[ht]at this
  simpa using this
 ·intro p q d d' t hp hq hne ht hr
  have:=N p q d d' hp hq hne
  simp only[Bool.and_eq_true]at this
  have:=this.1.1.1.2
  rw[ht]at this
  simp[akO hr]at this
  exact this.imp (λh=>⟨lt _ _ hq,lt _ _ hp,by simpa[agI]using h⟩) (λh=>⟨lt _ _ hp,lt _ _ hq,by simpa[agI]using h⟩)
 ·intro p q d d' hp hq hlt hl hpl
  have:=N p q d d' hp hq (by omega)
  simp only[Bool.and_eq_true]at this
  have:=this.1.1.2
  simp[hlt,hl,hpl]at this
  exact⟨lt _ _ hp,lt _ _ hq,by simpa[agI]using this⟩
 ·intro p d q hp hl hlt am3 hc
  have hq:q<ds.length:=by have:=lt _ _ hp;omega
  have hq':=bQ hq
  have:=N p q d _ hp hq' (by omega)
  simp only[Bool.and_eq_true]at this
  have:=this.1.2
  have hl2:ds[q].o.op.loud=true:=by simpa[nV,hq']using am3
  simp[hl,hlt,hl2,hc]at this
  exact⟨hq,lt _ _ hp,by simpa[agI]using this⟩
 ·intro p d hp hk
  have:=h2 _ (hm p d hp)
  simpa[hk]using this
 ·intro p q d d' hp hq hk hk' hix
  refine Classical.byContradiction λhne=>?_
  have:=N p q d d' hp hq hne
  simp only[Bool.and_eq_true]at this
  have:=this.2
  simp[hk,hk',hix]at this
def ain(P:Program)(ops:Array Oper):cO :=
 let A:=akN ops.toList []
 let n:=ops.size
 let Yi:=ops.toList.map (IJ P ops)
 let Ee:=azf A (λi=>(Yi.getD i { dst:=none,op:=.n .fail,guard:=none }).op.loud) n
 let ds:=dList P ops A Ee
 let nk:=(Yi.filter λo=>o.op.isK).length
 if (abC ops (List.range n)||abC ops (Region.linearise .gc ops 0))&&(Ee.length==n&&decide Ee.Nodup&&(List.range n).all λi=>Ee.contains i)&&akQ nk (akP A ds Ee 0 0)then .aaw nk ds else .fail
theorem anZ{l:List Nat}(h:l.Nodup){i j x:Nat}(hi:l[i]?=some x)(hj:l[j]?=some x):i=j:=by
 obtain⟨i1,i2⟩:=aY.1 hi
 obtain⟨j1,j2⟩:=aY.1 hj
 rcases Nat.lt_trichotomy i j with hlt | he | hlt
 ·exact absurd (i2.trans j2.symm) (List.pairwise_iff_getElem.1 h i j i1 j1 hlt)
 ·exact he
 ·exact absurd (j2.trans i2.symm) (List.pairwise_iff_getElem.1 h j i j1 i1 hlt)
theorem apU {P:Program} {C:dO} (hC:Cy P C) {ops:Array Oper} {A:List Nat} (hA:Good ops.toList A) {Ee:List Nat} (htl:Ee.length=ops.size) (htn:Ee.Nodup) (hta:∀i,i<ops.size→i∈Ee) {ds:List iw} (hds:ds.length=Ee.length)
  (hdo:∀(p i:Nat),Ee[p]?=some i→∃(d:iw) (o:Oper),ds[p]?=some d∧ops[i]?=some o∧d.o=IJ P ops o) {nk base:Nat} (c:Kt nk ds (λp q=>p<ds.length∧q<ds.length∧agI A Ee p q=true))
  {E:Nat→Env} {H:Nat→Heap} {G:Nat→List Heap} {V:Nat→AV} {W:Nat→Bool} {B:Nat→Option pJ} (r:aay C base nk ds E H G V W B) (hg0:G 0=[]) {xJ:jh} {M0:Heap} {w0:World} (hbase:M0.next=base)
  {L:List Nat} (hL:Lin .any ops L) {Q:Exit→Act→World→Prop} (hq:∀ι a w,Tr xJ M0 w0 ι (H ds.length) w→gT ι (E ds.length) a.tmps.toList→a.defers=[]→Q .normal a w) :
  ∀(l dn:List Nat),L=dn++l→∀(q:Nat) (S:Nat→Bool) (ι:jh) (a:Act) (w:World),(∀p i,Ee[p]?=some i→(S p=true↔i∈dn)) →
   NT base nk ds E H V B (λp q=>p<ds.length∧q<ds.length∧agI A Ee p q=true) xJ M0 w0 q S ι a w→wpOps P ops Q l a w:=by
 intro l
 induction l with
 | nil =>
  intro dn hdn q S ι a w hS I
  simp only[wpOps]
  have hall:∀p,p<ds.length→S p=true:=λp hp=>by
   have ht:Ee[p]?=some Ee[p]:=by simp[show p<Ee.length from by omega]
   have hlt:=hL.lt
   rw[hS p _ ht]
   have:dn=L:=by simpa using hdn.symm
   rw[this]
   refine hL.all _ ?_
   -- a place of tau is an operation
   have:=hdo p _ ht
   obtain⟨d,o,_,h2,_⟩:=this
   exact(Array.getElem?_eq_some_iff.1 h2).1
  have aBW:Ej ds (E 0) V S=E ds.length:=by
   rw[akL c r ds.length (Nat.le_refl _)]
   unfold Ej
   refine List.map_congr_left λt _=>?_
   cases hw:writer ds t with
   | none=>rfl
   | some p =>
    obtain⟨d,hd,_⟩:=Ku hw
    have hp:=(aY.1 hd).1
    simp[hall p hp,hp]
  have hheap:jf base nk ds H B q S=H ds.length:=by
   obtain⟨g1,g2,g3⟩:=UW c r ds.length I.qle (Nat.le_refl _) λj j1 j2=>by
    cases hj:nV ds j with
    | false=>rfl
    | true=>have:=I.below j (hall j j2) hj;omega
   refine II (λb=>?_) g1.symm
   by_cases hb:base≤b∧b<base+nk
   ·rw[g3 (λb p0 b1 b2 hs hq=>(I.nones b b1 b2).1 p0 hs hq) b hb.1 hb.2]
    simp only[jf]
    rw[if_pos hb]
    cases hs:oK ds (b-base)with
    | none=>exact((I.nones b hb.1 hb.2).2 hs).symm
    | some p0 =>
     obtain⟨d,hd,_⟩:=uJ hs
     have hp:=(aY.1 hd).1
     simp only
     by_cases h:p0<q
     ·rw[if_pos h,if_neg (by omega)]
     ·rw[if_neg h,if_pos (hall p0 hp),if_pos ⟨by omega,hp⟩]
   ·rw[g2 b hb]
    simp only[jf]
    rw[if_neg hb]
  have h1:=I.tr
  rw[hheap]at h1
  have h2:=I.env
  rw[aBW]at h2
  exact hq ι a w h1 h2 I.defs
 | cons i l ih =>
  intro dn hdn q S ι a w hS I
  have hmem:i∈L:=by rw[hdn];simp
  have hi:=hL.lt i hmem
  have aAv:=hta i hi
  obtain⟨p,hp⟩:=List.mem_iff_getElem?.1 aAv
  obtain⟨d,o,hd,ho,auJ⟩:=hdo p i hp
  have aie:=(aY.1 hd).1
  have hni:i∉dn:=by
   have:=hL.nodup
   rw[hdn,List.nodup_append]at this
   intro h
   exact this.2.2 i h i (by simp) rfl
  have hSp:S p=false:=by
   cases h:S p with
   | false=>rfl
   | true=>exact absurd ((hS p i hp).1 h) hni
  -- what it hangs on is done
  have hclosed:∀j,j∈dn→∀o,ops.toList[j]?=some o→∀x,x∈ZQ o→x∈dn:=by
   intro j hj o' ho' x hx
   obtain⟨l1,l2,hl⟩:=List.append_of_mem hj
   unfold ZQ at hx
   obtain⟨e,he,rfl⟩:=List.mem_map.1 hx
   obtain⟨he,hb⟩:=List.mem_filter.1 he
   have:=hL.after l1 j (l2++i::l) (by rw[hdn,hl];simp) o' e (by simpa using ho') (by simpa using he) hb
   rw[hl]
   simp[this]
  have aBX:∀x,(A.getD i 0).testBit x=true→x∈dn:=by
   intro x hx
   obtain⟨o',ho',y,hy,hxy⟩:=hA i x hx
   have hyd:y∈dn:=by
    unfold ZQ at hy
    obtain⟨e,he,rfl⟩:=List.mem_map.1 hy
    obtain⟨he,hb⟩:=List.mem_filter.1 he
    exact hL.after dn i l hdn o' e (by simpa using ho') (by simpa using he) hb
   rcases hxy with rfl |⟨_,hxy⟩
   ·exact hyd
   ·exact aij hA (S:=λj=>j∈dn) hclosed y hyd x hxy
  have hpre:∀s,(s<ds.length∧p<ds.length∧agI A Ee s p=true)→S s=true:=by
   rintro s ⟨hs,_,ha⟩
   have hts:Ee[s]?=some Ee[s]:=by simp[show s<Ee.length from by omega]
   rw[hS s _ hts]
   refine aBX _ ?_
   unfold agI at ha
   have e1:Ee.getD p 0=i:=by rw[List.getD_eq_getElem?_getD,hp];rfl
   have e2:Ee.getD s 0=Ee[s]:=by rw[List.getD_eq_getElem?_getD,hts];rfl
   rw[e1,e2]at ha
   simpa using ha
  have hok:aib P C o d.o.op:=by rw[auJ];exact aif hC ops o
  have hdst:o.dst=d.o.dst:=by rw[auJ,Yq]
  have hstep:=I.step c r hg0 hbase hd hSp hpre hok hdst
  have st:=r.step p d hd
  have akM:=Yp c r I.closed hd hSp hpre
  have hwant:yR d.o.guard (Ej ds (E 0) V S)=some (W p):=by
   rw[←aeg (e:=E p) (λt ht=>akM t (by simp only[zM.rd,List.mem_append];exact .inl ht))]
   exact st.want
  have hcw:=NU (P:=P) ops o I.env (by rw[←auJ];exact hwant)
  have hSm:∀s j,Ee[s]?=some j→(more S p s=true↔j∈dn++[i]):=by
   intro s j hs
   by_cases hsp:s=p
   ·subst hsp
    rw[hp]at hs
    obtain rfl:=av hs
    simp[more]
   ·rw[EZ hsp,hS s j hs]
    have:j≠i:=by
     rintro rfl
     exact hsp (anZ htn hs hp)
    simp[this]
  simp only[wpOps,ho]
  cases hw:W p with
  | true =>
   rw[hw]at hcw
   have akR:Region.wanted o (yielded ops a.tmps)=true:=by
    rcases hcw with h |⟨hf,_⟩
    ·exact h
    ·rw[←auJ]at hf
     have:=(st.n .fail hw hf).1
     simp[aN]at this
   rw[if_pos akR]
   left
   exact hstep.1 hw _ Q λq' dK v' w' I'=>ih (dn++[i]) (by rw[hdn];simp) q' (more S p) dK _ w' hSm I'
  | false =>
   rw[hw]at hcw
   have akR:¬Region.wanted o (yielded ops a.tmps)=true:=by
    rcases hcw with h |⟨_,hf⟩
    ·simp[h]
    ·cases hf
   rw[if_neg akR]
   obtain⟨q',I'⟩:=hstep.2 hw
   exact ih (dn++[i]) (by rw[hdn];simp) q' (more S p) ι _ w hSm I'
theorem akS {P:Program} {C:dO} (hC:Cy P C) {id:Nat} {ops:Array Oper} {nk:Nat} {ds:List iw} (hc:ain P ops=.aaw nk ds) {ι:jh} {M:Heap} {e:Env} {a:Act} {w:World} (r:R ι M w) (he:gT ι e a.tmps.toList) (hd:a.defers=[]) {e':Env} {M':Heap}
  (h:Mh C M.next nk ds e { M with next:=M.next+nk } []=some (e',M')) {Q:Exit→Act→World→Prop} (hq:∀dK a' w',Tr ι M w dK M' w'→gT dK e' a'.tmps.toList→a'.defers=[]→Q .normal a' w'):(Code.region id ops true).wp P Q a w:=by
 unfold ain at hc
 simp only at hc
 split at hc
 case isFalse=>cases hc
 rename_i hcond
 simp only[Bool.and_eq_true,beq_iff_eq,decide_eq_true_eq,List.all_eq_true]at hcond
 obtain⟨⟨apV,⟨htl,htn⟩,hta⟩,apW⟩:=hcond
 injection hc with hc1 hc2
 rw[hc1,hc2]at apW
 have cnd:=ail (by rw[←hc2];simp[dList]) apW
 obtain⟨E,H,G,V,W,B,hr,q1,q2,q3,q4,q5⟩:=am1 ds e _ _ e' M' h
 refine wp_region_draw λt=>?_
 have hL:Lin .any ops (Region.schedule (P.follows .mixedOrders) ops t):=by
  rw[Bool.or_eq_true]at apV
  rcases apV with h | h
  ·exact Wi h (P.follows .mixedOrders) t
  ·exact Wi h (P.follows .mixedOrders) t
 have hA:Good ops.toList (akN ops.toList []):=afk ops.toList ops.toList [] [] (by simp) rfl (λi a ha=>by simp[List.getD_eq_getElem?_getD]at ha)
 have rd:=r.drew (w.drawn+1)
 have aAw:∀i,i<ops.size→i∈azf (akN ops.toList []) (λi=>((ops.toList.map (IJ P ops)).getD i { dst:=none,op:=.n .fail,guard:=none }).op.loud) ops.size:=λi hi=>by
  have:=hta i (by simpa using hi)
  simpa using this
 generalize aDM:azf (akN ops.toList []) (λi=>((ops.toList.map (IJ P ops)).getD i { dst:=none,op:=.n .fail,guard:=none }).op.loud) ops.size=Ee at *
 have hlt:∀i,i∈Ee→i<ops.size:=by
  intro i hi
  rcases Nat.lt_or_ge i ops.size with h | h
  ·exact h
  ·exfalso
   have:=SF (i::List.range ops.size) Ee (List.nodup_cons.2 ⟨by simpa using h,List.nodup_range⟩) (λx hx=>by
    rcases List.mem_cons.1 hx with rfl | hx
    ·exact hi
    ·exact aAw x (by simpa using hx))
   simp at this
   omega
 have hds:ds.length=Ee.length:=by rw[←hc2];simp[dList]
 have hdo:∀(p i:Nat),Ee[p]?=some i→∃(d:iw) (o:Oper),ds[p]?=some d∧ops[i]?=some o∧d.o=IJ P ops o:=by
  intro p i hp
  have hi:=hlt i (List.mem_of_getElem? hp)
  have ho:ops[i]?=some ops[i]:=by simp[hi]
  refine⟨_,ops[i],by rw[←hc2];simp only[dList,List.getElem?_map,hp,bH];rfl,ho, ?_⟩
  simp[List.getD_eq_getElem?_getD,hi]
 have hbase:∀b,M.next≤b→b<M.next+nk→(H 0).get b=none:=λb b1 _=>by
  rw[q2]
  exact(r.fresh b b1).1
 have hheap:jf M.next nk ds H B 0 (λ_=>false)={ M with next:=M.next+nk }:=by
  refine II (λb=>?_) (by simp[jf,q2])
  simp only[jf]
  split
  ·rename_i hb
   have:=(r.fresh b hb.1).1
   cases oK ds (b-M.next)<;>simp[this]
  ·rw[q2]
 have hR0:R ι { M with next:=M.next+nk } { w with drawn:=w.drawn+1 }:=⟨rd.blk,rd.apart,λb hb=>rd.fresh b (by simp only at hb;omega)⟩
 refine apU hC hA htl htn aAw hds hdo (base:=M.next) cnd hr q3 (xJ:=ι) (M0:=M) (w0:=w) rfl hL (λdK a' w' ht hv hd'=>?_) _ [] rfl 0 (λ_=>false) ι a _ (λp i _=>by simp) ?_
 ·rw[q5]at ht
  rw[q4]at hv
  exact hq dK a' w' ht hv hd'
 ·refine⟨Nat.zero_le _,.inl rfl,λj h=>by simp at h,λp s h=>by simp at h,λb b1 b2=>⟨λp0 _ _=>hbase b b1 b2,λ_=>hbase b b1 b2⟩,by rw[q2];exact Nat.le_refl _, ?_,λp d' _ _ _=>(r.fresh _ (by omega)).2, ?_,hd⟩
  ·rw[hheap]
   exact⟨hR0,λ_ _=>rfl,by simp,λ_ _ h=>h,λ_ _ h _=>h,λb x l h1 h2 h3 _=>⟨b,x,l,h1,h2,h3,rfl⟩,λ_ _ _=>rfl,Nat.le_refl _,rfl,rfl,rfl⟩
  ·have:Ej ds (E 0) V (λ_=>false)=e:=by
    rw[q1]
    refine abA (sw _ _) λt=>?_
    rw[xM]
    split
    ·cases writer ds t<;>simp
    ·rename_i h
     have hle:List.length e≤t:=by omega
     rw[List.getD_eq_getElem?_getD,List.getElem?_eq_none hle]
     rfl
   rw[this]
   exact he
abbrev Hints:=List (List Nat)
def xO(P:Program):Code→Hints→cO×Hints
 |.skip,h=>(.skip,h)
 |.region _ ops true,h=>(ain P ops,h)
 |.region _ ops false,h=>(.reg ((List.range ops.size).map λi=>IJ P ops (ops.getD i default)),h)
 |.seq a b,h =>
  let x:=xO P a h
  let y:=xO P b x.2
  (.seq x.1 y.1,y.2)
 |.cond c a b,h=>match cX c with
  | some ax =>
   let x:=xO P a h
   let y:=xO P b x.2
   (.cond ax x.1 y.1,y.2)
  | none=>(.fail,h)
 |.block id c,h =>
  let x:=xO P c h
  (.block id x.1,x.2)
 |.loop c,h =>
  let x:=xO P c h.tail
  (.loop (h.headD []) x.1,x.2)
 |.exit id,h=>(.exit id,h)
 |.ret,h=>(.ret,h)
 |.rangeFunc ..,h |.scope _,h |.label _,h |.goto _,h |.refuse _,h=>(.fail,h)
def Ex.of:Ex→Exit
 |.normal=>.normal
 |.exit id=>.exit id
 |.ret=>.ret
def apX(P:Program)(C:dO)(K:Nat)(c:Code)(ac:cO):Prop :=
 ∀(ι:jh) (M:Heap) (e:Env) (a:Act) (w:World) (x:Ex) (e':Env) (M':Heap) (Q:Exit→Act→World→Prop),R ι M w→gT ι e a.tmps.toList→a.defers=[]→oo C K ac e M=some (x,e',M') →
  (∀dK a' w',Tr ι M w dK M' w'→gT dK e' a'.tmps.toList→a'.defers=[]→Q x.of a' w')→c.wp P Q a w
theorem ZT {P:Program} {C:dO} {K:Nat} {c:Code} {ac:cO} {keep:List Nat} (hc:apX P C K c ac) {Q:Exit→Act→World→Prop}:∀(k:Nat) (ι:jh) (M:Heap) (e:Env) (a:Act) (w:World) (x:Ex) (e':Env) (M':Heap),R ι M w→gT ι e a.tmps.toList→a.defers=[] →
  abS (oo C K ac) keep k e M=some (x,e',M')→(∀dK a' w',Tr ι M w dK M' w'→gT dK e' a'.tmps.toList→a'.defers=[]→Q x.of a' w')→Code.rounds P c Q k a w
 | 0,ι,M,e,a,w,x,e',M',r,he,hd,h,hq=>by simp[abS]at h
 | k+1,ι,M,e,a,w,x,e',M',r,he,hd,h,hq=>by
  simp only[abS]at h
  rw[rounds_succ]
  split at h
  ·rename_i e1 M1 hb
   refine hc ι M _ a w _ _ _ _ r (he.om keep 0) hd hb λqK a1 w1 ht hv hd1=>?_
   simp only[Ex.of,Exit.then]
   exact ZT hc k qK M1 e1 a1 w1 x e' M' ht.rel hv hd1 h λEy a2 w2 ht2=>hq Ey a2 w2 (ht.trans ht2)
  ·rename_i hne
   refine hc ι M _ a w _ _ _ _ r (he.om keep 0) hd h λqK a1 w1 ht hv hd1=>?_
   have:=hq qK a1 w1 ht hv hd1
   cases x with
   | normal=>exact absurd h (hne e' M')
   | exit id=>exact this
   | ret=>exact this
theorem uT{P:Program}{C:dO}(hC:Cy P C)(K:Nat):∀(c:Code) (h:Hints),apX P C K c (xO P c h).1
 |.skip,hs=>by
  intro ι M e a w x e' M' Q r he hd h hq
  simp only[xO,oo,aC,aS]at h
  obtain⟨rfl,rfl,rfl⟩:=h
  exact wp_skip (hq ι a w (Tr.refl r) he hd)
 |.region id ops true,hs=>by
  intro ι M e a w x e' M' Q r he hd h hq
  simp only[xO]at h
  cases hc:ain P ops with
  | aaw nk ds =>
   rw[hc]at h
   simp only[oo]at h
   obtain⟨p,hp,h⟩:=aH.1 h
   obtain⟨e1,M1⟩:=p
   simp only[aS]at h
   obtain⟨rfl,rfl,rfl⟩:=h
   exact akS hC hc r he hd hp hq
  | fail=>rw[hc]at h;simp[oo]at h
  | _ =>
   unfold ain at hc
   simp only at hc
   split at hc<;>cases hc
 |.region id ops false,hs=>by
  intro ι M e a w x e' M' Q r he hd h hq
  simp only[xO,oo]at h
  obtain⟨⟨e1,M1⟩,hp,h⟩:=aH.1 h
  simp only[aS]at h
  obtain⟨rfl,rfl,rfl⟩:=h
  exact wp_region (UY hC _ ι M e a w _ _ (λi hi=>by simpa using hi) r he hd hp hq)
 |.seq c1 c2,hs=>by
  intro ι M e a w x e' M' Q r he hd h hq
  simp only[xO,oo]at h
  refine wp_seq ?_
  split at h
  ·rename_i e1 M1 h1
   refine uT hC K c1 hs ι M e a w _ _ _ _ r he hd h1 λqK a1 w1 ht hv hd1=>?_
   simp only[Ex.of,Exit.then]
   exact uT hC K c2 _ qK M1 e1 a1 w1 x e' M' Q ht.rel hv hd1 h λEy a2 w2 ht2=>hq Ey a2 w2 (ht.trans ht2)
  ·rename_i hne
   refine uT hC K c1 hs ι M e a w _ _ _ _ r he hd h λqK a1 w1 ht hv hd1=>?_
   have:=hq qK a1 w1 ht hv hd1
   cases x with
   | normal=>exact absurd h (hne e' M')
   | exit id=>exact this
   | ret=>exact this
 |.cond c c1 c2,hs=>by
  intro ι M e a w x e' M' Q r he hd h hq
  simp only[xO]at h
  cases hx:cX c with
  | none=>rw[hx]at h;simp[oo]at h
  | some ax =>
   rw[hx]at h
   simp only[oo]at h
   have hv:=iR hx he
   split at h
   ·rename_i hb
    rw[hb]at hv
    simp only[VR]at hv
    exact wp_cond_true hv (uT hC K c1 _ ι M e a w x e' M' Q r he hd h hq)
   ·rename_i hb
    rw[hb]at hv
    simp only[VR]at hv
    exact wp_cond_false hv (uT hC K c2 _ ι M e a w x e' M' Q r he hd h hq)
   ·cases h
 |.block id c,hs=>by
  intro ι M e a w x e' M' Q r he hd h hq
  simp only[xO,oo]at h
  refine wp_block ?_
  split at h
  ·rename_i i e1 M1 h1
   refine uT hC K c hs ι M e a w _ _ _ _ r he hd h1 λqK a1 w1 ht hv hd1=>?_
   simp only[Ex.of,Exit.inBlock]
   split at h
   ·rename_i hi
    simp only[aC,aS]at h
    obtain⟨rfl,rfl,rfl⟩:=h
    rw[if_pos hi]
    exact hq qK a1 w1 ht hv hd1
   ·rename_i hi
    simp only[aC,aS]at h
    obtain⟨rfl,rfl,rfl⟩:=h
    rw[if_neg hi]
    exact hq qK a1 w1 ht hv hd1
  ·rename_i hne
   refine uT hC K c hs ι M e a w _ _ _ _ r he hd h λqK a1 w1 ht hv hd1=>?_
   have:=hq qK a1 w1 ht hv hd1
   cases x with
   | normal=>exact this
   | exit i=>exact absurd h (hne i e' M')
   | ret=>exact this
 |.loop c,hs=>by
  intro ι M e a w x e' M' Q r he hd h hq
  simp only[xO,oo]at h
  exact wp_loop_rounds K (ZT (uT hC K c _) K ι M e a w x e' M' r he hd h hq)
 |.exit id,hs=>by
  intro ι M e a w x e' M' Q r he hd h hq
  simp only[xO,oo,aC,aS]at h
  obtain⟨rfl,rfl,rfl⟩:=h
  exact wp_exit (hq ι a w (Tr.refl r) he hd)
 |.ret,hs=>by
  intro ι M e a w x e' M' Q r he hd h hq
  simp only[xO,oo,aC,aS]at h
  obtain⟨rfl,rfl,rfl⟩:=h
  exact wp_ret (hq ι a w (Tr.refl r) he hd)
 |.rangeFunc ..,hs=>by
  intro ι M e a w x e' M' Q r he hd h hq
  simp[xO,oo]at h
 |.scope _,hs=>by
  intro ι M e a w x e' M' Q r he hd h hq
  simp[xO,oo]at h
 |.label _,hs=>by
  intro ι M e a w x e' M' Q r he hd h hq
  simp[xO,oo]at h
 |.goto _,hs=>by
  intro ι M e a w x e' M' Q r he hd h hq
  simp[xO,oo]at h
 |.refuse _,hs=>by
  intro ι M e a w x e' M' Q r he hd h hq
  simp[xO,oo]at h
def auK(P:Program):ResultVar→Option Mf
 |.tmp t=>some (.tmp t)
 |.cell t ty=>match IE P ty,ug P ty with
  | some g,some n=>some (.cell t g n)
  | _,_=>none
def afl(P:Program):List ResultVar→Option (List Mf)
 | []=>some []
 | x::l=>match auK P x,afl P l with
  | some a,some r=>some (a::r)
  | _,_=>none
def bg(P:Program)(f:FuncId)(h:Hints):Option bY :=
 match P.funcs[f]? with
 | some fn=>match fn.body,afl P fn.results.toList with
  | some c,some rs=>if fn.name=="runtime.NumGoroutine" then none else some { nargs:=fn.params.size+fn.nfree,ntmps:=fn.ntmps,code:=(xO P c h).1,results:=rs }
  | _,_=>none
 | none=>none
theorem auL {P:Program} {x:ResultVar} {a:Mf} (hc:auK P x=some a) {ι:jh} {M:Heap} {w:World} (r:R ι M w) {e:Env} {tmps:Array Value} (he:gT ι e tmps.toList) {v:AV} (h:akI a e M=some v) :
  ∃v',((match x with |.tmp t=>pure (tmps.getD t undef) |.cell a t=>do loadVar t (←asAddr (tmps.getD a undef))):Sem Value).run P w=.ok v' w∧VR ι v v':=by
 have hg:∀t,VR ι (e.getD t .undef) (tmps.getD t undef):=λt=>by
  have:=he.getD t undef
  rw[Array.getD_eq_getD_getElem?]
  rw[List.getD_eq_getElem?_getD (l:=tmps.toList)]at this
  simpa using this
 cases x with
 | tmp t =>
  simp only[auK,aC]at hc
  subst hc
  simp only[akI]at h
  split at h
  ·cases h
  ·obtain rfl:=av h
   exact⟨_,rfl,hg t⟩
 | cell t ty =>
  simp only[auK]at hc
  split at hc
  case h_2=>cases hc
  rename_i g n hga hgn
  obtain rfl:=av hc
  simp only[akI]at h
  obtain⟨ad,v',h1,h2,h3⟩:=ZL (P:=P) r hga hgn (hg t) h
  refine⟨v', ?_,h3⟩
  simp[h1,asAddr,h2]
theorem aio {P:Program} {ι:jh} {M:Heap} {w:World} (r:R ι M w) {e:Env} {tmps:Array Value} (he:gT ι e tmps.toList):∀(l:List ResultVar) (al:List Mf) (vs:List AV),afl P l=some al→abT al e M=some vs →
  ∃vs',((l.mapM λx=>(match x with |.tmp t=>pure (tmps.getD t undef) |.cell a t=>do loadVar t (←asAddr (tmps.getD a undef)):Sem Value)):Sem (List Value)).run P w=.ok vs' w∧gT ι vs vs'
 | [],al,vs,hc,h=>by
  simp only[afl,aC]at hc
  subst hc
  simp only[abT,aC]at h
  subst h
  exact⟨[],by simp,by simp[gT]⟩
 | x::l,al,vs,hc,h=>by
  simp only[afl]at hc
  split at hc
  case h_2=>cases hc
  rename_i a al' h1 h2
  obtain rfl:=av hc
  simp only[abT]at h
  obtain⟨v,hv,h⟩:=aR.1 h
  obtain⟨vs2,hvs,rfl⟩:=aH.1 h
  obtain⟨v',q1,q2⟩:=auL (P:=P) h1 r he hv
  obtain⟨vs',q3,q4⟩:=aio r he l al' vs2 h2 hvs
  refine⟨v'::vs', ?_,by simp only[gT];exact⟨q2,q4⟩⟩
  simp only[List.mapM_cons,Sem.run_bind,q1,Result.andThen_ok,q3,Sem.run_pure]
theorem aip {P:Program} {fn:Func} {al:List Mf} (hc:afl P fn.results.toList=some al) {ι:jh} {M:Heap} {w:World} (r:R ι M w) {e:Env} {tmps:Array Value} (he:gT ι e tmps.toList) {v:AV} (h:IC al e M=some v) :
  ∃v',(results fn tmps).run P w=.ok v' w∧VR ι v v':=by
 unfold IC at h
 obtain⟨vs,hvs,h⟩:=aH.1 h
 obtain⟨vs',q1,q2⟩:=aio (P:=P) r he _ al vs hc hvs
 unfold results
 rw[Sem.run_bind,Array.mapM_eq_mapM_toList,Sem.run_map]
 erw [q1]
 simp only[Result.andThen_ok,Sem.run_pure]
 refine⟨_,rfl, ?_⟩
 subst h
 match vs,vs',q2 with
 | [],[],q2=>simp[VR,gT]
 | [x],[y],q2 =>
  simp only[gT]at q2
  simpa using q2.1
 | x::x2::xs,y::y2::ys,q2 =>
  simp only[VR]
  refine⟨(y::y2::ys).toArray,by simp, ?_⟩
  simpa using q2
 | [],_::_,q2=>simp[gT]at q2
 | _::_,[],q2=>simp[gT]at q2
 | [_],_::_::_,q2=>simp[gT]at q2
 | _::_::_,[_],q2=>simp[gT]at q2
theorem Wj{P:Program}{f:FuncId}{h:Hints}{af:bY}(hc:bg P f h=some af):UU P f:=by
 unfold bg at hc
 split at hc
 case h_2=>cases hc
 rename_i fn hfn
 split at hc
 case h_2=>cases hc
 rename_i c rs hb _
 split at hc
 ·cases hc
 ·rename_i hn
  exact⟨fn,c,hfn,hb,by simpa using hn⟩
theorem ab2{P:Program}{C:dO}(hC:Cy P C)(K:Nat){f:FuncId}{hs:Hints}{af:bY}(hc:bg P f hs=some af):Sound P f (abody C K af):=by
 intro args M v M' h ι w vs r hv
 unfold bg at hc
 split at hc
 case h_2=>cases hc
 rename_i fn hfn
 split at hc
 case h_2=>cases hc
 rename_i c rs hb hrs
 split at hc
 ·cases hc
 obtain rfl:=av hc
 unfold abody at h
 simp only at h
 split at h
 case isFalse=>cases h
 rename_i hlen
 have hsz:vs.size=fn.params.size+fn.nfree:=by
  have:=hv.length
  simp at this
  omega
 refine calls_of_wp hfn hb ?_
 have he:gT ι (args++List.replicate (fn.ntmps-(fn.params.size+fn.nfree)) (.tuple [])) ({ tmps:=vs++Array.replicate (fn.ntmps-vs.size) undef,defers:=[] }:Act).tmps.toList:=by
  simp only[Array.toList_append,Array.toList_replicate]
  refine hv.append ?_
  rw[hsz]
  refine gT.Cx (by simp) λi a b ha hb=>?_
  simp only[List.getElem?_replicate]at ha hb
  split at ha
  case isFalse=>cases ha
  rename_i hi
  rw[if_pos hi]at hb
  obtain rfl:=av ha
  obtain rfl:=av hb
  exact VR.unit ι
 have fin:∀(x:Ex) (e':Env) (M1:Heap),(x=.normal∨x=.ret)→oo C K (xO P c hs).1 (args++List.replicate (fn.ntmps-(fn.params.size+fn.nfree)) (.tuple [])) M=some (x,e',M1)→(IC rs e' M1).map (λv=>(v,M1))=some (v,M') →
   c.wp P (bodyPost P fn λe w'=>∃dK v',e=.returned v'∧VR dK v v'∧Tr ι M w dK M' w') { tmps:=vs++Array.replicate (fn.ntmps-vs.size) undef,defers:=[] } w:=by
  intro x e' M1 hx hex hres
  obtain⟨u,hu,hres⟩:=aH.1 hres
  simp only[aS]at hres
  obtain⟨rfl,rfl⟩:=hres
  refine uT hC K c hs ι M _ _ w x e' M1 _ r he rfl hex λdK a' w' ht hv' hd=>?_
  obtain⟨v',q1,q2⟩:=aip (P:=P) hrs ht.rel hv' hu
  have:a'.defers=[]∧∃v0,(results fn a'.tmps).run P w'=.ok v0 w'∧(∃dK v',Ending.returned v0=.returned v'∧VR dK u v'∧Tr ι M w dK M1 w'):=⟨hd,v',q1,dK,v',rfl,q2,ht⟩
  rcases hx with rfl | rfl<;>exact this
 split at h
 ·rename_i e' M1 hex
  exact fin .normal e' M1 (.inl rfl) hex h
 ·rename_i e' M1 hex
  exact fin .ret e' M1 (.inr rfl) hex h
 ·cases h
theorem ZU{P:Program}{G:FuncId→Option (List AV→Heap→Option (AV×Heap))}{T:FuncId→Option bY}(hG:∀f g,G f=some g→(UU P f∧Sound P f g)∨ZM P f g)(hT:∀f af,T f=some af→∃h,bg P f h=some af)(K:Nat):∀d,Cy P (OT G T K d)
 | 0=>λf=>.inl ⟨λargs M r h=>by simp[OT]at h,λargs M v M' h=>by simp[OT]at h⟩
 | d+1=>λf=>by
  have ih:=ZU hG hT K d
  cases hg:G f with
  | some g =>
   have e:OT G T K (d+1) f=g:=by funext a M;simp only[OT,hg]
   rw[e]
   rcases hG f g hg with⟨q1,q2⟩ | q
   ·exact .inl ⟨λ_ _ _ _=>q1,q2⟩
   ·exact .inr q
  | none =>
   left
   constructor
   ·intro args M r h
    simp only[OT,hg]at h
    split at h
    ·rename_i af haf
     obtain⟨hs,hc⟩:=hT f af haf
     exact Wj hc
    ·cases h
   ·intro args M v M' h
    simp only[OT,hg]at h
    split at h
    ·rename_i af haf
     obtain⟨hs,hc⟩:=hT f af haf
     exact ab2 ih K hc args M v M' h
    ·cases h
open Go.ChangeShapes Go.WideShapes Go.ChangeAt Go.RowKit
theorem Ua {H:Type} {enc:TypeId×Value→H} {P:Program} (hl:laidOutB P=true) {W W':World} (bel:Below W.heap.size W W') :
  ∀(ts:List TypeId) (vs:List Value) (ds:List (DataW H)) (p:List MemPlace),(ts.all λt=>P.readableRec t&&decide (t<P.types.size))=true →
   DataW.TrodAll enc P W 0 (λ_=>true) true ts vs ds p→DataW.TrodAll enc P W' 0 (λb=>decide (b<W.heap.size)) true ts vs ds p
 | [],[],[],p,_,h=>by simpa[DataW.TrodAll]using h
 | t::ts,v::vs,d::ds,p,ht,h=>by
  simp only[List.all_cons,Bool.and_eq_true,decide_eq_true_eq]at ht
  simp only[DataW.TrodAll]at h ⊢
  obtain⟨p1,p2,h1,h2,rfl⟩:=h
  refine⟨p1,p2, ?_,Ua hl bel ts vs ds p2 (by simpa using ht.2) h2,rfl⟩
  refine Below.trod hl ht.1.1 ht.1.2 h1 bel ?_
  obtain⟨n,hn⟩:=h1
  exact DataW.trod_lt n t _ _ hn
 | [],_::_,_,_,_,h=>by simp[DataW.TrodAll]at h
 | [],[],_::_,_,_,h=>by simp[DataW.TrodAll]at h
 | _::_,[],_,_,_,h=>by simp[DataW.TrodAll]at h
 | _::_,_::_,[],_,_,h=>by simp[DataW.TrodAll]at h
theorem apY {H:Type} {enc:TypeId×Value→H} {P:Program} {f:Func} {s:ChangeSpec} {W W':World} {args:Array Value} {ds gs:List (DataW H)} {before:List MemPlace} {rt:TypeId}
  (hl:laidOutB P=true) (hps:(f.params.toList.all λt=>P.readableRec t&&decide (t<P.types.size))=true) (hvars:s.vars=[]) (hres:f.resultTypes=#[rt]) (hrt:P.underlying rt=some .bool)
  (hfn:s.fn H ds={ results:=[.lit (.bool true)],args:=ds })
  (hW:DataW.Whole enc P f.params.toList s.vars false W args.toList ds gs before) (bel:Below W.heap.size W W') :
  s.post enc P f false true false false W args (.bool true) W':=by
 have hW':=hW
 obtain⟨p,q,hA,hV,rfl,hfz,hnd⟩:=hW
 rw[hvars]at hV
 have hgs:gs=[]:=by
  cases gs with
  | nil=>rfl
  | cons _ _=>simp[DataW.TrodVars]at hV
 subst hgs
 unfold ChangeSpec.post
 refine⟨ds,[],_,[],p,[],hW', ?_, ?_, ?_,bel.frame _,λh=>by cases h⟩
 ·rw[List.append_nil,hfn,hres]
  exact trodAll_mk1 (shut_bool hrt _)
 ·rw[List.append_nil,hfn]
  exact Ua hl bel _ _ _ _ hps hA
 ·rw[List.append_nil,hfn,hvars]
  simp[DataW.TrodVars]
theorem aiq{ι dK:jh}{M M':Heap}{w w':World}(ht:Tr ι M w dK M' w')(hro:∀b x,M.get b=some x→x.own=false):Below w.heap.size w w' :=
 ⟨ht.os,ht.tape,ht.output,ht.size,λk hk=>ht.keep k hk λb x l h1 h2=>by rw[hro b x h1]at h2;cases h2⟩
theorem R.empty(w:World):R (λ_=>none) Heap.empty w:=⟨λb x h=>by simp[Heap.empty]at h,λb b' x x' l l' h=>by simp[Heap.empty]at h,λb _=>⟨rfl,rfl⟩⟩
open Go.ChangeShapes Go.WideShapes Go.ChangeAt Go.RowKit
inductive D where
 | bool (b:Bool)
 | int (k:IntKind) (n:Int)
 | str (s:List UInt8)
 | list (l:List D)
 | agg (l:List D)
 | other
mutual
def IK{H:Type}:DataW H→D
 |.lit (.bool b)=>.bool b
 |.lit (.int k n)=>.int k n
 |.lit (.string s)=>.str s
 |.nil=>.list []
 |.slice es _=>.list (Yr es)
 |.agg es=>.agg (Yr es)
 | _=>.other
def Yr{H:Type}:List (DataW H)→List D
 | []=>[]
 | d::r=>IK d::Yr r
end
theorem NV{H:Type}:∀l:List (DataW H),Yr l=l.map IK
 | []=>rfl
 | d::r=>by simp[Yr,NV r]
mutual
def Rd(M:Heap):D→List AV→Prop
 |.bool b,cs=>cs=[.bool b]
 |.int k n,cs=>cs=[.int k n]
 |.str s,cs=>cs=[.str s]
 | .list l,cs=>(l=[]∧∃sz,cs=[.slice none sz 0 0 true]) ∨
   ∃b o sz cap,0<sz∧l.length≤cap∧cs=[.slice (some (b,o)) sz l.length cap true]∧(l≠[]→∃pieces,M.read b o (l.length*sz)=some pieces.flatten∧(∀p∈pieces,p.length=sz)∧Parts M l pieces)
 |.agg l,cs=>∃pieces,cs=pieces.flatten∧Parts M l pieces
 |.other,_=>False
def Parts(M:Heap):List D→List (List AV)→Prop
 | [],[]=>True
 | d::r,p::s=>Rd M d p∧Parts M r s
 | _,_=>False
end
mutual
theorem Rd.mono{M M':Heap}(h:M.Sub M'):∀(d:D) (cs:List AV),Rd M d cs→Rd M' d cs
 |.bool b,cs,e=>by simpa[Rd]using e
 |.int k n,cs,e=>by simpa[Rd]using e
 |.str s,cs,e=>by simpa[Rd]using e
 |.list l,cs,e=>by
  simp only[Rd]at e ⊢
  rcases e with e |⟨b,o,sz,cap,h1,h2,h3,h4⟩
  ·exact .inl e
  ·refine .inr ⟨b,o,sz,cap,h1,h2,h3,λhl=>?_⟩
   obtain⟨pieces,g1,g2,g3⟩:=h4 hl
   exact⟨pieces,abZ h g1,g2,Parts.mono h _ _ g3⟩
 |.agg l,cs,e=>by
  simp only[Rd]at e ⊢
  obtain⟨pieces,g1,g3⟩:=e
  exact⟨pieces,g1,Parts.mono h _ _ g3⟩
 |.other,cs,e=>by simp[Rd]at e
theorem Parts.mono{M M':Heap}(h:M.Sub M'):∀(l:List D) (ps:List (List AV)),Parts M l ps→Parts M' l ps
 | [],[],_=>by simp[Parts]
 | d::r,p::s,e=>by
  simp only[Parts]at e ⊢
  exact⟨Rd.mono h _ _ e.1,Parts.mono h _ _ e.2⟩
 | [],_::_,e=>by simp[Parts]at e
 | _::_,[],e=>by simp[Parts]at e
end
inductive Sh where
 | bool
 | int (k:IntKind)
 | str
 | list (e:Sh)
 | agg (l:List Sh)
mutual
def D.is:Sh→D→Prop
 |.bool,d=>∃b,d=.bool b
 |.int k,d=>∃n,d=.int k n∧k.min≤n∧n≤k.max
 |.str,d=>∃s,d=.str s
 |.list e,d=>∃l,d=.list l∧∀x∈l,D.is e x
 |.agg ss,d=>∃l,d=.agg l∧D.are ss l
def D.are:List Sh→List D→Prop
 | [],[]=>True
 | s::ss,d::l=>D.is s d∧D.are ss l
 | _,_=>False
end
def aei{α β:Type}(f:α→Option β):List α→Option (List β)
 | []=>some []
 | x::l=>match f x,aei f l with
  | some a,some r=>some (a::r)
  | _,_=>none
def UZ(P:Program):Nat→TypeId→Option Sh
 | 0,_=>none
 | k+1,t=>match P.underlying t with
  | some .bool=>some .bool
  | some (.int i)=>some (.int i)
  | some .string=>some .str
  | some (.slice e)=>if P.cellsOf e=0 then none else (UZ P k e).map .list
  | some (.struct fs)=>(aei (UZ P k) (fs.toList.map λf=>f.type)).map .agg
  | some (.array n e)=>(UZ P k e).map λs=>.agg (List.replicate n s)
  | _=>none
def ab3(P:Program)(k:Nat)(l:List TypeId):Option (List Sh):=aei (UZ P k) l
def Ad(M:Heap):Prop:=∀b x,M.get b=some x→x.own=false
structure Grow(ι:jh)(M:Heap)(dK:jh)(M':Heap)(W:World):Prop where
 le:ι.Le dK
 sub:M.Sub M'
 next:M.next≤M'.next
 rel:R dK M' W
 ro:Ad M'
theorem Heap.Sub.refl(M:Heap):M.Sub M:=λ_ _ h=>h
theorem Heap.Sub.trans{A B C:Heap}(h:A.Sub B)(k:B.Sub C):A.Sub C:=λ_ _ e=>k _ _ (h _ _ e)
theorem Grow.refl{ι:jh}{M:Heap}{W:World}(r:R ι M W)(ro:Ad M):Grow ι M ι M W:=⟨.refl _,.refl _,Nat.le_refl _,r,ro⟩
theorem Grow.trans{ι qK Ey:jh}{M M1 M2:Heap}{W:World}(h:Grow ι M qK M1 W)(k:Grow qK M1 Ey M2 W):Grow ι M Ey M2 W :=
 ⟨h.le.trans k.le,h.sub.trans k.sub,Nat.le_trans h.next k.next,k.rel,k.ro⟩
theorem Grow.see {ι:jh} {M:Heap} {W:World} (r:R ι M W) (ro:Ad M) {c:List AV} {l:Loc} {o:Obj} (ho:W.heap[l.j]?=some o) (hb:BR ι (.cells c true true) l o) :
  Grow ι M (ι.set M.next l) (M.push (.cells c true true)) W:=by
 have hnone:=(r.fresh M.next (Nat.le_refl _)).2
 have hle:=jh.K8 hnone l
 refine⟨hle,λb x h=>?_,Nat.le_succ _,⟨λb x h=>?_,λb b' x x' l1 l2 h1 h2 h3 h4 h5 h6=>?_,λb hb'=>?_⟩,λb x h=>?_⟩
 ·have:b≠M.next:=λe=>by rw[e,(r.fresh _ (Nat.le_refl _)).1]at h;cases h
  simp[Heap.push,this,h]
 ·simp only[Heap.push]at h
  split at h
  ·rename_i e
   obtain rfl:=av h
   subst e
   exact⟨l,o,by simp[jh.set],ho,hb.mono hle⟩
  ·obtain⟨l1,o1,g1,g2,g3⟩:=r.blk b x h
   exact⟨l1,o1,hle _ _ g1,g2,g3.mono hle⟩
 ·exfalso
  have one:∀b x,(M.push (.cells c true true)).get b=some x→x.own=false:=λb x h=>by
   simp only[Heap.push]at h
   split at h
   ·obtain rfl:=av h
    rfl
   ·exact ro b x h
  rcases h6 with h6 | h6
  ·rw[one b x h1]at h6;cases h6
  ·rw[one b' x' h2]at h6;cases h6
 ·simp only[Heap.push]at hb' ⊢
  have:b≠M.next:=by omega
  simp only[jh.set,this,if_false]
  exact r.fresh b (by omega)
 ·simp only[Heap.push]at h
  split at h
  ·obtain rfl:=av h
   rfl
  ·exact ro b x h
theorem Grow.skip {ι:jh} {M:Heap} {W:World} (r:R ι M W) (ro:Ad M) (l:Loc) :
  Grow ι M (ι.set M.next l) { M with next:=M.next+1 } W:=by
 have hnone:=(r.fresh M.next (Nat.le_refl _)).2
 have hle:=jh.K8 hnone l
 refine⟨hle,λb x h=>h,Nat.le_succ _,⟨λb x h=>?_,λb b' x x' l1 l2 h1 h2 h3 h4 h5 h6=>?_,λb hb'=>?_⟩,ro⟩
 ·obtain⟨l1,o1,g1,g2,g3⟩:=r.blk b x h
  exact⟨l1,o1,hle _ _ g1,g2,g3.mono hle⟩
 ·exfalso
  rcases h6 with h6 | h6
  ·rw[ro b x h1]at h6;cases h6
  ·rw[ro b' x' h2]at h6;cases h6
 ·have:b≠M.next:=by simp only at hb';omega
  simp only[jh.set,this,if_false]
  exact r.fresh b (by simp only at hb';omega)
def Opens(W:World)(s:Sh)(cs:List Value)(d:D):Prop :=
 ∀ι M,R ι M W→Ad M→∃dK M' avs,Grow ι M dK M' W∧gT dK avs cs∧(∀a∈avs,a.iI=true)∧Rd M' d avs∧D.is s d
def sD(W:World):List Sh→List (List Value)→List D→Prop
 | [],[],[]=>True
 | s::ss,c::cs,d::ds=>Opens W s c d∧sD W ss cs ds
 | _,_,_=>False
theorem sD.open {W:World}:∀ {ss:List Sh} {css:List (List Value)} {ds:List D},sD W ss css ds→∀ι M,R ι M W→Ad M →
  ∃dK M' pieces,Grow ι M dK M' W∧pieces.map List.length=css.map List.length∧gT dK pieces.flatten css.flatten∧(∀p∈pieces,∀a∈p,a.iI=true)∧Parts M' ds pieces∧D.are ss ds
 | [],[],[],_,ι,M,r,ro=>⟨ι,M,[],.refl r ro,rfl,by simp[gT],by simp,by simp[Parts],by simp[D.are]⟩
 | s::ss,c::css,d::ds,h,ι,M,r,ro=>by
  simp only[sD]at h
  obtain⟨qK,M1,avs,g1,v1,c1,r1,i1⟩:=h.1 ι M r ro
  obtain⟨Ey,M2,ps,g2,l2,v2,c2,r2,i2⟩:=sD.open h.2 qK M1 g1.rel g1.ro
  refine⟨Ey,M2,avs::ps,g1.trans g2, ?_, ?_, ?_, ?_, ?_⟩
  ·have:=v1.length
   simp[l2,this]
  ·simp only[List.flatten_cons]
   exact(v1.mono g2.le).append v2
  ·intro p hp
   rcases List.mem_cons.1 hp with rfl | hp
   ·exact c1
   ·exact c2 p hp
  ·simp only[Parts]
   exact⟨Rd.mono g2.sub _ _ r1,r2⟩
  ·simp only[D.are]
   exact⟨i1,i2⟩
 | [],[],_::_,h,_,_,_,_=>by simp[sD]at h
 | [],_::_,_,h,_,_,_,_=>by simp[sD]at h
 | _::_,[],_,h,_,_,_,_=>by simp[sD]at h
 | _::_,_::_,[],h,_,_,_,_=>by simp[sD]at h
theorem D.Ub{s:Sh}:∀ {n:Nat} {l:List D},D.are (List.replicate n s) l→l.length=n∧∀x∈l,D.is s x
 | 0,[],_=>by simp
 | 0,_::_,h=>by simp[D.are]at h
 | n+1,[],h=>by simp[List.replicate_succ,D.are]at h
 | n+1,d::l,h=>by
  simp only[List.replicate_succ,D.are]at h
  obtain⟨h1,h2⟩:=D.Ub h.2
  refine⟨by simp[h1],λx hx=>?_⟩
  rcases List.mem_cons.1 hx with rfl | hx
  ·exact h.1
  ·exact h2 x hx
open Go.ChangeShapes Go.WideShapes Go.ChangeAt Go.RowKit
def chunks{α:Type}:List Nat→List α→List (List α)
 | [],_=>[]
 | n::ns,l=>l.take n::chunks ns (l.drop n)
theorem E5{α:Type}:∀(ns:List Nat) (l:List α),(chunks ns l).length=ns.length
 | [],_=>rfl
 | n::ns,l=>by simp[chunks,E5 ns]
theorem chunks_flatten{α:Type}:∀(ns:List Nat) (l:List α),(chunks ns l).flatten=l.take ns.sum
 | [],l=>by simp[chunks]
 | n::ns,l=>by
  rw[chunks,List.flatten_cons,chunks_flatten ns,List.sum_cons,List.take_add]
theorem NW{α:Type}:∀(ns:List Nat) (l:List α) (j n:Nat),ns[j]?=some n→(chunks ns l)[j]?=some ((l.drop (ns.take j).sum).take n)
 | [],_,_,_,h=>by simp at h
 | m::ns,l,0,n,h=>by
  simp at h
  subst h
  simp[chunks]
 | m::ns,l,j+1,n,h=>by
  simp only[List.getElem?_cons_succ]at h
  simp only[chunks,List.getElem?_cons_succ]
  rw[NW ns _ j n h]
  simp[List.drop_drop]
theorem sD.Cx {W:World}:∀ {ss:List Sh} {css:List (List Value)} {ds:List D},ss.length=ds.length→css.length=ds.length →
  (∀(i:Nat) s c d,ss[i]?=some s→css[i]?=some c→ds[i]?=some d→Opens W s c d)→sD W ss css ds
 | [],[],[],_,_,_=>by simp[sD]
 | s::ss,c::css,d::ds,h1,h2,h=>by
  simp only[sD]
  exact⟨h 0 s c d (by simp) (by simp) (by simp),sD.Cx (by simpa using h1) (by simpa using h2) λi s c d a1 a2 a3=>h (i+1) s c d (by simpa using a1) (by simpa using a2) (by simpa using a3)⟩
 | [],_,_::_,h1,_,_=>by simp at h1
 | _::_,_,[],h1,_,_=>by simp at h1
 | _,[],_::_,_,h2,_=>by simp at h2
 | _,_::_,[],_,h2,_=>by simp at h2
theorem afm{P:Program}{k:Nat}:∀ {ts:List TypeId} {ss:List Sh},ab3 P k ts=some ss→ss.length=ts.length∧∀(i:Nat) t,ts[i]?=some t→∃s,ss[i]?=some s∧UZ P k t=some s
 | [],ss,h=>by
  simp[ab3,aei]at h
  subst h
  simp
 | t::ts,ss,h=>by
  simp only[ab3,aei]at h
  split at h
  case h_2=>cases h
  rename_i s r h1 h2
  obtain rfl:=av h
  obtain⟨e1,e2⟩:=afm h2
  refine⟨by simp[e1],λi u hu=>?_⟩
  cases i with
  | zero =>
   simp at hu
   subst hu
   exact⟨s,by simp,h1⟩
  | succ i=>simpa using e2 i u (by simpa using hu)
theorem an0{W:World}{a:Addr}{v:Value}(h:W.cell? a=some v):∃c e fz,W.heap[a.block]?=some (.cells c e fz)∧a.spot=none∧c[a.off]?=some v:=by
 unfold World.cell? at h
 split at h
 ·rename_i c e fz hc
  split at h
  ·cases h
  ·rename_i hs
   refine⟨c,e,fz,hc, ?_,h⟩
   cases hsp:a.spot with
   | none=>rfl
   | some _=>simp[hsp]at hs
 ·cases h
open Go.ChangeShapes Go.WideShapes Go.ChangeAt Go.RowKit
def am8(M:Heap)(a:AV):D→Prop
 |.agg l=>∃cs,a=.agg cs∧Rd M (.agg l) cs
 | d=>Rd M d [a]
theorem am8.mono{M M':Heap}(h:M.Sub M'){a:AV}{d:D}(r:am8 M a d):am8 M' a d:=by
 cases d with
 | agg l =>
  obtain⟨cs,h1,h2⟩:=r
  exact⟨cs,h1,h2.mono h⟩
 | _=>exact Rd.mono h _ _ r
def Args(M:Heap):List AV→List D→Prop
 | [],[]=>True
 | a::as,d::ds=>am8 M a d∧Args M as ds
 | _,_=>False
theorem Args.mono{M M':Heap}(h:M.Sub M'):∀ {as:List AV} {ds:List D},Args M as ds→Args M' as ds
 | [],[],_=>by simp[Args]
 | _::_,_::_,e=>by
  simp only[Args]at e ⊢
  exact⟨e.1.mono h,e.2.mono h⟩
 | [],_::_,e=>by simp[Args]at e
 | _::_,[],e=>by simp[Args]at e
mutual
def D.bulk:D→Nat
 |.str s=>s.length+1
 |.list l=>D.CB l+1
 |.agg l=>D.CB l+1
 |.other=>0
 | _=>1
def D.CB:List D→Nat
 | []=>0
 | d::r=>D.bulk d+D.CB r
end
def Heap.Wf(M:Heap):Prop:=∀b,M.next≤b→M.get b=none
abbrev Fast:=List (Nat×AV)
def look:Fast→Nat→AV
 | [],_=>.undef
 | p::r,t=>match Nat.beq p.1 t with
  | true=>p.2
  | false=>look r t
def AX.sub(ρ:Nat→AV):AX→AX
 |.t n=>.c (ρ n)
 |.c v=>.c v
def AX.kN(ρ:Nat→AV)(x:Option AX):Option AX:=x.map (AX.sub ρ)
def pK.sub(ρ:Nat→AV):pK→pK
 |.move x=>.move (x.sub ρ)
 |.pick c a b=>.pick (c.sub ρ) (a.sub ρ) (b.sub ρ)
 |.build z ps=>.build z (ps.map λp=>(p.1,p.2.1,p.2.2.sub ρ))
 |.nilCheck x=>.nilCheck (x.sub ρ)
 |.bin op x y=>.bin op (x.sub ρ) (y.sub ρ)
 |.eqB n x y=>.eqB n (x.sub ρ) (y.sub ρ)
 |.eqS n ks x y=>.eqS n ks (x.sub ρ) (y.sub ρ)
 |.eqP n x y=>.eqP n (x.sub ρ) (y.sub ρ)
 |.eqN n x y=>.eqN n (x.sub ρ) (y.sub ρ)
 |.un op x=>.un op (x.sub ρ)
 |.OQ k x=>.OQ k (x.sub ρ)
 |.Ql x=>.Ql (x.sub ρ)
 |.Gs f cs=>.Gs f (cs.map (AX.sub ρ))
 |.sj x a b=>.sj (x.sub ρ) (AX.kN ρ a) (AX.kN ρ b)
 |.slice s x a b c=>.slice s (x.sub ρ) (AX.kN ρ a) (AX.kN ρ b) (AX.kN ρ c)
 |.fieldAddr o x=>.fieldAddr o (x.sub ρ)
 |.field g o n x=>.field g o n (x.sub ρ)
 |.zU n s x i=>.zU n s (x.sub ρ) (i.sub ρ)
 |.kU s x i=>.kU s (x.sub ρ) (i.sub ρ)
 |.index g n s x i=>.index g n s (x.sub ρ) (i.sub ρ)
 |.xK x i=>.xK (x.sub ρ) (i.sub ρ)
 |.extract x i=>.extract (x.sub ρ) i
 |.len s x=>.len s (x.sub ρ)
 |.cap x=>.cap (x.sub ρ)
 |.Cv m xs=>.Cv m (xs.map (AX.sub ρ))
def Ew.sub(ρ:Nat→AV):Ew→Ew
 |.load g n x=>.load g n (x.sub ρ)
 |.oh x=>.oh (x.sub ρ)
 |.NP x=>.NP (x.sub ρ)
 |.lookup ok z x k=>.lookup ok z (x.sub ρ) (k.sub ρ)
def PL.sub(ρ:Nat→AV):PL→PL
 |.alloc z=>.alloc z
 |.box x=>.box (x.sub ρ)
 |.buildSlice s l z ps=>.buildSlice s l z (ps.map λp=>(p.1,p.2.sub ρ))
 |.makeSlice s b z l c=>.makeSlice s b z (l.sub ρ) (c.sub ρ)
 |.t_ x=>.t_ (x.sub ρ)
 |.makeMap=>.makeMap
def JY.sub(ρ:Nat→AV):JY→JY
 |.store n a v=>.store n (a.sub ρ) (v.sub ρ)
 |.call f xs=>.call (f.sub ρ) (xs.map (AX.sub ρ))
 |.append s b x y=>.append s b (x.sub ρ) (y.sub ρ)
 |.Cw s b z x y=>.Cw s b z (x.sub ρ) (y.sub ρ)
 |.copy s x y=>.copy s (x.sub ρ) (y.sub ρ)
 |.clear s z x=>.clear s z (x.sub ρ)
 |.mapUpdate m k v=>.mapUpdate (m.sub ρ) (k.sub ρ) (v.sub ρ)
 |.Ir m k=>.Ir (m.sub ρ) (k.sub ρ)
 |.AZ x=>.AZ (x.sub ρ)
 |.fail=>.fail
def Fw.sub(ρ:Nat→AV):Fw→Fw
 |.p o=>.p (o.sub ρ)
 |.l o=>.l (o.sub ρ)
 |.k o=>.k (o.sub ρ)
 |.n o=>.n (o.sub ρ)
section
variable {ρ:Nat→AV} {e:Env} (h:∀t,ρ t=e.getD t .undef)
include h
theorem Gu(x:AX):(x.sub ρ).ev []=x.ev e:=by
 cases x with
 | t n=>exact h n
 | c v=>rfl
theorem agK(l:List AX):(l.map (AX.sub ρ)).map (AX.ev [])=l.map (AX.ev e):=by
 rw[List.map_map]
 exact List.map_congr_left λx _=>Gu h x
theorem ab4(x:Option AX)(a b:Nat):dX [] (AX.kN ρ x) a b=dX e x a b:=by
 cases x with
 | none=>rfl
 | some x=>simp only[AX.kN,bH,dX,Gu h]
theorem apZ(o:pK):aP (o.sub ρ) []=aP o e:=by
 cases o with
 | build z ps =>
  simp only[pK.sub,aP,List.map_map]
  congr 2
  exact List.map_congr_left λp _=>by simp only[Function.comp,Gu h]
 | Gs f cs=>simp only[pK.sub,aP,agK h]
 | Cv m xs=>simp only[pK.sub,aP,agK h]
 | sj x a b=>simp only[pK.sub,aP,Gu h,Iu,ab4 h]
 | slice s x a b c =>
  simp only[pK.sub,aP,Gu h]
  split
  ·simp only[lH,ab4 h]
   cases c with
   | none=>rfl
   | some c=>cases b with
    | none=>rfl
    | some b=>rfl
  ·rfl
 | _=>simp only[pK.sub,aP,Gu h]
theorem am9(o:Ew)(M:Heap):aL (o.sub ρ) [] M=aL o e M:=by
 cases o<;>simp only[Ew.sub,aL,Gu h]
theorem ap0(o:PL):aK (o.sub ρ) []=aK o e:=by
 cases o with
 | buildSlice s l z ps =>
  simp only[PL.sub,aK,List.map_map]
  congr 2
  exact List.map_congr_left λp _=>by simp only[Function.comp,Gu h]
 | _=>simp only[PL.sub,aK,Gu h]
theorem ap1(C:dO)(o:JY)(M:Heap):aN C (o.sub ρ) [] M=aN C o e M:=by
 cases o with
 | call f xs=>simp only[JY.sub,aN,Gu h,agK h]
 | _=>simp only[JY.sub,aN,Gu h]
theorem auM(C:dO)(o:Fw)(M:Heap):V5 C (o.sub ρ) [] M=V5 C o e M:=by
 cases o with
 | p o=>simp only[Fw.sub,V5,apZ h]
 | l o=>simp only[Fw.sub,V5,am9 h]
 | k o=>simp only[Fw.sub,V5,ap0 h]
 | n o=>simp only[Fw.sub,V5,ap1 h]
end
def dO.Le(C C':dO):Prop:=∀f a M r,C f a M=some r→C' f a M=some r
theorem ayD{C C':dO}(h:C.Le C'){o:JY}{e:Env}{M:Heap}{r:AV×Heap}(hr:aN C o e M=some r):aN C' o e M=some r:=by
 cases o with
 | call f xs =>
  simp only[aN,ah4]at hr ⊢
  split at hr
  ·exact h _ _ _ _ hr
  ·cases hr
 | _=>exact hr
theorem azg{C C':dO}(h:C.Le C'){o:Fw}{e:Env}{M:Heap}{r:AV×Heap}(hr:V5 C o e M=some r):V5 C' o e M=some r:=by
 cases o with
 | n o=>exact ayD h hr
 | _=>exact hr
def AV.force{β:Type}(v:AV)(k:AV→β):β :=
 match v with
 |.int kd (.ofNat m)=>match m with
  | 0=>k (.int kd (.ofNat 0))
  | m+1=>k (.int kd (.ofNat (m+1)))
 |.bool true=>k (.bool true)
 |.bool false=>k (.bool false)
 | v=>k v
theorem force_eq{β:Type}(v:AV)(k:AV→β):v.force k=k v:=by
 unfold AV.force
 split
 ·split<;>rfl
 ·rfl
 ·rfl
 ·rfl
def rA(n:Nat)(d:Option Nat)(v:AV)(l:Fast):Fast :=
 match d with
 | some d=>match Nat.blt d n with
  | true=>(d,v)::l
  | false=>l
 | none=>l
def kK(g:Option (Nat×Bool))(l:Fast):Option Bool :=
 match g with
 | none=>some true
 | some (t,want)=>match look l t with
  |.bool b=>some (b==want)
  |.tuple _=>some false
  | _=>none
def Wm(C:dO)(n:Nat):List zM→Fast→Heap→Option (Fast×Heap)
 | [],l,M=>some (l,M)
 | o::r,l,M=>match kK o.guard l with
  | some true=>match V5 C (o.op.sub (look l)) [] M with
   | some p=>p.1.force λv=>Wm C n r (rA n o.dst v l) p.2
   | none=>none
  | some false=>Wm C n r (rA n o.dst (.tuple []) l) M
  | none=>none
def El(C:dO)(n base nk:Nat):List iw→Fast→Heap→List Heap→Option (Fast×Heap)
 | [],l,M,_=>some (l,M)
 | d::r,l,M,hist=>match kK d.o.guard l with
  | some true=>match d.o.op with
   |.p o=>match aP (o.sub (look l)) []with
    | some v=>v.force λv=>El C n base nk r (rA n d.o.dst v l) M hist
    | none=>none
   |.l o=>match aL (o.sub (look l)) [] (M.hide base nk)with
    | some v=>if (hist.drop d.lo).all (λH=>match aL (o.sub (look l)) [] (H.hide base nk)with | some u=>AV.same u v | none=>false)then v.force λv=>El C n base nk r (rA n d.o.dst v l) M hist else none
    | none=>none
   |.k o=>match aK (o.sub (look l)) []with
    | some p=>El C n base nk r (rA n d.o.dst (p.2.val (base+d.ix)) l) (M.put (base+d.ix) (some p.1)) hist
    | none=>none
   |.n o=>match aN C (o.sub (look l)) [] M with
    | some p=>p.1.force λv=>El C n base nk r (rA n d.o.dst v l) p.2 (hist++[M])
    | none=>none
  | some false=>El C n base nk r (rA n d.o.dst (.tuple []) l) M (match d.o.op with |.n _=>hist++[M] | _=>hist)
  | none=>none
def Kv(l:Fast):List Nat→Fast
 | []=>[]
 | t::r=>(t,look l t)::Kv l r
abbrev aaz:=Option (Ex×Fast×Heap)
def fQ(body:Fast→Heap→aaz)(keep:List Nat):Nat→Fast→Heap→aaz
 | 0,_,_=>none
 | k+1,l,M=>match body (Kv l keep) M with
  | some (.normal,l',M')=>fQ body keep k l' M'
  | r=>r
def bF(C:dO)(K n:Nat):cO→Fast→Heap→aaz
 |.skip,l,M=>some (.normal,l,M)
 |.reg ops,l,M=>(Wm C n ops l M).map λp=>(.normal,p)
 |.aaw nk ops,l,M=>(El C n M.next nk ops l { M with next:=M.next+nk } []).map λp=>(.normal,p)
 |.seq a b,l,M=>match bF C K n a l M with
  | some (.normal,l',M')=>bF C K n b l' M'
  | r=>r
 |.cond c a b,l,M=>match (c.sub (look l)).ev []with
  |.bool true=>bF C K n a l M
  |.bool false=>bF C K n b l M
  | _=>none
 |.block id c,l,M=>match bF C K n c l M with
  | some (.exit i,l',M')=>if i=id then some (.normal,l',M')else some (.exit i,l',M')
  | r=>r
 |.loop keep c,l,M=>fQ (bF C K n c) keep K l M
 |.exit id,l,M=>some (.exit id,l,M)
 |.ret,l,M=>some (.ret,l,M)
 |.fail,_,_=>none
def Ti(r:Mf)(l:Fast)(M:Heap):Option AV :=
 match r with
 |.tmp t=>match look l t with
  |.undef=>none
  | v=>some v
 |.cell t agg n=>Kn agg n (look l t) M
def IL:List Mf→Fast→Heap→Option (List AV)
 | [],_,_=>some []
 | r::rs,l,M=>(Ti r l M).bind λv=>(IL rs l M).map (v::·)
def oq(rs:List Mf)(l:Fast)(M:Heap):Option AV :=
 (IL rs l M).map λvs=>match vs with
  | [v]=>v
  | vs=>.tuple vs
def start:Nat→List AV→Fast
 | _,[]=>[]
 | i,v::r=>(i,v)::start (i+1) r
def bbody(C:dO)(K:Nat)(f:bY)(args:List AV)(M:Heap):Option (AV×Heap) :=
 if args.length=f.nargs∧f.nargs≤f.ntmps then
  match bF C K f.ntmps f.code (start 0 (args++List.replicate (f.ntmps-f.nargs) (.tuple []))) M with
  | some (.normal,l,M')=>(oq f.results l M').map λv=>(v,M')
  | some (.ret,l,M')=>(oq f.results l M').map λv=>(v,M')
  | _=>none
 else none
abbrev agL:=FuncId→Option (List AV→Heap→Option (AV×Heap))
def uK(G:agL)(T:FuncId→Option bY)(K:Nat):Nat→dO
 | 0,_,_,_=>none
 | d+1,f,args,M=>match G f with
  | some g=>g args M
  | none=>match T f with
   | some af=>bbody (uK G T K d) K af args M
   | none=>none
structure Same(n:Nat)(l:Fast)(e:Env):Prop where
 len:e.length=n
 get:∀t,look l t=e.getD t .undef
theorem Same.put{n:Nat}{l:Fast}{e:Env}(s:Same n l e)(d:Option Nat)(v:AV):Same n (rA n d v l) (PN d v e):=by
 cases d with
 | none=>exact s
 | some d =>
  simp only[rA,PN]
  cases hb:Nat.blt d n with
  | false =>
   have hd:e.length≤d:=by
    rw[s.len]
    refine Nat.le_of_not_lt λhlt=>?_
    have:Nat.blt d n=true:=by simpa[Nat.blt_eq]using hlt
    rw[hb]at this
    cases this
   rw[List.set_eq_of_length_le hd]
   exact s
  | true =>
   have hd:d<n:=by simpa[Nat.blt_eq]using hb
   refine⟨by simp[s.len],λt=>?_⟩
   simp only[look]
   rw[List.getD_eq_getElem?_getD,List.getElem?_set]
   by_cases h:d=t
   ·subst h
    simp[s.len,hd]
   ·have:Nat.beq d t=false:=by
     cases hh:Nat.beq d t with
     | false=>rfl
     | true=>exact absurd (bT hh) h
    simp only[this,if_neg h]
    rw[s.get t,List.getD_eq_getElem?_getD]
theorem Same.wanted{n:Nat}{l:Fast}{e:Env}(s:Same n l e)(g:Option (Nat×Bool)):kK g l=yR g e:=by
 cases g with
 | none=>rfl
 | some g =>
  obtain⟨t,want⟩:=g
  simp only[kK,yR,s.get]
  generalize e.getD t .undef=x
  cases x<;>rfl
theorem agM{C C':dO}(hC:C.Le C'){n:Nat}:∀(ops:List zM) (l:Fast) (e:Env) (M:Heap) (l':Fast) (M':Heap),Same n l e→Wm C n ops l M=some (l',M')→∃e',Yi C' ops e M=some (e',M')∧Same n l' e'
 | [],l,e,M,l',M',s,h=>by
  simp only[Wm,aC,aS]at h
  obtain⟨rfl,rfl⟩:=h
  exact⟨e,rfl,s⟩
 | o::r,l,e,M,l',M',s,h=>by
  simp only[Wm]at h
  rw[s.wanted]at h
  simp only[Yi]
  split at h
  ·rename_i hw
   rw[hw]
   rw[auM s.get]at h
   split at h
   ·rename_i p hp
    rw[force_eq]at h
    simp only[azg hC hp,ak]
    exact agM hC r _ _ _ _ _ (s.put _ _) h
   ·cases h
  ·rename_i hw
   rw[hw]
   exact agM hC r _ _ _ _ _ (s.put _ _) h
  ·cases h
theorem Ml{C C':dO}(hC:C.Le C'){n base nk:Nat}:∀(ops:List iw) (l:Fast) (e:Env) (M:Heap) (hist:List Heap) (l':Fast) (M':Heap),Same n l e→El C n base nk ops l M hist=some (l',M')→∃e',Mh C' base nk ops e M hist=some (e',M')∧Same n l' e'
 | [],l,e,M,hist,l',M',s,h=>by
  simp only[El,aC,aS]at h
  obtain⟨rfl,rfl⟩:=h
  exact⟨e,rfl,s⟩
 | d::r,l,e,M,hist,l',M',s,h=>by
  simp only[El]at h
  rw[s.wanted]at h
  simp only[Mh]
  split at h
  ·rename_i hw
   rw[hw]
   simp only
   split at h
   ·rename_i o ho
    rw[apZ s.get]at h
    split at h
    ·rename_i v hv
     rw[force_eq]at h
     simp only[ho,hv,ak]
     exact Ml hC r _ _ _ _ _ _ (s.put _ _) h
    ·cases h
   ·rename_i o ho
    simp only[am9 s.get]at h
    split at h
    ·rename_i v hv
     simp only[ho,hv,ak]
     split at h
     ·rename_i hall
      rw[force_eq]at h
      split
      ·exact Ml hC r _ _ _ _ _ _ (s.put _ _) h
      ·rename_i hn
       exact absurd hall hn
     ·cases h
    ·cases h
   ·rename_i o ho
    rw[ap0 s.get]at h
    split at h
    ·rename_i p hp
     simp only[ho,hp,ak]
     exact Ml hC r _ _ _ _ _ _ (s.put _ _) h
    ·cases h
   ·rename_i o ho
    rw[ap1 s.get]at h
    split at h
    ·rename_i p hp
     rw[force_eq]at h
     simp only[ho,ayD hC hp,ak]
     exact Ml hC r _ _ _ _ _ _ (s.put _ _) h
    ·cases h
  ·rename_i hw
   rw[hw]
   exact Ml hC r _ _ _ _ _ _ (s.put _ _) h
  ·cases h
theorem afn(l:Fast)(t:Nat):∀keep:List Nat,look (Kv l keep) t=if keep.contains t then look l t else .undef
 | []=>by simp[Kv,look]
 | u::r=>by
  simp only[Kv,look,List.contains_cons]
  cases hb:Nat.beq u t with
  | true =>
   obtain rfl:=bT hb
   simp
  | false =>
   have:(t==u)=false:=by
    cases h:t==u with
    | false=>rfl
    | true =>
     rw[beq_iff_eq]at h
     subst h
     rw[Nat.beq_refl]at hb
     cases hb
   simp only[this,Bool.false_or]
   exact afn l t r
theorem Uc(keep:List Nat):∀(e:Env) (i t:Nat),(om keep i e).getD t .undef=if keep.contains (i+t)then e.getD t .undef else .undef
 | [],i,t=>by simp[om]
 | v::r,i,0=>by simp[om]
 | v::r,i,t+1=>by
  have:=Uc keep r (i+1) t
  simp only[om,List.getD_cons_succ]
  rw[this,show i+1+t=i+(t+1)from by omega]
theorem OU(keep:List Nat):∀(e:Env) (i:Nat),(om keep i e).length=e.length
 | [],i=>rfl
 | v::r,i=>by simp[om,OU keep r]
theorem Same.keep{n:Nat}{l:Fast}{e:Env}(s:Same n l e)(keep:List Nat):Same n (Kv l keep) (om keep 0 e) :=
 ⟨by rw[OU,s.len],λt=>by rw[afn,Uc,Nat.zero_add,s.get]⟩
theorem air {n:Nat} {b:Fast→Heap→aaz} {a:Env→Heap→auz} (h:∀l e M x l' M',Same n l e→b l M=some (x,l',M')→∃e',a e M=some (x,e',M')∧Same n l' e') (keep:List Nat) :
  ∀(k:Nat) (l:Fast) (e:Env) (M:Heap) (x:Ex) (l':Fast) (M':Heap),Same n l e→fQ b keep k l M=some (x,l',M')→∃e',abS a keep k e M=some (x,e',M')∧Same n l' e'
 | 0,_,_,_,_,_,_,_,hb=>by simp[fQ]at hb
 | k+1,l,e,M,x,l',M',s,hb=>by
  simp only[fQ]at hb
  simp only[abS]
  split at hb
  ·rename_i l1 M1 h1
   obtain⟨e1,g1,g2⟩:=h _ _ _ _ _ _ (s.keep keep) h1
   rw[g1]
   exact air h keep k _ _ _ _ _ _ g2 hb
  ·rename_i hne
   obtain⟨e1,g1,g2⟩:=h _ _ _ _ _ _ (s.keep keep) hb
   rw[g1]
   refine⟨e1, ?_,g2⟩
   cases x with
   | normal=>exact absurd hb (hne _ _)
   | _=>rfl
theorem Ae{C C':dO}(hC:C.Le C'){K n:Nat}:∀(c:cO) (l:Fast) (e:Env) (M:Heap) (x:Ex) (l':Fast) (M':Heap),Same n l e→bF C K n c l M=some (x,l',M')→∃e',oo C' K c e M=some (x,e',M')∧Same n l' e'
 |.skip,l,e,M,x,l',M',s,h=>by
  simp only[bF,aC,aS]at h
  obtain⟨rfl,rfl,rfl⟩:=h
  exact⟨e,rfl,s⟩
 |.reg ops,l,e,M,x,l',M',s,h=>by
  simp only[bF]at h
  obtain⟨p,hp,h2⟩:=aH.1 h
  simp only[aS]at h2
  obtain⟨rfl,h3⟩:=h2
  subst h3
  obtain⟨e',g1,g2⟩:=agM hC ops _ _ _ _ _ s hp
  exact⟨e',by simp only[oo,g1,bH],g2⟩
 |.aaw nk ops,l,e,M,x,l',M',s,h=>by
  simp only[bF]at h
  obtain⟨p,hp,h2⟩:=aH.1 h
  simp only[aS]at h2
  obtain⟨rfl,h3⟩:=h2
  subst h3
  obtain⟨e',g1,g2⟩:=Ml hC ops _ _ _ _ _ _ s hp
  exact⟨e',by simp only[oo,g1,bH],g2⟩
 |.seq a b,l,e,M,x,l',M',s,h=>by
  simp only[bF]at h
  simp only[oo]
  split at h
  ·rename_i l1 M1 h1
   obtain⟨e1,g1,g2⟩:=Ae hC a _ _ _ _ _ _ s h1
   rw[g1]
   exact Ae hC b _ _ _ _ _ _ g2 h
  ·rename_i hne
   obtain⟨e1,g1,g2⟩:=Ae hC a _ _ _ _ _ _ s h
   rw[g1]
   refine⟨e1, ?_,g2⟩
   cases x with
   | normal=>exact absurd h (hne _ _)
   | _=>rfl
 |.cond c a b,l,e,M,x,l',M',s,h=>by
  simp only[bF]at h
  rw[Gu s.get]at h
  simp only[oo]
  split at h
  ·rename_i hc
   rw[hc]
   exact Ae hC a _ _ _ _ _ _ s h
  ·rename_i hc
   rw[hc]
   exact Ae hC b _ _ _ _ _ _ s h
  ·cases h
 |.block id c,l,e,M,x,l',M',s,h=>by
  simp only[bF]at h
  simp only[oo]
  split at h
  ·rename_i i l1 M1 h1
   obtain⟨e1,g1,g2⟩:=Ae hC c _ _ _ _ _ _ s h1
   rw[g1]
   simp only
   split at h
   ·rename_i hi
    rw[if_pos hi]
    simp only[aC,aS]at h
    obtain⟨rfl,rfl,rfl⟩:=h
    exact⟨e1,rfl,g2⟩
   ·rename_i hi
    rw[if_neg hi]
    simp only[aC,aS]at h
    obtain⟨rfl,rfl,rfl⟩:=h
    exact⟨e1,rfl,g2⟩
  ·rename_i hne
   obtain⟨e1,g1,g2⟩:=Ae hC c _ _ _ _ _ _ s h
   rw[g1]
   refine⟨e1, ?_,g2⟩
   cases x with
   | exit i=>exact absurd h (hne _ _ _)
   | _=>rfl
 |.loop keep c,l,e,M,x,l',M',s,h=>by
  simp only[bF]at h
  simp only[oo]
  exact air (λl e M x l' M' s h=>Ae hC c l e M x l' M' s h) keep K _ _ _ _ _ _ s h
 |.exit id,l,e,M,x,l',M',s,h=>by
  simp only[bF,aC,aS]at h
  obtain⟨rfl,rfl,rfl⟩:=h
  exact⟨e,rfl,s⟩
 |.ret,l,e,M,x,l',M',s,h=>by
  simp only[bF,aC,aS]at h
  obtain⟨rfl,rfl,rfl⟩:=h
  exact⟨e,rfl,s⟩
 |.fail,_,_,_,_,_,_,_,h=>by simp[bF]at h
theorem ais{n:Nat}{l:Fast}{e:Env}(s:Same n l e)(M:Heap):∀rs:List Mf,IL rs l M=abT rs e M
 | []=>rfl
 | r::rs=>by
  have h1:Ti r l M=akI r e M:=by
   cases r with
   | tmp t =>
    simp only[Ti,akI,s.get]
    generalize e.getD t .undef=x
    cases x<;>rfl
   | cell t g n=>simp only[Ti,akI,s.get]
  simp only[IL,abT,h1,ais s M rs]
theorem ZV{n:Nat}{l:Fast}{e:Env}(s:Same n l e)(M:Heap)(rs:List Mf):oq rs l M=IC rs e M:=by
 unfold oq IC
 rw[ais s]
 congr 1
theorem ab5:∀(l:List AV) (i t:Nat),look (start i l) t=if i≤t then l.getD (t-i) .undef else .undef
 | [],i,t=>by simp[start,look]
 | v::r,i,t=>by
  simp only[start,look]
  cases hb:Nat.beq i t with
  | true =>
   obtain rfl:=bT hb
   simp
  | false =>
   have hne:i≠t:=λe=>by subst e;rw[Nat.beq_refl]at hb;cases hb
   simp only
   rw[ab5 r (i+1) t]
   by_cases h:i≤t
   ·rw[if_pos h,if_pos (by omega),show t-i=(t-(i+1))+1 from by omega,List.getD_cons_succ]
   ·rw[if_neg h,if_neg (by omega)]
theorem ap2{C C':dO}(hC:C.Le C'){K:Nat}{f:bY}{args:List AV}{M:Heap}{r:AV×Heap}(h:bbody C K f args M=some r):abody C' K f args M=some r:=by
 unfold bbody at h
 unfold abody
 split at h
 case isFalse=>cases h
 rename_i hcond
 rw[if_pos hcond]
 have s:Same f.ntmps (start 0 (args++List.replicate (f.ntmps-f.nargs) (.tuple []))) (args++List.replicate (f.ntmps-f.nargs) (.tuple [])) :=
  ⟨by simp;omega,λt=>by rw[ab5];simp⟩
 split at h
 ·rename_i l M1 h1
  obtain⟨e1,g1,g2⟩:=Ae hC f.code _ _ _ _ _ _ s h1
  rw[g1]
  rw[ZV g2]at h
  exact h
 ·rename_i l M1 h1
  obtain⟨e1,g1,g2⟩:=Ae hC f.code _ _ _ _ _ _ s h1
  rw[g1]
  rw[ZV g2]at h
  exact h
 ·cases h
theorem ait{G:agL}{T:FuncId→Option bY}{K:Nat}:∀d,(uK G T K d).Le (OT G T K d)
 | 0=>λf a M r h=>by simp[uK]at h
 | d+1=>λf a M r h=>by
  simp only[uK]at h
  simp only[OT]
  split at h
  ·rename_i g hg
   rw[hg]
   exact h
  ·rename_i hg
   rw[hg]
   split at h
   ·rename_i af haf
    rw[haf]
    exact ap2 (ait d) h
   ·cases h
theorem yS(u t:Nat)(v:AV)(r:Fast):look ((u,v)::r) t=if u=t then v else look r t:=by
 simp only[look]
 cases hb:Nat.beq u t with
 | true=>rw[if_pos (bT hb)]
 | false=>rw[if_neg (λh=>by subst h;rw[Nat.beq_refl]at hb;cases hb)]
theorem yT{n d:Nat}(v:AV)(l:Fast)(h:d<n):rA n (some d) v l=(d,v)::l:=by
 have:Nat.blt d n=true:=by simpa[Nat.blt_eq]using h
 simp[rA,this]
theorem an1(n:Nat)(v:AV)(l:Fast):rA n none v l=l:=rfl
theorem CF(C:dO)(n:Nat)(l:Fast)(M:Heap):Wm C n [] l M=some (l,M):=rfl
theorem yU (C:dO) (n:Nat) (dst:Option Nat) (op:Fw) (r:List zM) (l:Fast) (M:Heap) :
  Wm C n ({ dst:=dst,op:=op,guard:=none }::r) l M=match V5 C (op.sub (look l)) [] M with
   | some p=>Wm C n r (rA n dst p.1 l) p.2
   | none=>none:=by
 simp only[Wm,kK]
 split<;>simp[force_eq, *]
theorem yV(C:dO)(K n:Nat)(ops:List zM)(l:Fast)(M:Heap):bF C K n (.reg ops) l M=(Wm C n ops l M).map λp=>(.normal,p):=rfl
theorem yX (C:dO) (K n:Nat) (a b:cO) (l:Fast) (M:Heap):bF C K n (.seq a b) l M=match bF C K n a l M with
  | some (.normal,l',M')=>bF C K n b l' M'
  | r=>r:=rfl
theorem wrap_i64{n:Int}(h1:-9223372036854775808≤n)(h2:n≤9223372036854775807):IntKind.i64.wrap n=n:=by
 simp[IntKind.wrap,IntKind.signed,IntKind.bits]
 split<;>omega
structure Ext(M M':Heap):Prop where
 sub:M.Sub M'
 next:M.next≤M'.next
 wf:M'.Wf
theorem Ext.refl{M:Heap}(h:M.Wf):Ext M M:=⟨.refl _,Nat.le_refl _,h⟩
theorem Ext.trans{A B C:Heap}(h:Ext A B)(k:Ext B C):Ext A C:=⟨h.sub.trans k.sub,Nat.le_trans h.next k.next,k.wf⟩
theorem Ext.push{M:Heap}(h:M.Wf)(x:pJ):Ext M (M.push x) :=
 ⟨λb y hy=>by
  have:b≠M.next:=λe=>by rw[e,h _ (Nat.le_refl _)]at hy;cases hy
  simp[Heap.push,this,hy],Nat.le_succ _,λb hb=>by
  simp only[Heap.push]at hb ⊢
  rw[if_neg (by omega)]
  exact h b (by omega)⟩
def ap3(M:Heap)(a:AV)(l:List (List UInt8)):Prop :=
 ∃p sz cap ex,a=.slice p sz l.length cap ex∧(l≠[]→sz=1∧∃b o c ro sl,p=some (b,o)∧M.get b=some (.cells c ro sl)∧∀j s,l[j]?=some s→c[o+j]?=some (.str s))
theorem ap3.mono{M M':Heap}(h:M.Sub M'){a:AV}{l:List (List UInt8)}(r:ap3 M a l):ap3 M' a l:=by
 obtain⟨p,sz,cap,ex,h1,h2⟩:=r
 refine⟨p,sz,cap,ex,h1,λhl=>?_⟩
 obtain⟨e1,b,o,c,ro,sl,e2,e3,e4⟩:=h2 hl
 exact⟨e1,b,o,c,ro,sl,e2,h _ _ e3,e4⟩
def alone(g:List AV→Heap→Option (AV×Heap)):List AV→Heap→Option (AV×Heap):=λargs M =>
 match args,g [] Heap.empty with
 | [],some (.bool b,_)=>some (.bool b,M)
 | _,_=>none
theorem afo{P:Program}{G:agL}{T:FuncId→Option bY}(hG:∀f g,G f=some g→(UU P f∧Sound P f g)∨ZM P f g)(hT:∀f af,T f=some af→∃h,bg P f h=some af)(K d:Nat){f:FuncId}(hf:G f=none):Sound P f (uK G T K d f):=by
 intro args M v M' h
 have h1:=ait d f args M _ h
 cases d with
 | zero=>simp[OT]at h1
 | succ d =>
  simp only[OT,hf]at h1
  split at h1
  ·rename_i af haf
   obtain⟨hs,hc⟩:=hT f af haf
   exact ab2 (ZU hG hT K d) K hc args M v M' h1
  ·cases h1
theorem ap4{s:Sh}{ss:List Sh}{ds:List D}(h:D.are (s::ss) ds):∃d r,ds=d::r∧D.is s d∧D.are ss r:=by
 cases ds with
 | nil=>simp[D.are]at h
 | cons d r=>exact⟨d,r,rfl,by simpa[D.are]using h⟩
theorem Wn{ds:List D}(h:D.are [] ds):ds=[]:=by
 cases ds with
 | nil=>rfl
 | cons d r=>simp[D.are]at h
abbrev WH:=List (Option pJ)
def fC:WH→Nat→Option pJ
 | [],_=>none
 | x::_,0=>x
 | _::r,i+1=>fC r i
def jN:WH→Nat→Option pJ→WH
 | [],_,_=>[]
 | _::r,0,y=>y::r
 | x::r,i+1,y=>x::jN r i y
mutual
def Fx:AV→List Nat
 |.ptr (some p)=>[p.1]
 |.map (some r)=>[r]
 |.acc b _ _ _ _=>[b]
 |.func _ cs=>tF cs
 |.agg cs=>tF cs
 |.tuple cs=>tF cs
 | _=>[]
def tF:List AV→List Nat
 | []=>[]
 | v::r=>Fx v++tF r
end
def AV.flat:AV→Bool
 |.ptr (some _) |.slice (some _) _ _ _ _ |.map (some _) |.func _ (_::_) |.agg _ |.tuple _ |.acc ..=>false
 | _=>true
def Fy:List Nat→Nat→Option Nat
 | [],_=>none
 | a::r,b=>match Nat.beq a b with
  | true=>some 0
  | false=>match Fy r b with
   | some k=>some (k+1)
   | none=>none
mutual
def rn(f:Nat→Option Nat):AV→AV
 |.ptr (some q)=>match f q.1 with
  | some b=>.ptr (some (b,q.2))
  | none=>.undef
 |.slice (some _) _ _ _ _=>.undef
 |.map (some r)=>match f r with
  | some b=>.map (some b)
  | none=>.undef
 |.acc b o sz n w=>match f b with
  | some b'=>.acc b' o sz n w
  | none=>.undef
 |.func g cs=>.func g (rnL f cs)
 |.agg cs=>.agg (rnL f cs)
 |.tuple cs=>.tuple (rnL f cs)
 | v=>v
def rnL(f:Nat→Option Nat):List AV→List AV
 | []=>[]
 | v::r=>rn f v::rnL f r
end
def rnB(f:Nat→Option Nat):pJ→pJ
 |.cells c ro sl=>match sl with
  | true=>.cells c ro true
  | false=>.cells (rnL f c) ro false
 |.map es=>.map es
def aBY:Option pJ→List Nat
 | some (.cells c _ false)=>tF c
 | _=>[]
def yY:List Nat→Nat→Bool
 | [],_=>false
 | a::r,b=>match Nat.beq a b with
  | true=>true
  | false=>yY r b
def PU(H:WH)(np:Nat)(seen:List Nat):List Nat→List Nat
 | []=>[]
 | a::r=>match yY seen a with
  | true=>PU H np seen r
  | false=>match Nat.blt a np with
   | true=>a::PU H np (a::seen) r
   | false=>match fC H a with
    | some _=>a::PU H np (a::seen) r
    | none=>PU H np (a::seen) r
def ayE(H:WH):List Nat→List Nat
 | []=>[]
 | b::r=>aBY (fC H b)++ayE H r
def ap5(H:WH)(np:Nat)(l:List Nat):List Nat:=PU H np [] (l++ayE H l)
def Yt(H:WH)(np:Nat)(roots:List Nat):List Nat:=ap5 H np (ap5 H np (ap5 H np (PU H np [] (List.range np++roots))))
def rnO(f:Nat→Option Nat):Option pJ→Option pJ
 | some x=>some (rnB f x)
 | none=>none
def CG(H:WH)(p:List Nat):List Nat→WH
 | []=>[]
 | b::r=>rnO (Fy p) (fC H b)::CG H p r
def back(p:List Nat)(n0 k:Nat):Option Nat:=match p[k]? with
 | some b=>some b
 | none=>some (n0+(k-p.length))
def Ez(f:Nat→Option Nat):List Nat→WH→WH→WH
 | b::p,x::out,H=>Ez f p out (jN H b (rnO f x))
 | _,_,H=>H
def Wo(H:WH)(p:List Nat)(out:WH):WH :=
 Ez (back p H.length) p out H++(out.drop p.length).map (rnO (back p H.length))
mutual
def retag:AV→AV→AV
 |.slice none s 0 0 true,t=>match t with
  |.slice none z _ _ _=>.slice none z 0 0 true
  | _=>.slice none s 0 0 true
 |.agg cs,t=>match t with
  |.agg ts=>.agg (wD cs ts)
  | _=>.agg cs
 |.tuple cs,t=>match t with
  |.tuple ts=>.tuple (wD cs ts)
  | _=>.tuple cs
 | v,_=>v
def wD:List AV→List AV→List AV
 | c::cs,ts=>match ts with
  | t::ts=>retag c t::wD cs ts
  | []=>c::cs
 | [],_=>[]
end
def NY(g:AV→Option (AV×List Nat)):List AV→Option (List AV×List Nat)
 | []=>some ([],[])
 | v::r=>match g v,NY g r with
  | some p,some q=>some (p.1::q.1,p.2++q.2)
  | _,_=>none
def aiu(w:Bool)(c:List AV)(o m:Nat):List AV:=match w with
 | true=>c
 | false=>(c.drop o).take m
def frz(H:WH):Nat→Bool→AV→Option (AV×List Nat)
 | 0,_,_=>none
 | k+1,nested,v=>match v with
  |.acc b o sz n w=>match fC H b with
   | some (.cells c _ sl)=>match sl with
    | true=>some (.list sz n (aiu w c o (n*sz)) false,[b])
    | false=>match w with
     | true=>match NY (frz H k true) c with
      | some p=>some (.list sz n p.1 false,b::p.2)
      | none=>none
     | false=>none
   | _=>none
  |.slice none z 0 0 true=>some (.list z 0 [] false,[])
  |.slice _ _ _ _ _=>none
  |.list sz n cs _=>some (.list sz n cs false,[])
  |.elem _=>none
  |.ptr (some q)=>match nested with
   | true=>none
   | false=>some (.ptr (some q),[])
  |.map (some r)=>match nested with
   | true=>none
   | false=>some (.map (some r),[])
  |.func f cs=>match NY (frz H k nested) cs with
   | some p=>some (.func f p.1,p.2)
   | none=>none
  |.agg cs=>match NY (frz H k nested) cs with
   | some p=>some (.agg p.1,p.2)
   | none=>none
  |.tuple cs=>match NY (frz H k nested) cs with
   | some p=>some (.tuple p.1,p.2)
   | none=>none
  | v=>some (v,[])
def aaA:Option pJ→Option pJ
 | some (.cells c _ sl)=>some (.cells c true sl)
 | x=>x
def NZ(H:WH):List Nat→WH
 | []=>H
 | b::r=>NZ (jN H b (aaA (fC H b))) r
def ayF(w:Bool)(c:List AV)(m:Nat):List AV:=match w with
 | true=>c
 | false=>c.take m
mutual
def an2:AV→WH→AV×WH
 |.slice none z 0 0 true,H=>(.acc H.length 0 z 0 true,H++[some (.cells [] false true)])
 |.acc b 0 sz n w,H=>match fC H b with
  | some (.cells c false true)=>(.acc H.length 0 sz n true,jN H b none++[some (.cells (ayF w c (n*sz)) false true)])
  | _=>(.acc b 0 sz n w,H)
 |.agg cs,H=>match afp cs H with
  |(a,H)=>(.agg a,H)
 |.tuple cs,H=>match afp cs H with
  |(a,H)=>(.tuple a,H)
 | v,H=>(v,H)
def afp:List AV→WH→List AV×WH
 | [],H=>([],H)
 | v::r,H=>match an2 v H with
  |(a,H)=>match afp r H with
   |(l,H)=>(a::l,H)
end
def nrm(m:Option Bool)(v:AV)(H:WH):AV×WH:=match m with
 | none=>(v,H)
 | some true=>an2 v H
 | some false=>match frz H 5 false v with
  | some p=>(p.1,NZ H p.2)
  | none=>(v,H)
def Wp:List (Option Bool)→List AV→WH→List AV×WH
 | _,[],H=>([],H)
 | ms,v::r,H=>match nrm (ms.headD (some false)) v H with
  |(a,H)=>match Wp ms.tail r H with
   |(l,H)=>(a::l,H)
def aiv(m:Option Bool):List AV→WH→List AV×WH
 | [],H=>([],H)
 | v::r,H=>match nrm m v H with
  |(a,H)=>match aiv m r H with
   |(l,H)=>(a::l,H)
def auN(m:Option Bool)(b:Nat)(H:WH):WH:=match m with
 | none=>H
 | some m=>match fC H b with
  | some (.cells c _ false)=>match aiv (some m) c H with
   |(c',H')=>match fC H' b with
    | some (.cells _ ro false)=>jN H' b (some (.cells c' ro false))
    | _=>H'
  | _=>H
def ZW:List (Option Bool)→Option Bool→List Nat→WH→WH
 | _,_,[],H=>H
 | ms,m,b::p,H=>ZW ms.tail m p (auN (ms.headD m) b H)
def ab6(sz:Nat)(sz' len:Nat)(cs:List AV)(lo hi mx:Option AX):Option AV :=
 if sz'=sz then
  match mx with
  | none=>(dX [] hi len len).bind λh=>(dX [] lo 0 h).bind λl=>some (.list sz (h-l) ((cs.drop (l*sz)).take ((h-l)*sz)) false)
  | some _=>(dX [] mx len len).bind λm=>match hi with
   | none=>none
   | some _=>(dX [] hi len m).bind λh=>(dX [] lo 0 h).bind λl=>some (.list sz (h-l) ((cs.drop (l*sz)).take ((h-l)*sz)) false)
 else none
def Kw(sz b off sz' n:Nat)(w:Bool)(lo hi mx:Option AX):Option AV :=
 match lo,hi,mx with
 | none,none,none=>if sz'=sz then some (.acc b off sz n w)else none
 | _,_,none=>if sz'=sz then (dX [] hi n n).bind λh=>(dX [] lo 0 h).bind λl=>some (.acc b (off+l*sz) sz (h-l) false)else none
 | _,some _,some _=>if sz'=sz then (dX [] mx n n).bind λm=>(dX [] hi n m).bind λh=>(dX [] lo 0 h).bind λl=>some (.acc b (off+l*sz) sz (h-l) false)else none
 | _,_,_=>none
def Qs:Nat→List AV→Option (List AV)
 | 0,_=>some []
 | n+1,c::cs=>match Qs n cs with
  | some l=>some (c::l)
  | none=>none
 | _+1,[]=>none
def cAt:List AV→Nat→Option AV
 | [],_=>none
 | v::_,0=>some v
 | _::r,i+1=>cAt r i
def CJ(agg:Bool)(off n:Nat)(cs:List AV):Option AV:=match agg with
 | true=>match Qs n (cs.drop off)with
  | some l=>some (.agg l)
  | none=>none
 | false=>cAt cs off
def wP(o:pK):Option AV :=
 match o with
 |.slice sz x lo hi mx=>match x.ev []with
  |.list sz' len cs _=>ab6 sz sz' len cs lo hi mx
  |.acc b off sz' n w=>Kw sz b off sz' n w lo hi mx
  | _=>none
 |.kU sz x i=>match x.ev []with
  |.list sz' len cs _=>match i.ev []with
   |.int _ j=>if 0≤j∧j<(len:Int)∧sz'=sz then some (.elem (cs.drop (j.toNat*sz)))else none
   | _=>none
  |.acc b off sz' n _=>match i.ev []with
   |.int _ j=>if 0≤j∧j<(n:Int)∧sz'=sz then some (.ptr (some (b,off+j.toNat*sz)))else none
   | _=>none
  | _=>none
 |.zU n sz x i=>match x.ev []with
  |.elem cs=>match i.ev []with
   |.int _ j=>if 0≤j∧j<(n:Int)then some (.elem (cs.drop (j.toNat*sz)))else none
   | _=>none
  | _=>aP o []
 |.fieldAddr off x=>match x.ev []with
  |.elem cs=>some (.elem (cs.drop off))
  | _=>aP o []
 |.nilCheck x=>match x.ev []with
  |.elem cs=>some (.elem cs)
  | _=>aP o []
 |.field agg off n x=>match x.ev []with
  |.agg cs=>CJ agg off n cs
  | _=>none
 |.len false x=>match x.ev []with
  |.list _ len _ _=>some (.int .i64 len)
  |.acc _ _ _ n _=>some (.int .i64 n)
  |.slice none _ 0 0 true=>some (.int .i64 0)
  | _=>none
 |.cap _=>none
 |.eqN neg x y=>match x.ev [],y.ev []with
  |.list _ (_+1) _ _,.slice none _ 0 0 true=>some (.bool neg)
  |.slice none _ 0 0 true,.list _ (_+1) _ _=>some (.bool neg)
  |.slice none _ 0 0 true,.slice none _ 0 0 true=>some (.bool (!neg))
  | _,_=>none
 | _=>aP o []
def wL(o:Ew)(H:WH):Option AV :=
 match o with
 |.load agg n x=>match agg&&Nat.beq n 0 with
  | true=>none
  | false=>match x.ev []with
   |.elem cs=>CJ agg 0 n cs
   |.ptr (some (b,off))=>match fC H b with
    | some (.cells c _ _)=>CJ agg off n c
    | _=>none
   | _=>none
 |.oh x=>match x.ev []with
  |.list 1 _ cs _=>(mU cs).map .str
  |.acc b off 1 n w=>match fC H b with
   | some (.cells c _ _)=>(mU (aiu w c off n)).map .str
   | _=>none
  |.slice none _ 0 0 true=>some (.str [])
  | _=>none
 | _=>none
def dR(bytes k:Nat):Bool:=decide (k*bytes≤70368744177664∧k≤70368744177664)
def Qt(x:AV)(sz:Nat)(H:WH):Option (Nat×List AV×List Nat) :=
 match x with
 |.list sz' n cs _=>match Nat.beq sz' sz with
  | true=>some (n,cs,[])
  | false=>none
 |.slice none _ 0 0 true=>some (0,[],[])
 |.str s=>match Nat.beq 1 sz with
  | true=>some (s.length,s.map λb=>.int .u8 b.toNat,[])
  | false=>none
 |.acc b o sz' n w=>match Nat.beq sz' sz with
  | true=>match fC H b with
   | some (.cells c _ sl)=>match sl with
    | true=>some (n,aiu w c o (n*sz),[])
    | false=>match w with
     | true=>match NY (frz H 5 true) c with
      | some p=>some (n,p.1,p.2)
      | none=>none
     | false=>none
   | _=>none
  | false=>none
 | _=>none
def ab7(s:AV)(sz:Nat)(H:WH):Option (Nat×List AV×WH×List Nat) :=
 match s with
 |.slice none _ 0 0 true=>some (0,[],H,[])
 |.acc b 0 sz' n w=>match Nat.beq sz' sz with
  | true=>match fC H b with
   | some (.cells c false true)=>some (n,aiu w c 0 (n*sz),jN H b none,[b])
   | some (.cells c false false)=>match w with
    | true=>match NY (frz H 5 true) c with
     | some p=>match yY p.2 b with
      | false=>some (n,p.1,jN (NZ H p.2) b none,[b])
      | true=>none
     | none=>none
    | false=>none
   | _=>none
  | false=>none
 | _=>none
def Wq(c:List AV)(o:Nat)(cs:List AV):Option (List AV) :=
 if o+cs.length≤c.length then some (c.take o++cs++c.drop (o+cs.length))else none
def gd{β:Type}(b:Bool)(x:Option β):Option β:=match b with
 | true=>x
 | false=>none
inductive Lf where
 | fin (m:Option Bool) (ts:List AV) (mc:Option Bool)
 | en (keep:List Nat) (ms bs:List (Option Bool)) (ts:List AV)
inductive Tc{R:Type}:Option R→Type 1 where
 | leaf (x:Lf) (v:R):Tc (some v)
 | zN (x:Lf) (v:R) (Q:R→Prop) (h:Q v):Tc (some v)
 | fail:Tc none
 | bd {β:Type} {e:Option β} {f:β→Option R} (k:(x:β)→e=some x→Tc (f x)):Tc (e.bind f)
 | gd {b:Bool} {f:Option R} (k:b=true→Tc f):Tc (Proofs.YtohoggieaanllaaGreat.gd b f)
 | br (t:Nat) {b:Bool} {f g:Option R} (x:b=true→Tc f) (y:b=false→Tc g):Tc (cond b f g)
 | ite {b:Bool} {f g:Option R} (x:b=true→Tc f) (y:b=false→Tc g):Tc (cond b f g)
 | ob {P:Prop} (h:P) {f:Option R} (r:Tc f):Tc f
 | rv (t:Nat) (u:AV) {P:Prop} (h:P) {f:Option R} (r:Tc f):Tc f
 | rb (b:Nat) (c:List AV) {P:Prop} (h:P) {f:Option R} (r:Tc f):Tc f
 | v (d:Nat) (u:AV) {f:Option R} (r:Tc f):Tc f
 | z (d:Nat) (t:List AV) {f:Option R} (r:Tc f):Tc f
 | ap (d:Nat) (n:Nat) (cs:List AV) {f:Option R} (r:Tc f):Tc f
 | st (cs:Option (List AV)) {f:Option R} (r:Tc f):Tc f
 | call (ms:List (Option Bool)) (m:Option Bool) (ts:List AV) (v:AV) (out:WH) {f:Option R} (r:Tc f):Tc f
 | lp (ms:List (Option Bool)) (bs:List (Option Bool)) (ts:List AV) (ex:Ex) (outs:List (Nat×AV)) (out:WH) {f:Option R} (r:Tc f):Tc f
 | jn (keep:List Nat) (ms:List (Option Bool)) (bs:List (Option Bool)) (ts:List AV) (ex:Ex) (outs:List (Nat×AV)) (out:WH) {f:Option R} (r:Tc f):Tc f
 | sk {f:Option R} (r:Tc f):Tc f
 | cb (ms:List (Option Bool)) (ts:List AV) (v:AV) {f:Option R} (r:Tc f):Tc f
 | kl (bs:List Nat) {f:Option R} (r:Tc f):Tc f
 | er {f:Option R} (r:Tc f):Tc f
structure TS:Type 1 where
 {R:Type}
 {f:Option R}
 tr:Tc f
def claim{R:Type}(L:R→Prop)(r:R):{f:Option R}→Tc f→Prop
 | _,.leaf _ v=>L v
 | _,.zN _ _ Q _=>Q r
 | _,.fail=>False
 | _,.bd k=>∃x,∃q,claim L r (k x q)
 | _,.gd k=>∃q,claim L r (k q)
 | _,.br (b:=b) _ x y=>b=b∧((∀h,claim L r (x h))∧(∀h,claim L r (y h)))
 | _,.ite x y=>(∀h,claim L r (x h))∧(∀h,claim L r (y h))
 | _,.ob (P:=P) _ k=>P∧claim L r k
 | _,.rv _ _ (P:=P) _ k=>P∧claim L r k
 | _,.rb _ _ (P:=P) _ k=>P∧claim L r k
 | _,.v _ _ k=>claim L r k
 | _,.z _ _ k=>claim L r k
 | _,.ap _ _ _ k=>claim L r k
 | _,.st _ k=>claim L r k
 | _,.call _ _ _ _ _ k=>claim L r k
 | _,.lp _ _ _ _ _ _ k=>claim L r k
 | _,.jn _ _ _ _ _ _ _ k=>claim L r k
 | _,.sk k=>claim L r k
 | _,.cb _ _ _ k=>claim L r k
 | _,.kl _ k=>claim L r k
 | _,.er k=>claim L r k
theorem jW{R:Type}{L:R→Prop}{r:R}(hL:L r):∀ {f:Option R} (T:Tc f),f=some r→claim L r T
 | _,.leaf _ v,h=>by
  obtain rfl:=av h
  exact hL
 | _,.zN _ _ Q q,h=>by
  obtain rfl:=av h
  exact q
 | _,.fail,h=>by cases h
 | _,.bd (e:=e) k,h=>by
  have hx:∃x,e=some x:=by
   cases e with
   | none=>cases h
   | some x=>exact⟨x,rfl⟩
  obtain⟨x,he⟩:=hx
  exact⟨x,he,jW hL (k x he) (by rw[he]at h;exact h)⟩
 | _,.gd (b:=b) k,h=>by
  have hb:b=true:=by
   cases b with
   | false=>cases h
   | true=>rfl
  exact⟨hb,jW hL (k hb) (by rw[hb]at h;exact h)⟩
 | _,.br (b:=b) _ x y,h=>⟨rfl,λq=>jW hL (x q) (by rw[q]at h;exact h),λq=>jW hL (y q) (by rw[q]at h;exact h)⟩
 | _,.ite x y,h=>⟨λq=>jW hL (x q) (by rw[q]at h;exact h),λq=>jW hL (y q) (by rw[q]at h;exact h)⟩
 | _,.ob p k,h=>⟨p,jW hL k h⟩
 | _,.rv _ _ p k,h=>⟨p,jW hL k h⟩
 | _,.rb _ _ p k,h=>⟨p,jW hL k h⟩
 | _,.v _ _ k,h=>jW hL k h
 | _,.z _ _ k,h=>jW hL k h
 | _,.ap _ _ _ k,h=>jW hL k h
 | _,.st _ k,h=>jW hL k h
 | _,.call _ _ _ _ _ k,h=>jW hL k h
 | _,.lp _ _ _ _ _ _ k,h=>jW hL k h
 | _,.jn _ _ _ _ _ _ _ k,h=>jW hL k h
 | _,.sk k,h=>jW hL k h
 | _,.cb _ _ _ k,h=>jW hL k h
 | _,.kl _ k,h=>jW hL k h
 | _,.er k,h=>jW hL k h
def need(Q:Prop)(k:TS→Prop):TS→Prop
 |⟨.ob _ r⟩=>Q∧k ⟨r⟩
 | _=>False
def agN(k:Fast→WH→TS→Prop){R:Type}:{f:Option R}→Tc f→Fast→WH→Prop
 | _,.bd kk,l,H=>∃x,∃q,agN k (kk x q) l H
 | _,.gd kk,l,H=>∃q,agN k (kk q) l H
 | _,.ite x y,l,H=>(∀h,agN k (x h) l H)∧(∀h,agN k (y h) l H)
 | _,.rv t u _ r,l,H=>look l t=u∧agN k r ((t,u)::l) H
 | _,.rb b c _ r,l,H=>match fC H b with
  | some (.cells c0 ro sl)=>c0=c∧agN k r l (jN H b (some (.cells c ro sl)))
  | _=>False
 | _,t,l,H=>k l H ⟨t⟩
def auO:TS→TS
 |⟨.kl _ r⟩=>⟨r⟩
 | tr=>tr
def aiw(H:WH):List Nat→WH
 | []=>H
 | b::r=>aiw (jN H b none) r
def wkl:TS→WH→WH
 |⟨.kl bs _⟩,H=>aiw H bs
 | _,H=>H
def aBZ(tr:TS):Bool:=match auO tr with
 |⟨.jn ..⟩=>true
 | _=>false
def isD(d:Option Nat)(k:Nat):Bool:=match d with
 | some d=>Nat.beq d k
 | none=>false
def ovr(d:Option Nat)(x:Option AV)(tr:TS)(k:AV→TS→Prop):Prop :=
 match tr with
 |⟨.v d' u r⟩=>match isD d d' with
  | true=>need (x=some u) (k u) ⟨r⟩
  | false=>match x with
   | some v=>k v tr
   | none=>False
 |⟨.z d' t r⟩=>match isD d d' with
  | true=>match x with
   | some v=>k (retag v (t.headD .undef)) ⟨r⟩
   | none=>False
  | false=>match x with
   | some v=>k v tr
   | none=>False
 | _=>match x with
  | some v=>k v tr
  | none=>False
def an3(d:Option Nat)(n:Nat)(cs:List AV)(tr:TS)(k:Nat→List AV→TS→Prop):Prop :=
 match tr with
 |⟨.ap d' n' cs' r⟩=>match isD d d' with
  | true=>need (n=n') (need (cs=cs') (k n' cs')) ⟨r⟩
  | false=>k n cs tr
 | _=>k n cs tr
def wMk(l c:AV)(n bytes:Nat):Prop:=l=.int .i64 n∧c=.int .i64 n∧n≤4611686018427387904∧bytes*n≤281474976710656
def wK(d:Option Nat)(o:PL)(tr:TS)(k:pJ→(Nat→AV)→TS→Prop):Prop :=
 match o with
 |.alloc zero=>match tr with
  |⟨.z d' t r⟩=>match isD d d' with
   | true=>k (.cells (wD zero t) false false) (λb=>.ptr (some (b,0))) ⟨r⟩
   | false=>k (.cells zero false false) (λb=>.ptr (some (b,0))) tr
  | _=>k (.cells zero false false) (λb=>.ptr (some (b,0))) tr
 |.box x=>match (x.ev []).cells? with
  | some cs=>k (.cells cs false false) (λb=>.ptr (some (b,0))) tr
  | none=>False
 |.buildSlice sz len zero parts=>match wS (l5 len zero) (parts.map λp=>(p.1*sz,sz,p.2.ev []))with
  | some cs=>match Nat.beq zero.length sz with
   | true=>k (.cells cs false false) (λb=>.acc b 0 sz len true) tr
   | false=>False
  | none=>False
 |.makeSlice sz bytes zero l c=>match tr with
  |⟨.ap d' n cs r⟩=>match isD d d' with
   | true=>match Nat.beq zero.length sz,zero.all AV.flat with
    | true,true=>need (wMk (l.ev []) (c.ev []) n bytes) (need (l5 n zero=cs) (k (.cells cs false true) (λb=>.acc b 0 sz n true))) ⟨r⟩
    | _,_=>False
   | false=>False
  | _=>False
 |.t_ x=>match x.ev []with
  |.str s=>need (s.length≤70368744177664) (k (.cells (s.map λb=>.int .u8 b.toNat) false true) (λb=>.acc b 0 1 s.length true)) tr
  | _=>False
 |.makeMap=>False
structure VI where
 to:Nat→Option Nat
 Yu:Nat→Bool
 gone:Nat→Bool
 dim:Nat→Option (Nat×Nat)
instance:CoeFun VI (λ_=>Nat→Option Nat):=⟨VI.to⟩
def VI.none:VI:=⟨λ_=>Option.none,λ_=>false,λ_=>false,λ_=>Option.none⟩
mutual
def VL(M:Heap)(O:Nat→Prop):VI→AV→AV→Prop
 | _,.undef,_=>True
 | _,.bool b,a=>a=.bool b
 | _,.int k n,a=>a=.int k n
 | _,.str s,a=>a=.str s
 | _,.ptr none,a=>a=.ptr none
 | κ,.ptr (some q),a=>∃j,κ q.1=some j∧a=.ptr (some (j,q.2))
 | _,.slice none _ len cap ex,a=>(len=0∧cap=0∧ex=true)∧∃s',a=.slice none s' 0 0 true
 | _,.slice (some _) _ _ _ _,_=>False
 | _,.map none,a=>a=.map none
 | κ,.map (some r),a=>∃j,κ r=some j∧a=.map (some j)
 | κ,.func f cs,a=>∃cs',a=.func f cs'∧dW M O κ cs cs'
 | _,.nilFunc,a=>a=.nilFunc
 | κ,.agg cs,a=>∃cs',a=.agg cs'∧dW M O κ cs cs'
 | κ,.tuple cs,a=>∃cs',a=.tuple cs'∧dW M O κ cs cs'
 | _,.list sz len cs ex,a=>(len=0∧cs=[]∧∃s',a=.slice none s' 0 0 true)∨∃b o cap ex',a=.slice (some (b,o)) sz len cap ex'∧len≤cap∧(ex=true→ex'=true∧cap=len)∧cs.length=len*sz ∧
   (len≠0→∃c ro sl,M.get b=some (.cells c ro sl)∧¬O b∧b<M.next∧o+len*sz≤c.length∧dW M O VI.none cs ((c.drop o).take (len*sz)))
 | _,.elem cs,a=>∃b o c ro sl,a=.ptr (some (b,o))∧M.get b=some (.cells c ro sl)∧¬O b∧b<M.next∧dW M O VI.none cs ((c.drop o).take cs.length)
 | κ,.acc b o sz n w,a=>∃p s' cap ex,a=.slice p s' n cap ex∧n≤cap∧(p=none→cap=0∧ex=true)∧(p≠none→s'=sz)∧∃m L,κ.dim b=some (m,L)∧o+n*sz≤m∧(w=true→o=0∧n*sz=m) ∧
   ((∃j,κ b=some j∧((p=some (j,o)∧o+cap*sz≤L)∨(n=0∧cap=0∧ex=true)))∨(κ.Yu b=true∧n=0∧cap=0∧ex=true∧m=0))
def dW(M:Heap)(O:Nat→Prop):VI→List AV→List AV→Prop
 | _,[],[]=>True
 | κ,a::l,v::r=>VL M O κ a v∧dW M O κ l r
 | _,_,_=>False
end
def own(ι:VI):Nat→Prop:=λj=>∃i,ι i=some j∧ι.gone i=false
def OR(R:Nat→Prop)(ι:VI):Nat→Prop:=λj=>own ι j∨R j
def Heap.Ok(M:Heap):Prop:=∀b,M.next≤b→M.get b=none
def BL(M:Heap)(O:Nat→Prop)(κ:VI)(d:Option (Nat×Nat)):pJ→Option pJ→Prop
 |.cells c ro sl,x=>∃c' t ro' sl' L,x=some (.cells (c'++t) ro' sl')∧(ro=false→ro'=false)∧d=some (c.length,L)∧L≤(c'++t).length∧dW M O (if sl then VI.none else κ) c c'∧(sl=false→sl'=false)
 |.map _,_=>False
def pJ.ro:pJ→Bool
 |.cells _ ro _=>ro
 |.map _=>false
def act(ι:VI)(H:WH)(i:Nat):Prop:=(∃x,fC H i=some x)∨ι.gone i=false
structure VS(R:Nat→Prop)(ι:VI)(H:WH)(M:Heap):Prop where
 lt:∀i j,ι i=some j→i<H.length∧j<M.next
 inj:∀i i' j,act ι H i→act ι H i'→ι i=some j→ι i'=some j→ι.gone i=false∨ι.gone i'=false→i=i'
 blk:∀i x,fC H i=some x→(ι.Yu i=true∧ι.dim i=some (0,0)∧∃ro,x=.cells [] ro true)∨∃j,ι i=some j∧BL M (OR R ι) ι (ι.dim i) x (M.get j)∧(x.ro=false→ι.gone i=false)
 Fz:∀i,ι.Yu i=true→i<H.length∧ι i=none
 E8:∀i,ι.gone i=true→∀c sl,fC H i≠some (.cells c false sl)
 okM:M.Ok
 res:∀j,R j→j<M.next∧∀i,act ι H i→ι i≠some j
structure Keeps(M:Heap)(O:Nat→Prop)(M':Heap)(O':Nat→Prop):Prop where
 next:M.next≤M'.next
 get:∀b,b<M.next→¬O b→M'.get b=M.get b∧¬O' b
def VI.Le(κ A8:VI)(S:Nat→Prop):Prop:=∀i,S i→(∀j,κ i=some j→A8 i=some j∧∀d,κ.dim i=some d→A8.dim i=some d)∧(κ.Yu i=true→A8.Yu i=true∧∀d,κ.dim i=some d→A8.dim i=some d)
structure Stp(n:Nat)(t:List Nat)(ι:VI)(H:WH)(M:Heap)(dK:VI)(H':WH)(M':Heap):Prop where
 keep:Keeps M (own ι) M' (own dK)
 le:VI.Le ι dK (λi=>i<n)
 gone:∀i,i<n→ι.gone i=true→dK.gone i=true
 toq:∀i,i<n→dK i=ι i
 akT:∀i,i<n→dK.dim i=ι.dim i
 afq:∀i,i<n→fC H i=none→dK.gone i=ι.gone i
 live:∀i,i<n→(∃x,fC H' i=some x)→∃x,fC H i=some x
 tch:∀i j,i<n→act dK H' i→ι i=some j→i∉t→M'.get j=M.get j
 next:n≤H'.length
def Spec(C:dO)(f:FuncId)(args:List AV)(blks:WH)(v:AV)(out:WH):Prop :=
 ∀R ι M as,VS R ι blks M→dW M (OR R ι) ι args as→∃a M' dK,C f as M=some (a,M')∧VS R dK out M'∧Stp blks.length (List.range blks.length) ι blks M dK out M'∧VL M' (OR R dK) dK v a
def akU(run:Fast→Heap→aaz)(np:Nat)(ins:Fast)(blks:WH)(ex:Ex)(outs:Fast)(out:WH):Prop :=
 ∀R ι M lA,VS R ι blks M→(∀t,VL M (OR R ι) ι (look ins t) (look lA t))→∃Bn M' dK,run lA M=some (ex,Bn,M')∧VS R dK out M'∧Stp np (List.range np) ι blks M dK out M'∧∀t,VL M' (OR R dK) dK (look outs t) (look Bn t)
inductive Bt where
 | clone (sz bytes:Nat)
 | clip (sz:Nat)
 | grow (sz bytes:Nat)
 | ins (sz bytes:Nat)
 | del (sz:Nat)
def wBt(b:Bt)(d:Option Nat)(args:List AV)(H:WH)(tr:TS)(k:AV→WH→List Nat→TS→Prop):Prop :=
 match b with
 |.clone sz bytes=>match args with
  | [v]=>match v with
   |.str _=>False
   | v=>match Qt v sz H with
    | some (n,cs,S)=>an3 d n cs tr λn cs tr=>need (dR bytes n=true) (k (.acc H.length 0 sz n true) (NZ H S++[some (.cells cs false true)]) []) tr
    | none=>False
  | _=>False
 |.grow sz bytes=>match args with
  | [.slice none _ 0 0 true,.int .i64 n]=>need (0≤n∧n≤70368744177664∧bytes*n.toNat≤281474976710656∧n.toNat*bytes≤70368744177664) (k (.acc H.length 0 sz 0 true) (H++[some (.cells [] false true)]) []) tr
  | _=>False
 |.clip sz=>match args with
  | [.slice none z 0 0 true]=>k (.slice none sz 0 0 true) H [] tr
  | [.list sz' n cs _]=>match Nat.beq sz' sz with
   | true=>k (.list sz n cs true) H [] tr
   | false=>False
  | [.acc b o sz' n w]=>match Nat.beq sz' sz with
   | true=>k (.acc b o sz n w) H [] tr
   | false=>False
  | _=>False
 |.ins sz bytes=>match args with
  | [.acc b o sz1 n w,.int .i64 i,.acc b2 o2 sz2 m w2]=>match Nat.beq b b2 with
   | true=>False
   | false=>match fC H b2 with
    | some (.cells _ false false)=>match Qt (.acc b2 o2 sz2 m w2) sz H with
     | some (m,new,[])=>match Nat.beq m 1 with
      | true=>match ab7 (.acc b o sz1 n w) sz H with
       | some (len,old,H',t)=>need (0≤i∧i≤(len:Int)) (λtr=>an3 d (len+1) (old.take (i.toNat*sz)++(new++old.drop (i.toNat*sz))) tr λN cs tr=>need (dR bytes N=true) (k (.acc H'.length 0 sz N true) (H'++[some (.cells cs false true)]) t) tr) tr
       | none=>False
      | false=>False
     | _=>False
    | _=>False
  | _=>False
 |.del sz=>match args with
  | [.acc b 0 sz1 n true,.int .i64 i,.int .i64 j]=>match Nat.beq sz1 sz with
   | true=>match fC H b with
    | some (.cells c false true)=>need (0≤i∧i<j∧j≤(n:Int)) (λtr=>an3 d (n-(j.toNat-i.toNat)) (c.take (i.toNat*sz)++c.drop (j.toNat*sz)) tr λN cs tr=>k (.acc H.length 0 sz N true) (jN H b none++[some (.cells cs false true)]) [b] tr) tr
    | _=>False
   | false=>False
  | _=>False
def mW:List Nat→List AV→Fast
 | t::r,v::s=>(t,v)::mW r s
 | _,_=>[]
def ab8(np:Nat)(ms bs:List (Option Bool))(ts:List AV)(vs:List AV)(H:WH)(k:List AV→WH→Prop):Prop :=
 match Wp ms (wD vs ts) H with
 |(vs,H)=>match ZW bs none (Yt H np (tF vs)) H with
  | H=>match Yt H np (tF vs)with
   | p=>k (rnL (Fy p) vs) (CG H p p)
mutual
def xP:AV→Bool
 |.bool _ |.int .. |.str _ |.ptr none |.nilFunc=>true
 |.slice none _ 0 0 true=>true
 |.tuple cs=>aix cs
 |.agg cs=>aix cs
 | _=>false
def aix:List AV→Bool
 | []=>true
 | v::r=>match xP v with
  | true=>aix r
  | false=>false
end
def ap6(C:dO)(g:FuncId)(args:List AV)(H:WH)(tr:TS)(k:AV→WH→List Nat→TS→Prop):Prop :=
 match tr with
 |⟨.call ms m ts v out r⟩=>match Wp ms (wD args ts) H with
  |(vs,H)=>match ZW [] m (Yt H 0 (tF vs)) H with
   | H=>match Yt H 0 (tF vs)with
    | p=>match Nat.ble p.length out.length with
     | true=>need (Spec C g (rnL (Fy p) vs) (CG H p p) v out) (k (rn (back p H.length) v) (Wo H p out) p) ⟨r⟩
     | false=>False
 |⟨.cb ms ts v r⟩=>match Wp ms (wD args ts) H with
  |(vs,H1)=>match Yt H1 0 (tF vs),xP v with
   | [],true=>need (Spec C g (rnL (Fy []) vs) [] v []) (k v H []) ⟨r⟩
   | _,_=>False
 | _=>False
def wN(C:dO)(B:FuncId→Option Bt)(d:Option Nat)(o:JY)(H:WH)(tr:TS)(k:AV→WH→List Nat→TS→Prop):Prop :=
 match o with
 |.store n a v=>match a.ev [],(v.ev []).cells? with
  |.ptr (some (b,off)),some cs=>match Nat.beq cs.length n with
   | true=>match tr with
    |⟨.st x r⟩=>match fC H b with
     | some (.cells c false sl)=>match sl with
      | false=>match x with
       | none=>match Wq c off cs with
        | some c'=>k (.tuple []) (jN H b (some (.cells c' false false))) [b] ⟨r⟩
        | none=>False
       | some c'=>need (Wq c off cs=some c') (k (.tuple []) (jN H b (some (.cells c' false false))) [b]) ⟨r⟩
      | true=>match NY (frz H 5 true) cs with
       | some p=>match yY p.2 b with
        | true=>False
        | false=>match x with
         | none=>match Wq c off p.1 with
          | some c'=>k (.tuple []) (jN (NZ H p.2) b (some (.cells c' false true))) [b] ⟨r⟩
          | none=>False
         | some c'=>need (Wq c off p.1=some c') (k (.tuple []) (jN (NZ H p.2) b (some (.cells c' false true))) [b]) ⟨r⟩
       | none=>False
     | _=>False
    | _=>False
   | false=>False
  | _,_=>False
 |.call f args=>match f.ev []with
  |.func g caps=>match B g with
   | some bt=>wBt bt d (args.map (AX.ev [])++caps) H tr k
   | none=>ap6 C g (args.map (AX.ev [])++caps) H tr k
  | _=>False
 |.append sz bytes s x=>match Qt (x.ev []) sz H with
  | some (m,new,S)=>match ab7 (s.ev []) sz (NZ H S)with
   | some (len,old,H',t)=>an3 d (len+m) (old++new) tr λn cs tr=>need (dR bytes n=true) (k (.acc H'.length 0 sz n true) (H'++[some (.cells cs false true)]) t) tr
   | none=>False
  | none=>False
 |.AZ x=>match x.ev []with
  |.acc b 0 sz (n+1) true=>match fC H b with
   | some (.cells c false sl)=>match sl||c.all AV.flat with
    | true=>k (.acc b 0 sz (n+1) true) (jN H b (some (.cells c false true))) [b] tr
    | false=>False
   | _=>False
  | _=>False
 | _=>False
def wIf(c want:Bool)(y n:Prop):Prop :=
 match c,want with
 | true,true=>y
 | false,false=>y
 | _,_=>n
def wGd(g:Option (Nat×Bool))(l:Fast)(tr:TS)(yes no:Fast→TS→Prop):Prop :=
 match g with
 | none=>yes l tr
 | some (t,want)=>match look l t with
  |.bool c=>match tr with
   |⟨.br (b:=b) t' x y⟩=>match Nat.beq t t' with
    | true=>c=b∧((∀h,wIf true want (yes ((t,.bool true)::l) ⟨x h⟩) (no ((t,.bool true)::l) ⟨x h⟩))∧(∀h,wIf false want (yes ((t,.bool false)::l) ⟨y h⟩) (no ((t,.bool false)::l) ⟨y h⟩)))
    | false=>wIf c want (yes l tr) (no l tr)
   | _=>wIf c want (yes l tr) (no l tr)
  |.tuple _=>no l tr
  | _=>False
def Ud(l:Fast)(H:WH)(tr:TS)(k:Fast→WH→TS→Prop):Prop:=agN k tr.tr l H
def aiy(C:dO)(B:FuncId→Option Bt)(n:Nat):List zM→Fast→WH→TS→(Fast→WH→TS→Prop)→Prop
 | [],l,H,tr,k=>k l H tr
 | o::r,l,H,tr,k=>Ud l H tr λl H tr=>wGd o.guard l tr
  (λl tr=>Ud l H tr λl H tr=>match o.op with
   |.p op=>ovr o.dst (wP (op.sub (look l))) tr λv tr=>aiy C B n r (rA n o.dst v l) H tr k
   |.l op=>ovr o.dst (wL (op.sub (look l)) H) tr λv tr=>aiy C B n r (rA n o.dst v l) H tr k
   |.k op=>wK o.dst (op.sub (look l)) tr λx mk tr=>aiy C B n r (rA n o.dst (mk H.length) l) (H++[some x]) tr k
   |.n op=>wN C B o.dst (op.sub (look l)) H tr λv H _ tr=>aiy C B n r (rA n o.dst v l) H tr k)
  (λl tr=>aiy C B n r (rA n o.dst (.tuple []) l) H tr k)
def uU:List (Nat×Nat)→Nat→Nat
 | [],_=>0
 | p::r,t=>match Nat.beq p.1 t with
  | true=>p.2
  | false=>uU r t
def uh(bt:List (Nat×Nat)):AX→Nat
 |.t t=>uU bt t
 |.c _=>0
def agO(bt:List (Nat×Nat)):Option AX→Nat
 | none=>0
 | some x=>uh bt x
def aiz(bt:List (Nat×Nat))(k:Nat):pK→Nat
 |.move x=>uh bt x
 |.slice _ x a b c=>max (uh bt x) (max (agO bt a) (max (agO bt b) (agO bt c)))
 |.kU _ x i=>max (uh bt x) (uh bt i)
 |.zU _ _ x i=>max (uh bt x) (uh bt i)
 |.fieldAddr _ x=>uh bt x
 |.nilCheck x=>uh bt x
 |.bin _ x y=>max (uh bt x) (uh bt y)
 |.un _ x=>uh bt x
 |.OQ _ x=>uh bt x
 |.field _ _ _ x=>uh bt x
 |.index _ _ _ x i=>max (uh bt x) (uh bt i)
 |.extract x _=>uh bt x
 |.len _ x=>uh bt x
 | _=>k
def sF(n:Nat)(d:Option Nat)(k:Nat)(bt:List (Nat×Nat)):List (Nat×Nat) :=
 match d with
 | some d=>match Nat.blt d n with
  | true=>(d,k)::bt
  | false=>bt
 | none=>bt
mutual
def known:AV→Bool
 |.undef=>false
 |.func _ cs=>Yv cs
 |.agg cs=>Yv cs
 |.tuple cs=>Yv cs
 | _=>true
def Yv:List AV→Bool
 | []=>true
 | v::r=>match known v with
  | true=>Yv r
  | false=>false
end
def aiA(l:Fast):Ew→Option (Option Nat)
 |.load _ _ (.t t)=>match look l t with
  |.elem _=>some none
  |.ptr (some q)=>some (some q.1)
  | _=>none
 |.oh (.t t)=>match look l t with
  |.list ..=>some none
  |.slice none _ _ _ _=>some none
  |.acc b _ _ _ _=>some (some b)
  | _=>none
 | _=>none
def Qu(bt:List (Nat×Nat)):Ew→Nat
 |.load _ _ x=>uh bt x
 |.oh x=>uh bt x
 | _=>0
def La(H:WH)(base:Nat):List Nat→Bool
 | []=>true
 | m::r=>match fC H (base+m)with
  | some (.cells _ false _)=>La H base r
  | _=>false
def touches(b:Nat):List (List Nat×WH)→Bool
 | []=>false
 | t::r=>match yY t.1 b with
  | true=>true
  | false=>touches b r
def Qv(hs:List (List Nat×WH))(lo base:Nat)(al:List Nat):Bool:=match hs.drop lo with
 |(_,Hk)::_=>La Hk base al
 | []=>false
def ab9(base:Nat)(al:List Nat)(l:Fast)(bt:List (Nat×Nat))(lo:Nat)(o:Ew)(v:AV)(H:WH)(hs:List (List Nat×WH)):Bool :=
 match aiA l o with
 | some none=>match Nat.ble (Qu bt o) (lo+1),known v,La H base al||Qv hs lo base al with
  | true,true,true=>true
  | true,true,false=>Nat.beq (Qu bt o) 0
  | _,_,_=>false
 | some (some b)=>match known v,Nat.blt b base,touches b (hs.drop lo)with
  | true,true,false=>true
  | _,_,_=>false
 | none=>false
def Qw(base:Nat)(l:Fast)(bt:List (Nat×Nat))(lo:Nat)(o:Ew)(v:AV):Bool :=
 match o with
 |.load _ _ (.t t)=>match look l t,v with
  |.ptr (some (b,_)),.int _ _=>Nat.blt b base&&Nat.ble (uU bt t) (lo+1)
  |.ptr (some (b,_)),.str _=>Nat.blt b base&&Nat.ble (uU bt t) (lo+1)
  |.ptr (some (b,_)),.bool _=>Nat.blt b base&&Nat.ble (uU bt t) (lo+1)
  | _,_=>false
 | _=>false
def Ws(o:Ew)(x:Option AV)(k:TS→Prop):List (List Nat×WH)→TS→Prop
 | [],tr=>k tr
 | h::r,tr=>need (wL o h.2=x) (Ws o x k r) tr
def ap7(l:Fast):Ew→Option Nat
 |.load _ _ (.t t)=>match look l t with
  |.ptr (some q)=>some q.1
  | _=>none
 | _=>none
def Mq(C:dO)(B:FuncId→Option Bt)(n base nk:Nat):List iw→Fast→WH→TS→List (List Nat×WH)→List (Nat×Nat)→List Nat→(Fast→WH→TS→Prop)→Prop
 | [],l,H,tr,_,_,_,k=>k l H tr
 | d::r,l,H,tr,hs,bt,al,k=>Ud l H tr λl H tr=>wGd d.o.guard l tr
  (λl tr=>Ud l H tr λl H tr=>match d.o.op with
   |.p op=>ovr d.o.dst (wP (op.sub (look l))) tr λv tr=>Mq C B n base nk r (rA n d.o.dst v l) H tr hs (sF n d.o.dst (aiz bt (hs.length+1) op) bt) al k
   |.l op=>ovr d.o.dst (wL (op.sub (look l)) H) tr λv tr=>match ab9 base al l bt d.lo op v H hs with
    | true=>match tr with
     |⟨.er t⟩=>match ap7 l op,Nat.ble (Qu bt op) (d.lo+1)with
      | some _,true=>Ws (op.sub (look l)) (wL (op.sub (look l)) H) (λtr=>Mq C B n base nk r (rA n d.o.dst v l) H tr hs (sF n d.o.dst (d.lo+1) bt) al k) (hs.drop d.lo) ⟨t⟩
      | _,_=>False
     | _=>Mq C B n base nk r (rA n d.o.dst v l) H tr hs (sF n d.o.dst (hs.length+1) bt) al k
    | false=>match Qw base l bt d.lo op v with
     | true=>Ws (op.sub (look l)) (wL (op.sub (look l)) H) (λtr=>Mq C B n base nk r (rA n d.o.dst v l) H tr hs (sF n d.o.dst (hs.length+1) bt) al k) (hs.drop d.lo) tr
     | false=>False
   |.k op=>match Nat.blt d.ix nk,yY al d.ix with
    | true,false=>wK d.o.dst (op.sub (look l)) tr λx mk tr=>Mq C B n base nk r (rA n d.o.dst (mk (base+d.ix)) l) (jN H (base+d.ix) (some x)) tr hs (sF n d.o.dst (hs.length+1) bt) (d.ix::al) k
    | _,_=>False
   |.n op=>wN C B d.o.dst (op.sub (look l)) H tr λv H' t tr=>Mq C B n base nk r (rA n d.o.dst v l) H' tr (hs++[(t,H)]) (sF n d.o.dst (hs.length+2) bt) al k)
  (λl tr=>match d.o.op with
   |.n _=>Mq C B n base nk r (rA n d.o.dst (.tuple []) l) H tr (hs++[([],H)]) (sF n d.o.dst (hs.length+2) bt) al k
   | _=>Mq C B n base nk r (rA n d.o.dst (.tuple []) l) H tr hs (sF n d.o.dst (hs.length+1) bt) al k)
def holes:Nat→WH
 | 0=>[]
 | k+1=>none::holes k
def G5(C:dO)(B:FuncId→Option Bt)(K n np:Nat):cO→Fast→WH→TS→(Ex→Fast→WH→TS→Prop)→Prop
 |.skip,l,H,tr,k=>k .normal l H tr
 |.reg ops,l,H,tr,k=>aiy C B n ops l H tr (k .normal)
 |.aaw nk ops,l,H,tr,k=>Mq C B n H.length nk ops l (H++holes nk) tr [] [] [] (k .normal)
 |.seq a b,l,H,tr,k=>Ud l H tr λl H tr=>match aBZ tr with
  | true=>match auO tr with
   |⟨.jn keep ms bs ts ex outs out r⟩=>ab8 np ms bs ts (keep.map (look l)) (wkl tr H) λvs blks=>need (akU (bF C K n a) np (mW keep vs) blks ex outs out) (λr =>
    match ex with
    |.normal=>G5 C B K n np b outs out r k
    | ex=>k ex outs out r) ⟨r⟩
   | _=>False
  | false=>G5 C B K n np a l H (match tr with
   |⟨.sk r⟩=>⟨r⟩
   | tr=>tr) λex l H tr=>match ex with
   |.normal=>G5 C B K n np b l H tr k
   | ex=>k ex l H tr
 | .cond c a b,l,H,tr,k=>Ud l H tr λl H tr=>wGd (match c with
   |.t t=>some (t,true)
   |.c _=>none) l tr
  (λl tr=>match c with
   |.t _=>G5 C B K n np a l H tr k
   |.c (.bool true)=>G5 C B K n np a l H tr k
   |.c (.bool false)=>G5 C B K n np b l H tr k
   | _=>False)
  (λl tr=>match look l (match c with
   |.t t=>t
   |.c _=>0)with
   |.bool _=>G5 C B K n np b l H tr k
   | _=>False)
 |.block id c,l,H,tr,k=>G5 C B K n np c l H tr λex l H tr=>match ex with
  |.exit i=>match Nat.beq i id with
   | true=>k .normal l H tr
   | false=>k (.exit i) l H tr
  | ex=>k ex l H tr
 |.loop keep c,l,H,tr,k=>Ud l H tr λl H tr=>match auO tr with
  |⟨.lp ms bs ts ex outs out r⟩=>ab8 np ms bs ts (keep.map (look l)) (wkl tr H) λvs blks=>need (akU (fQ (bF C K n c) keep K) np (mW keep vs) blks ex outs out) (k ex outs out) ⟨r⟩
  | _=>False
 |.exit id,l,H,tr,k=>k (.exit id) l H tr
 |.ret,l,H,tr,k=>k .ret l H tr
 |.fail,_,_,_,_=>False
def auP(r:Mf)(l:Fast)(H:WH):Option AV :=
 match r with
 |.tmp t=>match look l t with
  |.undef=>none
  | v=>some v
 |.cell t agg n=>wL (.load agg n (.c (look l t))) H
def aiB:List Mf→Fast→WH→Option (List AV)
 | [],_,_=>some []
 | r::rs,l,H=>match auP r l H,aiB rs l H with
  | some v,some vs=>some (v::vs)
  | _,_=>none
def Wt(rs:List Mf)(l:Fast)(H:WH):Option AV:=match aiB rs l H with
 | some [v]=>some v
 | some vs=>some (.tuple vs)
 | none=>none
def aAx(tr:TS):Option Lf:=match auO tr with
 |⟨.leaf x _⟩=>some x
 |⟨.zN x _ _ _⟩=>some x
 | _=>none
def auQ(np:Nat)(v:AV)(H:WH)(tr:TS)(v':AV)(out:WH):Prop :=
 match aAx tr with
 | some (.fin m ts mc)=>match nrm m (retag v (ts.headD .undef)) (wkl tr H)with
  |(v,H)=>match ZW [] mc (Yt H np (Fx v)) H with
   | H=>match Yt H np (Fx v)with
    | p=>rn (Fy p) v=v'∧CG H p p=out
 | _=>False
def ayG(C:dO)(B:FuncId→Option Bt)(K:Nat)(f:bY)(args:List AV)(blks:WH)(tr:TS)(v:AV)(out:WH):Prop :=
 G5 C B K f.ntmps blks.length f.code (start 0 (args++List.replicate (f.ntmps-f.nargs) (.tuple []))) blks tr λex l H tr=>Ud l H tr λl H tr=>match ex with
  |.exit _=>False
  | _=>match Wt f.results l H with
   | some u=>auQ blks.length u H tr v out
   | none=>False
def ayH(np:Nat)(e:Ex)(l:Fast)(H:WH)(tr:TS)(x:Ex×Fast×WH):Prop :=
 Ud l H tr λl H tr=>match aAx tr with
 | some (.en keep ms bs ts)=>ab8 np ms bs ts (keep.map (look l)) (wkl tr H) λvs blks=>e=x.1∧mW keep vs=x.2.1∧blks=x.2.2
 | _=>False
def ayI(C:dO)(B:FuncId→Option Bt)(K n np:Nat)(c:cO)(ins:Fast)(blks:WH)(tr:TS)(x:Ex×Fast×WH):Prop :=
 G5 C B K n np c ins blks tr λe l H tr=>ayH np e l H tr x
theorem qL{Q:Prop}{k:TS→Prop}{tr:TS}(h:need Q k tr):∃nN,Q∧k nN:=by
 unfold need at h
 split at h
 ·exact⟨_,h⟩
 ·exact h.elim
theorem VI.Le.refl(κ:VI)(S:Nat→Prop):VI.Le κ κ S:=λ_ _=>⟨λ_ h=>⟨h,λ_ h=>h⟩,λh=>⟨h,λ_ h=>h⟩⟩
theorem VI.Le.ana(κ:VI)(S:Nat→Prop):VI.Le VI.none κ S:=λ_ _=>⟨(λ_ h=>by cases h),(λh=>by cases h)⟩
theorem VI.Le.sub{κ A8:VI}{S T:Nat→Prop}(h:VI.Le κ A8 S)(k:∀i,T i→S i):VI.Le κ A8 T:=λi hi=>h i (k i hi)
theorem VI.Le.trans{κ κ1 κ2:VI}{S:Nat→Prop}(h:VI.Le κ κ1 S)(k:VI.Le κ1 κ2 S):VI.Le κ κ2 S:=λi hi =>
 ⟨λj hj=>⟨((k i hi).1 j ((h i hi).1 j hj).1).1,λd hd=>((k i hi).1 j ((h i hi).1 j hj).1).2 d (((h i hi).1 j hj).2 d hd)⟩,
  λhj=>⟨((k i hi).2 ((h i hi).2 hj).1).1,λd hd=>((k i hi).2 ((h i hi).2 hj).1).2 d (((h i hi).2 hj).2 d hd)⟩⟩
theorem Keeps.refl(M:Heap)(O:Nat→Prop):Keeps M O M O:=⟨Nat.le_refl _,λ_ _ h=>⟨rfl,h⟩⟩
theorem Keeps.trans{M M1 M2:Heap}{O O1 O2:Nat→Prop}(h:Keeps M O M1 O1)(k:Keeps M1 O1 M2 O2):Keeps M O M2 O2 :=
 ⟨Nat.le_trans h.next k.next,λb hb ho=>by
  obtain⟨e1,o1⟩:=h.get b hb ho
  obtain⟨e2,o2⟩:=k.get b (Nat.lt_of_lt_of_le hb h.next) o1
  exact⟨e2.trans e1,o2⟩⟩
theorem Keeps.or{M M':Heap}{ι dK:VI}(h:Keeps M (own ι) M' (own dK))(R:Nat→Prop):Keeps M (OR R ι) M' (OR R dK) :=
 ⟨h.next,λb hb ho=>by
  obtain⟨e1,e2⟩:=h.get b hb (λk=>ho (.inl k))
  exact⟨e1,λk=>k.elim e2 (λk=>ho (.inr k))⟩⟩
mutual
theorem VL.mono{M M':Heap}{O O':Nat→Prop}(hk:Keeps M O M' O'):∀(κ A8:VI) (v a:AV),VI.Le κ A8 (λi=>i∈Fx v)→VL M O κ v a→VL M' O' A8 v a
 | _,_,.undef,_,_,_=>by simp[VL]
 | _,_,.bool _,_,_,e=>by simpa[VL]using e
 | _,_,.int _ _,_,_,e=>by simpa[VL]using e
 | _,_,.str _,_,_,e=>by simpa[VL]using e
 | _,_,.ptr none,_,_,e=>by simpa[VL]using e
 | κ,A8,.ptr (some q),_,h,e=>by
  simp only[VL]at e ⊢
  obtain⟨j,h1,h2⟩:=e
  exact⟨j,((h _ (by simp[Fx])).1 _ h1).1,h2⟩
 | _,_,.slice none _ _ _ _,_,_,e=>by simpa[VL]using e
 | _,_,.slice (some _) _ _ _ _,_,_,e=>by simp[VL]at e
 | _,_,.map none,_,_,e=>by simpa[VL]using e
 | κ,A8,.map (some r),_,h,e=>by
  simp only[VL]at e ⊢
  obtain⟨j,h1,h2⟩:=e
  exact⟨j,((h _ (by simp[Fx])).1 _ h1).1,h2⟩
 | κ,A8,.func f cs,_,h,e=>by
  simp only[VL]at e ⊢
  obtain⟨cs',h1,h2⟩:=e
  exact⟨cs',h1,dW.mono hk κ A8 cs cs' (h.sub λi hi=>by simpa[Fx]using hi) h2⟩
 | _,_,.nilFunc,_,_,e=>by simpa[VL]using e
 | κ,A8,.agg cs,_,h,e=>by
  simp only[VL]at e ⊢
  obtain⟨cs',h1,h2⟩:=e
  exact⟨cs',h1,dW.mono hk κ A8 cs cs' (h.sub λi hi=>by simpa[Fx]using hi) h2⟩
 | κ,A8,.tuple cs,_,h,e=>by
  simp only[VL]at e ⊢
  obtain⟨cs',h1,h2⟩:=e
  exact⟨cs',h1,dW.mono hk κ A8 cs cs' (h.sub λi hi=>by simpa[Fx]using hi) h2⟩
 | _,_,.list sz len cs ex,_,_,e=>by
  simp only[VL]at e ⊢
  rcases e with e |⟨b,o,cap,ex',h1,h2,h3,h4,h5⟩
  ·exact .inl e
  refine .inr ⟨b,o,cap,ex',h1,h2,h3,h4,λhl=>?_⟩
  obtain⟨c,ro,sl,g1,g2,g3,g4,g5⟩:=h5 hl
  obtain⟨e1,e2⟩:=hk.get b g3 g2
  exact⟨c,ro,sl,e1.trans g1,e2,Nat.lt_of_lt_of_le g3 hk.next,g4,dW.mono hk _ _ cs _ (VI.Le.refl _ _) g5⟩
 | _,_,.elem cs,_,_,e=>by
  simp only[VL]at e ⊢
  obtain⟨b,o,c,ro,sl,h1,g1,g2,g3,g5⟩:=e
  obtain⟨e1,e2⟩:=hk.get b g3 g2
  exact⟨b,o,c,ro,sl,h1,e1.trans g1,e2,Nat.lt_of_lt_of_le g3 hk.next,dW.mono hk _ _ cs _ (VI.Le.refl _ _) g5⟩
 | κ,A8,.acc b o sz n w,_,h,e=>by
  simp only[VL]at e ⊢
  obtain⟨p,s',cap,ex,h1,h2,h3,h4,m,L,h5,h6,h7,h8⟩:=e
  have hl:=h b (by simp[Fx])
  rcases h8 with⟨j,k1,k2⟩ |⟨k1,k2⟩
  ·obtain⟨g1,g2⟩:=hl.1 j k1
   exact⟨p,s',cap,ex,h1,h2,h3,h4,m,L,g2 _ h5,h6,h7,.inl ⟨j,g1,k2⟩⟩
  ·obtain⟨g1,g2⟩:=hl.2 k1
   exact⟨p,s',cap,ex,h1,h2,h3,h4,m,L,g2 _ h5,h6,h7,.inr ⟨g1,k2⟩⟩
theorem dW.mono{M M':Heap}{O O':Nat→Prop}(hk:Keeps M O M' O'):∀(κ A8:VI) (l r:List AV),VI.Le κ A8 (λi=>i∈tF l)→dW M O κ l r→dW M' O' A8 l r
 | _,_,[],[],_,_=>by simp[dW]
 | κ,A8,a::l,v::r,h,e=>by
  simp only[dW]at e ⊢
  exact⟨VL.mono hk κ A8 a v (h.sub λi hi=>by simp[tF,hi]) e.1,dW.mono hk κ A8 l r (h.sub λi hi=>by simp[tF,hi]) e.2⟩
 | _,_,[],_::_,_,e=>by simp[dW]at e
 | _,_,_::_,[],_,e=>by simp[dW]at e
end
section
variable {M:Heap} {O:Nat→Prop} {κ:VI}
theorem dW.length:∀ {l r:List AV},dW M O κ l r→l.length=r.length
 | [],[],_=>rfl
 | _::l,_::r,e=>by
  simp only[dW]at e
  simp[dW.length e.2]
 | [],_::_,e=>by simp[dW]at e
 | _::_,[],e=>by simp[dW]at e
theorem dW.get:∀ {l r:List AV},dW M O κ l r→∀(i:Nat) (a:AV),l[i]?=some a→∃v,r[i]?=some v∧VL M O κ a v
 | [],_,_,i,a,h=>by simp at h
 | a::l,v::r,e,i,x,h=>by
  simp only[dW]at e
  cases i with
  | zero =>
   simp at h
   subst h
   exact⟨v,by simp,e.1⟩
  | succ i=>simpa using dW.get e.2 i x (by simpa using h)
 | _::_,[],e,_,_,_=>by simp[dW]at e
theorem dW.append:∀ {l l' r r':List AV},dW M O κ l r→dW M O κ l' r'→dW M O κ (l++l') (r++r')
 | [],_,[],_,_,h=>by simpa using h
 | a::l,_,v::r,_,e,h=>by
  simp only[dW,List.cons_append]at e ⊢
  exact⟨e.1,dW.append e.2 h⟩
 | [],_,_::_,_,e,_=>by simp[dW]at e
 | _::_,_,[],_,e,_=>by simp[dW]at e
theorem dW.drop:∀ {l r:List AV} (n:Nat),dW M O κ l r→dW M O κ (l.drop n) (r.drop n)
 | _,_,0,e=>by simpa using e
 | [],[],_+1,e=>by simpa using e
 | _::l,_::r,n+1,e=>by
  simp only[dW]at e
  simpa using dW.drop n e.2
 | [],_::_,_+1,e=>by simp[dW]at e
 | _::_,[],_+1,e=>by simp[dW]at e
theorem dW.take:∀ {l r:List AV} (n:Nat),dW M O κ l r→dW M O κ (l.take n) (r.take n)
 | _,_,0,e=>by simp[dW]
 | [],[],_+1,e=>by simp[dW]
 | _::l,_::r,n+1,e=>by
  simp only[dW]at e
  simp only[List.take_succ_cons,dW]
  exact⟨e.1,dW.take n e.2⟩
 | [],_::_,_+1,e=>by simp[dW]at e
 | _::_,[],_+1,e=>by simp[dW]at e
theorem dW.same{l r:List AV}(h:dW M O κ l r){n:Nat}(hn:n≤l.length):n≤r.length:=by rw[←h.length];exact hn
theorem VL.iI{v a:AV}(h:v.iI=true)(r:VL M O κ v a):a.iI=true:=by
 cases v with
 | undef=>simp[AV.iI]at h
 | agg _=>simp[AV.iI]at h
 | tuple _=>simp[AV.iI]at h
 | ptr p=>cases p<;>simp only[VL]at r<;>first |(subst r;rfl) |(obtain⟨_,_,rfl⟩:=r;rfl)
 | slice p=>cases p<;>simp only[VL]at r;obtain⟨_,_,rfl⟩:=r;rfl
 | map p=>cases p<;>simp only[VL]at r<;>first |(subst r;rfl) |(obtain⟨_,_,rfl⟩:=r;rfl)
 | func f cs=>simp only[VL]at r;obtain⟨_,rfl,_⟩:=r;rfl
 | list=>simp only[VL]at r;rcases r with⟨_,_,_,rfl⟩ |⟨_,_,_,_,rfl,_⟩<;>rfl
 | elem=>simp only[VL]at r;obtain⟨_,_,_,_,_,rfl,_⟩:=r;rfl
 | acc=>simp only[VL]at r;obtain⟨_,_,_,_,rfl,_⟩:=r;rfl
 | _=>simp only[VL]at r;subst r;rfl
theorem VL.cells{v a:AV}{cs:List AV}(h:v.cells?=some cs)(r:VL M O κ v a):∃cs',a.cells?=some cs'∧dW M O κ cs cs':=by
 cases v with
 | undef=>simp[AV.cells?]at h
 | tuple _=>simp[AV.cells?]at h
 | agg l =>
  simp only[AV.cells?]at h
  split at h
  case isFalse=>cases h
  rename_i hall
  obtain rfl:=av h
  simp only[VL]at r
  obtain⟨cs',rfl,hr⟩:=r
  refine⟨cs', ?_,hr⟩
  simp only[AV.cells?]
  rw[if_pos]
  rw[List.all_eq_true]
  intro x hx
  obtain⟨i,hi⟩:=List.mem_iff_getElem?.1 hx
  have hlt:i<l.length:=by rw[hr.length];exact(aY.1 hi).1
  obtain⟨y,hy,hyx⟩:=hr.get i _ (bQ hlt)
  rw[hi]at hy
  obtain rfl:=av hy
  exact hyx.iI (List.all_eq_true.1 hall _ (List.getElem_mem hlt))
 | _ =>
  all_goals
   simp only[AV.cells?,aC]at h
   subst h
   have hc:=VL.iI (by rfl) r
   refine⟨[a], ?_,by simp only[dW];exact⟨r,trivial⟩⟩
   cases a<;>simp_all [AV.cells?,AV.iI]
end
mutual
def CK:AV→Bool
 |.ptr (some _) |.slice (some _) _ _ _ _ |.map (some _) |.list .. |.elem _ |.acc ..=>false
 |.slice none _ l c e=>l==0&&c==0&&e
 |.func _ cs=>yZ cs
 |.agg cs=>yZ cs
 |.tuple cs=>yZ cs
 | _=>true
def yZ:List AV→Bool
 | []=>true
 | v::r=>CK v&&yZ r
end
mutual
theorem VL.const{M:Heap}{O:Nat→Prop}{κ:VI}:∀v:AV,CK v=true→VL M O κ v v
 |.undef,_=>by simp[VL]
 |.bool _,_=>by simp[VL]
 |.int _ _,_=>by simp[VL]
 |.str _,_=>by simp[VL]
 |.ptr none,_=>by simp[VL]
 |.ptr (some _),h=>by simp[CK]at h
 |.slice none s l c e,h=>by
  simp only[CK,Bool.and_eq_true,beq_iff_eq]at h
  simp only[VL]
  exact⟨⟨h.1.1,h.1.2,h.2⟩,s,by rw[h.1.1,h.1.2,h.2]⟩
 |.slice (some _) _ _ _ _,h=>by simp[CK]at h
 |.map none,_=>by simp[VL]
 |.map (some _),h=>by simp[CK]at h
 |.func f cs,h=>by simp only[VL];exact⟨cs,rfl,dW.const cs (by simpa[CK]using h)⟩
 |.nilFunc,_=>by simp[VL]
 |.agg cs,h=>by simp only[VL];exact⟨cs,rfl,dW.const cs (by simpa[CK]using h)⟩
 |.tuple cs,h=>by simp only[VL];exact⟨cs,rfl,dW.const cs (by simpa[CK]using h)⟩
 |.list ..,h=>by simp[CK]at h
 |.elem _,h=>by simp[CK]at h
 |.acc ..,h=>by simp[CK]at h
theorem dW.const{M:Heap}{O:Nat→Prop}{κ:VI}:∀l:List AV,yZ l=true→dW M O κ l l
 | [],_=>by simp[dW]
 | v::r,h=>by
  simp only[yZ,Bool.and_eq_true]at h
  simp only[dW]
  exact⟨VL.const v h.1,dW.const r h.2⟩
end
theorem dW.l5{M:Heap}{O:Nat→Prop}{κ:VI}{z:List AV}(h:yZ z=true):∀n,dW M O κ (l5 n z) (l5 n z)
 | 0=>by simp[Proofs.YtohoggieaanllaaGreat.l5,dW]
 | n+1=>(dW.const z h).append (dW.l5 h n)
def AX.bW:AX→Bool
 |.t _=>true
 |.c v=>CK v
def okO:Option AX→Bool
 | none=>true
 | some x=>x.bW
def pK.bW:pK→Bool
 |.move x=>x.bW
 |.pick c a b=>c.bW&&a.bW&&b.bW
 |.build z ps=>yZ z&&ps.all λp=>p.2.2.bW
 |.nilCheck x=>x.bW
 |.bin _ x y=>x.bW&&y.bW
 |.eqB _ x y=>x.bW&&y.bW
 |.eqS _ _ x y=>x.bW&&y.bW
 |.eqP _ x y=>x.bW&&y.bW
 |.eqN _ x y=>x.bW&&y.bW
 |.un _ x=>x.bW
 |.OQ _ x=>x.bW
 |.Ql x=>x.bW
 |.Gs _ cs=>cs.all AX.bW
 |.sj x a b=>x.bW&&okO a&&okO b
 |.slice _ x a b c=>x.bW&&okO a&&okO b&&okO c
 |.fieldAddr _ x=>x.bW
 |.field _ _ _ x=>x.bW
 |.zU _ _ x i=>x.bW&&i.bW
 |.kU _ x i=>x.bW&&i.bW
 |.index _ _ _ x i=>x.bW&&i.bW
 |.xK x i=>x.bW&&i.bW
 |.extract x _=>x.bW
 |.len _ x=>x.bW
 |.cap x=>x.bW
 |.Cv _ xs=>xs.all AX.bW
def Ew.bW:Ew→Bool
 |.load _ _ x=>x.bW
 |.oh x=>x.bW
 |.NP x=>x.bW
 |.lookup _ z x k=>CK z&&x.bW&&k.bW
def PL.bW:PL→Bool
 |.alloc z=>yZ z
 |.box x=>x.bW
 |.buildSlice _ _ z ps=>yZ z&&ps.all λp=>p.2.bW
 |.makeSlice _ _ z l c=>yZ z&&l.bW&&c.bW
 |.t_ x=>x.bW
 |.makeMap=>true
def JY.bW:JY→Bool
 |.store _ a v=>a.bW&&v.bW
 |.call f xs=>f.bW&&xs.all AX.bW
 |.append _ _ s x=>s.bW&&x.bW
 |.Cw _ _ z s n=>yZ z&&s.bW&&n.bW
 |.copy _ d s=>d.bW&&s.bW
 |.clear _ z x=>yZ z&&x.bW
 |.mapUpdate m k v=>m.bW&&k.bW&&v.bW
 |.Ir m k=>m.bW&&k.bW
 |.AZ x=>x.bW
 |.fail=>true
def Fw.bW:Fw→Bool
 |.p o=>o.bW
 |.l o=>o.bW
 |.k o=>o.bW
 |.n o=>o.bW
def cO.bW:cO→Bool
 |.reg ops=>ops.all λo=>o.op.bW
 |.aaw _ ops=>ops.all λd=>d.o.op.bW
 |.seq a b=>a.bW&&b.bW
 |.cond c a b=>c.bW&&a.bW&&b.bW
 |.block _ c=>c.bW
 |.loop _ c=>c.bW
 | _=>true
def AV.xP:AV→Bool
 |.bool _ |.int _ _ |.str _=>true
 | _=>false
section
variable {M:Heap} {O:Nat→Prop} {κ:VI}
theorem VL.xP{v:AV}(h:v.xP=true):VL M O κ v v:=by
 cases v<;>simp[AV.xP]at h<;>simp[VL]
theorem VL.eq{v a:AV}(h:v.xP=true)(r:VL M O κ v a):a=v:=by
 cases v<;>simp[AV.xP]at h<;>simpa[VL]using r
theorem akV{op:BinOp}{k:IntKind}{x y:Int}{v:AV}(h:Mg op k x y=some v):v.xP=true:=by
 cases op<;>simp only[Mg]at h
 all_goals first |(cases h;rfl) |(cases h;done) |(split at h<;>cases h<;>rfl)
theorem akW{op:BinOp}{x y:List UInt8}{v:AV}(h:ah2 op x y=some v):v.xP=true:=by
 cases op<;>simp only[ah2]at h
 all_goals first |(cases h;rfl) |(cases h;done) |(split at h<;>cases h<;>rfl)
theorem an4{op:BinOp}{x y v:AV}(h:Yh op x y=some v):v.xP=true∧x.xP=true∧y.xP=true:=by
 cases x<;>cases y<;>simp only[Yh]at h<;>first |(cases h;done) | skip
 ·refine⟨?_,rfl,rfl⟩
  split at h
  ·split at h<;>cases h<;>rfl
  ·split at h<;>cases h<;>rfl
  ·split at h
   ·exact akV h
   ·cases h
 ·exact⟨akW h,rfl,rfl⟩
theorem aiC{k:Kd}{x y x' y':AV}{b:Bool}(hx:VL M O κ x x')(hy:VL M O κ y y')(h:ah3 k x y=some b):ah3 k x' y'=some b:=by
 have hs:x.xP=true∧y.xP=true:=by
  cases k<;>cases x<;>simp only[ah3]at h<;>first |(cases h;done) |(cases y<;>simp only at h<;>first |(cases h;done) | exact⟨rfl,rfl⟩)
 rw[hx.eq hs.1,hy.eq hs.2]
 exact h
theorem afr:∀ {ks:List Kd} {l r l' r':List AV} {b:Bool},dW M O κ l l'→dW M O κ r r'→qc ks l r=some b→qc ks l' r'=some b
 | [],[],[],l',r',b,hl,hr,h=>by
  cases l' with
  | cons _ _=>simp[dW]at hl
  | nil=>cases r' with
   | cons _ _=>simp[dW]at hr
   | nil=>exact h
 | k::ks,a::l,c::r,l',r',b,hl,hr,h=>by
  cases l' with
  | nil=>simp[dW]at hl
  | cons a' l' =>
   cases r' with
   | nil=>simp[dW]at hr
   | cons c' r' =>
    simp only[dW]at hl hr
    simp only[qc]at h ⊢
    split at h
    ·rename_i x y h1 h2
     rw[aiC hl.1 hr.1 h1,afr hl.2 hr.2 h2]
     exact h
    ·cases h
 | [],[],_::_,_,_,_,_,_,h=>by simp[qc]at h
 | [],_::_,_,_,_,_,_,_,h=>by simp[qc]at h
 | _::_,[],_,_,_,_,_,_,h=>by simp[qc]at h
 | _::_,_::_,[],_,_,_,_,_,h=>by simp[qc]at h
theorem ap8{x y x' y':AV}{b:Bool}(hx:VL M O κ x x')(hy:VL M O κ y y')(h:aef x y=some b):aef x' y'=some b:=by
 unfold aef at h
 split at h
 ·rename_i c
  simp only[VL]at hx
  subst hx
  cases c with
  | none=>simp only[VL]at hy;subst hy;simpa[aef]using h
  | some c=>simp only[VL]at hy;obtain⟨j,_,rfl⟩:=hy;simpa[aef]using h
 ·simp only[VL]at hx hy
  obtain⟨j,_,rfl⟩:=hx
  subst hy
  simpa[aef]using h
 ·rename_i c d
  simp only[VL]at hx hy
  obtain⟨j,h1,rfl⟩:=hx
  obtain⟨j',h2,rfl⟩:=hy
  split at h
  ·rename_i e
   rw[e,h2]at h1
   obtain rfl:=av h1
   simpa[aef]using h
  ·cases h
 ·cases h
theorem akX{v a:AV}{m n:Nat}(r:VL M O κ v a)(h:tu v m=some n):tu a m=some n:=by
 cases v<;>simp only[tu]at h<;>first |(cases h;done) | skip
 simp only[VL]at r
 subst r
 simpa[tu]using h
theorem jm{v:AV}{m m' n:Nat}(h:tu v m=some n)(hm:m≤m'):tu v m'=some n∧n≤m:=by
 cases v<;>simp only[tu]at h<;>first |(cases h;done) | skip
 split at h
 case isFalse=>cases h
 rename_i k i hi
 obtain rfl:=av h
 simp only[tu]
 rw[if_pos (by omega)]
 exact⟨rfl,by omega⟩
theorem agP{m:Bool}{x y v:AV}(h:abx m x y=some v):v.xP=true∧x.xP=true∧y.xP=true:=by
 cases x<;>cases y<;>simp only[abx]at h<;>first |(cases h;done) | skip
 split at h<;>cases h<;>exact⟨rfl,rfl,rfl⟩
theorem afs{m:Bool}:∀ {l l':List AV} {x x' v:AV},VL M O κ x x'→dW M O κ l l'→V6 m x l=some v→∃a,V6 m x' l'=some a∧VL M O κ v a
 | [],l',x,x',v,hx,hl,h=>by
  have:=hl.length
  cases l'<;>simp at this
  simp only[V6,aC]at h ⊢
  subst h
  exact⟨x',rfl,hx⟩
 | y::l,l',x,x',v,hx,hl,h=>by
  cases l' with
  | nil=>simp[dW]at hl
  | cons y' l' =>
   simp only[dW]at hl
   simp only[V6]at h ⊢
   obtain⟨z,h1,h2⟩:=aR.1 h
   obtain⟨s1,s2,s3⟩:=agP h1
   obtain rfl:=hx.eq s2
   obtain rfl:=hl.1.eq s3
   rw[h1,ak]
   exact afs (VL.xP s1) hl.2 h2
theorem aft{g:Bool}{off n:Nat}{cs cs':List AV}{v:AV}(r:dW M O κ cs cs')(h:GZ g off n cs=some v):∃a,GZ g off n cs'=some a∧VL M O κ v a:=by
 unfold GZ at h ⊢
 cases g with
 | true =>
  simp only[if_true,aC]at h ⊢
  subst h
  exact⟨_,rfl,by simp only[VL];exact⟨_,rfl,(r.drop off).take n⟩⟩
 | false =>
  simp only[Bool.false_eq_true,if_false]at h ⊢
  exact r.get off v h
theorem aej{c:List AV}{o n l m:Nat}(h:l+m≤n):((((c.drop o).take n).drop l).take m)=((c.drop (o+l)).take m):=by
 rw[List.drop_take,List.take_take,List.drop_drop,Nat.min_eq_left (by omega)]
theorem afu {sz len h l:Nat} {cs:List AV} {b o:Nat} {ex1:Bool} {auR:Nat} {ex2:Bool} (hl:l≤h) (hh:h≤len) (hcs:cs.length=len*sz)
  (hc:len≠0→∃c ro sl,M.get b=some (.cells c ro sl)∧¬O b∧b<M.next∧o+len*sz≤c.length∧dW M O VI.none cs ((c.drop o).take (len*sz))) (h1:h-l≤auR) (h2:ex2=true→ex1=true∧auR=h-l) :
  VL M O κ (.list sz (h-l) ((cs.drop (l*sz)).take ((h-l)*sz)) ex2) (.slice (some (b,o+l*sz)) sz (h-l) auR ex1):=by
 have e:l*sz+(h-l)*sz=h*sz:=by rw[←Nat.add_mul];congr 1;omega
 have e2:h*sz≤len*sz:=Nat.mul_le_mul_right _ hh
 simp only[VL]
 refine .inr ⟨b,_,auR,ex1,rfl,h1,h2, ?_,λhne=>?_⟩
 ·rw[bf,aZ,hcs]
  omega
 ·obtain⟨c,ro,sl,g1,g2,g3,g4,g5⟩:=hc (by omega)
  refine⟨c,ro,sl,g1,g2,g3,by omega, ?_⟩
  have:=(g5.drop (l*sz)).take ((h-l)*sz)
  rwa [aej (by omega)]at this
theorem aiD:∀ {n:Nat} {l r:List AV},Qs n l=some r→n≤l.length∧r=l.take n
 | 0,l,r,h=>by simp only[Qs,aC]at h;subst h;simp
 | n+1,[],r,h=>by simp[Qs]at h
 | n+1,c::l,r,h=>by
  simp only[Qs]at h
  split at h
  case h_2=>cases h
  rename_i q hq
  obtain rfl:=av h
  obtain⟨h1,h2⟩:=aiD hq
  exact⟨by simp;omega,by simp[h2]⟩
theorem ap9:∀ {l:List AV} {i:Nat},cAt l i=l[i]?
 | [],i=>by simp[cAt]
 | v::_,0=>by simp[cAt]
 | _::r,i+1=>by simp[cAt,ap9 (l:=r)]
theorem acd{g:Bool}{off n:Nat}{cs:List AV}{v:AV}(h:CJ g off n cs=some v):GZ g off n cs=some v∧(g=true→n≤(cs.drop off).length):=by
 unfold CJ at h
 cases g with
 | true =>
  simp only at h
  split at h
  case h_2=>cases h
  rename_i l hl
  obtain rfl:=av h
  obtain⟨h1,rfl⟩:=aiD hl
  exact⟨by simp[GZ],λ_=>h1⟩
 | false =>
  simp only at h
  rw[ap9]at h
  exact⟨by simpa[GZ]using h,λh=>by cases h⟩
theorem ace {b off sz n cap m L l y cap':Nat} {ex ex':Bool} {p:Option (Nat×Nat)} (hn:n≤cap) (hnp:p=none→cap=0∧ex=true) (hd:κ.dim b=some (m,L)) (hm:off+n*sz≤m)
  (hx:(∃j,κ b=some j∧((p=some (j,off)∧off+cap*sz≤L)∨(n=0∧cap=0∧ex=true)))∨(κ.Yu b=true∧n=0∧cap=0∧ex=true∧m=0))
  (h1:l≤y) (h2:y≤n) (h3:y-l≤cap') (h4:cap'≤cap-l) (h5:cap=0→ex=true→ex'=true) :
  VL M O κ (.acc b (off+l*sz) sz (y-l) false) (.slice (oJ p (l*sz)) sz (y-l) cap' ex'):=by
 have e1:l*sz+(y-l)*sz=y*sz:=by rw[←Nat.add_mul];congr 1;omega
 have e2:y*sz≤n*sz:=Nat.mul_le_mul_right _ h2
 have e3:l*sz+cap'*sz≤cap*sz:=by rw[←Nat.add_mul];exact Nat.mul_le_mul_right _ (by omega)
 simp only[VL]
 refine⟨_,_,_,_,rfl,h3,λhp=>?_,λ_=>rfl,m,L,hd,by omega,(λh=>by cases h), ?_⟩
 ·cases p with
  | none=>exact⟨by have:=(hnp rfl).1;omega,h5 (hnp rfl).1 (hnp rfl).2⟩
  | some p=>simp[oJ]at hp
 ·rcases hx with⟨j,g1,g2⟩ |⟨g1,g2,g3,g4,g5⟩
  ·refine .inl ⟨j,g1, ?_⟩
   rcases g2 with⟨rfl,g2⟩ |⟨g2,g3,g4⟩
   ·exact .inl ⟨by simp[oJ],by omega⟩
   ·exact .inr ⟨by omega,by omega,h5 g3 g4⟩
  ·exact .inr ⟨g1,by omega,by omega,h5 g3 g4,g5⟩
section
variable {ρ σ:Nat→AV} (h:∀t,VL M O κ (ρ t) (σ t))
include h
theorem gX{x:AX}(hc:x.bW=true):VL M O κ ((x.sub ρ).ev []) ((x.sub σ).ev []):=by
 cases x with
 | t n=>exact h n
 | c v=>exact VL.const v hc
theorem abD:∀ {xs:List AX},xs.all AX.bW=true→dW M O κ ((xs.map (AX.sub ρ)).map (AX.ev [])) ((xs.map (AX.sub σ)).map (AX.ev []))
 | [],_=>by simp[dW]
 | x::xs,hc=>by
  simp only[List.all_cons,Bool.and_eq_true]at hc
  simp only[List.map_cons,dW]
  exact⟨gX h hc.1,abD hc.2⟩
theorem Bo{x:Option AX}(hc:okO x=true){other m n:Nat}(hb:dX [] (AX.kN ρ x) other m=some n):dX [] (AX.kN σ x) other m=some n:=by
 cases x with
 | none=>exact hb
 | some x=>exact akX (gX h hc) hb
theorem afv:∀ {ps:List (Nat×Nat×AX)} {cs cs' l:List AV},(ps.all λp=>p.2.2.bW)=true→dW M O κ cs cs' →
  wS cs (ps.map λp=>(p.1,p.2.1,(p.2.2.sub ρ).ev []))=some l→∃l',wS cs' (ps.map λp=>(p.1,p.2.1,(p.2.2.sub σ).ev []))=some l'∧dW M O κ l l'
 | [],cs,cs',l,_,hr,hf=>by
  simp only[List.map_nil,wS,aC]at hf ⊢
  subst hf
  exact⟨cs',rfl,hr⟩
 | p::ps,cs,cs',l,hc,hr,hf=>by
  simp only[List.all_cons,Bool.and_eq_true]at hc
  simp only[List.map_cons,wS]at hf ⊢
  split at hf
  case h_2=>cases hf
  rename_i x hx
  split at hf
  case isFalse=>cases hf
  rename_i hle
  obtain⟨x',hx',hxr⟩:=(gX h hc.1).cells hx
  rw[hx']
  simp only
  rw[if_pos (by rw[←hxr.length,←hr.length];exact hle)]
  refine afv hc.2 ?_ hf
  exact((hr.take _).append hxr).append (hr.drop _)
theorem aqa{o:pK}(hc:o.bW=true){v:AV}(hv:wP (o.sub ρ)=some v):∃a,aP (o.sub σ) []=some a∧VL M O κ v a:=by
 cases o with
 | move x =>
  have hx:=gX h hc
  simp only[pK.sub,wP,aP,aC]at hv ⊢
  subst hv
  exact⟨_,rfl,hx⟩
 | pick c a b =>
  simp only[pK.bW,Bool.and_eq_true]at hc
  have h1:=gX h hc.1.1
  have h2:=gX h hc.1.2
  have h3:=gX h hc.2
  simp only[pK.sub,wP,aP]at hv ⊢
  generalize (c.sub ρ).ev []=C at *
  cases C<;>(try simp only at hv)<;>first |(cases hv;done) | skip
  rename_i w
  simp only[VL]at h1
  rw[h1]
  cases w<;>simp only[aC]at hv ⊢<;>subst hv
  ·exact⟨_,rfl,h3⟩
  ·exact⟨_,rfl,h2⟩
 | build z ps =>
  simp only[pK.bW,Bool.and_eq_true]at hc
  simp only[pK.sub,wP,aP,List.map_map]at hv ⊢
  obtain⟨l,h1,rfl⟩:=aH.1 hv
  obtain⟨l',h2,h3⟩:=afv h hc.2 (dW.const z hc.1) h1
  refine⟨.agg l', ?_,by simp only[VL];exact⟨l',rfl,h3⟩⟩
  rw[aH]
  exact⟨l',h2,rfl⟩
 | nilCheck x =>
  have hx:=gX h hc
  simp only[pK.sub,wP,aP]at hv ⊢
  generalize (x.sub ρ).ev []=X at *
  generalize (x.sub σ).ev []=X' at *
  cases X with
  | ptr p =>
   cases p with
   | none=>simp at hv
   | some q =>
    simp only[aC]at hv
    subst hv
    simp only[VL]at hx
    obtain⟨j,h1,rfl⟩:=hx
    exact⟨_,rfl,by simp only[VL];exact⟨j,h1,rfl⟩⟩
  | func f cs =>
   simp only[aC]at hv
   subst hv
   simp only[VL]at hx
   obtain⟨cs',rfl,h1⟩:=hx
   exact⟨_,rfl,by simp only[VL];exact⟨cs',rfl,h1⟩⟩
  | elem cs =>
   simp only[aC]at hv
   subst hv
   have hx':=hx
   simp only[VL]at hx
   obtain⟨b,o,c,ro,sl,rfl,_⟩:=hx
   exact⟨_,rfl,hx'⟩
  | _=>simp at hv
 | bin op x y =>
  simp only[pK.bW,Bool.and_eq_true]at hc
  have hx:=gX h hc.1
  have hy:=gX h hc.2
  simp only[pK.sub,wP,aP]at hv ⊢
  obtain⟨s1,s2,s3⟩:=an4 hv
  rw[hx.eq s2,hy.eq s3]
  exact⟨v,hv,VL.xP s1⟩
 | eqB neg x y =>
  simp only[pK.bW,Bool.and_eq_true]at hc
  have hx:=gX h hc.1
  have hy:=gX h hc.2
  simp only[pK.sub,wP,aP]at hv ⊢
  obtain⟨b,h1,rfl⟩:=aH.1 hv
  rw[aiC hx hy h1]
  exact⟨_,rfl,by simp[VL]⟩
 | eqS neg ks x y =>
  simp only[pK.bW,Bool.and_eq_true]at hc
  have hx:=gX h hc.1
  have hy:=gX h hc.2
  simp only[pK.sub,wP,aP]at hv ⊢
  generalize (x.sub ρ).ev []=X at *
  generalize (y.sub ρ).ev []=Y at *
  cases X<;>(try simp only at hv)<;>first |(cases hv;done) | skip
  cases Y<;>(try simp only at hv)<;>first |(cases hv;done) | skip
  simp only[VL]at hx hy
  obtain⟨l',e1,hl⟩:=hx
  obtain⟨r',e2,hr⟩:=hy
  obtain⟨b,h1,rfl⟩:=aH.1 hv
  rw[e1,e2]
  simp only[afr hl hr h1]
  exact⟨_,rfl,by simp[VL]⟩
 | eqP neg x y =>
  simp only[pK.bW,Bool.and_eq_true]at hc
  have hx:=gX h hc.1
  have hy:=gX h hc.2
  simp only[pK.sub,wP,aP]at hv ⊢
  obtain⟨b,h1,rfl⟩:=aH.1 hv
  rw[ap8 hx hy h1]
  exact⟨_,rfl,by simp[VL]⟩
 | eqN neg x y =>
  simp only[pK.bW,Bool.and_eq_true]at hc
  have hx:=gX h hc.1
  have hy:=gX h hc.2
  simp only[pK.sub,wP,aP]at hv ⊢
  generalize (x.sub ρ).ev []=X at *
  generalize (y.sub ρ).ev []=Y at *
  generalize (x.sub σ).ev []=X' at *
  generalize (y.sub σ).ev []=Y' at *
  split at hv
  ·simp only[VL]at hx hy
   obtain⟨b,o,cap,ex',rfl,_⟩:=hx.resolve_left (λh=>by cases h.1)
   obtain⟨_,s',rfl⟩:=hy
   simp only[aC]at hv
   subst hv
   exact⟨.bool neg,by simp[agB],by simp[VL]⟩
  ·simp only[VL]at hx hy
   obtain⟨b,o,cap,ex',rfl,_⟩:=hy.resolve_left (λh=>by cases h.1)
   obtain⟨_,s',rfl⟩:=hx
   simp only[aC]at hv
   subst hv
   exact⟨.bool neg,by simp[agB],by simp[VL]⟩
  ·simp only[VL]at hx hy
   obtain⟨_,s',rfl⟩:=hx
   obtain⟨_,s'',rfl⟩:=hy
   simp only[aC]at hv
   subst hv
   exact⟨.bool (!neg),by cases neg<;>simp[agB],by simp[VL]⟩
  ·cases hv
 | un op x =>
  have hx:=gX h hc
  simp only[pK.sub,wP,aP]at hv ⊢
  have:((x.sub ρ).ev []).xP=true∧v.xP=true:=by
   generalize (x.sub ρ).ev []=X at *
   cases X<;>cases op<;>simp only[aUn]at hv<;>first |(cases hv;done) |(cases hv;exact⟨rfl,rfl⟩)
  rw[hx.eq this.1]
  exact⟨v,hv,VL.xP this.2⟩
 | OQ k x =>
  have hx:=gX h hc
  simp only[pK.sub,wP,aP]at hv ⊢
  generalize (x.sub ρ).ev []=X at *
  cases X<;>(try simp only at hv)<;>first |(cases hv;done) | skip
  obtain rfl:=av hv
  rw[hx.eq rfl]
  exact⟨_,rfl,by simp[VL]⟩
 | Ql x =>
  have hx:=gX h hc
  simp only[pK.sub,wP,aP]at hv ⊢
  generalize (x.sub ρ).ev []=X at *
  cases X<;>(try simp only at hv)<;>first |(cases hv;done) | skip
  obtain rfl:=av hv
  rw[hx.eq rfl]
  exact⟨_,rfl,by simp[VL]⟩
 | Gs f cs =>
  simp only[pK.sub,wP,aP,aC]at hv ⊢
  subst hv
  exact⟨_,rfl,by simp only[VL];exact⟨_,rfl,abD h hc⟩⟩
 | sj x lo hi =>
  simp only[pK.bW,Bool.and_eq_true]at hc
  have hx:=gX h hc.1.1
  simp only[pK.sub,wP,aP]at hv ⊢
  generalize (x.sub ρ).ev []=X at *
  cases X<;>(try simp only at hv)<;>first |(cases hv;done) | skip
  rw[hx.eq rfl]
  simp only[Iu]at hv ⊢
  obtain⟨a,h1,hv⟩:=aR.1 hv
  obtain⟨b,h2,hv⟩:=aR.1 hv
  obtain rfl:=av hv
  rw[Bo h hc.2 h1,ak,Bo h hc.1.2 h2,ak]
  exact⟨_,rfl,by simp[VL]⟩
 | slice sz x lo hi mx =>
  simp only[pK.bW,Bool.and_eq_true]at hc
  obtain⟨⟨⟨cx,Yt⟩,chi⟩,cmx⟩:=hc
  have hx:=gX h cx
  simp only[pK.sub,wP,aP]at hv ⊢
  generalize (x.sub ρ).ev []=X at *
  generalize (x.sub σ).ev []=X' at *
  have tr:∀ {a:Option (Nat×Nat)} {sz' len cap:Nat} {ex:Bool} {w:AV},lH sz a sz' len cap ex [] (AX.kN ρ lo) (AX.kN ρ hi) (AX.kN ρ mx)=some w→lH sz a sz' len cap ex [] (AX.kN σ lo) (AX.kN σ hi) (AX.kN σ mx)=some w:=by
   intro a sz' len cap ex w hw
   unfold lH at hw ⊢
   split at hw
   case isFalse=>cases hw
   rename_i hcond
   rw[if_pos hcond]
   cases mx with
   | none =>
    simp only[AX.kN,Option.map_none]at hw ⊢
    obtain⟨a,h1,hw⟩:=aR.1 hw
    obtain⟨b,h2,hw⟩:=aR.1 hw
    have:=Bo h chi h1
    simp only[AX.kN]at this
    rw[this,ak]
    have:=Bo h Yt h2
    simp only[AX.kN]at this
    rw[this,ak]
    exact hw
   | some mx =>
    cases hi with
    | none =>
     simp only[AX.kN,Option.map_none,bH]at hw
     obtain⟨m,_,hw⟩:=aR.1 hw
     cases hw
    | some hi =>
     simp only[AX.kN,bH]at hw ⊢
     obtain⟨m,h0,hw⟩:=aR.1 hw
     obtain⟨a,h1,hw⟩:=aR.1 hw
     obtain⟨b,h2,hw⟩:=aR.1 hw
     have:=Bo h cmx h0
     simp only[AX.kN,bH]at this
     rw[this,ak]
     have:=Bo h chi h1
     simp only[AX.kN,bH]at this
     rw[this,ak]
     have:=Bo h Yt h2
     simp only[AX.kN]at this
     rw[this,ak]
     exact hw
  cases X with
  | list sz' len cs ex =>
   simp only[VL]at hx
   simp only[ab6]at hv
   split at hv
   case isFalse=>cases hv
   rename_i he
   subst he
   rcases hx with⟨rfl,rfl,s',rfl⟩ |⟨b,o,cap,ex',rfl,h1,h2,h3,h4⟩
   ·have fin:∀w,lH sz' none s' 0 0 true [] (AX.kN ρ lo) (AX.kN ρ hi) (AX.kN ρ mx)=some w→VL M O κ v w→∃a,lH sz' none s' 0 0 true [] (AX.kN σ lo) (AX.kN σ hi) (AX.kN σ mx)=some a∧VL M O κ v a :=
     λw h1 h2=>⟨w,tr h1,h2⟩
    cases mx with
    | none =>
     simp only[AX.kN,Option.map_none]at hv
     obtain⟨y,g1,hv⟩:=aR.1 hv
     obtain⟨l,g2,hv⟩:=aR.1 hv
     obtain rfl:=av hv
     have gy:y=0:=by
      cases hi with
      | none=>simpa[dX]using g1.symm
      | some hi=>have:=(jm g1 (Nat.le_refl _)).2;omega
     subst gy
     have gl:l=0:=by
      cases lo with
      | none=>simpa[dX]using g2.symm
      | some lo=>have:=(jm g2 (Nat.le_refl _)).2;omega
     subst gl
     refine fin (.slice none sz' 0 0 true) ?_ ?_
     ·unfold lH
      simp only[AX.kN,true_or,if_true,Option.map_none,oJ]
      rw[g1,ak,g2]
      rfl
     ·simp only[VL]
      exact .inl (by simp)
    | some mx =>
     cases hi with
     | none =>
      simp only[AX.kN,Option.map_none,bH]at hv
      obtain⟨m,_,hv⟩:=aR.1 hv
      cases hv
     | some hi =>
      simp only[AX.kN,bH]at hv
      obtain⟨m,g0,hv⟩:=aR.1 hv
      obtain⟨y,g1,hv⟩:=aR.1 hv
      obtain⟨l,g2,hv⟩:=aR.1 hv
      obtain rfl:=av hv
      have gm:=(jm g0 (Nat.le_refl _)).2
      obtain rfl:m=0:=by omega
      have gy:=(jm g1 (Nat.le_refl _)).2
      obtain rfl:y=0:=by omega
      have gl:l=0:=by
       cases lo with
       | none=>simpa[dX]using g2.symm
       | some lo=>have:=(jm g2 (Nat.le_refl _)).2;omega
      subst gl
      refine fin (.slice none sz' 0 0 true) ?_ ?_
      ·unfold lH
       simp only[AX.kN,true_or,if_true,bH,oJ]
       rw[g0,ak,g1,ak,g2]
       rfl
      ·simp only[VL]
       exact .inl (by simp)
   simp only
   cases mx with
   | none =>
    simp only[AX.kN,Option.map_none]at hv
    obtain⟨y,g1,hv⟩:=aR.1 hv
    obtain⟨l,g2,hv⟩:=aR.1 hv
    obtain rfl:=av hv
    have gy:dX [] (AX.kN ρ hi) len cap=some y∧y≤len:=by
     cases hi with
     | none =>
      simp only[dX,Option.map_none,AX.kN,aC]at g1 ⊢
      omega
     | some hi=>exact jm g1 h1
    have gl:l≤y:=by
     cases lo with
     | none=>simp only[dX,Option.map_none,aC]at g2;omega
     | some lo=>exact(jm g2 (Nat.le_refl _)).2
    refine⟨_,tr (w:=.slice (some (b,o+l*sz')) sz' (y-l) (cap-l) ex') ?_, ?_⟩
    ·unfold lH
     simp only[AX.kN,or_true,if_true,Option.map_none,oJ,bH]
     rw[show dX [] (hi.map (AX.sub ρ)) len cap=some y from gy.1,ak,g2,ak]
    ·exact afu gl gy.2 h3 h4 (by omega) λhe=>by cases he
   | some mx =>
    cases hi with
    | none =>
     simp only[AX.kN,Option.map_none,bH]at hv
     obtain⟨m,_,hv⟩:=aR.1 hv
     cases hv
    | some hi =>
     simp only[AX.kN,bH]at hv
     obtain⟨m,g0,hv⟩:=aR.1 hv
     obtain⟨y,g1,hv⟩:=aR.1 hv
     obtain⟨l,g2,hv⟩:=aR.1 hv
     obtain rfl:=av hv
     obtain⟨m1,m2⟩:=jm g0 h1
     obtain⟨_,y2⟩:=jm g1 (Nat.le_refl _)
     have gl:l≤y:=by
      cases lo with
      | none=>simp only[dX,Option.map_none,aC]at g2;omega
      | some lo=>exact(jm g2 (Nat.le_refl _)).2
     refine⟨_,tr (w:=.slice (some (b,o+l*sz')) sz' (y-l) (m-l) true) ?_, ?_⟩
     ·unfold lH
      simp only[AX.kN,or_true,if_true,bH,oJ]
      rw[show dX [] (some (mx.sub ρ)) cap cap=some m from m1,ak,g1,ak,g2,ak]
     ·exact afu gl (by omega) h3 h4 (by omega) λhe=>by cases he
  | acc b off sz' n w =>
   simp only[VL]at hx
   obtain⟨p,s',cap,ex,rfl,hn,hnp,hns,m,L,hd,hm,hw,hx⟩:=hx
   have hz:p=none∨s'=sz':=by
    cases p with
    | none=>exact .inl rfl
    | some p=>exact .inr (hns (by simp))
   simp only at hv
   cases mx with
   | none =>
    cases lo with
    | none =>
     cases hi with
     | none =>
      simp only[AX.kN,Option.map_none,Kw]at hv
      split at hv
      case isFalse=>cases hv
      rename_i e
      subst e
      obtain rfl:=av hv
      refine⟨_,tr (w:=.slice (oJ p (0*sz')) sz' (n-0) (cap-0) ex) ?_, ?_⟩
      ·unfold lH
       rw[if_pos hz]
       rfl
      ·have:oJ p (0*sz')=p:=by cases p<;>simp[oJ]
       rw[this]
       simp only[VL]
       exact⟨_,_,_,_,rfl,hn,hnp,λ_=>rfl,m,L,hd,hm,hw,hx⟩
     | some hi =>
      simp only[AX.kN,Option.map_none,bH,Kw]at hv
      split at hv
      case isFalse=>cases hv
      rename_i e
      subst e
      obtain⟨y,g1,hv⟩:=aR.1 hv
      obtain⟨l,g2,hv⟩:=aR.1 hv
      obtain rfl:=av hv
      have gy:=jm g1 hn
      have gl:l≤y:=by simp only[dX,aC]at g2;omega
      refine⟨_,tr (w:=.slice (oJ p (l*sz')) sz' (y-l) (cap-l) ex) ?_,ace hn hnp hd hm hx gl gy.2 (by omega) (by omega) (λ_ h=>h)⟩
      unfold lH
      rw[if_pos hz]
      simp only[AX.kN,Option.map_none,bH]
      rw[show dX [] (some (hi.sub ρ)) n cap=some y from gy.1,ak,g2,ak]
    | some lo =>
     simp only[AX.kN,Option.map_none,bH,Kw]at hv
     split at hv
     case isFalse=>cases hv
     rename_i e
     subst e
     obtain⟨y,g1,hv⟩:=aR.1 hv
     obtain⟨l,g2,hv⟩:=aR.1 hv
     obtain rfl:=av hv
     have gy:dX [] (AX.kN ρ hi) n cap=some y∧y≤n:=by
      cases hi with
      | none =>
       simp only[dX,Option.map_none,AX.kN,aC]at g1 ⊢
       omega
      | some hi=>exact jm g1 hn
     have gl:l≤y:=(jm g2 (Nat.le_refl _)).2
     refine⟨_,tr (w:=.slice (oJ p (l*sz')) sz' (y-l) (cap-l) ex) ?_,ace hn hnp hd hm hx gl gy.2 (by omega) (by omega) (λ_ h=>h)⟩
     unfold lH
     rw[if_pos hz]
     simp only[AX.kN,Option.map_none,bH]
     rw[show dX [] (hi.map (AX.sub ρ)) n cap=some y from gy.1,ak,g2,ak]
   | some mx =>
    cases hi with
    | none=>cases lo<;>simp[AX.kN,Kw]at hv
    | some hi =>
     have hv':(if sz'=sz then (dX [] (some (mx.sub ρ)) n n).bind λm=>(dX [] (some (hi.sub ρ)) n m).bind λh=>(dX [] (AX.kN ρ lo) 0 h).bind λl=>some (AV.acc b (off+l*sz) sz (h-l) false)else none)=some v:=by
      cases lo<;>simpa only[AX.kN,Option.map_none,bH,Kw]using hv
     clear hv
     split at hv'
     case isFalse=>cases hv'
     rename_i e
     subst e
     obtain⟨m',g0,hv⟩:=aR.1 hv'
     obtain⟨y,g1,hv⟩:=aR.1 hv
     obtain⟨l,g2,hv⟩:=aR.1 hv
     obtain rfl:=av hv
     obtain⟨m1,m2⟩:=jm g0 hn
     obtain⟨_,y2⟩:=jm g1 (Nat.le_refl _)
     have gl:l≤y:=by
      cases lo with
      | none=>simp only[dX,AX.kN,Option.map_none,aC]at g2;omega
      | some lo=>exact(jm g2 (Nat.le_refl _)).2
     refine⟨_,tr (w:=.slice (oJ p (l*sz')) sz' (y-l) (m'-l) true) ?_,ace hn hnp hd hm hx gl (by omega) (by omega) (by omega) (λ_ _=>rfl)⟩
     unfold lH
     rw[if_pos hz]
     simp only[AX.kN,Option.map_none,bH]
     rw[show dX [] (some (mx.sub ρ)) cap cap=some m' from m1,ak,g1,ak]
     simp only[AX.kN]at g2
     rw[g2]
     rfl
  | _=>simp at hv
 | fieldAddr off x =>
  have hx:=gX h hc
  simp only[pK.sub,wP,aP]at hv ⊢
  generalize (x.sub ρ).ev []=X at *
  generalize (x.sub σ).ev []=X' at *
  cases X with
  | ptr p =>
   cases p with
   | none=>simp at hv
   | some q =>
    simp only[aC]at hv
    subst hv
    simp only[VL]at hx
    obtain⟨j,h1,rfl⟩:=hx
    exact⟨_,rfl,by simp only[VL];exact⟨j,h1,rfl⟩⟩
  | elem cs =>
   simp only[aC]at hv
   subst hv
   simp only[VL]at hx
   obtain⟨b,o,c,ro,sl,rfl,g1,g2,g3,g4⟩:=hx
   refine⟨_,rfl, ?_⟩
   simp only[VL]
   refine⟨b,_,c,ro,sl,rfl,g1,g2,g3, ?_⟩
   have:=g4.drop off
   rwa [List.drop_take,List.drop_drop,←aZ]at this
  | _=>simp at hv
 | field g off n x =>
  have hx:=gX h hc
  simp only[pK.sub,wP,aP]at hv ⊢
  generalize (x.sub ρ).ev []=X at *
  generalize (x.sub σ).ev []=X' at *
  cases X<;>(try simp only at hv)<;>first |(cases hv;done) | skip
  simp only[VL]at hx
  obtain⟨l',rfl,hl⟩:=hx
  exact aft hl (acd hv).1
 | zU n sz x i =>
  simp only[pK.bW,Bool.and_eq_true]at hc
  have hx:=gX h hc.1
  have hi:=gX h hc.2
  simp only[pK.sub,wP,aP]at hv ⊢
  generalize (x.sub ρ).ev []=X at *
  generalize (x.sub σ).ev []=X' at *
  generalize (i.sub ρ).ev []=I at *
  cases X with
  | ptr p =>
   cases p with
   | none=>simp at hv
   | some q =>
    cases I<;>(try simp only at hv)<;>first |(cases hv;done) | skip
    rw[hi.eq rfl]
    split at hv
    case isFalse=>cases hv
    rename_i hlt
    obtain rfl:=av hv
    simp only[VL]at hx
    obtain⟨j,h1,rfl⟩:=hx
    simp only
    rw[if_pos hlt]
    exact⟨_,rfl,by simp only[VL];exact⟨j,h1,rfl⟩⟩
  | elem cs =>
   cases I<;>(try simp only at hv)<;>first |(cases hv;done) | skip
   rw[hi.eq rfl]
   split at hv
   case isFalse=>cases hv
   rename_i hlt
   obtain rfl:=av hv
   simp only[VL]at hx
   obtain⟨b,o,c,ro,sl,rfl,g1,g2,g3,g4⟩:=hx
   simp only
   rw[if_pos hlt]
   refine⟨_,rfl, ?_⟩
   simp only[VL]
   refine⟨b,_,c,ro,sl,rfl,g1,g2,g3, ?_⟩
   rename_i k z
   have:=g4.drop (z.toNat*sz)
   rwa [List.drop_take,List.drop_drop,←aZ]at this
  | _=>simp at hv
 | kU sz x i =>
  simp only[pK.bW,Bool.and_eq_true]at hc
  have hx:=gX h hc.1
  have hi:=gX h hc.2
  simp only[pK.sub,wP,aP]at hv ⊢
  generalize (x.sub ρ).ev []=X at *
  generalize (x.sub σ).ev []=X' at *
  generalize (i.sub ρ).ev []=I at *
  cases X with
  | list sz' len cs ex =>
   cases I<;>(try simp only at hv)<;>first |(cases hv;done) | skip
   rename_i k z
   rw[hi.eq rfl]
   split at hv
   case isFalse=>cases hv
   rename_i hlt
   obtain rfl:=av hv
   simp only[VL]at hx
   obtain⟨b,o,cap,ex',rfl,q1,q2,q3,q4⟩:=hx.resolve_left (λh=>by have:=h.1;omega)
   simp only
   rw[if_pos hlt]
   refine⟨_,rfl, ?_⟩
   obtain⟨c,ro,sl,g1,g2,g3,g4,g5⟩:=q4 (by omega)
   simp only[VL]
   refine⟨b,_,c,ro,sl,rfl,g1,g2,g3, ?_⟩
   have:=g5.drop (z.toNat*sz)
   rwa [←q3,List.drop_take,List.drop_drop,←aZ]at this
  | acc b off sz' n w =>
   cases I<;>(try simp only at hv)<;>first |(cases hv;done) | skip
   rename_i k z
   rw[hi.eq rfl]
   split at hv
   case isFalse=>cases hv
   rename_i hlt
   obtain rfl:=av hv
   simp only[VL]at hx
   obtain⟨p,s',cap,ex,rfl,hn,hnp,hns,m,L,hd,hm,hw,hx⟩:=hx
   obtain⟨j,g1,g2⟩:=hx.resolve_right (λh=>by have:=h.2.1;omega)
   obtain⟨hps,_⟩:=g2.resolve_right (λh=>by have:=h.1;omega)
   subst hps
   obtain rfl:=hns (by simp)
   simp only
   rw[if_pos hlt]
   exact⟨_,rfl,by simp only[VL];exact⟨j,g1,rfl⟩⟩
  | _=>simp at hv
 | index g n sz x i =>
  simp only[pK.bW,Bool.and_eq_true]at hc
  have hx:=gX h hc.1
  have hi:=gX h hc.2
  simp only[pK.sub,wP,aP]at hv ⊢
  generalize (x.sub ρ).ev []=X at *
  generalize (x.sub σ).ev []=X' at *
  generalize (i.sub ρ).ev []=I at *
  cases X<;>(try simp only at hv)<;>first |(cases hv;done) | skip
  cases I<;>(try simp only at hv)<;>first |(cases hv;done) | skip
  rw[hi.eq rfl]
  simp only[VL]at hx
  obtain⟨l',rfl,hl⟩:=hx
  simp only
  split at hv
  case isFalse=>cases hv
  rename_i hlt
  rw[if_pos hlt]
  exact aft hl hv
 | xK x i =>
  simp only[pK.bW,Bool.and_eq_true]at hc
  have hx:=gX h hc.1
  have hi:=gX h hc.2
  simp only[pK.sub,wP,aP]at hv ⊢
  generalize (x.sub ρ).ev []=X at *
  generalize (i.sub ρ).ev []=I at *
  cases X<;>(try simp only at hv)<;>first |(cases hv;done) | skip
  cases I<;>(try simp only at hv)<;>first |(cases hv;done) | skip
  rw[hi.eq rfl,hx.eq rfl]
  simp only
  split at hv
  case isFalse=>cases hv
  rename_i hlt
  rw[if_pos hlt,hv]
  obtain⟨b,_,rfl⟩:=aH.1 hv
  exact⟨_,rfl,by simp[VL]⟩
 | extract x i =>
  have hx:=gX h hc
  simp only[pK.sub,wP,aP]at hv ⊢
  generalize (x.sub ρ).ev []=X at *
  generalize (x.sub σ).ev []=X' at *
  cases X<;>(try simp only at hv)<;>first |(cases hv;done) | skip
  simp only[VL]at hx
  obtain⟨l',rfl,hl⟩:=hx
  exact hl.get i v hv
 | len s x =>
  have hx:=gX h hc
  generalize hX:(x.sub ρ).ev []=X at *
  generalize hX':(x.sub σ).ev []=X' at *
  cases s with
  | true =>
   simp only[pK.sub,wP,aP,hX,hX']at hv ⊢
   cases X<;>(try simp only at hv)<;>first |(cases hv;done) | skip
   rw[hx.eq rfl]
   obtain rfl:=av hv
   exact⟨_,rfl,by simp[VL]⟩
  | false =>
   simp only[pK.sub,wP,aP,hX,hX']at hv ⊢
   split at hv
   ·simp only[aC]at hv
    subst hv
    simp only[VL]at hx
    rcases hx with⟨rfl,rfl,s',rfl⟩ |⟨b,o,cap,ex',rfl,_⟩
    ·exact⟨_,rfl,by simp[VL]⟩
    ·exact⟨_,rfl,by simp[VL]⟩
   ·simp only[aC]at hv
    subst hv
    simp only[VL]at hx
    obtain⟨p,s',cap,ex,rfl,_⟩:=hx
    exact⟨_,rfl,by simp[VL]⟩
   ·simp only[aC]at hv
    subst hv
    simp only[VL]at hx
    obtain⟨_,s',rfl⟩:=hx
    exact⟨_,rfl,by simp[VL]⟩
   ·cases hv
 | cap x=>simp[pK.sub,wP]at hv
 | Cv m xs =>
  have hx:=abD h hc
  simp only[pK.sub,wP,aP]at hv ⊢
  generalize (xs.map (AX.sub ρ)).map (AX.ev [])=X at *
  generalize (xs.map (AX.sub σ)).map (AX.ev [])=X' at *
  cases X with
  | nil=>simp at hv
  | cons x r =>
   cases X' with
   | nil=>simp[dW]at hx
   | cons x' r' =>
    simp only[dW]at hx
    exact afs hx.1 hx.2 hv
end
end
theorem Ky:∀(H:WH) (i:Nat),fC H i=(H[i]?).getD none
 | [],i=>by simp[fC]
 | x::_,0=>by simp[fC]
 | _::r,i+1=>by simp[fC,Ky r i]
theorem abE:∀(H:WH) (i:Nat) (y:Option pJ),jN H i y=H.set i y
 | [],i,y=>by simp[jN]
 | x::_,0,y=>by simp[jN]
 | _::r,i+1,y=>by simp[jN,abE r i y]
theorem y7{H:WH}{i:Nat}{x:pJ}(h:fC H i=some x):i<H.length:=by
 rw[Ky]at h
 rcases Nat.lt_or_ge i H.length with k | k
 ·exact k
 ·rw[List.getElem?_eq_none k]at h
  cases h
theorem vP(H:WH)(i:Nat)(y:Option pJ)(k:Nat):fC (jN H i y) k=if k=i∧i<H.length then y else fC H k:=by
 rw[abE,Ky,Ky,List.getElem?_set]
 by_cases h:i=k
 ·subst h
  by_cases hl:i<H.length
  ·simp[hl]
  ·simp[hl]
 ·simp[h,Ne.symm h,show ¬k=i from λe=>h e.symm]
theorem Wu(H G:WH)(k:Nat):fC (H++G) k=if k<H.length then fC H k else fC G (k-H.length):=by
 rw[Ky,Ky,Ky]
 by_cases h:k<H.length
 ·rw[if_pos h,List.getElem?_append_left h]
 ·rw[if_neg h,List.getElem?_append_right (by omega)]
theorem aqb(x:Option pJ)(k:Nat):fC [x] k=if k=0 then x else none:=by cases k<;>simp[fC]
theorem gL(H:WH)(i:Nat)(y:Option pJ):(jN H i y).length=H.length:=by rw[abE,bB]
theorem agQ{H:WH}{k:Nat}(h:H.length≤k):fC H k=none:=by rw[Ky,List.getElem?_eq_none h];rfl
theorem uj(H:WH)(x:Option pJ)(k:Nat):fC (H++[x]) k=if k<H.length then fC H k else if k=H.length then x else none:=by
 rw[Wu,aqb]
 by_cases h:k<H.length
 ·rw[if_pos h,if_pos h]
 ·rw[if_neg h,if_neg h]
  by_cases e:k=H.length
  ·rw[if_pos (by omega),if_pos e]
  ·rw[if_neg (by omega),if_neg e]
theorem Stp.refl(n:Nat)(t:List Nat)(ι:VI)(H:WH)(M:Heap)(h:n≤H.length):Stp n t ι H M ι H M :=
 ⟨.refl _ _,.refl _ _,λ_ _ h=>h,λ_ _=>rfl,λ_ _=>rfl,λ_ _ _=>rfl,λ_ _ h=>h,λ_ _ _ _ _ _=>rfl,h⟩
theorem Stp.act{n:Nat}{t:List Nat}{ι qK:VI}{H H1:WH}{M M1:Heap}(h:Stp n t ι H M qK H1 M1){i:Nat}(hi:i<n)(ha:act qK H1 i):Proofs.YtohoggieaanllaaGreat.act ι H i :=
 ha.imp (h.live i hi) (λhg=>by
  cases e:ι.gone i with
  | false=>rfl
  | true=>rw[h.gone i hi e]at hg;cases hg)
theorem Stp.trans{n n':Nat}{t t':List Nat}{ι qK Ey:VI}{H H1 H2:WH}{M M1 M2:Heap}(h:Stp n t ι H M qK H1 M1)(k:Stp n' t' qK H1 M1 Ey H2 M2)(hn:n≤n'):Stp n (t++t') ι H M Ey H2 M2 :=
 ⟨h.keep.trans k.keep,h.le.trans (k.le.sub λi hi=>by have:i<n:=hi;show i<n';omega),λi hi hg=>k.gone i (by omega) (h.gone i hi hg),λi hi=>(k.toq i (by omega)).trans (h.toq i hi),λi hi=>(k.akT i (by omega)).trans (h.akT i hi),
  λi hi hd=>by
   have hd1:fC H1 i=none:=by
    cases e:fC H1 i with
    | none=>rfl
    | some x =>
     obtain⟨y,hy⟩:=h.live i hi ⟨x,e⟩
     rw[hd]at hy
     cases hy
   exact(k.afq i (by omega) hd1).trans (h.afq i hi hd),
  λi hi hl=>h.live i hi (k.live i (by omega) hl),
  λi j hi hl hj ht=>by
   rw[List.mem_append,not_or]at ht
   exact(k.tch i j (by omega) hl ((h.le i hi).1 j hj).1 ht.2).trans (h.tch i j hi (k.act (by omega) hl) hj ht.1),Nat.le_trans hn k.next⟩
theorem Stp.weak{n n':Nat}{t:List Nat}{ι qK:VI}{H H1:WH}{M M1:Heap}(h:Stp n t ι H M qK H1 M1)(hn:n'≤n):Stp n' t ι H M qK H1 M1 :=
 ⟨h.keep,h.le.sub λi hi=>by have:i<n':=hi;show i<n;omega,λi hi=>h.gone i (by omega),λi hi=>h.toq i (by omega),λi hi=>h.akT i (by omega),λi hi=>h.afq i (by omega),λi hi=>h.live i (by omega),λi j hi=>h.tch i j (by omega),Nat.le_trans hn h.next⟩
theorem Stp.more{n:Nat}{t t':List Nat}{ι qK:VI}{H H1:WH}{M M1:Heap}(h:Stp n t ι H M qK H1 M1)(ht:∀i,i<n→i∈t→i∈t'):Stp n t' ι H M qK H1 M1 :=
 ⟨h.keep,h.le,h.gone,h.toq,h.akT,h.afq,h.live,λi j hi hl hj hn=>h.tch i j hi hl hj (λk=>hn (ht i hi k)),h.next⟩
theorem Stp.ayJ{R:Nat→Prop}{t:List Nat}{ι dK:VI}{H H':WH}{M M':Heap}(s:VS R ι H M)(k:Stp H.length t ι H M dK H' M')(S:Nat→Prop):VI.Le ι dK S:=λi _ =>
 ⟨λj h=>(k.le i (s.lt i j h).1).1 j h,λh=>(k.le i (s.Fz i h).1).2 h⟩
theorem VL.step{R:Nat→Prop}{t:List Nat}{ι dK:VI}{H H':WH}{M M':Heap}(s:VS R ι H M)(k:Stp H.length t ι H M dK H' M'){v a:AV}(h:VL M (OR R ι) ι v a):VL M' (OR R dK) dK v a :=
 VL.mono (k.keep.or R) ι dK v a (k.ayJ s _) h
theorem dW.step{R:Nat→Prop}{t:List Nat}{ι dK:VI}{H H':WH}{M M':Heap}(s:VS R ι H M)(k:Stp H.length t ι H M dK H' M'){v a:List AV}(h:dW M (OR R ι) ι v a):dW M' (OR R dK) dK v a :=
 dW.mono (k.keep.or R) ι dK v a (k.ayJ s _) h
theorem dW.lift{M:Heap}{O:Nat→Prop}{κ:VI}{l r:List AV}(h:dW M O VI.none l r):dW M O κ l r :=
 dW.mono (.refl M O) _ κ l r (VI.Le.ana _ _) h
theorem dW.kap{M:Heap}{O:Nat→Prop}{κ:VI}{sl:Bool}{l r:List AV}(h:dW M O (if sl then VI.none else κ) l r):dW M O κ l r:=by
 cases sl with
 | true=>exact dW.lift h
 | false=>exact h
theorem dW.afw{R:Nat→Prop}{n:Nat}{t:List Nat}{ι dK:VI}{H H':WH}{M M':Heap}(k:Stp n t ι H M dK H' M'){v a:List AV}(h:dW M (OR R ι) VI.none v a):dW M' (OR R dK) VI.none v a :=
 dW.mono (k.keep.or R) VI.none VI.none v a (VI.Le.refl _ _) h
theorem BL.mono{M M':Heap}{O O':Nat→Prop}(hk:Keeps M O M' O'){κ A8:VI}(h:∀S,VI.Le κ A8 S){d d':Option (Nat×Nat)}(hd:∀x,d=some x→d'=some x){x:pJ}{y:Option pJ}(r:BL M O κ d x y):BL M' O' A8 d' x y:=by
 cases x with
 | cells c ro sl =>
  obtain⟨c',t,ro',sl',L,rfl,h0,h1,h2,h3,h4⟩:=r
  refine⟨c',t,ro',sl',L,rfl,h0,hd _ h1,h2, ?_,h4⟩
  cases sl with
  | true=>exact dW.mono hk _ _ c c' (.refl _ _) h3
  | false=>exact dW.mono hk κ A8 c c' (h _) h3
 | map es=>exact r.elim
theorem VS.at {R:Nat→Prop} {ι:VI} {H:WH} {M:Heap} (s:VS R ι H M) {b j:Nat} (hb:ι b=some j) {c:List AV} {ro sl:Bool} (hg:fC H b=some (.cells c ro sl)) :
  ∃c' t ro' sl' L,M.get j=some (.cells (c'++t) ro' sl')∧(ro=false→ro'=false∧ι.gone b=false)∧ι.dim b=some (c.length,L)∧L≤(c'++t).length∧dW M (OR R ι) (if sl then VI.none else ι) c c':=by
 rcases s.blk b _ hg with⟨h,_⟩ |⟨j',h1,⟨c',t,ro',sl',L,h2,h3,h4,h5,h6,_⟩,h7⟩
 ·rw[(s.Fz b h).2]at hb
  cases hb
 ·rw[hb]at h1
  obtain rfl:=av h1
  exact⟨c',t,ro',sl',L,h2,λh=>⟨h3 h,h7 h⟩,h4,h5,h6⟩
theorem VS.ayK{R:Nat→Prop}{ι:VI}{H:WH}{M:Heap}(s:VS R ι H M){b j:Nat}(hb:ι b=some j){c:List AV}{ro sl:Bool}(hg:fC H b=some (.cells c ro sl)){c':List AV}{ro' sl':Bool}(hj:M.get j=some (.cells c' ro' sl'))(h:sl=false):sl'=false:=by
 rcases s.blk b _ hg with⟨h,_⟩ |⟨j',h1,⟨d',t,ro2,sl2,L,h2,h3,h4,h5,h6,h8⟩,h7⟩
 ·rw[(s.Fz b h).2]at hb
  cases hb
 ·rw[hb]at h1
  obtain rfl:=av h1
  rw[hj]at h2
  simp only[aC,pJ.cells.injEq]at h2
  rw[h2.2.2]
  exact h8 h
def setAt{α:Type}(f:Nat→α)(i:Nat)(x:α):Nat→α:=λk=>if k=i then x else f k
def VI.add(ι:VI)(i j:Nat)(d:Nat×Nat):VI:=⟨setAt ι.to i (some j),setAt ι.Yu i false,setAt ι.gone i false,setAt ι.dim i (some d)⟩
def VI.jv(ι:VI)(i:Nat):VI:=⟨setAt ι.to i Option.none,setAt ι.Yu i true,setAt ι.gone i false,setAt ι.dim i (some (0,0))⟩
def VI.kill(ι:VI)(i:Nat):VI:=⟨ι.to,ι.Yu,setAt ι.gone i true,ι.dim⟩
theorem tH{α:Type}(f:Nat→α)(i:Nat)(x:α):setAt f i x i=x:=by simp[setAt]
theorem eu{α:Type}(f:Nat→α){i k:Nat}(x:α)(h:k≠i):setAt f i x k=f k:=by simp[setAt,h]
theorem VS.put {R:Nat→Prop} {ι:VI} {H:WH} {M:Heap} (s:VS R ι H M) {b j:Nat} (hb:ι b=some j) {c0:List AV} {sl0:Bool} (hg:fC H b=some (.cells c0 false sl0)) {x y:pJ} (hx:BL M (OR R ι) ι (ι.dim b) x (some y)) :
  VS R ι (jN H b (some x)) (M.put j (some y))∧Stp H.length [b] ι H M ι (jN H b (some x)) (M.put j (some y)):=by
 obtain⟨_,_,_,_,_,_,hw,_⟩:=s.at hb hg
 have hgo:=(hw rfl).2
 have hbl:=y7 hg
 have hk:Keeps M (own ι) (M.put j (some y)) (own ι):=⟨Nat.le_refl _,λb' _ ho=>⟨by
  have:b'≠j:=λe=>ho (e ▸ ⟨b,hb,hgo⟩)
  simp[Heap.put,this],ho⟩⟩
 have gp:∀k,fC (jN H b (some x)) k=if k=b then some x else fC H k:=λk=>by
  rw[vP]
  by_cases e:k=b
  ·rw[if_pos ⟨e,hbl⟩,if_pos e]
  ·rw[if_neg (λh=>e h.1),if_neg e]
 have lv:∀k,(∃z,fC (jN H b (some x)) k=some z)→∃z,fC H k=some z:=λk ⟨z,hz⟩=>by
  rw[gp]at hz
  by_cases e:k=b
  ·exact⟨_,e ▸ hg⟩
  ·rw[if_neg e]at hz
   exact⟨z,hz⟩
 refine⟨⟨λi j h=>?_,λi i' j h h' e e'=>s.inj i i' j (h.imp (lv i) id) (h'.imp (lv i') id) e e',λi z hz=>?_,λi h=>?_,λi hi c sl h=>?_,λi hi=>?_,λj h=>⟨(s.res j h).1,λi hi=>(s.res j h).2 i (hi.imp (lv i) id)⟩⟩,⟨hk,.refl _ _,λ_ _ h=>h,λ_ _=>rfl,λ_ _=>rfl,λ_ _ _=>rfl,λi _=>lv i,λi j' hi hl hj ht=>?_,by rw[gL];exact Nat.le_refl _⟩⟩
 ·rw[gL]
  exact s.lt i j h
 ·rw[gp]at hz
  by_cases e:i=b
  ·subst e
   rw[if_pos rfl]at hz
   obtain rfl:=av hz
   refine .inr ⟨j,hb, ?_,λ_=>hgo⟩
   simp only[Heap.put,if_true]
   exact hx.mono (hk.or R) (λ_=>.refl _ _) (λ_ h=>h)
  ·rw[if_neg e]at hz
   rcases s.blk i z hz with h |⟨j',h1,h2,h3⟩
   ·exact .inl h
   ·have:j'≠j:=λe'=>e (s.inj i b j (.inl ⟨z,hz⟩) (.inl ⟨_,hg⟩) (e' ▸ h1) hb (.inr hgo))
    refine .inr ⟨j',h1, ?_,h3⟩
    simp only[Heap.put,if_neg this]
    exact h2.mono (hk.or R) (λ_=>.refl _ _) (λ_ h=>h)
 ·rw[gL]
  exact s.Fz i h
 ·rw[gp]at h
  have:i≠b:=λe=>by subst e;rw[hgo]at hi;cases hi
  rw[if_neg this]at h
  exact s.E8 i hi c sl h
 ·have:=(s.lt b j hb).2
  have:i≠j:=λe=>by subst e;simp only[Heap.put]at hi;omega
  simp only[Heap.put,if_neg this]
  exact s.okM i hi
 ·have hib:i≠b:=λe=>ht (by simp[e])
  have:j'≠j:=λe'=>hib (s.inj i b j (hl.imp (lv i) id) (.inl ⟨_,hg⟩) (e' ▸ hj) hb (.inr hgo))
  simp[Heap.put,this]
theorem aqc{ι:VI}{b j:Nat}(h:own (ι.kill b) j):own ι j:=by
 obtain⟨i,h1,h2⟩:=h
 refine⟨i,h1, ?_⟩
 simp only[VI.kill,setAt]at h2
 split at h2
 ·cases h2
 ·exact h2
theorem VS.kill {R:Nat→Prop} {ι:VI} {H:WH} {M:Heap} (s:VS R ι H M) {b j:Nat} (hb:ι b=some j) {c0:List AV} {sl0:Bool} (hg:fC H b=some (.cells c0 false sl0)) (y:Option pJ) :
  VS R (ι.kill b) (jN H b none) (M.put j y)∧Stp H.length [b] ι H M (ι.kill b) (jN H b none) (M.put j y):=by
 obtain⟨_,_,_,_,_,_,hw,_⟩:=s.at hb hg
 have hgo:=(hw rfl).2
 have hbl:=y7 hg
 have hk:Keeps M (own ι) (M.put j y) (own (ι.kill b)):=⟨Nat.le_refl _,λb' _ ho=>⟨by
  have:b'≠j:=λe=>ho (e ▸ ⟨b,hb,hgo⟩)
  simp[Heap.put,this],λk=>ho (aqc k)⟩⟩
 have gp:∀k,fC (jN H b none) k=if k=b then none else fC H k:=λk=>by
  rw[vP]
  by_cases e:k=b
  ·rw[if_pos ⟨e,hbl⟩,if_pos e]
  ·rw[if_neg (λh=>e h.1),if_neg e]
 have lv:∀k,(∃z,fC (jN H b none) k=some z)→k≠b∧∃z,fC H k=some z:=λk ⟨z,hz⟩=>by
  rw[gp]at hz
  by_cases e:k=b
  ·rw[if_pos e]at hz;cases hz
  ·rw[if_neg e]at hz
   exact⟨e,z,hz⟩
 have gk:∀i,(ι.kill b).gone i=false→ι.gone i=false:=λi h=>by
  simp only[VI.kill,setAt]at h
  split at h
  ·cases h
  ·exact h
 have ac:∀i,act (ι.kill b) (jN H b none) i→act ι H i:=λi h=>h.imp (λh=>(lv i h).2) (λh=>by
  simp only[VI.kill,setAt]at h
  split at h
  ·cases h
  ·exact h)
 refine⟨⟨λi j h=>?_,λi i' j h h' e e' g=>s.inj i i' j (ac i h) (ac i' h') e e' (g.imp (λg=>gk i g) (λg=>gk i' g)),λi z hz=>?_,λi h=>?_,λi hi c sl h=>?_,λi hi=>?_,λj h=>⟨(s.res j h).1,λi hi=>(s.res j h).2 i (ac i hi)⟩⟩,⟨hk,λ_ _=>⟨λ_ h=>⟨h,λ_ h=>h⟩,λh=>⟨h,λ_ h=>h⟩⟩,λi _ h=>?_,λ_ _=>rfl,λ_ _=>rfl,λi _ h=>?_,λi _ h=>(lv i h).2,λi j' hi hl hj ht=>?_,by rw[gL];exact Nat.le_refl _⟩⟩
 ·rw[gL]
  exact s.lt i j h
 ·have e:=(lv i ⟨z,hz⟩).1
  rw[gp,if_neg e]at hz
  rcases s.blk i z hz with h |⟨j',h1,h2,h3⟩
  ·exact .inl h
  ·have:j'≠j:=λe'=>e (s.inj i b j (.inl ⟨z,hz⟩) (.inl ⟨_,hg⟩) (e' ▸ h1) hb (.inr hgo))
   refine .inr ⟨j',h1, ?_,λh=>by simp only[VI.kill,eu _ _ e];exact h3 h⟩
   simp only[Heap.put,if_neg this]
   exact BL.mono (κ:=ι) (A8:=ι.kill b) (d:=ι.dim i) (hk.or R) (λ_ _ _=>⟨λ_ h=>⟨h,λ_ h=>h⟩,λh=>⟨h,λ_ h=>h⟩⟩) (λ_ h=>h) h2
 ·rw[gL]
  exact s.Fz i h
 ·have e:=(lv i ⟨_,h⟩).1
  rw[gp,if_neg e]at h
  simp only[VI.kill,eu _ _ e]at hi
  exact s.E8 i hi c sl h
 ·have:=(s.lt b j hb).2
  have:i≠j:=λe=>by subst e;simp only[Heap.put]at hi;omega
  simp only[Heap.put,if_neg this]
  exact s.okM i hi
 ·simp only[VI.kill,setAt]
  split
  ·rfl
  ·exact h
 ·have hib:i≠b:=λe=>by subst e;rw[hg]at h;cases h
  simp only[VI.kill,eu _ _ hib]
 ·have hib:i≠b:=λe=>ht (by simp[e])
  have:j'≠j:=λe'=>hib (s.inj i b j (ac i hl) (.inl ⟨_,hg⟩) (e' ▸ hj) hb (.inr hgo))
  simp[Heap.put,this]
theorem Heap.Wv{M:Heap}{j:Nat}{y:Option pJ}(h:M.get j=y):M.put j y=M:=by
 cases M
 simp only[Heap.put]
 congr 1
 funext i
 by_cases e:i=j
 ·subst e;simp;exact h.symm
 ·simp[e]
theorem azh{R:Nat→Prop}{ι:VI}{H:WH}{M:Heap}(s:VS R ι H M){i:Nat}(hi:H.length≤i)(j:Nat)(d:Nat×Nat)(S:Nat→Prop):VI.Le ι (ι.add i j d) S:=λk _ =>
 ⟨λj' h=>by
  have:k≠i:=by have:=(s.lt k j' h).1;omega
  simp only[VI.add,eu _ _ this]
  exact⟨h,λ_ h=>h⟩,
  λh=>by
  have:k≠i:=by have:=(s.Fz k h).1;omega
  simp only[VI.add,eu _ _ this]
  exact⟨h,λ_ h=>h⟩⟩
theorem an5{R:Nat→Prop}{ι:VI}{H:WH}{M:Heap}(s:VS R ι H M){i:Nat}(hi:H.length≤i)(S:Nat→Prop):VI.Le ι (ι.jv i) S:=λk _ =>
 ⟨λj' h=>by
  have:k≠i:=by have:=(s.lt k j' h).1;omega
  simp only[VI.jv,eu _ _ this]
  exact⟨h,λ_ h=>h⟩,
  λh=>by
  have:k≠i:=by have:=(s.Fz k h).1;omega
  simp only[VI.jv,eu _ _ this]
  exact⟨h,λ_ h=>h⟩⟩
theorem VS.push {R:Nat→Prop} {ι:VI} {H:WH} {M:Heap} (s:VS R ι H M) {x y:pJ} {d:Nat×Nat} (hx:BL M (OR R ι) ι (some d) x (some y)) :
  VS R (ι.add H.length M.next d) (H++[some x]) (M.push y)∧Stp H.length [] ι H M (ι.add H.length M.next d) (H++[some x]) (M.push y):=by
 have hls:=λS=>azh s (Nat.le_refl _) M.next d S
 have hk:Keeps M (own ι) (M.push y) (own (ι.add H.length M.next d)):=⟨Nat.le_succ _,λb hb ho=>⟨by simp[Heap.push,Nat.ne_of_lt hb],λ⟨i,hi,hg⟩=>by
  by_cases e:i=H.length
  ·subst e
   simp only[VI.add,tH,aC]at hi
   omega
  ·simp only[VI.add,eu _ _ e]at hi hg
   exact ho ⟨i,hi,hg⟩⟩⟩
 have ac:∀i,i≠H.length→act (ι.add H.length M.next d) (H++[some x]) i→act ι H i:=λi a h=>by
  rcases h with⟨z,h⟩ | h
  ·rw[uj]at h
   split at h
   ·exact .inl ⟨z,h⟩
   ·first |(cases h;done) |(rw[if_neg a]at h;cases h)
  ·simp only[VI.add,eu _ _ a]at h
   exact .inr h
 refine⟨⟨λi j h=>?_,λi i' j h h' e e' g=>?_,λi z hz=>?_,λi hi=>?_,λi hi c sl h=>?_,λi hi=>?_,λj h=>?_⟩,⟨hk,hls _,λi hi hg=>?_,λi hi=>by simp only[VI.add,eu _ _ (show i≠H.length by omega)],λi hi=>by simp only[VI.add,eu _ _ (show i≠H.length by omega)],λi hi _=>by simp only[VI.add,eu _ _ (show i≠H.length by omega)],λi hi hl=>?_,λi j hi hl hj _=>?_,by simp⟩⟩
 ·by_cases e:i=H.length
  ·subst e
   simp only[VI.add,tH,aC]at h
   simp[Heap.push];omega
  ·simp only[VI.add,eu _ _ e]at h
   have:=s.lt i j h
   simp[Heap.push];omega
 ·by_cases a:i=H.length
  ·by_cases a':i'=H.length
   ·rw[a,a']
   ·rw[a]at e
    simp only[VI.add,tH,aC]at e
    simp only[VI.add,eu _ _ a']at e'
    have:=(s.lt _ _ e').2
    omega
  ·simp only[VI.add,eu _ _ a]at e
   by_cases a':i'=H.length
   ·rw[a']at e'
    simp only[VI.add,tH,aC]at e'
    have:=(s.lt _ _ e).2
    omega
   ·simp only[VI.add,eu _ _ a']at e'
    simp only[VI.add,eu _ _ a',eu _ _ a]at g
    exact s.inj i i' j (ac i a h) (ac i' a' h') e e' g
 ·rw[uj]at hz
  split at hz
  ·rename_i hl
   have e:i≠H.length:=by omega
   rcases s.blk i z hz with⟨h1,h2,h3⟩ |⟨j,h1,h2,h3⟩
   ·exact .inl (by simp only[VI.add,eu _ _ e];exact⟨h1,h2,h3⟩)
   ·have:=(s.lt i j h1).2
    refine .inr ⟨j,by simp only[VI.add,eu _ _ e];exact h1, ?_,by simp only[VI.add,eu _ _ e];exact h3⟩
    simp only[Heap.push,if_neg (show j≠M.next by omega)]
    exact h2.mono (hk.or R) hls (λ_ h=>by simp only[VI.add,eu _ _ e];exact h)
  ·split at hz
   ·rename_i e
    obtain rfl:=av hz
    subst e
    refine .inr ⟨M.next,by simp[VI.add,setAt], ?_,λ_=>by simp[VI.add,setAt]⟩
    simp only[Heap.push,if_true]
    exact hx.mono (hk.or R) hls (λ_ h=>by simpa[VI.add,setAt]using h)
   ·cases hz
 ·by_cases e:i=H.length
  ·subst e
   simp[VI.add,setAt]at hi
  ·simp only[VI.add,eu _ _ e]at hi ⊢
   have:=s.Fz i hi
   exact⟨by simp;omega,this.2⟩
 ·by_cases e:i=H.length
  ·subst e
   simp[VI.add,setAt]at hi
  ·simp only[VI.add,eu _ _ e]at hi
   rw[uj]at h
   split at h
   ·exact s.E8 i hi c sl h
   ·first |(cases h;done) |(rw[if_neg e]at h;cases h)
 ·simp only[Heap.push]at hi ⊢
  rw[if_neg (by omega)]
  exact s.okM i (by omega)
 ·obtain⟨h1,h2⟩:=s.res j h
  refine⟨by simp only[Heap.push];omega,λi hi=>?_⟩
  by_cases e:i=H.length
  ·subst e
   simp only[VI.add,tH,ne_eq,aC]
   omega
  ·have:=h2 i (ac i e hi)
   simp only[VI.add,eu _ _ e]
   exact this
 ·simp only[VI.add,eu _ _ (show i≠H.length by omega)]
  exact hg
 ·obtain⟨z,hl⟩:=hl
  rw[uj,if_pos hi]at hl
  exact⟨z,hl⟩
 ·simp[Heap.push,show j≠M.next from by have:=(s.lt i j hj).2;omega]
theorem VS.auS {R:Nat→Prop} {ι:VI} {H:WH} {M:Heap} (s:VS R ι H M) :
  VS R (ι.jv H.length) (H++[some (.cells [] false true)]) M∧Stp H.length [] ι H M (ι.jv H.length) (H++[some (.cells [] false true)]) M:=by
 have hls:=λS=>an5 s (Nat.le_refl _) S
 have ho:∀j,own (ι.jv H.length) j→own ι j:=λj ⟨i,hi,hg⟩=>by
  by_cases e:i=H.length
  ·subst e
   simp[VI.jv,tH]at hi
  ·simp only[VI.jv,eu _ _ e]at hi hg
   exact⟨i,hi,hg⟩
 have hk:Keeps M (own ι) M (own (ι.jv H.length)):=⟨Nat.le_refl _,λb hb h=>⟨rfl,λk=>h (ho b k)⟩⟩
 have ac:∀i,i≠H.length→act (ι.jv H.length) (H++[some (.cells [] false true)]) i→act ι H i:=λi a h=>by
  rcases h with⟨z,h⟩ | h
  ·rw[uj]at h
   split at h
   ·exact .inl ⟨z,h⟩
   ·first |(cases h;done) |(rw[if_neg a]at h;cases h)
  ·simp only[VI.jv,eu _ _ a]at h
   exact .inr h
 refine⟨⟨λi j h=>?_,λi i' j h h' e e' g=>?_,λi z hz=>?_,λi hi=>?_,λi hi c sl h=>?_,s.okM,λj h=>⟨(s.res j h).1,λi hi=>?_⟩⟩,⟨hk,hls _,λi hi hg=>?_,λi hi=>by simp only[VI.jv,eu _ _ (show i≠H.length by omega)],λi hi=>by simp only[VI.jv,eu _ _ (show i≠H.length by omega)],λi hi _=>by simp only[VI.jv,eu _ _ (show i≠H.length by omega)],λi hi hl=>?_,λi j hi hl hj _=>rfl,by simp⟩⟩
 ·by_cases e:i=H.length
  ·subst e
   simp[VI.jv,tH]at h
  ·simp only[VI.jv,eu _ _ e]at h
   have:=s.lt i j h
   simp;omega
 ·have a:i≠H.length:=λa=>by subst a;simp[VI.jv,tH]at e
  have a':i'≠H.length:=λa=>by subst a;simp[VI.jv,tH]at e'
  exact s.inj i i' j (ac i a h) (ac i' a' h') (by simpa only[VI.jv,eu _ _ a]using e) (by simpa only[VI.jv,eu _ _ a']using e') (by simpa only[VI.jv,eu _ _ a',eu _ _ a]using g)
 ·rw[uj]at hz
  split at hz
  ·rename_i hl
   have e:i≠H.length:=by omega
   rcases s.blk i z hz with⟨h1,h2,h3⟩ |⟨j,h1,h2,h3⟩
   ·exact .inl (by simp only[VI.jv,eu _ _ e];exact⟨h1,h2,h3⟩)
   ·exact .inr ⟨j,by simp only[VI.jv,eu _ _ e];exact h1,h2.mono (hk.or R) hls (λ_ h=>by simp only[VI.jv,eu _ _ e];exact h),by simp only[VI.jv,eu _ _ e];exact h3⟩
  ·split at hz
   ·rename_i e
    obtain rfl:=av hz
    subst e
    exact .inl ⟨by simp[VI.jv,setAt],by simp[VI.jv,setAt],false,rfl⟩
   ·cases hz
 ·by_cases e:i=H.length
  ·subst e
   simp[VI.jv,setAt]
  ·simp only[VI.jv,eu _ _ e]at hi ⊢
   have:=s.Fz i hi
   exact⟨by simp;omega,this.2⟩
 ·by_cases e:i=H.length
  ·subst e
   simp[VI.jv,setAt]at hi
  ·simp only[VI.jv,eu _ _ e]at hi
   rw[uj]at h
   split at h
   ·exact s.E8 i hi c sl h
   ·first |(cases h;done) |(rw[if_neg e]at h;cases h)
 ·by_cases e:i=H.length
  ·subst e
   simp[VI.jv,tH]
  ·have:=(s.res j h).2 i (ac i e hi)
   simp only[VI.jv,eu _ _ e]
   exact this
 ·simp only[VI.jv,eu _ _ (show i≠H.length by omega)]
  exact hg
 ·obtain⟨z,hl⟩:=hl
  rw[uj,if_pos hi]at hl
  exact⟨z,hl⟩
theorem VS.anb{R:Nat→Prop}{ι:VI}{H:WH}{M:Heap}(s:VS R ι H M){b:Nat}(hb:ι.Yu b=true):VS R ι (jN H b none) M∧Stp H.length [b] ι H M ι (jN H b none) M:=by
 have lv:∀k,(∃z,fC (jN H b none) k=some z)→k≠b∧∃z,fC H k=some z:=λk ⟨z,hz⟩=>by
  rw[vP]at hz
  split at hz
  ·cases hz
  ·rename_i h
   exact⟨λe=>h ⟨e,(s.Fz b hb).1⟩,z,hz⟩
 have gn:∀k,k≠b→fC (jN H b none) k=fC H k:=λk h=>by rw[vP,if_neg (λe=>h e.1)]
 refine⟨⟨λi j h=>by rw[gL];exact s.lt i j h,λi i' j h h' e e'=>s.inj i i' j (h.imp (λh=>(lv i h).2) id) (h'.imp (λh=>(lv i' h).2) id) e e',λi z hz=>?_,λi h=>by rw[gL];exact s.Fz i h,λi hi c sl h=>?_,s.okM,λj h=>⟨(s.res j h).1,λi hi=>(s.res j h).2 i (hi.imp (λh=>(lv i h).2) id)⟩⟩,⟨.refl _ _,.refl _ _,λ_ _ h=>h,λ_ _=>rfl,λ_ _=>rfl,λ_ _ _=>rfl,λi _ h=>(lv i h).2,λ_ _ _ _ _ _=>rfl,by rw[gL];exact Nat.le_refl _⟩⟩
 ·have e:=(lv i ⟨z,hz⟩).1
  rw[gn i e]at hz
  exact s.blk i z hz
 ·have e:=(lv i ⟨_,h⟩).1
  rw[gn i e]at h
  exact s.E8 i hi c sl h
theorem VS.swap {R:Nat→Prop} {ι:VI} {H:WH} {M:Heap} (s:VS R ι H M) {b j:Nat} (hb:ι b=some j) {c0:List AV} {sl0:Bool} (hg:fC H b=some (.cells c0 false sl0)) {x y:pJ} {d:Nat×Nat} (hx:BL M (OR R ι) ι (some d) x (some y)) :
  VS R ((ι.kill b).add H.length j d) (jN H b none++[some x]) (M.put j (some y))∧Stp H.length [b] ι H M ((ι.kill b).add H.length j d) (jN H b none++[some x]) (M.put j (some y))∧((ι.kill b).add H.length j d) H.length=some j:=by
 obtain⟨_,_,_,_,_,_,hw,_⟩:=s.at hb hg
 have hgo:=(hw rfl).2
 have hbl:=y7 hg
 have hj:=(s.lt b j hb).2
 have hto:∀i,i≠H.length→((ι.kill b).add H.length j d) i=ι i:=λi e=>by simp only[VI.add,VI.kill,eu _ _ e]
 have azi:∀i,i≠H.length→((ι.kill b).add H.length j d).Yu i=ι.Yu i:=λi e=>by simp only[VI.add,VI.kill,eu _ _ e]
 have aqd:∀i,i≠H.length→((ι.kill b).add H.length j d).dim i=ι.dim i:=λi e=>by simp only[VI.add,VI.kill,eu _ _ e]
 have hgn:∀i,i≠H.length→i≠b→((ι.kill b).add H.length j d).gone i=ι.gone i:=λi e e'=>by simp only[VI.add,VI.kill,eu _ _ e,eu _ _ e']
 have hself:((ι.kill b).add H.length j d) H.length=some j:=by simp[VI.add,setAt]
 have ho:∀k,own ((ι.kill b).add H.length j d) k→own ι k:=λk ⟨i,hi,hg'⟩=>by
  by_cases e:i=H.length
  ·subst e
   rw[hself]at hi
   obtain rfl:=av hi
   exact⟨b,hb,hgo⟩
  ·rw[hto i e]at hi
   by_cases e':i=b
   ·subst e'
    exact⟨i,hi,hgo⟩
   ·rw[hgn i e e']at hg'
    exact⟨i,hi,hg'⟩
 have hls:∀S,VI.Le ι ((ι.kill b).add H.length j d) S:=λS k _ =>
  ⟨λj' h=>by
   have:k≠H.length:=by have:=(s.lt k j' h).1;omega
   rw[hto k this,aqd k this]
   exact⟨h,λ_ h=>h⟩,
   λh=>by
   have:k≠H.length:=by have:=(s.Fz k h).1;omega
   rw[azi k this,aqd k this]
   exact⟨h,λ_ h=>h⟩⟩
 have hk:Keeps M (own ι) (M.put j (some y)) (own ((ι.kill b).add H.length j d)):=⟨Nat.le_refl _,λb' _ h=>⟨by
  have:b'≠j:=λe=>h (e ▸ ⟨b,hb,hgo⟩)
  simp[Heap.put,this],λk=>h (ho b' k)⟩⟩
 have gp:∀k,fC (jN H b none++[some x]) k=if k=H.length then some x else if k=b then none else fC H k:=λk=>by
  rw[uj,gL,vP]
  by_cases e:k<H.length
  ·rw[if_pos e,if_neg (show k≠H.length by omega)]
   by_cases e':k=b
   ·rw[if_pos ⟨e',hbl⟩,if_pos e']
   ·rw[if_neg (λh=>e' h.1),if_neg e']
  ·rw[if_neg e]
   by_cases e':k=H.length
   ·rw[if_pos e',if_pos e']
   ·rw[if_neg e',if_neg e',if_neg (show k≠b by omega),agQ (by omega)]
 have lv:∀k,k≠H.length→(∃z,fC (jN H b none++[some x]) k=some z)→k≠b∧∃z,fC H k=some z:=λk hn ⟨z,hz⟩=>by
  rw[gp,if_neg hn]at hz
  by_cases e:k=b
  ·rw[if_pos e]at hz;cases hz
  ·rw[if_neg e]at hz
   exact⟨e,z,hz⟩
 have ac:∀i,i≠H.length→act ((ι.kill b).add H.length j d) (jN H b none++[some x]) i→i≠b∧act ι H i:=λi a h=>by
  rcases h with h | h
  ·exact⟨(lv i a h).1,.inl (lv i a h).2⟩
  ·have e':i≠b:=λe'=>by subst e';simp[VI.add,VI.kill,setAt,a]at h
   rw[hgn i a e']at h
   exact⟨e',.inr h⟩
 refine⟨⟨λi k h=>?_,λi i' k h h' e e' g=>?_,λi z hz=>?_,λi hi=>?_,λi hi c sl h=>?_,λi hi=>?_,λk h=>⟨(s.res k h).1,λi hi=>?_⟩⟩,⟨hk,hls _,λi hi h=>?_,λi hi=>hto i (by omega),λi hi=>aqd i (by omega),λi hi h=>hgn i (by omega) (λe=>by subst e;rw[hg]at h;cases h),λi hi h=>(lv i (by omega) h).2,λi k hi hl hk' ht=>?_,by simp[gL]⟩,hself⟩
 ·simp only[aD,gL,List.length_singleton,Heap.put]
  by_cases e:i=H.length
  ·subst e
   rw[hself]at h
   obtain rfl:=av h
   omega
  ·rw[hto i e]at h
   have:=s.lt i k h
   omega
 ·by_cases a:i=H.length
  ·by_cases a':i'=H.length
   ·rw[a,a']
   ·rw[a,hself]at e
    obtain rfl:=av e
    rw[hto i' a']at e'
    obtain⟨q1,q2⟩:=ac i' a' h'
    exact absurd (s.inj i' b j q2 (.inl ⟨_,hg⟩) e' hb (.inr hgo)) q1
  ·rw[hto i a]at e
   obtain⟨q1,q2⟩:=ac i a h
   by_cases a':i'=H.length
   ·rw[a',hself]at e'
    obtain rfl:=av e'
    exact absurd (s.inj i b j q2 (.inl ⟨_,hg⟩) e hb (.inr hgo)) q1
   ·rw[hto i' a']at e'
    obtain⟨q3,q4⟩:=ac i' a' h'
    rw[hgn i a q1,hgn i' a' q3]at g
    exact s.inj i i' k q2 q4 e e' g
 ·by_cases e:i=H.length
  ·subst e
   rw[gp,if_pos rfl]at hz
   obtain rfl:=av hz
   refine .inr ⟨j,hself, ?_,λ_=>by simp[VI.add,setAt]⟩
   simp only[Heap.put,if_true]
   exact hx.mono (hk.or R) hls (λ_ h=>by simpa[VI.add,setAt]using h)
  ·obtain⟨q1,q2⟩:=lv i e ⟨z,hz⟩
   rw[gp,if_neg e,if_neg q1]at hz
   rcases s.blk i z hz with⟨h1,h2,h3⟩ |⟨k,h1,h2,h3⟩
   ·exact .inl ⟨by rw[azi i e];exact h1,by rw[aqd i e];exact h2,h3⟩
   ·have:k≠j:=λe'=>q1 (s.inj i b j (.inl ⟨z,hz⟩) (.inl ⟨_,hg⟩) (e' ▸ h1) hb (.inr hgo))
    refine .inr ⟨k,by rw[hto i e];exact h1, ?_,by rw[hgn i e q1];exact h3⟩
    simp only[Heap.put,if_neg this]
    exact h2.mono (hk.or R) hls (λ_ h=>by rw[aqd i e];exact h)
 ·by_cases e:i=H.length
  ·subst e
   simp[VI.add,setAt]at hi
  ·rw[azi i e]at hi
   have:=s.Fz i hi
   rw[hto i e]
   exact⟨by simp[gL];omega,this.2⟩
 ·by_cases e:i=H.length
  ·subst e
   simp[VI.add,setAt]at hi
  ·obtain⟨q1,q2⟩:=lv i e ⟨_,h⟩
   rw[gp,if_neg e,if_neg q1]at h
   rw[hgn i e q1]at hi
   exact s.E8 i hi c sl h
 ·have:i≠j:=λe=>by subst e;simp only[Heap.put]at hi;omega
  simp only[Heap.put,if_neg this]
  exact s.okM i hi
 ·by_cases e:i=H.length
  ·subst e
   rw[hself]
   intro e'
   obtain rfl:=av e'
   exact(s.res j h).2 b (.inl ⟨_,hg⟩) hb
  ·rw[hto i e]
   exact(s.res k h).2 i (ac i e hi).2
 ·by_cases e':i=b
  ·subst e'
   simp[VI.add,VI.kill,setAt,show i≠H.length by omega]
  ·rw[hgn i (by omega) e']
   exact h
 ·obtain⟨q1,q2⟩:=ac i (by omega) hl
  have:k≠j:=λe'=>q1 (s.inj i b j q2 (.inl ⟨_,hg⟩) (e' ▸ hk') hb (.inr hgo))
  simp[Heap.put,this]
theorem Qx{M:Heap}{O:Nat→Prop}{κ:VI}:∀ {l l':List AV} {s:List UInt8},dW M O κ l l'→mU l=some s→mU l'=some s
 | [],l',s,h,e=>by
  cases l' with
  | nil=>exact e
  | cons _ _=>simp[dW]at h
 | v::l,l',s,h,e=>by
  cases l' with
  | nil=>simp[dW]at h
  | cons v' l' =>
   simp only[dW]at h
   cases v<;>(try simp only[mU]at e)<;>first |(cases e;done) | skip
   rename_i k n
   cases k<;>(try simp only[mU]at e)<;>first |(cases e;done) | skip
   rw[h.1.eq rfl]
   simp only[mU]
   obtain⟨t,h1,rfl⟩:=aH.1 e
   rw[Qx h.2 h1]
   rfl
theorem Ww{w:Bool}{c:List AV}{o m:Nat}(h:o+m≤c.length)(hw:w=true→o=0∧m=c.length):(aiu w c o m).length=m:=by
 cases w with
 | true=>exact(hw rfl).2.symm
 | false=>simp only[aiu,bf,aZ];omega
theorem Wx {M:Heap} {O:Nat→Prop} {κ:VI} {w:Bool} {c c' t:List AV} {o m:Nat} (r:dW M O κ c c') (h:o+m≤c.length) (hw:w=true→o=0∧m=c.length) :
  dW M O κ (aiu w c o m) (((c'++t).drop o).take m):=by
 have hl:=r.length
 have e:((c'++t).drop o).take m=(c'.drop o).take m:=by
  rw[List.drop_append_of_le_length (by omega),List.take_append_of_le_length (by simp only[aZ];omega)]
 rw[e]
 cases w with
 | true =>
  obtain⟨rfl,rfl⟩:=hw rfl
  rw[List.drop_zero,List.take_of_length_le (by omega)]
  exact r
 | false=>exact(r.drop o).take m
theorem VL.Bp {R:Nat→Prop} {ι:VI} {H:WH} {M:Heap} (s:VS R ι H M) {b o sz n:Nat} {w:Bool} {a:AV} (h:VL M (OR R ι) ι (.acc b o sz n w) a) {c:List AV} {ro sl:Bool} (hg:fC H b=some (.cells c ro sl)) :
  o+n*sz≤c.length∧(w=true→o=0∧n*sz=c.length)∧∃p s' cap ex,a=.slice p s' n cap ex∧n≤cap∧(p≠none→s'=sz) ∧
   ((∃j c' t ro' sl' L,ι b=some j∧M.get j=some (.cells (c'++t) ro' sl')∧(ro=false→ro'=false∧ι.gone b=false)∧ι.dim b=some (c.length,L)∧L≤(c'++t).length∧dW M (OR R ι) (if sl then VI.none else ι) c c'∧p=some (j,o)∧o+cap*sz≤L) ∨
    (n=0∧cap=0∧ex=true∧((∃j c' t ro' sl' L,ι b=some j∧M.get j=some (.cells (c'++t) ro' sl')∧(ro=false→ro'=false∧ι.gone b=false)∧ι.dim b=some (c.length,L)∧L≤(c'++t).length∧dW M (OR R ι) (if sl then VI.none else ι) c c')∨(ι.Yu b=true∧c=[]∧sl=true)))):=by
 simp only[VL]at h
 obtain⟨p,s',cap,ex,rfl,h1,h2,h3,m,L,h4,h5,h6,h7⟩:=h
 rcases h7 with⟨j,k1,k2⟩ |⟨k1,k2,k3,k4,k5⟩
 ·obtain⟨c',t,ro',sl',L',g1,g2,g3,g4,g5⟩:=s.at k1 hg
  rw[h4]at g3
  simp only[aC,aS]at g3
  obtain⟨rfl,rfl⟩:=g3
  refine⟨h5,h6,p,s',cap,ex,rfl,h1,h3, ?_⟩
  rcases k2 with⟨k2,k3⟩ |⟨k2,k3,k4⟩
  ·exact .inl ⟨j,c',t,ro',sl',L,k1,g1,g2,h4,g4,g5,k2,k3⟩
  ·exact .inr ⟨k2,k3,k4,.inl ⟨j,c',t,ro',sl',L,k1,g1,g2,h4,g4,g5⟩⟩
 ·rcases s.blk b _ hg with⟨q1,q2,ro',q3⟩ |⟨j,q1,_⟩
  ·cases q3
   rw[h4]at q2
   simp only[aC,aS]at q2
   obtain⟨rfl,rfl⟩:=q2
   exact⟨h5,h6,p,s',cap,ex,rfl,h1,h3,.inr ⟨k2,k3,k4,.inr ⟨k1,rfl,rfl⟩⟩⟩
  ·rw[(s.Fz b k1).2]at q1
   cases q1
theorem afx{R:Nat→Prop}{ι:VI}{H:WH}{M:Heap}(s:VS R ι H M){ρ σ:Nat→AV}(h:∀t,VL M (OR R ι) ι (ρ t) (σ t)){o:Ew}(hc:o.bW=true){v:AV}(hv:wL (o.sub ρ) H=some v):∃a,aL (o.sub σ) [] M=some a∧VL M (OR R ι) ι v a:=by
 cases o with
 | load agg n x =>
  have hx:=gX h hc
  simp only[Ew.sub,wL,aL]at hv ⊢
  generalize (x.sub ρ).ev []=X at *
  generalize (x.sub σ).ev []=Y at *
  split at hv
  ·cases hv
  rename_i hn0
  cases X with
  | elem cs =>
   simp only[VL]at hx
   obtain⟨b,o,c,ro,sl,rfl,g1,g2,g3,g4⟩:=hx
   simp only at hv
   have key:∀g m,CJ g 0 m cs=some v→(g=true→0<m)→∃a,Kn g m (.ptr (some (b,o))) M=some a∧VL M (OR R ι) ι v a:=by
    intro g m hp hm
    obtain⟨h1,h2⟩:=acd hp
    cases g with
    | true =>
     simp only[GZ,if_true,aC,List.drop_zero]at h1
     subst h1
     have hle:=h2 rfl
     simp only[List.drop_zero]at hle
     have hlen:=g4.length
     have hco:o+m≤c.length:=by
      have:=hm rfl
      simp only[bf,aZ]at hlen
      omega
     refine⟨.agg ((c.drop o).take m), ?_, ?_⟩
     ·simp only[Kn,if_true,Heap.read,g1]
      rw[if_pos hco]
      rfl
     ·simp only[VL]
      refine⟨_,rfl, ?_⟩
      have:=(g4.take m).lift (κ:=ι)
      rwa [List.take_take,Nat.min_eq_left hle]at this
    | false =>
     simp only[GZ,Bool.false_eq_true,if_false]at h1
     obtain⟨a,h3,h4⟩:=g4.get 0 v h1
     refine⟨a, ?_,VL.mono (.refl _ _) _ _ _ _ (VI.Le.ana _ _) h4⟩
     simp only[Kn,Bool.false_eq_true,if_false,g1]
     rw[List.getElem?_take,List.getElem?_drop]at h3
     split at h3
     ·simpa using h3
     ·cases h3
   refine key agg n hv λe=>?_
   subst e
   simp only[Bool.true_and]at hn0
   exact Nat.pos_of_ne_zero λe=>by subst e;simp at hn0
  | ptr p =>
   cases p with
   | none=>simp at hv
   | some q =>
    simp only[VL]at hx
    obtain⟨j,h1,rfl⟩:=hx
    simp only at hv
    split at hv
    case h_2=>cases hv
    rename_i c ro sl hg
    obtain⟨c',t,ro',sl',L,h2,_,_,_,h3⟩:=s.at h1 hg
    obtain⟨h4,h5⟩:=acd hv
    have hl:=h3.length
    cases agg with
    | true =>
     simp only[GZ,if_true,aC]at h4
     subst h4
     have:=h5 rfl
     simp only[aZ]at this
     have hn:n≠0:=λe=>by subst e;simp at hn0
     refine⟨.agg ((c'.drop q.2).take n), ?_,by simp only[VL];exact⟨_,rfl,(h3.kap.drop _).take _⟩⟩
     simp only[Kn,if_true,Heap.read,h2]
     rw[if_pos (by simp only[aD];omega),List.drop_append_of_le_length (by omega),List.take_append_of_le_length (by simp only[aZ];omega)]
     rfl
    | false =>
     simp only[GZ,Bool.false_eq_true,if_false]at h4
     obtain⟨a,h6,h7⟩:=h3.kap.get _ _ h4
     refine⟨a, ?_,h7⟩
     simp only[Kn,Bool.false_eq_true,if_false,h2]
     rw[List.getElem?_append_left (by rw[←hl];exact(aY.1 h4).1)]
     exact h6
  | _=>simp at hv
 | oh x =>
  have hx:=gX h hc
  simp only[Ew.sub,wL,aL]at hv ⊢
  generalize (x.sub ρ).ev []=X at *
  generalize (x.sub σ).ev []=Y at *
  split at hv
  ·obtain⟨t,h1,rfl⟩:=aH.1 hv
   simp only[VL]at hx
   rcases hx with⟨_,rfl,s',rfl⟩ |⟨b,o,cap,ex',rfl,q1,q2,q3,q4⟩
   ·simp only[mU,aC]at h1
    subst h1
    exact⟨.str [],rfl,by simp[VL]⟩
   ·refine⟨.str t, ?_,by simp[VL]⟩
    simp only[yQ]
    split
    ·rename_i hl
     subst hl
     have:‹List AV›=[]:=List.eq_nil_of_length_eq_zero (by simpa using q3)
     subst this
     simp only[mU,aC]at h1
     rw[h1]
    ·rename_i hl
     obtain⟨c,ro,sl,g1,g2,g3,g4,g5⟩:=q4 hl
     simp only[Nat.mul_one]at g4 g5
     simp only[Heap.read,g1,if_pos g4,ak,Qx g5 h1,bH]
  ·split at hv
   case h_2=>cases hv
   rename_i b off n w _ c ro sl hg
   obtain⟨t,h1,rfl⟩:=aH.1 hv
   obtain⟨k1,k2,p,s',cap,ex,rfl,k3,k4,k5⟩:=VL.Bp s hx hg
   simp only[Nat.mul_one]at k1 k2
   refine⟨.str t, ?_,by simp[VL]⟩
   have hn0:n=0→t=[]:=λe=>by
    subst e
    have:(aiu w c off 0).length=0:=Ww k1 k2
    rw[List.eq_nil_of_length_eq_zero this]at h1
    simpa[mU]using h1.symm
   rcases k5 with⟨j,c',t',ro',sl',L,g1,g2,g3,g4,g5,g6,rfl,g7⟩ |⟨rfl,rfl,rfl,g⟩
   ·obtain rfl:=k4 (by simp)
    simp only[yQ]
    split
    ·rename_i hl
     rw[hn0 hl]
    ·have hl:=g6.length
     simp only[Nat.mul_one]at g7
     have:=Qx (Wx (t:=t') g6.kap k1 k2) h1
     simp only[Heap.read,g2,if_pos (show off+n≤(c'++t').length by simp only[aD];omega),ak,this,bH]
   ·rw[hn0 rfl]
    cases p with
    | none=>rfl
    | some p =>
     obtain rfl:=k4 (by simp)
     simp[yQ]
  ·obtain rfl:=av hv
   simp only[VL]at hx
   obtain⟨_,s',rfl⟩:=hx
   exact⟨.str [],rfl,by simp[VL]⟩
  ·cases hv
 | NP x=>simp[Ew.sub,wL]at hv
 | lookup ok z x w=>simp[Ew.sub,wL]at hv
theorem FB:∀ {l:List Nat} {b:Nat},yY l b=true↔b∈l
 | [],b=>by simp[yY]
 | a::r,b=>by
  simp only[yY,List.mem_cons]
  cases h:Nat.beq a b with
  | true=>simp[bT h]
  | false =>
   have:b≠a:=λe=>by subst e;simp at h
   simp only
   rw[FB (l:=r)]
   simp[this]
def VI.E8(ι:VI)(S:List Nat):VI:=⟨ι.to,ι.Yu,λi=>ι.gone i||yY S i,ι.dim⟩
theorem abF{ι:VI}{S:List Nat}{j:Nat}(h:own (ι.E8 S) j):own ι j:=by
 obtain⟨i,h1,h2⟩:=h
 simp only[VI.E8,Bool.or_eq_false_iff]at h2
 exact⟨i,h1,h2.1⟩
theorem Mr:∀(S:List Nat) (H:WH) (i:Nat),fC (NZ H S) i=if yY S i=true then aaA (fC H i)else fC H i
 | [],H,i=>by simp[NZ,yY]
 | b::S,H,i=>by
  simp only[NZ,Mr S,vP,yY]
  have ib:∀x:Option pJ,aaA (aaA x)=aaA x:=λx=>by
   cases x with
   | none=>rfl
   | some x=>cases x<;>rfl
  by_cases e:i=b
  ·subst e
   simp only[Nat.beq_refl]
   by_cases hl:i<H.length
   ·simp only[hl,and_self,if_true]
    split<;>simp[ib]
   ·simp only[hl,and_false,if_false,agQ (Nat.le_of_not_lt hl)]
    split<;>simp[aaA]
  ·have:Nat.beq b i=false:=by
    cases hh:Nat.beq b i with
    | false=>rfl
    | true=>exact absurd (bT hh).symm e
   simp[this,e]
theorem Af:∀(S:List Nat) (H:WH),(NZ H S).length=H.length
 | [],H=>rfl
 | b::S,H=>by simp only[NZ,Af S,gL]
theorem Yw{x:Option pJ}{y:pJ}(h:aaA x=some y):∃z,x=some z∧(y=z∨∃c ro sl,z=.cells c ro sl∧y=.cells c true sl):=by
 cases x with
 | none=>simp[aaA]at h
 | some z =>
  cases z with
  | cells c ro sl=>simp only[aaA,aC]at h;exact⟨_,rfl,.inr ⟨c,ro,sl,rfl,h.symm⟩⟩
  | map es=>simp only[aaA,aC]at h;exact⟨_,rfl,.inl h.symm⟩
theorem agR(ι:VI)(S:List Nat)(T:Nat→Prop):VI.Le ι (ι.E8 S) T:=λ_ _=>⟨λ_ h=>⟨h,λ_ h=>h⟩,λh=>⟨h,λ_ h=>h⟩⟩
theorem VS.an6{R:Nat→Prop}{ι:VI}{H:WH}{M:Heap}(s:VS R ι H M)(S:List Nat)(hS:∀b∈S,∃x,fC H b=some x):VS R (ι.E8 S) (NZ H S) M∧Stp H.length [] ι H M (ι.E8 S) (NZ H S) M:=by
 have hk:Keeps M (own ι) M (own (ι.E8 S)):=⟨Nat.le_refl _,λb _ h=>⟨rfl,λk=>h (abF k)⟩⟩
 have lv:∀k,(∃z,fC (NZ H S) k=some z)→∃z,fC H k=some z:=λk ⟨z,hz⟩=>by
  rw[Mr]at hz
  split at hz
  ·obtain⟨y,hy,_⟩:=Yw hz
   exact⟨y,hy⟩
  ·exact⟨z,hz⟩
 have ac:∀i,act (ι.E8 S) (NZ H S) i→act ι H i:=λi h=>h.imp (lv i) (λh=>by
  simp only[VI.E8,Bool.or_eq_false_iff]at h
  exact h.1)
 refine⟨⟨λi j h=>by rw[Af];exact s.lt i j h,λi i' j h h' e e' g=>s.inj i i' j (ac i h) (ac i' h') e e' (g.imp (λg=>by simp only[VI.E8,Bool.or_eq_false_iff]at g;exact g.1) (λg=>by simp only[VI.E8,Bool.or_eq_false_iff]at g;exact g.1)),λi z hz=>?_,λi h=>by rw[Af];exact s.Fz i h,λi hi c sl h=>?_,s.okM,λj h=>⟨(s.res j h).1,λi hi=>(s.res j h).2 i (ac i hi)⟩⟩,
  ⟨hk,agR _ _ _,λi _ h=>by simp only[VI.E8,h,Bool.true_or],λ_ _=>rfl,λ_ _=>rfl,λi _ h=>by
   have:yY S i=false:=by
    cases e:yY S i with
    | false=>rfl
    | true=>obtain⟨x,hx⟩:=hS i (FB.1 e);rw[h]at hx;cases hx
   simp only[VI.E8,this,Bool.or_false],λi _=>lv i,λ_ _ _ _ _ _=>rfl,by rw[Af];exact Nat.le_refl _⟩⟩
 ·have hbl:∀ {d x y},BL M (OR R ι) ι d x y→BL M (OR R (ι.E8 S)) (ι.E8 S) d x y:=λh=>BL.mono (κ:=ι) (A8:=ι.E8 S) (hk.or R) (λT=>agR _ _ _) (λ_ h=>h) h
  rw[Mr]at hz
  split at hz
  ·rename_i hS
   obtain⟨y,hy,h⟩:=Yw hz
   rcases s.blk i y hy with⟨h1,h2,ro,h3⟩ |⟨j,h1,h2,h3⟩
   ·rcases h with rfl |⟨c,ro',sl,rfl,rfl⟩
    ·exact .inl ⟨h1,h2,ro,h3⟩
    ·cases h3
     exact .inl ⟨h1,h2,true,rfl⟩
   ·rcases h with rfl |⟨c,ro',sl,rfl,rfl⟩
    ·cases z with
     | cells c ro' sl =>
      rw[hy]at hz
      simp only[aaA,aC,pJ.cells.injEq]at hz
      obtain⟨_,rfl,_⟩:=hz
      exact .inr ⟨j,h1,hbl h2,λh=>by cases h⟩
     | map es=>exact h2.elim
    ·obtain⟨c',t,aB0,sl',L,g1,g2,g3⟩:=h2
     exact .inr ⟨j,h1,hbl ⟨c',t,aB0,sl',L,g1,(λh=>by cases h),g3⟩,λh=>by cases h⟩
  ·rename_i hS
   rcases s.blk i z hz with h |⟨j,h1,h2,h3⟩
   ·exact .inl h
   ·refine .inr ⟨j,h1,hbl h2,λh=>?_⟩
    simp only[VI.E8,h3 h,Bool.false_or]
    simpa using hS
 ·rw[Mr]at h
  simp only[VI.E8,Bool.or_eq_true]at hi
  split at h
  ·obtain⟨y,hy,h'⟩:=Yw h
   rcases h' with rfl |⟨_,_,_,_,h'⟩
   ·rw[hy]at h
    simp[aaA]at h
   ·cases h'
  ·rename_i hS
   exact s.E8 i (hi.resolve_right hS) c sl h
theorem Yx{g:AV→Option (AV×List Nat)}{v:AV}{l:List AV}{p:List AV×List Nat}(h:NY g (v::l)=some p):∃q r,g v=some q∧NY g l=some r∧p=(q.1::r.1,q.2++r.2):=by
 simp only[NY]at h
 split at h
 ·rename_i q r h1 h2
  exact⟨q,r,h1,h2,(av h).symm⟩
 ·cases h
def Wy(nested:Bool)(κ:VI):VI:=if nested then VI.none else κ
theorem acf {M:Heap} {O O':Nat→Prop} {κ A8:VI} {g:AV→Option (AV×List Nat)} {P:Nat→Prop} {nested:Bool}
  (hg:∀v p a,g v=some p→VL M O κ v a→(∀b∈p.2,P b)→VL M O' (Wy nested A8) p.1 a) :
  ∀(l:List AV) (p:List AV×List Nat) (r:List AV),NY g l=some p→dW M O κ l r→(∀b∈p.2,P b)→dW M O' (Wy nested A8) p.1 r
 | [],p,r,h,hr,_=>by
  simp only[NY,aC]at h
  subst h
  cases r with
  | nil=>simp[dW]
  | cons _ _=>simp[dW]at hr
 | v::l,p,r,h,hr,hP=>by
  obtain⟨q,q',h1,h2,rfl⟩:=Yx h
  cases r with
  | nil=>simp[dW]at hr
  | cons a r =>
   simp only[dW]at hr ⊢
   exact⟨hg v q a h1 hr.1 (λb hb=>hP b (by simp[hb])),acf hg l q' r h2 hr.2 (λb hb=>hP b (by simp[hb]))⟩
theorem BZ{g:AV→Option (AV×List Nat)}{P:Nat→Prop}(hg:∀v p,g v=some p→∀b∈p.2,P b):∀(l:List AV) (p:List AV×List Nat),NY g l=some p→∀b∈p.2,P b
 | [],p,h,b,hb=>by
  simp only[NY,aC]at h
  subst h
  cases hb
 | v::l,p,h,b,hb=>by
  obtain⟨q,q',h1,h2,rfl⟩:=Yx h
  simp only[List.mem_append]at hb
  exact hb.elim (hg v q h1 b) (BZ hg l q' h2 b)
theorem Ag{H:WH}:∀(k:Nat) (nested:Bool) (v:AV) (p:AV×List Nat),frz H k nested v=some p→∀b∈p.2,∃x,fC H b=some x
 | 0,nested,v,p,h=>by simp[frz]at h
 | k+1,nested,v,p,h=>by
  intro b hb
  simp only[frz]at h
  split at h
  ·split at h
   case h_2=>cases h
   rename_i hg
   split at h
   ·obtain rfl:=av h
    simp only[List.mem_singleton]at hb
    exact⟨_,hb ▸ hg⟩
   ·split at h
    case h_2=>cases h
    split at h
    case h_2=>cases h
    rename_i q hq
    obtain rfl:=av h
    simp only[List.mem_cons]at hb
    rcases hb with rfl | hb
    ·exact⟨_,hg⟩
    ·exact BZ (λv p=>Ag k true v p) _ _ hq b hb
  ·obtain rfl:=av h
   cases hb
  ·cases h
  ·obtain rfl:=av h
   cases hb
  ·cases h
  ·split at h
   ·cases h
   ·obtain rfl:=av h
    cases hb
  ·split at h
   ·cases h
   ·obtain rfl:=av h
    cases hb
  ·split at h
   case h_2=>cases h
   rename_i q hq
   obtain rfl:=av h
   exact BZ (λv p=>Ag k nested v p) _ _ hq b hb
  ·split at h
   case h_2=>cases h
   rename_i q hq
   obtain rfl:=av h
   exact BZ (λv p=>Ag k nested v p) _ _ hq b hb
  ·split at h
   case h_2=>cases h
   rename_i q hq
   obtain rfl:=av h
   exact BZ (λv p=>Ag k nested v p) _ _ hq b hb
  ·obtain rfl:=av h
   cases hb
theorem akY:∀ {v:AV},(∀b o sz n w,v=.acc b o sz n w→False)→(∀q,v=.ptr (some q)→False)→(∀r,v=.map (some r)→False)→(∀f cs,v=.func f cs→False)→(∀cs,v=.agg cs→False)→(∀cs,v=.tuple cs→False)→Fx v=[]
 |.undef,_,_,_,_,_,_=>rfl
 |.bool _,_,_,_,_,_,_=>rfl
 |.int _ _,_,_,_,_,_,_=>rfl
 |.str _,_,_,_,_,_,_=>rfl
 |.ptr none,_,_,_,_,_,_=>rfl
 |.ptr (some q),_,h,_,_,_,_=>(h q rfl).elim
 |.slice _ _ _ _ _,_,_,_,_,_,_=>rfl
 |.map none,_,_,_,_,_,_=>rfl
 |.map (some r),_,_,h,_,_,_=>(h r rfl).elim
 |.func f cs,_,_,_,h,_,_=>(h f cs rfl).elim
 |.nilFunc,_,_,_,_,_,_=>rfl
 |.agg cs,_,_,_,_,h,_=>(h cs rfl).elim
 |.tuple cs,_,_,_,_,_,h=>(h cs rfl).elim
 |.list ..,_,_,_,_,_,_=>rfl
 |.elem _,_,_,_,_,_,_=>rfl
 |.acc b o sz n w,h,_,_,_,_,_=>(h b o sz n w rfl).elim
theorem Wz{g:AV→Option (AV×List Nat)}:∀(l:List AV) (p:List AV×List Nat),NY g l=some p→p.1.length=l.length
 | [],p,h=>by
  simp only[NY,aC]at h
  subst h
  rfl
 | v::l,p,h=>by
  obtain⟨q,q',h1,h2,rfl⟩:=Yx h
  simp[Wz l q' h2]
section
variable {R:Nat→Prop} {ι:VI} {H:WH} {M:Heap} (s:VS R ι H M) {O':Nat→Prop} (hO:∀j,O' j→OR R ι j) {A8:VI} (hle:VI.Le ι A8 (λ_=>True))
include s hO hle
theorem ane {b o sz n:Nat} {w:Bool} {a:AV} (h:VL M (OR R ι) ι (.acc b o sz n w) a) {c:List AV} {ro sl:Bool} (hg:fC H b=some (.cells c ro sl)) (hb:∀j,ι b=some j→¬O' j) {κ:VI}
  {cs:List AV} (hcs:cs.length=n*sz) (hr:∀c' t,dW M (OR R ι) (if sl then VI.none else ι) c c'→dW M O' VI.none cs (((c'++t).drop o).take (n*sz))):VL M O' κ (.list sz n cs false) a:=by
 obtain⟨k1,k2,p,s',cap,ex,rfl,k3,k4,k5⟩:=VL.Bp s h hg
 simp only[VL]
 rcases k5 with⟨j,c',t',ro',sl',L,g1,g2,g3,g4,g5,g6,rfl,g7⟩ |⟨rfl,rfl,rfl,g⟩
 ·obtain rfl:=k4 (by simp)
  have hl:=g6.length
  refine .inr ⟨j,o,cap,ex,rfl,k3,(λh=>by cases h),hcs,λ_=>⟨_,ro',sl',g2,hb j g1,(s.lt b j g1).2,by simp only[aD];omega,hr c' t' g6⟩⟩
 ·rw[Nat.zero_mul]at hcs
  obtain rfl:=List.eq_nil_of_length_eq_zero hcs
  cases p with
  | none=>exact .inl ⟨rfl,rfl,s',rfl⟩
  | some p =>
   obtain rfl:=k4 (by simp)
   exact .inr ⟨p.1,p.2,0,true,rfl,Nat.le_refl _,(λh=>by cases h),by simp,λh=>absurd rfl h⟩
theorem akZ:∀(k:Nat) (nested:Bool) (v:AV) (p:AV×List Nat) (a:AV),frz H k nested v=some p→VL M (OR R ι) ι v a→(∀b∈p.2,∀j,ι b=some j→¬O' j)→VL M O' (Wy nested A8) p.1 a
 | 0,nested,v,p,a,h,hv,hP=>by simp[frz]at h
 | k+1,nested,v,p,a,h,hv,hP=>by
  have hk:Keeps M (OR R ι) M O':=⟨Nat.le_refl _,λb _ h=>⟨rfl,λk=>h (hO b k)⟩⟩
  have nest:∀ {l p r nested},NY (frz H k nested) l=some p→dW M (OR R ι) ι l r→(∀b∈p.2,∀j,ι b=some j→¬O' j)→dW M O' (Wy nested A8) p.1 r:=λ{l p r nested} h1 h2 h3 =>
   acf (λv p a=>akZ k nested v p a) l p r h1 h2 h3
  simp only[frz]at h
  split at h
  ·rename_i b o sz n w
   split at h
   case h_2=>cases h
   rename_i c ro sl hg
   obtain⟨k1,k2,_⟩:=VL.Bp s hv hg
   split at h
   ·obtain rfl:=av h
    refine ane s hO hle hv hg (hP b (by simp)) (Ww k1 k2) λc' t hc=>?_
    simp only[if_true]at hc
    exact Wx (dW.mono hk _ _ _ _ (.refl _ _) hc) k1 k2
   ·split at h
    case h_2=>cases h
    split at h
    case h_2=>cases h
    rename_i q hq
    obtain rfl:=av h
    obtain⟨k3,k4⟩:=k2 rfl
    refine ane s hO hle hv hg (hP b (by simp)) (by rw[Wz _ _ hq,k4]) λc' t hc=>?_
    simp only[Bool.false_eq_true,if_false]at hc
    have:=nest hq hc (λb hb=>hP b (by simp[hb]))
    have hl:=hc.length
    rw[k3,List.drop_zero,k4,hl,List.take_left']
    ·exact this
    ·rfl
  ·obtain rfl:=av h
   simp only[VL]at hv ⊢
   exact .inl ⟨trivial,trivial,hv.2⟩
  ·cases h
  ·obtain rfl:=av h
   have:=VL.mono hk _ (Wy nested A8) _ _ (λi hi=>by simp[Fx]at hi) hv
   simp only[VL]at this ⊢
   rcases this with this |⟨b,o,cap,ex',h1,h2,h3,h4⟩
   ·exact .inl this
   ·exact .inr ⟨b,o,cap,ex',h1,h2,(λh=>by cases h),h4⟩
  ·cases h
  ·split at h
   ·cases h
   ·obtain rfl:=av h
    simp only[VL,Wy,Bool.false_eq_true,if_false]at hv ⊢
    obtain⟨j,h1,h2⟩:=hv
    exact⟨j,((hle _ trivial).1 j h1).1,h2⟩
  ·split at h
   ·cases h
   ·obtain rfl:=av h
    simp only[VL,Wy,Bool.false_eq_true,if_false]at hv ⊢
    obtain⟨j,h1,h2⟩:=hv
    exact⟨j,((hle _ trivial).1 j h1).1,h2⟩
  ·split at h
   case h_2=>cases h
   rename_i q hq
   obtain rfl:=av h
   simp only[VL]at hv ⊢
   obtain⟨cs',h1,h2⟩:=hv
   exact⟨cs',h1,nest hq h2 hP⟩
  ·split at h
   case h_2=>cases h
   rename_i q hq
   obtain rfl:=av h
   simp only[VL]at hv ⊢
   obtain⟨cs',h1,h2⟩:=hv
   exact⟨cs',h1,nest hq h2 hP⟩
  ·split at h
   case h_2=>cases h
   rename_i q hq
   obtain rfl:=av h
   simp only[VL]at hv ⊢
   obtain⟨cs',h1,h2⟩:=hv
   exact⟨cs',h1,nest hq h2 hP⟩
  ·obtain rfl:=av h
   have hid:Fx v=[]:=by
    rename_i e1 _ _ _ _ e2 e3 e4 e5 e6
    exact akY e1 e2 e3 e4 e5 e6
   exact VL.mono hk _ (Wy nested A8) _ _ (λi hi=>by rw[hid]at hi;cases hi) hv
end
end Go.Proofs.YtohoggieaanllaaGreat
