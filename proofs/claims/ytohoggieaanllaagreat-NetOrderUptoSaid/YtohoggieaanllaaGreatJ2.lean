import Derived.Test.YtohoggieaanllaaGreatJ1
import Derived.ProofKit
import Derived.OpenShut
import Derived.ChangeOld
import Derived.Below
import Derived.Carry
import Derived.SizedLaws
import Derived.Deep.CondSized
section
set_option linter.unusedVariables false
set_option linter.unusedSimpArgs false
namespace Go.Proofs.YtohoggieaanllaaGreat
theorem Yl {ι:gU} {e:Env} {a:Act} (h:fC ι e a.tmps.toList) {d:Option Nat} {v:AV} {v':Value} (hv:VR ι v v'):fC ι (MG d v e) (a.put d v').tmps.toList:=by
 cases d with
 | none=>exact h
 | some d =>
  simp only [MG,Act.put,Array.toList_setIfInBounds]
  exact h.set d hv
theorem put_defers (a:Act) (d:Option Nat) (v:Value):(a.put d v).defers=a.defers:=by cases d<;>rfl
theorem Fj {M N:Heap} (h:∀ b,M.get b=N.get b) (hn:M.next=N.next):M=N:=by
 cases M
 cases N
 simp only at h hn
 subst hn
 congr
 funext b
 exact h b
section
variable {P:Program} {C:bP} {base nk:Nat} {ds:List fO} {E:Nat→Env} {H:Nat→Heap} {G:Nat→List Heap} {V:Nat→AV} {W:Nat→Bool} {B:Nat→Option mU} {IC:Nat→Nat→Prop}
structure KG (base nk:Nat) (ds:List fO) (E:Nat→Env) (H:Nat→Heap) (V:Nat→AV) (B:Nat→Option mU) (IC:Nat→Nat→Prop) (uD:gU) (M0:Heap) (w0:World) (q:Nat) (S:Nat→Bool) (ι:gU) (a:Act) (w:World):Prop where
 qle:q≤ds.length
 amv:q=0∨∃ j,S j=true∧lT ds j=true∧j+1=q
 below:∀ j,S j=true→lT ds j=true→j < q
 closed:∀ p r,S r=true→IC p r→S p=true
 nones:∀ b,base≤b→b < base+nk→(∀ p0,mq ds (b - base)=some p0→q≤p0→(H q).get b=none)∧(mq ds (b - base)=none→(H q).get b=none)
 ajP:base+nk≤(H q).next
 tr:Tr uD M0 w0 ι (gQ base nk ds H B q S) w
 unm:∀ p d,ds[p]?=some d→d.o.op.isK=true→S p=false→ι (base+d.ix)=none
 env:fC ι (Bq ds (E 0) V S) a.tmps.toList
 defs:a.defers=[]
def more (S:Nat→Bool) (p:Nat):Nat→Bool:=λr=>r==p || S r
theorem ab8 (S:Nat→Bool) (p:Nat):more S p p=true:=by simp [more]
theorem Cn {S:Nat→Bool} {p r:Nat} (h:r≠p):more S p r=S r:=by simp [more,h]
theorem KG.quiet (c:G_ nk ds IC) {uD:gU} {M0:Heap} {w0:World} {q:Nat} {S:Nat→Bool} {ι:gU} {a:Act} {w:World} (I:KG base nk ds E H V B IC uD M0 w0 q S ι a w) {p:Nat} {d:fO} (hd:ds[p]?=some d) (hS:S p=false)
  (hpre:∀ r,IC r p→S r=true) (hq:d.o.op.loud=false) {bL:gU} {w':World} {v':Value} (hle:ι.Le bL) (ht:Tr uD M0 w0 bL (gQ base nk ds H B q (more S p)) w') (hu:∀ r d',ds[r]?=some d'→d'.o.op.isK=true→S r=false→r≠p→bL (base+d'.ix)=none)
  (hv:VR bL (V p) v'):KG base nk ds E H V B IC uD M0 w0 q (more S p) bL (a.put d.o.dst v') w' where
 qle:=I.qle
 amv:=I.amv.imp id λ⟨j,h1,h2,h3⟩=>⟨j,by simp [more,h1],h2,h3⟩
 below j h1 h2:=by
  by_cases hj:j=p
  ·subst hj
   simp [lT,hd,hq] at h2
  ·rw [Cn hj] at h1
   exact I.below j h1 h2
 closed r s h1 h2:=by
  by_cases hs:s=p
  ·subst hs
   simp [more,hpre r h2]
  ·rw [Cn hs] at h1
   simp [more,I.closed r s h1 h2]
 nones:=I.nones
 ajP:=I.ajP
 tr:=ht
 unm r d' h1 h2 h3:=by
  by_cases hr:r=p
  ·subst hr
   simp [more] at h3
  ·rw [Cn hr] at h3
   exact hu r d' h1 h2 h3 hr
 env:=by
  have:=ajL (V:=V) (e0:=E 0) (S:=S) c hd
  show fC bL (Bq ds (E 0) V (more S p)) _
  unfold more
  rw [this]
  exact Yl (fC.mono hle _ _ I.env) hv
 defs:=by rw [put_defers];exact I.defs
theorem Wu {q:Nat} {S:Nat→Bool} {p:Nat} {d:fO} (hd:ds[p]?=some d) (hk:d.o.op.isK=false):gQ base nk ds H B q (more S p)=gQ base nk ds H B q S:=by
 refine Fj (λb=>?_) rfl
 simp only [gQ]
 split
 ·cases hs:mq ds (b - base) with
  | none=>rfl
  | some p0 =>
   simp only
   have:p0≠p:=by
    rintro rfl
    obtain ⟨d',h1,h2,_⟩:=qW hs
    rw [hd] at h1
    obtain rfl:=Option.some.inj h1
    rw [hk] at h2
    cases h2
   rw [Cn this]
 ·rfl
theorem KG.YN (c:G_ nk ds IC) {uD:gU} {M0:Heap} {w0:World} {q:Nat} {S:Nat→Bool} {ι:gU} {a:Act} {w:World} (I:KG base nk ds E H V B IC uD M0 w0 q S ι a w) {p:Nat} {d:fO} (hd:ds[p]?=some d) (hS:S p=false) (hp:d.o.op.plain=false):q≤p:=by
 rcases I.amv with h | ⟨j,h1,h2,h3⟩
 ·omega
 ·rcases Nat.lt_or_ge p j with hlt | hge
  ·have hj:=h2
   unfold lT at hj
   split at hj
   ·rename_i d' hd'
    have:=I.closed p j h1 (c.loud p j d d' hd hd' hlt hj hp)
    rw [hS] at this
    cases this
   ·cases hj
  ·rcases Nat.eq_or_lt_of_le hge with e | hlt
   ·subst e
    rw [hS] at h1
    cases h1
   ·omega
def pending (base nk:Nat) (ds:List fO) (B:Nat→Option mU) (S:Nat→Bool) (p:Nat) (b:Nat):Option mU :=
 if base≤b∧b < base+nk then (match mq ds (b - base) with | some p0=>if p < p0∧S p0=true then B p0 else none | none=>none) else none
theorem KG.aqX (c:G_ nk ds IC) (r:Xp C base nk ds E H G V W B) {uD:gU} {M0:Heap} {w0:World} {q:Nat} {S:Nat→Bool} {ι:gU} {a:Act} {w:World} (I:KG base nk ds E H V B IC uD M0 w0 q S ι a w) {p:Nat} {d:fO} (hd:ds[p]?=some d) (hS:S p=false)
  (hpre:∀ r,IC r p→S r=true) (hl:d.o.op.loud=true) :
  q≤p∧gQ base nk ds H B q S=(H p).over (pending base nk ds B S p)∧(∀ b,base≤b→b < base+nk→(∀ p0,mq ds (b - base)=some p0→p≤p0→(H p).get b=none)∧(mq ds (b - base)=none→(H p).get b=none))∧base+nk≤(H p).next:=by
 have hplain:d.o.op.plain=false:=by
  cases ho:d.o.op with
  | p o=>rw [ho] at hl;cases hl
  | _=>rfl
 have hqp:=I.YN c hd hS hplain
 have afd:=(List.getElem?_eq_some_iff.1 hd).1
 have hno:∀ j,q≤j→j < p→lT ds j=false:=by
  intro j h1 h2
  cases hj:lT ds j with
  | false=>rfl
  | true =>
   have hj':=hj
   unfold lT at hj'
   split at hj'
   ·rename_i d' hd'
    have hnp:d'.o.op.plain=false:=by
     cases ho:d'.o.op with
     | p o=>rw [ho] at hj';cases hj'
     | _=>rfl
    have:=I.below j (hpre j (c.loud j p d' d hd' hd h2 hl hnp)) hj
    omega
   ·cases hj'
 obtain ⟨g1,g2,g3⟩:=Rc c r p hqp (by omega) hno
 have g3':=g3 (λb p0 b1 b2 hs hq=>(I.nones b b1 b2).1 p0 hs hq)
 have hK:∀ p0 s,mq ds s=some p0→p0≠p:=by
  rintro p0 s hs rfl
  obtain ⟨d',h1,h2,_⟩:=qW hs
  rw [hd] at h1
  obtain rfl:=Option.some.inj h1
  cases ho:d.o.op with
  | n o=>rw [ho] at h2;cases h2
  | p o=>rw [ho] at hl;cases hl
  | l o=>rw [ho] at hl;cases hl
  | k o=>rw [ho] at hl;cases hl
 refine ⟨hqp,Fj (λb=>?_) g1.symm,λb b1 b2=>⟨λp0 hs hp0=>?_,λhs=>?_⟩,by rw [g1];exact I.ajP⟩
 ·by_cases hb:base≤b∧b < base+nk
  ·have hg:=g3' b hb.1 hb.2
   cases hs:mq ds (b - base) with
   | none =>
    rw [hs] at hg
    have hX:pending base nk ds B S p b=none:=by simp [pending,hb,hs]
    rw [gW hX,hg]
    simp [gQ,hb,hs,(I.nones b hb.1 hb.2).2 hs]
   | some p0 =>
    rw [hs] at hg
    simp only at hg
    have hne:=hK p0 _ hs
    rcases Nat.lt_or_ge p0 q with h1 | h1
    ·have hX:pending base nk ds B S p b=none:=by
      simp only [pending,if_pos hb,hs]
      rw [if_neg (by omega)]
     rw [gW hX,hg,if_neg (by omega)]
     simp [gQ,hb,hs,h1]
    ·rcases Nat.lt_or_ge p0 p with h2 | h2
     ·have hX:pending base nk ds B S p b=none:=by
       simp only [pending,if_pos hb,hs]
       rw [if_neg (by omega)]
      rw [gW hX,hg,if_pos ⟨h1,h2⟩]
      obtain ⟨d',k1,k2,_⟩:=qW hs
      have hS0:S p0=true:=hpre p0 (c.loud p0 p d' d k1 hd h2 hl (by cases ho:d'.o.op with | p o=>rw [ho] at k2;cases k2 | _=>rfl))
      simp [gQ,hb,hs,show ¬ p0 < q from by omega,hS0]
     ·have hnn:=(I.nones b hb.1 hb.2).1 p0 hs h1
      have hlhs:(gQ base nk ds H B q S).get b=if S p0 then B p0 else none:=by
       simp [gQ,hb,hs,show ¬ p0 < q from by omega]
      rw [hlhs]
      have hgn:(H p).get b=none:=by rw [hg,if_neg (by omega)];exact hnn
      cases hS0:S p0 with
      | false =>
       have hX:pending base nk ds B S p b=none:=by simp [pending,hb,hs,hS0]
       rw [gW hX,hgn]
       simp
      | true =>
       simp only [if_true]
       cases hB:B p0 with
       | none =>
        have hX:pending base nk ds B S p b=none:=by simp [pending,hb,hs,hS0,hB]
        rw [gW hX,hgn]
       | some x =>
        have hX:pending base nk ds B S p b=some x:=by
         simp only [pending,if_pos hb,hs]
         rw [if_pos ⟨by omega,hS0⟩,hB]
        rw [iT hX]
  ·have hX:pending base nk ds B S p b=none:=by simp only [pending];rw [if_neg hb]
   rw [gW hX,g2 b hb]
   simp only [gQ]
   rw [if_neg hb]
 ·have hg:=g3' b b1 b2
  rw [hs] at hg
  simp only at hg
  rw [hg]
  have:=hK p0 _ hs
  split
  ·omega
  ·exact (I.nones b b1 b2).1 p0 hs (by omega)
 ·have hg:=g3' b b1 b2
  rw [hs] at hg
  rw [hg]
  exact (I.nones b b1 b2).2 hs
theorem KG.behind (c:G_ nk ds IC) {uD:gU} {M0:Heap} {w0:World} {q:Nat} {S:Nat→Bool} {ι:gU} {a:Act} {w:World} (I:KG base nk ds E H V B IC uD M0 w0 q S ι a w) {p:Nat} {d:fO} (hd:ds[p]?=some d) (hS:S p=false)
  (hpre:∀ r,IC r p→S r=true) (hl:d.o.op.loud=true) (hqp:q≤p)
  (hn:∀ b,base≤b→b < base+nk→(∀ p0,mq ds (b - base)=some p0→p≤p0→(H (p+1)).get b=none)∧(mq ds (b - base)=none→(H (p+1)).get b=none)) (hnx:base+nk≤(H (p+1)).next)
  {bL:gU} {w':World} {v':Value} (hle:ι.Le bL) (ht:Tr uD M0 w0 bL ((H (p+1)).over (pending base nk ds B S p)) w') (hu:∀ r d',ds[r]?=some d'→d'.o.op.isK=true→S r=false→bL (base+d'.ix)=none)
  (hv:VR bL (V p) v'):KG base nk ds E H V B IC uD M0 w0 (p+1) (more S p) bL (a.put d.o.dst v') w':=by
 have afd:=(List.getElem?_eq_some_iff.1 hd).1
 have hK:∀ p0 s,mq ds s=some p0→p0≠p:=by
  rintro p0 s hs rfl
  obtain ⟨d',h1,h2,_⟩:=qW hs
  rw [hd] at h1
  obtain rfl:=Option.some.inj h1
  cases ho:d.o.op with
  | n o=>rw [ho] at h2;cases h2
  | p o=>rw [ho] at hl;cases hl
  | l o=>rw [ho] at hl;cases hl
  | k o=>rw [ho] at hl;cases hl
 have hheap:gQ base nk ds H B (p+1) (more S p)=(H (p+1)).over (pending base nk ds B S p):=by
  refine Fj (λb=>?_) rfl
  by_cases hb:base≤b∧b < base+nk
  ·cases hs:mq ds (b - base) with
   | none =>
    have hX:pending base nk ds B S p b=none:=by simp [pending,hb,hs]
    rw [gW hX,(hn b hb.1 hb.2).2 hs]
    simp [gQ,hb,hs]
   | some p0 =>
    have hne:=hK p0 _ hs
    rcases Nat.lt_or_ge p0 (p+1) with h1 | h1
    ·have hX:pending base nk ds B S p b=none:=by
      simp only [pending,if_pos hb,hs]
      rw [if_neg (by omega)]
     rw [gW hX]
     simp [gQ,hb,hs,h1]
    ·have hgn:=(hn b hb.1 hb.2).1 p0 hs (by omega)
     have hlhs:(gQ base nk ds H B (p+1) (more S p)).get b=if S p0 then B p0 else none:=by
      simp [gQ,hb,hs,show ¬ p0 < p+1 from by omega,Cn hne]
     rw [hlhs]
     cases hS0:S p0 with
     | false =>
      have hX:pending base nk ds B S p b=none:=by simp [pending,hb,hs,hS0]
      rw [gW hX,hgn]
      simp
     | true =>
      simp only [if_true]
      cases hB:B p0 with
      | none =>
       have hX:pending base nk ds B S p b=none:=by simp [pending,hb,hs,hS0,hB]
       rw [gW hX,hgn]
      | some x =>
       have hX:pending base nk ds B S p b=some x:=by
        simp only [pending,if_pos hb,hs]
        rw [if_pos ⟨by omega,hS0⟩,hB]
       rw [iT hX]
  ·have hX:pending base nk ds B S p b=none:=by simp only [pending];rw [if_neg hb]
   rw [gW hX]
   simp only [gQ]
   rw [if_neg hb]
 constructor
 ·omega
 ·exact .inr ⟨p,ab8 S p,by simp [lT,hd,hl],rfl⟩
 ·intro j h1 h2
  by_cases hj:j=p
  ·omega
  ·rw [Cn hj] at h1
   have:=I.below j h1 h2
   omega
 ·intro r s h1 h2
  by_cases hs:s=p
  ·subst hs
   simp [more,hpre r h2]
  ·rw [Cn hs] at h1
   simp [more,I.closed r s h1 h2]
 ·intro b b1 b2
  exact ⟨λp0 hs hp0=>(hn b b1 b2).1 p0 hs (by omega),(hn b b1 b2).2⟩
 ·exact hnx
 ·rw [hheap]
  exact ht
 ·intro r d' h1 h2 h3
  by_cases hr:r=p
  ·subst hr
   simp [more] at h3
  ·rw [Cn hr] at h3
   exact hu r d' h1 h2 h3
 ·have:=ajL (V:=V) (e0:=E 0) (S:=S) c hd
  show fC bL (Bq ds (E 0) V (more S p)) _
  unfold more
  rw [this]
  exact Yl (fC.mono hle _ _ I.env) hv
 ·rw [put_defers]
  exact I.defs
end
end Go.Proofs.YtohoggieaanllaaGreat
end
section
set_option linter.unusedVariables false
set_option linter.unusedSimpArgs false
namespace Go.Proofs.YtohoggieaanllaaGreat
theorem avp {o:MF} {e:Env} {x:mU} {mk:Mk} (h:aK o e=some (x,mk)):x.own=true:=by
 cases o with
 | alloc z=>simp only [aK,Option.some.injEq,Prod.mk.injEq] at h;obtain ⟨rfl,_⟩:=h;rfl
 | makeMap=>simp only [aK,Option.some.injEq,Prod.mk.injEq] at h;obtain ⟨rfl,_⟩:=h;rfl
 | box y =>
  simp only [aK] at h
  obtain ⟨cs,_,h⟩:=Option.map_eq_some_iff.1 h
  simp only [Prod.mk.injEq] at h
  obtain ⟨rfl,_⟩:=h
  rfl
 | buildSlice a b c d =>
  simp only [aK] at h
  obtain ⟨cs,_,h⟩:=Option.map_eq_some_iff.1 h
  simp only [Prod.mk.injEq] at h
  obtain ⟨rfl,_⟩:=h
  rfl
 | makeSlice a b c d f =>
  simp only [aK,KE] at h
  split at h
  case h_2=>cases h
  split at h
  case isFalse=>cases h
  simp only [Option.some.injEq,Prod.mk.injEq] at h
  obtain ⟨rfl,_⟩:=h
  rfl
 | qE y =>
  simp only [aK] at h
  split at h
  case h_2=>cases h
  split at h
  case isFalse=>cases h
  simp only [Option.some.injEq,Prod.mk.injEq] at h
  obtain ⟨rfl,_⟩:=h
  rfl
section
variable {P:Program} {C:bP} {base nk:Nat} {ds:List fO} {E:Nat→Env} {H:Nat→Heap} {G:Nat→List Heap} {V:Nat→AV} {W:Nat→Bool} {B:Nat→Option mU} {IC:Nat→Nat→Prop}
theorem awj (r:Xp C base nk ds E H G V W B) {p:Nat} {x:mU} (hp:p < ds.length) (h:B p=some x):x.own=true:=by
 have hd:ds[p]?=some ds[p]:=by simp [hp]
 have st:=r.step p _ hd
 cases hw:W p with
 | false=>rw [(st.no hw).2.2] at h;cases h
 | true =>
  cases ho:ds[p].o.op with
  | p o=>rw [(st.p o hw ho).2.2] at h;cases h
  | l o=>rw [(st.l o hw ho).2.2.1] at h;cases h
  | n o=>rw [(st.n o hw ho).2] at h;cases h
  | k o =>
   obtain ⟨y,mk,k1,_,_,k4⟩:=st.k o hw ho
   rw [k4] at h
   obtain rfl:=Option.some.inj h
   exact avp k1
theorem KG.read (c:G_ nk ds IC) (r:Xp C base nk ds E H G V W B) (hg0:G 0=[]) {uD:gU} {M0:Heap} {w0:World} {q:Nat} {S:Nat→Bool} {ι:gU} {a:Act} {w:World} (I:KG base nk ds E H V B IC uD M0 w0 q S ι a w) {p:Nat} {d:fO} (hd:ds[p]?=some d) (hS:S p=false)
  (hpre:∀ r,IC r p→S r=true) {o:BJ} (ho:d.o.op=.l o) (hw:W p=true):aL o (Bq ds (E 0) V S) (gQ base nk ds H B q S)=some (V p):=by
 have st:=r.step p d hd
 obtain ⟨h1,_,_,h4⟩:=st.l o hw ho
 have afd:=(List.getElem?_eq_some_iff.1 hd).1
 have hqp:=I.YN c hd hS (by rw [ho];rfl)
 have hag:Agree o.rd (E p) (Bq ds (E 0) V S):=by
  have:=UY c r I.closed hd hS hpre
  intro t ht
  exact this t (by simp [w9.rd,ho,CJ.rd,ht])
 have hsub:∀ j,q≤j→j≤ds.length→(∀ i,q≤i→i < j→lT ds i=false)→((H j).hide base nk).Sub (gQ base nk ds H B q S):=by
  intro j j1 j2 j3 b x hx
  obtain ⟨_,g2,_⟩:=Rc c r j j1 j2 j3
  simp only [Heap.hide] at hx
  split at hx
  ·cases hx
  ·rename_i hb
   rw [g2 b hb] at hx
   simp only [gQ]
   rw [if_neg hb]
   exact hx
 by_cases hex:∃ j,q≤j∧j < p∧lT ds j=true
 ·obtain ⟨j,j1,j2,j3,j4⟩:∃ j,q≤j∧j < p∧lT ds j=true∧∀ i,q≤i→i < j→lT ds i=false:=by
   obtain ⟨j,hj⟩:=hex
   induction j using Nat.strongRecOn with
   | _ j ih =>
    by_cases hsm:∃ i,i < j∧q≤i∧i < p∧lT ds i=true
    ·obtain ⟨i,i1,i2⟩:=hsm
     exact ih i i1 i2
    ·refine ⟨j,hj.1,hj.2.1,hj.2.2,λi i1 i2=>?_⟩
     cases hi:lT ds i with
     | false=>rfl
     | true=>exact absurd ⟨i,i2,i1,by omega,hi⟩ hsm
  have hlo:d.lo≤zU ds j:=by
   rcases Nat.lt_or_ge (zU ds j) d.lo with h | h
   ·have:=I.below j (hpre j (c.lo p d j hd (by rw [ho];rfl) j2 j3 h)) j3
    omega
   ·exact h
  have:=h4 (zU ds j) (H j) hlo (amu r hg0 (by omega) j2 j3)
  rw [← afc hag]
  exact amt (hsub j j1 (by omega) j4) this
 ·rw [← afc hag]
  refine amt (hsub p hqp (by omega) λi i1 i2=>?_) h1
  cases hi:lT ds i with
  | false=>rfl
  | true=>exact absurd ⟨i,i1,i2,hi⟩ hex
theorem KG.step (c:G_ nk ds IC) (r:Xp C base nk ds E H G V W B) (hg0:G 0=[]) {uD:gU} {M0:Heap} {w0:World} (hbase:M0.next=base) {q:Nat} {S:Nat→Bool} {ι:gU} {a:Act} {w:World} (I:KG base nk ds E H V B IC uD M0 w0 q S ι a w)
  {p:Nat} {d:fO} (hd:ds[p]?=some d) (hS:S p=false) (hpre:∀ r,IC r p→S r=true) {o:Oper} (hok:afb P C o d.o.op) (hdst:o.dst=d.o.dst) :
  (W p=true→∀ (next:Act→World→Prop) (Q:Exit→Act→World→Prop),(∀ q' bL v' w',KG base nk ds E H V B IC uD M0 w0 q' (more S p) bL (a.put o.dst v') w'→next (a.put o.dst v') w')→o.wp P a w next Q) ∧
  (W p=false→∃ q',KG base nk ds E H V B IC uD M0 w0 q' (more S p) ι (a.put o.dst undef) w):=by
 have st:=r.step p d hd
 have afd:=(List.getElem?_eq_some_iff.1 hd).1
 have rr:=I.tr.rel
 have ahE:=UY c r I.closed hd hS hpre
 have hag:Agree d.o.op.rd (E p) (Bq ds (E 0) V S):=λt ht=>ahE t (by simp [w9.rd,ht])
 rw [hdst]
 cases ho:d.o.op with
 | p po =>
  rw [ho] at hok hag
  have hs:=Wu (base:=base) (nk:=nk) (H:=H) (B:=B) (q:=q) (S:=S) hd (by rw [ho];rfl)
  have fin:∀ v',VR ι (V p) v'→KG base nk ds E H V B IC uD M0 w0 q (more S p) ι (a.put d.o.dst v') w:=λv' hv =>
   I.quiet c hd hS hpre (by rw [ho];rfl) (gU.Le.refl ι) (by rw [hs];exact I.tr) (λr d' h1 h2 h3 _=>I.unm r d' h1 h2 h3) hv
  refine ⟨λhw next Q hn=>?_,λhw=>⟨q,fin undef ?_⟩⟩
  ·have hv:=(st.p po hw ho).1
   rw [amq hag] at hv
   obtain ⟨v',hrun,hvr⟩:=hok ι _ a w _ I.env hv
   rw [← hdst] at hn
   exact GA.of_run hrun (hn q ι v' w (by rw [hdst];exact fin v' hvr))
  ·rw [(st.no hw).1]
   exact VR.unit ι
 | l lo =>
  rw [ho] at hok hag
  have hs:=Wu (base:=base) (nk:=nk) (H:=H) (B:=B) (q:=q) (S:=S) hd (by rw [ho];rfl)
  have fin:∀ v',VR ι (V p) v'→KG base nk ds E H V B IC uD M0 w0 q (more S p) ι (a.put d.o.dst v') w:=λv' hv =>
   I.quiet c hd hS hpre (by rw [ho];rfl) (gU.Le.refl ι) (by rw [hs];exact I.tr) (λr d' h1 h2 h3 _=>I.unm r d' h1 h2 h3) hv
  refine ⟨λhw next Q hn=>?_,λhw=>⟨q,fin undef ?_⟩⟩
  ·have hv:=I.read c r hg0 hd hS hpre ho hw
   obtain ⟨v',hrun,hvr⟩:=hok ι _ _ a w _ rr I.env hv
   rw [← hdst] at hn
   exact GA.of_run hrun (hn q ι v' w (by rw [hdst];exact fin v' hvr))
  ·rw [(st.no hw).1]
   exact VR.unit ι
 | k ko =>
  rw [ho] at hok hag
  have hk:d.o.op.isK=true:=by rw [ho];rfl
  have hqp:=I.YN c hd hS (by rw [ho];rfl)
  have ajN:=ab5 c hd hk
  have hix:=c.avo p d hd hk
  have hget:(gQ base nk ds H B q S).get (base+d.ix)=none:=by
   simp only [gQ]
   rw [if_pos ⟨by omega,by omega⟩,show base+d.ix - base=d.ix from by omega,ajN]
   simp only
   rw [if_neg (by omega),hS]
   simp
  have hother:∀ b,b≠base+d.ix→(gQ base nk ds H B q (more S p)).get b=(gQ base nk ds H B q S).get b:=by
   intro b hb
   simp only [gQ]
   split
   ·rename_i hr
    cases hs:mq ds (b - base) with
    | none=>rfl
    | some p0 =>
     simp only
     have:p0≠p:=by
      rintro rfl
      obtain ⟨d',h1,_,h3⟩:=qW hs
      rw [hd] at h1
      obtain rfl:=Option.some.inj h1
      omega
     rw [Cn this]
   ·rfl
  have hself:(gQ base nk ds H B q (more S p)).get (base+d.ix)=B p:=by
   simp only [gQ]
   rw [if_pos ⟨by omega,by omega⟩,show base+d.ix - base=d.ix from by omega,ajN]
   simp only
   rw [if_neg (by omega),ab8]
   simp
  refine ⟨λhw next Q hn=>?_,λhw=>?_⟩
  ·obtain ⟨x,mk,k1,k2,k3,k4⟩:=st.k ko hw ho
   rw [amr hag] at k1
   obtain ⟨v',w',ob,N,hrun,hown,awk,hrel⟩:=hok ι _ a w x mk I.env k1
   have hnone:=I.unm p d hd hk hS
   have hle:=gU.IB hnone ⟨w.heap.size,0,N⟩
   have hset:(ι.set (base+d.ix) ⟨w.heap.size,0,N⟩) (base+d.ix)=some ⟨w.heap.size,0,N⟩:=by simp [gU.set]
   obtain ⟨hb,hvr⟩:=hrel _ _ hle hset
   have htr:=Tr.slot I.tr (id:=base+d.ix) (by omega) (by have:=I.ajP;simp only [gQ];omega) hget hnone hown awk hb
   have hheap:(gQ base nk ds H B q S).put (base+d.ix) (some x)=gQ base nk ds H B q (more S p):=by
    refine Fj (λb=>?_) rfl
    rw [kP]
    split
    ·rename_i hb
     rw [hb,hself,k4]
    ·rename_i hb
     rw [hother b hb]
   rw [hheap] at htr
   rw [← hdst] at hn
   refine GA.of_run hrun (hn q (ι.set (base+d.ix) ⟨w.heap.size,0,N⟩) v' w' ?_)
   rw [hdst]
   refine I.quiet c hd hS hpre (by rw [ho];rfl) hle htr (λs d' h1 h2 h3 h4=>?_) (by rw [k2];exact hvr)
   have:base+d'.ix≠base+d.ix:=λe=>h4 (c.ix s p d' d h1 hd h2 hk (by omega))
   simp only [gU.set,if_neg this]
   exact I.unm s d' h1 h2 h3
  ·refine ⟨q,I.quiet c hd hS hpre (by rw [ho];rfl) (gU.Le.refl ι) ?_ (λs d' h1 h2 h3 _=>I.unm s d' h1 h2 h3) (by rw [(st.no hw).1];exact VR.unit ι)⟩
   have hheap:gQ base nk ds H B q (more S p)=gQ base nk ds H B q S:=by
    refine Fj (λb=>?_) rfl
    by_cases hb:b=base+d.ix
    ·rw [hb,hself,hget,(st.no hw).2.2]
    ·exact hother b hb
   rw [hheap]
   exact I.tr
 | n no =>
  rw [ho] at hok hag
  have hl:d.o.op.loud=true:=by rw [ho];rfl
  obtain ⟨hqp,hheap,hn0,hnx⟩:=I.aqX c r hd hS hpre hl
  have hX:∀ i x,pending base nk ds B S p i=some x→(H p).get i=none∧i < (H p).next∧x.own=true:=by
   intro i x hx
   unfold pending at hx
   split at hx
   case isFalse=>cases hx
   rename_i hb
   split at hx
   case h_2=>cases hx
   rename_i p0 hs
   split at hx
   case isFalse=>cases hx
   rename_i hc
   obtain ⟨d',h1,_,_⟩:=qW hs
   exact ⟨(hn0 i hb.1 hb.2).1 p0 hs (by omega),by omega,awj r (List.getElem?_eq_some_iff.1 h1).1 hx⟩
  rw [hheap] at rr
  have avq:=I.tr
  rw [hheap] at avq
  refine ⟨λhw next Q hnext=>?_,λhw=>?_⟩
  ·have hrunA:=(st.n no hw ho).1
   rw [ams hag] at hrunA
   have rH:R ι (H p) w:=rr.sub (λb x hx=>by
    have:pending base nk ds B S p b=none:=by
     cases hb:pending base nk ds B S p b with
     | none=>rfl
     | some y=>rw [(hX b y hb).1] at hx;cases hx
    rw [gW this]
    exact hx) rfl
   refine hok ι (H p) _ a w (V p) (H (p+1)) next Q rH I.env hrunA λbL v' w' ht hv=>?_
   have hf:=Tr.frame rr hX ht
   rw [hdst]
   refine hnext (p+1) bL v' w' ?_
   refine I.behind c hd hS hpre hl hqp (λb b1 b2=>⟨λp0 hs hp0=>?_,λhs=>?_⟩) (by have:=ht.next;omega) (ht.le rH) (avq.trans hf) (λs d' h1 h2 h3=>?_) hv
   ·exact ht.dead b (by omega) ((hn0 b b1 b2).1 p0 hs hp0)
   ·exact ht.dead b (by omega) ((hn0 b b1 b2).2 hs)
   ·have hix:=c.avo s d' h1 h2
    rw [ht.agree _ (by omega)]
    exact I.unm s d' h1 h2 h3
  ·obtain ⟨n1,n2,n3⟩:=st.no hw
   refine ⟨p+1,I.behind c hd hS hpre hl hqp (λb b1 b2=>?_) (by rw [n2];exact hnx) (gU.Le.refl ι) (by rw [n2];exact avq) (λs d' h1 h2 h3=>I.unm s d' h1 h2 h3) (by rw [n1];exact VR.unit ι)⟩
   rw [n2]
   exact hn0 b b1 b2
end
end Go.Proofs.YtohoggieaanllaaGreat
end
section
set_option linter.unusedVariables false
set_option linter.unusedSimpArgs false
namespace Go.Proofs.YtohoggieaanllaaGreat
theorem Pv:∀ (l acc:List Nat),l.Nodup→(∀ x,x∈l→x∈acc)→l.length≤acc.length
 | [],acc,_,_=>by simp
 | x::l,acc,h,hs=>by
  rw [List.nodup_cons] at h
  have hx:=hs x (by simp)
  have ih:=Pv l (acc.erase x) h.2 λy hy=>by
   have hne:y≠x:=λe=>by subst e;exact h.1 hy
   exact (List.mem_erase_of_ne hne).2 (hs y (by simp [hy]))
  rw [List.length_erase_of_mem hx] at ih
  have:0 < acc.length:=List.length_pos_of_mem hx
  simp
  omega
theorem least {n:Nat} {f:Nat→Prop} (rank:Nat→Nat) (h:∃ i,i < n∧f i):∃ i,i < n∧f i∧∀ j,j < n→f j→rank i≤rank j:=by
 obtain ⟨i,hi,hf⟩:=h
 generalize hr:rank i=r
 induction r using Nat.strongRecOn generalizing i with
 | _ r ih =>
  by_cases hs:∃ j,j < n∧f j∧rank j < r
  ·obtain ⟨j,h1,h2,h3⟩:=hs
   exact ih (rank j) h3 j h1 h2 rfl
  ·refine ⟨i,hi,hf,λj h1 h2=>?_⟩
   rcases Nat.lt_or_ge (rank j) (rank i) with h | h
   ·exact absurd ⟨j,h1,h2,by omega⟩ hs
   ·exact h
structure Lin (m:Region.Mode) (ops:Array Oper) (l:List Nat):Prop where
 nodup:l.Nodup
 lt:∀ i,i∈l→i < ops.size
 all:∀ i,i < ops.size→i∈l
 after:∀ l1 i l2,l=l1++i::l2→∀ o e,ops[i]?=some o→e∈o.after→Region.binds m e=true→e.on∈l1
theorem aa3 {l:List Nat} (h:l.Nodup):l.reverse.Nodup:=by
 unfold List.Nodup at h ⊢
 rw [List.pairwise_reverse]
 exact h.imp λh=>Ne.symm h
theorem avr {m:Region.Mode} {ops:Array Oper} (rank:Nat→Nat) (hb:∀ i o e,ops[i]?=some o→e∈o.after→Region.binds m e=true→rank e.on < rank i∧e.on < ops.size) :
  ∀ (fuel t:Nat) (listed:Array Bool) (acc:List Nat),listed.size=ops.size→(∀ i,i < ops.size→(listed.getD i true=true↔i∈acc))→acc.Nodup→(∀ i,i∈acc→i < ops.size) →
   (∀ l1 i l2,acc.reverse=l1++i::l2→∀ o e,ops[i]?=some o→e∈o.after→Region.binds m e=true→e.on∈l1)→fuel+acc.length=ops.size→Lin m ops (Region.linearise.go m ops fuel t listed acc):=by
 intro fuel
 induction fuel with
 | zero =>
  intro t listed acc h1 h2 h3 h4 h5 h6
  simp only [Region.linearise.go]
  refine ⟨aa3 h3,λi hi=>h4 i (by simpa using hi),λi hi=>?_,h5⟩
  simp only [List.mem_reverse]
  by_cases hm:i∈acc
  ·exact hm
  ·have:=Pv (i::acc) (List.range ops.size) (List.nodup_cons.2 ⟨hm,h3⟩) (λx hx=>by
    rcases List.mem_cons.1 hx with rfl | hx
    ·simpa using hi
    ·simpa using h4 x hx)
   simp at this
   omega
 | succ fuel ih =>
  intro t listed acc h1 h2 h3 h4 h5 h6
  simp only [Region.linearise.go]
  have hF:∀ i,i < ops.size→(listed.getD i false=true↔i∈acc):=λi hi=>by
   rw [← h2 i hi]
   simp [Array.getD_eq_getD_getElem?,h1,hi]
  generalize hrs:(List.range ops.size).filter (λi=>!listed.getD i true&&((ops[i]?).map (·.after.all λe=>!Region.binds m e || listed.getD e.on false)).getD false)=rs
  have hne:rs≠[]:=by
   have hex:∃ i,i < ops.size∧i ∉ acc:=by
    refine Classical.byContradiction λhc=>?_
    have:=Pv (List.range ops.size) acc List.nodup_range (λx hx=>by
     by_cases hm:x∈acc
     ·exact hm
     ·exact absurd ⟨x,by simpa using hx,hm⟩ hc)
    simp at this
    omega
   obtain ⟨i,i1,i2,i3⟩:=least rank hex
   have hi:i∈rs:=by
    rw [← hrs,List.mem_filter]
    refine ⟨by simpa using i1, ?_⟩
    have ho:ops[i]?=some ops[i]:=by simp [i1]
    rw [ho]
    simp only [Bool.and_eq_true,Bool.not_eq_true',Option.map_some,Option.getD_some,Array.all_eq_true_iff_forall_mem]
    refine ⟨?_,λe he=>?_⟩
    ·cases hl:listed.getD i true with
     | false=>rfl
     | true=>exact absurd ((h2 i i1).1 hl) i2
    ·cases hbd:Region.binds m e with
     | false=>simp
     | true =>
      obtain ⟨r1,r2⟩:=hb i _ e ho he hbd
      have hm:e.on∈acc:=by
       by_cases hm:e.on∈acc
       ·exact hm
       ·have:=i3 e.on r2 hm
        omega
      simp [(hF e.on r2).2 hm]
   intro he
   rw [he] at hi
   cases hi
  have hlen:0 < rs.length:=List.length_pos_iff.2 hne
  have hget:∃ i,rs[t % rs.length]?=some i:=⟨_,List.getElem?_eq_getElem (Nat.mod_lt _ hlen)⟩
  obtain ⟨i,hi⟩:=hget
  rw [hi]
  simp only
  have hmem:i∈rs:=List.mem_of_getElem? hi
  rw [← hrs,List.mem_filter] at hmem
  obtain ⟨hm1,hm2⟩:=hmem
  have hilt:i < ops.size:=by simpa using hm1
  have ho:ops[i]?=some ops[i]:=by simp [hilt]
  rw [ho] at hm2
  simp only [Bool.and_eq_true,Bool.not_eq_true',Option.map_some,Option.getD_some,Array.all_eq_true_iff_forall_mem] at hm2
  have hni:i ∉ acc:=λhm=>by rw [(h2 i hilt).2 hm] at hm2;cases hm2.1
  refine ih _ _ _ (by simpa using h1) (λj hj=>?_) (List.nodup_cons.2 ⟨hni,h3⟩) (λj hj=>?_) ?_ (by simp;omega)
  ·simp only [Array.getD_eq_getD_getElem?,Array.getElem?_setIfInBounds,List.mem_cons]
   have:=h2 j hj
   rw [Array.getD_eq_getD_getElem?] at this
   by_cases hij:i=j
   ·subst hij
    simp [h1,hilt]
   ·rw [if_neg hij]
    rw [this]
    simp [Ne.symm hij]
  ·rcases List.mem_cons.1 hj with rfl | hj
   ·exact hilt
   ·exact h4 j hj
  ·intro l1 j l2 hl o e ho' he hbd
   rw [List.reverse_cons] at hl
   rcases List.eq_nil_or_concat l2 with rfl | ⟨l2',x,rfl⟩
   ·have hl':acc.reverse++[i]=l1++[j]:=hl
    have:=List.append_inj' hl' rfl
    obtain ⟨e1,e2⟩:=this
    injection e2 with e2
    subst e2
    rw [ho] at ho'
    obtain rfl:=Option.some.inj ho'
    have:=hm2.2 e he
    rw [hbd] at this
    simp only [Bool.not_true,Bool.false_or] at this
    obtain ⟨_,r2⟩:=hb i _ e ho he hbd
    rw [← e1]
    simpa using (hF e.on r2).1 this
   ·have hl':acc.reverse++[i]=(l1++j::l2')++[x]:=by rw [hl];simp
    have:=List.append_inj' hl' rfl
    exact h5 l1 j l2' this.1 o e ho' he hbd
theorem IE {m:Region.Mode} {ops:Array Oper} (rank:Nat→Nat) (hb:∀ i o e,ops[i]?=some o→e∈o.after→Region.binds m e=true→rank e.on < rank i∧e.on < ops.size) (t:Nat):Lin m ops (Region.linearise m ops t):=by
 unfold Region.linearise
 refine avr rank hb ops.size t _ [] (by simp) (λi hi=>?_) (by simp) (by simp) (by simp) (by simp)
 simp [Array.getD_eq_getD_getElem?,hi]
def Ym (ops:Array Oper) (rho:List Nat):Bool :=
 ops.toList.zipIdx.all λp=>p.1.after.toList.all λe =>
  (match e.ground with | .gcOnly _=>true | _=>decide (e.on < p.2))&&(match e.ground with | .textOnly _=>true | _=>decide (rho.idxOf e.on < rho.idxOf p.2∧e.on < ops.size))
theorem SF {ops:Array Oper} {rho:List Nat} (h:Ym ops rho=true) (mixed:Bool) (t:Nat):Lin .any ops (Region.schedule mixed ops t):=by
 have hE:∀ (i:Nat) (o:Oper) (e:Edge),ops[i]?=some o→e∈o.after→(match e.ground with | .gcOnly _=>true | _=>decide (e.on < i))=true∧(match e.ground with | .textOnly _=>true | _=>decide (rho.idxOf e.on < rho.idxOf i∧e.on < ops.size))=true:=by
  intro i o e ho he
  unfold Ym at h
  rw [List.all_eq_true] at h
  have:=h (o,i) (by rw [List.mem_zipIdx_iff_getElem?];simpa using ho)
  rw [List.all_eq_true] at this
  have:=this e (by simpa using he)
  rw [Bool.and_eq_true] at this
  exact this
 have hlt:∀ i o,ops[i]?=some o→i < ops.size:=λi o h=>(Array.getElem?_eq_some_iff.1 h).1
 have weak:∀ m l,Lin m ops l→(∀ e,Region.binds .any e=true→Region.binds m e=true)→Lin .any ops l:=λm l L hw =>
  ⟨L.nodup,L.lt,L.all,λl1 i l2 hl o e ho he hb=>L.after l1 i l2 hl o e ho he (hw e hb)⟩
 have hany:∀ t,Lin .any ops (Region.linearise .any ops t):=IE id λi o e ho he hb=>by
  have:=(hE i o e ho he).1
  cases hg:e.ground<;>simp [Region.binds,hg] at hb this ⊢<;>(refine ⟨this, ?_⟩;have:=hlt i o ho;omega)
 have htext:∀ t,Lin .any ops (Region.linearise .text ops t):=λt=>weak _ _ (IE id (λi o e ho he hb=>by
  have:=(hE i o e ho he).1
  cases hg:e.ground<;>simp [Region.binds,hg] at hb this ⊢<;>(refine ⟨this, ?_⟩;have:=hlt i o ho;omega)) t) (λe hb=>by cases hg:e.ground<;>simp [Region.binds,hg] at hb ⊢)
 have hgc:∀ t,Lin .any ops (Region.linearise .gc ops t):=λt=>weak _ _ (IE (rho.idxOf ·) (λi o e ho he hb=>by
  have:=(hE i o e ho he).2
  cases hg:e.ground<;>simp [Region.binds,hg] at hb this ⊢<;>exact this) t) (λe hb=>by cases hg:e.ground<;>simp [Region.binds,hg] at hb ⊢)
 unfold Region.schedule
 split
 ·exact hany t
 ·split
  ·exact htext _
  ·exact hgc _
end Go.Proofs.YtohoggieaanllaaGreat
end
section
set_option linter.unusedVariables false
set_option linter.unusedSimpArgs false
namespace Go.Proofs.YtohoggieaanllaaGreat
def Fp (P:Program) (ops:Array Oper) (o:Oper):w9 :=
 match o.guard with
 | none=>{ dst:=o.dst,op:=cOp P o.op,guard:=none }
 | some (j,want)=>match (ops[j]?).bind (·.dst) with
  | some t=>{ dst:=o.dst,op:=cOp P o.op,guard:=some (t,want) }
  | none=>{ dst:=o.dst,op:=.n .fail,guard:=none }
theorem UZ (P:Program) (ops:Array Oper) (o:Oper):(Fp P ops o).dst=o.dst:=by
 unfold Fp
 split
 ·rfl
 ·split<;>rfl
theorem afe {P:Program} {C:bP} (hC:zT P C) (ops:Array Oper) (o:Oper):afb P C o (Fp P ops o).op:=by
 unfold Fp
 split
 ·exact amo hC o
 ·split
  ·exact amo hC o
  ·exact GA.fail
theorem KH {P:Program} (ops:Array Oper) (o:Oper) {e:Env} {a:Act} {ι:gU} (he:fC ι e a.tmps.toList) {b:Bool} (h:vM (Fp P ops o).guard e=some b):Region.wanted o (yielded ops a.tmps)=b∨((Fp P ops o).op=.n .fail∧b=true):=by
 unfold Fp at h ⊢
 cases hg:o.guard with
 | none =>
  rw [hg] at h
  simp only [vM,Option.some.injEq] at h
  subst h
  exact .inl (by simp [Region.wanted,hg])
 | some p =>
  obtain ⟨j,want⟩:=p
  rw [hg] at h
  simp only at h ⊢
  cases ht:(ops[j]?).bind (·.dst) with
  | none =>
   rw [ht] at h
   simp only [vM,Option.some.injEq] at h
   subst h
   exact .inr ⟨rfl,rfl⟩
  | some t =>
   rw [ht] at h
   simp only [vM] at h
   left
   have hr:=he.getD t undef
   have hcell:∀ v,a.tmps.toList.getD t undef=v→(t < a.tmps.size→a.tmps[t]?=some v):=by
    intro v hv hlt
    rw [List.getD_eq_getElem?_getD,Array.getElem?_toList] at hv
    have:a.tmps[t]?=some a.tmps[t]:=by simp [hlt]
    rw [this] at hv ⊢
    simpa using hv
   have hlt:e.getD t .undef≠.undef→t < a.tmps.size:=by
    intro hne
    rcases Nat.lt_or_ge t a.tmps.size with hc | hc
    ·exact hc
    exfalso
    apply hne
    have hl:List.length e=a.tmps.size:=by simpa using he.length
    have hle:List.length e≤t:=by omega
    rw [List.getD_eq_getElem?_getD,List.getElem?_eq_none hle]
    rfl
   split at h
   ·rename_i c hc
    rw [hc] at hr
    simp only [VR] at hr
    have:=hcell _ hr (hlt (by rw [hc];simp))
    obtain rfl:=Option.some.inj h
    simp [Region.wanted,hg,yielded,ht,this]
   ·rename_i vs hc
    rw [hc] at hr
    simp only [VR] at hr
    obtain ⟨ws,hr,_⟩:=hr
    have:=hcell _ hr (hlt (by rw [hc];simp))
    obtain rfl:=Option.some.inj h
    simp [Region.wanted,hg,yielded,ht,this]
   ·cases h
theorem akF {P:Program} {C:bP} {o:Oper} {ao:CJ} (hok:afb P C o ao) {ι:gU} {M M':Heap} {e:Env} {a:Act} {w:World} {v:AV} {next:Act→World→Prop} {Q:Exit→Act→World→Prop} (r:R ι M w) (he:fC ι e a.tmps.toList) (h:Sv C ao e M=some (v,M'))
  (hn:∀ bL v' w',Tr ι M w bL M' w'→VR bL v v'→next (a.put o.dst v') w'):o.wp P a w next Q:=by
 cases ao with
 | p po =>
  simp only [Sv] at h
  obtain ⟨u,hu,h⟩:=Option.map_eq_some_iff.1 h
  simp only [Prod.mk.injEq] at h
  obtain ⟨rfl,rfl⟩:=h
  obtain ⟨v',h1,h2⟩:=hok ι e a w u he hu
  exact GA.of_run h1 (hn ι v' w (Tr.refl r) h2)
 | l lo =>
  simp only [Sv] at h
  obtain ⟨u,hu,h⟩:=Option.map_eq_some_iff.1 h
  simp only [Prod.mk.injEq] at h
  obtain ⟨rfl,rfl⟩:=h
  obtain ⟨v',h1,h2⟩:=hok ι M e a w u r he hu
  exact GA.of_run h1 (hn ι v' w (Tr.refl r) h2)
 | k ko =>
  simp only [Sv] at h
  obtain ⟨⟨x,mk⟩,hu,h⟩:=Option.map_eq_some_iff.1 h
  simp only [Prod.mk.injEq] at h
  obtain ⟨rfl,rfl⟩:=h
  obtain ⟨v',w',ob,N,h1,h2,h3,h4⟩:=hok ι e a w x mk he hu
  have hnone:=(r.fresh M.next (Nat.le_refl _)).2
  obtain ⟨hb,hv⟩:=h4 M.next (ι.set M.next ⟨w.heap.size,0,N⟩) (gU.IB hnone _) (by simp [gU.set])
  exact GA.of_run h1 (hn _ v' w' (Tr.push r h2 h3 hb) hv)
 | n no =>
  simp only [Sv] at h
  exact hok ι M e a w v M' next Q r he h hn
theorem Rf {P:Program} {C:bP} (hC:zT P C) {ops:Array Oper} {Q:Exit→Act→World→Prop}:∀ (l:List Nat) (ι:gU) (M:Heap) (e:Env) (a:Act) (w:World) (e':Env) (M':Heap),(∀ i,i∈l→i < ops.size)→R ι M w→fC ι e a.tmps.toList→a.defers=[] →
  UM C (l.map λi=>Fp P ops (ops.getD i default)) e M=some (e',M')→(∀ bL a' w',Tr ι M w bL M' w'→fC bL e' a'.tmps.toList→a'.defers=[]→Q .normal a' w')→wpOps P ops Q l a w
 | [],ι,M,e,a,w,e',M',_,r,he,hd,h,hq=>by
  simp only [List.map_nil,UM,Option.some.injEq,Prod.mk.injEq] at h
  obtain ⟨rfl,rfl⟩:=h
  exact hq ι a w (Tr.refl r) he hd
 | i::l,ι,M,e,a,w,e',M',hlt,r,he,hd,h,hq=>by
  have hi:=hlt i (by simp)
  have ho:ops[i]?=some ops[i]:=by simp [hi]
  have hg:ops.getD i default=ops[i]:=by simp [Array.getD_eq_getD_getElem?,hi]
  simp only [List.map_cons,UM,hg] at h
  simp only [wpOps,ho]
  have hok:=afe hC ops ops[i]
  split at h
  ·rename_i hw
   obtain ⟨⟨v,M1⟩,hop,h⟩:=Option.bind_eq_some_iff.1 h
   have hwant:Region.wanted ops[i] (yielded ops a.tmps)=true:=by
    rcases KH (P:=P) ops ops[i] he hw with hw' | ⟨hf,_⟩
    ·exact hw'
    ·rw [hf] at hop
     simp [Sv,aN] at hop
   rw [if_pos hwant]
   left
   rw [UZ] at h
   refine akF hok r he hop λnO v' w' ht hv=>?_
   exact Rf hC l nO M1 _ _ w' e' M' (λj hj=>hlt j (by simp [hj])) ht.rel (Yl (fC.mono (ht.le r) _ _ he) hv) (by rw [put_defers];exact hd) h λBK a2 w2 ht2=>hq BK a2 w2 (ht.trans ht2)
  ·rename_i hw
   have hwant:¬ Region.wanted ops[i] (yielded ops a.tmps)=true:=by
    rcases KH (P:=P) ops ops[i] he hw with hw' | ⟨_,hf⟩
    ·simp [hw']
    ·cases hf
   rw [if_neg hwant]
   rw [UZ] at h
   exact Rf hC l ι M _ _ w e' M' (λj hj=>hlt j (by simp [hj])) r (Yl he (VR.unit ι)) (by rw [put_defers];exact hd) h hq
  ·cases h
def Wv (o:Oper):List Nat:=(o.after.toList.filter (Region.binds .any)).map (·.on)
def ahF:List Oper→List Nat→List Nat
 | [],acc=>acc
 | o::r,acc=>ahF r (acc++[(Wv o).foldl (λx p=>x ||| 2 ^ p ||| acc.getD p 0) 0])
def Good (ops:List Oper) (A:List Nat):Prop:=∀ i a,(A.getD i 0).testBit a=true→∃ o,ops[i]?=some o∧∃ p,p∈Wv o∧(a=p∨(p < i∧(A.getD p 0).testBit a=true))
theorem aff (acc:List Nat) (a:Nat):∀ (l:List Nat) (x:Nat),(l.foldl (λx p=>x ||| 2 ^ p ||| acc.getD p 0) x).testBit a=true→x.testBit a=true∨∃ p,p∈l∧(a=p∨(acc.getD p 0).testBit a=true)
 | [],x,h=>.inl h
 | p::l,x,h=>by
  rw [List.foldl_cons] at h
  rcases aff acc a l _ h with h | ⟨q,hq,h⟩
  ·rw [Nat.testBit_or,Nat.testBit_or,Nat.testBit_two_pow,Bool.or_eq_true,Bool.or_eq_true,decide_eq_true_eq] at h
   rcases h with (h | h) | h
   ·exact .inl h
   ·exact .inr ⟨p,by simp,.inl h.symm⟩
   ·exact .inr ⟨p,by simp,.inr h⟩
  ·exact .inr ⟨q,by simp [hq],h⟩
theorem ab9 (all:List Oper):∀ (r pre:List Oper) (acc:List Nat),all=pre++r→acc.length=pre.length→Good all acc→Good all (ahF r acc)
 | [],_,acc,_,_,h=>h
 | o::r,pre,acc,he,hl,h=>by
  simp only [ahF]
  refine ab9 all r (pre++[o]) _ (by simp [he]) (by simp [hl]) λi a ha=>?_
  have hgd:∀ j,j < acc.length→∀ x,(acc++[x]).getD j 0=acc.getD j 0:=λj hj x=>by
   simp [List.getD_eq_getElem?_getD,List.getElem?_append_left hj]
  rcases Nat.lt_or_ge i acc.length with hi | hi
  ·rw [hgd i hi] at ha
   obtain ⟨o',h1,p,h2,h3⟩:=h i a ha
   refine ⟨o',h1,p,h2,h3.imp id λ⟨h4,h5⟩=>⟨h4, ?_⟩⟩
   rw [hgd p (by omega)]
   exact h5
  ·rcases Nat.eq_or_lt_of_le hi with e | hi
   ·subst e
    have e1:(acc++[(Wv o).foldl (λx p=>x ||| 2 ^ p ||| acc.getD p 0) 0]).getD acc.length 0=(Wv o).foldl (λx p=>x ||| 2 ^ p ||| acc.getD p 0) 0:=by
     simp [List.getD_eq_getElem?_getD]
    rw [e1] at ha
    rcases aff acc a _ _ ha with ha | ⟨p,hp,ha⟩
    ·simp at ha
    refine ⟨o,by rw [he,hl];simp,p,hp, ?_⟩
    rcases ha with ha | ha
    ·exact .inl ha
    ·have afd:p < acc.length:=by
      refine Classical.byContradiction λhc=>?_
      rw [List.getD_eq_getElem?_getD,List.getElem?_eq_none (by omega)] at ha
      simp at ha
     refine .inr ⟨afd, ?_⟩
     rw [hgd p afd]
     exact ha
   ·rw [List.getD_eq_getElem?_getD,List.getElem?_eq_none (by simp;omega)] at ha
    simp at ha
theorem afg {ops:List Oper} {A:List Nat} (h:Good ops A) {S:Nat→Prop} (hS:∀ i,S i→∀ o,ops[i]?=some o→∀ p,p∈Wv o→S p):∀ i,S i→∀ a,(A.getD i 0).testBit a=true→S a:=by
 intro i
 induction i using Nat.strongRecOn with
 | _ i ih =>
  intro hi a ha
  obtain ⟨o,h1,p,h2,h3⟩:=h i a ha
  have hp:=hS i hi o h1 p h2
  rcases h3 with rfl | ⟨h3,h4⟩
  ·exact hp
  ·exact ih p h3 hp a h4
def avt (A:List Nat) (loud:Nat→Bool) (n:Nat):List Nat :=
 let acc:=(List.range n).foldl (λacc j=>if loud j then acc++((List.range n).filter λi=>(A.getD j 0).testBit i&&!acc.contains i)++[j] else acc) []
 acc++(List.range n).filter λi=>!acc.contains i
def adC (A:List Nat) (Bn:List Nat) (p q:Nat):Bool:=(A.getD (Bn.getD q 0) 0).testBit (Bn.getD p 0)
def dList (P:Program) (ops:Array Oper) (A:List Nat) (Bn:List Nat):List fO :=
 let UM:=ops.toList.map (Fp P ops)
 let at_ (i:Nat):w9:=UM.getD i { dst:=none,op:=.n .fail,guard:=none }
 let awl:=Bn.filter λi=>(at_ i).op.loud
 let ks:=Bn.filter λi=>(at_ i).op.isK
 Bn.map λi=>{ o:=at_ i,lo:=(awl.takeWhile λj=>(A.getD i 0).testBit j).length,ix:=ks.idxOf i }
structure DZ where
 d:fO
 p:Nat
 i:Nat
 m:Nat
 r:Nat
 c:Nat
def adD (l:List Nat):Nat:=l.foldl (λx t=>x ||| 2 ^ t) 0
theorem Ww (t:Nat):∀ (l:List Nat) (x:Nat),(t∈l∨x.testBit t=true)→(l.foldl (λx t=>x ||| 2 ^ t) x).testBit t=true
 | [],x,h=>by simpa using h
 | u::l,x,h=>by
  rw [List.foldl_cons]
  refine Ww t l _ ?_
  rcases h with h | h
  ·rcases List.mem_cons.1 h with rfl | h
   ·right
    rw [Nat.testBit_or,Nat.testBit_two_pow]
    simp
   ·exact .inl h
  ·right
   rw [Nat.testBit_or,h]
   simp
theorem ahG {t:Nat} {l:List Nat} (h:t∈l):(adD l).testBit t=true:=Ww t l 0 (.inl h)
def ahH (A:List Nat):List fO→List Nat→Nat→Nat→List DZ
 | d::ds,i::Bn,p,c=>⟨d,p,i,A.getD i 0,adD d.o.rd,c⟩::ahH A ds Bn (p+1) (if d.o.op.loud then c+1 else c)
 | _,_,_,_=>[]
def akG (ds:List fO) (j:Nat):Nat:=((ds.take j).filter λd=>d.o.op.loud).length
theorem ajQ (ds:List fO):∀ j,j≤ds.length→zU ds j=akG ds j
 | 0,_=>by simp [zU,akG]
 | j+1,h=>by
  have ih:=ajQ ds j (by omega)
  unfold zU akG at ih ⊢
  rw [List.range_succ,List.filter_append,List.length_append,ih,List.take_add_one,List.filter_append,List.length_append]
  congr 1
  have hj:ds[j]?=some ds[j]:=List.getElem?_eq_getElem (by omega)
  simp only [hj,Option.toList_some,List.filter_cons,List.filter_nil,lT]
  split<;>rfl
theorem afh (A:List Nat):∀ (ds:List fO) (Bn:List Nat) (p c j:Nat) (d:fO) (i:Nat),ds[j]?=some d→Bn[j]?=some i→(ahH A ds Bn p c)[j]?=some ⟨d,p+j,i,A.getD i 0,adD d.o.rd,c+akG ds j⟩
 | [],_,_,_,_,_,_,h,_=>by simp at h
 | _::_,[],_,_,_,_,_,_,h=>by simp at h
 | d::ds,i::Bn,p,c,0,d',i',h1,h2=>by
  simp at h1 h2
  subst h1 h2
  simp [ahH,akG]
 | d::ds,i::Bn,p,c,j+1,d',i',h1,h2=>by
  simp only [List.getElem?_cons_succ] at h1 h2
  simp only [ahH,List.getElem?_cons_succ]
  rw [afh A ds Bn _ _ j d' i' h1 h2]
  simp only [Option.some.injEq,DZ.mk.injEq,true_and]
  refine ⟨by omega, ?_⟩
  simp only [akG,List.take_succ_cons,List.filter_cons]
  cases d.o.op.loud<;>simp<;>omega
def ahI (nk:Nat) (dz:List DZ):Bool :=
 (dz.all λp=>dz.all λq =>
  (!q.m.testBit p.i || decide (p.p < q.p)) &&
  (p.p==q.p || (
   (match p.d.o.dst with | some t=>q.d.o.dst != some t | none=>true) &&
   (match q.d.o.dst with | some t=>!(p.r.testBit t) || p.m.testBit q.i || q.m.testBit p.i | none=>true) &&
   (!(q.d.o.op.loud&&decide (p.p < q.p)&&!p.d.o.op.plain) || q.m.testBit p.i) &&
   (!(p.d.o.op.jI&&q.d.o.op.loud&&decide (q.p < p.p)&&decide (q.c < p.d.lo)) || p.m.testBit q.i) &&
   (!(p.d.o.op.isK&&q.d.o.op.isK) || p.d.ix != q.d.ix)))) &&
 (dz.all λp=>!p.d.o.op.isK || decide (p.d.ix < nk))
theorem afi {nk:Nat} {ds:List fO} {A Bn:List Nat} (hlen:ds.length=Bn.length) (h:ahI nk (ahH A ds Bn 0 0)=true):G_ nk ds (λp q=>p < ds.length∧q < ds.length∧adC A Bn p q=true):=by
 unfold ahI at h
 simp only [Bool.and_eq_true,List.all_eq_true] at h
 obtain ⟨h1,h2⟩:=h
 have lt:∀ p (d:fO),ds[p]?=some d→p < ds.length:=λp d h=>(List.getElem?_eq_some_iff.1 h).1
 have tg:∀ p,p < ds.length→Bn[p]?=some (Bn.getD p 0):=λp hp=>by
  rw [List.getD_eq_getElem?_getD,List.getElem?_eq_getElem (by omega)]
  rfl
 have hm:∀ (p:Nat) (d:fO),ds[p]?=some d→(⟨d,p,Bn.getD p 0,A.getD (Bn.getD p 0) 0,adD d.o.rd,zU ds p⟩:DZ)∈ahH A ds Bn 0 0:=λp d hp=>by
  have:=afh A ds Bn 0 0 p d _ hp (tg p (lt p d hp))
  rw [Nat.zero_add,Nat.zero_add,← ajQ ds p (Nat.le_of_lt (lt p d hp))] at this
  exact List.mem_of_getElem? this
 have H:∀ (p q:Nat) (d d':fO),ds[p]?=some d→ds[q]?=some d'→_:=λp q d d' hp hq=>h1 _ (hm p d hp) _ (hm q d' hq)
 have or1:∀ {a b:Bool},(a || b)=true→a=false→b=true:=λ{a b} h1 h2=>by subst h2;simpa using h1
 have N:∀ (p q:Nat) (d d':fO),ds[p]?=some d→ds[q]?=some d'→p≠q→_:=λp q d d' hp hq hne=>or1 (H p q d d' hp hq).2 (by simpa using hne)
 constructor
 ·rintro p q ⟨hp,hq,ha⟩
  have:=(H p q _ _ (List.getElem?_eq_getElem hp) (List.getElem?_eq_getElem hq)).1
  have ha':(A.getD (Bn.getD q 0) 0).testBit (Bn.getD p 0)=true:=ha
  rw [ha'] at this
  simpa using this
 ·intro p q d d' t hp hq hne ht
  have:=N p q d d' hp hq hne
  simp only [Bool.and_eq_true] at this
  have:=this.1.1.1.1
  rw [ht] at this
  simpa using this
 ·intro p q d d' t hp hq hne ht hr
  have:=N p q d d' hp hq hne
  simp only [Bool.and_eq_true] at this
  have:=this.1.1.1.2
  rw [ht] at this
  simp [ahG hr] at this
  exact this.imp (λh=>⟨lt _ _ hq,lt _ _ hp,by simpa [adC] using h⟩) (λh=>⟨lt _ _ hp,lt _ _ hq,by simpa [adC] using h⟩)
 ·intro p q d d' hp hq hlt hl hpl
  have:=N p q d d' hp hq (by omega)
  simp only [Bool.and_eq_true] at this
  have:=this.1.1.2
  simp [hlt,hl,hpl] at this
  exact ⟨lt _ _ hp,lt _ _ hq,by simpa [adC] using this⟩
 ·intro p d q hp hl hlt ajM hc
  have hq:q < ds.length:=by have:=lt _ _ hp;omega
  have hq':=List.getElem?_eq_getElem hq
  have:=N p q d _ hp hq' (by omega)
  simp only [Bool.and_eq_true] at this
  have:=this.1.2
  have hl2:ds[q].o.op.loud=true:=by simpa [lT,hq'] using ajM
  simp [hl,hlt,hl2,hc] at this
  exact ⟨hq,lt _ _ hp,by simpa [adC] using this⟩
 ·intro p d hp hk
  have:=h2 _ (hm p d hp)
  simpa [hk] using this
 ·intro p q d d' hp hq hk hk' hix
  refine Classical.byContradiction λhne=>?_
  have:=N p q d d' hp hq hne
  simp only [Bool.and_eq_true] at this
  have:=this.2
  simp [hk,hk',hix] at this
def afj (P:Program) (ops:Array Oper):bG :=
 let A:=ahF ops.toList []
 let n:=ops.size
 let UM:=ops.toList.map (Fp P ops)
 let Bn:=avt A (λi=>(UM.getD i { dst:=none,op:=.n .fail,guard:=none }).op.loud) n
 let ds:=dList P ops A Bn
 let nk:=(UM.filter λo=>o.op.isK).length
 if (Ym ops (List.range n) || Ym ops (Region.linearise .gc ops 0))&&(Bn.length==n&&decide Bn.Nodup&&(List.range n).all λi=>Bn.contains i)&&ahI nk (ahH A ds Bn 0 0) then .Xn nk ds else .fail
end Go.Proofs.YtohoggieaanllaaGreat
end
section
set_option linter.unusedVariables false
set_option linter.unusedSimpArgs false
namespace Go.Proofs.YtohoggieaanllaaGreat
theorem akH {l:List Nat} (h:l.Nodup) {i j x:Nat} (hi:l[i]?=some x) (hj:l[j]?=some x):i=j:=by
 obtain ⟨i1,i2⟩:=List.getElem?_eq_some_iff.1 hi
 obtain ⟨j1,j2⟩:=List.getElem?_eq_some_iff.1 hj
 rcases Nat.lt_trichotomy i j with hlt | he | hlt
 ·exact absurd (i2.trans j2.symm) (List.pairwise_iff_getElem.1 h i j i1 j1 hlt)
 ·exact he
 ·exact absurd (j2.trans i2.symm) (List.pairwise_iff_getElem.1 h j i j1 i1 hlt)
theorem amw {P:Program} {C:bP} (hC:zT P C) {ops:Array Oper} {A:List Nat} (hA:Good ops.toList A) {Bn:List Nat} (htl:Bn.length=ops.size) (htn:Bn.Nodup) (hta:∀ i,i < ops.size→i∈Bn) {ds:List fO} (hds:ds.length=Bn.length)
  (hdo:∀ (p i:Nat),Bn[p]?=some i→∃ (d:fO) (o:Oper),ds[p]?=some d∧ops[i]?=some o∧d.o=Fp P ops o) {nk base:Nat} (c:G_ nk ds (λp q=>p < ds.length∧q < ds.length∧adC A Bn p q=true))
  {E:Nat→Env} {H:Nat→Heap} {G:Nat→List Heap} {V:Nat→AV} {W:Nat→Bool} {B:Nat→Option mU} (r:Xp C base nk ds E H G V W B) (hg0:G 0=[]) {uD:gU} {M0:Heap} {w0:World} (hbase:M0.next=base)
  {L:List Nat} (hL:Lin .any ops L) {Q:Exit→Act→World→Prop} (hq:∀ ι a w,Tr uD M0 w0 ι (H ds.length) w→fC ι (E ds.length) a.tmps.toList→a.defers=[]→Q .normal a w) :
  ∀ (l dn:List Nat),L=dn++l→∀ (q:Nat) (S:Nat→Bool) (ι:gU) (a:Act) (w:World),(∀ p i,Bn[p]?=some i→(S p=true↔i∈dn)) →
   KG base nk ds E H V B (λp q=>p < ds.length∧q < ds.length∧adC A Bn p q=true) uD M0 w0 q S ι a w→wpOps P ops Q l a w:=by
 intro l
 induction l with
 | nil =>
  intro dn hdn q S ι a w hS I
  simp only [wpOps]
  have hall:∀ p,p < ds.length→S p=true:=λp hp=>by
   have ht:Bn[p]?=some Bn[p]:=by simp [show p < Bn.length from by omega]
   have hlt:=hL.lt
   rw [hS p _ ht]
   have:dn=L:=by simpa using hdn.symm
   rw [this]
   refine hL.all _ ?_
   -- a place of tau is an operation
   have:=hdo p _ ht
   obtain ⟨d,o,_,h2,_⟩:=this
   exact (Array.getElem?_eq_some_iff.1 h2).1
  have axG:Bq ds (E 0) V S=E ds.length:=by
   rw [ahD c r ds.length (Nat.le_refl _)]
   unfold Bq
   refine List.map_congr_left λt _=>?_
   cases hw:writer ds t with
   | none=>rfl
   | some p =>
    obtain ⟨d,hd,_⟩:=He hw
    have hp:=(List.getElem?_eq_some_iff.1 hd).1
    simp [hall p hp,hp]
  have hheap:gQ base nk ds H B q S=H ds.length:=by
   obtain ⟨g1,g2,g3⟩:=Rc c r ds.length I.qle (Nat.le_refl _) λj j1 j2=>by
    cases hj:lT ds j with
    | false=>rfl
    | true=>have:=I.below j (hall j j2) hj;omega
   refine Fj (λb=>?_) g1.symm
   by_cases hb:base≤b∧b < base+nk
   ·rw [g3 (λb p0 b1 b2 hs hq=>(I.nones b b1 b2).1 p0 hs hq) b hb.1 hb.2]
    simp only [gQ]
    rw [if_pos hb]
    cases hs:mq ds (b - base) with
    | none=>exact ((I.nones b hb.1 hb.2).2 hs).symm
    | some p0 =>
     obtain ⟨d,hd,_⟩:=qW hs
     have hp:=(List.getElem?_eq_some_iff.1 hd).1
     simp only
     by_cases h:p0 < q
     ·rw [if_pos h,if_neg (by omega)]
     ·rw [if_neg h,if_pos (hall p0 hp),if_pos ⟨by omega,hp⟩]
   ·rw [g2 b hb]
    simp only [gQ]
    rw [if_neg hb]
  have h1:=I.tr
  rw [hheap] at h1
  have h2:=I.env
  rw [axG] at h2
  exact hq ι a w h1 h2 I.defs
 | cons i l ih =>
  intro dn hdn q S ι a w hS I
  have hmem:i∈L:=by rw [hdn];simp
  have hi:=hL.lt i hmem
  have awm:=hta i hi
  obtain ⟨p,hp⟩:=List.mem_iff_getElem?.1 awm
  obtain ⟨d,o,hd,ho,aqY⟩:=hdo p i hp
  have afd:=(List.getElem?_eq_some_iff.1 hd).1
  have hni:i ∉ dn:=by
   have:=hL.nodup
   rw [hdn,List.nodup_append] at this
   intro h
   exact this.2.2 i h i (by simp) rfl
  have hSp:S p=false:=by
   cases h:S p with
   | false=>rfl
   | true=>exact absurd ((hS p i hp).1 h) hni
  -- what it hangs on is done
  have hclosed:∀ j,j∈dn→∀ o,ops.toList[j]?=some o→∀ x,x∈Wv o→x∈dn:=by
   intro j hj o' ho' x hx
   obtain ⟨l1,l2,hl⟩:=List.append_of_mem hj
   unfold Wv at hx
   obtain ⟨e,he,rfl⟩:=List.mem_map.1 hx
   obtain ⟨he,hb⟩:=List.mem_filter.1 he
   have:=hL.after l1 j (l2++i::l) (by rw [hdn,hl];simp) o' e (by simpa using ho') (by simpa using he) hb
   rw [hl]
   simp [this]
  have axH:∀ x,(A.getD i 0).testBit x=true→x∈dn:=by
   intro x hx
   obtain ⟨o',ho',y,hy,hxy⟩:=hA i x hx
   have hyd:y∈dn:=by
    unfold Wv at hy
    obtain ⟨e,he,rfl⟩:=List.mem_map.1 hy
    obtain ⟨he,hb⟩:=List.mem_filter.1 he
    exact hL.after dn i l hdn o' e (by simpa using ho') (by simpa using he) hb
   rcases hxy with rfl | ⟨_,hxy⟩
   ·exact hyd
   ·exact afg hA (S:=λj=>j∈dn) hclosed y hyd x hxy
  have hpre:∀ s,(s < ds.length∧p < ds.length∧adC A Bn s p=true)→S s=true:=by
   rintro s ⟨hs,_,ha⟩
   have hts:Bn[s]?=some Bn[s]:=by simp [show s < Bn.length from by omega]
   rw [hS s _ hts]
   refine axH _ ?_
   unfold adC at ha
   have e1:Bn.getD p 0=i:=by rw [List.getD_eq_getElem?_getD,hp];rfl
   have e2:Bn.getD s 0=Bn[s]:=by rw [List.getD_eq_getElem?_getD,hts];rfl
   rw [e1,e2] at ha
   simpa using ha
  have hok:afb P C o d.o.op:=by rw [aqY];exact afe hC ops o
  have hdst:o.dst=d.o.dst:=by rw [aqY,UZ]
  have hstep:=I.step c r hg0 hbase hd hSp hpre hok hdst
  have st:=r.step p d hd
  have ahE:=UY c r I.closed hd hSp hpre
  have hwant:vM d.o.guard (Bq ds (E 0) V S)=some (W p):=by
   rw [← aa2 (e:=E p) (λt ht=>ahE t (by simp only [w9.rd,List.mem_append];exact .inl ht))]
   exact st.want
  have hcw:=KH (P:=P) ops o I.env (by rw [← aqY];exact hwant)
  have hSm:∀ s j,Bn[s]?=some j→(more S p s=true↔j∈dn++[i]):=by
   intro s j hs
   by_cases hsp:s=p
   ·subst hsp
    rw [hp] at hs
    obtain rfl:=Option.some.inj hs
    simp [more]
   ·rw [Cn hsp,hS s j hs]
    have:j≠i:=by
     rintro rfl
     exact hsp (akH htn hs hp)
    simp [this]
  simp only [wpOps,ho]
  cases hw:W p with
  | true =>
   rw [hw] at hcw
   have ahJ:Region.wanted o (yielded ops a.tmps)=true:=by
    rcases hcw with h | ⟨hf,_⟩
    ·exact h
    ·rw [← aqY] at hf
     have:=(st.n .fail hw hf).1
     simp [aN] at this
   rw [if_pos ahJ]
   left
   exact hstep.1 hw _ Q λq' bL v' w' I'=>ih (dn++[i]) (by rw [hdn];simp) q' (more S p) bL _ w' hSm I'
  | false =>
   rw [hw] at hcw
   have ahJ:¬ Region.wanted o (yielded ops a.tmps)=true:=by
    rcases hcw with h | ⟨_,hf⟩
    ·simp [h]
    ·cases hf
   rw [if_neg ahJ]
   obtain ⟨q',I'⟩:=hstep.2 hw
   exact ih (dn++[i]) (by rw [hdn];simp) q' (more S p) ι _ w hSm I'
theorem ahK {P:Program} {C:bP} (hC:zT P C) {id:Nat} {ops:Array Oper} {nk:Nat} {ds:List fO} (hc:afj P ops=.Xn nk ds) {ι:gU} {M:Heap} {e:Env} {a:Act} {w:World} (r:R ι M w) (he:fC ι e a.tmps.toList) (hd:a.defers=[]) {e':Env} {M':Heap}
  (h:Js C M.next nk ds e { M with next:=M.next+nk } []=some (e',M')) {Q:Exit→Act→World→Prop} (hq:∀ bL a' w',Tr ι M w bL M' w'→fC bL e' a'.tmps.toList→a'.defers=[]→Q .normal a' w'):(Code.region id ops true).wp P Q a w:=by
 unfold afj at hc
 simp only at hc
 split at hc
 case isFalse=>cases hc
 rename_i hcond
 simp only [Bool.and_eq_true,beq_iff_eq,decide_eq_true_eq,List.all_eq_true] at hcond
 obtain ⟨⟨amy,⟨htl,htn⟩,hta⟩,amA⟩:=hcond
 injection hc with hc1 hc2
 rw [hc1,hc2] at amA
 have cnd:=afi (by rw [← hc2];simp [dList]) amA
 obtain ⟨E,H,G,V,W,B,hr,q1,q2,q3,q4,q5⟩:=ajK ds e _ _ e' M' h
 refine wp_region_draw λt=>?_
 have hL:Lin .any ops (Region.schedule (P.follows .mixedOrders) ops t):=by
  rw [Bool.or_eq_true] at amy
  rcases amy with h | h
  ·exact SF h (P.follows .mixedOrders) t
  ·exact SF h (P.follows .mixedOrders) t
 have hA:Good ops.toList (ahF ops.toList []):=ab9 ops.toList ops.toList [] [] (by simp) rfl (λi a ha=>by simp [List.getD_eq_getElem?_getD] at ha)
 have rd:=r.drew (w.drawn+1)
 have awn:∀ i,i < ops.size→i∈avt (ahF ops.toList []) (λi=>((ops.toList.map (Fp P ops)).getD i { dst:=none,op:=.n .fail,guard:=none }).op.loud) ops.size:=λi hi=>by
  have:=hta i (by simpa using hi)
  simpa using this
 generalize azi:avt (ahF ops.toList []) (λi=>((ops.toList.map (Fp P ops)).getD i { dst:=none,op:=.n .fail,guard:=none }).op.loud) ops.size=Bn at *
 have hlt:∀ i,i∈Bn→i < ops.size:=by
  intro i hi
  rcases Nat.lt_or_ge i ops.size with h | h
  ·exact h
  ·exfalso
   have:=Pv (i::List.range ops.size) Bn (List.nodup_cons.2 ⟨by simpa using h,List.nodup_range⟩) (λx hx=>by
    rcases List.mem_cons.1 hx with rfl | hx
    ·exact hi
    ·exact awn x (by simpa using hx))
   simp at this
   omega
 have hds:ds.length=Bn.length:=by rw [← hc2];simp [dList]
 have hdo:∀ (p i:Nat),Bn[p]?=some i→∃ (d:fO) (o:Oper),ds[p]?=some d∧ops[i]?=some o∧d.o=Fp P ops o:=by
  intro p i hp
  have hi:=hlt i (List.mem_of_getElem? hp)
  have ho:ops[i]?=some ops[i]:=by simp [hi]
  refine ⟨_,ops[i],by rw [← hc2];simp only [dList,List.getElem?_map,hp,Option.map_some];rfl,ho, ?_⟩
  simp [List.getD_eq_getElem?_getD,hi]
 have hbase:∀ b,M.next≤b→b < M.next+nk→(H 0).get b=none:=λb b1 _=>by
  rw [q2]
  exact (r.fresh b b1).1
 have hheap:gQ M.next nk ds H B 0 (λ_=>false)={ M with next:=M.next+nk }:=by
  refine Fj (λb=>?_) (by simp [gQ,q2])
  simp only [gQ]
  split
  ·rename_i hb
   have:=(r.fresh b hb.1).1
   cases mq ds (b - M.next)<;>simp [this]
  ·rw [q2]
 have hR0:R ι { M with next:=M.next+nk } { w with drawn:=w.drawn+1 }:=⟨rd.blk,rd.apart,λb hb=>rd.fresh b (by simp only at hb;omega)⟩
 refine amw hC hA htl htn awn hds hdo (base:=M.next) cnd hr q3 (uD:=ι) (M0:=M) (w0:=w) rfl hL (λbL a' w' ht hv hd'=>?_) _ [] rfl 0 (λ_=>false) ι a _ (λp i _=>by simp) ?_
 ·rw [q5] at ht
  rw [q4] at hv
  exact hq bL a' w' ht hv hd'
 ·refine ⟨Nat.zero_le _,.inl rfl,λj h=>by simp at h,λp s h=>by simp at h,λb b1 b2=>⟨λp0 _ _=>hbase b b1 b2,λ_=>hbase b b1 b2⟩,by rw [q2];exact Nat.le_refl _, ?_,λp d' _ _ _=>(r.fresh _ (by omega)).2, ?_,hd⟩
  ·rw [hheap]
   exact ⟨hR0,λ_ _=>rfl,by simp,λ_ _ h=>h,λ_ _ h _=>h,λb x l h1 h2 h3 _=>⟨b,x,l,h1,h2,h3,rfl⟩,λ_ _ _=>rfl,Nat.le_refl _,rfl,rfl,rfl⟩
  ·have:Bq ds (E 0) V (λ_=>false)=e:=by
    rw [q1]
    refine Yk (oL _ _) λt=>?_
    rw [uG]
    split
    ·cases writer ds t<;>simp
    ·rename_i h
     have hle:List.length e≤t:=by omega
     rw [List.getD_eq_getElem?_getD,List.getElem?_eq_none hle]
     rfl
   rw [this]
   exact he
abbrev Hints:=List (List Nat)
def uH (P:Program):Code→Hints→bG×Hints
 | .skip,h=>(.skip,h)
 | .region _ ops true,h=>(afj P ops,h)
 | .region _ ops false,h=>(.reg ((List.range ops.size).map λi=>Fp P ops (ops.getD i default)),h)
 | .seq a b,h =>
  let x:=uH P a h
  let y:=uH P b x.2
  (.seq x.1 y.1,y.2)
 | .cond c a b,h=>match cX c with
  | some ax =>
   let x:=uH P a h
   let y:=uH P b x.2
   (.cond ax x.1 y.1,y.2)
  | none=>(.fail,h)
 | .block id c,h =>
  let x:=uH P c h
  (.block id x.1,x.2)
 | .loop c,h =>
  let x:=uH P c h.tail
  (.loop (h.headD []) x.1,x.2)
 | .exit id,h=>(.exit id,h)
 | .ret,h=>(.ret,h)
 | .rangeFunc ..,h | .scope _,h | .label _,h | .goto _,h | .refuse _,h=>(.fail,h)
def Ex.of:Ex→Exit
 | .normal=>.normal
 | .exit id=>.exit id
 | .ret=>.ret
def amB (P:Program) (C:bP) (K:Nat) (c:Code) (ac:bG):Prop :=
 ∀ (ι:gU) (M:Heap) (e:Env) (a:Act) (w:World) (x:Ex) (e':Env) (M':Heap) (Q:Exit→Act→World→Prop),R ι M w→fC ι e a.tmps.toList→a.defers=[]→l5 C K ac e M=some (x,e',M') →
  (∀ bL a' w',Tr ι M w bL M' w'→fC bL e' a'.tmps.toList→a'.defers=[]→Q x.of a' w')→c.wp P Q a w
theorem Wx {P:Program} {C:bP} {K:Nat} {c:Code} {ac:bG} {keep:List Nat} (hc:amB P C K c ac) {Q:Exit→Act→World→Prop}:∀ (k:Nat) (ι:gU) (M:Heap) (e:Env) (a:Act) (w:World) (x:Ex) (e':Env) (M':Heap),R ι M w→fC ι e a.tmps.toList→a.defers=[] →
  YE (l5 C K ac) keep k e M=some (x,e',M')→(∀ bL a' w',Tr ι M w bL M' w'→fC bL e' a'.tmps.toList→a'.defers=[]→Q x.of a' w')→Code.rounds P c Q k a w
 | 0,ι,M,e,a,w,x,e',M',r,he,hd,h,hq=>by simp [YE] at h
 | k+1,ι,M,e,a,w,x,e',M',r,he,hd,h,hq=>by
  simp only [YE] at h
  rw [rounds_succ]
  split at h
  ·rename_i e1 M1 hb
   refine hc ι M _ a w _ _ _ _ r (he.lZ keep 0) hd hb λnO a1 w1 ht hv hd1=>?_
   simp only [Ex.of,Exit.then]
   exact Wx hc k nO M1 e1 a1 w1 x e' M' ht.rel hv hd1 h λBK a2 w2 ht2=>hq BK a2 w2 (ht.trans ht2)
  ·rename_i hne
   refine hc ι M _ a w _ _ _ _ r (he.lZ keep 0) hd h λnO a1 w1 ht hv hd1=>?_
   have:=hq nO a1 w1 ht hv hd1
   cases x with
   | normal=>exact absurd h (hne e' M')
   | exit id=>exact this
   | ret=>exact this
theorem rA {P:Program} {C:bP} (hC:zT P C) (K:Nat):∀ (c:Code) (h:Hints),amB P C K c (uH P c h).1
 | .skip,hs=>by
  intro ι M e a w x e' M' Q r he hd h hq
  simp only [uH,l5,Option.some.injEq,Prod.mk.injEq] at h
  obtain ⟨rfl,rfl,rfl⟩:=h
  exact wp_skip (hq ι a w (Tr.refl r) he hd)
 | .region id ops true,hs=>by
  intro ι M e a w x e' M' Q r he hd h hq
  simp only [uH] at h
  cases hc:afj P ops with
  | Xn nk ds =>
   rw [hc] at h
   simp only [l5] at h
   obtain ⟨p,hp,h⟩:=Option.map_eq_some_iff.1 h
   obtain ⟨e1,M1⟩:=p
   simp only [Prod.mk.injEq] at h
   obtain ⟨rfl,rfl,rfl⟩:=h
   exact ahK hC hc r he hd hp hq
  | fail=>rw [hc] at h;simp [l5] at h
  | _ =>
   unfold afj at hc
   simp only at hc
   split at hc<;>cases hc
 | .region id ops false,hs=>by
  intro ι M e a w x e' M' Q r he hd h hq
  simp only [uH,l5] at h
  obtain ⟨⟨e1,M1⟩,hp,h⟩:=Option.map_eq_some_iff.1 h
  simp only [Prod.mk.injEq] at h
  obtain ⟨rfl,rfl,rfl⟩:=h
  exact wp_region (Rf hC _ ι M e a w _ _ (λi hi=>by simpa using hi) r he hd hp hq)
 | .seq c1 c2,hs=>by
  intro ι M e a w x e' M' Q r he hd h hq
  simp only [uH,l5] at h
  refine wp_seq ?_
  split at h
  ·rename_i e1 M1 h1
   refine rA hC K c1 hs ι M e a w _ _ _ _ r he hd h1 λnO a1 w1 ht hv hd1=>?_
   simp only [Ex.of,Exit.then]
   exact rA hC K c2 _ nO M1 e1 a1 w1 x e' M' Q ht.rel hv hd1 h λBK a2 w2 ht2=>hq BK a2 w2 (ht.trans ht2)
  ·rename_i hne
   refine rA hC K c1 hs ι M e a w _ _ _ _ r he hd h λnO a1 w1 ht hv hd1=>?_
   have:=hq nO a1 w1 ht hv hd1
   cases x with
   | normal=>exact absurd h (hne e' M')
   | exit id=>exact this
   | ret=>exact this
 | .cond c c1 c2,hs=>by
  intro ι M e a w x e' M' Q r he hd h hq
  simp only [uH] at h
  cases hx:cX c with
  | none=>rw [hx] at h;simp [l5] at h
  | some ax =>
   rw [hx] at h
   simp only [l5] at h
   have hv:=gF hx he
   split at h
   ·rename_i hb
    rw [hb] at hv
    simp only [VR] at hv
    exact wp_cond_true hv (rA hC K c1 _ ι M e a w x e' M' Q r he hd h hq)
   ·rename_i hb
    rw [hb] at hv
    simp only [VR] at hv
    exact wp_cond_false hv (rA hC K c2 _ ι M e a w x e' M' Q r he hd h hq)
   ·cases h
 | .block id c,hs=>by
  intro ι M e a w x e' M' Q r he hd h hq
  simp only [uH,l5] at h
  refine wp_block ?_
  split at h
  ·rename_i i e1 M1 h1
   refine rA hC K c hs ι M e a w _ _ _ _ r he hd h1 λnO a1 w1 ht hv hd1=>?_
   simp only [Ex.of,Exit.inBlock]
   split at h
   ·rename_i hi
    simp only [Option.some.injEq,Prod.mk.injEq] at h
    obtain ⟨rfl,rfl,rfl⟩:=h
    rw [if_pos hi]
    exact hq nO a1 w1 ht hv hd1
   ·rename_i hi
    simp only [Option.some.injEq,Prod.mk.injEq] at h
    obtain ⟨rfl,rfl,rfl⟩:=h
    rw [if_neg hi]
    exact hq nO a1 w1 ht hv hd1
  ·rename_i hne
   refine rA hC K c hs ι M e a w _ _ _ _ r he hd h λnO a1 w1 ht hv hd1=>?_
   have:=hq nO a1 w1 ht hv hd1
   cases x with
   | normal=>exact this
   | exit i=>exact absurd h (hne i e' M')
   | ret=>exact this
 | .loop c,hs=>by
  intro ι M e a w x e' M' Q r he hd h hq
  simp only [uH,l5] at h
  exact wp_loop_rounds K (Wx (rA hC K c _) K ι M e a w x e' M' r he hd h hq)
 | .exit id,hs=>by
  intro ι M e a w x e' M' Q r he hd h hq
  simp only [uH,l5,Option.some.injEq,Prod.mk.injEq] at h
  obtain ⟨rfl,rfl,rfl⟩:=h
  exact wp_exit (hq ι a w (Tr.refl r) he hd)
 | .ret,hs=>by
  intro ι M e a w x e' M' Q r he hd h hq
  simp only [uH,l5,Option.some.injEq,Prod.mk.injEq] at h
  obtain ⟨rfl,rfl,rfl⟩:=h
  exact wp_ret (hq ι a w (Tr.refl r) he hd)
 | .rangeFunc ..,hs=>by
  intro ι M e a w x e' M' Q r he hd h hq
  simp [uH,l5] at h
 | .scope _,hs=>by
  intro ι M e a w x e' M' Q r he hd h hq
  simp [uH,l5] at h
 | .label _,hs=>by
  intro ι M e a w x e' M' Q r he hd h hq
  simp [uH,l5] at h
 | .goto _,hs=>by
  intro ι M e a w x e' M' Q r he hd h hq
  simp [uH,l5] at h
 | .refuse _,hs=>by
  intro ι M e a w x e' M' Q r he hd h hq
  simp [uH,l5] at h
end Go.Proofs.YtohoggieaanllaaGreat
end
section
set_option linter.unusedVariables false
set_option linter.unusedSimpArgs false
namespace Go.Proofs.YtohoggieaanllaaGreat
def aqZ (P:Program):ResultVar→Option Jq
 | .tmp t=>some (.tmp t)
 | .cell t ty=>match Fg P ty,qG P ty with
  | some g,some n=>some (.cell t g n)
  | _,_=>none
def acd (P:Program):List ResultVar→Option (List Jq)
 | []=>some []
 | x::l=>match aqZ P x,acd P l with
  | some a,some r=>some (a::r)
  | _,_=>none
def aR (P:Program) (f:FuncId) (h:Hints):Option bC :=
 match P.funcs[f]? with
 | some fn=>match fn.body,acd P fn.results.toList with
  | some c,some rs=>if fn.name=="runtime.NumGoroutine" then none else some { nargs:=fn.params.size+fn.nfree,ntmps:=fn.ntmps,code:=(uH P c h).1,results:=rs }
  | _,_=>none
 | none=>none
theorem aq0 {P:Program} {x:ResultVar} {a:Jq} (hc:aqZ P x=some a) {ι:gU} {M:Heap} {w:World} (r:R ι M w) {e:Env} {tmps:Array Value} (he:fC ι e tmps.toList) {v:AV} (h:ahA a e M=some v) :
  ∃ v',((match x with | .tmp t=>pure (tmps.getD t undef) | .cell a t=>do loadVar t (← asAddr (tmps.getD a undef))):Sem Value).run P w=.ok v' w∧VR ι v v':=by
 have hg:∀ t,VR ι (e.getD t .undef) (tmps.getD t undef):=λt=>by
  have:=he.getD t undef
  rw [Array.getD_eq_getD_getElem?]
  rw [List.getD_eq_getElem?_getD (l:=tmps.toList)] at this
  simpa using this
 cases x with
 | tmp t =>
  simp only [aqZ,Option.some.injEq] at hc
  subst hc
  simp only [ahA] at h
  split at h
  ·cases h
  ·obtain rfl:=Option.some.inj h
   exact ⟨_,rfl,hg t⟩
 | cell t ty =>
  simp only [aqZ] at hc
  split at hc
  case h_2=>cases hc
  rename_i g n hga hgn
  obtain rfl:=Option.some.inj hc
  simp only [ahA] at h
  obtain ⟨ad,v',h1,h2,h3⟩:=Wp (P:=P) r hga hgn (hg t) h
  refine ⟨v', ?_,h3⟩
  simp [h1,asAddr,h2]
theorem afk {P:Program} {ι:gU} {M:Heap} {w:World} (r:R ι M w) {e:Env} {tmps:Array Value} (he:fC ι e tmps.toList):∀ (l:List ResultVar) (al:List Jq) (vs:List AV),acd P l=some al→YF al e M=some vs →
  ∃ vs',((l.mapM λx=>(match x with | .tmp t=>pure (tmps.getD t undef) | .cell a t=>do loadVar t (← asAddr (tmps.getD a undef)):Sem Value)):Sem (List Value)).run P w=.ok vs' w∧fC ι vs vs'
 | [],al,vs,hc,h=>by
  simp only [acd,Option.some.injEq] at hc
  subst hc
  simp only [YF,Option.some.injEq] at h
  subst h
  exact ⟨[],by simp,by simp [fC]⟩
 | x::l,al,vs,hc,h=>by
  simp only [acd] at hc
  split at hc
  case h_2=>cases hc
  rename_i a al' h1 h2
  obtain rfl:=Option.some.inj hc
  simp only [YF] at h
  obtain ⟨v,hv,h⟩:=Option.bind_eq_some_iff.1 h
  obtain ⟨vs2,hvs,rfl⟩:=Option.map_eq_some_iff.1 h
  obtain ⟨v',q1,q2⟩:=aq0 (P:=P) h1 r he hv
  obtain ⟨vs',q3,q4⟩:=afk r he l al' vs2 h2 hvs
  refine ⟨v'::vs', ?_,by simp only [fC];exact ⟨q2,q4⟩⟩
  simp only [List.mapM_cons,Sem.run_bind,q1,Result.andThen_ok,q3,Sem.run_pure]
theorem afl {P:Program} {fn:Func} {al:List Jq} (hc:acd P fn.results.toList=some al) {ι:gU} {M:Heap} {w:World} (r:R ι M w) {e:Env} {tmps:Array Value} (he:fC ι e tmps.toList) {v:AV} (h:Fe al e M=some v) :
  ∃ v',(results fn tmps).run P w=.ok v' w∧VR ι v v':=by
 unfold Fe at h
 obtain ⟨vs,hvs,h⟩:=Option.map_eq_some_iff.1 h
 obtain ⟨vs',q1,q2⟩:=afk (P:=P) r he _ al vs hc hvs
 unfold results
 rw [Sem.run_bind,Array.mapM_eq_mapM_toList,Sem.run_map]
 erw [q1]
 simp only [Result.andThen_ok,Sem.run_pure]
 refine ⟨_,rfl, ?_⟩
 subst h
 match vs,vs',q2 with
 | [],[],q2=>simp [VR,fC]
 | [x],[y],q2 =>
  simp only [fC] at q2
  simpa using q2.1
 | x::x2::xs,y::y2::ys,q2 =>
  simp only [VR]
  refine ⟨(y::y2::ys).toArray,by simp, ?_⟩
  simpa using q2
 | [],_::_,q2=>simp [fC] at q2
 | _::_,[],q2=>simp [fC] at q2
 | [_],_::_::_,q2=>simp [fC] at q2
 | _::_::_,[_],q2=>simp [fC] at q2
theorem SG {P:Program} {f:FuncId} {h:Hints} {af:bC} (hc:aR P f h=some af):Rb P f:=by
 unfold aR at hc
 split at hc
 case h_2=>cases hc
 rename_i fn hfn
 split at hc
 case h_2=>cases hc
 rename_i c rs hb _
 split at hc
 ·cases hc
 ·rename_i hn
  exact ⟨fn,c,hfn,hb,by simpa using hn⟩
theorem YO {P:Program} {C:bP} (hC:zT P C) (K:Nat) {f:FuncId} {hs:Hints} {af:bC} (hc:aR P f hs=some af):Sound P f (abody C K af):=by
 intro args M v M' h ι w vs r hv
 unfold aR at hc
 split at hc
 case h_2=>cases hc
 rename_i fn hfn
 split at hc
 case h_2=>cases hc
 rename_i c rs hb hrs
 split at hc
 ·cases hc
 obtain rfl:=Option.some.inj hc
 unfold abody at h
 simp only at h
 split at h
 case isFalse=>cases h
 rename_i hlen
 have hsz:vs.size=fn.params.size+fn.nfree:=by
  have:=hv.length
  simp at this
  omega
 refine calls_of_wp hfn hb ?_
 have he:fC ι (args++List.replicate (fn.ntmps - (fn.params.size+fn.nfree)) (.tuple [])) ({ tmps:=vs++Array.replicate (fn.ntmps - vs.size) undef,defers:=[] }:Act).tmps.toList:=by
  simp only [Array.toList_append,Array.toList_replicate]
  refine hv.append ?_
  rw [hsz]
  refine fC.zS (by simp) λi a b ha hb=>?_
  simp only [List.getElem?_replicate] at ha hb
  split at ha
  case isFalse=>cases ha
  rename_i hi
  rw [if_pos hi] at hb
  obtain rfl:=Option.some.inj ha
  obtain rfl:=Option.some.inj hb
  exact VR.unit ι
 have fin:∀ (x:Ex) (e':Env) (M1:Heap),(x=.normal∨x=.ret)→l5 C K (uH P c hs).1 (args++List.replicate (fn.ntmps - (fn.params.size+fn.nfree)) (.tuple [])) M=some (x,e',M1)→(Fe rs e' M1).map (λv=>(v,M1))=some (v,M') →
   c.wp P (bodyPost P fn λe w'=>∃ bL v',e=.returned v'∧VR bL v v'∧Tr ι M w bL M' w') { tmps:=vs++Array.replicate (fn.ntmps - vs.size) undef,defers:=[] } w:=by
  intro x e' M1 hx hex hres
  obtain ⟨u,hu,hres⟩:=Option.map_eq_some_iff.1 hres
  simp only [Prod.mk.injEq] at hres
  obtain ⟨rfl,rfl⟩:=hres
  refine rA hC K c hs ι M _ _ w x e' M1 _ r he rfl hex λbL a' w' ht hv' hd=>?_
  obtain ⟨v',q1,q2⟩:=afl (P:=P) hrs ht.rel hv' hu
  have:a'.defers=[]∧∃ v0,(results fn a'.tmps).run P w'=.ok v0 w'∧(∃ bL v',Ending.returned v0=.returned v'∧VR bL u v'∧Tr ι M w bL M1 w'):=⟨hd,v',q1,bL,v',rfl,q2,ht⟩
  rcases hx with rfl | rfl<;>exact this
 split at h
 ·rename_i e' M1 hex
  exact fin .normal e' M1 (.inl rfl) hex h
 ·rename_i e' M1 hex
  exact fin .ret e' M1 (.inr rfl) hex h
 ·cases h
theorem Wy {P:Program} {G:FuncId→Option (List AV→Heap→Option (AV×Heap))} {T:FuncId→Option bC} (hG:∀ f g,G f=some g→(Rb P f∧Sound P f g)∨Wq P f g) (hT:∀ f af,T f=some af→∃ h,aR P f h=some af) (K:Nat):∀ d,zT P (LH G T K d)
 | 0=>λf=>.inl ⟨λargs M r h=>by simp [LH] at h,λargs M v M' h=>by simp [LH] at h⟩
 | d+1=>λf=>by
  have ih:=Wy hG hT K d
  cases hg:G f with
  | some g =>
   have e:LH G T K (d+1) f=g:=by funext a M;simp only [LH,hg]
   rw [e]
   rcases hG f g hg with ⟨q1,q2⟩ | q
   ·exact .inl ⟨λ_ _ _ _=>q1,q2⟩
   ·exact .inr q
  | none =>
   left
   constructor
   ·intro args M r h
    simp only [LH,hg] at h
    split at h
    ·rename_i af haf
     obtain ⟨hs,hc⟩:=hT f af haf
     exact SG hc
    ·cases h
   ·intro args M v M' h
    simp only [LH,hg] at h
    split at h
    ·rename_i af haf
     obtain ⟨hs,hc⟩:=hT f af haf
     exact YO ih K hc args M v M' h
    ·cases h
end Go.Proofs.YtohoggieaanllaaGreat
end
section
set_option linter.unusedVariables false
set_option linter.unusedSimpArgs false
namespace Go.Proofs.YtohoggieaanllaaGreat
open Go.ChangeShapes Go.WideShapes Go.ChangeAt Go.RowKit
theorem Qs {H:Type} {enc:TypeId×Value→H} {P:Program} (hl:laidOutB P=true) {W W':World} (bel:Below W.heap.size W W') :
  ∀ (ts:List TypeId) (vs:List Value) (ds:List (DataW H)) (p:List MemPlace),(ts.all λt=>P.readableRec t&&decide (t < P.types.size))=true →
   DataW.TrodAll enc P W 0 (λ_=>true) true ts vs ds p→DataW.TrodAll enc P W' 0 (λb=>decide (b < W.heap.size)) true ts vs ds p
 | [],[],[],p,_,h=>by simpa [DataW.TrodAll] using h
 | t::ts,v::vs,d::ds,p,ht,h=>by
  simp only [List.all_cons,Bool.and_eq_true,decide_eq_true_eq] at ht
  simp only [DataW.TrodAll] at h ⊢
  obtain ⟨p1,p2,h1,h2,rfl⟩:=h
  refine ⟨p1,p2, ?_,Qs hl bel ts vs ds p2 (by simpa using ht.2) h2,rfl⟩
  refine Below.trod hl ht.1.1 ht.1.2 h1 bel ?_
  obtain ⟨n,hn⟩:=h1
  exact DataW.trod_lt n t _ _ hn
 | [],_::_,_,_,_,h=>by simp [DataW.TrodAll] at h
 | [],[],_::_,_,_,h=>by simp [DataW.TrodAll] at h
 | _::_,[],_,_,_,h=>by simp [DataW.TrodAll] at h
 | _::_,_::_,[],_,_,h=>by simp [DataW.TrodAll] at h
theorem amC {H:Type} {enc:TypeId×Value→H} {P:Program} {f:Func} {s:ChangeSpec} {W W':World} {args:Array Value} {ds gs:List (DataW H)} {before:List MemPlace} {rt:TypeId}
  (hl:laidOutB P=true) (hps:(f.params.toList.all λt=>P.readableRec t&&decide (t < P.types.size))=true) (hvars:s.vars=[]) (hres:f.resultTypes=#[rt]) (hrt:P.underlying rt=some .bool)
  (hfn:s.fn H ds={ results:=[.lit (.bool true)],args:=ds })
  (hW:DataW.Whole enc P f.params.toList s.vars false W args.toList ds gs before) (bel:Below W.heap.size W W') :
  s.post enc P f false true false false W args (.bool true) W':=by
 have hW':=hW
 obtain ⟨p,q,hA,hV,rfl,hfz,hnd⟩:=hW
 rw [hvars] at hV
 have hgs:gs=[]:=by
  cases gs with
  | nil=>rfl
  | cons _ _=>simp [DataW.TrodVars] at hV
 subst hgs
 unfold ChangeSpec.post
 refine ⟨ds,[],_,[],p,[],hW', ?_, ?_, ?_,bel.frame _,λh=>by cases h⟩
 ·rw [List.append_nil,hfn,hres]
  exact trodAll_mk1 (shut_bool hrt _)
 ·rw [List.append_nil,hfn]
  exact Qs hl bel _ _ _ _ hps hA
 ·rw [List.append_nil,hfn,hvars]
  simp [DataW.TrodVars]
theorem afm {ι bL:gU} {M M':Heap} {w w':World} (ht:Tr ι M w bL M' w') (hro:∀ b x,M.get b=some x→x.own=false):Below w.heap.size w w' :=
 ⟨ht.os,ht.tape,ht.output,ht.size,λk hk=>ht.keep k hk λb x l h1 h2=>by rw [hro b x h1] at h2;cases h2⟩
theorem R.empty (w:World):R (λ_=>none) Heap.empty w:=⟨λb x h=>by simp [Heap.empty] at h,λb b' x x' l l' h=>by simp [Heap.empty] at h,λb _=>⟨rfl,rfl⟩⟩
end Go.Proofs.YtohoggieaanllaaGreat
end
section
set_option linter.unusedVariables false
set_option linter.unusedSimpArgs false
namespace Go.Proofs.YtohoggieaanllaaGreat
open Go.ChangeShapes Go.WideShapes Go.ChangeAt Go.RowKit
inductive D where
 | bool (b:Bool)
 | int (k:IntKind) (n:Int)
 | str (s:List UInt8)
 | list (l:List D)
 | agg (l:List D)
 | other
mutual
def Fq {H:Type}:DataW H→D
 | .lit (.bool b)=>.bool b
 | .lit (.int k n)=>.int k n
 | .lit (.string s)=>.str s
 | .nil=>.list []
 | .slice es _=>.list (U0 es)
 | .agg es=>.agg (U0 es)
 | _=>.other
def U0 {H:Type}:List (DataW H)→List D
 | []=>[]
 | d::r=>Fq d::U0 r
end
theorem KI {H:Type}:∀ l:List (DataW H),U0 l=l.map Fq
 | []=>rfl
 | d::r=>by simp [U0,KI r]
mutual
def Rd (M:Heap):D→List AV→Prop
 | .bool b,cs=>cs=[.bool b]
 | .int k n,cs=>cs=[.int k n]
 | .str s,cs=>cs=[.str s]
 | .list l,cs=>(l=[]∧∃ sz,cs=[.slice none sz 0 0 true]) ∨
   ∃ b o sz cap,0 < sz∧l.length≤cap∧cs=[.slice (some (b,o)) sz l.length cap true]∧(l≠[]→∃ pieces,M.read b o (l.length * sz)=some pieces.flatten∧(∀ p∈pieces,p.length=sz)∧Parts M l pieces)
 | .agg l,cs=>∃ pieces,cs=pieces.flatten∧Parts M l pieces
 | .other,_=>False
def Parts (M:Heap):List D→List (List AV)→Prop
 | [],[]=>True
 | d::r,p::s=>Rd M d p∧Parts M r s
 | _,_=>False
end
mutual
theorem Rd.mono {M M':Heap} (h:M.Sub M'):∀ (d:D) (cs:List AV),Rd M d cs→Rd M' d cs
 | .bool b,cs,e=>by simpa [Rd] using e
 | .int k n,cs,e=>by simpa [Rd] using e
 | .str s,cs,e=>by simpa [Rd] using e
 | .list l,cs,e=>by
  simp only [Rd] at e ⊢
  rcases e with e | ⟨b,o,sz,cap,h1,h2,h3,h4⟩
  ·exact .inl e
  ·refine .inr ⟨b,o,sz,cap,h1,h2,h3,λhl=>?_⟩
   obtain ⟨pieces,g1,g2,g3⟩:=h4 hl
   exact ⟨pieces,YL h g1,g2,Parts.mono h _ _ g3⟩
 | .agg l,cs,e=>by
  simp only [Rd] at e ⊢
  obtain ⟨pieces,g1,g3⟩:=e
  exact ⟨pieces,g1,Parts.mono h _ _ g3⟩
 | .other,cs,e=>by simp [Rd] at e
theorem Parts.mono {M M':Heap} (h:M.Sub M'):∀ (l:List D) (ps:List (List AV)),Parts M l ps→Parts M' l ps
 | [],[],_=>by simp [Parts]
 | d::r,p::s,e=>by
  simp only [Parts] at e ⊢
  exact ⟨Rd.mono h _ _ e.1,Parts.mono h _ _ e.2⟩
 | [],_::_,e=>by simp [Parts] at e
 | _::_,[],e=>by simp [Parts] at e
end
inductive Sh where
 | bool
 | int (k:IntKind)
 | str
 | list (e:Sh)
 | agg (l:List Sh)
mutual
def D.is:Sh→D→Prop
 | .bool,d=>∃ b,d=.bool b
 | .int k,d=>∃ n,d=.int k n∧k.min≤n∧n≤k.max
 | .str,d=>∃ s,d=.str s
 | .list e,d=>∃ l,d=.list l∧∀ x∈l,D.is e x
 | .agg ss,d=>∃ l,d=.agg l∧D.are ss l
def D.are:List Sh→List D→Prop
 | [],[]=>True
 | s::ss,d::l=>D.is s d∧D.are ss l
 | _,_=>False
end
def aa4 {α β:Type} (f:α→Option β):List α→Option (List β)
 | []=>some []
 | x::l=>match f x,aa4 f l with
  | some a,some r=>some (a::r)
  | _,_=>none
def Rh (P:Program):Nat→TypeId→Option Sh
 | 0,_=>none
 | k+1,t=>match P.underlying t with
  | some .bool=>some .bool
  | some (.int i)=>some (.int i)
  | some .string=>some .str
  | some (.slice e)=>if P.cellsOf e=0 then none else (Rh P k e).map .list
  | some (.struct fs)=>(aa4 (Rh P k) (fs.toList.map λf=>f.type)).map .agg
  | some (.array n e)=>(Rh P k e).map λs=>.agg (List.replicate n s)
  | _=>none
def YP (P:Program) (k:Nat) (l:List TypeId):Option (List Sh):=aa4 (Rh P k) l
def xM (M:Heap):Prop:=∀ b x,M.get b=some x→x.own=false
structure Grow (ι:gU) (M:Heap) (bL:gU) (M':Heap) (W:World):Prop where
 le:ι.Le bL
 sub:M.Sub M'
 next:M.next≤M'.next
 rel:R bL M' W
 ro:xM M'
theorem Heap.Sub.refl (M:Heap):M.Sub M:=λ_ _ h=>h
theorem Heap.Sub.trans {A B C:Heap} (h:A.Sub B) (k:B.Sub C):A.Sub C:=λ_ _ e=>k _ _ (h _ _ e)
theorem Grow.refl {ι:gU} {M:Heap} {W:World} (r:R ι M W) (ro:xM M):Grow ι M ι M W:=⟨.refl _,.refl _,Nat.le_refl _,r,ro⟩
theorem Grow.trans {ι nO BK:gU} {M M1 M2:Heap} {W:World} (h:Grow ι M nO M1 W) (k:Grow nO M1 BK M2 W):Grow ι M BK M2 W :=
 ⟨h.le.trans k.le,h.sub.trans k.sub,Nat.le_trans h.next k.next,k.rel,k.ro⟩
theorem Grow.see {ι:gU} {M:Heap} {W:World} (r:R ι M W) (ro:xM M) {c:List AV} {l:Loc} {o:Obj} (ho:W.heap[l.j]?=some o) (hb:BR ι (.cells c true true) l o) :
  Grow ι M (ι.set M.next l) (M.push (.cells c true true)) W:=by
 have hnone:=(r.fresh M.next (Nat.le_refl _)).2
 have hle:=gU.IB hnone l
 refine ⟨hle,λb x h=>?_,Nat.le_succ _,⟨λb x h=>?_,λb b' x x' l1 l2 h1 h2 h3 h4 h5 h6=>?_,λb hb'=>?_⟩,λb x h=>?_⟩
 ·have:b≠M.next:=λe=>by rw [e,(r.fresh _ (Nat.le_refl _)).1] at h;cases h
  simp [Heap.push,this,h]
 ·simp only [Heap.push] at h
  split at h
  ·rename_i e
   obtain rfl:=Option.some.inj h
   subst e
   exact ⟨l,o,by simp [gU.set],ho,hb.mono hle⟩
  ·obtain ⟨l1,o1,g1,g2,g3⟩:=r.blk b x h
   exact ⟨l1,o1,hle _ _ g1,g2,g3.mono hle⟩
 ·exfalso
  have one:∀ b x,(M.push (.cells c true true)).get b=some x→x.own=false:=λb x h=>by
   simp only [Heap.push] at h
   split at h
   ·obtain rfl:=Option.some.inj h
    rfl
   ·exact ro b x h
  rcases h6 with h6 | h6
  ·rw [one b x h1] at h6;cases h6
  ·rw [one b' x' h2] at h6;cases h6
 ·simp only [Heap.push] at hb' ⊢
  have:b≠M.next:=by omega
  simp only [gU.set,this,if_false]
  exact r.fresh b (by omega)
 ·simp only [Heap.push] at h
  split at h
  ·obtain rfl:=Option.some.inj h
   rfl
  ·exact ro b x h
theorem Grow.skip {ι:gU} {M:Heap} {W:World} (r:R ι M W) (ro:xM M) (l:Loc) :
  Grow ι M (ι.set M.next l) { M with next:=M.next+1 } W:=by
 have hnone:=(r.fresh M.next (Nat.le_refl _)).2
 have hle:=gU.IB hnone l
 refine ⟨hle,λb x h=>h,Nat.le_succ _,⟨λb x h=>?_,λb b' x x' l1 l2 h1 h2 h3 h4 h5 h6=>?_,λb hb'=>?_⟩,ro⟩
 ·obtain ⟨l1,o1,g1,g2,g3⟩:=r.blk b x h
  exact ⟨l1,o1,hle _ _ g1,g2,g3.mono hle⟩
 ·exfalso
  rcases h6 with h6 | h6
  ·rw [ro b x h1] at h6;cases h6
  ·rw [ro b' x' h2] at h6;cases h6
 ·have:b≠M.next:=by simp only at hb';omega
  simp only [gU.set,this,if_false]
  exact r.fresh b (by simp only at hb';omega)
def Opens (W:World) (s:Sh) (cs:List Value) (d:D):Prop :=
 ∀ ι M,R ι M W→xM M→∃ bL M' avs,Grow ι M bL M' W∧fC bL avs cs∧(∀ a∈avs,a.f_=true)∧Rd M' d avs∧D.is s d
def oM (W:World):List Sh→List (List Value)→List D→Prop
 | [],[],[]=>True
 | s::ss,c::cs,d::ds=>Opens W s c d∧oM W ss cs ds
 | _,_,_=>False
theorem oM.open {W:World}:∀ {ss:List Sh} {css:List (List Value)} {ds:List D},oM W ss css ds→∀ ι M,R ι M W→xM M →
  ∃ bL M' pieces,Grow ι M bL M' W∧pieces.map List.length=css.map List.length∧fC bL pieces.flatten css.flatten∧(∀ p∈pieces,∀ a∈p,a.f_=true)∧Parts M' ds pieces∧D.are ss ds
 | [],[],[],_,ι,M,r,ro=>⟨ι,M,[],.refl r ro,rfl,by simp [fC],by simp,by simp [Parts],by simp [D.are]⟩
 | s::ss,c::css,d::ds,h,ι,M,r,ro=>by
  simp only [oM] at h
  obtain ⟨nO,M1,avs,g1,v1,c1,r1,i1⟩:=h.1 ι M r ro
  obtain ⟨BK,M2,ps,g2,l2,v2,c2,r2,i2⟩:=oM.open h.2 nO M1 g1.rel g1.ro
  refine ⟨BK,M2,avs::ps,g1.trans g2, ?_, ?_, ?_, ?_, ?_⟩
  ·have:=v1.length
   simp [l2,this]
  ·simp only [List.flatten_cons]
   exact (v1.mono g2.le).append v2
  ·intro p hp
   rcases List.mem_cons.1 hp with rfl | hp
   ·exact c1
   ·exact c2 p hp
  ·simp only [Parts]
   exact ⟨Rd.mono g2.sub _ _ r1,r2⟩
  ·simp only [D.are]
   exact ⟨i1,i2⟩
 | [],[],_::_,h,_,_,_,_=>by simp [oM] at h
 | [],_::_,_,h,_,_,_,_=>by simp [oM] at h
 | _::_,[],_,h,_,_,_,_=>by simp [oM] at h
 | _::_,_::_,[],h,_,_,_,_=>by simp [oM] at h
theorem D.Qt {s:Sh}:∀ {n:Nat} {l:List D},D.are (List.replicate n s) l→l.length=n∧∀ x∈l,D.is s x
 | 0,[],_=>by simp
 | 0,_::_,h=>by simp [D.are] at h
 | n+1,[],h=>by simp [List.replicate_succ,D.are] at h
 | n+1,d::l,h=>by
  simp only [List.replicate_succ,D.are] at h
  obtain ⟨h1,h2⟩:=D.Qt h.2
  refine ⟨by simp [h1],λx hx=>?_⟩
  rcases List.mem_cons.1 hx with rfl | hx
  ·exact h.1
  ·exact h2 x hx
end Go.Proofs.YtohoggieaanllaaGreat
end
section
set_option linter.unusedVariables false
set_option linter.unusedSimpArgs false
namespace Go.Proofs.YtohoggieaanllaaGreat
open Go.ChangeShapes Go.WideShapes Go.ChangeAt Go.RowKit
def chunks {α:Type}:List Nat→List α→List (List α)
 | [],_=>[]
 | n::ns,l=>l.take n::chunks ns (l.drop n)
theorem Co {α:Type}:∀ (ns:List Nat) (l:List α),(chunks ns l).length=ns.length
 | [],_=>rfl
 | n::ns,l=>by simp [chunks,Co ns]
theorem chunks_flatten {α:Type}:∀ (ns:List Nat) (l:List α),(chunks ns l).flatten=l.take ns.sum
 | [],l=>by simp [chunks]
 | n::ns,l=>by
  rw [chunks,List.flatten_cons,chunks_flatten ns,List.sum_cons,List.take_add]
theorem KJ {α:Type}:∀ (ns:List Nat) (l:List α) (j n:Nat),ns[j]?=some n→(chunks ns l)[j]?=some ((l.drop (ns.take j).sum).take n)
 | [],_,_,_,h=>by simp at h
 | m::ns,l,0,n,h=>by
  simp at h
  subst h
  simp [chunks]
 | m::ns,l,j+1,n,h=>by
  simp only [List.getElem?_cons_succ] at h
  simp only [chunks,List.getElem?_cons_succ]
  rw [KJ ns _ j n h]
  simp [List.drop_drop]
theorem oM.zS {W:World}:∀ {ss:List Sh} {css:List (List Value)} {ds:List D},ss.length=ds.length→css.length=ds.length →
  (∀ (i:Nat) s c d,ss[i]?=some s→css[i]?=some c→ds[i]?=some d→Opens W s c d)→oM W ss css ds
 | [],[],[],_,_,_=>by simp [oM]
 | s::ss,c::css,d::ds,h1,h2,h=>by
  simp only [oM]
  exact ⟨h 0 s c d (by simp) (by simp) (by simp),oM.zS (by simpa using h1) (by simpa using h2) λi s c d a1 a2 a3=>h (i+1) s c d (by simpa using a1) (by simpa using a2) (by simpa using a3)⟩
 | [],_,_::_,h1,_,_=>by simp at h1
 | _::_,_,[],h1,_,_=>by simp at h1
 | _,[],_::_,_,h2,_=>by simp at h2
 | _,_::_,[],_,h2,_=>by simp at h2
theorem ace {P:Program} {k:Nat}:∀ {ts:List TypeId} {ss:List Sh},YP P k ts=some ss→ss.length=ts.length∧∀ (i:Nat) t,ts[i]?=some t→∃ s,ss[i]?=some s∧Rh P k t=some s
 | [],ss,h=>by
  simp [YP,aa4] at h
  subst h
  simp
 | t::ts,ss,h=>by
  simp only [YP,aa4] at h
  split at h
  case h_2=>cases h
  rename_i s r h1 h2
  obtain rfl:=Option.some.inj h
  obtain ⟨e1,e2⟩:=ace h2
  refine ⟨by simp [e1],λi u hu=>?_⟩
  cases i with
  | zero =>
   simp at hu
   subst hu
   exact ⟨s,by simp,h1⟩
  | succ i=>simpa using e2 i u (by simpa using hu)
theorem akI {W:World} {a:Addr} {v:Value} (h:W.cell? a=some v):∃ c e fz,W.heap[a.block]?=some (.cells c e fz)∧a.spot=none∧c[a.off]?=some v:=by
 unfold World.cell? at h
 split at h
 ·rename_i c e fz hc
  split at h
  ·cases h
  ·rename_i hs
   refine ⟨c,e,fz,hc, ?_,h⟩
   cases hsp:a.spot with
   | none=>rfl
   | some _=>simp [hsp] at hs
 ·cases h
end Go.Proofs.YtohoggieaanllaaGreat
end
section
set_option linter.unusedVariables false
set_option linter.unusedSimpArgs false
namespace Go.Proofs.YtohoggieaanllaaGreat
open Go.ChangeShapes Go.WideShapes Go.ChangeAt Go.RowKit
def ajR (M:Heap) (a:AV):D→Prop
 | .agg l=>∃ cs,a=.agg cs∧Rd M (.agg l) cs
 | d=>Rd M d [a]
theorem ajR.mono {M M':Heap} (h:M.Sub M') {a:AV} {d:D} (r:ajR M a d):ajR M' a d:=by
 cases d with
 | agg l =>
  obtain ⟨cs,h1,h2⟩:=r
  exact ⟨cs,h1,h2.mono h⟩
 | _=>exact Rd.mono h _ _ r
def Args (M:Heap):List AV→List D→Prop
 | [],[]=>True
 | a::as,d::ds=>ajR M a d∧Args M as ds
 | _,_=>False
theorem Args.mono {M M':Heap} (h:M.Sub M'):∀ {as:List AV} {ds:List D},Args M as ds→Args M' as ds
 | [],[],_=>by simp [Args]
 | _::_,_::_,e=>by
  simp only [Args] at e ⊢
  exact ⟨e.1.mono h,e.2.mono h⟩
 | [],_::_,e=>by simp [Args] at e
 | _::_,[],e=>by simp [Args] at e
mutual
def D.bulk:D→Nat
 | .str s=>s.length+1
 | .list l=>D.Br l+1
 | .agg l=>D.Br l+1
 | .other=>0
 | _=>1
def D.Br:List D→Nat
 | []=>0
 | d::r=>D.bulk d+D.Br r
end
def Heap.Wf (M:Heap):Prop:=∀ b,M.next≤b→M.get b=none
end Go.Proofs.YtohoggieaanllaaGreat
end
section
set_option linter.unusedVariables false
set_option linter.unusedSimpArgs false
namespace Go.Proofs.YtohoggieaanllaaGreat
abbrev Fast:=List (Nat×AV)
def look:Fast→Nat→AV
 | [],_=>.undef
 | p::r,t=>match Nat.beq p.1 t with
  | true=>p.2
  | false=>look r t
def AX.sub (ρ:Nat→AV):AX→AX
 | .t n=>.c (ρ n)
 | .c v=>.c v
def AX.jl (ρ:Nat→AV) (x:Option AX):Option AX:=x.map (AX.sub ρ)
def mV.sub (ρ:Nat→AV):mV→mV
 | .move x=>.move (x.sub ρ)
 | .pick c a b=>.pick (c.sub ρ) (a.sub ρ) (b.sub ρ)
 | .build z ps=>.build z (ps.map λp=>(p.1,p.2.1,p.2.2.sub ρ))
 | .nilCheck x=>.nilCheck (x.sub ρ)
 | .bin op x y=>.bin op (x.sub ρ) (y.sub ρ)
 | .eqB n x y=>.eqB n (x.sub ρ) (y.sub ρ)
 | .eqS n ks x y=>.eqS n ks (x.sub ρ) (y.sub ρ)
 | .eqP n x y=>.eqP n (x.sub ρ) (y.sub ρ)
 | .eqN n x y=>.eqN n (x.sub ρ) (y.sub ρ)
 | .un op x=>.un op (x.sub ρ)
 | .LG k x=>.LG k (x.sub ρ)
 | .M9 x=>.M9 (x.sub ρ)
 | .DL f cs=>.DL f (cs.map (AX.sub ρ))
 | .oJ x a b=>.oJ (x.sub ρ) (AX.jl ρ a) (AX.jl ρ b)
 | .slice s x a b c=>.slice s (x.sub ρ) (AX.jl ρ a) (AX.jl ρ b) (AX.jl ρ c)
 | .fieldAddr o x=>.fieldAddr o (x.sub ρ)
 | .field g o n x=>.field g o n (x.sub ρ)
 | .xA n s x i=>.xA n s (x.sub ρ) (i.sub ρ)
 | .j6 s x i=>.j6 s (x.sub ρ) (i.sub ρ)
 | .index g n s x i=>.index g n s (x.sub ρ) (i.sub ρ)
 | .uE x i=>.uE (x.sub ρ) (i.sub ρ)
 | .extract x i=>.extract (x.sub ρ) i
 | .len s x=>.len s (x.sub ρ)
 | .cap x=>.cap (x.sub ρ)
 | .zQ m xs=>.zQ m (xs.map (AX.sub ρ))
def BJ.sub (ρ:Nat→AV):BJ→BJ
 | .load g n x=>.load g n (x.sub ρ)
 | .lY x=>.lY (x.sub ρ)
 | .KD x=>.KD (x.sub ρ)
 | .lookup ok z x k=>.lookup ok z (x.sub ρ) (k.sub ρ)
def MF.sub (ρ:Nat→AV):MF→MF
 | .alloc z=>.alloc z
 | .box x=>.box (x.sub ρ)
 | .buildSlice s l z ps=>.buildSlice s l z (ps.map λp=>(p.1,p.2.sub ρ))
 | .makeSlice s b z l c=>.makeSlice s b z (l.sub ρ) (c.sub ρ)
 | .qE x=>.qE (x.sub ρ)
 | .makeMap=>.makeMap
def Gz.sub (ρ:Nat→AV):Gz→Gz
 | .store n a v=>.store n (a.sub ρ) (v.sub ρ)
 | .call f xs=>.call (f.sub ρ) (xs.map (AX.sub ρ))
 | .append s b x y=>.append s b (x.sub ρ) (y.sub ρ)
 | .zR s b z x y=>.zR s b z (x.sub ρ) (y.sub ρ)
 | .copy s x y=>.copy s (x.sub ρ) (y.sub ρ)
 | .clear s z x=>.clear s z (x.sub ρ)
 | .mapUpdate m k v=>.mapUpdate (m.sub ρ) (k.sub ρ) (v.sub ρ)
 | .E8 m k=>.E8 (m.sub ρ) (k.sub ρ)
 | .yD x=>.yD (x.sub ρ)
 | .fail=>.fail
def CJ.sub (ρ:Nat→AV):CJ→CJ
 | .p o=>.p (o.sub ρ)
 | .l o=>.l (o.sub ρ)
 | .k o=>.k (o.sub ρ)
 | .n o=>.n (o.sub ρ)
section
variable {ρ:Nat→AV} {e:Env} (h:∀ t,ρ t=e.getD t .undef)
include h
theorem DR (x:AX):(x.sub ρ).ev []=x.ev e:=by
 cases x with
 | t n=>exact h n
 | c v=>rfl
theorem adE (l:List AX):(l.map (AX.sub ρ)).map (AX.ev [])=l.map (AX.ev e):=by
 rw [List.map_map]
 exact List.map_congr_left λx _=>DR h x
theorem YQ (x:Option AX) (a b:Nat):bW [] (AX.jl ρ x) a b=bW e x a b:=by
 cases x with
 | none=>rfl
 | some x=>simp only [AX.jl,Option.map_some,bW,DR h]
theorem amD (o:mV):aP (o.sub ρ) []=aP o e:=by
 cases o with
 | build z ps =>
  simp only [mV.sub,aP,List.map_map]
  congr 2
  exact List.map_congr_left λp _=>by simp only [Function.comp,DR h]
 | DL f cs=>simp only [mV.sub,aP,adE h]
 | zQ m xs=>simp only [mV.sub,aP,adE h]
 | oJ x a b=>simp only [mV.sub,aP,DR h,E9,YQ h]
 | slice s x a b c =>
  simp only [mV.sub,aP,DR h]
  split
  ·simp only [jJ,YQ h]
   cases c with
   | none=>rfl
   | some c=>cases b with
    | none=>rfl
    | some b=>rfl
  ·rfl
 | _=>simp only [mV.sub,aP,DR h]
theorem ajS (o:BJ) (M:Heap):aL (o.sub ρ) [] M=aL o e M:=by
 cases o<;>simp only [BJ.sub,aL,DR h]
theorem amE (o:MF):aK (o.sub ρ) []=aK o e:=by
 cases o with
 | buildSlice s l z ps =>
  simp only [MF.sub,aK,List.map_map]
  congr 2
  exact List.map_congr_left λp _=>by simp only [Function.comp,DR h]
 | _=>simp only [MF.sub,aK,DR h]
theorem amF (C:bP) (o:Gz) (M:Heap):aN C (o.sub ρ) [] M=aN C o e M:=by
 cases o with
 | call f xs=>simp only [Gz.sub,aN,DR h,adE h]
 | _=>simp only [Gz.sub,aN,DR h]
theorem aq1 (C:bP) (o:CJ) (M:Heap):Sv C (o.sub ρ) [] M=Sv C o e M:=by
 cases o with
 | p o=>simp only [CJ.sub,Sv,amD h]
 | l o=>simp only [CJ.sub,Sv,ajS h]
 | k o=>simp only [CJ.sub,Sv,amE h]
 | n o=>simp only [CJ.sub,Sv,amF h]
end
def bP.Le (C C':bP):Prop:=∀ f a M r,C f a M=some r→C' f a M=some r
theorem auP {C C':bP} (h:C.Le C') {o:Gz} {e:Env} {M:Heap} {r:AV×Heap} (hr:aN C o e M=some r):aN C' o e M=some r:=by
 cases o with
 | call f xs =>
  simp only [aN,ae4] at hr ⊢
  split at hr
  ·exact h _ _ _ _ hr
  ·cases hr
 | _=>exact hr
theorem avu {C C':bP} (h:C.Le C') {o:CJ} {e:Env} {M:Heap} {r:AV×Heap} (hr:Sv C o e M=some r):Sv C' o e M=some r:=by
 cases o with
 | n o=>exact auP h hr
 | _=>exact hr
def AV.force {β:Type} (v:AV) (k:AV→β):β :=
 match v with
 | .int kd (.ofNat m)=>match m with
  | 0=>k (.int kd (.ofNat 0))
  | m+1=>k (.int kd (.ofNat (m+1)))
 | .bool true=>k (.bool true)
 | .bool false=>k (.bool false)
 | v=>k v
theorem force_eq {β:Type} (v:AV) (k:AV→β):v.force k=k v:=by
 unfold AV.force
 split
 ·split<;>rfl
 ·rfl
 ·rfl
 ·rfl
def oh (n:Nat) (d:Option Nat) (v:AV) (l:Fast):Fast :=
 match d with
 | some d=>match Nat.blt d n with
  | true=>(d,v)::l
  | false=>l
 | none=>l
def jh (g:Option (Nat×Bool)) (l:Fast):Option Bool :=
 match g with
 | none=>some true
 | some (t,want)=>match look l t with
  | .bool b=>some (b==want)
  | .tuple _=>some false
  | _=>none
def SH (C:bP) (n:Nat):List w9→Fast→Heap→Option (Fast×Heap)
 | [],l,M=>some (l,M)
 | o::r,l,M=>match jh o.guard l with
  | some true=>match Sv C (o.op.sub (look l)) [] M with
   | some p=>p.1.force λv=>SH C n r (oh n o.dst v l) p.2
   | none=>none
  | some false=>SH C n r (oh n o.dst (.tuple []) l) M
  | none=>none
def Bu (C:bP) (n base nk:Nat):List fO→Fast→Heap→List Heap→Option (Fast×Heap)
 | [],l,M,_=>some (l,M)
 | d::r,l,M,hist=>match jh d.o.guard l with
  | some true=>match d.o.op with
   | .p o=>match aP (o.sub (look l)) [] with
    | some v=>v.force λv=>Bu C n base nk r (oh n d.o.dst v l) M hist
    | none=>none
   | .l o=>match aL (o.sub (look l)) [] (M.hide base nk) with
    | some v=>if (hist.drop d.lo).all (λH=>match aL (o.sub (look l)) [] (H.hide base nk) with | some u=>AV.same u v | none=>false) then v.force λv=>Bu C n base nk r (oh n d.o.dst v l) M hist else none
    | none=>none
   | .k o=>match aK (o.sub (look l)) [] with
    | some p=>Bu C n base nk r (oh n d.o.dst (p.2.val (base+d.ix)) l) (M.put (base+d.ix) (some p.1)) hist
    | none=>none
   | .n o=>match aN C (o.sub (look l)) [] M with
    | some p=>p.1.force λv=>Bu C n base nk r (oh n d.o.dst v l) p.2 (hist++[M])
    | none=>none
  | some false=>Bu C n base nk r (oh n d.o.dst (.tuple []) l) M (match d.o.op with | .n _=>hist++[M] | _=>hist)
  | none=>none
def Hf (l:Fast):List Nat→Fast
 | []=>[]
 | t::r=>(t,look l t)::Hf l r
abbrev Xq:=Option (Ex×Fast×Heap)
def eu (body:Fast→Heap→Xq) (keep:List Nat):Nat→Fast→Heap→Xq
 | 0,_,_=>none
 | k+1,l,M=>match body (Hf l keep) M with
  | some (.normal,l',M')=>eu body keep k l' M'
  | r=>r
def aU (C:bP) (K n:Nat):bG→Fast→Heap→Xq
 | .skip,l,M=>some (.normal,l,M)
 | .reg ops,l,M=>(SH C n ops l M).map λp=>(.normal,p)
 | .Xn nk ops,l,M=>(Bu C n M.next nk ops l { M with next:=M.next+nk } []).map λp=>(.normal,p)
 | .seq a b,l,M=>match aU C K n a l M with
  | some (.normal,l',M')=>aU C K n b l' M'
  | r=>r
 | .cond c a b,l,M=>match (c.sub (look l)).ev [] with
  | .bool true=>aU C K n a l M
  | .bool false=>aU C K n b l M
  | _=>none
 | .block id c,l,M=>match aU C K n c l M with
  | some (.exit i,l',M')=>if i=id then some (.normal,l',M') else some (.exit i,l',M')
  | r=>r
 | .loop keep c,l,M=>eu (aU C K n c) keep K l M
 | .exit id,l,M=>some (.exit id,l,M)
 | .ret,l,M=>some (.ret,l,M)
 | .fail,_,_=>none
def PU (r:Jq) (l:Fast) (M:Heap):Option AV :=
 match r with
 | .tmp t=>match look l t with
  | .undef=>none
  | v=>some v
 | .cell t agg n=>G6 agg n (look l t) M
def Fu:List Jq→Fast→Heap→Option (List AV)
 | [],_,_=>some []
 | r::rs,l,M=>(PU r l M).bind λv=>(Fu rs l M).map (v::·)
def l6 (rs:List Jq) (l:Fast) (M:Heap):Option AV :=
 (Fu rs l M).map λvs=>match vs with
  | [v]=>v
  | vs=>.tuple vs
def start:Nat→List AV→Fast
 | _,[]=>[]
 | i,v::r=>(i,v)::start (i+1) r
def bbody (C:bP) (K:Nat) (f:bC) (args:List AV) (M:Heap):Option (AV×Heap) :=
 if args.length=f.nargs∧f.nargs≤f.ntmps then
  match aU C K f.ntmps f.code (start 0 (args++List.replicate (f.ntmps - f.nargs) (.tuple []))) M with
  | some (.normal,l,M')=>(l6 f.results l M').map λv=>(v,M')
  | some (.ret,l,M')=>(l6 f.results l M').map λv=>(v,M')
  | _=>none
 else none
abbrev adF:=FuncId→Option (List AV→Heap→Option (AV×Heap))
def qX (G:adF) (T:FuncId→Option bC) (K:Nat):Nat→bP
 | 0,_,_,_=>none
 | d+1,f,args,M=>match G f with
  | some g=>g args M
  | none=>match T f with
   | some af=>bbody (qX G T K d) K af args M
   | none=>none
structure Same (n:Nat) (l:Fast) (e:Env):Prop where
 len:e.length=n
 get:∀ t,look l t=e.getD t .undef
theorem Same.put {n:Nat} {l:Fast} {e:Env} (s:Same n l e) (d:Option Nat) (v:AV):Same n (oh n d v l) (MG d v e):=by
 cases d with
 | none=>exact s
 | some d =>
  simp only [oh,MG]
  cases hb:Nat.blt d n with
  | false =>
   have hd:e.length≤d:=by
    rw [s.len]
    refine Nat.le_of_not_lt λhlt=>?_
    have:Nat.blt d n=true:=by simpa [Nat.blt_eq] using hlt
    rw [hb] at this
    cases this
   rw [List.set_eq_of_length_le hd]
   exact s
  | true =>
   have hd:d < n:=by simpa [Nat.blt_eq] using hb
   refine ⟨by simp [s.len],λt=>?_⟩
   simp only [look]
   rw [List.getD_eq_getElem?_getD,List.getElem?_set]
   by_cases h:d=t
   ·subst h
    simp [s.len,hd]
   ·have:Nat.beq d t=false:=by
     cases hh:Nat.beq d t with
     | false=>rfl
     | true=>exact absurd (Nat.eq_of_beq_eq_true hh) h
    simp only [this,if_neg h]
    rw [s.get t,List.getD_eq_getElem?_getD]
theorem Same.wanted {n:Nat} {l:Fast} {e:Env} (s:Same n l e) (g:Option (Nat×Bool)):jh g l=vM g e:=by
 cases g with
 | none=>rfl
 | some g =>
  obtain ⟨t,want⟩:=g
  simp only [jh,vM,s.get]
  generalize e.getD t .undef=x
  cases x<;>rfl
theorem adG {C C':bP} (hC:C.Le C') {n:Nat}:∀ (ops:List w9) (l:Fast) (e:Env) (M:Heap) (l':Fast) (M':Heap),Same n l e→SH C n ops l M=some (l',M')→∃ e',UM C' ops e M=some (e',M')∧Same n l' e'
 | [],l,e,M,l',M',s,h=>by
  simp only [SH,Option.some.injEq,Prod.mk.injEq] at h
  obtain ⟨rfl,rfl⟩:=h
  exact ⟨e,rfl,s⟩
 | o::r,l,e,M,l',M',s,h=>by
  simp only [SH] at h
  rw [s.wanted] at h
  simp only [UM]
  split at h
  ·rename_i hw
   rw [hw]
   rw [aq1 s.get] at h
   split at h
   ·rename_i p hp
    rw [force_eq] at h
    simp only [avu hC hp,Option.bind_some]
    exact adG hC r _ _ _ _ _ (s.put _ _) h
   ·cases h
  ·rename_i hw
   rw [hw]
   exact adG hC r _ _ _ _ _ (s.put _ _) h
  ·cases h
theorem Jv {C C':bP} (hC:C.Le C') {n base nk:Nat}:∀ (ops:List fO) (l:Fast) (e:Env) (M:Heap) (hist:List Heap) (l':Fast) (M':Heap),Same n l e→Bu C n base nk ops l M hist=some (l',M')→∃ e',Js C' base nk ops e M hist=some (e',M')∧Same n l' e'
 | [],l,e,M,hist,l',M',s,h=>by
  simp only [Bu,Option.some.injEq,Prod.mk.injEq] at h
  obtain ⟨rfl,rfl⟩:=h
  exact ⟨e,rfl,s⟩
 | d::r,l,e,M,hist,l',M',s,h=>by
  simp only [Bu] at h
  rw [s.wanted] at h
  simp only [Js]
  split at h
  ·rename_i hw
   rw [hw]
   simp only
   split at h
   ·rename_i o ho
    rw [amD s.get] at h
    split at h
    ·rename_i v hv
     rw [force_eq] at h
     simp only [ho,hv,Option.bind_some]
     exact Jv hC r _ _ _ _ _ _ (s.put _ _) h
    ·cases h
   ·rename_i o ho
    simp only [ajS s.get] at h
    split at h
    ·rename_i v hv
     simp only [ho,hv,Option.bind_some]
     split at h
     ·rename_i hall
      rw [force_eq] at h
      split
      ·exact Jv hC r _ _ _ _ _ _ (s.put _ _) h
      ·rename_i hn
       exact absurd hall hn
     ·cases h
    ·cases h
   ·rename_i o ho
    rw [amE s.get] at h
    split at h
    ·rename_i p hp
     simp only [ho,hp,Option.bind_some]
     exact Jv hC r _ _ _ _ _ _ (s.put _ _) h
    ·cases h
   ·rename_i o ho
    rw [amF s.get] at h
    split at h
    ·rename_i p hp
     rw [force_eq] at h
     simp only [ho,auP hC hp,Option.bind_some]
     exact Jv hC r _ _ _ _ _ _ (s.put _ _) h
    ·cases h
  ·rename_i hw
   rw [hw]
   exact Jv hC r _ _ _ _ _ _ (s.put _ _) h
  ·cases h
theorem acf (l:Fast) (t:Nat):∀ keep:List Nat,look (Hf l keep) t=if keep.contains t then look l t else .undef
 | []=>by simp [Hf,look]
 | u::r=>by
  simp only [Hf,look,List.contains_cons]
  cases hb:Nat.beq u t with
  | true =>
   obtain rfl:=Nat.eq_of_beq_eq_true hb
   simp
  | false =>
   have:(t==u)=false:=by
    cases h:t==u with
    | false=>rfl
    | true =>
     rw [beq_iff_eq] at h
     subst h
     rw [Nat.beq_refl] at hb
     cases hb
   simp only [this,Bool.false_or]
   exact acf l t r
theorem Qu (keep:List Nat):∀ (e:Env) (i t:Nat),(lZ keep i e).getD t .undef=if keep.contains (i+t) then e.getD t .undef else .undef
 | [],i,t=>by simp [lZ]
 | v::r,i,0=>by simp [lZ]
 | v::r,i,t+1=>by
  have:=Qu keep r (i+1) t
  simp only [lZ,List.getD_cons_succ]
  rw [this,show i+1+t=i+(t+1) from by omega]
theorem LJ (keep:List Nat):∀ (e:Env) (i:Nat),(lZ keep i e).length=e.length
 | [],i=>rfl
 | v::r,i=>by simp [lZ,LJ keep r]
theorem Same.keep {n:Nat} {l:Fast} {e:Env} (s:Same n l e) (keep:List Nat):Same n (Hf l keep) (lZ keep 0 e) :=
 ⟨by rw [LJ,s.len],λt=>by rw [acf,Qu,Nat.zero_add,s.get]⟩
theorem afn {n:Nat} {b:Fast→Heap→Xq} {a:Env→Heap→aqO} (h:∀ l e M x l' M',Same n l e→b l M=some (x,l',M')→∃ e',a e M=some (x,e',M')∧Same n l' e') (keep:List Nat) :
  ∀ (k:Nat) (l:Fast) (e:Env) (M:Heap) (x:Ex) (l':Fast) (M':Heap),Same n l e→eu b keep k l M=some (x,l',M')→∃ e',YE a keep k e M=some (x,e',M')∧Same n l' e'
 | 0,_,_,_,_,_,_,_,hb=>by simp [eu] at hb
 | k+1,l,e,M,x,l',M',s,hb=>by
  simp only [eu] at hb
  simp only [YE]
  split at hb
  ·rename_i l1 M1 h1
   obtain ⟨e1,g1,g2⟩:=h _ _ _ _ _ _ (s.keep keep) h1
   rw [g1]
   exact afn h keep k _ _ _ _ _ _ g2 hb
  ·rename_i hne
   obtain ⟨e1,g1,g2⟩:=h _ _ _ _ _ _ (s.keep keep) hb
   rw [g1]
   refine ⟨e1, ?_,g2⟩
   cases x with
   | normal=>exact absurd hb (hne _ _)
   | _=>rfl
theorem xO {C C':bP} (hC:C.Le C') {K n:Nat}:∀ (c:bG) (l:Fast) (e:Env) (M:Heap) (x:Ex) (l':Fast) (M':Heap),Same n l e→aU C K n c l M=some (x,l',M')→∃ e',l5 C' K c e M=some (x,e',M')∧Same n l' e'
 | .skip,l,e,M,x,l',M',s,h=>by
  simp only [aU,Option.some.injEq,Prod.mk.injEq] at h
  obtain ⟨rfl,rfl,rfl⟩:=h
  exact ⟨e,rfl,s⟩
 | .reg ops,l,e,M,x,l',M',s,h=>by
  simp only [aU] at h
  obtain ⟨p,hp,h2⟩:=Option.map_eq_some_iff.1 h
  simp only [Prod.mk.injEq] at h2
  obtain ⟨rfl,h3⟩:=h2
  subst h3
  obtain ⟨e',g1,g2⟩:=adG hC ops _ _ _ _ _ s hp
  exact ⟨e',by simp only [l5,g1,Option.map_some],g2⟩
 | .Xn nk ops,l,e,M,x,l',M',s,h=>by
  simp only [aU] at h
  obtain ⟨p,hp,h2⟩:=Option.map_eq_some_iff.1 h
  simp only [Prod.mk.injEq] at h2
  obtain ⟨rfl,h3⟩:=h2
  subst h3
  obtain ⟨e',g1,g2⟩:=Jv hC ops _ _ _ _ _ _ s hp
  exact ⟨e',by simp only [l5,g1,Option.map_some],g2⟩
 | .seq a b,l,e,M,x,l',M',s,h=>by
  simp only [aU] at h
  simp only [l5]
  split at h
  ·rename_i l1 M1 h1
   obtain ⟨e1,g1,g2⟩:=xO hC a _ _ _ _ _ _ s h1
   rw [g1]
   exact xO hC b _ _ _ _ _ _ g2 h
  ·rename_i hne
   obtain ⟨e1,g1,g2⟩:=xO hC a _ _ _ _ _ _ s h
   rw [g1]
   refine ⟨e1, ?_,g2⟩
   cases x with
   | normal=>exact absurd h (hne _ _)
   | _=>rfl
 | .cond c a b,l,e,M,x,l',M',s,h=>by
  simp only [aU] at h
  rw [DR s.get] at h
  simp only [l5]
  split at h
  ·rename_i hc
   rw [hc]
   exact xO hC a _ _ _ _ _ _ s h
  ·rename_i hc
   rw [hc]
   exact xO hC b _ _ _ _ _ _ s h
  ·cases h
 | .block id c,l,e,M,x,l',M',s,h=>by
  simp only [aU] at h
  simp only [l5]
  split at h
  ·rename_i i l1 M1 h1
   obtain ⟨e1,g1,g2⟩:=xO hC c _ _ _ _ _ _ s h1
   rw [g1]
   simp only
   split at h
   ·rename_i hi
    rw [if_pos hi]
    simp only [Option.some.injEq,Prod.mk.injEq] at h
    obtain ⟨rfl,rfl,rfl⟩:=h
    exact ⟨e1,rfl,g2⟩
   ·rename_i hi
    rw [if_neg hi]
    simp only [Option.some.injEq,Prod.mk.injEq] at h
    obtain ⟨rfl,rfl,rfl⟩:=h
    exact ⟨e1,rfl,g2⟩
  ·rename_i hne
   obtain ⟨e1,g1,g2⟩:=xO hC c _ _ _ _ _ _ s h
   rw [g1]
   refine ⟨e1, ?_,g2⟩
   cases x with
   | exit i=>exact absurd h (hne _ _ _)
   | _=>rfl
 | .loop keep c,l,e,M,x,l',M',s,h=>by
  simp only [aU] at h
  simp only [l5]
  exact afn (λl e M x l' M' s h=>xO hC c l e M x l' M' s h) keep K _ _ _ _ _ _ s h
 | .exit id,l,e,M,x,l',M',s,h=>by
  simp only [aU,Option.some.injEq,Prod.mk.injEq] at h
  obtain ⟨rfl,rfl,rfl⟩:=h
  exact ⟨e,rfl,s⟩
 | .ret,l,e,M,x,l',M',s,h=>by
  simp only [aU,Option.some.injEq,Prod.mk.injEq] at h
  obtain ⟨rfl,rfl,rfl⟩:=h
  exact ⟨e,rfl,s⟩
 | .fail,_,_,_,_,_,_,_,h=>by simp [aU] at h
theorem afo {n:Nat} {l:Fast} {e:Env} (s:Same n l e) (M:Heap):∀ rs:List Jq,Fu rs l M=YF rs e M
 | []=>rfl
 | r::rs=>by
  have h1:PU r l M=ahA r e M:=by
   cases r with
   | tmp t =>
    simp only [PU,ahA,s.get]
    generalize e.getD t .undef=x
    cases x<;>rfl
   | cell t g n=>simp only [PU,ahA,s.get]
  simp only [Fu,YF,h1,afo s M rs]
theorem Wz {n:Nat} {l:Fast} {e:Env} (s:Same n l e) (M:Heap) (rs:List Jq):l6 rs l M=Fe rs e M:=by
 unfold l6 Fe
 rw [afo s]
 congr 1
theorem YR:∀ (l:List AV) (i t:Nat),look (start i l) t=if i≤t then l.getD (t - i) .undef else .undef
 | [],i,t=>by simp [start,look]
 | v::r,i,t=>by
  simp only [start,look]
  cases hb:Nat.beq i t with
  | true =>
   obtain rfl:=Nat.eq_of_beq_eq_true hb
   simp
  | false =>
   have hne:i≠t:=λe=>by subst e;rw [Nat.beq_refl] at hb;cases hb
   simp only
   rw [YR r (i+1) t]
   by_cases h:i≤t
   ·rw [if_pos h,if_pos (by omega),show t - i=(t - (i+1))+1 from by omega,List.getD_cons_succ]
   ·rw [if_neg h,if_neg (by omega)]
theorem amG {C C':bP} (hC:C.Le C') {K:Nat} {f:bC} {args:List AV} {M:Heap} {r:AV×Heap} (h:bbody C K f args M=some r):abody C' K f args M=some r:=by
 unfold bbody at h
 unfold abody
 split at h
 case isFalse=>cases h
 rename_i hcond
 rw [if_pos hcond]
 have s:Same f.ntmps (start 0 (args++List.replicate (f.ntmps - f.nargs) (.tuple []))) (args++List.replicate (f.ntmps - f.nargs) (.tuple [])) :=
  ⟨by simp;omega,λt=>by rw [YR];simp⟩
 split at h
 ·rename_i l M1 h1
  obtain ⟨e1,g1,g2⟩:=xO hC f.code _ _ _ _ _ _ s h1
  rw [g1]
  rw [Wz g2] at h
  exact h
 ·rename_i l M1 h1
  obtain ⟨e1,g1,g2⟩:=xO hC f.code _ _ _ _ _ _ s h1
  rw [g1]
  rw [Wz g2] at h
  exact h
 ·cases h
theorem afp {G:adF} {T:FuncId→Option bC} {K:Nat}:∀ d,(qX G T K d).Le (LH G T K d)
 | 0=>λf a M r h=>by simp [qX] at h
 | d+1=>λf a M r h=>by
  simp only [qX] at h
  simp only [LH]
  split at h
  ·rename_i g hg
   rw [hg]
   exact h
  ·rename_i hg
   rw [hg]
   split at h
   ·rename_i af haf
    rw [haf]
    exact amG (afp d) h
   ·cases h
end Go.Proofs.YtohoggieaanllaaGreat
end
