import Derived.Test.YtohoggieaanllaaGreatJ4
import Derived.Test.YtohoggieaanllaaGreatJ2
import Derived.Test.YtohoggieaanllaaGreatJ3
section
set_option linter.all false
set_option linter.unusedSimpArgs false
namespace Go.Proofs.YtohoggieaanllaaGreat
theorem aaz {a b:Nat} {l:List Nat}:rV (a::l) b=false↔a≠b∧rV l b=false:=by
 simp only [rV]
 cases h:Nat.beq a b with
 | true=>simp [Nat.eq_of_beq_eq_true h]
 | false =>
  have:a≠b:=λe=>by subst e;simp at h
  simp [this]
theorem wo {C:bJ} {B:FuncId→Option Bt} (hB:∀ f b,B f=some b→Z6 C f b) {R:Nat→Prop} {n base dU nk:Nat} {qF:VI} {M0:Heap}:∀ (ops:List fD) (l lA:Fast) (H:WH) (M:Heap) (ι:VI) (tr:TS) (hs:List (List Nat×WH)) (bt:List (Nat×Nat)) (al:List Nat) (iQ:List Heap) (k:Fast→WH→TS→Prop),
  DI R base dU nk qF M0 ι H M l lA bt al hs iQ→(ops.all λd=>d.o.op.bB)=true→Eh C B n base nk ops l H tr hs bt al k →
  ∃ uS M' bF l' H' jP t,xV C n dU nk ops lA M iQ=some (uS,M')∧VS R bF H' M'∧Stp base t ι H M bF H' M'∧uV R bF M' l' uS∧k l' H' jP
 | [],l,lA,H,M,ι,tr,hs,bt,al,iQ,k,g,hc,h=>⟨lA,M,ι,l,H,tr,[],rfl,g.vs,.refl _ _ _ _ _ (by have:=g.len;omega),g.env,h⟩
 | d::r,l,lA,H,M,ι,tr,hs,bt,al,iQ,k,g,hc,h=>by
  simp only [List.all_cons,Bool.and_eq_true] at hc
  simp only [Eh] at h
  obtain ⟨l00,aoU,aeN,h⟩:=wm h
  have g:=g.like aeN
  obtain ⟨l0,tr1,hl,h⟩:=aaw h
  have g1:=g.like hl
  have hbl:base≤H.length:=by have:=g.len;omega
  rcases h with ⟨hw,h⟩ | ⟨hw,h⟩
  ·obtain ⟨l1,aoV,hl1,h⟩:=wm h
   have g1:=g1.like hl1
   have he1:=g1.env
   simp only [xV,CO g.env hw]
   cases ho:d.o.op with
   | p op =>
    rw [ho] at h hc
    simp only at h
    obtain ⟨v,u,tr2,h1,h2,h3⟩:=WQ (R:=R) h
    obtain ⟨a,h4,h5⟩:=aeC he1 hc.1 h1
    have cut:∀ (X:Heap) (O:Nat→Prop) (κ:VI) (q:Nat),q < hs.length+1→(∀ t,og bt t≤q→VL X O κ (look l1 t) (look lA t))→Yl bt (hs.length+1) op≤q→VL X O κ u a:=λX O κ q hq he hb=>by
     have hce:∀ t,VL X O κ (JW bt q (look l1) t) (look lA t):=λt=>by
      unfold JW
      split
      ·rename_i hb;exact he t hb
      ·simp [VL]
     obtain ⟨a',e1,e2⟩:=aeC hce hc.1 (by rw [ac6 hq hb];exact h1)
     rw [h4] at e1
     obtain rfl:=Option.some.inj e1
     exact h3 _ _ _ _ e2
    obtain ⟨uS,M',bF,l',H',jP,t,q1,q2⟩:=wo hB r _ _ H M ι tr2 hs _ al iQ k (g1.put n d.o.dst (Yl bt (hs.length+1) op) (h3 _ _ _ _ h5) (λhb=>cut M0 _ qF 0 (by omega) (λt ht=>g1.start t (by omega)) (by omega)) (λq Mk vR hq w hb=>cut Mk _ vR (q+1) (by omega) w.env hb)) hc.2 h2
    refine ⟨uS,M',bF,l',H',jP,t, ?_,q2⟩
    simp only [h4,force_eq]
    exact q1
   | l op =>
    rw [ho] at h hc
    simp only at h
    obtain ⟨v,u,tr2,h1,h2,h3⟩:=WQ (R:=R) h
    have h2:∃ tr2 b,(∃ a,aL (op.sub (look lA)) [] (M.hide dU nk)=some a∧DI R base dU nk qF M0 ι H M (lT n d.o.dst u l1) (lT n d.o.dst a lA) (mD n d.o.dst b bt) al hs iQ∧∀ k Mk,d.lo≤k→iQ[k]?=some Mk→∃ w,aL (op.sub (look lA)) [] (Mk.hide dU nk)=some w∧AV.same w a=true)∧Eh C B n base nk r (lT n d.o.dst u l1) H tr2 hs (mD n d.o.dst b bt) al k:=by
     split at h2
     ·rename_i hok
      obtain ⟨a,p1,p2,p3⟩:=aiu g1 hc.1 h1 h3 hok
      split at h2
      ·split at h2
       case h_2=>exact h2.elim
       rename_i hb hbt
       obtain ⟨tr3,m1,m2⟩:=K9 h2
       exact ⟨tr3,d.lo+1,⟨a,p1,g1.anB n d.o.dst (d.lo+1) p2 (λe=>by omega) (aay g1 hc.1 h1 h3 hok hb hbt p1 m1),p3⟩,m2⟩
      ·exact ⟨_,hs.length+1,⟨a,p1,g1.now n d.o.dst p2,p3⟩,h2⟩
     ·split at h2
      case h_2=>exact h2.elim
      rename_i hok
      obtain ⟨tr3,p1,p2⟩:=K9 h2
      obtain ⟨a,m1,m2,m3⟩:=aax g1 hc.1 h1 h3 hok p1
      exact ⟨tr3,hs.length+1,⟨a,m1,g1.now n d.o.dst m2,m3⟩,p2⟩
    obtain ⟨tr2,bb,⟨a,q1,q2,q3⟩,h2⟩:=h2
    obtain ⟨uS,M',bF,l',H',jP,t,q4,q5⟩:=wo hB r _ _ H M ι tr2 hs _ al iQ k q2 hc.2 h2
    refine ⟨uS,M',bF,l',H',jP,t, ?_,q5⟩
    simp only [q1]
    rw [if_pos]
    ·simp only [force_eq]
     exact q4
    ·rw [List.all_eq_true]
     intro Mk hMk
     obtain ⟨i,hi⟩:=List.mem_iff_getElem?.1 hMk
     rw [List.getElem?_drop] at hi
     obtain ⟨w,w1,w2⟩:=q3 (d.lo+i) Mk (by omega) hi
     rw [w1]
     exact w2
   | k op =>
    rw [ho] at h hc
    simp only at h
    split at h
    case h_2=>exact h.elim
    rename_i hix hal
    have hix:d.ix < nk:=by simpa [Nat.blt_eq] using hix
    obtain ⟨c,sl,mk,c',sl',mkA,tr2,h1,h2,h3,hss,h4⟩:=akX g1.vs he1 hc.1 h
    obtain ⟨f1,f2,f3⟩:=g1.free d.ix hix hal
    have hnew:=g1.new d.ix hix
    obtain ⟨s1,k1,k2,k3⟩:=g1.vs.fill hnew f1 f2 f3 (BL.of (sl':=sl') h3 hss)
    have hne:∀ i,i < base→i≠base+d.ix:=λi hi=>by omega
    have gp:∀ i,i≠base+d.ix→dh (gY H (base+d.ix) (some (.cells c false sl))) i=dh H i:=λi hi=>by
     rw [o_,if_neg (λe=>hi e.1)]
    have ac:∀ i,i≠base+d.ix→act (ι.fill (base+d.ix) (c.length,c'.length)) (gY H (base+d.ix) (some (.cells c false sl))) i→act ι H i:=λi hi ha=>ha.imp (λ⟨x,hx⟩=>⟨x,by rw [gp i hi] at hx;exact hx⟩) id
    have stp:Stp base [] ι H M (ι.fill (base+d.ix) (c.length,c'.length)) (gY H (base+d.ix) (some (.cells c false sl))) (M.put (dU+d.ix) (some (.cells c' false sl'))) :=
     ⟨k1,k2 _,λ_ _ h=>h,λ_ _=>rfl,λi hi=>by simp only [VI.fill,bP _ _ (hne i hi)],λ_ _ _=>rfl,λi hi ⟨x,hx⟩=>⟨x,by rw [gp i (hne i hi)] at hx;exact hx⟩,λi j hi ha hj _=>k3 i j (hne i hi) (ac i (hne i hi) ha) hj,by rw [dZ];exact hbl⟩
    have hval:=h4 (M.put (dU+d.ix) (some (.cells c' false sl'))) (OR R (ι.fill (base+d.ix) (c.length,c'.length))) (ι.fill (base+d.ix) (c.length,c'.length)) (base+d.ix) (dU+d.ix) hnew (by simp [VI.fill,setAt])
    have g2:DI R base dU nk qF M0 (ι.fill (base+d.ix) (c.length,c'.length)) (gY H (base+d.ix) (some (.cells c false sl))) (M.put (dU+d.ix) (some (.cells c' false sl'))) l1 lA bt (d.ix::al) hs iQ :=
     ⟨s1,by rw [dZ];exact g1.len,λt=>VL.mono (k1.or R) _ _ _ _ (k2 _) (he1 t),g1.new,λi hi ha=>by
      obtain ⟨a1,a2⟩:=aaz.1 ha
      obtain ⟨b1,b2,b3⟩:=g1.free i hi a2
      have hn:base+i≠base+d.ix:=by omega
      exact ⟨b1,by simp only [VI.fill,bP _ _ hn];exact b2,by rw [gp _ hn];exact b3⟩,g1.start,g1.low,g1.le0.trans (k2 _),g1.to0,g1.m0,g1.hlen,λq Mk hq=>by
      obtain ⟨vR,w,w2⟩:=g1.hist q Mk hq
      exact ⟨vR,⟨w.keep.trans k1,w.env,w.new,w.gone,λi j hi ha hj ht=>by
       have ha':=ac i (hne i hi) ha
       exact (k3 i j (hne i hi) ha' (by rw [g1.to0 i hi];exact hj)).trans (w.same i j hi ha' hj ht)⟩,w2⟩⟩
    obtain ⟨uS,M',bF,l',H',jP,t,q1,q2,q3,q4⟩:=wo hB r _ _ _ _ _ tr2 hs _ (d.ix::al) iQ k (g2.now n d.o.dst hval) hc.2 h1
    refine ⟨uS,M',bF,l',H',jP,t, ?_,q2, ?_,q4⟩
    ·simp only [h2]
     exact q1
    ·have:=stp.trans q3 (Nat.le_refl _)
     simpa using this
   | n op =>
    rw [ho] at h hc
    simp only at h
    obtain ⟨a,M1,lu,v,H1,t1,tr2,h1,h2,h3,h4,h5⟩:=akY hB g1.vs he1 hc.1 h
    have g2:=(g1.loud h2 h3).now n d.o.dst h4
    rw [List.length_append,List.length_singleton] at g2
    obtain ⟨uS,M',bF,l',H',jP,t,q1,q2,q3,q4⟩:=wo hB r _ _ _ _ _ tr2 _ _ al _ k g2 hc.2 h5
    refine ⟨uS,M',bF,l',H',jP,t1++t, ?_,q2,(h3.weak hbl).trans q3 (Nat.le_refl _),q4⟩
    simp only [h1,force_eq]
    exact q1
  ·simp only [xV,CO g.env hw]
   cases ho:d.o.op with
   | n op =>
    rw [ho] at h
    simp only at h
    have g2:=(g1.loud (t:=[]) g1.vs (.refl _ _ _ _ _ (Nat.le_refl _))).now n d.o.dst (v:=.tuple []) (a:=.tuple []) VL.unit
    rw [List.length_append,List.length_singleton] at g2
    exact wo hB r _ _ H M ι tr1 _ _ al _ k g2 hc.2 h
   | p op=>rw [ho] at h;exact wo hB r _ _ H M ι tr1 _ _ al _ k (g1.now n d.o.dst VL.unit) hc.2 h
   | l op=>rw [ho] at h;exact wo hB r _ _ H M ι tr1 _ _ al _ k (g1.now n d.o.dst VL.unit) hc.2 h
   | k op=>rw [ho] at h;exact wo hB r _ _ H M ι tr1 _ _ al _ k (g1.now n d.o.dst VL.unit) hc.2 h
theorem aeO {C:bJ} {B:FuncId→Option Bt} (hB:∀ f b,B f=some b→Z6 C f b) {R:Nat→Prop} {n nk:Nat} {ops:List fD} {l lA:Fast} {H:WH} {M:Heap} {ι:VI} {tr:TS} {k:Fast→WH→TS→Prop} (s:VS R ι H M) (he:uV R ι M l lA) (hc:(ops.all λd=>d.o.op.bB)=true)
  (h:Eh C B n H.length nk ops l (H++holes nk) tr [] [] [] k):∃ uS M' bF l' H' jP t,xV C n M.next nk ops lA { M with next:=M.next+nk } []=some (uS,M')∧VS R bF H' M'∧Stp H.length t ι H M bF H' M'∧uV R bF M' l' uS∧k l' H' jP:=by
 obtain ⟨s1,k1⟩:=s.room nk
 have inr:∀ i,i < nk→H.length≤H.length+i∧H.length+i < H.length+nk:=λi hi=>by omega
 have g:DI R H.length M.next nk ι M (ι.room H.length M.next nk) (H++holes nk) { M with next:=M.next+nk } l lA [] [] [] [] :=
  ⟨s1,by simp [JL],he.step s k1,λi hi=>by simp only [VI.room,if_pos (inr i hi)];congr 1;omega,λi hi _=>⟨by simp only [VI.room,if_pos (inr i hi)],by simp only [VI.room,if_pos (inr i hi)],by rw [Mr,if_neg (by omega),Oh]⟩,
   λt _=>he t,λi j h=>s.lt i j h,k1.le,k1.toq,rfl,rfl,λk Mk h=>by simp at h⟩
 obtain ⟨uS,M',bF,l',H',jP,t,q1,q2,q3,q4⟩:=wo hB ops l lA _ _ _ tr [] [] [] [] k g hc h
 refine ⟨uS,M',bF,l',H',jP,[]++t,q1,q2,k1.trans q3 (Nat.le_refl _),q4⟩
theorem Ra {M:Heap} {O:Nat→Prop} {κ:VI} {lA:Fast}:∀ (keep:List Nat) (vs:List AV),bM M O κ vs (keep.map (look lA))→∀ t,VL M O κ (look (mq keep vs) t) (look lA t)∧VL M O κ (look (mq keep vs) t) (look (CF lA keep) t)
 | [],vs,h,t=>by
  cases vs with
  | nil=>simp [mq,look,VL]
  | cons _ _=>simp [bM] at h
 | u::keep,vs,h,t=>by
  cases vs with
  | nil=>simp [bM] at h
  | cons v vs =>
   simp only [List.map_cons,bM] at h
   have ih:=Ra keep vs h.2 t
   simp only [mq,CF,uW]
   split
   ·rename_i e
    subst e
    exact ⟨h.1,h.1⟩
   ·exact ih
theorem uV.map {R:Nat→Prop} {ι:VI} {M:Heap} {l lA:Fast} (he:uV R ι M l lA):∀ keep:List Nat,bM M (OR R ι) ι (keep.map (look l)) (keep.map (look lA))
 | []=>by simp [bM]
 | t::r=>by simp only [List.map_cons,bM];exact ⟨he t,uV.map he r⟩
def Gd (R:Nat→Prop) (np:Nat) (ι:VI) (H:WH) (M:Heap) (x:Qe) (k:Ex→Fast→WH→TS→Prop):Prop :=
 ∃ ex uS M' bF l' H' jP,x=some (ex,uS,M')∧VS R bF H' M'∧Stp np (List.range np) ι H M bF H' M'∧uV R bF M' l' uS∧k ex l' H' jP
theorem oo {n:Nat} {t:List Nat} {ι lu:VI} {H H1:WH} {M M1:Heap} (h:Stp n t ι H M lu H1 M1):Stp n (List.range n) ι H M lu H1 M1:=h.more λi hi _=>List.mem_range.2 hi
theorem Gd.after {R:Nat→Prop} {np:Nat} {ι lu:VI} {H H1:WH} {M M1:Heap} {x:Qe} {k:Ex→Fast→WH→TS→Prop} {t:List Nat} (h:Stp np t ι H M lu H1 M1) (g:Gd R np lu H1 M1 x k):Gd R np ι H M x k:=by
 obtain ⟨ex,uS,M',bF,l',H',jP,q1,q2,q3,q4⟩:=g
 exact ⟨ex,uS,M',bF,l',H',jP,q1,q2,oo (h.trans q3 (Nat.le_refl _)),q4⟩
theorem aeP (H:WH) (b:Nat):∀ i x,dh (gY H b none) i=some x→dh H i=some x:=λi x h=>by
 rw [o_] at h
 split at h
 ·cases h
 ·exact h
theorem ach {R:Nat→Prop} {M:Heap} {ι:VI}:∀ (bs:List Nat) {H:WH} (n:Nat),n≤H.length→VS R ι H M→VS R ι (Yi H bs) M∧Stp n [] ι H M ι (Yi H bs) M∧(Yi H bs).length=H.length
 | [],H,n,hn,s=>⟨s,.refl _ _ _ _ _ hn,rfl⟩
 | b::r,H,n,hn,s=>by
  have g:=aeP H b
  have ac:∀ i,act ι (gY H b none) i→act ι H i:=λi h=>h.imp (λ⟨x,hx⟩=>⟨x,g i x hx⟩) id
  have hl:(gY H b none).length=H.length:=dZ _ _ _
  have s1:VS R ι (gY H b none) M:=⟨λi j h=>by rw [hl];exact s.lt i j h,λi i' j h h'=>s.inj i i' j (ac i h) (ac i' h'),λi x h=>s.blk i x (g i x h),λi h=>by rw [hl];exact s.y9 i h,λi h c sl e=>s.yN i h c sl (g i _ e),s.Z5,λj h=>⟨(s.res j h).1,λi ha=>(s.res j h).2 i (ac i ha)⟩⟩
  have k1:Stp n [] ι H M ι (gY H b none) M:=⟨⟨Nat.le_refl _,λ_ _ h=>⟨rfl,h⟩⟩,.refl _ _,λ_ _ h=>h,λ_ _=>rfl,λ_ _=>rfl,λ_ _ _=>rfl,λi _ ⟨x,hx⟩=>⟨x,g i x hx⟩,λ_ _ _ _ _ _=>rfl,by rw [hl];exact hn⟩
  obtain ⟨s2,k2,h2⟩:=ach r (H:=gY H b none) n (by rw [hl];exact hn) s1
  refine ⟨s2, ?_,h2.trans hl⟩
  exact k1.trans k2 (Nat.le_refl _)
theorem acj {R:Nat→Prop} {M:Heap} {ι:VI} {H:WH} (tr:TS) {n:Nat} (hn:n≤H.length) (s:VS R ι H M):VS R ι (wkl tr H) M∧Stp n [] ι H M ι (wkl tr H) M∧(wkl tr H).length=H.length:=by
 unfold wkl
 split
 ·exact ach _ n hn s
 ·exact ⟨s,.refl _ _ _ _ _ hn,rfl⟩
set_option maxHeartbeats 2000000 in
theorem t_ {C:bJ} {B:FuncId→Option Bt} (hB:∀ f b,B f=some b→Z6 C f b) {K n np:Nat} {R:Nat→Prop}:∀ (code:bO) (l lA:Fast) (H:WH) (M:Heap) (ι:VI) (tr:TS) (k:Ex→Fast→WH→TS→Prop),code.bB=true→VS R ι H M→np≤H.length→uV R ι M l lA →
  Ad C B K n np code l H tr k→Gd R np ι H M (aU C K n code lA M) k
 | .skip,l,lA,H,M,ι,tr,k,_,s,hn,he,h=>⟨.normal,lA,M,ι,l,H,tr,rfl,s,.refl _ _ _ _ _ hn,he,h⟩
 | .reg ops,l,lA,H,M,ι,tr,k,hc,s,hn,he,h=>by
  obtain ⟨uS,M',bF,l',H',jP,t,q1,q2,q3,q4,q5⟩:=JK hB ops l lA H M ι tr _ s he hc h
  exact ⟨.normal,uS,M',bF,l',H',jP,by simp only [aU,q1,Option.map_some],q2,oo (q3.weak hn),q4,q5⟩
 | .Qa nk ops,l,lA,H,M,ι,tr,k,hc,s,hn,he,h=>by
  obtain ⟨uS,M',bF,l',H',jP,t,q1,q2,q3,q4,q5⟩:=aeO hB s he hc h
  exact ⟨.normal,uS,M',bF,l',H',jP,by simp only [aU,q1,Option.map_some],q2,oo (q3.weak hn),q4,q5⟩
 | .seq a b,l,lA,H,M,ι,tr,k,hc,s,hn,he,h=>by
  simp only [bO.bB,Bool.and_eq_true] at hc
  simp only [Ad] at h
  obtain ⟨l0,tr,aeN,h⟩:=wm h
  have he:uV R ι M l0 lA:=λt=>by rw [aeN t];exact he t
  split at h
  ·split at h
   case h_2=>exact h.elim
   rename_i keep ms bs ts ex outs out r0 _
   obtain ⟨s0,k0,hl0⟩:=acj tr hn s
   obtain ⟨vs,blks,lu,hk,s1,k1,hv⟩:=Oe s0 (by rw [hl0];exact hn) (he.map keep) h
   obtain ⟨r,hrun,hk⟩:=lC hk
   obtain ⟨uS,M',bF,q1,q2,q3,q4⟩:=hrun R lu M lA s1 (λt=>(Ra keep vs hv t).1)
   refine Gd.after (oo k0) (Gd.after k1 (Gd.after q3 ?_))
   simp only [aU,q1]
   cases ex with
   | normal=>exact t_ hB b outs uS out M' bF r k hc.2 q2 q3.next q4 hk
   | exit i=>exact ⟨_,uS,M',bF,outs,out,r,rfl,q2,.refl _ _ _ _ _ q3.next,q4,hk⟩
   | ret=>exact ⟨_,uS,M',bF,outs,out,r,rfl,q2,.refl _ _ _ _ _ q3.next,q4,hk⟩
  ·obtain ⟨ex,uS,M',bF,l',H',jP,q1,q2,q3,q4,q5⟩:=t_ hB a l0 lA H M ι _ _ hc.1 s hn he h
   refine Gd.after q3 ?_
   simp only [aU,q1]
   cases ex with
   | normal=>exact t_ hB b l' uS H' M' bF jP k hc.2 q2 q3.next q4 q5
   | exit i=>exact ⟨_,uS,M',bF,l',H',jP,rfl,q2,.refl _ _ _ _ _ q3.next,q4,q5⟩
   | ret=>exact ⟨_,uS,M',bF,l',H',jP,rfl,q2,.refl _ _ _ _ _ q3.next,q4,q5⟩
 | .cond c a b,l,lA,H,M,ι,tr,k,hc,s,hn,he,h=>by
  simp only [bO.bB,Bool.and_eq_true] at hc
  simp only [Ad] at h
  obtain ⟨l0,tr0,hl0,h⟩:=wm h
  have he:uV R ι M l0 lA:=λt=>by rw [hl0 t];exact he t
  obtain ⟨l',jP,hl,h⟩:=aaw h
  have he':uV R ι M l' lA:=λt=>by rw [hl t];exact he t
  cases c with
  | c v =>
   simp only [iH] at h
   have h:=(h.resolve_right (λh=>by cases h.1)).2
   simp only [aU,AX.sub,AX.ev]
   cases v with
   | bool w =>
    cases w with
    | true=>exact t_ hB a l' lA H M ι jP k hc.1.2 s hn he' h
    | false=>exact t_ hB b l' lA H M ι jP k hc.2 s hn he' h
   | _=>exact h.elim
  | t t =>
   simp only [aU,AX.sub,AX.ev]
   have ht:=he t
   generalize l0=l at *
   simp only [iH] at h
   rcases h with ⟨h1,h2⟩ | ⟨h1,h2⟩
   ·generalize look l t=X at *
    cases X<;>simp only at h1<;>first | (cases h1;done) | skip
    rename_i w
    simp only [Option.some.injEq,beq_iff_eq] at h1
    subst h1
    rw [ht.eq rfl]
    exact t_ hB a l' lA H M ι jP k hc.1.2 s hn he' h2
   ·rw [hl t] at h2
    generalize look l t=X at *
    cases X<;>simp only at h1 h2<;>first | (cases h1;done) | exact h2.elim | skip
    rename_i w
    simp only [Option.some.injEq,beq_eq_false_iff_ne] at h1
    have:w=false:=by cases w<;>simp_all
    subst this
    rw [ht.eq rfl]
    exact t_ hB b l' lA H M ι jP k hc.2 s hn he' h2
 | .block id c,l,lA,H,M,ι,tr,k,hc,s,hn,he,h=>by
  simp only [bO.bB] at hc
  simp only [Ad] at h
  obtain ⟨ex,uS,M',bF,l',H',jP,q1,q2,q3,q4,q5⟩:=t_ hB c l lA H M ι tr _ hc s hn he h
  refine Gd.after q3 ?_
  simp only [aU,q1]
  have re:=q3.next
  cases ex with
  | normal=>exact ⟨_,uS,M',bF,l',H',jP,rfl,q2,.refl _ _ _ _ _ re,q4,q5⟩
  | ret=>exact ⟨_,uS,M',bF,l',H',jP,rfl,q2,.refl _ _ _ _ _ re,q4,q5⟩
  | exit i =>
   cases e:Nat.beq i id with
   | true =>
    have q5:k .normal l' H' jP:=by simpa only [e] using q5
    simp only
    rw [if_pos (Nat.eq_of_beq_eq_true e)]
    exact ⟨_,uS,M',bF,l',H',jP,rfl,q2,.refl _ _ _ _ _ re,q4,q5⟩
   | false =>
    have q5:k (.exit i) l' H' jP:=by simpa only [e] using q5
    simp only
    rw [if_neg (λe'=>by subst e';simp at e)]
    exact ⟨_,uS,M',bF,l',H',jP,rfl,q2,.refl _ _ _ _ _ re,q4,q5⟩
 | .loop keep c,l,lA,H,M,ι,tr,k,hc,s,hn,he,h=>by
  simp only [Ad] at h
  obtain ⟨l0,tr,aeN,h⟩:=wm h
  have he:uV R ι M l0 lA:=λt=>by rw [aeN t];exact he t
  split at h
  case h_2=>exact h.elim
  rename_i ms bs ts ex outs out r0 _
  obtain ⟨s0,k0,hl0⟩:=acj tr hn s
  obtain ⟨vs,blks,lu,hk,s1,k1,hv⟩:=Oe s0 (by rw [hl0];exact hn) (he.map keep) h
  obtain ⟨r,hrun,hk⟩:=lC hk
  obtain ⟨uS,M',bF,q1,q2,q3,q4⟩:=hrun R lu M lA s1 (λt=>(Ra keep vs hv t).1)
  refine Gd.after (oo k0) (Gd.after k1 (Gd.after q3 ?_))
  exact ⟨ex,uS,M',bF,outs,out,r,by simp only [aU];exact q1,q2,.refl _ _ _ _ _ q3.next,q4,hk⟩
 | .exit i,l,lA,H,M,ι,tr,k,_,s,hn,he,h=>⟨.exit i,lA,M,ι,l,H,tr,rfl,s,.refl _ _ _ _ _ hn,he,h⟩
 | .ret,l,lA,H,M,ι,tr,k,_,s,hn,he,h=>⟨.ret,lA,M,ι,l,H,tr,rfl,s,.refl _ _ _ _ _ hn,he,h⟩
 | .fail,l,lA,H,M,ι,tr,k,_,s,hn,he,h=>by simp [Ad] at h
theorem VL.ac7 {M:Heap} {O:Nat→Prop} {κ:VI} {v a:AV} (h:VL M O κ v a) (hv:v≠.undef):a≠.undef:=by
 cases v with
 | undef=>exact absurd rfl hv
 | ptr p=>cases p<;>simp only [VL] at h<;>first | (subst h;simp) | (obtain ⟨_,_,rfl⟩:=h;simp)
 | slice p=>cases p<;>simp only [VL] at h;obtain ⟨_,_,rfl⟩:=h;simp
 | map p=>cases p<;>simp only [VL] at h<;>first | (subst h;simp) | (obtain ⟨_,_,rfl⟩:=h;simp)
 | func f cs=>simp only [VL] at h;obtain ⟨_,rfl,_⟩:=h;simp
 | agg cs=>simp only [VL] at h;obtain ⟨_,rfl,_⟩:=h;simp
 | tuple cs=>simp only [VL] at h;obtain ⟨_,rfl,_⟩:=h;simp
 | list=>simp only [VL] at h;rcases h with ⟨_,_,_,rfl⟩ | ⟨_,_,_,_,rfl,_⟩<;>simp
 | elem=>simp only [VL] at h;obtain ⟨_,_,_,_,_,rfl,_⟩:=h;simp
 | acc=>simp only [VL] at h;obtain ⟨_,_,_,_,rfl,_⟩:=h;simp
 | _=>simp only [VL] at h;subst h;simp
theorem aiv {R:Nat→Prop} {ι:VI} {H:WH} {M:Heap} (s:VS R ι H M) {l lA:Fast} (he:uV R ι M l lA) {r:Ea} {v:AV} (h:aij r l H=some v):∃ a,JV r lA M=some a∧VL M (OR R ι) ι v a:=by
 cases r with
 | tmp t =>
  have ht:=he t
  simp only [aij,JV] at h ⊢
  split at h
  ·cases h
  ·rename_i hne
   obtain rfl:=Option.some.inj h
   have:=ht.ac7 hne
   generalize look lA t=Y at *
   cases Y<;>simp_all
 | cell t agg n =>
  simp only [aij] at h
  have:=Vn s he (o:=.load agg n (.t t)) rfl (v:=v) (by simpa only [yt.sub,AX.sub] using h)
  simpa only [yt.sub,AX.sub,aL,AX.ev,JV] using this
theorem RP {R:Nat→Prop} {ι:VI} {H:WH} {M:Heap} (s:VS R ι H M) {l lA:Fast} (he:uV R ι M l lA):∀ {rs:List Ea} {vs:List AV},Yn rs l H=some vs→∃ as,Bb rs lA M=some as∧bM M (OR R ι) ι vs as
 | [],vs,h=>by
  simp only [Yn,Option.some.injEq] at h
  subst h
  exact ⟨[],rfl,by simp [bM]⟩
 | r::rs,vs,h=>by
  simp only [Yn] at h
  split at h
  case h_2=>cases h
  rename_i v vs' h1 h2
  obtain rfl:=Option.some.inj h
  obtain ⟨a,e1,e2⟩:=aiv s he h1
  obtain ⟨as,e3,e4⟩:=RP s he h2
  exact ⟨a::as,by simp only [Bb,e1,Option.bind_some,e3,Option.map_some],by simp only [bM];exact ⟨e2,e4⟩⟩
theorem Yv {R:Nat→Prop} {ι:VI} {H:WH} {M:Heap} (s:VS R ι H M) {l lA:Fast} (he:uV R ι M l lA) {rs:List Ea} {v:AV} (h:Mq rs l H=some v):∃ a,j6 rs lA M=some a∧VL M (OR R ι) ι v a:=by
 unfold Mq at h
 split at h
 ·rename_i u hu
  obtain rfl:=Option.some.inj h
  obtain ⟨as,e1,e2⟩:=RP s he hu
  match as,e2 with
  | [],e2=>simp [bM] at e2
  | [a],e2 =>
   simp only [bM] at e2
   exact ⟨a,by simp only [j6,e1,Option.map_some],e2.1⟩
  | _::_::_,e2=>simp [bM] at e2
 ·rename_i vs hne hvs
  obtain rfl:=Option.some.inj h
  obtain ⟨as,e1,e2⟩:=RP s he hvs
  refine ⟨.tuple as, ?_,by simp only [VL];exact ⟨as,rfl,e2⟩⟩
  simp only [j6,e1,Option.map_some]
  match as,e2 with
  | [],e2=>rfl
  | [a],e2 =>
   match vs,e2 with
   | [],e2=>simp [bM] at e2
   | [u],e2=>exact absurd rfl (hne u)
   | _::_::_,e2=>simp [bM] at e2
  | _::_::_,e2=>rfl
 ·cases h
theorem aiw {R:Nat→Prop} {ι:VI} {H:WH} {M:Heap} (s:VS R ι H M) {np:Nat} (hn:np≤H.length) {v a:AV} (hv:VL M (OR R ι) ι v a) {tr:TS} {v':AV} {out:WH} (h:aik np v H tr v' out) :
  ∃ bF,VS R bF out M∧Stp np [] ι H M bF out M∧VL M (OR R bF) bF v' a:=by
 unfold aik at h
 split at h
 case h_2=>exact h.elim
 rename_i m ts mc _
 obtain ⟨s0,k0,hl0⟩:=acj tr hn s
 have hn0:=hn
 rw [← hl0] at hn
 generalize wkl tr H=H0 at *
 obtain ⟨lu,h1,h2,h3⟩:=aau m s0 (VL.retag v (ts.headD .undef) a hv)
 generalize hr:nrm m (Proofs.YtohoggieaanllaaGreat.retag v (ts.headD .undef)) H0=r at *
 obtain ⟨v1,H1⟩:=r
 simp only at h h1 h2 h3
 obtain ⟨yu,k1,k2⟩:=ME [] mc (N7 H1 np (yZ v1)) H1 lu M h1
 have k3:=VL.step h1 k2 h3
 obtain ⟨rfl,rfl⟩:=h
 obtain ⟨ι3,q1,q2,q3⟩:=akW k1 (Nat.le_trans hn (Nat.le_trans h2.next k2.next)) (yZ v1) (vs:=[v1]) (as:=[a]) (by simp only [bM];exact ⟨k3,trivial⟩)
 simp only [XP,bM] at q3
 refine ⟨ι3,q1, ?_,q3.1⟩
 have e1:Stp np [] ι H0 M lu H1 M:=h2.weak hn
 have e2:Stp np [] lu H1 M yu _ M:=k2.weak (Nat.le_trans hn h2.next)
 have:=(k0.trans (e1.trans e2 (Nat.le_refl _)) (Nat.le_refl _)).trans q2 (Nat.le_refl _)
 simpa using this
theorem Vr {M:Heap} {O:Nat→Prop} {κ:VI}:∀ {vs as:List AV} (i:Nat),bM M O κ vs as→∀ t,VL M O κ (look (start i vs) t) (look (start i as) t)
 | [],[],i,_,t=>by simp [start,look,VL]
 | v::vs,a::as,i,h,t=>by
  simp only [bM] at h
  simp only [start,uW]
  split
  ·exact h.1
  ·exact Vr (i+1) h.2 t
 | [],_::_,_,h,_=>by simp [bM] at h
 | _::_,[],_,h,_=>by simp [bM] at h
theorem aix {G:WA} {T:FuncId→Option bC} {K d:Nat} {B:FuncId→Option Bt} (hB:∀ f b,B f=some b→Z6 (nU G T K d) f b) {f:FuncId} (hG:G f=none) {af:bC} (hT:T f=some af) (hc:af.code.bB=true) {args:List AV} {blks:WH} {tr:TS} {v:AV} {out:WH}
  (h1:args.length=af.nargs) (h2:af.nargs≤af.ntmps) (h3:akQ (nU G T K d) B K af args blks tr v out):Spec (nU G T K (d+1)) f args blks v out:=by
 intro R ι M as s hv
 have hl:=hv.length
 have hst:uV R ι M (start 0 (args++List.replicate (af.ntmps - af.nargs) (.tuple []))) (start 0 (as++List.replicate (af.ntmps - af.nargs) (.tuple []))):=by
  refine Vr 0 (hv.append ?_)
  generalize af.ntmps - af.nargs=m
  induction m with
  | zero=>simp [bM]
  | succ m ih=>simp only [List.replicate_succ,bM];exact ⟨VL.unit,ih⟩
 obtain ⟨ex,uS,M',bF,l',H',jP,q1,q2,q3,q4,q5⟩:=t_ hB af.code _ _ blks M ι tr _ hc s (Nat.le_refl _) hst h3
 obtain ⟨l1,tr1,hl1,q5⟩:=wm q5
 have q4:uV R bF M' l1 uS:=λt=>by rw [hl1 t];exact q4 t
 have fin:∀ {ex},(match Mq af.results l1 H' with
   | some u=>aik blks.length u H' tr1 v out
   | none=>False)→(ex=.normal∨ex=.ret)→aU (nU G T K d) K af.ntmps af.code (start 0 (as++List.replicate (af.ntmps - af.nargs) (.tuple []))) M=some (ex,uS,M') →
   ∃ a M' bF,nU G T K (d+1) f as M=some (a,M')∧VS R bF out M'∧Stp blks.length (List.range blks.length) ι blks M bF out M'∧VL M' (OR R bF) bF v a:=by
  intro ex hm hx hrun
  split at hm
  case h_2=>exact hm.elim
  rename_i u hu
  obtain ⟨a,e1,e2⟩:=Yv q2 q4 hu
  obtain ⟨yu,e3,e4,e5⟩:=aiw q2 q3.next e2 hm
  refine ⟨a,M',yu, ?_,e3,oo (q3.trans e4 (Nat.le_refl _)),e5⟩
  simp only [nU,hG,hT,bbody]
  rw [if_pos ⟨by rw [← hl];exact h1,h2⟩]
  rcases hx with rfl | rfl<;>simp only [hrun,e1,Option.map_some]
 cases ex with
 | normal=>exact fin q5 (.inl rfl) q1
 | ret=>exact fin q5 (.inr rfl) q1
 | exit i=>exact q5.elim
theorem aiy {C:bJ} {B:FuncId→Option Bt} (hB:∀ f b,B f=some b→Z6 C f b) {K n np:Nat} {code:bO} (hc:code.bB=true) {ins:Fast} {blks:WH} (hn:np≤blks.length) {tr:TS} {x:Ex×Fast×WH}
  (h:akS C B K n np code ins blks tr x):aao (aU C K n code) np ins blks x.1 x.2.1 x.2.2:=by
 intro R ι M lA s he
 obtain ⟨ex',uS,M',bF,l',H',jP,q1,q2,q3,q4,q5⟩:=t_ hB code ins lA blks M ι tr _ hc s hn he h
 unfold akR at q5
 obtain ⟨l1,jP,hl1,q5⟩:=wm q5
 have q4:uV R bF M' l1 uS:=λt=>by rw [hl1 t];exact q4 t
 split at q5
 case h_2=>exact q5.elim
 rename_i keep ms bs ts _
 obtain ⟨s0,k0,hl0⟩:=acj jP q3.next q2
 obtain ⟨vs',out',yu,⟨rfl,e1,e2⟩,s2,k2,hv⟩:=Oe s0 (by rw [hl0];exact q3.next) (q4.map keep) q5
 rw [← e1,← e2]
 exact ⟨uS,M',yu,q1,s2,oo (q3.trans ((oo k0).trans k2 (Nat.le_refl _)) (Nat.le_refl _)),λt=>(Ra keep vs' hv t).1⟩
theorem aW {G:WA} {T:FuncId→Option bC} {K d:Nat} {B:FuncId→Option Bt} (hB:∀ f b,B f=some b→Z6 (nU G T K d) f b) {f:FuncId} {af:bC} (hf:G f=none∧T f=some af∧af.code.bB=true) {args:List AV} {blks:WH} {R:Type} {o:R→AV×WH} {r:R} {F:Option R}
  (h:F=some r) (t:Tc F) (h1:args.length=af.nargs:=by rfl) (h2:Nat.ble af.nargs af.ntmps=true:=by rfl) (e:akQ (nU G T K d) B K af args blks ⟨t⟩ (o r).1 (o r).2=claim (λv=>(o v).1=(o r).1∧(o v).2=(o r).2) r t:=by kernel_rfl):Spec (nU G T K (d+1)) f args blks (o r).1 (o r).2 :=
 aix hB hf.1 hf.2.1 hf.2.2 h1 (Nat.le_of_ble_eq_true h2) (e.mpr (iq ⟨rfl,rfl⟩ t h))
theorem bE {C:bJ} {B:FuncId→Option Bt} (hB:∀ f b,B f=some b→Z6 C f b) {K n np:Nat} {code:bO} (hc:code.bB=true) {ins:Fast} {blks:WH} {R:Type} {o:R→Ex×Fast×WH} {r:R} {F:Option R}
  (h:F=some r) (t:Tc F) (hn:Nat.ble np blks.length=true:=by rfl) (e:akS C B K n np code ins blks ⟨t⟩ (o r)=claim (λv=>(o v).1=(o r).1∧(o v).2.1=(o r).2.1∧(o v).2.2=(o r).2.2) r t:=by kernel_rfl):aao (aU C K n code) np ins blks (o r).1 (o r).2.1 (o r).2.2 :=
 aiy hB hc (Nat.le_of_ble_eq_true hn) (e.mpr (iq ⟨rfl,rfl,rfl⟩ t h))
def eG {S E:Type} (step:S→Option (S⊕E)):Nat→S→Option E
 | 0,_=>none
 | k+1,s=>match step s with
  | none=>none
  | some (.inl s)=>eG step k s
  | some (.inr e)=>some e
def eY {S E:Type} (keep:List Nat) (st:S→List AV×WH) (fin:E→Ex×Fast×WH):S⊕E→Ex×Fast×WH
 | .inl s=>(.normal,mq keep (st s).1,(st s).2)
 | .inr e=>fin e
theorem RQ {l:Fast} (t:Nat):∀ keep:List Nat,look (CF l keep) t=if t∈keep then look l t else .undef
 | []=>by simp [CF,look]
 | u::r=>by
  simp only [CF,uW,RQ t r,List.mem_cons]
  by_cases e:u=t
  ·subst e;simp
  ·simp [e,Ne.symm e,show ¬ t=u from λh=>e h.symm]
theorem dL {S E:Type} {body:Fast→Heap→Qe} {np:Nat} {keep:List Nat} {st:S→List AV×WH} {fin:E→Ex×Fast×WH} {step:S→Option (S⊕E)} (hE:∀ e,(fin e).1≠.normal)
  (hr:∀ s x,step s=some x→aao body np (mq keep (st s).1) (st s).2 (eY keep st fin x).1 (eY keep st fin x).2.1 (eY keep st fin x).2.2) :
  ∀ (k:Nat) (s:S) (e:E),eG step k s=some e→aao (gq body keep k) np (mq keep (st s).1) (st s).2 (fin e).1 (fin e).2.1 (fin e).2.2
 | 0,s,e,h=>by simp [eG] at h
 | k+1,s,e,h=>by
  intro R ι M lA vs he
  have zk:∀ (keep:List Nat) (xs:List AV) (t:Nat),t ∉ keep→look (mq keep xs) t=.undef:=λkeep=>by
   induction keep with
   | nil=>intro xs t _;cases xs<;>simp [mq,look]
   | cons u r ih =>
    intro xs t ht
    rw [List.mem_cons,not_or] at ht
    cases xs with
    | nil=>simp [mq,look]
    | cons v xs =>
     simp only [mq,uW]
     rw [if_neg (λe=>ht.1 e.symm)]
     exact ih xs t ht.2
  have he':∀ t,VL M (OR R ι) ι (look (mq keep (st s).1) t) (look (CF lA keep) t):=λt=>by
   rw [RQ]
   split
   ·exact he t
   ·rename_i ht
    rw [zk keep _ t ht]
    simp [VL]
  simp only [eG] at h
  split at h
  ·cases h
  ·rename_i s' hs
   have:=hr s _ hs
   obtain ⟨uS,M',bF,q1,q2,q3,q4⟩:=this R ι M (CF lA keep) vs he'
   obtain ⟨lA2,M2,yu,r1,r2,r3,r4⟩:=dL hE hr k s' e h R bF M' uS q2 q4
   refine ⟨lA2,M2,yu, ?_,r2,oo (q3.trans r3 (Nat.le_refl _)),r4⟩
   simp only [gq,q1]
   exact r1
  ·rename_i e' hs
   obtain rfl:=Option.some.inj h
   have:=hr s _ hs
   simp only [eY] at this
   obtain ⟨uS,M',bF,q1,q2,q3,q4⟩:=this R ι M (CF lA keep) vs he'
   refine ⟨uS,M',bF, ?_,q2,q3,q4⟩
   simp only [gq,q1]
   have:=hE e'
   generalize (fin e').1=x at *
   cases x with
   | normal=>exact absurd rfl this
   | exit i=>rfl
   | ret=>rfl
end Go.Proofs.YtohoggieaanllaaGreat
end
section
set_option linter.all false
set_option linter.unusedSimpArgs false
namespace Go.Proofs.YtohoggieaanllaaGreat
open Go.ChangeShapes Go.WideShapes Go.ChangeAt Go.RowKit
mutual
def yx:Sh→Nat
 | .agg ss=>Al ss
 | _=>1
def Al:List Sh→Nat
 | []=>0
 | s::r=>yx s+Al r
end
mutual
def encS:Sh→D→List AV
 | .bool,.bool b=>[.bool b]
 | .int _,.int k n=>[.int k n]
 | .str,.str s=>[.str s]
 | .list e,.list l=>[.list (yx e) l.length (WR e l) false]
 | .agg ss,.agg l=>Gf ss l
 | _,_=>[]
def WR (e:Sh):List D→List AV
 | []=>[]
 | d::r=>encS e d++WR e r
def Gf:List Sh→List D→List AV
 | s::ss,d::r=>encS s d++Gf ss r
 | _,_=>[]
end
theorem Gg {e:Sh}:∀ {l:List D} {n:Nat},l.length=n→Gf (List.replicate n e) l=WR e l
 | [],n,h=>by
  subst h
  simp [Gf,WR]
 | d::r,n,h=>by
  subst h
  simp only [List.length_cons,List.replicate_succ,Gf,WR]
  rw [Gg rfl]
theorem CP (s:Sh):∀ n,Al (List.replicate n s)=n * yx s
 | 0=>by simp [Al]
 | n+1=>by
  rw [List.replicate_succ,Al,CP s n,Nat.succ_mul,Nat.add_comm]
theorem Oi {P:Program} (hl:laidOutB P=true):∀ (k:Nat) (t:TypeId) (s:Sh),K5 P k t=some s→t < P.types.size→P.cellsOf t=yx s
 | 0,_,_,h,_=>by simp [K5] at h
 | k+1,t,s,h,ht=>by
  have hr:=Go.rowFine_of hl ht
  simp only [K5] at h
  split at h
  case h_7=>cases h
  ·rename_i hu
   obtain rfl:=Option.some.inj h
   simpa [rowFine,isVar,ht,hu,kindOk,yx] using hr
  ·rename_i i hu
   obtain rfl:=Option.some.inj h
   simpa [rowFine,isVar,ht,hu,kindOk,yx] using hr
  ·rename_i hu
   obtain rfl:=Option.some.inj h
   simpa [rowFine,isVar,ht,hu,kindOk,yx] using hr
  ·rename_i e hu
   split at h
   ·cases h
   obtain ⟨se,hse,rfl⟩:=Option.map_eq_some_iff.1 h
   simp [rowFine,isVar,ht,hu,kindOk] at hr
   simpa [yx] using hr.2
  ·rename_i fs hu
   obtain ⟨ss,hss,rfl⟩:=Option.map_eq_some_iff.1 h
   obtain ⟨h1,h2,_⟩:=Go.kid_struct hl ht hu
   rw [h2,yx]
   have hall:∀ (fl:List Field) (ss:List Sh),(∀ f∈fl,f.type < P.types.size)→Ud (K5 P k) (fl.map λf=>f.type)=some ss→(fl.map λf=>P.cellsOf f.type).sum=Al ss:=by
    intro fl
    induction fl with
    | nil =>
     intro ss _ h
     simp [Ud] at h
     subst h
     simp [Al]
    | cons f fl ih =>
     intro ss hf h
     simp only [List.map_cons,Ud] at h
     split at h
     case h_2=>cases h
     rename_i s r h1 h2
     obtain rfl:=Option.some.inj h
     rw [List.map_cons,List.sum_cons,Al,Oi hl k _ _ h1 (hf f (by simp)),ih r (λg hg=>hf g (by simp [hg])) h2]
   exact hall fs.toList ss h1 hss
  ·rename_i n e hu
   obtain ⟨se,hse,rfl⟩:=Option.map_eq_some_iff.1 h
   obtain ⟨h1,h2⟩:=Go.kid_array hl ht hu
   rw [h2,yx,CP,Oi hl k _ _ hse h1]
mutual
theorem VL.sub {M M':Heap} {κ uH:VI} (h:M.Sub M') (hn:M.next≤M'.next):∀ (v a:AV),VL M (λ_=>False) VI.none v a→VL M' (λ_=>False) VI.none v a
 | .undef,_,_=>by simp [VL]
 | .bool _,_,e=>by simpa [VL] using e
 | .int _ _,_,e=>by simpa [VL] using e
 | .str _,_,e=>by simpa [VL] using e
 | .ptr none,_,e=>by simpa [VL] using e
 | .ptr (some q),_,e=>by simp [VL,VI.none] at e
 | .slice none _ _ _ _,_,e=>by simpa [VL] using e
 | .slice (some q) _ _ _ _,_,e=>by simp [VL,VI.none] at e
 | .map none,_,e=>by simpa [VL] using e
 | .map (some r),_,e=>by simp [VL,VI.none] at e
 | .func f cs,_,e=>by
  simp only [VL] at e ⊢
  obtain ⟨cs',h1,h2⟩:=e
  exact ⟨cs',h1,bM.sub h hn cs cs' h2⟩
 | .nilFunc,_,e=>by simpa [VL] using e
 | .agg cs,_,e=>by
  simp only [VL] at e ⊢
  obtain ⟨cs',h1,h2⟩:=e
  exact ⟨cs',h1,bM.sub h hn cs cs' h2⟩
 | .tuple cs,_,e=>by
  simp only [VL] at e ⊢
  obtain ⟨cs',h1,h2⟩:=e
  exact ⟨cs',h1,bM.sub h hn cs cs' h2⟩
 | .list sz len cs ex,_,e=>by
  simp only [VL] at e ⊢
  rcases e with e | ⟨b,o,cap,ex',h1,h2,h3,h4,h5⟩
  ·exact .inl e
  refine .inr ⟨b,o,cap,ex',h1,h2,h3,h4,λhl=>?_⟩
  obtain ⟨c,ro,sl,g1,g2,g3,g4,g5⟩:=h5 hl
  exact ⟨c,ro,sl,h _ _ g1,g2,Nat.lt_of_lt_of_le g3 hn,g4,bM.sub h hn cs _ g5⟩
 | .elem cs,_,e=>by
  simp only [VL] at e ⊢
  obtain ⟨b,o,c,ro,sl,h1,g1,g2,g3,g5⟩:=e
  exact ⟨b,o,c,ro,sl,h1,h _ _ g1,g2,Nat.lt_of_lt_of_le g3 hn,bM.sub h hn cs _ g5⟩
 | .acc b o sz n w,_,e=>by simp [VL,VI.none] at e
theorem bM.sub {M M':Heap} (h:M.Sub M') (hn:M.next≤M'.next):∀ (l r:List AV),bM M (λ_=>False) VI.none l r→bM M' (λ_=>False) VI.none l r
 | [],[],_=>by simp [bM]
 | a::l,v::r,e=>by
  simp only [bM] at e ⊢
  exact ⟨VL.sub (κ:=VI.none) (uH:=VI.none) h hn a v e.1,bM.sub h hn l r e.2⟩
 | [],_::_,e=>by simp [bM] at e
 | _::_,[],e=>by simp [bM] at e
end
abbrev aaA (M:Heap):=bM M (λ_=>False) VI.none
def WS (W:World) (s:Sh) (cs:List Value) (d:D):Prop :=
 ∀ ι M,R ι M W→tV M→∃ bF M' avs,Grow ι M bF M' W∧eF bF avs cs∧(∀ a∈avs,a.fK=true)∧aaA M' (encS s d) avs∧D.is s d
def gT (W:World):List Sh→List (List Value)→List D→Prop
 | [],[],[]=>True
 | s::ss,c::cs,d::ds=>WS W s c d∧gT W ss cs ds
 | _,_,_=>False
theorem gT.open {W:World}:∀ {ss:List Sh} {css:List (List Value)} {ds:List D},gT W ss css ds→∀ ι M,R ι M W→tV M →
  ∃ bF M' ,∃ pieces:List (List AV),Grow ι M bF M' W∧pieces.map List.length=css.map List.length∧eF bF pieces.flatten css.flatten∧(∀ p∈pieces,∀ a∈p,a.fK=true)∧aaA M' (Gf ss ds) pieces.flatten∧D.are ss ds
 | [],[],[],_,ι,M,r,ro=>⟨ι,M,[],.refl r ro,rfl,by simp [eF],by simp,by simp [Gf,aaA,bM],by simp [D.are]⟩
 | s::ss,c::css,d::ds,h,ι,M,r,ro=>by
  simp only [gT] at h
  obtain ⟨lu,M1,avs,g1,v1,c1,r1,i1⟩:=h.1 ι M r ro
  obtain ⟨yu,M2,ps,g2,l2,v2,c2,r2,i2⟩:=gT.open h.2 lu M1 g1.rel g1.ro
  refine ⟨yu,M2,avs::ps,g1.trans g2, ?_, ?_, ?_, ?_, ?_⟩
  ·have:=v1.length
   simp [l2,this]
  ·simp only [List.flatten_cons]
   exact (v1.mono g2.le).append v2
  ·intro p hp
   rcases List.mem_cons.1 hp with rfl | hp
   ·exact c1
   ·exact c2 p hp
  ·simp only [Gf,List.flatten_cons]
   exact (bM.sub g2.sub g2.next _ _ r1).append r2
  ·simp only [D.are]
   exact ⟨i1,i2⟩
 | [],[],_::_,h,_,_,_,_=>by simp [gT] at h
 | [],_::_,_,h,_,_,_,_=>by simp [gT] at h
 | _::_,[],_,h,_,_,_,_=>by simp [gT] at h
 | _::_,_::_,[],h,_,_,_,_=>by simp [gT] at h
theorem gT.vU {W:World}:∀ {ss:List Sh} {css:List (List Value)} {ds:List D},ss.length=ds.length→css.length=ds.length →
  (∀ (i:Nat) s c d,ss[i]?=some s→css[i]?=some c→ds[i]?=some d→WS W s c d)→gT W ss css ds
 | [],[],[],_,_,_=>by simp [gT]
 | s::ss,c::css,d::ds,h1,h2,h=>by
  simp only [gT]
  exact ⟨h 0 s c d (by simp) (by simp) (by simp),gT.vU (by simpa using h1) (by simpa using h2) λi s c d a1 a2 a3=>h (i+1) s c d (by simpa using a1) (by simpa using a2) (by simpa using a3)⟩
 | [],_,_::_,h1,_,_=>by simp at h1
 | _::_,_,[],h1,_,_=>by simp at h1
 | _,[],_::_,_,h2,_=>by simp at h2
 | _,_::_,[],_,h2,_=>by simp at h2
theorem Fz {W:World} {s:Sh} {v:Value} {a:AV} {d:D} (hv:∀ ι,VR ι a v) (hc:a.fK=true) (hr:∀ M,aaA M (encS s d) [a]) (hs:D.is s d):WS W s [v] d:=λι M r ro =>
 ⟨ι,M,[a],.refl r ro,by simp only [eF];exact ⟨hv ι,trivial⟩,λx hx=>by simp at hx;subst hx;exact hc,hr M,hs⟩
theorem FB {H:Type} {enc:TypeId×Value→H} {P:Program} (hl:laidOutB P=true) {W:World}:∀ (k:Nat) (t:TypeId) (s:Sh),K5 P k t=some s→t < P.types.size →
  ∀ (fuel:Nat) (cs:List Value) (x:DataW H×List MemPlace),DataW.trod enc P W 0 (λ_=>true) true fuel t cs=some x→WS W s cs (Ba x.1)
 | 0,_,_,hs,_,_,_,_,_=>by simp [K5] at hs
 | k+1,t,s,hs,ht,fuel,cs,x,h=>by
  simp only [K5] at hs
  split at hs
  case h_7=>cases hs
  ·rename_i hu
   obtain rfl:=Option.some.inj hs
   obtain ⟨b,rfl,rfl⟩:=DataW.trod_bool hu h
   exact Fz (a:=.bool b) (λι=>by simp [VR]) rfl (λM=>by simp [Ba,encS,bM,VL]) ⟨b,rfl⟩
  ·rename_i i hu
   obtain rfl:=Option.some.inj hs
   obtain ⟨n,rfl,rfl,hw⟩:=DataW.trod_int hu h
   simp only [Lit.wf,Bool.and_eq_true,decide_eq_true_eq] at hw
   exact Fz (a:=.int i n) (λι=>by simp [VR]) rfl (λM=>by simp [Ba,encS,bM,VL]) ⟨n,rfl,hw⟩
  ·rename_i hu
   obtain rfl:=Option.some.inj hs
   obtain ⟨b,rfl,rfl,hw⟩:=DataW.trod_string hu h
   exact Fz (a:=.str b.data.toList) (λι=>by simp only [VR];exact ⟨b,rfl,rfl⟩) rfl (λM=>by simp [Ba,encS,bM,VL]) ⟨_,rfl⟩
  ·rename_i e hu
   split at hs
   ·cases hs
   rename_i hsz
   obtain ⟨se,hse,rfl⟩:=Option.map_eq_some_iff.1 hs
   have hte:e < P.types.size:=Go.kid_slice hl ht hu
   rcases DataW.trod_slice hu h with ⟨rfl,rfl⟩ | ⟨a,len,cap,elems,rest,n,rfl,rfl,rfl,_,hlc,_,hlen,hel,hre,_⟩
   ·exact Fz (a:=.slice none (yx se) 0 0 true) (λι=>by simp [VR]) rfl (λM=>by simp [Ba,encS,WR,bM,VL]) ⟨[],by simp [Ba],by simp⟩
   ·intro ι M r ro
    obtain ⟨hrl,hre⟩:=hre rfl
    simp only [Ba]
    have hsz':=Oi hl _ _ _ hse hte
    generalize hz:P.cellsOf e=sz at *
    rcases Nat.eq_zero_or_pos cap with hc0 | hcp
    ·subst hc0
     obtain rfl:len=0:=by omega
     have anC:elems=[]:=by simpa using hlen
     subst anC
     refine ⟨_,_,[.slice (some (M.next,0)) sz 0 0 true],Grow.skip r ro ⟨a.block,0,0⟩, ?_, ?_, ?_, ?_⟩
     ·simp only [eF,VR,and_true]
      exact ⟨⟨a.block,0,0⟩,a,0,by simp [gG.set],rfl,.inl rfl,.inl rfl,.inl rfl,Nat.le_refl _,Nat.le_refl _,λ_=>rfl,by simp,by omega⟩
     ·intro y hy
      simp at hy
      subst hy
      rfl
     ·simp only [List.map_nil,NZ,encS,WR,bM,VL,and_true]
      exact .inr ⟨M.next,0,0,true,by rw [hsz'];rfl,Nat.le_refl _,by simp,by simp,λh=>absurd rfl h⟩
     ·exact ⟨[],by simp [NZ],by simp⟩
    ·-- every element's cells
     have all:∀ i,i < cap→∃ ci,W.cells? 0 (a.add (i * sz)) sz=some ci∧(i < len→∃ y,elems[i]?=some y∧DataW.trod enc P W 0 (λ_=>true) true n e ci=some y):=by
      intro i hi
      by_cases hil:i < len
      ·have h1:=hel i hil
       rw [List.getElem?_eq_getElem (by omega)] at h1
       obtain ⟨ci,h2,h3⟩:=Option.bind_eq_some_iff.1 h1
       exact ⟨ci,h2,λ_=>⟨_,List.getElem?_eq_getElem (by omega),h3⟩⟩
      ·have h1:=hre (i - len) (by omega)
       rw [List.getElem?_eq_getElem (by omega)] at h1
       obtain ⟨ci,h2,h3⟩:=Option.bind_eq_some_iff.1 h1
       rw [show len+(i - len)=i from by omega] at h2
       exact ⟨ci,h2,λhx=>absurd hx hil⟩
     obtain ⟨c0,hc0,_⟩:=all 0 hcp
     obtain ⟨_,hl0,hg0⟩:=World.cells?_some hc0
     have hone:=hg0 0 (by omega)
     rw [List.getElem?_eq_getElem (by omega)] at hone
     obtain ⟨c,el,fz,hob,hsp,_⟩:=acV hone
     have ha0:(a.add (0 * sz)).add 0=a:=by simp [Addr.add]
     rw [ha0] at hob hsp
     obtain ⟨j,off,spot⟩:=a
     simp only at hob hsp
     subst hsp
     have aoJ:∀ i v,W.cell? ⟨j,i,none⟩=some v→c[i]?=some v:=λi v hv=>by
      simpa [World.cell?,hob] using hv
     have ak0:∀ i,W.cell? ⟨j,i,none⟩=c[i]?:=λi=>by simp [World.cell?,hob]
     have amk:∀ i ci,W.cells? 0 ((⟨j,off,none⟩:Addr).add (i * sz)) sz=some ci→ci=(c.toList.drop (off+i * sz)).take sz∧off+i * sz+sz≤c.size:=by
      intro i ci hci
      obtain ⟨_,q1,q2⟩:=World.cells?_some hci
      have hsize:off+i * sz+sz≤c.size:=by
       have:=q2 (sz - 1) (by omega)
       rw [nG,nG,ak0,List.getElem?_eq_getElem (by omega)] at this
       have:=(Array.getElem?_eq_some_iff.1 this).1
       omega
      refine ⟨?_,hsize⟩
      apply List.ext_getElem?
      intro q
      by_cases hq:q < sz
      ·have:=q2 q hq
       rw [nG,nG,ak0] at this
       rw [← this,List.getElem?_take,if_pos hq,List.getElem?_drop,Array.getElem?_toList]
      ·rw [List.getElem?_eq_none (by omega),List.getElem?_eq_none (by simp;omega)]
     have hend:off+cap * sz≤c.size:=by
      obtain ⟨ci,h1,_⟩:=all (cap - 1) (by omega)
      have:=(amk _ _ h1).2
      have:(cap - 1) * sz+sz=cap * sz:=by rw [← Nat.succ_mul];congr 1;omega
      omega
     have hrow:len * sz≤cap * sz:=Nat.mul_le_mul_right _ hlc
     have RS:gT W (List.replicate len se) (chunks (List.replicate len sz) (c.toList.drop off)) (elems.map λy=>Ba y.1):=by
      refine gT.vU (by simp [hlen]) (by simp [yM,hlen]) λi s0 ci d0 h1 h2 h3=>?_
      have hi:i < len:=by
       have:=(List.getElem?_eq_some_iff.1 h1).1
       simpa using this
      rw [List.getElem?_replicate,if_pos hi] at h1
      obtain rfl:=Option.some.inj h1
      rw [Fv _ _ i sz (by rw [List.getElem?_replicate,if_pos hi])] at h2
      obtain rfl:=Option.some.inj h2
      obtain ⟨ci,g1,g2⟩:=all i (by omega)
      obtain ⟨y,g3,g4⟩:=g2 hi
      obtain ⟨g5,_⟩:=amk i ci g1
      rw [List.getElem?_map,g3] at h3
      obtain rfl:=Option.some.inj h3
      have e1:(List.take i (List.replicate len sz)).sum=i * sz:=by
       rw [List.take_replicate,Nat.min_eq_left (by omega),List.sum_replicate_nat]
      rw [e1,List.drop_drop,← g5]
      exact FB hl k e se hse hte n ci y g4
     obtain ⟨lu,M1,pieces,g1,hpl,hpv,hpc,hpp,aeQ⟩:=RS.open ι M r ro
     have aeL:(chunks (List.replicate len sz) (c.toList.drop off)).flatten=(c.toList.drop off).take (len * sz):=by
      rw [chunks_flatten,List.sum_replicate_nat]
     rw [aeL] at hpv
     have hfl:pieces.flatten.length=len * sz:=by
      have:=hpv.length
      simp at this
      rw [List.length_flatten,this]
      omega
     have aeR:=Grow.see (c:=pieces.flatten) (l:=⟨j,off,cap * sz⟩) g1.rel g1.ro hob (by
      refine ⟨c,el,fz,rfl,hend,by rw [hfl];exact hrow,(λh=>by cases h),λi b hb=>?_,λh=>by cases h⟩
      obtain ⟨v,hv,hvr⟩:=hpv.get i b hb
      refine ⟨v, ?_, ?_,hvr⟩
      ·rw [List.getElem?_take] at hv
       split at hv
       ·rw [List.getElem?_drop,Array.getElem?_toList] at hv
        exact hv
       ·cases hv
      ·obtain ⟨p,hp,hbp⟩:=List.mem_flatten.1 (List.mem_of_getElem? hb)
       exact hpc p hp b hbp)
     have hdl:(NZ (elems.map λy=>y.1)).length=len:=by rw [Fu];simp [hlen]
     refine ⟨_,_,[.slice (some (M1.next,0)) sz len cap true],g1.trans aeR, ?_, ?_, ?_, ?_⟩
     ·simp only [eF,VR,and_true]
      exact ⟨⟨j,off,cap * sz⟩,⟨j,off,none⟩,cap,by simp [gG.set],rfl,.inr rfl,.inr rfl,.inr rfl,hlc,Nat.le_refl _,λ_=>rfl,by simp,by omega⟩
     ·intro y hy
      simp at hy
      subst hy
      rfl
     ·have e1:NZ (elems.map λy=>y.1)=elems.map λy=>Ba y.1:=by rw [Fu];simp
      rw [Gg] at hpp
      ·simp only [encS,bM,VL,and_true,e1]
       refine .inr ⟨M1.next,0,cap,true, ?_, ?_,by simp, ?_,λ_=>⟨pieces.flatten,true,true,by simp [Heap.push],λh=>h,by simp [Heap.push], ?_, ?_⟩⟩
       ·rw [hsz',List.length_map,hlen]
       ·rw [List.length_map,hlen];exact hlc
       ·rw [hpp.length,hfl,List.length_map,hlen,hsz']
       ·rw [List.length_map,hlen,← hsz'];omega
       ·rw [List.length_map,hlen,← hsz',List.drop_zero,List.take_of_length_le (by omega)]
        exact bM.sub aeR.sub aeR.next _ _ hpp
      ·simp [hlen]
     ·have e1:NZ (elems.map λy=>y.1)=elems.map λy=>Ba y.1:=by rw [Fu];simp
      refine ⟨_,rfl, ?_⟩
      rw [e1]
      exact (D.Ko aeQ).2
  ·rename_i fs hu
   obtain ⟨ss,hss,rfl⟩:=Option.map_eq_some_iff.1 hs
   obtain ⟨hsl,hsg⟩:=Vb hss
   obtain ⟨kt,kc,ko⟩:=Go.kid_struct hl ht hu
   obtain ⟨xs,n,rfl,rfl,hcl,hxl,hget⟩:=DataW.trod_struct hu h
   intro ι M r ro
   have RS:gT W ss (chunks (fs.toList.map λf=>P.cellsOf f.type) cs) (xs.map λy=>Ba y.1):=by
    refine gT.vU (by simp [hsl,hxl]) (by simp [yM,hxl]) λi s0 ci d0 h1 h2 h3=>?_
    have hi:i < fs.toList.length:=by
     have:=(List.getElem?_eq_some_iff.1 h1).1
     simpa [hsl] using this
    have hf:fs.toList[i]?=some fs.toList[i]:=List.getElem?_eq_getElem hi
    obtain ⟨s1,g1,g2⟩:=hsg i _ (by rw [List.getElem?_map,hf];rfl)
    rw [h1] at g1
    obtain rfl:=Option.some.inj g1
    rw [Fv _ _ i _ (by rw [List.getElem?_map,hf];rfl)] at h2
    obtain rfl:=Option.some.inj h2
    have h4:=hget i fs.toList[i] (by rw [← Array.getElem?_toList];exact hf)
    rw [List.getElem?_map] at h3
    obtain ⟨y,hy,rfl⟩:=Option.map_eq_some_iff.1 h3
    rw [hy,ko i _ hf] at h4
    rw [← List.map_take]
    exact FB hl k _ _ g2 (kt _ (List.getElem_mem hi)) n _ y h4
   obtain ⟨lu,M1,pieces,g1,hpl,hpv,hpc,hpp,aeQ⟩:=RS.open ι M r ro
   rw [chunks_flatten,← kc,← hcl,List.take_length] at hpv
   have e1:Ba (DataW.agg (xs.map λy=>y.1))=.agg (xs.map λy=>Ba y.1):=by simp [Ba,Fu]
   refine ⟨lu,M1,pieces.flatten,g1,hpv,λa ha=>?_, ?_, ?_⟩
   ·obtain ⟨p,hp,hap⟩:=List.mem_flatten.1 ha
    exact hpc p hp a hap
   ·rw [e1]
    simp only [encS]
    exact hpp
   ·rw [e1]
    exact ⟨_,rfl,aeQ⟩
  ·rename_i m e hu
   obtain ⟨se,hse,rfl⟩:=Option.map_eq_some_iff.1 hs
   obtain ⟨hte,kc⟩:=Go.kid_array hl ht hu
   obtain ⟨xs,n,rfl,rfl,hcl,hxl,hget⟩:=DataW.trod_array hu h
   intro ι M r ro
   have RS:gT W (List.replicate m se) (chunks (List.replicate m (P.cellsOf e)) cs) (xs.map λy=>Ba y.1):=by
    refine gT.vU (by simp [hxl]) (by simp [yM,hxl]) λi s0 ci d0 h1 h2 h3=>?_
    have hi:i < m:=by
     have:=(List.getElem?_eq_some_iff.1 h1).1
     simpa using this
    rw [List.getElem?_replicate,if_pos hi] at h1
    obtain rfl:=Option.some.inj h1
    rw [Fv _ _ i (P.cellsOf e) (by rw [List.getElem?_replicate,if_pos hi])] at h2
    obtain rfl:=Option.some.inj h2
    have h4:=hget i hi
    rw [List.getElem?_map] at h3
    obtain ⟨y,hy,rfl⟩:=Option.map_eq_some_iff.1 h3
    rw [hy] at h4
    have e1:(List.take i (List.replicate m (P.cellsOf e))).sum=i * P.cellsOf e:=by
     rw [List.take_replicate,Nat.min_eq_left (by omega),List.sum_replicate_nat]
    rw [e1]
    exact FB hl k e se hse hte n _ y h4
   obtain ⟨lu,M1,pieces,g1,hpl,hpv,hpc,hpp,aeQ⟩:=RS.open ι M r ro
   rw [chunks_flatten,List.sum_replicate_nat,← kc,← hcl,List.take_length] at hpv
   have e1:Ba (DataW.agg (xs.map λy=>y.1))=.agg (xs.map λy=>Ba y.1):=by simp [Ba,Fu]
   refine ⟨lu,M1,pieces.flatten,g1,hpv,λa ha=>?_, ?_, ?_⟩
   ·obtain ⟨p,hp,hap⟩:=List.mem_flatten.1 ha
    exact hpc p hp a hap
   ·rw [e1]
    simp only [encS]
    exact hpp
   ·rw [e1]
    exact ⟨_,rfl,aeQ⟩
def HY (s:Sh) (d:D):AV :=
 match s with
 | .agg ss=>.agg (encS s d)
 | s=>(encS s d).headD .undef
def encArgs:List Sh→List D→List AV
 | s::ss,d::r=>HY s d::encArgs ss r
 | _,_=>[]
theorem ac8 {H:Type} {enc:TypeId×Value→H} {P:Program} (hl:laidOutB P=true) {W:World} {k base:Nat} {t:TypeId} {s:Sh} (hs:K5 P k t=some s) (ht:t < P.types.size) {v:Value} {d:DataW H} {ps:List MemPlace}
  (hval:Value.okWide P W .any base t v) (h:DataW.Trod enc P W 0 (λ_=>true) true t v d ps) {ι:gG} {M:Heap} (r:R ι M W) (ro:tV M) :
  ∃ bF M' a,Grow ι M bF M' W∧VR bF a v∧VL M' (λ_=>False) VI.none (HY s (Ba d)) a∧D.is s (Ba d):=by
 obtain ⟨fuel,hf⟩:=h
 obtain ⟨bF,M',avs,g,hv,_,hr,hi⟩:=FB hl k t s hs ht fuel _ _ hf ι M r ro
 simp only at hr hi
 have one:v.cells=#[v]→(∀ ss,s≠.agg ss)→∃ bF M' a,Grow ι M bF M' W∧VR bF a v∧VL M' (λ_=>False) VI.none (HY s (Ba d)) a∧D.is s (Ba d):=by
  intro e1 e2
  rw [e1] at hv
  match avs,hv,hr with
  | [a],hv,hr =>
   simp only [eF] at hv
   refine ⟨bF,M',a,g,hv.1, ?_,hi⟩
   have hlen:=hr.length
   have:∃ x,encS s (Ba d)=[x]:=by
    match hx:encS s (Ba d),hlen with
    | [x],_=>exact ⟨x,rfl⟩
    | [],h=>simp at h
    | _::_::_,h=>simp at h
   obtain ⟨x,hx⟩:=this
   rw [hx] at hr
   simp only [bM] at hr
   have he:HY s (Ba d)=x:=by
    cases s with
    | agg ss=>exact absurd rfl (e2 ss)
    | _=>simp [HY,hx]
   rw [he]
   exact hr.1
  | [],hv,_=>simp [eF] at hv
  | _::_::_,hv,_=>simp [eF] at hv
 have many:(∃ cs,v=.agg cs)→(∃ ss,s=.agg ss)→∃ bF M' a,Grow ι M bF M' W∧VR bF a v∧VL M' (λ_=>False) VI.none (HY s (Ba d)) a∧D.is s (Ba d):=by
  rintro ⟨cs,rfl⟩ ⟨ss,rfl⟩
  refine ⟨bF,M',.agg avs,g, ?_, ?_,hi⟩
  ·simp only [VR]
   exact ⟨cs,rfl,by simpa [Value.cells] using hv⟩
  ·simp only [HY,VL]
   exact ⟨avs,rfl,hr⟩
 cases k with
 | zero=>simp [K5] at hs
 | succ k =>
  simp only [K5] at hs
  split at hs
  case h_7=>cases hs
  ·rename_i hu
   obtain rfl:=Option.some.inj hs
   obtain ⟨b,rfl⟩:=okWide_bool hu hval
   exact one rfl λl hl=>by cases hl
  ·rename_i i hu
   obtain rfl:=Option.some.inj hs
   obtain ⟨b,rfl⟩:=okWide_int hu hval
   exact one rfl λl hl=>by cases hl
  ·rename_i hu
   obtain rfl:=Option.some.inj hs
   obtain ⟨b,rfl⟩:=okWide_string hu hval
   exact one rfl λl hl=>by cases hl
  ·rename_i e hu
   split at hs
   ·cases hs
   obtain ⟨se,hse,rfl⟩:=Option.map_eq_some_iff.1 hs
   obtain ⟨a,len,cap,rfl⟩:=okWide_slice hu hval
   exact one rfl λl hl=>by cases hl
  ·rename_i fs hu
   obtain ⟨ss,hss,rfl⟩:=Option.map_eq_some_iff.1 hs
   obtain ⟨cs,hcs,_⟩:=okWide_struct hu hval
   exact many ⟨cs,hcs⟩ ⟨_,rfl⟩
  ·rename_i n e hu
   obtain ⟨se,hse,rfl⟩:=Option.map_eq_some_iff.1 hs
   simp only [Value.okWide,hu] at hval
   obtain ⟨cs,hcs,_⟩:=hval
   exact many ⟨cs,hcs⟩ ⟨_,rfl⟩
theorem Vs {H:Type} {enc:TypeId×Value→H} {P:Program} (hl:laidOutB P=true) {W:World} {k base:Nat} :
  ∀ (ts:List TypeId) (ss:List Sh) (vs:List Value) (ds:List (DataW H)) (p:List MemPlace),Ry P k ts=some ss→(ts.all λt=>decide (t < P.types.size))=true →
   (∀ (j:Nat) t v,ts[j]?=some t→vs[j]?=some v→Value.okWide P W .any base t v)→DataW.TrodAll enc P W 0 (λ_=>true) true ts vs ds p →
   ∀ ι M,R ι M W→tV M→∃ bF M' as,Grow ι M bF M' W∧eF bF as vs∧aaA M' (encArgs ss (ds.map Ba)) as∧D.are ss (ds.map Ba)
 | [],ss,[],[],p,hs,_,_,_,ι,M,r,ro=>by
  simp [Ry,Ud] at hs
  subst hs
  exact ⟨ι,M,[],.refl r ro,by simp [eF],by simp [encArgs,aaA,bM],by simp [D.are]⟩
 | t::ts,ss,v::vs,d::ds,p,hs,ht,hval,h,ι,M,r,ro=>by
  simp only [Ry,Ud] at hs
  split at hs
  case h_2=>cases hs
  rename_i s sr h1 h2
  obtain rfl:=Option.some.inj hs
  simp only [List.all_cons,Bool.and_eq_true,decide_eq_true_eq] at ht
  simp only [DataW.TrodAll] at h
  obtain ⟨p1,p2,g1,g2,_⟩:=h
  obtain ⟨lu,M1,a,q1,q2,q3,q4⟩:=ac8 hl h1 ht.1 (hval 0 t v (by simp) (by simp)) g1 r ro
  obtain ⟨yu,M2,as,w1,w2,w3,w4⟩:=Vs hl ts sr vs ds p2 h2 (by simpa using ht.2) (λj t v a b=>hval (j+1) t v (by simpa using a) (by simpa using b)) g2 lu M1 q1.rel q1.ro
  refine ⟨yu,M2,a::as,q1.trans w1, ?_, ?_, ?_⟩
  ·simp only [eF]
   exact ⟨q2.mono w1.le,w2⟩
  ·simp only [List.map_cons,encArgs,aaA,bM]
   exact ⟨VL.sub (κ:=VI.none) (uH:=VI.none) w1.sub w1.next _ _ q3,w3⟩
  ·simp only [List.map_cons,D.are]
   exact ⟨q4,w4⟩
 | [],_,_::_,_,_,_,_,_,h,_,_,_,_=>by simp [DataW.TrodAll] at h
 | [],_,[],_::_,_,_,_,_,h,_,_,_,_=>by simp [DataW.TrodAll] at h
 | _::_,_,[],_,_,_,_,_,h,_,_,_,_=>by simp [DataW.TrodAll] at h
 | _::_,_,_::_,[],_,_,_,_,h,_,_,_,_=>by simp [DataW.TrodAll] at h
def aml (C:bJ) (f:FuncId) (ss:List Sh) (small:Nat):Prop :=
 ∀ ds:List D,D.are ss ds→D.xU ds≤small→∃ out,Spec C f (encArgs ss ds) [] (.bool true) out
theorem VS.empty {M:Heap} (h:M.Ok):VS (λ_=>False) VI.none [] M :=
 ⟨λ_ _ h=>(nomatch h),λ_ _ _ _ _ h=>(nomatch h),λi x h=>by simp [dh] at h,λ_ h=>(nomatch h),λ_ h=>(nomatch h),h,λ_ h=>h.elim⟩
theorem aiz:OR (λ_=>False) VI.none=λ_=>False:=by
 funext j
 simp [OR,own,VI.none]
theorem Yw {H:Type} {enc:TypeId×Value→H} {P:Program} (hl:laidOutB P=true) {f:FuncId} {C:bJ} (hg:Sound P f (C f)) {ss:List Sh} {small:Nat} (hp:aml C f ss small)
  {W:World} {k base:Nat} {ts:List TypeId} {args:Array Value} {ds:List (DataW H)} {p:List MemPlace} (hs:Ry P k ts=some ss) (ht:(ts.all λt=>decide (t < P.types.size))=true)
  (hval:∀ (j:Nat) t v,ts[j]?=some t→args.toList[j]?=some v→Value.okWide P W .any base t v) (hA:DataW.TrodAll enc P W 0 (λ_=>true) true ts args.toList ds p) (hb:D.xU (ds.map Ba)≤small) :
  Calls P f args W λe W'=>e=.returned (.bool true)∧Below W.heap.size W W':=by
 obtain ⟨ι,M,as,g1,g2,g3,g4⟩:=Vs hl ts ss args.toList ds p hs ht hval hA _ _ (R.empty W) (λb x h=>by simp [Heap.empty] at h)
 obtain ⟨out,hH⟩:=hp _ g4 hb
 have hw:M.Ok:=λb hb=>(g1.rel.fresh b hb).1
 have g3':bM M (OR (λ_=>False) VI.none) VI.none (encArgs ss (ds.map Ba)) as:=by rw [aiz];exact g3
 obtain ⟨a,M',lu,e1,e2,_,e3⟩:=hH _ VI.none M as (VS.empty hw) g3'
 simp only [VL] at e3
 subst e3
 refine (hg as M _ M' e1 ι W args g1.rel g2).mono ?_
 rintro e w' ⟨bF,v',rfl,hv,htr⟩
 simp only [VR] at hv
 subst hv
 exact ⟨rfl,Yc htr g1.ro⟩
end Go.Proofs.YtohoggieaanllaaGreat
end
section
set_option linter.all false
set_option linter.unusedSimpArgs false
namespace Go.Proofs.YtohoggieaanllaaGreat
def KK:Nat:=2000000000000
abbrev Tab:=WA×(FuncId→Option bC)
abbrev aG (A:Tab) (d:Nat):bJ:=nU A.1 A.2 KK d
theorem VS.amm {R:Nat→Prop} {ι:VI} {H:WH} {M:Heap} (s:VS R ι H M) (y:kN):VS R ι H (M.push y)∧Stp H.length [] ι H M ι H (M.push y):=by
 have hk:Keeps M (own ι) (M.push y) (own ι):=⟨Nat.le_succ _,λb hb ho=>⟨by simp [Heap.push,Nat.ne_of_lt hb],ho⟩⟩
 refine ⟨⟨λi j h=>?_,s.inj,λi x hx=>?_,s.y9,s.yN,λb hb=>?_,λj h=>⟨by simp only [Heap.push];have:=(s.res j h).1;omega,(s.res j h).2⟩⟩,⟨hk,.refl _ _,λ_ _ h=>h,λ_ _=>rfl,λ_ _=>rfl,λ_ _ _=>rfl,λ_ _ h=>h,λi j _ _ hj _=>?_,Nat.le_refl _⟩⟩
 ·have:=s.lt i j h
  simp only [Heap.push]
  omega
 ·rcases s.blk i x hx with h | ⟨j,h1,h2,h3⟩
  ·exact .inl h
  refine .inr ⟨j,h1, ?_,h3⟩
  have:=(s.lt i j h1).2
  simp only [Heap.push,if_neg (show j≠M.next by omega)]
  exact h2.mono (hk.or R) (λ_=>.refl _ _) (λ_ h=>h)
 ·simp only [Heap.push] at hb ⊢
  rw [if_neg (by omega)]
  exact s.Z5 b (by omega)
 ·have:=(s.lt i j hj).2
  simp only [Heap.push,if_neg (show j≠M.next by omega)]
def FC (sz bytes:Nat) (zero:List AV):bC:={ nargs:=1,ntmps:=8,code:=(.seq (.reg [{ dst:=(some 2),op:=(.p (.move (.c (.slice none 1 0 0 true)))),guard:=none }]) (.seq (.seq (.reg [{ dst:=(some 3),op:=(.p (.move (.t 0))),guard:=none },{ dst:=(some 4),op:=(.p (.eqN false (.t 3) (.c (.slice none 1 0 0 true)))),guard:=none }]) (.cond (.t 4) (.seq (.reg [{ dst:=(some 2),op:=(.p (.move (.c (.slice none 1 0 0 true)))),guard:=none }]) .ret) .skip)) (.seq (.reg [{ dst:=(some 5),op:=(.k (.buildSlice sz 0 zero [])),guard:=none },{ dst:=(some 6),op:=(.p (.move (.t 0))),guard:=none },{ dst:=(some 7),op:=(.n (.append sz bytes (.t 5) (.t 6))),guard:=none },{ dst:=(some 2),op:=(.p (.move (.t 7))),guard:=none }]) .ret))),results:=[(.tmp 2)] }
theorem ac9 (C:bJ) (K sz bytes:Nat) (zero:List AV) (M:Heap) (sz' len cap:Nat) (ex:Bool) :
  bbody C K (FC sz bytes zero) [.slice none sz' len cap ex] M=some (.slice none 1 0 0 true,M):=by
 simp [bbody,FC,start,List.replicate,List.replicate_succ,rU,rT,rR,vX,Proofs.YtohoggieaanllaaGreat.rP,rQ,yY.sub,kP.sub,AX.sub,LZ,aP,Wn,AX.ev,aU,j6,Bb,JV]
theorem aaB (C:bJ) (K sz bytes:Nat) (zero:List AV) (M:Heap) (q:Nat×Nat) (len cap:Nat) (ex:Bool) (n:Nat) (cs:List AV) (he:kU (.slice (some q) sz len cap ex) (M.push (.cells [] false false))=some (n,cs)) (hn:n * bytes≤70368744177664∧n≤70368744177664) :
  bbody C K (FC sz bytes zero) [.slice (some q) sz len cap ex] M=if n=0 then some (.slice (some (M.next,0)) sz 0 0 true,M.push (.cells [] false false)) else some (.slice (some (M.next+1,0)) sz n n false,(M.push (.cells [] false false)).push (.cells cs false true)):=by
 have pn:∀ (x:kN),(M.push x).next=M.next+1:=λ_=>rfl
 have hap:fM sz bytes (.slice (some (M.next,0)) sz 0 0 true) n cs (M.push (.cells [] false false))=if n=0 then some (.slice (some (M.next,0)) sz 0 0 true,M.push (.cells [] false false)) else some (.slice (some (M.next+1,0)) sz n n false,(M.push (.cells [] false false)).push (.cells cs false true)):=by
  unfold fM
  by_cases h0:n=0
  ·subst h0
   simp
  ·simp only
   rw [if_neg (by simp),if_neg (by omega),if_pos (by simpa using hn),if_neg h0]
   simp [pn]
 by_cases h0:n=0
 ·subst h0
  simp only [if_true] at hap ⊢
  simp [bbody,FC,start,List.replicate,List.replicate_succ,rU,rT,rR,vX,yY.sub,kP.sub,GK.sub,Ca.sub,AX.sub,aU,Proofs.YtohoggieaanllaaGreat.rP,rQ,LZ,aP,aK,aN,Wn,AX.ev,jf,qh,Mk.val,dV,he,hap,j6,Bb,JV]
 ·simp only [if_neg h0] at hap ⊢
  simp [bbody,FC,start,List.replicate,List.replicate_succ,rU,rT,rR,vX,yY.sub,kP.sub,GK.sub,Ca.sub,AX.sub,aU,Proofs.YtohoggieaanllaaGreat.rP,rQ,LZ,aP,aK,aN,Wn,AX.ev,jf,qh,Mk.val,dV,he,hap,j6,Bb,JV]
theorem Yx {x:AV} {M:Heap} {y:kN} {n:Nat} {cs:List AV} (ok:M.Ok) (h:kU x M=some (n,cs)):kU x (M.push y)=some (n,cs):=by
 unfold kU at h ⊢
 split at h
 ·exact h
 ·split at h
  ·rename_i hl
   rw [if_pos hl]
   exact h
  ·rename_i hl
   rw [if_neg hl]
   obtain ⟨c,h1,h2⟩:=Option.map_eq_some_iff.1 h
   rw [Option.map_eq_some_iff]
   refine ⟨c, ?_,h2⟩
   rename_i b _ _ _ _ _
   have hb:M.get b≠none:=λe=>by simp [Heap.read,e] at h1
   have hne:b≠M.next:=λe=>hb (by rw [e];exact ok M.next (Nat.le_refl _))
   have:(M.push y).get b=M.get b:=by simp only [Heap.push,if_neg hne]
   simp only [Heap.read,this] at h1 ⊢
   exact h1
 ·exact h
 ·cases h
theorem Vt {T:Tab} {d:Nat} {f:FuncId} {sz bytes:Nat} {zero:List AV} (hG:T.1 f=none) (hT:T.2 f=some (FC sz bytes zero)):Z6 (aG T (d+1)) f (.clone sz bytes):=by
 intro R ι H M args as dst tr k s hv h
 simp only [wBt] at h
 split at h
 case h_2=>exact h.elim
 rename_i v
 match as,hv with
 | [],hv=>simp [bM] at hv
 | _::_::_,hv=>simp [bM] at hv
 | [a],hv =>
 simp only [bM] at hv
 replace hv:=hv.1
 have run:aG T (d+1) f [a] M=bbody (aG T d) KK (FC sz bytes zero) [a] M:=by simp only [aG,nU,hG,hT]
 rw [run]
 split at h
 ·exact h.elim
 rename_i hstr
 split at h
 case h_2=>exact h.elim
 rename_i n cs S hel
 obtain ⟨_,h⟩:=Q_ h
 obtain ⟨jP,hf,hk⟩:=lC h
 have hf':=Ob hf
 obtain ⟨e1,e2,cs',e3,e4⟩:=Oc s hv hel
 obtain ⟨u1,u2⟩:=s.ac1 S (Hz hel)
 have hlen:(Fx H S).length=H.length:=tY S H
 have hn0:n=0→cs=[]:=λe=>by
  subst e
  rw [Nat.zero_mul] at e2
  exact List.eq_nil_of_length_eq_zero e2
 -- which it is
 have hcase:(∃ s' l c x,a=.slice none s' l c x)∨∃ q l c x,a=.slice (some q) sz l c x:=by
  cases a with
  | slice p s' l c x =>
   cases p with
   | none=>exact .inl ⟨_,_,_,_,rfl⟩
   | some q =>
    simp [dV] at e1
    subst e1
    exact .inr ⟨_,_,_,_,rfl⟩
  | str t =>
   exfalso
   cases v with
   | str t=>exact hstr t rfl
   | ptr p=>cases p<;>simp [VL] at hv
   | slice p=>cases p<;>simp [VL] at hv
   | map p=>cases p<;>simp [VL] at hv
   | _=>simp_all [VL,Hr]
  | _=>simp [dV] at e1
 rcases hcase with ⟨s',l,c,x,rfl⟩ | ⟨q,l,c,x,rfl⟩
 ·simp only [kU,Option.some.injEq,Prod.mk.injEq] at e3
  simp only [dV,beq_iff_eq] at e1
  obtain ⟨rfl,rfl⟩:=e3
  subst e1
  obtain rfl:=hn0 rfl
  rw [ac9]
  obtain ⟨bF,q1,q2,q3⟩:=MB u1 sz 1 none (by simp)
  rw [hlen] at q2 q3
  refine ⟨_,M,bF,_,_,[],jP,rfl,q1, ?_,q3,hk⟩
  have:=u2.trans q2 (Nat.le_refl _)
  simpa using this
 ·obtain ⟨s1,k1⟩:=u1.amm (.cells [] false false)
  have he':=Yx (y:=.cells [] false false) s.Z5 e3
  rw [aaB (aG T d) KK sz bytes zero M q l c x n cs' he' hf']
  by_cases hn:n=0
  ·rw [if_pos hn]
   obtain rfl:=hn0 hn
   subst hn
   obtain ⟨bF,q1,q2,q3⟩:=MB s1 sz sz (some (M.next,0)) (λ_=>rfl)
   rw [hlen] at q2 q3 k1
   refine ⟨_,_,bF,_,_,[],jP,rfl,q1, ?_,q3,hk⟩
   have:=(u2.trans k1 (Nat.le_refl _)).trans q2 (Nat.le_refl _)
   simpa using this
  ·rw [if_neg hn]
   have e4':=bM.Vm k1 e4
   obtain ⟨bF,q1,q2,q3⟩:=Q7 s1 (cs:=cs) (cs':=cs') e4' e2 false true
   rw [hlen] at q2 q3 k1
   refine ⟨_,_,bF,_,_,[],jP,rfl,q1, ?_,q3,hk⟩
   have:=(u2.trans k1 (Nat.le_refl _)).trans q2 (Nat.le_refl _)
   simpa using this
def MG (sz:Nat):bC:={ nargs:=1,ntmps:=9,code:=(.seq (.reg [{ dst:=(some 2),op:=(.p (.move (.c (.slice none 1 0 0 true)))),guard:=none }]) (.seq (.reg [{ dst:=(some 3),op:=(.p (.move (.t 0))),guard:=none },{ dst:=(some 4),op:=(.p (.move (.t 0))),guard:=none },{ dst:=(some 5),op:=(.p (.len false (.t 4))),guard:=none },{ dst:=(some 6),op:=(.p (.move (.t 0))),guard:=none },{ dst:=(some 7),op:=(.p (.len false (.t 6))),guard:=none },{ dst:=(some 8),op:=(.p (.slice sz (.t 3) none (some (.t 5)) (some (.t 7)))),guard:=none },{ dst:=(some 2),op:=(.p (.move (.t 8))),guard:=none }]) .ret)),results:=[(.tmp 2)] }
theorem MH (C:bJ) (K sz:Nat) (M:Heap) (p:Option (Nat×Nat)) (s' n cap:Nat) (ex:Bool) (hn:n≤cap) (hp:p≠none→s'=sz) :
  bbody C K (MG sz) [.slice p s' n cap ex] M=some (.slice p sz n n true,M):=by
 have hs:iT sz p s' n cap ex [] none (some (.c (.int .i64 n))) (some (.c (.int .i64 n)))=some (.slice p sz n n true):=by
  unfold iT
  rw [if_pos (by cases p with
   | none=>exact .inl rfl
   | some p=>exact .inr (hp (by simp)))]
  have h1:(0:Int)≤n:=by omega
  have h2:(n:Int)≤cap:=by omega
  have h3:kC p 0=p:=by cases p<;>rfl
  simp [bN,mU,AX.ev,h1,h2,h3]
 simp [bbody,MG,start,List.replicate,List.replicate_succ,rU,rT,rR,vX,Proofs.YtohoggieaanllaaGreat.rP,rQ,yY.sub,kP.sub,AX.sub,AX.iI,LZ,aP,AX.ev,aU,hs,j6,Bb,JV]
theorem HZ {T:Tab} {d:Nat} {f:FuncId} {sz:Nat} (hG:T.1 f=none) (hT:T.2 f=some (MG sz)):Z6 (aG T (d+1)) f (.clip sz):=by
 intro R ι H M args as dst tr k s hv h
 have run:∀ a,aG T (d+1) f [a] M=bbody (aG T d) KK (MG sz) [a] M:=λa=>by simp only [aG,nU,hG,hT]
 simp only [wBt] at h
 split at h
 ·match as,hv with
  | [],hv=>simp [bM] at hv
  | _::_::_,hv=>simp [bM] at hv
  | [a],hv =>
  simp only [bM,VL] at hv
  obtain ⟨_,s',rfl⟩:=hv.1
  rw [run,MH (aG T d) KK sz M none _ 0 0 true (Nat.le_refl _) (by simp)]
  exact ⟨_,M,ι,_,H,[],tr,rfl,s,.refl _ _ _ _ _ (Nat.le_refl _),by simp [VL],h⟩
 ·match as,hv with
  | [],hv=>simp [bM] at hv
  | _::_::_,hv=>simp [bM] at hv
  | [a],hv =>
  split at h
  case h_2=>exact h.elim
  rename_i e
  obtain rfl:=Nat.eq_of_beq_eq_true e
  simp only [bM,VL] at hv
  rcases hv.1 with ⟨rfl,rfl,s',rfl⟩ | ⟨b,o,cap,ex',rfl,h1,h2,h3,h4⟩
  ·rw [run,MH (aG T d) KK _ M none _ 0 0 true (Nat.le_refl _) (by simp)]
   exact ⟨_,M,ι,_,H,[],tr,rfl,s,.refl _ _ _ _ _ (Nat.le_refl _),by simp [VL],h⟩
  ·rw [run,MH (aG T d) KK _ M (some (b,o)) _ _ cap ex' h1 (λ_=>rfl)]
   refine ⟨_,M,ι,_,H,[],tr,rfl,s,.refl _ _ _ _ _ (Nat.le_refl _), ?_,h⟩
   simp only [VL]
   exact .inr ⟨b,o,_,true,rfl,Nat.le_refl _,λ_=>⟨rfl,rfl⟩,h3,h4⟩
 ·match as,hv with
  | [],hv=>simp [bM] at hv
  | _::_::_,hv=>simp [bM] at hv
  | [a],hv =>
  split at h
  case h_2=>exact h.elim
  rename_i e
  obtain rfl:=Nat.eq_of_beq_eq_true e
  simp only [bM,VL] at hv
  obtain ⟨p,s',cap,ex,rfl,g1,g2,g3,m,L,g4,g5,g6,g7⟩:=hv.1
  rw [run,MH (aG T d) KK _ M p s' _ cap ex g1 g3]
  refine ⟨_,M,ι,_,H,[],tr,rfl,s,.refl _ _ _ _ _ (Nat.le_refl _), ?_,h⟩
  simp only [VL]
  refine ⟨p,_,_,true,rfl,Nat.le_refl _,λhp=>⟨?_,rfl⟩,λ_=>rfl,m,L,g4,g5,g6, ?_⟩
  ·have:=(g2 hp).1
   omega
  ·rcases g7 with ⟨j,q1,q2⟩ | ⟨q1,q2,q3,q4,q5⟩
   ·refine .inl ⟨j,q1, ?_⟩
    rcases q2 with ⟨q2,q3⟩ | ⟨q2,q3,q4⟩
    ·exact .inl ⟨q2,Nat.le_trans (Nat.add_le_add_left (Nat.mul_le_mul_right _ g1) _) q3⟩
    ·exact .inr ⟨q2,q2,rfl⟩
   ·exact .inr ⟨q1,q2,q2,rfl,q5⟩
 ·exact h.elim
end Go.Proofs.YtohoggieaanllaaGreat
end
section
set_option linter.all false
set_option linter.unusedSimpArgs false
namespace Go.Proofs.YtohoggieaanllaaGreat
abbrev oP (d:Nat) (o:kP):sQ:={ dst:=some d,op:=.p o,guard:=none }
abbrev oV (d s:Nat):sQ:={ dst:=some d,op:=.p (.move (.t s)),guard:=none }
abbrev oC (d:Nat) (v:AV):sQ:={ dst:=some d,op:=.p (.move (.c v)),guard:=none }
abbrev oN (d:Nat) (o:Ca):sQ:={ dst:=some d,op:=.n o,guard:=none }
abbrev oZ (o:Ca):sQ:={ dst:=none,op:=.n o,guard:=none }
abbrev oD (o:sQ) (lo ix:Nat):fD:={ o:=o,lo:=lo,ix:=ix }
abbrev iC (n:Int):AX:=.c (.int .i64 n)
def CQ (b:UInt8):AV:=.int .u8 b.toNat
def L6 (x:Int):UInt8:=UInt8.ofNat (IntKind.u8.wrap x).toNat
theorem aly (x:Int):CQ (L6 x)=.int .u8 (IntKind.u8.wrap x):=by
 have h:0≤IntKind.u8.wrap x∧IntKind.u8.wrap x < 256:=by
  simp only [IntKind.wrap,IntKind.signed,IntKind.bits]
  constructor
  ·simp;omega
  ·simp;omega
 simp only [CQ,L6,AV.int.injEq,true_and,UInt8.toNat_ofNat']
 omega
def bW {α:Type} (L:List α) (i:Int):Option α:=if 0≤i then L[i.toNat]? else none
def Ku {α:Type} (L:List α) (lo hi:Int):Option (List α):=if 0≤lo∧lo≤hi∧hi≤(L.length:Int) then some ((L.drop lo.toNat).take (hi.toNat - lo.toNat)) else none
def Eo (k:IntKind) (x y:Int):Int:=k.wrap (BitVec.ofInt k.bits x &&& BitVec.ofInt k.bits y).toNat
def orI (k:IntKind) (x y:Int):Int:=k.wrap (BitVec.ofInt k.bits x ||| BitVec.ofInt k.bits y).toNat
def anD (k:IntKind) (x y:Int):Int:=k.wrap (x * 2 ^ (min y.toNat k.bits))
def Uf (k:IntKind) (x y:Int):Int:=x.fdiv (2 ^ (min y.toNat k.bits))
def aiA (k:IntKind) (x y:Int):Option Int:=if y=0 then none else some (x.tmod y)
def aeS (k:IntKind) (x y:Int):Option Int:=if y < 0 then none else some (k.wrap (x * 2 ^ (min y.toNat k.bits)))
def ada (x y:List UInt8):Option (List UInt8):=if x.length+y.length≤4611686018427387904 then some (x++y) else none
structure Row {α:Type} (F:List α→List AV) (e:α→List AV) (sz:Nat):Prop where
 nil:F []=[]
 cons:∀ x l,F (x::l)=e x++F l
 len:∀ x,(e x).length=sz
theorem MI {α:Type} (c:α→AV):Row (λl=>l.map c) (λx=>[c x]) 1:=⟨rfl,λ_ _=>rfl,λ_=>rfl⟩
theorem H6 {α:Type} {e:α→List AV} {sz:Nat} (h:∀ x,(e x).length=sz):Row (λl=>l.flatMap e) e sz:=⟨rfl,λ_ _=>rfl,h⟩
section
variable {α:Type} {F:List α→List AV} {e:α→List AV} {sz:Nat} (hF:Row F e sz)
include hF
theorem Row.app:∀ a b:List α,F (a++b)=F a++F b
 | [],b=>by simp [hF.nil]
 | x::a,b=>by rw [List.cons_append,hF.cons,hF.cons,Row.app a b,List.append_assoc]
theorem Row.length:∀ l:List α,(F l).length=l.length * sz
 | []=>by simp [hF.nil]
 | x::l=>by rw [hF.cons,List.length_append,hF.len,Row.length l,List.length_cons,Nat.succ_mul,Nat.add_comm]
theorem Row.drop:∀ (l:List α) (n:Nat),(F l).drop (n * sz)=F (l.drop n)
 | l,0=>by simp
 | [],n+1=>by simp [hF.nil]
 | x::l,n+1=>by
  rw [hF.cons,Nat.succ_mul,Nat.add_comm,List.drop_succ_cons,← Row.drop l n,← List.drop_drop,List.drop_left' (hF.len x)]
theorem Row.take:∀ (l:List α) (n:Nat),(F l).take (n * sz)=F (l.take n)
 | l,0=>by simp [hF.nil]
 | [],n+1=>by simp [hF.nil]
 | x::l,n+1=>by
  rw [hF.cons,Nat.succ_mul,Nat.add_comm,List.take_succ_cons,hF.cons,← Row.take l n,List.take_append,hF.len,List.take_of_length_le (by rw [hF.len];omega)]
  congr 2
  omega
theorem Row.get {l:List α} {i:Nat} {x:α} (h:l[i]?=some x):(F l).drop (i * sz)=e x++F (l.drop (i+1)):=by
 rw [hF.drop]
 obtain ⟨h1,h2⟩:=List.getElem?_eq_some_iff.1 h
 rw [List.drop_eq_getElem_cons h1,h2,hF.cons]
theorem yA {l:List α} {i:Int} {x:α} (h:bW l i=some x):0≤i∧i < (l.length:Int)∧l[i.toNat]?=some x:=by
 unfold bW at h
 split at h
 case isFalse=>cases h
 rename_i h0
 have:=(List.getElem?_eq_some_iff.1 h).1
 exact ⟨h0,by omega,h⟩
theorem zf {l r:List α} {a b:Int} (h:Ku l a b=some r):0≤a∧a≤b∧b≤(l.length:Int)∧r=(l.drop a.toNat).take (b.toNat - a.toNat)∧r.length=b.toNat - a.toNat:=by
 unfold Ku at h
 split at h
 case isFalse=>cases h
 rename_i h0
 obtain rfl:=Option.some.inj h
 refine ⟨h0.1,h0.2.1,h0.2.2,rfl, ?_⟩
 simp only [List.length_take,List.length_drop]
 omega
theorem alz {l:List α} {i:Int} {x:α} {k:IntKind} {ex:Bool} (h:bW l i=some x):wP (.jJ sz (.c (.list sz l.length (F l) ex)) (.c (.int k i)))=some (.elem (e x++F (l.drop (i.toNat+1)))):=by
 obtain ⟨h1,h2,h3⟩:=yA hF h
 simp only [wP,AX.ev]
 rw [if_pos ⟨h1,h2,trivial⟩,hF.get h3]
theorem WT {l:List α} {i:Int} {x:α} {k:IntKind} {b:Nat} {w:Bool} (h:bW l i=some x):wP (.jJ sz (.c (.acc b 0 sz l.length w)) (.c (.int k i)))=some (.ptr (some (b,0+i.toNat * sz))):=by
 obtain ⟨h1,h2,h3⟩:=yA hF h
 simp only [wP,AX.ev]
 rw [if_pos ⟨h1,h2,trivial⟩]
theorem FD {k:IntKind} {n:Nat} {i:Int} (h1:0≤i) (h2:i≤(n:Int)):mU (.int k i) n=some i.toNat:=by
 simp only [mU]
 rw [if_pos ⟨h1,h2⟩]
theorem aeT {l r:List α} {a b:Int} {k k':IntKind} {ex:Bool} (h:Ku l a b=some r):wP (.slice sz (.c (.list sz l.length (F l) ex)) (some (.c (.int k a))) (some (.c (.int k' b))) none)=some (.list sz r.length (F r) false):=by
 obtain ⟨h1,h2,h3,h4,h5⟩:=zf hF h
 simp only [wP,AX.ev,RB,if_true,bN]
 rw [FD hF (by omega) h3,Option.bind_some,FD hF h1 (by omega),Option.bind_some,hF.drop,hF.take,← h4,h5]
theorem aiB {l r:List α} {a:Int} {k:IntKind} {ex:Bool} (h:Ku l a l.length=some r):wP (.slice sz (.c (.list sz l.length (F l) ex)) (some (.c (.int k a))) none none)=some (.list sz r.length (F r) false):=by
 obtain ⟨h1,h2,h3,h4,h5⟩:=zf hF h
 simp only [wP,AX.ev,RB,if_true,bN,Option.bind_some]
 rw [FD hF h1 h2,Option.bind_some,hF.drop,hF.take]
 simp only [Int.toNat_natCast] at h4 h5
 rw [← h4,h5]
theorem aiC {l r:List α} {b:Int} {k:IntKind} {ex:Bool} (h:Ku l 0 b=some r):wP (.slice sz (.c (.list sz l.length (F l) ex)) none (some (.c (.int k b))) none)=some (.list sz r.length (F r) false):=by
 obtain ⟨h1,h2,h3,h4,h5⟩:=zf hF h
 simp only [wP,AX.ev,RB,if_true,bN]
 rw [FD hF h2 h3,Option.bind_some,Option.bind_some]
 simp only [Int.toNat_zero,Nat.sub_zero,List.drop_zero,Nat.zero_mul] at h4 h5 ⊢
 rw [hF.take,← h4,h5]
end
theorem WU {α:Type} (l r:List α):l.length+r.length=(l++r).length:=by simp
theorem CS:∀ s:List UInt8,jh (s.map CQ)=some s
 | []=>rfl
 | b::s=>by
  simp only [List.map_cons,CQ,jh]
  rw [show (s.map CQ)=s.map CQ from rfl,CS s]
  simp
theorem alA {k:IntKind} {x y q:Int} (h:aiA k x y=some q):Eb .rem k x y=some (.int k q):=by
 unfold aiA at h
 simp only [Eb]
 split at h
 ·cases h
 ·rename_i e
  rw [if_neg e]
  obtain rfl:=Option.some.inj h
  rfl
theorem alB {x y s:List UInt8} (h:ada x y=some s):Pb .add x y=some (.str s):=by
 unfold ada at h
 simp only [Pb]
 split at h
 ·rename_i e
  rw [if_pos e]
  obtain rfl:=Option.some.inj h
  rfl
 ·cases h
theorem aeU {s r:List UInt8} {b:Int} {k':IntKind} (h:Ku s 0 b=some r):wP (.l9 (.c (.str s)) none (some (.c (.int k' b))))=some (.str r):=by
 obtain ⟨h1,h2,h3,h4,h5⟩:=zf (MI CQ) h
 simp only [wP,aP,AX.ev,AO,bN]
 rw [FD (MI CQ) h2 h3,Option.bind_some,Option.bind_some]
 simp only [Int.toNat_zero,Nat.sub_zero,List.drop_zero] at h4 ⊢
 rw [← h4]
theorem ak1 {α:Type} {F:List α→List AV} {c:α→AV} (hF:Row F (λx=>[c x]) 1) {l:List α} {i:Int} {k:IntKind} {x:α} {n:Nat} (h:bW l i=some x) (hn:n=l.length:=by rfl):wP (.index false n 1 (.c (.agg (F l))) (.c (.int k i)))=some (c x):=by
 subst hn
 obtain ⟨h1,h2,h3⟩:=yA hF h
 have:=hF.get h3
 simp only [wP,aP,AX.ev]
 rw [if_pos ⟨h1,h2⟩]
 have e:((F l).drop (i.toNat * 1))[0]?=some (c x):=by rw [this];rfl
 rw [List.getElem?_drop] at e
 simp only [Ac]
 simpa using e
def mW {α β:Type}:α⊕β→Bool
 | .inl _=>true
 | .inr _=>false
def Bg {α β:Type} [Inhabited α]:α⊕β→α
 | .inl x=>x
 | .inr _=>default
def WV {α β:Type} [Inhabited β]:α⊕β→β
 | .inl _=>default
 | .inr x=>x
theorem amn {α β:Type} [Inhabited α] {e:α⊕β} (h:mW e=true):e=.inl (Bg e):=by cases e<;>simp_all [mW,Bg]
theorem amo {α β:Type} [Inhabited β] {e:α⊕β} (h:mW e=false):e=.inr (WV e):=by cases e<;>simp_all [mW,WV]
end Go.Proofs.YtohoggieaanllaaGreat
end
section
set_option linter.all false
set_option linter.unusedSimpArgs false
namespace Go.Proofs.YtohoggieaanllaaGreat
instance alC {α β:Type} [Inhabited α]:Inhabited (α⊕β):=⟨.inl default⟩
theorem aeV (x:Int):some (AV.int .u8 (IntKind.u8.wrap x))=some (AV.int .u8 ((L6 x).toNat:Int)):=by rw [← aly];rfl
theorem ak2 {z y:Int} (h:z=IntKind.u8.wrap y):some (AV.int .u8 z)=some (AV.int .u8 ((L6 z).toNat:Int)):=by
 have h1:0≤IntKind.u8.wrap y∧IntKind.u8.wrap y < 256:=by
  simp only [IntKind.wrap,IntKind.signed,IntKind.bits]
  constructor
  ·simp;omega
  ·simp;omega
 have e:IntKind.u8.wrap z=z:=by
  subst h
  generalize IntKind.u8.wrap y=z at *
  simp only [IntKind.wrap,IntKind.signed,IntKind.bits]
  simp
  omega
 have:=aeV z
 rwa [e] at this
theorem Vu:∀ (n:Nat) {a b l:List AV},Hq n a=some l→Hq n (a++b)=some l
 | 0,_,_,_,h=>by simpa [Hq] using h
 | n+1,[],_,_,h=>by simp [Hq] at h
 | n+1,c::a,b,l,h=>by
  simp only [Hq,List.cons_append] at h ⊢
  split at h
  ·rename_i l' hl
   rw [Vu n hl]
   exact h
  ·cases h
theorem acn:∀ {a b:List AV} (o:Nat) {v:AV},cAt a o=some v→cAt (a++b) o=some v
 | [],_,_,_,h=>by simp [cAt] at h
 | c::a,b,0,v,h=>by simpa [cAt] using h
 | c::a,b,o+1,v,h=>by
  simp only [cAt,List.cons_append] at h ⊢
  exact acn o h
theorem Yy:∀ (c:List AV) (n o:Nat),cAt c (n+o)=cAt (c.drop n) o
 | c,0,o=>by simp
 | [],n+1,o=>by
  simp only [List.drop_nil]
  cases (n+1+o)<;>cases o<;>simp [cAt]
 | x::c,n+1,o=>by
  rw [Nat.add_right_comm,List.drop_succ_cons,← Yy c n o]
  rfl
theorem Vv {a b:List AV} {agg:Bool} {o n:Nat} {v:AV} (h:xW agg o n a=some v):xW agg o n (a++b)=some v:=by
 cases agg with
 | false=>exact acn o h
 | true =>
  simp only [xW] at h ⊢
  rw [List.drop_append]
  split at h
  ·rename_i l hl
   rw [Vu n hl]
   exact h
  ·cases h
theorem FE {c:List AV} {agg:Bool} {m o n:Nat}:xW agg (m+o) n c=xW agg o n (c.drop m):=by
 cases agg with
 | false=>exact Yy c m o
 | true=>simp only [xW,List.drop_drop]
section
variable {α:Type} {F:List α→List AV} {e:α→List AV} {sz:Nat} (hF:Row F e sz)
include hF
theorem aeW {l:List α} {i:Int} {x:α} {agg:Bool} {o n:Nat} {v:AV} (h:bW l i=some x) (hv:xW agg o n (e x)=some v):xW agg (0+i.toNat * sz+o) n (F l)=some v:=by
 obtain ⟨h1,h2,h3⟩:=yA hF h
 rw [Nat.zero_add,FE,hF.get h3]
 exact Vv hv
theorem acp {a b b' c cs:List AV} {o:Nat} (h:Qg b o cs=some b'):Qg (a++(b++c)) (a.length+o) cs=some (a++(b'++c)):=by
 unfold Qg at h ⊢
 split at h
 case isFalse=>cases h
 rename_i hl
 obtain rfl:=Option.some.inj h
 rw [if_pos (by simp only [List.length_append];omega)]
 congr 1
 have e1:(a++(b++c)).take (a.length+o)=a++b.take o:=by
  rw [List.take_length_add_append,List.take_append_of_le_length (by omega)]
 have e2:(a++(b++c)).drop (a.length+o+cs.length)=b.drop (o+cs.length)++c:=by
  rw [Nat.add_assoc,List.drop_length_add_append,List.drop_append_of_le_length (by omega)]
 rw [e1,e2]
 simp
theorem Dq {l:List α} {i:Int} {x x':α} {o:Nat} {cs:List AV} (h:bW l i=some x) (hx:Qg (e x) o cs=some (e x')):Qg (F l) (0+i.toNat * sz+o) cs=some (F (l.set i.toNat x')):=by
 obtain ⟨h1,h2,h3⟩:=yA hF h
 obtain ⟨g1,g2⟩:=List.getElem?_eq_some_iff.1 h3
 have e0:F l=F (l.take i.toNat)++(e x++F (l.drop (i.toNat+1))):=by
  rw [← hF.get h3,← hF.take,List.take_append_drop]
 have e1:F (l.set i.toNat x')=F (l.take i.toNat)++(e x'++F (l.drop (i.toNat+1))):=by
  rw [← hF.cons,← hF.app,List.set_eq_take_append_cons_drop,if_pos g1]
 have e2:(F (l.take i.toNat)).length=i.toNat * sz:=by
  rw [hF.length,List.length_take]
  congr 1
  omega
 rw [e0,e1,Nat.zero_add,← e2]
 exact acp hF hx
theorem MJ {l r:List α} {a b:Int} (h:Ku l a b=some r):((F l).drop (0+a.toNat * sz)).take (r.length * sz)=F r:=by
 obtain ⟨h1,h2,h3,h4,h5⟩:=zf hF h
 rw [Nat.zero_add,hF.drop,hF.take,h5,← h4]
theorem kQ {l r:List α} {b:Int} (h:Ku l 0 b=some r):((F l).drop 0).take (r.length * sz)=F r:=by
 obtain ⟨h1,h2,h3,h4,h5⟩:=zf hF h
 simp only [Int.toNat_zero,List.drop_zero] at h4 h5 ⊢
 rw [hF.take,h5,← h4]
theorem pq {l r:List α} {b:Int} (h:Ku l 0 b=some r):(F l).take (r.length * sz)=F r:=by
 have:=kQ hF h
 rwa [List.drop_zero] at this
theorem Yz {l r:List α} {a:Int} {k:IntKind} {m:Nat} {w:Bool} (h:Ku l a l.length=some r):wP (.slice sz (.c (.acc m 0 sz l.length w)) (some (.c (.int k a))) none none)=some (.acc m (0+a.toNat * sz) sz r.length false):=by
 obtain ⟨h1,h2,h3,h4,h5⟩:=zf hF h
 simp only [wP,AX.ev,CG,if_true,bN,Option.bind_some]
 rw [FD hF h1 h2,Option.bind_some]
 simp only [Int.toNat_natCast] at h5
 rw [h5]
theorem YA {l r:List α} {b:Int} {k:IntKind} {m:Nat} {w:Bool} (h:Ku l 0 b=some r):wP (.slice sz (.c (.acc m 0 sz l.length w)) none (some (.c (.int k b))) none)=some (.acc m 0 sz r.length false):=by
 obtain ⟨h1,h2,h3,h4,h5⟩:=zf hF h
 simp only [wP,AX.ev,CG,if_true,bN]
 rw [FD hF h2 h3,Option.bind_some,Option.bind_some]
 simp only [Int.toNat_zero,Nat.sub_zero] at h5
 rw [h5,Nat.zero_mul,Nat.sub_zero]
theorem YB {x:α} {z:List AV} (hx:F [x]=z) (n:Nat):jf n z=F (List.replicate n x):=by
 induction n with
 | zero=>simp [jf,hF.nil]
 | succ n ih =>
  rw [List.replicate_succ,hF.cons,jf,ih]
  rw [hF.cons,hF.nil,List.append_nil] at hx
  rw [hx]
end
def aeX (bytes:Nat) (n:Int):Bool:=decide (0≤n∧n≤4611686018427387904∧bytes * n.toNat≤281474976710656)
theorem aeY {bytes:Nat} {n:Int} (h:aeX bytes n=true):wMk (.int .i64 n) (.int .i64 n) n.toNat bytes:=by
 obtain ⟨h1,h2,h3⟩:=of_decide_eq_true h
 have e:(n.toNat:Int)=n:=by omega
 refine ⟨by rw [e],by rw [e],by omega,h3⟩
abbrev bX (f:Fast→Heap→Qe) (np:Nat) (i:Fast×WH) (o:Ex×Fast×WH):Prop:=aao f np i.1 i.2 o.1 o.2.1 o.2.2
abbrev mQ (keep:List Nat) (p:List AV×WH):Fast×WH:=(mq keep p.1,p.2)
theorem alD {k k':IntKind} {x y q:Int} (h:aeS k x y=some q):Qb .shl (.int k x) (.int k' y)=some (.int k q):=by
 unfold aeS at h
 simp only [Qb]
 split at h
 ·cases h
 ·rename_i e
  rw [if_neg e]
  obtain rfl:=Option.some.inj h
  rfl
def GU {α:Type} (l:List α) (i:Int) (x:α):List α:=l.take i.toNat++(x::l.drop i.toNat)
def aaC (bytes:Nat) (i:Int) (n:Nat):Bool:=decide (0≤i∧i≤(n:Int))&&dB bytes (n+1)
theorem aeZ {bytes n:Nat} {i:Int} (h:aaC bytes i n=true):0≤i∧i≤(n:Int):=by
 simp only [aaC,Bool.and_eq_true,decide_eq_true_eq] at h
 exact h.1
theorem ae0 {bytes:Nat} {i:Int} {α:Type} {l:List α} {x:α} (h:aaC bytes i l.length=true):l.length+1=(GU l i x).length:=by
 have:=aeZ h
 simp only [GU,List.length_append,List.length_take,List.length_cons,List.length_drop]
 omega
theorem alE {bytes:Nat} {i:Int} {α:Type} {l:List α} {x:α} (h:aaC bytes i l.length=true):dB bytes (GU l i x).length=true:=by
 rw [← ae0 h]
 simp only [aaC,Bool.and_eq_true] at h
 exact h.2
theorem aiD {α:Type} {F:List α→List AV} {e:α→List AV} {sz:Nat} (hF:Row F e sz) {l:List α} {i:Int} {x:α} {cs:List AV} (h:cs=e x):(F l).take (i.toNat * sz)++(cs++(F l).drop (i.toNat * sz))=F (GU l i x):=by
 subst h
 unfold GU
 rw [hF.app,hF.cons,hF.take,hF.drop]
def JX {α:Type} (l:List α) (i j:Int):List α:=l.take i.toNat++l.drop j.toNat
def aiE (i j:Int) (n:Nat):Bool:=decide (0≤i∧i < j∧j≤(n:Int))
theorem ae1 {n:Nat} {i j:Int} (h:aiE i j n=true):0≤i∧i < j∧j≤(n:Int):=of_decide_eq_true h
theorem alF {i j:Int} {α:Type} {l:List α} (h:aiE i j l.length=true):l.length - (j.toNat - i.toNat)=(JX l i j).length:=by
 have:=ae1 h
 simp only [JX,List.length_append,List.length_take,List.length_drop]
 omega
theorem aiF {α:Type} {F:List α→List AV} {e:α→List AV} {sz:Nat} (hF:Row F e sz) {l:List α} {i j:Int}:(F l).take (i.toNat * sz)++(F l).drop (j.toNat * sz)=F (JX l i j):=by
 unfold JX
 rw [hF.app,hF.take,hF.drop]
theorem ae2 {α:Type} {n sz b off:Nat} {k:IntKind} {l:List α} {i:Int} {x:α} (h:bW l i=some x) (hn:l.length=n):wP (.tu n sz (.c (.ptr (some (b,off)))) (.c (.int k i)))=some (.ptr (some (b,off+i.toNat * sz))):=by
 have h1:0≤i∧i < (n:Int):=by
  unfold bW at h
  split at h
  ·have:=(List.getElem?_eq_some_iff.1 h).1
   omega
  ·cases h
 simp only [wP,AX.ev,aP]
 rw [if_pos h1]
section
variable {α:Type} {F:List α→List AV} {e:α→List AV} {sz:Nat} (hF:Row F e sz)
include hF
theorem alG {l:List α} {i:Int} {x:α} {agg:Bool} {o n p:Nat} {v:AV} {whole:List AV} (h:bW l i=some x) (hw:(whole.drop p).take (l.length * sz)=F l) (hv:xW agg o n (e x)=some v):xW agg (p+i.toNat * sz+o) n whole=some v:=by
 have h1:=aeW hF h hv
 rw [← hw] at h1
 rw [Nat.zero_add] at h1
 have e1:whole=whole.take p++((whole.drop p).take (l.length * sz)++(whole.drop p).drop (l.length * sz)):=by rw [List.take_append_drop,List.take_append_drop]
 rw [FE] at h1
 rw [show p+i.toNat * sz+o=p+(i.toNat * sz+o) from Nat.add_assoc _ _ _,FE]
 have h2:=Vv (b:=(whole.drop p).drop (l.length * sz)) h1
 obtain ⟨g1,g2,g3⟩:=yA hF h
 have hl:(whole.drop p).take (l.length * sz)=F l:=hw
 have hlen:((whole.drop p).take (l.length * sz)).length=l.length * sz:=by rw [hl,hF.length]
 have hi:i.toNat * sz≤l.length * sz:=Nat.mul_le_mul_right _ (by omega)
 rw [← List.drop_append_of_le_length (by omega),List.take_append_drop,List.drop_drop] at h2
 rw [FE,List.drop_drop]
 exact h2
theorem alH {l l':List α} {i:Int} {x x':α} {o p:Nat} {cs whole after:List AV} (h:bW l i=some x) (hl:l'=l.set i.toNat x') (hx:Qg (e x) o cs=some (e x')) (hp:p≤whole.length) (hw:(whole.drop p).take (l.length * sz)=F l) (ha:after=whole.take p++(F l'++whole.drop (p+l.length * sz))) :
  Qg whole (p+i.toNat * sz+o) cs=some after:=by
 have h1:=Dq hF h hx
 rw [Nat.zero_add] at h1
 have h2:=acp (a:=whole.take p) (c:=whole.drop (p+l.length * sz)) hF h1
 have e1:whole=whole.take p++(F l++whole.drop (p+l.length * sz)):=by
  rw [← hw,← List.drop_drop,List.take_append_drop,List.take_append_drop]
 rw [← e1,List.length_take,Nat.min_eq_left hp,← hl,← ha] at h2
 rw [Nat.add_assoc]
 exact h2
end
theorem alI {α:Type} {F:List α→List AV} {e:α→List AV} {sz:Nat} (hF:Row F e sz) {l:List α} {i:Int} {k:IntKind} {x:α} {n:Nat} (h:bW l i=some x) (hn:n=l.length:=by rfl):wP (.index true n sz (.c (.agg (F l))) (.c (.int k i)))=some (.agg (e x)):=by
 subst hn
 obtain ⟨h1,h2,h3⟩:=yA hF h
 have:=hF.get h3
 simp only [wP,aP,AX.ev]
 rw [if_pos ⟨h1,h2⟩]
 simp only [Ac,if_true]
 rw [this,List.take_left' (hF.len x)]
theorem nB {C:bJ} (f:FuncId) (b:Bt) (h:(λ_=>none:FuncId→Option Bt) f=some b):Z6 C f b:=by cases h
theorem il {α β:Type} [Inhabited α] {e:α⊕β} (h:mW e=true):e=.inl (Bg e):=amn h
theorem D_ {α β:Type} [Inhabited β] {e:α⊕β} (h:mW e=false):e=.inr (WV e):=amo h
theorem nA {β:Type} {fin:β→Ex×Fast×WH} {r r':β} (e:r=r') {f:Fast→Heap→Qe} {np:Nat} {i:Fast×WH} (h:bX f np i (fin r)):bX f np i (fin r'):=e ▸ h
def codeOf:Option bC→bO
 | some f=>f.code
 | none=>.fail
def cA:bO→bO
 | .seq a _=>a
 | c=>c
def cB:bO→bO
 | .seq _ b=>b
 | c=>c
def cT:bO→bO
 | .cond _ a _=>a
 | c=>c
def cF:bO→bO
 | .cond _ _ b=>b
 | c=>c
def cK:bO→bO
 | .block _ c=>c
 | c=>c
def cL:bO→bO
 | .loop _ c=>c
 | c=>c
def En (keep:List Nat):Lf:=.en keep (keep.map λ_=>none) [] []
def E0 {Q:Type} {v:Q} (keep:List Nat):Tc (some v):=.leaf (En keep) v
def E1 {Q:Type} {v:Q} (keep:List Nat) (ms bs:List (Option Bool)) (ts:List AV):Tc (some v):=.leaf (.en keep ms bs ts) v
def Fn {Q:Type} {v:Q} (m:Option Bool) (ts:List AV) (mc:Option Bool):Tc (some v):=.leaf (.fin m ts mc) v
def Fo:Option Bool:=some false
def Tw:Option Bool:=some true
def jI {G:WA} {T:FuncId→Option bC} {f:FuncId} {x:bC} (hG:G f=none) (hT:T f=some x) (hc:x.code.bB=true):G f=none∧T f=some x∧x.code.bB=true:=⟨hG,hT,hc⟩
section
variable {Q:Type} {f:Option Q}
section
variable {α:Type} {F:List α→List AV} {e:α→List AV} {sz:Nat} (hF:Row F e sz) {l r:List α} {i j:Int} {x:α}
def Ix (d:Nat) (h:bW l i=some x) (k:Tc f):Tc f:=.v d (.elem (e x++F (l.drop (i.toNat+1)))) (.ob (alz (k:=.i64) (ex:=false) hF h) k)
def Si (d:Nat) (h:Ku l 0 j=some r) (k:Tc f):Tc f:=.v d (.list sz r.length (F r) false) (.ob (aiC (k:=.i64) (ex:=false) hF h) k)
def Sl (d:Nat) (h:Ku l i l.length=some r) (k:Tc f):Tc f:=.v d (.list sz r.length (F r) false) (.ob (aiB (k:=.i64) (ex:=false) hF h) k)
def Sb (d:Nat) (h:Ku l i j=some r) (k:Tc f):Tc f:=.v d (.list sz r.length (F r) false) (.ob (aeT (k:=.i64) (k':=.i64) (ex:=false) hF h) k)
def Ia (d b:Nat) (h:bW l i=some x) (k:Tc f):Tc f:=.v d (.ptr (some (b,0+i.toNat * sz))) (.ob (WT (k:=.i64) (b:=b) (w:=true) hF h) k)
def Ld (d:Nat) (agg:Bool) (n o:Nat) (h:bW l i=some x) (u:AV) (hv:xW agg o n (e x)=some u) (k:Tc f):Tc f:=.v d u (.ob (aeW hF h hv) k)
def Ap (d:Nat) {b:Nat} (h:dB b (l++r).length=true) (k:Tc f):Tc f:=.ap d (l++r).length (F (l++r)) (.ob (WU l r) (.ob (Row.app hF l r).symm (.ob h k)))
end
def Ap0 {α:Type} {F:List α→List AV} {e:α→List AV} {sz:Nat} (_:Row F e sz) (d:Nat) {r:List α} {b:Nat} (h:dB b r.length=true) (k:Tc f):Tc f:=.ap d r.length (F r) (.ob (Nat.zero_add r.length) (.ob (@rfl _ (F r)) (.ob h k)))
def Cl (ms:List (Option Bool)) (m:Option Bool) (ts:List AV) {C:bJ} {g:FuncId} {args:List AV} {blks:WH} {v:AV} {out:WH} (h:Spec C g args blks v out) (r:Tc f):Tc f:=.call ms m ts v out (.ob h r)
def Cl0 {C:bJ} {g:FuncId} {args:List AV} {blks:WH} {v:AV} {out:WH} (h:Spec C g args blks v out) (r:Tc f):Tc f:=.call [] none [] v out (.ob h r)
def Cb (ts:List AV) {C:bJ} {g:FuncId} {args:List AV} {blks:WH} {v:AV} {out:WH} (h:Spec C g args blks v out) (r:Tc f):Tc f:=.cb [] ts v (.ob h r)
def iF {C:bJ} {g:FuncId} {args:List AV} {blks:WH} {v:AV} {out:WH} (h:Spec C g args blks v out) (r:Tc f):Tc f:=.cb [] [] v (.ob h r)
def Lp (ms bs:List (Option Bool)) (ts:List AV) {run:Fast→Heap→Qe} {np:Nat} {i:Fast×WH} {o:Ex×Fast×WH} (h:bX run np i o) (r:Tc f):Tc f:=.lp ms bs ts o.1 o.2.1 o.2.2 (.ob h r)
def Jn (keep:List Nat) (ms bs:List (Option Bool)) (ts:List AV) {run:Fast→Heap→Qe} {np:Nat} {i:Fast×WH} {o:Ex×Fast×WH} (h:bX run np i o) (r:Tc f):Tc f:=.jn keep ms bs ts o.1 o.2.1 o.2.2 (.ob h r)
end
end Go.Proofs.YtohoggieaanllaaGreat
end
section
set_option linter.all false
set_option linter.unusedSimpArgs false
namespace Go.Proofs.YtohoggieaanllaaGreat
structure Rt (s:Sh) {α:Type} (e:α→List AV) (bk:α→Nat) (ok:α→Prop):Prop where
 rd:∀ d,D.is s d→∃ x,encS s d=e x∧bk x≤D.bulk d∧ok x
 sz:∀ x,(e x).length=yx s
abbrev Rb (x:Int):Prop:=-9223372036854775808≤x∧x≤9223372036854775807
abbrev eI (x:Int):List AV:=[.int .i64 x]
abbrev eB (x:UInt8):List AV:=[CQ x]
abbrev eS (x:List UInt8):List AV:=[.str x]
abbrev eO (x:Bool):List AV:=[.bool x]
abbrev bk1 {α:Type} (_:α):Nat:=1
abbrev bkS (x:List UInt8):Nat:=x.length+1
abbrev okT {α:Type} (_:α):Prop:=True
def bkL {α:Type} (bk:α→Nat) (l:List α):Nat:=(l.map bk).sum+1
def okL {α:Type} (ok:α→Prop) (l:List α):Prop:=∀ x∈l,ok x
theorem Bh:Rt (.int .i64) eI bk1 Rb:=⟨λd h=>by
 obtain ⟨n,rfl,h1,h2⟩:=h
 exact ⟨n,rfl,by simp [D.bulk],h1,h2⟩,λ_=>rfl⟩
theorem anE:Rt .str eS bkS okT:=⟨λd h=>by
 obtain ⟨s,rfl⟩:=h
 exact ⟨s,rfl,by simp [D.bulk],trivial⟩,λ_=>rfl⟩
theorem amq:Rt .bool eO bk1 okT:=⟨λd h=>by
 obtain ⟨b,rfl⟩:=h
 exact ⟨b,rfl,by simp [D.bulk],trivial⟩,λ_=>rfl⟩
theorem alJ {s:Sh} {α:Type} {e:α→List AV} {bk:α→Nat} {ok:α→Prop} {F:List α→List AV} {n:Nat} (r:Rt s e bk ok) (hF:Row F e n) (hn:yx s=n) :
  Rt (.list s) (λl=>[.list n l.length (F l) false]) (bkL bk) (okL ok):=⟨λd h=>by
 obtain ⟨l,rfl,h⟩:=h
 have key:∀ l:List D,(∀ d∈l,D.is s d)→∃ x:List α,x.length=l.length∧WR s l=x.flatMap e∧(x.map bk).sum≤D.xU l∧∀ y∈x,ok y:=by
  intro l
  induction l with
  | nil=>intro _;exact ⟨[],rfl,rfl,by simp [D.xU],by simp⟩
  | cons d r' ih =>
   intro h
   obtain ⟨y,h1,h2,h3⟩:=r.rd d (h d (by simp))
   obtain ⟨x,q0,q1,q2,q3⟩:=ih λz hz=>h z (by simp [hz])
   refine ⟨y::x,by simp [q0],by simp only [WR,h1,q1,List.flatMap_cons],by simp only [List.map_cons,List.sum_cons,D.xU];omega, ?_⟩
   intro z hz
   rcases List.mem_cons.1 hz with rfl | hz
   ·exact h3
   ·exact q3 z hz
 obtain ⟨x,q0,q1,q2,q3⟩:=key l h
 refine ⟨x, ?_,by simp only [bkL,D.bulk];omega,q3⟩
 have hr:F x=x.flatMap e:=by
  clear q0 q1 q2 q3
  induction x with
  | nil=>rw [hF.nil];rfl
  | cons y x ih=>rw [hF.cons,ih,List.flatMap_cons]
 simp only [encS,q0,q1,hn,hr],λ_=>rfl⟩
theorem ae3 {ss:List Sh} {α:Type} {e:α→List AV} {bk:α→Nat} {ok:α→Prop} (sz:∀ x,(e x).length=Al ss)
  (h:∀ l,D.are ss l→∃ x,Gf ss l=e x∧bk x≤D.xU l+1∧ok x):Rt (.agg ss) e bk ok:=⟨λd h0=>by
 obtain ⟨l,rfl,hl⟩:=h0
 obtain ⟨x,h1,h2,h3⟩:=h l hl
 exact ⟨x,h1,h2,h3⟩,sz⟩
theorem dW {s:Sh} {ss:List Sh} {α:Type} {e:α→List AV} {bk:α→Nat} {ok:α→Prop} (r:Rt s e bk ok) {ds:List D} (h:D.are (s::ss) ds) :
  ∃ d q,ds=d::q∧D.are ss q∧∃ x,encS s d=e x∧bk x≤D.bulk d∧ok x:=by
 obtain ⟨d,q,h1,h2,h3⟩:=aew h
 exact ⟨d,q,h1,h3,r.rd d h2⟩
end Go.Proofs.YtohoggieaanllaaGreat
end
