import Derived.Test.YtohoggieaanllaaGreatJ4
import Derived.Test.YtohoggieaanllaaGreatJ2
import Derived.Test.YtohoggieaanllaaGreatJ3
section
set_option linter.all false
set_option linter.unusedSimpArgs false
namespace Go.Proofs.YtohoggieaanllaaGreat
theorem ahX {a b:Nat} {l:List Nat}:vS (a::l) b=false↔a≠b∧vS l b=false:=by
 simp only [vS]
 cases h:Nat.beq a b with
 | true=>simp [Nat.eq_of_beq_eq_true h]
 | false =>
  have:a≠b:=λe=>by subst e;simp at h
  simp [this]
theorem z8 {C:bP} {B:FuncId→Option Bt} (hB:∀ f b,B f=some b→BOk C f b) {R:Nat→Prop} {n base eU nk:Nat} {uD:VI} {M0:Heap}:∀ (ops:List fO) (l lA:Fast) (H:WH) (M:Heap) (ι:VI) (tr:TS) (hs:List (List Nat×WH)) (bt:List (Nat×Nat)) (al:List Nat) (jG:List Heap) (k:Fast→WH→TS→Prop),
  DI R base eU nk uD M0 ι H M l lA bt al hs jG→(ops.all λd=>d.o.op.bB)=true→Jw C B n base nk ops l H tr hs bt al k →
  ∃ yP M' bL l' H' lG t,Bu C n eU nk ops lA M jG=some (yP,M')∧VS R bL H' M'∧Stp base t ι H M bL H' M'∧yS R bL M' l' yP∧k l' H' lG
 | [],l,lA,H,M,ι,tr,hs,bt,al,jG,k,g,hc,h=>⟨lA,M,ι,l,H,tr,[],rfl,g.vs,.refl _ _ _ _ _ (by have:=g.len;omega),g.env,h⟩
 | d::r,l,lA,H,M,ι,tr,hs,bt,al,jG,k,g,hc,h=>by
  simp only [List.all_cons,Bool.and_eq_true] at hc
  simp only [Jw] at h
  obtain ⟨l00,azj,amZ,h⟩:=zZ h
  have g:=g.like amZ
  obtain ⟨l0,tr1,hl,h⟩:=ahU h
  have g1:=g.like hl
  have hbl:base≤H.length:=by have:=g.len;omega
  rcases h with ⟨hw,h⟩ | ⟨hw,h⟩
  ·obtain ⟨l1,azk,hl1,h⟩:=zZ h
   have g1:=g1.like hl1
   have he1:=g1.env
   simp only [Bu,Hq g.env hw]
   cases ho:d.o.op with
   | p op =>
    rw [ho] at h hc
    simp only at h
    obtain ⟨v,u,tr2,h1,h2,h3⟩:=adP (R:=R) h
    obtain ⟨a,h4,h5⟩:=amO he1 hc.1 h1
    have cut:∀ (X:Heap) (O:Nat→Prop) (κ:VI) (q:Nat),q < hs.length+1→(∀ t,rC bt t≤q→VL X O κ (look l1 t) (look lA t))→afv bt (hs.length+1) op≤q→VL X O κ u a:=λX O κ q hq he hb=>by
     have hce:∀ t,VL X O κ (PV bt q (look l1) t) (look lA t):=λt=>by
      unfold PV
      split
      ·rename_i hb;exact he t hb
      ·simp [VL]
     obtain ⟨a',e1,e2⟩:=amO hce hc.1 (by rw [akT hq hb];exact h1)
     rw [h4] at e1
     obtain rfl:=Option.some.inj e1
     exact h3 _ _ _ _ e2
    obtain ⟨yP,M',bL,l',H',lG,t,q1,q2⟩:=z8 hB r _ _ H M ι tr2 hs _ al jG k (g1.put n d.o.dst (afv bt (hs.length+1) op) (h3 _ _ _ _ h5) (λhb=>cut M0 _ uD 0 (by omega) (λt ht=>g1.start t (by omega)) (by omega)) (λq Mk zP hq w hb=>cut Mk _ zP (q+1) (by omega) w.env hb)) hc.2 h2
    refine ⟨yP,M',bL,l',H',lG,t, ?_,q2⟩
    simp only [h4,force_eq]
    exact q1
   | l op =>
    rw [ho] at h hc
    simp only at h
    obtain ⟨v,u,tr2,h1,h2,h3⟩:=adP (R:=R) h
    have h2:∃ tr2 b,(∃ a,aL (op.sub (look lA)) [] (M.hide eU nk)=some a∧DI R base eU nk uD M0 ι H M (oh n d.o.dst u l1) (oh n d.o.dst a lA) (oO n d.o.dst b bt) al hs jG∧∀ k Mk,d.lo≤k→jG[k]?=some Mk→∃ w,aL (op.sub (look lA)) [] (Mk.hide eU nk)=some w∧AV.same w a=true)∧Jw C B n base nk r (oh n d.o.dst u l1) H tr2 hs (oO n d.o.dst b bt) al k:=by
     split at h2
     ·rename_i hok
      obtain ⟨a,p1,p2,p3⟩:=arh g1 hc.1 h1 h3 hok
      split at h2
      ·split at h2
       case h_2=>exact h2.elim
       rename_i hb hbt
       obtain ⟨tr3,m1,m2⟩:=Rl h2
       exact ⟨tr3,d.lo+1,⟨a,p1,g1.axL n d.o.dst (d.lo+1) p2 (λe=>by omega) (ahW g1 hc.1 h1 h3 hok hb hbt p1 m1),p3⟩,m2⟩
      ·exact ⟨_,hs.length+1,⟨a,p1,g1.now n d.o.dst p2,p3⟩,h2⟩
     ·split at h2
      case h_2=>exact h2.elim
      rename_i hok
      obtain ⟨tr3,p1,p2⟩:=Rl h2
      obtain ⟨a,m1,m2,m3⟩:=ahV g1 hc.1 h1 h3 hok p1
      exact ⟨tr3,hs.length+1,⟨a,m1,g1.now n d.o.dst m2,m3⟩,p2⟩
    obtain ⟨tr2,bb,⟨a,q1,q2,q3⟩,h2⟩:=h2
    obtain ⟨yP,M',bL,l',H',lG,t,q4,q5⟩:=z8 hB r _ _ H M ι tr2 hs _ al jG k q2 hc.2 h2
    refine ⟨yP,M',bL,l',H',lG,t, ?_,q5⟩
    simp only [q1]
    rw [if_pos]
    ·simp only [force_eq]
     exact q4
    ·rw [List.all_eq_true]
     intro Mk hMk
     obtain ⟨i,hi⟩:=List.mem_iff_getElem?.1 hMk
     rw [List.getElem?_drop] at hi
     obtain ⟨w,w1,w2⟩:=q3 (d.lo+i) Mk (by omega) hi
     rw [w1]
     exact w2
   | k op =>
    rw [ho] at h hc
    simp only at h
    split at h
    case h_2=>exact h.elim
    rename_i hix hal
    have hix:d.ix < nk:=by simpa [Nat.blt_eq] using hix
    obtain ⟨c,sl,mk,c',sl',mkA,tr2,h1,h2,h3,hss,h4⟩:=auZ g1.vs he1 hc.1 h
    obtain ⟨f1,f2,f3⟩:=g1.free d.ix hix hal
    have hnew:=g1.new d.ix hix
    obtain ⟨s1,k1,k2,k3⟩:=g1.vs.fill hnew f1 f2 f3 (BL.of (sl':=sl') h3 hss)
    have hne:∀ i,i < base→i≠base+d.ix:=λi hi=>by omega
    have gp:∀ i,i≠base+d.ix→dJ (iG H (base+d.ix) (some (.cells c false sl))) i=dJ H i:=λi hi=>by
     rw [sG,if_neg (λe=>hi e.1)]
    have ac:∀ i,i≠base+d.ix→act (ι.fill (base+d.ix) (c.length,c'.length)) (iG H (base+d.ix) (some (.cells c false sl))) i→act ι H i:=λi hi ha=>ha.imp (λ⟨x,hx⟩=>⟨x,by rw [gp i hi] at hx;exact hx⟩) id
    have stp:Stp base [] ι H M (ι.fill (base+d.ix) (c.length,c'.length)) (iG H (base+d.ix) (some (.cells c false sl))) (M.put (eU+d.ix) (some (.cells c' false sl'))) :=
     ⟨k1,k2 _,λ_ _ h=>h,λ_ _=>rfl,λi hi=>by simp only [VI.fill,bZ _ _ (hne i hi)],λ_ _ _=>rfl,λi hi ⟨x,hx⟩=>⟨x,by rw [gp i (hne i hi)] at hx;exact hx⟩,λi j hi ha hj _=>k3 i j (hne i hi) (ac i (hne i hi) ha) hj,by rw [fu];exact hbl⟩
    have hval:=h4 (M.put (eU+d.ix) (some (.cells c' false sl'))) (OR R (ι.fill (base+d.ix) (c.length,c'.length))) (ι.fill (base+d.ix) (c.length,c'.length)) (base+d.ix) (eU+d.ix) hnew (by simp [VI.fill,setAt])
    have g2:DI R base eU nk uD M0 (ι.fill (base+d.ix) (c.length,c'.length)) (iG H (base+d.ix) (some (.cells c false sl))) (M.put (eU+d.ix) (some (.cells c' false sl'))) l1 lA bt (d.ix::al) hs jG :=
     ⟨s1,by rw [fu];exact g1.len,λt=>VL.mono (k1.or R) _ _ _ _ (k2 _) (he1 t),g1.new,λi hi ha=>by
      obtain ⟨a1,a2⟩:=ahX.1 ha
      obtain ⟨b1,b2,b3⟩:=g1.free i hi a2
      have hn:base+i≠base+d.ix:=by omega
      exact ⟨b1,by simp only [VI.fill,bZ _ _ hn];exact b2,by rw [gp _ hn];exact b3⟩,g1.start,g1.low,g1.le0.trans (k2 _),g1.to0,g1.m0,g1.hlen,λq Mk hq=>by
      obtain ⟨zP,w,w2⟩:=g1.hist q Mk hq
      exact ⟨zP,⟨w.keep.trans k1,w.env,w.new,w.gone,λi j hi ha hj ht=>by
       have ha':=ac i (hne i hi) ha
       exact (k3 i j (hne i hi) ha' (by rw [g1.to0 i hi];exact hj)).trans (w.same i j hi ha' hj ht)⟩,w2⟩⟩
    obtain ⟨yP,M',bL,l',H',lG,t,q1,q2,q3,q4⟩:=z8 hB r _ _ _ _ _ tr2 hs _ (d.ix::al) jG k (g2.now n d.o.dst hval) hc.2 h1
    refine ⟨yP,M',bL,l',H',lG,t, ?_,q2, ?_,q4⟩
    ·simp only [h2]
     exact q1
    ·have:=stp.trans q3 (Nat.le_refl _)
     simpa using this
   | n op =>
    rw [ho] at h hc
    simp only at h
    obtain ⟨a,M1,nO,v,H1,t1,tr2,h1,h2,h3,h4,h5⟩:=au0 hB g1.vs he1 hc.1 h
    have g2:=(g1.loud h2 h3).now n d.o.dst h4
    rw [List.length_append,List.length_singleton] at g2
    obtain ⟨yP,M',bL,l',H',lG,t,q1,q2,q3,q4⟩:=z8 hB r _ _ _ _ _ tr2 _ _ al _ k g2 hc.2 h5
    refine ⟨yP,M',bL,l',H',lG,t1++t, ?_,q2,(h3.weak hbl).trans q3 (Nat.le_refl _),q4⟩
    simp only [h1,force_eq]
    exact q1
  ·simp only [Bu,Hq g.env hw]
   cases ho:d.o.op with
   | n op =>
    rw [ho] at h
    simp only at h
    have g2:=(g1.loud (t:=[]) g1.vs (.refl _ _ _ _ _ (Nat.le_refl _))).now n d.o.dst (v:=.tuple []) (a:=.tuple []) VL.unit
    rw [List.length_append,List.length_singleton] at g2
    exact z8 hB r _ _ H M ι tr1 _ _ al _ k g2 hc.2 h
   | p op=>rw [ho] at h;exact z8 hB r _ _ H M ι tr1 _ _ al _ k (g1.now n d.o.dst VL.unit) hc.2 h
   | l op=>rw [ho] at h;exact z8 hB r _ _ H M ι tr1 _ _ al _ k (g1.now n d.o.dst VL.unit) hc.2 h
   | k op=>rw [ho] at h;exact z8 hB r _ _ H M ι tr1 _ _ al _ k (g1.now n d.o.dst VL.unit) hc.2 h
theorem am0 {C:bP} {B:FuncId→Option Bt} (hB:∀ f b,B f=some b→BOk C f b) {R:Nat→Prop} {n nk:Nat} {ops:List fO} {l lA:Fast} {H:WH} {M:Heap} {ι:VI} {tr:TS} {k:Fast→WH→TS→Prop} (s:VS R ι H M) (he:yS R ι M l lA) (hc:(ops.all λd=>d.o.op.bB)=true)
  (h:Jw C B n H.length nk ops l (H++holes nk) tr [] [] [] k):∃ yP M' bL l' H' lG t,Bu C n M.next nk ops lA { M with next:=M.next+nk } []=some (yP,M')∧VS R bL H' M'∧Stp H.length t ι H M bL H' M'∧yS R bL M' l' yP∧k l' H' lG:=by
 obtain ⟨s1,k1⟩:=s.room nk
 have inr:∀ i,i < nk→H.length≤H.length+i∧H.length+i < H.length+nk:=λi hi=>by omega
 have g:DI R H.length M.next nk ι M (ι.room H.length M.next nk) (H++holes nk) { M with next:=M.next+nk } l lA [] [] [] [] :=
  ⟨s1,by simp [PD],he.step s k1,λi hi=>by simp only [VI.room,if_pos (inr i hi)];congr 1;omega,λi hi _=>⟨by simp only [VI.room,if_pos (inr i hi)],by simp only [VI.room,if_pos (inr i hi)],by rw [SQ,if_neg (by omega),Vb]⟩,
   λt _=>he t,λi j h=>s.lt i j h,k1.le,k1.toq,rfl,rfl,λk Mk h=>by simp at h⟩
 obtain ⟨yP,M',bL,l',H',lG,t,q1,q2,q3,q4⟩:=z8 hB ops l lA _ _ _ tr [] [] [] [] k g hc h
 refine ⟨yP,M',bL,l',H',lG,[]++t,q1,q2,k1.trans q3 (Nat.le_refl _),q4⟩
theorem Yw {M:Heap} {O:Nat→Prop} {κ:VI} {lA:Fast}:∀ (keep:List Nat) (vs:List AV),bV M O κ vs (keep.map (look lA))→∀ t,VL M O κ (look (kQ keep vs) t) (look lA t)∧VL M O κ (look (kQ keep vs) t) (look (Hf lA keep) t)
 | [],vs,h,t=>by
  cases vs with
  | nil=>simp [kQ,look,VL]
  | cons _ _=>simp [bV] at h
 | u::keep,vs,h,t=>by
  cases vs with
  | nil=>simp [bV] at h
  | cons v vs =>
   simp only [List.map_cons,bV] at h
   have ih:=Yw keep vs h.2 t
   simp only [kQ,Hf,yT]
   split
   ·rename_i e
    subst e
    exact ⟨h.1,h.1⟩
   ·exact ih
theorem yS.map {R:Nat→Prop} {ι:VI} {M:Heap} {l lA:Fast} (he:yS R ι M l lA):∀ keep:List Nat,bV M (OR R ι) ι (keep.map (look l)) (keep.map (look lA))
 | []=>by simp [bV]
 | t::r=>by simp only [List.map_cons,bV];exact ⟨he t,yS.map he r⟩
def LK (R:Nat→Prop) (np:Nat) (ι:VI) (H:WH) (M:Heap) (x:Xq) (k:Ex→Fast→WH→TS→Prop):Prop :=
 ∃ ex yP M' bL l' H' lG,x=some (ex,yP,M')∧VS R bL H' M'∧Stp np (List.range np) ι H M bL H' M'∧yS R bL M' l' yP∧k ex l' H' lG
theorem rF {n:Nat} {t:List Nat} {ι nO:VI} {H H1:WH} {M M1:Heap} (h:Stp n t ι H M nO H1 M1):Stp n (List.range n) ι H M nO H1 M1:=h.more λi hi _=>List.mem_range.2 hi
theorem LK.after {R:Nat→Prop} {np:Nat} {ι nO:VI} {H H1:WH} {M M1:Heap} {x:Xq} {k:Ex→Fast→WH→TS→Prop} {t:List Nat} (h:Stp np t ι H M nO H1 M1) (g:LK R np nO H1 M1 x k):LK R np ι H M x k:=by
 obtain ⟨ex,yP,M',bL,l',H',lG,q1,q2,q3,q4⟩:=g
 exact ⟨ex,yP,M',bL,l',H',lG,q1,q2,rF (h.trans q3 (Nat.le_refl _)),q4⟩
theorem am1 (H:WH) (b:Nat):∀ i x,dJ (iG H b none) i=some x→dJ H i=some x:=λi x h=>by
 rw [sG] at h
 split at h
 ·cases h
 ·exact h
theorem aj2 {R:Nat→Prop} {M:Heap} {ι:VI}:∀ (bs:List Nat) {H:WH} (n:Nat),n≤H.length→VS R ι H M→VS R ι (afs H bs) M∧Stp n [] ι H M ι (afs H bs) M∧(afs H bs).length=H.length
 | [],H,n,hn,s=>⟨s,.refl _ _ _ _ _ hn,rfl⟩
 | b::r,H,n,hn,s=>by
  have g:=am1 H b
  have ac:∀ i,act ι (iG H b none) i→act ι H i:=λi h=>h.imp (λ⟨x,hx⟩=>⟨x,g i x hx⟩) id
  have hl:(iG H b none).length=H.length:=fu _ _ _
  have s1:VS R ι (iG H b none) M:=⟨λi j h=>by rw [hl];exact s.lt i j h,λi i' j h h'=>s.inj i i' j (ac i h) (ac i' h'),λi x h=>s.blk i x (g i x h),λi h=>by rw [hl];exact s.CP i h,λi h c sl e=>s.Cq i h c sl (g i _ e),s.okM,λj h=>⟨(s.res j h).1,λi ha=>(s.res j h).2 i (ac i ha)⟩⟩
  have k1:Stp n [] ι H M ι (iG H b none) M:=⟨⟨Nat.le_refl _,λ_ _ h=>⟨rfl,h⟩⟩,.refl _ _,λ_ _ h=>h,λ_ _=>rfl,λ_ _=>rfl,λ_ _ _=>rfl,λi _ ⟨x,hx⟩=>⟨x,g i x hx⟩,λ_ _ _ _ _ _=>rfl,by rw [hl];exact hn⟩
  obtain ⟨s2,k2,h2⟩:=aj2 r (H:=iG H b none) n (by rw [hl];exact hn) s1
  refine ⟨s2, ?_,h2.trans hl⟩
  exact k1.trans k2 (Nat.le_refl _)
theorem aj3 {R:Nat→Prop} {M:Heap} {ι:VI} {H:WH} (tr:TS) {n:Nat} (hn:n≤H.length) (s:VS R ι H M):VS R ι (wkl tr H) M∧Stp n [] ι H M ι (wkl tr H) M∧(wkl tr H).length=H.length:=by
 unfold wkl
 split
 ·exact aj2 _ n hn s
 ·exact ⟨s,.refl _ _ _ _ _ hn,rfl⟩
set_option maxHeartbeats 2000000 in
theorem xS {C:bP} {B:FuncId→Option Bt} (hB:∀ f b,B f=some b→BOk C f b) {K n np:Nat} {R:Nat→Prop}:∀ (code:bG) (l lA:Fast) (H:WH) (M:Heap) (ι:VI) (tr:TS) (k:Ex→Fast→WH→TS→Prop),code.bB=true→VS R ι H M→np≤H.length→yS R ι M l lA →
  El C B K n np code l H tr k→LK R np ι H M (aU C K n code lA M) k
 | .skip,l,lA,H,M,ι,tr,k,_,s,hn,he,h=>⟨.normal,lA,M,ι,l,H,tr,rfl,s,.refl _ _ _ _ _ hn,he,h⟩
 | .reg ops,l,lA,H,M,ι,tr,k,hc,s,hn,he,h=>by
  obtain ⟨yP,M',bL,l',H',lG,t,q1,q2,q3,q4,q5⟩:=Pz hB ops l lA H M ι tr _ s he hc h
  exact ⟨.normal,yP,M',bL,l',H',lG,by simp only [aU,q1,Option.map_some],q2,rF (q3.weak hn),q4,q5⟩
 | .Xn nk ops,l,lA,H,M,ι,tr,k,hc,s,hn,he,h=>by
  obtain ⟨yP,M',bL,l',H',lG,t,q1,q2,q3,q4,q5⟩:=am0 hB s he hc h
  exact ⟨.normal,yP,M',bL,l',H',lG,by simp only [aU,q1,Option.map_some],q2,rF (q3.weak hn),q4,q5⟩
 | .seq a b,l,lA,H,M,ι,tr,k,hc,s,hn,he,h=>by
  simp only [bG.bB,Bool.and_eq_true] at hc
  simp only [El] at h
  obtain ⟨l0,tr,amZ,h⟩:=zZ h
  have he:yS R ι M l0 lA:=λt=>by rw [amZ t];exact he t
  split at h
  ·split at h
   case h_2=>exact h.elim
   rename_i keep ms bs ts ex outs out r0 _
   obtain ⟨s0,k0,hl0⟩:=aj3 tr hn s
   obtain ⟨vs,blks,nO,hk,s1,k1,hv⟩:=U_ s0 (by rw [hl0];exact hn) (he.map keep) h
   obtain ⟨r,hrun,hk⟩:=nP hk
   obtain ⟨yP,M',bL,q1,q2,q3,q4⟩:=hrun R nO M lA s1 (λt=>(Yw keep vs hv t).1)
   refine LK.after (rF k0) (LK.after k1 (LK.after q3 ?_))
   simp only [aU,q1]
   cases ex with
   | normal=>exact xS hB b outs yP out M' bL r k hc.2 q2 q3.next q4 hk
   | exit i=>exact ⟨_,yP,M',bL,outs,out,r,rfl,q2,.refl _ _ _ _ _ q3.next,q4,hk⟩
   | ret=>exact ⟨_,yP,M',bL,outs,out,r,rfl,q2,.refl _ _ _ _ _ q3.next,q4,hk⟩
  ·obtain ⟨ex,yP,M',bL,l',H',lG,q1,q2,q3,q4,q5⟩:=xS hB a l0 lA H M ι _ _ hc.1 s hn he h
   refine LK.after q3 ?_
   simp only [aU,q1]
   cases ex with
   | normal=>exact xS hB b l' yP H' M' bL lG k hc.2 q2 q3.next q4 q5
   | exit i=>exact ⟨_,yP,M',bL,l',H',lG,rfl,q2,.refl _ _ _ _ _ q3.next,q4,q5⟩
   | ret=>exact ⟨_,yP,M',bL,l',H',lG,rfl,q2,.refl _ _ _ _ _ q3.next,q4,q5⟩
 | .cond c a b,l,lA,H,M,ι,tr,k,hc,s,hn,he,h=>by
  simp only [bG.bB,Bool.and_eq_true] at hc
  simp only [El] at h
  obtain ⟨l0,tr0,hl0,h⟩:=zZ h
  have he:yS R ι M l0 lA:=λt=>by rw [hl0 t];exact he t
  obtain ⟨l',lG,hl,h⟩:=ahU h
  have he':yS R ι M l' lA:=λt=>by rw [hl t];exact he t
  cases c with
  | c v =>
   simp only [jh] at h
   have h:=(h.resolve_right (λh=>by cases h.1)).2
   simp only [aU,AX.sub,AX.ev]
   cases v with
   | bool w =>
    cases w with
    | true=>exact xS hB a l' lA H M ι lG k hc.1.2 s hn he' h
    | false=>exact xS hB b l' lA H M ι lG k hc.2 s hn he' h
   | _=>exact h.elim
  | t t =>
   simp only [aU,AX.sub,AX.ev]
   have ht:=he t
   generalize l0=l at *
   simp only [jh] at h
   rcases h with ⟨h1,h2⟩ | ⟨h1,h2⟩
   ·generalize look l t=X at *
    cases X<;>simp only at h1<;>first | (cases h1;done) | skip
    rename_i w
    simp only [Option.some.injEq,beq_iff_eq] at h1
    subst h1
    rw [ht.eq rfl]
    exact xS hB a l' lA H M ι lG k hc.1.2 s hn he' h2
   ·rw [hl t] at h2
    generalize look l t=X at *
    cases X<;>simp only at h1 h2<;>first | (cases h1;done) | exact h2.elim | skip
    rename_i w
    simp only [Option.some.injEq,beq_eq_false_iff_ne] at h1
    have:w=false:=by cases w<;>simp_all
    subst this
    rw [ht.eq rfl]
    exact xS hB b l' lA H M ι lG k hc.2 s hn he' h2
 | .block id c,l,lA,H,M,ι,tr,k,hc,s,hn,he,h=>by
  simp only [bG.bB] at hc
  simp only [El] at h
  obtain ⟨ex,yP,M',bL,l',H',lG,q1,q2,q3,q4,q5⟩:=xS hB c l lA H M ι tr _ hc s hn he h
  refine LK.after q3 ?_
  simp only [aU,q1]
  have re:=q3.next
  cases ex with
  | normal=>exact ⟨_,yP,M',bL,l',H',lG,rfl,q2,.refl _ _ _ _ _ re,q4,q5⟩
  | ret=>exact ⟨_,yP,M',bL,l',H',lG,rfl,q2,.refl _ _ _ _ _ re,q4,q5⟩
  | exit i =>
   cases e:Nat.beq i id with
   | true =>
    have q5:k .normal l' H' lG:=by simpa only [e] using q5
    simp only
    rw [if_pos (Nat.eq_of_beq_eq_true e)]
    exact ⟨_,yP,M',bL,l',H',lG,rfl,q2,.refl _ _ _ _ _ re,q4,q5⟩
   | false =>
    have q5:k (.exit i) l' H' lG:=by simpa only [e] using q5
    simp only
    rw [if_neg (λe'=>by subst e';simp at e)]
    exact ⟨_,yP,M',bL,l',H',lG,rfl,q2,.refl _ _ _ _ _ re,q4,q5⟩
 | .loop keep c,l,lA,H,M,ι,tr,k,hc,s,hn,he,h=>by
  simp only [El] at h
  obtain ⟨l0,tr,amZ,h⟩:=zZ h
  have he:yS R ι M l0 lA:=λt=>by rw [amZ t];exact he t
  split at h
  case h_2=>exact h.elim
  rename_i ms bs ts ex outs out r0 _
  obtain ⟨s0,k0,hl0⟩:=aj3 tr hn s
  obtain ⟨vs,blks,nO,hk,s1,k1,hv⟩:=U_ s0 (by rw [hl0];exact hn) (he.map keep) h
  obtain ⟨r,hrun,hk⟩:=nP hk
  obtain ⟨yP,M',bL,q1,q2,q3,q4⟩:=hrun R nO M lA s1 (λt=>(Yw keep vs hv t).1)
  refine LK.after (rF k0) (LK.after k1 (LK.after q3 ?_))
  exact ⟨ex,yP,M',bL,outs,out,r,by simp only [aU];exact q1,q2,.refl _ _ _ _ _ q3.next,q4,hk⟩
 | .exit i,l,lA,H,M,ι,tr,k,_,s,hn,he,h=>⟨.exit i,lA,M,ι,l,H,tr,rfl,s,.refl _ _ _ _ _ hn,he,h⟩
 | .ret,l,lA,H,M,ι,tr,k,_,s,hn,he,h=>⟨.ret,lA,M,ι,l,H,tr,rfl,s,.refl _ _ _ _ _ hn,he,h⟩
 | .fail,l,lA,H,M,ι,tr,k,_,s,hn,he,h=>by simp [El] at h
theorem VL.akU {M:Heap} {O:Nat→Prop} {κ:VI} {v a:AV} (h:VL M O κ v a) (hv:v≠.undef):a≠.undef:=by
 cases v with
 | undef=>exact absurd rfl hv
 | ptr p=>cases p<;>simp only [VL] at h<;>first | (subst h;simp) | (obtain ⟨_,_,rfl⟩:=h;simp)
 | slice p=>cases p<;>simp only [VL] at h;obtain ⟨_,_,rfl⟩:=h;simp
 | map p=>cases p<;>simp only [VL] at h<;>first | (subst h;simp) | (obtain ⟨_,_,rfl⟩:=h;simp)
 | func f cs=>simp only [VL] at h;obtain ⟨_,rfl,_⟩:=h;simp
 | agg cs=>simp only [VL] at h;obtain ⟨_,rfl,_⟩:=h;simp
 | tuple cs=>simp only [VL] at h;obtain ⟨_,rfl,_⟩:=h;simp
 | list=>simp only [VL] at h;rcases h with ⟨_,_,_,rfl⟩ | ⟨_,_,_,_,rfl,_⟩<;>simp
 | elem=>simp only [VL] at h;obtain ⟨_,_,_,_,_,rfl,_⟩:=h;simp
 | acc=>simp only [VL] at h;obtain ⟨_,_,_,_,rfl,_⟩:=h;simp
 | _=>simp only [VL] at h;subst h;simp
theorem ari {R:Nat→Prop} {ι:VI} {H:WH} {M:Heap} (s:VS R ι H M) {l lA:Fast} (he:yS R ι M l lA) {r:Jq} {v:AV} (h:aq4 r l H=some v):∃ a,PU r lA M=some a∧VL M (OR R ι) ι v a:=by
 cases r with
 | tmp t =>
  have ht:=he t
  simp only [aq4,PU] at h ⊢
  split at h
  ·cases h
  ·rename_i hne
   obtain rfl:=Option.some.inj h
   have:=ht.akU hne
   generalize look lA t=Y at *
   cases Y<;>simp_all
 | cell t agg n =>
  simp only [aq4] at h
  have:=acw s he (o:=.load agg n (.t t)) rfl (v:=v) (by simpa only [BJ.sub,AX.sub] using h)
  simpa only [BJ.sub,AX.sub,aL,AX.ev,PU] using this
theorem Y3 {R:Nat→Prop} {ι:VI} {H:WH} {M:Heap} (s:VS R ι H M) {l lA:Fast} (he:yS R ι M l lA):∀ {rs:List Jq} {vs:List AV},afx rs l H=some vs→∃ as,Fu rs lA M=some as∧bV M (OR R ι) ι vs as
 | [],vs,h=>by
  simp only [afx,Option.some.injEq] at h
  subst h
  exact ⟨[],rfl,by simp [bV]⟩
 | r::rs,vs,h=>by
  simp only [afx] at h
  split at h
  case h_2=>cases h
  rename_i v vs' h1 h2
  obtain rfl:=Option.some.inj h
  obtain ⟨a,e1,e2⟩:=ari s he h1
  obtain ⟨as,e3,e4⟩:=Y3 s he h2
  exact ⟨a::as,by simp only [Fu,e1,Option.bind_some,e3,Option.map_some],by simp only [bV];exact ⟨e2,e4⟩⟩
theorem afE {R:Nat→Prop} {ι:VI} {H:WH} {M:Heap} (s:VS R ι H M) {l lA:Fast} (he:yS R ι M l lA) {rs:List Jq} {v:AV} (h:SN rs l H=some v):∃ a,l6 rs lA M=some a∧VL M (OR R ι) ι v a:=by
 unfold SN at h
 split at h
 ·rename_i u hu
  obtain rfl:=Option.some.inj h
  obtain ⟨as,e1,e2⟩:=Y3 s he hu
  match as,e2 with
  | [],e2=>simp [bV] at e2
  | [a],e2 =>
   simp only [bV] at e2
   exact ⟨a,by simp only [l6,e1,Option.map_some],e2.1⟩
  | _::_::_,e2=>simp [bV] at e2
 ·rename_i vs hne hvs
  obtain rfl:=Option.some.inj h
  obtain ⟨as,e1,e2⟩:=Y3 s he hvs
  refine ⟨.tuple as, ?_,by simp only [VL];exact ⟨as,rfl,e2⟩⟩
  simp only [l6,e1,Option.map_some]
  match as,e2 with
  | [],e2=>rfl
  | [a],e2 =>
   match vs,e2 with
   | [],e2=>simp [bV] at e2
   | [u],e2=>exact absurd rfl (hne u)
   | _::_::_,e2=>simp [bV] at e2
  | _::_::_,e2=>rfl
 ·cases h
theorem arj {R:Nat→Prop} {ι:VI} {H:WH} {M:Heap} (s:VS R ι H M) {np:Nat} (hn:np≤H.length) {v a:AV} (hv:VL M (OR R ι) ι v a) {tr:TS} {v':AV} {out:WH} (h:aq5 np v H tr v' out) :
  ∃ bL,VS R bL out M∧Stp np [] ι H M bL out M∧VL M (OR R bL) bL v' a:=by
 unfold aq5 at h
 split at h
 case h_2=>exact h.elim
 rename_i m ts mc _
 obtain ⟨s0,k0,hl0⟩:=aj3 tr hn s
 have hn0:=hn
 rw [← hl0] at hn
 generalize wkl tr H=H0 at *
 obtain ⟨nO,h1,h2,h3⟩:=ahS m s0 (VL.retag v (ts.headD .undef) a hv)
 generalize hr:nrm m (Proofs.YtohoggieaanllaaGreat.retag v (ts.headD .undef)) H0=r at *
 obtain ⟨v1,H1⟩:=r
 simp only at h h1 h2 h3
 obtain ⟨BK,k1,k2⟩:=Td [] mc (U1 H1 np (CK v1)) H1 nO M h1
 have k3:=VL.step h1 k2 h3
 obtain ⟨rfl,rfl⟩:=h
 obtain ⟨ι3,q1,q2,q3⟩:=auY k1 (Nat.le_trans hn (Nat.le_trans h2.next k2.next)) (CK v1) (vs:=[v1]) (as:=[a]) (by simp only [bV];exact ⟨k3,trivial⟩)
 simp only [rnL,bV] at q3
 refine ⟨ι3,q1, ?_,q3.1⟩
 have e1:Stp np [] ι H0 M nO H1 M:=h2.weak hn
 have e2:Stp np [] nO H1 M BK _ M:=k2.weak (Nat.le_trans hn h2.next)
 have:=(k0.trans (e1.trans e2 (Nat.le_refl _)) (Nat.le_refl _)).trans q2 (Nat.le_refl _)
 simpa using this
theorem acB {M:Heap} {O:Nat→Prop} {κ:VI}:∀ {vs as:List AV} (i:Nat),bV M O κ vs as→∀ t,VL M O κ (look (start i vs) t) (look (start i as) t)
 | [],[],i,_,t=>by simp [start,look,VL]
 | v::vs,a::as,i,h,t=>by
  simp only [bV] at h
  simp only [start,yT]
  split
  ·exact h.1
  ·exact acB (i+1) h.2 t
 | [],_::_,_,h,_=>by simp [bV] at h
 | _::_,[],_,h,_=>by simp [bV] at h
theorem ark {G:adF} {T:FuncId→Option bC} {K d:Nat} {B:FuncId→Option Bt} (hB:∀ f b,B f=some b→BOk (qX G T K d) f b) {f:FuncId} (hG:G f=none) {af:bC} (hT:T f=some af) (hc:af.code.bB=true) {args:List AV} {blks:WH} {tr:TS} {v:AV} {out:WH}
  (h1:args.length=af.nargs) (h2:af.nargs≤af.ntmps) (h3:auS (qX G T K d) B K af args blks tr v out):Spec (qX G T K (d+1)) f args blks v out:=by
 intro R ι M as s hv
 have hl:=hv.length
 have hst:yS R ι M (start 0 (args++List.replicate (af.ntmps - af.nargs) (.tuple []))) (start 0 (as++List.replicate (af.ntmps - af.nargs) (.tuple []))):=by
  refine acB 0 (hv.append ?_)
  generalize af.ntmps - af.nargs=m
  induction m with
  | zero=>simp [bV]
  | succ m ih=>simp only [List.replicate_succ,bV];exact ⟨VL.unit,ih⟩
 obtain ⟨ex,yP,M',bL,l',H',lG,q1,q2,q3,q4,q5⟩:=xS hB af.code _ _ blks M ι tr _ hc s (Nat.le_refl _) hst h3
 obtain ⟨l1,tr1,hl1,q5⟩:=zZ q5
 have q4:yS R bL M' l1 yP:=λt=>by rw [hl1 t];exact q4 t
 have fin:∀ {ex},(match SN af.results l1 H' with
   | some u=>aq5 blks.length u H' tr1 v out
   | none=>False)→(ex=.normal∨ex=.ret)→aU (qX G T K d) K af.ntmps af.code (start 0 (as++List.replicate (af.ntmps - af.nargs) (.tuple []))) M=some (ex,yP,M') →
   ∃ a M' bL,qX G T K (d+1) f as M=some (a,M')∧VS R bL out M'∧Stp blks.length (List.range blks.length) ι blks M bL out M'∧VL M' (OR R bL) bL v a:=by
  intro ex hm hx hrun
  split at hm
  case h_2=>exact hm.elim
  rename_i u hu
  obtain ⟨a,e1,e2⟩:=afE q2 q4 hu
  obtain ⟨BK,e3,e4,e5⟩:=arj q2 q3.next e2 hm
  refine ⟨a,M',BK, ?_,e3,rF (q3.trans e4 (Nat.le_refl _)),e5⟩
  simp only [qX,hG,hT,bbody]
  rw [if_pos ⟨by rw [← hl];exact h1,h2⟩]
  rcases hx with rfl | rfl<;>simp only [hrun,e1,Option.map_some]
 cases ex with
 | normal=>exact fin q5 (.inl rfl) q1
 | ret=>exact fin q5 (.inr rfl) q1
 | exit i=>exact q5.elim
theorem arl {C:bP} {B:FuncId→Option Bt} (hB:∀ f b,B f=some b→BOk C f b) {K n np:Nat} {code:bG} (hc:code.bB=true) {ins:Fast} {blks:WH} (hn:np≤blks.length) {tr:TS} {x:Ex×Fast×WH}
  (h:auU C B K n np code ins blks tr x):ahM (aU C K n code) np ins blks x.1 x.2.1 x.2.2:=by
 intro R ι M lA s he
 obtain ⟨ex',yP,M',bL,l',H',lG,q1,q2,q3,q4,q5⟩:=xS hB code ins lA blks M ι tr _ hc s hn he h
 unfold auT at q5
 obtain ⟨l1,lG,hl1,q5⟩:=zZ q5
 have q4:yS R bL M' l1 yP:=λt=>by rw [hl1 t];exact q4 t
 split at q5
 case h_2=>exact q5.elim
 rename_i keep ms bs ts _
 obtain ⟨s0,k0,hl0⟩:=aj3 lG q3.next q2
 obtain ⟨vs',out',BK,⟨rfl,e1,e2⟩,s2,k2,hv⟩:=U_ s0 (by rw [hl0];exact q3.next) (q4.map keep) q5
 rw [← e1,← e2]
 exact ⟨yP,M',BK,q1,s2,rF (q3.trans ((rF k0).trans k2 (Nat.le_refl _)) (Nat.le_refl _)),λt=>(Yw keep vs' hv t).1⟩
theorem aX {G:adF} {T:FuncId→Option bC} {K d:Nat} {B:FuncId→Option Bt} (hB:∀ f b,B f=some b→BOk (qX G T K d) f b) {f:FuncId} {af:bC} (hf:G f=none∧T f=some af∧af.code.bB=true) {args:List AV} {blks:WH} {R:Type} {o:R→AV×WH} {r:R} {F:Option R}
  (h:F=some r) (t:Tc F) (h1:args.length=af.nargs:=by rfl) (h2:Nat.ble af.nargs af.ntmps=true:=by rfl) (e:auS (qX G T K d) B K af args blks ⟨t⟩ (o r).1 (o r).2=claim (λv=>(o v).1=(o r).1∧(o v).2=(o r).2) r t:=by kernel_rfl):Spec (qX G T K (d+1)) f args blks (o r).1 (o r).2 :=
 ark hB hf.1 hf.2.1 hf.2.2 h1 (Nat.le_of_ble_eq_true h2) (e.mpr (iO ⟨rfl,rfl⟩ t h))
theorem bA {C:bP} {B:FuncId→Option Bt} (hB:∀ f b,B f=some b→BOk C f b) {K n np:Nat} {code:bG} (hc:code.bB=true) {ins:Fast} {blks:WH} {R:Type} {o:R→Ex×Fast×WH} {r:R} {F:Option R}
  (h:F=some r) (t:Tc F) (hn:Nat.ble np blks.length=true:=by rfl) (e:auU C B K n np code ins blks ⟨t⟩ (o r)=claim (λv=>(o v).1=(o r).1∧(o v).2.1=(o r).2.1∧(o v).2.2=(o r).2.2) r t:=by kernel_rfl):ahM (aU C K n code) np ins blks (o r).1 (o r).2.1 (o r).2.2 :=
 arl hB hc (Nat.le_of_ble_eq_true hn) (e.mpr (iO ⟨rfl,rfl,rfl⟩ t h))
def bT {S E:Type} (step:S→Option (S⊕E)):Nat→S→Option E
 | 0,_=>none
 | k+1,s=>match step s with
  | none=>none
  | some (.inl s)=>bT step k s
  | some (.inr e)=>some e
def dx {S E:Type} (keep:List Nat) (st:S→List AV×WH) (fin:E→Ex×Fast×WH):S⊕E→Ex×Fast×WH
 | .inl s=>(.normal,kQ keep (st s).1,(st s).2)
 | .inr e=>fin e
theorem Y4 {l:Fast} (t:Nat):∀ keep:List Nat,look (Hf l keep) t=if t∈keep then look l t else .undef
 | []=>by simp [Hf,look]
 | u::r=>by
  simp only [Hf,yT,Y4 t r,List.mem_cons]
  by_cases e:u=t
  ·subst e;simp
  ·simp [e,Ne.symm e,show ¬ t=u from λh=>e h.symm]
theorem bY {S E:Type} {body:Fast→Heap→Xq} {np:Nat} {keep:List Nat} {st:S→List AV×WH} {fin:E→Ex×Fast×WH} {step:S→Option (S⊕E)} (hE:∀ e,(fin e).1≠.normal)
  (hr:∀ s x,step s=some x→ahM body np (kQ keep (st s).1) (st s).2 (dx keep st fin x).1 (dx keep st fin x).2.1 (dx keep st fin x).2.2) :
  ∀ (k:Nat) (s:S) (e:E),bT step k s=some e→ahM (eu body keep k) np (kQ keep (st s).1) (st s).2 (fin e).1 (fin e).2.1 (fin e).2.2
 | 0,s,e,h=>by simp [bT] at h
 | k+1,s,e,h=>by
  intro R ι M lA vs he
  have zk:∀ (keep:List Nat) (xs:List AV) (t:Nat),t ∉ keep→look (kQ keep xs) t=.undef:=λkeep=>by
   induction keep with
   | nil=>intro xs t _;cases xs<;>simp [kQ,look]
   | cons u r ih =>
    intro xs t ht
    rw [List.mem_cons,not_or] at ht
    cases xs with
    | nil=>simp [kQ,look]
    | cons v xs =>
     simp only [kQ,yT]
     rw [if_neg (λe=>ht.1 e.symm)]
     exact ih xs t ht.2
  have he':∀ t,VL M (OR R ι) ι (look (kQ keep (st s).1) t) (look (Hf lA keep) t):=λt=>by
   rw [Y4]
   split
   ·exact he t
   ·rename_i ht
    rw [zk keep _ t ht]
    simp [VL]
  simp only [bT] at h
  split at h
  ·cases h
  ·rename_i s' hs
   have:=hr s _ hs
   obtain ⟨yP,M',bL,q1,q2,q3,q4⟩:=this R ι M (Hf lA keep) vs he'
   obtain ⟨lA2,M2,BK,r1,r2,r3,r4⟩:=bY hE hr k s' e h R bL M' yP q2 q4
   refine ⟨lA2,M2,BK, ?_,r2,rF (q3.trans r3 (Nat.le_refl _)),r4⟩
   simp only [eu,q1]
   exact r1
  ·rename_i e' hs
   obtain rfl:=Option.some.inj h
   have:=hr s _ hs
   simp only [dx] at this
   obtain ⟨yP,M',bL,q1,q2,q3,q4⟩:=this R ι M (Hf lA keep) vs he'
   refine ⟨yP,M',bL, ?_,q2,q3,q4⟩
   simp only [eu,q1]
   have:=hE e'
   generalize (fin e').1=x at *
   cases x with
   | normal=>exact absurd rfl this
   | exit i=>rfl
   | ret=>rfl
end Go.Proofs.YtohoggieaanllaaGreat
end
section
set_option linter.all false
set_option linter.unusedSimpArgs false
namespace Go.Proofs.YtohoggieaanllaaGreat
open Go.ChangeShapes Go.WideShapes Go.ChangeAt Go.RowKit
mutual
def BN:Sh→Nat
 | .agg ss=>Ez ss
 | _=>1
def Ez:List Sh→Nat
 | []=>0
 | s::r=>BN s+Ez r
end
mutual
def encS:Sh→D→List AV
 | .bool,.bool b=>[.bool b]
 | .int _,.int k n=>[.int k n]
 | .str,.str s=>[.str s]
 | .list e,.list l=>[.list (BN e) l.length (adQ e l) false]
 | .agg ss,.agg l=>LM ss l
 | _,_=>[]
def adQ (e:Sh):List D→List AV
 | []=>[]
 | d::r=>encS e d++adQ e r
def LM:List Sh→List D→List AV
 | s::ss,d::r=>encS s d++LM ss r
 | _,_=>[]
end
theorem LP {e:Sh}:∀ {l:List D} {n:Nat},l.length=n→LM (List.replicate n e) l=adQ e l
 | [],n,h=>by
  subst h
  simp [LM,adQ]
 | d::r,n,h=>by
  subst h
  simp only [List.length_cons,List.replicate_succ,LM,adQ]
  rw [LP rfl]
theorem Hr (s:Sh):∀ n,Ez (List.replicate n s)=n * BN s
 | 0=>by simp [Ez]
 | n+1=>by
  rw [List.replicate_succ,Ez,Hr s n,Nat.succ_mul,Nat.add_comm]
theorem Vd {P:Program} (hl:laidOutB P=true):∀ (k:Nat) (t:TypeId) (s:Sh),Rh P k t=some s→t < P.types.size→P.cellsOf t=BN s
 | 0,_,_,h,_=>by simp [Rh] at h
 | k+1,t,s,h,ht=>by
  have hr:=Go.rowFine_of hl ht
  simp only [Rh] at h
  split at h
  case h_7=>cases h
  ·rename_i hu
   obtain rfl:=Option.some.inj h
   simpa [rowFine,isVar,ht,hu,kindOk,BN] using hr
  ·rename_i i hu
   obtain rfl:=Option.some.inj h
   simpa [rowFine,isVar,ht,hu,kindOk,BN] using hr
  ·rename_i hu
   obtain rfl:=Option.some.inj h
   simpa [rowFine,isVar,ht,hu,kindOk,BN] using hr
  ·rename_i e hu
   split at h
   ·cases h
   obtain ⟨se,hse,rfl⟩:=Option.map_eq_some_iff.1 h
   simp [rowFine,isVar,ht,hu,kindOk] at hr
   simpa [BN] using hr.2
  ·rename_i fs hu
   obtain ⟨ss,hss,rfl⟩:=Option.map_eq_some_iff.1 h
   obtain ⟨h1,h2,_⟩:=Go.kid_struct hl ht hu
   rw [h2,BN]
   have hall:∀ (fl:List Field) (ss:List Sh),(∀ f∈fl,f.type < P.types.size)→aa4 (Rh P k) (fl.map λf=>f.type)=some ss→(fl.map λf=>P.cellsOf f.type).sum=Ez ss:=by
    intro fl
    induction fl with
    | nil =>
     intro ss _ h
     simp [aa4] at h
     subst h
     simp [Ez]
    | cons f fl ih =>
     intro ss hf h
     simp only [List.map_cons,aa4] at h
     split at h
     case h_2=>cases h
     rename_i s r h1 h2
     obtain rfl:=Option.some.inj h
     rw [List.map_cons,List.sum_cons,Ez,Vd hl k _ _ h1 (hf f (by simp)),ih r (λg hg=>hf g (by simp [hg])) h2]
   exact hall fs.toList ss h1 hss
  ·rename_i n e hu
   obtain ⟨se,hse,rfl⟩:=Option.map_eq_some_iff.1 h
   obtain ⟨h1,h2⟩:=Go.kid_array hl ht hu
   rw [h2,BN,Hr,Vd hl k _ _ hse h1]
mutual
theorem VL.sub {M M':Heap} {κ yE:VI} (h:M.Sub M') (hn:M.next≤M'.next):∀ (v a:AV),VL M (λ_=>False) VI.none v a→VL M' (λ_=>False) VI.none v a
 | .undef,_,_=>by simp [VL]
 | .bool _,_,e=>by simpa [VL] using e
 | .int _ _,_,e=>by simpa [VL] using e
 | .str _,_,e=>by simpa [VL] using e
 | .ptr none,_,e=>by simpa [VL] using e
 | .ptr (some q),_,e=>by simp [VL,VI.none] at e
 | .slice none _ _ _ _,_,e=>by simpa [VL] using e
 | .slice (some q) _ _ _ _,_,e=>by simp [VL,VI.none] at e
 | .map none,_,e=>by simpa [VL] using e
 | .map (some r),_,e=>by simp [VL,VI.none] at e
 | .func f cs,_,e=>by
  simp only [VL] at e ⊢
  obtain ⟨cs',h1,h2⟩:=e
  exact ⟨cs',h1,bV.sub h hn cs cs' h2⟩
 | .nilFunc,_,e=>by simpa [VL] using e
 | .agg cs,_,e=>by
  simp only [VL] at e ⊢
  obtain ⟨cs',h1,h2⟩:=e
  exact ⟨cs',h1,bV.sub h hn cs cs' h2⟩
 | .tuple cs,_,e=>by
  simp only [VL] at e ⊢
  obtain ⟨cs',h1,h2⟩:=e
  exact ⟨cs',h1,bV.sub h hn cs cs' h2⟩
 | .list sz len cs ex,_,e=>by
  simp only [VL] at e ⊢
  rcases e with e | ⟨b,o,cap,ex',h1,h2,h3,h4,h5⟩
  ·exact .inl e
  refine .inr ⟨b,o,cap,ex',h1,h2,h3,h4,λhl=>?_⟩
  obtain ⟨c,ro,sl,g1,g2,g3,g4,g5⟩:=h5 hl
  exact ⟨c,ro,sl,h _ _ g1,g2,Nat.lt_of_lt_of_le g3 hn,g4,bV.sub h hn cs _ g5⟩
 | .elem cs,_,e=>by
  simp only [VL] at e ⊢
  obtain ⟨b,o,c,ro,sl,h1,g1,g2,g3,g5⟩:=e
  exact ⟨b,o,c,ro,sl,h1,h _ _ g1,g2,Nat.lt_of_lt_of_le g3 hn,bV.sub h hn cs _ g5⟩
 | .acc b o sz n w,_,e=>by simp [VL,VI.none] at e
theorem bV.sub {M M':Heap} (h:M.Sub M') (hn:M.next≤M'.next):∀ (l r:List AV),bV M (λ_=>False) VI.none l r→bV M' (λ_=>False) VI.none l r
 | [],[],_=>by simp [bV]
 | a::l,v::r,e=>by
  simp only [bV] at e ⊢
  exact ⟨VL.sub (κ:=VI.none) (yE:=VI.none) h hn a v e.1,bV.sub h hn l r e.2⟩
 | [],_::_,e=>by simp [bV] at e
 | _::_,[],e=>by simp [bV] at e
end
abbrev ahY (M:Heap):=bV M (λ_=>False) VI.none
def adR (W:World) (s:Sh) (cs:List Value) (d:D):Prop :=
 ∀ ι M,R ι M W→xM M→∃ bL M' avs,Grow ι M bL M' W∧fC bL avs cs∧(∀ a∈avs,a.f_=true)∧ahY M' (encS s d) avs∧D.is s d
def iq (W:World):List Sh→List (List Value)→List D→Prop
 | [],[],[]=>True
 | s::ss,c::cs,d::ds=>adR W s c d∧iq W ss cs ds
 | _,_,_=>False
theorem iq.open {W:World}:∀ {ss:List Sh} {css:List (List Value)} {ds:List D},iq W ss css ds→∀ ι M,R ι M W→xM M →
  ∃ bL M' ,∃ pieces:List (List AV),Grow ι M bL M' W∧pieces.map List.length=css.map List.length∧fC bL pieces.flatten css.flatten∧(∀ p∈pieces,∀ a∈p,a.f_=true)∧ahY M' (LM ss ds) pieces.flatten∧D.are ss ds
 | [],[],[],_,ι,M,r,ro=>⟨ι,M,[],.refl r ro,rfl,by simp [fC],by simp,by simp [LM,ahY,bV],by simp [D.are]⟩
 | s::ss,c::css,d::ds,h,ι,M,r,ro=>by
  simp only [iq] at h
  obtain ⟨nO,M1,avs,g1,v1,c1,r1,i1⟩:=h.1 ι M r ro
  obtain ⟨BK,M2,ps,g2,l2,v2,c2,r2,i2⟩:=iq.open h.2 nO M1 g1.rel g1.ro
  refine ⟨BK,M2,avs::ps,g1.trans g2, ?_, ?_, ?_, ?_, ?_⟩
  ·have:=v1.length
   simp [l2,this]
  ·simp only [List.flatten_cons]
   exact (v1.mono g2.le).append v2
  ·intro p hp
   rcases List.mem_cons.1 hp with rfl | hp
   ·exact c1
   ·exact c2 p hp
  ·simp only [LM,List.flatten_cons]
   exact (bV.sub g2.sub g2.next _ _ r1).append r2
  ·simp only [D.are]
   exact ⟨i1,i2⟩
 | [],[],_::_,h,_,_,_,_=>by simp [iq] at h
 | [],_::_,_,h,_,_,_,_=>by simp [iq] at h
 | _::_,[],_,h,_,_,_,_=>by simp [iq] at h
 | _::_,_::_,[],h,_,_,_,_=>by simp [iq] at h
theorem iq.zS {W:World}:∀ {ss:List Sh} {css:List (List Value)} {ds:List D},ss.length=ds.length→css.length=ds.length →
  (∀ (i:Nat) s c d,ss[i]?=some s→css[i]?=some c→ds[i]?=some d→adR W s c d)→iq W ss css ds
 | [],[],[],_,_,_=>by simp [iq]
 | s::ss,c::css,d::ds,h1,h2,h=>by
  simp only [iq]
  exact ⟨h 0 s c d (by simp) (by simp) (by simp),iq.zS (by simpa using h1) (by simpa using h2) λi s c d a1 a2 a3=>h (i+1) s c d (by simpa using a1) (by simpa using a2) (by simpa using a3)⟩
 | [],_,_::_,h1,_,_=>by simp at h1
 | _::_,_,[],h1,_,_=>by simp at h1
 | _,[],_::_,_,h2,_=>by simp at h2
 | _,_::_,[],_,h2,_=>by simp at h2
theorem KO {W:World} {s:Sh} {v:Value} {a:AV} {d:D} (hv:∀ ι,VR ι a v) (hc:a.f_=true) (hr:∀ M,ahY M (encS s d) [a]) (hs:D.is s d):adR W s [v] d:=λι M r ro =>
 ⟨ι,M,[a],.refl r ro,by simp only [fC];exact ⟨hv ι,trivial⟩,λx hx=>by simp at hx;subst hx;exact hc,hr M,hs⟩
theorem KP {H:Type} {enc:TypeId×Value→H} {P:Program} (hl:laidOutB P=true) {W:World}:∀ (k:Nat) (t:TypeId) (s:Sh),Rh P k t=some s→t < P.types.size →
  ∀ (fuel:Nat) (cs:List Value) (x:DataW H×List MemPlace),DataW.trod enc P W 0 (λ_=>true) true fuel t cs=some x→adR W s cs (Fq x.1)
 | 0,_,_,hs,_,_,_,_,_=>by simp [Rh] at hs
 | k+1,t,s,hs,ht,fuel,cs,x,h=>by
  simp only [Rh] at hs
  split at hs
  case h_7=>cases hs
  ·rename_i hu
   obtain rfl:=Option.some.inj hs
   obtain ⟨b,rfl,rfl⟩:=DataW.trod_bool hu h
   exact KO (a:=.bool b) (λι=>by simp [VR]) rfl (λM=>by simp [Fq,encS,bV,VL]) ⟨b,rfl⟩
  ·rename_i i hu
   obtain rfl:=Option.some.inj hs
   obtain ⟨n,rfl,rfl,hw⟩:=DataW.trod_int hu h
   simp only [Lit.wf,Bool.and_eq_true,decide_eq_true_eq] at hw
   exact KO (a:=.int i n) (λι=>by simp [VR]) rfl (λM=>by simp [Fq,encS,bV,VL]) ⟨n,rfl,hw⟩
  ·rename_i hu
   obtain rfl:=Option.some.inj hs
   obtain ⟨b,rfl,rfl,hw⟩:=DataW.trod_string hu h
   exact KO (a:=.str b.data.toList) (λι=>by simp only [VR];exact ⟨b,rfl,rfl⟩) rfl (λM=>by simp [Fq,encS,bV,VL]) ⟨_,rfl⟩
  ·rename_i e hu
   split at hs
   ·cases hs
   rename_i hsz
   obtain ⟨se,hse,rfl⟩:=Option.map_eq_some_iff.1 hs
   have hte:e < P.types.size:=Go.kid_slice hl ht hu
   rcases DataW.trod_slice hu h with ⟨rfl,rfl⟩ | ⟨a,len,cap,elems,rest,n,rfl,rfl,rfl,_,hlc,_,hlen,hel,hre,_⟩
   ·exact KO (a:=.slice none (BN se) 0 0 true) (λι=>by simp [VR]) rfl (λM=>by simp [Fq,encS,adQ,bV,VL]) ⟨[],by simp [Fq],by simp⟩
   ·intro ι M r ro
    obtain ⟨hrl,hre⟩:=hre rfl
    simp only [Fq]
    have hsz':=Vd hl _ _ _ hse hte
    generalize hz:P.cellsOf e=sz at *
    rcases Nat.eq_zero_or_pos cap with hc0 | hcp
    ·subst hc0
     obtain rfl:len=0:=by omega
     have axM:elems=[]:=by simpa using hlen
     subst axM
     refine ⟨_,_,[.slice (some (M.next,0)) sz 0 0 true],Grow.skip r ro ⟨a.block,0,0⟩, ?_, ?_, ?_, ?_⟩
     ·simp only [fC,VR,and_true]
      exact ⟨⟨a.block,0,0⟩,a,0,by simp [gU.set],rfl,.inl rfl,.inl rfl,.inl rfl,Nat.le_refl _,Nat.le_refl _,λ_=>rfl,by simp,by omega⟩
     ·intro y hy
      simp at hy
      subst hy
      rfl
     ·simp only [List.map_nil,U0,encS,adQ,bV,VL,and_true]
      exact .inr ⟨M.next,0,0,true,by rw [hsz'];rfl,Nat.le_refl _,by simp,by simp,λh=>absurd rfl h⟩
     ·exact ⟨[],by simp [U0],by simp⟩
    ·-- every element's cells
     have all:∀ i,i < cap→∃ ci,W.cells? 0 (a.add (i * sz)) sz=some ci∧(i < len→∃ y,elems[i]?=some y∧DataW.trod enc P W 0 (λ_=>true) true n e ci=some y):=by
      intro i hi
      by_cases hil:i < len
      ·have h1:=hel i hil
       rw [List.getElem?_eq_getElem (by omega)] at h1
       obtain ⟨ci,h2,h3⟩:=Option.bind_eq_some_iff.1 h1
       exact ⟨ci,h2,λ_=>⟨_,List.getElem?_eq_getElem (by omega),h3⟩⟩
      ·have h1:=hre (i - len) (by omega)
       rw [List.getElem?_eq_getElem (by omega)] at h1
       obtain ⟨ci,h2,h3⟩:=Option.bind_eq_some_iff.1 h1
       rw [show len+(i - len)=i from by omega] at h2
       exact ⟨ci,h2,λhx=>absurd hx hil⟩
     obtain ⟨c0,hc0,_⟩:=all 0 hcp
     obtain ⟨_,hl0,hg0⟩:=World.cells?_some hc0
     have hone:=hg0 0 (by omega)
     rw [List.getElem?_eq_getElem (by omega)] at hone
     obtain ⟨c,el,fz,hob,hsp,_⟩:=akI hone
     have ha0:(a.add (0 * sz)).add 0=a:=by simp [Addr.add]
     rw [ha0] at hob hsp
     obtain ⟨j,off,spot⟩:=a
     simp only at hob hsp
     subst hsp
     have ay8:∀ i v,W.cell? ⟨j,i,none⟩=some v→c[i]?=some v:=λi v hv=>by
      simpa [World.cell?,hob] using hv
     have au2:∀ i,W.cell? ⟨j,i,none⟩=c[i]?:=λi=>by simp [World.cell?,hob]
     have awu:∀ i ci,W.cells? 0 ((⟨j,off,none⟩:Addr).add (i * sz)) sz=some ci→ci=(c.toList.drop (off+i * sz)).take sz∧off+i * sz+sz≤c.size:=by
      intro i ci hci
      obtain ⟨_,q1,q2⟩:=World.cells?_some hci
      have hsize:off+i * sz+sz≤c.size:=by
       have:=q2 (sz - 1) (by omega)
       rw [qF,qF,au2,List.getElem?_eq_getElem (by omega)] at this
       have:=(Array.getElem?_eq_some_iff.1 this).1
       omega
      refine ⟨?_,hsize⟩
      apply List.ext_getElem?
      intro q
      by_cases hq:q < sz
      ·have:=q2 q hq
       rw [qF,qF,au2] at this
       rw [← this,List.getElem?_take,if_pos hq,List.getElem?_drop,Array.getElem?_toList]
      ·rw [List.getElem?_eq_none (by omega),List.getElem?_eq_none (by simp;omega)]
     have hend:off+cap * sz≤c.size:=by
      obtain ⟨ci,h1,_⟩:=all (cap - 1) (by omega)
      have:=(awu _ _ h1).2
      have:(cap - 1) * sz+sz=cap * sz:=by rw [← Nat.succ_mul];congr 1;omega
      omega
     have hrow:len * sz≤cap * sz:=Nat.mul_le_mul_right _ hlc
     have Y5:iq W (List.replicate len se) (chunks (List.replicate len sz) (c.toList.drop off)) (elems.map λy=>Fq y.1):=by
      refine iq.zS (by simp [hlen]) (by simp [Co,hlen]) λi s0 ci d0 h1 h2 h3=>?_
      have hi:i < len:=by
       have:=(List.getElem?_eq_some_iff.1 h1).1
       simpa using this
      rw [List.getElem?_replicate,if_pos hi] at h1
      obtain rfl:=Option.some.inj h1
      rw [KJ _ _ i sz (by rw [List.getElem?_replicate,if_pos hi])] at h2
      obtain rfl:=Option.some.inj h2
      obtain ⟨ci,g1,g2⟩:=all i (by omega)
      obtain ⟨y,g3,g4⟩:=g2 hi
      obtain ⟨g5,_⟩:=awu i ci g1
      rw [List.getElem?_map,g3] at h3
      obtain rfl:=Option.some.inj h3
      have e1:(List.take i (List.replicate len sz)).sum=i * sz:=by
       rw [List.take_replicate,Nat.min_eq_left (by omega),List.sum_replicate_nat]
      rw [e1,List.drop_drop,← g5]
      exact KP hl k e se hse hte n ci y g4
     obtain ⟨nO,M1,pieces,g1,hpl,hpv,hpc,hpp,am2⟩:=Y5.open ι M r ro
     have amX:(chunks (List.replicate len sz) (c.toList.drop off)).flatten=(c.toList.drop off).take (len * sz):=by
      rw [chunks_flatten,List.sum_replicate_nat]
     rw [amX] at hpv
     have hfl:pieces.flatten.length=len * sz:=by
      have:=hpv.length
      simp at this
      rw [List.length_flatten,this]
      omega
     have am3:=Grow.see (c:=pieces.flatten) (l:=⟨j,off,cap * sz⟩) g1.rel g1.ro hob (by
      refine ⟨c,el,fz,rfl,hend,by rw [hfl];exact hrow,(λh=>by cases h),λi b hb=>?_,λh=>by cases h⟩
      obtain ⟨v,hv,hvr⟩:=hpv.get i b hb
      refine ⟨v, ?_, ?_,hvr⟩
      ·rw [List.getElem?_take] at hv
       split at hv
       ·rw [List.getElem?_drop,Array.getElem?_toList] at hv
        exact hv
       ·cases hv
      ·obtain ⟨p,hp,hbp⟩:=List.mem_flatten.1 (List.mem_of_getElem? hb)
       exact hpc p hp b hbp)
     have hdl:(U0 (elems.map λy=>y.1)).length=len:=by rw [KI];simp [hlen]
     refine ⟨_,_,[.slice (some (M1.next,0)) sz len cap true],g1.trans am3, ?_, ?_, ?_, ?_⟩
     ·simp only [fC,VR,and_true]
      exact ⟨⟨j,off,cap * sz⟩,⟨j,off,none⟩,cap,by simp [gU.set],rfl,.inr rfl,.inr rfl,.inr rfl,hlc,Nat.le_refl _,λ_=>rfl,by simp,by omega⟩
     ·intro y hy
      simp at hy
      subst hy
      rfl
     ·have e1:U0 (elems.map λy=>y.1)=elems.map λy=>Fq y.1:=by rw [KI];simp
      rw [LP] at hpp
      ·simp only [encS,bV,VL,and_true,e1]
       refine .inr ⟨M1.next,0,cap,true, ?_, ?_,by simp, ?_,λ_=>⟨pieces.flatten,true,true,by simp [Heap.push],λh=>h,by simp [Heap.push], ?_, ?_⟩⟩
       ·rw [hsz',List.length_map,hlen]
       ·rw [List.length_map,hlen];exact hlc
       ·rw [hpp.length,hfl,List.length_map,hlen,hsz']
       ·rw [List.length_map,hlen,← hsz'];omega
       ·rw [List.length_map,hlen,← hsz',List.drop_zero,List.take_of_length_le (by omega)]
        exact bV.sub am3.sub am3.next _ _ hpp
      ·simp [hlen]
     ·have e1:U0 (elems.map λy=>y.1)=elems.map λy=>Fq y.1:=by rw [KI];simp
      refine ⟨_,rfl, ?_⟩
      rw [e1]
      exact (D.Qt am2).2
  ·rename_i fs hu
   obtain ⟨ss,hss,rfl⟩:=Option.map_eq_some_iff.1 hs
   obtain ⟨hsl,hsg⟩:=ace hss
   obtain ⟨kt,kc,ko⟩:=Go.kid_struct hl ht hu
   obtain ⟨xs,n,rfl,rfl,hcl,hxl,hget⟩:=DataW.trod_struct hu h
   intro ι M r ro
   have Y5:iq W ss (chunks (fs.toList.map λf=>P.cellsOf f.type) cs) (xs.map λy=>Fq y.1):=by
    refine iq.zS (by simp [hsl,hxl]) (by simp [Co,hxl]) λi s0 ci d0 h1 h2 h3=>?_
    have hi:i < fs.toList.length:=by
     have:=(List.getElem?_eq_some_iff.1 h1).1
     simpa [hsl] using this
    have hf:fs.toList[i]?=some fs.toList[i]:=List.getElem?_eq_getElem hi
    obtain ⟨s1,g1,g2⟩:=hsg i _ (by rw [List.getElem?_map,hf];rfl)
    rw [h1] at g1
    obtain rfl:=Option.some.inj g1
    rw [KJ _ _ i _ (by rw [List.getElem?_map,hf];rfl)] at h2
    obtain rfl:=Option.some.inj h2
    have h4:=hget i fs.toList[i] (by rw [← Array.getElem?_toList];exact hf)
    rw [List.getElem?_map] at h3
    obtain ⟨y,hy,rfl⟩:=Option.map_eq_some_iff.1 h3
    rw [hy,ko i _ hf] at h4
    rw [← List.map_take]
    exact KP hl k _ _ g2 (kt _ (List.getElem_mem hi)) n _ y h4
   obtain ⟨nO,M1,pieces,g1,hpl,hpv,hpc,hpp,am2⟩:=Y5.open ι M r ro
   rw [chunks_flatten,← kc,← hcl,List.take_length] at hpv
   have e1:Fq (DataW.agg (xs.map λy=>y.1))=.agg (xs.map λy=>Fq y.1):=by simp [Fq,KI]
   refine ⟨nO,M1,pieces.flatten,g1,hpv,λa ha=>?_, ?_, ?_⟩
   ·obtain ⟨p,hp,hap⟩:=List.mem_flatten.1 ha
    exact hpc p hp a hap
   ·rw [e1]
    simp only [encS]
    exact hpp
   ·rw [e1]
    exact ⟨_,rfl,am2⟩
  ·rename_i m e hu
   obtain ⟨se,hse,rfl⟩:=Option.map_eq_some_iff.1 hs
   obtain ⟨hte,kc⟩:=Go.kid_array hl ht hu
   obtain ⟨xs,n,rfl,rfl,hcl,hxl,hget⟩:=DataW.trod_array hu h
   intro ι M r ro
   have Y5:iq W (List.replicate m se) (chunks (List.replicate m (P.cellsOf e)) cs) (xs.map λy=>Fq y.1):=by
    refine iq.zS (by simp [hxl]) (by simp [Co,hxl]) λi s0 ci d0 h1 h2 h3=>?_
    have hi:i < m:=by
     have:=(List.getElem?_eq_some_iff.1 h1).1
     simpa using this
    rw [List.getElem?_replicate,if_pos hi] at h1
    obtain rfl:=Option.some.inj h1
    rw [KJ _ _ i (P.cellsOf e) (by rw [List.getElem?_replicate,if_pos hi])] at h2
    obtain rfl:=Option.some.inj h2
    have h4:=hget i hi
    rw [List.getElem?_map] at h3
    obtain ⟨y,hy,rfl⟩:=Option.map_eq_some_iff.1 h3
    rw [hy] at h4
    have e1:(List.take i (List.replicate m (P.cellsOf e))).sum=i * P.cellsOf e:=by
     rw [List.take_replicate,Nat.min_eq_left (by omega),List.sum_replicate_nat]
    rw [e1]
    exact KP hl k e se hse hte n _ y h4
   obtain ⟨nO,M1,pieces,g1,hpl,hpv,hpc,hpp,am2⟩:=Y5.open ι M r ro
   rw [chunks_flatten,List.sum_replicate_nat,← kc,← hcl,List.take_length] at hpv
   have e1:Fq (DataW.agg (xs.map λy=>y.1))=.agg (xs.map λy=>Fq y.1):=by simp [Fq,KI]
   refine ⟨nO,M1,pieces.flatten,g1,hpv,λa ha=>?_, ?_, ?_⟩
   ·obtain ⟨p,hp,hap⟩:=List.mem_flatten.1 ha
    exact hpc p hp a hap
   ·rw [e1]
    simp only [encS]
    exact hpp
   ·rw [e1]
    exact ⟨_,rfl,am2⟩
def Nr (s:Sh) (d:D):AV :=
 match s with
 | .agg ss=>.agg (encS s d)
 | s=>(encS s d).headD .undef
def encArgs:List Sh→List D→List AV
 | s::ss,d::r=>Nr s d::encArgs ss r
 | _,_=>[]
theorem akV {H:Type} {enc:TypeId×Value→H} {P:Program} (hl:laidOutB P=true) {W:World} {k base:Nat} {t:TypeId} {s:Sh} (hs:Rh P k t=some s) (ht:t < P.types.size) {v:Value} {d:DataW H} {ps:List MemPlace}
  (hval:Value.okWide P W .any base t v) (h:DataW.Trod enc P W 0 (λ_=>true) true t v d ps) {ι:gU} {M:Heap} (r:R ι M W) (ro:xM M) :
  ∃ bL M' a,Grow ι M bL M' W∧VR bL a v∧VL M' (λ_=>False) VI.none (Nr s (Fq d)) a∧D.is s (Fq d):=by
 obtain ⟨fuel,hf⟩:=h
 obtain ⟨bL,M',avs,g,hv,_,hr,hi⟩:=KP hl k t s hs ht fuel _ _ hf ι M r ro
 simp only at hr hi
 have one:v.cells=#[v]→(∀ ss,s≠.agg ss)→∃ bL M' a,Grow ι M bL M' W∧VR bL a v∧VL M' (λ_=>False) VI.none (Nr s (Fq d)) a∧D.is s (Fq d):=by
  intro e1 e2
  rw [e1] at hv
  match avs,hv,hr with
  | [a],hv,hr =>
   simp only [fC] at hv
   refine ⟨bL,M',a,g,hv.1, ?_,hi⟩
   have hlen:=hr.length
   have:∃ x,encS s (Fq d)=[x]:=by
    match hx:encS s (Fq d),hlen with
    | [x],_=>exact ⟨x,rfl⟩
    | [],h=>simp at h
    | _::_::_,h=>simp at h
   obtain ⟨x,hx⟩:=this
   rw [hx] at hr
   simp only [bV] at hr
   have he:Nr s (Fq d)=x:=by
    cases s with
    | agg ss=>exact absurd rfl (e2 ss)
    | _=>simp [Nr,hx]
   rw [he]
   exact hr.1
  | [],hv,_=>simp [fC] at hv
  | _::_::_,hv,_=>simp [fC] at hv
 have many:(∃ cs,v=.agg cs)→(∃ ss,s=.agg ss)→∃ bL M' a,Grow ι M bL M' W∧VR bL a v∧VL M' (λ_=>False) VI.none (Nr s (Fq d)) a∧D.is s (Fq d):=by
  rintro ⟨cs,rfl⟩ ⟨ss,rfl⟩
  refine ⟨bL,M',.agg avs,g, ?_, ?_,hi⟩
  ·simp only [VR]
   exact ⟨cs,rfl,by simpa [Value.cells] using hv⟩
  ·simp only [Nr,VL]
   exact ⟨avs,rfl,hr⟩
 cases k with
 | zero=>simp [Rh] at hs
 | succ k =>
  simp only [Rh] at hs
  split at hs
  case h_7=>cases hs
  ·rename_i hu
   obtain rfl:=Option.some.inj hs
   obtain ⟨b,rfl⟩:=okWide_bool hu hval
   exact one rfl λl hl=>by cases hl
  ·rename_i i hu
   obtain rfl:=Option.some.inj hs
   obtain ⟨b,rfl⟩:=okWide_int hu hval
   exact one rfl λl hl=>by cases hl
  ·rename_i hu
   obtain rfl:=Option.some.inj hs
   obtain ⟨b,rfl⟩:=okWide_string hu hval
   exact one rfl λl hl=>by cases hl
  ·rename_i e hu
   split at hs
   ·cases hs
   obtain ⟨se,hse,rfl⟩:=Option.map_eq_some_iff.1 hs
   obtain ⟨a,len,cap,rfl⟩:=okWide_slice hu hval
   exact one rfl λl hl=>by cases hl
  ·rename_i fs hu
   obtain ⟨ss,hss,rfl⟩:=Option.map_eq_some_iff.1 hs
   obtain ⟨cs,hcs,_⟩:=okWide_struct hu hval
   exact many ⟨cs,hcs⟩ ⟨_,rfl⟩
  ·rename_i n e hu
   obtain ⟨se,hse,rfl⟩:=Option.map_eq_some_iff.1 hs
   simp only [Value.okWide,hu] at hval
   obtain ⟨cs,hcs,_⟩:=hval
   exact many ⟨cs,hcs⟩ ⟨_,rfl⟩
theorem acC {H:Type} {enc:TypeId×Value→H} {P:Program} (hl:laidOutB P=true) {W:World} {k base:Nat} :
  ∀ (ts:List TypeId) (ss:List Sh) (vs:List Value) (ds:List (DataW H)) (p:List MemPlace),YP P k ts=some ss→(ts.all λt=>decide (t < P.types.size))=true →
   (∀ (j:Nat) t v,ts[j]?=some t→vs[j]?=some v→Value.okWide P W .any base t v)→DataW.TrodAll enc P W 0 (λ_=>true) true ts vs ds p →
   ∀ ι M,R ι M W→xM M→∃ bL M' as,Grow ι M bL M' W∧fC bL as vs∧ahY M' (encArgs ss (ds.map Fq)) as∧D.are ss (ds.map Fq)
 | [],ss,[],[],p,hs,_,_,_,ι,M,r,ro=>by
  simp [YP,aa4] at hs
  subst hs
  exact ⟨ι,M,[],.refl r ro,by simp [fC],by simp [encArgs,ahY,bV],by simp [D.are]⟩
 | t::ts,ss,v::vs,d::ds,p,hs,ht,hval,h,ι,M,r,ro=>by
  simp only [YP,aa4] at hs
  split at hs
  case h_2=>cases hs
  rename_i s sr h1 h2
  obtain rfl:=Option.some.inj hs
  simp only [List.all_cons,Bool.and_eq_true,decide_eq_true_eq] at ht
  simp only [DataW.TrodAll] at h
  obtain ⟨p1,p2,g1,g2,_⟩:=h
  obtain ⟨nO,M1,a,q1,q2,q3,q4⟩:=akV hl h1 ht.1 (hval 0 t v (by simp) (by simp)) g1 r ro
  obtain ⟨BK,M2,as,w1,w2,w3,w4⟩:=acC hl ts sr vs ds p2 h2 (by simpa using ht.2) (λj t v a b=>hval (j+1) t v (by simpa using a) (by simpa using b)) g2 nO M1 q1.rel q1.ro
  refine ⟨BK,M2,a::as,q1.trans w1, ?_, ?_, ?_⟩
  ·simp only [fC]
   exact ⟨q2.mono w1.le,w2⟩
  ·simp only [List.map_cons,encArgs,ahY,bV]
   exact ⟨VL.sub (κ:=VI.none) (yE:=VI.none) w1.sub w1.next _ _ q3,w3⟩
  ·simp only [List.map_cons,D.are]
   exact ⟨q4,w4⟩
 | [],_,_::_,_,_,_,_,_,h,_,_,_,_=>by simp [DataW.TrodAll] at h
 | [],_,[],_::_,_,_,_,_,h,_,_,_,_=>by simp [DataW.TrodAll] at h
 | _::_,_,[],_,_,_,_,_,h,_,_,_,_=>by simp [DataW.TrodAll] at h
 | _::_,_,_::_,[],_,_,_,_,h,_,_,_,_=>by simp [DataW.TrodAll] at h
def awv (C:bP) (f:FuncId) (ss:List Sh) (small:Nat):Prop :=
 ∀ ds:List D,D.are ss ds→D.Br ds≤small→∃ out,Spec C f (encArgs ss ds) [] (.bool true) out
theorem VS.empty {M:Heap} (h:M.Ok):VS (λ_=>False) VI.none [] M :=
 ⟨λ_ _ h=>(nomatch h),λ_ _ _ _ _ h=>(nomatch h),λi x h=>by simp [dJ] at h,λ_ h=>(nomatch h),λ_ h=>(nomatch h),h,λ_ h=>h.elim⟩
theorem arn:OR (λ_=>False) VI.none=λ_=>False:=by
 funext j
 simp [OR,own,VI.none]
theorem afF {H:Type} {enc:TypeId×Value→H} {P:Program} (hl:laidOutB P=true) {f:FuncId} {C:bP} (hg:Sound P f (C f)) {ss:List Sh} {small:Nat} (hp:awv C f ss small)
  {W:World} {k base:Nat} {ts:List TypeId} {args:Array Value} {ds:List (DataW H)} {p:List MemPlace} (hs:YP P k ts=some ss) (ht:(ts.all λt=>decide (t < P.types.size))=true)
  (hval:∀ (j:Nat) t v,ts[j]?=some t→args.toList[j]?=some v→Value.okWide P W .any base t v) (hA:DataW.TrodAll enc P W 0 (λ_=>true) true ts args.toList ds p) (hb:D.Br (ds.map Fq)≤small) :
  Calls P f args W λe W'=>e=.returned (.bool true)∧Below W.heap.size W W':=by
 obtain ⟨ι,M,as,g1,g2,g3,g4⟩:=acC hl ts ss args.toList ds p hs ht hval hA _ _ (R.empty W) (λb x h=>by simp [Heap.empty] at h)
 obtain ⟨out,hH⟩:=hp _ g4 hb
 have hw:M.Ok:=λb hb=>(g1.rel.fresh b hb).1
 have g3':bV M (OR (λ_=>False) VI.none) VI.none (encArgs ss (ds.map Fq)) as:=by rw [arn];exact g3
 obtain ⟨a,M',nO,e1,e2,_,e3⟩:=hH _ VI.none M as (VS.empty hw) g3'
 simp only [VL] at e3
 subst e3
 refine (hg as M _ M' e1 ι W args g1.rel g2).mono ?_
 rintro e w' ⟨bL,v',rfl,hv,htr⟩
 simp only [VR] at hv
 subst hv
 exact ⟨rfl,afm htr g1.ro⟩
end Go.Proofs.YtohoggieaanllaaGreat
end
section
set_option linter.all false
set_option linter.unusedSimpArgs false
namespace Go.Proofs.YtohoggieaanllaaGreat
def KK:Nat:=2000000000000
abbrev Tab:=adF×(FuncId→Option bC)
abbrev aB (A:Tab) (d:Nat):bP:=qX A.1 A.2 KK d
theorem VS.aww {R:Nat→Prop} {ι:VI} {H:WH} {M:Heap} (s:VS R ι H M) (y:mU):VS R ι H (M.push y)∧Stp H.length [] ι H M ι H (M.push y):=by
 have hk:Keeps M (own ι) (M.push y) (own ι):=⟨Nat.le_succ _,λb hb ho=>⟨by simp [Heap.push,Nat.ne_of_lt hb],ho⟩⟩
 refine ⟨⟨λi j h=>?_,s.inj,λi x hx=>?_,s.CP,s.Cq,λb hb=>?_,λj h=>⟨by simp only [Heap.push];have:=(s.res j h).1;omega,(s.res j h).2⟩⟩,⟨hk,.refl _ _,λ_ _ h=>h,λ_ _=>rfl,λ_ _=>rfl,λ_ _ _=>rfl,λ_ _ h=>h,λi j _ _ hj _=>?_,Nat.le_refl _⟩⟩
 ·have:=s.lt i j h
  simp only [Heap.push]
  omega
 ·rcases s.blk i x hx with h | ⟨j,h1,h2,h3⟩
  ·exact .inl h
  refine .inr ⟨j,h1, ?_,h3⟩
  have:=(s.lt i j h1).2
  simp only [Heap.push,if_neg (show j≠M.next by omega)]
  exact h2.mono (hk.or R) (λ_=>.refl _ _) (λ_ h=>h)
 ·simp only [Heap.push] at hb ⊢
  rw [if_neg (by omega)]
  exact s.okM b (by omega)
 ·have:=(s.lt i j hj).2
  simp only [Heap.push,if_neg (show j≠M.next by omega)]
def KQ (sz bytes:Nat) (zero:List AV):bC:={ nargs:=1,ntmps:=8,code:=(.seq (.reg [{ dst:=(some 2),op:=(.p (.move (.c (.slice none 1 0 0 true)))),guard:=none }]) (.seq (.seq (.reg [{ dst:=(some 3),op:=(.p (.move (.t 0))),guard:=none },{ dst:=(some 4),op:=(.p (.eqN false (.t 3) (.c (.slice none 1 0 0 true)))),guard:=none }]) (.cond (.t 4) (.seq (.reg [{ dst:=(some 2),op:=(.p (.move (.c (.slice none 1 0 0 true)))),guard:=none }]) .ret) .skip)) (.seq (.reg [{ dst:=(some 5),op:=(.k (.buildSlice sz 0 zero [])),guard:=none },{ dst:=(some 6),op:=(.p (.move (.t 0))),guard:=none },{ dst:=(some 7),op:=(.n (.append sz bytes (.t 5) (.t 6))),guard:=none },{ dst:=(some 2),op:=(.p (.move (.t 7))),guard:=none }]) .ret))),results:=[(.tmp 2)] }
theorem akW (C:bP) (K sz bytes:Nat) (zero:List AV) (M:Heap) (sz' len cap:Nat) (ex:Bool) :
  bbody C K (KQ sz bytes zero) [.slice none sz' len cap ex] M=some (.slice none 1 0 0 true,M):=by
 simp [bbody,KQ,start,List.replicate,List.replicate_succ,vR,vQ,vP,zV,Proofs.YtohoggieaanllaaGreat.vN,vO,CJ.sub,mV.sub,AX.sub,Sv,aP,adv,AX.ev,aU,l6,Fu,PU]
theorem ahZ (C:bP) (K sz bytes:Nat) (zero:List AV) (M:Heap) (q:Nat×Nat) (len cap:Nat) (ex:Bool) (n:Nat) (cs:List AV) (he:nu (.slice (some q) sz len cap ex) (M.push (.cells [] false false))=some (n,cs)) (hn:n * bytes≤70368744177664∧n≤70368744177664) :
  bbody C K (KQ sz bytes zero) [.slice (some q) sz len cap ex] M=if n=0 then some (.slice (some (M.next,0)) sz 0 0 true,M.push (.cells [] false false)) else some (.slice (some (M.next+1,0)) sz n n false,(M.push (.cells [] false false)).push (.cells cs false true)):=by
 have pn:∀ (x:mU),(M.push x).next=M.next+1:=λ_=>rfl
 have hap:gq sz bytes (.slice (some (M.next,0)) sz 0 0 true) n cs (M.push (.cells [] false false))=if n=0 then some (.slice (some (M.next,0)) sz 0 0 true,M.push (.cells [] false false)) else some (.slice (some (M.next+1,0)) sz n n false,(M.push (.cells [] false false)).push (.cells cs false true)):=by
  unfold gq
  by_cases h0:n=0
  ·subst h0
   simp
  ·simp only
   rw [if_neg (by simp),if_neg (by omega),if_pos (by simpa using hn),if_neg h0]
   simp [pn]
 by_cases h0:n=0
 ·subst h0
  simp only [if_true] at hap ⊢
  simp [bbody,KQ,start,List.replicate,List.replicate_succ,vR,vQ,vP,zV,CJ.sub,mV.sub,MF.sub,Gz.sub,AX.sub,aU,Proofs.YtohoggieaanllaaGreat.vN,vO,Sv,aP,aK,aN,adv,AX.ev,jX,tL,Mk.val,eX,he,hap,l6,Fu,PU]
 ·simp only [if_neg h0] at hap ⊢
  simp [bbody,KQ,start,List.replicate,List.replicate_succ,vR,vQ,vP,zV,CJ.sub,mV.sub,MF.sub,Gz.sub,AX.sub,aU,Proofs.YtohoggieaanllaaGreat.vN,vO,Sv,aP,aK,aN,adv,AX.ev,jX,tL,Mk.val,eX,he,hap,l6,Fu,PU]
theorem afG {x:AV} {M:Heap} {y:mU} {n:Nat} {cs:List AV} (ok:M.Ok) (h:nu x M=some (n,cs)):nu x (M.push y)=some (n,cs):=by
 unfold nu at h ⊢
 split at h
 ·exact h
 ·split at h
  ·rename_i hl
   rw [if_pos hl]
   exact h
  ·rename_i hl
   rw [if_neg hl]
   obtain ⟨c,h1,h2⟩:=Option.map_eq_some_iff.1 h
   rw [Option.map_eq_some_iff]
   refine ⟨c, ?_,h2⟩
   rename_i b _ _ _ _ _
   have hb:M.get b≠none:=λe=>by simp [Heap.read,e] at h1
   have hne:b≠M.next:=λe=>hb (by rw [e];exact ok M.next (Nat.le_refl _))
   have:(M.push y).get b=M.get b:=by simp only [Heap.push,if_neg hne]
   simp only [Heap.read,this] at h1 ⊢
   exact h1
 ·exact h
 ·cases h
theorem acD {T:Tab} {d:Nat} {f:FuncId} {sz bytes:Nat} {zero:List AV} (hG:T.1 f=none) (hT:T.2 f=some (KQ sz bytes zero)):BOk (aB T (d+1)) f (.clone sz bytes):=by
 intro R ι H M args as dst tr k s hv h
 simp only [wBt] at h
 split at h
 case h_2=>exact h.elim
 rename_i v
 match as,hv with
 | [],hv=>simp [bV] at hv
 | _::_::_,hv=>simp [bV] at hv
 | [a],hv =>
 simp only [bV] at hv
 replace hv:=hv.1
 have run:aB T (d+1) f [a] M=bbody (aB T d) KK (KQ sz bytes zero) [a] M:=by simp only [aB,qX,hG,hT]
 rw [run]
 split at h
 ·exact h.elim
 rename_i hstr
 split at h
 case h_2=>exact h.elim
 rename_i n cs S hel
 obtain ⟨_,h⟩:=Yv h
 obtain ⟨lG,hf,hk⟩:=nP h
 have hf':=U7 hf
 obtain ⟨e1,e2,cs',e3,e4⟩:=U8 s hv hel
 obtain ⟨u1,u2⟩:=s.akO S (Np hel)
 have hlen:(KM H S).length=H.length:=xQ S H
 have hn0:n=0→cs=[]:=λe=>by
  subst e
  rw [Nat.zero_mul] at e2
  exact List.eq_nil_of_length_eq_zero e2
 -- which it is
 have hcase:(∃ s' l c x,a=.slice none s' l c x)∨∃ q l c x,a=.slice (some q) sz l c x:=by
  cases a with
  | slice p s' l c x =>
   cases p with
   | none=>exact .inl ⟨_,_,_,_,rfl⟩
   | some q =>
    simp [eX] at e1
    subst e1
    exact .inr ⟨_,_,_,_,rfl⟩
  | str t =>
   exfalso
   cases v with
   | str t=>exact hstr t rfl
   | ptr p=>cases p<;>simp [VL] at hv
   | slice p=>cases p<;>simp [VL] at hv
   | map p=>cases p<;>simp [VL] at hv
   | _=>simp_all [VL,Ni]
  | _=>simp [eX] at e1
 rcases hcase with ⟨s',l,c,x,rfl⟩ | ⟨q,l,c,x,rfl⟩
 ·simp only [nu,Option.some.injEq,Prod.mk.injEq] at e3
  simp only [eX,beq_iff_eq] at e1
  obtain ⟨rfl,rfl⟩:=e3
  subst e1
  obtain rfl:=hn0 rfl
  rw [akW]
  obtain ⟨bL,q1,q2,q3⟩:=Ta u1 sz 1 none (by simp)
  rw [hlen] at q2 q3
  refine ⟨_,M,bL,_,_,[],lG,rfl,q1, ?_,q3,hk⟩
  have:=u2.trans q2 (Nat.le_refl _)
  simpa using this
 ·obtain ⟨s1,k1⟩:=u1.aww (.cells [] false false)
  have he':=afG (y:=.cells [] false false) s.okM e3
  rw [ahZ (aB T d) KK sz bytes zero M q l c x n cs' he' hf']
  by_cases hn:n=0
  ·rw [if_pos hn]
   obtain rfl:=hn0 hn
   subst hn
   obtain ⟨bL,q1,q2,q3⟩:=Ta s1 sz sz (some (M.next,0)) (λ_=>rfl)
   rw [hlen] at q2 q3 k1
   refine ⟨_,_,bL,_,_,[],lG,rfl,q1, ?_,q3,hk⟩
   have:=(u2.trans k1 (Nat.le_refl _)).trans q2 (Nat.le_refl _)
   simpa using this
  ·rw [if_neg hn]
   have e4':=bV.acv k1 e4
   obtain ⟨bL,q1,q2,q3⟩:=Yr s1 (cs:=cs) (cs':=cs') e4' e2 false true
   rw [hlen] at q2 q3 k1
   refine ⟨_,_,bL,_,_,[],lG,rfl,q1, ?_,q3,hk⟩
   have:=(u2.trans k1 (Nat.le_refl _)).trans q2 (Nat.le_refl _)
   simpa using this
def Qx (sz:Nat):bC:={ nargs:=1,ntmps:=9,code:=(.seq (.reg [{ dst:=(some 2),op:=(.p (.move (.c (.slice none 1 0 0 true)))),guard:=none }]) (.seq (.reg [{ dst:=(some 3),op:=(.p (.move (.t 0))),guard:=none },{ dst:=(some 4),op:=(.p (.move (.t 0))),guard:=none },{ dst:=(some 5),op:=(.p (.len false (.t 4))),guard:=none },{ dst:=(some 6),op:=(.p (.move (.t 0))),guard:=none },{ dst:=(some 7),op:=(.p (.len false (.t 6))),guard:=none },{ dst:=(some 8),op:=(.p (.slice sz (.t 3) none (some (.t 5)) (some (.t 7)))),guard:=none },{ dst:=(some 2),op:=(.p (.move (.t 8))),guard:=none }]) .ret)),results:=[(.tmp 2)] }
theorem Tf (C:bP) (K sz:Nat) (M:Heap) (p:Option (Nat×Nat)) (s' n cap:Nat) (ex:Bool) (hn:n≤cap) (hp:p≠none→s'=sz) :
  bbody C K (Qx sz) [.slice p s' n cap ex] M=some (.slice p sz n n true,M):=by
 have hs:jJ sz p s' n cap ex [] none (some (.c (.int .i64 n))) (some (.c (.int .i64 n)))=some (.slice p sz n n true):=by
  unfold jJ
  rw [if_pos (by cases p with
   | none=>exact .inl rfl
   | some p=>exact .inr (hp (by simp)))]
  have h1:(0:Int)≤n:=by omega
  have h2:(n:Int)≤cap:=by omega
  have h3:mo p 0=p:=by cases p<;>rfl
  simp [bW,pY,AX.ev,h1,h2,h3]
 simp [bbody,Qx,start,List.replicate,List.replicate_succ,vR,vQ,vP,zV,Proofs.YtohoggieaanllaaGreat.vN,vO,CJ.sub,mV.sub,AX.sub,AX.jl,Sv,aP,AX.ev,aU,hs,l6,Fu,PU]
theorem JC {T:Tab} {d:Nat} {f:FuncId} {sz:Nat} (hG:T.1 f=none) (hT:T.2 f=some (Qx sz)):BOk (aB T (d+1)) f (.clip sz):=by
 intro R ι H M args as dst tr k s hv h
 have run:∀ a,aB T (d+1) f [a] M=bbody (aB T d) KK (Qx sz) [a] M:=λa=>by simp only [aB,qX,hG,hT]
 simp only [wBt] at h
 split at h
 ·match as,hv with
  | [],hv=>simp [bV] at hv
  | _::_::_,hv=>simp [bV] at hv
  | [a],hv =>
  simp only [bV,VL] at hv
  obtain ⟨_,s',rfl⟩:=hv.1
  rw [run,Tf (aB T d) KK sz M none _ 0 0 true (Nat.le_refl _) (by simp)]
  exact ⟨_,M,ι,_,H,[],tr,rfl,s,.refl _ _ _ _ _ (Nat.le_refl _),by simp [VL],h⟩
 ·match as,hv with
  | [],hv=>simp [bV] at hv
  | _::_::_,hv=>simp [bV] at hv
  | [a],hv =>
  split at h
  case h_2=>exact h.elim
  rename_i e
  obtain rfl:=Nat.eq_of_beq_eq_true e
  simp only [bV,VL] at hv
  rcases hv.1 with ⟨rfl,rfl,s',rfl⟩ | ⟨b,o,cap,ex',rfl,h1,h2,h3,h4⟩
  ·rw [run,Tf (aB T d) KK _ M none _ 0 0 true (Nat.le_refl _) (by simp)]
   exact ⟨_,M,ι,_,H,[],tr,rfl,s,.refl _ _ _ _ _ (Nat.le_refl _),by simp [VL],h⟩
  ·rw [run,Tf (aB T d) KK _ M (some (b,o)) _ _ cap ex' h1 (λ_=>rfl)]
   refine ⟨_,M,ι,_,H,[],tr,rfl,s,.refl _ _ _ _ _ (Nat.le_refl _), ?_,h⟩
   simp only [VL]
   exact .inr ⟨b,o,_,true,rfl,Nat.le_refl _,λ_=>⟨rfl,rfl⟩,h3,h4⟩
 ·match as,hv with
  | [],hv=>simp [bV] at hv
  | _::_::_,hv=>simp [bV] at hv
  | [a],hv =>
  split at h
  case h_2=>exact h.elim
  rename_i e
  obtain rfl:=Nat.eq_of_beq_eq_true e
  simp only [bV,VL] at hv
  obtain ⟨p,s',cap,ex,rfl,g1,g2,g3,m,L,g4,g5,g6,g7⟩:=hv.1
  rw [run,Tf (aB T d) KK _ M p s' _ cap ex g1 g3]
  refine ⟨_,M,ι,_,H,[],tr,rfl,s,.refl _ _ _ _ _ (Nat.le_refl _), ?_,h⟩
  simp only [VL]
  refine ⟨p,_,_,true,rfl,Nat.le_refl _,λhp=>⟨?_,rfl⟩,λ_=>rfl,m,L,g4,g5,g6, ?_⟩
  ·have:=(g2 hp).1
   omega
  ·rcases g7 with ⟨j,q1,q2⟩ | ⟨q1,q2,q3,q4,q5⟩
   ·refine .inl ⟨j,q1, ?_⟩
    rcases q2 with ⟨q2,q3⟩ | ⟨q2,q3,q4⟩
    ·exact .inl ⟨q2,Nat.le_trans (Nat.add_le_add_left (Nat.mul_le_mul_right _ g1) _) q3⟩
    ·exact .inr ⟨q2,q2,rfl⟩
   ·exact .inr ⟨q1,q2,q2,rfl,q5⟩
 ·exact h.elim
end Go.Proofs.YtohoggieaanllaaGreat
end
section
set_option linter.all false
set_option linter.unusedSimpArgs false
namespace Go.Proofs.YtohoggieaanllaaGreat
abbrev oP (d:Nat) (o:mV):w9:={ dst:=some d,op:=.p o,guard:=none }
abbrev oV (d s:Nat):w9:={ dst:=some d,op:=.p (.move (.t s)),guard:=none }
abbrev oC (d:Nat) (v:AV):w9:={ dst:=some d,op:=.p (.move (.c v)),guard:=none }
abbrev oN (d:Nat) (o:Gz):w9:={ dst:=some d,op:=.n o,guard:=none }
abbrev oZ (o:Gz):w9:={ dst:=none,op:=.n o,guard:=none }
abbrev oD (o:w9) (lo ix:Nat):fO:={ o:=o,lo:=lo,ix:=ix }
abbrev iC (n:Int):AX:=.c (.int .i64 n)
def JD (b:UInt8):AV:=.int .u8 b.toNat
def lS (l:List (List UInt8)):AV:=.list 1 l.length (l.map AV.str) false
def Em (x:Int):UInt8:=UInt8.ofNat (IntKind.u8.wrap x).toNat
theorem avy (x:Int):JD (Em x)=.int .u8 (IntKind.u8.wrap x):=by
 have h:0≤IntKind.u8.wrap x∧IntKind.u8.wrap x < 256:=by
  simp only [IntKind.wrap,IntKind.signed,IntKind.bits]
  constructor
  ·simp;omega
  ·simp;omega
 simp only [JD,Em,AV.int.injEq,true_and,UInt8.toNat_ofNat']
 omega
def bO {α:Type} (L:List α) (i:Int):Option α:=if 0≤i then L[i.toNat]? else none
def LQ {α:Type} (L:List α) (lo hi:Int):Option (List α):=if 0≤lo∧lo≤hi∧hi≤(L.length:Int) then some ((L.drop lo.toNat).take (hi.toNat - lo.toNat)) else none
def EA (k:IntKind) (x y:Int):Int:=k.wrap (BitVec.ofInt k.bits x &&& BitVec.ofInt k.bits y).toNat
def orI (k:IntKind) (x y:Int):Int:=k.wrap (BitVec.ofInt k.bits x ||| BitVec.ofInt k.bits y).toNat
def aro (k:IntKind) (x y:Int):Int:=k.wrap (x * 2 ^ (min y.toNat k.bits))
def aa6 (k:IntKind) (x y:Int):Int:=x.fdiv (2 ^ (min y.toNat k.bits))
def arp (k:IntKind) (x y:Int):Option Int:=if y=0 then none else some (x.tmod y)
def akX (k:IntKind) (x y:Int):Option Int:=if y < 0 then none else some (k.wrap (x * 2 ^ (min y.toNat k.bits)))
structure Row {α:Type} (F:List α→List AV) (e:α→List AV) (sz:Nat):Prop where
 nil:F []=[]
 cons:∀ x l,F (x::l)=e x++F l
 len:∀ x,(e x).length=sz
theorem PG {α:Type} (c:α→AV):Row (λl=>l.map c) (λx=>[c x]) 1:=⟨rfl,λ_ _=>rfl,λ_=>rfl⟩
theorem Fy {α:Type} {e:α→List AV} {sz:Nat} (h:∀ x,(e x).length=sz):Row (λl=>l.flatMap e) e sz:=⟨rfl,λ_ _=>rfl,h⟩
section
variable {α:Type} {F:List α→List AV} {e:α→List AV} {sz:Nat} (hF:Row F e sz)
include hF
theorem Row.app:∀ a b:List α,F (a++b)=F a++F b
 | [],b=>by simp [hF.nil]
 | x::a,b=>by rw [List.cons_append,hF.cons,hF.cons,Row.app a b,List.append_assoc]
theorem Row.length:∀ l:List α,(F l).length=l.length * sz
 | []=>by simp [hF.nil]
 | x::l=>by rw [hF.cons,List.length_append,hF.len,Row.length l,List.length_cons,Nat.succ_mul,Nat.add_comm]
theorem Row.drop:∀ (l:List α) (n:Nat),(F l).drop (n * sz)=F (l.drop n)
 | l,0=>by simp
 | [],n+1=>by simp [hF.nil]
 | x::l,n+1=>by
  rw [hF.cons,Nat.succ_mul,Nat.add_comm,List.drop_succ_cons,← Row.drop l n,← List.drop_drop,List.drop_left' (hF.len x)]
theorem Row.take:∀ (l:List α) (n:Nat),(F l).take (n * sz)=F (l.take n)
 | l,0=>by simp [hF.nil]
 | [],n+1=>by simp [hF.nil]
 | x::l,n+1=>by
  rw [hF.cons,Nat.succ_mul,Nat.add_comm,List.take_succ_cons,hF.cons,← Row.take l n,List.take_append,hF.len,List.take_of_length_le (by rw [hF.len];omega)]
  congr 2
  omega
theorem Row.get {l:List α} {i:Nat} {x:α} (h:l[i]?=some x):(F l).drop (i * sz)=e x++F (l.drop (i+1)):=by
 rw [hF.drop]
 obtain ⟨h1,h2⟩:=List.getElem?_eq_some_iff.1 h
 rw [List.drop_eq_getElem_cons h1,h2,hF.cons]
theorem BO {l:List α} {i:Int} {x:α} (h:bO l i=some x):0≤i∧i < (l.length:Int)∧l[i.toNat]?=some x:=by
 unfold bO at h
 split at h
 case isFalse=>cases h
 rename_i h0
 have:=(List.getElem?_eq_some_iff.1 h).1
 exact ⟨h0,by omega,h⟩
theorem CU {l r:List α} {a b:Int} (h:LQ l a b=some r):0≤a∧a≤b∧b≤(l.length:Int)∧r=(l.drop a.toNat).take (b.toNat - a.toNat)∧r.length=b.toNat - a.toNat:=by
 unfold LQ at h
 split at h
 case isFalse=>cases h
 rename_i h0
 obtain rfl:=Option.some.inj h
 refine ⟨h0.1,h0.2.1,h0.2.2,rfl, ?_⟩
 simp only [List.length_take,List.length_drop]
 omega
theorem avz {l:List α} {i:Int} {x:α} {k:IntKind} {ex:Bool} (h:bO l i=some x):wP (.j6 sz (.c (.list sz l.length (F l) ex)) (.c (.int k i)))=some (.elem (e x++F (l.drop (i.toNat+1)))):=by
 obtain ⟨h1,h2,h3⟩:=BO hF h
 simp only [wP,AX.ev]
 rw [if_pos ⟨h1,h2,trivial⟩,hF.get h3]
theorem Yx {l:List α} {i:Int} {x:α} {k:IntKind} {b:Nat} {w:Bool} (h:bO l i=some x):wP (.j6 sz (.c (.acc b 0 sz l.length w)) (.c (.int k i)))=some (.ptr (some (b,0+i.toNat * sz))):=by
 obtain ⟨h1,h2,h3⟩:=BO hF h
 simp only [wP,AX.ev]
 rw [if_pos ⟨h1,h2,trivial⟩]
theorem KR {k:IntKind} {n:Nat} {i:Int} (h1:0≤i) (h2:i≤(n:Int)):pY (.int k i) n=some i.toNat:=by
 simp only [pY]
 rw [if_pos ⟨h1,h2⟩]
theorem am4 {l r:List α} {a b:Int} {k k':IntKind} {ex:Bool} (h:LQ l a b=some r):wP (.slice sz (.c (.list sz l.length (F l) ex)) (some (.c (.int k a))) (some (.c (.int k' b))) none)=some (.list sz r.length (F r) false):=by
 obtain ⟨h1,h2,h3,h4,h5⟩:=CU hF h
 simp only [wP,AX.ev,YS,if_true,bW]
 rw [KR hF (by omega) h3,Option.bind_some,KR hF h1 (by omega),Option.bind_some,hF.drop,hF.take,← h4,h5]
theorem arq {l r:List α} {a:Int} {k:IntKind} {ex:Bool} (h:LQ l a l.length=some r):wP (.slice sz (.c (.list sz l.length (F l) ex)) (some (.c (.int k a))) none none)=some (.list sz r.length (F r) false):=by
 obtain ⟨h1,h2,h3,h4,h5⟩:=CU hF h
 simp only [wP,AX.ev,YS,if_true,bW,Option.bind_some]
 rw [KR hF h1 h2,Option.bind_some,hF.drop,hF.take]
 simp only [Int.toNat_natCast] at h4 h5
 rw [← h4,h5]
theorem ars {l r:List α} {b:Int} {k:IntKind} {ex:Bool} (h:LQ l 0 b=some r):wP (.slice sz (.c (.list sz l.length (F l) ex)) none (some (.c (.int k b))) none)=some (.list sz r.length (F r) false):=by
 obtain ⟨h1,h2,h3,h4,h5⟩:=CU hF h
 simp only [wP,AX.ev,YS,if_true,bW]
 rw [KR hF h2 h3,Option.bind_some,Option.bind_some]
 simp only [Int.toNat_zero,Nat.sub_zero,List.drop_zero,Nat.zero_mul] at h4 h5 ⊢
 rw [hF.take,← h4,h5]
end
theorem adS {α:Type} (l r:List α):l.length+r.length=(l++r).length:=by simp
theorem Ns:∀ s:List UInt8,kN (s.map JD)=some s
 | []=>rfl
 | b::s=>by
  simp only [List.map_cons,JD,kN]
  rw [show (s.map JD)=s.map JD from rfl,Ns s]
  simp
theorem avA {k:IntKind} {x y q:Int} (h:arp k x y=some q):Jr .rem k x y=some (.int k q):=by
 unfold arp at h
 simp only [Jr]
 split at h
 ·cases h
 ·rename_i e
  rw [if_neg e]
  obtain rfl:=Option.some.inj h
  rfl
theorem am5 {s r:List UInt8} {b:Int} {k':IntKind} (h:LQ s 0 b=some r):wP (.oJ (.c (.str s)) none (some (.c (.int k' b))))=some (.str r):=by
 obtain ⟨h1,h2,h3,h4,h5⟩:=CU (PG JD) h
 simp only [wP,aP,AX.ev,E9,bW]
 rw [KR (PG JD) h2 h3,Option.bind_some,Option.bind_some]
 simp only [Int.toNat_zero,Nat.sub_zero,List.drop_zero] at h4 ⊢
 rw [← h4]
theorem am6 {α:Type} {F:List α→List AV} {c:α→AV} (hF:Row F (λx=>[c x]) 1) {l:List α} {i:Int} {k:IntKind} {x:α} {n:Nat} (h:bO l i=some x) (hn:n=l.length:=by rfl):wP (.index false n 1 (.c (.agg (F l))) (.c (.int k i)))=some (c x):=by
 subst hn
 obtain ⟨h1,h2,h3⟩:=BO hF h
 have:=hF.get h3
 simp only [wP,aP,AX.ev]
 rw [if_pos ⟨h1,h2⟩]
 have e:((F l).drop (i.toNat * 1))[0]?=some (c x):=by rw [this];rfl
 rw [List.getElem?_drop] at e
 simp only [Ej]
 simpa using e
def jI {α β:Type}:α⊕β→Bool
 | .inl _=>true
 | .inr _=>false
def CV {α β:Type} [Inhabited α]:α⊕β→α
 | .inl x=>x
 | .inr _=>default
def JE {α β:Type} [Inhabited β]:α⊕β→β
 | .inl _=>default
 | .inr x=>x
theorem awx {α β:Type} [Inhabited α] {e:α⊕β} (h:jI e=true):e=.inl (CV e):=by cases e<;>simp_all [jI,CV]
theorem awy {α β:Type} [Inhabited β] {e:α⊕β} (h:jI e=false):e=.inr (JE e):=by cases e<;>simp_all [jI,JE]
end Go.Proofs.YtohoggieaanllaaGreat
end
section
set_option linter.all false
set_option linter.unusedSimpArgs false
namespace Go.Proofs.YtohoggieaanllaaGreat
instance avB {α β:Type} [Inhabited α]:Inhabited (α⊕β):=⟨.inl default⟩
theorem adT (x:Int):some (AV.int .u8 (IntKind.u8.wrap x))=some (AV.int .u8 ((Em x).toNat:Int)):=by rw [← avy];rfl
theorem au3 {z y:Int} (h:z=IntKind.u8.wrap y):some (AV.int .u8 z)=some (AV.int .u8 ((Em z).toNat:Int)):=by
 have h1:0≤IntKind.u8.wrap y∧IntKind.u8.wrap y < 256:=by
  simp only [IntKind.wrap,IntKind.signed,IntKind.bits]
  constructor
  ·simp;omega
  ·simp;omega
 have e:IntKind.u8.wrap z=z:=by
  subst h
  generalize IntKind.u8.wrap y=z at *
  simp only [IntKind.wrap,IntKind.signed,IntKind.bits]
  simp
  omega
 have:=adT z
 rwa [e] at this
theorem acE:∀ (n:Nat) {a b l:List AV},Nh n a=some l→Nh n (a++b)=some l
 | 0,_,_,_,h=>by simpa [Nh] using h
 | n+1,[],_,_,h=>by simp [Nh] at h
 | n+1,c::a,b,l,h=>by
  simp only [Nh,List.cons_append] at h ⊢
  split at h
  ·rename_i l' hl
   rw [acE n hl]
   exact h
  ·cases h
theorem aj4:∀ {a b:List AV} (o:Nat) {v:AV},cAt a o=some v→cAt (a++b) o=some v
 | [],_,_,_,h=>by simp [cAt] at h
 | c::a,b,0,v,h=>by simpa [cAt] using h
 | c::a,b,o+1,v,h=>by
  simp only [cAt,List.cons_append] at h ⊢
  exact aj4 o h
theorem afH:∀ (c:List AV) (n o:Nat),cAt c (n+o)=cAt (c.drop n) o
 | c,0,o=>by simp
 | [],n+1,o=>by
  simp only [List.drop_nil]
  cases (n+1+o)<;>cases o<;>simp [cAt]
 | x::c,n+1,o=>by
  rw [Nat.add_right_comm,List.drop_succ_cons,← afH c n o]
  rfl
theorem acF {a b:List AV} {agg:Bool} {o n:Nat} {v:AV} (h:Bv agg o n a=some v):Bv agg o n (a++b)=some v:=by
 cases agg with
 | false=>exact aj4 o h
 | true =>
  simp only [Bv] at h ⊢
  rw [List.drop_append]
  split at h
  ·rename_i l hl
   rw [acE n hl]
   exact h
  ·cases h
theorem KS {c:List AV} {agg:Bool} {m o n:Nat}:Bv agg (m+o) n c=Bv agg o n (c.drop m):=by
 cases agg with
 | false=>exact afH c m o
 | true=>simp only [Bv,List.drop_drop]
section
variable {α:Type} {F:List α→List AV} {e:α→List AV} {sz:Nat} (hF:Row F e sz)
include hF
theorem am7 {l:List α} {i:Int} {x:α} {agg:Bool} {o n:Nat} {v:AV} (h:bO l i=some x) (hv:Bv agg o n (e x)=some v):Bv agg (0+i.toNat * sz+o) n (F l)=some v:=by
 obtain ⟨h1,h2,h3⟩:=BO hF h
 rw [Nat.zero_add,KS,hF.get h3]
 exact acF hv
theorem aj5 {a b b' c cs:List AV} {o:Nat} (h:U2 b o cs=some b'):U2 (a++(b++c)) (a.length+o) cs=some (a++(b'++c)):=by
 unfold U2 at h ⊢
 split at h
 case isFalse=>cases h
 rename_i hl
 obtain rfl:=Option.some.inj h
 rw [if_pos (by simp only [List.length_append];omega)]
 congr 1
 have e1:(a++(b++c)).take (a.length+o)=a++b.take o:=by
  rw [List.take_length_add_append,List.take_append_of_le_length (by omega)]
 have e2:(a++(b++c)).drop (a.length+o+cs.length)=b.drop (o+cs.length)++c:=by
  rw [Nat.add_assoc,List.drop_length_add_append,List.drop_append_of_le_length (by omega)]
 rw [e1,e2]
 simp
theorem DT {l:List α} {i:Int} {x x':α} {o:Nat} {cs:List AV} (h:bO l i=some x) (hx:U2 (e x) o cs=some (e x')):U2 (F l) (0+i.toNat * sz+o) cs=some (F (l.set i.toNat x')):=by
 obtain ⟨h1,h2,h3⟩:=BO hF h
 obtain ⟨g1,g2⟩:=List.getElem?_eq_some_iff.1 h3
 have e0:F l=F (l.take i.toNat)++(e x++F (l.drop (i.toNat+1))):=by
  rw [← hF.get h3,← hF.take,List.take_append_drop]
 have e1:F (l.set i.toNat x')=F (l.take i.toNat)++(e x'++F (l.drop (i.toNat+1))):=by
  rw [← hF.cons,← hF.app,List.set_eq_take_append_cons_drop,if_pos g1]
 have e2:(F (l.take i.toNat)).length=i.toNat * sz:=by
  rw [hF.length,List.length_take]
  congr 1
  omega
 rw [e0,e1,Nat.zero_add,← e2]
 exact aj5 hF hx
theorem Nt {l r:List α} {a b:Int} (h:LQ l a b=some r):((F l).drop (0+a.toNat * sz)).take (r.length * sz)=F r:=by
 obtain ⟨h1,h2,h3,h4,h5⟩:=CU hF h
 rw [Nat.zero_add,hF.drop,hF.take,h5,← h4]
theorem jR {l r:List α} {b:Int} (h:LQ l 0 b=some r):((F l).drop 0).take (r.length * sz)=F r:=by
 obtain ⟨h1,h2,h3,h4,h5⟩:=CU hF h
 simp only [Int.toNat_zero,List.drop_zero] at h4 h5 ⊢
 rw [hF.take,h5,← h4]
theorem ny {l r:List α} {b:Int} (h:LQ l 0 b=some r):(F l).take (r.length * sz)=F r:=by
 have:=jR hF h
 rwa [List.drop_zero] at this
theorem Y6 {l r:List α} {a:Int} {k:IntKind} {m:Nat} {w:Bool} (h:LQ l a l.length=some r):wP (.slice sz (.c (.acc m 0 sz l.length w)) (some (.c (.int k a))) none none)=some (.acc m (0+a.toNat * sz) sz r.length false):=by
 obtain ⟨h1,h2,h3,h4,h5⟩:=CU hF h
 simp only [wP,AX.ev,Hg,if_true,bW,Option.bind_some]
 rw [KR hF h1 h2,Option.bind_some]
 simp only [Int.toNat_natCast] at h5
 rw [h5]
theorem Y7 {l r:List α} {b:Int} {k:IntKind} {m:Nat} {w:Bool} (h:LQ l 0 b=some r):wP (.slice sz (.c (.acc m 0 sz l.length w)) none (some (.c (.int k b))) none)=some (.acc m 0 sz r.length false):=by
 obtain ⟨h1,h2,h3,h4,h5⟩:=CU hF h
 simp only [wP,AX.ev,Hg,if_true,bW]
 rw [KR hF h2 h3,Option.bind_some,Option.bind_some]
 simp only [Int.toNat_zero,Nat.sub_zero] at h5
 rw [h5,Nat.zero_mul,Nat.sub_zero]
theorem afI {x:α} {z:List AV} (hx:F [x]=z) (n:Nat):jX n z=F (List.replicate n x):=by
 induction n with
 | zero=>simp [jX,hF.nil]
 | succ n ih =>
  rw [List.replicate_succ,hF.cons,jX,ih]
  rw [hF.cons,hF.nil,List.append_nil] at hx
  rw [hx]
end
def afJ (bytes:Nat) (n:Int):Bool:=decide (0≤n∧n≤4611686018427387904∧bytes * n.toNat≤281474976710656)
theorem am8 {bytes:Nat} {n:Int} (h:afJ bytes n=true):wMk (.int .i64 n) (.int .i64 n) n.toNat bytes:=by
 obtain ⟨h1,h2,h3⟩:=of_decide_eq_true h
 have e:(n.toNat:Int)=n:=by omega
 refine ⟨by rw [e],by rw [e],by omega,h3⟩
abbrev bJ (f:Fast→Heap→Xq) (np:Nat) (i:Fast×WH) (o:Ex×Fast×WH):Prop:=ahM f np i.1 i.2 o.1 o.2.1 o.2.2
abbrev jg (keep:List Nat) (p:List AV×WH):Fast×WH:=(kQ keep p.1,p.2)
theorem am9 {k k':IntKind} {x y q:Int} (h:akX k x y=some q):UL .shl (.int k x) (.int k' y)=some (.int k q):=by
 unfold akX at h
 simp only [UL]
 split at h
 ·cases h
 ·rename_i e
  rw [if_neg e]
  obtain rfl:=Option.some.inj h
  rfl
def MK {α:Type} (l:List α) (i:Int) (x:α):List α:=l.take i.toNat++(x::l.drop i.toNat)
def ah0 (bytes:Nat) (i:Int) (n:Nat):Bool:=decide (0≤i∧i≤(n:Int))&&dh bytes (n+1)
theorem ana {bytes n:Nat} {i:Int} (h:ah0 bytes i n=true):0≤i∧i≤(n:Int):=by
 simp only [ah0,Bool.and_eq_true,decide_eq_true_eq] at h
 exact h.1
theorem anb {bytes:Nat} {i:Int} {α:Type} {l:List α} {x:α} (h:ah0 bytes i l.length=true):l.length+1=(MK l i x).length:=by
 have:=ana h
 simp only [MK,List.length_append,List.length_take,List.length_cons,List.length_drop]
 omega
theorem avC {bytes:Nat} {i:Int} {α:Type} {l:List α} {x:α} (h:ah0 bytes i l.length=true):dh bytes (MK l i x).length=true:=by
 rw [← anb h]
 simp only [ah0,Bool.and_eq_true] at h
 exact h.2
theorem aru {α:Type} {F:List α→List AV} {e:α→List AV} {sz:Nat} (hF:Row F e sz) {l:List α} {i:Int} {x:α} {cs:List AV} (h:cs=e x):(F l).take (i.toNat * sz)++(cs++(F l).drop (i.toNat * sz))=F (MK l i x):=by
 subst h
 unfold MK
 rw [hF.app,hF.cons,hF.take,hF.drop]
def GD {α:Type} (l:List α) (i j:Int):List α:=l.take i.toNat++l.drop j.toNat
def akY (i j:Int) (n:Nat):Bool:=decide (0≤i∧i < j∧j≤(n:Int))
theorem ah1 {n:Nat} {i j:Int} (h:akY i j n=true):0≤i∧i < j∧j≤(n:Int):=of_decide_eq_true h
theorem ane {i j:Int} {α:Type} {l:List α} (h:akY i j l.length=true):l.length - (j.toNat - i.toNat)=(GD l i j).length:=by
 have:=ah1 h
 simp only [GD,List.length_append,List.length_take,List.length_drop]
 omega
theorem aj6 {α:Type} {F:List α→List AV} {e:α→List AV} {sz:Nat} (hF:Row F e sz) {l:List α} {i j:Int}:(F l).take (i.toNat * sz)++(F l).drop (j.toNat * sz)=F (GD l i j):=by
 unfold GD
 rw [hF.app,hF.take,hF.drop]
theorem anf {α:Type} {n sz b off:Nat} {k:IntKind} {l:List α} {i:Int} {x:α} (h:bO l i=some x) (hn:l.length=n):wP (.xA n sz (.c (.ptr (some (b,off)))) (.c (.int k i)))=some (.ptr (some (b,off+i.toNat * sz))):=by
 have h1:0≤i∧i < (n:Int):=by
  unfold bO at h
  split at h
  ·have:=(List.getElem?_eq_some_iff.1 h).1
   omega
  ·cases h
 simp only [wP,AX.ev,aP]
 rw [if_pos h1]
section
variable {α:Type} {F:List α→List AV} {e:α→List AV} {sz:Nat} (hF:Row F e sz)
include hF
theorem avD {l:List α} {i:Int} {x:α} {agg:Bool} {o n p:Nat} {v:AV} {whole:List AV} (h:bO l i=some x) (hw:(whole.drop p).take (l.length * sz)=F l) (hv:Bv agg o n (e x)=some v):Bv agg (p+i.toNat * sz+o) n whole=some v:=by
 have h1:=am7 hF h hv
 rw [← hw] at h1
 rw [Nat.zero_add] at h1
 have e1:whole=whole.take p++((whole.drop p).take (l.length * sz)++(whole.drop p).drop (l.length * sz)):=by rw [List.take_append_drop,List.take_append_drop]
 rw [KS] at h1
 rw [show p+i.toNat * sz+o=p+(i.toNat * sz+o) from Nat.add_assoc _ _ _,KS]
 have h2:=acF (b:=(whole.drop p).drop (l.length * sz)) h1
 obtain ⟨g1,g2,g3⟩:=BO hF h
 have hl:(whole.drop p).take (l.length * sz)=F l:=hw
 have hlen:((whole.drop p).take (l.length * sz)).length=l.length * sz:=by rw [hl,hF.length]
 have hi:i.toNat * sz≤l.length * sz:=Nat.mul_le_mul_right _ (by omega)
 rw [← List.drop_append_of_le_length (by omega),List.take_append_drop,List.drop_drop] at h2
 rw [KS,List.drop_drop]
 exact h2
theorem avE {l l':List α} {i:Int} {x x':α} {o p:Nat} {cs whole after:List AV} (h:bO l i=some x) (hl:l'=l.set i.toNat x') (hx:U2 (e x) o cs=some (e x')) (hp:p≤whole.length) (hw:(whole.drop p).take (l.length * sz)=F l) (ha:after=whole.take p++(F l'++whole.drop (p+l.length * sz))) :
  U2 whole (p+i.toNat * sz+o) cs=some after:=by
 have h1:=DT hF h hx
 rw [Nat.zero_add] at h1
 have h2:=aj5 (a:=whole.take p) (c:=whole.drop (p+l.length * sz)) hF h1
 have e1:whole=whole.take p++(F l++whole.drop (p+l.length * sz)):=by
  rw [← hw,← List.drop_drop,List.take_append_drop,List.take_append_drop]
 rw [← e1,List.length_take,Nat.min_eq_left hp,← hl,← ha] at h2
 rw [Nat.add_assoc]
 exact h2
end
theorem avF {α:Type} {F:List α→List AV} {e:α→List AV} {sz:Nat} (hF:Row F e sz) {l:List α} {i:Int} {k:IntKind} {x:α} {n:Nat} (h:bO l i=some x) (hn:n=l.length:=by rfl):wP (.index true n sz (.c (.agg (F l))) (.c (.int k i)))=some (.agg (e x)):=by
 subst hn
 obtain ⟨h1,h2,h3⟩:=BO hF h
 have:=hF.get h3
 simp only [wP,aP,AX.ev]
 rw [if_pos ⟨h1,h2⟩]
 simp only [Ej,if_true]
 rw [this,List.take_left' (hF.len x)]
theorem nB {C:bP} (f:FuncId) (b:Bt) (h:(λ_=>none:FuncId→Option Bt) f=some b):BOk C f b:=by cases h
theorem il {α β:Type} [Inhabited α] {e:α⊕β} (h:jI e=true):e=.inl (CV e):=awx h
theorem zy {α β:Type} [Inhabited β] {e:α⊕β} (h:jI e=false):e=.inr (JE e):=awy h
theorem jA {β:Type} {fin:β→Ex×Fast×WH} {r r':β} (e:r=r') {f:Fast→Heap→Xq} {np:Nat} {i:Fast×WH} (h:bJ f np i (fin r)):bJ f np i (fin r'):=e ▸ h
def codeOf:Option bC→bG
 | some f=>f.code
 | none=>.fail
def cA:bG→bG
 | .seq a _=>a
 | c=>c
def cB:bG→bG
 | .seq _ b=>b
 | c=>c
def cT:bG→bG
 | .cond _ a _=>a
 | c=>c
def cF:bG→bG
 | .cond _ _ b=>b
 | c=>c
def cK:bG→bG
 | .block _ c=>c
 | c=>c
def cL:bG→bG
 | .loop _ c=>c
 | c=>c
def En (keep:List Nat):Lf:=.en keep (keep.map λ_=>none) [] []
def E0 {Q:Type} {v:Q} (keep:List Nat):Tc (some v):=.leaf (En keep) v
def E1 {Q:Type} {v:Q} (keep:List Nat) (ms bs:List (Option Bool)) (ts:List AV):Tc (some v):=.leaf (.en keep ms bs ts) v
def Fn {Q:Type} {v:Q} (m:Option Bool) (ts:List AV) (mc:Option Bool):Tc (some v):=.leaf (.fin m ts mc) v
def Fo:Option Bool:=some false
def Tw:Option Bool:=some true
def iN {G:adF} {T:FuncId→Option bC} {f:FuncId} {x:bC} (hG:G f=none) (hT:T f=some x) (hc:x.code.bB=true):G f=none∧T f=some x∧x.code.bB=true:=⟨hG,hT,hc⟩
section
variable {Q:Type} {f:Option Q}
section
variable {α:Type} {F:List α→List AV} {e:α→List AV} {sz:Nat} (hF:Row F e sz) {l r:List α} {i j:Int} {x:α}
def Ix (d:Nat) (h:bO l i=some x) (k:Tc f):Tc f:=.v d (.elem (e x++F (l.drop (i.toNat+1)))) (.ob (avz (k:=.i64) (ex:=false) hF h) k)
def Si (d:Nat) (h:LQ l 0 j=some r) (k:Tc f):Tc f:=.v d (.list sz r.length (F r) false) (.ob (ars (k:=.i64) (ex:=false) hF h) k)
def Sl (d:Nat) (h:LQ l i l.length=some r) (k:Tc f):Tc f:=.v d (.list sz r.length (F r) false) (.ob (arq (k:=.i64) (ex:=false) hF h) k)
def Sb (d:Nat) (h:LQ l i j=some r) (k:Tc f):Tc f:=.v d (.list sz r.length (F r) false) (.ob (am4 (k:=.i64) (k':=.i64) (ex:=false) hF h) k)
def Ia (d b:Nat) (h:bO l i=some x) (k:Tc f):Tc f:=.v d (.ptr (some (b,0+i.toNat * sz))) (.ob (Yx (k:=.i64) (b:=b) (w:=true) hF h) k)
def Ld (d:Nat) (agg:Bool) (n o:Nat) (h:bO l i=some x) (u:AV) (hv:Bv agg o n (e x)=some u) (k:Tc f):Tc f:=.v d u (.ob (am7 hF h hv) k)
def Ap (d:Nat) {b:Nat} (h:dh b (l++r).length=true) (k:Tc f):Tc f:=.ap d (l++r).length (F (l++r)) (.ob (adS l r) (.ob (Row.app hF l r).symm (.ob h k)))
end
def Ap0 {α:Type} {F:List α→List AV} {e:α→List AV} {sz:Nat} (_:Row F e sz) (d:Nat) {r:List α} {b:Nat} (h:dh b r.length=true) (k:Tc f):Tc f:=.ap d r.length (F r) (.ob (Nat.zero_add r.length) (.ob (@rfl _ (F r)) (.ob h k)))
def Cl (ms:List (Option Bool)) (m:Option Bool) (ts:List AV) {C:bP} {g:FuncId} {args:List AV} {blks:WH} {v:AV} {out:WH} (h:Spec C g args blks v out) (r:Tc f):Tc f:=.call ms m ts v out (.ob h r)
def Cl0 {C:bP} {g:FuncId} {args:List AV} {blks:WH} {v:AV} {out:WH} (h:Spec C g args blks v out) (r:Tc f):Tc f:=.call [] none [] v out (.ob h r)
def Cb (ts:List AV) {C:bP} {g:FuncId} {args:List AV} {blks:WH} {v:AV} {out:WH} (h:Spec C g args blks v out) (r:Tc f):Tc f:=.cb [] ts v (.ob h r)
def iA {C:bP} {g:FuncId} {args:List AV} {blks:WH} {v:AV} {out:WH} (h:Spec C g args blks v out) (r:Tc f):Tc f:=.cb [] [] v (.ob h r)
def Lp (ms bs:List (Option Bool)) (ts:List AV) {run:Fast→Heap→Xq} {np:Nat} {i:Fast×WH} {o:Ex×Fast×WH} (h:bJ run np i o) (r:Tc f):Tc f:=.lp ms bs ts o.1 o.2.1 o.2.2 (.ob h r)
def Jn (keep:List Nat) (ms bs:List (Option Bool)) (ts:List AV) {run:Fast→Heap→Xq} {np:Nat} {i:Fast×WH} {o:Ex×Fast×WH} (h:bJ run np i o) (r:Tc f):Tc f:=.jn keep ms bs ts o.1 o.2.1 o.2.2 (.ob h r)
end
end Go.Proofs.YtohoggieaanllaaGreat
end
section
set_option linter.all false
set_option linter.unusedSimpArgs false
namespace Go.Proofs.YtohoggieaanllaaGreat
structure Rt (s:Sh) {α:Type} (e:α→List AV) (bk:α→Nat) (ok:α→Prop):Prop where
 rd:∀ d,D.is s d→∃ x,encS s d=e x∧bk x≤D.bulk d∧ok x
 sz:∀ x,(e x).length=BN s
abbrev Xt (x:Int):Prop:=-9223372036854775808≤x∧x≤9223372036854775807
abbrev eI (x:Int):List AV:=[.int .i64 x]
abbrev eB (x:UInt8):List AV:=[JD x]
abbrev eS (x:List UInt8):List AV:=[.str x]
abbrev eO (x:Bool):List AV:=[.bool x]
abbrev bk1 {α:Type} (_:α):Nat:=1
abbrev bkS (x:List UInt8):Nat:=x.length+1
abbrev okT {α:Type} (_:α):Prop:=True
def bkL {α:Type} (bk:α→Nat) (l:List α):Nat:=(l.map bk).sum+1
def okL {α:Type} (ok:α→Prop) (l:List α):Prop:=∀ x∈l,ok x
theorem EB:Rt (.int .i64) eI bk1 Xt:=⟨λd h=>by
 obtain ⟨n,rfl,h1,h2⟩:=h
 exact ⟨n,rfl,by simp [D.bulk],h1,h2⟩,λ_=>rfl⟩
theorem axN:Rt .str eS bkS okT:=⟨λd h=>by
 obtain ⟨s,rfl⟩:=h
 exact ⟨s,rfl,by simp [D.bulk],trivial⟩,λ_=>rfl⟩
theorem awz:Rt .bool eO bk1 okT:=⟨λd h=>by
 obtain ⟨b,rfl⟩:=h
 exact ⟨b,rfl,by simp [D.bulk],trivial⟩,λ_=>rfl⟩
theorem arv {s:Sh} {α:Type} {e:α→List AV} {bk:α→Nat} {ok:α→Prop} {F:List α→List AV} {n:Nat} (r:Rt s e bk ok) (hF:Row F e n) (hn:BN s=n) :
  Rt (.list s) (λl=>[.list n l.length (F l) false]) (bkL bk) (okL ok):=⟨λd h=>by
 obtain ⟨l,rfl,h⟩:=h
 have key:∀ l:List D,(∀ d∈l,D.is s d)→∃ x:List α,x.length=l.length∧adQ s l=x.flatMap e∧(x.map bk).sum≤D.Br l∧∀ y∈x,ok y:=by
  intro l
  induction l with
  | nil=>intro _;exact ⟨[],rfl,rfl,by simp [D.Br],by simp⟩
  | cons d r' ih =>
   intro h
   obtain ⟨y,h1,h2,h3⟩:=r.rd d (h d (by simp))
   obtain ⟨x,q0,q1,q2,q3⟩:=ih λz hz=>h z (by simp [hz])
   refine ⟨y::x,by simp [q0],by simp only [adQ,h1,q1,List.flatMap_cons],by simp only [List.map_cons,List.sum_cons,D.Br];omega, ?_⟩
   intro z hz
   rcases List.mem_cons.1 hz with rfl | hz
   ·exact h3
   ·exact q3 z hz
 obtain ⟨x,q0,q1,q2,q3⟩:=key l h
 refine ⟨x, ?_,by simp only [bkL,D.bulk];omega,q3⟩
 have hr:F x=x.flatMap e:=by
  clear q0 q1 q2 q3
  induction x with
  | nil=>rw [hF.nil];rfl
  | cons y x ih=>rw [hF.cons,ih,List.flatMap_cons]
 simp only [encS,q0,q1,hn,hr],λ_=>rfl⟩
theorem ang {ss:List Sh} {α:Type} {e:α→List AV} {bk:α→Nat} {ok:α→Prop} (sz:∀ x,(e x).length=Ez ss)
  (h:∀ l,D.are ss l→∃ x,LM ss l=e x∧bk x≤D.Br l+1∧ok x):Rt (.agg ss) e bk ok:=⟨λd h0=>by
 obtain ⟨l,rfl,hl⟩:=h0
 obtain ⟨x,h1,h2,h3⟩:=h l hl
 exact ⟨x,h1,h2,h3⟩,sz⟩
theorem eD {s:Sh} {ss:List Sh} {α:Type} {e:α→List AV} {bk:α→Nat} {ok:α→Prop} (r:Rt s e bk ok) {ds:List D} (h:D.are (s::ss) ds) :
  ∃ d q,ds=d::q∧D.are ss q∧∃ x,encS s d=e x∧bk x≤D.bulk d∧ok x:=by
 obtain ⟨d,q,h1,h2,h3⟩:=amI h
 exact ⟨d,q,h1,h3,r.rd d h2⟩
end Go.Proofs.YtohoggieaanllaaGreat
end
