import Derived.Test.YtkedeiklmpkgkaaJ3
set_option linter.all false
namespace Go.Proofs.Ytkedeiklmpkgkaa
def NR(R:Nat→Prop)(ι:VI)(H:WH)(M:Heap)(v:AV)(H':WH)(a:AV):Prop:=∃bI,VS R bI H' M∧Stp H.length [] ι H M bI H' M∧VL M (OR R bI) bI v a
def NRL(R:Nat→Prop)(ι:VI)(H:WH)(M:Heap)(v:List AV)(H':WH)(a:List AV):Prop:=∃bI,VS R bI H' M∧Stp H.length [] ι H M bI H' M∧bL M (OR R bI) bI v a
theorem NR.quiet{R:Nat→Prop}{ι:VI}{H:WH}{M:Heap}(s:VS R ι H M){v a:AV}(h:VL M (OR R ι) ι v a):NR R ι H M v H a:=⟨ι,s,.refl _ _ _ _ _ (Nat.le_refl _),h⟩
theorem I5 {R:Nat→Prop} {ι:VI} {H:WH} {M:Heap} (s:VS R ι H M) {cs cs':List AV} (h:bL M (OR R ι) VI.none cs cs') {sz n:Nat} (hl:cs.length=n*sz) (ex sl:Bool) :
  ∃bI,VS R bI (H++[some (.cells cs false true)]) (M.push (.cells cs' false sl))∧Stp H.length [] ι H M bI (H++[some (.cells cs false true)]) (M.push (.cells cs' false sl)) ∧
   VL (M.push (.cells cs' false sl)) (OR R bI) bI (.acc H.length 0 sz n true) (.slice (some (M.next,0)) sz n n ex):=by
 have hl':=h.length
 obtain⟨h1,h2⟩:=s.push (x:=.cells cs false true) (y:=.cells cs' false sl) (d:=(cs.length,cs'.length)) ⟨cs',[],false,sl,cs'.length,by simp,λ_=>rfl,rfl,by simp,by simpa using h,λh=>by cases h⟩
 refine⟨_,h1,h2, ?_⟩
 simp only[VL]
 refine⟨_,_,_,_,rfl,Nat.le_refl _,(λh=>by cases h),λ_=>rfl,cs.length,cs'.length,by simp[VI.add,setAt],by omega,λ_=>⟨trivial,hl.symm⟩,.inl ⟨M.next,by simp[VI.add,setAt],.inl ⟨rfl,by omega⟩⟩⟩
theorem FJ {R:Nat→Prop} {ι:VI} {H:WH} {M:Heap} (s:VS R ι H M) (sz s':Nat) (p:Option (Nat×Nat)) (hp:p≠none→s'=sz) :
  ∃bI,VS R bI (H++[some (.cells [] false true)]) M∧Stp H.length [] ι H M bI (H++[some (.cells [] false true)]) M∧VL M (OR R bI) bI (.acc H.length 0 sz 0 true) (.slice p s' 0 0 true):=by
 obtain⟨h1,h2⟩:=s.Xy
 refine⟨_,h1,h2, ?_⟩
 simp only[VL]
 exact⟨_,_,_,_,rfl,Nat.le_refl _,by simp,hp,0,0,by simp[VI.fT,setAt],by omega,by simp,.inr ⟨by simp[VI.fT,setAt],by simp⟩⟩
theorem I6 {R:Nat→Prop} {ι:VI} {H:WH} {M:Heap} (s:VS R ι H M) {b j:Nat} (hb:ι b=some j) {c0:List AV} {sl0:Bool} (hg:b_ H b=some (.cells c0 false sl0)) {cs cs' t:List AV} {ro sl:Bool} {L:Nat}
  (hj:M.get j=some (.cells (cs'++t) ro sl)) (hro:ro=false) (h:bL M (OR R ι) VI.none cs cs') (hL:L≤(cs'++t).length) {sz n cap:Nat} (hl:cs.length=n*sz) {p:Option (Nat×Nat)} {s':Nat} {ex:Bool} (hn:n≤cap) (hnp:p=none→cap=0∧ex=true) (hs:p≠none→s'=sz)
  (hp:(p=some (j,0)∧cap*sz≤L)∨(n=0∧cap=0∧ex=true)) :
  ∃bI,VS R bI (fQ H b none++[some (.cells cs false true)]) M∧Stp H.length [b] ι H M bI (fQ H b none++[some (.cells cs false true)]) M∧VL M (OR R bI) bI (.acc H.length 0 sz n true) (.slice p s' n cap ex):=by
 obtain⟨h1,h2,h3⟩:=s.swap hb hg (x:=.cells cs false true) (y:=.cells (cs'++t) ro sl) (d:=(cs.length,L)) ⟨cs',t,ro,sl,L,rfl,λ_=>hro,rfl,hL,by simpa using h⟩
 rw[Heap.FB hj]at h1 h2
 refine⟨_,h1,h2, ?_⟩
 simp only[VL]
 exact⟨_,_,_,_,rfl,hn,hnp,hs,cs.length,L,by simp[VI.add,setAt],by omega,λ_=>⟨trivial,hl.symm⟩,.inl ⟨j,h3,hp.imp (λh=>⟨h.1,by omega⟩) (λh=>h)⟩⟩
theorem Stp.still{n:Nat}{t t':List Nat}{ι kD:VI}{H H1:WH}{M:Heap}(h:Stp n t ι H M kD H1 M):Stp n t' ι H M kD H1 M :=
 ⟨h.keep,h.le,h.gone,h.ZI,h.PY,h.Li,h.live,λ_ _ _ _ _ _=>rfl,h.next⟩
theorem Xz {R:Nat→Prop} {ι:VI} {H:WH} {M:Heap} (s:VS R ι H M) {b sz n:Nat} {w:Bool} {a:AV} (h:VL M (OR R ι) ι (.acc b 0 sz n w) a) {c:List AV} (hg:b_ H b=some (.cells c false true)) :
  NR R ι H M (.acc H.length 0 sz n true) (fQ H b none++[some (.cells (c.take (n*sz)) false true)]) a:=by
 obtain⟨k1,k2,p,s',cap,ex,rfl,k3,k4,k5⟩:=VL.qX s h hg
 simp only[Nat.zero_add]at k1
 have hnp:p=none→cap=0∧ex=true:=by
  simp only[VL]at h
  obtain⟨_,_,_,_,e,_,q,_⟩:=h
  simp only[AV.slice.injEq]at e
  obtain⟨rfl,rfl,_,rfl,rfl⟩:=e
  exact q
 have hlt:(c.take (n*sz)).length=n*sz:=by simp only[aV];omega
 have part:∀ {c' t:List AV},(c'.take (n*sz))++(c'.drop (n*sz)++t)=c'++t:=λ{c' t}=>by rw[←bE,List.take_append_drop]
 rcases k5 with⟨j,c',t,ro',sl',L,g1,g2,g3,g4,g5,g6,rfl,g7⟩ |⟨rfl,rfl,rfl,⟨j,c',t,ro',sl',L,g1,g2,g3,g4,g5,g6⟩ |⟨g1,rfl,_⟩⟩
 ·simp only[if_true]at g6
  obtain⟨bI,q1,q2,q3⟩:=I6 s g1 hg (cs:=c.take (n*sz)) (cs':=c'.take (n*sz)) (t:=c'.drop (n*sz)++t) (by rw[part];exact g2) (g3 rfl).1 (g6.take _) (by rw[part];exact g5) hlt k3 hnp k4 (.inl ⟨rfl,by omega⟩)
  exact⟨bI,q1,q2.still,q3⟩
 ·simp only[if_true]at g6
  obtain⟨bI,q1,q2,q3⟩:=I6 s g1 hg (cs:=c.take (0*sz)) (cs':=c'.take (0*sz)) (t:=c'.drop (0*sz)++t) (by rw[part];exact g2) (g3 rfl).1 (g6.take _) (by rw[part];exact g5) hlt k3 hnp k4 (.inr ⟨rfl,rfl,rfl⟩)
  exact⟨bI,q1,q2.still,q3⟩
 ·obtain⟨h1,h2⟩:=s.Rm g1
  obtain⟨bI,q1,q2,q3⟩:=FJ h1 sz s' p k4
  rw[dO]at q2 q3
  refine⟨bI,by simpa using q1, ?_,q3⟩
  have:=h2.trans q2 (Nat.le_refl _)
  simpa using this.still
mutual
theorem Rs{R:Nat→Prop}(v:AV)(H:WH)(ι:VI)(M:Heap)(a:AV)(s:VS R ι H M)(h:VL M (OR R ι) ι v a):NR R ι H M (Sm v H).1 (Sm v H).2 a:=by
 rw[Sm.eq_def]
 split
 ·simp only[VL]at h
  obtain⟨_,s',rfl⟩:=h
  exact FJ s _ s' none (λh=>absurd rfl h)
 ·split
  ·rename_i w _ c hg
   have ht:=Xz s h hg
   cases w with
   | false=>exact ht
   | true =>
    have hc:=(VL.qX s h hg).2.1 rfl
    simp only[ZF]
    rw[List.take_of_length_le (by omega)]at ht
    exact ht
  ·exact NR.quiet s h
 ·rename_i cs
  simp only[VL]at h
  obtain⟨cs',rfl,h⟩:=h
  obtain⟨bI,h1,h2,h3⟩:=JB cs H ι M cs' s h
  split
  rename_i l H' e
  rw[e]at h1 h2 h3
  exact⟨bI,h1,h2,by simp only[VL];exact⟨cs',rfl,h3⟩⟩
 ·rename_i cs
  simp only[VL]at h
  obtain⟨cs',rfl,h⟩:=h
  obtain⟨bI,h1,h2,h3⟩:=JB cs H ι M cs' s h
  split
  rename_i l H' e
  rw[e]at h1 h2 h3
  exact⟨bI,h1,h2,by simp only[VL];exact⟨cs',rfl,h3⟩⟩
 ·exact NR.quiet s h
termination_by SizeOf.sizeOf v
theorem JB{R:Nat→Prop}(v:List AV)(H:WH)(ι:VI)(M:Heap)(a:List AV)(s:VS R ι H M)(h:bL M (OR R ι) ι v a):NRL R ι H M (Lg v H).1 (Lg v H).2 a:=by
 rw[Lg.eq_def]
 split
 ·exact⟨ι,s,.refl _ _ _ _ _ (Nat.le_refl _),h⟩
 ·rename_i v r
  cases a with
  | nil=>simp[bL]at h
  | cons a l =>
   simp only[bL]at h
   obtain⟨kD,h1,h2,h3⟩:=Rs v H ι M a s h.1
   obtain⟨uI,k1,k2,k3⟩:=JB r (Sm v H).2 kD M l h1 (bL.step s h2 h.2)
   split
   rename_i x1 x2 e
   rw[e]at h1 h2 h3 k1 k2 k3
   split
   rename_i y1 y2 e'
   rw[e']at k1 k2 k3
   refine⟨uI,k1, ?_,by simp only[bL];exact⟨VL.step h1 k2 h3,k3⟩⟩
   have:=h2.trans k2 h2.next
   simpa using this
termination_by SizeOf.sizeOf v
end
theorem P9{R:Nat→Prop}(m:Option Bool){v:AV}{H:WH}{ι:VI}{M:Heap}{a:AV}(s:VS R ι H M)(h:VL M (OR R ι) ι v a):NR R ι H M (nrm m v H).1 (nrm m v H).2 a:=by
 match m with
 | none=>exact NR.quiet s h
 | some true=>exact Rs v H ι M a s h
 | some false =>
  simp only[nrm]
  split
  case h_2=>exact NR.quiet s h
  rename_i p hp
  obtain⟨h1,h2⟩:=s.OA p.2 (mX 5 false v p hp)
  refine⟨_,h1,h2, ?_⟩
  have:=MW s (O':=OR R (ι.pG p.2)) (λj h=>h.imp FE id) (qC:=ι.pG p.2) (Jz _ _ _) 5 false v p a hp h (λb hb j hj=>?_)
  ·exact this
  ·have lv:=mX 5 false v p hp b hb
   rintro(⟨i,q1,q2⟩ | hR)
   ·simp only[VI.pG,Bool.or_eq_false_iff]at q1 q2
    have:=s.inj i b j (.inr q2.1) (.inl lv) q1 hj (.inl q2.1)
    subst this
    rw[sH.2 hb]at q2
    cases q2.2
   ·exact(s.res j hR).2 b (.inl lv) hj
theorem FK{R:Nat→Prop}:∀(ms:List (Option Bool)) (v:List AV) (H:WH) (ι:VI) (M:Heap) (a:List AV),VS R ι H M→bL M (OR R ι) ι v a→NRL R ι H M (Dz ms v H).1 (Dz ms v H).2 a
 | ms,[],H,ι,M,a,s,h=>by
  simp only[Dz]
  exact⟨ι,s,.refl _ _ _ _ _ (Nat.le_refl _),h⟩
 | ms,v::r,H,ι,M,a,s,h=>by
  cases a with
  | nil=>simp[bL]at h
  | cons a l =>
   simp only[bL]at h
   obtain⟨kD,h1,h2,h3⟩:=P9 (ms.headD (some false)) s h.1
   obtain⟨uI,k1,k2,k3⟩:=FK ms.tail r _ kD M l h1 (bL.step s h2 h.2)
   simp only[Dz]
   refine⟨uI,k1, ?_,by simp only[bL];exact⟨VL.step h1 k2 h3,k3⟩⟩
   have:=h2.trans k2 h2.next
   simpa using this
theorem Ru{R:Nat→Prop}(m:Option Bool):∀(v:List AV) (H:WH) (ι:VI) (M:Heap) (a:List AV),VS R ι H M→bL M (OR R ι) ι v a→NRL R ι H M (Oo m v H).1 (Oo m v H).2 a
 | [],H,ι,M,a,s,h=>by
  simp only[Oo]
  exact⟨ι,s,.refl _ _ _ _ _ (Nat.le_refl _),h⟩
 | v::r,H,ι,M,a,s,h=>by
  cases a with
  | nil=>simp[bL]at h
  | cons a l =>
   simp only[bL]at h
   obtain⟨kD,h1,h2,h3⟩:=P9 m s h.1
   obtain⟨uI,k1,k2,k3⟩:=Ru m r _ kD M l h1 (bL.step s h2 h.2)
   simp only[Oo]
   refine⟨uI,k1, ?_,by simp only[bL];exact⟨VL.step h1 k2 h3,k3⟩⟩
   have:=h2.trans k2 h2.next
   simpa using this
theorem VS.aau {R:Nat→Prop} {ι:VI} {H:WH} {M:Heap} (s:VS R ι H M) {b:Nat} {c c':List AV} {ro:Bool} (hg:b_ H b=some (.cells c ro false)) (hc:∀j d t ro' sl',ι b=some j→M.get j=some (.cells (d++t) ro' sl')→d.length=c.length→bL M (OR R ι) ι c' d) (hl:c'.length=c.length) :
  VS R ι (fQ H b (some (.cells c' ro false))) M∧Stp H.length [] ι H M ι (fQ H b (some (.cells c' ro false))) M:=by
 have hbl:=nK hg
 have gp:∀k,b_ (fQ H b (some (.cells c' ro false))) k=if k=b then some (.cells c' ro false)else b_ H k:=λk=>by
  rw[mV]
  by_cases e:k=b
  ·rw[if_pos ⟨e,hbl⟩,if_pos e]
  ·rw[if_neg (λh=>e h.1),if_neg e]
 have lv:∀k,(∃z,b_ (fQ H b (some (.cells c' ro false))) k=some z)→∃z,b_ H k=some z:=λk ⟨z,hz⟩=>by
  rw[gp]at hz
  by_cases e:k=b
  ·exact⟨_,e ▸ hg⟩
  ·rw[if_neg e]at hz
   exact⟨z,hz⟩
 refine⟨⟨λi j h=>by rw[dO];exact s.lt i j h,λi i' j h h' e e'=>s.inj i i' j (h.imp (lv i) id) (h'.imp (lv i') id) e e',λi z hz=>?_,λi h=>by rw[dO];exact s.sF i h,λi hi c1 sl h=>?_,s.Ot,λj h=>⟨(s.res j h).1,λi hi=>(s.res j h).2 i (hi.imp (lv i) id)⟩⟩,
  ⟨.refl _ _,.refl _ _,λ_ _ h=>h,λ_ _=>rfl,λ_ _=>rfl,λ_ _ _=>rfl,λi _=>lv i,λ_ _ _ _ _ _=>rfl,by rw[dO];exact Nat.le_refl _⟩⟩
 ·rw[gp]at hz
  by_cases e:i=b
  ·subst e
   rw[if_pos rfl]at hz
   obtain rfl:=ak hz
   rcases s.blk i _ hg with⟨_,_,ro',h⟩ |⟨j,h1,⟨d,t,ro',sl',L,g1,g2,g3,g4,g5,g6⟩,h2⟩
   ·cases h
   ·exact .inr ⟨j,h1,⟨d,t,ro',sl',L,g1,g2,by rw[hl];exact g3,g4,by simpa using hc j d t ro' sl' h1 g1 g5.length.symm,g6⟩,h2⟩
  ·rw[if_neg e]at hz
   exact s.blk i z hz
 ·rw[gp]at h
  by_cases e:i=b
  ·rw[if_pos e]at h
   subst e
   cases h
   exact s.pG i hi c _ hg
  ·rw[if_neg e]at h
   exact s.pG i hi c1 sl h
theorem XA{R:Nat→Prop}(m:Option Bool)(b:Nat){H:WH}{ι:VI}{M:Heap}(s:VS R ι H M):∃bI,VS R bI (Xq m b H) M∧Stp H.length [] ι H M bI (Xq m b H) M:=by
 have quiet:∃bI,VS R bI H M∧Stp H.length [] ι H M bI H M:=⟨ι,s,.refl _ _ _ _ _ (Nat.le_refl _)⟩
 unfold Xq
 cases m with
 | none=>exact quiet
 | some m =>
 simp only
 split
 case h_2=>exact quiet
 rename_i c ro hg
 rcases s.blk b _ hg with⟨_,_,ro',h⟩ |⟨j,h1,⟨d,t,ro',sl',L,g1,g2,g3,g4,g5,g6⟩,h2⟩
 ·cases h
 simp only[Bool.false_eq_true,if_false]at g5
 obtain⟨kD,k1,k2,k3⟩:=Ru (some m) c H ι M d s g5
 split
 case h_2=>exact⟨kD,k1,k2⟩
 rename_i c2 ro2 hg2
 have hj1:=((k2.le b (nK hg)).1 j h1).1
 have hd:=((k2.le b (nK hg)).1 j h1).2 _ g3
 have hl1:(Oo (some m) c H).1.length=c.length:=by rw[k3.length,g5.length]
 have hl2:c2.length=c.length:=by
  obtain⟨_,_,_,_,_,_,_,e,_⟩:=k1.at hj1 hg2
  rw[hd]at e
  simp only[av,aI]at e
  exact e.1.symm
 obtain⟨q1,q2⟩:=k1.aau hg2 (c':=(Oo (some m) c H).1) (λj' d' t' ro' sl' e1 e2 e3=>by
  rw[hj1]at e1
  obtain rfl:=ak e1
  rw[g1]at e2
  simp only[av,jN.cells.injEq]at e2
  have:d'=d:=by
   have:=congrArg (List.take c.length) e2.1
   rw[List.take_left' (by rw[g5.length]),List.take_left' (by rw[e3,hl2])]at this
   exact this.symm
  rw[this]
  exact k3) (by rw[hl1,hl2])
 refine⟨kD,q1, ?_⟩
 have:=k2.trans q2 k2.next
 simpa using this
theorem FL{R:Nat→Prop}:∀(ms:List (Option Bool)) (m:Option Bool) (p:List Nat) (H:WH) (ι:VI) (M:Heap),VS R ι H M→∃bI,VS R bI (HZ ms m p H) M∧Stp H.length [] ι H M bI (HZ ms m p H) M
 | ms,m,[],H,ι,M,s=>⟨ι,s,.refl _ _ _ _ _ (Nat.le_refl _)⟩
 | ms,m,b::p,H,ι,M,s=>by
  obtain⟨kD,h1,h2⟩:=XA (ms.headD m) b s
  obtain⟨uI,k1,k2⟩:=FL ms.tail m p _ kD M h1
  simp only[HZ]
  refine⟨uI,k1, ?_⟩
  have:=h2.trans k2 h2.next
  simpa using this
theorem GD{bytes k:Nat}(h:fu bytes k=true):k*bytes≤70368744177664∧k≤70368744177664:=by simpa[fu]using h
theorem bL.pG{R:Nat→Prop}{ι:VI}{M:Heap}{S:List Nat}{l r:List AV}(h:bL M (OR R ι) VI.none l r):bL M (OR R (ι.pG S)) VI.none l r :=
 bL.mono ⟨Nat.le_refl _,λb _ h=>⟨rfl,λk=>h (k.imp FE id)⟩⟩ _ _ _ _ (.refl _ _) h
theorem MX {R:Nat→Prop} {ι:VI} {H:WH} {M:Heap} (s:VS R ι H M) {k:Nat} {nested:Bool} {l:List AV} {p:List AV×List Nat} {r:List AV} (h:AQ (Om H k nested) l=some p) (hr:bL M (OR R ι) ι l r) :
  bL M (OR R (ι.pG p.2)) (FH nested (ι.pG p.2)) p.1 r:=by
 refine JA (P:=λb=>b∈p.2) (λv q a hq hv hb=>?_) l p r h hr (λ_ h=>h)
 refine MW s (O':=OR R (ι.pG p.2)) (λj h=>h.imp FE id) (qC:=ι.pG p.2) (Jz _ _ _) k nested v q a hq hv (λb hb' j hj=>?_)
 have lv:=mX k nested v q hq b hb'
 rintro(⟨i,q1,q2⟩ | hR)
 ·simp only[VI.pG,Bool.or_eq_false_iff]at q1 q2
  have:=s.inj i b j (.inr q2.1) (.inl lv) q1 hj (.inl q2.1)
  subst this
  rw[sH.2 (hb _ hb')]at q2
  cases q2.2
 ·exact(s.res j hR).2 b (.inl lv) hj
theorem GH {R:Nat→Prop} {ι:VI} {H:WH} {M:Heap} (s:VS R ι H M) {x a:AV} (hx:VL M (OR R ι) ι x a) {sz n:Nat} {cs:List AV} {S:List Nat} (h:Ce x sz H=some (n,cs,S)) :
  dM a sz=true∧cs.length=n*sz∧∃cs',kC a M=some (n,cs')∧bL M (OR R (ι.pG S)) VI.none cs cs':=by
 unfold Ce at h
 split at h
 ·rename_i sz' n' cs' ex
  split at h
  case h_2=>cases h
  rename_i e
  obtain rfl:=bg e
  simp only[av,aI]at h
  obtain⟨rfl,rfl,rfl⟩:=h
  simp only[VL]at hx
  rcases hx with⟨rfl,rfl,s',rfl⟩ |⟨b,o,cap,ex',rfl,q1,q2,q3,q4⟩
  ·exact⟨rfl,by simp,[],rfl,by simp[bL]⟩
  ·refine⟨by simp[dM],q3, ?_⟩
   by_cases hn:n'=0
   ·subst hn
    rw[Nat.zero_mul]at q3
    obtain rfl:=List.eq_nil_of_length_eq_zero q3
    exact⟨[],by simp[kC],by simp[bL]⟩
   ·obtain⟨c,ro,sl,g1,g2,g3,g4,g5⟩:=q4 hn
    refine⟨(c.drop o).take (n'*sz'), ?_,g5.pG⟩
    simp only[kC,if_neg hn,Heap.read,g1,if_pos g4,aW]
 ·simp only[av,aI]at h
  obtain⟨rfl,rfl,rfl⟩:=h
  simp only[VL]at hx
  obtain⟨_,s',rfl⟩:=hx
  exact⟨rfl,by simp,[],rfl,by simp[bL]⟩
 ·rename_i t
  split at h
  case h_2=>cases h
  rename_i e
  obtain rfl:=bg e
  simp only[av,aI]at h
  obtain⟨rfl,rfl,rfl⟩:=h
  obtain rfl:=hx.eq rfl
  refine⟨rfl,by simp,_,rfl, ?_⟩
  have:∀t:List UInt8,bL M (OR R (ι.pG [])) VI.none (t.map λb=>AV.int .u8 b.toNat) (t.map λb=>AV.int .u8 b.toNat):=λt=>by
   induction t with
   | nil=>simp[bL]
   | cons b t ih=>simp only[List.map_cons,bL,VL];exact⟨trivial,ih⟩
  exact this t
 ·rename_i b o sz' n' w
  split at h
  case h_2=>cases h
  rename_i e
  obtain rfl:=bg e
  split at h
  case h_2=>cases h
  rename_i c ro sl hg
  obtain⟨k1,k2,p,s',cap,ex,rfl,k3,k4,k5⟩:=VL.qX s hx hg
  have fin:∀(cs:List AV) (S:List Nat),cs.length=n'*sz'→(∀c' t,bL M (OR R ι) (if sl then VI.none else ι) c c'→bL M (OR R (ι.pG S)) VI.none cs (((c'++t).drop o).take (n'*sz'))) →
    dM (.slice p s' n' cap ex) sz'=true∧cs.length=n'*sz'∧∃cs',kC (.slice p s' n' cap ex) M=some (n',cs')∧bL M (OR R (ι.pG S)) VI.none cs cs':=by
   intro cs S h1 h2
   have hz:dM (.slice p s' n' cap ex) sz'=true:=by
    cases p with
    | none =>
     rcases k5 with⟨j,_,_,_,_,_,_,_,_,_,_,_,e,_⟩ |⟨e,_⟩
     ·cases e
     ·simp[dM,e]
    | some p=>simp[dM,k4 (by simp)]
   refine⟨hz,h1, ?_⟩
   have hn0:n'=0→cs=[]:=λe=>by
    subst e
    rw[Nat.zero_mul]at h1
    exact List.eq_nil_of_length_eq_zero h1
   rcases k5 with⟨j,c',t,ro',sl',L,g1,g2,g3,g4,g5,g6,rfl,g7⟩ |⟨e,_⟩
   ·obtain rfl:=k4 (by simp)
    by_cases hn:n'=0
    ·rw[hn0 hn]
     subst hn
     exact⟨[],by simp[kC],by simp[bL]⟩
    ·have hl:=g6.length
     refine⟨_, ?_,h2 c' t g6⟩
     simp only[kC,if_neg hn,Heap.read,g2]
     rw[if_pos (by simp only[aJ];omega)]
     rfl
   ·rw[hn0 e]
    subst e
    refine⟨[], ?_,by simp[bL]⟩
    cases p<;>simp[kC]
  split at h
  ·simp only[av,aI]at h
   obtain⟨rfl,rfl,rfl⟩:=h
   refine fin _ _ (FC k1 k2) λc' t hc=>?_
   simp only[if_true]at hc
   exact(FD hc k1 k2).pG
  ·split at h
   case h_2=>cases h
   split at h
   case h_2=>cases h
   rename_i q hq
   simp only[av,aI]at h
   obtain⟨rfl,rfl,rfl⟩:=h
   obtain⟨k6,k7⟩:=k2 rfl
   refine fin _ _ (by rw[FI _ _ hq,k7]) λc' t hc=>?_
   simp only[Bool.false_eq_true,if_false]at hc
   have:=MX s hq hc
   rw[k6,List.drop_zero,k7,hc.length,List.take_left' rfl]
   exact this
 ·cases h
theorem Ck{H:WH}{x:AV}{sz n:Nat}{cs:List AV}{S:List Nat}(h:Ce x sz H=some (n,cs,S)):∀b∈S,∃y,b_ H b=some y:=by
 unfold Ce at h
 split at h
 ·split at h
  ·cases h;simp
  ·cases h
 ·cases h;simp
 ·split at h
  ·cases h;simp
  ·cases h
 ·split at h
  case h_2=>cases h
  split at h
  case h_2=>cases h
  split at h
  ·cases h;simp
  ·split at h
   case h_2=>cases h
   split at h
   case h_2=>cases h
   rename_i q hq
   cases h
   exact rA (λv p=>mX 5 true v p) _ _ hq
 ·cases h
theorem LC {R:Nat→Prop} {ι:VI} {H:WH} {M:Heap} (s:VS R ι H M) {x a:AV} (hx:VL M (OR R ι) ι x a) {sz bytes m len:Nat} {new new' old:List AV} (hnew:bL M (OR R ι) VI.none new new') (hl:new.length=m*sz) {H':WH} {t:List Nat}
  (h:Js x sz H=some (len,old,H',t)) (hf:fu bytes (len+m)=true) :
  ∃a' M' bI,eO sz bytes a m new' M=some (a',M')∧VS R bI (H'++[some (.cells (old++new) false true)]) M'∧Stp H.length t ι H M bI (H'++[some (.cells (old++new) false true)]) M'∧VL M' (OR R bI) bI (.acc H'.length 0 sz (len+m) true) a':=by
 have hf':=GD hf
 have hm0:m=0→new=[]:=λe=>by
  subst e
  rw[Nat.zero_mul]at hl
  exact List.eq_nil_of_length_eq_zero hl
 -- nothing was there
 have fresh:∀(nZ:VI) (H0:WH) (t0:List Nat),VS R nZ H0 M→H0.length=H.length→Stp H.length t0 ι H M nZ H0 M→∀(p:Option (Nat×Nat)) (s':Nat),(p≠none→s'=sz)→0+m=len+m→∃a' M' bI,eO sz bytes (.slice p s' 0 0 true) m new' M=some (a',M')∧VS R bI (H0++[some (.cells ([]++new) false true)]) M'∧Stp H.length t0 ι H M bI (H0++[some (.cells ([]++new) false true)]) M'∧VL M' (OR R bI) bI (.acc H0.length 0 sz (0+m) true) a':=by
  intro nZ H0 t0 s0 hlen k0 p s' hps hlm
  by_cases hm:m=0
  ·obtain rfl:=hm0 hm
   subst hm
   obtain⟨bI,q1,q2,q3⟩:=FJ s0 sz sz p (λ_=>rfl)
   refine⟨.slice p sz 0 0 true,M,bI, ?_,q1, ?_,q3⟩
   ·unfold eO
    cases p with
    | none=>simp
    | some p=>obtain rfl:=hps (by simp);simp
   ·have:=k0.trans q2 (by omega)
    simpa using this
  ·have e:eO sz bytes (.slice p s' 0 0 true) m new' M=some (.slice (some (M.next,0)) sz (0+m) (0+m) false,M.push (.cells ([]++new') false true)):=by
    unfold eO
    simp only
    rw[if_neg (λhc=>hc.2 (hps hc.1)),if_neg (by omega),if_pos (by rw[hlm];exact hf')]
    cases p with
    | none=>rfl
    | some p=>rfl
   have aa4:=bL.Lv k0 hnew
   obtain⟨bI,q1,q2,q3⟩:=I5 s0 (cs:=[]++new) (cs':=[]++new') (by simpa using aa4) (n:=0+m) (sz:=sz) (by simpa using hl) false true
   rw[e]
   refine⟨_,_,bI,rfl,q1, ?_,q3⟩
   have:=k0.trans q2 (by omega)
   simpa using this
 unfold Js at h
 split at h
 ·simp only[av,aI]at h
  obtain⟨rfl,rfl,rfl,rfl⟩:=h
  simp only[VL]at hx
  obtain⟨_,s',rfl⟩:=hx
  exact fresh ι H [] s rfl (.refl _ _ _ _ _ (Nat.le_refl _)) none s' (λh=>absurd rfl h) rfl
 ·rename_i b sz' n w
  split at h
  case h_2=>cases h
  rename_i e
  obtain rfl:=bg e
  -- one's own
  have main:∀(c:List AV) (sl:Bool) (H1:WH) (kD:VI) (old:List AV),b_ H b=some (.cells c false sl)→VS R kD H1 M→H1.length=H.length→Stp H.length [] ι H M kD H1 M→b_ H1 b=some (.cells c false sl)→old.length=n*sz' →
    (∀c' t,bL M (OR R ι) (if sl then VI.none else ι) c c'→bL M (OR R kD) VI.none old (((c'++t).drop 0).take (n*sz')))→len=n →
    ∃a' M' bI,eO sz' bytes a m new' M=some (a',M')∧VS R bI (fQ H1 b none++[some (.cells (old++new) false true)]) M'∧Stp H.length [b] ι H M bI (fQ H1 b none++[some (.cells (old++new) false true)]) M'∧VL M' (OR R bI) bI (.acc (fQ H1 b none).length 0 sz' (n+m) true) a':=by
   intro c sl H1 kD old hg s1 hlen k1 hg1 ho hr hln
   subst hln
   obtain⟨q1,q2,p,s',cap,ex,rfl,q3,q4,q5⟩:=VL.qX s hx hg
   have hnp:p=none→cap=0∧ex=true:=by
    simp only[VL]at hx
    obtain⟨_,_,_,_,e,_,q,_⟩:=hx
    simp only[AV.slice.injEq]at e
    obtain⟨rfl,rfl,_,rfl,rfl⟩:=e
    exact q
   have hnew1:=bL.Lv k1 hnew
   rcases q5 with⟨j,c',t,ro',sl',L,g1,g2,g3,g4,g5,g6,rfl,g7⟩ |⟨rfl,rfl,rfl,⟨j,c',t,ro',sl',L,g1,g2,g3,g4,g5,g6⟩ |⟨g1,rfl,rfl⟩⟩
   ·obtain rfl:=q4 (by simp)
    obtain⟨rfl,_⟩:=g3 rfl
    have hj1:=((k1.le b (nK hg)).1 j g1).1
    have hlc:=g6.length
    have hcs:=Nat.mul_le_mul_right s' q3
    have hr':=hr c' t g6
    have hold:bL M (OR R kD) VI.none old ((c'++t).take (len*s')):=by simpa using hr'
    simp only[aJ]at g5
    by_cases hm:m=0
    ·obtain rfl:=hm0 hm
     subst hm
     have hn':new'=[]:=by
      have:=hnew.length
      exact List.eq_nil_of_length_eq_zero (by simpa using this.symm)
     subst hn'
     obtain⟨bI,r1,r2,r3⟩:=I6 s1 hj1 hg1 (cs:=old++[]) (cs':=(c'++t).take (len*s')) (t:=(c'++t).drop (len*s')) (by rw[List.take_append_drop];exact g2) rfl (by simpa using hold) (by rw[List.take_append_drop,aJ];exact g5) (n:=len+0) (by simpa using ho) q3 hnp q4 (.inl ⟨rfl,by omega⟩)
     refine⟨_,M,bI, ?_,r1, ?_,by rw[dO];exact r3⟩
     ·simp[eO,q3]
     ·have:=k1.trans r2 (by omega)
      simpa using this
    by_cases hfit:len+m≤cap
    ·-- in place
     have hle:len*s'+new'.length≤(c'++t).length:=by
      have:=Nat.mul_le_mul_right s' hfit
      rw[←hnew.length,hl,aJ,←Nat.add_mul]
      omega
     have hw:M.write j (0+len*s') new'=some (M.put j (some (.cells ((c'++t).take (len*s')++new'++(c'++t).drop (len*s'+new'.length)) false sl'))):=by
      simp only[Heap.write,g2,Nat.zero_add]
      rw[if_pos hle]
     have hlenp:L≤(((c'++t).take (len*s')++new')++(c'++t).drop (len*s'+new'.length)).length:=by
      simp only[aJ,aV,aS]at hle ⊢
      omega
     obtain⟨r1,r2,r3⟩:=s1.swap hj1 hg1 (x:=.cells (old++new) false true) (y:=.cells ((c'++t).take (len*s')++new'++(c'++t).drop (len*s'+new'.length)) false sl') (d:=((old++new).length,L))
      ⟨(c'++t).take (len*s')++new',(c'++t).drop (len*s'+new'.length),false,sl',L,rfl,λ_=>rfl,rfl,hlenp,by simpa using hold.append hnew1,λh=>by cases h⟩
     refine⟨.slice (some (j,0)) s' (len+m) cap ex,_,_, ?_,r1, ?_, ?_⟩
     rotate_left
     ·have:=k1.trans r2 (by omega)
      simpa using this
     ·rw[dO]
      simp only[VL]
      refine⟨some (j,0),s',cap,ex,rfl,hfit,(λh=>by cases h),λ_=>rfl,(old++new).length,L,by simp[VI.add,setAt], ?_,λ_=>⟨trivial, ?_⟩,.inl ⟨j,r3,.inl ⟨rfl,by omega⟩⟩⟩
      ·rw[aJ,ho,hl,Nat.add_mul];omega
      ·rw[aJ,ho,hl,Nat.add_mul]
     ·unfold eO
      simp only
      rw[if_neg (by simp),if_pos hfit,if_neg hm,hw]
      rfl
    ·obtain ⟨P_,e1,e2⟩:∃P_,(if (ex=true∧len=0)then some []else M.read j 0 (len*s'))=some P_∧bL M (OR R kD) VI.none old P_:=by
      by_cases hc:ex=true∧len=0
      ·rw[if_pos hc]
       rw[hc.2,Nat.zero_mul]at ho
       obtain rfl:=List.eq_nil_of_length_eq_zero ho
       exact⟨[],rfl,by simp[bL]⟩
      ·rw[if_neg hc]
       refine⟨(c'++t).take (len*s'), ?_,hold⟩
       simp only[Heap.read,g2]
       rw[if_pos (by simp only[aJ];omega),List.drop_zero]
     have hlo:(old++new).length=(len+m)*s':=by rw[aJ,ho,hl,Nat.add_mul]
     cases ex with
     | true =>
      have e:eO s' bytes (.slice (some (j,0)) s' len cap true) m new' M=some (.slice (some (M.next,0)) s' (len+m) (len+m) false,M.push (.cells (P_++new') false true)):=by
       unfold eO
       simp only
       rw[if_neg (by simp),if_neg hfit,if_pos hf']
       simp only[eq_self,true_and,if_true]at e1 ⊢
       rw[e1]
       rfl
      obtain⟨r1,r2⟩:=s1.kill hj1 hg1 (M.get j)
      rw[Heap.FB rfl]at r1 r2
      have rk:=k1.trans r2 (by omega)
      obtain⟨bI,u1,u2,u3⟩:=I5 r1 (cs:=old++new) (cs':=P_++new') (bL.Lv r2 (e2.append hnew1)) hlo false true
      rw[e]
      refine⟨_,_,bI,rfl,u1, ?_,u3⟩
      have:=rk.trans u2 (by rw[dO];omega)
      simpa using this
     | false =>
      have e:eO s' bytes (.slice (some (j,0)) s' len cap false) m new' M=some (.slice (some (M.next,0)) s' (len+m) (len+m) false,(M.put j none).push (.cells (P_++new') false true)):=by
       unfold eO
       simp only
       rw[if_neg (by simp),if_neg hfit,if_pos hf']
       simp only[Bool.false_eq_true,false_and,if_false]at e1 ⊢
       rw[e1]
       simp[g2]
      obtain⟨r1,r2⟩:=s1.kill hj1 hg1 none
      have rk:=k1.trans r2 (by omega)
      obtain⟨bI,u1,u2,u3⟩:=I5 r1 (cs:=old++new) (cs':=P_++new') (bL.Lv r2 (e2.append hnew1)) hlo false true
      rw[e]
      refine⟨_,_,bI,rfl,u1, ?_,u3⟩
      have:=rk.trans u2 (by rw[dO];omega)
      simpa using this
   ·-- empty,and no room
    rw[Nat.zero_mul]at ho
    obtain rfl:=List.eq_nil_of_length_eq_zero ho
    have hj1:=((k1.le b (nK hg)).1 j g1).1
    by_cases hm:m=0
    ·obtain rfl:=hm0 hm
     subst hm
     have hn':new'=[]:=by
      have:=hnew.length
      exact List.eq_nil_of_length_eq_zero (by simpa using this.symm)
     subst hn'
     obtain⟨bI,r1,r2,r3⟩:=I6 s1 hj1 hg1 (cs:=[]++[]) (cs':=[]) (t:=c'++t) g2 (g3 rfl).1 (by simp[bL]) g5 (n:=0+0) (sz:=sz') (by simp) (Nat.le_refl _) hnp (s':=sz') (λ_=>rfl) (.inr ⟨rfl,rfl,rfl⟩)
     refine⟨_,M,bI, ?_,r1, ?_,by rw[dO];exact r3⟩
     ·cases p with
      | none=>simp[eO]
      | some p=>obtain rfl:=q4 (by simp);simp[eO]
     ·have:=k1.trans r2 (by omega)
      simpa using this
    ·obtain⟨r1,r2⟩:=s1.kill hj1 hg1 (M.get j)
     rw[Heap.FB rfl]at r1 r2
     have:=fresh _ _ _ r1 (by rw[dO];exact hlen) (k1.trans r2 (by omega)) p s' q4 rfl
     simpa using this
   ·rw[Nat.zero_mul]at ho
    obtain rfl:=List.eq_nil_of_length_eq_zero ho
    have hs1:=((k1.le b (nK hg)).2 g1).1
    obtain⟨r1,r2⟩:=s1.Rm hs1
    have:=fresh _ _ _ r1 (by rw[dO];exact hlen) (k1.trans r2 (by omega)) p s' q4 rfl
    simpa using this
  split at h
  ·rename_i c hg
   simp only[av,aI]at h
   obtain⟨rfl,rfl,rfl,rfl⟩:=h
   obtain⟨k1,k2,_⟩:=VL.qX s hx hg
   exact main c true H ι _ hg s rfl (.refl _ _ _ _ _ (Nat.le_refl _)) hg (FC k1 k2) (λc' t hc=>FD (by simpa using hc) k1 k2) rfl
  ·rename_i c hg
   split at h
   case h_2=>cases h
   split at h
   case h_2=>cases h
   rename_i p hp
   split at h
   case h_2=>cases h
   rename_i hb
   simp only[av,aI]at h
   obtain⟨rfl,rfl,rfl,rfl⟩:=h
   obtain⟨k1,k2,_⟩:=VL.qX s hx hg
   obtain⟨k3,k4⟩:=k2 rfl
   obtain⟨u1,u2⟩:=s.OA p.2 (rA (λv p=>mX 5 true v p) _ _ hp)
   refine main c false (wR H p.2) (ι.pG p.2) _ hg u1 (qE _ _) u2 ?_ (by rw[FI _ _ hp,k4]) (λc' t hc=>?_) rfl
   ·rw[xJ,hb]
    exact hg
   ·simp only[Bool.false_eq_true,if_false]at hc
    have:=MX s hp hc
    rw[List.drop_zero,k4,hc.length,List.take_left' rfl]
    exact this
  ·cases h
 ·cases h
theorem FM:∀ {p:List Nat} {b k:Nat},sD p b=some k→p[k]?=some b
 | [],b,k,h=>by simp[sD]at h
 | a::r,b,k,h=>by
  simp only[sD]at h
  split at h
  ·rename_i e
   obtain rfl:=ak h
   simp[bg e]
  ·split at h
   ·rename_i k' hk
    obtain rfl:=ak h
    simpa using FM hk
   ·cases h
theorem GI:∀ {p:List Nat} {b:Nat},sD p b=none→b∉p
 | [],b,_=>by simp
 | a::r,b,h=>by
  simp only[sD]at h
  split at h
  ·cases h
  ·rename_i e
   split at h
   ·cases h
   ·rename_i hr
    simp only[List.mem_cons,not_or]
    exact⟨λe'=>by subst e';simp at e,GI hr⟩
theorem yT:∀ {p:List Nat} (hp:p.Nodup) {b k:Nat} (h:p[k]?=some b),sD p b=some k
 | [],_,b,k,h=>by simp at h
 | a::r,hp,b,0,h=>by
  simp only[List.getElem?_cons_zero,av]at h
  subst h
  simp[sD]
 | a::r,hp,b,k+1,h=>by
  simp only[List.getElem?_cons_succ]at h
  rw[List.nodup_cons]at hp
  have hne:a≠b:=λe=>hp.1 (e ▸ List.mem_of_getElem? h)
  have:Nat.beq a b=false:=by
   cases hh:Nat.beq a b with
   | false=>rfl
   | true=>exact absurd (bg hh) hne
  simp only[sD,this,yT hp.2 h]
def Via(f:Nat→Option Nat)(κ qC:VI):Prop:=∀b k,f b=some k→(∀j,κ b=some j→qC k=some j)∧(κ.Gy b=true→qC.Gy k=true)∧(∀d,κ.dim b=some d→qC.dim k=some d)
mutual
theorem VL.rn{M M':Heap}{O O':Nat→Prop}(hk:Keeps M O M' O'){f:Nat→Option Nat}{κ qC:VI}(hf:Via f κ qC):∀(v a:AV),VL M O κ v a→VL M' O' qC (Proofs.Ytkedeiklmpkgkaa.rn f v) a
 |.undef,_,_=>by simp[Proofs.Ytkedeiklmpkgkaa.rn,VL]
 |.bool _,_,e=>by simpa[Proofs.Ytkedeiklmpkgkaa.rn,VL]using e
 |.int _ _,_,e=>by simpa[Proofs.Ytkedeiklmpkgkaa.rn,VL]using e
 |.str _,_,e=>by simpa[Proofs.Ytkedeiklmpkgkaa.rn,VL]using e
 |.ptr none,_,e=>by simpa[Proofs.Ytkedeiklmpkgkaa.rn,VL]using e
 |.ptr (some q),a,e=>by
  simp only[VL]at e
  obtain⟨j,h1,rfl⟩:=e
  simp only[Proofs.Ytkedeiklmpkgkaa.rn]
  split
  ·rename_i b hb
   simp only[VL]
   exact⟨j,(hf _ _ hb).1 j h1,rfl⟩
  ·simp[VL]
 |.slice none _ _ _ _,_,e=>by simpa[Proofs.Ytkedeiklmpkgkaa.rn,VL]using e
 |.slice (some _) _ _ _ _,_,e=>by simp[VL]at e
 |.map none,_,e=>by simpa[Proofs.Ytkedeiklmpkgkaa.rn,VL]using e
 |.map (some r),a,e=>by
  simp only[VL]at e
  obtain⟨j,h1,rfl⟩:=e
  simp only[Proofs.Ytkedeiklmpkgkaa.rn]
  split
  ·rename_i b hb
   simp only[VL]
   exact⟨j,(hf _ _ hb).1 j h1,rfl⟩
  ·simp[VL]
 |.func g cs,a,e=>by
  simp only[VL,Proofs.Ytkedeiklmpkgkaa.rn]at e ⊢
  obtain⟨cs',rfl,h⟩:=e
  exact⟨cs',rfl,bL.rn hk hf cs cs' h⟩
 |.nilFunc,_,e=>by simpa[Proofs.Ytkedeiklmpkgkaa.rn,VL]using e
 |.agg cs,a,e=>by
  simp only[VL,Proofs.Ytkedeiklmpkgkaa.rn]at e ⊢
  obtain⟨cs',rfl,h⟩:=e
  exact⟨cs',rfl,bL.rn hk hf cs cs' h⟩
 |.tuple cs,a,e=>by
  simp only[VL,Proofs.Ytkedeiklmpkgkaa.rn]at e ⊢
  obtain⟨cs',rfl,h⟩:=e
  exact⟨cs',rfl,bL.rn hk hf cs cs' h⟩
 |.list sz n cs ex,a,e=>by
  simp only[Proofs.Ytkedeiklmpkgkaa.rn]
  exact VL.mono hk κ qC _ _ (λi hi=>by simp[u_]at hi) e
 |.elem cs,a,e=>by
  simp only[Proofs.Ytkedeiklmpkgkaa.rn]
  exact VL.mono hk κ qC _ _ (λi hi=>by simp[u_]at hi) e
 |.acc b o sz n w,a,e=>by
  simp only[Proofs.Ytkedeiklmpkgkaa.rn]
  split
  ·rename_i b' hb
   simp only[VL]at e ⊢
   obtain⟨p,s',cap,ex,h1,h2,h3,h4,m,L,h5,h6,h7,h8⟩:=e
   obtain⟨f1,f2,f3⟩:=hf _ _ hb
   exact⟨p,s',cap,ex,h1,h2,h3,h4,m,L,f3 _ h5,h6,h7,h8.imp (λ⟨j,k1,k2⟩=>⟨j,f1 j k1,k2⟩) (λ⟨k1,k2⟩=>⟨f2 k1,k2⟩)⟩
  ·simp[VL]
theorem bL.rn{M M':Heap}{O O':Nat→Prop}(hk:Keeps M O M' O'){f:Nat→Option Nat}{κ qC:VI}(hf:Via f κ qC):∀(l r:List AV),bL M O κ l r→bL M' O' qC (KD f l) r
 | [],[],_=>by simp[KD,bL]
 | v::l,a::r,e=>by
  simp only[bL,KD]at e ⊢
  exact⟨VL.rn hk hf v a e.1,bL.rn hk hf l r e.2⟩
 | [],_::_,e=>by simp[bL]at e
 | _::_,[],e=>by simp[bL]at e
end
theorem Rv{f:Nat→Option Nat}:∀(l:List AV),(KD f l).length=l.length
 | []=>rfl
 | _::l=>by simp[KD,Rv l]
theorem BL.rn{M M':Heap}{O O':Nat→Prop}(hk:Keeps M O M' O'){f:Nat→Option Nat}{κ qC:VI}(hf:Via f κ qC){d:Option (Nat×Nat)}{x:jN}{y:Option jN}(r:BL M O κ d x y):BL M' O' qC d (rnB f x) y:=by
 cases x with
 | cells c ro sl =>
  obtain⟨c',t,ro',sl',L,rfl,h0,h1,h2,h3,h4⟩:=r
  cases sl with
  | true=>exact⟨c',t,ro',sl',L,rfl,h0,h1,h2,bL.mono hk _ _ c c' (.refl _ _) h3,h4⟩
  | false=>exact⟨c',t,ro',sl',L,rfl,h0,by rw[Rv];exact h1,h2,bL.rn hk hf c c' h3,h4⟩
 | map es=>exact r
theorem MZ(f:Nat→Option Nat)(x:jN):(rnB f x).ro=x.ro:=by
 cases x with
 | cells c ro sl=>cases sl<;>rfl
 | map es=>rfl
mutual
theorem VL.retag{M:Heap}{O:Nat→Prop}{κ:VI}(v t a:AV)(h:VL M O κ v a):VL M O κ (Proofs.Ytkedeiklmpkgkaa.retag v t) a:=by
 rw[Proofs.Ytkedeiklmpkgkaa.retag.eq_def]
 split
 ·split
  ·simp only[VL]at h ⊢
   exact h
  ·exact h
 ·split
  ·simp only[VL]at h ⊢
   obtain⟨cs',rfl,h⟩:=h
   exact⟨cs',rfl,bL.retag _ _ _ h⟩
  ·exact h
 ·split
  ·simp only[VL]at h ⊢
   obtain⟨cs',rfl,h⟩:=h
   exact⟨cs',rfl,bL.retag _ _ _ h⟩
  ·exact h
 ·exact h
termination_by SizeOf.sizeOf v
theorem bL.retag{M:Heap}{O:Nat→Prop}{κ:VI}(l ts r:List AV)(h:bL M O κ l r):bL M O κ (lU l ts) r:=by
 rw[lU.eq_def]
 split
 ·split
  ·cases r with
   | nil=>simp[bL]at h
   | cons a r =>
    simp only[bL]at h ⊢
    exact⟨VL.retag _ _ _ h.1,bL.retag _ _ _ h.2⟩
  ·exact h
 ·exact h
termination_by SizeOf.sizeOf l
end
theorem uK{H:WH}{p:List Nat}:∀(q:List Nat),(qj H p q).length=q.length
 | []=>rfl
 | _::q=>by simp[qj,uK q]
theorem mI {H:WH} {p:List Nat}:∀(q:List Nat) (k:Nat),b_ (qj H p q) k=match q[k]? with
  | some b=>TD (sD p) (b_ H b)
  | none=>none
 | [],k=>by simp[qj,b_]
 | b::q,0=>by simp[qj,b_]
 | b::q,k+1=>by simp[qj,b_,mI q k]
theorem sI{f:Nat→Option Nat}{x:Option jN}{y:jN}(h:TD f x=some y):∃z,x=some z∧y=rnB f z:=by
 cases x with
 | none=>simp[TD]at h
 | some z=>simp only[TD,av]at h;exact⟨z,rfl,h.symm⟩
def eP (ι:VI) (p:List Nat):VI:=⟨λk=>match p[k]? with
  | some b=>ι b
  | none=>none,λk=>match p[k]? with
  | some b=>ι.Gy b
  | none=>false,λk=>match p[k]? with
  | some b=>ι.gone b
  | none=>true,λk=>match p[k]? with
  | some b=>ι.dim b
  | none=>none⟩
theorem xA{ι:VI}{p:List Nat}:Via (sD p) ι (eP ι p):=λb k h=>by
 have:=FM h
 simp only[eP,this]
 exact⟨λ_ h=>h,λh=>h,λ_ h=>h⟩
theorem vg{ι:VI}{p:List Nat}{j:Nat}(h:own (eP ι p) j):∃b,b∈p∧ι b=some j∧ι.gone b=false:=by
 obtain⟨k,h1,h2⟩:=h
 simp only[eP]at h1 h2
 cases e:p[k]? with
 | none=>rw[e]at h1;cases h1
 | some b =>
  rw[e]at h1 h2
  exact⟨b,List.mem_of_getElem? e,h1,h2⟩
theorem VS.pick {R R':Nat→Prop} {ι:VI} {H:WH} {M:Heap} (s:VS R ι H M) {p:List Nat} (hp:p.Nodup) (hR:∀j,R' j→j<M.next∧∀b,b∈p→act ι H b→ι b≠some j) (hO:∀j,OR R' (eP ι p) j→OR R ι j) :
  VS R' (eP ι p) (qj H p p) M:=by
 have hk:Keeps M (OR R ι) M (OR R' (eP ι p)):=⟨Nat.le_refl _,λb _ h=>⟨rfl,λk=>h (hO b k)⟩⟩
 have ac:∀k,act (eP ι p) (qj H p p) k→∃b,p[k]?=some b∧act ι H b:=λk h=>by
  cases e:p[k]? with
  | none =>
   rcases h with⟨x,h⟩ | h
   ·rw[mI,e]at h;cases h
   ·simp only[eP,e]at h;cases h
  | some b =>
   refine⟨b,rfl, ?_⟩
   rcases h with⟨x,h⟩ | h
   ·rw[mI,e]at h
    obtain⟨z,hz,_⟩:=sI h
    exact .inl ⟨z,hz⟩
   ·simp only[eP,e]at h
    exact .inr h
 have at':∀ {k b},p[k]?=some b→(eP ι p) k=ι b∧(eP ι p).Gy k=ι.Gy b∧(eP ι p).gone k=ι.gone b∧(eP ι p).dim k=ι.dim b:=λe=>by simp[eP,e]
 refine⟨λk j h=>?_,λk k' j h h' e e' g=>?_,λk x hx=>?_,λk h=>?_,λk hk' c sl h=>?_,s.Ot,λj h=>⟨(hR j h).1,λk hk'=>?_⟩⟩
 ·cases e:p[k]? with
  | none=>simp only[eP,e]at h;cases h
  | some b =>
   rw[(at' e).1]at h
   exact⟨by rw[uK];exact(aM.1 e).1,(s.lt b j h).2⟩
 ·obtain⟨b,q1,q2⟩:=ac k h
  obtain⟨b',q1',q2'⟩:=ac k' h'
  rw[(at' q1).1]at e
  rw[(at' q1').1]at e'
  rw[(at' q1).2.2.1,(at' q1').2.2.1]at g
  have:=s.inj b b' j q2 q2' e e' g
  subst this
  have:=yT hp q1
  rw[yT hp q1']at this
  exact(ak this).symm
 ·cases e:p[k]? with
  | none=>rw[mI,e]at hx;cases hx
  | some b =>
   rw[mI,e]at hx
   obtain⟨z,hz,rfl⟩:=sI hx
   rw[(at' e).1,(at' e).2.1,(at' e).2.2.1,(at' e).2.2.2,MZ]
   rcases s.blk b z hz with⟨h1,h2,ro,rfl⟩ |⟨j,h1,h2,h3⟩
   ·exact .inl ⟨h1,h2,ro,rfl⟩
   ·exact .inr ⟨j,h1,BL.rn hk xA h2,h3⟩
 ·cases e:p[k]? with
  | none=>simp only[eP,e]at h;cases h
  | some b =>
   rw[(at' e).2.1]at h
   rw[(at' e).1]
   exact⟨by rw[uK];exact(aM.1 e).1,(s.sF b h).2⟩
 ·cases e:p[k]? with
  | none=>rw[mI,e]at h;cases h
  | some b =>
   rw[(at' e).2.2.1]at hk'
   rw[mI,e]at h
   obtain⟨z,hz,h2⟩:=sI h
   have hr:=MZ (sD p) z
   rw[←h2]at hr
   cases z with
   | cells c' ro sl' =>
    simp only[jN.ro]at hr
    subst hr
    exact s.pG b hk' c' sl' hz
   | map es=>cases h2
 ·obtain⟨b,q1,q2⟩:=ac k hk'
  rw[(at' q1).1]
  exact(hR j h).2 b (List.mem_of_getElem? q1) q2
theorem Dl{H:WH}{np:Nat}:∀(l seen:List Nat),(BH H np seen l).Nodup∧∀x,x∈BH H np seen l→x∈l∧nW seen x=false∧(x<np∨∃y,b_ H x=some y)
 | [],seen=>by simp[BH]
 | a::r,seen=>by
  simp only[BH]
  cases h:nW seen a with
  | true =>
   obtain⟨h1,h2⟩:=Dl r seen
   exact⟨h1,λx hx=>⟨List.mem_cons_of_mem _ (h2 x hx).1,(h2 x hx).2⟩⟩
  | false =>
   obtain⟨h1,h2⟩:=Dl (H:=H) (np:=np) r (a::seen)
   have hne:∀x,x∈BH H np (a::seen) r→x≠a∧nW seen x=false:=λx hx=>by
    have:=(h2 x hx).2.1
    simp only[nW]at this
    split at this
    ·cases this
    ·rename_i e
     exact⟨λe'=>by subst e';simp at e,this⟩
   have ZO:(x:Nat)→x∈BH H np (a::seen) r→x∈a::r∧nW seen x=false∧(x<np∨∃y,b_ H x=some y):=λx hx =>
    ⟨List.mem_cons_of_mem _ (h2 x hx).1,(hne x hx).2,(h2 x hx).2.2⟩
   have both:(a<np∨∃y,b_ H a=some y)→(a::BH H np (a::seen) r).Nodup∧∀x,x∈a::BH H np (a::seen) r→x∈a::r∧nW seen x=false∧(x<np∨∃y,b_ H x=some y):=λha =>
    ⟨List.nodup_cons.2 ⟨λhm=>(hne a hm).1 rfl,h1⟩,λx hx=>by
     rcases List.mem_cons.1 hx with rfl | hx
     ·exact⟨List.mem_cons_self,h,ha⟩
     ·exact ZO x hx⟩
   simp only
   split
   ·rename_i hb
    exact both (.inl (by simpa[Nat.blt_eq]using hb))
   ·split
    ·rename_i y hy
     exact both (.inr ⟨y,hy⟩)
    ·exact⟨h1,ZO⟩
theorem Sv{a b:Nat}{l:List Nat}(h:a≠b):nW (a::l) b=nW l b:=by
 have:Nat.beq a b=false:=by
  cases hh:Nat.beq a b with
  | false=>rfl
  | true=>exact absurd (bg hh) h
 simp[nW,this]
theorem OB{H:WH}{np:Nat}:∀(l seen r:List Nat),l.Nodup→(∀x,x∈l→x<np∧nW seen x=false)→∃r',BH H np seen (l++r)=l++r'
 | [],seen,r,_,_=>⟨BH H np seen r,rfl⟩
 | a::l,seen,r,hn,h=>by
  rw[List.nodup_cons]at hn
  obtain⟨h1,h2⟩:=h a (by simp)
  obtain⟨r',hr⟩:=OB (H:=H) (np:=np) l (a::seen) r hn.2 (λx hx=>⟨(h x (by simp[hx])).1,by
   have hne:a≠x:=λe=>hn.1 (by rw[e];exact hx)
   rw[Sv hne]
   exact(h x (by simp[hx])).2⟩)
  refine⟨r', ?_⟩
  simp only[List.cons_append,BH,h2]
  rw[show Nat.blt a np=true by simpa[Nat.blt_eq]using h1]
  simp only[hr]
theorem JC(H:WH)(np:Nat)(roots:List Nat):(Fv H np roots).Nodup∧(∀x,x∈Fv H np roots→x<np∨∃y,b_ H x=some y)∧∃r,Fv H np roots=List.range np++r:=by
 have pre:∀r,∃r',BH H np [] (List.range np++r)=List.range np++r':=λr =>
  OB _ [] r List.nodup_range (λx hx=>⟨List.mem_range.1 hx,rfl⟩)
 have step:∀l,(∃r,l=List.range np++r)→∃r,Uw H np l=List.range np++r:=λl ⟨r,h⟩=>by
  subst h
  unfold Uw
  rw[bE]
  exact pre _
 refine⟨(Dl _ _).1,λx hx=>((Dl _ _).2 x hx).2.2, ?_⟩
 exact step _ (step _ (step _ (pre _)))
theorem XB{H:WH}{np i:Nat}{roots:List Nat}(h:i<np):(Fv H np roots)[i]?=some i:=by
 obtain⟨_,_,r,hr⟩:=JC H np roots
 rw[hr,List.getElem?_append_left (by simpa using h)]
 simp[h]
theorem ZP {R:Nat→Prop} {ι:VI} {H:WH} {M:Heap} (s:VS R ι H M) {np:Nat} (hn:np≤H.length) (roots:List Nat) {vs as:List AV} (hv:bL M (OR R ι) ι vs as) :
  ∃bI,VS R bI (qj H (Fv H np roots) (Fv H np roots)) M∧Stp np [] ι H M bI (qj H (Fv H np roots) (Fv H np roots)) M∧bL M (OR R bI) bI (KD (sD (Fv H np roots)) vs) as:=by
 obtain⟨h1,h2,r,hr⟩:=JC H np roots
 have hlow:∀i,i<np→(Fv H np roots)[i]?=some i:=λi=>XB
 generalize Fv H np roots=p at *
 have hsub:∀j,OR R (eP ι p) j→OR R ι j:=λj h=>h.imp (λh=>by
  obtain⟨b,_,h3,h4⟩:=vg h
  exact⟨b,h3,h4⟩) id
 have hs:=s.pick h1 (R':=R) (λj h=>⟨(s.res j h).1,λb _ hb=>(s.res j h).2 b hb⟩) hsub
 have hko:Keeps M (own ι) M (own (eP ι p)):=⟨Nat.le_refl _,λb _ h=>⟨rfl,λk=>h (by obtain⟨b',_,h3,h4⟩:=vg k;exact⟨b',h3,h4⟩)⟩⟩
 refine⟨_,hs,⟨hko,λi hi=>?_,λi hi h=>?_,λi hi=>by simp only[eP,hlow i hi],λi hi=>by simp only[eP,hlow i hi],λi hi _=>by simp only[eP,hlow i hi],λi hi h=>?_,λ_ _ _ _ _ _=>rfl, ?_⟩, ?_⟩
 ·have:=hlow i hi
  simp only[eP,this]
  exact⟨λ_ h=>⟨h,λ_ h=>h⟩,λh=>⟨h,λ_ h=>h⟩⟩
 ·simp only[eP,hlow i hi]
  exact h
 ·obtain⟨x,h⟩:=h
  rw[mI,hlow i hi]at h
  obtain⟨z,hz,_⟩:=sI h
  exact⟨z,hz⟩
 ·rw[uK,hr]
  simp
 ·exact bL.rn ⟨Nat.le_refl _,λb _ h=>⟨rfl,λk=>h (hsub b k)⟩⟩ xA _ _ hv
theorem GJ {R:Nat→Prop} {ι:VI} {H:WH} {M:Heap} (s:VS R ι H M) {np:Nat} (hn:np≤H.length) {ms bs:List (Option Bool)} {ts vs as:List AV} (hv:bL M (OR R ι) ι vs as) {k:List AV→WH→Prop} (h:Jt np ms bs ts vs H k) :
  ∃vs' blks bI,k vs' blks∧VS R bI blks M∧Stp np [] ι H M bI blks M∧bL M (OR R bI) bI vs' as:=by
 unfold Jt at h
 obtain⟨kD,h1,h2,h3⟩:=FK ms (lU vs ts) H ι M as s (bL.retag _ _ _ hv)
 generalize hr:Dz ms (lU vs ts) H=r at *
 obtain⟨vs1,H1⟩:=r
 simp only at h h1 h2 h3
 obtain⟨uI,k1,k2⟩:=FL bs none (Fv H1 np (jQ vs1)) H1 kD M h1
 have k3:=bL.step h1 k2 h3
 obtain⟨ι3,q1,q2,q3⟩:=ZP k1 (Nat.le_trans hn (Nat.le_trans h2.next k2.next)) (jQ vs1) k3
 refine⟨_,_,ι3,h,q1, ?_,q3⟩
 have e1:Stp np [] ι H M kD H1 M:=h2.weak hn
 have e2:Stp np [] kD H1 M uI _ M:=k2.weak (Nat.le_trans hn h2.next)
 have:=(e1.trans e2 (Nat.le_refl _)).trans q2 (Nat.le_refl _)
 simpa using this
theorem Ey{f:Nat→Option Nat}:∀(p:List Nat) (out H:WH),(uJ f p out H).length=H.length
 | [],out,H=>by simp[uJ]
 | b::p,[],H=>by simp[uJ]
 | b::p,x::out,H=>by simp[uJ,Ey p,dO]
theorem Cm{f:Nat→Option Nat}:∀(p:List Nat) (out H:WH) (i:Nat),i∉p→b_ (uJ f p out H) i=b_ H i
 | [],out,H,i,_=>by simp[uJ]
 | b::p,[],H,i,_=>by simp[uJ]
 | b::p,x::out,H,i,h=>by
  simp only[List.mem_cons,not_or]at h
  simp only[uJ]
  rw[Cm p out _ i h.2,mV,if_neg (λe=>h.1 e.1)]
theorem JD{f:Nat→Option Nat}:∀(p:List Nat) (out H:WH) (k b:Nat),p.Nodup→p.length≤out.length→p[k]?=some b→b<H.length→b_ (uJ f p out H) b=TD f (b_ out k)
 | [],out,H,k,b,_,_,h,_=>by simp at h
 | a::p,[],H,k,b,_,hl,_,_=>by simp at hl
 | a::p,x::out,H,0,b,hp,hl,h,hb=>by
  simp only[List.getElem?_cons_zero,av]at h
  subst h
  rw[List.nodup_cons]at hp
  simp only[uJ]
  rw[Cm p out _ a hp.1,mV,if_pos ⟨rfl,hb⟩]
  rfl
 | a::p,x::out,H,k+1,b,hp,hl,h,hb=>by
  simp only[List.getElem?_cons_succ]at h
  rw[List.nodup_cons]at hp
  simp only[bZ]at hl
  simp only[uJ]
  rw[JD p out _ k b hp.2 (by omega) h (by rw[dO];exact hb)]
  rfl
theorem LD:∀(out:WH) (n k:Nat),b_ (out.drop n) k=b_ out (n+k)
 | out,0,k=>by simp
 | [],n+1,k=>by simp[b_]
 | x::out,n+1,k=>by
  rw[List.drop_succ_cons,LD out n k,Nat.add_right_comm]
  rfl
theorem OC{f:Nat→Option Nat}:∀(out:WH) (k:Nat),b_ (out.map (TD f)) k=TD f (b_ out k)
 | [],k=>by simp[b_,TD]
 | x::out,0=>by simp[b_]
 | x::out,k+1=>by simp[b_,OC out k]
def cls(n0:Nat)(p:List Nat)(i:Nat):Nat⊕Nat:=match sD p i with
 | some k=>.inl k
 | none=>if i<n0 then .inr i else .inl (p.length+(i-n0))
def pY (ι yu:VI) (n0:Nat) (p:List Nat):VI:=⟨λi=>match cls n0 p i with
  |.inl k=>yu k
  |.inr i=>ι i,λi=>match cls n0 p i with
  |.inl k=>yu.Gy k
  |.inr i=>ι.Gy i,λi=>match cls n0 p i with
  |.inl k=>yu.gone k
  |.inr i=>ι.gone i,λi=>match cls n0 p i with
  |.inl k=>yu.dim k
  |.inr i=>ι.dim i⟩
section
variable {R:Nat→Prop} {ι:VI} {H:WH} {M:Heap} (s:VS R ι H M) {p:List Nat} (hp:p.Nodup) (hl:∀b,b∈p→b<H.length) {out:WH} (ho:p.length≤out.length)
include hp hl
theorem Dm{i k:Nat}(h:p[k]?=some i):cls H.length p i=.inl k:=by simp[cls,yT hp h]
theorem Dn{i k:Nat}(h:cls H.length p i=.inl k):(p[k]?=some i∧i<H.length)∨(i∉p∧H.length≤i∧k=p.length+(i-H.length)):=by
 unfold cls at h
 cases e:sD p i with
 | some k' =>
  rw[e]at h
  simp only[Sum.inl.injEq]at h
  subst h
  have:=FM e
  exact .inl ⟨this,hl i (List.mem_of_getElem? this)⟩
 | none =>
  rw[e]at h
  simp only at h
  split at h
  ·cases h
  ·simp only[Sum.inl.injEq]at h
   exact .inr ⟨GI e,by omega,h.symm⟩
theorem uW{i i':Nat}(h:cls H.length p i=.inr i'):i'=i∧i∉p∧i<H.length:=by
 unfold cls at h
 cases e:sD p i with
 | some k'=>rw[e]at h;cases h
 | none =>
  rw[e]at h
  simp only at h
  split at h
  ·simp only[Sum.inr.injEq]at h
   exact⟨h.symm,GI e,by assumption⟩
  ·cases h
theorem XC{i i' k:Nat}(h:cls H.length p i=.inl k)(h':cls H.length p i'=.inl k):i=i':=by
 rcases Dn hp hl h with⟨h1,_⟩ |⟨_,h2,h3⟩<;>rcases Dn hp hl h' with⟨h1',_⟩ |⟨_,h2',h3'⟩
 ·rw[h1]at h1'
  exact ak h1'
 ·have:=(aM.1 h1).1
  omega
 ·have:=(aM.1 h1').1
  omega
 ·omega
theorem UK{k i:Nat}(h:back p H.length k=some i):cls H.length p i=.inl k:=by
 unfold back at h
 cases e:p[k]? with
 | some b =>
  rw[e]at h
  obtain rfl:=ak h
  exact Dm hp hl e
 | none =>
  rw[e]at h
  simp only[av]at h
  have hk:p.length≤k:=by
   rw[List.getElem?_eq_none_iff]at e
   exact e
  unfold cls
  have hn:sD p i=none:=by
   cases e':sD p i with
   | none=>rfl
   | some k' =>
    have:=hl i (List.mem_of_getElem? (FM e'))
    omega
  rw[hn]
  simp only
  rw[if_neg (by omega)]
  congr 1
  omega
include ho
theorem Sw (i:Nat):b_ (Bn H p out) i=match cls H.length p i with
  |.inl k=>TD (back p H.length) (b_ out k)
  |.inr i=>b_ H i:=by
 unfold Bn
 rw[Fz,Ey]
 cases h:cls H.length p i with
 | inl k =>
  rcases Dn hp hl h with⟨h1,h2⟩ |⟨_,h2,rfl⟩
  ·rw[if_pos h2]
   simp only
   exact JD p out H k i hp ho h1 h2
  ·rw[if_neg (by omega)]
   simp only
   rw[OC,LD]
 | inr i' =>
  obtain⟨rfl,h2,h3⟩:=uW hp hl h
  rw[if_pos h3]
  exact Cm p out H _ h2
theorem Sy:(Bn H p out).length=H.length+(out.length-p.length):=by
 unfold Bn
 simp[Ey]
theorem Rw {R':Nat→Prop} (hR':∀j,R' j↔R j∨(own ι j∧¬own (eP ι p) j)) {yu:VI} {M':Heap} {blks:WH} (s:VS R ι H M) (sc:VS R' yu out M') (kc:Stp p.length (List.range p.length) (eP ι p) blks M yu out M') (hpl:∀b,b∈p→∃x,b_ H b=some x) (hbk:∀k b,p[k]?=some b→(∃x,b_ blks k=some x)→∃x,b_ H b=some x) :
  VS R (pY ι yu H.length p) (Bn H p out) M'∧Stp H.length p ι H M (pY ι yu H.length p) (Bn H p out) M'∧∀v a,VL M' (OR R' yu) yu v a→VL M' (OR R (pY ι yu H.length p)) (pY ι yu H.length p) (rn (back p H.length) v) a:=by
 have hinl:∀ {i k},cls H.length p i=.inl k→(pY ι yu H.length p) i=yu k∧(pY ι yu H.length p).Gy i=yu.Gy k∧(pY ι yu H.length p).gone i=yu.gone k∧(pY ι yu H.length p).dim i=yu.dim k:=λh=>by simp[pY,h]
 have hinr:∀ {i i'},cls H.length p i=.inr i'→(pY ι yu H.length p) i=ι i∧(pY ι yu H.length p).Gy i=ι.Gy i∧(pY ι yu H.length p).gone i=ι.gone i∧(pY ι yu H.length p).dim i=ι.dim i:=λh=>by
  obtain⟨rfl,_⟩:=uW hp hl h
  simp[pY,h]
 have hget:=Sw (out:=out) hp hl ho
 have hlen:=Sy (out:=out) hp hl ho
 have hold:∀ {i},i∉p→i<H.length→cls H.length p i=.inr i:=λ{i} h1 h2=>by
  cases h:cls H.length p i with
  | inl k =>
   rcases Dn hp hl h with⟨h3,_⟩ |⟨_,h3,_⟩
   ·exact absurd (List.mem_of_getElem? h3) h1
   ·omega
  | inr i'=>rw[(uW hp hl h).1]
 have aci:∀ {i k},cls H.length p i=.inl k→act (pY ι yu H.length p) (Bn H p out) i→act yu out k:=λh ha=>by
  rcases ha with⟨x,ha⟩ | ha
  ·rw[hget,h]at ha
   obtain⟨z,hz,_⟩:=sI ha
   exact .inl ⟨z,hz⟩
  ·rw[(hinl h).2.2.1]at ha
   exact .inr ha
 have aco:∀ {i i'},cls H.length p i=.inr i'→act (pY ι yu H.length p) (Bn H p out) i→act ι H i:=λh ha=>by
  rcases ha with⟨x,ha⟩ | ha
  ·obtain⟨rfl,_⟩:=uW hp hl h
   rw[hget,h]at ha
   exact .inl ⟨x,ha⟩
  ·rw[(hinr h).2.2.1]at ha
   exact .inr ha
 -- what is the caller's alone
 have Rx:∀ {i j},i∉p→act ι H i→ι i=some j→¬own (eP ι p) j:=λ{i j} h1 h2 h3 h4=>by
  obtain⟨b,q1,q2,q3⟩:=vg h4
  have:=s.inj b i j (.inr q3) h2 q2 h3 (.inl q3)
  subst this
  exact h1 q1
 have stays:∀ {i j},i∉p→act ι H i→ι i=some j→M'.get j=M.get j∧¬own yu j:=λ{i j} h1 h2 h3=>kc.keep.get j (s.lt i j h3).2 (Rx h1 h2 h3)
 have sub:∀j,own (eP ι p) j→own ι j:=λj h=>by
  obtain⟨b,_,h3,h4⟩:=vg h
  exact⟨b,h3,h4⟩
 have aa5:∀j,own (pY ι yu H.length p) j→own yu j∨(∃i,i∉p∧i<H.length∧ι i=some j∧ι.gone i=false):=λj ⟨i,h1,h2⟩=>by
  cases h:cls H.length p i with
  | inl k =>
   rw[(hinl h).1]at h1
   rw[(hinl h).2.2.1]at h2
   exact .inl ⟨k,h1,h2⟩
  | inr i' =>
   obtain⟨rfl,q1,q2⟩:=uW hp hl h
   rw[(hinr h).1]at h1
   rw[(hinr h).2.2.1]at h2
   exact .inr ⟨i',q1,q2,h1,h2⟩
 have hOO:∀j,OR R (pY ι yu H.length p) j→OR R' yu j:=λj h=>by
  rcases h with h | h
  ·rcases aa5 j h with h |⟨i,q1,q2,q3,q4⟩
   ·exact .inl h
   ·exact .inr ((hR' j).2 (.inr ⟨⟨i,q3,q4⟩,Rx q1 (.inr q4) q3⟩))
  ·exact .inr ((hR' j).2 (.inl h))
 have hkeep:Keeps M (own ι) M' (own (pY ι yu H.length p)):=⟨kc.keep.next,λb hb h=>by
  obtain⟨e1,e2⟩:=kc.keep.get b hb (λk=>h (sub b k))
  refine⟨e1,λk=>?_⟩
  rcases aa5 b k with k |⟨i,q1,q2,q3,q4⟩
  ·exact e2 k
  ·exact h ⟨i,q3,q4⟩⟩
 have hle:∀S,VI.Le ι (pY ι yu H.length p) S:=λS i _=>by
  by_cases hi:i∈p
  ·obtain⟨k,hk⟩:=List.mem_iff_getElem?.1 hi
   have hc:=Dm hp hl hk
   have hkl:=(aM.1 hk).1
   obtain⟨e1,e2,e3,e4⟩:=hinl hc
   have:=kc.le k hkl
   simp only[eP,hk]at this
   rw[e1,e2,e4]
   exact this
  ·by_cases hlt:i<H.length
   ·obtain⟨e1,e2,e3,e4⟩:=hinr (hold hi hlt)
    rw[e1,e2,e4]
    exact⟨λ_ h=>⟨h,λ_ h=>h⟩,λh=>⟨h,λ_ h=>h⟩⟩
   ·exact⟨λj h=>absurd (s.lt i j h).1 hlt,λh=>absurd (s.sF i h).1 hlt⟩
 have aa6:Via (back p H.length) yu (pY ι yu H.length p):=λk i h=>by
  obtain⟨e1,e2,e3,e4⟩:=hinl (UK hp hl h)
  rw[e1,e2,e4]
  exact⟨λ_ h=>h,λh=>h,λ_ h=>h⟩
 have hkO:Keeps M' (OR R' yu) M' (OR R (pY ι yu H.length p)):=⟨Nat.le_refl _,λb _ h=>⟨rfl,λk=>h (hOO b k)⟩⟩
 refine⟨⟨λi j h=>?_,λi i' j h h' e e' g=>?_,λi x hx=>?_,λi h=>?_,λi hi c sl h=>?_,sc.Ot,λj h=>⟨?_,λi hi=>?_⟩⟩,⟨hkeep,hle _,λi hi h=>?_,λi hi=>?_,λi hi=>?_,λi hi h=>?_,λi hi h=>?_,λi j hi h hj hn=>?_,by rw[hlen];omega⟩,λv a h=>VL.rn hkO aa6 v a h⟩
 ·rw[hlen]
  cases hc:cls H.length p i with
  | inl k =>
   rw[(hinl hc).1]at h
   obtain⟨q1,q2⟩:=sc.lt k j h
   refine⟨?_,q2⟩
   rcases Dn hp hl hc with⟨_,h2⟩ |⟨_,h2,rfl⟩<;>omega
  | inr i' =>
   rw[(hinr hc).1]at h
   obtain⟨q1,q2⟩:=s.lt i j h
   exact⟨by omega,Nat.lt_of_lt_of_le q2 kc.keep.next⟩
 ·cases hc:cls H.length p i with
  | inl k =>
   cases hc':cls H.length p i' with
   | inl k' =>
    rw[(hinl hc).1]at e
    rw[(hinl hc').1]at e'
    rw[(hinl hc).2.2.1,(hinl hc').2.2.1]at g
    have:=sc.inj k k' j (aci hc h) (aci hc' h') e e' g
    subst this
    exact XC hp hl hc hc'
   | inr i2 =>
    exfalso
    obtain⟨rfl,q1,q2⟩:=uW hp hl hc'
    have ha:=aco hc' h'
    rw[(hinl hc).1]at e
    rw[(hinr hc').1]at e'
    rw[(hinl hc).2.2.1,(hinr hc').2.2.1]at g
    rcases g with g | g
    ·exact(stays q1 ha e').2 ⟨k,e,g⟩
    ·exact(sc.res j ((hR' j).2 (.inr ⟨⟨i2,e',g⟩,Rx q1 ha e'⟩))).2 k (aci hc h) e
  | inr i1 =>
   obtain⟨rfl,q1,q2⟩:=uW hp hl hc
   have ha:=aco hc h
   rw[(hinr hc).1]at e
   cases hc':cls H.length p i' with
   | inl k' =>
    exfalso
    rw[(hinl hc').1]at e'
    rw[(hinr hc).2.2.1,(hinl hc').2.2.1]at g
    rcases g with g | g
    ·exact(sc.res j ((hR' j).2 (.inr ⟨⟨i1,e,g⟩,Rx q1 ha e⟩))).2 k' (aci hc' h') e'
    ·exact(stays q1 ha e).2 ⟨k',e',g⟩
   | inr i2 =>
    obtain⟨rfl,q1',q2'⟩:=uW hp hl hc'
    rw[(hinr hc').1]at e'
    rw[(hinr hc).2.2.1,(hinr hc').2.2.1]at g
    exact s.inj i1 i2 j ha (aco hc' h') e e' g
 ·cases hc:cls H.length p i with
  | inl k =>
   rw[hget,hc]at hx
   obtain⟨z,hz,rfl⟩:=sI hx
   obtain⟨e1,e2,e3,e4⟩:=hinl hc
   rw[e1,e2,e3,e4,MZ]
   rcases sc.blk k z hz with⟨h1,h2,ro,rfl⟩ |⟨j,h1,h2,h3⟩
   ·exact .inl ⟨h1,h2,ro,rfl⟩
   ·exact .inr ⟨j,h1,BL.rn hkO aa6 h2,h3⟩
  | inr i' =>
   obtain⟨rfl,q1,q2⟩:=uW hp hl hc
   rw[hget,hc]at hx
   obtain⟨e1,e2,e3,e4⟩:=hinr hc
   rw[e1,e2,e3,e4]
   rcases s.blk i' x hx with h |⟨j,h1,h2,h3⟩
   ·exact .inl h
   ·refine .inr ⟨j,h1, ?_,h3⟩
    rw[(stays q1 (.inl ⟨x,hx⟩) h1).1]
    exact h2.mono (hkeep.or R) hle (λ_ h=>h)
 ·rw[hlen]
  cases hc:cls H.length p i with
  | inl k =>
   rw[(hinl hc).2.1]at h
   rw[(hinl hc).1]
   obtain⟨q1,q2⟩:=sc.sF k h
   refine⟨?_,q2⟩
   rcases Dn hp hl hc with⟨_,h2⟩ |⟨_,h2,rfl⟩<;>omega
  | inr i' =>
   rw[(hinr hc).2.1]at h
   rw[(hinr hc).1]
   obtain⟨q1,q2⟩:=s.sF i h
   exact⟨by omega,q2⟩
 ·cases hc:cls H.length p i with
  | inl k =>
   rw[(hinl hc).2.2.1]at hi
   rw[hget,hc]at h
   obtain⟨z,hz,h2⟩:=sI h
   have hr:=MZ (back p H.length) z
   rw[←h2]at hr
   cases z with
   | cells c' ro sl' =>
    simp only[jN.ro]at hr
    subst hr
    exact sc.pG k hi c' sl' hz
   | map es=>cases h2
  | inr i' =>
   obtain⟨rfl,q1,q2⟩:=uW hp hl hc
   rw[(hinr hc).2.2.1]at hi
   rw[hget,hc]at h
   exact s.pG i' hi c sl h
 ·exact Nat.lt_of_lt_of_le (s.res j h).1 kc.keep.next
 ·cases hc:cls H.length p i with
  | inl k =>
   rw[(hinl hc).1]
   exact(sc.res j ((hR' j).2 (.inl h))).2 k (aci hc hi)
  | inr i' =>
   rw[(hinr hc).1]
   exact(s.res j h).2 i (aco hc hi)
 ·by_cases hm:i∈p
  ·obtain⟨k,hk⟩:=List.mem_iff_getElem?.1 hm
   rw[(hinl (Dm hp hl hk)).2.2.1]
   refine kc.gone k (aM.1 hk).1 ?_
   simp only[eP,hk]
   exact h
  ·rw[(hinr (hold hm hi)).2.2.1]
   exact h
 ·by_cases hm:i∈p
  ·obtain⟨k,hk⟩:=List.mem_iff_getElem?.1 hm
   rw[(hinl (Dm hp hl hk)).1,kc.ZI k (aM.1 hk).1]
   simp only[eP,hk]
  ·rw[(hinr (hold hm hi)).1]
 ·by_cases hm:i∈p
  ·obtain⟨k,hk⟩:=List.mem_iff_getElem?.1 hm
   rw[(hinl (Dm hp hl hk)).2.2.2,kc.PY k (aM.1 hk).1]
   simp only[eP,hk]
  ·rw[(hinr (hold hm hi)).2.2.2]
 ·by_cases hm:i∈p
  ·obtain⟨x,hx⟩:=hpl i hm
   rw[h]at hx
   cases hx
  ·rw[(hinr (hold hm hi)).2.2.1]
 ·obtain⟨x,h⟩:=h
  by_cases hm:i∈p
  ·obtain⟨k,hk⟩:=List.mem_iff_getElem?.1 hm
   rw[hget,Dm hp hl hk]at h
   obtain⟨z,hz,_⟩:=sI h
   exact hbk k i hk (kc.live k (aM.1 hk).1 ⟨z,hz⟩)
  ·rw[hget,hold hm hi]at h
   exact⟨x,h⟩
 ·exact(stays hn (aco (hold hn hi) h) hj).1
end
mutual
theorem OD{M M':Heap}{O O':Nat→Prop}{κ qC:VI}:∀(v a:AV),oq v=true→VL M O κ v a→VL M' O' qC v a
 |.bool _,a,_,h=>by simp only[VL]at h ⊢;exact h
 |.int ..,a,_,h=>by simp only[VL]at h ⊢;exact h
 |.str _,a,_,h=>by simp only[VL]at h ⊢;exact h
 |.ptr none,a,_,h=>by simp only[VL]at h ⊢;exact h
 |.nilFunc,a,_,h=>by simp only[VL]at h ⊢;exact h
 |.slice none s l c e,a,hs,h=>by simp only[VL]at h ⊢;exact h
 |.tuple cs,a,hs,h=>by
  simp only[oq]at hs
  simp only[VL]at h ⊢
  obtain⟨cs',e,h⟩:=h
  exact⟨cs',e,GK cs cs' hs h⟩
 |.agg cs,a,hs,h=>by
  simp only[oq]at hs
  simp only[VL]at h ⊢
  obtain⟨cs',e,h⟩:=h
  exact⟨cs',e,GK cs cs' hs h⟩
 |.undef,_,hs,_=>by simp[oq]at hs
 |.ptr (some _),_,hs,_=>by simp[oq]at hs
 |.slice (some _) _ _ _ _,_,hs,_=>by simp[oq]at hs
 |.map _,_,hs,_=>by simp[oq]at hs
 |.func _ _,_,hs,_=>by simp[oq]at hs
 |.list ..,_,hs,_=>by simp[oq]at hs
 |.elem _,_,hs,_=>by simp[oq]at hs
 |.acc ..,_,hs,_=>by simp[oq]at hs
theorem GK{M M':Heap}{O O':Nat→Prop}{κ qC:VI}:∀(v a:List AV),Ou v=true→bL M O κ v a→bL M' O' qC v a
 | [],[],_,_=>by simp[bL]
 | [],_::_,_,h=>by simp[bL]at h
 | _::_,[],_,h=>by simp[bL]at h
 | v::r,a::l,hs,h=>by
  simp only[Ou]at hs
  split at hs
  case h_2=>cases hs
  rename_i hv
  simp only[bL]at h ⊢
  exact⟨OD v a hv h.1,GK r l hs h.2⟩
end
theorem VS.ext{R:Nat→Prop}{ι:VI}{H:WH}{M M':Heap}(s:VS R ι H M)(hn:M.next≤M'.next)(hg:∀b,b<M.next→M'.get b=M.get b)(ok:M'.Ok):VS R ι H M'∧Stp H.length [] ι H M ι H M':=by
 have hk:Keeps M (own ι) M' (own ι):=⟨hn,λb hb ho=>⟨hg b hb,ho⟩⟩
 refine⟨⟨λi j h=>⟨(s.lt i j h).1,Nat.lt_of_lt_of_le (s.lt i j h).2 hn⟩,s.inj,λi x hx=>?_,s.sF,s.pG,ok,λj h=>⟨Nat.lt_of_lt_of_le (s.res j h).1 hn,(s.res j h).2⟩⟩,⟨hk,.refl _ _,λ_ _ h=>h,λ_ _=>rfl,λ_ _=>rfl,λ_ _ _=>rfl,λ_ _ h=>h,λi j _ _ hj _=>?_,Nat.le_refl _⟩⟩
 ·rcases s.blk i x hx with h |⟨j,h1,h2,h3⟩
  ·exact .inl h
  refine .inr ⟨j,h1, ?_,h3⟩
  rw[hg j (s.lt i j h1).2]
  exact h2.mono (hk.or R) (λ_=>.refl _ _) (λ_ h=>h)
 ·exact hg j (s.lt i j hj).2
theorem UL {C:bH} {g:FuncId} {args as:List AV} {R:Nat→Prop} {ι:VI} {H:WH} {M:Heap} (s:VS R ι H M) (hv:bL M (OR R ι) ι args as) {ms:List (Option Bool)} {ts:List AV} {v:AV}
  (h0:Fv (Dz ms (lU args ts) H).2 0 (jQ (Dz ms (lU args ts) H).1)=[]) (hs:oq v=true) (hspec:Spec C g (KD (sD []) (Dz ms (lU args ts) H).1) [] v []) :
  ∃a M',C g as M=some (a,M')∧VS R ι H M'∧Stp H.length [] ι H M ι H M'∧VL M' (OR R ι) ι v a:=by
 obtain⟨uI,k1,k2,k3⟩:=FK ms (lU args ts) H ι M as s (bL.retag _ _ _ hv)
 generalize Dz ms (lU args ts) H=q at *
 obtain⟨vs,H2⟩:=q
 simp only at h0 hspec k1 k2 k3
 obtain⟨p1,p2,_⟩:=JC H2 0 (jQ vs)
 rw[h0]at p1 p2
 let R':Nat→Prop:=λj=>R j∨(own uI j∧¬own (eP uI []) j)
 have hsub:∀j,OR R' (eP uI []) j→OR R uI j:=λj h=>by
  rcases h with h | h | h
  ·obtain⟨b,_,h3,h4⟩:=vg h
   exact .inl ⟨b,h3,h4⟩
  ·exact .inr h
  ·exact .inl h.1
 have hpick:=k1.pick p1 (R':=R') (λj h=>by
  rcases h with h |⟨⟨i,q1,q2⟩,q3⟩
  ·exact⟨(k1.res j h).1,λb _ hb=>(k1.res j h).2 b hb⟩
  ·exact⟨(k1.lt i j q1).2,λb hb=>(nomatch hb)⟩) hsub
 have hargs:bL M (OR R' (eP uI [])) (eP uI []) (KD (sD []) vs) as:=bL.rn ⟨Nat.le_refl _,λb _ h=>⟨rfl,λk=>h (hsub b k)⟩⟩ (by have:=@xA;rw[←h0];exact xA) _ _ k3
 obtain⟨a,M',yu,e,q1,q2,q3⟩:=hspec R' (eP uI []) M as hpick hargs
 have hno:∀b,¬own (eP uI []) b:=λb h=>by
  obtain⟨c,hc,_⟩:=vg h
  exact(nomatch hc)
 obtain⟨e1,e2⟩:=s.ext q2.keep.next (λb hb=>(q2.keep.get b hb (hno b)).1) q1.Ot
 exact⟨a,M',e,e1,e2,OD v a hs q3⟩
mutual
theorem LG{M M':Heap}{O O':Nat→Prop}{κ:VI}:∀(v a:AV),clean v=true→VL M O κ v a→VL M' O' κ v a
 |.bool _,a,_,h=>by simp only[VL]at h ⊢;exact h
 |.int ..,a,_,h=>by simp only[VL]at h ⊢;exact h
 |.str _,a,_,h=>by simp only[VL]at h ⊢;exact h
 |.ptr none,a,_,h=>by simp only[VL]at h ⊢;exact h
 |.ptr (some _),a,_,h=>by simp only[VL]at h ⊢;exact h
 |.nilFunc,a,_,h=>by simp only[VL]at h ⊢;exact h
 |.slice none s l c e,a,hs,h=>by simp only[VL]at h ⊢;exact h
 |.slice (some _) s l c e,a,hs,h=>by simp only[VL]at h
 |.map none,a,_,h=>by simp only[VL]at h ⊢;exact h
 |.map (some _),a,_,h=>by simp only[VL]at h ⊢;exact h
 |.undef,_,_,_=>by simp[VL]
 |.acc ..,a,_,h=>by simp only[VL]at h ⊢;exact h
 |.tuple cs,a,hs,h=>by
  simp only[clean]at hs
  simp only[VL]at h ⊢
  obtain⟨cs',e,h⟩:=h
  exact⟨cs',e,xK cs cs' hs h⟩
 |.agg cs,a,hs,h=>by
  simp only[clean]at hs
  simp only[VL]at h ⊢
  obtain⟨cs',e,h⟩:=h
  exact⟨cs',e,xK cs cs' hs h⟩
 |.func f cs,a,hs,h=>by
  simp only[clean]at hs
  simp only[VL]at h ⊢
  obtain⟨cs',e,h⟩:=h
  exact⟨cs',e,xK cs cs' hs h⟩
 |.list ..,_,hs,_=>by simp[clean]at hs
 |.elem _,_,hs,_=>by simp[clean]at hs
theorem xK{M M':Heap}{O O':Nat→Prop}{κ:VI}:∀(v a:List AV),kS v=true→bL M O κ v a→bL M' O' κ v a
 | [],[],_,_=>by simp[bL]
 | [],_::_,_,h=>by simp[bL]at h
 | _::_,[],_,h=>by simp[bL]at h
 | v::r,a::l,hs,h=>by
  simp only[kS]at hs
  split at hs
  case h_2=>cases hs
  rename_i hv
  simp only[bL]at h ⊢
  exact⟨LG v a hv h.1,xK r l hs h.2⟩
end
theorem VS.aa7{R R':Nat→Prop}{ι:VI}{H:WH}{M:Heap}(s:VS R ι H M)(hc:∀i x,b_ H i=some x→∃c sl,x=.cells c false sl∧kS c=true)(h:∀j,R' j→R j∨(j<M.next∧¬own ι j)):VS R' ι H M:=by
 refine⟨s.lt,s.inj,λi x hx=>?_,s.sF,s.pG,s.Ot,λj hj=>?_⟩
 ·rcases s.blk i x hx with h |⟨j,h1,h2,h3⟩
  ·exact .inl h
  obtain⟨c,sl,rfl,hcl⟩:=hc i x hx
  obtain⟨c',t,ro',sl',L,e,g0,g1,g2,g3,g4⟩:=h2
  exact .inr ⟨j,h1,⟨c',t,ro',sl',L,e,g0,g1,g2,xK c c' hcl g3,g4⟩,h3⟩
 ·rcases h j hj with h |⟨h,ho⟩
  ·exact s.res j h
  refine⟨h,λi ha hi=>ho ⟨i,hi, ?_⟩⟩
  rcases ha with⟨x,hx⟩ | ha
  ·obtain⟨c,sl,rfl,_⟩:=hc i x hx
   rcases s.blk i _ hx with⟨q,_⟩ |⟨j',_,_,q⟩
   ·rw[(s.sF i q).2]at hi
    cases hi
   ·exact q rfl
  ·exact ha
theorem FN:∀ {out:WH} {k:TS→Prop} {tr:TS},Lj out k tr→(∃iN,k iN)∧∀i x,b_ out i=some x→∃c sl,x=.cells c false sl∧kS c=true
 | [],k,tr,h=>⟨⟨tr,h⟩,λi x hx=>by simp[b_]at hx⟩
 | none::r,k,tr,h=>by
  obtain⟨h1,h2⟩:=FN (out:=r) h
  refine⟨h1,λi x hx=>?_⟩
  cases i with
  | zero=>simp[b_]at hx
  | succ i=>exact h2 i x hx
 | some (.map _)::_,k,tr,h=>h.elim
 | some (.cells c ro sl)::r,k,tr,h=>by
  have fin:kS c=true→ro=false→(∀i x,b_ r i=some x→∃c sl,x=.cells c false sl∧kS c=true)→∀i x,b_ (some (.cells c ro sl)::r) i=some x→∃c sl,x=.cells c false sl∧kS c=true:=λhc hr h2 i x hx=>by
   cases i with
   | zero =>
    simp only[b_,av]at hx
    subst hr
    exact⟨c,sl,hx.symm,hc⟩
   | succ i=>exact h2 i x hx
  simp only[Lj]at h
  cases ro
  case true=>cases sl<;>exact h.elim
  cases sl
  ·simp only at h
   split at h
   case h_2=>exact h.elim
   rename_i hc
   obtain⟨h1,h2⟩:=FN (out:=r) h
   exact⟨h1,fin hc rfl h2⟩
  ·obtain⟨iN,hc,h⟩:=iM h
   obtain⟨h1,h2⟩:=FN (out:=r) h
   exact⟨h1,fin hc rfl h2⟩
theorem OE{S:List Nat}:∀ {p:List Nat},apart S p=true→∀b∈p,nW S b=false
 | [],_,b,hb=>by cases hb
 | a::p,h,b,hb=>by
  simp only[apart]at h
  split at h
  ·cases h
  rename_i ha
  rcases List.mem_cons.1 hb with rfl | hb
  ·exact ha
  ·exact OE h b hb
theorem JE{H:WH}:∀ {bs:List Bool} {vs:List AV} {q:List AV×List Nat},Fw H bs vs=some q→∀b∈q.2,∃x,b_ H b=some x
 | bs,[],q,h=>by
  simp only[Fw,av]at h
  subst h
  intro b hb
  cases hb
 | bs,v::r,q,h=>by
  simp only[Fw]at h
  split at h
  case h_2=>cases h
  rename_i q' hq
  have i:=JE hq
  split at h
  ·simp only[av]at h
   subst h
   exact i
  ·split at h
   case h_2=>cases h
   rename_i p hp
   simp only[av]at h
   subst h
   intro b hb
   rcases List.mem_append.1 hb with hb | hb
   ·exact mX 5 false v p hp b hb
   ·exact i b hb
theorem GL{R:Nat→Prop}{ι:VI}{H:WH}{M:Heap}(s:VS R ι H M)(S:List Nat)(hS:∀b∈S,∃x,b_ H b=some x):∀ {bs:List Bool} {vs as:List AV} {q:List AV×List Nat},Fw H bs vs=some q→(∀b∈q.2,b∈S)→bL M (OR R ι) ι vs as→bL M (OR R (ι.pG S)) (ι.pG S) q.1 as
 | bs,[],as,q,h,_,hv=>by
  simp only[Fw,av]at h
  subst h
  cases as with
  | nil=>simp[bL]
  | cons=>simp[bL]at hv
 | bs,v::r,as,q,h,hq,hv=>by
  cases as with
  | nil=>simp[bL]at hv
  | cons a as =>
  simp only[bL]at hv
  simp only[Fw]at h
  split at h
  case h_2=>cases h
  rename_i q' hq'
  obtain⟨_,h2⟩:=s.OA S hS
  split at h
  ·simp only[av]at h
   subst h
   simp only[bL]
   exact⟨VL.step s h2 hv.1,GL s S hS hq' hq hv.2⟩
  ·split at h
   case h_2=>cases h
   rename_i p hp
   simp only[av]at h
   subst h
   simp only[bL]
   refine⟨?_,GL s S hS hq' (λb hb=>hq b (List.mem_append_right _ hb)) hv.2⟩
   refine MW s (O':=OR R (ι.pG S)) (λj h=>h.imp FE id) (qC:=ι.pG S) (Jz _ _ _) 5 false v p a hp hv.1 (λb hb j hj=>?_)
   have lv:=mX 5 false v p hp b hb
   rintro(⟨i,q1,q2⟩ | hR)
   ·simp only[VI.pG,Bool.or_eq_false_iff]at q1 q2
    have:=s.inj i b j (.inr q2.1) (.inl lv) q1 hj (.inl q2.1)
    subst this
    rw[sH.2 (hq i (List.mem_append_left _ hb))]at q2
    cases q2.2
   ·exact(s.res j hR).2 b (.inl lv) hj
theorem UM {C:bH} {g:FuncId} {vs0 as:List AV} {R:Nat→Prop} {ι:VI} {H:WH} {M:Heap} (s:VS R ι H M) (hv:bL M (OR R ι) ι vs0 as) {ls:List Bool} {q:List AV×List Nat} (hq:Fw H ls vs0=some q) {p:List Nat}
  (hp:Fv (wR H q.2) 0 (jQ q.1)=p) {v:AV} {out:WH} (ho:p.length≤out.length) (ha:apart q.2 p=true) (hc:clean v=true) (hco:∀i x,b_ out i=some x→∃c sl,x=.cells c false sl∧kS c=true)
  (hspec:Spec C g (KD (sD p) q.1) (qj (wR H q.2) p p) v out) :
  ∃a M' bI,C g as=(λM=>C g as M)∧C g as M=some (a,M')∧VS R bI (Bn H p out) M'∧Stp H.length p ι H M bI (Bn H p out) M'∧VL M' (OR R bI) bI (rn (back p H.length) v) a:=by
 have hlive:=JE hq
 obtain⟨k1,k2⟩:=s.OA q.2 hlive
 have k3:=GL s q.2 hlive hq (λ_ h=>h) hv
 obtain⟨p1,p2,_⟩:=JC (wR H q.2) 0 (jQ q.1)
 rw[hp]at p1 p2
 have hap:=OE ha
 have hpk:eP (ι.pG q.2) p=eP ι p:=by
  unfold eP VI.pG
  congr 1
  funext k
  cases e:p[k]? with
  | none=>rfl
  | some b =>
   simp only
   rw[hap b (List.mem_of_getElem? e),Bool.or_false]
 have hpl:∀b,b∈p→∃x,b_ H b=some x:=λb hb=>by
  obtain⟨y,hy⟩:=(p2 b hb).resolve_left (by omega)
  rw[xJ]at hy
  split at hy
  ·obtain⟨z,hz,_⟩:=Dk hy
   exact⟨z,hz⟩
  ·exact⟨y,hy⟩
 have hl:∀b,b∈p→b<H.length:=λb hb=>by
  obtain⟨x,hx⟩:=hpl b hb
  exact nK hx
 let R':Nat→Prop:=λj=>R j∨(own (ι.pG q.2) j∧¬own (eP (ι.pG q.2) p) j)
 have hsub:∀j,OR R' (eP (ι.pG q.2) p) j→OR R (ι.pG q.2) j:=λj h=>by
  rcases h with h | h | h
  ·obtain⟨b,_,h3,h4⟩:=vg h
   exact .inl ⟨b,h3,h4⟩
  ·exact .inr h
  ·exact .inl h.1
 have hpick:=k1.pick p1 (R':=R') (λj h=>by
  rcases h with h |⟨⟨i,q1,q2⟩,q3⟩
  ·exact⟨(k1.res j h).1,λb _ hb=>(k1.res j h).2 b hb⟩
  ·refine⟨(k1.lt i j q1).2,λb hb ha hj=>?_⟩
   have:=k1.inj i b j (.inr q2) ha q1 hj (.inl q2)
   subst this
   obtain⟨k,hk⟩:=List.mem_iff_getElem?.1 hb
   exact q3 ⟨k,by simp only[eP,hk];exact hj,by simp only[eP,hk];exact q2⟩) hsub
 have hargs:bL M (OR R' (eP (ι.pG q.2) p)) (eP (ι.pG q.2) p) (KD (sD p) q.1) as:=bL.rn ⟨Nat.le_refl _,λb _ h=>⟨rfl,λk=>h (hsub b k)⟩⟩ xA _ _ k3
 obtain⟨a,M',yu,e,q1,q2,q3⟩:=hspec R' (eP (ι.pG q.2) p) M as hpick hargs
 rw[uK]at q2
 let R2:Nat→Prop:=λj=>R j∨(own ι j∧¬own (eP ι p) j)
 have q4:VS R2 yu out M':=q1.aa7 hco λj hj=>by
  rcases hj with hj |⟨⟨i,g1,g2⟩,g3⟩
  ·exact .inl (.inl hj)
  ·have lt:=(s.lt i j g1).2
   refine .inr ⟨Nat.lt_of_lt_of_le lt q2.keep.next,(q2.keep.get j lt ?_).2⟩
   rw[hpk]
   exact g3
 have q5:VL M' (OR R2 yu) yu v a:=LG v a hc q3
 rw[hpk]at q2
 obtain⟨u1,u2,u3⟩:=Rw (R:=R) (R':=R2) p1 hl ho (λj=>Iff.rfl) s q4 q2 hpl (λk b hk ⟨x,hx⟩=>hpl b (List.mem_of_getElem? hk))
 exact⟨a,M',_,rfl,e,u1,u2,u3 v a q5⟩
theorem UN {C:bH} {g:FuncId} {args as:List AV} {R:Nat→Prop} {ι:VI} {H:WH} {M:Heap} (s:VS R ι H M) (hv:bL M (OR R ι) ι args as) {tr:TS} {k:AV→WH→List Nat→TS→Prop} (h:Uy C g args H tr k) :
  ∃a M' bI v H' t iN,C g as M=some (a,M')∧VS R bI H' M'∧Stp H.length t ι H M bI H' M'∧VL M' (OR R bI) bI v a∧k v H' t iN:=by
 unfold Uy at h
 split at h
 case h_2 =>
  rename_i ms ls ts v out r
  simp only at h
  obtain⟨kD,h1,h2,h3⟩:=FK ms (lU args ts) H ι M as s (bL.retag _ _ _ hv)
  generalize Dz ms (lU args ts) H=q0 at *
  obtain⟨vs,H1⟩:=q0
  simp only at h h1 h2 h3
  split at h
  case h_2=>exact h.elim
  rename_i q hq
  split at h
  case h_2=>exact h.elim
  rename_i e1 e2 e3
  obtain⟨⟨tr1,h⟩,hco⟩:=FN h
  obtain⟨iN,hspec,hk⟩:=iM h
  obtain⟨a,M',bI,_,f1,f2,f3,f4⟩:=UM h1 h3 hq rfl (Nat.le_of_ble_eq_true e1) e2 e3 hco hspec
  refine⟨a,M',bI,_,_,_,_,f1,f2, ?_,f4,hk⟩
  exact h2.trans f3 h2.next
 case h_3 =>
  rename_i ms ts v r
  simp only at h
  split at h
  case h_2=>exact h.elim
  rename_i e1 e2
  obtain⟨iN,h⟩:=iM h
  obtain⟨a,M',f1,f2,f3,f4⟩:=UL s hv e1 e2 h.1
  exact⟨a,M',ι,v,H,[],iN,f1,f2,f3,f4,h.2⟩
 case h_4=>exact h.elim
 rename_i ms m ts v out r
 obtain⟨kD,h1,h2,h3⟩:=FK ms (lU args ts) H ι M as s (bL.retag _ _ _ hv)
 generalize hr:Dz ms (lU args ts) H=q at *
 obtain⟨vs,H1⟩:=q
 simp only at h h1 h2 h3
 obtain⟨uI,k1,k2⟩:=FL [] m (Fv H1 0 (jQ vs)) H1 kD M h1
 have k3:=bL.step h1 k2 h3
 generalize HZ [] m (Fv H1 0 (jQ vs)) H1=H2 at *
 obtain⟨p1,p2,_⟩:=JC H2 0 (jQ vs)
 generalize Fv H2 0 (jQ vs)=p at *
 split at h
 case h_2=>exact h.elim
 rename_i ho
 have ho:=Nat.le_of_ble_eq_true ho
 obtain⟨iN,hspec,hk⟩:=iM h
 have hl:∀b,b∈p→b<H2.length:=λb hb=>by
  rcases p2 b hb with h |⟨y,h⟩
  ·omega
  ·exact nK h
 let R':Nat→Prop:=λj=>R j∨(own uI j∧¬own (eP uI p) j)
 have hsub:∀j,OR R' (eP uI p) j→OR R uI j:=λj h=>by
  rcases h with h | h | h
  ·obtain⟨b,_,h3,h4⟩:=vg h
   exact .inl ⟨b,h3,h4⟩
  ·exact .inr h
  ·exact .inl h.1
 have hpick:=k1.pick p1 (R':=R') (λj h=>by
  rcases h with h |⟨⟨i,q1,q2⟩,q3⟩
  ·exact⟨(k1.res j h).1,λb _ hb=>(k1.res j h).2 b hb⟩
  ·refine⟨(k1.lt i j q1).2,λb hb ha hj=>?_⟩
   have:=k1.inj i b j (.inr q2) ha q1 hj (.inl q2)
   subst this
   obtain⟨k,hk⟩:=List.mem_iff_getElem?.1 hb
   exact q3 ⟨k,by simp only[eP,hk];exact hj,by simp only[eP,hk];exact q2⟩) hsub
 have hargs:bL M (OR R' (eP uI p)) (eP uI p) (KD (sD p) vs) as:=bL.rn ⟨Nat.le_refl _,λb _ h=>⟨rfl,λk=>h (hsub b k)⟩⟩ xA _ _ k3
 obtain⟨a,M',yu,e,q1,q2,q3⟩:=hspec R' (eP uI p) M as hpick hargs
 rw[uK]at q2
 obtain⟨u1,u2,u3⟩:=Rw (R:=R) (R':=R') p1 hl ho (λj=>Iff.rfl) k1 q1 q2 (λb hb=>(p2 b hb).resolve_left (by omega)) (λk b hk ⟨x,hx⟩=>by
  rw[mI,hk]at hx
  obtain⟨z,hz,_⟩:=sI hx
  exact⟨z,hz⟩)
 refine⟨a,M',_,_,_,_,_,e,u1, ?_,u3 v a q3,hk⟩
 have:=(h2.trans k2 h2.next).trans u2 (Nat.le_trans h2.next k2.next)
 simpa using this
def Pz(C:bH)(f:FuncId)(b:Bt):Prop:=∀(R:Nat→Prop) (ι:VI) (H:WH) (M:Heap) (args as:List AV) (d:Option Nat) (tr:TS) (k:AV→WH→List Nat→TS→Prop),VS R ι H M→bL M (OR R ι) ι args as→wBt b d args H tr k →
 ∃a M' bI v H' t iN,C f as M=some (a,M')∧VS R bI H' M'∧Stp H.length t ι H M bI H' M'∧VL M' (OR R bI) bI v a∧k v H' t iN
theorem M4{R:Nat→Prop}{d:Option Nat}{x:Option AV}{tr:TS}{k:AV→TS→Prop}(h:ovr d x tr k):∃v u iN,x=some v∧k u iN∧∀(M:Heap) (O:Nat→Prop) (κ:VI) (a:AV),VL M O κ v a→VL M O κ u a:=by
 have plain:∀ {tr},(match x with | some v=>k v tr | none=>False)→∃v u iN,x=some v∧k u iN∧∀(M:Heap) (O:Nat→Prop) (κ:VI) (a:AV),VL M O κ v a→VL M O κ u a:=λ{tr} h=>by
  cases x with
  | none=>exact h.elim
  | some v=>exact⟨v,v,tr,rfl,h,λ_ _ _ _ h=>h⟩
 unfold ovr at h
 split at h
 ·split at h
  ·obtain⟨iN,h⟩:=iM h
   exact⟨_,_,_,h.1,h.2,λ_ _ _ _ h=>h⟩
  ·exact plain h
 ·split at h
  ·split at h
   ·rename_i v
    exact⟨v,_,_,rfl,h,λ_ _ _ _ h=>VL.retag _ _ _ h⟩
   ·exact h.elim
  ·exact plain h
 ·exact plain h
theorem I7{d:Option Nat}{n:Nat}{cs:List AV}{tr:TS}{k:Nat→List AV→TS→Prop}(h:Sn d n cs tr k):∃iN,k n cs iN:=by
 unfold Sn at h
 split at h
 ·split at h
  ·obtain⟨_,rfl,h⟩:=iM h
   obtain⟨_,rfl,h⟩:=iM h
   exact⟨_,h⟩
  ·exact⟨_,h⟩
 ·exact⟨_,h⟩
theorem zq{M:Heap}{O:Nat→Prop}{κ:VI}:∀ {l r:List AV},l.all AV.flat=true→bL M O κ l r→bL M O VI.none l r
 | [],[],_,_=>by simp[bL]
 | v::l,a::r,h,e=>by
  simp only[List.all_cons,Bool.and_eq_true]at h
  simp only[bL]at e ⊢
  refine⟨?_,zq h.2 e.2⟩
  have h1:=h.1
  have e1:=e.1
  cases v with
  | ptr p=>cases p<;>simp_all [AV.flat,VL]
  | slice p=>cases p<;>simp_all [AV.flat,VL]
  | map p=>cases p<;>simp_all [AV.flat,VL]
  | func f cs =>
   cases cs with
   | nil =>
    simp only[VL]at e1 ⊢
    obtain⟨cs',rfl,e1⟩:=e1
    refine⟨cs',rfl, ?_⟩
    cases cs' with
    | nil=>simp[bL]
    | cons _ _=>simp[bL]at e1
   | cons _ _=>simp[AV.flat]at h1
  | _=>simp_all [AV.flat,VL]
 | [],_::_,_,e=>by simp[bL]at e
 | _::_,[],_,e=>by simp[bL]at e
theorem xL(z:List AV):∀n,(jo n z).length=n*z.length
 | 0=>by simp[jo]
 | n+1=>by simp only[jo,aJ,xL z n,Nat.add_mul,Nat.one_mul];omega
section
variable {R:Nat→Prop} {ι:VI} {H:WH} {M:Heap} (s:VS R ι H M) {ρ σ:Nat→AV} (h:∀t,VL M (OR R ι) ι (ρ t) (σ t))
include s h
theorem JF {sz:Nat}:∀ {ps:List (Nat×AX)} {cs cs' l:List AV},(ps.all λp=>p.2.cZ)=true→bL M (OR R ι) ι cs cs' →
  nJ cs (ps.map λp=>(p.1*sz,sz,(p.2.sub ρ).ev []))=some l→∃l',nJ cs' (ps.map λp=>(p.1*sz,sz,(p.2.sub σ).ev []))=some l'∧bL M (OR R ι) ι l l'
 | [],cs,cs',l,_,hr,hf=>by
  simp only[List.map_nil,nJ,av]at hf ⊢
  subst hf
  exact⟨cs',rfl,hr⟩
 | p::ps,cs,cs',l,hc,hr,hf=>by
  simp only[List.all_cons,Bool.and_eq_true]at hc
  simp only[List.map_cons,nJ]at hf ⊢
  split at hf
  case h_2=>cases hf
  rename_i x hx
  split at hf
  case isFalse=>cases hf
  rename_i hle
  obtain⟨x',hx',hxr⟩:=(dJ h hc.1).cells hx
  rw[hx']
  simp only
  rw[if_pos (by rw[←hxr.length,←hr.length];exact hle)]
  refine JF hc.2 ?_ hf
  exact((hr.take _).append hxr).append (hr.drop _)
theorem ZQ {d:Option Nat} {o:Bh} (hc:o.cZ=true) {tr:TS} {k:jN→(Nat→AV)→TS→Prop} (hv:wK d (o.sub ρ) tr k) :
  ∃c sl mk c' sl' mkA iN,k (.cells c false sl) mk iN∧aK (o.sub σ) []=some (.cells c' false sl',mkA)∧bL M (OR R ι) (if sl then VI.none else ι) c c'∧(sl=false→sl'=false) ∧
   ∀(M':Heap) (O:Nat→Prop) (κ:VI) (b j:Nat),κ b=some j→κ.dim b=some (c.length,c'.length)→VL M' O κ (mk b) (mkA.val j):=by
 have Ry:∀(c c':List AV) (M':Heap) (O:Nat→Prop) (κ:VI) (b j:Nat),κ b=some j→κ.dim b=some (c.length,c'.length)→VL M' O κ (.ptr (some (b,0))) (Mk.ptr.val j):=λc c' M' O κ b j h1 _=>by
  simp only[Mk.val,VL]
  exact⟨j,h1,rfl⟩
 have UO:∀(c c':List AV) (sz n:Nat) (ex:Bool),c.length=n*sz→n*sz≤c'.length→∀(M':Heap) (O:Nat→Prop) (κ:VI) (b j:Nat),κ b=some j→κ.dim b=some (c.length,c'.length)→VL M' O κ (.acc b 0 sz n true) ((Mk.slice sz n n ex).val j):=λc c' sz n ex h0 hL M' O κ b j h1 h2=>by
  simp only[Mk.val,VL]
  exact⟨_,_,_,_,rfl,Nat.le_refl _,(λh=>by cases h),λ_=>rfl,_,_,h2,by omega,λ_=>⟨trivial,h0.symm⟩,.inl ⟨j,h1,.inl ⟨rfl,by omega⟩⟩⟩
 cases o with
 | alloc zero =>
  have hz:bL M (OR R ι) ι zero zero:=bL.const zero hc
  simp only[Bh.sub,wK]at hv
  split at hv
  ·split at hv
   ·rename_i t r _
    exact⟨_,false,_,zero,false,.ptr,_,hv,rfl,bL.retag _ _ _ hz,(λ_=>rfl),Ry _ _⟩
   ·exact⟨_,false,_,zero,false,.ptr,_,hv,rfl,hz,(λ_=>rfl),Ry _ _⟩
  ·exact⟨_,false,_,zero,false,.ptr,_,hv,rfl,hz,(λ_=>rfl),Ry _ _⟩
 | box x =>
  have hx:=dJ h hc
  simp only[Bh.sub,wK]at hv
  split at hv
  case h_2=>exact hv.elim
  rename_i cs hcs
  obtain⟨cs',h1,h2⟩:=hx.cells hcs
  exact⟨cs,false,_,cs',false,.ptr,_,hv,by simp only[Bh.sub,aK,h1,aW],h2,(λ_=>rfl),Ry _ _⟩
 | buildSlice sz len zero parts =>
  simp only[Bh.cZ,Bool.and_eq_true]at hc
  simp only[Bh.sub,wK,List.map_map]at hv
  split at hv
  case h_2=>exact hv.elim
  rename_i cs hcs
  split at hv
  case h_2=>exact hv.elim
  rename_i hz
  have hz:=bg hz
  obtain⟨cs',h1,h2⟩:=JF s h hc.2 (bL.jo (M:=M) (O:=OR R ι) (κ:=ι) hc.1 len) hcs
  have hlen:∀ {l:List (Nat×Nat×AV)} {c c':List AV},nJ c l=some c'→c'.length=c.length:=by
   intro l
   induction l with
   | nil=>intro c c' e;simp only[nJ,av]at e;rw[e]
   | cons q l ih =>
    intro c c' e
    simp only[nJ]at e
    split at e
    case h_2=>cases e
    split at e
    case isFalse=>cases e
    rename_i hle
    rw[ih e]
    simp only[aJ,aV,aS]
    omega
  have hl:=hlen hcs
  rw[xL,hz]at hl
  refine⟨cs,false,_,cs',false,.slice sz len len true,_,hv, ?_,h2,(λ_=>rfl),UO _ _ _ _ _ hl (by rw[←h2.length,hl];exact Nat.le_refl _)⟩
  simp only[Bh.sub,aK,List.map_map]
  have e:(λp:Nat×AV=>(p.1*sz,sz,p.2))=λp=>(p.1*sz,sz,p.2):=rfl
  rw[show(nJ (jo len zero) (parts.map ((λp=>(p.1*sz,sz,p.2.ev []))∘λp=>(p.1,p.2.sub σ))))=some cs' from h1]
  rfl
 | makeSlice sz bytes zero l c =>
  simp only[Bh.cZ,Bool.and_eq_true]at hc
  have hl:=dJ h hc.1.2
  have hcc:=dJ h hc.2
  simp only[Bh.sub,wK]at hv
  split at hv
  case h_2=>exact hv.elim
  rename_i d' n cs r
  split at hv
  case h_2=>exact hv.elim
  split at hv
  case h_2=>exact hv.elim
  rename_i hz hfl
  obtain⟨_,⟨e1,e2,e3,e4⟩,hv⟩:=iM hv
  obtain⟨_,rfl,hk⟩:=iM hv
  rw[e1]at hl
  rw[e2]at hcc
  have hz:=bg hz
  refine⟨_,true,_,jo n zero,false,.slice sz n n true,_,hk, ?_, ?_,(λh=>by cases h),UO _ _ _ _ _ (by rw[xL,hz]) (by rw[xL,hz];exact Nat.le_refl _)⟩
  ·simp only[Bh.sub,aK,hl.eq rfl,hcc.eq rfl,Az]
   rw[if_pos (by simp;omega)]
   rfl
  ·exact zq (κ:=ι) (by
    have:∀n,(jo n zero).all AV.flat=true:=λn=>by
     induction n with
     | zero=>rfl
     | succ n ih=>simp only[jo,List.all_append,hfl,ih,Bool.and_self]
    exact this n) (bL.jo hc.1.1 n)
 | l6 x =>
  have hx:=dJ h hc
  simp only[Bh.sub,wK]at hv
  split at hv
  case h_2=>exact hv.elim
  rename_i t ht
  obtain⟨_,h1,h2⟩:=iM hv
  rw[ht]at hx
  refine⟨_,true,_,t.map λb=>.int .u8 b.toNat,true,.slice 1 t.length t.length false,_,h2,by simp only[Bh.sub,aK,hx.eq rfl,if_pos h1], ?_,(λh=>by cases h),UO _ _ _ _ _ (by simp) (by simp)⟩
  have:∀t:List UInt8,bL M (OR R ι) VI.none (t.map λb=>AV.int .u8 b.toNat) (t.map λb=>AV.int .u8 b.toNat):=λt=>by
   induction t with
   | nil=>simp[bL]
   | cons b t ih=>simp only[List.map_cons,bL,VL];exact⟨trivial,ih⟩
  exact this t
 | makeMap=>simp[Bh.sub,wK]at hv
end
theorem BL.of{R:Nat→Prop}{ι:VI}{M:Heap}{c c':List AV}{sl sl':Bool}(hr:bL M (OR R ι) (if sl then VI.none else ι) c c')(hs:sl=false→sl'=false):BL M (OR R ι) ι (some (c.length,c'.length)) (.cells c false sl) (some (.cells c' false sl')) :=
 ⟨c',[],false,sl',c'.length,by simp,λ_=>rfl,rfl,by simp,hr,hs⟩
theorem XD{c cs c':List AV}{o:Nat}(h:H6 c o cs=some c'):o+cs.length≤c.length∧c'=c.take o++cs++c.drop (o+cs.length)∧c'.length=c.length:=by
 unfold H6 at h
 split at h
 case isFalse=>cases h
 rename_i hle
 obtain rfl:=ak h
 refine⟨hle,rfl, ?_⟩
 simp only[aJ,aV,aS]
 omega
theorem UQ {R:Nat→Prop} {ι:VI} {H:WH} {M:Heap} (s:VS R ι H M) {b j o:Nat} (hb:ι b=some j) {c:List AV} {sl:Bool} (hg:b_ H b=some (.cells c false sl)) {cs cs' c':List AV} (hcs:bL M (OR R ι) (if sl then VI.none else ι) cs cs') (h:H6 c o cs=some c') :
  ∃M',M.write j o cs'=some M'∧VS R ι (fQ H b (some (.cells c' false sl))) M'∧Stp H.length [b] ι H M ι (fQ H b (some (.cells c' false sl))) M':=by
 obtain⟨h1,h2,h3⟩:=XD h
 obtain⟨d,t,ro',sl',L,g1,g2,g3,g4,g5⟩:=s.at hb hg
 obtain⟨rfl,_⟩:=g2 rfl
 have hl:=g5.length
 have hl':=hcs.length
 have e:(d++t).take o++cs'++(d++t).drop (o+cs'.length)=(d.take o++cs'++d.drop (o+cs'.length))++t:=by
  rw[List.take_append_of_le_length (by omega),List.drop_append_of_le_length (by omega)]
  simp only[bE]
 have hbl:BL M (OR R ι) ι (ι.dim b) (.cells c' false sl) (some (.cells ((d++t).take o++cs'++(d++t).drop (o+cs'.length)) false sl')):=by
  refine⟨d.take o++cs'++d.drop (o+cs'.length),t,false,sl',L,by rw[e],λ_=>rfl,by rw[h3];exact g3, ?_, ?_,λh=>s.ZN hb hg g1 h⟩
  ·simp only[aJ,aV,aS]at g4 ⊢
   omega
  ·rw[h2,hl']
   exact((g5.take o).append hcs).append (g5.drop _)
 obtain⟨q1,q2⟩:=s.put hb hg hbl
 refine⟨_, ?_,q1,q2⟩
 unfold Heap.write
 rw[g1]
 simp only
 rw[if_pos (by simp only[aJ];omega)]
theorem Sz {R:Nat→Prop} {ι:VI} {H:WH} {M:Heap} (s:VS R ι H M) {n:Nat} {a v a' v':AV} (ha:VL M (OR R ι) ι a a') (hv:VL M (OR R ι) ι v v') {tr:TS} {k:AV→WH→List Nat→TS→Prop} {C:bH} {B:FuncId→Option Bt} {d:Option Nat}
  (h:wN C B d (.store n (.c a) (.c v)) H tr k):∃r M' bI u H' t iN,I9 n a' v' M=some (r,M')∧VS R bI H' M'∧Stp H.length t ι H M bI H' M'∧VL M' (OR R bI) bI u r∧k u H' t iN:=by
 simp only[wN,AX.ev]at h
 split at h
 case h_2=>exact h.elim
 rename_i b off cs hcs
 split at h
 case h_2=>exact h.elim
 rename_i hn
 have hn:=bg hn
 split at h
 case h_2=>exact h.elim
 split at h
 case h_2=>exact h.elim
 rename_i c sl hg
 simp only[VL]at ha
 obtain⟨j,hj,rfl⟩:=ha
 obtain⟨cs',e1,e2⟩:=hv.cells hcs
 have fin:∀(kD:VI) (H1:WH) (x c':List AV) (r:TS),VS R kD H1 M→Stp H.length [] ι H M kD H1 M→H1.length=H.length→b_ H1 b=some (.cells c false sl)→bL M (OR R kD) (if sl then VI.none else kD) x cs'→H6 c off x=some c'→k (.tuple []) (fQ H1 b (some (.cells c' false sl))) [b] r →
   ∃r M' bI u H' t iN,I9 n (.ptr (some (j,off))) v' M=some (r,M')∧VS R bI H' M'∧Stp H.length t ι H M bI H' M'∧VL M' (OR R bI) bI u r∧k u H' t iN:=by
  intro kD H1 x c' r s1 k1 hlen hg1 hx hw hk
  have hj1:=((k1.le b (nK hg)).1 j hj).1
  obtain⟨M',q1,q2,q3⟩:=UQ s1 hj1 hg1 hx hw
  refine⟨.tuple [],M',kD,.tuple [],_,[b],r, ?_,q2, ?_,by simp[VL,bL],hk⟩
  ·simp only[I9,e1]
   rw[if_pos (by rw[←e2.length];exact hn),q1]
   rfl
  ·have:=k1.trans q3 (by omega)
   simpa using this
 split at h
 ·split at h
  ·split at h
   case h_2=>exact h.elim
   rename_i c' hw
   exact fin ι H cs c' _ s (.refl _ _ _ _ _ (Nat.le_refl _)) rfl hg e2 hw h
  ·obtain⟨_,h⟩:=iM h
   exact fin ι H cs _ _ s (.refl _ _ _ _ _ (Nat.le_refl _)) rfl hg e2 h.1 h.2
 ·split at h
  case h_2=>exact h.elim
  rename_i p hp
  split at h
  ·exact h.elim
  rename_i hb
  obtain⟨u1,u2⟩:=s.OA p.2 (rA (λv p=>mX 5 true v p) _ _ hp)
  have hx:=MX s hp e2
  have hg1:b_ (wR H p.2) b=some (.cells c false true):=by
   rw[xJ,hb]
   exact hg
  split at h
  ·split at h
   case h_2=>exact h.elim
   rename_i c' hw
   exact fin _ _ p.1 c' _ u1 u2 (qE _ _) hg1 hx hw h
  ·obtain⟨_,h⟩:=iM h
   exact fin _ _ p.1 _ _ u1 u2 (qE _ _) hg1 hx h.1 h.2
theorem ZR {C:bH} {B:FuncId→Option Bt} (hB:∀f b,B f=some b→Pz C f b) {R:Nat→Prop} {ι:VI} {H:WH} {M:Heap} (s:VS R ι H M) {ρ σ:Nat→AV} (h:∀t,VL M (OR R ι) ι (ρ t) (σ t)) {d:Option Nat} {o:vO} (hc:o.cZ=true) {tr:TS} {k:AV→WH→List Nat→TS→Prop}
  (hk:wN C B d (o.sub ρ) H tr k):∃a M' bI v H' t iN,aN C (o.sub σ) [] M=some (a,M')∧VS R bI H' M'∧Stp H.length t ι H M bI H' M'∧VL M' (OR R bI) bI v a∧k v H' t iN:=by
 cases o with
 | store n a v =>
  simp only[vO.cZ,Bool.and_eq_true]at hc
  exact Sz s (dJ h hc.1) (dJ h hc.2) (C:=C) (B:=B) (d:=d) (a:=(a.sub ρ).ev []) (v:=(v.sub ρ).ev []) (by simpa only[vO.sub,wN,AX.ev]using hk)
 | call f args =>
  simp only[vO.cZ,Bool.and_eq_true]at hc
  have hf:=dJ h hc.1
  have ha:=IZ h hc.2
  simp only[vO.sub,wN]at hk
  split at hk
  case h_2=>exact hk.elim
  rename_i g caps hg
  rw[hg]at hf
  simp only[VL]at hf
  obtain⟨acK,hf,aa8⟩:=hf
  have hargs:=ha.append aa8
  simp only[vO.sub,aN,NK,hf]
  split at hk
  ·rename_i bt hbt
   obtain⟨a,M',bI,v,H',tt,iN,q1,q2,q3,q4,q5⟩:=hB g bt hbt R ι H M _ _ d tr _ s hargs hk
   exact⟨a,M',bI,v,H',tt,iN,q1,q2,q3,q4,q5⟩
  ·exact UN s hargs hk
 | append sz bytes b x =>
  simp only[vO.cZ,Bool.and_eq_true]at hc
  have hs:=dJ h hc.1
  have hx:=dJ h hc.2
  simp only[vO.sub,wN]at hk
  split at hk
  case h_2=>exact hk.elim
  rename_i m new S hel
  split at hk
  case h_2=>exact hk.elim
  rename_i len old H' t hbase
  obtain⟨_,hk⟩:=I7 hk
  obtain⟨iN,hf,hk⟩:=iM hk
  obtain⟨e1,e2,cs',e3,e4⟩:=GH s hx hel
  obtain⟨u1,u2⟩:=s.OA S (Ck hel)
  obtain⟨a',M',bI,q1,q2,q3,q4⟩:=LC u1 (VL.step s u2 hs) e4 e2 hbase hf
  refine⟨a',M',bI,_,_,t,iN, ?_,q2, ?_,q4,hk⟩
  ·simp only[vO.sub,aN,e1,if_true,e3,au]
   exact q1
  ·rw[qE]at q3
   have:=u2.trans q3 (Nat.le_refl _)
   simpa using this
 | mapUpdate kd m x v =>
  simp only[vO.cZ,Bool.and_eq_true]at hc
  have hm:=dJ h hc.1.1
  have hx:=dJ h hc.1.2
  have hv:=dJ h hc.2
  simp only[vO.sub,wN]at hk
  simp only[vO.sub,aN]
  generalize (m.sub ρ).ev []=X at *
  generalize (m.sub σ).ev []=X' at *
  generalize (x.sub ρ).ev []=Y at *
  generalize (x.sub σ).ev []=Y' at *
  generalize (v.sub ρ).ev []=Z at *
  generalize (v.sub σ).ev []=Z' at *
  split at hk
  case h_2=>exact hk.elim
  rename_i r
  split at hk
  case h_2=>exact hk.elim
  rename_i es cz hg s1 s2 s3 s4
  split at hk
  case h_2=>exact hk.elim
  rename_i es' t
  obtain⟨iN,hu,hk⟩:=iM hk
  obtain⟨j,rfl,hj,he,hr⟩:=s.MV hm hg
  obtain rfl:=Rn s1 hx
  obtain rfl:=Rn s3 hv
  have hes:Lh es'=true:=by
   unfold Ux at hu
   obtain⟨f,hf,rfl⟩:=aC.1 hu
   cases f with
   | none=>exact Oz s1 s3 he
   | some q=>exact Rp s1 s3 he
  have hd:ι.dim r=some (0,0):=by
   rcases s.blk r _ hg with⟨_,_,_,q⟩ |⟨_,_,⟨_,q,_⟩,_⟩
   ·cases q
   ·exact q
  obtain⟨q1,q2⟩:=s.aar hr rfl hg (x:=.map es') (y:=.map es') ⟨rfl,hd,hes⟩
  refine⟨.tuple [],_,ι,.tuple [],_,[r],iN, ?_,q1,q2,by simp[VL,bL],hk⟩
  simp only[Eo,hj,s4,s2]
  rw[if_neg (by simp)]
  unfold Ux at hu
  obtain⟨f,hf,rfl⟩:=aC.1 hu
  rw[hf,au]
  cases f with
  | none=>rfl
  | some q=>rfl
 | lg kd m x =>
  simp only[vO.cZ,Bool.and_eq_true]at hc
  have hm:=dJ h hc.1
  have hx:=dJ h hc.2
  simp only[vO.sub,wN]at hk
  simp only[vO.sub,aN]
  generalize (m.sub ρ).ev []=X at *
  generalize (m.sub σ).ev []=X' at *
  generalize (x.sub ρ).ev []=Y at *
  generalize (x.sub σ).ev []=Y' at *
  split at hk
  case h_2=>exact hk.elim
  rename_i r
  split at hk
  case h_2=>exact hk.elim
  rename_i es hg s1
  split at hk
  case h_2=>exact hk.elim
  rename_i es' t
  obtain⟨iN,hu,hk⟩:=iM hk
  obtain⟨j,rfl,hj,he,hr⟩:=s.MV hm hg
  obtain rfl:=Rn s1 hx
  unfold ZG at hu
  obtain⟨f,hf,e⟩:=aC.1 hu
  have hd:ι.dim r=some (0,0):=by
   rcases s.blk r _ hg with⟨_,_,_,q⟩ |⟨_,_,⟨_,q,_⟩,_⟩
   ·cases q
   ·exact q
  have hes:Lh es'=true:=by
   subst e
   cases f with
   | none=>exact he
   | some q=>exact LA he
  obtain⟨q1,q2⟩:=s.aar hr rfl hg (x:=.map es') (y:=.map es') ⟨rfl,hd,hes⟩
  refine⟨.tuple [],_,ι,.tuple [],_,[r],iN, ?_,q1,q2,by simp[VL,bL],hk⟩
  simp only[Ep,hj]
  rw[hf,au]
  subst e
  cases f with
  | none =>
   have hM:M.put j (some (.map es))=M:=by
    cases M with
    | mk g nx =>
     simp only[Heap.put,Heap.mk.injEq,and_true]
     funext i
     split
     ·rename_i e
      rw[e]
      exact hj.symm
     ·rfl
   simp only[hM]
  | some q=>rfl
 | qO x =>
  have hx:=dJ h hc
  simp only[vO.sub,wN]at hk
  split at hk
  case h_2=>exact hk.elim
  rename_i b sz n hX
  split at hk
  case h_2=>exact hk.elim
  rename_i c sl hg
  split at hk
  case h_2=>exact hk.elim
  rename_i UR
  rw[hX]at hx
  have hx0:=hx
  obtain⟨k1,k2,p,s',cap,ex,ha,k3,k4,k5⟩:=VL.qX s hx hg
  rw[ha]at hx0
  rcases k5 with⟨j,c',t,ro',sl',L,g1,g2,g3,g4,g5,g6,rfl,g7⟩ |⟨e,_⟩
  ·obtain⟨rfl,_⟩:=g3 rfl
   have g6':bL M (OR R ι) VI.none c c':=by
    cases sl with
    | true=>exact g6
    | false=>exact zq (by simpa using UR) g6
   obtain⟨r1,r2⟩:=s.put g1 hg (x:=.cells c false true) (y:=.cells (c'++t) false true) ⟨c',t,false,true,L,rfl,λ_=>rfl,g4,g5,g6',λh=>by cases h⟩
   refine⟨_,_,ι,_,_,[b],_, ?_,r1,r2,VL.step s r2 hx0,hk⟩
   simp only[vO.sub,aN,ha,I_]
   rw[if_neg (by omega),g2]
  ·cases e
 | _=>simp[vO.sub,wN]at hk
def qY(R:Nat→Prop)(ι:VI)(M:Heap)(l lA:Fast):Prop:=∀t,VL M (OR R ι) ι (look l t) (look lA t)
theorem qY.step{R:Nat→Prop}{t:List Nat}{ι bI:VI}{H H':WH}{M M':Heap}(s:VS R ι H M)(k:Stp H.length t ι H M bI H' M'){l lA:Fast}(h:qY R ι M l lA):qY R bI M' l lA:=λt=>VL.step s k (h t)
theorem qZ{u t:Nat}{v:AV}{r:Fast}:look ((u,v)::r) t=if u=t then v else look r t:=by
 simp only[look]
 cases h:Nat.beq u t with
 | true=>simp[bg h]
 | false =>
  have:u≠t:=λe=>by subst e;simp at h
  simp[this]
theorem rC(n:Nat)(d:Option Nat)(v:AV)(l:Fast)(t:Nat):look (j5 n d v l) t=if d=some t∧t<n then v else look l t:=by
 cases d with
 | none=>simp[j5]
 | some d =>
  simp only[j5]
  cases hb:Nat.blt d n with
  | true =>
   have hd:d<n:=by simpa[Nat.blt_eq]using hb
   simp only[qZ]
   by_cases he:d=t
   ·subst he
    simp[hd]
   ·simp[he]
  | false =>
   have hd:¬d<n:=λh=>by
    have:Nat.blt d n=true:=by simpa[Nat.blt_eq]using h
    rw[hb]at this
    cases this
   simp only
   rw[if_neg]
   rintro⟨h1,h2⟩
   obtain rfl:=ak h1
   exact hd h2
theorem VL.j5{M:Heap}{O:Nat→Prop}{κ:VI}{l lA:Fast}{n:Nat}{d:Option Nat}{v a:AV}{t:Nat}(h:VL M O κ (look l t) (look lA t))(hv:VL M O κ v a):VL M O κ (look (Proofs.Ytkedeiklmpkgkaa.j5 n d v l) t) (look (Proofs.Ytkedeiklmpkgkaa.j5 n d a lA) t):=by
 rw[rC,rC]
 split
 ·exact hv
 ·exact h
theorem qY.put{R:Nat→Prop}{ι:VI}{M:Heap}{l lA:Fast}(h:qY R ι M l lA)(n:Nat)(d:Option Nat){v a:AV}(hv:VL M (OR R ι) ι v a):qY R ι M (j5 n d v l) (j5 n d a lA):=λt=>VL.j5 (h t) hv
theorem VL.unit{M:Heap}{O:Nat→Prop}{κ:VI}:VL M O κ (.tuple []) (.tuple []):=by simp[VL,bL]
def ZT(l l':Fast):Prop:=∀t,look l' t=look l t∨∃b,look l t=.bool b∧look l' t=.bool b
theorem ZT.eq{l l':Fast}(h:ZT l l')(t:Nat):look l' t=look l t:=(h t).elim id λ⟨b,h1,h2⟩=>by rw[h1,h2]
theorem LH:∀ {H:WH} {b:Nat} {x:jN},b_ H b=some x→fQ H b (some x)=H
 | [],_,_,h=>by cases h
 | _::_,0,_,h=>by
  simp only[b_]at h
  subst h
  rfl
 | _::r,i+1,_,h=>by
  simp only[b_]at h
  simp only[fQ,LH h]
theorem AU{k:Fast→WH→TS→Prop}{R:Type}:∀ {f:Option R} (T:Tc f) (l:Fast) (H:WH),MN k T l H→∃l' iN,(∀t,look l' t=look l t)∧k l' H iN
 | _,.bd kk,l,H,h=>by
  obtain⟨x,q,h⟩:=h
  exact AU (kk x q) l H h
 | _,.gd kk,l,H,h=>by
  obtain⟨q,h⟩:=h
  exact AU (kk q) l H h
 | _,.ite (b:=b) x y,l,H,h=>by
  have hb:b=true∨b=false:=by cases b<;>simp
  rcases hb with hb | hb
  ·exact AU (x hb) l H (h.1 hb)
  ·exact AU (y hb) l H (h.2 hb)
 | _,.rv t u _ r,l,H,h=>by
  obtain⟨e,h⟩:=h
  obtain⟨l',iN,h1,h2⟩:=AU r ((t,u)::l) H h
  refine⟨l',iN,λs=>?_,h2⟩
  rw[h1,qZ]
  split
  ·rename_i e'
   subst e'
   exact e.symm
  ·rfl
 | _,.rb b c _ r,l,H,h=>by
  simp only[MN]at h
  split at h
  case h_2=>exact h.elim
  rename_i c0 ro sl hg
  obtain⟨rfl,h⟩:=h
  rw[LH hg]at h
  exact AU r l H h
 | _,.leaf x v,l,H,h=>⟨l,_,λ_=>rfl,h⟩
 | _,.Bo x v Q q,l,H,h=>⟨l,_,λ_=>rfl,h⟩
 | _,.fail,l,H,h=>⟨l,_,λ_=>rfl,h⟩
 | _,.br _ _ _,l,H,h=>⟨l,_,λ_=>rfl,h⟩
 | _,.ob _ _,l,H,h=>⟨l,_,λ_=>rfl,h⟩
 | _,.v _ _ _,l,H,h=>⟨l,_,λ_=>rfl,h⟩
 | _,.z _ _ _,l,H,h=>⟨l,_,λ_=>rfl,h⟩
 | _,.ap _ _ _ _,l,H,h=>⟨l,_,λ_=>rfl,h⟩
 | _,.st _ _,l,H,h=>⟨l,_,λ_=>rfl,h⟩
 | _,.call _ _ _ _ _ _,l,H,h=>⟨l,_,λ_=>rfl,h⟩
 | _,.lp _ _ _ _ _ _ _,l,H,h=>⟨l,_,λ_=>rfl,h⟩
 | _,.jn _ _ _ _ _ _ _ _,l,H,h=>⟨l,_,λ_=>rfl,h⟩
 | _,.sk _,l,H,h=>⟨l,_,λ_=>rfl,h⟩
 | _,.cb _ _ _ _,l,H,h=>⟨l,_,λ_=>rfl,h⟩
 | _,.kl _ _,l,H,h=>⟨l,_,λ_=>rfl,h⟩
 | _,.mp _ _,l,H,h=>⟨l,_,λ_=>rfl,h⟩
 | _,.cl _ _ _ _ _ _,l,H,h=>⟨l,_,λ_=>rfl,h⟩
 | _,.er _,l,H,h=>⟨l,_,λ_=>rfl,h⟩
theorem sJ{l:Fast}{H:WH}{tr:TS}{k:Fast→WH→TS→Prop}(h:Ed l H tr k):∃l' iN,(∀t,look l' t=look l t)∧k l' H iN:=AU tr.tr l H h
theorem Qa{g:Option (Nat×Bool)}{l:Fast}{tr:TS}{yes no:Fast→TS→Prop}(h:wGd g l tr yes no):∃l' iN,(∀t,look l' t=look l t)∧((gV g l=some true∧yes l' iN)∨(gV g l=some false∧no l' iN)):=by
 have self:∀t,look l t=look l t:=λ_=>rfl
 have like:∀ {t b},look l t=.bool b→∀u,look ((t,.bool b)::l) u=look l u:=λ{t b} hb u=>by
  rw[qZ]
  split
  ·rename_i e
   subst e
   exact hb.symm
  ·rfl
 unfold wGd at h
 split at h
 ·exact⟨l,tr,self,.inl ⟨rfl,h⟩⟩
 ·rename_i t want
  split at h
  ·rename_i c hc
   have plain:∀tr,wIf c want (yes l tr) (no l tr)→∃l' iN,(∀t,look l' t=look l t)∧((gV (some (t,want)) l=some true∧yes l' iN)∨(gV (some (t,want)) l=some false∧no l' iN)):=λtr h=>by
    refine⟨l,tr,self, ?_⟩
    simp only[gV,hc]
    cases c<;>cases want<;>simp_all [wIf]
   split at h
   ·rename_i R0 f0 t' bq f g a b
    cases hb:Nat.beq t t' with
    | true =>
     rw[hb]at h
     simp only at h
     obtain⟨hcb,h⟩:=h
     subst hcb
     cases c with
     | true =>
      have h:=h.1 rfl
      cases want with
      | true=>exact⟨_,_,like hc,.inl ⟨by simp[gV,hc],h⟩⟩
      | false=>exact⟨_,_,like hc,.inr ⟨by simp[gV,hc],h⟩⟩
     | false =>
      have h:=h.2 rfl
      cases want with
      | true=>exact⟨_,_,like hc,.inr ⟨by simp[gV,hc],h⟩⟩
      | false=>exact⟨_,_,like hc,.inl ⟨by simp[gV,hc],h⟩⟩
    | false =>
     rw[hb]at h
     exact plain _ h
   ·exact plain _ h
  ·rename_i vs hc
   exact⟨l,tr,self,.inr ⟨by simp[gV,hc],h⟩⟩
  ·exact h.elim
theorem yU{R:Nat→Prop}{ι:VI}{M:Heap}{l lA:Fast}(h:qY R ι M l lA){g:Option (Nat×Bool)}{w:Bool}(hw:gV g l=some w):gV g lA=some w:=by
 cases g with
 | none=>exact hw
 | some g =>
  obtain⟨t,want⟩:=g
  have ht:=h t
  simp only[gV]at hw ⊢
  generalize look l t=X at *
  cases X<;>simp only at hw<;>first |(cases hw;done) | skip
  ·rw[ht.eq rfl]
   exact hw
  ·simp only[VL]at ht
   obtain⟨cs',e,_⟩:=ht
   rw[e]
   exact hw
theorem AY {C:bH} {B:FuncId→Option Bt} (hB:∀f b,B f=some b→Pz C f b) {R:Nat→Prop} {n:Nat}:∀(ops:List pX) (l lA:Fast) (H:WH) (M:Heap) (ι:VI) (tr:TS) (k:Fast→WH→TS→Prop),VS R ι H M→qY R ι M l lA→(ops.all λo=>o.op.cZ)=true →
  KE C B n ops l H tr k→∃qD M' bI l' H' iN t,Fu C n ops lA M=some (qD,M')∧VS R bI H' M'∧Stp H.length t ι H M bI H' M'∧qY R bI M' l' qD∧k l' H' iN
 | [],l,lA,H,M,ι,tr,k,s,he,hc,h=>⟨lA,M,ι,l,H,tr,[],rfl,s,.refl _ _ _ _ _ (Nat.le_refl _),he,h⟩
 | o::r,l,lA,H,M,ι,tr,k,s,he,hc,h=>by
  simp only[List.all_cons,Bool.and_eq_true]at hc
  simp only[KE]at h
  obtain⟨l0,tr0,hl0,h⟩:=sJ h
  have he:qY R ι M l0 lA:=λt=>by rw[hl0 t];exact he t
  obtain⟨l1,tr1,hl,h⟩:=Qa h
  have he1:qY R ι M l1 lA:=λt=>by rw[hl t];exact he t
  rcases h with⟨hw,h⟩ |⟨hw,h⟩
  ·obtain⟨l2,tr2,hl2,h⟩:=sJ h
   have he1:qY R ι M l2 lA:=λt=>by rw[hl2 t];exact he1 t
   simp only[Fu,yU he hw]
   cases ho:o.op with
   | p op =>
    rw[ho]at h hc
    simp only at h
    obtain⟨v,u,tr2,h1,h2,h3⟩:=M4 (R:=R) h
    obtain⟨a,h4,h5⟩:=UD he1 hc.1 h1
    obtain⟨qD,M',bI,l',H',iN,t,q1,q2⟩:=AY hB r _ _ H M ι tr2 k s (he1.put n o.dst (h3 _ _ _ _ h5)) hc.2 h2
    refine⟨qD,M',bI,l',H',iN,t, ?_,q2⟩
    simp only[uT.sub,Er,h4,aW,force_eq]
    exact q1
   | l op =>
    rw[ho]at h hc
    simp only at h
    obtain⟨v,u,tr2,h1,h2,h3⟩:=M4 (R:=R) h
    obtain⟨a,h4,h5⟩:=LB s he1 hc.1 h1
    obtain⟨qD,M',bI,l',H',iN,t,q1,q2⟩:=AY hB r _ _ H M ι tr2 k s (he1.put n o.dst (h3 _ _ _ _ h5)) hc.2 h2
    refine⟨qD,M',bI,l',H',iN,t, ?_,q2⟩
    simp only[uT.sub,Er,h4,aW,force_eq]
    exact q1
   | k op =>
    rw[ho]at h hc
    by_cases hmk:op=.makeMap
    ·subst hmk
     simp only at h
     obtain⟨s1,k1⟩:=s.push (x:=.map []) (y:=.map []) (d:=(0,0)) ⟨rfl,rfl,rfl⟩
     have hv:VL (M.push (.map [])) (OR R (ι.add H.length M.next (0,0))) (ι.add H.length M.next (0,0)) (.map (some H.length)) (.map (some M.next)):=by
      simp only[VL]
      exact⟨M.next,by simp[VI.add,setAt],rfl⟩
     obtain⟨qD,M',bI,l',H',iN,t,q1,q2,q3,q4⟩:=AY hB r _ _ _ _ _ tr2 k s1 ((he1.step s k1).put n o.dst hv) hc.2 h
     refine⟨qD,M',bI,l',H',iN,t, ?_,q2, ?_,q4⟩
     ·simp only[uT.sub,Bh.sub,Er,aK,aW,force_eq]
      exact q1
     ·have:=k1.trans q3 k1.next
      simpa using this
    have h:wK o.dst (op.sub (look l2)) tr2 (λx mk tr=>KE C B n r (j5 n o.dst (mk H.length) l2) (H++[some x]) tr k):=by
     cases op<;>first | exact h | exact absurd rfl hmk
    obtain⟨c,sl,mk,c',sl',mkA,tr2,h1,h2,h3,hss,h4⟩:=ZQ s he1 hc.1 h
    obtain⟨s1,k1⟩:=s.push (BL.of (sl':=sl') h3 hss)
    have hv:=h4 (M.push (.cells c' false sl')) (OR R (ι.add H.length M.next (c.length,c'.length))) (ι.add H.length M.next (c.length,c'.length)) H.length M.next (by simp[VI.add,setAt]) (by simp[VI.add,setAt])
    obtain⟨qD,M',bI,l',H',iN,t,q1,q2,q3,q4⟩:=AY hB r _ _ _ _ _ tr2 k s1 ((he1.step s k1).put n o.dst hv) hc.2 h1
    refine⟨qD,M',bI,l',H',iN,t, ?_,q2, ?_,q4⟩
    ·simp only[uT.sub,Er,h2,aW,force_eq]
     exact q1
    ·have:=k1.trans q3 k1.next
     simpa using this
   | n op =>
    rw[ho]at h hc
    simp only at h
    obtain⟨a,M1,kD,v,H1,t1,tr2,h1,h2,h3,h4,h5⟩:=ZR hB s he1 hc.1 h
    obtain⟨qD,M',bI,l',H',iN,t,q1,q2,q3,q4⟩:=AY hB r _ _ _ _ _ tr2 k h2 ((he1.step s h3).put n o.dst h4) hc.2 h5
    refine⟨qD,M',bI,l',H',iN,t1++t, ?_,q2,h3.trans q3 h3.next,q4⟩
    simp only[uT.sub,Er,h1,force_eq]
    exact q1
  ·simp only[Fu,yU he hw]
   exact AY hB r _ _ H M ι tr1 k s (he1.put n o.dst VL.unit) hc.2 h
theorem GN:∀(k i:Nat),b_ (holes k) i=none
 | 0,i=>rfl
 | k+1,0=>rfl
 | k+1,i+1=>GN k i
theorem Dp:∀k,(holes k).length=k
 | 0=>rfl
 | k+1=>by simp[holes,Dp k]
def VI.room(ι:VI)(a b nk:Nat):VI:=⟨λi=>if a≤i∧i<a+nk then some (b+(i-a))else ι i,λi=>if a≤i∧i<a+nk then false else ι.Gy i,λi=>if a≤i∧i<a+nk then false else ι.gone i,λi=>if a≤i∧i<a+nk then Option.none else ι.dim i⟩
theorem VS.room {R:Nat→Prop} {ι:VI} {H:WH} {M:Heap} (s:VS R ι H M) (nk:Nat) :
  VS R (ι.room H.length M.next nk) (H++holes nk) { M with next:=M.next+nk }∧Stp H.length [] ι H M (ι.room H.length M.next nk) (H++holes nk) { M with next:=M.next+nk }:=by
 have gp:∀i,b_ (H++holes nk) i=b_ H i:=λi=>by
  rw[Fz]
  split
  ·rfl
  ·rename_i h
   rw[GN,MR (Nat.le_of_not_lt h)]
 have out:∀i,i<H.length→¬(H.length≤i∧i<H.length+nk):=λi h=>by omega
 have hls:∀S,VI.Le ι (ι.room H.length M.next nk) S:=λS i _ =>
  ⟨λj h=>by simp only[VI.room,if_neg (out i (s.lt i j h).1)];exact⟨h,λ_ h=>h⟩,λh=>by simp only[VI.room,if_neg (out i (s.sF i h).1)];exact⟨h,λ_ h=>h⟩⟩
 have hk:Keeps M (own ι) { M with next:=M.next+nk } (own (ι.room H.length M.next nk)):=⟨Nat.le_add_right _ _,λb hb ho=>⟨rfl,λ⟨i,hi,hg⟩=>by
  simp only[VI.room]at hi hg
  split at hi
  ·obtain rfl:=ak hi;omega
  ·rename_i hne
   rw[if_neg hne]at hg
   exact ho ⟨i,hi,hg⟩⟩⟩
 have ac:∀i,¬(H.length≤i∧i<H.length+nk)→act (ι.room H.length M.next nk) (H++holes nk) i→act ι H i:=λi hn h=>h.imp (λ⟨x,h⟩=>⟨x,by rw[gp]at h;exact h⟩) (λh=>by simpa only[VI.room,if_neg hn]using h)
 refine⟨⟨λi j h=>?_,λi i' j h h' e e' g=>?_,λi x hx=>?_,λi h=>?_,λi hi c sl h=>?_,λi hi=>s.Ot i (by have:M.next+nk≤i:=hi;omega),λj h=>⟨Nat.lt_of_lt_of_le (s.res j h).1 (Nat.le_add_right _ _),λi hi=>?_⟩⟩,
  ⟨hk,hls _,λi hi h=>by simp only[VI.room,if_neg (out i hi)];exact h,λi hi=>by simp only[VI.room,if_neg (out i hi)],λi hi=>by simp only[VI.room,if_neg (out i hi)],λi hi _=>by simp only[VI.room,if_neg (out i hi)],λi _ ⟨x,h⟩=>⟨x,by rw[gp]at h;exact h⟩,λ_ _ _ _ _ _=>rfl,by simp⟩⟩
 ·simp only[VI.room]at h
  simp only[aJ,Dp]
  split at h
  ·obtain rfl:=ak h
   omega
  ·have:=s.lt i j h
   omega
 ·simp only[VI.room]at e e'
  split at e<;>split at e'
  ·have e1:=ak e
   have e2:=ak e'
   omega
  ·obtain rfl:=ak e
   have:=(s.lt _ _ e').2
   omega
  ·obtain rfl:=ak e'
   have:=(s.lt _ _ e).2
   omega
  ·rename_i n1 n2
   simp only[VI.room,if_neg n1,if_neg n2]at g
   exact s.inj i i' j (ac i n1 h) (ac i' n2 h') e e' g
 ·rw[gp]at hx
  have hl:=out i (nK hx)
  simp only[VI.room,if_neg hl]
  rcases s.blk i x hx with h |⟨j,h1,h2,h3⟩
  ·exact .inl h
  ·exact .inr ⟨j,h1,h2.mono (hk.or R) hls (λ_ h=>h),h3⟩
 ·simp only[VI.room]at h ⊢
  split at h
  ·cases h
  ·rename_i hn
   rw[if_neg hn]
   have:=s.sF i h
   simp only[aJ,Dp]
   exact⟨by omega,this.2⟩
 ·rw[gp]at h
  have hl:=out i (nK h)
  simp only[VI.room,if_neg hl]at hi
  exact s.pG i hi c sl h
 ·simp only[VI.room]
  split
  ·rename_i hn
   intro e
   obtain rfl:=ak e
   have:=(s.res _ h).1
   omega
  ·rename_i hn
   exact(s.res j h).2 i (ac i hn hi)
def VI.fill(ι:VI)(i:Nat)(d:Nat×Nat):VI:=⟨ι.to,ι.Gy,ι.gone,setAt ι.dim i (some d)⟩
theorem VS.fill {R:Nat→Prop} {ι:VI} {H:WH} {M:Heap} (s:VS R ι H M) {b j:Nat} (hb:ι b=some j) (hg:ι.gone b=false) (hd:ι.dim b=none) (hn:b_ H b=none) {x y:jN} {d:Nat×Nat} (hx:BL M (OR R ι) ι (some d) x (some y)) :
  VS R (ι.fill b d) (fQ H b (some x)) (M.put j (some y))∧Keeps M (own ι) (M.put j (some y)) (own (ι.fill b d))∧(∀S,VI.Le ι (ι.fill b d) S)∧(∀i j',i≠b→act ι H i→ι i=some j'→(M.put j (some y)).get j'=M.get j'):=by
 have hbl:=(s.lt b j hb).1
 have hk:Keeps M (own ι) (M.put j (some y)) (own (ι.fill b d)):=⟨Nat.le_refl _,λb' _ ho=>⟨by
  have:b'≠j:=λe=>ho (e ▸ ⟨b,hb,hg⟩)
  simp[Heap.put,this],ho⟩⟩
 have hls:∀S,VI.Le ι (ι.fill b d) S:=λS i _=>by
  by_cases e:i=b
  ·subst e
   exact⟨λj h=>⟨h,λd h=>by rw[hd]at h;cases h⟩,λh=>⟨h,λd h=>by rw[hd]at h;cases h⟩⟩
  ·simp only[VI.fill,bU _ _ e]
   exact⟨λj h=>⟨h,λd h=>h⟩,λh=>⟨h,λd h=>h⟩⟩
 have gp:∀k,b_ (fQ H b (some x)) k=if k=b then some x else b_ H k:=λk=>by
  rw[mV]
  by_cases e:k=b
  ·rw[if_pos ⟨e,hbl⟩,if_pos e]
  ·rw[if_neg (λh=>e h.1),if_neg e]
 have ac:∀i,act (ι.fill b d) (fQ H b (some x)) i→act ι H i:=λi h=>by
  rcases h with⟨z,h⟩ | h
  ·rw[gp]at h
   by_cases e:i=b
   ·subst e
    exact .inr hg
   ·rw[if_neg e]at h
    exact .inl ⟨z,h⟩
  ·exact .inr h
 have ne:∀i j',i≠b→act ι H i→ι i=some j'→j'≠j:=λi j' hi ha h e=>hi (s.inj i b j ha (.inr hg) (e ▸ h) hb (.inr hg))
 refine⟨⟨λi j h=>by rw[dO];exact s.lt i j h,λi i' j h h'=>s.inj i i' j (ac i h) (ac i' h'),λi z hz=>?_,λi h=>by rw[dO];exact s.sF i h,λi hi c sl h=>?_,λi hi=>?_,λj h=>⟨(s.res j h).1,λi hi=>(s.res j h).2 i (ac i hi)⟩⟩,hk,hls,λi j' hi ha h=>by simp[Heap.put,ne i j' hi ha h]⟩
 ·rw[gp]at hz
  by_cases e:i=b
  ·subst e
   rw[if_pos rfl]at hz
   obtain rfl:=ak hz
   refine .inr ⟨j,hb, ?_,λ_=>hg⟩
   simp only[Heap.put,if_true]
   exact hx.mono (hk.or R) hls (λ_ h=>by simpa[VI.fill,setAt]using h)
  ·rw[if_neg e]at hz
   rcases s.blk i z hz with⟨h1,h2,h3⟩ |⟨j',h1,h2,h3⟩
   ·exact .inl ⟨h1,by simp only[VI.fill,bU _ _ e];exact h2,h3⟩
   ·refine .inr ⟨j',h1, ?_,h3⟩
    simp only[Heap.put,if_neg (ne i j' e (.inl ⟨z,hz⟩) h1)]
    exact h2.mono (hk.or R) hls (λ_ h=>by simp only[VI.fill,bU _ _ e];exact h)
 ·rw[gp]at h
  by_cases e:i=b
  ·subst e
   have:ι.gone i=true:=hi
   rw[hg]at this
   cases this
  ·rw[if_neg e]at h
   exact s.pG i hi c sl h
 ·have:=(s.lt b j hb).2
  have:i≠j:=λe=>by subst e;simp only[Heap.put]at hi;omega
  simp only[Heap.put,if_neg this]
  exact s.Ot i hi
mutual
theorem VL.vk{M:Heap}{O:Nat→Prop}{κ:VI}:∀(v a:AV),known v=true→VL M O κ v a→AV.same a a=true
 |.undef,_,h,_=>by simp[known]at h
 |.bool _,_,_,e=>by simp only[VL]at e;subst e;simp[AV.same]
 |.int _ _,_,_,e=>by simp only[VL]at e;subst e;simp[AV.same]
 |.str _,_,_,e=>by simp only[VL]at e;subst e;simp[AV.same]
 |.ptr none,_,_,e=>by simp only[VL]at e;subst e;simp[AV.same]
 |.ptr (some q),_,_,e=>by simp only[VL]at e;obtain⟨j,_,rfl⟩:=e;simp[AV.same]
 |.slice none _ _ _ _,_,_,e=>by simp only[VL]at e;obtain⟨_,s',rfl⟩:=e;simp[AV.same]
 |.slice (some _) _ _ _ _,_,_,e=>by simp[VL]at e
 |.map none,_,_,e=>by simp only[VL]at e;subst e;simp[AV.same]
 |.map (some r),_,_,e=>by simp only[VL]at e;obtain⟨j,_,rfl⟩:=e;simp[AV.same]
 |.func f cs,_,h,e=>by
  simp only[VL]at e
  obtain⟨cs',rfl,e⟩:=e
  simp only[AV.same,Bool.and_eq_true,beq_self_eq_true,true_and]
  exact bL.vk cs cs' (by simpa[known]using h) e
 |.nilFunc,_,_,e=>by simp only[VL]at e;subst e;simp[AV.same]
 |.agg cs,_,h,e=>by
  simp only[VL]at e
  obtain⟨cs',rfl,e⟩:=e
  simp only[AV.same]
  exact bL.vk cs cs' (by simpa[known]using h) e
 |.tuple cs,_,h,e=>by
  simp only[VL]at e
  obtain⟨cs',rfl,e⟩:=e
  simp only[AV.same]
  exact bL.vk cs cs' (by simpa[known]using h) e
 |.list ..,_,_,e=>by
  simp only[VL]at e
  rcases e with⟨_,_,s',rfl⟩ |⟨b,o,cap,ex',rfl,_⟩<;>simp[AV.same]
 |.elem _,_,_,e=>by simp only[VL]at e;obtain⟨b,o,c,ro,sl,rfl,_⟩:=e;simp[AV.same]
 |.acc ..,_,_,e=>by simp only[VL]at e;obtain⟨p,s',cap,ex,rfl,_⟩:=e;simp[AV.same]
theorem bL.vk{M:Heap}{O:Nat→Prop}{κ:VI}:∀(l r:List AV),Gz l=true→bL M O κ l r→AV.BQ r r=true
 | [],[],_,_=>by simp[AV.BQ]
 | v::l,a::r,h,e=>by
  simp only[bL]at e
  simp only[Gz]at h
  split at h
  ·rename_i hv
   simp only[AV.BQ,Bool.and_eq_true]
   exact⟨VL.vk v a hv e.1,bL.vk l r h e.2⟩
  ·cases h
 | [],_::_,_,e=>by simp[bL]at e
 | _::_,[],_,e=>by simp[bL]at e
end
theorem OG(u k:Nat)(bt:List (Nat×Nat))(t:Nat):mH ((u,k)::bt) t=if u=t then k else mH bt t:=by
 simp only[mH]
 cases h:Nat.beq u t with
 | true=>simp[bg h]
 | false =>
  have:u≠t:=λe=>by subst e;simp at h
  simp[this]
theorem Ez(n:Nat)(d:Option Nat)(k:Nat)(bt:List (Nat×Nat))(t:Nat):mH (lJ n d k bt) t=if d=some t∧t<n then k else mH bt t:=by
 cases d with
 | none=>simp[lJ]
 | some d =>
  simp only[lJ]
  cases hb:Nat.blt d n with
  | true =>
   have hd:d<n:=by simpa[Nat.blt_eq]using hb
   simp only[OG]
   by_cases he:d=t
   ·subst he
    simp[hd]
   ·simp[he]
  | false =>
   have hd:¬d<n:=λh=>by
    have:Nat.blt d n=true:=by simpa[Nat.blt_eq]using h
    rw[hb]at this
    cases this
   simp only
   rw[if_neg]
   rintro⟨h1,h2⟩
   obtain rfl:=ak h1
   exact hd h2
def DC(bt:List (Nat×Nat))(k:Nat)(ρ:Nat→AV):Nat→AV:=λt=>if mH bt t≤k then ρ t else .undef
theorem Rz{bt:List (Nat×Nat)}{k:Nat}{ρ:Nat→AV}{x:AX}(h:mg bt x≤k):x.sub (DC bt k ρ)=x.sub ρ:=by
 cases x with
 | t t=>simp only[mg]at h;simp only[AX.sub,DC];rw[if_pos h]
 | c v=>rfl
theorem UU{bt:List (Nat×Nat)}{k:Nat}{ρ:Nat→AV}{x:Option AX}(h:MO bt x≤k):AX.gZ (DC bt k ρ) x=AX.gZ ρ x:=by
 cases x with
 | none=>rfl
 | some x=>simp only[AX.gZ,aW,Rz h]
theorem SA{bt:List (Nat×Nat)}{n k:Nat}{ρ:Nat→AV}{o:jZ}(hk:k<n)(h:Ov bt n o≤k):o.sub (DC bt k ρ)=o.sub ρ:=by
 cases o<;>simp only[Ov]at h<;>first | omega | skip
 all_goals simp only[jZ.sub]
 all_goals (repeat rw[Rz (by omega)])
 all_goals (repeat rw[UU (by omega)])
theorem jR{b:Nat}{t:List Nat×WH}{r:List (List Nat×WH)}:touches b (t::r)=false↔b∉t.1∧touches b r=false:=by
 simp only[touches]
 cases h:nW t.1 b with
 | true=>simp[sH.1 h]
 | false=>simp[show b∉t.1 from λe=>by rw[sH.2 e]at h;cases h]
theorem H7{b:Nat}{t:List Nat×WH}:∀ {r:List (List Nat×WH)},touches b (r++[t])=false↔touches b r=false∧b∉t.1
 | []=>by rw[List.nil_append,jR];simp[touches]
 | u::r=>by rw[List.cons_append,jR,jR,H7,and_assoc]
structure HK(R:Nat→Prop)(base dK nk k:Nat)(nZ ι:VI)(H:WH)(M:Heap)(l lA:Fast)(bt:List (Nat×Nat))(hs:List (List Nat×WH))(Mk:Heap)(rD:VI):Prop where
 keep:Keeps Mk (own rD) M (own ι)
 env:∀t,mH bt t≤k+1→VL Mk (OR R rD) rD (look l t) (look lA t)
 new:∀i,i<nk→rD (base+i)=some (dK+i)
 gone:∀i,i<nk→rD.gone (base+i)=true→ι.gone (base+i)=true
 same:∀i j,i<base→act ι H i→nZ i=some j→touches i (hs.drop k)=false→M.get j=Mk.get j
structure DI(R:Nat→Prop)(base dK nk:Nat)(nZ:VI)(M0:Heap)(ι:VI)(H:WH)(M:Heap)(l lA:Fast)(bt:List (Nat×Nat))(al:List Nat)(hs:List (List Nat×WH))(iF:List Heap):Prop where
 vs:VS R ι H M
 len:base+nk≤H.length
 env:qY R ι M l lA
 new:∀i,i<nk→ι (base+i)=some (dK+i)
 free:∀i,i<nk→nW al i=false→ι.gone (base+i)=false∧ι.dim (base+i)=none∧b_ H (base+i)=none
 start:∀t,mH bt t=0→VL M0 (OR R nZ) nZ (look l t) (look lA t)
 low:∀i j,nZ i=some j→i<base∧j<dK
 le0:VI.Le nZ ι (λi=>i<base)
 TF:∀i,i<base→ι i=nZ i
 m0:M0.next=dK
 hlen:hs.length=iF.length
 hist:∀k Mk,iF[k]?=some Mk→∃rD,HK R base dK nk k nZ ι H M l lA bt hs Mk rD∧∃t Hk,hs[k]?=some (t,Hk)∧VS R rD Hk Mk
section
variable {R:Nat→Prop} {base dK nk:Nat} {nZ:VI} {M0:Heap} {ι:VI} {H:WH} {M:Heap} {l lA:Fast} {bt:List (Nat×Nat)} {al:List Nat} {hs:List (List Nat×WH)} {iF:List Heap}
theorem HK.put{k:Nat}{Mk:Heap}{rD:VI}(g:HK R base dK nk k nZ ι H M l lA bt hs Mk rD)(n:Nat)(d:Option Nat)(b:Nat){v a:AV}(hv:b≤k+1→VL Mk (OR R rD) rD v a):HK R base dK nk k nZ ι H M (j5 n d v l) (j5 n d a lA) (lJ n d b bt) hs Mk rD :=
 ⟨g.keep,λt ht=>by
  rw[rC,rC]
  rw[Ez]at ht
  split
  ·rename_i h
   rw[if_pos h]at ht
   exact hv ht
  ·rename_i h
   rw[if_neg h]at ht
   exact g.env t ht,g.new,g.gone,g.same⟩
theorem DI.put (g:DI R base dK nk nZ M0 ι H M l lA bt al hs iF) (n:Nat) (d:Option Nat) (b:Nat) {v a:AV} (hv:VL M (OR R ι) ι v a) (h0:b=0→VL M0 (OR R nZ) nZ v a)
  (hk:∀k Mk rD,k<hs.length→HK R base dK nk k nZ ι H M l lA bt hs Mk rD→b≤k+1→VL Mk (OR R rD) rD v a):DI R base dK nk nZ M0 ι H M (j5 n d v l) (j5 n d a lA) (lJ n d b bt) al hs iF :=
 ⟨g.vs,g.len,g.env.put n d hv,g.new,g.free,λt ht=>by
  rw[rC,rC]
  rw[Ez]at ht
  split
  ·rename_i h
   rw[if_pos h]at ht
   exact h0 ht
  ·rename_i h
   rw[if_neg h]at ht
   exact g.start t ht,g.low,g.le0,g.TF,g.m0,g.hlen,λk Mk h=>by
   obtain⟨rD,q,q2⟩:=g.hist k Mk h
   exact⟨rD,q.put n d b λhb=>hk k Mk rD (by rw[g.hlen];exact(aM.1 h).1) q hb,q2⟩⟩
theorem DI.abX (g:DI R base dK nk nZ M0 ι H M l lA bt al hs iF) (n:Nat) (d:Option Nat) (b:Nat) {v a:AV} (hv:VL M (OR R ι) ι v a) (h0:b=0→VL M0 (OR R nZ) nZ v a)
  (hk:∀k Mk rD t Hk,iF[k]?=some Mk→HK R base dK nk k nZ ι H M l lA bt hs Mk rD→hs[k]?=some (t,Hk)→VS R rD Hk Mk→b≤k+1→VL Mk (OR R rD) rD v a):DI R base dK nk nZ M0 ι H M (j5 n d v l) (j5 n d a lA) (lJ n d b bt) al hs iF :=
 ⟨g.vs,g.len,g.env.put n d hv,g.new,g.free,λt ht=>by
  rw[rC,rC]
  rw[Ez]at ht
  split
  ·rename_i h
   rw[if_pos h]at ht
   exact h0 ht
  ·rename_i h
   rw[if_neg h]at ht
   exact g.start t ht,g.low,g.le0,g.TF,g.m0,g.hlen,λk Mk h=>by
   obtain⟨rD,q,t,Hk,q2,q3⟩:=g.hist k Mk h
   exact⟨rD,q.put n d b λhb=>hk k Mk rD t Hk h q q2 q3 hb,t,Hk,q2,q3⟩⟩
theorem DI.now(g:DI R base dK nk nZ M0 ι H M l lA bt al hs iF)(n:Nat)(d:Option Nat){v a:AV}(hv:VL M (OR R ι) ι v a):DI R base dK nk nZ M0 ι H M (j5 n d v l) (j5 n d a lA) (lJ n d (hs.length+1) bt) al hs iF :=
 g.put n d (hs.length+1) hv (λh=>by omega) (λk Mk rD hk _ hb=>by omega)
theorem DI.like{l':Fast}(g:DI R base dK nk nZ M0 ι H M l lA bt al hs iF)(h:∀t,look l' t=look l t):DI R base dK nk nZ M0 ι H M l' lA bt al hs iF :=
 ⟨g.vs,g.len,λt=>by rw[h t];exact g.env t,g.new,g.free,λt ht=>by rw[h t];exact g.start t ht,g.low,g.le0,g.TF,g.m0,g.hlen,λk Mk e=>by
  obtain⟨rD,q,q2⟩:=g.hist k Mk e
  exact⟨rD,⟨q.keep,λt ht=>by rw[h t];exact q.env t ht,q.new,q.gone,q.same⟩,q2⟩⟩
theorem DI.loud(g:DI R base dK nk nZ M0 ι H M l lA bt al hs iF){t:List Nat}{bI:VI}{H':WH}{M':Heap}(s':VS R bI H' M')(k:Stp H.length t ι H M bI H' M'):DI R base dK nk nZ M0 bI H' M' l lA bt al (hs++[(t,H)]) (iF++[M]):=by
 have hb:∀i,i<nk→base+i<H.length:=λi hi=>by have:=g.len;omega
 have nw:∀i,i<nk→bI (base+i)=some (dK+i):=λi hi=>((k.le _ (hb i hi)).1 _ (g.new i hi)).1
 refine⟨s',Nat.le_trans g.len k.next,g.env.step g.vs k,nw,λi hi ha=>?_,g.start,g.low,g.le0.trans (k.le.sub λi hi=>by have:=g.len;have:i<base:=hi;show i<H.length;omega),λi hi=>(k.ZI i (by have:=g.len;omega)).trans (g.TF i hi),g.m0,by simp[g.hlen],λq Mk hq=>?_⟩
 ·obtain⟨h1,h2,h3⟩:=g.free i hi ha
  refine⟨by rw[k.Li _ (hb i hi) h3];exact h1,by rw[k.PY _ (hb i hi)];exact h2, ?_⟩
  cases e:b_ H' (base+i)with
  | none=>rfl
  | some x =>
   obtain⟨y,hy⟩:=k.live _ (hb i hi) ⟨x,e⟩
   rw[h3]at hy
   cases hy
 ·rcases Nat.lt_or_ge q iF.length with hlt | hge
  ·rw[List.getElem?_append_left hlt]at hq
   obtain⟨rD,w,t0,Hk,w2,w3⟩:=g.hist q Mk hq
   refine⟨rD,⟨w.keep.trans k.keep,w.env,w.new,λi hi h=>k.gone _ (hb i hi) (w.gone i hi h),λi j hi ha hj ht=>?_⟩,t0,Hk,by rw[List.getElem?_append_left (by rw[g.hlen];exact hlt)];exact w2,w3⟩
   rw[List.drop_append_of_le_length (by rw[g.hlen];omega),H7]at ht
   have hi':i<H.length:=by have:=g.len;omega
   exact(k.tch i j hi' ha ((g.le0 i hi).1 j hj).1 ht.2).trans (w.same i j hi (k.act hi' ha) hj ht.1)
  ·rw[List.getElem?_append_right hge]at hq
   have hqe:q=iF.length:=by
    rcases Nat.eq_or_lt_of_le hge with e | e
    ·exact e.symm
    ·rw[List.getElem?_eq_none (by simp;omega)]at hq;cases hq
   subst hqe
   simp only[Nat.sub_self,List.getElem?_cons_zero,av]at hq
   subst hq
   refine⟨ι,⟨k.keep,λu _=>g.env u,g.new,λi hi h=>k.gone _ (hb i hi) h,λi j hi ha hj ht=>?_⟩,t,H,by rw[←g.hlen,List.getElem?_append_right (Nat.le_refl _)];simp,g.vs⟩
   rw[←g.hlen,List.drop_append_of_le_length (Nat.le_refl _),List.drop_length,List.nil_append,jR]at ht
   exact k.tch i j (by have:=g.len;omega) ha ((g.le0 i hi).1 j hj).1 ht.1
theorem EA:∀ {al:List Nat} {m:Nat},zo H base al=true→nW al m=true→∃c sl,b_ H (base+m)=some (.cells c false sl)
 | [],m,_,h=>by simp[nW]at h
 | a::r,m,ht,h=>by
  simp only[zo]at ht
  split at ht
  case h_2=>cases ht
  rename_i c sl hg
  rcases List.mem_cons.1 (sH.1 h)with e | e
  ·exact⟨c,sl,e ▸ hg⟩
  ·exact EA ht (sH.2 e)
theorem DI.owns(g:DI R base dK nk nZ M0 ι H M l lA bt al hs iF)(ht:zo H base al=true){b:Nat}(h1:dK≤b)(h2:b<dK+nk):own ι b:=by
 have e:dK+(b-dK)=b:=by omega
 refine⟨base+(b-dK),by rw[g.new _ (by omega),e], ?_⟩
 cases ha:nW al (b-dK)with
 | false=>exact(g.free _ (by omega) ha).1
 | true =>
  obtain⟨c,sl,hg⟩:=EA ht ha
  cases hgo:ι.gone (base+(b-dK))with
  | false=>rfl
  | true=>exact absurd hg (g.vs.pG _ hgo c sl)
theorem DI.owned (g:DI R base dK nk nZ M0 ι H M l lA bt al hs iF) {lo:Nat} (ht:(zo H base al||Ch hs lo base al)=true) {b:Nat} (h1:dK≤b) (h2:b<dK+nk) :
  own ι b∨∃k Mk rD,lo≤k∧iF[k]?=some Mk∧HK R base dK nk k nZ ι H M l lA bt hs Mk rD∧own rD b:=by
 rcases Bool.or_eq_true_iff.1 ht with ht | ht
 ·exact .inl (g.owns ht h1 h2)
 have e:dK+(b-dK)=b:=by omega
 cases ha:nW al (b-dK)with
 | false=>exact .inl ⟨base+(b-dK),by rw[g.new _ (by omega),e],(g.free _ (by omega) ha).1⟩
 | true =>
  right
  unfold Ch at ht
  split at ht
  case h_2=>cases ht
  rename_i tk Hk rest hd
  have hk:hs[lo]?=some (tk,Hk):=by
   have:(hs.drop lo)[0]?=some (tk,Hk):=by rw[hd];rfl
   rw[List.getElem?_drop]at this
   exact this
  have hl:lo<iF.length:=by rw[←g.hlen];exact(aM.1 hk).1
  obtain⟨rD,w,t',Hk',w2,w3⟩:=g.hist lo iF[lo] (bn hl)
  rw[hk]at w2
  cases w2
  obtain⟨c,sl,hg⟩:=EA ht ha
  refine⟨lo,_,rD,Nat.le_refl _,bn hl,w,base+(b-dK),by rw[w.new _ (by omega),e], ?_⟩
  cases hgo:rD.gone (base+(b-dK))with
  | false=>rfl
  | true=>exact absurd hg (w3.pG _ hgo c sl)
theorem vo{X:Heap}{b:Nat}(h:¬(dK≤b∧b<dK+nk)):(X.hide dK nk).get b=X.get b:=by
 simp only[Heap.hide]
 rw[if_neg h]
theorem Dq{g:Bool}{n b o:Nat}{X Y:Heap}(h:X.get b=Y.get b):yI g n (.ptr (some (b,o))) X=yI g n (.ptr (some (b,o))) Y:=by
 simp only[yI,Heap.read,h]
theorem Ee{sz len cap:Nat}{ex:Bool}{b o:Nat}{X Y:Heap}(h:len≠0→X.get b=Y.get b):o8 (.slice (some (b,o)) sz len cap ex) X=o8 (.slice (some (b,o)) sz len cap ex) Y:=by
 unfold o8
 split<;>first | rfl | skip
 rename_i e
 cases e
 split
 ·rfl
 ·rename_i hl
  simp only[Heap.read,h hl]
theorem XE (g:DI R base dK nk nZ M0 ι H M l lA bt al hs iF) {o:rY} (hc:o.cZ=true) {v u:AV} (hv:wL (o.sub (look l)) H=some v) (hu:∀(M:Heap) (O:Nat→Prop) (κ:VI) (a:AV),VL M O κ v a→VL M O κ u a) {lo:Nat} (hok:Ju base al l bt lo o u H hs=true) :
  ∃a,aL (o.sub (look lA)) [] (M.hide dK nk)=some a∧VL M (OR R ι) ι u a∧∀k Mk,lo≤k→iF[k]?=some Mk→∃w,aL (o.sub (look lA)) [] (Mk.hide dK nk)=some w∧AV.same w a=true:=by
 obtain⟨a,h1,h2⟩:=LB g.vs g.env hc hv
 have h3:=hu _ _ _ _ h2
 -- all read the same
 have fin:known u=true→(∀X,(X=M∨∃k,lo≤k∧iF[k]?=some X)→aL (o.sub (look lA)) [] (X.hide dK nk)=aL (o.sub (look lA)) [] M)→∃a,aL (o.sub (look lA)) [] (M.hide dK nk)=some a∧VL M (OR R ι) ι u a∧∀k Mk,lo≤k→iF[k]?=some Mk→∃w,aL (o.sub (look lA)) [] (Mk.hide dK nk)=some w∧AV.same w a=true :=
  λhkn hX=>⟨a,(hX M (.inl rfl)).trans h1,h3,λk Mk hk hM=>⟨a,(hX Mk (.inr ⟨k,hk,hM⟩)).trans h1,VL.vk u a hkn h3⟩⟩
 unfold Ju at hok
 -- a list
 have lst:∀(t:Nat),mg bt (.t t)=Cg bt o→Nat.ble (Cg bt o) lo=true→(zo H base al=true∨Cg bt o=0) →
   ∀(P:Heap→(Nat→Prop)→VI→Nat→Prop),(∀M O κ,VL M O κ (look l t) (look lA t)→∃b,P M O κ b)→True:=λ_ _ _ _ _ _=>trivial
 cases o with
 | load ag n x =>
  cases x with
  | c w=>simp[KF]at hok
  | t t =>
   simp only[KF,Cg,mg]at hok
   simp only[rY.sub,AX.sub,aL,AX.ev]at fin h1 ⊢
   have e0:=g.env t
   generalize hX:look l t=X at *
   cases X with
   | elem cs =>
    simp only at hok
    have hkn:known u=true:=by
     split at hok
     ·assumption
     ·assumption
     ·cases hok
    have hb:mH bt t≤lo+1:=by
     split at hok
     ·rename_i h _ _;exact Nat.le_of_ble_eq_true h
     ·rename_i h _ _;exact Nat.le_of_ble_eq_true h
     ·cases hok
    have hth:(zo H base al||Ch hs lo base al)=true∨mH bt t=0:=by
     split at hok
     ·exact .inl (by assumption)
     ·exact .inr (bg hok)
     ·cases hok
    simp only[VL]at e0
    obtain⟨b,off,c,ro,sl,e1,g1,g2,g3,g4⟩:=e0
    have hout:¬(dK≤b∧b<dK+nk):=λ⟨q1,q2⟩=>by
     rcases hth with ht | h0
     ·rcases g.owned ht q1 q2 with o |⟨k,Mk,rD,hk,_,w,o⟩
      ·exact g2 (.inl o)
      ·have:=w.env t (by omega)
       rw[hX]at this
       simp only[VL]at this
       obtain⟨b',_,_,_,_,e2,_,p2,_⟩:=this
       rw[e1]at e2
       simp only[AV.ptr.injEq,av,aI]at e2
       rw[←e2.1]at p2
       exact p2 (.inl o)
     ·have:=g.start t h0
      rw[hX]at this
      simp only[VL]at this
      obtain⟨b',_,_,_,_,e2,_,_,p3,_⟩:=this
      rw[e1]at e2
      simp only[AV.ptr.injEq,av,aI]at e2
      rw[←e2.1,g.m0]at p3
      omega
    refine fin hkn λX Rl=>?_
    rw[e1]
    refine Dq ((vo hout).trans ?_)
    rcases Rl with rfl |⟨k,hk,hM⟩
    ·rfl
    ·obtain⟨rD,w,_⟩:=g.hist k X hM
     have:=w.env t (by omega)
     rw[hX]at this
     simp only[VL]at this
     obtain⟨b',_,_,_,_,e2,_,p2,p3,_⟩:=this
     rw[e1]at e2
     simp only[AV.ptr.injEq,av,aI]at e2
     rw[←e2.1]at p2 p3
     exact(w.keep.get b p3 (λh=>p2 (.inl h))).1.symm
   | ptr p =>
    cases p with
    | none=>simp at hok
    | some q =>
     simp only at hok
     split at hok
     case h_2=>cases hok
     rename_i hkn hlt hto
     have hlt:q.1<base:=by simpa[Nat.blt_eq]using hlt
     simp only[VL]at e0
     obtain⟨j,k1,k2⟩:=e0
     rw[g.TF _ hlt]at k1
     have hj:=(g.low _ _ k1).2
     have hact:act ι H q.1:=by
      simp only[rY.sub,AX.sub,wL,AX.ev,hX]at hv
      split at hv
      ·cases hv
      split at hv
      ·rename_i hg
       exact .inl ⟨_,hg⟩
      ·cases hv
     refine fin hkn λX Rl=>?_
     rw[k2]
     refine Dq ((vo (by omega)).trans ?_)
     rcases Rl with rfl |⟨k,hk,hM⟩
     ·rfl
     ·obtain⟨rD,w,_⟩:=g.hist k X hM
      refine(w.same q.1 j hlt hact k1 ?_).symm
      have:hs.drop k=(hs.drop lo).drop (k-lo):=by rw[List.drop_drop];congr 1;omega
      rw[this]
      have mono:∀(r:List (List Nat×WH)) (n:Nat),touches q.1 r=false→touches q.1 (r.drop n)=false:=by
       intro r
       induction r with
       | nil=>intro n _;simp[touches]
       | cons u r ih =>
        intro n h
        cases n with
        | zero=>exact h
        | succ n=>exact ih n (jR.1 h).2
      exact mono _ _ hto
   | _=>simp at hok
 | jF x =>
  cases x with
  | c w=>simp[KF]at hok
  | t t =>
   simp only[KF,Cg,mg]at hok
   simp only[rY.sub,AX.sub,aL,AX.ev]at fin h1 ⊢
   have e0:=g.env t
   generalize hX:look l t=X at *
   cases X with
   | list sz len cs ex =>
    simp only at hok
    have hkn:known u=true:=by
     split at hok
     ·assumption
     ·assumption
     ·cases hok
    have hb:mH bt t≤lo+1:=by
     split at hok
     ·rename_i h _ _;exact Nat.le_of_ble_eq_true h
     ·rename_i h _ _;exact Nat.le_of_ble_eq_true h
     ·cases hok
    have hth:(zo H base al||Ch hs lo base al)=true∨mH bt t=0:=by
     split at hok
     ·exact .inl (by assumption)
     ·exact .inr (bg hok)
     ·cases hok
    simp only[VL]at e0
    rcases e0 with⟨_,_,s',e1⟩ |⟨b,off,cap,ex',e1,_,_,_,q4⟩
    ·exact fin hkn λX _=>by rw[e1];rfl
    refine fin hkn λX Rl=>?_
    rw[e1]
    refine Ee λhl=>?_
    obtain⟨c,ro,sl,g1,g2,g3,g4,g5⟩:=q4 hl
    have hout:¬(dK≤b∧b<dK+nk):=λ⟨q1,q2⟩=>by
     rcases hth with ht | h0
     ·rcases g.owned ht q1 q2 with o |⟨k,Mk,rD,hk,_,w,o⟩
      ·exact g2 (.inl o)
      ·have:=w.env t (by omega)
       rw[hX]at this
       simp only[VL]at this
       rcases this with⟨_,_,s',e2⟩ |⟨b',_,_,_,e2,_,_,_,p4⟩
       ·rw[e1]at e2;cases e2
       ·rw[e1]at e2
        cases e2
        obtain⟨_,_,_,_,p2,_⟩:=p4 hl
        exact p2 (.inl o)
     ·have:=g.start t h0
      rw[hX]at this
      simp only[VL]at this
      rcases this with⟨_,_,s',e2⟩ |⟨b',_,_,_,e2,_,_,_,p4⟩
      ·rw[e1]at e2;cases e2
      ·rw[e1]at e2
       cases e2
       obtain⟨_,_,_,_,_,p3,_⟩:=p4 hl
       rw[g.m0]at p3
       omega
    refine(vo hout).trans ?_
    rcases Rl with rfl |⟨k,hk,hM⟩
    ·rfl
    ·obtain⟨rD,w,_⟩:=g.hist k X hM
     have:=w.env t (by omega)
     rw[hX]at this
     simp only[VL]at this
     rcases this with⟨_,_,s',e2⟩ |⟨b',_,_,_,e2,_,_,_,p4⟩
     ·rw[e1]at e2;cases e2
     ·rw[e1]at e2
      cases e2
      obtain⟨_,_,_,_,p2,p3,_⟩:=p4 hl
      exact(w.keep.get b p3 (λh=>p2 (.inl h))).1.symm
   | slice p sz len cap ex =>
    cases p with
    | some q=>simp[VL]at e0
    | none =>
     simp only at hok
     have hkn:known u=true:=by
      split at hok
      ·assumption
      ·assumption
      ·cases hok
     simp only[VL]at e0
     obtain⟨_,s',e1⟩:=e0
     exact fin hkn λX _=>by rw[e1];rfl
   | acc b off sz n w =>
    simp only at hok
    split at hok
    case h_2=>cases hok
    rename_i hkn hlt hto
    have hlt:b<base:=by simpa[Nat.blt_eq]using hlt
    simp only[VL]at e0
    obtain⟨p,s',cap,ex,k2,k3,k4,k5,m,L,k6,k7,k8,k9⟩:=e0
    have hact:act ι H b:=by
     simp only[rY.sub,AX.sub,wL,AX.ev,hX]at hv
     split at hv
     ·rename_i e;cases e
     ·rename_i e
      cases e
      split at hv
      ·rename_i hg
       exact .inl ⟨_,hg⟩
      ·cases hv
     ·rename_i e;cases e
     ·cases hv
    refine fin hkn λX Rl=>?_
    rw[k2]
    cases p with
    | none=>rfl
    | some p =>
     refine Ee λhl=>?_
     have k9:=k9.resolve_right (λh=>hl h.2.1)
     obtain⟨j,k1,k10⟩:=k9
     rw[g.TF _ hlt]at k1
     have k10:=k10.resolve_right (λh=>hl h.1)
     have hpj:p.1=j:=by
      have:=k10.1
      simp only[av]at this
      rw[this]
     have hj:=(g.low _ _ k1).2
     rw[hpj]
     refine(vo (by omega)).trans ?_
     rcases Rl with rfl |⟨k,hk,hM⟩
     ·rfl
     ·obtain⟨rD,w',_⟩:=g.hist k X hM
      refine(w'.same b j hlt hact k1 ?_).symm
      have:hs.drop k=(hs.drop lo).drop (k-lo):=by rw[List.drop_drop];congr 1;omega
      rw[this]
      have mono:∀(r:List (List Nat×WH)) (n:Nat),touches b r=false→touches b (r.drop n)=false:=by
       intro r
       induction r with
       | nil=>intro n _;simp[touches]
       | cons u r ih =>
        intro n h
        cases n with
        | zero=>exact h
        | succ n=>exact ih n (jR.1 h).2
      exact mono _ _ hto
   | _=>simp at hok
 | qV x =>
  cases x with
  | c w=>simp[KF]at hok
  | t t =>
   simp only[KF]at hok
   simp only[rY.sub,AX.sub,aL,AX.ev]at fin h1 ⊢
   have e0:=g.env t
   generalize hX:look l t=X at *
   cases X with
   | map p =>
    cases p with
    | none=>simp at hok
    | some q =>
     simp only at hok
     split at hok
     case h_2=>cases hok
     rename_i hkn hlt hto
     have hlt:q<base:=by simpa[Nat.blt_eq]using hlt
     simp only[VL]at e0
     obtain⟨j,k1,k2⟩:=e0
     rw[g.TF _ hlt]at k1
     have hj:=(g.low _ _ k1).2
     have hact:act ι H q:=by
      simp only[rY.sub,AX.sub,wL,AX.ev,hX]at hv
      split at hv
      ·rename_i hg
       exact .inl ⟨_,hg⟩
      ·cases hv
     refine fin hkn λX Rl=>?_
     rw[k2]
     have hget:(X.hide dK nk).get j=M.get j:=by
      refine(vo (by omega)).trans ?_
      rcases Rl with rfl |⟨k,hk,hM⟩
      ·rfl
      ·obtain⟨rD,w,_⟩:=g.hist k X hM
       refine(w.same q j hlt hact k1 ?_).symm
       have:hs.drop k=(hs.drop lo).drop (k-lo):=by rw[List.drop_drop];congr 1;omega
       rw[this]
       have mono:∀(r:List (List Nat×WH)) (n:Nat),touches q r=false→touches q (r.drop n)=false:=by
        intro r
        induction r with
        | nil=>intro n _;simp[touches]
        | cons u r ih =>
         intro n h
         cases n with
         | zero=>exact h
         | succ n=>exact ih n (jR.1 h).2
       exact mono _ _ hto
     simp only[og,hget]
   | _=>simp at hok
 | lookup kd ok z x w2 =>
  cases x with
  | c w=>simp[KF]at hok
  | t t =>
   simp only[KF]at hok
   simp only[rY.sub,AX.sub,aL,AX.ev]at fin h1 ⊢
   have e0:=g.env t
   generalize hX:look l t=X at *
   cases X with
   | map p =>
    cases p with
    | none=>simp at hok
    | some q =>
     simp only at hok
     split at hok
     case h_2=>cases hok
     rename_i hkn hlt hto
     have hlt:q<base:=by simpa[Nat.blt_eq]using hlt
     simp only[VL]at e0
     obtain⟨j,k1,k2⟩:=e0
     rw[g.TF _ hlt]at k1
     have hj:=(g.low _ _ k1).2
     have hact:act ι H q:=by
      simp only[rY.sub,AX.sub,wL,AX.ev,hX]at hv
      split at hv
      ·rename_i hg _
       exact .inl ⟨_,hg⟩
      ·cases hv
     refine fin hkn λX Rl=>?_
     rw[k2]
     have hget:(X.hide dK nk).get j=M.get j:=by
      refine(vo (by omega)).trans ?_
      rcases Rl with rfl |⟨k,hk,hM⟩
      ·rfl
      ·obtain⟨rD,w,_⟩:=g.hist k X hM
       refine(w.same q j hlt hact k1 ?_).symm
       have:hs.drop k=(hs.drop lo).drop (k-lo):=by rw[List.drop_drop];congr 1;omega
       rw[this]
       have mono:∀(r:List (List Nat×WH)) (n:Nat),touches q r=false→touches q (r.drop n)=false:=by
        intro r
        induction r with
        | nil=>intro n _;simp[touches]
        | cons u r ih =>
         intro n h
         cases n with
         | zero=>exact h
         | succ n=>exact ih n (jR.1 h).2
       exact mono _ _ hto
     simp only[E9,og,hget]
   | _=>simp at hok
theorem EB{o:rY}{x:Option AV}{k:TS→Prop}:∀ {hs:List (List Nat×WH)} {tr:TS},Fx o x k hs tr→∃iN,(∀(i:Nat) (t:List Nat) (Hk:WH),hs[i]?=some (t,Hk)→wL o Hk=x)∧k iN
 | [],tr,h=>⟨tr,λi t Hk e=>by simp at e,h⟩
 | p::r,tr,h=>by
  simp only[Fx]at h
  obtain⟨_,h1,h2⟩:=iM h
  obtain⟨iN,q1,q2⟩:=EB h2
  refine⟨iN,λi t Hk e=>?_,q2⟩
  cases i with
  | zero=>simp only[List.getElem?_cons_zero,av]at e;rw[e]at h1;exact h1
  | succ i=>exact q1 i t Hk (by simpa using e)
theorem Qb (g:DI R base dK nk nZ M0 ι H M l lA bt al hs iF) {o:rY} (hc:o.cZ=true) {v u:AV} (hv:wL (o.sub (look l)) H=some v) (hu:∀(M:Heap) (O:Nat→Prop) (κ:VI) (a:AV),VL M O κ v a→VL M O κ u a) {lo:Nat} (hok:Ci base l bt lo o u=true)
  (hl:∀(i:Nat) (t:List Nat) (Hk:WH),(hs.drop lo)[i]?=some (t,Hk)→wL (o.sub (look l)) Hk=wL (o.sub (look l)) H) :
  ∃a,aL (o.sub (look lA)) [] (M.hide dK nk)=some a∧VL M (OR R ι) ι u a∧∀k Mk,lo≤k→iF[k]?=some Mk→∃w,aL (o.sub (look lA)) [] (Mk.hide dK nk)=some w∧AV.same w a=true:=by
 obtain⟨a,h1,h2⟩:=LB g.vs g.env hc hv
 have h3:=hu _ _ _ _ h2
 have rig:∀ {M':Heap} {O:Nat→Prop} {κ:VI} {w:AV},Ci base l bt lo o u=true→VL M' O κ u w→w=a:=by
  intro M' O κ w hb hw
  unfold Ci at hb
  split at hb
  case h_2=>cases hb
  split at hb
  ·simp only[VL]at hw h3;rw[hw,h3]
  ·simp only[VL]at hw h3;rw[hw,h3]
  ·simp only[VL]at hw h3;rw[hw,h3]
  ·cases hb
 have hkn:known u=true:=by
  unfold Ci at hok
  split at hok
  case h_2=>cases hok
  split at hok
  ·rfl
  ·rfl
  ·rfl
  ·cases hok
 cases o with
 | load ag n x =>
  cases x with
  | c w=>simp[Ci]at hok
  | t t =>
   have hp:∃b off,look l t=.ptr (some (b,off))∧b<base∧mH bt t≤lo+1:=by
    simp only[Ci]at hok
    split at hok
    ·rename_i b off _ _ hX
     simp only[Bool.and_eq_true,Nat.blt_eq]at hok
     exact⟨b,off,hX,hok.1,Nat.le_of_ble_eq_true hok.2⟩
    ·rename_i b off _ hX
     simp only[Bool.and_eq_true,Nat.blt_eq]at hok
     exact⟨b,off,hX,hok.1,Nat.le_of_ble_eq_true hok.2⟩
    ·rename_i b off _ hX
     simp only[Bool.and_eq_true,Nat.blt_eq]at hok
     exact⟨b,off,hX,hok.1,Nat.le_of_ble_eq_true hok.2⟩
    ·cases hok
   obtain⟨b,off,hX,hlt,hbt⟩:=hp
   have e0:=g.env t
   rw[hX]at e0
   simp only[VL]at e0
   obtain⟨j,k1,k2⟩:=e0
   rw[g.TF _ hlt]at k1
   have hj:=(g.low _ _ k1).2
   have hide:∀X:Heap,aL (rY.sub (look lA) (.load ag n (.t t))) [] (X.hide dK nk)=aL (rY.sub (look lA) (.load ag n (.t t))) [] X:=by
    intro X
    simp only[rY.sub,AX.sub,aL,AX.ev]
    rw[k2]
    exact Dq (vo (by omega))
   refine⟨a,(hide M).trans h1,h3,λk Mk hk hM=>?_⟩
   obtain⟨rD,w,tk,Hk,w2,w3⟩:=g.hist k Mk hM
   have hce:∀s,VL Mk (OR R rD) rD (DC bt (k+1) (look l) s) (look lA s):=λs=>by
    unfold DC
    split
    ·rename_i hb;exact w.env s hb
    ·simp[VL]
   have hsub:rY.sub (DC bt (k+1) (look l)) (.load ag n (.t t))=rY.sub (look l) (.load ag n (.t t)):=by
    simp only[rY.sub,AX.sub,DC]
    rw[if_pos (by omega)]
   have hv':wL (rY.sub (DC bt (k+1) (look l)) (.load ag n (.t t))) Hk=some v:=by
    rw[hsub,hl (k-lo) tk Hk (by rw[List.getElem?_drop,show lo+(k-lo)=k by omega];exact w2)]
    exact hv
   obtain⟨w',q1,q2⟩:=LB w3 hce hc hv'
   have:=rig hok (hu _ _ _ _ q2)
   subst this
   exact⟨w',(hide Mk).trans q1,VL.vk u w' hkn h3⟩
 | _=>simp[Ci]at hok
theorem Qc (g:DI R base dK nk nZ M0 ι H M l lA bt al hs iF) {o:rY} (hc:o.cZ=true) {v u a:AV} (hv:wL (o.sub (look l)) H=some v) (hu:∀(M:Heap) (O:Nat→Prop) (κ:VI) (a:AV),VL M O κ v a→VL M O κ u a) {lo b:Nat} (hok:Ju base al l bt lo o u H hs=true)
  (hb:Uz l o=some b) (hbt:Nat.ble (Cg bt o) (lo+1)=true) (ha:aL (o.sub (look lA)) [] (M.hide dK nk)=some a)
  (hl:∀(i:Nat) (t:List Nat) (Hk:WH),(hs.drop lo)[i]?=some (t,Hk)→wL (o.sub (look l)) Hk=wL (o.sub (look l)) H) :
  ∀k Mk rD t Hk,iF[k]?=some Mk→HK R base dK nk k nZ ι H M l lA bt hs Mk rD→hs[k]?=some (t,Hk)→VS R rD Hk Mk→lo+1≤k+1→VL Mk (OR R rD) rD u a:=by
 intro k Mk rD tk Hk hM w w2 w3 hk
 cases o with
 | load ag n x =>
  cases x with
  | c w=>simp[Uz]at hb
  | t t =>
   simp only[Cg,mg]at hbt
   have hbt:=Nat.le_of_ble_eq_true hbt
   unfold Ju at hok
   simp only[KF,Cg,mg]at hok
   simp only[Uz]at hb
   have e0:=g.env t
   have hX0:∃q,look l t=.ptr (some q):=by
    split at hb
    ·rename_i q h;exact⟨q,h⟩
    ·cases hb
   obtain⟨q,hX⟩:=hX0
   rw[hX]at hok e0
   simp only at hok
   split at hok
   case h_2=>cases hok
   rename_i hkn hlt hto
   have hlt:q.1<base:=by simpa[Nat.blt_eq]using hlt
   simp only[VL]at e0
   obtain⟨j,k1,k2⟩:=e0
   rw[g.TF _ hlt]at k1
   have hj:=(g.low _ _ k1).2
   have hact:act ι H q.1:=by
    simp only[rY.sub,AX.sub,wL,AX.ev,hX]at hv
    split at hv
    ·cases hv
    split at hv
    ·rename_i hg
     exact .inl ⟨_,hg⟩
    ·cases hv
   have hsame:M.get j=Mk.get j:=by
    refine w.same q.1 j hlt hact k1 ?_
    have:hs.drop k=(hs.drop lo).drop (k-lo):=by rw[List.drop_drop];congr 1;omega
    rw[this]
    have mono:∀(r:List (List Nat×WH)) (n:Nat),touches q.1 r=false→touches q.1 (r.drop n)=false:=by
     intro r
     induction r with
     | nil=>intro n _;simp[touches]
     | cons u r ih =>
      intro n h
      cases n with
      | zero=>exact h
      | succ n=>exact ih n (jR.1 h).2
    exact mono _ _ hto
   have eqk:aL (rY.sub (look lA) (.load ag n (.t t))) [] Mk=aL (rY.sub (look lA) (.load ag n (.t t))) [] (M.hide dK nk):=by
    simp only[rY.sub,AX.sub,aL,AX.ev]
    rw[k2]
    exact Dq (hsame.symm.trans (vo (by omega)).symm)
   have hce:∀s,VL Mk (OR R rD) rD (DC bt (k+1) (look l) s) (look lA s):=λs=>by
    unfold DC
    split
    ·rename_i hb;exact w.env s hb
    ·simp[VL]
   have hsub:rY.sub (DC bt (k+1) (look l)) (.load ag n (.t t))=rY.sub (look l) (.load ag n (.t t)):=by
    simp only[rY.sub,AX.sub,DC]
    rw[if_pos (by omega)]
   have hv':wL (rY.sub (DC bt (k+1) (look l)) (.load ag n (.t t))) Hk=some v:=by
    rw[hsub,hl (k-lo) tk Hk (by rw[List.getElem?_drop,show lo+(k-lo)=k by omega];exact w2)]
    exact hv
   obtain⟨w',q1,q2⟩:=LB w3 hce hc hv'
   rw[eqk,ha]at q1
   obtain rfl:=ak q1
   exact hu _ _ _ _ q2
 | _=>simp[Uz]at hb
end
theorem Qd{a b:Nat}{l:List Nat}:nW (a::l) b=false↔a≠b∧nW l b=false:=by
 simp only[nW]
 cases h:Nat.beq a b with
 | true=>simp[bg h]
 | false =>
  have:a≠b:=λe=>by subst e;simp at h
  simp[this]
theorem sK {C:bH} {B:FuncId→Option Bt} (hB:∀f b,B f=some b→Pz C f b) {R:Nat→Prop} {n base dK nk:Nat} {nZ:VI} {M0:Heap}:∀(ops:List d9) (l lA:Fast) (H:WH) (M:Heap) (ι:VI) (tr:TS) (hs:List (List Nat×WH)) (bt:List (Nat×Nat)) (al:List Nat) (iF:List Heap) (k:Fast→WH→TS→Prop),
  DI R base dK nk nZ M0 ι H M l lA bt al hs iF→(ops.all λd=>d.o.op.cZ)=true→zX C B n base nk ops l H tr hs bt al k →
  ∃qD M' bI l' H' iN t,uq C n dK nk ops lA M iF=some (qD,M')∧VS R bI H' M'∧Stp base t ι H M bI H' M'∧qY R bI M' l' qD∧k l' H' iN
 | [],l,lA,H,M,ι,tr,hs,bt,al,iF,k,g,hc,h=>⟨lA,M,ι,l,H,tr,[],rfl,g.vs,.refl _ _ _ _ _ (by have:=g.len;omega),g.env,h⟩
 | d::r,l,lA,H,M,ι,tr,hs,bt,al,iF,k,g,hc,h=>by
  simp only[List.all_cons,Bool.and_eq_true]at hc
  simp only[zX]at h
  obtain⟨l00,acQ,UW,h⟩:=sJ h
  have g:=g.like UW
  obtain⟨l0,tr1,hl,h⟩:=Qa h
  have g1:=g.like hl
  have hbl:base≤H.length:=by have:=g.len;omega
  rcases h with⟨hw,h⟩ |⟨hw,h⟩
  ·obtain⟨l1,acR,hl1,h⟩:=sJ h
   have g1:=g1.like hl1
   have he1:=g1.env
   simp only[uq,yU g.env hw]
   cases ho:d.o.op with
   | p op =>
    rw[ho]at h hc
    simp only at h
    obtain⟨v,u,tr2,h1,h2,h3⟩:=M4 (R:=R) h
    obtain⟨a,h4,h5⟩:=UD he1 hc.1 h1
    have cut:∀(X:Heap) (O:Nat→Prop) (κ:VI) (q:Nat),q<hs.length+1→(∀t,mH bt t≤q→VL X O κ (look l1 t) (look lA t))→Ov bt (hs.length+1) op≤q→VL X O κ u a:=λX O κ q hq he hb=>by
     have hce:∀t,VL X O κ (DC bt q (look l1) t) (look lA t):=λt=>by
      unfold DC
      split
      ·rename_i hb;exact he t hb
      ·simp[VL]
     obtain⟨a',e1,e2⟩:=UD hce hc.1 (by rw[SA hq hb];exact h1)
     rw[h4]at e1
     obtain rfl:=ak e1
     exact h3 _ _ _ _ e2
    obtain⟨qD,M',bI,l',H',iN,t,q1,q2⟩:=sK hB r _ _ H M ι tr2 hs _ al iF k (g1.put n d.o.dst (Ov bt (hs.length+1) op) (h3 _ _ _ _ h5) (λhb=>cut M0 _ nZ 0 (by omega) (λt ht=>g1.start t (by omega)) (by omega)) (λq Mk rD hq w hb=>cut Mk _ rD (q+1) (by omega) w.env hb)) hc.2 h2
    refine⟨qD,M',bI,l',H',iN,t, ?_,q2⟩
    simp only[h4,force_eq]
    exact q1
   | l op =>
    rw[ho]at h hc
    simp only at h
    obtain⟨v,u,tr2,h1,h2,h3⟩:=M4 (R:=R) h
    have h2:∃tr2 b,(∃a,aL (op.sub (look lA)) [] (M.hide dK nk)=some a∧DI R base dK nk nZ M0 ι H M (j5 n d.o.dst u l1) (j5 n d.o.dst a lA) (lJ n d.o.dst b bt) al hs iF∧∀k Mk,d.lo≤k→iF[k]?=some Mk→∃w,aL (op.sub (look lA)) [] (Mk.hide dK nk)=some w∧AV.same w a=true)∧zX C B n base nk r (j5 n d.o.dst u l1) H tr2 hs (lJ n d.o.dst b bt) al k:=by
     split at h2
     ·rename_i hok
      obtain⟨a,p1,p2,p3⟩:=XE g1 hc.1 h1 h3 hok
      split at h2
      ·split at h2
       case h_2=>exact h2.elim
       rename_i hb hbt
       obtain⟨tr3,m1,m2⟩:=EB h2
       exact⟨tr3,d.lo+1,⟨a,p1,g1.abX n d.o.dst (d.lo+1) p2 (λe=>by omega) (Qc g1 hc.1 h1 h3 hok hb hbt p1 m1),p3⟩,m2⟩
      ·exact⟨_,hs.length+1,⟨a,p1,g1.now n d.o.dst p2,p3⟩,h2⟩
     ·split at h2
      case h_2=>exact h2.elim
      rename_i hok
      obtain⟨tr3,p1,p2⟩:=EB h2
      obtain⟨a,m1,m2,m3⟩:=Qb g1 hc.1 h1 h3 hok p1
      exact⟨tr3,hs.length+1,⟨a,m1,g1.now n d.o.dst m2,m3⟩,p2⟩
    obtain⟨tr2,bb,⟨a,q1,q2,q3⟩,h2⟩:=h2
    obtain⟨qD,M',bI,l',H',iN,t,q4,q5⟩:=sK hB r _ _ H M ι tr2 hs _ al iF k q2 hc.2 h2
    refine⟨qD,M',bI,l',H',iN,t, ?_,q5⟩
    simp only[q1]
    rw[if_pos]
    ·simp only[force_eq]
     exact q4
    ·rw[List.all_eq_true]
     intro Mk hMk
     obtain⟨i,hi⟩:=List.mem_iff_getElem?.1 hMk
     rw[List.getElem?_drop]at hi
     obtain⟨w,w1,w2⟩:=q3 (d.lo+i) Mk (by omega) hi
     rw[w1]
     exact w2
   | k op =>
    rw[ho]at h hc
    simp only at h
    split at h
    case h_2=>exact h.elim
    rename_i hix hal
    have hix:d.ix<nk:=by simpa[Nat.blt_eq]using hix
    obtain⟨c,sl,mk,c',sl',mkA,tr2,h1,h2,h3,hss,h4⟩:=ZQ g1.vs he1 hc.1 h
    obtain⟨f1,f2,f3⟩:=g1.free d.ix hix hal
    have hnew:=g1.new d.ix hix
    obtain⟨s1,k1,k2,k3⟩:=g1.vs.fill hnew f1 f2 f3 (BL.of (sl':=sl') h3 hss)
    have hne:∀i,i<base→i≠base+d.ix:=λi hi=>by omega
    have gp:∀i,i≠base+d.ix→b_ (fQ H (base+d.ix) (some (.cells c false sl))) i=b_ H i:=λi hi=>by
     rw[mV,if_neg (λe=>hi e.1)]
    have ac:∀i,i≠base+d.ix→act (ι.fill (base+d.ix) (c.length,c'.length)) (fQ H (base+d.ix) (some (.cells c false sl))) i→act ι H i:=λi hi ha=>ha.imp (λ⟨x,hx⟩=>⟨x,by rw[gp i hi]at hx;exact hx⟩) id
    have stp:Stp base [] ι H M (ι.fill (base+d.ix) (c.length,c'.length)) (fQ H (base+d.ix) (some (.cells c false sl))) (M.put (dK+d.ix) (some (.cells c' false sl'))) :=
     ⟨k1,k2 _,λ_ _ h=>h,λ_ _=>rfl,λi hi=>by simp only[VI.fill,bU _ _ (hne i hi)],λ_ _ _=>rfl,λi hi ⟨x,hx⟩=>⟨x,by rw[gp i (hne i hi)]at hx;exact hx⟩,λi j hi ha hj _=>k3 i j (hne i hi) (ac i (hne i hi) ha) hj,by rw[dO];exact hbl⟩
    have hval:=h4 (M.put (dK+d.ix) (some (.cells c' false sl'))) (OR R (ι.fill (base+d.ix) (c.length,c'.length))) (ι.fill (base+d.ix) (c.length,c'.length)) (base+d.ix) (dK+d.ix) hnew (by simp[VI.fill,setAt])
    have g2:DI R base dK nk nZ M0 (ι.fill (base+d.ix) (c.length,c'.length)) (fQ H (base+d.ix) (some (.cells c false sl))) (M.put (dK+d.ix) (some (.cells c' false sl'))) l1 lA bt (d.ix::al) hs iF :=
     ⟨s1,by rw[dO];exact g1.len,λt=>VL.mono (k1.or R) _ _ _ _ (k2 _) (he1 t),g1.new,λi hi ha=>by
      obtain⟨a1,a2⟩:=Qd.1 ha
      obtain⟨b1,b2,b3⟩:=g1.free i hi a2
      have hn:base+i≠base+d.ix:=by omega
      exact⟨b1,by simp only[VI.fill,bU _ _ hn];exact b2,by rw[gp _ hn];exact b3⟩,g1.start,g1.low,g1.le0.trans (k2 _),g1.TF,g1.m0,g1.hlen,λq Mk hq=>by
      obtain⟨rD,w,w2⟩:=g1.hist q Mk hq
      exact⟨rD,⟨w.keep.trans k1,w.env,w.new,w.gone,λi j hi ha hj ht=>by
       have ha':=ac i (hne i hi) ha
       exact(k3 i j (hne i hi) ha' (by rw[g1.TF i hi];exact hj)).trans (w.same i j hi ha' hj ht)⟩,w2⟩⟩
    obtain⟨qD,M',bI,l',H',iN,t,q1,q2,q3,q4⟩:=sK hB r _ _ _ _ _ tr2 hs _ (d.ix::al) iF k (g2.now n d.o.dst hval) hc.2 h1
    refine⟨qD,M',bI,l',H',iN,t, ?_,q2, ?_,q4⟩
    ·simp only[h2]
     exact q1
    ·have:=stp.trans q3 (Nat.le_refl _)
     simpa using this
   | n op =>
    rw[ho]at h hc
    simp only at h
    obtain⟨a,M1,kD,v,H1,t1,tr2,h1,h2,h3,h4,h5⟩:=ZR hB g1.vs he1 hc.1 h
    have g2:=(g1.loud h2 h3).now n d.o.dst h4
    rw[aJ,List.length_singleton]at g2
    obtain⟨qD,M',bI,l',H',iN,t,q1,q2,q3,q4⟩:=sK hB r _ _ _ _ _ tr2 _ _ al _ k g2 hc.2 h5
    refine⟨qD,M',bI,l',H',iN,t1++t, ?_,q2,(h3.weak hbl).trans q3 (Nat.le_refl _),q4⟩
    simp only[h1,force_eq]
    exact q1
  ·simp only[uq,yU g.env hw]
   cases ho:d.o.op with
   | n op =>
    rw[ho]at h
    simp only at h
    have g2:=(g1.loud (t:=[]) g1.vs (.refl _ _ _ _ _ (Nat.le_refl _))).now n d.o.dst (v:=.tuple []) (a:=.tuple []) VL.unit
    rw[aJ,List.length_singleton]at g2
    exact sK hB r _ _ H M ι tr1 _ _ al _ k g2 hc.2 h
   | p op=>rw[ho]at h;exact sK hB r _ _ H M ι tr1 _ _ al _ k (g1.now n d.o.dst VL.unit) hc.2 h
   | l op=>rw[ho]at h;exact sK hB r _ _ H M ι tr1 _ _ al _ k (g1.now n d.o.dst VL.unit) hc.2 h
   | k op=>rw[ho]at h;exact sK hB r _ _ H M ι tr1 _ _ al _ k (g1.now n d.o.dst VL.unit) hc.2 h
theorem UY {C:bH} {B:FuncId→Option Bt} (hB:∀f b,B f=some b→Pz C f b) {R:Nat→Prop} {n nk:Nat} {ops:List d9} {l lA:Fast} {H:WH} {M:Heap} {ι:VI} {tr:TS} {k:Fast→WH→TS→Prop} (s:VS R ι H M) (he:qY R ι M l lA) (hc:(ops.all λd=>d.o.op.cZ)=true)
  (h:zX C B n H.length nk ops l (H++holes nk) tr [] [] [] k):∃qD M' bI l' H' iN t,uq C n M.next nk ops lA { M with next:=M.next+nk } []=some (qD,M')∧VS R bI H' M'∧Stp H.length t ι H M bI H' M'∧qY R bI M' l' qD∧k l' H' iN:=by
 obtain⟨s1,k1⟩:=s.room nk
 have inr:∀i,i<nk→H.length≤H.length+i∧H.length+i<H.length+nk:=λi hi=>by omega
 have g:DI R H.length M.next nk ι M (ι.room H.length M.next nk) (H++holes nk) { M with next:=M.next+nk } l lA [] [] [] [] :=
  ⟨s1,by simp[Dp],he.step s k1,λi hi=>by simp only[VI.room,if_pos (inr i hi)];congr 1;omega,λi hi _=>⟨by simp only[VI.room,if_pos (inr i hi)],by simp only[VI.room,if_pos (inr i hi)],by rw[Fz,if_neg (by omega),GN]⟩,
   λt _=>he t,λi j h=>s.lt i j h,k1.le,k1.ZI,rfl,rfl,λk Mk h=>by simp at h⟩
 obtain⟨qD,M',bI,l',H',iN,t,q1,q2,q3,q4⟩:=sK hB ops l lA _ _ _ tr [] [] [] [] k g hc h
 refine⟨qD,M',bI,l',H',iN,[]++t,q1,q2,k1.trans q3 (Nat.le_refl _),q4⟩
theorem I8{M:Heap}{O:Nat→Prop}{κ:VI}{lA:Fast}:∀(keep:List Nat) (vs:List AV),bL M O κ vs (keep.map (look lA))→∀t,VL M O κ (look (iX keep vs) t) (look lA t)∧VL M O κ (look (iX keep vs) t) (look (yQ lA keep) t)
 | [],vs,h,t=>by
  cases vs with
  | nil=>simp[iX,look,VL]
  | cons _ _=>simp[bL]at h
 | u::keep,vs,h,t=>by
  cases vs with
  | nil=>simp[bL]at h
  | cons v vs =>
   simp only[List.map_cons,bL]at h
   have ih:=I8 keep vs h.2 t
   simp only[iX,yQ,qZ]
   split
   ·rename_i e
    subst e
    exact⟨h.1,h.1⟩
   ·exact ih
theorem qY.map{R:Nat→Prop}{ι:VI}{M:Heap}{l lA:Fast}(he:qY R ι M l lA):∀keep:List Nat,bL M (OR R ι) ι (keep.map (look l)) (keep.map (look lA))
 | []=>by simp[bL]
 | t::r=>by simp only[List.map_cons,bL];exact⟨he t,qY.map he r⟩
def Bp(R:Nat→Prop)(np:Nat)(ι:VI)(H:WH)(M:Heap)(x:Io)(k:Ex→Fast→WH→TS→Prop):Prop :=
 ∃ex qD M' bI l' H' iN,x=some (ex,qD,M')∧VS R bI H' M'∧Stp np (List.range np) ι H M bI H' M'∧qY R bI M' l' qD∧k ex l' H' iN
theorem mJ{n:Nat}{t:List Nat}{ι kD:VI}{H H1:WH}{M M1:Heap}(h:Stp n t ι H M kD H1 M1):Stp n (List.range n) ι H M kD H1 M1:=h.more λi hi _=>List.mem_range.2 hi
theorem Bp.after{R:Nat→Prop}{np:Nat}{ι kD:VI}{H H1:WH}{M M1:Heap}{x:Io}{k:Ex→Fast→WH→TS→Prop}{t:List Nat}(h:Stp np t ι H M kD H1 M1)(g:Bp R np kD H1 M1 x k):Bp R np ι H M x k:=by
 obtain⟨ex,qD,M',bI,l',H',iN,q1,q2,q3,q4⟩:=g
 exact⟨ex,qD,M',bI,l',H',iN,q1,q2,mJ (h.trans q3 (Nat.le_refl _)),q4⟩
theorem UZ(H:WH)(b:Nat):∀i x,b_ (fQ H b none) i=some x→b_ H i=some x:=λi x h=>by
 rw[mV]at h
 split at h
 ·cases h
 ·exact h
theorem RA{R:Nat→Prop}{M:Heap}{ι:VI}:∀(bs:List Nat) {H:WH} (n:Nat),n≤H.length→VS R ι H M→VS R ι (Oq H bs) M∧Stp n [] ι H M ι (Oq H bs) M∧(Oq H bs).length=H.length
 | [],H,n,hn,s=>⟨s,.refl _ _ _ _ _ hn,rfl⟩
 | b::r,H,n,hn,s=>by
  have g:=UZ H b
  have ac:∀i,act ι (fQ H b none) i→act ι H i:=λi h=>h.imp (λ⟨x,hx⟩=>⟨x,g i x hx⟩) id
  have hl:(fQ H b none).length=H.length:=dO _ _ _
  have s1:VS R ι (fQ H b none) M:=⟨λi j h=>by rw[hl];exact s.lt i j h,λi i' j h h'=>s.inj i i' j (ac i h) (ac i' h'),λi x h=>s.blk i x (g i x h),λi h=>by rw[hl];exact s.sF i h,λi h c sl e=>s.pG i h c sl (g i _ e),s.Ot,λj h=>⟨(s.res j h).1,λi ha=>(s.res j h).2 i (ac i ha)⟩⟩
  have k1:Stp n [] ι H M ι (fQ H b none) M:=⟨⟨Nat.le_refl _,λ_ _ h=>⟨rfl,h⟩⟩,.refl _ _,λ_ _ h=>h,λ_ _=>rfl,λ_ _=>rfl,λ_ _ _=>rfl,λi _ ⟨x,hx⟩=>⟨x,g i x hx⟩,λ_ _ _ _ _ _=>rfl,by rw[hl];exact hn⟩
  obtain⟨s2,k2,h2⟩:=RA r (H:=fQ H b none) n (by rw[hl];exact hn) s1
  refine⟨s2, ?_,h2.trans hl⟩
  exact k1.trans k2 (Nat.le_refl _)
theorem RB{R:Nat→Prop}{M:Heap}{ι:VI}{H:WH}(tr:TS){n:Nat}(hn:n≤H.length)(s:VS R ι H M):VS R ι (Xt tr H) M∧Stp n [] ι H M ι (Xt tr H) M∧(Xt tr H).length=H.length:=by
 unfold Xt
 split
 ·exact RA _ n hn s
 ·exact⟨s,.refl _ _ _ _ _ hn,rfl⟩
set_option maxHeartbeats 2000000 in
theorem qF {C:bH} {B:FuncId→Option Bt} (hB:∀f b,B f=some b→Pz C f b) {K n np:Nat} {R:Nat→Prop}:∀(code:dI) (l lA:Fast) (H:WH) (M:Heap) (ι:VI) (tr:TS) (k:Ex→Fast→WH→TS→Prop),code.cZ=true→VS R ι H M→np≤H.length→qY R ι M l lA →
  wz C B K n np code l H tr k→Bp R np ι H M (bM C K n code lA M) k
 |.skip,l,lA,H,M,ι,tr,k,_,s,hn,he,h=>⟨.normal,lA,M,ι,l,H,tr,rfl,s,.refl _ _ _ _ _ hn,he,h⟩
 |.reg ops,l,lA,H,M,ι,tr,k,hc,s,hn,he,h=>by
  obtain⟨qD,M',bI,l',H',iN,t,q1,q2,q3,q4,q5⟩:=AY hB ops l lA H M ι tr _ s he hc h
  exact⟨.normal,qD,M',bI,l',H',iN,by simp only[bM,q1,aW],q2,mJ (q3.weak hn),q4,q5⟩
 |.Ii nk ops,l,lA,H,M,ι,tr,k,hc,s,hn,he,h=>by
  obtain⟨qD,M',bI,l',H',iN,t,q1,q2,q3,q4,q5⟩:=UY hB s he hc h
  exact⟨.normal,qD,M',bI,l',H',iN,by simp only[bM,q1,aW],q2,mJ (q3.weak hn),q4,q5⟩
 |.seq a b,l,lA,H,M,ι,tr,k,hc,s,hn,he,h=>by
  simp only[dI.cZ,Bool.and_eq_true]at hc
  simp only[wz]at h
  obtain⟨l0,tr,UW,h⟩:=sJ h
  have he:qY R ι M l0 lA:=λt=>by rw[UW t];exact he t
  split at h
  ·split at h
   case h_2=>exact h.elim
   rename_i keep ms bs ts ex outs out r0 _
   obtain⟨s0,k0,hl0⟩:=RB tr hn s
   obtain⟨vs,blks,kD,hk,s1,k1,hv⟩:=GJ s0 (by rw[hl0];exact hn) (he.map keep) h
   obtain⟨r,hrun,hk⟩:=iM hk
   obtain⟨qD,M',bI,q1,q2,q3,q4⟩:=hrun R kD M lA s1 (λt=>(I8 keep vs hv t).1)
   refine Bp.after (mJ k0) (Bp.after k1 (Bp.after q3 ?_))
   simp only[bM,q1]
   cases ex with
   | normal=>exact qF hB b outs qD out M' bI r k hc.2 q2 q3.next q4 hk
   | exit i=>exact⟨_,qD,M',bI,outs,out,r,rfl,q2,.refl _ _ _ _ _ q3.next,q4,hk⟩
   | ret=>exact⟨_,qD,M',bI,outs,out,r,rfl,q2,.refl _ _ _ _ _ q3.next,q4,hk⟩
  ·obtain⟨ex,qD,M',bI,l',H',iN,q1,q2,q3,q4,q5⟩:=qF hB a l0 lA H M ι _ _ hc.1 s hn he h
   refine Bp.after q3 ?_
   simp only[bM,q1]
   cases ex with
   | normal=>exact qF hB b l' qD H' M' bI iN k hc.2 q2 q3.next q4 q5
   | exit i=>exact⟨_,qD,M',bI,l',H',iN,rfl,q2,.refl _ _ _ _ _ q3.next,q4,q5⟩
   | ret=>exact⟨_,qD,M',bI,l',H',iN,rfl,q2,.refl _ _ _ _ _ q3.next,q4,q5⟩
 |.cond c a b,l,lA,H,M,ι,tr,k,hc,s,hn,he,h=>by
  simp only[dI.cZ,Bool.and_eq_true]at hc
  simp only[wz]at h
  obtain⟨l0,tr0,hl0,h⟩:=sJ h
  have he:qY R ι M l0 lA:=λt=>by rw[hl0 t];exact he t
  obtain⟨l',iN,hl,h⟩:=Qa h
  have he':qY R ι M l' lA:=λt=>by rw[hl t];exact he t
  cases c with
  | c v =>
   simp only[gV]at h
   have h:=(h.resolve_right (λh=>by cases h.1)).2
   simp only[bM,AX.sub,AX.ev]
   cases v with
   | bool w =>
    cases w with
    | true=>exact qF hB a l' lA H M ι iN k hc.1.2 s hn he' h
    | false=>exact qF hB b l' lA H M ι iN k hc.2 s hn he' h
   | _=>exact h.elim
  | t t =>
   simp only[bM,AX.sub,AX.ev]
   have ht:=he t
   generalize l0=l at *
   simp only[gV]at h
   rcases h with⟨h1,h2⟩ |⟨h1,h2⟩
   ·generalize look l t=X at *
    cases X<;>simp only at h1<;>first |(cases h1;done) | skip
    rename_i w
    simp only[av,beq_iff_eq]at h1
    subst h1
    rw[ht.eq rfl]
    exact qF hB a l' lA H M ι iN k hc.1.2 s hn he' h2
   ·rw[hl t]at h2
    generalize look l t=X at *
    cases X<;>simp only at h1 h2<;>first |(cases h1;done) | exact h2.elim | skip
    rename_i w
    simp only[av,beq_eq_false_iff_ne]at h1
    have:w=false:=by cases w<;>simp_all
    subst this
    rw[ht.eq rfl]
    exact qF hB b l' lA H M ι iN k hc.2 s hn he' h2
 |.block id c,l,lA,H,M,ι,tr,k,hc,s,hn,he,h=>by
  simp only[dI.cZ]at hc
  simp only[wz]at h
  obtain⟨ex,qD,M',bI,l',H',iN,q1,q2,q3,q4,q5⟩:=qF hB c l lA H M ι tr _ hc s hn he h
  refine Bp.after q3 ?_
  simp only[bM,q1]
  have re:=q3.next
  cases ex with
  | normal=>exact⟨_,qD,M',bI,l',H',iN,rfl,q2,.refl _ _ _ _ _ re,q4,q5⟩
  | ret=>exact⟨_,qD,M',bI,l',H',iN,rfl,q2,.refl _ _ _ _ _ re,q4,q5⟩
  | exit i =>
   cases e:Nat.beq i id with
   | true =>
    have q5:k .normal l' H' iN:=by simpa only[e]using q5
    simp only
    rw[if_pos (bg e)]
    exact⟨_,qD,M',bI,l',H',iN,rfl,q2,.refl _ _ _ _ _ re,q4,q5⟩
   | false =>
    have q5:k (.exit i) l' H' iN:=by simpa only[e]using q5
    simp only
    rw[if_neg (λe'=>by subst e';simp at e)]
    exact⟨_,qD,M',bI,l',H',iN,rfl,q2,.refl _ _ _ _ _ re,q4,q5⟩
 |.loop keep c,l,lA,H,M,ι,tr,k,hc,s,hn,he,h=>by
  simp only[wz]at h
  obtain⟨l0,tr,UW,h⟩:=sJ h
  have he:qY R ι M l0 lA:=λt=>by rw[UW t];exact he t
  split at h
  case h_2=>exact h.elim
  rename_i ms bs ts ex outs out r0 _
  obtain⟨s0,k0,hl0⟩:=RB tr hn s
  obtain⟨vs,blks,kD,hk,s1,k1,hv⟩:=GJ s0 (by rw[hl0];exact hn) (he.map keep) h
  obtain⟨r,hrun,hk⟩:=iM hk
  obtain⟨qD,M',bI,q1,q2,q3,q4⟩:=hrun R kD M lA s1 (λt=>(I8 keep vs hv t).1)
  refine Bp.after (mJ k0) (Bp.after k1 (Bp.after q3 ?_))
  exact⟨ex,qD,M',bI,outs,out,r,by simp only[bM];exact q1,q2,.refl _ _ _ _ _ q3.next,q4,hk⟩
 |.exit i,l,lA,H,M,ι,tr,k,_,s,hn,he,h=>⟨.exit i,lA,M,ι,l,H,tr,rfl,s,.refl _ _ _ _ _ hn,he,h⟩
 |.ret,l,lA,H,M,ι,tr,k,_,s,hn,he,h=>⟨.ret,lA,M,ι,l,H,tr,rfl,s,.refl _ _ _ _ _ hn,he,h⟩
 |.fail,l,lA,H,M,ι,tr,k,_,s,hn,he,h=>by simp[wz]at h
theorem VL.SB{M:Heap}{O:Nat→Prop}{κ:VI}{v a:AV}(h:VL M O κ v a)(hv:v≠.undef):a≠.undef:=by
 cases v with
 | undef=>exact absurd rfl hv
 | ptr p=>cases p<;>simp only[VL]at h<;>first |(subst h;simp) |(obtain⟨_,_,rfl⟩:=h;simp)
 | slice p=>cases p<;>simp only[VL]at h;obtain⟨_,_,rfl⟩:=h;simp
 | map p=>cases p<;>simp only[VL]at h<;>first |(subst h;simp) |(obtain⟨_,_,rfl⟩:=h;simp)
 | func f cs=>simp only[VL]at h;obtain⟨_,rfl,_⟩:=h;simp
 | agg cs=>simp only[VL]at h;obtain⟨_,rfl,_⟩:=h;simp
 | tuple cs=>simp only[VL]at h;obtain⟨_,rfl,_⟩:=h;simp
 | list=>simp only[VL]at h;rcases h with⟨_,_,_,rfl⟩ |⟨_,_,_,_,rfl,_⟩<;>simp
 | elem=>simp only[VL]at h;obtain⟨_,_,_,_,_,rfl,_⟩:=h;simp
 | acc=>simp only[VL]at h;obtain⟨_,_,_,_,rfl,_⟩:=h;simp
 | _=>simp only[VL]at h;subst h;simp
theorem XF{R:Nat→Prop}{ι:VI}{H:WH}{M:Heap}(s:VS R ι H M){l lA:Fast}(he:qY R ι M l lA){r:zR}{v:AV}(h:Xv r l H=some v):∃a,Dy r lA M=some a∧VL M (OR R ι) ι v a:=by
 cases r with
 | tmp t =>
  have ht:=he t
  simp only[Xv,Dy]at h ⊢
  split at h
  ·cases h
  ·rename_i hne
   obtain rfl:=ak h
   have:=ht.SB hne
   generalize look lA t=Y at *
   cases Y<;>simp_all
 | cell t agg n =>
  simp only[Xv]at h
  have:=LB s he (o:=.load agg n (.t t)) rfl (v:=v) (by simpa only[rY.sub,AX.sub]using h)
  simpa only[rY.sub,AX.sub,aL,AX.ev,Dy]using this
theorem JG{R:Nat→Prop}{ι:VI}{H:WH}{M:Heap}(s:VS R ι H M){l lA:Fast}(he:qY R ι M l lA):∀ {rs:List zR} {vs:List AV},Ow rs l H=some vs→∃as,xI rs lA M=some as∧bL M (OR R ι) ι vs as
 | [],vs,h=>by
  simp only[Ow,av]at h
  subst h
  exact⟨[],rfl,by simp[bL]⟩
 | r::rs,vs,h=>by
  simp only[Ow]at h
  split at h
  case h_2=>cases h
  rename_i v vs' h1 h2
  obtain rfl:=ak h
  obtain⟨a,e1,e2⟩:=XF s he h1
  obtain⟨as,e3,e4⟩:=JG s he h2
  exact⟨a::as,by simp only[xI,e1,au,e3,aW],by simp only[bL];exact⟨e2,e4⟩⟩
theorem OH{R:Nat→Prop}{ι:VI}{H:WH}{M:Heap}(s:VS R ι H M){l lA:Fast}(he:qY R ι M l lA){rs:List zR}{v:AV}(h:Fy rs l H=some v):∃a,jI rs lA M=some a∧VL M (OR R ι) ι v a:=by
 unfold Fy at h
 split at h
 ·rename_i u hu
  obtain rfl:=ak h
  obtain⟨as,e1,e2⟩:=JG s he hu
  match as,e2 with
  | [],e2=>simp[bL]at e2
  | [a],e2 =>
   simp only[bL]at e2
   exact⟨a,by simp only[jI,e1,aW],e2.1⟩
  | _::_::_,e2=>simp[bL]at e2
 ·rename_i vs hne hvs
  obtain rfl:=ak h
  obtain⟨as,e1,e2⟩:=JG s he hvs
  refine⟨.tuple as, ?_,by simp only[VL];exact⟨as,rfl,e2⟩⟩
  simp only[jI,e1,aW]
  match as,e2 with
  | [],e2=>rfl
  | [a],e2 =>
   match vs,e2 with
   | [],e2=>simp[bL]at e2
   | [u],e2=>exact absurd rfl (hne u)
   | _::_::_,e2=>simp[bL]at e2
  | _::_::_,e2=>rfl
 ·cases h
theorem XG {R:Nat→Prop} {ι:VI} {H:WH} {M:Heap} (s:VS R ι H M) {np:Nat} (hn:np≤H.length) {v a:AV} (hv:VL M (OR R ι) ι v a) {tr:TS} {v':AV} {out:WH} (h:Xw np v H tr v' out) :
  ∃bI,VS R bI out M∧Stp np [] ι H M bI out M∧VL M (OR R bI) bI v' a:=by
 unfold Xw at h
 split at h
 case h_2=>exact h.elim
 rename_i m ts mc _
 obtain⟨s0,k0,hl0⟩:=RB tr hn s
 have hn0:=hn
 rw[←hl0]at hn
 generalize Xt tr H=H0 at *
 obtain⟨kD,h1,h2,h3⟩:=P9 m s0 (VL.retag v (ts.headD .undef) a hv)
 generalize hr:nrm m (Proofs.Ytkedeiklmpkgkaa.retag v (ts.headD .undef)) H0=r at *
 obtain⟨v1,H1⟩:=r
 simp only at h h1 h2 h3
 obtain⟨uI,k1,k2⟩:=FL [] mc (Fv H1 np (u_ v1)) H1 kD M h1
 have k3:=VL.step h1 k2 h3
 obtain⟨rfl,rfl⟩:=h
 obtain⟨ι3,q1,q2,q3⟩:=ZP k1 (Nat.le_trans hn (Nat.le_trans h2.next k2.next)) (u_ v1) (vs:=[v1]) (as:=[a]) (by simp only[bL];exact⟨k3,trivial⟩)
 simp only[KD,bL]at q3
 refine⟨ι3,q1, ?_,q3.1⟩
 have e1:Stp np [] ι H0 M kD H1 M:=h2.weak hn
 have e2:Stp np [] kD H1 M uI _ M:=k2.weak (Nat.le_trans hn h2.next)
 have:=(k0.trans (e1.trans e2 (Nat.le_refl _)) (Nat.le_refl _)).trans q2 (Nat.le_refl _)
 simpa using this
theorem LJ{M:Heap}{O:Nat→Prop}{κ:VI}:∀ {vs as:List AV} (i:Nat),bL M O κ vs as→∀t,VL M O κ (look (start i vs) t) (look (start i as) t)
 | [],[],i,_,t=>by simp[start,look,VL]
 | v::vs,a::as,i,h,t=>by
  simp only[bL]at h
  simp only[start,qZ]
  split
  ·exact h.1
  ·exact LJ (i+1) h.2 t
 | [],_::_,_,h,_=>by simp[bL]at h
 | _::_,[],_,h,_=>by simp[bL]at h
theorem XH {G:MJ} {T:FuncId→Option dD} {K d:Nat} {B:FuncId→Option Bt} (hB:∀f b,B f=some b→Pz (mE G T K d) f b) {f:FuncId} (hG:G f=none) {af:dD} (hT:T f=some af) (hc:af.code.cZ=true) {args:List AV} {blks:WH} {tr:TS} {v:AV} {out:WH}
  (h1:args.length=af.nargs) (h2:af.nargs≤af.ntmps) (h3:ZJ (mE G T K d) B K af args blks tr v out):Spec (mE G T K (d+1)) f args blks v out:=by
 intro R ι M as s hv
 have hl:=hv.length
 have hst:qY R ι M (start 0 (args++List.replicate (af.ntmps-af.nargs) (.tuple []))) (start 0 (as++List.replicate (af.ntmps-af.nargs) (.tuple []))):=by
  refine LJ 0 (hv.append ?_)
  generalize af.ntmps-af.nargs=m
  induction m with
  | zero=>simp[bL]
  | succ m ih=>simp only[List.replicate_succ,bL];exact⟨VL.unit,ih⟩
 obtain⟨ex,qD,M',bI,l',H',iN,q1,q2,q3,q4,q5⟩:=qF hB af.code _ _ blks M ι tr _ hc s (Nat.le_refl _) hst h3
 obtain⟨l1,tr1,hl1,q5⟩:=sJ q5
 have q4:qY R bI M' l1 qD:=λt=>by rw[hl1 t];exact q4 t
 have fin:∀ {ex},(match Fy af.results l1 H' with
   | some u=>Xw blks.length u H' tr1 v out
   | none=>False)→(ex=.normal∨ex=.ret)→bM (mE G T K d) K af.ntmps af.code (start 0 (as++List.replicate (af.ntmps-af.nargs) (.tuple []))) M=some (ex,qD,M') →
   ∃a M' bI,mE G T K (d+1) f as M=some (a,M')∧VS R bI out M'∧Stp blks.length (List.range blks.length) ι blks M bI out M'∧VL M' (OR R bI) bI v a:=by
  intro ex hm hx hrun
  split at hm
  case h_2=>exact hm.elim
  rename_i u hu
  obtain⟨a,e1,e2⟩:=OH q2 q4 hu
  obtain⟨uI,e3,e4,e5⟩:=XG q2 q3.next e2 hm
  refine⟨a,M',uI, ?_,e3,mJ (q3.trans e4 (Nat.le_refl _)),e5⟩
  simp only[mE,hG,hT,bbody]
  rw[if_pos ⟨by rw[←hl];exact h1,h2⟩]
  rcases hx with rfl | rfl<;>simp only[hrun,e1,aW]
 cases ex with
 | normal=>exact fin q5 (.inl rfl) q1
 | ret=>exact fin q5 (.inr rfl) q1
 | exit i=>exact q5.elim
theorem XI {C:bH} {B:FuncId→Option Bt} (hB:∀f b,B f=some b→Pz C f b) {K n np:Nat} {code:dI} (hc:code.cZ=true) {ins:Fast} {blks:WH} (hn:np≤blks.length) {tr:TS} {x:Ex×Fast×WH}
  (h:ZL C B K n np code ins blks tr x):PZ (bM C K n code) np ins blks x.1 x.2.1 x.2.2:=by
 intro R ι M lA s he
 obtain⟨ex',qD,M',bI,l',H',iN,q1,q2,q3,q4,q5⟩:=qF hB code ins lA blks M ι tr _ hc s hn he h
 unfold ZK at q5
 obtain⟨l1,iN,hl1,q5⟩:=sJ q5
 have q4:qY R bI M' l1 qD:=λt=>by rw[hl1 t];exact q4 t
 split at q5
 case h_2=>exact q5.elim
 rename_i keep ms bs ts _
 obtain⟨s0,k0,hl0⟩:=RB iN q3.next q2
 obtain⟨vs',out',uI,⟨rfl,e1,e2⟩,s2,k2,hv⟩:=GJ s0 (by rw[hl0];exact q3.next) (q4.map keep) q5
 rw[←e1,←e2]
 exact⟨qD,M',uI,q1,s2,mJ (q3.trans ((mJ k0).trans k2 (Nat.le_refl _)) (Nat.le_refl _)),λt=>(I8 keep vs' hv t).1⟩
theorem bR {G:MJ} {T:FuncId→Option dD} {K d:Nat} {B:FuncId→Option Bt} (hB:∀f b,B f=some b→Pz (mE G T K d) f b) {f:FuncId} {af:dD} (hf:G f=none∧T f=some af∧af.code.cZ=true) {args:List AV} {blks:WH} {R:Type} {o:R→AV×WH} {r:R} {F:Option R}
  (h:F=some r) (t:Tc F) (h1:args.length=af.nargs:=by rfl) (h2:Nat.ble af.nargs af.ntmps=true:=by rfl) (e:ZJ (mE G T K d) B K af args blks ⟨t⟩ (o r).1 (o r).2=claim (λv=>(o v).1=(o r).1∧(o v).2=(o r).2) r t:=by kernel_rfl):Spec (mE G T K (d+1)) f args blks (o r).1 (o r).2 :=
 XH hB hf.1 hf.2.1 hf.2.2 h1 (Nat.le_of_ble_eq_true h2) (e.mpr (fK ⟨rfl,rfl⟩ t h))
theorem dL {C:bH} {B:FuncId→Option Bt} (hB:∀f b,B f=some b→Pz C f b) {K n np:Nat} {code:dI} (hc:code.cZ=true) {ins:Fast} {blks:WH} {R:Type} {o:R→Ex×Fast×WH} {r:R} {F:Option R}
  (h:F=some r) (t:Tc F) (hn:Nat.ble np blks.length=true:=by rfl) (e:ZL C B K n np code ins blks ⟨t⟩ (o r)=claim (λv=>(o v).1=(o r).1∧(o v).2.1=(o r).2.1∧(o v).2.2=(o r).2.2) r t:=by kernel_rfl):PZ (bM C K n code) np ins blks (o r).1 (o r).2.1 (o r).2.2 :=
 XI hB hc (Nat.le_of_ble_eq_true hn) (e.mpr (fK ⟨rfl,rfl,rfl⟩ t h))
def gY{S E:Type}(step:S→Option (S⊕E)):Nat→S→Option E
 | 0,_=>none
 | k+1,s=>match step s with
  | none=>none
  | some (.inl s)=>gY step k s
  | some (.inr e)=>some e
def g_{S E:Type}(keep:List Nat)(st:S→List AV×WH)(fin:E→Ex×Fast×WH):S⊕E→Ex×Fast×WH
 |.inl s=>(.normal,iX keep (st s).1,(st s).2)
 |.inr e=>fin e
theorem JH{l:Fast}(t:Nat):∀keep:List Nat,look (yQ l keep) t=if t∈keep then look l t else .undef
 | []=>by simp[yQ,look]
 | u::r=>by
  simp only[yQ,qZ,JH t r,List.mem_cons]
  by_cases e:u=t
  ·subst e;simp
  ·simp[e,Ne.symm e,show ¬t=u from λh=>e h.symm]
theorem iw {S E:Type} {body:Fast→Heap→Io} {np:Nat} {keep:List Nat} {st:S→List AV×WH} {fin:E→Ex×Fast×WH} {step:S→Option (S⊕E)} (hE:∀e,(fin e).1≠.normal)
  (hr:∀s x,step s=some x→PZ body np (iX keep (st s).1) (st s).2 (g_ keep st fin x).1 (g_ keep st fin x).2.1 (g_ keep st fin x).2.2) :
  ∀(k:Nat) (s:S) (e:E),gY step k s=some e→PZ (jW body keep k) np (iX keep (st s).1) (st s).2 (fin e).1 (fin e).2.1 (fin e).2.2
 | 0,s,e,h=>by simp[gY]at h
 | k+1,s,e,h=>by
  intro R ι M lA vs he
  have zk:∀(keep:List Nat) (xs:List AV) (t:Nat),t∉keep→look (iX keep xs) t=.undef:=λkeep=>by
   induction keep with
   | nil=>intro xs t _;cases xs<;>simp[iX,look]
   | cons u r ih =>
    intro xs t ht
    rw[List.mem_cons,not_or]at ht
    cases xs with
    | nil=>simp[iX,look]
    | cons v xs =>
     simp only[iX,qZ]
     rw[if_neg (λe=>ht.1 e.symm)]
     exact ih xs t ht.2
  have he':∀t,VL M (OR R ι) ι (look (iX keep (st s).1) t) (look (yQ lA keep) t):=λt=>by
   rw[JH]
   split
   ·exact he t
   ·rename_i ht
    rw[zk keep _ t ht]
    simp[VL]
  simp only[gY]at h
  split at h
  ·cases h
  ·rename_i s' hs
   have:=hr s _ hs
   obtain⟨qD,M',bI,q1,q2,q3,q4⟩:=this R ι M (yQ lA keep) vs he'
   obtain⟨lA2,M2,uI,r1,r2,r3,r4⟩:=iw hE hr k s' e h R bI M' qD q2 q4
   refine⟨lA2,M2,uI, ?_,r2,mJ (q3.trans r3 (Nat.le_refl _)),r4⟩
   simp only[jW,q1]
   exact r1
  ·rename_i e' hs
   obtain rfl:=ak h
   have:=hr s _ hs
   simp only[g_]at this
   obtain⟨qD,M',bI,q1,q2,q3,q4⟩:=this R ι M (yQ lA keep) vs he'
   refine⟨qD,M',bI, ?_,q2,q3,q4⟩
   simp only[jW,q1]
   have:=hE e'
   generalize (fin e').1=x at *
   cases x with
   | normal=>exact absurd rfl this
   | exit i=>rfl
   | ret=>rfl
open Go.ChangeShapes Go.WideShapes Go.ChangeAt Go.RowKit
mutual
def uL:Sh→Nat
 |.agg ss=>wS ss
 | _=>1
def wS:List Sh→Nat
 | []=>0
 | s::r=>uL s+wS r
end
mutual
def encS:Sh→D→List AV
 |.bool,.bool b=>[.bool b]
 |.int _,.int k n=>[.int k n]
 |.str,.str s=>[.str s]
 |.list e,.list l=>[.list (uL e) l.length (M5 e l) false]
 |.agg ss,.agg l=>Ef ss l
 | _,_=>[]
def M5(e:Sh):List D→List AV
 | []=>[]
 | d::r=>encS e d++M5 e r
def Ef:List Sh→List D→List AV
 | s::ss,d::r=>encS s d++Ef ss r
 | _,_=>[]
end
theorem Bq{e:Sh}:∀ {l:List D} {n:Nat},l.length=n→Ef (List.replicate n e) l=M5 e l
 | [],n,h=>by
  subst h
  simp[Ef,M5]
 | d::r,n,h=>by
  subst h
  simp only[bZ,List.replicate_succ,Ef,M5]
  rw[Bq rfl]
theorem yV(s:Sh):∀n,wS (List.replicate n s)=n*uL s
 | 0=>by simp[wS]
 | n+1=>by
  rw[List.replicate_succ,wS,yV s n,Nat.succ_mul,Nat.add_comm]
theorem GQ{P:Program}(hl:laidOutB P=true):∀(k:Nat) (t:TypeId) (s:Sh),Ew P k t=some s→t<P.types.size→P.cellsOf t=uL s
 | 0,_,_,h,_=>by simp[Ew]at h
 | k+1,t,s,h,ht=>by
  have hr:=Go.rowFine_of hl ht
  simp only[Ew]at h
  split at h
  case h_7=>cases h
  ·rename_i hu
   obtain rfl:=ak h
   simpa[rowFine,isVar,ht,hu,kindOk,uL]using hr
  ·rename_i i hu
   obtain rfl:=ak h
   simpa[rowFine,isVar,ht,hu,kindOk,uL]using hr
  ·rename_i hu
   obtain rfl:=ak h
   simpa[rowFine,isVar,ht,hu,kindOk,uL]using hr
  ·rename_i e hu
   split at h
   ·cases h
   obtain⟨se,hse,rfl⟩:=aC.1 h
   simp[rowFine,isVar,ht,hu,kindOk]at hr
   simpa[uL]using hr.2
  ·rename_i fs hu
   obtain⟨ss,hss,rfl⟩:=aC.1 h
   obtain⟨h1,h2,_⟩:=Go.kid_struct hl ht hu
   rw[h2,uL]
   have hall:∀(fl:List Field) (ss:List Sh),(∀f∈fl,f.type<P.types.size)→KC (Ew P k) (fl.map λf=>f.type)=some ss→(fl.map λf=>P.cellsOf f.type).sum=wS ss:=by
    intro fl
    induction fl with
    | nil =>
     intro ss _ h
     simp[KC]at h
     subst h
     simp[wS]
    | cons f fl ih =>
     intro ss hf h
     simp only[List.map_cons,KC]at h
     split at h
     case h_2=>cases h
     rename_i s r h1 h2
     obtain rfl:=ak h
     rw[List.map_cons,List.sum_cons,wS,GQ hl k _ _ h1 (hf f (by simp)),ih r (λg hg=>hf g (by simp[hg])) h2]
   exact hall fs.toList ss h1 hss
  ·rename_i n e hu
   obtain⟨se,hse,rfl⟩:=aC.1 h
   obtain⟨h1,h2⟩:=Go.kid_array hl ht hu
   rw[h2,uL,yV,GQ hl k _ _ hse h1]
mutual
theorem VL.sub{M M':Heap}{κ qC:VI}(h:M.Sub M')(hn:M.next≤M'.next):∀(v a:AV),VL M (λ_=>False) VI.none v a→VL M' (λ_=>False) VI.none v a
 |.undef,_,_=>by simp[VL]
 |.bool _,_,e=>by simpa[VL]using e
 |.int _ _,_,e=>by simpa[VL]using e
 |.str _,_,e=>by simpa[VL]using e
 |.ptr none,_,e=>by simpa[VL]using e
 |.ptr (some q),_,e=>by simp[VL,VI.none]at e
 |.slice none _ _ _ _,_,e=>by simpa[VL]using e
 |.slice (some q) _ _ _ _,_,e=>by simp[VL,VI.none]at e
 |.map none,_,e=>by simpa[VL]using e
 |.map (some r),_,e=>by simp[VL,VI.none]at e
 |.func f cs,_,e=>by
  simp only[VL]at e ⊢
  obtain⟨cs',h1,h2⟩:=e
  exact⟨cs',h1,bL.sub h hn cs cs' h2⟩
 |.nilFunc,_,e=>by simpa[VL]using e
 |.agg cs,_,e=>by
  simp only[VL]at e ⊢
  obtain⟨cs',h1,h2⟩:=e
  exact⟨cs',h1,bL.sub h hn cs cs' h2⟩
 |.tuple cs,_,e=>by
  simp only[VL]at e ⊢
  obtain⟨cs',h1,h2⟩:=e
  exact⟨cs',h1,bL.sub h hn cs cs' h2⟩
 |.list sz len cs ex,_,e=>by
  simp only[VL]at e ⊢
  rcases e with e |⟨b,o,cap,ex',h1,h2,h3,h4,h5⟩
  ·exact .inl e
  refine .inr ⟨b,o,cap,ex',h1,h2,h3,h4,λhl=>?_⟩
  obtain⟨c,ro,sl,g1,g2,g3,g4,g5⟩:=h5 hl
  exact⟨c,ro,sl,h _ _ g1,g2,Nat.lt_of_lt_of_le g3 hn,g4,bL.sub h hn cs _ g5⟩
 |.elem cs,_,e=>by
  simp only[VL]at e ⊢
  obtain⟨b,o,c,ro,sl,h1,g1,g2,g3,g5⟩:=e
  exact⟨b,o,c,ro,sl,h1,h _ _ g1,g2,Nat.lt_of_lt_of_le g3 hn,bL.sub h hn cs _ g5⟩
 |.acc b o sz n w,_,e=>by simp[VL,VI.none]at e
theorem bL.sub{M M':Heap}(h:M.Sub M')(hn:M.next≤M'.next):∀(l r:List AV),bL M (λ_=>False) VI.none l r→bL M' (λ_=>False) VI.none l r
 | [],[],_=>by simp[bL]
 | a::l,v::r,e=>by
  simp only[bL]at e ⊢
  exact⟨VL.sub (κ:=VI.none) (qC:=VI.none) h hn a v e.1,bL.sub h hn l r e.2⟩
 | [],_::_,e=>by simp[bL]at e
 | _::_,[],e=>by simp[bL]at e
end
abbrev Qe(M:Heap):=bL M (λ_=>False) VI.none
def M6(W:World)(s:Sh)(cs:List Value)(d:D):Prop :=
 ∀ι M,R ι M W→qz M→∃bI M' PX,Grow ι M bI M' W∧dQ bI PX cs∧(∀a∈PX,a.eH=true)∧Qe M' (encS s d) PX∧D.is s d
def fU(W:World):List Sh→List (List Value)→List D→Prop
 | [],[],[]=>True
 | s::ss,c::cs,d::ds=>M6 W s c d∧fU W ss cs ds
 | _,_,_=>False
theorem fU.open {W:World}:∀ {ss:List Sh} {css:List (List Value)} {ds:List D},fU W ss css ds→∀ι M,R ι M W→qz M →
  ∃bI M' ,∃pieces:List (List AV),Grow ι M bI M' W∧pieces.map List.length=css.map List.length∧dQ bI pieces.flatten css.flatten∧(∀p∈pieces,∀a∈p,a.eH=true)∧Qe M' (Ef ss ds) pieces.flatten∧D.are ss ds
 | [],[],[],_,ι,M,r,ro=>⟨ι,M,[],.refl r ro,rfl,by simp[dQ],by simp,by simp[Ef,Qe,bL],by simp[D.are]⟩
 | s::ss,c::css,d::ds,h,ι,M,r,ro=>by
  simp only[fU]at h
  obtain⟨kD,M1,PX,g1,v1,c1,r1,i1⟩:=h.1 ι M r ro
  obtain⟨uI,M2,ps,g2,l2,v2,c2,r2,i2⟩:=fU.open h.2 kD M1 g1.rel g1.ro
  refine⟨uI,M2,PX::ps,g1.trans g2, ?_, ?_, ?_, ?_, ?_⟩
  ·have:=v1.length
   simp[l2,this]
  ·simp only[List.flatten_cons]
   exact(v1.mono g2.le).append v2
  ·intro p hp
   rcases List.mem_cons.1 hp with rfl | hp
   ·exact c1
   ·exact c2 p hp
  ·simp only[Ef,List.flatten_cons]
   exact(bL.sub g2.sub g2.next _ _ r1).append r2
  ·simp only[D.are]
   exact⟨i1,i2⟩
 | [],[],_::_,h,_,_,_,_=>by simp[fU]at h
 | [],_::_,_,h,_,_,_,_=>by simp[fU]at h
 | _::_,[],_,h,_,_,_,_=>by simp[fU]at h
 | _::_,_::_,[],h,_,_,_,_=>by simp[fU]at h
theorem fU.r_ {W:World}:∀ {ss:List Sh} {css:List (List Value)} {ds:List D},ss.length=ds.length→css.length=ds.length →
  (∀(i:Nat) s c d,ss[i]?=some s→css[i]?=some c→ds[i]?=some d→M6 W s c d)→fU W ss css ds
 | [],[],[],_,_,_=>by simp[fU]
 | s::ss,c::css,d::ds,h1,h2,h=>by
  simp only[fU]
  exact⟨h 0 s c d (by simp) (by simp) (by simp),fU.r_ (by simpa using h1) (by simpa using h2) λi s c d a1 a2 a3=>h (i+1) s c d (by simpa using a1) (by simpa using a2) (by simpa using a3)⟩
 | [],_,_::_,h1,_,_=>by simp at h1
 | _::_,_,[],h1,_,_=>by simp at h1
 | _,[],_::_,_,h2,_=>by simp at h2
 | _,_::_,[],_,h2,_=>by simp at h2
theorem AZ{W:World}{s:Sh}{v:Value}{a:AV}{d:D}(hv:∀ι,VR ι a v)(hc:a.eH=true)(hr:∀M,Qe M (encS s d) [a])(hs:D.is s d):M6 W s [v] d:=λι M r ro =>
 ⟨ι,M,[a],.refl r ro,by simp only[dQ];exact⟨hv ι,trivial⟩,λx hx=>by simp at hx;subst hx;exact hc,hr M,hs⟩
theorem A8 {H:Type} {enc:TypeId×Value→H} {P:Program} (hl:laidOutB P=true) {W:World}:∀(k:Nat) (t:TypeId) (s:Sh),Ew P k t=some s→t<P.types.size →
  ∀(fuel:Nat) (cs:List Value) (x:DataW H×List MemPlace),DataW.trod enc P W 0 (λ_=>true) true fuel t cs=some x→M6 W s cs (xH x.1)
 | 0,_,_,hs,_,_,_,_,_=>by simp[Ew]at hs
 | k+1,t,s,hs,ht,fuel,cs,x,h=>by
  simp only[Ew]at hs
  split at hs
  case h_7=>cases hs
  ·rename_i hu
   obtain rfl:=ak hs
   obtain⟨b,rfl,rfl⟩:=DataW.trod_bool hu h
   exact AZ (a:=.bool b) (λι=>by simp[VR]) rfl (λM=>by simp[xH,encS,bL,VL]) ⟨b,rfl⟩
  ·rename_i i hu
   obtain rfl:=ak hs
   obtain⟨n,rfl,rfl,hw⟩:=DataW.trod_int hu h
   simp only[Lit.wf,Bool.and_eq_true,decide_eq_true_eq]at hw
   exact AZ (a:=.int i n) (λι=>by simp[VR]) rfl (λM=>by simp[xH,encS,bL,VL]) ⟨n,rfl,hw⟩
  ·rename_i hu
   obtain rfl:=ak hs
   obtain⟨b,rfl,rfl,hw⟩:=DataW.trod_string hu h
   exact AZ (a:=.str b.data.toList) (λι=>by simp only[VR];exact⟨b,rfl,rfl⟩) rfl (λM=>by simp[xH,encS,bL,VL]) ⟨_,rfl⟩
  ·rename_i e hu
   split at hs
   ·cases hs
   rename_i hsz
   obtain⟨se,hse,rfl⟩:=aC.1 hs
   have hte:e<P.types.size:=Go.kid_slice hl ht hu
   rcases DataW.trod_slice hu h with⟨rfl,rfl⟩ |⟨a,len,cap,elems,rest,n,rfl,rfl,rfl,_,hlc,_,hlen,hel,hre,_⟩
   ·exact AZ (a:=.slice none (uL se) 0 0 true) (λι=>by simp[VR]) rfl (λM=>by simp[xH,encS,M5,bL,VL]) ⟨[],by simp[xH],by simp⟩
   ·intro ι M r ro
    obtain⟨hrl,hre⟩:=hre rfl
    simp only[xH]
    have hsz':=GQ hl _ _ _ hse hte
    generalize hz:P.cellsOf e=sz at *
    rcases Nat.eq_zero_or_pos cap with hc0 | hcp
    ·subst hc0
     obtain rfl:len=0:=by omega
     have abY:elems=[]:=by simpa using hlen
     subst abY
     refine⟨_,_,[.slice (some (M.next,0)) sz 0 0 true],Grow.skip r ro ⟨a.block,0,0⟩, ?_, ?_, ?_, ?_⟩
     ·simp only[dQ,VR,and_true]
      exact⟨⟨a.block,0,0⟩,a,0,by simp[fq.set],rfl,.inl rfl,.inl rfl,.inl rfl,Nat.le_refl _,Nat.le_refl _,λ_=>rfl,by simp,by omega⟩
     ·intro y hy
      simp at hy
      subst hy
      rfl
     ·simp only[List.map_nil,Gw,encS,M5,bL,VL,and_true]
      exact .inr ⟨M.next,0,0,true,by rw[hsz'];rfl,Nat.le_refl _,by simp,by simp,λh=>absurd rfl h⟩
     ·exact⟨[],by simp[Gw],by simp⟩
    ·-- every element's cells
     have all:∀i,i<cap→∃ci,W.cells? 0 (a.add (i*sz)) sz=some ci∧(i<len→∃y,elems[i]?=some y∧DataW.trod enc P W 0 (λ_=>true) true n e ci=some y):=by
      intro i hi
      by_cases hil:i<len
      ·have h1:=hel i hil
       rw[bn (by omega)]at h1
       obtain⟨ci,h2,h3⟩:=aF.1 h1
       exact⟨ci,h2,λ_=>⟨_,bn (by omega),h3⟩⟩
      ·have h1:=hre (i-len) (by omega)
       rw[bn (by omega)]at h1
       obtain⟨ci,h2,h3⟩:=aF.1 h1
       rw[show len+(i-len)=i from by omega]at h2
       exact⟨ci,h2,λhx=>absurd hx hil⟩
     obtain⟨c0,hc0,_⟩:=all 0 hcp
     obtain⟨_,hl0,hg0⟩:=World.cells?_some hc0
     have hone:=hg0 0 (by omega)
     rw[bn (by omega)]at hone
     obtain⟨c,el,fz,Es,hsp,_⟩:=Sj hone
     have ha0:(a.add (0*sz)).add 0=a:=by simp[Addr.add]
     rw[ha0]at Es hsp
     obtain⟨j,off,spot⟩:=a
     simp only at Es hsp
     subst hsp
     have acL:∀i v,W.cell? ⟨j,i,none⟩=some v→c[i]?=some v:=λi v hv=>by
      simpa[World.cell?,Es]using hv
     have ZU:∀i,W.cell? ⟨j,i,none⟩=c[i]?:=λi=>by simp[World.cell?,Es]
     have aa9:∀i ci,W.cells? 0 ((⟨j,off,none⟩:Addr).add (i*sz)) sz=some ci→ci=(c.toList.drop (off+i*sz)).take sz∧off+i*sz+sz≤c.size:=by
      intro i ci hci
      obtain⟨_,q1,q2⟩:=World.cells?_some hci
      have hsize:off+i*sz+sz≤c.size:=by
       have:=q2 (sz-1) (by omega)
       rw[l7,l7,ZU,bn (by omega)]at this
       have:=(Array.getElem?_eq_some_iff.1 this).1
       omega
      refine⟨?_,hsize⟩
      apply List.ext_getElem?
      intro q
      by_cases hq:q<sz
      ·have:=q2 q hq
       rw[l7,l7,ZU]at this
       rw[←this,List.getElem?_take,if_pos hq,List.getElem?_drop,Array.getElem?_toList]
      ·rw[List.getElem?_eq_none (by omega),List.getElem?_eq_none (by simp;omega)]
     have hend:off+cap*sz≤c.size:=by
      obtain⟨ci,h1,_⟩:=all (cap-1) (by omega)
      have:=(aa9 _ _ h1).2
      have:(cap-1)*sz+sz=cap*sz:=by rw[←Nat.succ_mul];congr 1;omega
      omega
     have hrow:len*sz≤cap*sz:=Nat.mul_le_mul_right _ hlc
     have JI:fU W (List.replicate len se) (chunks (List.replicate len sz) (c.toList.drop off)) (elems.map λy=>xH y.1):=by
      refine fU.r_ (by simp[hlen]) (by simp[uV,hlen]) λi s0 ci d0 h1 h2 h3=>?_
      have hi:i<len:=by
       have:=(aM.1 h1).1
       simpa using this
      rw[List.getElem?_replicate,if_pos hi]at h1
      obtain rfl:=ak h1
      rw[AP _ _ i sz (by rw[List.getElem?_replicate,if_pos hi])]at h2
      obtain rfl:=ak h2
      obtain⟨ci,g1,g2⟩:=all i (by omega)
      obtain⟨y,g3,g4⟩:=g2 hi
      obtain⟨g5,_⟩:=aa9 i ci g1
      rw[List.getElem?_map,g3]at h3
      obtain rfl:=ak h3
      have e1:(List.take i (List.replicate len sz)).sum=i*sz:=by
       rw[List.take_replicate,Nat.min_eq_left (by omega),List.sum_replicate_nat]
      rw[e1,List.drop_drop,←g5]
      exact A8 hl k e se hse hte n ci y g4
     obtain⟨kD,M1,pieces,g1,hpl,hpv,hpc,hpp,U0⟩:=JI.open ι M r ro
     have UR:(chunks (List.replicate len sz) (c.toList.drop off)).flatten=(c.toList.drop off).take (len*sz):=by
      rw[chunks_flatten,List.sum_replicate_nat]
     rw[UR]at hpv
     have hfl:pieces.flatten.length=len*sz:=by
      have:=hpv.length
      simp at this
      rw[List.length_flatten,this]
      omega
     have U1:=Grow.see (c:=pieces.flatten) (l:=⟨j,off,cap*sz⟩) g1.rel g1.ro Es (by
      refine⟨c,el,fz,rfl,hend,by rw[hfl];exact hrow,(λh=>by cases h),λi b hb=>?_,λh=>by cases h⟩
      obtain⟨v,hv,TR⟩:=hpv.get i b hb
      refine⟨v, ?_, ?_,TR⟩
      ·rw[List.getElem?_take]at hv
       split at hv
       ·rw[List.getElem?_drop,Array.getElem?_toList]at hv
        exact hv
       ·cases hv
      ·obtain⟨p,hp,hbp⟩:=List.mem_flatten.1 (List.mem_of_getElem? hb)
       exact hpc p hp b hbp)
     have hdl:(Gw (elems.map λy=>y.1)).length=len:=by rw[AO];simp[hlen]
     refine⟨_,_,[.slice (some (M1.next,0)) sz len cap true],g1.trans U1, ?_, ?_, ?_, ?_⟩
     ·simp only[dQ,VR,and_true]
      exact⟨⟨j,off,cap*sz⟩,⟨j,off,none⟩,cap,by simp[fq.set],rfl,.inr rfl,.inr rfl,.inr rfl,hlc,Nat.le_refl _,λ_=>rfl,by simp,by omega⟩
     ·intro y hy
      simp at hy
      subst hy
      rfl
     ·have e1:Gw (elems.map λy=>y.1)=elems.map λy=>xH y.1:=by rw[AO];simp
      rw[Bq]at hpp
      ·simp only[encS,bL,VL,and_true,e1]
       refine .inr ⟨M1.next,0,cap,true, ?_, ?_,by simp, ?_,λ_=>⟨pieces.flatten,true,true,by simp[Heap.push],λh=>h,by simp[Heap.push], ?_, ?_⟩⟩
       ·rw[hsz',List.length_map,hlen]
       ·rw[List.length_map,hlen];exact hlc
       ·rw[hpp.length,hfl,List.length_map,hlen,hsz']
       ·rw[List.length_map,hlen,←hsz'];omega
       ·rw[List.length_map,hlen,←hsz',List.drop_zero,List.take_of_length_le (by omega)]
        exact bL.sub U1.sub U1.next _ _ hpp
      ·simp[hlen]
     ·have e1:Gw (elems.map λy=>y.1)=elems.map λy=>xH y.1:=by rw[AO];simp
      refine⟨_,rfl, ?_⟩
      rw[e1]
      exact(D.Eb U0).2
  ·rename_i fs hu
   obtain⟨ss,hss,rfl⟩:=aC.1 hs
   obtain⟨hsl,hsg⟩:=La hss
   obtain⟨kt,kc,ko⟩:=Go.kid_struct hl ht hu
   obtain⟨xs,n,rfl,rfl,hcl,hxl,hget⟩:=DataW.trod_struct hu h
   intro ι M r ro
   have JI:fU W ss (chunks (fs.toList.map λf=>P.cellsOf f.type) cs) (xs.map λy=>xH y.1):=by
    refine fU.r_ (by simp[hsl,hxl]) (by simp[uV,hxl]) λi s0 ci d0 h1 h2 h3=>?_
    have hi:i<fs.toList.length:=by
     have:=(aM.1 h1).1
     simpa[hsl]using this
    have hf:fs.toList[i]?=some fs.toList[i]:=bn hi
    obtain⟨s1,g1,g2⟩:=hsg i _ (by rw[List.getElem?_map,hf];rfl)
    rw[h1]at g1
    obtain rfl:=ak g1
    rw[AP _ _ i _ (by rw[List.getElem?_map,hf];rfl)]at h2
    obtain rfl:=ak h2
    have h4:=hget i fs.toList[i] (by rw[←Array.getElem?_toList];exact hf)
    rw[List.getElem?_map]at h3
    obtain⟨y,hy,rfl⟩:=aC.1 h3
    rw[hy,ko i _ hf]at h4
    rw[←List.map_take]
    exact A8 hl k _ _ g2 (kt _ (List.getElem_mem hi)) n _ y h4
   obtain⟨kD,M1,pieces,g1,hpl,hpv,hpc,hpp,U0⟩:=JI.open ι M r ro
   rw[chunks_flatten,←kc,←hcl,List.take_length]at hpv
   have e1:xH (DataW.agg (xs.map λy=>y.1))=.agg (xs.map λy=>xH y.1):=by simp[xH,AO]
   refine⟨kD,M1,pieces.flatten,g1,hpv,λa ha=>?_, ?_, ?_⟩
   ·obtain⟨p,hp,hap⟩:=List.mem_flatten.1 ha
    exact hpc p hp a hap
   ·rw[e1]
    simp only[encS]
    exact hpp
   ·rw[e1]
    exact⟨_,rfl,U0⟩
  ·rename_i m e hu
   obtain⟨se,hse,rfl⟩:=aC.1 hs
   obtain⟨hte,kc⟩:=Go.kid_array hl ht hu
   obtain⟨xs,n,rfl,rfl,hcl,hxl,hget⟩:=DataW.trod_array hu h
   intro ι M r ro
   have JI:fU W (List.replicate m se) (chunks (List.replicate m (P.cellsOf e)) cs) (xs.map λy=>xH y.1):=by
    refine fU.r_ (by simp[hxl]) (by simp[uV,hxl]) λi s0 ci d0 h1 h2 h3=>?_
    have hi:i<m:=by
     have:=(aM.1 h1).1
     simpa using this
    rw[List.getElem?_replicate,if_pos hi]at h1
    obtain rfl:=ak h1
    rw[AP _ _ i (P.cellsOf e) (by rw[List.getElem?_replicate,if_pos hi])]at h2
    obtain rfl:=ak h2
    have h4:=hget i hi
    rw[List.getElem?_map]at h3
    obtain⟨y,hy,rfl⟩:=aC.1 h3
    rw[hy]at h4
    have e1:(List.take i (List.replicate m (P.cellsOf e))).sum=i*P.cellsOf e:=by
     rw[List.take_replicate,Nat.min_eq_left (by omega),List.sum_replicate_nat]
    rw[e1]
    exact A8 hl k e se hse hte n _ y h4
   obtain⟨kD,M1,pieces,g1,hpl,hpv,hpc,hpp,U0⟩:=JI.open ι M r ro
   rw[chunks_flatten,List.sum_replicate_nat,←kc,←hcl,List.take_length]at hpv
   have e1:xH (DataW.agg (xs.map λy=>y.1))=.agg (xs.map λy=>xH y.1):=by simp[xH,AO]
   refine⟨kD,M1,pieces.flatten,g1,hpv,λa ha=>?_, ?_, ?_⟩
   ·obtain⟨p,hp,hap⟩:=List.mem_flatten.1 ha
    exact hpc p hp a hap
   ·rw[e1]
    simp only[encS]
    exact hpp
   ·rw[e1]
    exact⟨_,rfl,U0⟩
def Cn(s:Sh)(d:D):AV :=
 match s with
 |.agg ss=>.agg (encS s d)
 | s=>(encS s d).headD .undef
def encArgs:List Sh→List D→List AV
 | s::ss,d::r=>Cn s d::encArgs ss r
 | _,_=>[]
theorem SC {H:Type} {enc:TypeId×Value→H} {P:Program} (hl:laidOutB P=true) {W:World} {k base:Nat} {t:TypeId} {s:Sh} (hs:Ew P k t=some s) (ht:t<P.types.size) {v:Value} {d:DataW H} {ps:List MemPlace}
  (hval:Value.okWide P W .any base t v) (h:DataW.Trod enc P W 0 (λ_=>true) true t v d ps) {ι:fq} {M:Heap} (r:R ι M W) (ro:qz M) :
  ∃bI M' a,Grow ι M bI M' W∧VR bI a v∧VL M' (λ_=>False) VI.none (Cn s (xH d)) a∧D.is s (xH d):=by
 obtain⟨fuel,hf⟩:=h
 obtain⟨bI,M',PX,g,hv,_,hr,hi⟩:=A8 hl k t s hs ht fuel _ _ hf ι M r ro
 simp only at hr hi
 have one:v.cells=#[v]→(∀ss,s≠.agg ss)→∃bI M' a,Grow ι M bI M' W∧VR bI a v∧VL M' (λ_=>False) VI.none (Cn s (xH d)) a∧D.is s (xH d):=by
  intro e1 e2
  rw[e1]at hv
  match PX,hv,hr with
  | [a],hv,hr =>
   simp only[dQ]at hv
   refine⟨bI,M',a,g,hv.1, ?_,hi⟩
   have hlen:=hr.length
   have:∃x,encS s (xH d)=[x]:=by
    match hx:encS s (xH d),hlen with
    | [x],_=>exact⟨x,rfl⟩
    | [],h=>simp at h
    | _::_::_,h=>simp at h
   obtain⟨x,hx⟩:=this
   rw[hx]at hr
   simp only[bL]at hr
   have he:Cn s (xH d)=x:=by
    cases s with
    | agg ss=>exact absurd rfl (e2 ss)
    | _=>simp[Cn,hx]
   rw[he]
   exact hr.1
  | [],hv,_=>simp[dQ]at hv
  | _::_::_,hv,_=>simp[dQ]at hv
 have many:(∃cs,v=.agg cs)→(∃ss,s=.agg ss)→∃bI M' a,Grow ι M bI M' W∧VR bI a v∧VL M' (λ_=>False) VI.none (Cn s (xH d)) a∧D.is s (xH d):=by
  rintro⟨cs,rfl⟩ ⟨ss,rfl⟩
  refine⟨bI,M',.agg PX,g, ?_, ?_,hi⟩
  ·simp only[VR]
   exact⟨cs,rfl,by simpa[Value.cells]using hv⟩
  ·simp only[Cn,VL]
   exact⟨PX,rfl,hr⟩
 cases k with
 | zero=>simp[Ew]at hs
 | succ k =>
  simp only[Ew]at hs
  split at hs
  case h_7=>cases hs
  ·rename_i hu
   obtain rfl:=ak hs
   obtain⟨b,rfl⟩:=okWide_bool hu hval
   exact one rfl λl hl=>by cases hl
  ·rename_i i hu
   obtain rfl:=ak hs
   obtain⟨b,rfl⟩:=okWide_int hu hval
   exact one rfl λl hl=>by cases hl
  ·rename_i hu
   obtain rfl:=ak hs
   obtain⟨b,rfl⟩:=okWide_string hu hval
   exact one rfl λl hl=>by cases hl
  ·rename_i e hu
   split at hs
   ·cases hs
   obtain⟨se,hse,rfl⟩:=aC.1 hs
   obtain⟨a,len,cap,rfl⟩:=okWide_slice hu hval
   exact one rfl λl hl=>by cases hl
  ·rename_i fs hu
   obtain⟨ss,hss,rfl⟩:=aC.1 hs
   obtain⟨cs,hcs,_⟩:=okWide_struct hu hval
   exact many ⟨cs,hcs⟩ ⟨_,rfl⟩
  ·rename_i n e hu
   obtain⟨se,hse,rfl⟩:=aC.1 hs
   simp only[Value.okWide,hu]at hval
   obtain⟨cs,hcs,_⟩:=hval
   exact many ⟨cs,hcs⟩ ⟨_,rfl⟩
theorem LK {H:Type} {enc:TypeId×Value→H} {P:Program} (hl:laidOutB P=true) {W:World} {k base:Nat} :
  ∀(ts:List TypeId) (ss:List Sh) (vs:List Value) (ds:List (DataW H)) (p:List MemPlace),Jp P k ts=some ss→(ts.all λt=>decide (t<P.types.size))=true →
   (∀(j:Nat) t v,ts[j]?=some t→vs[j]?=some v→Value.okWide P W .any base t v)→DataW.TrodAll enc P W 0 (λ_=>true) true ts vs ds p →
   ∀ι M,R ι M W→qz M→∃bI M' as,Grow ι M bI M' W∧dQ bI as vs∧Qe M' (encArgs ss (ds.map xH)) as∧D.are ss (ds.map xH)
 | [],ss,[],[],p,hs,_,_,_,ι,M,r,ro=>by
  simp[Jp,KC]at hs
  subst hs
  exact⟨ι,M,[],.refl r ro,by simp[dQ],by simp[encArgs,Qe,bL],by simp[D.are]⟩
 | t::ts,ss,v::vs,d::ds,p,hs,ht,hval,h,ι,M,r,ro=>by
  simp only[Jp,KC]at hs
  split at hs
  case h_2=>cases hs
  rename_i s sr h1 h2
  obtain rfl:=ak hs
  simp only[List.all_cons,Bool.and_eq_true,decide_eq_true_eq]at ht
  simp only[DataW.TrodAll]at h
  obtain⟨p1,p2,g1,g2,_⟩:=h
  obtain⟨kD,M1,a,q1,q2,q3,q4⟩:=SC hl h1 ht.1 (hval 0 t v (by simp) (by simp)) g1 r ro
  obtain⟨uI,M2,as,w1,w2,w3,w4⟩:=LK hl ts sr vs ds p2 h2 (by simpa using ht.2) (λj t v a b=>hval (j+1) t v (by simpa using a) (by simpa using b)) g2 kD M1 q1.rel q1.ro
  refine⟨uI,M2,a::as,q1.trans w1, ?_, ?_, ?_⟩
  ·simp only[dQ]
   exact⟨q2.mono w1.le,w2⟩
  ·simp only[List.map_cons,encArgs,Qe,bL]
   exact⟨VL.sub (κ:=VI.none) (qC:=VI.none) w1.sub w1.next _ _ q3,w3⟩
  ·simp only[List.map_cons,D.are]
   exact⟨q4,w4⟩
 | [],_,_::_,_,_,_,_,_,h,_,_,_,_=>by simp[DataW.TrodAll]at h
 | [],_,[],_::_,_,_,_,_,h,_,_,_,_=>by simp[DataW.TrodAll]at h
 | _::_,_,[],_,_,_,_,_,h,_,_,_,_=>by simp[DataW.TrodAll]at h
 | _::_,_,_::_,[],_,_,_,_,h,_,_,_,_=>by simp[DataW.TrodAll]at h
def abb(C:bH)(f:FuncId)(ss:List Sh)(small:Nat):Prop :=
 ∀ds:List D,D.are ss ds→D.wu ds≤small→∃out,Spec C f (encArgs ss ds) [] (.bool true) out
theorem VS.empty{M:Heap}(h:M.Ok):VS (λ_=>False) VI.none [] M :=
 ⟨λ_ _ h=>(nomatch h),λ_ _ _ _ _ h=>(nomatch h),λi x h=>by simp[b_]at h,λ_ h=>(nomatch h),λ_ h=>(nomatch h),h,λ_ h=>h.elim⟩
theorem XJ:OR (λ_=>False) VI.none=λ_=>False:=by
 funext j
 simp[OR,own,VI.none]
theorem OI {H:Type} {enc:TypeId×Value→H} {P:Program} (hl:laidOutB P=true) {f:FuncId} {C:bH} (hg:Sound P f (C f)) {ss:List Sh} {small:Nat} (hp:abb C f ss small)
  {W:World} {k base:Nat} {ts:List TypeId} {args:Array Value} {ds:List (DataW H)} {p:List MemPlace} (hs:Jp P k ts=some ss) (ht:(ts.all λt=>decide (t<P.types.size))=true)
  (hval:∀(j:Nat) t v,ts[j]?=some t→args.toList[j]?=some v→Value.okWide P W .any base t v) (hA:DataW.TrodAll enc P W 0 (λ_=>true) true ts args.toList ds p) (hb:D.wu (ds.map xH)≤small) :
  Calls P f args W λe W'=>e=.returned (.bool true)∧Below W.heap.size W W':=by
 obtain⟨ι,M,as,g1,g2,g3,g4⟩:=LK hl ts ss args.toList ds p hs ht hval hA _ _ (R.empty W) (λb x h=>by simp[Heap.empty]at h)
 obtain⟨out,hH⟩:=hp _ g4 hb
 have hw:M.Ok:=λb hb=>(g1.rel.fresh b hb).1
 have g3':bL M (OR (λ_=>False) VI.none) VI.none (encArgs ss (ds.map xH)) as:=by rw[XJ];exact g3
 obtain⟨a,M',kD,e1,e2,_,e3⟩:=hH _ VI.none M as (VS.empty hw) g3'
 simp only[VL]at e3
 subst e3
 refine(hg as M _ M' e1 ι W args g1.rel g2).mono ?_
 rintro e w' ⟨bI,v',rfl,hv,htr⟩
 simp only[VR]at hv
 subst hv
 exact⟨rfl,Og htr g1.ro⟩
def KK:Nat:=2000000000000
abbrev Tab:=MJ×(FuncId→Option dD)
abbrev aY(A:Tab)(d:Nat):bH:=mE A.1 A.2 KK d
theorem VS.abd{R:Nat→Prop}{ι:VI}{H:WH}{M:Heap}(s:VS R ι H M)(y:jN):VS R ι H (M.push y)∧Stp H.length [] ι H M ι H (M.push y):=by
 have hk:Keeps M (own ι) (M.push y) (own ι):=⟨Nat.le_succ _,λb hb ho=>⟨by simp[Heap.push,Nat.ne_of_lt hb],ho⟩⟩
 refine⟨⟨λi j h=>?_,s.inj,λi x hx=>?_,s.sF,s.pG,λb hb=>?_,λj h=>⟨by simp only[Heap.push];have:=(s.res j h).1;omega,(s.res j h).2⟩⟩,⟨hk,.refl _ _,λ_ _ h=>h,λ_ _=>rfl,λ_ _=>rfl,λ_ _ _=>rfl,λ_ _ h=>h,λi j _ _ hj _=>?_,Nat.le_refl _⟩⟩
 ·have:=s.lt i j h
  simp only[Heap.push]
  omega
 ·rcases s.blk i x hx with h |⟨j,h1,h2,h3⟩
  ·exact .inl h
  refine .inr ⟨j,h1, ?_,h3⟩
  have:=(s.lt i j h1).2
  simp only[Heap.push,if_neg (show j≠M.next by omega)]
  exact h2.mono (hk.or R) (λ_=>.refl _ _) (λ_ h=>h)
 ·simp only[Heap.push]at hb ⊢
  rw[if_neg (by omega)]
  exact s.Ot b (by omega)
 ·have:=(s.lt i j hj).2
  simp only[Heap.push,if_neg (show j≠M.next by omega)]
def Co(sz bytes:Nat)(zero:List AV):dD:={ nargs:=1,ntmps:=8,code:=(.seq (.reg [{ dst:=(some 2),op:=(.p (.move (.c (.slice none 1 0 0 true)))),guard:=none }]) (.seq (.seq (.reg [{ dst:=(some 3),op:=(.p (.move (.t 0))),guard:=none },{ dst:=(some 4),op:=(.p (.R4 false (.t 3) (.c (.slice none 1 0 0 true)))),guard:=none }]) (.cond (.t 4) (.seq (.reg [{ dst:=(some 2),op:=(.p (.move (.c (.slice none 1 0 0 true)))),guard:=none }]) .ret) .skip)) (.seq (.reg [{ dst:=(some 5),op:=(.k (.buildSlice sz 0 zero [])),guard:=none },{ dst:=(some 6),op:=(.p (.move (.t 0))),guard:=none },{ dst:=(some 7),op:=(.n (.append sz bytes (.t 5) (.t 6))),guard:=none },{ dst:=(some 2),op:=(.p (.move (.t 7))),guard:=none }]) .ret))),results:=[(.tmp 2)] }
theorem SE (C:bH) (K sz bytes:Nat) (zero:List AV) (M:Heap) (sz' len cap:Nat) (ex:Bool) :
  bbody C K (Co sz bytes zero) [.slice none sz' len cap ex] M=some (.slice none 1 0 0 true,M):=by
 simp[bbody,Co,start,List.replicate,List.replicate_succ,pF,pE,pz,sw,Proofs.Ytkedeiklmpkgkaa.o_,pq,uT.sub,jZ.sub,AX.sub,Er,aP,Mr,AX.ev,bM,jI,xI,Dy]
theorem Qf (C:bH) (K sz bytes:Nat) (zero:List AV) (M:Heap) (q:Nat×Nat) (len cap:Nat) (ex:Bool) (n:Nat) (cs:List AV) (he:kC (.slice (some q) sz len cap ex) (M.push (.cells [] false false))=some (n,cs)) (hn:n*bytes≤70368744177664∧n≤70368744177664) :
  bbody C K (Co sz bytes zero) [.slice (some q) sz len cap ex] M=if n=0 then some (.slice (some (M.next,0)) sz 0 0 true,M.push (.cells [] false false))else some (.slice (some (M.next+1,0)) sz n n false,(M.push (.cells [] false false)).push (.cells cs false true)):=by
 have pn:∀(x:jN),(M.push x).next=M.next+1:=λ_=>rfl
 have hap:eO sz bytes (.slice (some (M.next,0)) sz 0 0 true) n cs (M.push (.cells [] false false))=if n=0 then some (.slice (some (M.next,0)) sz 0 0 true,M.push (.cells [] false false))else some (.slice (some (M.next+1,0)) sz n n false,(M.push (.cells [] false false)).push (.cells cs false true)):=by
  unfold eO
  by_cases h0:n=0
  ·subst h0
   simp
  ·simp only
   rw[if_neg (by simp),if_neg (by omega),if_pos (by simpa using hn),if_neg h0]
   simp[pn]
 by_cases h0:n=0
 ·subst h0
  simp only[if_true]at hap ⊢
  simp[bbody,Co,start,List.replicate,List.replicate_succ,pF,pE,pz,sw,uT.sub,jZ.sub,Bh.sub,vO.sub,AX.sub,bM,Proofs.Ytkedeiklmpkgkaa.o_,pq,Er,aP,aK,aN,Mr,AX.ev,jo,nJ,Mk.val,dM,he,hap,jI,xI,Dy]
 ·simp only[if_neg h0]at hap ⊢
  simp[bbody,Co,start,List.replicate,List.replicate_succ,pF,pE,pz,sw,uT.sub,jZ.sub,Bh.sub,vO.sub,AX.sub,bM,Proofs.Ytkedeiklmpkgkaa.o_,pq,Er,aP,aK,aN,Mr,AX.ev,jo,nJ,Mk.val,dM,he,hap,jI,xI,Dy]
theorem OJ{x:AV}{M:Heap}{y:jN}{n:Nat}{cs:List AV}(ok:M.Ok)(h:kC x M=some (n,cs)):kC x (M.push y)=some (n,cs):=by
 unfold kC at h ⊢
 split at h
 ·exact h
 ·split at h
  ·rename_i hl
   rw[if_pos hl]
   exact h
  ·rename_i hl
   rw[if_neg hl]
   obtain⟨c,h1,h2⟩:=aC.1 h
   rw[aC]
   refine⟨c, ?_,h2⟩
   rename_i b _ _ _ _ _
   have hb:M.get b≠none:=λe=>by simp[Heap.read,e]at h1
   have hne:b≠M.next:=λe=>hb (by rw[e];exact ok M.next (Nat.le_refl _))
   have:(M.push y).get b=M.get b:=by simp only[Heap.push,if_neg hne]
   simp only[Heap.read,this]at h1 ⊢
   exact h1
 ·exact h
 ·cases h
theorem SF{T:Tab}{d:Nat}{f:FuncId}{sz bytes:Nat}{zero:List AV}(hG:T.1 f=none)(hT:T.2 f=some (Co sz bytes zero)):Pz (aY T (d+1)) f (.clone sz bytes):=by
 intro R ι H M args as dst tr k s hv h
 simp only[wBt]at h
 split at h
 case h_2=>exact h.elim
 rename_i v
 match as,hv with
 | [],hv=>simp[bL]at hv
 | _::_::_,hv=>simp[bL]at hv
 | [a],hv =>
 simp only[bL]at hv
 replace hv:=hv.1
 have run:aY T (d+1) f [a] M=bbody (aY T d) KK (Co sz bytes zero) [a] M:=by simp only[aY,mE,hG,hT]
 rw[run]
 split at h
 ·exact h.elim
 rename_i hstr
 split at h
 case h_2=>exact h.elim
 rename_i n cs S hel
 obtain⟨_,h⟩:=I7 h
 obtain⟨iN,hf,hk⟩:=iM h
 have hf':=GD hf
 obtain⟨e1,e2,cs',e3,e4⟩:=GH s hv hel
 obtain⟨u1,u2⟩:=s.OA S (Ck hel)
 have hlen:(wR H S).length=H.length:=qE S H
 have hn0:n=0→cs=[]:=λe=>by
  subst e
  rw[Nat.zero_mul]at e2
  exact List.eq_nil_of_length_eq_zero e2
 -- which it is
 have hcase:(∃s' l c x,a=.slice none s' l c x)∨∃q l c x,a=.slice (some q) sz l c x:=by
  cases a with
  | slice p s' l c x =>
   cases p with
   | none=>exact .inl ⟨_,_,_,_,rfl⟩
   | some q =>
    simp[dM]at e1
    subst e1
    exact .inr ⟨_,_,_,_,rfl⟩
  | str t =>
   exfalso
   cases v with
   | str t=>exact hstr t rfl
   | ptr p=>cases p<;>simp[VL]at hv
   | slice p=>cases p<;>simp[VL]at hv
   | map p=>cases p<;>simp[VL]at hv
   | _=>simp_all [VL,Ce]
  | _=>simp[dM]at e1
 rcases hcase with⟨s',l,c,x,rfl⟩ |⟨q,l,c,x,rfl⟩
 ·simp only[kC,av,aI]at e3
  simp only[dM,beq_iff_eq]at e1
  obtain⟨rfl,rfl⟩:=e3
  subst e1
  obtain rfl:=hn0 rfl
  rw[SE]
  obtain⟨bI,q1,q2,q3⟩:=FJ u1 sz 1 none (by simp)
  rw[hlen]at q2 q3
  refine⟨_,M,bI,_,_,[],iN,rfl,q1, ?_,q3,hk⟩
  have:=u2.trans q2 (Nat.le_refl _)
  simpa using this
 ·obtain⟨s1,k1⟩:=u1.abd (.cells [] false false)
  have he':=OJ (y:=.cells [] false false) s.Ot e3
  rw[Qf (aY T d) KK sz bytes zero M q l c x n cs' he' hf']
  by_cases hn:n=0
  ·rw[if_pos hn]
   obtain rfl:=hn0 hn
   subst hn
   obtain⟨bI,q1,q2,q3⟩:=FJ s1 sz sz (some (M.next,0)) (λ_=>rfl)
   rw[hlen]at q2 q3 k1
   refine⟨_,_,bI,_,_,[],iN,rfl,q1, ?_,q3,hk⟩
   have:=(u2.trans k1 (Nat.le_refl _)).trans q2 (Nat.le_refl _)
   simpa using this
  ·rw[if_neg hn]
   have e4':=bL.Lv k1 e4
   obtain⟨bI,q1,q2,q3⟩:=I5 s1 (cs:=cs) (cs':=cs') e4' e2 false true
   rw[hlen]at q2 q3 k1
   refine⟨_,_,bI,_,_,[],iN,rfl,q1, ?_,q3,hk⟩
   have:=(u2.trans k1 (Nat.le_refl _)).trans q2 (Nat.le_refl _)
   simpa using this
def LM(sz:Nat):dD:={ nargs:=1,ntmps:=9,code:=(.seq (.reg [{ dst:=(some 2),op:=(.p (.move (.c (.slice none 1 0 0 true)))),guard:=none }]) (.seq (.reg [{ dst:=(some 3),op:=(.p (.move (.t 0))),guard:=none },{ dst:=(some 4),op:=(.p (.move (.t 0))),guard:=none },{ dst:=(some 5),op:=(.p (.len false (.t 4))),guard:=none },{ dst:=(some 6),op:=(.p (.move (.t 0))),guard:=none },{ dst:=(some 7),op:=(.p (.len false (.t 6))),guard:=none },{ dst:=(some 8),op:=(.p (.slice sz (.t 3) none (some (.t 5)) (some (.t 7)))),guard:=none },{ dst:=(some 2),op:=(.p (.move (.t 8))),guard:=none }]) .ret)),results:=[(.tmp 2)] }
theorem FP (C:bH) (K sz:Nat) (M:Heap) (p:Option (Nat×Nat)) (s' n cap:Nat) (ex:Bool) (hn:n≤cap) (hp:p≠none→s'=sz) :
  bbody C K (LM sz) [.slice p s' n cap ex] M=some (.slice p sz n n true,M):=by
 have hs:iG sz p s' n cap ex [] none (some (.c (.int .i64 n))) (some (.c (.int .i64 n)))=some (.slice p sz n n true):=by
  unfold iG
  rw[if_pos (by cases p with
   | none=>exact .inl rfl
   | some p=>exact .inr (hp (by simp)))]
  have h1:(0:Int)≤n:=by omega
  have h2:(n:Int)≤cap:=by omega
  have h3:jO p 0=p:=by cases p<;>rfl
  simp[bT,lS,AX.ev,h1,h2,h3]
 simp[bbody,LM,start,List.replicate,List.replicate_succ,pF,pE,pz,sw,Proofs.Ytkedeiklmpkgkaa.o_,pq,uT.sub,jZ.sub,AX.sub,AX.gZ,Er,aP,AX.ev,bM,hs,jI,xI,Dy]
theorem OL{T:Tab}{d:Nat}{f:FuncId}{sz:Nat}(hG:T.1 f=none)(hT:T.2 f=some (LM sz)):Pz (aY T (d+1)) f (.clip sz):=by
 intro R ι H M args as dst tr k s hv h
 have run:∀a,aY T (d+1) f [a] M=bbody (aY T d) KK (LM sz) [a] M:=λa=>by simp only[aY,mE,hG,hT]
 simp only[wBt]at h
 split at h
 ·match as,hv with
  | [],hv=>simp[bL]at hv
  | _::_::_,hv=>simp[bL]at hv
  | [a],hv =>
  simp only[bL,VL]at hv
  obtain⟨_,s',rfl⟩:=hv.1
  rw[run,FP (aY T d) KK sz M none _ 0 0 true (Nat.le_refl _) (by simp)]
  exact⟨_,M,ι,_,H,[],tr,rfl,s,.refl _ _ _ _ _ (Nat.le_refl _),by simp[VL],h⟩
 ·match as,hv with
  | [],hv=>simp[bL]at hv
  | _::_::_,hv=>simp[bL]at hv
  | [a],hv =>
  split at h
  case h_2=>exact h.elim
  rename_i e
  obtain rfl:=bg e
  simp only[bL,VL]at hv
  rcases hv.1 with⟨rfl,rfl,s',rfl⟩ |⟨b,o,cap,ex',rfl,h1,h2,h3,h4⟩
  ·rw[run,FP (aY T d) KK _ M none _ 0 0 true (Nat.le_refl _) (by simp)]
   exact⟨_,M,ι,_,H,[],tr,rfl,s,.refl _ _ _ _ _ (Nat.le_refl _),by simp[VL],h⟩
  ·rw[run,FP (aY T d) KK _ M (some (b,o)) _ _ cap ex' h1 (λ_=>rfl)]
   refine⟨_,M,ι,_,H,[],tr,rfl,s,.refl _ _ _ _ _ (Nat.le_refl _), ?_,h⟩
   simp only[VL]
   exact .inr ⟨b,o,_,true,rfl,Nat.le_refl _,λ_=>⟨rfl,rfl⟩,h3,h4⟩
 ·match as,hv with
  | [],hv=>simp[bL]at hv
  | _::_::_,hv=>simp[bL]at hv
  | [a],hv =>
  split at h
  case h_2=>exact h.elim
  rename_i e
  obtain rfl:=bg e
  simp only[bL,VL]at hv
  obtain⟨p,s',cap,ex,rfl,g1,g2,g3,m,L,g4,g5,g6,g7⟩:=hv.1
  rw[run,FP (aY T d) KK _ M p s' _ cap ex g1 g3]
  refine⟨_,M,ι,_,H,[],tr,rfl,s,.refl _ _ _ _ _ (Nat.le_refl _), ?_,h⟩
  simp only[VL]
  refine⟨p,_,_,true,rfl,Nat.le_refl _,λhp=>⟨?_,rfl⟩,λ_=>rfl,m,L,g4,g5,g6, ?_⟩
  ·have:=(g2 hp).1
   omega
  ·rcases g7 with⟨j,q1,q2⟩ |⟨q1,q2,q3,q4,q5⟩
   ·refine .inl ⟨j,q1, ?_⟩
    rcases q2 with⟨q2,q3⟩ |⟨q2,q3,q4⟩
    ·exact .inl ⟨q2,Nat.le_trans (Nat.add_le_add_left (Nat.mul_le_mul_right _ g1) _) q3⟩
    ·exact .inr ⟨q2,q2,rfl⟩
   ·exact .inr ⟨q1,q2,q2,rfl,q5⟩
 ·exact h.elim
abbrev oP(d:Nat)(o:jZ):pX:={ dst:=some d,op:=.p o,guard:=none }
abbrev oV(d s:Nat):pX:={ dst:=some d,op:=.p (.move (.t s)),guard:=none }
abbrev oC(d:Nat)(v:AV):pX:={ dst:=some d,op:=.p (.move (.c v)),guard:=none }
abbrev oN(d:Nat)(o:vO):pX:={ dst:=some d,op:=.n o,guard:=none }
abbrev oZ(o:vO):pX:={ dst:=none,op:=.n o,guard:=none }
abbrev oD(o:pX)(lo ix:Nat):d9:={ o:=o,lo:=lo,ix:=ix }
abbrev iC(n:Int):AX:=.c (.int .i64 n)
def ZV(b:UInt8):AV:=.int .u8 b.toNat
def dS{α:Type}(L:List α)(i:Int):Option α:=if 0≤i then L[i.toNat]? else none
def Ip{α:Type}(L:List α)(lo hi:Int):Option (List α):=if 0≤lo∧lo≤hi∧hi≤(L.length:Int)then some ((L.drop lo.toNat).take (hi.toNat-lo.toNat))else none
def SG(k:IntKind)(x y:Int):Int:=x.fdiv (2 ^ (min y.toNat k.bits))
def XK(k:IntKind)(x y:Int):Option Int:=if y=0 then none else some (x.tmod y)
def U2(k:IntKind)(x y:Int):Option Int:=if y<0 then none else some (k.wrap (x*2 ^ (min y.toNat k.bits)))
structure Row{α:Type}(F:List α→List AV)(e:α→List AV)(sz:Nat):Prop where
 nil:F []=[]
 cons:∀x l,F (x::l)=e x++F l
 len:∀x,(e x).length=sz
def abe{K:Type} [DecidableEq K](kd:Kd)(ck:K→AV):Prop:=∀a b,Ik kd (ck a) (ck b)=some (decide (a=b))
section
variable {K V:Type} [DecidableEq K] {kd:Kd} {ck:K→AV} (hk:abe kd ck) (cv:V→AV)
include hk
end
theorem JJ:∀(a b:List AV),kS a=true→kS b=true→kS (a++b)=true
 | [],_,_,h=>h
 | v::r,b,h,k=>by
  simp only[kS]at h
  split at h
  case h_2=>cases h
  rename_i hv
  simp only[List.cons_append,kS,hv]
  exact JJ r b h k
theorem LP{α:Type}{F:List α→List AV}{e:α→List AV}{sz:Nat}(hF:Row F e sz)(he:∀x,kS (e x)=true):∀l,kS (F l)=true
 | []=>by rw[hF.nil];rfl
 | x::l=>by rw[hF.cons];exact JJ _ _ (he x) (LP hF he l)
theorem M7{α:Type}(c:α→AV):Row (λl=>l.map c) (λx=>[c x]) 1:=⟨rfl,λ_ _=>rfl,λ_=>rfl⟩
theorem JK{α:Type}{e:α→List AV}{sz:Nat}(h:∀x,(e x).length=sz):Row (λl=>l.flatMap e) e sz:=⟨rfl,λ_ _=>rfl,h⟩
section
variable {α:Type} {F:List α→List AV} {e:α→List AV} {sz:Nat} (hF:Row F e sz)
include hF
theorem Row.app:∀a b:List α,F (a++b)=F a++F b
 | [],b=>by simp[hF.nil]
 | x::a,b=>by rw[List.cons_append,hF.cons,hF.cons,Row.app a b,bE]
theorem Row.length:∀l:List α,(F l).length=l.length*sz
 | []=>by simp[hF.nil]
 | x::l=>by rw[hF.cons,aJ,hF.len,Row.length l,bZ,Nat.succ_mul,Nat.add_comm]
theorem Row.drop:∀(l:List α) (n:Nat),(F l).drop (n*sz)=F (l.drop n)
 | l,0=>by simp
 | [],n+1=>by simp[hF.nil]
 | x::l,n+1=>by
  rw[hF.cons,Nat.succ_mul,Nat.add_comm,List.drop_succ_cons,←Row.drop l n,←List.drop_drop,List.drop_left' (hF.len x)]
theorem Row.take:∀(l:List α) (n:Nat),(F l).take (n*sz)=F (l.take n)
 | l,0=>by simp[hF.nil]
 | [],n+1=>by simp[hF.nil]
 | x::l,n+1=>by
  rw[hF.cons,Nat.succ_mul,Nat.add_comm,List.take_succ_cons,hF.cons,←Row.take l n,List.take_append,hF.len,List.take_of_length_le (by rw[hF.len];omega)]
  congr 2
  omega
theorem Row.get{l:List α}{i:Nat}{x:α}(h:l[i]?=some x):(F l).drop (i*sz)=e x++F (l.drop (i+1)):=by
 rw[hF.drop]
 obtain⟨h1,h2⟩:=aM.1 h
 rw[List.drop_eq_getElem_cons h1,h2,hF.cons]
theorem uM{l:List α}{i:Int}{x:α}(h:dS l i=some x):0≤i∧i<(l.length:Int)∧l[i.toNat]?=some x:=by
 unfold dS at h
 split at h
 case isFalse=>cases h
 rename_i h0
 have:=(aM.1 h).1
 exact⟨h0,by omega,h⟩
theorem xM{l r:List α}{a b:Int}(h:Ip l a b=some r):0≤a∧a≤b∧b≤(l.length:Int)∧r=(l.drop a.toNat).take (b.toNat-a.toNat)∧r.length=b.toNat-a.toNat:=by
 unfold Ip at h
 split at h
 case isFalse=>cases h
 rename_i h0
 obtain rfl:=ak h
 refine⟨h0.1,h0.2.1,h0.2.2,rfl, ?_⟩
 simp only[aV,aS]
 omega
theorem aav{l:List α}{i:Int}{x:α}{k:IntKind}{ex:Bool}(h:dS l i=some x):wP (.jE sz (.c (.list sz l.length (F l) ex)) (.c (.int k i)))=some (.elem (e x++F (l.drop (i.toNat+1)))):=by
 obtain⟨h1,h2,h3⟩:=uM hF h
 simp only[wP,AX.ev]
 rw[if_pos ⟨h1,h2,trivial⟩,hF.get h3]
theorem RD{l:List α}{i:Int}{x:α}{k:IntKind}{b:Nat}{w:Bool}(h:dS l i=some x):wP (.jE sz (.c (.acc b 0 sz l.length w)) (.c (.int k i)))=some (.ptr (some (b,0+i.toNat*sz))):=by
 obtain⟨h1,h2,h3⟩:=uM hF h
 simp only[wP,AX.ev]
 rw[if_pos ⟨h1,h2,trivial⟩]
theorem FQ{k:IntKind}{n:Nat}{i:Int}(h1:0≤i)(h2:i≤(n:Int)):lS (.int k i) n=some i.toNat:=by
 simp only[lS]
 rw[if_pos ⟨h1,h2⟩]
theorem XL{l r:List α}{a:Int}{k:IntKind}{ex:Bool}(h:Ip l a l.length=some r):wP (.slice sz (.c (.list sz l.length (F l) ex)) (some (.c (.int k a))) none none)=some (.list sz r.length (F r) false):=by
 obtain⟨h1,h2,h3,h4,h5⟩:=xM hF h
 simp only[wP,AX.ev,ML,if_true,bT,au]
 rw[FQ hF h1 h2,au,hF.drop,hF.take]
 simp only[bC]at h4 h5
 rw[←h4,h5]
theorem XM{l r:List α}{b:Int}{k:IntKind}{ex:Bool}(h:Ip l 0 b=some r):wP (.slice sz (.c (.list sz l.length (F l) ex)) none (some (.c (.int k b))) none)=some (.list sz r.length (F r) false):=by
 obtain⟨h1,h2,h3,h4,h5⟩:=xM hF h
 simp only[wP,AX.ev,ML,if_true,bT]
 rw[FQ hF h2 h3,au,au]
 simp only[Int.toNat_zero,Nat.sub_zero,List.drop_zero,Nat.zero_mul]at h4 h5 ⊢
 rw[hF.take,←h4,h5]
end
theorem M8{α:Type}(l r:List α):l.length+r.length=(l++r).length:=by simp
theorem aaw{k:IntKind}{x y q:Int}(h:XK k x y=some q):zS .rem k x y=some (.int k q):=by
 unfold XK at h
 simp only[zS]
 split at h
 ·cases h
 ·rename_i e
  rw[if_neg e]
  obtain rfl:=ak h
  rfl
theorem U3{s r:List UInt8}{b:Int}{k':IntKind}(h:Ip s 0 b=some r):wP (.lD (.c (.str s)) none (some (.c (.int k' b))))=some (.str r):=by
 obtain⟨h1,h2,h3,h4,h5⟩:=xM (M7 ZV) h
 simp only[wP,aP,AX.ev,xu,bT]
 rw[FQ (M7 ZV) h2 h3,au,au]
 simp only[Int.toNat_zero,Nat.sub_zero,List.drop_zero]at h4 ⊢
 rw[←h4]
theorem ZW{α:Type}{F:List α→List AV}{c:α→AV}(hF:Row F (λx=>[c x]) 1){l:List α}{i:Int}{k:IntKind}{x:α}{n:Nat}(h:dS l i=some x)(hn:n=l.length:=by rfl):wP (.index false n 1 (.c (.agg (F l))) (.c (.int k i)))=some (c x):=by
 subst hn
 obtain⟨h1,h2,h3⟩:=uM hF h
 have:=hF.get h3
 simp only[wP,aP,AX.ev]
 rw[if_pos ⟨h1,h2⟩]
 have e:((F l).drop (i.toNat*1))[0]?=some (c x):=by rw[this];rfl
 rw[List.getElem?_drop]at e
 simp only[wo]
 simpa using e
def nV{α β:Type}:α⊕β→Bool
 |.inl _=>true
 |.inr _=>false
def FR{α β:Type} [Inhabited α]:α⊕β→α
 |.inl x=>x
 |.inr _=>default
def Qg{α β:Type} [Inhabited β]:α⊕β→β
 |.inl _=>default
 |.inr x=>x
theorem abf{α β:Type} [Inhabited α]{e:α⊕β}(h:nV e=true):e=.inl (FR e):=by cases e<;>simp_all [nV,FR]
theorem abg{α β:Type} [Inhabited β]{e:α⊕β}(h:nV e=false):e=.inr (Qg e):=by cases e<;>simp_all [nV,Qg]
instance aax{α β:Type} [Inhabited α]:Inhabited (α⊕β):=⟨.inl default⟩
theorem LQ:∀(n:Nat) {a b l:List AV},Cc n a=some l→Cc n (a++b)=some l
 | 0,_,_,_,h=>by simpa[Cc]using h
 | n+1,[],_,_,h=>by simp[Cc]at h
 | n+1,c::a,b,l,h=>by
  simp only[Cc,List.cons_append]at h ⊢
  split at h
  ·rename_i l' hl
   rw[LQ n hl]
   exact h
  ·cases h
theorem RF:∀ {a b:List AV} (o:Nat) {v:AV},Rj a o=some v→Rj (a++b) o=some v
 | [],_,_,_,h=>by simp[Rj]at h
 | c::a,b,0,v,h=>by simpa[Rj]using h
 | c::a,b,o+1,v,h=>by
  simp only[Rj,List.cons_append]at h ⊢
  exact RF o h
theorem OM:∀(c:List AV) (n o:Nat),Rj c (n+o)=Rj (c.drop n) o
 | c,0,o=>by simp
 | [],n+1,o=>by
  simp only[List.drop_nil]
  cases (n+1+o)<;>cases o<;>simp[Rj]
 | x::c,n+1,o=>by
  rw[Nat.add_right_comm,List.drop_succ_cons,←OM c n o]
  rfl
theorem LU{a b:List AV}{agg:Bool}{o n:Nat}{v:AV}(h:qB agg o n a=some v):qB agg o n (a++b)=some v:=by
 cases agg with
 | false=>exact RF o h
 | true =>
  simp only[qB]at h ⊢
  rw[List.drop_append]
  split at h
  ·rename_i l hl
   rw[LQ n hl]
   exact h
  ·cases h
theorem A9{c:List AV}{agg:Bool}{m o n:Nat}:qB agg (m+o) n c=qB agg o n (c.drop m):=by
 cases agg with
 | false=>exact OM c m o
 | true=>simp only[qB,List.drop_drop]
section
variable {α:Type} {F:List α→List AV} {e:α→List AV} {sz:Nat} (hF:Row F e sz)
include hF
theorem U4{l:List α}{i:Int}{x:α}{agg:Bool}{o n:Nat}{v:AV}(h:dS l i=some x)(hv:qB agg o n (e x)=some v):qB agg (0+i.toNat*sz+o) n (F l)=some v:=by
 obtain⟨h1,h2,h3⟩:=uM hF h
 rw[Nat.zero_add,A9,hF.get h3]
 exact LU hv
theorem RG{a b b' c cs:List AV}{o:Nat}(h:H6 b o cs=some b'):H6 (a++(b++c)) (a.length+o) cs=some (a++(b'++c)):=by
 unfold H6 at h ⊢
 split at h
 case isFalse=>cases h
 rename_i hl
 obtain rfl:=ak h
 rw[if_pos (by simp only[aJ];omega)]
 congr 1
 have e1:(a++(b++c)).take (a.length+o)=a++b.take o:=by
  rw[List.take_length_add_append,List.take_append_of_le_length (by omega)]
 have e2:(a++(b++c)).drop (a.length+o+cs.length)=b.drop (o+cs.length)++c:=by
  rw[Nat.add_assoc,List.drop_length_add_append,List.drop_append_of_le_length (by omega)]
 rw[e1,e2]
 simp
theorem zu{l:List α}{i:Int}{x x':α}{o:Nat}{cs:List AV}(h:dS l i=some x)(hx:H6 (e x) o cs=some (e x')):H6 (F l) (0+i.toNat*sz+o) cs=some (F (l.set i.toNat x')):=by
 obtain⟨h1,h2,h3⟩:=uM hF h
 obtain⟨g1,g2⟩:=aM.1 h3
 have e0:F l=F (l.take i.toNat)++(e x++F (l.drop (i.toNat+1))):=by
  rw[←hF.get h3,←hF.take,List.take_append_drop]
 have e1:F (l.set i.toNat x')=F (l.take i.toNat)++(e x'++F (l.drop (i.toNat+1))):=by
  rw[←hF.cons,←hF.app,List.set_eq_take_append_cons_drop,if_pos g1]
 have e2:(F (l.take i.toNat)).length=i.toNat*sz:=by
  rw[hF.length,aV]
  congr 1
  omega
 rw[e0,e1,Nat.zero_add,←e2]
 exact RG hF hx
theorem FT{l r:List α}{a b:Int}(h:Ip l a b=some r):((F l).drop (0+a.toNat*sz)).take (r.length*sz)=F r:=by
 obtain⟨h1,h2,h3,h4,h5⟩:=xM hF h
 rw[Nat.zero_add,hF.drop,hF.take,h5,←h4]
theorem j6{l r:List α}{b:Int}(h:Ip l 0 b=some r):((F l).drop 0).take (r.length*sz)=F r:=by
 obtain⟨h1,h2,h3,h4,h5⟩:=xM hF h
 simp only[Int.toNat_zero,List.drop_zero]at h4 h5 ⊢
 rw[hF.take,h5,←h4]
theorem mY{l r:List α}{b:Int}(h:Ip l 0 b=some r):(F l).take (r.length*sz)=F r:=by
 have:=j6 hF h
 rwa [List.drop_zero]at this
theorem OO{l r:List α}{a:Int}{k:IntKind}{m:Nat}{w:Bool}(h:Ip l a l.length=some r):wP (.slice sz (.c (.acc m 0 sz l.length w)) (some (.c (.int k a))) none none)=some (.acc m (0+a.toNat*sz) sz r.length false):=by
 obtain⟨h1,h2,h3,h4,h5⟩:=xM hF h
 simp only[wP,AX.ev,yR,if_true,bT,au]
 rw[FQ hF h1 h2,au]
 simp only[bC]at h5
 rw[h5]
theorem OP{l r:List α}{b:Int}{k:IntKind}{m:Nat}{w:Bool}(h:Ip l 0 b=some r):wP (.slice sz (.c (.acc m 0 sz l.length w)) none (some (.c (.int k b))) none)=some (.acc m 0 sz r.length false):=by
 obtain⟨h1,h2,h3,h4,h5⟩:=xM hF h
 simp only[wP,AX.ev,yR,if_true,bT]
 rw[FQ hF h2 h3,au,au]
 simp only[Int.toNat_zero,Nat.sub_zero]at h5
 rw[h5,Nat.zero_mul,Nat.sub_zero]
end
abbrev fA(f:Fast→Heap→Io)(np:Nat)(i:Fast×WH)(o:Ex×Fast×WH):Prop:=PZ f np i.1 i.2 o.1 o.2.1 o.2.2
abbrev yt(keep:List Nat)(p:List AV×WH):Fast×WH:=(iX keep p.1,p.2)
theorem aay{k k':IntKind}{x y q:Int}(h:U2 k x y=some q):Ij .shl (.int k x) (.int k' y)=some (.int k q):=by
 unfold U2 at h
 simp only[Ij]
 split at h
 ·cases h
 ·rename_i e
  rw[if_neg e]
  obtain rfl:=ak h
  rfl
def vS{α:Type}(l:List α)(i:Int)(x:α):List α:=l.take i.toNat++(x::l.drop i.toNat)
def M9(bytes:Nat)(i:Int)(n:Nat):Bool:=decide (0≤i∧i≤(n:Int))&&fu bytes (n+1)
theorem Qh{bytes n:Nat}{i:Int}(h:M9 bytes i n=true):0≤i∧i≤(n:Int):=by
 simp only[M9,Bool.and_eq_true,decide_eq_true_eq]at h
 exact h.1
theorem Qi{bytes:Nat}{i:Int}{α:Type}{l:List α}{x:α}(h:M9 bytes i l.length=true):l.length+1=(vS l i x).length:=by
 have:=Qh h
 simp only[vS,aJ,aV,bZ,aS]
 omega
theorem U5{bytes:Nat}{i:Int}{α:Type}{l:List α}{x:α}(h:M9 bytes i l.length=true):fu bytes (vS l i x).length=true:=by
 rw[←Qi h]
 simp only[M9,Bool.and_eq_true]at h
 exact h.2
theorem RH{α:Type}{F:List α→List AV}{e:α→List AV}{sz:Nat}(hF:Row F e sz){l:List α}{i:Int}{x:α}{cs:List AV}(h:cs=e x):(F l).take (i.toNat*sz)++(cs++(F l).drop (i.toNat*sz))=F (vS l i x):=by
 subst h
 unfold vS
 rw[hF.app,hF.cons,hF.take,hF.drop]
def zw{α:Type}(l:List α)(i j:Int):List α:=l.take i.toNat++l.drop j.toNat
def SH(i j:Int)(n:Nat):Bool:=decide (0≤i∧i<j∧j≤(n:Int))
theorem Qj{n:Nat}{i j:Int}(h:SH i j n=true):0≤i∧i<j∧j≤(n:Int):=of_decide_eq_true h
theorem U6{i j:Int}{α:Type}{l:List α}(h:SH i j l.length=true):l.length-(j.toNat-i.toNat)=(zw l i j).length:=by
 have:=Qj h
 simp only[zw,aJ,aV,aS]
 omega
theorem RI{α:Type}{F:List α→List AV}{e:α→List AV}{sz:Nat}(hF:Row F e sz){l:List α}{i j:Int}:(F l).take (i.toNat*sz)++(F l).drop (j.toNat*sz)=F (zw l i j):=by
 unfold zw
 rw[hF.app,hF.take,hF.drop]
theorem GR{α:Type}{n sz b off:Nat}{k:IntKind}{l:List α}{i:Int}{x:α}(h:dS l i=some x)(hn:l.length=n):wP (.l5 n sz (.c (.ptr (some (b,off)))) (.c (.int k i)))=some (.ptr (some (b,off+i.toNat*sz))):=by
 have h1:0≤i∧i<(n:Int):=by
  unfold dS at h
  split at h
  ·have:=(aM.1 h).1
   omega
  ·cases h
 simp only[wP,AX.ev,aP]
 rw[if_pos h1]
section
variable {α:Type} {F:List α→List AV} {e:α→List AV} {sz:Nat} (hF:Row F e sz)
include hF
theorem M_{l:List α}{i:Int}{x:α}{agg:Bool}{o n p:Nat}{v:AV}{whole:List AV}(h:dS l i=some x)(hw:(whole.drop p).take (l.length*sz)=F l)(hv:qB agg o n (e x)=some v):qB agg (p+i.toNat*sz+o) n whole=some v:=by
 have h1:=U4 hF h hv
 rw[←hw]at h1
 rw[Nat.zero_add]at h1
 have e1:whole=whole.take p++((whole.drop p).take (l.length*sz)++(whole.drop p).drop (l.length*sz)):=by rw[List.take_append_drop,List.take_append_drop]
 rw[A9]at h1
 rw[show p+i.toNat*sz+o=p+(i.toNat*sz+o)from Nat.add_assoc _ _ _,A9]
 have h2:=LU (b:=(whole.drop p).drop (l.length*sz)) h1
 obtain⟨g1,g2,g3⟩:=uM hF h
 have hl:(whole.drop p).take (l.length*sz)=F l:=hw
 have hlen:((whole.drop p).take (l.length*sz)).length=l.length*sz:=by rw[hl,hF.length]
 have hi:i.toNat*sz≤l.length*sz:=Nat.mul_le_mul_right _ (by omega)
 rw[←List.drop_append_of_le_length (by omega),List.take_append_drop,List.drop_drop]at h2
 rw[A9,List.drop_drop]
 exact h2
theorem U7 {l l':List α} {i:Int} {x x':α} {o p:Nat} {cs whole after:List AV} (h:dS l i=some x) (hl:l'=l.set i.toNat x') (hx:H6 (e x) o cs=some (e x')) (hp:p≤whole.length) (hw:(whole.drop p).take (l.length*sz)=F l) (ha:after=whole.take p++(F l'++whole.drop (p+l.length*sz))) :
  H6 whole (p+i.toNat*sz+o) cs=some after:=by
 have h1:=zu hF h hx
 rw[Nat.zero_add]at h1
 have h2:=RG (a:=whole.take p) (c:=whole.drop (p+l.length*sz)) hF h1
 have e1:whole=whole.take p++(F l++whole.drop (p+l.length*sz)):=by
  rw[←hw,←List.drop_drop,List.take_append_drop,List.take_append_drop]
 rw[←e1,aV,Nat.min_eq_left hp,←hl,←ha]at h2
 rw[Nat.add_assoc]
 exact h2
end
theorem U8{α:Type}{F:List α→List AV}{e:α→List AV}{sz:Nat}(hF:Row F e sz){l:List α}{i:Int}{k:IntKind}{x:α}{n:Nat}(h:dS l i=some x)(hn:n=l.length:=by rfl):wP (.index true n sz (.c (.agg (F l))) (.c (.int k i)))=some (.agg (e x)):=by
 subst hn
 obtain⟨h1,h2,h3⟩:=uM hF h
 have:=hF.get h3
 simp only[wP,aP,AX.ev]
 rw[if_pos ⟨h1,h2⟩]
 simp only[wo,if_true]
 rw[this,List.take_left' (hF.len x)]
theorem nB{C:bH}(f:FuncId)(b:Bt)(h:(λ_=>none:FuncId→Option Bt) f=some b):Pz C f b:=by cases h
theorem il{α β:Type} [Inhabited α]{e:α⊕β}(h:nV e=true):e=.inl (FR e):=abf h
theorem Iq{α β:Type} [Inhabited β]{e:α⊕β}(h:nV e=false):e=.inr (Qg e):=abg h
theorem wC{β:Type}{fin:β→Ex×Fast×WH}{r r':β}(e:r=r'){f:Fast→Heap→Io}{np:Nat}{i:Fast×WH}(h:fA f np i (fin r)):fA f np i (fin r'):=e ▸ h
def codeOf:Option dD→dI
 | some f=>f.code
 | none=>.fail
def cA:dI→dI
 |.seq a _=>a
 | c=>c
def cB:dI→dI
 |.seq _ b=>b
 | c=>c
def cT:dI→dI
 |.cond _ a _=>a
 | c=>c
def cF:dI→dI
 |.cond _ _ b=>b
 | c=>c
def cK:dI→dI
 |.block _ c=>c
 | c=>c
def cL:dI→dI
 |.loop _ c=>c
 | c=>c
def En(keep:List Nat):Lf:=.en keep (keep.map λ_=>none) [] []
def E0{Q:Type}{v:Q}(keep:List Nat):Tc (some v):=.leaf (En keep) v
def E1{Q:Type}{v:Q}(keep:List Nat)(ms bs:List (Option Bool))(ts:List AV):Tc (some v):=.leaf (.en keep ms bs ts) v
def Fn{Q:Type}{v:Q}(m:Option Bool)(ts:List AV)(mc:Option Bool):Tc (some v):=.leaf (.fin m ts mc) v
def Fo:Option Bool:=some false
def Tw:Option Bool:=some true
def uh{G:MJ}{T:FuncId→Option dD}{f:FuncId}{x:dD}(hG:G f=none)(hT:T f=some x)(hc:x.code.cZ=true):G f=none∧T f=some x∧x.code.cZ=true:=⟨hG,hT,hc⟩
section
variable {Q:Type} {f:Option Q}
section
variable {α:Type} {F:List α→List AV} {e:α→List AV} {sz:Nat} (hF:Row F e sz) {l r:List α} {i j:Int} {x:α}
def Ix(d:Nat)(h:dS l i=some x)(k:Tc f):Tc f:=.v d (.elem (e x++F (l.drop (i.toNat+1)))) (.ob (aav (k:=.i64) (ex:=false) hF h) k)
def Si(d:Nat)(h:Ip l 0 j=some r)(k:Tc f):Tc f:=.v d (.list sz r.length (F r) false) (.ob (XM (k:=.i64) (ex:=false) hF h) k)
def Sl(d:Nat)(h:Ip l i l.length=some r)(k:Tc f):Tc f:=.v d (.list sz r.length (F r) false) (.ob (XL (k:=.i64) (ex:=false) hF h) k)
def Ia(d b:Nat)(h:dS l i=some x)(k:Tc f):Tc f:=.v d (.ptr (some (b,0+i.toNat*sz))) (.ob (RD (k:=.i64) (b:=b) (w:=true) hF h) k)
def Ld(d:Nat)(agg:Bool)(n o:Nat)(h:dS l i=some x)(u:AV)(hv:qB agg o n (e x)=some u)(k:Tc f):Tc f:=.v d u (.ob (U4 hF h hv) k)
def Ap(d:Nat){b:Nat}(h:fu b (l++r).length=true)(k:Tc f):Tc f:=.ap d (l++r).length (F (l++r)) (.ob (M8 l r) (.ob (Row.app hF l r).symm (.ob h k)))
end
def ZX{α:Type}{F:List α→List AV}{e:α→List AV}{sz:Nat}(_:Row F e sz)(d:Nat){r:List α}{b:Nat}(h:fu b r.length=true)(k:Tc f):Tc f:=.ap d r.length (F r) (.ob (Nat.zero_add r.length) (.ob (@rfl _ (F r)) (.ob h k)))
def Cl(ms:List (Option Bool))(m:Option Bool)(ts:List AV){C:bH}{g:FuncId}{args:List AV}{blks:WH}{v:AV}{out:WH}(h:Spec C g args blks v out)(r:Tc f):Tc f:=.call ms m ts v out (.ob h r)
def U9{C:bH}{g:FuncId}{args:List AV}{blks:WH}{v:AV}{out:WH}(h:Spec C g args blks v out)(r:Tc f):Tc f:=.call [] none [] v out (.ob h r)
def Cb(ts:List AV){C:bH}{g:FuncId}{args:List AV}{blks:WH}{v:AV}{out:WH}(h:Spec C g args blks v out)(r:Tc f):Tc f:=.cb [] ts v (.ob h r)
def wT{C:bH}{g:FuncId}{args:List AV}{blks:WH}{v:AV}{out:WH}(h:Spec C g args blks v out)(r:Tc f):Tc f:=.cb [] [] v (.ob h r)
def Ln(ms:List (Option Bool))(ls:List Bool)(ts:List AV){C:bH}{g:FuncId}{args:List AV}{blks:WH}{v:AV}{out:WH}(k:Tc f→Tc f)(h:Spec C g args blks v out)(r:Tc f):Tc f:=.cl ms ls ts v out (k (.ob h r))
def Lp(ms bs:List (Option Bool))(ts:List AV){run:Fast→Heap→Io}{np:Nat}{i:Fast×WH}{o:Ex×Fast×WH}(h:fA run np i o)(r:Tc f):Tc f:=.lp ms bs ts o.1 o.2.1 o.2.2 (.ob h r)
def Jn(keep:List Nat)(ms bs:List (Option Bool))(ts:List AV){run:Fast→Heap→Io}{np:Nat}{i:Fast×WH}{o:Ex×Fast×WH}(h:fA run np i o)(r:Tc f):Tc f:=.jn keep ms bs ts o.1 o.2.1 o.2.2 (.ob h r)
end
structure Rt(s:Sh){α:Type}(e:α→List AV)(bk:α→Nat)(ok:α→Prop):Prop where
 rd:∀d,D.is s d→∃x,encS s d=e x∧bk x≤D.bulk d∧ok x
 sz:∀x,(e x).length=uL s
abbrev W9(x:Int):Prop:=-9223372036854775808≤x∧x≤9223372036854775807
abbrev eI(x:Int):List AV:=[.int .i64 x]
abbrev eS(x:List UInt8):List AV:=[.str x]
abbrev bk1{α:Type}(_:α):Nat:=1
abbrev bkS(x:List UInt8):Nat:=x.length+1
abbrev okT{α:Type}(_:α):Prop:=True
def bkL{α:Type}(bk:α→Nat)(l:List α):Nat:=(l.map bk).sum+1
def okL{α:Type}(ok:α→Prop)(l:List α):Prop:=∀x∈l,ok x
theorem Na:Rt (.int .i64) eI bk1 W9:=⟨λd h=>by
 obtain⟨n,rfl,h1,h2⟩:=h
 exact⟨n,rfl,by simp[D.bulk],h1,h2⟩,λ_=>rfl⟩
theorem abZ:Rt .str eS bkS okT:=⟨λd h=>by
 obtain⟨s,rfl⟩:=h
 exact⟨s,rfl,by simp[D.bulk],trivial⟩,λ_=>rfl⟩
theorem abh {s:Sh} {α:Type} {e:α→List AV} {bk:α→Nat} {ok:α→Prop} {F:List α→List AV} {n:Nat} (r:Rt s e bk ok) (hF:Row F e n) (hn:uL s=n) :
  Rt (.list s) (λl=>[.list n l.length (F l) false]) (bkL bk) (okL ok):=⟨λd h=>by
 obtain⟨l,rfl,h⟩:=h
 have key:∀l:List D,(∀d∈l,D.is s d)→∃x:List α,x.length=l.length∧M5 s l=x.flatMap e∧(x.map bk).sum≤D.wu l∧∀y∈x,ok y:=by
  intro l
  induction l with
  | nil=>intro _;exact⟨[],rfl,rfl,by simp[D.wu],by simp⟩
  | cons d r' ih =>
   intro h
   obtain⟨y,h1,h2,h3⟩:=r.rd d (h d (by simp))
   obtain⟨x,q0,q1,q2,q3⟩:=ih λz hz=>h z (by simp[hz])
   refine⟨y::x,by simp[q0],by simp only[M5,h1,q1,List.flatMap_cons],by simp only[List.map_cons,List.sum_cons,D.wu];omega, ?_⟩
   intro z hz
   rcases List.mem_cons.1 hz with rfl | hz
   ·exact h3
   ·exact q3 z hz
 obtain⟨x,q0,q1,q2,q3⟩:=key l h
 refine⟨x, ?_,by simp only[bkL,D.bulk];omega,q3⟩
 have hr:F x=x.flatMap e:=by
  clear q0 q1 q2 q3
  induction x with
  | nil=>rw[hF.nil];rfl
  | cons y x ih=>rw[hF.cons,ih,List.flatMap_cons]
 simp only[encS,q0,q1,hn,hr],λ_=>rfl⟩
theorem abj {ss:List Sh} {α:Type} {e:α→List AV} {bk:α→Nat} {ok:α→Prop} (sz:∀x,(e x).length=wS ss)
  (h:∀l,D.are ss l→∃x,Ef ss l=e x∧bk x≤D.wu l+1∧ok x):Rt (.agg ss) e bk ok:=⟨λd h0=>by
 obtain⟨l,rfl,hl⟩:=h0
 obtain⟨x,h1,h2,h3⟩:=h l hl
 exact⟨x,h1,h2,h3⟩,sz⟩
theorem lq {s:Sh} {ss:List Sh} {α:Type} {e:α→List AV} {bk:α→Nat} {ok:α→Prop} (r:Rt s e bk ok) {ds:List D} (h:D.are (s::ss) ds) :
  ∃d q,ds=d::q∧D.are ss q∧∃x,encS s d=e x∧bk x≤D.bulk d∧ok x:=by
 obtain⟨d,q,h1,h2,h3⟩:=Uv h
 exact⟨d,q,h1,h3,r.rd d h2⟩
theorem XO{α:Type}{bk:α→Nat}(h:∀x,1≤bk x)(l:List α):l.length+1≤bkL bk l:=by
 have:l.length≤(l.map bk).sum:=by
  induction l with
  | nil=>simp
  | cons y l ih =>
   have:=h y
   simp only[List.map_cons,List.sum_cons,bZ]
   omega
 unfold bkL
 omega
end Go.Proofs.Ytkedeiklmpkgkaa
