import Derived.Test.YtkedeiklmpkgkaaJ3
set_option linter.all false
namespace Go.Proofs.Ytkedeiklmpkgkaa
def NR(R:Nat→Prop)(ι:VI)(H:WH)(M:Heap)(v:AV)(H':WH)(a:AV):Prop:=∃aV,VS R aV H' M∧Stp H.length [] ι H M aV H' M∧VL M (OR R aV) aV v a
def RV(R:Nat→Prop)(ι:VI)(H:WH)(M:Heap)(v:List AV)(H':WH)(a:List AV):Prop:=∃aV,VS R aV H' M∧Stp H.length [] ι H M aV H' M∧aZ M (OR R aV) aV v a
theorem NR.quiet{R:Nat→Prop}{ι:VI}{H:WH}{M:Heap}(s:VS R ι H M){v a:AV}(h:VL M (OR R ι) ι v a):NR R ι H M v H a:=⟨ι,s,.refl _ _ _ _ _ (Nat.le_refl _),h⟩
theorem ze {R:Nat→Prop} {ι:VI} {H:WH} {M:Heap} (s:VS R ι H M) {cs cs':List AV} (h:aZ M (OR R ι) VI.none cs cs') {sz n:Nat} (hl:cs.length=n*sz) (ex sl:Bool) :
  ∃aV,VS R aV (H++[some (.cells cs false true)]) (M.push (.cells cs' false sl))∧Stp H.length [] ι H M aV (H++[some (.cells cs false true)]) (M.push (.cells cs' false sl)) ∧
   VL (M.push (.cells cs' false sl)) (OR R aV) aV (.acc H.length 0 sz n true) (.slice (some (M.next,0)) sz n n ex):=by
 have hl':=h.length
 obtain⟨h1,h2⟩:=s.push (x:=.cells cs false true) (y:=.cells cs' false sl) (d:=(cs.length,cs'.length)) ⟨cs',[],false,sl,cs'.length,by simp,λ_=>rfl,rfl,by simp,by simpa using h,λh=>by cases h⟩
 refine⟨_,h1,h2, ?_⟩
 simp only[VL]
 refine⟨_,_,_,_,rfl,Nat.le_refl _,(λh=>by cases h),λ_=>rfl,cs.length,cs'.length,by simp[VI.add,setAt],by omega,λ_=>⟨trivial,hl.symm⟩,.inl ⟨M.next,by simp[VI.add,setAt],.inl ⟨rfl,by omega⟩⟩⟩
theorem vT {R:Nat→Prop} {ι:VI} {H:WH} {M:Heap} (s:VS R ι H M) (sz s':Nat) (p:Option (Nat×Nat)) (hp:p≠none→s'=sz) :
  ∃aV,VS R aV (H++[some (.cells [] false true)]) M∧Stp H.length [] ι H M aV (H++[some (.cells [] false true)]) M∧VL M (OR R aV) aV (.acc H.length 0 sz 0 true) (.slice p s' 0 0 true):=by
 obtain⟨h1,h2⟩:=s.MR
 refine⟨_,h1,h2, ?_⟩
 simp only[VL]
 exact⟨_,_,_,_,rfl,Nat.le_refl _,by simp,hp,0,0,by simp[VI.dI,setAt],by omega,by simp,.inr ⟨by simp[VI.dI,setAt],by simp⟩⟩
theorem zf {R:Nat→Prop} {ι:VI} {H:WH} {M:Heap} (s:VS R ι H M) {b j:Nat} (hb:ι b=some j) {c0:List AV} {sl0:Bool} (hg:bD H b=some (.cells c0 false sl0)) {cs cs' t:List AV} {ro sl:Bool} {L:Nat}
  (hj:M.get j=some (.cells (cs'++t) ro sl)) (hro:ro=false) (h:aZ M (OR R ι) VI.none cs cs') (hL:L≤(cs'++t).length) {sz n cap:Nat} (hl:cs.length=n*sz) {p:Option (Nat×Nat)} {s':Nat} {ex:Bool} (hn:n≤cap) (hnp:p=none→cap=0∧ex=true) (hs:p≠none→s'=sz)
  (hp:(p=some (j,0)∧cap*sz≤L)∨(n=0∧cap=0∧ex=true)) :
  ∃aV,VS R aV (dH H b none++[some (.cells cs false true)]) M∧Stp H.length [b] ι H M aV (dH H b none++[some (.cells cs false true)]) M∧VL M (OR R aV) aV (.acc H.length 0 sz n true) (.slice p s' n cap ex):=by
 obtain⟨h1,h2,h3⟩:=s.swap hb hg (x:=.cells cs false true) (y:=.cells (cs'++t) ro sl) (d:=(cs.length,L)) ⟨cs',t,ro,sl,L,rfl,λ_=>hro,rfl,hL,by simpa using h⟩
 rw[Heap.vN hj]at h1 h2
 refine⟨_,h1,h2, ?_⟩
 simp only[VL]
 exact⟨_,_,_,_,rfl,hn,hnp,hs,cs.length,L,by simp[VI.add,setAt],by omega,λ_=>⟨trivial,hl.symm⟩,.inl ⟨j,h3,hp.imp (λh=>⟨h.1,by omega⟩) (λh=>h)⟩⟩
theorem Stp.still{n:Nat}{t t':List Nat}{ι fU:VI}{H H1:WH}{M:Heap}(h:Stp n t ι H M fU H1 M):Stp n t' ι H M fU H1 M :=
 ⟨h.keep,h.le,h.gone,h.OE,h.FV,h.BH,h.live,λ_ _ _ _ _ _=>rfl,h.next⟩
theorem MS {R:Nat→Prop} {ι:VI} {H:WH} {M:Heap} (s:VS R ι H M) {b sz n:Nat} {w:Bool} {a:AV} (h:VL M (OR R ι) ι (.acc b 0 sz n w) a) {c:List AV} (hg:bD H b=some (.cells c false true)) :
  NR R ι H M (.acc H.length 0 sz n true) (dH H b none++[some (.cells (c.take (n*sz)) false true)]) a:=by
 obtain⟨k1,k2,p,s',cap,ex,rfl,k3,k4,k5⟩:=VL.jR s h hg
 simp only[Nat.zero_add]at k1
 have hnp:p=none→cap=0∧ex=true:=by
  simp only[VL]at h
  obtain⟨_,_,_,_,e,_,q,_⟩:=h
  simp only[AV.slice.injEq]at e
  obtain⟨rfl,rfl,_,rfl,rfl⟩:=e
  exact q
 have hlt:(c.take (n*sz)).length=n*sz:=by simp only[aQ];omega
 have part:∀ {c' t:List AV},(c'.take (n*sz))++(c'.drop (n*sz)++t)=c'++t:=λ{c' t}=>by rw[←aY,List.take_append_drop]
 rcases k5 with⟨j,c',t,ro',sl',L,g1,g2,g3,g4,g5,g6,rfl,g7⟩ |⟨rfl,rfl,rfl,⟨j,c',t,ro',sl',L,g1,g2,g3,g4,g5,g6⟩ |⟨g1,rfl,_⟩⟩
 ·simp only[if_true]at g6
  obtain⟨aV,q1,q2,q3⟩:=zf s g1 hg (cs:=c.take (n*sz)) (cs':=c'.take (n*sz)) (t:=c'.drop (n*sz)++t) (by rw[part];exact g2) (g3 rfl).1 (g6.take _) (by rw[part];exact g5) hlt k3 hnp k4 (.inl ⟨rfl,by omega⟩)
  exact⟨aV,q1,q2.still,q3⟩
 ·simp only[if_true]at g6
  obtain⟨aV,q1,q2,q3⟩:=zf s g1 hg (cs:=c.take (0*sz)) (cs':=c'.take (0*sz)) (t:=c'.drop (0*sz)++t) (by rw[part];exact g2) (g3 rfl).1 (g6.take _) (by rw[part];exact g5) hlt k3 hnp k4 (.inr ⟨rfl,rfl,rfl⟩)
  exact⟨aV,q1,q2.still,q3⟩
 ·obtain⟨h1,h2⟩:=s.G8 g1
  obtain⟨aV,q1,q2,q3⟩:=vT h1 sz s' p k4
  rw[bQ]at q2 q3
  refine⟨aV,by simpa using q1, ?_,q3⟩
  have:=h2.trans q2 (Nat.le_refl _)
  simpa using this.still
mutual
theorem Hg{R:Nat→Prop}(v:AV)(H:WH)(ι:VI)(M:Heap)(a:AV)(s:VS R ι H M)(h:VL M (OR R ι) ι v a):NR R ι H M (Iw v H).1 (Iw v H).2 a:=by
 rw[Iw.eq_def]
 split
 ·simp only[VL]at h
  obtain⟨_,s',rfl⟩:=h
  exact vT s _ s' none (λh=>absurd rfl h)
 ·split
  ·rename_i w _ c hg
   have ht:=MS s h hg
   cases w with
   | false=>exact ht
   | true =>
    have hc:=(VL.jR s h hg).2.1 rfl
    simp only[OD]
    rw[List.take_of_length_le (by omega)]at ht
    exact ht
  ·exact NR.quiet s h
 ·rename_i cs
  simp only[VL]at h
  obtain⟨cs',rfl,h⟩:=h
  obtain⟨aV,h1,h2,h3⟩:=zV cs H ι M cs' s h
  split
  rename_i l H' e
  rw[e]at h1 h2 h3
  exact⟨aV,h1,h2,by simp only[VL];exact⟨cs',rfl,h3⟩⟩
 ·rename_i cs
  simp only[VL]at h
  obtain⟨cs',rfl,h⟩:=h
  obtain⟨aV,h1,h2,h3⟩:=zV cs H ι M cs' s h
  split
  rename_i l H' e
  rw[e]at h1 h2 h3
  exact⟨aV,h1,h2,by simp only[VL];exact⟨cs',rfl,h3⟩⟩
 ·exact NR.quiet s h
termination_by SizeOf.sizeOf v
theorem zV{R:Nat→Prop}(v:List AV)(H:WH)(ι:VI)(M:Heap)(a:List AV)(s:VS R ι H M)(h:aZ M (OR R ι) ι v a):RV R ι H M (BD v H).1 (BD v H).2 a:=by
 rw[BD.eq_def]
 split
 ·exact⟨ι,s,.refl _ _ _ _ _ (Nat.le_refl _),h⟩
 ·rename_i v r
  cases a with
  | nil=>simp[aZ]at h
  | cons a l =>
   simp only[aZ]at h
   obtain⟨fU,h1,h2,h3⟩:=Hg v H ι M a s h.1
   obtain⟨lJ,k1,k2,k3⟩:=zV r (Iw v H).2 fU M l h1 (aZ.step s h2 h.2)
   split
   rename_i x1 x2 e
   rw[e]at h1 h2 h3 k1 k2 k3
   split
   rename_i y1 y2 e'
   rw[e']at k1 k2 k3
   refine⟨lJ,k1, ?_,by simp only[aZ];exact⟨VL.step h1 k2 h3,k3⟩⟩
   have:=h2.trans k2 h2.next
   simpa using this
termination_by SizeOf.sizeOf v
end
theorem F4{R:Nat→Prop}(m:Option Bool){v:AV}{H:WH}{ι:VI}{M:Heap}{a:AV}(s:VS R ι H M)(h:VL M (OR R ι) ι v a):NR R ι H M (PE m v H).1 (PE m v H).2 a:=by
 match m with
 | none=>exact NR.quiet s h
 | some true=>exact Hg v H ι M a s h
 | some false =>
  simp only[PE]
  split
  case h_2=>exact NR.quiet s h
  rename_i p hp
  obtain⟨h1,h2⟩:=s.Ev p.2 (iH 5 false v p hp)
  refine⟨_,h1,h2, ?_⟩
  have:=C8 s (O':=OR R (ι.jm p.2)) (λj h=>h.imp vQ id) (jG:=ι.jm p.2) (zT _ _ _) 5 false v p a hp h (λb hb j hj=>?_)
  ·exact this
  ·have lv:=iH 5 false v p hp b hb
   rintro(⟨i,q1,q2⟩ | hR)
   ·simp only[VI.jm,Bool.or_eq_false_iff]at q1 q2
    have:=s.inj i b j (.inr q2.1) (.inl lv) q1 hj (.inl q2.1)
    subst this
    rw[kI.2 hb]at q2
    cases q2.2
   ·exact(s.res j hR).2 b (.inl lv) hj
theorem vU{R:Nat→Prop}:∀(ms:List (Option Bool)) (v:List AV) (H:WH) (ι:VI) (M:Heap) (a:List AV),VS R ι H M→aZ M (OR R ι) ι v a→RV R ι H M (tJ ms v H).1 (tJ ms v H).2 a
 | ms,[],H,ι,M,a,s,h=>by
  simp only[tJ]
  exact⟨ι,s,.refl _ _ _ _ _ (Nat.le_refl _),h⟩
 | ms,v::r,H,ι,M,a,s,h=>by
  cases a with
  | nil=>simp[aZ]at h
  | cons a l =>
   simp only[aZ]at h
   obtain⟨fU,h1,h2,h3⟩:=F4 (ms.headD (some false)) s h.1
   obtain⟨lJ,k1,k2,k3⟩:=vU ms.tail r _ fU M l h1 (aZ.step s h2 h.2)
   simp only[tJ]
   refine⟨lJ,k1, ?_,by simp only[aZ];exact⟨VL.step h1 k2 h3,k3⟩⟩
   have:=h2.trans k2 h2.next
   simpa using this
theorem Hl{R:Nat→Prop}(m:Option Bool):∀(v:List AV) (H:WH) (ι:VI) (M:Heap) (a:List AV),VS R ι H M→aZ M (OR R ι) ι v a→RV R ι H M (Ei m v H).1 (Ei m v H).2 a
 | [],H,ι,M,a,s,h=>by
  simp only[Ei]
  exact⟨ι,s,.refl _ _ _ _ _ (Nat.le_refl _),h⟩
 | v::r,H,ι,M,a,s,h=>by
  cases a with
  | nil=>simp[aZ]at h
  | cons a l =>
   simp only[aZ]at h
   obtain⟨fU,h1,h2,h3⟩:=F4 m s h.1
   obtain⟨lJ,k1,k2,k3⟩:=Hl m r _ fU M l h1 (aZ.step s h2 h.2)
   simp only[Ei]
   refine⟨lJ,k1, ?_,by simp only[aZ];exact⟨VL.step h1 k2 h3,k3⟩⟩
   have:=h2.trans k2 h2.next
   simpa using this
theorem VS.PN {R:Nat→Prop} {ι:VI} {H:WH} {M:Heap} (s:VS R ι H M) {b:Nat} {c c':List AV} {ro:Bool} (hg:bD H b=some (.cells c ro false)) (hc:∀j d t ro' sl',ι b=some j→M.get j=some (.cells (d++t) ro' sl')→d.length=c.length→aZ M (OR R ι) ι c' d) (hl:c'.length=c.length) :
  VS R ι (dH H b (some (.cells c' ro false))) M∧Stp H.length [] ι H M ι (dH H b (some (.cells c' ro false))) M:=by
 have hbl:=iM hg
 have gp:∀k,bD (dH H b (some (.cells c' ro false))) k=if k=b then some (.cells c' ro false)else bD H k:=λk=>by
  rw[iF]
  by_cases e:k=b
  ·rw[if_pos ⟨e,hbl⟩,if_pos e]
  ·rw[if_neg (λh=>e h.1),if_neg e]
 have lv:∀k,(∃z,bD (dH H b (some (.cells c' ro false))) k=some z)→∃z,bD H k=some z:=λk ⟨z,hz⟩=>by
  rw[gp]at hz
  by_cases e:k=b
  ·exact⟨_,e ▸ hg⟩
  ·rw[if_neg e]at hz
   exact⟨z,hz⟩
 refine⟨⟨λi j h=>by rw[bQ];exact s.lt i j h,λi i' j h h' e e'=>s.inj i i' j (h.imp (lv i) id) (h'.imp (lv i') id) e e',λi z hz=>?_,λi h=>by rw[bQ];exact s.kF i h,λi hi c1 sl h=>?_,s.Em,λj h=>⟨(s.res j h).1,λi hi=>(s.res j h).2 i (hi.imp (lv i) id)⟩⟩,
  ⟨.refl _ _,.refl _ _,λ_ _ h=>h,λ_ _=>rfl,λ_ _=>rfl,λ_ _ _=>rfl,λi _=>lv i,λ_ _ _ _ _ _=>rfl,by rw[bQ];exact Nat.le_refl _⟩⟩
 ·rw[gp]at hz
  by_cases e:i=b
  ·subst e
   rw[if_pos rfl]at hz
   obtain rfl:=ak hz
   rcases s.blk i _ hg with⟨_,_,ro',h⟩ |⟨j,h1,⟨d,t,ro',sl',L,g1,g2,g3,g4,g5,g6⟩,h2⟩
   ·cases h
   ·exact .inr ⟨j,h1,⟨d,t,ro',sl',L,g1,g2,by rw[hl];exact g3,g4,by simpa using hc j d t ro' sl' h1 g1 g5.length.symm,g6⟩,h2⟩
  ·rw[if_neg e]at hz
   exact s.blk i z hz
 ·rw[gp]at h
  by_cases e:i=b
  ·rw[if_pos e]at h
   subst e
   cases h
   exact s.jm i hi c _ hg
  ·rw[if_neg e]at h
   exact s.jm i hi c1 sl h
theorem MU{R:Nat→Prop}(m:Option Bool)(b:Nat){H:WH}{ι:VI}{M:Heap}(s:VS R ι H M):∃aV,VS R aV (MI m b H) M∧Stp H.length [] ι H M aV (MI m b H) M:=by
 have quiet:∃aV,VS R aV H M∧Stp H.length [] ι H M aV H M:=⟨ι,s,.refl _ _ _ _ _ (Nat.le_refl _)⟩
 unfold MI
 cases m with
 | none=>exact quiet
 | some m =>
 simp only
 split
 case h_2=>exact quiet
 rename_i c ro hg
 rcases s.blk b _ hg with⟨_,_,ro',h⟩ |⟨j,h1,⟨d,t,ro',sl',L,g1,g2,g3,g4,g5,g6⟩,h2⟩
 ·cases h
 simp only[Bool.false_eq_true,if_false]at g5
 obtain⟨fU,k1,k2,k3⟩:=Hl (some m) c H ι M d s g5
 split
 case h_2=>exact⟨fU,k1,k2⟩
 rename_i c2 TV hg2
 have hj1:=((k2.le b (iM hg)).1 j h1).1
 have hd:=((k2.le b (iM hg)).1 j h1).2 _ g3
 have hl1:(Ei (some m) c H).1.length=c.length:=by rw[k3.length,g5.length]
 have hl2:c2.length=c.length:=by
  obtain⟨_,_,_,_,_,_,_,e,_⟩:=k1.at hj1 hg2
  rw[hd]at e
  simp only[au,aD]at e
  exact e.1.symm
 obtain⟨q1,q2⟩:=k1.PN hg2 (c':=(Ei (some m) c H).1) (λj' d' t' ro' sl' e1 e2 e3=>by
  rw[hj1]at e1
  obtain rfl:=ak e1
  rw[g1]at e2
  simp only[au,fD.cells.injEq]at e2
  have:d'=d:=by
   have:=congrArg (List.take c.length) e2.1
   rw[List.take_left' (by rw[g5.length]),List.take_left' (by rw[e3,hl2])]at this
   exact this.symm
  rw[this]
  exact k3) (by rw[hl1,hl2])
 refine⟨fU,q1, ?_⟩
 have:=k2.trans q2 k2.next
 simpa using this
theorem vV{R:Nat→Prop}:∀(ms:List (Option Bool)) (m:Option Bool) (p:List Nat) (H:WH) (ι:VI) (M:Heap),VS R ι H M→∃aV,VS R aV (yB ms m p H) M∧Stp H.length [] ι H M aV (yB ms m p H) M
 | ms,m,[],H,ι,M,s=>⟨ι,s,.refl _ _ _ _ _ (Nat.le_refl _)⟩
 | ms,m,b::p,H,ι,M,s=>by
  obtain⟨fU,h1,h2⟩:=MU (ms.headD m) b s
  obtain⟨lJ,k1,k2⟩:=vV ms.tail m p _ fU M h1
  simp only[yB]
  refine⟨lJ,k1, ?_⟩
  have:=h2.trans k2 h2.next
  simpa using this
theorem xC{bytes k:Nat}(h:fZ bytes k=true):k*bytes≤70368744177664∧k≤70368744177664:=by simpa[fZ]using h
theorem aZ.jm{R:Nat→Prop}{ι:VI}{M:Heap}{S:List Nat}{l r:List AV}(h:aZ M (OR R ι) VI.none l r):aZ M (OR R (ι.jm S)) VI.none l r :=
 aZ.mono ⟨Nat.le_refl _,λb _ h=>⟨rfl,λk=>h (k.imp vQ id)⟩⟩ _ _ _ _ (.refl _ _) h
theorem C9 {R:Nat→Prop} {ι:VI} {H:WH} {M:Heap} (s:VS R ι H M) {k:Nat} {nested:Bool} {l:List AV} {p:List AV×List Nat} {r:List AV} (h:qJ (Eh H k nested) l=some p) (hr:aZ M (OR R ι) ι l r) :
  aZ M (OR R (ι.jm p.2)) (vR nested (ι.jm p.2)) p.1 r:=by
 refine zU (P:=λb=>b∈p.2) (λv q a hq hv hb=>?_) l p r h hr (λ_ h=>h)
 refine C8 s (O':=OR R (ι.jm p.2)) (λj h=>h.imp vQ id) (jG:=ι.jm p.2) (zT _ _ _) k nested v q a hq hv (λb hb' j hj=>?_)
 have lv:=iH k nested v q hq b hb'
 rintro(⟨i,q1,q2⟩ | hR)
 ·simp only[VI.jm,Bool.or_eq_false_iff]at q1 q2
  have:=s.inj i b j (.inr q2.1) (.inl lv) q1 hj (.inl q2.1)
  subst this
  rw[kI.2 (hb _ hb')]at q2
  cases q2.2
 ·exact(s.res j hR).2 b (.inl lv) hj
theorem xD {R:Nat→Prop} {ι:VI} {H:WH} {M:Heap} (s:VS R ι H M) {x a:AV} (hx:VL M (OR R ι) ι x a) {sz n:Nat} {cs:List AV} {S:List Nat} (h:rW x sz H=some (n,cs,S)) :
  bL a sz=true∧cs.length=n*sz∧∃cs',fT a M=some (n,cs')∧aZ M (OR R (ι.jm S)) VI.none cs cs':=by
 unfold rW at h
 split at h
 ·rename_i sz' n' cs' ex
  split at h
  case h_2=>cases h
  rename_i e
  obtain rfl:=aR e
  simp only[au,aD]at h
  obtain⟨rfl,rfl,rfl⟩:=h
  simp only[VL]at hx
  rcases hx with⟨rfl,rfl,s',rfl⟩ |⟨b,o,cap,ex',rfl,q1,q2,q3,q4⟩
  ·exact⟨rfl,by simp,[],rfl,by simp[aZ]⟩
  ·refine⟨by simp[bL],q3, ?_⟩
   by_cases hn:n'=0
   ·subst hn
    rw[Nat.zero_mul]at q3
    obtain rfl:=List.eq_nil_of_length_eq_zero q3
    exact⟨[],by simp[fT],by simp[aZ]⟩
   ·obtain⟨c,ro,sl,g1,g2,g3,g4,g5⟩:=q4 hn
    refine⟨(c.drop o).take (n'*sz'), ?_,g5.jm⟩
    simp only[fT,if_neg hn,Heap.read,g1,if_pos g4,aJ]
 ·simp only[au,aD]at h
  obtain⟨rfl,rfl,rfl⟩:=h
  simp only[VL]at hx
  obtain⟨_,s',rfl⟩:=hx
  exact⟨rfl,by simp,[],rfl,by simp[aZ]⟩
 ·rename_i t
  split at h
  case h_2=>cases h
  rename_i e
  obtain rfl:=aR e
  simp only[au,aD]at h
  obtain⟨rfl,rfl,rfl⟩:=h
  obtain rfl:=hx.eq rfl
  refine⟨rfl,by simp,_,rfl, ?_⟩
  have:∀t:List UInt8,aZ M (OR R (ι.jm [])) VI.none (t.map λb=>AV.int .u8 b.toNat) (t.map λb=>AV.int .u8 b.toNat):=λt=>by
   induction t with
   | nil=>simp[aZ]
   | cons b t ih=>simp only[List.map_cons,aZ,VL];exact⟨trivial,ih⟩
  exact this t
 ·rename_i b o sz' n' w
  split at h
  case h_2=>cases h
  rename_i e
  obtain rfl:=aR e
  split at h
  case h_2=>cases h
  rename_i c ro sl hg
  obtain⟨k1,k2,p,s',cap,ex,rfl,k3,k4,k5⟩:=VL.jR s hx hg
  have fin:∀(cs:List AV) (S:List Nat),cs.length=n'*sz'→(∀c' t,aZ M (OR R ι) (if sl then VI.none else ι) c c'→aZ M (OR R (ι.jm S)) VI.none cs (((c'++t).drop o).take (n'*sz'))) →
    bL (.slice p s' n' cap ex) sz'=true∧cs.length=n'*sz'∧∃cs',fT (.slice p s' n' cap ex) M=some (n',cs')∧aZ M (OR R (ι.jm S)) VI.none cs cs':=by
   intro cs S h1 h2
   have hz:bL (.slice p s' n' cap ex) sz'=true:=by
    cases p with
    | none =>
     rcases k5 with⟨j,_,_,_,_,_,_,_,_,_,_,_,e,_⟩ |⟨e,_⟩
     ·cases e
     ·simp[bL,e]
    | some p=>simp[bL,k4 (by simp)]
   refine⟨hz,h1, ?_⟩
   have hn0:n'=0→cs=[]:=λe=>by
    subst e
    rw[Nat.zero_mul]at h1
    exact List.eq_nil_of_length_eq_zero h1
   rcases k5 with⟨j,c',t,ro',sl',L,g1,g2,g3,g4,g5,g6,rfl,g7⟩ |⟨e,_⟩
   ·obtain rfl:=k4 (by simp)
    by_cases hn:n'=0
    ·rw[hn0 hn]
     subst hn
     exact⟨[],by simp[fT],by simp[aZ]⟩
    ·have hl:=g6.length
     refine⟨_, ?_,h2 c' t g6⟩
     simp only[fT,if_neg hn,Heap.read,g2]
     rw[if_pos (by simp only[aG];omega)]
     rfl
   ·rw[hn0 e]
    subst e
    refine⟨[], ?_,by simp[aZ]⟩
    cases p<;>simp[fT]
  split at h
  ·simp only[au,aD]at h
   obtain⟨rfl,rfl,rfl⟩:=h
   refine fin _ _ (vO k1 k2) λc' t hc=>?_
   simp only[if_true]at hc
   exact(vP hc k1 k2).jm
  ·split at h
   case h_2=>cases h
   split at h
   case h_2=>cases h
   rename_i q hq
   simp only[au,aD]at h
   obtain⟨rfl,rfl,rfl⟩:=h
   obtain⟨k6,k7⟩:=k2 rfl
   refine fin _ _ (by rw[vS _ _ hq,k7]) λc' t hc=>?_
   simp only[Bool.false_eq_true,if_false]at hc
   have:=C9 s hq hc
   rw[k6,List.drop_zero,k7,hc.length,List.take_left' rfl]
   exact this
 ·cases h
theorem r_{H:WH}{x:AV}{sz n:Nat}{cs:List AV}{S:List Nat}(h:rW x sz H=some (n,cs,S)):∀b∈S,∃y,bD H b=some y:=by
 unfold rW at h
 split at h
 ·split at h
  ·cases h;simp
  ·cases h
 ·cases h;simp
 ·split at h
  ·cases h;simp
  ·cases h
 ·split at h
  case h_2=>cases h
  split at h
  case h_2=>cases h
  split at h
  ·cases h;simp
  ·split at h
   case h_2=>cases h
   split at h
   case h_2=>cases h
   rename_i q hq
   cases h
   exact jW (λv p=>iH 5 true v p) _ _ hq
 ·cases h
theorem BU {R:Nat→Prop} {ι:VI} {H:WH} {M:Heap} (s:VS R ι H M) {x a:AV} (hx:VL M (OR R ι) ι x a) {sz bytes m len:Nat} {new new' old:List AV} (hnew:aZ M (OR R ι) VI.none new new') (hl:new.length=m*sz) {H':WH} {t:List Nat}
  (h:zN x sz H=some (len,old,H',t)) (hf:fZ bytes (len+m)=true) :
  ∃a' M' aV,b_ sz bytes a m new' M=some (a',M')∧VS R aV (H'++[some (.cells (old++new) false true)]) M'∧Stp H.length t ι H M aV (H'++[some (.cells (old++new) false true)]) M'∧VL M' (OR R aV) aV (.acc H'.length 0 sz (len+m) true) a':=by
 have hf':=xC hf
 have hm0:m=0→new=[]:=λe=>by
  subst e
  rw[Nat.zero_mul]at hl
  exact List.eq_nil_of_length_eq_zero hl
 -- nothing was there
 have fresh:∀(iQ:VI) (H0:WH) (t0:List Nat),VS R iQ H0 M→H0.length=H.length→Stp H.length t0 ι H M iQ H0 M→∀(p:Option (Nat×Nat)) (s':Nat),(p≠none→s'=sz)→0+m=len+m→∃a' M' aV,b_ sz bytes (.slice p s' 0 0 true) m new' M=some (a',M')∧VS R aV (H0++[some (.cells ([]++new) false true)]) M'∧Stp H.length t0 ι H M aV (H0++[some (.cells ([]++new) false true)]) M'∧VL M' (OR R aV) aV (.acc H0.length 0 sz (0+m) true) a':=by
  intro iQ H0 t0 s0 hlen k0 p s' hps hlm
  by_cases hm:m=0
  ·obtain rfl:=hm0 hm
   subst hm
   obtain⟨aV,q1,q2,q3⟩:=vT s0 sz sz p (λ_=>rfl)
   refine⟨.slice p sz 0 0 true,M,aV, ?_,q1, ?_,q3⟩
   ·unfold b_
    cases p with
    | none=>simp
    | some p=>obtain rfl:=hps (by simp);simp
   ·have:=k0.trans q2 (by omega)
    simpa using this
  ·have e:b_ sz bytes (.slice p s' 0 0 true) m new' M=some (.slice (some (M.next,0)) sz (0+m) (0+m) false,M.push (.cells ([]++new') false true)):=by
    unfold b_
    simp only
    rw[if_neg (λhc=>hc.2 (hps hc.1)),if_neg (by omega),if_pos (by rw[hlm];exact hf')]
    cases p with
    | none=>rfl
    | some p=>rfl
   have QF:=aZ.BP k0 hnew
   obtain⟨aV,q1,q2,q3⟩:=ze s0 (cs:=[]++new) (cs':=[]++new') (by simpa using QF) (n:=0+m) (sz:=sz) (by simpa using hl) false true
   rw[e]
   refine⟨_,_,aV,rfl,q1, ?_,q3⟩
   have:=k0.trans q2 (by omega)
   simpa using this
 unfold zN at h
 split at h
 ·simp only[au,aD]at h
  obtain⟨rfl,rfl,rfl,rfl⟩:=h
  simp only[VL]at hx
  obtain⟨_,s',rfl⟩:=hx
  exact fresh ι H [] s rfl (.refl _ _ _ _ _ (Nat.le_refl _)) none s' (λh=>absurd rfl h) rfl
 ·rename_i b sz' n w
  split at h
  case h_2=>cases h
  rename_i e
  obtain rfl:=aR e
  -- one's own
  have main:∀(c:List AV) (sl:Bool) (H1:WH) (fU:VI) (old:List AV),bD H b=some (.cells c false sl)→VS R fU H1 M→H1.length=H.length→Stp H.length [] ι H M fU H1 M→bD H1 b=some (.cells c false sl)→old.length=n*sz' →
    (∀c' t,aZ M (OR R ι) (if sl then VI.none else ι) c c'→aZ M (OR R fU) VI.none old (((c'++t).drop 0).take (n*sz')))→len=n →
    ∃a' M' aV,b_ sz' bytes a m new' M=some (a',M')∧VS R aV (dH H1 b none++[some (.cells (old++new) false true)]) M'∧Stp H.length [b] ι H M aV (dH H1 b none++[some (.cells (old++new) false true)]) M'∧VL M' (OR R aV) aV (.acc (dH H1 b none).length 0 sz' (n+m) true) a':=by
   intro c sl H1 fU old hg s1 hlen k1 hg1 ho hr hln
   subst hln
   obtain⟨q1,q2,p,s',cap,ex,rfl,q3,q4,q5⟩:=VL.jR s hx hg
   have hnp:p=none→cap=0∧ex=true:=by
    simp only[VL]at hx
    obtain⟨_,_,_,_,e,_,q,_⟩:=hx
    simp only[AV.slice.injEq]at e
    obtain⟨rfl,rfl,_,rfl,rfl⟩:=e
    exact q
   have hnew1:=aZ.BP k1 hnew
   rcases q5 with⟨j,c',t,ro',sl',L,g1,g2,g3,g4,g5,g6,rfl,g7⟩ |⟨rfl,rfl,rfl,⟨j,c',t,ro',sl',L,g1,g2,g3,g4,g5,g6⟩ |⟨g1,rfl,rfl⟩⟩
   ·obtain rfl:=q4 (by simp)
    obtain⟨rfl,_⟩:=g3 rfl
    have hj1:=((k1.le b (iM hg)).1 j g1).1
    have hlc:=g6.length
    have hcs:=Nat.mul_le_mul_right s' q3
    have hr':=hr c' t g6
    have hold:aZ M (OR R fU) VI.none old ((c'++t).take (len*s')):=by simpa using hr'
    simp only[aG]at g5
    by_cases hm:m=0
    ·obtain rfl:=hm0 hm
     subst hm
     have hn':new'=[]:=by
      have:=hnew.length
      exact List.eq_nil_of_length_eq_zero (by simpa using this.symm)
     subst hn'
     obtain⟨aV,r1,r2,r3⟩:=zf s1 hj1 hg1 (cs:=old++[]) (cs':=(c'++t).take (len*s')) (t:=(c'++t).drop (len*s')) (by rw[List.take_append_drop];exact g2) rfl (by simpa using hold) (by rw[List.take_append_drop,aG];exact g5) (n:=len+0) (by simpa using ho) q3 hnp q4 (.inl ⟨rfl,by omega⟩)
     refine⟨_,M,aV, ?_,r1, ?_,by rw[bQ];exact r3⟩
     ·simp[b_,q3]
     ·have:=k1.trans r2 (by omega)
      simpa using this
    by_cases hfit:len+m≤cap
    ·-- in place
     have hle:len*s'+new'.length≤(c'++t).length:=by
      have:=Nat.mul_le_mul_right s' hfit
      rw[←hnew.length,hl,aG,←Nat.add_mul]
      omega
     have hw:M.write j (0+len*s') new'=some (M.put j (some (.cells ((c'++t).take (len*s')++new'++(c'++t).drop (len*s'+new'.length)) false sl'))):=by
      simp only[Heap.write,g2,Nat.zero_add]
      rw[if_pos hle]
     have hlenp:L≤(((c'++t).take (len*s')++new')++(c'++t).drop (len*s'+new'.length)).length:=by
      simp only[aG,aQ,aM]at hle ⊢
      omega
     obtain⟨r1,r2,r3⟩:=s1.swap hj1 hg1 (x:=.cells (old++new) false true) (y:=.cells ((c'++t).take (len*s')++new'++(c'++t).drop (len*s'+new'.length)) false sl') (d:=((old++new).length,L))
      ⟨(c'++t).take (len*s')++new',(c'++t).drop (len*s'+new'.length),false,sl',L,rfl,λ_=>rfl,rfl,hlenp,by simpa using hold.append hnew1,λh=>by cases h⟩
     refine⟨.slice (some (j,0)) s' (len+m) cap ex,_,_, ?_,r1, ?_, ?_⟩
     rotate_left
     ·have:=k1.trans r2 (by omega)
      simpa using this
     ·rw[bQ]
      simp only[VL]
      refine⟨some (j,0),s',cap,ex,rfl,hfit,(λh=>by cases h),λ_=>rfl,(old++new).length,L,by simp[VI.add,setAt], ?_,λ_=>⟨trivial, ?_⟩,.inl ⟨j,r3,.inl ⟨rfl,by omega⟩⟩⟩
      ·rw[aG,ho,hl,Nat.add_mul];omega
      ·rw[aG,ho,hl,Nat.add_mul]
     ·unfold b_
      simp only
      rw[if_neg (by simp),if_pos hfit,if_neg hm,hw]
      rfl
    ·obtain ⟨F5,e1,e2⟩:∃F5,(if (ex=true∧len=0)then some []else M.read j 0 (len*s'))=some F5∧aZ M (OR R fU) VI.none old F5:=by
      by_cases hc:ex=true∧len=0
      ·rw[if_pos hc]
       rw[hc.2,Nat.zero_mul]at ho
       obtain rfl:=List.eq_nil_of_length_eq_zero ho
       exact⟨[],rfl,by simp[aZ]⟩
      ·rw[if_neg hc]
       refine⟨(c'++t).take (len*s'), ?_,hold⟩
       simp only[Heap.read,g2]
       rw[if_pos (by simp only[aG];omega),List.drop_zero]
     have hlo:(old++new).length=(len+m)*s':=by rw[aG,ho,hl,Nat.add_mul]
     cases ex with
     | true =>
      have e:b_ s' bytes (.slice (some (j,0)) s' len cap true) m new' M=some (.slice (some (M.next,0)) s' (len+m) (len+m) false,M.push (.cells (F5++new') false true)):=by
       unfold b_
       simp only
       rw[if_neg (by simp),if_neg hfit,if_pos hf']
       simp only[eq_self,true_and,if_true]at e1 ⊢
       rw[e1]
       rfl
      obtain⟨r1,r2⟩:=s1.kill hj1 hg1 (M.get j)
      rw[Heap.vN rfl]at r1 r2
      have rk:=k1.trans r2 (by omega)
      obtain⟨aV,u1,u2,u3⟩:=ze r1 (cs:=old++new) (cs':=F5++new') (aZ.BP r2 (e2.append hnew1)) hlo false true
      rw[e]
      refine⟨_,_,aV,rfl,u1, ?_,u3⟩
      have:=rk.trans u2 (by rw[bQ];omega)
      simpa using this
     | false =>
      have e:b_ s' bytes (.slice (some (j,0)) s' len cap false) m new' M=some (.slice (some (M.next,0)) s' (len+m) (len+m) false,(M.put j none).push (.cells (F5++new') false true)):=by
       unfold b_
       simp only
       rw[if_neg (by simp),if_neg hfit,if_pos hf']
       simp only[Bool.false_eq_true,false_and,if_false]at e1 ⊢
       rw[e1]
       simp[g2]
      obtain⟨r1,r2⟩:=s1.kill hj1 hg1 none
      have rk:=k1.trans r2 (by omega)
      obtain⟨aV,u1,u2,u3⟩:=ze r1 (cs:=old++new) (cs':=F5++new') (aZ.BP r2 (e2.append hnew1)) hlo false true
      rw[e]
      refine⟨_,_,aV,rfl,u1, ?_,u3⟩
      have:=rk.trans u2 (by rw[bQ];omega)
      simpa using this
   ·-- empty,and no room
    rw[Nat.zero_mul]at ho
    obtain rfl:=List.eq_nil_of_length_eq_zero ho
    have hj1:=((k1.le b (iM hg)).1 j g1).1
    by_cases hm:m=0
    ·obtain rfl:=hm0 hm
     subst hm
     have hn':new'=[]:=by
      have:=hnew.length
      exact List.eq_nil_of_length_eq_zero (by simpa using this.symm)
     subst hn'
     obtain⟨aV,r1,r2,r3⟩:=zf s1 hj1 hg1 (cs:=[]++[]) (cs':=[]) (t:=c'++t) g2 (g3 rfl).1 (by simp[aZ]) g5 (n:=0+0) (sz:=sz') (by simp) (Nat.le_refl _) hnp (s':=sz') (λ_=>rfl) (.inr ⟨rfl,rfl,rfl⟩)
     refine⟨_,M,aV, ?_,r1, ?_,by rw[bQ];exact r3⟩
     ·cases p with
      | none=>simp[b_]
      | some p=>obtain rfl:=q4 (by simp);simp[b_]
     ·have:=k1.trans r2 (by omega)
      simpa using this
    ·obtain⟨r1,r2⟩:=s1.kill hj1 hg1 (M.get j)
     rw[Heap.vN rfl]at r1 r2
     have:=fresh _ _ _ r1 (by rw[bQ];exact hlen) (k1.trans r2 (by omega)) p s' q4 rfl
     simpa using this
   ·rw[Nat.zero_mul]at ho
    obtain rfl:=List.eq_nil_of_length_eq_zero ho
    have hs1:=((k1.le b (iM hg)).2 g1).1
    obtain⟨r1,r2⟩:=s1.G8 hs1
    have:=fresh _ _ _ r1 (by rw[bQ];exact hlen) (k1.trans r2 (by omega)) p s' q4 rfl
    simpa using this
  split at h
  ·rename_i c hg
   simp only[au,aD]at h
   obtain⟨rfl,rfl,rfl,rfl⟩:=h
   obtain⟨k1,k2,_⟩:=VL.jR s hx hg
   exact main c true H ι _ hg s rfl (.refl _ _ _ _ _ (Nat.le_refl _)) hg (vO k1 k2) (λc' t hc=>vP (by simpa using hc) k1 k2) rfl
  ·rename_i c hg
   split at h
   case h_2=>cases h
   split at h
   case h_2=>cases h
   rename_i p hp
   split at h
   case h_2=>cases h
   rename_i hb
   simp only[au,aD]at h
   obtain⟨rfl,rfl,rfl,rfl⟩:=h
   obtain⟨k1,k2,_⟩:=VL.jR s hx hg
   obtain⟨k3,k4⟩:=k2 rfl
   obtain⟨u1,u2⟩:=s.Ev p.2 (jW (λv p=>iH 5 true v p) _ _ hp)
   refine main c false (nE H p.2) (ι.jm p.2) _ hg u1 (jI _ _) u2 ?_ (by rw[vS _ _ hp,k4]) (λc' t hc=>?_) rfl
   ·rw[nW,hb]
    exact hg
   ·simp only[Bool.false_eq_true,if_false]at hc
    have:=C9 s hp hc
    rw[List.drop_zero,k4,hc.length,List.take_left' rfl]
    exact this
  ·cases h
 ·cases h
theorem vW:∀ {p:List Nat} {b k:Nat},kE p b=some k→p[k]?=some b
 | [],b,k,h=>by simp[kE]at h
 | a::r,b,k,h=>by
  simp only[kE]at h
  split at h
  ·rename_i e
   obtain rfl:=ak h
   simp[aR e]
  ·split at h
   ·rename_i k' hk
    obtain rfl:=ak h
    simpa using vW hk
   ·cases h
theorem xE:∀ {p:List Nat} {b:Nat},kE p b=none→b∉p
 | [],b,_=>by simp
 | a::r,b,h=>by
  simp only[kE]at h
  split at h
  ·cases h
  ·rename_i e
   split at h
   ·cases h
   ·rename_i hr
    simp only[List.mem_cons,not_or]
    exact⟨λe'=>by subst e';simp at e,xE hr⟩
theorem pG:∀ {p:List Nat} (hp:p.Nodup) {b k:Nat} (h:p[k]?=some b),kE p b=some k
 | [],_,b,k,h=>by simp at h
 | a::r,hp,b,0,h=>by
  simp only[List.getElem?_cons_zero,au]at h
  subst h
  simp[kE]
 | a::r,hp,b,k+1,h=>by
  simp only[List.getElem?_cons_succ]at h
  rw[List.nodup_cons]at hp
  have hne:a≠b:=λe=>hp.1 (e ▸ List.mem_of_getElem? h)
  have:Nat.beq a b=false:=by
   cases hh:Nat.beq a b with
   | false=>rfl
   | true=>exact absurd (aR hh) hne
  simp only[kE,this,pG hp.2 h]
def Via(f:Nat→Option Nat)(κ jG:VI):Prop:=∀b k,f b=some k→(∀j,κ b=some j→jG k=some j)∧(κ.xw b=true→jG.xw k=true)∧(∀d,κ.dim b=some d→jG.dim k=some d)
mutual
theorem VL.rn{M M':Heap}{O O':Nat→Prop}(hk:Keeps M O M' O'){f:Nat→Option Nat}{κ jG:VI}(hf:Via f κ jG):∀(v a:AV),VL M O κ v a→VL M' O' jG (Proofs.Ytkedeiklmpkgkaa.rn f v) a
 |.undef,_,_=>by simp[Proofs.Ytkedeiklmpkgkaa.rn,VL]
 |.bool _,_,e=>by simpa[Proofs.Ytkedeiklmpkgkaa.rn,VL]using e
 |.int _ _,_,e=>by simpa[Proofs.Ytkedeiklmpkgkaa.rn,VL]using e
 |.str _,_,e=>by simpa[Proofs.Ytkedeiklmpkgkaa.rn,VL]using e
 |.ptr none,_,e=>by simpa[Proofs.Ytkedeiklmpkgkaa.rn,VL]using e
 |.ptr (some q),a,e=>by
  simp only[VL]at e
  obtain⟨j,h1,rfl⟩:=e
  simp only[Proofs.Ytkedeiklmpkgkaa.rn]
  split
  ·rename_i b hb
   simp only[VL]
   exact⟨j,(hf _ _ hb).1 j h1,rfl⟩
  ·simp[VL]
 |.slice none _ _ _ _,_,e=>by simpa[Proofs.Ytkedeiklmpkgkaa.rn,VL]using e
 |.slice (some _) _ _ _ _,_,e=>by simp[VL]at e
 |.map none,_,e=>by simpa[Proofs.Ytkedeiklmpkgkaa.rn,VL]using e
 |.map (some r),a,e=>by
  simp only[VL]at e
  obtain⟨j,h1,rfl⟩:=e
  simp only[Proofs.Ytkedeiklmpkgkaa.rn]
  split
  ·rename_i b hb
   simp only[VL]
   exact⟨j,(hf _ _ hb).1 j h1,rfl⟩
  ·simp[VL]
 |.func g cs,a,e=>by
  simp only[VL,Proofs.Ytkedeiklmpkgkaa.rn]at e ⊢
  obtain⟨cs',rfl,h⟩:=e
  exact⟨cs',rfl,aZ.rn hk hf cs cs' h⟩
 |.nilFunc,_,e=>by simpa[Proofs.Ytkedeiklmpkgkaa.rn,VL]using e
 |.agg cs,a,e=>by
  simp only[VL,Proofs.Ytkedeiklmpkgkaa.rn]at e ⊢
  obtain⟨cs',rfl,h⟩:=e
  exact⟨cs',rfl,aZ.rn hk hf cs cs' h⟩
 |.tuple cs,a,e=>by
  simp only[VL,Proofs.Ytkedeiklmpkgkaa.rn]at e ⊢
  obtain⟨cs',rfl,h⟩:=e
  exact⟨cs',rfl,aZ.rn hk hf cs cs' h⟩
 |.list sz n cs ex,a,e=>by
  simp only[Proofs.Ytkedeiklmpkgkaa.rn]
  exact VL.mono hk κ jG _ _ (λi hi=>by simp[l7]at hi) e
 |.elem cs,a,e=>by
  simp only[Proofs.Ytkedeiklmpkgkaa.rn]
  exact VL.mono hk κ jG _ _ (λi hi=>by simp[l7]at hi) e
 |.acc b o sz n w,a,e=>by
  simp only[Proofs.Ytkedeiklmpkgkaa.rn]
  split
  ·rename_i b' hb
   simp only[VL]at e ⊢
   obtain⟨p,s',cap,ex,h1,h2,h3,h4,m,L,h5,h6,h7,h8⟩:=e
   obtain⟨f1,f2,f3⟩:=hf _ _ hb
   exact⟨p,s',cap,ex,h1,h2,h3,h4,m,L,f3 _ h5,h6,h7,h8.imp (λ⟨j,k1,k2⟩=>⟨j,f1 j k1,k2⟩) (λ⟨k1,k2⟩=>⟨f2 k1,k2⟩)⟩
  ·simp[VL]
theorem aZ.rn{M M':Heap}{O O':Nat→Prop}(hk:Keeps M O M' O'){f:Nat→Option Nat}{κ jG:VI}(hf:Via f κ jG):∀(l r:List AV),aZ M O κ l r→aZ M' O' jG (AP f l) r
 | [],[],_=>by simp[AP,aZ]
 | v::l,a::r,e=>by
  simp only[aZ,AP]at e ⊢
  exact⟨VL.rn hk hf v a e.1,aZ.rn hk hf l r e.2⟩
 | [],_::_,e=>by simp[aZ]at e
 | _::_,[],e=>by simp[aZ]at e
end
theorem Ho{f:Nat→Option Nat}:∀(l:List AV),(AP f l).length=l.length
 | []=>rfl
 | _::l=>by simp[AP,Ho l]
theorem BL.rn{M M':Heap}{O O':Nat→Prop}(hk:Keeps M O M' O'){f:Nat→Option Nat}{κ jG:VI}(hf:Via f κ jG){d:Option (Nat×Nat)}{x:fD}{y:Option fD}(r:BL M O κ d x y):BL M' O' jG d (Rx f x) y:=by
 cases x with
 | cells c ro sl =>
  obtain⟨c',t,ro',sl',L,rfl,h0,h1,h2,h3,h4⟩:=r
  cases sl with
  | true=>exact⟨c',t,ro',sl',L,rfl,h0,h1,h2,aZ.mono hk _ _ c c' (.refl _ _) h3,h4⟩
  | false=>exact⟨c',t,ro',sl',L,rfl,h0,by rw[Ho];exact h1,h2,aZ.rn hk hf c c' h3,h4⟩
 | map es=>exact r
theorem C_(f:Nat→Option Nat)(x:fD):(Rx f x).ro=x.ro:=by
 cases x with
 | cells c ro sl=>cases sl<;>rfl
 | map es=>rfl
mutual
theorem VL.retag{M:Heap}{O:Nat→Prop}{κ:VI}(v t a:AV)(h:VL M O κ v a):VL M O κ (Proofs.Ytkedeiklmpkgkaa.retag v t) a:=by
 rw[Proofs.Ytkedeiklmpkgkaa.retag.eq_def]
 split
 ·split
  ·simp only[VL]at h ⊢
   exact h
  ·exact h
 ·split
  ·simp only[VL]at h ⊢
   obtain⟨cs',rfl,h⟩:=h
   exact⟨cs',rfl,aZ.retag _ _ _ h⟩
  ·exact h
 ·split
  ·simp only[VL]at h ⊢
   obtain⟨cs',rfl,h⟩:=h
   exact⟨cs',rfl,aZ.retag _ _ _ h⟩
  ·exact h
 ·exact h
termination_by SizeOf.sizeOf v
theorem aZ.retag{M:Heap}{O:Nat→Prop}{κ:VI}(l ts r:List AV)(h:aZ M O κ l r):aZ M O κ (gT l ts) r:=by
 rw[gT.eq_def]
 split
 ·split
  ·cases r with
   | nil=>simp[aZ]at h
   | cons a r =>
    simp only[aZ]at h ⊢
    exact⟨VL.retag _ _ _ h.1,aZ.retag _ _ _ h.2⟩
  ·exact h
 ·exact h
termination_by SizeOf.sizeOf l
end
theorem lM{H:WH}{p:List Nat}:∀(q:List Nat),(jC H p q).length=q.length
 | []=>rfl
 | _::q=>by simp[jC,lM q]
theorem iy {H:WH} {p:List Nat}:∀(q:List Nat) (k:Nat),bD (jC H p q) k=match q[k]? with
  | some b=>Ja (kE p) (bD H b)
  | none=>none
 | [],k=>by simp[jC,bD]
 | b::q,0=>by simp[jC,bD]
 | b::q,k+1=>by simp[jC,bD,iy q k]
theorem kJ{f:Nat→Option Nat}{x:Option fD}{y:fD}(h:Ja f x=some y):∃z,x=some z∧y=Rx f z:=by
 cases x with
 | none=>simp[Ja]at h
 | some z=>simp only[Ja,au]at h;exact⟨z,rfl,h.symm⟩
def cu (ι:VI) (p:List Nat):VI:=⟨λk=>match p[k]? with
  | some b=>ι b
  | none=>none,λk=>match p[k]? with
  | some b=>ι.xw b
  | none=>false,λk=>match p[k]? with
  | some b=>ι.gone b
  | none=>true,λk=>match p[k]? with
  | some b=>ι.dim b
  | none=>none⟩
theorem nL{ι:VI}{p:List Nat}:Via (kE p) ι (cu ι p):=λb k h=>by
 have:=vW h
 simp only[cu,this]
 exact⟨λ_ h=>h,λh=>h,λ_ h=>h⟩
theorem l9{ι:VI}{p:List Nat}{j:Nat}(h:own (cu ι p) j):∃b,b∈p∧ι b=some j∧ι.gone b=false:=by
 obtain⟨k,h1,h2⟩:=h
 simp only[cu]at h1 h2
 cases e:p[k]? with
 | none=>rw[e]at h1;cases h1
 | some b =>
  rw[e]at h1 h2
  exact⟨b,List.mem_of_getElem? e,h1,h2⟩
theorem VS.pick {R R':Nat→Prop} {ι:VI} {H:WH} {M:Heap} (s:VS R ι H M) {p:List Nat} (hp:p.Nodup) (hR:∀j,R' j→j<M.next∧∀b,b∈p→act ι H b→ι b≠some j) (hO:∀j,OR R' (cu ι p) j→OR R ι j) :
  VS R' (cu ι p) (jC H p p) M:=by
 have hk:Keeps M (OR R ι) M (OR R' (cu ι p)):=⟨Nat.le_refl _,λb _ h=>⟨rfl,λk=>h (hO b k)⟩⟩
 have ac:∀k,act (cu ι p) (jC H p p) k→∃b,p[k]?=some b∧act ι H b:=λk h=>by
  cases e:p[k]? with
  | none =>
   rcases h with⟨x,h⟩ | h
   ·rw[iy,e]at h;cases h
   ·simp only[cu,e]at h;cases h
  | some b =>
   refine⟨b,rfl, ?_⟩
   rcases h with⟨x,h⟩ | h
   ·rw[iy,e]at h
    obtain⟨z,hz,_⟩:=kJ h
    exact .inl ⟨z,hz⟩
   ·simp only[cu,e]at h
    exact .inr h
 have at':∀ {k b},p[k]?=some b→(cu ι p) k=ι b∧(cu ι p).xw k=ι.xw b∧(cu ι p).gone k=ι.gone b∧(cu ι p).dim k=ι.dim b:=λe=>by simp[cu,e]
 refine⟨λk j h=>?_,λk k' j h h' e e' g=>?_,λk x hx=>?_,λk h=>?_,λk hk' c sl h=>?_,s.Em,λj h=>⟨(hR j h).1,λk hk'=>?_⟩⟩
 ·cases e:p[k]? with
  | none=>simp only[cu,e]at h;cases h
  | some b =>
   rw[(at' e).1]at h
   exact⟨by rw[lM];exact(aF.1 e).1,(s.lt b j h).2⟩
 ·obtain⟨b,q1,q2⟩:=ac k h
  obtain⟨b',q1',q2'⟩:=ac k' h'
  rw[(at' q1).1]at e
  rw[(at' q1').1]at e'
  rw[(at' q1).2.2.1,(at' q1').2.2.1]at g
  have:=s.inj b b' j q2 q2' e e' g
  subst this
  have:=pG hp q1
  rw[pG hp q1']at this
  exact(ak this).symm
 ·cases e:p[k]? with
  | none=>rw[iy,e]at hx;cases hx
  | some b =>
   rw[iy,e]at hx
   obtain⟨z,hz,rfl⟩:=kJ hx
   rw[(at' e).1,(at' e).2.1,(at' e).2.2.1,(at' e).2.2.2,C_]
   rcases s.blk b z hz with⟨h1,h2,ro,rfl⟩ |⟨j,h1,h2,h3⟩
   ·exact .inl ⟨h1,h2,ro,rfl⟩
   ·exact .inr ⟨j,h1,BL.rn hk nL h2,h3⟩
 ·cases e:p[k]? with
  | none=>simp only[cu,e]at h;cases h
  | some b =>
   rw[(at' e).2.1]at h
   rw[(at' e).1]
   exact⟨by rw[lM];exact(aF.1 e).1,(s.kF b h).2⟩
 ·cases e:p[k]? with
  | none=>rw[iy,e]at h;cases h
  | some b =>
   rw[(at' e).2.2.1]at hk'
   rw[iy,e]at h
   obtain⟨z,hz,h2⟩:=kJ h
   have hr:=C_ (kE p) z
   rw[←h2]at hr
   cases z with
   | cells c' ro sl' =>
    simp only[fD.ro]at hr
    subst hr
    exact s.jm b hk' c' sl' hz
   | map es=>cases h2
 ·obtain⟨b,q1,q2⟩:=ac k hk'
  rw[(at' q1).1]
  exact(hR j h).2 b (List.mem_of_getElem? q1) q2
theorem sU{H:WH}{np:Nat}:∀(l seen:List Nat),(rF H np seen l).Nodup∧∀x,x∈rF H np seen l→x∈l∧iP seen x=false∧(x<np∨∃y,bD H x=some y)
 | [],seen=>by simp[rF]
 | a::r,seen=>by
  simp only[rF]
  cases h:iP seen a with
  | true =>
   obtain⟨h1,h2⟩:=sU r seen
   exact⟨h1,λx hx=>⟨List.mem_cons_of_mem _ (h2 x hx).1,(h2 x hx).2⟩⟩
  | false =>
   obtain⟨h1,h2⟩:=sU (H:=H) (np:=np) r (a::seen)
   have hne:∀x,x∈rF H np (a::seen) r→x≠a∧iP seen x=false:=λx hx=>by
    have:=(h2 x hx).2.1
    simp only[iP]at this
    split at this
    ·cases this
    ·rename_i e
     exact⟨λe'=>by subst e';simp at e,this⟩
   have OM:(x:Nat)→x∈rF H np (a::seen) r→x∈a::r∧iP seen x=false∧(x<np∨∃y,bD H x=some y):=λx hx =>
    ⟨List.mem_cons_of_mem _ (h2 x hx).1,(hne x hx).2,(h2 x hx).2.2⟩
   have both:(a<np∨∃y,bD H a=some y)→(a::rF H np (a::seen) r).Nodup∧∀x,x∈a::rF H np (a::seen) r→x∈a::r∧iP seen x=false∧(x<np∨∃y,bD H x=some y):=λha =>
    ⟨List.nodup_cons.2 ⟨λhm=>(hne a hm).1 rfl,h1⟩,λx hx=>by
     rcases List.mem_cons.1 hx with rfl | hx
     ·exact⟨List.mem_cons_self,h,ha⟩
     ·exact OM x hx⟩
   simp only
   split
   ·rename_i hb
    exact both (.inl (by simpa[Nat.blt_eq]using hb))
   ·split
    ·rename_i y hy
     exact both (.inr ⟨y,hy⟩)
    ·exact⟨h1,OM⟩
theorem IC{a b:Nat}{l:List Nat}(h:a≠b):iP (a::l) b=iP l b:=by
 have:Nat.beq a b=false:=by
  cases hh:Nat.beq a b with
  | false=>rfl
  | true=>exact absurd (aR hh) h
 simp[iP,this]
theorem Ew{H:WH}{np:Nat}:∀(l seen r:List Nat),l.Nodup→(∀x,x∈l→x<np∧iP seen x=false)→∃r',rF H np seen (l++r)=l++r'
 | [],seen,r,_,_=>⟨rF H np seen r,rfl⟩
 | a::l,seen,r,hn,h=>by
  rw[List.nodup_cons]at hn
  obtain⟨h1,h2⟩:=h a (by simp)
  obtain⟨r',hr⟩:=Ew (H:=H) (np:=np) l (a::seen) r hn.2 (λx hx=>⟨(h x (by simp[hx])).1,by
   have hne:a≠x:=λe=>hn.1 (by rw[e];exact hx)
   rw[IC hne]
   exact(h x (by simp[hx])).2⟩)
  refine⟨r', ?_⟩
  simp only[List.cons_append,rF,h2]
  rw[show Nat.blt a np=true by simpa[Nat.blt_eq]using h1]
  simp only[hr]
theorem zW(H:WH)(np:Nat)(roots:List Nat):(vH H np roots).Nodup∧(∀x,x∈vH H np roots→x<np∨∃y,bD H x=some y)∧∃r,vH H np roots=List.range np++r:=by
 have pre:∀r,∃r',rF H np [] (List.range np++r)=List.range np++r':=λr =>
  Ew _ [] r List.nodup_range (λx hx=>⟨List.mem_range.1 hx,rfl⟩)
 have step:∀l,(∃r,l=List.range np++r)→∃r,JR H np l=List.range np++r:=λl ⟨r,h⟩=>by
  subst h
  unfold JR
  rw[aY]
  exact pre _
 refine⟨(sU _ _).1,λx hx=>((sU _ _).2 x hx).2.2, ?_⟩
 exact step _ (step _ (step _ (pre _)))
theorem MV{H:WH}{np i:Nat}{roots:List Nat}(h:i<np):(vH H np roots)[i]?=some i:=by
 obtain⟨_,_,r,hr⟩:=zW H np roots
 rw[hr,List.getElem?_append_left (by simpa using h)]
 simp[h]
theorem OO {R:Nat→Prop} {ι:VI} {H:WH} {M:Heap} (s:VS R ι H M) {np:Nat} (hn:np≤H.length) (roots:List Nat) {vs as:List AV} (hv:aZ M (OR R ι) ι vs as) :
  ∃aV,VS R aV (jC H (vH H np roots) (vH H np roots)) M∧Stp np [] ι H M aV (jC H (vH H np roots) (vH H np roots)) M∧aZ M (OR R aV) aV (AP (kE (vH H np roots)) vs) as:=by
 obtain⟨h1,h2,r,hr⟩:=zW H np roots
 have hlow:∀i,i<np→(vH H np roots)[i]?=some i:=λi=>MV
 generalize vH H np roots=p at *
 have hsub:∀j,OR R (cu ι p) j→OR R ι j:=λj h=>h.imp (λh=>by
  obtain⟨b,_,h3,h4⟩:=l9 h
  exact⟨b,h3,h4⟩) id
 have hs:=s.pick h1 (R':=R) (λj h=>⟨(s.res j h).1,λb _ hb=>(s.res j h).2 b hb⟩) hsub
 have hko:Keeps M (own ι) M (own (cu ι p)):=⟨Nat.le_refl _,λb _ h=>⟨rfl,λk=>h (by obtain⟨b',_,h3,h4⟩:=l9 k;exact⟨b',h3,h4⟩)⟩⟩
 refine⟨_,hs,⟨hko,λi hi=>?_,λi hi h=>?_,λi hi=>by simp only[cu,hlow i hi],λi hi=>by simp only[cu,hlow i hi],λi hi _=>by simp only[cu,hlow i hi],λi hi h=>?_,λ_ _ _ _ _ _=>rfl, ?_⟩, ?_⟩
 ·have:=hlow i hi
  simp only[cu,this]
  exact⟨λ_ h=>⟨h,λ_ h=>h⟩,λh=>⟨h,λ_ h=>h⟩⟩
 ·simp only[cu,hlow i hi]
  exact h
 ·obtain⟨x,h⟩:=h
  rw[iy,hlow i hi]at h
  obtain⟨z,hz,_⟩:=kJ h
  exact⟨z,hz⟩
 ·rw[lM,hr]
  simp
 ·exact aZ.rn ⟨Nat.le_refl _,λb _ h=>⟨rfl,λk=>h (hsub b k)⟩⟩ nL _ _ hv
theorem xG {R:Nat→Prop} {ι:VI} {H:WH} {M:Heap} (s:VS R ι H M) {np:Nat} (hn:np≤H.length) {ms bs:List (Option Bool)} {ts vs as:List AV} (hv:aZ M (OR R ι) ι vs as) {k:List AV→WH→Prop} (h:zO np ms bs ts vs H k) :
  ∃vs' blks aV,k vs' blks∧VS R aV blks M∧Stp np [] ι H M aV blks M∧aZ M (OR R aV) aV vs' as:=by
 unfold zO at h
 obtain⟨fU,h1,h2,h3⟩:=vU ms (gT vs ts) H ι M as s (aZ.retag _ _ _ hv)
 generalize hr:tJ ms (gT vs ts) H=r at *
 obtain⟨vs1,H1⟩:=r
 simp only at h h1 h2 h3
 obtain⟨lJ,k1,k2⟩:=vV bs none (vH H1 np (fG vs1)) H1 fU M h1
 have k3:=aZ.step h1 k2 h3
 obtain⟨RX,q1,q2,q3⟩:=OO k1 (Nat.le_trans hn (Nat.le_trans h2.next k2.next)) (fG vs1) k3
 refine⟨_,_,RX,h,q1, ?_,q3⟩
 have e1:Stp np [] ι H M fU H1 M:=h2.weak hn
 have e2:Stp np [] fU H1 M lJ _ M:=k2.weak (Nat.le_trans hn h2.next)
 have:=(e1.trans e2 (Nat.le_refl _)).trans q2 (Nat.le_refl _)
 simpa using this
theorem uL{f:Nat→Option Nat}:∀(p:List Nat) (out H:WH),(lK f p out H).length=H.length
 | [],out,H=>by simp[lK]
 | b::p,[],H=>by simp[lK]
 | b::p,x::out,H=>by simp[lK,uL p,bQ]
theorem sj{f:Nat→Option Nat}:∀(p:List Nat) (out H:WH) (i:Nat),i∉p→bD (lK f p out H) i=bD H i
 | [],out,H,i,_=>by simp[lK]
 | b::p,[],H,i,_=>by simp[lK]
 | b::p,x::out,H,i,h=>by
  simp only[List.mem_cons,not_or]at h
  simp only[lK]
  rw[sj p out _ i h.2,iF,if_neg (λe=>h.1 e.1)]
theorem zX{f:Nat→Option Nat}:∀(p:List Nat) (out H:WH) (k b:Nat),p.Nodup→p.length≤out.length→p[k]?=some b→b<H.length→bD (lK f p out H) b=Ja f (bD out k)
 | [],out,H,k,b,_,_,h,_=>by simp at h
 | a::p,[],H,k,b,_,hl,_,_=>by simp at hl
 | a::p,x::out,H,0,b,hp,hl,h,hb=>by
  simp only[List.getElem?_cons_zero,au]at h
  subst h
  rw[List.nodup_cons]at hp
  simp only[lK]
  rw[sj p out _ a hp.1,iF,if_pos ⟨rfl,hb⟩]
  rfl
 | a::p,x::out,H,k+1,b,hp,hl,h,hb=>by
  simp only[List.getElem?_cons_succ]at h
  rw[List.nodup_cons]at hp
  simp only[bE]at hl
  simp only[lK]
  rw[zX p out _ k b hp.2 (by omega) h (by rw[bQ];exact hb)]
  rfl
theorem BX:∀(out:WH) (n k:Nat),bD (out.drop n) k=bD out (n+k)
 | out,0,k=>by simp
 | [],n+1,k=>by simp[bD]
 | x::out,n+1,k=>by
  rw[List.drop_succ_cons,BX out n k,Nat.add_right_comm]
  rfl
theorem Ey{f:Nat→Option Nat}:∀(out:WH) (k:Nat),bD (out.map (Ja f)) k=Ja f (bD out k)
 | [],k=>by simp[bD,Ja]
 | x::out,0=>by simp[bD]
 | x::out,k+1=>by simp[bD,Ey out k]
def cls(n0:Nat)(p:List Nat)(i:Nat):Nat⊕Nat:=match kE p i with
 | some k=>.inl k
 | none=>if i<n0 then .inr i else .inl (p.length+(i-n0))
def jw (ι oI:VI) (n0:Nat) (p:List Nat):VI:=⟨λi=>match cls n0 p i with
  |.inl k=>oI k
  |.inr i=>ι i,λi=>match cls n0 p i with
  |.inl k=>oI.xw k
  |.inr i=>ι.xw i,λi=>match cls n0 p i with
  |.inl k=>oI.gone k
  |.inr i=>ι.gone i,λi=>match cls n0 p i with
  |.inl k=>oI.dim k
  |.inr i=>ι.dim i⟩
section
variable {R:Nat→Prop} {ι:VI} {H:WH} {M:Heap} (s:VS R ι H M) {p:List Nat} (hp:p.Nodup) (hl:∀b,b∈p→b<H.length) {out:WH} (ho:p.length≤out.length)
include hp hl
theorem sV{i k:Nat}(h:p[k]?=some i):cls H.length p i=.inl k:=by simp[cls,pG hp h]
theorem sW{i k:Nat}(h:cls H.length p i=.inl k):(p[k]?=some i∧i<H.length)∨(i∉p∧H.length≤i∧k=p.length+(i-H.length)):=by
 unfold cls at h
 cases e:kE p i with
 | some k' =>
  rw[e]at h
  simp only[Sum.inl.injEq]at h
  subst h
  have:=vW e
  exact .inl ⟨this,hl i (List.mem_of_getElem? this)⟩
 | none =>
  rw[e]at h
  simp only at h
  split at h
  ·cases h
  ·simp only[Sum.inl.injEq]at h
   exact .inr ⟨xE e,by omega,h.symm⟩
theorem lY{i i':Nat}(h:cls H.length p i=.inr i'):i'=i∧i∉p∧i<H.length:=by
 unfold cls at h
 cases e:kE p i with
 | some k'=>rw[e]at h;cases h
 | none =>
  rw[e]at h
  simp only at h
  split at h
  ·simp only[Sum.inr.injEq]at h
   exact⟨h.symm,xE e,by assumption⟩
  ·cases h
theorem MW{i i' k:Nat}(h:cls H.length p i=.inl k)(h':cls H.length p i'=.inl k):i=i':=by
 rcases sW hp hl h with⟨h1,_⟩ |⟨_,h2,h3⟩<;>rcases sW hp hl h' with⟨h1',_⟩ |⟨_,h2',h3'⟩
 ·rw[h1]at h1'
  exact ak h1'
 ·have:=(aF.1 h1).1
  omega
 ·have:=(aF.1 h1').1
  omega
 ·omega
theorem J7{k i:Nat}(h:back p H.length k=some i):cls H.length p i=.inl k:=by
 unfold back at h
 cases e:p[k]? with
 | some b =>
  rw[e]at h
  obtain rfl:=ak h
  exact sV hp hl e
 | none =>
  rw[e]at h
  simp only[au]at h
  have hk:p.length≤k:=by
   rw[List.getElem?_eq_none_iff]at e
   exact e
  unfold cls
  have hn:kE p i=none:=by
   cases e':kE p i with
   | none=>rfl
   | some k' =>
    have:=hl i (List.mem_of_getElem? (vW e'))
    omega
  rw[hn]
  simp only
  rw[if_neg (by omega)]
  congr 1
  omega
include ho
theorem IE (i:Nat):bD (qY H p out) i=match cls H.length p i with
  |.inl k=>Ja (back p H.length) (bD out k)
  |.inr i=>bD H i:=by
 unfold qY
 rw[vM,uL]
 cases h:cls H.length p i with
 | inl k =>
  rcases sW hp hl h with⟨h1,h2⟩ |⟨_,h2,rfl⟩
  ·rw[if_pos h2]
   simp only
   exact zX p out H k i hp ho h1 h2
  ·rw[if_neg (by omega)]
   simp only
   rw[Ey,BX]
 | inr i' =>
  obtain⟨rfl,h2,h3⟩:=lY hp hl h
  rw[if_pos h3]
  exact sj p out H _ h2
theorem IG:(qY H p out).length=H.length+(out.length-p.length):=by
 unfold qY
 simp[uL]
theorem Hq {R':Nat→Prop} (hR':∀j,R' j↔R j∨(own ι j∧¬own (cu ι p) j)) {oI:VI} {M':Heap} {blks:WH} (s:VS R ι H M) (sc:VS R' oI out M') (kc:Stp p.length (List.range p.length) (cu ι p) blks M oI out M') (hpl:∀b,b∈p→∃x,bD H b=some x) (hbk:∀k b,p[k]?=some b→(∃x,bD blks k=some x)→∃x,bD H b=some x) :
  VS R (jw ι oI H.length p) (qY H p out) M'∧Stp H.length p ι H M (jw ι oI H.length p) (qY H p out) M'∧∀v a,VL M' (OR R' oI) oI v a→VL M' (OR R (jw ι oI H.length p)) (jw ι oI H.length p) (rn (back p H.length) v) a:=by
 have hinl:∀ {i k},cls H.length p i=.inl k→(jw ι oI H.length p) i=oI k∧(jw ι oI H.length p).xw i=oI.xw k∧(jw ι oI H.length p).gone i=oI.gone k∧(jw ι oI H.length p).dim i=oI.dim k:=λh=>by simp[jw,h]
 have hinr:∀ {i i'},cls H.length p i=.inr i'→(jw ι oI H.length p) i=ι i∧(jw ι oI H.length p).xw i=ι.xw i∧(jw ι oI H.length p).gone i=ι.gone i∧(jw ι oI H.length p).dim i=ι.dim i:=λh=>by
  obtain⟨rfl,_⟩:=lY hp hl h
  simp[jw,h]
 have hget:=IE (out:=out) hp hl ho
 have hlen:=IG (out:=out) hp hl ho
 have hold:∀ {i},i∉p→i<H.length→cls H.length p i=.inr i:=λ{i} h1 h2=>by
  cases h:cls H.length p i with
  | inl k =>
   rcases sW hp hl h with⟨h3,_⟩ |⟨_,h3,_⟩
   ·exact absurd (List.mem_of_getElem? h3) h1
   ·omega
  | inr i'=>rw[(lY hp hl h).1]
 have QG:∀ {i k},cls H.length p i=.inl k→act (jw ι oI H.length p) (qY H p out) i→act oI out k:=λh ha=>by
  rcases ha with⟨x,ha⟩ | ha
  ·rw[hget,h]at ha
   obtain⟨z,hz,_⟩:=kJ ha
   exact .inl ⟨z,hz⟩
  ·rw[(hinl h).2.2.1]at ha
   exact .inr ha
 have QH:∀ {i i'},cls H.length p i=.inr i'→act (jw ι oI H.length p) (qY H p out) i→act ι H i:=λh ha=>by
  rcases ha with⟨x,ha⟩ | ha
  ·obtain⟨rfl,_⟩:=lY hp hl h
   rw[hget,h]at ha
   exact .inl ⟨x,ha⟩
  ·rw[(hinr h).2.2.1]at ha
   exact .inr ha
 -- what is the caller's alone
 have Hr:∀ {i j},i∉p→act ι H i→ι i=some j→¬own (cu ι p) j:=λ{i j} h1 h2 h3 h4=>by
  obtain⟨b,q1,q2,q3⟩:=l9 h4
  have:=s.inj b i j (.inr q3) h2 q2 h3 (.inl q3)
  subst this
  exact h1 q1
 have stays:∀ {i j},i∉p→act ι H i→ι i=some j→M'.get j=M.get j∧¬own oI j:=λ{i j} h1 h2 h3=>kc.keep.get j (s.lt i j h3).2 (Hr h1 h2 h3)
 have sub:∀j,own (cu ι p) j→own ι j:=λj h=>by
  obtain⟨b,_,h3,h4⟩:=l9 h
  exact⟨b,h3,h4⟩
 have QI:∀j,own (jw ι oI H.length p) j→own oI j∨(∃i,i∉p∧i<H.length∧ι i=some j∧ι.gone i=false):=λj ⟨i,h1,h2⟩=>by
  cases h:cls H.length p i with
  | inl k =>
   rw[(hinl h).1]at h1
   rw[(hinl h).2.2.1]at h2
   exact .inl ⟨k,h1,h2⟩
  | inr i' =>
   obtain⟨rfl,q1,q2⟩:=lY hp hl h
   rw[(hinr h).1]at h1
   rw[(hinr h).2.2.1]at h2
   exact .inr ⟨i',q1,q2,h1,h2⟩
 have TW:∀j,OR R (jw ι oI H.length p) j→OR R' oI j:=λj h=>by
  rcases h with h | h
  ·rcases QI j h with h |⟨i,q1,q2,q3,q4⟩
   ·exact .inl h
   ·exact .inr ((hR' j).2 (.inr ⟨⟨i,q3,q4⟩,Hr q1 (.inr q4) q3⟩))
  ·exact .inr ((hR' j).2 (.inl h))
 have hkeep:Keeps M (own ι) M' (own (jw ι oI H.length p)):=⟨kc.keep.next,λb hb h=>by
  obtain⟨e1,e2⟩:=kc.keep.get b hb (λk=>h (sub b k))
  refine⟨e1,λk=>?_⟩
  rcases QI b k with k |⟨i,q1,q2,q3,q4⟩
  ·exact e2 k
  ·exact h ⟨i,q3,q4⟩⟩
 have hle:∀S,VI.Le ι (jw ι oI H.length p) S:=λS i _=>by
  by_cases hi:i∈p
  ·obtain⟨k,hk⟩:=List.mem_iff_getElem?.1 hi
   have hc:=sV hp hl hk
   have hkl:=(aF.1 hk).1
   obtain⟨e1,e2,e3,e4⟩:=hinl hc
   have:=kc.le k hkl
   simp only[cu,hk]at this
   rw[e1,e2,e4]
   exact this
  ·by_cases hlt:i<H.length
   ·obtain⟨e1,e2,e3,e4⟩:=hinr (hold hi hlt)
    rw[e1,e2,e4]
    exact⟨λ_ h=>⟨h,λ_ h=>h⟩,λh=>⟨h,λ_ h=>h⟩⟩
   ·exact⟨λj h=>absurd (s.lt i j h).1 hlt,λh=>absurd (s.kF i h).1 hlt⟩
 have QJ:Via (back p H.length) oI (jw ι oI H.length p):=λk i h=>by
  obtain⟨e1,e2,e3,e4⟩:=hinl (J7 hp hl h)
  rw[e1,e2,e4]
  exact⟨λ_ h=>h,λh=>h,λ_ h=>h⟩
 have Te:Keeps M' (OR R' oI) M' (OR R (jw ι oI H.length p)):=⟨Nat.le_refl _,λb _ h=>⟨rfl,λk=>h (TW b k)⟩⟩
 refine⟨⟨λi j h=>?_,λi i' j h h' e e' g=>?_,λi x hx=>?_,λi h=>?_,λi hi c sl h=>?_,sc.Em,λj h=>⟨?_,λi hi=>?_⟩⟩,⟨hkeep,hle _,λi hi h=>?_,λi hi=>?_,λi hi=>?_,λi hi h=>?_,λi hi h=>?_,λi j hi h hj hn=>?_,by rw[hlen];omega⟩,λv a h=>VL.rn Te QJ v a h⟩
 ·rw[hlen]
  cases hc:cls H.length p i with
  | inl k =>
   rw[(hinl hc).1]at h
   obtain⟨q1,q2⟩:=sc.lt k j h
   refine⟨?_,q2⟩
   rcases sW hp hl hc with⟨_,h2⟩ |⟨_,h2,rfl⟩<;>omega
  | inr i' =>
   rw[(hinr hc).1]at h
   obtain⟨q1,q2⟩:=s.lt i j h
   exact⟨by omega,Nat.lt_of_lt_of_le q2 kc.keep.next⟩
 ·cases hc:cls H.length p i with
  | inl k =>
   cases hc':cls H.length p i' with
   | inl k' =>
    rw[(hinl hc).1]at e
    rw[(hinl hc').1]at e'
    rw[(hinl hc).2.2.1,(hinl hc').2.2.1]at g
    have:=sc.inj k k' j (QG hc h) (QG hc' h') e e' g
    subst this
    exact MW hp hl hc hc'
   | inr i2 =>
    exfalso
    obtain⟨rfl,q1,q2⟩:=lY hp hl hc'
    have ha:=QH hc' h'
    rw[(hinl hc).1]at e
    rw[(hinr hc').1]at e'
    rw[(hinl hc).2.2.1,(hinr hc').2.2.1]at g
    rcases g with g | g
    ·exact(stays q1 ha e').2 ⟨k,e,g⟩
    ·exact(sc.res j ((hR' j).2 (.inr ⟨⟨i2,e',g⟩,Hr q1 ha e'⟩))).2 k (QG hc h) e
  | inr i1 =>
   obtain⟨rfl,q1,q2⟩:=lY hp hl hc
   have ha:=QH hc h
   rw[(hinr hc).1]at e
   cases hc':cls H.length p i' with
   | inl k' =>
    exfalso
    rw[(hinl hc').1]at e'
    rw[(hinr hc).2.2.1,(hinl hc').2.2.1]at g
    rcases g with g | g
    ·exact(sc.res j ((hR' j).2 (.inr ⟨⟨i1,e,g⟩,Hr q1 ha e⟩))).2 k' (QG hc' h') e'
    ·exact(stays q1 ha e).2 ⟨k',e',g⟩
   | inr i2 =>
    obtain⟨rfl,q1',q2'⟩:=lY hp hl hc'
    rw[(hinr hc').1]at e'
    rw[(hinr hc).2.2.1,(hinr hc').2.2.1]at g
    exact s.inj i1 i2 j ha (QH hc' h') e e' g
 ·cases hc:cls H.length p i with
  | inl k =>
   rw[hget,hc]at hx
   obtain⟨z,hz,rfl⟩:=kJ hx
   obtain⟨e1,e2,e3,e4⟩:=hinl hc
   rw[e1,e2,e3,e4,C_]
   rcases sc.blk k z hz with⟨h1,h2,ro,rfl⟩ |⟨j,h1,h2,h3⟩
   ·exact .inl ⟨h1,h2,ro,rfl⟩
   ·exact .inr ⟨j,h1,BL.rn Te QJ h2,h3⟩
  | inr i' =>
   obtain⟨rfl,q1,q2⟩:=lY hp hl hc
   rw[hget,hc]at hx
   obtain⟨e1,e2,e3,e4⟩:=hinr hc
   rw[e1,e2,e3,e4]
   rcases s.blk i' x hx with h |⟨j,h1,h2,h3⟩
   ·exact .inl h
   ·refine .inr ⟨j,h1, ?_,h3⟩
    rw[(stays q1 (.inl ⟨x,hx⟩) h1).1]
    exact h2.mono (hkeep.or R) hle (λ_ h=>h)
 ·rw[hlen]
  cases hc:cls H.length p i with
  | inl k =>
   rw[(hinl hc).2.1]at h
   rw[(hinl hc).1]
   obtain⟨q1,q2⟩:=sc.kF k h
   refine⟨?_,q2⟩
   rcases sW hp hl hc with⟨_,h2⟩ |⟨_,h2,rfl⟩<;>omega
  | inr i' =>
   rw[(hinr hc).2.1]at h
   rw[(hinr hc).1]
   obtain⟨q1,q2⟩:=s.kF i h
   exact⟨by omega,q2⟩
 ·cases hc:cls H.length p i with
  | inl k =>
   rw[(hinl hc).2.2.1]at hi
   rw[hget,hc]at h
   obtain⟨z,hz,h2⟩:=kJ h
   have hr:=C_ (back p H.length) z
   rw[←h2]at hr
   cases z with
   | cells c' ro sl' =>
    simp only[fD.ro]at hr
    subst hr
    exact sc.jm k hi c' sl' hz
   | map es=>cases h2
  | inr i' =>
   obtain⟨rfl,q1,q2⟩:=lY hp hl hc
   rw[(hinr hc).2.2.1]at hi
   rw[hget,hc]at h
   exact s.jm i' hi c sl h
 ·exact Nat.lt_of_lt_of_le (s.res j h).1 kc.keep.next
 ·cases hc:cls H.length p i with
  | inl k =>
   rw[(hinl hc).1]
   exact(sc.res j ((hR' j).2 (.inl h))).2 k (QG hc hi)
  | inr i' =>
   rw[(hinr hc).1]
   exact(s.res j h).2 i (QH hc hi)
 ·by_cases hm:i∈p
  ·obtain⟨k,hk⟩:=List.mem_iff_getElem?.1 hm
   rw[(hinl (sV hp hl hk)).2.2.1]
   refine kc.gone k (aF.1 hk).1 ?_
   simp only[cu,hk]
   exact h
  ·rw[(hinr (hold hm hi)).2.2.1]
   exact h
 ·by_cases hm:i∈p
  ·obtain⟨k,hk⟩:=List.mem_iff_getElem?.1 hm
   rw[(hinl (sV hp hl hk)).1,kc.OE k (aF.1 hk).1]
   simp only[cu,hk]
  ·rw[(hinr (hold hm hi)).1]
 ·by_cases hm:i∈p
  ·obtain⟨k,hk⟩:=List.mem_iff_getElem?.1 hm
   rw[(hinl (sV hp hl hk)).2.2.2,kc.FV k (aF.1 hk).1]
   simp only[cu,hk]
  ·rw[(hinr (hold hm hi)).2.2.2]
 ·by_cases hm:i∈p
  ·obtain⟨x,hx⟩:=hpl i hm
   rw[h]at hx
   cases hx
  ·rw[(hinr (hold hm hi)).2.2.1]
 ·obtain⟨x,h⟩:=h
  by_cases hm:i∈p
  ·obtain⟨k,hk⟩:=List.mem_iff_getElem?.1 hm
   rw[hget,sV hp hl hk]at h
   obtain⟨z,hz,_⟩:=kJ h
   exact hbk k i hk (kc.live k (aF.1 hk).1 ⟨z,hz⟩)
  ·rw[hget,hold hm hi]at h
   exact⟨x,h⟩
 ·exact(stays hn (QH (hold hn hi) h) hj).1
end
mutual
theorem Ez{M M':Heap}{O O':Nat→Prop}{κ jG:VI}:∀(v a:AV),iX v=true→VL M O κ v a→VL M' O' jG v a
 |.bool _,a,_,h=>by simp only[VL]at h ⊢;exact h
 |.int ..,a,_,h=>by simp only[VL]at h ⊢;exact h
 |.str _,a,_,h=>by simp only[VL]at h ⊢;exact h
 |.ptr none,a,_,h=>by simp only[VL]at h ⊢;exact h
 |.nilFunc,a,_,h=>by simp only[VL]at h ⊢;exact h
 |.slice none s l c e,a,hs,h=>by simp only[VL]at h ⊢;exact h
 |.tuple cs,a,hs,h=>by
  simp only[iX]at hs
  simp only[VL]at h ⊢
  obtain⟨cs',e,h⟩:=h
  exact⟨cs',e,xH cs cs' hs h⟩
 |.agg cs,a,hs,h=>by
  simp only[iX]at hs
  simp only[VL]at h ⊢
  obtain⟨cs',e,h⟩:=h
  exact⟨cs',e,xH cs cs' hs h⟩
 |.undef,_,hs,_=>by simp[iX]at hs
 |.ptr (some _),_,hs,_=>by simp[iX]at hs
 |.slice (some _) _ _ _ _,_,hs,_=>by simp[iX]at hs
 |.map _,_,hs,_=>by simp[iX]at hs
 |.func _ _,_,hs,_=>by simp[iX]at hs
 |.list ..,_,hs,_=>by simp[iX]at hs
 |.elem _,_,hs,_=>by simp[iX]at hs
 |.acc ..,_,hs,_=>by simp[iX]at hs
theorem xH{M M':Heap}{O O':Nat→Prop}{κ jG:VI}:∀(v a:List AV),Eo v=true→aZ M O κ v a→aZ M' O' jG v a
 | [],[],_,_=>by simp[aZ]
 | [],_::_,_,h=>by simp[aZ]at h
 | _::_,[],_,h=>by simp[aZ]at h
 | v::r,a::l,hs,h=>by
  simp only[Eo]at hs
  split at hs
  case h_2=>cases hs
  rename_i hv
  simp only[aZ]at h ⊢
  exact⟨Ez v a hv h.1,xH r l hs h.2⟩
end
theorem VS.ext{R:Nat→Prop}{ι:VI}{H:WH}{M M':Heap}(s:VS R ι H M)(hn:M.next≤M'.next)(hg:∀b,b<M.next→M'.get b=M.get b)(ok:M'.Ok):VS R ι H M'∧Stp H.length [] ι H M ι H M':=by
 have hk:Keeps M (own ι) M' (own ι):=⟨hn,λb hb ho=>⟨hg b hb,ho⟩⟩
 refine⟨⟨λi j h=>⟨(s.lt i j h).1,Nat.lt_of_lt_of_le (s.lt i j h).2 hn⟩,s.inj,λi x hx=>?_,s.kF,s.jm,ok,λj h=>⟨Nat.lt_of_lt_of_le (s.res j h).1 hn,(s.res j h).2⟩⟩,⟨hk,.refl _ _,λ_ _ h=>h,λ_ _=>rfl,λ_ _=>rfl,λ_ _ _=>rfl,λ_ _ h=>h,λi j _ _ hj _=>?_,Nat.le_refl _⟩⟩
 ·rcases s.blk i x hx with h |⟨j,h1,h2,h3⟩
  ·exact .inl h
  refine .inr ⟨j,h1, ?_,h3⟩
  rw[hg j (s.lt i j h1).2]
  exact h2.mono (hk.or R) (λ_=>.refl _ _) (λ_ h=>h)
 ·exact hg j (s.lt i j hj).2
theorem J8 {C:aW} {g:FuncId} {args as:List AV} {R:Nat→Prop} {ι:VI} {H:WH} {M:Heap} (s:VS R ι H M) (hv:aZ M (OR R ι) ι args as) {ms:List (Option Bool)} {ts:List AV} {v:AV}
  (h0:vH (tJ ms (gT args ts) H).2 0 (fG (tJ ms (gT args ts) H).1)=[]) (hs:iX v=true) (hspec:Spec C g (AP (kE []) (tJ ms (gT args ts) H).1) [] v []) :
  ∃a M',C g as M=some (a,M')∧VS R ι H M'∧Stp H.length [] ι H M ι H M'∧VL M' (OR R ι) ι v a:=by
 obtain⟨lJ,k1,k2,k3⟩:=vU ms (gT args ts) H ι M as s (aZ.retag _ _ _ hv)
 generalize tJ ms (gT args ts) H=q at *
 obtain⟨vs,H2⟩:=q
 simp only at h0 hspec k1 k2 k3
 obtain⟨p1,p2,_⟩:=zW H2 0 (fG vs)
 rw[h0]at p1 p2
 let R':Nat→Prop:=λj=>R j∨(own lJ j∧¬own (cu lJ []) j)
 have hsub:∀j,OR R' (cu lJ []) j→OR R lJ j:=λj h=>by
  rcases h with h | h | h
  ·obtain⟨b,_,h3,h4⟩:=l9 h
   exact .inl ⟨b,h3,h4⟩
  ·exact .inr h
  ·exact .inl h.1
 have hpick:=k1.pick p1 (R':=R') (λj h=>by
  rcases h with h |⟨⟨i,q1,q2⟩,q3⟩
  ·exact⟨(k1.res j h).1,λb _ hb=>(k1.res j h).2 b hb⟩
  ·exact⟨(k1.lt i j q1).2,λb hb=>(nomatch hb)⟩) hsub
 have hargs:aZ M (OR R' (cu lJ [])) (cu lJ []) (AP (kE []) vs) as:=aZ.rn ⟨Nat.le_refl _,λb _ h=>⟨rfl,λk=>h (hsub b k)⟩⟩ (by have:=@nL;rw[←h0];exact nL) _ _ k3
 obtain⟨a,M',oI,e,q1,q2,q3⟩:=hspec R' (cu lJ []) M as hpick hargs
 have hno:∀b,¬own (cu lJ []) b:=λb h=>by
  obtain⟨c,hc,_⟩:=l9 h
  exact(nomatch hc)
 obtain⟨e1,e2⟩:=s.ext q2.keep.next (λb hb=>(q2.keep.get b hb (hno b)).1) q1.Em
 exact⟨a,M',e,e1,e2,Ez v a hs q3⟩
mutual
theorem BZ{M M':Heap}{O O':Nat→Prop}{κ:VI}:∀(v a:AV),clean v=true→VL M O κ v a→VL M' O' κ v a
 |.bool _,a,_,h=>by simp only[VL]at h ⊢;exact h
 |.int ..,a,_,h=>by simp only[VL]at h ⊢;exact h
 |.str _,a,_,h=>by simp only[VL]at h ⊢;exact h
 |.ptr none,a,_,h=>by simp only[VL]at h ⊢;exact h
 |.ptr (some _),a,_,h=>by simp only[VL]at h ⊢;exact h
 |.nilFunc,a,_,h=>by simp only[VL]at h ⊢;exact h
 |.slice none s l c e,a,hs,h=>by simp only[VL]at h ⊢;exact h
 |.slice (some _) s l c e,a,hs,h=>by simp only[VL]at h
 |.map none,a,_,h=>by simp only[VL]at h ⊢;exact h
 |.map (some _),a,_,h=>by simp only[VL]at h ⊢;exact h
 |.undef,_,_,_=>by simp[VL]
 |.acc ..,a,_,h=>by simp only[VL]at h ⊢;exact h
 |.tuple cs,a,hs,h=>by
  simp only[clean]at hs
  simp only[VL]at h ⊢
  obtain⟨cs',e,h⟩:=h
  exact⟨cs',e,nX cs cs' hs h⟩
 |.agg cs,a,hs,h=>by
  simp only[clean]at hs
  simp only[VL]at h ⊢
  obtain⟨cs',e,h⟩:=h
  exact⟨cs',e,nX cs cs' hs h⟩
 |.func f cs,a,hs,h=>by
  simp only[clean]at hs
  simp only[VL]at h ⊢
  obtain⟨cs',e,h⟩:=h
  exact⟨cs',e,nX cs cs' hs h⟩
 |.list ..,_,hs,_=>by simp[clean]at hs
 |.elem _,_,hs,_=>by simp[clean]at hs
theorem nX{M M':Heap}{O O':Nat→Prop}{κ:VI}:∀(v a:List AV),kG v=true→aZ M O κ v a→aZ M' O' κ v a
 | [],[],_,_=>by simp[aZ]
 | [],_::_,_,h=>by simp[aZ]at h
 | _::_,[],_,h=>by simp[aZ]at h
 | v::r,a::l,hs,h=>by
  simp only[kG]at hs
  split at hs
  case h_2=>cases hs
  rename_i hv
  simp only[aZ]at h ⊢
  exact⟨BZ v a hv h.1,nX r l hs h.2⟩
end
theorem VS.QK{R R':Nat→Prop}{ι:VI}{H:WH}{M:Heap}(s:VS R ι H M)(hc:∀i x,bD H i=some x→∃c sl,x=.cells c false sl∧kG c=true)(h:∀j,R' j→R j∨(j<M.next∧¬own ι j)):VS R' ι H M:=by
 refine⟨s.lt,s.inj,λi x hx=>?_,s.kF,s.jm,s.Em,λj hj=>?_⟩
 ·rcases s.blk i x hx with h |⟨j,h1,h2,h3⟩
  ·exact .inl h
  obtain⟨c,sl,rfl,hcl⟩:=hc i x hx
  obtain⟨c',t,ro',sl',L,e,g0,g1,g2,g3,g4⟩:=h2
  exact .inr ⟨j,h1,⟨c',t,ro',sl',L,e,g0,g1,g2,nX c c' hcl g3,g4⟩,h3⟩
 ·rcases h j hj with h |⟨h,ho⟩
  ·exact s.res j h
  refine⟨h,λi ha hi=>ho ⟨i,hi, ?_⟩⟩
  rcases ha with⟨x,hx⟩ | ha
  ·obtain⟨c,sl,rfl,_⟩:=hc i x hx
   rcases s.blk i _ hx with⟨q,_⟩ |⟨j',_,_,q⟩
   ·rw[(s.kF i q).2]at hi
    cases hi
   ·exact q rfl
  ·exact ha
theorem vX:∀ {out:WH} {k:TS→Prop} {tr:TS},BI out k tr→(∃dZ,k dZ)∧∀i x,bD out i=some x→∃c sl,x=.cells c false sl∧kG c=true
 | [],k,tr,h=>⟨⟨tr,h⟩,λi x hx=>by simp[bD]at hx⟩
 | none::r,k,tr,h=>by
  obtain⟨h1,h2⟩:=vX (out:=r) h
  refine⟨h1,λi x hx=>?_⟩
  cases i with
  | zero=>simp[bD]at hx
  | succ i=>exact h2 i x hx
 | some (.map _)::_,k,tr,h=>h.elim
 | some (.cells c ro sl)::r,k,tr,h=>by
  have fin:kG c=true→ro=false→(∀i x,bD r i=some x→∃c sl,x=.cells c false sl∧kG c=true)→∀i x,bD (some (.cells c ro sl)::r) i=some x→∃c sl,x=.cells c false sl∧kG c=true:=λhc hr h2 i x hx=>by
   cases i with
   | zero =>
    simp only[bD,au]at hx
    subst hr
    exact⟨c,sl,hx.symm,hc⟩
   | succ i=>exact h2 i x hx
  simp only[BI]at h
  cases ro
  case true=>cases sl<;>exact h.elim
  cases sl
  ·simp only at h
   split at h
   case h_2=>exact h.elim
   rename_i hc
   obtain⟨h1,h2⟩:=vX (out:=r) h
   exact⟨h1,fin hc rfl h2⟩
  ·obtain⟨dZ,hc,h⟩:=dY h
   obtain⟨h1,h2⟩:=vX (out:=r) h
   exact⟨h1,fin hc rfl h2⟩
theorem EA{S:List Nat}:∀ {p:List Nat},apart S p=true→∀b∈p,iP S b=false
 | [],_,b,hb=>by cases hb
 | a::p,h,b,hb=>by
  simp only[apart]at h
  split at h
  ·cases h
  rename_i ha
  rcases List.mem_cons.1 hb with rfl | hb
  ·exact ha
  ·exact EA h b hb
theorem zY{H:WH}:∀ {bs:List Bool} {vs:List AV} {q:List AV×List Nat},vJ H bs vs=some q→∀b∈q.2,∃x,bD H b=some x
 | bs,[],q,h=>by
  simp only[vJ,au]at h
  subst h
  intro b hb
  cases hb
 | bs,v::r,q,h=>by
  simp only[vJ]at h
  split at h
  case h_2=>cases h
  rename_i q' hq
  have i:=zY hq
  split at h
  ·simp only[au]at h
   subst h
   exact i
  ·split at h
   case h_2=>cases h
   rename_i p hp
   simp only[au]at h
   subst h
   intro b hb
   rcases List.mem_append.1 hb with hb | hb
   ·exact iH 5 false v p hp b hb
   ·exact i b hb
theorem xI{R:Nat→Prop}{ι:VI}{H:WH}{M:Heap}(s:VS R ι H M)(S:List Nat)(hS:∀b∈S,∃x,bD H b=some x):∀ {bs:List Bool} {vs as:List AV} {q:List AV×List Nat},vJ H bs vs=some q→(∀b∈q.2,b∈S)→aZ M (OR R ι) ι vs as→aZ M (OR R (ι.jm S)) (ι.jm S) q.1 as
 | bs,[],as,q,h,_,hv=>by
  simp only[vJ,au]at h
  subst h
  cases as with
  | nil=>simp[aZ]
  | cons=>simp[aZ]at hv
 | bs,v::r,as,q,h,hq,hv=>by
  cases as with
  | nil=>simp[aZ]at hv
  | cons a as =>
  simp only[aZ]at hv
  simp only[vJ]at h
  split at h
  case h_2=>cases h
  rename_i q' hq'
  obtain⟨_,h2⟩:=s.Ev S hS
  split at h
  ·simp only[au]at h
   subst h
   simp only[aZ]
   exact⟨VL.step s h2 hv.1,xI s S hS hq' hq hv.2⟩
  ·split at h
   case h_2=>cases h
   rename_i p hp
   simp only[au]at h
   subst h
   simp only[aZ]
   refine⟨?_,xI s S hS hq' (λb hb=>hq b (List.mem_append_right _ hb)) hv.2⟩
   refine C8 s (O':=OR R (ι.jm S)) (λj h=>h.imp vQ id) (jG:=ι.jm S) (zT _ _ _) 5 false v p a hp hv.1 (λb hb j hj=>?_)
   have lv:=iH 5 false v p hp b hb
   rintro(⟨i,q1,q2⟩ | hR)
   ·simp only[VI.jm,Bool.or_eq_false_iff]at q1 q2
    have:=s.inj i b j (.inr q2.1) (.inl lv) q1 hj (.inl q2.1)
    subst this
    rw[kI.2 (hq i (List.mem_append_left _ hb))]at q2
    cases q2.2
   ·exact(s.res j hR).2 b (.inl lv) hj
theorem J9 {C:aW} {g:FuncId} {Rp as:List AV} {R:Nat→Prop} {ι:VI} {H:WH} {M:Heap} (s:VS R ι H M) (hv:aZ M (OR R ι) ι Rp as) {ls:List Bool} {q:List AV×List Nat} (hq:vJ H ls Rp=some q) {p:List Nat}
  (hp:vH (nE H q.2) 0 (fG q.1)=p) {v:AV} {out:WH} (ho:p.length≤out.length) (ha:apart q.2 p=true) (hc:clean v=true) (hco:∀i x,bD out i=some x→∃c sl,x=.cells c false sl∧kG c=true)
  (hspec:Spec C g (AP (kE p) q.1) (jC (nE H q.2) p p) v out) :
  ∃a M' aV,C g as=(λM=>C g as M)∧C g as M=some (a,M')∧VS R aV (qY H p out) M'∧Stp H.length p ι H M aV (qY H p out) M'∧VL M' (OR R aV) aV (rn (back p H.length) v) a:=by
 have hlive:=zY hq
 obtain⟨k1,k2⟩:=s.Ev q.2 hlive
 have k3:=xI s q.2 hlive hq (λ_ h=>h) hv
 obtain⟨p1,p2,_⟩:=zW (nE H q.2) 0 (fG q.1)
 rw[hp]at p1 p2
 have hap:=EA ha
 have hpk:cu (ι.jm q.2) p=cu ι p:=by
  unfold cu VI.jm
  congr 1
  funext k
  cases e:p[k]? with
  | none=>rfl
  | some b =>
   simp only
   rw[hap b (List.mem_of_getElem? e),Bool.or_false]
 have hpl:∀b,b∈p→∃x,bD H b=some x:=λb hb=>by
  obtain⟨y,hy⟩:=(p2 b hb).resolve_left (by omega)
  rw[nW]at hy
  split at hy
  ·obtain⟨z,hz,_⟩:=sS hy
   exact⟨z,hz⟩
  ·exact⟨y,hy⟩
 have hl:∀b,b∈p→b<H.length:=λb hb=>by
  obtain⟨x,hx⟩:=hpl b hb
  exact iM hx
 let R':Nat→Prop:=λj=>R j∨(own (ι.jm q.2) j∧¬own (cu (ι.jm q.2) p) j)
 have hsub:∀j,OR R' (cu (ι.jm q.2) p) j→OR R (ι.jm q.2) j:=λj h=>by
  rcases h with h | h | h
  ·obtain⟨b,_,h3,h4⟩:=l9 h
   exact .inl ⟨b,h3,h4⟩
  ·exact .inr h
  ·exact .inl h.1
 have hpick:=k1.pick p1 (R':=R') (λj h=>by
  rcases h with h |⟨⟨i,q1,q2⟩,q3⟩
  ·exact⟨(k1.res j h).1,λb _ hb=>(k1.res j h).2 b hb⟩
  ·refine⟨(k1.lt i j q1).2,λb hb ha hj=>?_⟩
   have:=k1.inj i b j (.inr q2) ha q1 hj (.inl q2)
   subst this
   obtain⟨k,hk⟩:=List.mem_iff_getElem?.1 hb
   exact q3 ⟨k,by simp only[cu,hk];exact hj,by simp only[cu,hk];exact q2⟩) hsub
 have hargs:aZ M (OR R' (cu (ι.jm q.2) p)) (cu (ι.jm q.2) p) (AP (kE p) q.1) as:=aZ.rn ⟨Nat.le_refl _,λb _ h=>⟨rfl,λk=>h (hsub b k)⟩⟩ nL _ _ k3
 obtain⟨a,M',oI,e,q1,q2,q3⟩:=hspec R' (cu (ι.jm q.2) p) M as hpick hargs
 rw[lM]at q2
 let R2:Nat→Prop:=λj=>R j∨(own ι j∧¬own (cu ι p) j)
 have q4:VS R2 oI out M':=q1.QK hco λj hj=>by
  rcases hj with hj |⟨⟨i,g1,g2⟩,g3⟩
  ·exact .inl (.inl hj)
  ·have lt:=(s.lt i j g1).2
   refine .inr ⟨Nat.lt_of_lt_of_le lt q2.keep.next,(q2.keep.get j lt ?_).2⟩
   rw[hpk]
   exact g3
 have q5:VL M' (OR R2 oI) oI v a:=BZ v a hc q3
 rw[hpk]at q2
 obtain⟨u1,u2,u3⟩:=Hq (R:=R) (R':=R2) p1 hl ho (λj=>Iff.rfl) s q4 q2 hpl (λk b hk ⟨x,hx⟩=>hpl b (List.mem_of_getElem? hk))
 exact⟨a,M',_,rfl,e,u1,u2,u3 v a q5⟩
theorem J_ {C:aW} {g:FuncId} {args as:List AV} {R:Nat→Prop} {ι:VI} {H:WH} {M:Heap} (s:VS R ι H M) (hv:aZ M (OR R ι) ι args as) {tr:TS} {k:AV→WH→List Nat→TS→Prop} (h:JV C g args H tr k) :
  ∃a M' aV v H' t dZ,C g as M=some (a,M')∧VS R aV H' M'∧Stp H.length t ι H M aV H' M'∧VL M' (OR R aV) aV v a∧k v H' t dZ:=by
 unfold JV at h
 split at h
 case h_2 =>
  rename_i ms ls ts v out r
  simp only at h
  obtain⟨fU,h1,h2,h3⟩:=vU ms (gT args ts) H ι M as s (aZ.retag _ _ _ hv)
  generalize tJ ms (gT args ts) H=q0 at *
  obtain⟨vs,H1⟩:=q0
  simp only at h h1 h2 h3
  split at h
  case h_2=>exact h.elim
  rename_i q hq
  split at h
  case h_2=>exact h.elim
  rename_i e1 e2 e3
  obtain⟨⟨tr1,h⟩,hco⟩:=vX h
  obtain⟨dZ,hspec,hk⟩:=dY h
  obtain⟨a,M',aV,_,f1,f2,f3,f4⟩:=J9 h1 h3 hq rfl (Nat.le_of_ble_eq_true e1) e2 e3 hco hspec
  refine⟨a,M',aV,_,_,_,_,f1,f2, ?_,f4,hk⟩
  exact h2.trans f3 h2.next
 case h_3 =>
  rename_i ms ts v r
  simp only at h
  split at h
  case h_2=>exact h.elim
  rename_i e1 e2
  obtain⟨dZ,h⟩:=dY h
  obtain⟨a,M',f1,f2,f3,f4⟩:=J8 s hv e1 e2 h.1
  exact⟨a,M',ι,v,H,[],dZ,f1,f2,f3,f4,h.2⟩
 case h_4=>exact h.elim
 rename_i ms m ts v out r
 obtain⟨fU,h1,h2,h3⟩:=vU ms (gT args ts) H ι M as s (aZ.retag _ _ _ hv)
 generalize hr:tJ ms (gT args ts) H=q at *
 obtain⟨vs,H1⟩:=q
 simp only at h h1 h2 h3
 obtain⟨lJ,k1,k2⟩:=vV [] m (vH H1 0 (fG vs)) H1 fU M h1
 have k3:=aZ.step h1 k2 h3
 generalize yB [] m (vH H1 0 (fG vs)) H1=H2 at *
 obtain⟨p1,p2,_⟩:=zW H2 0 (fG vs)
 generalize vH H2 0 (fG vs)=p at *
 split at h
 case h_2=>exact h.elim
 rename_i ho
 have ho:=Nat.le_of_ble_eq_true ho
 obtain⟨dZ,hspec,hk⟩:=dY h
 have hl:∀b,b∈p→b<H2.length:=λb hb=>by
  rcases p2 b hb with h |⟨y,h⟩
  ·omega
  ·exact iM h
 let R':Nat→Prop:=λj=>R j∨(own lJ j∧¬own (cu lJ p) j)
 have hsub:∀j,OR R' (cu lJ p) j→OR R lJ j:=λj h=>by
  rcases h with h | h | h
  ·obtain⟨b,_,h3,h4⟩:=l9 h
   exact .inl ⟨b,h3,h4⟩
  ·exact .inr h
  ·exact .inl h.1
 have hpick:=k1.pick p1 (R':=R') (λj h=>by
  rcases h with h |⟨⟨i,q1,q2⟩,q3⟩
  ·exact⟨(k1.res j h).1,λb _ hb=>(k1.res j h).2 b hb⟩
  ·refine⟨(k1.lt i j q1).2,λb hb ha hj=>?_⟩
   have:=k1.inj i b j (.inr q2) ha q1 hj (.inl q2)
   subst this
   obtain⟨k,hk⟩:=List.mem_iff_getElem?.1 hb
   exact q3 ⟨k,by simp only[cu,hk];exact hj,by simp only[cu,hk];exact q2⟩) hsub
 have hargs:aZ M (OR R' (cu lJ p)) (cu lJ p) (AP (kE p) vs) as:=aZ.rn ⟨Nat.le_refl _,λb _ h=>⟨rfl,λk=>h (hsub b k)⟩⟩ nL _ _ k3
 obtain⟨a,M',oI,e,q1,q2,q3⟩:=hspec R' (cu lJ p) M as hpick hargs
 rw[lM]at q2
 obtain⟨u1,u2,u3⟩:=Hq (R:=R) (R':=R') p1 hl ho (λj=>Iff.rfl) k1 q1 q2 (λb hb=>(p2 b hb).resolve_left (by omega)) (λk b hk ⟨x,hx⟩=>by
  rw[iy,hk]at hx
  obtain⟨z,hz,_⟩:=kJ hx
  exact⟨z,hz⟩)
 refine⟨a,M',_,_,_,_,_,e,u1, ?_,u3 v a q3,hk⟩
 have:=(h2.trans k2 h2.next).trans u2 (Nat.le_trans h2.next k2.next)
 simpa using this
def FC(C:aW)(f:FuncId)(b:Bt):Prop:=∀(R:Nat→Prop) (ι:VI) (H:WH) (M:Heap) (args as:List AV) (d:Option Nat) (tr:TS) (k:AV→WH→List Nat→TS→Prop),VS R ι H M→aZ M (OR R ι) ι args as→Qm b d args H tr k →
 ∃a M' aV v H' t dZ,C f as M=some (a,M')∧VS R aV H' M'∧Stp H.length t ι H M aV H' M'∧VL M' (OR R aV) aV v a∧k v H' t dZ
theorem Da{R:Nat→Prop}{d:Option Nat}{x:Option AV}{tr:TS}{k:AV→TS→Prop}(h:Qk d x tr k):∃v u dZ,x=some v∧k u dZ∧∀(M:Heap) (O:Nat→Prop) (κ:VI) (a:AV),VL M O κ v a→VL M O κ u a:=by
 have plain:∀ {tr},(match x with | some v=>k v tr | none=>False)→∃v u dZ,x=some v∧k u dZ∧∀(M:Heap) (O:Nat→Prop) (κ:VI) (a:AV),VL M O κ v a→VL M O κ u a:=λ{tr} h=>by
  cases x with
  | none=>exact h.elim
  | some v=>exact⟨v,v,tr,rfl,h,λ_ _ _ _ h=>h⟩
 unfold Qk at h
 split at h
 ·split at h
  ·obtain⟨dZ,h⟩:=dY h
   exact⟨_,_,_,h.1,h.2,λ_ _ _ _ h=>h⟩
  ·exact plain h
 ·split at h
  ·split at h
   ·rename_i v
    exact⟨v,_,_,rfl,h,λ_ _ _ _ h=>VL.retag _ _ _ h⟩
   ·exact h.elim
  ·exact plain h
 ·exact plain h
theorem zh{d:Option Nat}{n:Nat}{cs:List AV}{tr:TS}{k:Nat→List AV→TS→Prop}(h:Iy d n cs tr k):∃dZ,k n cs dZ:=by
 unfold Iy at h
 split at h
 ·split at h
  ·obtain⟨_,rfl,h⟩:=dY h
   obtain⟨_,rfl,h⟩:=dY h
   exact⟨_,h⟩
  ·exact⟨_,h⟩
 ·exact⟨_,h⟩
theorem pY{M:Heap}{O:Nat→Prop}{κ:VI}:∀ {l r:List AV},l.all AV.flat=true→aZ M O κ l r→aZ M O VI.none l r
 | [],[],_,_=>by simp[aZ]
 | v::l,a::r,h,e=>by
  simp only[List.all_cons,Bool.and_eq_true]at h
  simp only[aZ]at e ⊢
  refine⟨?_,pY h.2 e.2⟩
  have h1:=h.1
  have e1:=e.1
  cases v with
  | ptr p=>cases p<;>simp_all [AV.flat,VL]
  | slice p=>cases p<;>simp_all [AV.flat,VL]
  | map p=>cases p<;>simp_all [AV.flat,VL]
  | func f cs =>
   cases cs with
   | nil =>
    simp only[VL]at e1 ⊢
    obtain⟨cs',rfl,e1⟩:=e1
    refine⟨cs',rfl, ?_⟩
    cases cs' with
    | nil=>simp[aZ]
    | cons _ _=>simp[aZ]at e1
   | cons _ _=>simp[AV.flat]at h1
  | _=>simp_all [AV.flat,VL]
 | [],_::_,_,e=>by simp[aZ]at e
 | _::_,[],_,e=>by simp[aZ]at e
theorem nY(z:List AV):∀n,(eD n z).length=n*z.length
 | 0=>by simp[eD]
 | n+1=>by simp only[eD,aG,nY z n,Nat.add_mul,Nat.one_mul];omega
section
variable {R:Nat→Prop} {ι:VI} {H:WH} {M:Heap} (s:VS R ι H M) {ρ σ:Nat→AV} (h:∀t,VL M (OR R ι) ι (ρ t) (σ t))
include s h
theorem zZ {sz:Nat}:∀ {ps:List (Nat×AX)} {cs cs' l:List AV},(ps.all λp=>p.2.bN)=true→aZ M (OR R ι) ι cs cs' →
  iL cs (ps.map λp=>(p.1*sz,sz,(p.2.sub ρ).ev []))=some l→∃l',iL cs' (ps.map λp=>(p.1*sz,sz,(p.2.sub σ).ev []))=some l'∧aZ M (OR R ι) ι l l'
 | [],cs,cs',l,_,hr,hf=>by
  simp only[List.map_nil,iL,au]at hf ⊢
  subst hf
  exact⟨cs',rfl,hr⟩
 | p::ps,cs,cs',l,hc,hr,hf=>by
  simp only[List.all_cons,Bool.and_eq_true]at hc
  simp only[List.map_cons,iL]at hf ⊢
  split at hf
  case h_2=>cases hf
  rename_i x hx
  split at hf
  case isFalse=>cases hf
  rename_i hle
  obtain⟨x',hx',QD⟩:=(bJ h hc.1).cells hx
  rw[hx']
  simp only
  rw[if_pos (by rw[←QD.length,←hr.length];exact hle)]
  refine zZ hc.2 ?_ hf
  exact((hr.take _).append QD).append (hr.drop _)
theorem OP {d:Option Nat} {o:qV} (hc:o.bN=true) {tr:TS} {k:fD→(Nat→AV)→TS→Prop} (hv:wK d (o.sub ρ) tr k) :
  ∃c sl mk c' sl' Ry dZ,k (.cells c false sl) mk dZ∧aK (o.sub σ) []=some (.cells c' false sl',Ry)∧aZ M (OR R ι) (if sl then VI.none else ι) c c'∧(sl=false→sl'=false) ∧
   ∀(M':Heap) (O:Nat→Prop) (κ:VI) (b j:Nat),κ b=some j→κ.dim b=some (c.length,c'.length)→VL M' O κ (mk b) (Ry.val j):=by
 have Ht:∀(c c':List AV) (M':Heap) (O:Nat→Prop) (κ:VI) (b j:Nat),κ b=some j→κ.dim b=some (c.length,c'.length)→VL M' O κ (.ptr (some (b,0))) (Mk.ptr.val j):=λc c' M' O κ b j h1 _=>by
  simp only[Mk.val,VL]
  exact⟨j,h1,rfl⟩
 have Ka:∀(c c':List AV) (sz n:Nat) (ex:Bool),c.length=n*sz→n*sz≤c'.length→∀(M':Heap) (O:Nat→Prop) (κ:VI) (b j:Nat),κ b=some j→κ.dim b=some (c.length,c'.length)→VL M' O κ (.acc b 0 sz n true) ((Mk.slice sz n n ex).val j):=λc c' sz n ex h0 hL M' O κ b j h1 h2=>by
  simp only[Mk.val,VL]
  exact⟨_,_,_,_,rfl,Nat.le_refl _,(λh=>by cases h),λ_=>rfl,_,_,h2,by omega,λ_=>⟨trivial,h0.symm⟩,.inl ⟨j,h1,.inl ⟨rfl,by omega⟩⟩⟩
 cases o with
 | alloc zero =>
  have hz:aZ M (OR R ι) ι zero zero:=aZ.const zero hc
  simp only[qV.sub,wK]at hv
  split at hv
  ·split at hv
   ·rename_i t r _
    exact⟨_,false,_,zero,false,.ptr,_,hv,rfl,aZ.retag _ _ _ hz,(λ_=>rfl),Ht _ _⟩
   ·exact⟨_,false,_,zero,false,.ptr,_,hv,rfl,hz,(λ_=>rfl),Ht _ _⟩
  ·exact⟨_,false,_,zero,false,.ptr,_,hv,rfl,hz,(λ_=>rfl),Ht _ _⟩
 | box x =>
  have hx:=bJ h hc
  simp only[qV.sub,wK]at hv
  split at hv
  case h_2=>exact hv.elim
  rename_i cs hcs
  obtain⟨cs',h1,h2⟩:=hx.cells hcs
  exact⟨cs,false,_,cs',false,.ptr,_,hv,by simp only[qV.sub,aK,h1,aJ],h2,(λ_=>rfl),Ht _ _⟩
 | buildSlice sz len zero parts =>
  simp only[qV.bN,Bool.and_eq_true]at hc
  simp only[qV.sub,wK,List.map_map]at hv
  split at hv
  case h_2=>exact hv.elim
  rename_i cs hcs
  split at hv
  case h_2=>exact hv.elim
  rename_i hz
  have hz:=aR hz
  obtain⟨cs',h1,h2⟩:=zZ s h hc.2 (aZ.eD (M:=M) (O:=OR R ι) (κ:=ι) hc.1 len) hcs
  have hlen:∀ {l:List (Nat×Nat×AV)} {c c':List AV},iL c l=some c'→c'.length=c.length:=by
   intro l
   induction l with
   | nil=>intro c c' e;simp only[iL,au]at e;rw[e]
   | cons q l ih =>
    intro c c' e
    simp only[iL]at e
    split at e
    case h_2=>cases e
    split at e
    case isFalse=>cases e
    rename_i hle
    rw[ih e]
    simp only[aG,aQ,aM]
    omega
  have hl:=hlen hcs
  rw[nY,hz]at hl
  refine⟨cs,false,_,cs',false,.slice sz len len true,_,hv, ?_,h2,(λ_=>rfl),Ka _ _ _ _ _ hl (by rw[←h2.length,hl];exact Nat.le_refl _)⟩
  simp only[qV.sub,aK,List.map_map]
  have e:(λp:Nat×AV=>(p.1*sz,sz,p.2))=λp=>(p.1*sz,sz,p.2):=rfl
  rw[show(iL (eD len zero) (parts.map ((λp=>(p.1*sz,sz,p.2.ev []))∘λp=>(p.1,p.2.sub σ))))=some cs' from h1]
  rfl
 | makeSlice sz bytes zero l c =>
  simp only[qV.bN,Bool.and_eq_true]at hc
  have hl:=bJ h hc.1.2
  have hcc:=bJ h hc.2
  simp only[qV.sub,wK]at hv
  split at hv
  case h_2=>exact hv.elim
  rename_i d' n cs r
  split at hv
  case h_2=>exact hv.elim
  split at hv
  case h_2=>exact hv.elim
  rename_i hz hfl
  obtain⟨_,⟨e1,e2,e3,e4⟩,hv⟩:=dY hv
  obtain⟨_,rfl,hk⟩:=dY hv
  rw[e1]at hl
  rw[e2]at hcc
  have hz:=aR hz
  refine⟨_,true,_,eD n zero,false,.slice sz n n true,_,hk, ?_, ?_,(λh=>by cases h),Ka _ _ _ _ _ (by rw[nY,hz]) (by rw[nY,hz];exact Nat.le_refl _)⟩
  ·simp only[qV.sub,aK,hl.eq rfl,hcc.eq rfl,qC]
   rw[if_pos (by simp;omega)]
   rfl
  ·exact pY (κ:=ι) (by
    have:∀n,(eD n zero).all AV.flat=true:=λn=>by
     induction n with
     | zero=>rfl
     | succ n ih=>simp only[eD,List.all_append,hfl,ih,Bool.and_self]
    exact this n) (aZ.eD hc.1.1 n)
 | gV x =>
  have hx:=bJ h hc
  simp only[qV.sub,wK]at hv
  split at hv
  case h_2=>exact hv.elim
  rename_i t ht
  obtain⟨_,h1,h2⟩:=dY hv
  rw[ht]at hx
  refine⟨_,true,_,t.map λb=>.int .u8 b.toNat,true,.slice 1 t.length t.length false,_,h2,by simp only[qV.sub,aK,hx.eq rfl,if_pos h1], ?_,(λh=>by cases h),Ka _ _ _ _ _ (by simp) (by simp)⟩
  have:∀t:List UInt8,aZ M (OR R ι) VI.none (t.map λb=>AV.int .u8 b.toNat) (t.map λb=>AV.int .u8 b.toNat):=λt=>by
   induction t with
   | nil=>simp[aZ]
   | cons b t ih=>simp only[List.map_cons,aZ,VL];exact⟨trivial,ih⟩
  exact this t
 | makeMap=>simp[qV.sub,wK]at hv
end
theorem BL.of{R:Nat→Prop}{ι:VI}{M:Heap}{c c':List AV}{sl sl':Bool}(hr:aZ M (OR R ι) (if sl then VI.none else ι) c c')(hs:sl=false→sl'=false):BL M (OR R ι) ι (some (c.length,c'.length)) (.cells c false sl) (some (.cells c' false sl')) :=
 ⟨c',[],false,sl',c'.length,by simp,λ_=>rfl,rfl,by simp,hr,hs⟩
theorem MX{c cs c':List AV}{o:Nat}(h:FB c o cs=some c'):o+cs.length≤c.length∧c'=c.take o++cs++c.drop (o+cs.length)∧c'.length=c.length:=by
 unfold FB at h
 split at h
 case isFalse=>cases h
 rename_i hle
 obtain rfl:=ak h
 refine⟨hle,rfl, ?_⟩
 simp only[aG,aQ,aM]
 omega
theorem Kc {R:Nat→Prop} {ι:VI} {H:WH} {M:Heap} (s:VS R ι H M) {b j o:Nat} (hb:ι b=some j) {c:List AV} {sl:Bool} (hg:bD H b=some (.cells c false sl)) {cs cs' c':List AV} (hcs:aZ M (OR R ι) (if sl then VI.none else ι) cs cs') (h:FB c o cs=some c') :
  ∃M',M.write j o cs'=some M'∧VS R ι (dH H b (some (.cells c' false sl))) M'∧Stp H.length [b] ι H M ι (dH H b (some (.cells c' false sl))) M':=by
 obtain⟨h1,h2,h3⟩:=MX h
 obtain⟨d,t,ro',sl',L,g1,g2,g3,g4,g5⟩:=s.at hb hg
 obtain⟨rfl,_⟩:=g2 rfl
 have hl:=g5.length
 have hl':=hcs.length
 have e:(d++t).take o++cs'++(d++t).drop (o+cs'.length)=(d.take o++cs'++d.drop (o+cs'.length))++t:=by
  rw[List.take_append_of_le_length (by omega),List.drop_append_of_le_length (by omega)]
  simp only[aY]
 have hbl:BL M (OR R ι) ι (ι.dim b) (.cells c' false sl) (some (.cells ((d++t).take o++cs'++(d++t).drop (o+cs'.length)) false sl')):=by
  refine⟨d.take o++cs'++d.drop (o+cs'.length),t,false,sl',L,by rw[e],λ_=>rfl,by rw[h3];exact g3, ?_, ?_,λh=>s.OL hb hg g1 h⟩
  ·simp only[aG,aQ,aM]at g4 ⊢
   omega
  ·rw[h2,hl']
   exact((g5.take o).append hcs).append (g5.drop _)
 obtain⟨q1,q2⟩:=s.put hb hg hbl
 refine⟨_, ?_,q1,q2⟩
 unfold Heap.write
 rw[g1]
 simp only
 rw[if_pos (by simp only[aG];omega)]
theorem II {R:Nat→Prop} {ι:VI} {H:WH} {M:Heap} (s:VS R ι H M) {n:Nat} {a v a' v':AV} (ha:VL M (OR R ι) ι a a') (hv:VL M (OR R ι) ι v v') {tr:TS} {k:AV→WH→List Nat→TS→Prop} {C:aW} {B:FuncId→Option Bt} {d:Option Nat}
  (h:wN C B d (.store n (.c a) (.c v)) H tr k):∃r M' aV u H' t dZ,zm n a' v' M=some (r,M')∧VS R aV H' M'∧Stp H.length t ι H M aV H' M'∧VL M' (OR R aV) aV u r∧k u H' t dZ:=by
 simp only[wN,AX.ev]at h
 split at h
 case h_2=>exact h.elim
 rename_i b off cs hcs
 split at h
 case h_2=>exact h.elim
 rename_i hn
 have hn:=aR hn
 split at h
 case h_2=>exact h.elim
 split at h
 case h_2=>exact h.elim
 rename_i c sl hg
 simp only[VL]at ha
 obtain⟨j,hj,rfl⟩:=ha
 obtain⟨cs',e1,e2⟩:=hv.cells hcs
 have fin:∀(fU:VI) (H1:WH) (x c':List AV) (r:TS),VS R fU H1 M→Stp H.length [] ι H M fU H1 M→H1.length=H.length→bD H1 b=some (.cells c false sl)→aZ M (OR R fU) (if sl then VI.none else fU) x cs'→FB c off x=some c'→k (.tuple []) (dH H1 b (some (.cells c' false sl))) [b] r →
   ∃r M' aV u H' t dZ,zm n (.ptr (some (j,off))) v' M=some (r,M')∧VS R aV H' M'∧Stp H.length t ι H M aV H' M'∧VL M' (OR R aV) aV u r∧k u H' t dZ:=by
  intro fU H1 x c' r s1 k1 hlen hg1 hx hw hk
  have hj1:=((k1.le b (iM hg)).1 j hj).1
  obtain⟨M',q1,q2,q3⟩:=Kc s1 hj1 hg1 hx hw
  refine⟨.tuple [],M',fU,.tuple [],_,[b],r, ?_,q2, ?_,by simp[VL,aZ],hk⟩
  ·simp only[zm,e1]
   rw[if_pos (by rw[←e2.length];exact hn),q1]
   rfl
  ·have:=k1.trans q3 (by omega)
   simpa using this
 split at h
 ·split at h
  ·split at h
   case h_2=>exact h.elim
   rename_i c' hw
   exact fin ι H cs c' _ s (.refl _ _ _ _ _ (Nat.le_refl _)) rfl hg e2 hw h
  ·obtain⟨_,h⟩:=dY h
   exact fin ι H cs _ _ s (.refl _ _ _ _ _ (Nat.le_refl _)) rfl hg e2 h.1 h.2
 ·split at h
  case h_2=>exact h.elim
  rename_i p hp
  split at h
  ·exact h.elim
  rename_i hb
  obtain⟨u1,u2⟩:=s.Ev p.2 (jW (λv p=>iH 5 true v p) _ _ hp)
  have hx:=C9 s hp e2
  have hg1:bD (nE H p.2) b=some (.cells c false true):=by
   rw[nW,hb]
   exact hg
  split at h
  ·split at h
   case h_2=>exact h.elim
   rename_i c' hw
   exact fin _ _ p.1 c' _ u1 u2 (jI _ _) hg1 hx hw h
  ·obtain⟨_,h⟩:=dY h
   exact fin _ _ p.1 _ _ u1 u2 (jI _ _) hg1 hx h.1 h.2
theorem OQ {C:aW} {B:FuncId→Option Bt} (hB:∀f b,B f=some b→FC C f b) {R:Nat→Prop} {ι:VI} {H:WH} {M:Heap} (s:VS R ι H M) {ρ σ:Nat→AV} (h:∀t,VL M (OR R ι) ι (ρ t) (σ t)) {d:Option Nat} {o:mP} (hc:o.bN=true) {tr:TS} {k:AV→WH→List Nat→TS→Prop}
  (hk:wN C B d (o.sub ρ) H tr k):∃a M' aV v H' t dZ,aN C (o.sub σ) [] M=some (a,M')∧VS R aV H' M'∧Stp H.length t ι H M aV H' M'∧VL M' (OR R aV) aV v a∧k v H' t dZ:=by
 cases o with
 | store n a v =>
  simp only[mP.bN,Bool.and_eq_true]at hc
  exact II s (bJ h hc.1) (bJ h hc.2) (C:=C) (B:=B) (d:=d) (a:=(a.sub ρ).ev []) (v:=(v.sub ρ).ev []) (by simpa only[mP.sub,wN,AX.ev]using hk)
 | call f args =>
  simp only[mP.bN,Bool.and_eq_true]at hc
  have hf:=bJ h hc.1
  have ha:=y8 h hc.2
  simp only[mP.sub,wN]at hk
  split at hk
  case h_2=>exact hk.elim
  rename_i g caps hg
  rw[hg]at hf
  simp only[VL]at hf
  obtain⟨Tf,hf,QL⟩:=hf
  have hargs:=ha.append QL
  simp only[mP.sub,aN,DC,hf]
  split at hk
  ·rename_i bt hbt
   obtain⟨a,M',aV,v,H',tt,dZ,q1,q2,q3,q4,q5⟩:=hB g bt hbt R ι H M _ _ d tr _ s hargs hk
   exact⟨a,M',aV,v,H',tt,dZ,q1,q2,q3,q4,q5⟩
  ·exact J_ s hargs hk
 | append sz bytes b x =>
  simp only[mP.bN,Bool.and_eq_true]at hc
  have hs:=bJ h hc.1
  have hx:=bJ h hc.2
  simp only[mP.sub,wN]at hk
  split at hk
  case h_2=>exact hk.elim
  rename_i m new S hel
  split at hk
  case h_2=>exact hk.elim
  rename_i len old H' t hbase
  obtain⟨_,hk⟩:=zh hk
  obtain⟨dZ,hf,hk⟩:=dY hk
  obtain⟨e1,e2,cs',e3,e4⟩:=xD s hx hel
  obtain⟨u1,u2⟩:=s.Ev S (r_ hel)
  obtain⟨a',M',aV,q1,q2,q3,q4⟩:=BU u1 (VL.step s u2 hs) e4 e2 hbase hf
  refine⟨a',M',aV,_,_,t,dZ, ?_,q2, ?_,q4,hk⟩
  ·simp only[mP.sub,aN,e1,if_true,e3,aC]
   exact q1
  ·rw[jI]at q3
   have:=u2.trans q3 (Nat.le_refl _)
   simpa using this
 | mapUpdate kd m x v =>
  simp only[mP.bN,Bool.and_eq_true]at hc
  have hm:=bJ h hc.1.1
  have hx:=bJ h hc.1.2
  have hv:=bJ h hc.2
  simp only[mP.sub,wN]at hk
  simp only[mP.sub,aN]
  generalize (m.sub ρ).ev []=X at *
  generalize (m.sub σ).ev []=X' at *
  generalize (x.sub ρ).ev []=Y at *
  generalize (x.sub σ).ev []=Y' at *
  generalize (v.sub ρ).ev []=Z at *
  generalize (v.sub σ).ev []=Z' at *
  split at hk
  case h_2=>exact hk.elim
  rename_i r
  split at hk
  case h_2=>exact hk.elim
  rename_i es cz hg s1 s2 s3 s4
  split at hk
  case h_2=>exact hk.elim
  rename_i es' t
  obtain⟨dZ,hu,hk⟩:=dY hk
  obtain⟨j,rfl,hj,he,hr⟩:=s.CZ hm hg
  obtain rfl:=G9 s1 hx
  obtain rfl:=G9 s3 hv
  have hes:BF es'=true:=by
   unfold zM at hu
   obtain⟨f,hf,rfl⟩:=av.1 hu
   cases f with
   | none=>exact Eu s1 s3 he
   | some q=>exact He s1 s3 he
  have hd:ι.dim r=some (0,0):=by
   rcases s.blk r _ hg with⟨_,_,_,q⟩ |⟨_,_,⟨_,q,_⟩,_⟩
   ·cases q
   ·exact q
  obtain⟨q1,q2⟩:=s.PI hr rfl hg (x:=.map es') (y:=.map es') ⟨rfl,hd,hes⟩
  refine⟨.tuple [],_,ι,.tuple [],_,[r],dZ, ?_,q1,q2,by simp[VL,aZ],hk⟩
  simp only[uD,hj,s4,s2]
  rw[if_neg (by simp)]
  unfold zM at hu
  obtain⟨f,hf,rfl⟩:=av.1 hu
  rw[hf,aC]
  cases f with
  | none=>rfl
  | some q=>rfl
 | gu kd m x =>
  simp only[mP.bN,Bool.and_eq_true]at hc
  have hm:=bJ h hc.1
  have hx:=bJ h hc.2
  simp only[mP.sub,wN]at hk
  simp only[mP.sub,aN]
  generalize (m.sub ρ).ev []=X at *
  generalize (m.sub σ).ev []=X' at *
  generalize (x.sub ρ).ev []=Y at *
  generalize (x.sub σ).ev []=Y' at *
  split at hk
  case h_2=>exact hk.elim
  rename_i r
  split at hk
  case h_2=>exact hk.elim
  rename_i es hg s1
  split at hk
  case h_2=>exact hk.elim
  rename_i es' t
  obtain⟨dZ,hu,hk⟩:=dY hk
  obtain⟨j,rfl,hj,he,hr⟩:=s.CZ hm hg
  obtain rfl:=G9 s1 hx
  unfold Ej at hu
  obtain⟨f,hf,e⟩:=av.1 hu
  have hd:ι.dim r=some (0,0):=by
   rcases s.blk r _ hg with⟨_,_,_,q⟩ |⟨_,_,⟨_,q,_⟩,_⟩
   ·cases q
   ·exact q
  have hes:BF es'=true:=by
   subst e
   cases f with
   | none=>exact he
   | some q=>exact BQ he
  obtain⟨q1,q2⟩:=s.PI hr rfl hg (x:=.map es') (y:=.map es') ⟨rfl,hd,hes⟩
  refine⟨.tuple [],_,ι,.tuple [],_,[r],dZ, ?_,q1,q2,by simp[VL,aZ],hk⟩
  simp only[uE,hj]
  rw[hf,aC]
  subst e
  cases f with
  | none =>
   have hM:M.put j (some (.map es))=M:=by
    cases M with
    | mk g nx =>
     simp only[Heap.put,Heap.mk.injEq,and_true]
     funext i
     split
     ·rename_i e
      rw[e]
      exact hj.symm
     ·rfl
   simp only[hM]
  | some q=>rfl
 | jM x =>
  have hx:=bJ h hc
  simp only[mP.sub,wN]at hk
  split at hk
  case h_2=>exact hk.elim
  rename_i b sz n hX
  split at hk
  case h_2=>exact hk.elim
  rename_i c sl hg
  split at hk
  case h_2=>exact hk.elim
  rename_i Ke
  rw[hX]at hx
  have hx0:=hx
  obtain⟨k1,k2,p,s',cap,ex,ha,k3,k4,k5⟩:=VL.jR s hx hg
  rw[ha]at hx0
  rcases k5 with⟨j,c',t,ro',sl',L,g1,g2,g3,g4,g5,g6,rfl,g7⟩ |⟨e,_⟩
  ·obtain⟨rfl,_⟩:=g3 rfl
   have TY:aZ M (OR R ι) VI.none c c':=by
    cases sl with
    | true=>exact g6
    | false=>exact pY (by simpa using Ke) g6
   obtain⟨r1,r2⟩:=s.put g1 hg (x:=.cells c false true) (y:=.cells (c'++t) false true) ⟨c',t,false,true,L,rfl,λ_=>rfl,g4,g5,TY,λh=>by cases h⟩
   refine⟨_,_,ι,_,_,[b],_, ?_,r1,r2,VL.step s r2 hx0,hk⟩
   simp only[mP.sub,aN,ha,zn]
   rw[if_neg (by omega),g2]
  ·cases e
 | _=>simp[mP.sub,wN]at hk
def jS(R:Nat→Prop)(ι:VI)(M:Heap)(l lA:Fast):Prop:=∀t,VL M (OR R ι) ι (look l t) (look lA t)
theorem jS.step{R:Nat→Prop}{t:List Nat}{ι aV:VI}{H H':WH}{M M':Heap}(s:VS R ι H M)(k:Stp H.length t ι H M aV H' M'){l lA:Fast}(h:jS R ι M l lA):jS R aV M' l lA:=λt=>VL.step s k (h t)
theorem jT{u t:Nat}{v:AV}{r:Fast}:look ((u,v)::r) t=if u=t then v else look r t:=by
 simp only[look]
 cases h:Nat.beq u t with
 | true=>simp[aR h]
 | false =>
  have:u≠t:=λe=>by subst e;simp at h
  simp[this]
theorem jX(n:Nat)(d:Option Nat)(v:AV)(l:Fast)(t:Nat):look (fO n d v l) t=if d=some t∧t<n then v else look l t:=by
 cases d with
 | none=>simp[fO]
 | some d =>
  simp only[fO]
  cases hb:Nat.blt d n with
  | true =>
   have hd:d<n:=by simpa[Nat.blt_eq]using hb
   simp only[jT]
   by_cases he:d=t
   ·subst he
    simp[hd]
   ·simp[he]
  | false =>
   have hd:¬d<n:=λh=>by
    have:Nat.blt d n=true:=by simpa[Nat.blt_eq]using h
    rw[hb]at this
    cases this
   simp only
   rw[if_neg]
   rintro⟨h1,h2⟩
   obtain rfl:=ak h1
   exact hd h2
theorem VL.fO{M:Heap}{O:Nat→Prop}{κ:VI}{l lA:Fast}{n:Nat}{d:Option Nat}{v a:AV}{t:Nat}(h:VL M O κ (look l t) (look lA t))(hv:VL M O κ v a):VL M O κ (look (Proofs.Ytkedeiklmpkgkaa.fO n d v l) t) (look (Proofs.Ytkedeiklmpkgkaa.fO n d a lA) t):=by
 rw[jX,jX]
 split
 ·exact hv
 ·exact h
theorem jS.put{R:Nat→Prop}{ι:VI}{M:Heap}{l lA:Fast}(h:jS R ι M l lA)(n:Nat)(d:Option Nat){v a:AV}(hv:VL M (OR R ι) ι v a):jS R ι M (fO n d v l) (fO n d a lA):=λt=>VL.fO (h t) hv
theorem VL.unit{M:Heap}{O:Nat→Prop}{κ:VI}:VL M O κ (.tuple []) (.tuple []):=by simp[VL,aZ]
def OT(l l':Fast):Prop:=∀t,look l' t=look l t∨∃b,look l t=.bool b∧look l' t=.bool b
theorem OT.eq{l l':Fast}(h:OT l l')(t:Nat):look l' t=look l t:=(h t).elim id λ⟨b,h1,h2⟩=>by rw[h1,h2]
theorem B_:∀ {H:WH} {b:Nat} {x:fD},bD H b=some x→dH H b (some x)=H
 | [],_,_,h=>by cases h
 | _::_,0,_,h=>by
  simp only[bD]at h
  subst h
  rfl
 | _::r,i+1,_,h=>by
  simp only[bD]at h
  simp only[dH,B_ h]
theorem qK{k:Fast→WH→TS→Prop}{R:Type}:∀ {f:Option R} (T:Tc f) (l:Fast) (H:WH),CQ k T l H→∃l' dZ,(∀t,look l' t=look l t)∧k l' H dZ
 | _,.bd kk,l,H,h=>by
  obtain⟨x,q,h⟩:=h
  exact qK (kk x q) l H h
 | _,.gd kk,l,H,h=>by
  obtain⟨q,h⟩:=h
  exact qK (kk q) l H h
 | _,.ite (b:=b) x y,l,H,h=>by
  have hb:b=true∨b=false:=by cases b<;>simp
  rcases hb with hb | hb
  ·exact qK (x hb) l H (h.1 hb)
  ·exact qK (y hb) l H (h.2 hb)
 | _,.rv t u _ r,l,H,h=>by
  obtain⟨e,h⟩:=h
  obtain⟨l',dZ,h1,h2⟩:=qK r ((t,u)::l) H h
  refine⟨l',dZ,λs=>?_,h2⟩
  rw[h1,jT]
  split
  ·rename_i e'
   subst e'
   exact e.symm
  ·rfl
 | _,.rb b c _ r,l,H,h=>by
  simp only[CQ]at h
  split at h
  case h_2=>exact h.elim
  rename_i c0 ro sl hg
  obtain⟨rfl,h⟩:=h
  rw[B_ hg]at h
  exact qK r l H h
 | _,.leaf x v,l,H,h=>⟨l,_,λ_=>rfl,h⟩
 | _,.vI x v Q q,l,H,h=>⟨l,_,λ_=>rfl,h⟩
 | _,.fail,l,H,h=>⟨l,_,λ_=>rfl,h⟩
 | _,.br _ _ _,l,H,h=>⟨l,_,λ_=>rfl,h⟩
 | _,.ob _ _,l,H,h=>⟨l,_,λ_=>rfl,h⟩
 | _,.v _ _ _,l,H,h=>⟨l,_,λ_=>rfl,h⟩
 | _,.z _ _ _,l,H,h=>⟨l,_,λ_=>rfl,h⟩
 | _,.ap _ _ _ _,l,H,h=>⟨l,_,λ_=>rfl,h⟩
 | _,.st _ _,l,H,h=>⟨l,_,λ_=>rfl,h⟩
 | _,.call _ _ _ _ _ _,l,H,h=>⟨l,_,λ_=>rfl,h⟩
 | _,.lp _ _ _ _ _ _ _,l,H,h=>⟨l,_,λ_=>rfl,h⟩
 | _,.jn _ _ _ _ _ _ _ _,l,H,h=>⟨l,_,λ_=>rfl,h⟩
 | _,.sk _,l,H,h=>⟨l,_,λ_=>rfl,h⟩
 | _,.cb _ _ _ _,l,H,h=>⟨l,_,λ_=>rfl,h⟩
 | _,.kl _ _,l,H,h=>⟨l,_,λ_=>rfl,h⟩
 | _,.mp _ _,l,H,h=>⟨l,_,λ_=>rfl,h⟩
 | _,.cl _ _ _ _ _ _,l,H,h=>⟨l,_,λ_=>rfl,h⟩
 | _,.er _,l,H,h=>⟨l,_,λ_=>rfl,h⟩
theorem kK{l:Fast}{H:WH}{tr:TS}{k:Fast→WH→TS→Prop}(h:uh l H tr k):∃l' dZ,(∀t,look l' t=look l t)∧k l' H dZ:=qK tr.tr l H h
theorem F6{g:Option (Nat×Bool)}{l:Fast}{tr:TS}{yes no:Fast→TS→Prop}(h:QB g l tr yes no):∃l' dZ,(∀t,look l' t=look l t)∧((dP g l=some true∧yes l' dZ)∨(dP g l=some false∧no l' dZ)):=by
 have self:∀t,look l t=look l t:=λ_=>rfl
 have like:∀ {t b},look l t=.bool b→∀u,look ((t,.bool b)::l) u=look l u:=λ{t b} hb u=>by
  rw[jT]
  split
  ·rename_i e
   subst e
   exact hb.symm
  ·rfl
 unfold QB at h
 split at h
 ·exact⟨l,tr,self,.inl ⟨rfl,h⟩⟩
 ·rename_i t want
  split at h
  ·rename_i c hc
   have plain:∀tr,Qo c want (yes l tr) (no l tr)→∃l' dZ,(∀t,look l' t=look l t)∧((dP (some (t,want)) l=some true∧yes l' dZ)∨(dP (some (t,want)) l=some false∧no l' dZ)):=λtr h=>by
    refine⟨l,tr,self, ?_⟩
    simp only[dP,hc]
    cases c<;>cases want<;>simp_all [Qo]
   split at h
   ·rename_i R0 f0 t' bq f g a b
    cases hb:Nat.beq t t' with
    | true =>
     rw[hb]at h
     simp only at h
     obtain⟨hcb,h⟩:=h
     subst hcb
     cases c with
     | true =>
      have h:=h.1 rfl
      cases want with
      | true=>exact⟨_,_,like hc,.inl ⟨by simp[dP,hc],h⟩⟩
      | false=>exact⟨_,_,like hc,.inr ⟨by simp[dP,hc],h⟩⟩
     | false =>
      have h:=h.2 rfl
      cases want with
      | true=>exact⟨_,_,like hc,.inr ⟨by simp[dP,hc],h⟩⟩
      | false=>exact⟨_,_,like hc,.inl ⟨by simp[dP,hc],h⟩⟩
    | false =>
     rw[hb]at h
     exact plain _ h
   ·exact plain _ h
  ·rename_i vs hc
   exact⟨l,tr,self,.inr ⟨by simp[dP,hc],h⟩⟩
  ·exact h.elim
theorem pI{R:Nat→Prop}{ι:VI}{M:Heap}{l lA:Fast}(h:jS R ι M l lA){g:Option (Nat×Bool)}{w:Bool}(hw:dP g l=some w):dP g lA=some w:=by
 cases g with
 | none=>exact hw
 | some g =>
  obtain⟨t,want⟩:=g
  have ht:=h t
  simp only[dP]at hw ⊢
  generalize look l t=X at *
  cases X<;>simp only at hw<;>first |(cases hw;done) | skip
  ·rw[ht.eq rfl]
   exact hw
  ·simp only[VL]at ht
   obtain⟨cs',e,_⟩:=ht
   rw[e]
   exact hw
theorem qL {C:aW} {B:FuncId→Option Bt} (hB:∀f b,B f=some b→FC C f b) {R:Nat→Prop} {n:Nat}:∀(ops:List jv) (l lA:Fast) (H:WH) (M:Heap) (ι:VI) (tr:TS) (k:Fast→WH→TS→Prop),VS R ι H M→jS R ι M l lA→(ops.all λo=>o.op.bN)=true →
  AQ C B n ops l H tr k→∃jH M' aV l' H' dZ t,vG C n ops lA M=some (jH,M')∧VS R aV H' M'∧Stp H.length t ι H M aV H' M'∧jS R aV M' l' jH∧k l' H' dZ
 | [],l,lA,H,M,ι,tr,k,s,he,hc,h=>⟨lA,M,ι,l,H,tr,[],rfl,s,.refl _ _ _ _ _ (Nat.le_refl _),he,h⟩
 | o::r,l,lA,H,M,ι,tr,k,s,he,hc,h=>by
  simp only[List.all_cons,Bool.and_eq_true]at hc
  simp only[AQ]at h
  obtain⟨l0,T9,hl0,h⟩:=kK h
  have he:jS R ι M l0 lA:=λt=>by rw[hl0 t];exact he t
  obtain⟨l1,tr1,hl,h⟩:=F6 h
  have he1:jS R ι M l1 lA:=λt=>by rw[hl t];exact he t
  rcases h with⟨hw,h⟩ |⟨hw,h⟩
  ·obtain⟨l2,tr2,hl2,h⟩:=kK h
   have he1:jS R ι M l2 lA:=λt=>by rw[hl2 t];exact he1 t
   simp only[vG,pI he hw]
   cases ho:o.op with
   | p op =>
    rw[ho]at h hc
    simp only at h
    obtain⟨v,u,tr2,h1,h2,h3⟩:=Da (R:=R) h
    obtain⟨a,h4,h5⟩:=JZ he1 hc.1 h1
    obtain⟨jH,M',aV,l',H',dZ,t,q1,q2⟩:=qL hB r _ _ H M ι tr2 k s (he1.put n o.dst (h3 _ _ _ _ h5)) hc.2 h2
    refine⟨jH,M',aV,l',H',dZ,t, ?_,q2⟩
    simp only[lV.sub,uF,h4,aJ,force_eq]
    exact q1
   | l op =>
    rw[ho]at h hc
    simp only at h
    obtain⟨v,u,tr2,h1,h2,h3⟩:=Da (R:=R) h
    obtain⟨a,h4,h5⟩:=BS s he1 hc.1 h1
    obtain⟨jH,M',aV,l',H',dZ,t,q1,q2⟩:=qL hB r _ _ H M ι tr2 k s (he1.put n o.dst (h3 _ _ _ _ h5)) hc.2 h2
    refine⟨jH,M',aV,l',H',dZ,t, ?_,q2⟩
    simp only[lV.sub,uF,h4,aJ,force_eq]
    exact q1
   | k op =>
    rw[ho]at h hc
    by_cases hmk:op=.makeMap
    ·subst hmk
     simp only at h
     obtain⟨s1,k1⟩:=s.push (x:=.map []) (y:=.map []) (d:=(0,0)) ⟨rfl,rfl,rfl⟩
     have hv:VL (M.push (.map [])) (OR R (ι.add H.length M.next (0,0))) (ι.add H.length M.next (0,0)) (.map (some H.length)) (.map (some M.next)):=by
      simp only[VL]
      exact⟨M.next,by simp[VI.add,setAt],rfl⟩
     obtain⟨jH,M',aV,l',H',dZ,t,q1,q2,q3,q4⟩:=qL hB r _ _ _ _ _ tr2 k s1 ((he1.step s k1).put n o.dst hv) hc.2 h
     refine⟨jH,M',aV,l',H',dZ,t, ?_,q2, ?_,q4⟩
     ·simp only[lV.sub,qV.sub,uF,aK,aJ,force_eq]
      exact q1
     ·have:=k1.trans q3 k1.next
      simpa using this
    have h:wK o.dst (op.sub (look l2)) tr2 (λx mk tr=>AQ C B n r (fO n o.dst (mk H.length) l2) (H++[some x]) tr k):=by
     cases op<;>first | exact h | exact absurd rfl hmk
    obtain⟨c,sl,mk,c',sl',Ry,tr2,h1,h2,h3,hss,h4⟩:=OP s he1 hc.1 h
    obtain⟨s1,k1⟩:=s.push (BL.of (sl':=sl') h3 hss)
    have hv:=h4 (M.push (.cells c' false sl')) (OR R (ι.add H.length M.next (c.length,c'.length))) (ι.add H.length M.next (c.length,c'.length)) H.length M.next (by simp[VI.add,setAt]) (by simp[VI.add,setAt])
    obtain⟨jH,M',aV,l',H',dZ,t,q1,q2,q3,q4⟩:=qL hB r _ _ _ _ _ tr2 k s1 ((he1.step s k1).put n o.dst hv) hc.2 h1
    refine⟨jH,M',aV,l',H',dZ,t, ?_,q2, ?_,q4⟩
    ·simp only[lV.sub,uF,h2,aJ,force_eq]
     exact q1
    ·have:=k1.trans q3 k1.next
     simpa using this
   | n op =>
    rw[ho]at h hc
    simp only at h
    obtain⟨a,M1,fU,v,H1,t1,tr2,h1,h2,h3,h4,h5⟩:=OQ hB s he1 hc.1 h
    obtain⟨jH,M',aV,l',H',dZ,t,q1,q2,q3,q4⟩:=qL hB r _ _ _ _ _ tr2 k h2 ((he1.step s h3).put n o.dst h4) hc.2 h5
    refine⟨jH,M',aV,l',H',dZ,t1++t, ?_,q2,h3.trans q3 h3.next,q4⟩
    simp only[lV.sub,uF,h1,force_eq]
    exact q1
  ·simp only[vG,pI he hw]
   exact qL hB r _ _ H M ι tr1 k s (he1.put n o.dst VL.unit) hc.2 h
theorem xJ:∀(k i:Nat),bD (holes k) i=none
 | 0,i=>rfl
 | k+1,0=>rfl
 | k+1,i+1=>xJ k i
theorem sZ:∀k,(holes k).length=k
 | 0=>rfl
 | k+1=>by simp[holes,sZ k]
def VI.room(ι:VI)(a b nk:Nat):VI:=⟨λi=>if a≤i∧i<a+nk then some (b+(i-a))else ι i,λi=>if a≤i∧i<a+nk then false else ι.xw i,λi=>if a≤i∧i<a+nk then false else ι.gone i,λi=>if a≤i∧i<a+nk then Option.none else ι.dim i⟩
theorem VS.room {R:Nat→Prop} {ι:VI} {H:WH} {M:Heap} (s:VS R ι H M) (nk:Nat) :
  VS R (ι.room H.length M.next nk) (H++holes nk) { M with next:=M.next+nk }∧Stp H.length [] ι H M (ι.room H.length M.next nk) (H++holes nk) { M with next:=M.next+nk }:=by
 have gp:∀i,bD (H++holes nk) i=bD H i:=λi=>by
  rw[vM]
  split
  ·rfl
  ·rename_i h
   rw[xJ,CW (Nat.le_of_not_lt h)]
 have out:∀i,i<H.length→¬(H.length≤i∧i<H.length+nk):=λi h=>by omega
 have hls:∀S,VI.Le ι (ι.room H.length M.next nk) S:=λS i _ =>
  ⟨λj h=>by simp only[VI.room,if_neg (out i (s.lt i j h).1)];exact⟨h,λ_ h=>h⟩,λh=>by simp only[VI.room,if_neg (out i (s.kF i h).1)];exact⟨h,λ_ h=>h⟩⟩
 have hk:Keeps M (own ι) { M with next:=M.next+nk } (own (ι.room H.length M.next nk)):=⟨Nat.le_add_right _ _,λb hb ho=>⟨rfl,λ⟨i,hi,hg⟩=>by
  simp only[VI.room]at hi hg
  split at hi
  ·obtain rfl:=ak hi;omega
  ·rename_i hne
   rw[if_neg hne]at hg
   exact ho ⟨i,hi,hg⟩⟩⟩
 have ac:∀i,¬(H.length≤i∧i<H.length+nk)→act (ι.room H.length M.next nk) (H++holes nk) i→act ι H i:=λi hn h=>h.imp (λ⟨x,h⟩=>⟨x,by rw[gp]at h;exact h⟩) (λh=>by simpa only[VI.room,if_neg hn]using h)
 refine⟨⟨λi j h=>?_,λi i' j h h' e e' g=>?_,λi x hx=>?_,λi h=>?_,λi hi c sl h=>?_,λi hi=>s.Em i (by have:M.next+nk≤i:=hi;omega),λj h=>⟨Nat.lt_of_lt_of_le (s.res j h).1 (Nat.le_add_right _ _),λi hi=>?_⟩⟩,
  ⟨hk,hls _,λi hi h=>by simp only[VI.room,if_neg (out i hi)];exact h,λi hi=>by simp only[VI.room,if_neg (out i hi)],λi hi=>by simp only[VI.room,if_neg (out i hi)],λi hi _=>by simp only[VI.room,if_neg (out i hi)],λi _ ⟨x,h⟩=>⟨x,by rw[gp]at h;exact h⟩,λ_ _ _ _ _ _=>rfl,by simp⟩⟩
 ·simp only[VI.room]at h
  simp only[aG,sZ]
  split at h
  ·obtain rfl:=ak h
   omega
  ·have:=s.lt i j h
   omega
 ·simp only[VI.room]at e e'
  split at e<;>split at e'
  ·have e1:=ak e
   have e2:=ak e'
   omega
  ·obtain rfl:=ak e
   have:=(s.lt _ _ e').2
   omega
  ·obtain rfl:=ak e'
   have:=(s.lt _ _ e).2
   omega
  ·rename_i n1 n2
   simp only[VI.room,if_neg n1,if_neg n2]at g
   exact s.inj i i' j (ac i n1 h) (ac i' n2 h') e e' g
 ·rw[gp]at hx
  have hl:=out i (iM hx)
  simp only[VI.room,if_neg hl]
  rcases s.blk i x hx with h |⟨j,h1,h2,h3⟩
  ·exact .inl h
  ·exact .inr ⟨j,h1,h2.mono (hk.or R) hls (λ_ h=>h),h3⟩
 ·simp only[VI.room]at h ⊢
  split at h
  ·cases h
  ·rename_i hn
   rw[if_neg hn]
   have:=s.kF i h
   simp only[aG,sZ]
   exact⟨by omega,this.2⟩
 ·rw[gp]at h
  have hl:=out i (iM h)
  simp only[VI.room,if_neg hl]at hi
  exact s.jm i hi c sl h
 ·simp only[VI.room]
  split
  ·rename_i hn
   intro e
   obtain rfl:=ak e
   have:=(s.res _ h).1
   omega
  ·rename_i hn
   exact(s.res j h).2 i (ac i hn hi)
def VI.fill(ι:VI)(i:Nat)(d:Nat×Nat):VI:=⟨ι.to,ι.xw,ι.gone,setAt ι.dim i (some d)⟩
theorem VS.fill {R:Nat→Prop} {ι:VI} {H:WH} {M:Heap} (s:VS R ι H M) {b j:Nat} (hb:ι b=some j) (hg:ι.gone b=false) (hd:ι.dim b=none) (hn:bD H b=none) {x y:fD} {d:Nat×Nat} (hx:BL M (OR R ι) ι (some d) x (some y)) :
  VS R (ι.fill b d) (dH H b (some x)) (M.put j (some y))∧Keeps M (own ι) (M.put j (some y)) (own (ι.fill b d))∧(∀S,VI.Le ι (ι.fill b d) S)∧(∀i j',i≠b→act ι H i→ι i=some j'→(M.put j (some y)).get j'=M.get j'):=by
 have hbl:=(s.lt b j hb).1
 have hk:Keeps M (own ι) (M.put j (some y)) (own (ι.fill b d)):=⟨Nat.le_refl _,λb' _ ho=>⟨by
  have:b'≠j:=λe=>ho (e ▸ ⟨b,hb,hg⟩)
  simp[Heap.put,this],ho⟩⟩
 have hls:∀S,VI.Le ι (ι.fill b d) S:=λS i _=>by
  by_cases e:i=b
  ·subst e
   exact⟨λj h=>⟨h,λd h=>by rw[hd]at h;cases h⟩,λh=>⟨h,λd h=>by rw[hd]at h;cases h⟩⟩
  ·simp only[VI.fill,bf _ _ e]
   exact⟨λj h=>⟨h,λd h=>h⟩,λh=>⟨h,λd h=>h⟩⟩
 have gp:∀k,bD (dH H b (some x)) k=if k=b then some x else bD H k:=λk=>by
  rw[iF]
  by_cases e:k=b
  ·rw[if_pos ⟨e,hbl⟩,if_pos e]
  ·rw[if_neg (λh=>e h.1),if_neg e]
 have ac:∀i,act (ι.fill b d) (dH H b (some x)) i→act ι H i:=λi h=>by
  rcases h with⟨z,h⟩ | h
  ·rw[gp]at h
   by_cases e:i=b
   ·subst e
    exact .inr hg
   ·rw[if_neg e]at h
    exact .inl ⟨z,h⟩
  ·exact .inr h
 have ne:∀i j',i≠b→act ι H i→ι i=some j'→j'≠j:=λi j' hi ha h e=>hi (s.inj i b j ha (.inr hg) (e ▸ h) hb (.inr hg))
 refine⟨⟨λi j h=>by rw[bQ];exact s.lt i j h,λi i' j h h'=>s.inj i i' j (ac i h) (ac i' h'),λi z hz=>?_,λi h=>by rw[bQ];exact s.kF i h,λi hi c sl h=>?_,λi hi=>?_,λj h=>⟨(s.res j h).1,λi hi=>(s.res j h).2 i (ac i hi)⟩⟩,hk,hls,λi j' hi ha h=>by simp[Heap.put,ne i j' hi ha h]⟩
 ·rw[gp]at hz
  by_cases e:i=b
  ·subst e
   rw[if_pos rfl]at hz
   obtain rfl:=ak hz
   refine .inr ⟨j,hb, ?_,λ_=>hg⟩
   simp only[Heap.put,if_true]
   exact hx.mono (hk.or R) hls (λ_ h=>by simpa[VI.fill,setAt]using h)
  ·rw[if_neg e]at hz
   rcases s.blk i z hz with⟨h1,h2,h3⟩ |⟨j',h1,h2,h3⟩
   ·exact .inl ⟨h1,by simp only[VI.fill,bf _ _ e];exact h2,h3⟩
   ·refine .inr ⟨j',h1, ?_,h3⟩
    simp only[Heap.put,if_neg (ne i j' e (.inl ⟨z,hz⟩) h1)]
    exact h2.mono (hk.or R) hls (λ_ h=>by simp only[VI.fill,bf _ _ e];exact h)
 ·rw[gp]at h
  by_cases e:i=b
  ·subst e
   have:ι.gone i=true:=hi
   rw[hg]at this
   cases this
  ·rw[if_neg e]at h
   exact s.jm i hi c sl h
 ·have:=(s.lt b j hb).2
  have:i≠j:=λe=>by subst e;simp only[Heap.put]at hi;omega
  simp only[Heap.put,if_neg this]
  exact s.Em i hi
mutual
theorem VL.mg{M:Heap}{O:Nat→Prop}{κ:VI}:∀(v a:AV),known v=true→VL M O κ v a→AV.same a a=true
 |.undef,_,h,_=>by simp[known]at h
 |.bool _,_,_,e=>by simp only[VL]at e;subst e;simp[AV.same]
 |.int _ _,_,_,e=>by simp only[VL]at e;subst e;simp[AV.same]
 |.str _,_,_,e=>by simp only[VL]at e;subst e;simp[AV.same]
 |.ptr none,_,_,e=>by simp only[VL]at e;subst e;simp[AV.same]
 |.ptr (some q),_,_,e=>by simp only[VL]at e;obtain⟨j,_,rfl⟩:=e;simp[AV.same]
 |.slice none _ _ _ _,_,_,e=>by simp only[VL]at e;obtain⟨_,s',rfl⟩:=e;simp[AV.same]
 |.slice (some _) _ _ _ _,_,_,e=>by simp[VL]at e
 |.map none,_,_,e=>by simp only[VL]at e;subst e;simp[AV.same]
 |.map (some r),_,_,e=>by simp only[VL]at e;obtain⟨j,_,rfl⟩:=e;simp[AV.same]
 |.func f cs,_,h,e=>by
  simp only[VL]at e
  obtain⟨cs',rfl,e⟩:=e
  simp only[AV.same,Bool.and_eq_true,beq_self_eq_true,true_and]
  exact aZ.mg cs cs' (by simpa[known]using h) e
 |.nilFunc,_,_,e=>by simp only[VL]at e;subst e;simp[AV.same]
 |.agg cs,_,h,e=>by
  simp only[VL]at e
  obtain⟨cs',rfl,e⟩:=e
  simp only[AV.same]
  exact aZ.mg cs cs' (by simpa[known]using h) e
 |.tuple cs,_,h,e=>by
  simp only[VL]at e
  obtain⟨cs',rfl,e⟩:=e
  simp only[AV.same]
  exact aZ.mg cs cs' (by simpa[known]using h) e
 |.list ..,_,_,e=>by
  simp only[VL]at e
  rcases e with⟨_,_,s',rfl⟩ |⟨b,o,cap,ex',rfl,_⟩<;>simp[AV.same]
 |.elem _,_,_,e=>by simp only[VL]at e;obtain⟨b,o,c,ro,sl,rfl,_⟩:=e;simp[AV.same]
 |.acc ..,_,_,e=>by simp only[VL]at e;obtain⟨p,s',cap,ex,rfl,_⟩:=e;simp[AV.same]
theorem aZ.mg{M:Heap}{O:Nat→Prop}{κ:VI}:∀(l r:List AV),xA l=true→aZ M O κ l r→AV.rJ r r=true
 | [],[],_,_=>by simp[AV.rJ]
 | v::l,a::r,h,e=>by
  simp only[aZ]at e
  simp only[xA]at h
  split at h
  ·rename_i hv
   simp only[AV.rJ,Bool.and_eq_true]
   exact⟨VL.mg v a hv e.1,aZ.mg l r h e.2⟩
  ·cases h
 | [],_::_,_,e=>by simp[aZ]at e
 | _::_,[],_,e=>by simp[aZ]at e
end
theorem EB(u k:Nat)(bt:List (Nat×Nat))(t:Nat):iw ((u,k)::bt) t=if u=t then k else iw bt t:=by
 simp only[iw]
 cases h:Nat.beq u t with
 | true=>simp[aR h]
 | false =>
  have:u≠t:=λe=>by subst e;simp at h
  simp[this]
theorem uM(n:Nat)(d:Option Nat)(k:Nat)(bt:List (Nat×Nat))(t:Nat):iw (gJ n d k bt) t=if d=some t∧t<n then k else iw bt t:=by
 cases d with
 | none=>simp[gJ]
 | some d =>
  simp only[gJ]
  cases hb:Nat.blt d n with
  | true =>
   have hd:d<n:=by simpa[Nat.blt_eq]using hb
   simp only[EB]
   by_cases he:d=t
   ·subst he
    simp[hd]
   ·simp[he]
  | false =>
   have hd:¬d<n:=λh=>by
    have:Nat.blt d n=true:=by simpa[Nat.blt_eq]using h
    rw[hb]at this
    cases this
   simp only
   rw[if_neg]
   rintro⟨h1,h2⟩
   obtain rfl:=ak h1
   exact hd h2
def tK(bt:List (Nat×Nat))(k:Nat)(ρ:Nat→AV):Nat→AV:=λt=>if iw bt t≤k then ρ t else .undef
theorem Hu{bt:List (Nat×Nat)}{k:Nat}{ρ:Nat→AV}{x:AX}(h:gY bt x≤k):x.sub (tK bt k ρ)=x.sub ρ:=by
 cases x with
 | t t=>simp only[gY]at h;simp only[AX.sub,tK];rw[if_pos h]
 | c v=>rfl
theorem Kg{bt:List (Nat×Nat)}{k:Nat}{ρ:Nat→AV}{x:Option AX}(h:CS bt x≤k):AX.dQ (tK bt k ρ) x=AX.dQ ρ x:=by
 cases x with
 | none=>rfl
 | some x=>simp only[AX.dQ,aJ,Hu h]
theorem IJ{bt:List (Nat×Nat)}{n k:Nat}{ρ:Nat→AV}{o:fM}(hk:k<n)(h:Ep bt n o≤k):o.sub (tK bt k ρ)=o.sub ρ:=by
 cases o<;>simp only[Ep]at h<;>first | omega | skip
 all_goals simp only[fM.sub]
 all_goals (repeat rw[Hu (by omega)])
 all_goals (repeat rw[Kg (by omega)])
theorem fH{b:Nat}{t:List Nat×WH}{r:List (List Nat×WH)}:touches b (t::r)=false↔b∉t.1∧touches b r=false:=by
 simp only[touches]
 cases h:iP t.1 b with
 | true=>simp[kI.1 h]
 | false=>simp[show b∉t.1 from λe=>by rw[kI.2 e]at h;cases h]
theorem yC{b:Nat}{t:List Nat×WH}:∀ {r:List (List Nat×WH)},touches b (r++[t])=false↔touches b r=false∧b∉t.1
 | []=>by rw[List.nil_append,fH];simp[touches]
 | u::r=>by rw[List.cons_append,fH,fH,yC,and_assoc]
structure HK(R:Nat→Prop)(base bK nk k:Nat)(iQ ι:VI)(H:WH)(M:Heap)(l lA:Fast)(bt:List (Nat×Nat))(hs:List (List Nat×WH))(Mk:Heap)(jY:VI):Prop where
 keep:Keeps Mk (own jY) M (own ι)
 env:∀t,iw bt t≤k+1→VL Mk (OR R jY) jY (look l t) (look lA t)
 new:∀i,i<nk→jY (base+i)=some (bK+i)
 gone:∀i,i<nk→jY.gone (base+i)=true→ι.gone (base+i)=true
 same:∀i j,i<base→act ι H i→iQ i=some j→touches i (hs.drop k)=false→M.get j=Mk.get j
structure DI(R:Nat→Prop)(base bK nk:Nat)(iQ:VI)(M0:Heap)(ι:VI)(H:WH)(M:Heap)(l lA:Fast)(bt:List (Nat×Nat))(al:List Nat)(hs:List (List Nat×WH))(dS:List Heap):Prop where
 vs:VS R ι H M
 len:base+nk≤H.length
 env:jS R ι M l lA
 new:∀i,i<nk→ι (base+i)=some (bK+i)
 free:∀i,i<nk→iP al i=false→ι.gone (base+i)=false∧ι.dim (base+i)=none∧bD H (base+i)=none
 start:∀t,iw bt t=0→VL M0 (OR R iQ) iQ (look l t) (look lA t)
 low:∀i j,iQ i=some j→i<base∧j<bK
 PO:VI.Le iQ ι (λi=>i<base)
 Jb:∀i,i<base→ι i=iQ i
 m0:M0.next=bK
 hlen:hs.length=dS.length
 hist:∀k Mk,dS[k]?=some Mk→∃jY,HK R base bK nk k iQ ι H M l lA bt hs Mk jY∧∃t Hk,hs[k]?=some (t,Hk)∧VS R jY Hk Mk
section
variable {R:Nat→Prop} {base bK nk:Nat} {iQ:VI} {M0:Heap} {ι:VI} {H:WH} {M:Heap} {l lA:Fast} {bt:List (Nat×Nat)} {al:List Nat} {hs:List (List Nat×WH)} {dS:List Heap}
theorem HK.put{k:Nat}{Mk:Heap}{jY:VI}(g:HK R base bK nk k iQ ι H M l lA bt hs Mk jY)(n:Nat)(d:Option Nat)(b:Nat){v a:AV}(hv:b≤k+1→VL Mk (OR R jY) jY v a):HK R base bK nk k iQ ι H M (fO n d v l) (fO n d a lA) (gJ n d b bt) hs Mk jY :=
 ⟨g.keep,λt ht=>by
  rw[jX,jX]
  rw[uM]at ht
  split
  ·rename_i h
   rw[if_pos h]at ht
   exact hv ht
  ·rename_i h
   rw[if_neg h]at ht
   exact g.env t ht,g.new,g.gone,g.same⟩
theorem DI.put (g:DI R base bK nk iQ M0 ι H M l lA bt al hs dS) (n:Nat) (d:Option Nat) (b:Nat) {v a:AV} (hv:VL M (OR R ι) ι v a) (h0:b=0→VL M0 (OR R iQ) iQ v a)
  (hk:∀k Mk jY,k<hs.length→HK R base bK nk k iQ ι H M l lA bt hs Mk jY→b≤k+1→VL Mk (OR R jY) jY v a):DI R base bK nk iQ M0 ι H M (fO n d v l) (fO n d a lA) (gJ n d b bt) al hs dS :=
 ⟨g.vs,g.len,g.env.put n d hv,g.new,g.free,λt ht=>by
  rw[jX,jX]
  rw[uM]at ht
  split
  ·rename_i h
   rw[if_pos h]at ht
   exact h0 ht
  ·rename_i h
   rw[if_neg h]at ht
   exact g.start t ht,g.low,g.PO,g.Jb,g.m0,g.hlen,λk Mk h=>by
   obtain⟨jY,q,q2⟩:=g.hist k Mk h
   exact⟨jY,q.put n d b λhb=>hk k Mk jY (by rw[g.hlen];exact(aF.1 h).1) q hb,q2⟩⟩
theorem DI.RY (g:DI R base bK nk iQ M0 ι H M l lA bt al hs dS) (n:Nat) (d:Option Nat) (b:Nat) {v a:AV} (hv:VL M (OR R ι) ι v a) (h0:b=0→VL M0 (OR R iQ) iQ v a)
  (hk:∀k Mk jY t Hk,dS[k]?=some Mk→HK R base bK nk k iQ ι H M l lA bt hs Mk jY→hs[k]?=some (t,Hk)→VS R jY Hk Mk→b≤k+1→VL Mk (OR R jY) jY v a):DI R base bK nk iQ M0 ι H M (fO n d v l) (fO n d a lA) (gJ n d b bt) al hs dS :=
 ⟨g.vs,g.len,g.env.put n d hv,g.new,g.free,λt ht=>by
  rw[jX,jX]
  rw[uM]at ht
  split
  ·rename_i h
   rw[if_pos h]at ht
   exact h0 ht
  ·rename_i h
   rw[if_neg h]at ht
   exact g.start t ht,g.low,g.PO,g.Jb,g.m0,g.hlen,λk Mk h=>by
   obtain⟨jY,q,t,Hk,q2,q3⟩:=g.hist k Mk h
   exact⟨jY,q.put n d b λhb=>hk k Mk jY t Hk h q q2 q3 hb,t,Hk,q2,q3⟩⟩
theorem DI.now(g:DI R base bK nk iQ M0 ι H M l lA bt al hs dS)(n:Nat)(d:Option Nat){v a:AV}(hv:VL M (OR R ι) ι v a):DI R base bK nk iQ M0 ι H M (fO n d v l) (fO n d a lA) (gJ n d (hs.length+1) bt) al hs dS :=
 g.put n d (hs.length+1) hv (λh=>by omega) (λk Mk jY hk _ hb=>by omega)
theorem DI.like{l':Fast}(g:DI R base bK nk iQ M0 ι H M l lA bt al hs dS)(h:∀t,look l' t=look l t):DI R base bK nk iQ M0 ι H M l' lA bt al hs dS :=
 ⟨g.vs,g.len,λt=>by rw[h t];exact g.env t,g.new,g.free,λt ht=>by rw[h t];exact g.start t ht,g.low,g.PO,g.Jb,g.m0,g.hlen,λk Mk e=>by
  obtain⟨jY,q,q2⟩:=g.hist k Mk e
  exact⟨jY,⟨q.keep,λt ht=>by rw[h t];exact q.env t ht,q.new,q.gone,q.same⟩,q2⟩⟩
theorem DI.loud(g:DI R base bK nk iQ M0 ι H M l lA bt al hs dS){t:List Nat}{aV:VI}{H':WH}{M':Heap}(s':VS R aV H' M')(k:Stp H.length t ι H M aV H' M'):DI R base bK nk iQ M0 aV H' M' l lA bt al (hs++[(t,H)]) (dS++[M]):=by
 have hb:∀i,i<nk→base+i<H.length:=λi hi=>by have:=g.len;omega
 have nw:∀i,i<nk→aV (base+i)=some (bK+i):=λi hi=>((k.le _ (hb i hi)).1 _ (g.new i hi)).1
 refine⟨s',Nat.le_trans g.len k.next,g.env.step g.vs k,nw,λi hi ha=>?_,g.start,g.low,g.PO.trans (k.le.sub λi hi=>by have:=g.len;have:i<base:=hi;show i<H.length;omega),λi hi=>(k.OE i (by have:=g.len;omega)).trans (g.Jb i hi),g.m0,by simp[g.hlen],λq Mk hq=>?_⟩
 ·obtain⟨h1,h2,h3⟩:=g.free i hi ha
  refine⟨by rw[k.BH _ (hb i hi) h3];exact h1,by rw[k.FV _ (hb i hi)];exact h2, ?_⟩
  cases e:bD H' (base+i)with
  | none=>rfl
  | some x =>
   obtain⟨y,hy⟩:=k.live _ (hb i hi) ⟨x,e⟩
   rw[h3]at hy
   cases hy
 ·rcases Nat.lt_or_ge q dS.length with hlt | hge
  ·rw[List.getElem?_append_left hlt]at hq
   obtain⟨jY,w,t0,Hk,w2,w3⟩:=g.hist q Mk hq
   refine⟨jY,⟨w.keep.trans k.keep,w.env,w.new,λi hi h=>k.gone _ (hb i hi) (w.gone i hi h),λi j hi ha hj ht=>?_⟩,t0,Hk,by rw[List.getElem?_append_left (by rw[g.hlen];exact hlt)];exact w2,w3⟩
   rw[List.drop_append_of_le_length (by rw[g.hlen];omega),yC]at ht
   have hi':i<H.length:=by have:=g.len;omega
   exact(k.Ql i j hi' ha ((g.PO i hi).1 j hj).1 ht.2).trans (w.same i j hi (k.act hi' ha) hj ht.1)
  ·rw[List.getElem?_append_right hge]at hq
   have hqe:q=dS.length:=by
    rcases Nat.eq_or_lt_of_le hge with e | e
    ·exact e.symm
    ·rw[List.getElem?_eq_none (by simp;omega)]at hq;cases hq
   subst hqe
   simp only[Nat.sub_self,List.getElem?_cons_zero,au]at hq
   subst hq
   refine⟨ι,⟨k.keep,λu _=>g.env u,g.new,λi hi h=>k.gone _ (hb i hi) h,λi j hi ha hj ht=>?_⟩,t,H,by rw[←g.hlen,List.getElem?_append_right (Nat.le_refl _)];simp,g.vs⟩
   rw[←g.hlen,List.drop_append_of_le_length (Nat.le_refl _),List.drop_length,List.nil_append,fH]at ht
   exact k.Ql i j (by have:=g.len;omega) ha ((g.PO i hi).1 j hj).1 ht.1
theorem uN:∀ {al:List Nat} {m:Nat},pX H base al=true→iP al m=true→∃c sl,bD H (base+m)=some (.cells c false sl)
 | [],m,_,h=>by simp[iP]at h
 | a::r,m,ht,h=>by
  simp only[pX]at ht
  split at ht
  case h_2=>cases ht
  rename_i c sl hg
  rcases List.mem_cons.1 (kI.1 h)with e | e
  ·exact⟨c,sl,e ▸ hg⟩
  ·exact uN ht (kI.2 e)
theorem DI.owns(g:DI R base bK nk iQ M0 ι H M l lA bt al hs dS)(ht:pX H base al=true){b:Nat}(h1:bK≤b)(h2:b<bK+nk):own ι b:=by
 have e:bK+(b-bK)=b:=by omega
 refine⟨base+(b-bK),by rw[g.new _ (by omega),e], ?_⟩
 cases ha:iP al (b-bK)with
 | false=>exact(g.free _ (by omega) ha).1
 | true =>
  obtain⟨c,sl,hg⟩:=uN ht ha
  cases hgo:ι.gone (base+(b-bK))with
  | false=>rfl
  | true=>exact absurd hg (g.vs.jm _ hgo c sl)
theorem DI.owned (g:DI R base bK nk iQ M0 ι H M l lA bt al hs dS) {lo:Nat} (ht:(pX H base al||rY hs lo base al)=true) {b:Nat} (h1:bK≤b) (h2:b<bK+nk) :
  own ι b∨∃k Mk jY,lo≤k∧dS[k]?=some Mk∧HK R base bK nk k iQ ι H M l lA bt hs Mk jY∧own jY b:=by
 rcases Bool.or_eq_true_iff.1 ht with ht | ht
 ·exact .inl (g.owns ht h1 h2)
 have e:bK+(b-bK)=b:=by omega
 cases ha:iP al (b-bK)with
 | false=>exact .inl ⟨base+(b-bK),by rw[g.new _ (by omega),e],(g.free _ (by omega) ha).1⟩
 | true =>
  right
  unfold rY at ht
  split at ht
  case h_2=>cases ht
  rename_i tk Hk rest hd
  have hk:hs[lo]?=some (tk,Hk):=by
   have:(hs.drop lo)[0]?=some (tk,Hk):=by rw[hd];rfl
   rw[List.getElem?_drop]at this
   exact this
  have hl:lo<dS.length:=by rw[←g.hlen];exact(aF.1 hk).1
  obtain⟨jY,w,t',UK,w2,w3⟩:=g.hist lo dS[lo] (aS hl)
  rw[hk]at w2
  cases w2
  obtain⟨c,sl,hg⟩:=uN ht ha
  refine⟨lo,_,jY,Nat.le_refl _,aS hl,w,base+(b-bK),by rw[w.new _ (by omega),e], ?_⟩
  cases hgo:jY.gone (base+(b-bK))with
  | false=>rfl
  | true=>exact absurd hg (w3.jm _ hgo c sl)
theorem mh{X:Heap}{b:Nat}(h:¬(bK≤b∧b<bK+nk)):(X.hide bK nk).get b=X.get b:=by
 simp only[Heap.hide]
 rw[if_neg h]
theorem tq{g:Bool}{n b o:Nat}{X Y:Heap}(h:X.get b=Y.get b):oQ g n (.ptr (some (b,o))) X=oQ g n (.ptr (some (b,o))) Y:=by
 simp only[oQ,Heap.read,h]
theorem uj{sz len cap:Nat}{ex:Bool}{b o:Nat}{X Y:Heap}(h:len≠0→X.get b=Y.get b):je (.slice (some (b,o)) sz len cap ex) X=je (.slice (some (b,o)) sz len cap ex) Y:=by
 unfold je
 split<;>first | rfl | skip
 rename_i e
 cases e
 split
 ·rfl
 ·rename_i hl
  simp only[Heap.read,h hl]
theorem MZ (g:DI R base bK nk iQ M0 ι H M l lA bt al hs dS) {o:j6} (hc:o.bN=true) {v u:AV} (hv:wL (o.sub (look l)) H=some v) (hu:∀(M:Heap) (O:Nat→Prop) (κ:VI) (a:AV),VL M O κ v a→VL M O κ u a) {lo:Nat} (hok:zP base al l bt lo o u H hs=true) :
  ∃a,aL (o.sub (look lA)) [] (M.hide bK nk)=some a∧VL M (OR R ι) ι u a∧∀k Mk,lo≤k→dS[k]?=some Mk→∃w,aL (o.sub (look lA)) [] (Mk.hide bK nk)=some w∧AV.same w a=true:=by
 obtain⟨a,h1,h2⟩:=BS g.vs g.env hc hv
 have h3:=hu _ _ _ _ h2
 -- all read the same
 have fin:known u=true→(∀X,(X=M∨∃k,lo≤k∧dS[k]?=some X)→aL (o.sub (look lA)) [] (X.hide bK nk)=aL (o.sub (look lA)) [] M)→∃a,aL (o.sub (look lA)) [] (M.hide bK nk)=some a∧VL M (OR R ι) ι u a∧∀k Mk,lo≤k→dS[k]?=some Mk→∃w,aL (o.sub (look lA)) [] (Mk.hide bK nk)=some w∧AV.same w a=true :=
  λhkn hX=>⟨a,(hX M (.inl rfl)).trans h1,h3,λk Mk hk hM=>⟨a,(hX Mk (.inr ⟨k,hk,hM⟩)).trans h1,VL.mg u a hkn h3⟩⟩
 unfold zP at hok
 -- a list
 have UL:∀(t:Nat),gY bt (.t t)=rX bt o→Nat.ble (rX bt o) lo=true→(pX H base al=true∨rX bt o=0) →
   ∀(P:Heap→(Nat→Prop)→VI→Nat→Prop),(∀M O κ,VL M O κ (look l t) (look lA t)→∃b,P M O κ b)→True:=λ_ _ _ _ _ _=>trivial
 cases o with
 | load ag n x =>
  cases x with
  | c w=>simp[AU]at hok
  | t t =>
   simp only[AU,rX,gY]at hok
   simp only[j6.sub,AX.sub,aL,AX.ev]at fin h1 ⊢
   have e0:=g.env t
   generalize hX:look l t=X at *
   cases X with
   | elem cs =>
    simp only at hok
    have hkn:known u=true:=by
     split at hok
     ·assumption
     ·assumption
     ·cases hok
    have hb:iw bt t≤lo+1:=by
     split at hok
     ·rename_i h _ _;exact Nat.le_of_ble_eq_true h
     ·rename_i h _ _;exact Nat.le_of_ble_eq_true h
     ·cases hok
    have hth:(pX H base al||rY hs lo base al)=true∨iw bt t=0:=by
     split at hok
     ·exact .inl (by assumption)
     ·exact .inr (aR hok)
     ·cases hok
    simp only[VL]at e0
    obtain⟨b,off,c,ro,sl,e1,g1,g2,g3,g4⟩:=e0
    have hout:¬(bK≤b∧b<bK+nk):=λ⟨q1,q2⟩=>by
     rcases hth with ht | h0
     ·rcases g.owned ht q1 q2 with o |⟨k,Mk,jY,hk,_,w,o⟩
      ·exact g2 (.inl o)
      ·have:=w.env t (by omega)
       rw[hX]at this
       simp only[VL]at this
       obtain⟨b',_,_,_,_,e2,_,p2,_⟩:=this
       rw[e1]at e2
       simp only[AV.ptr.injEq,au,aD]at e2
       rw[←e2.1]at p2
       exact p2 (.inl o)
     ·have:=g.start t h0
      rw[hX]at this
      simp only[VL]at this
      obtain⟨b',_,_,_,_,e2,_,_,p3,_⟩:=this
      rw[e1]at e2
      simp only[AV.ptr.injEq,au,aD]at e2
      rw[←e2.1,g.m0]at p3
      omega
    refine fin hkn λX G7=>?_
    rw[e1]
    refine tq ((mh hout).trans ?_)
    rcases G7 with rfl |⟨k,hk,hM⟩
    ·rfl
    ·obtain⟨jY,w,_⟩:=g.hist k X hM
     have:=w.env t (by omega)
     rw[hX]at this
     simp only[VL]at this
     obtain⟨b',_,_,_,_,e2,_,p2,p3,_⟩:=this
     rw[e1]at e2
     simp only[AV.ptr.injEq,au,aD]at e2
     rw[←e2.1]at p2 p3
     exact(w.keep.get b p3 (λh=>p2 (.inl h))).1.symm
   | ptr p =>
    cases p with
    | none=>simp at hok
    | some q =>
     simp only at hok
     split at hok
     case h_2=>cases hok
     rename_i hkn hlt hto
     have hlt:q.1<base:=by simpa[Nat.blt_eq]using hlt
     simp only[VL]at e0
     obtain⟨j,k1,k2⟩:=e0
     rw[g.Jb _ hlt]at k1
     have hj:=(g.low _ _ k1).2
     have hact:act ι H q.1:=by
      simp only[j6.sub,AX.sub,wL,AX.ev,hX]at hv
      split at hv
      ·cases hv
      split at hv
      ·rename_i hg
       exact .inl ⟨_,hg⟩
      ·cases hv
     refine fin hkn λX G7=>?_
     rw[k2]
     refine tq ((mh (by omega)).trans ?_)
     rcases G7 with rfl |⟨k,hk,hM⟩
     ·rfl
     ·obtain⟨jY,w,_⟩:=g.hist k X hM
      refine(w.same q.1 j hlt hact k1 ?_).symm
      have:hs.drop k=(hs.drop lo).drop (k-lo):=by rw[List.drop_drop];congr 1;omega
      rw[this]
      have mono:∀(r:List (List Nat×WH)) (n:Nat),touches q.1 r=false→touches q.1 (r.drop n)=false:=by
       intro r
       induction r with
       | nil=>intro n _;simp[touches]
       | cons u r ih =>
        intro n h
        cases n with
        | zero=>exact h
        | succ n=>exact ih n (fH.1 h).2
      exact mono _ _ hto
   | _=>simp at hok
 | eZ x =>
  cases x with
  | c w=>simp[AU]at hok
  | t t =>
   simp only[AU,rX,gY]at hok
   simp only[j6.sub,AX.sub,aL,AX.ev]at fin h1 ⊢
   have e0:=g.env t
   generalize hX:look l t=X at *
   cases X with
   | list sz len cs ex =>
    simp only at hok
    have hkn:known u=true:=by
     split at hok
     ·assumption
     ·assumption
     ·cases hok
    have hb:iw bt t≤lo+1:=by
     split at hok
     ·rename_i h _ _;exact Nat.le_of_ble_eq_true h
     ·rename_i h _ _;exact Nat.le_of_ble_eq_true h
     ·cases hok
    have hth:(pX H base al||rY hs lo base al)=true∨iw bt t=0:=by
     split at hok
     ·exact .inl (by assumption)
     ·exact .inr (aR hok)
     ·cases hok
    simp only[VL]at e0
    rcases e0 with⟨_,_,s',e1⟩ |⟨b,off,cap,ex',e1,_,_,_,q4⟩
    ·exact fin hkn λX _=>by rw[e1];rfl
    refine fin hkn λX G7=>?_
    rw[e1]
    refine uj λhl=>?_
    obtain⟨c,ro,sl,g1,g2,g3,g4,g5⟩:=q4 hl
    have hout:¬(bK≤b∧b<bK+nk):=λ⟨q1,q2⟩=>by
     rcases hth with ht | h0
     ·rcases g.owned ht q1 q2 with o |⟨k,Mk,jY,hk,_,w,o⟩
      ·exact g2 (.inl o)
      ·have:=w.env t (by omega)
       rw[hX]at this
       simp only[VL]at this
       rcases this with⟨_,_,s',e2⟩ |⟨b',_,_,_,e2,_,_,_,p4⟩
       ·rw[e1]at e2;cases e2
       ·rw[e1]at e2
        cases e2
        obtain⟨_,_,_,_,p2,_⟩:=p4 hl
        exact p2 (.inl o)
     ·have:=g.start t h0
      rw[hX]at this
      simp only[VL]at this
      rcases this with⟨_,_,s',e2⟩ |⟨b',_,_,_,e2,_,_,_,p4⟩
      ·rw[e1]at e2;cases e2
      ·rw[e1]at e2
       cases e2
       obtain⟨_,_,_,_,_,p3,_⟩:=p4 hl
       rw[g.m0]at p3
       omega
    refine(mh hout).trans ?_
    rcases G7 with rfl |⟨k,hk,hM⟩
    ·rfl
    ·obtain⟨jY,w,_⟩:=g.hist k X hM
     have:=w.env t (by omega)
     rw[hX]at this
     simp only[VL]at this
     rcases this with⟨_,_,s',e2⟩ |⟨b',_,_,_,e2,_,_,_,p4⟩
     ·rw[e1]at e2;cases e2
     ·rw[e1]at e2
      cases e2
      obtain⟨_,_,_,_,p2,p3,_⟩:=p4 hl
      exact(w.keep.get b p3 (λh=>p2 (.inl h))).1.symm
   | slice p sz len cap ex =>
    cases p with
    | some q=>simp[VL]at e0
    | none =>
     simp only at hok
     have hkn:known u=true:=by
      split at hok
      ·assumption
      ·assumption
      ·cases hok
     simp only[VL]at e0
     obtain⟨_,s',e1⟩:=e0
     exact fin hkn λX _=>by rw[e1];rfl
   | acc b off sz n w =>
    simp only at hok
    split at hok
    case h_2=>cases hok
    rename_i hkn hlt hto
    have hlt:b<base:=by simpa[Nat.blt_eq]using hlt
    simp only[VL]at e0
    obtain⟨p,s',cap,ex,k2,k3,k4,k5,m,L,k6,k7,k8,k9⟩:=e0
    have hact:act ι H b:=by
     simp only[j6.sub,AX.sub,wL,AX.ev,hX]at hv
     split at hv
     ·rename_i e;cases e
     ·rename_i e
      cases e
      split at hv
      ·rename_i hg
       exact .inl ⟨_,hg⟩
      ·cases hv
     ·rename_i e;cases e
     ·cases hv
    refine fin hkn λX G7=>?_
    rw[k2]
    cases p with
    | none=>rfl
    | some p =>
     refine uj λhl=>?_
     have k9:=k9.resolve_right (λh=>hl h.2.1)
     obtain⟨j,k1,k10⟩:=k9
     rw[g.Jb _ hlt]at k1
     have k10:=k10.resolve_right (λh=>hl h.1)
     have T_:p.1=j:=by
      have:=k10.1
      simp only[au]at this
      rw[this]
     have hj:=(g.low _ _ k1).2
     rw[T_]
     refine(mh (by omega)).trans ?_
     rcases G7 with rfl |⟨k,hk,hM⟩
     ·rfl
     ·obtain⟨jY,w',_⟩:=g.hist k X hM
      refine(w'.same b j hlt hact k1 ?_).symm
      have:hs.drop k=(hs.drop lo).drop (k-lo):=by rw[List.drop_drop];congr 1;omega
      rw[this]
      have mono:∀(r:List (List Nat×WH)) (n:Nat),touches b r=false→touches b (r.drop n)=false:=by
       intro r
       induction r with
       | nil=>intro n _;simp[touches]
       | cons u r ih =>
        intro n h
        cases n with
        | zero=>exact h
        | succ n=>exact ih n (fH.1 h).2
      exact mono _ _ hto
   | _=>simp at hok
 | jP x =>
  cases x with
  | c w=>simp[AU]at hok
  | t t =>
   simp only[AU]at hok
   simp only[j6.sub,AX.sub,aL,AX.ev]at fin h1 ⊢
   have e0:=g.env t
   generalize hX:look l t=X at *
   cases X with
   | map p =>
    cases p with
    | none=>simp at hok
    | some q =>
     simp only at hok
     split at hok
     case h_2=>cases hok
     rename_i hkn hlt hto
     have hlt:q<base:=by simpa[Nat.blt_eq]using hlt
     simp only[VL]at e0
     obtain⟨j,k1,k2⟩:=e0
     rw[g.Jb _ hlt]at k1
     have hj:=(g.low _ _ k1).2
     have hact:act ι H q:=by
      simp only[j6.sub,AX.sub,wL,AX.ev,hX]at hv
      split at hv
      ·rename_i hg
       exact .inl ⟨_,hg⟩
      ·cases hv
     refine fin hkn λX G7=>?_
     rw[k2]
     have hget:(X.hide bK nk).get j=M.get j:=by
      refine(mh (by omega)).trans ?_
      rcases G7 with rfl |⟨k,hk,hM⟩
      ·rfl
      ·obtain⟨jY,w,_⟩:=g.hist k X hM
       refine(w.same q j hlt hact k1 ?_).symm
       have:hs.drop k=(hs.drop lo).drop (k-lo):=by rw[List.drop_drop];congr 1;omega
       rw[this]
       have mono:∀(r:List (List Nat×WH)) (n:Nat),touches q r=false→touches q (r.drop n)=false:=by
        intro r
        induction r with
        | nil=>intro n _;simp[touches]
        | cons u r ih =>
         intro n h
         cases n with
         | zero=>exact h
         | succ n=>exact ih n (fH.1 h).2
       exact mono _ _ hto
     simp only[iT,hget]
   | _=>simp at hok
 | lookup kd ok z x w2 =>
  cases x with
  | c w=>simp[AU]at hok
  | t t =>
   simp only[AU]at hok
   simp only[j6.sub,AX.sub,aL,AX.ev]at fin h1 ⊢
   have e0:=g.env t
   generalize hX:look l t=X at *
   cases X with
   | map p =>
    cases p with
    | none=>simp at hok
    | some q =>
     simp only at hok
     split at hok
     case h_2=>cases hok
     rename_i hkn hlt hto
     have hlt:q<base:=by simpa[Nat.blt_eq]using hlt
     simp only[VL]at e0
     obtain⟨j,k1,k2⟩:=e0
     rw[g.Jb _ hlt]at k1
     have hj:=(g.low _ _ k1).2
     have hact:act ι H q:=by
      simp only[j6.sub,AX.sub,wL,AX.ev,hX]at hv
      split at hv
      ·rename_i hg _
       exact .inl ⟨_,hg⟩
      ·cases hv
     refine fin hkn λX G7=>?_
     rw[k2]
     have hget:(X.hide bK nk).get j=M.get j:=by
      refine(mh (by omega)).trans ?_
      rcases G7 with rfl |⟨k,hk,hM⟩
      ·rfl
      ·obtain⟨jY,w,_⟩:=g.hist k X hM
       refine(w.same q j hlt hact k1 ?_).symm
       have:hs.drop k=(hs.drop lo).drop (k-lo):=by rw[List.drop_drop];congr 1;omega
       rw[this]
       have mono:∀(r:List (List Nat×WH)) (n:Nat),touches q r=false→touches q (r.drop n)=false:=by
        intro r
        induction r with
        | nil=>intro n _;simp[touches]
        | cons u r ih =>
         intro n h
         cases n with
         | zero=>exact h
         | succ n=>exact ih n (fH.1 h).2
       exact mono _ _ hto
     simp only[u_,iT,hget]
   | _=>simp at hok
theorem uO{o:j6}{x:Option AV}{k:TS→Prop}:∀ {hs:List (List Nat×WH)} {tr:TS},vK o x k hs tr→∃dZ,(∀(i:Nat) (t:List Nat) (Hk:WH),hs[i]?=some (t,Hk)→wL o Hk=x)∧k dZ
 | [],tr,h=>⟨tr,λi t Hk e=>by simp at e,h⟩
 | p::r,tr,h=>by
  simp only[vK]at h
  obtain⟨_,h1,h2⟩:=dY h
  obtain⟨dZ,q1,q2⟩:=uO h2
  refine⟨dZ,λi t Hk e=>?_,q2⟩
  cases i with
  | zero=>simp only[List.getElem?_cons_zero,au]at e;rw[e]at h1;exact h1
  | succ i=>exact q1 i t Hk (by simpa using e)
theorem F7 (g:DI R base bK nk iQ M0 ι H M l lA bt al hs dS) {o:j6} (hc:o.bN=true) {v u:AV} (hv:wL (o.sub (look l)) H=some v) (hu:∀(M:Heap) (O:Nat→Prop) (κ:VI) (a:AV),VL M O κ v a→VL M O κ u a) {lo:Nat} (hok:rZ base l bt lo o u=true)
  (hl:∀(i:Nat) (t:List Nat) (Hk:WH),(hs.drop lo)[i]?=some (t,Hk)→wL (o.sub (look l)) Hk=wL (o.sub (look l)) H) :
  ∃a,aL (o.sub (look lA)) [] (M.hide bK nk)=some a∧VL M (OR R ι) ι u a∧∀k Mk,lo≤k→dS[k]?=some Mk→∃w,aL (o.sub (look lA)) [] (Mk.hide bK nk)=some w∧AV.same w a=true:=by
 obtain⟨a,h1,h2⟩:=BS g.vs g.env hc hv
 have h3:=hu _ _ _ _ h2
 have Ua:∀ {M':Heap} {O:Nat→Prop} {κ:VI} {w:AV},rZ base l bt lo o u=true→VL M' O κ u w→w=a:=by
  intro M' O κ w hb hw
  unfold rZ at hb
  split at hb
  case h_2=>cases hb
  split at hb
  ·simp only[VL]at hw h3;rw[hw,h3]
  ·simp only[VL]at hw h3;rw[hw,h3]
  ·simp only[VL]at hw h3;rw[hw,h3]
  ·cases hb
 have hkn:known u=true:=by
  unfold rZ at hok
  split at hok
  case h_2=>cases hok
  split at hok
  ·rfl
  ·rfl
  ·rfl
  ·cases hok
 cases o with
 | load ag n x =>
  cases x with
  | c w=>simp[rZ]at hok
  | t t =>
   have hp:∃b off,look l t=.ptr (some (b,off))∧b<base∧iw bt t≤lo+1:=by
    simp only[rZ]at hok
    split at hok
    ·rename_i b off _ _ hX
     simp only[Bool.and_eq_true,Nat.blt_eq]at hok
     exact⟨b,off,hX,hok.1,Nat.le_of_ble_eq_true hok.2⟩
    ·rename_i b off _ hX
     simp only[Bool.and_eq_true,Nat.blt_eq]at hok
     exact⟨b,off,hX,hok.1,Nat.le_of_ble_eq_true hok.2⟩
    ·rename_i b off _ hX
     simp only[Bool.and_eq_true,Nat.blt_eq]at hok
     exact⟨b,off,hX,hok.1,Nat.le_of_ble_eq_true hok.2⟩
    ·cases hok
   obtain⟨b,off,hX,hlt,hbt⟩:=hp
   have e0:=g.env t
   rw[hX]at e0
   simp only[VL]at e0
   obtain⟨j,k1,k2⟩:=e0
   rw[g.Jb _ hlt]at k1
   have hj:=(g.low _ _ k1).2
   have hide:∀X:Heap,aL (j6.sub (look lA) (.load ag n (.t t))) [] (X.hide bK nk)=aL (j6.sub (look lA) (.load ag n (.t t))) [] X:=by
    intro X
    simp only[j6.sub,AX.sub,aL,AX.ev]
    rw[k2]
    exact tq (mh (by omega))
   refine⟨a,(hide M).trans h1,h3,λk Mk hk hM=>?_⟩
   obtain⟨jY,w,tk,Hk,w2,w3⟩:=g.hist k Mk hM
   have hce:∀s,VL Mk (OR R jY) jY (tK bt (k+1) (look l) s) (look lA s):=λs=>by
    unfold tK
    split
    ·rename_i hb;exact w.env s hb
    ·simp[VL]
   have hsub:j6.sub (tK bt (k+1) (look l)) (.load ag n (.t t))=j6.sub (look l) (.load ag n (.t t)):=by
    simp only[j6.sub,AX.sub,tK]
    rw[if_pos (by omega)]
   have hv':wL (j6.sub (tK bt (k+1) (look l)) (.load ag n (.t t))) Hk=some v:=by
    rw[hsub,hl (k-lo) tk Hk (by rw[List.getElem?_drop,show lo+(k-lo)=k by omega];exact w2)]
    exact hv
   obtain⟨w',q1,q2⟩:=BS w3 hce hc hv'
   have:=Ua hok (hu _ _ _ _ q2)
   subst this
   exact⟨w',(hide Mk).trans q1,VL.mg u w' hkn h3⟩
 | _=>simp[rZ]at hok
theorem F8 (g:DI R base bK nk iQ M0 ι H M l lA bt al hs dS) {o:j6} (hc:o.bN=true) {v u a:AV} (hv:wL (o.sub (look l)) H=some v) (hu:∀(M:Heap) (O:Nat→Prop) (κ:VI) (a:AV),VL M O κ v a→VL M O κ u a) {lo b:Nat} (hok:zP base al l bt lo o u H hs=true)
  (hb:JW l o=some b) (hbt:Nat.ble (rX bt o) (lo+1)=true) (ha:aL (o.sub (look lA)) [] (M.hide bK nk)=some a)
  (hl:∀(i:Nat) (t:List Nat) (Hk:WH),(hs.drop lo)[i]?=some (t,Hk)→wL (o.sub (look l)) Hk=wL (o.sub (look l)) H) :
  ∀k Mk jY t Hk,dS[k]?=some Mk→HK R base bK nk k iQ ι H M l lA bt hs Mk jY→hs[k]?=some (t,Hk)→VS R jY Hk Mk→lo+1≤k+1→VL Mk (OR R jY) jY u a:=by
 intro k Mk jY tk Hk hM w w2 w3 hk
 cases o with
 | load ag n x =>
  cases x with
  | c w=>simp[JW]at hb
  | t t =>
   simp only[rX,gY]at hbt
   have hbt:=Nat.le_of_ble_eq_true hbt
   unfold zP at hok
   simp only[AU,rX,gY]at hok
   simp only[JW]at hb
   have e0:=g.env t
   have hX0:∃q,look l t=.ptr (some q):=by
    split at hb
    ·rename_i q h;exact⟨q,h⟩
    ·cases hb
   obtain⟨q,hX⟩:=hX0
   rw[hX]at hok e0
   simp only at hok
   split at hok
   case h_2=>cases hok
   rename_i hkn hlt hto
   have hlt:q.1<base:=by simpa[Nat.blt_eq]using hlt
   simp only[VL]at e0
   obtain⟨j,k1,k2⟩:=e0
   rw[g.Jb _ hlt]at k1
   have hj:=(g.low _ _ k1).2
   have hact:act ι H q.1:=by
    simp only[j6.sub,AX.sub,wL,AX.ev,hX]at hv
    split at hv
    ·cases hv
    split at hv
    ·rename_i hg
     exact .inl ⟨_,hg⟩
    ·cases hv
   have hsame:M.get j=Mk.get j:=by
    refine w.same q.1 j hlt hact k1 ?_
    have:hs.drop k=(hs.drop lo).drop (k-lo):=by rw[List.drop_drop];congr 1;omega
    rw[this]
    have mono:∀(r:List (List Nat×WH)) (n:Nat),touches q.1 r=false→touches q.1 (r.drop n)=false:=by
     intro r
     induction r with
     | nil=>intro n _;simp[touches]
     | cons u r ih =>
      intro n h
      cases n with
      | zero=>exact h
      | succ n=>exact ih n (fH.1 h).2
    exact mono _ _ hto
   have Ub:aL (j6.sub (look lA) (.load ag n (.t t))) [] Mk=aL (j6.sub (look lA) (.load ag n (.t t))) [] (M.hide bK nk):=by
    simp only[j6.sub,AX.sub,aL,AX.ev]
    rw[k2]
    exact tq (hsame.symm.trans (mh (by omega)).symm)
   have hce:∀s,VL Mk (OR R jY) jY (tK bt (k+1) (look l) s) (look lA s):=λs=>by
    unfold tK
    split
    ·rename_i hb;exact w.env s hb
    ·simp[VL]
   have hsub:j6.sub (tK bt (k+1) (look l)) (.load ag n (.t t))=j6.sub (look l) (.load ag n (.t t)):=by
    simp only[j6.sub,AX.sub,tK]
    rw[if_pos (by omega)]
   have hv':wL (j6.sub (tK bt (k+1) (look l)) (.load ag n (.t t))) Hk=some v:=by
    rw[hsub,hl (k-lo) tk Hk (by rw[List.getElem?_drop,show lo+(k-lo)=k by omega];exact w2)]
    exact hv
   obtain⟨w',q1,q2⟩:=BS w3 hce hc hv'
   rw[Ub,ha]at q1
   obtain rfl:=ak q1
   exact hu _ _ _ _ q2
 | _=>simp[JW]at hb
end
theorem F9{a b:Nat}{l:List Nat}:iP (a::l) b=false↔a≠b∧iP l b=false:=by
 simp only[iP]
 cases h:Nat.beq a b with
 | true=>simp[aR h]
 | false =>
  have:a≠b:=λe=>by subst e;simp at h
  simp[this]
theorem kL {C:aW} {B:FuncId→Option Bt} (hB:∀f b,B f=some b→FC C f b) {R:Nat→Prop} {n base bK nk:Nat} {iQ:VI} {M0:Heap}:∀(ops:List bW) (l lA:Fast) (H:WH) (M:Heap) (ι:VI) (tr:TS) (hs:List (List Nat×WH)) (bt:List (Nat×Nat)) (al:List Nat) (dS:List Heap) (k:Fast→WH→TS→Prop),
  DI R base bK nk iQ M0 ι H M l lA bt al hs dS→(ops.all λd=>d.o.op.bN)=true→qx C B n base nk ops l H tr hs bt al k →
  ∃jH M' aV l' H' dZ t,lu C n bK nk ops lA M dS=some (jH,M')∧VS R aV H' M'∧Stp base t ι H M aV H' M'∧jS R aV M' l' jH∧k l' H' dZ
 | [],l,lA,H,M,ι,tr,hs,bt,al,dS,k,g,hc,h=>⟨lA,M,ι,l,H,tr,[],rfl,g.vs,.refl _ _ _ _ _ (by have:=g.len;omega),g.env,h⟩
 | d::r,l,lA,H,M,ι,tr,hs,bt,al,dS,k,g,hc,h=>by
  simp only[List.all_cons,Bool.and_eq_true]at hc
  simp only[qx]at h
  obtain⟨UM,Uc,Kh,h⟩:=kK h
  have g:=g.like Kh
  obtain⟨l0,tr1,hl,h⟩:=F6 h
  have g1:=g.like hl
  have hbl:base≤H.length:=by have:=g.len;omega
  rcases h with⟨hw,h⟩ |⟨hw,h⟩
  ·obtain⟨l1,Ud,hl1,h⟩:=kK h
   have g1:=g1.like hl1
   have he1:=g1.env
   simp only[lu,pI g.env hw]
   cases ho:d.o.op with
   | p op =>
    rw[ho]at h hc
    simp only at h
    obtain⟨v,u,tr2,h1,h2,h3⟩:=Da (R:=R) h
    obtain⟨a,h4,h5⟩:=JZ he1 hc.1 h1
    have cut:∀(X:Heap) (O:Nat→Prop) (κ:VI) (q:Nat),q<hs.length+1→(∀t,iw bt t≤q→VL X O κ (look l1 t) (look lA t))→Ep bt (hs.length+1) op≤q→VL X O κ u a:=λX O κ q hq he hb=>by
     have hce:∀t,VL X O κ (tK bt q (look l1) t) (look lA t):=λt=>by
      unfold tK
      split
      ·rename_i hb;exact he t hb
      ·simp[VL]
     obtain⟨a',e1,e2⟩:=JZ hce hc.1 (by rw[IJ hq hb];exact h1)
     rw[h4]at e1
     obtain rfl:=ak e1
     exact h3 _ _ _ _ e2
    obtain⟨jH,M',aV,l',H',dZ,t,q1,q2⟩:=kL hB r _ _ H M ι tr2 hs _ al dS k (g1.put n d.o.dst (Ep bt (hs.length+1) op) (h3 _ _ _ _ h5) (λhb=>cut M0 _ iQ 0 (by omega) (λt ht=>g1.start t (by omega)) (by omega)) (λq Mk jY hq w hb=>cut Mk _ jY (q+1) (by omega) w.env hb)) hc.2 h2
    refine⟨jH,M',aV,l',H',dZ,t, ?_,q2⟩
    simp only[h4,force_eq]
    exact q1
   | l op =>
    rw[ho]at h hc
    simp only at h
    obtain⟨v,u,tr2,h1,h2,h3⟩:=Da (R:=R) h
    have h2:∃tr2 b,(∃a,aL (op.sub (look lA)) [] (M.hide bK nk)=some a∧DI R base bK nk iQ M0 ι H M (fO n d.o.dst u l1) (fO n d.o.dst a lA) (gJ n d.o.dst b bt) al hs dS∧∀k Mk,d.lo≤k→dS[k]?=some Mk→∃w,aL (op.sub (look lA)) [] (Mk.hide bK nk)=some w∧AV.same w a=true)∧qx C B n base nk r (fO n d.o.dst u l1) H tr2 hs (gJ n d.o.dst b bt) al k:=by
     split at h2
     ·rename_i hok
      obtain⟨a,p1,p2,p3⟩:=MZ g1 hc.1 h1 h3 hok
      split at h2
      ·split at h2
       case h_2=>exact h2.elim
       rename_i hb hbt
       obtain⟨RZ,m1,m2⟩:=uO h2
       exact⟨RZ,d.lo+1,⟨a,p1,g1.RY n d.o.dst (d.lo+1) p2 (λe=>by omega) (F8 g1 hc.1 h1 h3 hok hb hbt p1 m1),p3⟩,m2⟩
      ·exact⟨_,hs.length+1,⟨a,p1,g1.now n d.o.dst p2,p3⟩,h2⟩
     ·split at h2
      case h_2=>exact h2.elim
      rename_i hok
      obtain⟨RZ,p1,p2⟩:=uO h2
      obtain⟨a,m1,m2,m3⟩:=F7 g1 hc.1 h1 h3 hok p1
      exact⟨RZ,hs.length+1,⟨a,m1,g1.now n d.o.dst m2,m3⟩,p2⟩
    obtain⟨tr2,bb,⟨a,q1,q2,q3⟩,h2⟩:=h2
    obtain⟨jH,M',aV,l',H',dZ,t,q4,q5⟩:=kL hB r _ _ H M ι tr2 hs _ al dS k q2 hc.2 h2
    refine⟨jH,M',aV,l',H',dZ,t, ?_,q5⟩
    simp only[q1]
    rw[if_pos]
    ·simp only[force_eq]
     exact q4
    ·rw[List.all_eq_true]
     intro Mk Ue
     obtain⟨i,hi⟩:=List.mem_iff_getElem?.1 Ue
     rw[List.getElem?_drop]at hi
     obtain⟨w,w1,w2⟩:=q3 (d.lo+i) Mk (by omega) hi
     rw[w1]
     exact w2
   | k op =>
    rw[ho]at h hc
    simp only at h
    split at h
    case h_2=>exact h.elim
    rename_i hix hal
    have hix:d.ix<nk:=by simpa[Nat.blt_eq]using hix
    obtain⟨c,sl,mk,c',sl',Ry,tr2,h1,h2,h3,hss,h4⟩:=OP g1.vs he1 hc.1 h
    obtain⟨f1,f2,f3⟩:=g1.free d.ix hix hal
    have hnew:=g1.new d.ix hix
    obtain⟨s1,k1,k2,k3⟩:=g1.vs.fill hnew f1 f2 f3 (BL.of (sl':=sl') h3 hss)
    have hne:∀i,i<base→i≠base+d.ix:=λi hi=>by omega
    have gp:∀i,i≠base+d.ix→bD (dH H (base+d.ix) (some (.cells c false sl))) i=bD H i:=λi hi=>by
     rw[iF,if_neg (λe=>hi e.1)]
    have ac:∀i,i≠base+d.ix→act (ι.fill (base+d.ix) (c.length,c'.length)) (dH H (base+d.ix) (some (.cells c false sl))) i→act ι H i:=λi hi ha=>ha.imp (λ⟨x,hx⟩=>⟨x,by rw[gp i hi]at hx;exact hx⟩) id
    have Uf:Stp base [] ι H M (ι.fill (base+d.ix) (c.length,c'.length)) (dH H (base+d.ix) (some (.cells c false sl))) (M.put (bK+d.ix) (some (.cells c' false sl'))) :=
     ⟨k1,k2 _,λ_ _ h=>h,λ_ _=>rfl,λi hi=>by simp only[VI.fill,bf _ _ (hne i hi)],λ_ _ _=>rfl,λi hi ⟨x,hx⟩=>⟨x,by rw[gp i (hne i hi)]at hx;exact hx⟩,λi j hi ha hj _=>k3 i j (hne i hi) (ac i (hne i hi) ha) hj,by rw[bQ];exact hbl⟩
    have hval:=h4 (M.put (bK+d.ix) (some (.cells c' false sl'))) (OR R (ι.fill (base+d.ix) (c.length,c'.length))) (ι.fill (base+d.ix) (c.length,c'.length)) (base+d.ix) (bK+d.ix) hnew (by simp[VI.fill,setAt])
    have g2:DI R base bK nk iQ M0 (ι.fill (base+d.ix) (c.length,c'.length)) (dH H (base+d.ix) (some (.cells c false sl))) (M.put (bK+d.ix) (some (.cells c' false sl'))) l1 lA bt (d.ix::al) hs dS :=
     ⟨s1,by rw[bQ];exact g1.len,λt=>VL.mono (k1.or R) _ _ _ _ (k2 _) (he1 t),g1.new,λi hi ha=>by
      obtain⟨a1,a2⟩:=F9.1 ha
      obtain⟨b1,b2,b3⟩:=g1.free i hi a2
      have hn:base+i≠base+d.ix:=by omega
      exact⟨b1,by simp only[VI.fill,bf _ _ hn];exact b2,by rw[gp _ hn];exact b3⟩,g1.start,g1.low,g1.PO.trans (k2 _),g1.Jb,g1.m0,g1.hlen,λq Mk hq=>by
      obtain⟨jY,w,w2⟩:=g1.hist q Mk hq
      exact⟨jY,⟨w.keep.trans k1,w.env,w.new,w.gone,λi j hi ha hj ht=>by
       have ha':=ac i (hne i hi) ha
       exact(k3 i j (hne i hi) ha' (by rw[g1.Jb i hi];exact hj)).trans (w.same i j hi ha' hj ht)⟩,w2⟩⟩
    obtain⟨jH,M',aV,l',H',dZ,t,q1,q2,q3,q4⟩:=kL hB r _ _ _ _ _ tr2 hs _ (d.ix::al) dS k (g2.now n d.o.dst hval) hc.2 h1
    refine⟨jH,M',aV,l',H',dZ,t, ?_,q2, ?_,q4⟩
    ·simp only[h2]
     exact q1
    ·have:=Uf.trans q3 (Nat.le_refl _)
     simpa using this
   | n op =>
    rw[ho]at h hc
    simp only at h
    obtain⟨a,M1,fU,v,H1,t1,tr2,h1,h2,h3,h4,h5⟩:=OQ hB g1.vs he1 hc.1 h
    have g2:=(g1.loud h2 h3).now n d.o.dst h4
    rw[aG,List.length_singleton]at g2
    obtain⟨jH,M',aV,l',H',dZ,t,q1,q2,q3,q4⟩:=kL hB r _ _ _ _ _ tr2 _ _ al _ k g2 hc.2 h5
    refine⟨jH,M',aV,l',H',dZ,t1++t, ?_,q2,(h3.weak hbl).trans q3 (Nat.le_refl _),q4⟩
    simp only[h1,force_eq]
    exact q1
  ·simp only[lu,pI g.env hw]
   cases ho:d.o.op with
   | n op =>
    rw[ho]at h
    simp only at h
    have g2:=(g1.loud (t:=[]) g1.vs (.refl _ _ _ _ _ (Nat.le_refl _))).now n d.o.dst (v:=.tuple []) (a:=.tuple []) VL.unit
    rw[aG,List.length_singleton]at g2
    exact kL hB r _ _ H M ι tr1 _ _ al _ k g2 hc.2 h
   | p op=>rw[ho]at h;exact kL hB r _ _ H M ι tr1 _ _ al _ k (g1.now n d.o.dst VL.unit) hc.2 h
   | l op=>rw[ho]at h;exact kL hB r _ _ H M ι tr1 _ _ al _ k (g1.now n d.o.dst VL.unit) hc.2 h
   | k op=>rw[ho]at h;exact kL hB r _ _ H M ι tr1 _ _ al _ k (g1.now n d.o.dst VL.unit) hc.2 h
theorem Ki {C:aW} {B:FuncId→Option Bt} (hB:∀f b,B f=some b→FC C f b) {R:Nat→Prop} {n nk:Nat} {ops:List bW} {l lA:Fast} {H:WH} {M:Heap} {ι:VI} {tr:TS} {k:Fast→WH→TS→Prop} (s:VS R ι H M) (he:jS R ι M l lA) (hc:(ops.all λd=>d.o.op.bN)=true)
  (h:qx C B n H.length nk ops l (H++holes nk) tr [] [] [] k):∃jH M' aV l' H' dZ t,lu C n M.next nk ops lA { M with next:=M.next+nk } []=some (jH,M')∧VS R aV H' M'∧Stp H.length t ι H M aV H' M'∧jS R aV M' l' jH∧k l' H' dZ:=by
 obtain⟨s1,k1⟩:=s.room nk
 have inr:∀i,i<nk→H.length≤H.length+i∧H.length+i<H.length+nk:=λi hi=>by omega
 have g:DI R H.length M.next nk ι M (ι.room H.length M.next nk) (H++holes nk) { M with next:=M.next+nk } l lA [] [] [] [] :=
  ⟨s1,by simp[sZ],he.step s k1,λi hi=>by simp only[VI.room,if_pos (inr i hi)];congr 1;omega,λi hi _=>⟨by simp only[VI.room,if_pos (inr i hi)],by simp only[VI.room,if_pos (inr i hi)],by rw[vM,if_neg (by omega),xJ]⟩,
   λt _=>he t,λi j h=>s.lt i j h,k1.le,k1.OE,rfl,rfl,λk Mk h=>by simp at h⟩
 obtain⟨jH,M',aV,l',H',dZ,t,q1,q2,q3,q4⟩:=kL hB ops l lA _ _ _ tr [] [] [] [] k g hc h
 refine⟨jH,M',aV,l',H',dZ,[]++t,q1,q2,k1.trans q3 (Nat.le_refl _),q4⟩
theorem zi{M:Heap}{O:Nat→Prop}{κ:VI}{lA:Fast}:∀(keep:List Nat) (vs:List AV),aZ M O κ vs (keep.map (look lA))→∀t,VL M O κ (look (gI keep vs) t) (look lA t)∧VL M O κ (look (gI keep vs) t) (look (pz lA keep) t)
 | [],vs,h,t=>by
  cases vs with
  | nil=>simp[gI,look,VL]
  | cons _ _=>simp[aZ]at h
 | u::keep,vs,h,t=>by
  cases vs with
  | nil=>simp[aZ]at h
  | cons v vs =>
   simp only[List.map_cons,aZ]at h
   have ih:=zi keep vs h.2 t
   simp only[gI,pz,jT]
   split
   ·rename_i e
    subst e
    exact⟨h.1,h.1⟩
   ·exact ih
theorem jS.map{R:Nat→Prop}{ι:VI}{M:Heap}{l lA:Fast}(he:jS R ι M l lA):∀keep:List Nat,aZ M (OR R ι) ι (keep.map (look l)) (keep.map (look lA))
 | []=>by simp[aZ]
 | t::r=>by simp only[List.map_cons,aZ];exact⟨he t,jS.map he r⟩
def qZ(R:Nat→Prop)(np:Nat)(ι:VI)(H:WH)(M:Heap)(x:yN)(k:Ex→Fast→WH→TS→Prop):Prop :=
 ∃ex jH M' aV l' H' dZ,x=some (ex,jH,M')∧VS R aV H' M'∧Stp np (List.range np) ι H M aV H' M'∧jS R aV M' l' jH∧k ex l' H' dZ
theorem iA{n:Nat}{t:List Nat}{ι fU:VI}{H H1:WH}{M M1:Heap}(h:Stp n t ι H M fU H1 M1):Stp n (List.range n) ι H M fU H1 M1:=h.more λi hi _=>List.mem_range.2 hi
theorem qZ.after{R:Nat→Prop}{np:Nat}{ι fU:VI}{H H1:WH}{M M1:Heap}{x:yN}{k:Ex→Fast→WH→TS→Prop}{t:List Nat}(h:Stp np t ι H M fU H1 M1)(g:qZ R np fU H1 M1 x k):qZ R np ι H M x k:=by
 obtain⟨ex,jH,M',aV,l',H',dZ,q1,q2,q3,q4⟩:=g
 exact⟨ex,jH,M',aV,l',H',dZ,q1,q2,iA (h.trans q3 (Nat.le_refl _)),q4⟩
theorem Kj(H:WH)(b:Nat):∀i x,bD (dH H b none) i=some x→bD H i=some x:=λi x h=>by
 rw[iF]at h
 split at h
 ·cases h
 ·exact h
theorem Hw{R:Nat→Prop}{M:Heap}{ι:VI}:∀(bs:List Nat) {H:WH} (n:Nat),n≤H.length→VS R ι H M→VS R ι (El H bs) M∧Stp n [] ι H M ι (El H bs) M∧(El H bs).length=H.length
 | [],H,n,hn,s=>⟨s,.refl _ _ _ _ _ hn,rfl⟩
 | b::r,H,n,hn,s=>by
  have g:=Kj H b
  have ac:∀i,act ι (dH H b none) i→act ι H i:=λi h=>h.imp (λ⟨x,hx⟩=>⟨x,g i x hx⟩) id
  have hl:(dH H b none).length=H.length:=bQ _ _ _
  have s1:VS R ι (dH H b none) M:=⟨λi j h=>by rw[hl];exact s.lt i j h,λi i' j h h'=>s.inj i i' j (ac i h) (ac i' h'),λi x h=>s.blk i x (g i x h),λi h=>by rw[hl];exact s.kF i h,λi h c sl e=>s.jm i h c sl (g i _ e),s.Em,λj h=>⟨(s.res j h).1,λi ha=>(s.res j h).2 i (ac i ha)⟩⟩
  have k1:Stp n [] ι H M ι (dH H b none) M:=⟨⟨Nat.le_refl _,λ_ _ h=>⟨rfl,h⟩⟩,.refl _ _,λ_ _ h=>h,λ_ _=>rfl,λ_ _=>rfl,λ_ _ _=>rfl,λi _ ⟨x,hx⟩=>⟨x,g i x hx⟩,λ_ _ _ _ _ _=>rfl,by rw[hl];exact hn⟩
  obtain⟨s2,k2,h2⟩:=Hw r (H:=dH H b none) n (by rw[hl];exact hn) s1
  refine⟨s2, ?_,h2.trans hl⟩
  exact k1.trans k2 (Nat.le_refl _)
theorem Hy{R:Nat→Prop}{M:Heap}{ι:VI}{H:WH}(tr:TS){n:Nat}(hn:n≤H.length)(s:VS R ι H M):VS R ι (MK tr H) M∧Stp n [] ι H M ι (MK tr H) M∧(MK tr H).length=H.length:=by
 unfold MK
 split
 ·exact Hw _ n hn s
 ·exact⟨s,.refl _ _ _ _ _ hn,rfl⟩
set_option maxHeartbeats 2000000 in
theorem jJ {C:aW} {B:FuncId→Option Bt} (hB:∀f b,B f=some b→FC C f b) {K n np:Nat} {R:Nat→Prop}:∀(code:cZ) (l lA:Fast) (H:WH) (M:Heap) (ι:VI) (tr:TS) (k:Ex→Fast→WH→TS→Prop),code.bN=true→VS R ι H M→np≤H.length→jS R ι M l lA →
  ng C B K n np code l H tr k→qZ R np ι H M (bP C K n code lA M) k
 |.skip,l,lA,H,M,ι,tr,k,_,s,hn,he,h=>⟨.normal,lA,M,ι,l,H,tr,rfl,s,.refl _ _ _ _ _ hn,he,h⟩
 |.reg ops,l,lA,H,M,ι,tr,k,hc,s,hn,he,h=>by
  obtain⟨jH,M',aV,l',H',dZ,t,q1,q2,q3,q4,q5⟩:=qL hB ops l lA H M ι tr _ s he hc h
  exact⟨.normal,jH,M',aV,l',H',dZ,by simp only[bP,q1,aJ],q2,iA (q3.weak hn),q4,q5⟩
 |.yJ nk ops,l,lA,H,M,ι,tr,k,hc,s,hn,he,h=>by
  obtain⟨jH,M',aV,l',H',dZ,t,q1,q2,q3,q4,q5⟩:=Ki hB s he hc h
  exact⟨.normal,jH,M',aV,l',H',dZ,by simp only[bP,q1,aJ],q2,iA (q3.weak hn),q4,q5⟩
 |.seq a b,l,lA,H,M,ι,tr,k,hc,s,hn,he,h=>by
  simp only[cZ.bN,Bool.and_eq_true]at hc
  simp only[ng]at h
  obtain⟨l0,tr,Kh,h⟩:=kK h
  have he:jS R ι M l0 lA:=λt=>by rw[Kh t];exact he t
  split at h
  ·split at h
   case h_2=>exact h.elim
   rename_i keep ms bs ts ex outs out r0 _
   obtain⟨s0,k0,hl0⟩:=Hy tr hn s
   obtain⟨vs,blks,fU,hk,s1,k1,hv⟩:=xG s0 (by rw[hl0];exact hn) (he.map keep) h
   obtain⟨r,hrun,hk⟩:=dY hk
   obtain⟨jH,M',aV,q1,q2,q3,q4⟩:=hrun R fU M lA s1 (λt=>(zi keep vs hv t).1)
   refine qZ.after (iA k0) (qZ.after k1 (qZ.after q3 ?_))
   simp only[bP,q1]
   cases ex with
   | normal=>exact jJ hB b outs jH out M' aV r k hc.2 q2 q3.next q4 hk
   | exit i=>exact⟨_,jH,M',aV,outs,out,r,rfl,q2,.refl _ _ _ _ _ q3.next,q4,hk⟩
   | ret=>exact⟨_,jH,M',aV,outs,out,r,rfl,q2,.refl _ _ _ _ _ q3.next,q4,hk⟩
  ·obtain⟨ex,jH,M',aV,l',H',dZ,q1,q2,q3,q4,q5⟩:=jJ hB a l0 lA H M ι _ _ hc.1 s hn he h
   refine qZ.after q3 ?_
   simp only[bP,q1]
   cases ex with
   | normal=>exact jJ hB b l' jH H' M' aV dZ k hc.2 q2 q3.next q4 q5
   | exit i=>exact⟨_,jH,M',aV,l',H',dZ,rfl,q2,.refl _ _ _ _ _ q3.next,q4,q5⟩
   | ret=>exact⟨_,jH,M',aV,l',H',dZ,rfl,q2,.refl _ _ _ _ _ q3.next,q4,q5⟩
 |.cond c a b,l,lA,H,M,ι,tr,k,hc,s,hn,he,h=>by
  simp only[cZ.bN,Bool.and_eq_true]at hc
  simp only[ng]at h
  obtain⟨l0,T9,hl0,h⟩:=kK h
  have he:jS R ι M l0 lA:=λt=>by rw[hl0 t];exact he t
  obtain⟨l',dZ,hl,h⟩:=F6 h
  have he':jS R ι M l' lA:=λt=>by rw[hl t];exact he t
  cases c with
  | c v =>
   simp only[dP]at h
   have h:=(h.resolve_right (λh=>by cases h.1)).2
   simp only[bP,AX.sub,AX.ev]
   cases v with
   | bool w =>
    cases w with
    | true=>exact jJ hB a l' lA H M ι dZ k hc.1.2 s hn he' h
    | false=>exact jJ hB b l' lA H M ι dZ k hc.2 s hn he' h
   | _=>exact h.elim
  | t t =>
   simp only[bP,AX.sub,AX.ev]
   have ht:=he t
   generalize l0=l at *
   simp only[dP]at h
   rcases h with⟨h1,h2⟩ |⟨h1,h2⟩
   ·generalize look l t=X at *
    cases X<;>simp only at h1<;>first |(cases h1;done) | skip
    rename_i w
    simp only[au,beq_iff_eq]at h1
    subst h1
    rw[ht.eq rfl]
    exact jJ hB a l' lA H M ι dZ k hc.1.2 s hn he' h2
   ·rw[hl t]at h2
    generalize look l t=X at *
    cases X<;>simp only at h1 h2<;>first |(cases h1;done) | exact h2.elim | skip
    rename_i w
    simp only[au,beq_eq_false_iff_ne]at h1
    have:w=false:=by cases w<;>simp_all
    subst this
    rw[ht.eq rfl]
    exact jJ hB b l' lA H M ι dZ k hc.2 s hn he' h2
 |.block id c,l,lA,H,M,ι,tr,k,hc,s,hn,he,h=>by
  simp only[cZ.bN]at hc
  simp only[ng]at h
  obtain⟨ex,jH,M',aV,l',H',dZ,q1,q2,q3,q4,q5⟩:=jJ hB c l lA H M ι tr _ hc s hn he h
  refine qZ.after q3 ?_
  simp only[bP,q1]
  have re:=q3.next
  cases ex with
  | normal=>exact⟨_,jH,M',aV,l',H',dZ,rfl,q2,.refl _ _ _ _ _ re,q4,q5⟩
  | ret=>exact⟨_,jH,M',aV,l',H',dZ,rfl,q2,.refl _ _ _ _ _ re,q4,q5⟩
  | exit i =>
   cases e:Nat.beq i id with
   | true =>
    have q5:k .normal l' H' dZ:=by simpa only[e]using q5
    simp only
    rw[if_pos (aR e)]
    exact⟨_,jH,M',aV,l',H',dZ,rfl,q2,.refl _ _ _ _ _ re,q4,q5⟩
   | false =>
    have q5:k (.exit i) l' H' dZ:=by simpa only[e]using q5
    simp only
    rw[if_neg (λe'=>by subst e';simp at e)]
    exact⟨_,jH,M',aV,l',H',dZ,rfl,q2,.refl _ _ _ _ _ re,q4,q5⟩
 |.loop keep c,l,lA,H,M,ι,tr,k,hc,s,hn,he,h=>by
  simp only[ng]at h
  obtain⟨l0,tr,Kh,h⟩:=kK h
  have he:jS R ι M l0 lA:=λt=>by rw[Kh t];exact he t
  split at h
  case h_2=>exact h.elim
  rename_i ms bs ts ex outs out r0 _
  obtain⟨s0,k0,hl0⟩:=Hy tr hn s
  obtain⟨vs,blks,fU,hk,s1,k1,hv⟩:=xG s0 (by rw[hl0];exact hn) (he.map keep) h
  obtain⟨r,hrun,hk⟩:=dY hk
  obtain⟨jH,M',aV,q1,q2,q3,q4⟩:=hrun R fU M lA s1 (λt=>(zi keep vs hv t).1)
  refine qZ.after (iA k0) (qZ.after k1 (qZ.after q3 ?_))
  exact⟨ex,jH,M',aV,outs,out,r,by simp only[bP];exact q1,q2,.refl _ _ _ _ _ q3.next,q4,hk⟩
 |.exit i,l,lA,H,M,ι,tr,k,_,s,hn,he,h=>⟨.exit i,lA,M,ι,l,H,tr,rfl,s,.refl _ _ _ _ _ hn,he,h⟩
 |.ret,l,lA,H,M,ι,tr,k,_,s,hn,he,h=>⟨.ret,lA,M,ι,l,H,tr,rfl,s,.refl _ _ _ _ _ hn,he,h⟩
 |.fail,l,lA,H,M,ι,tr,k,_,s,hn,he,h=>by simp[ng]at h
theorem VL.IK{M:Heap}{O:Nat→Prop}{κ:VI}{v a:AV}(h:VL M O κ v a)(hv:v≠.undef):a≠.undef:=by
 cases v with
 | undef=>exact absurd rfl hv
 | ptr p=>cases p<;>simp only[VL]at h<;>first |(subst h;simp) |(obtain⟨_,_,rfl⟩:=h;simp)
 | slice p=>cases p<;>simp only[VL]at h;obtain⟨_,_,rfl⟩:=h;simp
 | map p=>cases p<;>simp only[VL]at h<;>first |(subst h;simp) |(obtain⟨_,_,rfl⟩:=h;simp)
 | func f cs=>simp only[VL]at h;obtain⟨_,rfl,_⟩:=h;simp
 | agg cs=>simp only[VL]at h;obtain⟨_,rfl,_⟩:=h;simp
 | tuple cs=>simp only[VL]at h;obtain⟨_,rfl,_⟩:=h;simp
 | list=>simp only[VL]at h;rcases h with⟨_,_,_,rfl⟩ |⟨_,_,_,_,rfl,_⟩<;>simp
 | elem=>simp only[VL]at h;obtain⟨_,_,_,_,_,rfl,_⟩:=h;simp
 | acc=>simp only[VL]at h;obtain⟨_,_,_,_,rfl,_⟩:=h;simp
 | _=>simp only[VL]at h;subst h;simp
theorem M4{R:Nat→Prop}{ι:VI}{H:WH}{M:Heap}(s:VS R ι H M){l lA:Fast}(he:jS R ι M l lA){r:qj}{v:AV}(h:MN r l H=some v):∃a,tH r lA M=some a∧VL M (OR R ι) ι v a:=by
 cases r with
 | tmp t =>
  have ht:=he t
  simp only[MN,tH]at h ⊢
  split at h
  ·cases h
  ·rename_i hne
   obtain rfl:=ak h
   have:=ht.IK hne
   generalize look lA t=Y at *
   cases Y<;>simp_all
 | cell t agg n =>
  simp only[MN]at h
  have:=BS s he (o:=.load agg n (.t t)) rfl (v:=v) (by simpa only[j6.sub,AX.sub]using h)
  simpa only[j6.sub,AX.sub,aL,AX.ev,tH]using this
theorem z8{R:Nat→Prop}{ι:VI}{H:WH}{M:Heap}(s:VS R ι H M){l lA:Fast}(he:jS R ι M l lA):∀ {rs:List qj} {vs:List AV},Er rs l H=some vs→∃as,nU rs lA M=some as∧aZ M (OR R ι) ι vs as
 | [],vs,h=>by
  simp only[Er,au]at h
  subst h
  exact⟨[],rfl,by simp[aZ]⟩
 | r::rs,vs,h=>by
  simp only[Er]at h
  split at h
  case h_2=>cases h
  rename_i v vs' h1 h2
  obtain rfl:=ak h
  obtain⟨a,e1,e2⟩:=M4 s he h1
  obtain⟨as,e3,e4⟩:=z8 s he h2
  exact⟨a::as,by simp only[nU,e1,aC,e3,aJ],by simp only[aZ];exact⟨e2,e4⟩⟩
theorem EC{R:Nat→Prop}{ι:VI}{H:WH}{M:Heap}(s:VS R ι H M){l lA:Fast}(he:jS R ι M l lA){rs:List qj}{v:AV}(h:vL rs l H=some v):∃a,fA rs lA M=some a∧VL M (OR R ι) ι v a:=by
 unfold vL at h
 split at h
 ·rename_i u hu
  obtain rfl:=ak h
  obtain⟨as,e1,e2⟩:=z8 s he hu
  match as,e2 with
  | [],e2=>simp[aZ]at e2
  | [a],e2 =>
   simp only[aZ]at e2
   exact⟨a,by simp only[fA,e1,aJ],e2.1⟩
  | _::_::_,e2=>simp[aZ]at e2
 ·rename_i vs hne hvs
  obtain rfl:=ak h
  obtain⟨as,e1,e2⟩:=z8 s he hvs
  refine⟨.tuple as, ?_,by simp only[VL];exact⟨as,rfl,e2⟩⟩
  simp only[fA,e1,aJ]
  match as,e2 with
  | [],e2=>rfl
  | [a],e2 =>
   match vs,e2 with
   | [],e2=>simp[aZ]at e2
   | [u],e2=>exact absurd rfl (hne u)
   | _::_::_,e2=>simp[aZ]at e2
  | _::_::_,e2=>rfl
 ·cases h
theorem M5 {R:Nat→Prop} {ι:VI} {H:WH} {M:Heap} (s:VS R ι H M) {np:Nat} (hn:np≤H.length) {v a:AV} (hv:VL M (OR R ι) ι v a) {tr:TS} {v':AV} {out:WH} (h:MO np v H tr v' out) :
  ∃aV,VS R aV out M∧Stp np [] ι H M aV out M∧VL M (OR R aV) aV v' a:=by
 unfold MO at h
 split at h
 case h_2=>exact h.elim
 rename_i m ts mc _
 obtain⟨s0,k0,hl0⟩:=Hy tr hn s
 have hn0:=hn
 rw[←hl0]at hn
 generalize MK tr H=H0 at *
 obtain⟨fU,h1,h2,h3⟩:=F4 m s0 (VL.retag v (ts.headD .undef) a hv)
 generalize hr:PE m (Proofs.Ytkedeiklmpkgkaa.retag v (ts.headD .undef)) H0=r at *
 obtain⟨v1,H1⟩:=r
 simp only at h h1 h2 h3
 obtain⟨lJ,k1,k2⟩:=vV [] mc (vH H1 np (l7 v1)) H1 fU M h1
 have k3:=VL.step h1 k2 h3
 obtain⟨rfl,rfl⟩:=h
 obtain⟨RX,q1,q2,q3⟩:=OO k1 (Nat.le_trans hn (Nat.le_trans h2.next k2.next)) (l7 v1) (vs:=[v1]) (as:=[a]) (by simp only[aZ];exact⟨k3,trivial⟩)
 simp only[AP,aZ]at q3
 refine⟨RX,q1, ?_,q3.1⟩
 have e1:Stp np [] ι H0 M fU H1 M:=h2.weak hn
 have e2:Stp np [] fU H1 M lJ _ M:=k2.weak (Nat.le_trans hn h2.next)
 have:=(k0.trans (e1.trans e2 (Nat.le_refl _)) (Nat.le_refl _)).trans q2 (Nat.le_refl _)
 simpa using this
theorem Ca{M:Heap}{O:Nat→Prop}{κ:VI}:∀ {vs as:List AV} (i:Nat),aZ M O κ vs as→∀t,VL M O κ (look (start i vs) t) (look (start i as) t)
 | [],[],i,_,t=>by simp[start,look,VL]
 | v::vs,a::as,i,h,t=>by
  simp only[aZ]at h
  simp only[start,jT]
  split
  ·exact h.1
  ·exact Ca (i+1) h.2 t
 | [],_::_,_,h,_=>by simp[aZ]at h
 | _::_,[],_,h,_=>by simp[aZ]at h
theorem M6 {G:CO} {T:FuncId→Option bX} {K d:Nat} {B:FuncId→Option Bt} (hB:∀f b,B f=some b→FC (ig G T K d) f b) {f:FuncId} (hG:G f=none) {af:bX} (hT:T f=some af) (hc:af.code.bN=true) {args:List AV} {blks:WH} {tr:TS} {v:AV} {out:WH}
  (h1:args.length=af.nargs) (h2:af.nargs≤af.ntmps) (h3:OG (ig G T K d) B K af args blks tr v out):Spec (ig G T K (d+1)) f args blks v out:=by
 intro R ι M as s hv
 have hl:=hv.length
 have hst:jS R ι M (start 0 (args++List.replicate (af.ntmps-af.nargs) (.tuple []))) (start 0 (as++List.replicate (af.ntmps-af.nargs) (.tuple []))):=by
  refine Ca 0 (hv.append ?_)
  generalize af.ntmps-af.nargs=m
  induction m with
  | zero=>simp[aZ]
  | succ m ih=>simp only[List.replicate_succ,aZ];exact⟨VL.unit,ih⟩
 obtain⟨ex,jH,M',aV,l',H',dZ,q1,q2,q3,q4,q5⟩:=jJ hB af.code _ _ blks M ι tr _ hc s (Nat.le_refl _) hst h3
 obtain⟨l1,tr1,hl1,q5⟩:=kK q5
 have q4:jS R aV M' l1 jH:=λt=>by rw[hl1 t];exact q4 t
 have fin:∀ {ex},(match vL af.results l1 H' with
   | some u=>MO blks.length u H' tr1 v out
   | none=>False)→(ex=.normal∨ex=.ret)→bP (ig G T K d) K af.ntmps af.code (start 0 (as++List.replicate (af.ntmps-af.nargs) (.tuple []))) M=some (ex,jH,M') →
   ∃a M' aV,ig G T K (d+1) f as M=some (a,M')∧VS R aV out M'∧Stp blks.length (List.range blks.length) ι blks M aV out M'∧VL M' (OR R aV) aV v a:=by
  intro ex hm hx hrun
  split at hm
  case h_2=>exact hm.elim
  rename_i u hu
  obtain⟨a,e1,e2⟩:=EC q2 q4 hu
  obtain⟨lJ,e3,e4,e5⟩:=M5 q2 q3.next e2 hm
  refine⟨a,M',lJ, ?_,e3,iA (q3.trans e4 (Nat.le_refl _)),e5⟩
  simp only[ig,hG,hT,bbody]
  rw[if_pos ⟨by rw[←hl];exact h1,h2⟩]
  rcases hx with rfl | rfl<;>simp only[hrun,e1,aJ]
 cases ex with
 | normal=>exact fin q5 (.inl rfl) q1
 | ret=>exact fin q5 (.inr rfl) q1
 | exit i=>exact q5.elim
theorem M7 {C:aW} {B:FuncId→Option Bt} (hB:∀f b,B f=some b→FC C f b) {K n np:Nat} {code:cZ} (hc:code.bN=true) {ins:Fast} {blks:WH} (hn:np≤blks.length) {tr:TS} {x:Ex×Fast×WH}
  (h:OI C B K n np code ins blks tr x):FW (bP C K n code) np ins blks x.1 x.2.1 x.2.2:=by
 intro R ι M lA s he
 obtain⟨ex',jH,M',aV,l',H',dZ,q1,q2,q3,q4,q5⟩:=jJ hB code ins lA blks M ι tr _ hc s hn he h
 unfold OH at q5
 obtain⟨l1,dZ,hl1,q5⟩:=kK q5
 have q4:jS R aV M' l1 jH:=λt=>by rw[hl1 t];exact q4 t
 split at q5
 case h_2=>exact q5.elim
 rename_i keep ms bs ts _
 obtain⟨s0,k0,hl0⟩:=Hy dZ q3.next q2
 obtain⟨vs',out',lJ,⟨rfl,e1,e2⟩,s2,k2,hv⟩:=xG s0 (by rw[hl0];exact q3.next) (q4.map keep) q5
 rw[←e1,←e2]
 exact⟨jH,M',lJ,q1,s2,iA (q3.trans ((iA k0).trans k2 (Nat.le_refl _)) (Nat.le_refl _)),λt=>(zi keep vs' hv t).1⟩
theorem dA {G:CO} {T:FuncId→Option bX} {K d:Nat} {B:FuncId→Option Bt} (hB:∀f b,B f=some b→FC (ig G T K d) f b) {f:FuncId} {af:bX} (hf:G f=none∧T f=some af∧af.code.bN=true) {args:List AV} {blks:WH} {R:Type} {o:R→AV×WH} {r:R} {F:Option R}
  (h:F=some r) (t:Tc F) (h1:args.length=af.nargs:=by rfl) (h2:Nat.ble af.nargs af.ntmps=true:=by rfl) (e:OG (ig G T K d) B K af args blks ⟨t⟩ (o r).1 (o r).2=claim (λv=>(o v).1=(o r).1∧(o v).2=(o r).2) r t:=by kernel_rfl):Spec (ig G T K (d+1)) f args blks (o r).1 (o r).2 :=
 M6 hB hf.1 hf.2.1 hf.2.2 h1 (Nat.le_of_ble_eq_true h2) (e.mpr (dF ⟨rfl,rfl⟩ t h))
theorem iK {C:aW} {B:FuncId→Option Bt} (hB:∀f b,B f=some b→FC C f b) {K n np:Nat} {code:cZ} (hc:code.bN=true) {ins:Fast} {blks:WH} {R:Type} {o:R→Ex×Fast×WH} {r:R} {F:Option R}
  (h:F=some r) (t:Tc F) (hn:Nat.ble np blks.length=true:=by rfl) (e:OI C B K n np code ins blks ⟨t⟩ (o r)=claim (λv=>(o v).1=(o r).1∧(o v).2.1=(o r).2.1∧(o v).2.2=(o r).2.2) r t:=by kernel_rfl):FW (bP C K n code) np ins blks (o r).1 (o r).2.1 (o r).2.2 :=
 M7 hB hc (Nat.le_of_ble_eq_true hn) (e.mpr (dF ⟨rfl,rfl,rfl⟩ t h))
def mo{S E:Type}(step:S→Option (S⊕E)):Nat→S→Option E
 | 0,_=>none
 | k+1,s=>match step s with
  | none=>none
  | some (.inl s)=>mo step k s
  | some (.inr e)=>some e
def qb{S E:Type}(keep:List Nat)(st:S→List AV×WH)(fin:E→Ex×Fast×WH):S⊕E→Ex×Fast×WH
 |.inl s=>(.normal,gI keep (st s).1,(st s).2)
 |.inr e=>fin e
theorem z_{l:Fast}(t:Nat):∀keep:List Nat,look (pz l keep) t=if t∈keep then look l t else .undef
 | []=>by simp[pz,look]
 | u::r=>by
  simp only[pz,jT,z_ t r,List.mem_cons]
  by_cases e:u=t
  ·subst e;simp
  ·simp[e,Ne.symm e,show ¬t=u from λh=>e h.symm]
theorem qM {S E:Type} {body:Fast→Heap→yN} {np:Nat} {keep:List Nat} {st:S→List AV×WH} {fin:E→Ex×Fast×WH} {step:S→Option (S⊕E)} (hE:∀e,(fin e).1≠.normal)
  (hr:∀s x,step s=some x→FW body np (gI keep (st s).1) (st s).2 (qb keep st fin x).1 (qb keep st fin x).2.1 (qb keep st fin x).2.2) :
  ∀(k:Nat) (s:S) (e:E),mo step k s=some e→FW (nT body keep k) np (gI keep (st s).1) (st s).2 (fin e).1 (fin e).2.1 (fin e).2.2
 | 0,s,e,h=>by simp[mo]at h
 | k+1,s,e,h=>by
  intro R ι M lA vs he
  have zk:∀(keep:List Nat) (xs:List AV) (t:Nat),t∉keep→look (gI keep xs) t=.undef:=λkeep=>by
   induction keep with
   | nil=>intro xs t _;cases xs<;>simp[gI,look]
   | cons u r ih =>
    intro xs t ht
    rw[List.mem_cons,not_or]at ht
    cases xs with
    | nil=>simp[gI,look]
    | cons v xs =>
     simp only[gI,jT]
     rw[if_neg (λe=>ht.1 e.symm)]
     exact ih xs t ht.2
  have he':∀t,VL M (OR R ι) ι (look (gI keep (st s).1) t) (look (pz lA keep) t):=λt=>by
   rw[z_]
   split
   ·exact he t
   ·rename_i ht
    rw[zk keep _ t ht]
    simp[VL]
  simp only[mo]at h
  split at h
  ·cases h
  ·rename_i s' hs
   have:=hr s _ hs
   obtain⟨jH,M',aV,q1,q2,q3,q4⟩:=this R ι M (pz lA keep) vs he'
   obtain⟨lA2,M2,lJ,r1,r2,r3,r4⟩:=qM hE hr k s' e h R aV M' jH q2 q4
   refine⟨lA2,M2,lJ, ?_,r2,iA (q3.trans r3 (Nat.le_refl _)),r4⟩
   simp only[nT,q1]
   exact r1
  ·rename_i e' hs
   obtain rfl:=ak h
   have:=hr s _ hs
   simp only[qb]at this
   obtain⟨jH,M',aV,q1,q2,q3,q4⟩:=this R ι M (pz lA keep) vs he'
   refine⟨jH,M',aV, ?_,q2,q3,q4⟩
   simp only[nT,q1]
   have:=hE e'
   generalize (fin e').1=x at *
   cases x with
   | normal=>exact absurd rfl this
   | exit i=>rfl
   | ret=>rfl
open Go.ChangeShapes Go.WideShapes Go.ChangeAt Go.RowKit
mutual
def lN:Sh→Nat
 |.agg ss=>nG ss
 | _=>1
def nG:List Sh→Nat
 | []=>0
 | s::r=>lN s+nG r
end
mutual
def encS:Sh→D→List AV
 |.bool,.bool b=>[.bool b]
 |.int _,.int k n=>[.int k n]
 |.str,.str s=>[.str s]
 |.list e,.list l=>[.list (lN e) l.length (Db e l) false]
 |.agg ss,.agg l=>um ss l
 | _,_=>[]
def Db(e:Sh):List D→List AV
 | []=>[]
 | d::r=>encS e d++Db e r
def um:List Sh→List D→List AV
 | s::ss,d::r=>encS s d++um ss r
 | _,_=>[]
end
theorem ru{e:Sh}:∀ {l:List D} {n:Nat},l.length=n→um (List.replicate n e) l=Db e l
 | [],n,h=>by
  subst h
  simp[um,Db]
 | d::r,n,h=>by
  subst h
  simp only[bE,List.replicate_succ,um,Db]
  rw[ru rfl]
theorem pJ(s:Sh):∀n,nG (List.replicate n s)=n*lN s
 | 0=>by simp[nG]
 | n+1=>by
  rw[List.replicate_succ,nG,pJ s n,Nat.succ_mul,Nat.add_comm]
theorem xK{P:Program}(hl:laidOutB P=true):∀(k:Nat) (t:TypeId) (s:Sh),uK P k t=some s→t<P.types.size→P.cellsOf t=lN s
 | 0,_,_,h,_=>by simp[uK]at h
 | k+1,t,s,h,ht=>by
  have hr:=Go.rowFine_of hl ht
  simp only[uK]at h
  split at h
  case h_7=>cases h
  ·rename_i hu
   obtain rfl:=ak h
   simpa[rowFine,isVar,ht,hu,kindOk,lN]using hr
  ·rename_i i hu
   obtain rfl:=ak h
   simpa[rowFine,isVar,ht,hu,kindOk,lN]using hr
  ·rename_i hu
   obtain rfl:=ak h
   simpa[rowFine,isVar,ht,hu,kindOk,lN]using hr
  ·rename_i e hu
   split at h
   ·cases h
   obtain⟨se,hse,rfl⟩:=av.1 h
   simp[rowFine,isVar,ht,hu,kindOk]at hr
   simpa[lN]using hr.2
  ·rename_i fs hu
   obtain⟨ss,hss,rfl⟩:=av.1 h
   obtain⟨h1,h2,_⟩:=Go.kid_struct hl ht hu
   rw[h2,lN]
   have hall:∀(fl:List Field) (ss:List Sh),(∀f∈fl,f.type<P.types.size)→AO (uK P k) (fl.map λf=>f.type)=some ss→(fl.map λf=>P.cellsOf f.type).sum=nG ss:=by
    intro fl
    induction fl with
    | nil =>
     intro ss _ h
     simp[AO]at h
     subst h
     simp[nG]
    | cons f fl ih =>
     intro ss hf h
     simp only[List.map_cons,AO]at h
     split at h
     case h_2=>cases h
     rename_i s r h1 h2
     obtain rfl:=ak h
     rw[List.map_cons,List.sum_cons,nG,xK hl k _ _ h1 (hf f (by simp)),ih r (λg hg=>hf g (by simp[hg])) h2]
   exact hall fs.toList ss h1 hss
  ·rename_i n e hu
   obtain⟨se,hse,rfl⟩:=av.1 h
   obtain⟨h1,h2⟩:=Go.kid_array hl ht hu
   rw[h2,lN,pJ,xK hl k _ _ hse h1]
mutual
theorem VL.sub{M M':Heap}{κ jG:VI}(h:M.Sub M')(hn:M.next≤M'.next):∀(v a:AV),VL M (λ_=>False) VI.none v a→VL M' (λ_=>False) VI.none v a
 |.undef,_,_=>by simp[VL]
 |.bool _,_,e=>by simpa[VL]using e
 |.int _ _,_,e=>by simpa[VL]using e
 |.str _,_,e=>by simpa[VL]using e
 |.ptr none,_,e=>by simpa[VL]using e
 |.ptr (some q),_,e=>by simp[VL,VI.none]at e
 |.slice none _ _ _ _,_,e=>by simpa[VL]using e
 |.slice (some q) _ _ _ _,_,e=>by simp[VL,VI.none]at e
 |.map none,_,e=>by simpa[VL]using e
 |.map (some r),_,e=>by simp[VL,VI.none]at e
 |.func f cs,_,e=>by
  simp only[VL]at e ⊢
  obtain⟨cs',h1,h2⟩:=e
  exact⟨cs',h1,aZ.sub h hn cs cs' h2⟩
 |.nilFunc,_,e=>by simpa[VL]using e
 |.agg cs,_,e=>by
  simp only[VL]at e ⊢
  obtain⟨cs',h1,h2⟩:=e
  exact⟨cs',h1,aZ.sub h hn cs cs' h2⟩
 |.tuple cs,_,e=>by
  simp only[VL]at e ⊢
  obtain⟨cs',h1,h2⟩:=e
  exact⟨cs',h1,aZ.sub h hn cs cs' h2⟩
 |.list sz len cs ex,_,e=>by
  simp only[VL]at e ⊢
  rcases e with e |⟨b,o,cap,ex',h1,h2,h3,h4,h5⟩
  ·exact .inl e
  refine .inr ⟨b,o,cap,ex',h1,h2,h3,h4,λhl=>?_⟩
  obtain⟨c,ro,sl,g1,g2,g3,g4,g5⟩:=h5 hl
  exact⟨c,ro,sl,h _ _ g1,g2,Nat.lt_of_lt_of_le g3 hn,g4,aZ.sub h hn cs _ g5⟩
 |.elem cs,_,e=>by
  simp only[VL]at e ⊢
  obtain⟨b,o,c,ro,sl,h1,g1,g2,g3,g5⟩:=e
  exact⟨b,o,c,ro,sl,h1,h _ _ g1,g2,Nat.lt_of_lt_of_le g3 hn,aZ.sub h hn cs _ g5⟩
 |.acc b o sz n w,_,e=>by simp[VL,VI.none]at e
theorem aZ.sub{M M':Heap}(h:M.Sub M')(hn:M.next≤M'.next):∀(l r:List AV),aZ M (λ_=>False) VI.none l r→aZ M' (λ_=>False) VI.none l r
 | [],[],_=>by simp[aZ]
 | a::l,v::r,e=>by
  simp only[aZ]at e ⊢
  exact⟨VL.sub (κ:=VI.none) (jG:=VI.none) h hn a v e.1,aZ.sub h hn l r e.2⟩
 | [],_::_,e=>by simp[aZ]at e
 | _::_,[],e=>by simp[aZ]at e
end
abbrev Ga(M:Heap):=aZ M (λ_=>False) VI.none
def Dc(W:World)(s:Sh)(cs:List Value)(d:D):Prop :=
 ∀ι M,R ι M W→jE M→∃aV M' FU,Grow ι M aV M' W∧bR aV FU cs∧(∀a∈FU,a.bY=true)∧Ga M' (encS s d) FU∧D.is s d
def dJ(W:World):List Sh→List (List Value)→List D→Prop
 | [],[],[]=>True
 | s::ss,c::cs,d::ds=>Dc W s c d∧dJ W ss cs ds
 | _,_,_=>False
theorem dJ.open {W:World}:∀ {ss:List Sh} {css:List (List Value)} {ds:List D},dJ W ss css ds→∀ι M,R ι M W→jE M →
  ∃aV M' ,∃pieces:List (List AV),Grow ι M aV M' W∧pieces.map List.length=css.map List.length∧bR aV pieces.flatten css.flatten∧(∀p∈pieces,∀a∈p,a.bY=true)∧Ga M' (um ss ds) pieces.flatten∧D.are ss ds
 | [],[],[],_,ι,M,r,ro=>⟨ι,M,[],.refl r ro,rfl,by simp[bR],by simp,by simp[um,Ga,aZ],by simp[D.are]⟩
 | s::ss,c::css,d::ds,h,ι,M,r,ro=>by
  simp only[dJ]at h
  obtain⟨fU,M1,FU,g1,v1,c1,r1,i1⟩:=h.1 ι M r ro
  obtain⟨lJ,M2,ps,g2,l2,v2,c2,r2,i2⟩:=dJ.open h.2 fU M1 g1.rel g1.ro
  refine⟨lJ,M2,FU::ps,g1.trans g2, ?_, ?_, ?_, ?_, ?_⟩
  ·have:=v1.length
   simp[l2,this]
  ·simp only[List.flatten_cons]
   exact(v1.mono g2.le).append v2
  ·intro p hp
   rcases List.mem_cons.1 hp with rfl | hp
   ·exact c1
   ·exact c2 p hp
  ·simp only[um,List.flatten_cons]
   exact(aZ.sub g2.sub g2.next _ _ r1).append r2
  ·simp only[D.are]
   exact⟨i1,i2⟩
 | [],[],_::_,h,_,_,_,_=>by simp[dJ]at h
 | [],_::_,_,h,_,_,_,_=>by simp[dJ]at h
 | _::_,[],_,h,_,_,_,_=>by simp[dJ]at h
 | _::_,_::_,[],h,_,_,_,_=>by simp[dJ]at h
theorem dJ.kr {W:World}:∀ {ss:List Sh} {css:List (List Value)} {ds:List D},ss.length=ds.length→css.length=ds.length →
  (∀(i:Nat) s c d,ss[i]?=some s→css[i]?=some c→ds[i]?=some d→Dc W s c d)→dJ W ss css ds
 | [],[],[],_,_,_=>by simp[dJ]
 | s::ss,c::css,d::ds,h1,h2,h=>by
  simp only[dJ]
  exact⟨h 0 s c d (by simp) (by simp) (by simp),dJ.kr (by simpa using h1) (by simpa using h2) λi s c d a1 a2 a3=>h (i+1) s c d (by simpa using a1) (by simpa using a2) (by simpa using a3)⟩
 | [],_,_::_,h1,_,_=>by simp at h1
 | _::_,_,[],h1,_,_=>by simp at h1
 | _,[],_::_,_,h2,_=>by simp at h2
 | _,_::_,[],_,h2,_=>by simp at h2
theorem qN{W:World}{s:Sh}{v:Value}{a:AV}{d:D}(hv:∀ι,VR ι a v)(hc:a.bY=true)(hr:∀M,Ga M (encS s d) [a])(hs:D.is s d):Dc W s [v] d:=λι M r ro =>
 ⟨ι,M,[a],.refl r ro,by simp only[bR];exact⟨hv ι,trivial⟩,λx hx=>by simp at hx;subst hx;exact hc,hr M,hs⟩
theorem qO {H:Type} {enc:TypeId×Value→H} {P:Program} (hl:laidOutB P=true) {W:World}:∀(k:Nat) (t:TypeId) (s:Sh),uK P k t=some s→t<P.types.size →
  ∀(fuel:Nat) (cs:List Value) (x:DataW H×List MemPlace),DataW.trod enc P W 0 (λ_=>true) true fuel t cs=some x→Dc W s cs (nS x.1)
 | 0,_,_,hs,_,_,_,_,_=>by simp[uK]at hs
 | k+1,t,s,hs,ht,fuel,cs,x,h=>by
  simp only[uK]at hs
  split at hs
  case h_7=>cases hs
  ·rename_i hu
   obtain rfl:=ak hs
   obtain⟨b,rfl,rfl⟩:=DataW.trod_bool hu h
   exact qN (a:=.bool b) (λι=>by simp[VR]) rfl (λM=>by simp[nS,encS,aZ,VL]) ⟨b,rfl⟩
  ·rename_i i hu
   obtain rfl:=ak hs
   obtain⟨n,rfl,rfl,hw⟩:=DataW.trod_int hu h
   simp only[Lit.wf,Bool.and_eq_true,decide_eq_true_eq]at hw
   exact qN (a:=.int i n) (λι=>by simp[VR]) rfl (λM=>by simp[nS,encS,aZ,VL]) ⟨n,rfl,hw⟩
  ·rename_i hu
   obtain rfl:=ak hs
   obtain⟨b,rfl,rfl,hw⟩:=DataW.trod_string hu h
   exact qN (a:=.str b.data.toList) (λι=>by simp only[VR];exact⟨b,rfl,rfl⟩) rfl (λM=>by simp[nS,encS,aZ,VL]) ⟨_,rfl⟩
  ·rename_i e hu
   split at hs
   ·cases hs
   rename_i hsz
   obtain⟨se,hse,rfl⟩:=av.1 hs
   have hte:e<P.types.size:=Go.kid_slice hl ht hu
   rcases DataW.trod_slice hu h with⟨rfl,rfl⟩ |⟨a,len,cap,elems,rest,n,rfl,rfl,rfl,_,hlc,_,hlen,hel,hre,_⟩
   ·exact qN (a:=.slice none (lN se) 0 0 true) (λι=>by simp[VR]) rfl (λM=>by simp[nS,encS,Db,aZ,VL]) ⟨[],by simp[nS],by simp⟩
   ·intro ι M r ro
    obtain⟨hrl,hre⟩:=hre rfl
    simp only[nS]
    have hsz':=xK hl _ _ _ hse hte
    generalize hz:P.cellsOf e=sz at *
    rcases Nat.eq_zero_or_pos cap with hc0 | hcp
    ·subst hc0
     obtain rfl:len=0:=by omega
     have R3:elems=[]:=by simpa using hlen
     subst R3
     refine⟨_,_,[.slice (some (M.next,0)) sz 0 0 true],Grow.skip r ro ⟨a.block,0,0⟩, ?_, ?_, ?_, ?_⟩
     ·simp only[bR,VR,and_true]
      exact⟨⟨a.block,0,0⟩,a,0,by simp[cO.set],rfl,.inl rfl,.inl rfl,.inl rfl,Nat.le_refl _,Nat.le_refl _,λ_=>rfl,by simp,by omega⟩
     ·intro y hy
      simp at hy
      subst hy
      rfl
     ·simp only[List.map_nil,xq,encS,Db,aZ,VL,and_true]
      exact .inr ⟨M.next,0,0,true,by rw[hsz'];rfl,Nat.le_refl _,by simp,by simp,λh=>absurd rfl h⟩
     ·exact⟨[],by simp[xq],by simp⟩
    ·-- every element's cells
     have all:∀i,i<cap→∃ci,W.cells? 0 (a.add (i*sz)) sz=some ci∧(i<len→∃y,elems[i]?=some y∧DataW.trod enc P W 0 (λ_=>true) true n e ci=some y):=by
      intro i hi
      by_cases hil:i<len
      ·have h1:=hel i hil
       rw[aS (by omega)]at h1
       obtain⟨ci,h2,h3⟩:=aB.1 h1
       exact⟨ci,h2,λ_=>⟨_,aS (by omega),h3⟩⟩
      ·have h1:=hre (i-len) (by omega)
       rw[aS (by omega)]at h1
       obtain⟨ci,h2,h3⟩:=aB.1 h1
       rw[show len+(i-len)=i from by omega]at h2
       exact⟨ci,h2,λhx=>absurd hx hil⟩
     obtain⟨c0,hc0,_⟩:=all 0 hcp
     obtain⟨_,hl0,hg0⟩:=World.cells?_some hc0
     have hone:=hg0 0 (by omega)
     rw[aS (by omega)]at hone
     obtain⟨c,el,fz,uG,hsp,_⟩:=Ir hone
     have ha0:(a.add (0*sz)).add 0=a:=by simp[Addr.add]
     rw[ha0]at uG hsp
     obtain⟨j,off,spot⟩:=a
     simp only at uG hsp
     subst hsp
     have Tg:∀i v,W.cell? ⟨j,i,none⟩=some v→c[i]?=some v:=λi v hv=>by
      simpa[World.cell?,uG]using hv
     have OU:∀i,W.cell? ⟨j,i,none⟩=c[i]?:=λi=>by simp[World.cell?,uG]
     have QM:∀i ci,W.cells? 0 ((⟨j,off,none⟩:Addr).add (i*sz)) sz=some ci→ci=(c.toList.drop (off+i*sz)).take sz∧off+i*sz+sz≤c.size:=by
      intro i ci hci
      obtain⟨_,q1,q2⟩:=World.cells?_some hci
      have hsize:off+i*sz+sz≤c.size:=by
       have:=q2 (sz-1) (by omega)
       rw[gW,gW,OU,aS (by omega)]at this
       have:=(Array.getElem?_eq_some_iff.1 this).1
       omega
      refine⟨?_,hsize⟩
      apply List.ext_getElem?
      intro q
      by_cases hq:q<sz
      ·have:=q2 q hq
       rw[gW,gW,OU]at this
       rw[←this,List.getElem?_take,if_pos hq,List.getElem?_drop,Array.getElem?_toList]
      ·rw[List.getElem?_eq_none (by omega),List.getElem?_eq_none (by simp;omega)]
     have hend:off+cap*sz≤c.size:=by
      obtain⟨ci,h1,_⟩:=all (cap-1) (by omega)
      have:=(QM _ _ h1).2
      have:(cap-1)*sz+sz=cap*sz:=by rw[←Nat.succ_mul];congr 1;omega
      omega
     have hrow:len*sz≤cap*sz:=Nat.mul_le_mul_right _ hlc
     have Aa:dJ W (List.replicate len se) (chunks (List.replicate len sz) (c.toList.drop off)) (elems.map λy=>nS y.1):=by
      refine dJ.kr (by simp[hlen]) (by simp[lX,hlen]) λi s0 ci d0 h1 h2 h3=>?_
      have hi:i<len:=by
       have:=(aF.1 h1).1
       simpa using this
      rw[List.getElem?_replicate,if_pos hi]at h1
      obtain rfl:=ak h1
      rw[qI _ _ i sz (by rw[List.getElem?_replicate,if_pos hi])]at h2
      obtain rfl:=ak h2
      obtain⟨ci,g1,g2⟩:=all i (by omega)
      obtain⟨y,g3,g4⟩:=g2 hi
      obtain⟨g5,_⟩:=QM i ci g1
      rw[List.getElem?_map,g3]at h3
      obtain rfl:=ak h3
      have e1:(List.take i (List.replicate len sz)).sum=i*sz:=by
       rw[List.take_replicate,Nat.min_eq_left (by omega),List.sum_replicate_nat]
      rw[e1,List.drop_drop,←g5]
      exact qO hl k e se hse hte n ci y g4
     obtain⟨fU,M1,pieces,g1,hpl,hpv,hpc,hpp,Kk⟩:=Aa.open ι M r ro
     have Ke:(chunks (List.replicate len sz) (c.toList.drop off)).flatten=(c.toList.drop off).take (len*sz):=by
      rw[chunks_flatten,List.sum_replicate_nat]
     rw[Ke]at hpv
     have hfl:pieces.flatten.length=len*sz:=by
      have:=hpv.length
      simp at this
      rw[List.length_flatten,this]
      omega
     have Kl:=Grow.see (c:=pieces.flatten) (l:=⟨j,off,cap*sz⟩) g1.rel g1.ro uG (by
      refine⟨c,el,fz,rfl,hend,by rw[hfl];exact hrow,(λh=>by cases h),λi b hb=>?_,λh=>by cases h⟩
      obtain⟨v,hv,Jl⟩:=hpv.get i b hb
      refine⟨v, ?_, ?_,Jl⟩
      ·rw[List.getElem?_take]at hv
       split at hv
       ·rw[List.getElem?_drop,Array.getElem?_toList]at hv
        exact hv
       ·cases hv
      ·obtain⟨p,hp,hbp⟩:=List.mem_flatten.1 (List.mem_of_getElem? hb)
       exact hpc p hp b hbp)
     have hdl:(xq (elems.map λy=>y.1)).length=len:=by rw[qH];simp[hlen]
     refine⟨_,_,[.slice (some (M1.next,0)) sz len cap true],g1.trans Kl, ?_, ?_, ?_, ?_⟩
     ·simp only[bR,VR,and_true]
      exact⟨⟨j,off,cap*sz⟩,⟨j,off,none⟩,cap,by simp[cO.set],rfl,.inr rfl,.inr rfl,.inr rfl,hlc,Nat.le_refl _,λ_=>rfl,by simp,by omega⟩
     ·intro y hy
      simp at hy
      subst hy
      rfl
     ·have e1:xq (elems.map λy=>y.1)=elems.map λy=>nS y.1:=by rw[qH];simp
      rw[ru]at hpp
      ·simp only[encS,aZ,VL,and_true,e1]
       refine .inr ⟨M1.next,0,cap,true, ?_, ?_,by simp, ?_,λ_=>⟨pieces.flatten,true,true,by simp[Heap.push],λh=>h,by simp[Heap.push], ?_, ?_⟩⟩
       ·rw[hsz',List.length_map,hlen]
       ·rw[List.length_map,hlen];exact hlc
       ·rw[hpp.length,hfl,List.length_map,hlen,hsz']
       ·rw[List.length_map,hlen,←hsz'];omega
       ·rw[List.length_map,hlen,←hsz',List.drop_zero,List.take_of_length_le (by omega)]
        exact aZ.sub Kl.sub Kl.next _ _ hpp
      ·simp[hlen]
     ·have e1:xq (elems.map λy=>y.1)=elems.map λy=>nS y.1:=by rw[qH];simp
      refine⟨_,rfl, ?_⟩
      rw[e1]
      exact(D.uf Kk).2
  ·rename_i fs hu
   obtain⟨ss,hss,rfl⟩:=av.1 hs
   obtain⟨hsl,hsg⟩:=Bw hss
   obtain⟨kt,kc,ko⟩:=Go.kid_struct hl ht hu
   obtain⟨xs,n,rfl,rfl,hcl,hxl,hget⟩:=DataW.trod_struct hu h
   intro ι M r ro
   have Aa:dJ W ss (chunks (fs.toList.map λf=>P.cellsOf f.type) cs) (xs.map λy=>nS y.1):=by
    refine dJ.kr (by simp[hsl,hxl]) (by simp[lX,hxl]) λi s0 ci d0 h1 h2 h3=>?_
    have hi:i<fs.toList.length:=by
     have:=(aF.1 h1).1
     simpa[hsl]using this
    have hf:fs.toList[i]?=some fs.toList[i]:=aS hi
    obtain⟨s1,g1,g2⟩:=hsg i _ (by rw[List.getElem?_map,hf];rfl)
    rw[h1]at g1
    obtain rfl:=ak g1
    rw[qI _ _ i _ (by rw[List.getElem?_map,hf];rfl)]at h2
    obtain rfl:=ak h2
    have h4:=hget i fs.toList[i] (by rw[←Array.getElem?_toList];exact hf)
    rw[List.getElem?_map]at h3
    obtain⟨y,hy,rfl⟩:=av.1 h3
    rw[hy,ko i _ hf]at h4
    rw[←List.map_take]
    exact qO hl k _ _ g2 (kt _ (List.getElem_mem hi)) n _ y h4
   obtain⟨fU,M1,pieces,g1,hpl,hpv,hpc,hpp,Kk⟩:=Aa.open ι M r ro
   rw[chunks_flatten,←kc,←hcl,List.take_length]at hpv
   have e1:nS (DataW.agg (xs.map λy=>y.1))=.agg (xs.map λy=>nS y.1):=by simp[nS,qH]
   refine⟨fU,M1,pieces.flatten,g1,hpv,λa ha=>?_, ?_, ?_⟩
   ·obtain⟨p,hp,hap⟩:=List.mem_flatten.1 ha
    exact hpc p hp a hap
   ·rw[e1]
    simp only[encS]
    exact hpp
   ·rw[e1]
    exact⟨_,rfl,Kk⟩
  ·rename_i m e hu
   obtain⟨se,hse,rfl⟩:=av.1 hs
   obtain⟨hte,kc⟩:=Go.kid_array hl ht hu
   obtain⟨xs,n,rfl,rfl,hcl,hxl,hget⟩:=DataW.trod_array hu h
   intro ι M r ro
   have Aa:dJ W (List.replicate m se) (chunks (List.replicate m (P.cellsOf e)) cs) (xs.map λy=>nS y.1):=by
    refine dJ.kr (by simp[hxl]) (by simp[lX,hxl]) λi s0 ci d0 h1 h2 h3=>?_
    have hi:i<m:=by
     have:=(aF.1 h1).1
     simpa using this
    rw[List.getElem?_replicate,if_pos hi]at h1
    obtain rfl:=ak h1
    rw[qI _ _ i (P.cellsOf e) (by rw[List.getElem?_replicate,if_pos hi])]at h2
    obtain rfl:=ak h2
    have h4:=hget i hi
    rw[List.getElem?_map]at h3
    obtain⟨y,hy,rfl⟩:=av.1 h3
    rw[hy]at h4
    have e1:(List.take i (List.replicate m (P.cellsOf e))).sum=i*P.cellsOf e:=by
     rw[List.take_replicate,Nat.min_eq_left (by omega),List.sum_replicate_nat]
    rw[e1]
    exact qO hl k e se hse hte n _ y h4
   obtain⟨fU,M1,pieces,g1,hpl,hpv,hpc,hpp,Kk⟩:=Aa.open ι M r ro
   rw[chunks_flatten,List.sum_replicate_nat,←kc,←hcl,List.take_length]at hpv
   have e1:nS (DataW.agg (xs.map λy=>y.1))=.agg (xs.map λy=>nS y.1):=by simp[nS,qH]
   refine⟨fU,M1,pieces.flatten,g1,hpv,λa ha=>?_, ?_, ?_⟩
   ·obtain⟨p,hp,hap⟩:=List.mem_flatten.1 ha
    exact hpc p hp a hap
   ·rw[e1]
    simp only[encS]
    exact hpp
   ·rw[e1]
    exact⟨_,rfl,Kk⟩
def su(s:Sh)(d:D):AV :=
 match s with
 |.agg ss=>.agg (encS s d)
 | s=>(encS s d).headD .undef
def encArgs:List Sh→List D→List AV
 | s::ss,d::r=>su s d::encArgs ss r
 | _,_=>[]
theorem IL {H:Type} {enc:TypeId×Value→H} {P:Program} (hl:laidOutB P=true) {W:World} {k base:Nat} {t:TypeId} {s:Sh} (hs:uK P k t=some s) (ht:t<P.types.size) {v:Value} {d:DataW H} {ps:List MemPlace}
  (hval:Value.okWide P W .any base t v) (h:DataW.Trod enc P W 0 (λ_=>true) true t v d ps) {ι:cO} {M:Heap} (r:R ι M W) (ro:jE M) :
  ∃aV M' a,Grow ι M aV M' W∧VR aV a v∧VL M' (λ_=>False) VI.none (su s (nS d)) a∧D.is s (nS d):=by
 obtain⟨fuel,hf⟩:=h
 obtain⟨aV,M',FU,g,hv,_,hr,hi⟩:=qO hl k t s hs ht fuel _ _ hf ι M r ro
 simp only at hr hi
 have one:v.cells=#[v]→(∀ss,s≠.agg ss)→∃aV M' a,Grow ι M aV M' W∧VR aV a v∧VL M' (λ_=>False) VI.none (su s (nS d)) a∧D.is s (nS d):=by
  intro e1 e2
  rw[e1]at hv
  match FU,hv,hr with
  | [a],hv,hr =>
   simp only[bR]at hv
   refine⟨aV,M',a,g,hv.1, ?_,hi⟩
   have hlen:=hr.length
   have:∃x,encS s (nS d)=[x]:=by
    match hx:encS s (nS d),hlen with
    | [x],_=>exact⟨x,rfl⟩
    | [],h=>simp at h
    | _::_::_,h=>simp at h
   obtain⟨x,hx⟩:=this
   rw[hx]at hr
   simp only[aZ]at hr
   have he:su s (nS d)=x:=by
    cases s with
    | agg ss=>exact absurd rfl (e2 ss)
    | _=>simp[su,hx]
   rw[he]
   exact hr.1
  | [],hv,_=>simp[bR]at hv
  | _::_::_,hv,_=>simp[bR]at hv
 have many:(∃cs,v=.agg cs)→(∃ss,s=.agg ss)→∃aV M' a,Grow ι M aV M' W∧VR aV a v∧VL M' (λ_=>False) VI.none (su s (nS d)) a∧D.is s (nS d):=by
  rintro⟨cs,rfl⟩ ⟨ss,rfl⟩
  refine⟨aV,M',.agg FU,g, ?_, ?_,hi⟩
  ·simp only[VR]
   exact⟨cs,rfl,by simpa[Value.cells]using hv⟩
  ·simp only[su,VL]
   exact⟨FU,rfl,hr⟩
 cases k with
 | zero=>simp[uK]at hs
 | succ k =>
  simp only[uK]at hs
  split at hs
  case h_7=>cases hs
  ·rename_i hu
   obtain rfl:=ak hs
   obtain⟨b,rfl⟩:=okWide_bool hu hval
   exact one rfl λl hl=>by cases hl
  ·rename_i i hu
   obtain rfl:=ak hs
   obtain⟨b,rfl⟩:=okWide_int hu hval
   exact one rfl λl hl=>by cases hl
  ·rename_i hu
   obtain rfl:=ak hs
   obtain⟨b,rfl⟩:=okWide_string hu hval
   exact one rfl λl hl=>by cases hl
  ·rename_i e hu
   split at hs
   ·cases hs
   obtain⟨se,hse,rfl⟩:=av.1 hs
   obtain⟨a,len,cap,rfl⟩:=okWide_slice hu hval
   exact one rfl λl hl=>by cases hl
  ·rename_i fs hu
   obtain⟨ss,hss,rfl⟩:=av.1 hs
   obtain⟨cs,hcs,_⟩:=okWide_struct hu hval
   exact many ⟨cs,hcs⟩ ⟨_,rfl⟩
  ·rename_i n e hu
   obtain⟨se,hse,rfl⟩:=av.1 hs
   simp only[Value.okWide,hu]at hval
   obtain⟨cs,hcs,_⟩:=hval
   exact many ⟨cs,hcs⟩ ⟨_,rfl⟩
theorem Cc {H:Type} {enc:TypeId×Value→H} {P:Program} (hl:laidOutB P=true) {W:World} {k base:Nat} :
  ∀(ts:List TypeId) (ss:List Sh) (vs:List Value) (ds:List (DataW H)) (p:List MemPlace),zJ P k ts=some ss→(ts.all λt=>decide (t<P.types.size))=true →
   (∀(j:Nat) t v,ts[j]?=some t→vs[j]?=some v→Value.okWide P W .any base t v)→DataW.TrodAll enc P W 0 (λ_=>true) true ts vs ds p →
   ∀ι M,R ι M W→jE M→∃aV M' as,Grow ι M aV M' W∧bR aV as vs∧Ga M' (encArgs ss (ds.map nS)) as∧D.are ss (ds.map nS)
 | [],ss,[],[],p,hs,_,_,_,ι,M,r,ro=>by
  simp[zJ,AO]at hs
  subst hs
  exact⟨ι,M,[],.refl r ro,by simp[bR],by simp[encArgs,Ga,aZ],by simp[D.are]⟩
 | t::ts,ss,v::vs,d::ds,p,hs,ht,hval,h,ι,M,r,ro=>by
  simp only[zJ,AO]at hs
  split at hs
  case h_2=>cases hs
  rename_i s sr h1 h2
  obtain rfl:=ak hs
  simp only[List.all_cons,Bool.and_eq_true,decide_eq_true_eq]at ht
  simp only[DataW.TrodAll]at h
  obtain⟨p1,p2,g1,g2,_⟩:=h
  obtain⟨fU,M1,a,q1,q2,q3,q4⟩:=IL hl h1 ht.1 (hval 0 t v (by simp) (by simp)) g1 r ro
  obtain⟨lJ,M2,as,w1,w2,w3,w4⟩:=Cc hl ts sr vs ds p2 h2 (by simpa using ht.2) (λj t v a b=>hval (j+1) t v (by simpa using a) (by simpa using b)) g2 fU M1 q1.rel q1.ro
  refine⟨lJ,M2,a::as,q1.trans w1, ?_, ?_, ?_⟩
  ·simp only[bR]
   exact⟨q2.mono w1.le,w2⟩
  ·simp only[List.map_cons,encArgs,Ga,aZ]
   exact⟨VL.sub (κ:=VI.none) (jG:=VI.none) w1.sub w1.next _ _ q3,w3⟩
  ·simp only[List.map_cons,D.are]
   exact⟨q4,w4⟩
 | [],_,_::_,_,_,_,_,_,h,_,_,_,_=>by simp[DataW.TrodAll]at h
 | [],_,[],_::_,_,_,_,_,h,_,_,_,_=>by simp[DataW.TrodAll]at h
 | _::_,_,[],_,_,_,_,_,h,_,_,_,_=>by simp[DataW.TrodAll]at h
 | _::_,_,_::_,[],_,_,_,_,h,_,_,_,_=>by simp[DataW.TrodAll]at h
def QN(C:aW)(f:FuncId)(ss:List Sh)(small:Nat):Prop :=
 ∀ds:List D,D.are ss ds→D.m_ ds≤small→∃out,Spec C f (encArgs ss ds) [] (.bool true) out
theorem VS.empty{M:Heap}(h:M.Ok):VS (λ_=>False) VI.none [] M :=
 ⟨λ_ _ h=>(nomatch h),λ_ _ _ _ _ h=>(nomatch h),λi x h=>by simp[bD]at h,λ_ h=>(nomatch h),λ_ h=>(nomatch h),h,λ_ h=>h.elim⟩
theorem M8:OR (λ_=>False) VI.none=λ_=>False:=by
 funext j
 simp[OR,own,VI.none]
theorem ED {H:Type} {enc:TypeId×Value→H} {P:Program} (hl:laidOutB P=true) {f:FuncId} {C:aW} (hg:Sound P f (C f)) {ss:List Sh} {small:Nat} (hp:QN C f ss small)
  {W:World} {k base:Nat} {ts:List TypeId} {args:Array Value} {ds:List (DataW H)} {p:List MemPlace} (hs:zJ P k ts=some ss) (ht:(ts.all λt=>decide (t<P.types.size))=true)
  (hval:∀(j:Nat) t v,ts[j]?=some t→args.toList[j]?=some v→Value.okWide P W .any base t v) (hA:DataW.TrodAll enc P W 0 (λ_=>true) true ts args.toList ds p) (hb:D.m_ (ds.map nS)≤small) :
  Calls P f args W λe W'=>e=.returned (.bool true)∧Below W.heap.size W W':=by
 obtain⟨ι,M,as,g1,g2,g3,g4⟩:=Cc hl ts ss args.toList ds p hs ht hval hA _ _ (R.empty W) (λb x h=>by simp[Heap.empty]at h)
 obtain⟨out,hH⟩:=hp _ g4 hb
 have hw:M.Ok:=λb hb=>(g1.rel.fresh b hb).1
 have g3':aZ M (OR (λ_=>False) VI.none) VI.none (encArgs ss (ds.map nS)) as:=by rw[M8];exact g3
 obtain⟨a,M',fU,e1,e2,_,e3⟩:=hH _ VI.none M as (VS.empty hw) g3'
 simp only[VL]at e3
 subst e3
 refine(hg as M _ M' e1 ι W args g1.rel g2).mono ?_
 rintro e w' ⟨aV,v',rfl,hv,htr⟩
 simp only[VR]at hv
 subst hv
 exact⟨rfl,Eb htr g1.ro⟩
def KK:Nat:=2000000000000
abbrev Tab:=CO×(FuncId→Option bX)
abbrev bB(A:Tab)(d:Nat):aW:=ig A.1 A.2 KK d
theorem VS.QO{R:Nat→Prop}{ι:VI}{H:WH}{M:Heap}(s:VS R ι H M)(y:fD):VS R ι H (M.push y)∧Stp H.length [] ι H M ι H (M.push y):=by
 have hk:Keeps M (own ι) (M.push y) (own ι):=⟨Nat.le_succ _,λb hb ho=>⟨by simp[Heap.push,Nat.ne_of_lt hb],ho⟩⟩
 refine⟨⟨λi j h=>?_,s.inj,λi x hx=>?_,s.kF,s.jm,λb hb=>?_,λj h=>⟨by simp only[Heap.push];have:=(s.res j h).1;omega,(s.res j h).2⟩⟩,⟨hk,.refl _ _,λ_ _ h=>h,λ_ _=>rfl,λ_ _=>rfl,λ_ _ _=>rfl,λ_ _ h=>h,λi j _ _ hj _=>?_,Nat.le_refl _⟩⟩
 ·have:=s.lt i j h
  simp only[Heap.push]
  omega
 ·rcases s.blk i x hx with h |⟨j,h1,h2,h3⟩
  ·exact .inl h
  refine .inr ⟨j,h1, ?_,h3⟩
  have:=(s.lt i j h1).2
  simp only[Heap.push,if_neg (show j≠M.next by omega)]
  exact h2.mono (hk.or R) (λ_=>.refl _ _) (λ_ h=>h)
 ·simp only[Heap.push]at hb ⊢
  rw[if_neg (by omega)]
  exact s.Em b (by omega)
 ·have:=(s.lt i j hj).2
  simp only[Heap.push,if_neg (show j≠M.next by omega)]
def sw(sz bytes:Nat)(zero:List AV):bX:={ nargs:=1,ntmps:=8,code:=(.seq (.reg [{ dst:=(some 2),op:=(.p (.move (.c (.slice none 1 0 0 true)))),guard:=none }]) (.seq (.seq (.reg [{ dst:=(some 3),op:=(.p (.move (.t 0))),guard:=none },{ dst:=(some 4),op:=(.p (.Ie false (.t 3) (.c (.slice none 1 0 0 true)))),guard:=none }]) (.cond (.t 4) (.seq (.reg [{ dst:=(some 2),op:=(.p (.move (.c (.slice none 1 0 0 true)))),guard:=none }]) .ret) .skip)) (.seq (.reg [{ dst:=(some 5),op:=(.k (.buildSlice sz 0 zero [])),guard:=none },{ dst:=(some 6),op:=(.p (.move (.t 0))),guard:=none },{ dst:=(some 7),op:=(.n (.append sz bytes (.t 5) (.t 6))),guard:=none },{ dst:=(some 2),op:=(.p (.move (.t 7))),guard:=none }]) .ret))),results:=[(.tmp 2)] }
theorem IQ (C:aW) (K sz bytes:Nat) (zero:List AV) (M:Heap) (sz' len cap:Nat) (ex:Bool) :
  bbody C K (sw sz bytes zero) [.slice none sz' len cap ex] M=some (.slice none 1 0 0 true,M):=by
 simp[bbody,sw,start,List.replicate,List.replicate_succ,jl,jk,ji,kD,Proofs.Ytkedeiklmpkgkaa.jg,jh,lV.sub,fM.sub,AX.sub,uF,aP,Cr,AX.ev,bP,fA,nU,tH]
theorem Gb (C:aW) (K sz bytes:Nat) (zero:List AV) (M:Heap) (q:Nat×Nat) (len cap:Nat) (ex:Bool) (n:Nat) (cs:List AV) (he:fT (.slice (some q) sz len cap ex) (M.push (.cells [] false false))=some (n,cs)) (hn:n*bytes≤70368744177664∧n≤70368744177664) :
  bbody C K (sw sz bytes zero) [.slice (some q) sz len cap ex] M=if n=0 then some (.slice (some (M.next,0)) sz 0 0 true,M.push (.cells [] false false))else some (.slice (some (M.next+1,0)) sz n n false,(M.push (.cells [] false false)).push (.cells cs false true)):=by
 have pn:∀(x:fD),(M.push x).next=M.next+1:=λ_=>rfl
 have hap:b_ sz bytes (.slice (some (M.next,0)) sz 0 0 true) n cs (M.push (.cells [] false false))=if n=0 then some (.slice (some (M.next,0)) sz 0 0 true,M.push (.cells [] false false))else some (.slice (some (M.next+1,0)) sz n n false,(M.push (.cells [] false false)).push (.cells cs false true)):=by
  unfold b_
  by_cases h0:n=0
  ·subst h0
   simp
  ·simp only
   rw[if_neg (by simp),if_neg (by omega),if_pos (by simpa using hn),if_neg h0]
   simp[pn]
 by_cases h0:n=0
 ·subst h0
  simp only[if_true]at hap ⊢
  simp[bbody,sw,start,List.replicate,List.replicate_succ,jl,jk,ji,kD,lV.sub,fM.sub,qV.sub,mP.sub,AX.sub,bP,Proofs.Ytkedeiklmpkgkaa.jg,jh,uF,aP,aK,aN,Cr,AX.ev,eD,iL,Mk.val,bL,he,hap,fA,nU,tH]
 ·simp only[if_neg h0]at hap ⊢
  simp[bbody,sw,start,List.replicate,List.replicate_succ,jl,jk,ji,kD,lV.sub,fM.sub,qV.sub,mP.sub,AX.sub,bP,Proofs.Ytkedeiklmpkgkaa.jg,jh,uF,aP,aK,aN,Cr,AX.ev,eD,iL,Mk.val,bL,he,hap,fA,nU,tH]
theorem EF{x:AV}{M:Heap}{y:fD}{n:Nat}{cs:List AV}(ok:M.Ok)(h:fT x M=some (n,cs)):fT x (M.push y)=some (n,cs):=by
 unfold fT at h ⊢
 split at h
 ·exact h
 ·split at h
  ·rename_i hl
   rw[if_pos hl]
   exact h
  ·rename_i hl
   rw[if_neg hl]
   obtain⟨c,h1,h2⟩:=av.1 h
   rw[av]
   refine⟨c, ?_,h2⟩
   rename_i b _ _ _ _ _
   have hb:M.get b≠none:=λe=>by simp[Heap.read,e]at h1
   have hne:b≠M.next:=λe=>hb (by rw[e];exact ok M.next (Nat.le_refl _))
   have:(M.push y).get b=M.get b:=by simp only[Heap.push,if_neg hne]
   simp only[Heap.read,this]at h1 ⊢
   exact h1
 ·exact h
 ·cases h
theorem IU{T:Tab}{d:Nat}{f:FuncId}{sz bytes:Nat}{zero:List AV}(hG:T.1 f=none)(hT:T.2 f=some (sw sz bytes zero)):FC (bB T (d+1)) f (.clone sz bytes):=by
 intro R ι H M args as dst tr k s hv h
 simp only[Qm]at h
 split at h
 case h_2=>exact h.elim
 rename_i v
 match as,hv with
 | [],hv=>simp[aZ]at hv
 | _::_::_,hv=>simp[aZ]at hv
 | [a],hv =>
 simp only[aZ]at hv
 replace hv:=hv.1
 have run:bB T (d+1) f [a] M=bbody (bB T d) KK (sw sz bytes zero) [a] M:=by simp only[bB,ig,hG,hT]
 rw[run]
 split at h
 ·exact h.elim
 rename_i hstr
 split at h
 case h_2=>exact h.elim
 rename_i n cs S hel
 obtain⟨_,h⟩:=zh h
 obtain⟨dZ,hf,hk⟩:=dY h
 have hf':=xC hf
 obtain⟨e1,e2,cs',e3,e4⟩:=xD s hv hel
 obtain⟨u1,u2⟩:=s.Ev S (r_ hel)
 have hlen:(nE H S).length=H.length:=jI S H
 have hn0:n=0→cs=[]:=λe=>by
  subst e
  rw[Nat.zero_mul]at e2
  exact List.eq_nil_of_length_eq_zero e2
 -- which it is
 have hcase:(∃s' l c x,a=.slice none s' l c x)∨∃q l c x,a=.slice (some q) sz l c x:=by
  cases a with
  | slice p s' l c x =>
   cases p with
   | none=>exact .inl ⟨_,_,_,_,rfl⟩
   | some q =>
    simp[bL]at e1
    subst e1
    exact .inr ⟨_,_,_,_,rfl⟩
  | str t =>
   exfalso
   cases v with
   | str t=>exact hstr t rfl
   | ptr p=>cases p<;>simp[VL]at hv
   | slice p=>cases p<;>simp[VL]at hv
   | map p=>cases p<;>simp[VL]at hv
   | _=>simp_all [VL,rW]
  | _=>simp[bL]at e1
 rcases hcase with⟨s',l,c,x,rfl⟩ |⟨q,l,c,x,rfl⟩
 ·simp only[fT,au,aD]at e3
  simp only[bL,beq_iff_eq]at e1
  obtain⟨rfl,rfl⟩:=e3
  subst e1
  obtain rfl:=hn0 rfl
  rw[IQ]
  obtain⟨aV,q1,q2,q3⟩:=vT u1 sz 1 none (by simp)
  rw[hlen]at q2 q3
  refine⟨_,M,aV,_,_,[],dZ,rfl,q1, ?_,q3,hk⟩
  have:=u2.trans q2 (Nat.le_refl _)
  simpa using this
 ·obtain⟨s1,k1⟩:=u1.QO (.cells [] false false)
  have he':=EF (y:=.cells [] false false) s.Em e3
  rw[Gb (bB T d) KK sz bytes zero M q l c x n cs' he' hf']
  by_cases hn:n=0
  ·rw[if_pos hn]
   obtain rfl:=hn0 hn
   subst hn
   obtain⟨aV,q1,q2,q3⟩:=vT s1 sz sz (some (M.next,0)) (λ_=>rfl)
   rw[hlen]at q2 q3 k1
   refine⟨_,_,aV,_,_,[],dZ,rfl,q1, ?_,q3,hk⟩
   have:=(u2.trans k1 (Nat.le_refl _)).trans q2 (Nat.le_refl _)
   simpa using this
  ·rw[if_neg hn]
   have e4':=aZ.BP k1 e4
   obtain⟨aV,q1,q2,q3⟩:=ze s1 (cs:=cs) (cs':=cs') e4' e2 false true
   rw[hlen]at q2 q3 k1
   refine⟨_,_,aV,_,_,[],dZ,rfl,q1, ?_,q3,hk⟩
   have:=(u2.trans k1 (Nat.le_refl _)).trans q2 (Nat.le_refl _)
   simpa using this
def EG(sz:Nat):bX:={ nargs:=1,ntmps:=9,code:=(.seq (.reg [{ dst:=(some 2),op:=(.p (.move (.c (.slice none 1 0 0 true)))),guard:=none }]) (.seq (.reg [{ dst:=(some 3),op:=(.p (.move (.t 0))),guard:=none },{ dst:=(some 4),op:=(.p (.move (.t 0))),guard:=none },{ dst:=(some 5),op:=(.p (.len false (.t 4))),guard:=none },{ dst:=(some 6),op:=(.p (.move (.t 0))),guard:=none },{ dst:=(some 7),op:=(.p (.len false (.t 6))),guard:=none },{ dst:=(some 8),op:=(.p (.slice sz (.t 3) none (some (.t 5)) (some (.t 7)))),guard:=none },{ dst:=(some 2),op:=(.p (.move (.t 8))),guard:=none }]) .ret)),results:=[(.tmp 2)] }
theorem vY (C:aW) (K sz:Nat) (M:Heap) (p:Option (Nat×Nat)) (s' n cap:Nat) (ex:Bool) (hn:n≤cap) (hp:p≠none→s'=sz) :
  bbody C K (EG sz) [.slice p s' n cap ex] M=some (.slice p sz n n true,M):=by
 have hs:dU sz p s' n cap ex [] none (some (.c (.int .i64 n))) (some (.c (.int .i64 n)))=some (.slice p sz n n true):=by
  unfold dU
  rw[if_pos (by cases p with
   | none=>exact .inl rfl
   | some p=>exact .inr (hp (by simp)))]
  have h1:(0:Int)≤n:=by omega
  have h2:(n:Int)≤cap:=by omega
  have h3:fE p 0=p:=by cases p<;>rfl
  simp[bg,gP,AX.ev,h1,h2,h3]
 simp[bbody,EG,start,List.replicate,List.replicate_succ,jl,jk,ji,kD,Proofs.Ytkedeiklmpkgkaa.jg,jh,lV.sub,fM.sub,AX.sub,AX.dQ,uF,aP,AX.ev,bP,hs,fA,nU,tH]
theorem Km{T:Tab}{d:Nat}{f:FuncId}{sz:Nat}(hG:T.1 f=none)(hT:T.2 f=some (EG sz)):FC (bB T (d+1)) f (.clip sz):=by
 intro R ι H M args as dst tr k s hv h
 have run:∀a,bB T (d+1) f [a] M=bbody (bB T d) KK (EG sz) [a] M:=λa=>by simp only[bB,ig,hG,hT]
 simp only[Qm]at h
 split at h
 ·match as,hv with
  | [],hv=>simp[aZ]at hv
  | _::_::_,hv=>simp[aZ]at hv
  | [a],hv =>
  simp only[aZ,VL]at hv
  obtain⟨_,s',rfl⟩:=hv.1
  rw[run,vY (bB T d) KK sz M none _ 0 0 true (Nat.le_refl _) (by simp)]
  exact⟨_,M,ι,_,H,[],tr,rfl,s,.refl _ _ _ _ _ (Nat.le_refl _),by simp[VL],h⟩
 ·match as,hv with
  | [],hv=>simp[aZ]at hv
  | _::_::_,hv=>simp[aZ]at hv
  | [a],hv =>
  split at h
  case h_2=>exact h.elim
  rename_i e
  obtain rfl:=aR e
  simp only[aZ,VL]at hv
  rcases hv.1 with⟨rfl,rfl,s',rfl⟩ |⟨b,o,cap,ex',rfl,h1,h2,h3,h4⟩
  ·rw[run,vY (bB T d) KK _ M none _ 0 0 true (Nat.le_refl _) (by simp)]
   exact⟨_,M,ι,_,H,[],tr,rfl,s,.refl _ _ _ _ _ (Nat.le_refl _),by simp[VL],h⟩
  ·rw[run,vY (bB T d) KK _ M (some (b,o)) _ _ cap ex' h1 (λ_=>rfl)]
   refine⟨_,M,ι,_,H,[],tr,rfl,s,.refl _ _ _ _ _ (Nat.le_refl _), ?_,h⟩
   simp only[VL]
   exact .inr ⟨b,o,_,true,rfl,Nat.le_refl _,λ_=>⟨rfl,rfl⟩,h3,h4⟩
 ·match as,hv with
  | [],hv=>simp[aZ]at hv
  | _::_::_,hv=>simp[aZ]at hv
  | [a],hv =>
  split at h
  case h_2=>exact h.elim
  rename_i e
  obtain rfl:=aR e
  simp only[aZ,VL]at hv
  obtain⟨p,s',cap,ex,rfl,g1,g2,g3,m,L,g4,g5,g6,g7⟩:=hv.1
  rw[run,vY (bB T d) KK _ M p s' _ cap ex g1 g3]
  refine⟨_,M,ι,_,H,[],tr,rfl,s,.refl _ _ _ _ _ (Nat.le_refl _), ?_,h⟩
  simp only[VL]
  refine⟨p,_,_,true,rfl,Nat.le_refl _,λhp=>⟨?_,rfl⟩,λ_=>rfl,m,L,g4,g5,g6, ?_⟩
  ·have:=(g2 hp).1
   omega
  ·rcases g7 with⟨j,q1,q2⟩ |⟨q1,q2,q3,q4,q5⟩
   ·refine .inl ⟨j,q1, ?_⟩
    rcases q2 with⟨q2,q3⟩ |⟨q2,q3,q4⟩
    ·exact .inl ⟨q2,Nat.le_trans (Nat.add_le_add_left (Nat.mul_le_mul_right _ g1) _) q3⟩
    ·exact .inr ⟨q2,q2,rfl⟩
   ·exact .inr ⟨q1,q2,q2,rfl,q5⟩
 ·exact h.elim
abbrev oP(d:Nat)(o:fM):jv:={ dst:=some d,op:=.p o,guard:=none }
abbrev oV(d s:Nat):jv:={ dst:=some d,op:=.p (.move (.t s)),guard:=none }
abbrev oC(d:Nat)(v:AV):jv:={ dst:=some d,op:=.p (.move (.c v)),guard:=none }
abbrev oN(d:Nat)(o:mP):jv:={ dst:=some d,op:=.n o,guard:=none }
abbrev oZ(o:mP):jv:={ dst:=none,op:=.n o,guard:=none }
abbrev oD(o:jv)(lo ix:Nat):bW:={ o:=o,lo:=lo,ix:=ix }
abbrev iC(n:Int):AX:=.c (.int .i64 n)
def OV(b:UInt8):AV:=.int .u8 b.toNat
def iY{α:Type}(L:List α)(i:Int):Option α:=if 0≤i then L[i.toNat]? else none
def IV{α:Type}(L:List α)(lo hi:Int):Option (List α):=if 0≤lo∧lo≤hi∧hi≤(L.length:Int)then some ((L.drop lo.toNat).take (hi.toNat-lo.toNat))else none
def IW(k:IntKind)(x y:Int):Int:=x.fdiv (2 ^ (min y.toNat k.bits))
def M9(k:IntKind)(x y:Int):Option Int:=if y=0 then none else some (x.tmod y)
def PS(k:IntKind)(x y:Int):Option Int:=if y<0 then none else some (k.wrap (x*2 ^ (min y.toNat k.bits)))
structure Row{α:Type}(F:List α→List AV)(e:α→List AV)(sz:Nat):Prop where
 nil:F []=[]
 cons:∀x l,F (x::l)=e x++F l
 len:∀x,(e x).length=sz
def mE{K V:Type}(ck:K→AV)(cv:V→AV)(l:List (K×V)):List (AV×AV):=l.map λp=>(ck p.1,cv p.2)
def OW{K:Type} [DecidableEq K](kd:Kd)(ck:K→AV):Prop:=∀a b,wT kd (ck a) (ck b)=some (decide (a=b))
theorem Kn:OW .s AV.str:=λa b=>by
 simp only[wT,au]
 rw[Bool.eq_iff_iff]
 simp
def f_{K V:Type} [DecidableEq K]:List (K×V)→K→Option V
 | [],_=>none
 | p::r,k=>if k=p.1 then some p.2 else f_ r k
def kY{K V:Type} [DecidableEq K]:List (K×V)→K→V→List (K×V)
 | [],k,v=>[(k,v)]
 | p::r,k,v=>if k=p.1 then (k,v)::r else p::kY r k v
def mq{K V:Type} [DecidableEq K]:List (K×V)→K→List (K×V)
 | [],_=>[]
 | p::r,k=>if k=p.1 then r else p::mq r k
section
variable {K V:Type} [DecidableEq K] {kd:Kd} {ck:K→AV} (hk:OW kd ck) (cv:V→AV)
include hk
theorem Hz:∀(l:List (K×V)) (k:K) (i:Nat),(f_ l k=none∧lg kd (ck k) (mE ck cv l) i=some none∧(∀v,mE ck cv (kY l k v)=mE ck cv l++[(ck k,cv v)])∧mq l k=l) ∨
  ∃n x,f_ l k=some x∧lg kd (ck k) (mE ck cv l) i=some (some (i+n,cv x))∧(∀v,mE ck cv (kY l k v)=(mE ck cv l).set n (ck k,cv v))∧mE ck cv (mq l k)=(mE ck cv l).eraseIdx n
 | [],k,i=>.inl ⟨rfl,rfl,λv=>rfl,rfl⟩
 | p::r,k,i=>by
  have e:lg kd (ck k) (mE ck cv (p::r)) i=match some (decide (k=p.1))with
   | some true=>some (some (i,cv p.2))
   | some false=>lg kd (ck k) (mE ck cv r) (i+1)
   | none=>none:=by
   rw[←hk k p.1]
   rfl
  by_cases h:k=p.1
  ·refine .inr ⟨0,p.2,by simp[f_,h],by rw[e];simp[h],λv=>by simp[kY,h,mE],by simp[mq,h,mE]⟩
  ·rcases Hz r k (i+1)with⟨h1,h2,h3,h4⟩ |⟨n,x,h1,h2,h3,h4⟩
   ·refine .inl ⟨by simp[f_,h,h1],by rw[e];simp[h,h2],λv=>?_,by simp[mq,h,h4]⟩
    have:=h3 v
    simp only[kY,if_neg h]
    simp only[mE,List.map_cons,List.cons_append]at this ⊢
    rw[this]
   ·refine .inr ⟨n+1,x,by simp[f_,h,h1],by rw[e];simp only[h,decide_false,h2];congr 3;omega,λv=>?_, ?_⟩
    ·have:=h3 v
     simp only[kY,if_neg h]
     simp only[mE,List.map_cons,List.set_cons_succ]at this ⊢
     rw[this]
    ·simp only[mq,if_neg h]
     simp only[mE,List.map_cons,List.eraseIdx_cons_succ]at h4 ⊢
     rw[h4]
theorem QS{l:List (K×V)}{k:K}{z:V}{x:V×Bool}(h:some ((f_ l k).getD z,(f_ l k).isSome)=some x):BG kd true (cv z) (ck k) (mE ck cv l)=some (.tuple [cv x.1,.bool x.2]):=by
 obtain rfl:=ak h
 unfold BG
 rcases Hz hk cv l k 0 with⟨h1,h2,_⟩ |⟨n,y,h1,h2,_⟩
 ·rw[h2,h1];rfl
 ·rw[h2,h1];rfl
theorem OX(l:List (K×V))(k:K)(v:V):zM kd (ck k) (cv v) (mE ck cv l)=some (mE ck cv (kY l k v)):=by
 unfold zM
 rcases Hz hk cv l k 0 with⟨_,h2,h3,_⟩ |⟨n,y,_,h2,h3,_⟩
 ·rw[h2,h3];rfl
 ·rw[h2,h3,Nat.zero_add];rfl
theorem QT(l:List (K×V))(k:K):Ej kd (ck k) (mE ck cv l)=some (mE ck cv (mq l k)):=by
 unfold Ej
 rcases Hz hk cv l k 0 with⟨_,h2,_,h4⟩ |⟨n,y,_,h2,_,h4⟩
 ·rw[h2,h4];rfl
 ·rw[h2,h4,Nat.zero_add];rfl
end
theorem Ko{K V:Type}(ck:K→AV)(cv:V→AV)(l:List (K×V)):@Eq (Option AV) (some (.int .i64 (mE ck cv l).length)) (some (.int .i64 l.length)):=by
 unfold mE
 rw[List.length_map]
theorem Df{α:Type}(c:α→AV):Row (λl=>l.map c) (λx=>[c x]) 1:=⟨rfl,λ_ _=>rfl,λ_=>rfl⟩
theorem EH{α:Type}{e:α→List AV}{sz:Nat}(h:∀x,(e x).length=sz):Row (λl=>l.flatMap e) e sz:=⟨rfl,λ_ _=>rfl,h⟩
section
variable {α:Type} {F:List α→List AV} {e:α→List AV} {sz:Nat} (hF:Row F e sz)
include hF
theorem Row.app:∀a b:List α,F (a++b)=F a++F b
 | [],b=>by simp[hF.nil]
 | x::a,b=>by rw[List.cons_append,hF.cons,hF.cons,Row.app a b,aY]
theorem Row.length:∀l:List α,(F l).length=l.length*sz
 | []=>by simp[hF.nil]
 | x::l=>by rw[hF.cons,aG,hF.len,Row.length l,bE,Nat.succ_mul,Nat.add_comm]
theorem Row.drop:∀(l:List α) (n:Nat),(F l).drop (n*sz)=F (l.drop n)
 | l,0=>by simp
 | [],n+1=>by simp[hF.nil]
 | x::l,n+1=>by
  rw[hF.cons,Nat.succ_mul,Nat.add_comm,List.drop_succ_cons,←Row.drop l n,←List.drop_drop,List.drop_left' (hF.len x)]
theorem Row.take:∀(l:List α) (n:Nat),(F l).take (n*sz)=F (l.take n)
 | l,0=>by simp[hF.nil]
 | [],n+1=>by simp[hF.nil]
 | x::l,n+1=>by
  rw[hF.cons,Nat.succ_mul,Nat.add_comm,List.take_succ_cons,hF.cons,←Row.take l n,List.take_append,hF.len,List.take_of_length_le (by rw[hF.len];omega)]
  congr 2
  omega
theorem Row.get{l:List α}{i:Nat}{x:α}(h:l[i]?=some x):(F l).drop (i*sz)=e x++F (l.drop (i+1)):=by
 rw[hF.drop]
 obtain⟨h1,h2⟩:=aF.1 h
 rw[List.drop_eq_getElem_cons h1,h2,hF.cons]
theorem qy{l:List α}{i:Int}{x:α}(h:iY l i=some x):0≤i∧i<(l.length:Int)∧l[i.toNat]?=some x:=by
 unfold iY at h
 split at h
 case isFalse=>cases h
 rename_i h0
 have:=(aF.1 h).1
 exact⟨h0,by omega,h⟩
theorem sD{l r:List α}{a b:Int}(h:IV l a b=some r):0≤a∧a≤b∧b≤(l.length:Int)∧r=(l.drop a.toNat).take (b.toNat-a.toNat)∧r.length=b.toNat-a.toNat:=by
 unfold IV at h
 split at h
 case isFalse=>cases h
 rename_i h0
 obtain rfl:=ak h
 refine⟨h0.1,h0.2.1,h0.2.2,rfl, ?_⟩
 simp only[aQ,aM]
 omega
theorem PU{l:List α}{i:Int}{x:α}{k:IntKind}{ex:Bool}(h:iY l i=some x):wP (.eY sz (.c (.list sz l.length (F l) ex)) (.c (.int k i)))=some (.elem (e x++F (l.drop (i.toNat+1)))):=by
 obtain⟨h1,h2,h3⟩:=qy hF h
 simp only[wP,AX.ev]
 rw[if_pos ⟨h1,h2,trivial⟩,hF.get h3]
theorem HV{l:List α}{i:Int}{x:α}{k:IntKind}{b:Nat}{w:Bool}(h:iY l i=some x):wP (.eY sz (.c (.acc b 0 sz l.length w)) (.c (.int k i)))=some (.ptr (some (b,0+i.toNat*sz))):=by
 obtain⟨h1,h2,h3⟩:=qy hF h
 simp only[wP,AX.ev]
 rw[if_pos ⟨h1,h2,trivial⟩]
theorem Dg{k:IntKind}{n:Nat}{i:Int}(h1:0≤i)(h2:i≤(n:Int)):gP (.int k i) n=some i.toNat:=by
 simp only[gP]
 rw[if_pos ⟨h1,h2⟩]
end
theorem HY{α:Type}(l r:List α):l.length+r.length=(l++r).length:=by simp
theorem PV{k:IntKind}{x y q:Int}(h:M9 k x y=some q):ql .rem k x y=some (.int k q):=by
 unfold M9 at h
 simp only[ql]
 split at h
 ·cases h
 ·rename_i e
  rw[if_neg e]
  obtain rfl:=ak h
  rfl
theorem Kq{s r:List UInt8}{b:Int}{k':IntKind}(h:IV s 0 b=some r):wP (.gB (.c (.str s)) none (some (.c (.int k' b))))=some (.str r):=by
 obtain⟨h1,h2,h3,h4,h5⟩:=sD (Df OV) h
 simp only[wP,aP,AX.ev,nJ,bg]
 rw[Dg (Df OV) h2 h3,aC,aC]
 simp only[Int.toNat_zero,Nat.sub_zero,List.drop_zero]at h4 ⊢
 rw[←h4]
theorem OY{α:Type}{F:List α→List AV}{c:α→AV}(hF:Row F (λx=>[c x]) 1){l:List α}{i:Int}{k:IntKind}{x:α}{n:Nat}(h:iY l i=some x)(hn:n=l.length:=by rfl):wP (.index false n 1 (.c (.agg (F l))) (.c (.int k i)))=some (c x):=by
 subst hn
 obtain⟨h1,h2,h3⟩:=qy hF h
 have:=hF.get h3
 simp only[wP,aP,AX.ev]
 rw[if_pos ⟨h1,h2⟩]
 have e:((F l).drop (i.toNat*1))[0]?=some (c x):=by rw[this];rfl
 rw[List.getElem?_drop]at e
 simp only[nM]
 simpa using e
def yY{α β:Type}:α⊕β→Bool
 |.inl _=>true
 |.inr _=>false
def Kr{α β:Type} [Inhabited α]:α⊕β→α
 |.inl x=>x
 |.inr _=>default
def uP{α β:Type} [Inhabited β]:α⊕β→β
 |.inl _=>default
 |.inr x=>x
theorem QU{α β:Type} [Inhabited α]{e:α⊕β}(h:yY e=true):e=.inl (Kr e):=by cases e<;>simp_all [yY,Kr]
theorem QV{α β:Type} [Inhabited β]{e:α⊕β}(h:yY e=false):e=.inr (uP e):=by cases e<;>simp_all [yY,uP]
instance PW{α β:Type} [Inhabited α]:Inhabited (α⊕β):=⟨.inl default⟩
theorem Ce:∀(n:Nat) {a b l:List AV},rV n a=some l→rV n (a++b)=some l
 | 0,_,_,_,h=>by simpa[rV]using h
 | n+1,[],_,_,h=>by simp[rV]at h
 | n+1,c::a,b,l,h=>by
  simp only[rV,List.cons_append]at h ⊢
  split at h
  ·rename_i l' hl
   rw[Ce n hl]
   exact h
  ·cases h
theorem HZ:∀ {a b:List AV} (o:Nat) {v:AV},G5 a o=some v→G5 (a++b) o=some v
 | [],_,_,_,h=>by simp[G5]at h
 | c::a,b,0,v,h=>by simpa[G5]using h
 | c::a,b,o+1,v,h=>by
  simp only[G5,List.cons_append]at h ⊢
  exact HZ o h
theorem EI:∀(c:List AV) (n o:Nat),G5 c (n+o)=G5 (c.drop n) o
 | c,0,o=>by simp
 | [],n+1,o=>by
  simp only[List.drop_nil]
  cases (n+1+o)<;>cases o<;>simp[G5]
 | x::c,n+1,o=>by
  rw[Nat.add_right_comm,List.drop_succ_cons,←EI c n o]
  rfl
theorem IX{a b:List AV}{agg:Bool}{o n:Nat}{v:AV}(h:nV agg o n a=some v):nV agg o n (a++b)=some v:=by
 cases agg with
 | false=>exact HZ o h
 | true =>
  simp only[nV]at h ⊢
  rw[List.drop_append]
  split at h
  ·rename_i l hl
   rw[Ce n hl]
   exact h
  ·cases h
theorem Gc{c:List AV}{agg:Bool}{m o n:Nat}:nV agg (m+o) n c=nV agg o n (c.drop m):=by
 cases agg with
 | false=>exact EI c m o
 | true=>simp only[nV,List.drop_drop]
section
variable {α:Type} {F:List α→List AV} {e:α→List AV} {sz:Nat} (hF:Row F e sz)
include hF
theorem PX{l:List α}{i:Int}{x:α}{agg:Bool}{o n:Nat}{v:AV}(h:iY l i=some x)(hv:nV agg o n (e x)=some v):nV agg (0+i.toNat*sz+o) n (F l)=some v:=by
 obtain⟨h1,h2,h3⟩:=qy hF h
 rw[Nat.zero_add,Gc,hF.get h3]
 exact IX hv
theorem M_{a b b' c cs:List AV}{o:Nat}(h:FB b o cs=some b'):FB (a++(b++c)) (a.length+o) cs=some (a++(b'++c)):=by
 unfold FB at h ⊢
 split at h
 case isFalse=>cases h
 rename_i hl
 obtain rfl:=ak h
 rw[if_pos (by simp only[aG];omega)]
 congr 1
 have e1:(a++(b++c)).take (a.length+o)=a++b.take o:=by
  rw[List.take_length_add_append,List.take_append_of_le_length (by omega)]
 have e2:(a++(b++c)).drop (a.length+o+cs.length)=b.drop (o+cs.length)++c:=by
  rw[Nat.add_assoc,List.drop_length_add_append,List.drop_append_of_le_length (by omega)]
 rw[e1,e2]
 simp
theorem Gd{l:List α}{i:Int}{x x':α}{o:Nat}{cs:List AV}(h:iY l i=some x)(hx:FB (e x) o cs=some (e x')):FB (F l) (0+i.toNat*sz+o) cs=some (F (l.set i.toNat x')):=by
 obtain⟨h1,h2,h3⟩:=qy hF h
 obtain⟨g1,g2⟩:=aF.1 h3
 have e0:F l=F (l.take i.toNat)++(e x++F (l.drop (i.toNat+1))):=by
  rw[←hF.get h3,←hF.take,List.take_append_drop]
 have e1:F (l.set i.toNat x')=F (l.take i.toNat)++(e x'++F (l.drop (i.toNat+1))):=by
  rw[←hF.cons,←hF.app,List.set_eq_take_append_cons_drop,if_pos g1]
 have e2:(F (l.take i.toNat)).length=i.toNat*sz:=by
  rw[hF.length,aQ]
  congr 1
  omega
 rw[e0,e1,Nat.zero_add,←e2]
 exact M_ hF hx
theorem vZ{l r:List α}{a b:Int}(h:IV l a b=some r):((F l).drop (0+a.toNat*sz)).take (r.length*sz)=F r:=by
 obtain⟨h1,h2,h3,h4,h5⟩:=sD hF h
 rw[Nat.zero_add,hF.drop,hF.take,h5,←h4]
theorem fP{l r:List α}{b:Int}(h:IV l 0 b=some r):((F l).drop 0).take (r.length*sz)=F r:=by
 obtain⟨h1,h2,h3,h4,h5⟩:=sD hF h
 simp only[Int.toNat_zero,List.drop_zero]at h4 h5 ⊢
 rw[hF.take,h5,←h4]
theorem iI{l r:List α}{b:Int}(h:IV l 0 b=some r):(F l).take (r.length*sz)=F r:=by
 have:=fP hF h
 rwa [List.drop_zero]at this
theorem EJ{l r:List α}{a:Int}{k:IntKind}{m:Nat}{w:Bool}(h:IV l a l.length=some r):wP (.slice sz (.c (.acc m 0 sz l.length w)) (some (.c (.int k a))) none none)=some (.acc m (0+a.toNat*sz) sz r.length false):=by
 obtain⟨h1,h2,h3,h4,h5⟩:=sD hF h
 simp only[wP,AX.ev,pE,if_true,bg,aC]
 rw[Dg hF h1 h2,aC]
 simp only[bn]at h5
 rw[h5]
theorem EK{l r:List α}{b:Int}{k:IntKind}{m:Nat}{w:Bool}(h:IV l 0 b=some r):wP (.slice sz (.c (.acc m 0 sz l.length w)) none (some (.c (.int k b))) none)=some (.acc m 0 sz r.length false):=by
 obtain⟨h1,h2,h3,h4,h5⟩:=sD hF h
 simp only[wP,AX.ev,pE,if_true,bg]
 rw[Dg hF h2 h3,aC,aC]
 simp only[Int.toNat_zero,Nat.sub_zero]at h5
 rw[h5,Nat.zero_mul,Nat.sub_zero]
end
abbrev kZ(f:Fast→Heap→yN)(np:Nat)(i:Fast×WH)(o:Ex×Fast×WH):Prop:=FW f np i.1 i.2 o.1 o.2.1 o.2.2
abbrev Jc(keep:List Nat)(p:List AV×WH):Fast×WH:=(gI keep p.1,p.2)
theorem PY{k k':IntKind}{x y q:Int}(h:PS k x y=some q):yK .shl (.int k x) (.int k' y)=some (.int k q):=by
 unfold PS at h
 simp only[yK]
 split at h
 ·cases h
 ·rename_i e
  rw[if_neg e]
  obtain rfl:=ak h
  rfl
def mV{α:Type}(l:List α)(i:Int)(x:α):List α:=l.take i.toNat++(x::l.drop i.toNat)
def EL(bytes:Nat)(i:Int)(n:Nat):Bool:=decide (0≤i∧i≤(n:Int))&&fZ bytes (n+1)
theorem Gf{bytes n:Nat}{i:Int}(h:EL bytes i n=true):0≤i∧i≤(n:Int):=by
 simp only[EL,Bool.and_eq_true,decide_eq_true_eq]at h
 exact h.1
theorem Gg{bytes:Nat}{i:Int}{α:Type}{l:List α}{x:α}(h:EL bytes i l.length=true):l.length+1=(mV l i x).length:=by
 have:=Gf h
 simp only[mV,aG,aQ,bE,aM]
 omega
theorem Kt{bytes:Nat}{i:Int}{α:Type}{l:List α}{x:α}(h:EL bytes i l.length=true):fZ bytes (mV l i x).length=true:=by
 rw[←Gg h]
 simp only[EL,Bool.and_eq_true]at h
 exact h.2
theorem H6{α:Type}{F:List α→List AV}{e:α→List AV}{sz:Nat}(hF:Row F e sz){l:List α}{i:Int}{x:α}{cs:List AV}(h:cs=e x):(F l).take (i.toNat*sz)++(cs++(F l).drop (i.toNat*sz))=F (mV l i x):=by
 subst h
 unfold mV
 rw[hF.app,hF.cons,hF.take,hF.drop]
def nZ{α:Type}(l:List α)(i j:Int):List α:=l.take i.toNat++l.drop j.toNat
def Ku(i j:Int)(n:Nat):Bool:=decide (0≤i∧i<j∧j≤(n:Int))
theorem Gh{n:Nat}{i j:Int}(h:Ku i j n=true):0≤i∧i<j∧j≤(n:Int):=of_decide_eq_true h
theorem Kv{i j:Int}{α:Type}{l:List α}(h:Ku i j l.length=true):l.length-(j.toNat-i.toNat)=(nZ l i j).length:=by
 have:=Gh h
 simp only[nZ,aG,aQ,aM]
 omega
theorem H7{α:Type}{F:List α→List AV}{e:α→List AV}{sz:Nat}(hF:Row F e sz){l:List α}{i j:Int}:(F l).take (i.toNat*sz)++(F l).drop (j.toNat*sz)=F (nZ l i j):=by
 unfold nZ
 rw[hF.app,hF.take,hF.drop]
section
variable {α:Type} {F:List α→List AV} {e:α→List AV} {sz:Nat} (hF:Row F e sz)
include hF
end
theorem nB{C:aW}(f:FuncId)(b:Bt)(h:(λ_=>none:FuncId→Option Bt) f=some b):FC C f b:=by cases h
theorem il{α β:Type} [Inhabited α]{e:α⊕β}(h:yY e=true):e=.inl (Kr e):=QU h
theorem Qp{α β:Type} [Inhabited β]{e:α⊕β}(h:yY e=false):e=.inr (uP e):=QV h
theorem Jd{β:Type}{fin:β→Ex×Fast×WH}{r r':β}(e:r=r'){f:Fast→Heap→yN}{np:Nat}{i:Fast×WH}(h:kZ f np i (fin r)):kZ f np i (fin r'):=e ▸ h
def codeOf:Option bX→cZ
 | some f=>f.code
 | none=>.fail
def cA:cZ→cZ
 |.seq a _=>a
 | c=>c
def cB:cZ→cZ
 |.seq _ b=>b
 | c=>c
def cT:cZ→cZ
 |.cond _ a _=>a
 | c=>c
def cF:cZ→cZ
 |.cond _ _ b=>b
 | c=>c
def cK:cZ→cZ
 |.block _ c=>c
 | c=>c
def cL:cZ→cZ
 |.loop _ c=>c
 | c=>c
def En(keep:List Nat):Lf:=.en keep (keep.map λ_=>none) [] []
def E0{Q:Type}{v:Q}(keep:List Nat):Tc (some v):=.leaf (En keep) v
def E1{Q:Type}{v:Q}(keep:List Nat)(ms bs:List (Option Bool))(ts:List AV):Tc (some v):=.leaf (.en keep ms bs ts) v
def Fn{Q:Type}{v:Q}(m:Option Bool)(ts:List AV)(mc:Option Bool):Tc (some v):=.leaf (.fin m ts mc) v
def Fo:Option Bool:=some false
def Tw:Option Bool:=some true
def uo{G:CO}{T:FuncId→Option bX}{f:FuncId}{x:bX}(hG:G f=none)(hT:T f=some x)(hc:x.code.bN=true):G f=none∧T f=some x∧x.code.bN=true:=⟨hG,hT,hc⟩
section
variable {Q:Type} {f:Option Q}
section
variable {α:Type} {F:List α→List AV} {e:α→List AV} {sz:Nat} (hF:Row F e sz) {l r:List α} {i j:Int} {x:α}
def Ix(d:Nat)(h:iY l i=some x)(k:Tc f):Tc f:=.v d (.elem (e x++F (l.drop (i.toNat+1)))) (.ob (PU (k:=.i64) (ex:=false) hF h) k)
def Ia(d b:Nat)(h:iY l i=some x)(k:Tc f):Tc f:=.v d (.ptr (some (b,0+i.toNat*sz))) (.ob (HV (k:=.i64) (b:=b) (w:=true) hF h) k)
def Ld(d:Nat)(agg:Bool)(n o:Nat)(h:iY l i=some x)(u:AV)(hv:nV agg o n (e x)=some u)(k:Tc f):Tc f:=.v d u (.ob (PX hF h hv) k)
end
def Ug{α:Type}{F:List α→List AV}{e:α→List AV}{sz:Nat}(_:Row F e sz)(d:Nat){r:List α}{b:Nat}(h:fZ b r.length=true)(k:Tc f):Tc f:=.ap d r.length (F r) (.ob (Nat.zero_add r.length) (.ob (@rfl _ (F r)) (.ob h k)))
def Cl(ms:List (Option Bool))(m:Option Bool)(ts:List AV){C:aW}{g:FuncId}{args:List AV}{blks:WH}{v:AV}{out:WH}(h:Spec C g args blks v out)(r:Tc f):Tc f:=.call ms m ts v out (.ob h r)
def EM{C:aW}{g:FuncId}{args:List AV}{blks:WH}{v:AV}{out:WH}(h:Spec C g args blks v out)(r:Tc f):Tc f:=.call [] none [] v out (.ob h r)
def Cb(ts:List AV){C:aW}{g:FuncId}{args:List AV}{blks:WH}{v:AV}{out:WH}(h:Spec C g args blks v out)(r:Tc f):Tc f:=.cb [] ts v (.ob h r)
def uQ{C:aW}{g:FuncId}{args:List AV}{blks:WH}{v:AV}{out:WH}(h:Spec C g args blks v out)(r:Tc f):Tc f:=.cb [] [] v (.ob h r)
def Lp(ms bs:List (Option Bool))(ts:List AV){run:Fast→Heap→yN}{np:Nat}{i:Fast×WH}{o:Ex×Fast×WH}(h:kZ run np i o)(r:Tc f):Tc f:=.lp ms bs ts o.1 o.2.1 o.2.2 (.ob h r)
def Jn(keep:List Nat)(ms bs:List (Option Bool))(ts:List AV){run:Fast→Heap→yN}{np:Nat}{i:Fast×WH}{o:Ex×Fast×WH}(h:kZ run np i o)(r:Tc f):Tc f:=.jn keep ms bs ts o.1 o.2.1 o.2.2 (.ob h r)
end
structure Rt(s:Sh){α:Type}(e:α→List AV)(bk:α→Nat)(ok:α→Prop):Prop where
 rd:∀d,D.is s d→∃x,encS s d=e x∧bk x≤D.bulk d∧ok x
 sz:∀x,(e x).length=lN s
abbrev OZ(x:Int):Prop:=-9223372036854775808≤x∧x≤9223372036854775807
abbrev eI(x:Int):List AV:=[.int .i64 x]
abbrev eS(x:List UInt8):List AV:=[.str x]
abbrev bk1{α:Type}(_:α):Nat:=1
abbrev Ti(x:List UInt8):Nat:=x.length+1
abbrev Tj{α:Type}(_:α):Prop:=True
def QW{α:Type}(bk:α→Nat)(l:List α):Nat:=(l.map bk).sum+1
def Tk{α:Type}(ok:α→Prop)(l:List α):Prop:=∀x∈l,ok x
theorem Gi:Rt (.int .i64) eI bk1 OZ:=⟨λd h=>by
 obtain⟨n,rfl,h1,h2⟩:=h
 exact⟨n,rfl,by simp[D.bulk],h1,h2⟩,λ_=>rfl⟩
theorem R4:Rt .str eS Ti Tj:=⟨λd h=>by
 obtain⟨s,rfl⟩:=h
 exact⟨s,rfl,by simp[D.bulk],trivial⟩,λ_=>rfl⟩
theorem R5 {s:Sh} {α:Type} {e:α→List AV} {bk:α→Nat} {ok:α→Prop} {F:List α→List AV} {n:Nat} (r:Rt s e bk ok) (hF:Row F e n) (hn:lN s=n) :
  Rt (.list s) (λl=>[.list n l.length (F l) false]) (QW bk) (Tk ok):=⟨λd h=>by
 obtain⟨l,rfl,h⟩:=h
 have key:∀l:List D,(∀d∈l,D.is s d)→∃x:List α,x.length=l.length∧Db s l=x.flatMap e∧(x.map bk).sum≤D.m_ l∧∀y∈x,ok y:=by
  intro l
  induction l with
  | nil=>intro _;exact⟨[],rfl,rfl,by simp[D.m_],by simp⟩
  | cons d r' ih =>
   intro h
   obtain⟨y,h1,h2,h3⟩:=r.rd d (h d (by simp))
   obtain⟨x,q0,q1,q2,q3⟩:=ih λz hz=>h z (by simp[hz])
   refine⟨y::x,by simp[q0],by simp only[Db,h1,q1,List.flatMap_cons],by simp only[List.map_cons,List.sum_cons,D.m_];omega, ?_⟩
   intro z hz
   rcases List.mem_cons.1 hz with rfl | hz
   ·exact h3
   ·exact q3 z hz
 obtain⟨x,q0,q1,q2,q3⟩:=key l h
 refine⟨x, ?_,by simp only[QW,D.bulk];omega,q3⟩
 have hr:F x=x.flatMap e:=by
  clear q0 q1 q2 q3
  induction x with
  | nil=>rw[hF.nil];rfl
  | cons y x ih=>rw[hF.cons,ih,List.flatMap_cons]
 simp only[encS,q0,q1,hn,hr],λ_=>rfl⟩
theorem QX {ss:List Sh} {α:Type} {e:α→List AV} {bk:α→Nat} {ok:α→Prop} (sz:∀x,(e x).length=nG ss)
  (h:∀l,D.are ss l→∃x,um ss l=e x∧bk x≤D.m_ l+1∧ok x):Rt (.agg ss) e bk ok:=⟨λd h0=>by
 obtain⟨l,rfl,hl⟩:=h0
 obtain⟨x,h1,h2,h3⟩:=h l hl
 exact⟨x,h1,h2,h3⟩,sz⟩
theorem jq {s:Sh} {ss:List Sh} {α:Type} {e:α→List AV} {bk:α→Nat} {ok:α→Prop} (r:Rt s e bk ok) {ds:List D} (h:D.are (s::ss) ds) :
  ∃d q,ds=d::q∧D.are ss q∧∃x,encS s d=e x∧bk x≤D.bulk d∧ok x:=by
 obtain⟨d,q,h1,h2,h3⟩:=JQ h
 exact⟨d,q,h1,h3,r.rd d h2⟩
theorem Na{α:Type}{bk:α→Nat}(h:∀x,1≤bk x)(l:List α):l.length+1≤QW bk l:=by
 have:l.length≤(l.map bk).sum:=by
  induction l with
  | nil=>simp
  | cons y l ih =>
   have:=h y
   simp only[List.map_cons,List.sum_cons,bE]
   omega
 unfold QW
 omega
end Go.Proofs.Ytkedeiklmpkgkaa
