import Derived.Test.YtkedeiklmpkgkaaJ3
set_option linter.all false
namespace Go.Proofs.Ytkedeiklmpkgkaa
def NR(R:Nat→Prop)(ι:VI)(H:WH)(M:Heap)(v:AV)(H':WH)(a:AV):Prop:=∃aX,VS R aX H' M∧Stp H.length [] ι H M aX H' M∧VL M (OR R aX) aX v a
def S9(R:Nat→Prop)(ι:VI)(H:WH)(M:Heap)(v:List AV)(H':WH)(a:List AV):Prop:=∃aX,VS R aX H' M∧Stp H.length [] ι H M aX H' M∧bf M (OR R aX) aX v a
theorem NR.quiet{R:Nat→Prop}{ι:VI}{H:WH}{M:Heap}(s:VS R ι H M){v a:AV}(h:VL M (OR R ι) ι v a):NR R ι H M v H a:=⟨ι,s,.refl _ _ _ _ _ (Nat.le_refl _),h⟩
theorem zT {R:Nat→Prop} {ι:VI} {H:WH} {M:Heap} (s:VS R ι H M) {cs cs':List AV} (h:bf M (OR R ι) VI.none cs cs') {sz n:Nat} (hl:cs.length=n*sz) (ex sl:Bool) :
  ∃aX,VS R aX (H++[some (.cells cs false true)]) (M.push (.cells cs' false sl))∧Stp H.length [] ι H M aX (H++[some (.cells cs false true)]) (M.push (.cells cs' false sl)) ∧
   VL (M.push (.cells cs' false sl)) (OR R aX) aX (.acc H.length 0 sz n true) (.slice (some (M.next,0)) sz n n ex):=by
 have hl':=h.length
 obtain⟨h1,h2⟩:=s.push (x:=.cells cs false true) (y:=.cells cs' false sl) (d:=(cs.length,cs'.length)) ⟨cs',[],false,sl,cs'.length,by simp,λ_=>rfl,rfl,by simp,by simpa using h,λh=>by cases h⟩
 refine⟨_,h1,h2, ?_⟩
 simp only[VL]
 refine⟨_,_,_,_,rfl,Nat.le_refl _,(λh=>by cases h),λ_=>rfl,cs.length,cs'.length,by simp[VI.add,setAt],by omega,λ_=>⟨trivial,hl.symm⟩,.inl ⟨M.next,by simp[VI.add,setAt],.inl ⟨rfl,by omega⟩⟩⟩
theorem w_ {R:Nat→Prop} {ι:VI} {H:WH} {M:Heap} (s:VS R ι H M) (sz s':Nat) (p:Option (Nat×Nat)) (hp:p≠none→s'=sz) :
  ∃aX,VS R aX (H++[some (.cells [] false true)]) M∧Stp H.length [] ι H M aX (H++[some (.cells [] false true)]) M∧VL M (OR R aX) aX (.acc H.length 0 sz 0 true) (.slice p s' 0 0 true):=by
 obtain⟨h1,h2⟩:=s.NC
 refine⟨_,h1,h2, ?_⟩
 simp only[VL]
 exact⟨_,_,_,_,rfl,Nat.le_refl _,by simp,hp,0,0,by simp[VI.dN,setAt],by omega,by simp,.inr ⟨by simp[VI.dN,setAt],by simp⟩⟩
theorem zU {R:Nat→Prop} {ι:VI} {H:WH} {M:Heap} (s:VS R ι H M) {b j:Nat} (hb:ι b=some j) {c0:List AV} {sl0:Bool} (hg:bE H b=some (.cells c0 false sl0)) {cs cs' t:List AV} {ro sl:Bool} {L:Nat}
  (hj:M.get j=some (.cells (cs'++t) ro sl)) (hro:ro=false) (h:bf M (OR R ι) VI.none cs cs') (hL:L≤(cs'++t).length) {sz n cap:Nat} (hl:cs.length=n*sz) {p:Option (Nat×Nat)} {s':Nat} {ex:Bool} (hn:n≤cap) (hnp:p=none→cap=0∧ex=true) (hs:p≠none→s'=sz)
  (hp:(p=some (j,0)∧cap*sz≤L)∨(n=0∧cap=0∧ex=true)) :
  ∃aX,VS R aX (dM H b none++[some (.cells cs false true)]) M∧Stp H.length [b] ι H M aX (dM H b none++[some (.cells cs false true)]) M∧VL M (OR R aX) aX (.acc H.length 0 sz n true) (.slice p s' n cap ex):=by
 obtain⟨h1,h2,h3⟩:=s.swap hb hg (x:=.cells cs false true) (y:=.cells (cs'++t) ro sl) (d:=(cs.length,L)) ⟨cs',t,ro,sl,L,rfl,λ_=>hro,rfl,hL,by simpa using h⟩
 rw[Heap.wV hj]at h1 h2
 refine⟨_,h1,h2, ?_⟩
 simp only[VL]
 exact⟨_,_,_,_,rfl,hn,hnp,hs,cs.length,L,by simp[VI.add,setAt],by omega,λ_=>⟨trivial,hl.symm⟩,.inl ⟨j,h3,hp.imp (λh=>⟨h.1,by omega⟩) (λh=>h)⟩⟩
theorem Stp.still{n:Nat}{t t':List Nat}{ι gH:VI}{H H1:WH}{M:Heap}(h:Stp n t ι H M gH H1 M):Stp n t' ι H M gH H1 M :=
 ⟨h.keep,h.le,h.gone,h.Py,h.GH,h.CG,h.live,λ_ _ _ _ _ _=>rfl,h.next⟩
theorem ND {R:Nat→Prop} {ι:VI} {H:WH} {M:Heap} (s:VS R ι H M) {b sz n:Nat} {w:Bool} {a:AV} (h:VL M (OR R ι) ι (.acc b 0 sz n w) a) {c:List AV} (hg:bE H b=some (.cells c false true)) :
  NR R ι H M (.acc H.length 0 sz n true) (dM H b none++[some (.cells (c.take (n*sz)) false true)]) a:=by
 obtain⟨k1,k2,p,s',cap,ex,rfl,k3,k4,k5⟩:=VL.kE s h hg
 simp only[Nat.zero_add]at k1
 have hnp:p=none→cap=0∧ex=true:=by
  simp only[VL]at h
  obtain⟨_,_,_,_,e,_,q,_⟩:=h
  simp only[AV.slice.injEq]at e
  obtain⟨rfl,rfl,_,rfl,rfl⟩:=e
  exact q
 have hlt:(c.take (n*sz)).length=n*sz:=by simp only[aQ];omega
 have part:∀ {c' t:List AV},(c'.take (n*sz))++(c'.drop (n*sz)++t)=c'++t:=λ{c' t}=>by rw[←aZ,List.take_append_drop]
 rcases k5 with⟨j,c',t,ro',sl',L,g1,g2,g3,g4,g5,g6,rfl,g7⟩ |⟨rfl,rfl,rfl,⟨j,c',t,ro',sl',L,g1,g2,g3,g4,g5,g6⟩ |⟨g1,rfl,_⟩⟩
 ·simp only[if_true]at g6
  obtain⟨aX,q1,q2,q3⟩:=zU s g1 hg (cs:=c.take (n*sz)) (cs':=c'.take (n*sz)) (t:=c'.drop (n*sz)++t) (by rw[part];exact g2) (g3 rfl).1 (g6.take _) (by rw[part];exact g5) hlt k3 hnp k4 (.inl ⟨rfl,by omega⟩)
  exact⟨aX,q1,q2.still,q3⟩
 ·simp only[if_true]at g6
  obtain⟨aX,q1,q2,q3⟩:=zU s g1 hg (cs:=c.take (0*sz)) (cs':=c'.take (0*sz)) (t:=c'.drop (0*sz)++t) (by rw[part];exact g2) (g3 rfl).1 (g6.take _) (by rw[part];exact g5) hlt k3 hnp k4 (.inr ⟨rfl,rfl,rfl⟩)
  exact⟨aX,q1,q2.still,q3⟩
 ·obtain⟨h1,h2⟩:=s.IC g1
  obtain⟨aX,q1,q2,q3⟩:=w_ h1 sz s' p k4
  rw[bR]at q2 q3
  refine⟨aX,by simpa using q1, ?_,q3⟩
  have:=h2.trans q2 (Nat.le_refl _)
  simpa using this.still
mutual
theorem IK{R:Nat→Prop}(v:AV)(H:WH)(ι:VI)(M:Heap)(a:AV)(s:VS R ι H M)(h:VL M (OR R ι) ι v a):NR R ι H M (Jt v H).1 (Jt v H).2 a:=by
 rw[Jt.eq_def]
 split
 ·simp only[VL]at h
  obtain⟨_,s',rfl⟩:=h
  exact w_ s _ s' none (λh=>absurd rfl h)
 ·split
  ·rename_i w _ c hg
   have ht:=ND s h hg
   cases w with
   | false=>exact ht
   | true =>
    have hc:=(VL.kE s h hg).2.1 rfl
    simp only[Pw]
    rw[List.take_of_length_le (by omega)]at ht
    exact ht
  ·exact NR.quiet s h
 ·rename_i cs
  simp only[VL]at h
  obtain⟨cs',rfl,h⟩:=h
  obtain⟨aX,h1,h2,h3⟩:=AQ cs H ι M cs' s h
  split
  rename_i l H' e
  rw[e]at h1 h2 h3
  exact⟨aX,h1,h2,by simp only[VL];exact⟨cs',rfl,h3⟩⟩
 ·rename_i cs
  simp only[VL]at h
  obtain⟨cs',rfl,h⟩:=h
  obtain⟨aX,h1,h2,h3⟩:=AQ cs H ι M cs' s h
  split
  rename_i l H' e
  rw[e]at h1 h2 h3
  exact⟨aX,h1,h2,by simp only[VL];exact⟨cs',rfl,h3⟩⟩
 ·exact NR.quiet s h
termination_by SizeOf.sizeOf v
theorem AQ{R:Nat→Prop}(v:List AV)(H:WH)(ι:VI)(M:Heap)(a:List AV)(s:VS R ι H M)(h:bf M (OR R ι) ι v a):S9 R ι H M (CB v H).1 (CB v H).2 a:=by
 rw[CB.eq_def]
 split
 ·exact⟨ι,s,.refl _ _ _ _ _ (Nat.le_refl _),h⟩
 ·rename_i v r
  cases a with
  | nil=>simp[bf]at h
  | cons a l =>
   simp only[bf]at h
   obtain⟨gH,h1,h2,h3⟩:=IK v H ι M a s h.1
   obtain⟨mo,k1,k2,k3⟩:=AQ r (Jt v H).2 gH M l h1 (bf.step s h2 h.2)
   split
   rename_i x1 x2 e
   rw[e]at h1 h2 h3 k1 k2 k3
   split
   rename_i y1 y2 e'
   rw[e']at k1 k2 k3
   refine⟨mo,k1, ?_,by simp only[bf];exact⟨VL.step h1 k2 h3,k3⟩⟩
   have:=h2.trans k2 h2.next
   simpa using this
termination_by SizeOf.sizeOf v
end
theorem GQ{R:Nat→Prop}(m:Option Bool){v:AV}{H:WH}{ι:VI}{M:Heap}{a:AV}(s:VS R ι H M)(h:VL M (OR R ι) ι v a):NR R ι H M (Qt m v H).1 (Qt m v H).2 a:=by
 match m with
 | none=>exact NR.quiet s h
 | some true=>exact IK v H ι M a s h
 | some false =>
  simp only[Qt]
  split
  case h_2=>exact NR.quiet s h
  rename_i p hp
  obtain⟨h1,h2⟩:=s.Fy p.2 (iX 5 false v p hp)
  refine⟨_,h1,h2, ?_⟩
  have:=DY s (O':=OR R (ι.jM p.2)) (λj h=>h.imp wY id) (jX:=ι.jM p.2) (AO _ _ _) 5 false v p a hp h (λb hb j hj=>?_)
  ·exact this
  ·have lv:=iX 5 false v p hp b hb
   rintro(⟨i,q1,q2⟩ | hR)
   ·simp only[VI.jM,Bool.or_eq_false_iff]at q1 q2
    have:=s.inj i b j (.inr q2.1) (.inl lv) q1 hj (.inl q2.1)
    subst this
    rw[kZ.2 hb]at q2
    cases q2.2
   ·exact(s.res j hR).2 b (.inl lv) hj
theorem xg{R:Nat→Prop}:∀(ms:List (Option Bool)) (v:List AV) (H:WH) (ι:VI) (M:Heap) (a:List AV),VS R ι H M→bf M (OR R ι) ι v a→S9 R ι H M (uM ms v H).1 (uM ms v H).2 a
 | ms,[],H,ι,M,a,s,h=>by
  simp only[uM]
  exact⟨ι,s,.refl _ _ _ _ _ (Nat.le_refl _),h⟩
 | ms,v::r,H,ι,M,a,s,h=>by
  cases a with
  | nil=>simp[bf]at h
  | cons a l =>
   simp only[bf]at h
   obtain⟨gH,h1,h2,h3⟩:=GQ (ms.headD (some false)) s h.1
   obtain⟨mo,k1,k2,k3⟩:=xg ms.tail r _ gH M l h1 (bf.step s h2 h.2)
   simp only[uM]
   refine⟨mo,k1, ?_,by simp only[bf];exact⟨VL.step h1 k2 h3,k3⟩⟩
   have:=h2.trans k2 h2.next
   simpa using this
theorem IL{R:Nat→Prop}(m:Option Bool):∀(v:List AV) (H:WH) (ι:VI) (M:Heap) (a:List AV),VS R ι H M→bf M (OR R ι) ι v a→S9 R ι H M (Fb m v H).1 (Fb m v H).2 a
 | [],H,ι,M,a,s,h=>by
  simp only[Fb]
  exact⟨ι,s,.refl _ _ _ _ _ (Nat.le_refl _),h⟩
 | v::r,H,ι,M,a,s,h=>by
  cases a with
  | nil=>simp[bf]at h
  | cons a l =>
   simp only[bf]at h
   obtain⟨gH,h1,h2,h3⟩:=GQ m s h.1
   obtain⟨mo,k1,k2,k3⟩:=IL m r _ gH M l h1 (bf.step s h2 h.2)
   simp only[Fb]
   refine⟨mo,k1, ?_,by simp only[bf];exact⟨VL.step h1 k2 h3,k3⟩⟩
   have:=h2.trans k2 h2.next
   simpa using this
theorem VS.Qy {R:Nat→Prop} {ι:VI} {H:WH} {M:Heap} (s:VS R ι H M) {b:Nat} {c c':List AV} {ro:Bool} (hg:bE H b=some (.cells c ro false)) (hc:∀j d t ro' sl',ι b=some j→M.get j=some (.cells (d++t) ro' sl')→d.length=c.length→bf M (OR R ι) ι c' d) (hl:c'.length=c.length) :
  VS R ι (dM H b (some (.cells c' ro false))) M∧Stp H.length [] ι H M ι (dM H b (some (.cells c' ro false))) M:=by
 have hbl:=je hg
 have gp:∀k,bE (dM H b (some (.cells c' ro false))) k=if k=b then some (.cells c' ro false)else bE H k:=λk=>by
  rw[iV]
  by_cases e:k=b
  ·rw[if_pos ⟨e,hbl⟩,if_pos e]
  ·rw[if_neg (λh=>e h.1),if_neg e]
 have lv:∀k,(∃z,bE (dM H b (some (.cells c' ro false))) k=some z)→∃z,bE H k=some z:=λk ⟨z,hz⟩=>by
  rw[gp]at hz
  by_cases e:k=b
  ·exact⟨_,e ▸ hg⟩
  ·rw[if_neg e]at hz
   exact⟨z,hz⟩
 refine⟨⟨λi j h=>by rw[bR];exact s.lt i j h,λi i' j h h' e e'=>s.inj i i' j (h.imp (lv i) id) (h'.imp (lv i') id) e e',λi z hz=>?_,λi h=>by rw[bR];exact s.kW i h,λi hi c1 sl h=>?_,s.Fj,λj h=>⟨(s.res j h).1,λi hi=>(s.res j h).2 i (hi.imp (lv i) id)⟩⟩,
  ⟨.refl _ _,.refl _ _,λ_ _ h=>h,λ_ _=>rfl,λ_ _=>rfl,λ_ _ _=>rfl,λi _=>lv i,λ_ _ _ _ _ _=>rfl,by rw[bR];exact Nat.le_refl _⟩⟩
 ·rw[gp]at hz
  by_cases e:i=b
  ·subst e
   rw[if_pos rfl]at hz
   obtain rfl:=ak hz
   rcases s.blk i _ hg with⟨_,_,ro',h⟩ |⟨j,h1,⟨d,t,ro',sl',L,g1,g2,g3,g4,g5,g6⟩,h2⟩
   ·cases h
   ·exact .inr ⟨j,h1,⟨d,t,ro',sl',L,g1,g2,by rw[hl];exact g3,g4,by simpa using hc j d t ro' sl' h1 g1 g5.length.symm,g6⟩,h2⟩
  ·rw[if_neg e]at hz
   exact s.blk i z hz
 ·rw[gp]at h
  by_cases e:i=b
  ·rw[if_pos e]at h
   subst e
   cases h
   exact s.jM i hi c _ hg
  ·rw[if_neg e]at h
   exact s.jM i hi c1 sl h
theorem NG{R:Nat→Prop}(m:Option Bool)(b:Nat){H:WH}{ι:VI}{M:Heap}(s:VS R ι H M):∃aX,VS R aX (Nt m b H) M∧Stp H.length [] ι H M aX (Nt m b H) M:=by
 have quiet:∃aX,VS R aX H M∧Stp H.length [] ι H M aX H M:=⟨ι,s,.refl _ _ _ _ _ (Nat.le_refl _)⟩
 unfold Nt
 cases m with
 | none=>exact quiet
 | some m =>
 simp only
 split
 case h_2=>exact quiet
 rename_i c ro hg
 rcases s.blk b _ hg with⟨_,_,ro',h⟩ |⟨j,h1,⟨d,t,ro',sl',L,g1,g2,g3,g4,g5,g6⟩,h2⟩
 ·cases h
 simp only[Bool.false_eq_true,if_false]at g5
 obtain⟨gH,k1,k2,k3⟩:=IL (some m) c H ι M d s g5
 split
 case h_2=>exact⟨gH,k1,k2⟩
 rename_i c2 UY hg2
 have hj1:=((k2.le b (je hg)).1 j h1).1
 have hd:=((k2.le b (je hg)).1 j h1).2 _ g3
 have hl1:(Fb (some m) c H).1.length=c.length:=by rw[k3.length,g5.length]
 have hl2:c2.length=c.length:=by
  obtain⟨_,_,_,_,_,_,_,e,_⟩:=k1.at hj1 hg2
  rw[hd]at e
  simp only[au,aD]at e
  exact e.1.symm
 obtain⟨q1,q2⟩:=k1.Qy hg2 (c':=(Fb (some m) c H).1) (λj' d' t' ro' sl' e1 e2 e3=>by
  rw[hj1]at e1
  obtain rfl:=ak e1
  rw[g1]at e2
  simp only[au,fP.cells.injEq]at e2
  have:d'=d:=by
   have:=congrArg (List.take c.length) e2.1
   rw[List.take_left' (by rw[g5.length]),List.take_left' (by rw[e3,hl2])]at this
   exact this.symm
  rw[this]
  exact k3) (by rw[hl1,hl2])
 refine⟨gH,q1, ?_⟩
 have:=k2.trans q2 k2.next
 simpa using this
theorem xq{R:Nat→Prop}:∀(ms:List (Option Bool)) (m:Option Bool) (p:List Nat) (H:WH) (ι:VI) (M:Heap),VS R ι H M→∃aX,VS R aX (zh ms m p H) M∧Stp H.length [] ι H M aX (zh ms m p H) M
 | ms,m,[],H,ι,M,s=>⟨ι,s,.refl _ _ _ _ _ (Nat.le_refl _)⟩
 | ms,m,b::p,H,ι,M,s=>by
  obtain⟨gH,h1,h2⟩:=NG (ms.headD m) b s
  obtain⟨mo,k1,k2⟩:=xq ms.tail m p _ gH M h1
  simp only[zh]
  refine⟨mo,k1, ?_⟩
  have:=h2.trans k2 h2.next
  simpa using this
theorem yC{bytes k:Nat}(h:d9 bytes k=true):k*bytes≤70368744177664∧k≤70368744177664:=by simpa[d9]using h
theorem bf.jM{R:Nat→Prop}{ι:VI}{M:Heap}{S:List Nat}{l r:List AV}(h:bf M (OR R ι) VI.none l r):bf M (OR R (ι.jM S)) VI.none l r :=
 bf.mono ⟨Nat.le_refl _,λb _ h=>⟨rfl,λk=>h (k.imp wY id)⟩⟩ _ _ _ _ (.refl _ _) h
theorem D5 {R:Nat→Prop} {ι:VI} {H:WH} {M:Heap} (s:VS R ι H M) {k:Nat} {nested:Bool} {l:List AV} {p:List AV×List Nat} {r:List AV} (h:rQ (Fa H k nested) l=some p) (hr:bf M (OR R ι) ι l r) :
  bf M (OR R (ι.jM p.2)) (wZ nested (ι.jM p.2)) p.1 r:=by
 refine AP (P:=λb=>b∈p.2) (λv q a hq hv hb=>?_) l p r h hr (λ_ h=>h)
 refine DY s (O':=OR R (ι.jM p.2)) (λj h=>h.imp wY id) (jX:=ι.jM p.2) (AO _ _ _) k nested v q a hq hv (λb hb' j hj=>?_)
 have lv:=iX k nested v q hq b hb'
 rintro(⟨i,q1,q2⟩ | hR)
 ·simp only[VI.jM,Bool.or_eq_false_iff]at q1 q2
  have:=s.inj i b j (.inr q2.1) (.inl lv) q1 hj (.inl q2.1)
  subst this
  rw[kZ.2 (hb _ hb')]at q2
  cases q2.2
 ·exact(s.res j hR).2 b (.inl lv) hj
theorem yD {R:Nat→Prop} {ι:VI} {H:WH} {M:Heap} (s:VS R ι H M) {x a:AV} (hx:VL M (OR R ι) ι x a) {sz n:Nat} {cs:List AV} {S:List Nat} (h:tC x sz H=some (n,cs,S)) :
  bN a sz=true∧cs.length=n*sz∧∃cs',gG a M=some (n,cs')∧bf M (OR R (ι.jM S)) VI.none cs cs':=by
 unfold tC at h
 split at h
 ·rename_i sz' n' cs' ex
  split at h
  case h_2=>cases h
  rename_i e
  obtain rfl:=aS e
  simp only[au,aD]at h
  obtain⟨rfl,rfl,rfl⟩:=h
  simp only[VL]at hx
  rcases hx with⟨rfl,rfl,s',rfl⟩ |⟨b,o,cap,ex',rfl,q1,q2,q3,q4⟩
  ·exact⟨rfl,by simp,[],rfl,by simp[bf]⟩
  ·refine⟨by simp[bN],q3, ?_⟩
   by_cases hn:n'=0
   ·subst hn
    rw[Nat.zero_mul]at q3
    obtain rfl:=List.eq_nil_of_length_eq_zero q3
    exact⟨[],by simp[gG],by simp[bf]⟩
   ·obtain⟨c,ro,sl,g1,g2,g3,g4,g5⟩:=q4 hn
    refine⟨(c.drop o).take (n'*sz'), ?_,g5.jM⟩
    simp only[gG,if_neg hn,Heap.read,g1,if_pos g4,aM]
 ·simp only[au,aD]at h
  obtain⟨rfl,rfl,rfl⟩:=h
  simp only[VL]at hx
  obtain⟨_,s',rfl⟩:=hx
  exact⟨rfl,by simp,[],rfl,by simp[bf]⟩
 ·rename_i t
  split at h
  case h_2=>cases h
  rename_i e
  obtain rfl:=aS e
  simp only[au,aD]at h
  obtain⟨rfl,rfl,rfl⟩:=h
  obtain rfl:=hx.eq rfl
  refine⟨rfl,by simp,_,rfl, ?_⟩
  have:∀t:List UInt8,bf M (OR R (ι.jM [])) VI.none (t.map λb=>AV.int .u8 b.toNat) (t.map λb=>AV.int .u8 b.toNat):=λt=>by
   induction t with
   | nil=>simp[bf]
   | cons b t ih=>simp only[List.map_cons,bf,VL];exact⟨trivial,ih⟩
  exact this t
 ·rename_i b o sz' n' w
  split at h
  case h_2=>cases h
  rename_i e
  obtain rfl:=aS e
  split at h
  case h_2=>cases h
  rename_i c ro sl hg
  obtain⟨k1,k2,p,s',cap,ex,rfl,k3,k4,k5⟩:=VL.kE s hx hg
  have fin:∀(cs:List AV) (S:List Nat),cs.length=n'*sz'→(∀c' t,bf M (OR R ι) (if sl then VI.none else ι) c c'→bf M (OR R (ι.jM S)) VI.none cs (((c'++t).drop o).take (n'*sz'))) →
    bN (.slice p s' n' cap ex) sz'=true∧cs.length=n'*sz'∧∃cs',gG (.slice p s' n' cap ex) M=some (n',cs')∧bf M (OR R (ι.jM S)) VI.none cs cs':=by
   intro cs S h1 h2
   have hz:bN (.slice p s' n' cap ex) sz'=true:=by
    cases p with
    | none =>
     rcases k5 with⟨j,_,_,_,_,_,_,_,_,_,_,_,e,_⟩ |⟨e,_⟩
     ·cases e
     ·simp[bN,e]
    | some p=>simp[bN,k4 (by simp)]
   refine⟨hz,h1, ?_⟩
   have hn0:n'=0→cs=[]:=λe=>by
    subst e
    rw[Nat.zero_mul]at h1
    exact List.eq_nil_of_length_eq_zero h1
   rcases k5 with⟨j,c',t,ro',sl',L,g1,g2,g3,g4,g5,g6,rfl,g7⟩ |⟨e,_⟩
   ·obtain rfl:=k4 (by simp)
    by_cases hn:n'=0
    ·rw[hn0 hn]
     subst hn
     exact⟨[],by simp[gG],by simp[bf]⟩
    ·have hl:=g6.length
     refine⟨_, ?_,h2 c' t g6⟩
     simp only[gG,if_neg hn,Heap.read,g2]
     rw[if_pos (by simp only[aG];omega)]
     rfl
   ·rw[hn0 e]
    subst e
    refine⟨[], ?_,by simp[bf]⟩
    cases p<;>simp[gG]
  split at h
  ·simp only[au,aD]at h
   obtain⟨rfl,rfl,rfl⟩:=h
   refine fin _ _ (wW k1 k2) λc' t hc=>?_
   simp only[if_true]at hc
   exact(wX hc k1 k2).jM
  ·split at h
   case h_2=>cases h
   split at h
   case h_2=>cases h
   rename_i q hq
   simp only[au,aD]at h
   obtain⟨rfl,rfl,rfl⟩:=h
   obtain⟨k6,k7⟩:=k2 rfl
   refine fin _ _ (by rw[w9 _ _ hq,k7]) λc' t hc=>?_
   simp only[Bool.false_eq_true,if_false]at hc
   have:=D5 s hq hc
   rw[k6,List.drop_zero,k7,hc.length,List.take_left' rfl]
   exact this
 ·cases h
theorem tL{H:WH}{x:AV}{sz n:Nat}{cs:List AV}{S:List Nat}(h:tC x sz H=some (n,cs,S)):∀b∈S,∃y,bE H b=some y:=by
 unfold tC at h
 split at h
 ·split at h
  ·cases h;simp
  ·cases h
 ·cases h;simp
 ·split at h
  ·cases h;simp
  ·cases h
 ·split at h
  case h_2=>cases h
  split at h
  case h_2=>cases h
  split at h
  ·cases h;simp
  ·split at h
   case h_2=>cases h
   split at h
   case h_2=>cases h
   rename_i q hq
   cases h
   exact kI (λv p=>iX 5 true v p) _ _ hq
 ·cases h
theorem CX {R:Nat→Prop} {ι:VI} {H:WH} {M:Heap} (s:VS R ι H M) {x a:AV} (hx:VL M (OR R ι) ι x a) {sz bytes m len:Nat} {new new' old:List AV} (hnew:bf M (OR R ι) VI.none new new') (hl:new.length=m*sz) {H':WH} {t:List Nat}
  (h:Ay x sz H=some (len,old,H',t)) (hf:d9 bytes (len+m)=true) :
  ∃a' M' aX,dw sz bytes a m new' M=some (a',M')∧VS R aX (H'++[some (.cells (old++new) false true)]) M'∧Stp H.length t ι H M aX (H'++[some (.cells (old++new) false true)]) M'∧VL M' (OR R aX) aX (.acc H'.length 0 sz (len+m) true) a':=by
 have hf':=yC hf
 have hm0:m=0→new=[]:=λe=>by
  subst e
  rw[Nat.zero_mul]at hl
  exact List.eq_nil_of_length_eq_zero hl
 -- nothing was there
 have fresh:∀(jq:VI) (H0:WH) (t0:List Nat),VS R jq H0 M→H0.length=H.length→Stp H.length t0 ι H M jq H0 M→∀(p:Option (Nat×Nat)) (s':Nat),(p≠none→s'=sz)→0+m=len+m→∃a' M' aX,dw sz bytes (.slice p s' 0 0 true) m new' M=some (a',M')∧VS R aX (H0++[some (.cells ([]++new) false true)]) M'∧Stp H.length t0 ι H M aX (H0++[some (.cells ([]++new) false true)]) M'∧VL M' (OR R aX) aX (.acc H0.length 0 sz (0+m) true) a':=by
  intro jq H0 t0 s0 hlen k0 p s' hps hlm
  by_cases hm:m=0
  ·obtain rfl:=hm0 hm
   subst hm
   obtain⟨aX,q1,q2,q3⟩:=w_ s0 sz sz p (λ_=>rfl)
   refine⟨.slice p sz 0 0 true,M,aX, ?_,q1, ?_,q3⟩
   ·unfold dw
    cases p with
    | none=>simp
    | some p=>obtain rfl:=hps (by simp);simp
   ·have:=k0.trans q2 (by omega)
    simpa using this
  ·have e:dw sz bytes (.slice p s' 0 0 true) m new' M=some (.slice (some (M.next,0)) sz (0+m) (0+m) false,M.push (.cells ([]++new') false true)):=by
    unfold dw
    simp only
    rw[if_neg (λhc=>hc.2 (hps hc.1)),if_neg (by omega),if_pos (by rw[hlm];exact hf')]
    cases p with
    | none=>rfl
    | some p=>rfl
   have RB:=bf.CU k0 hnew
   obtain⟨aX,q1,q2,q3⟩:=zT s0 (cs:=[]++new) (cs':=[]++new') (by simpa using RB) (n:=0+m) (sz:=sz) (by simpa using hl) false true
   rw[e]
   refine⟨_,_,aX,rfl,q1, ?_,q3⟩
   have:=k0.trans q2 (by omega)
   simpa using this
 unfold Ay at h
 split at h
 ·simp only[au,aD]at h
  obtain⟨rfl,rfl,rfl,rfl⟩:=h
  simp only[VL]at hx
  obtain⟨_,s',rfl⟩:=hx
  exact fresh ι H [] s rfl (.refl _ _ _ _ _ (Nat.le_refl _)) none s' (λh=>absurd rfl h) rfl
 ·rename_i b sz' n w
  split at h
  case h_2=>cases h
  rename_i e
  obtain rfl:=aS e
  -- one's own
  have main:∀(c:List AV) (sl:Bool) (H1:WH) (gH:VI) (old:List AV),bE H b=some (.cells c false sl)→VS R gH H1 M→H1.length=H.length→Stp H.length [] ι H M gH H1 M→bE H1 b=some (.cells c false sl)→old.length=n*sz' →
    (∀c' t,bf M (OR R ι) (if sl then VI.none else ι) c c'→bf M (OR R gH) VI.none old (((c'++t).drop 0).take (n*sz')))→len=n →
    ∃a' M' aX,dw sz' bytes a m new' M=some (a',M')∧VS R aX (dM H1 b none++[some (.cells (old++new) false true)]) M'∧Stp H.length [b] ι H M aX (dM H1 b none++[some (.cells (old++new) false true)]) M'∧VL M' (OR R aX) aX (.acc (dM H1 b none).length 0 sz' (n+m) true) a':=by
   intro c sl H1 gH old hg s1 hlen k1 hg1 ho hr hln
   subst hln
   obtain⟨q1,q2,p,s',cap,ex,rfl,q3,q4,q5⟩:=VL.kE s hx hg
   have hnp:p=none→cap=0∧ex=true:=by
    simp only[VL]at hx
    obtain⟨_,_,_,_,e,_,q,_⟩:=hx
    simp only[AV.slice.injEq]at e
    obtain⟨rfl,rfl,_,rfl,rfl⟩:=e
    exact q
   have hnew1:=bf.CU k1 hnew
   rcases q5 with⟨j,c',t,ro',sl',L,g1,g2,g3,g4,g5,g6,rfl,g7⟩ |⟨rfl,rfl,rfl,⟨j,c',t,ro',sl',L,g1,g2,g3,g4,g5,g6⟩ |⟨g1,rfl,rfl⟩⟩
   ·obtain rfl:=q4 (by simp)
    obtain⟨rfl,_⟩:=g3 rfl
    have hj1:=((k1.le b (je hg)).1 j g1).1
    have hlc:=g6.length
    have hcs:=Nat.mul_le_mul_right s' q3
    have hr':=hr c' t g6
    have hold:bf M (OR R gH) VI.none old ((c'++t).take (len*s')):=by simpa using hr'
    simp only[aG]at g5
    by_cases hm:m=0
    ·obtain rfl:=hm0 hm
     subst hm
     have hn':new'=[]:=by
      have:=hnew.length
      exact List.eq_nil_of_length_eq_zero (by simpa using this.symm)
     subst hn'
     obtain⟨aX,r1,r2,r3⟩:=zU s1 hj1 hg1 (cs:=old++[]) (cs':=(c'++t).take (len*s')) (t:=(c'++t).drop (len*s')) (by rw[List.take_append_drop];exact g2) rfl (by simpa using hold) (by rw[List.take_append_drop,aG];exact g5) (n:=len+0) (by simpa using ho) q3 hnp q4 (.inl ⟨rfl,by omega⟩)
     refine⟨_,M,aX, ?_,r1, ?_,by rw[bR];exact r3⟩
     ·simp[dw,q3]
     ·have:=k1.trans r2 (by omega)
      simpa using this
    by_cases hfit:len+m≤cap
    ·-- in place
     have hle:len*s'+new'.length≤(c'++t).length:=by
      have:=Nat.mul_le_mul_right s' hfit
      rw[←hnew.length,hl,aG,←Nat.add_mul]
      omega
     have hw:M.write j (0+len*s') new'=some (M.put j (some (.cells ((c'++t).take (len*s')++new'++(c'++t).drop (len*s'+new'.length)) false sl'))):=by
      simp only[Heap.write,g2,Nat.zero_add]
      rw[if_pos hle]
     have hlenp:L≤(((c'++t).take (len*s')++new')++(c'++t).drop (len*s'+new'.length)).length:=by
      simp only[aG,aQ,aJ]at hle ⊢
      omega
     obtain⟨r1,r2,r3⟩:=s1.swap hj1 hg1 (x:=.cells (old++new) false true) (y:=.cells ((c'++t).take (len*s')++new'++(c'++t).drop (len*s'+new'.length)) false sl') (d:=((old++new).length,L))
      ⟨(c'++t).take (len*s')++new',(c'++t).drop (len*s'+new'.length),false,sl',L,rfl,λ_=>rfl,rfl,hlenp,by simpa using hold.append hnew1,λh=>by cases h⟩
     refine⟨.slice (some (j,0)) s' (len+m) cap ex,_,_, ?_,r1, ?_, ?_⟩
     rotate_left
     ·have:=k1.trans r2 (by omega)
      simpa using this
     ·rw[bR]
      simp only[VL]
      refine⟨some (j,0),s',cap,ex,rfl,hfit,(λh=>by cases h),λ_=>rfl,(old++new).length,L,by simp[VI.add,setAt], ?_,λ_=>⟨trivial, ?_⟩,.inl ⟨j,r3,.inl ⟨rfl,by omega⟩⟩⟩
      ·rw[aG,ho,hl,Nat.add_mul];omega
      ·rw[aG,ho,hl,Nat.add_mul]
     ·unfold dw
      simp only
      rw[if_neg (by simp),if_pos hfit,if_neg hm,hw]
      rfl
    ·obtain ⟨GR,e1,e2⟩:∃GR,(if (ex=true∧len=0)then some []else M.read j 0 (len*s'))=some GR∧bf M (OR R gH) VI.none old GR:=by
      by_cases hc:ex=true∧len=0
      ·rw[if_pos hc]
       rw[hc.2,Nat.zero_mul]at ho
       obtain rfl:=List.eq_nil_of_length_eq_zero ho
       exact⟨[],rfl,by simp[bf]⟩
      ·rw[if_neg hc]
       refine⟨(c'++t).take (len*s'), ?_,hold⟩
       simp only[Heap.read,g2]
       rw[if_pos (by simp only[aG];omega),List.drop_zero]
     have hlo:(old++new).length=(len+m)*s':=by rw[aG,ho,hl,Nat.add_mul]
     cases ex with
     | true =>
      have e:dw s' bytes (.slice (some (j,0)) s' len cap true) m new' M=some (.slice (some (M.next,0)) s' (len+m) (len+m) false,M.push (.cells (GR++new') false true)):=by
       unfold dw
       simp only
       rw[if_neg (by simp),if_neg hfit,if_pos hf']
       simp only[eq_self,true_and,if_true]at e1 ⊢
       rw[e1]
       rfl
      obtain⟨r1,r2⟩:=s1.kill hj1 hg1 (M.get j)
      rw[Heap.wV rfl]at r1 r2
      have rk:=k1.trans r2 (by omega)
      obtain⟨aX,u1,u2,u3⟩:=zT r1 (cs:=old++new) (cs':=GR++new') (bf.CU r2 (e2.append hnew1)) hlo false true
      rw[e]
      refine⟨_,_,aX,rfl,u1, ?_,u3⟩
      have:=rk.trans u2 (by rw[bR];omega)
      simpa using this
     | false =>
      have e:dw s' bytes (.slice (some (j,0)) s' len cap false) m new' M=some (.slice (some (M.next,0)) s' (len+m) (len+m) false,(M.put j none).push (.cells (GR++new') false true)):=by
       unfold dw
       simp only
       rw[if_neg (by simp),if_neg hfit,if_pos hf']
       simp only[Bool.false_eq_true,false_and,if_false]at e1 ⊢
       rw[e1]
       simp[g2]
      obtain⟨r1,r2⟩:=s1.kill hj1 hg1 none
      have rk:=k1.trans r2 (by omega)
      obtain⟨aX,u1,u2,u3⟩:=zT r1 (cs:=old++new) (cs':=GR++new') (bf.CU r2 (e2.append hnew1)) hlo false true
      rw[e]
      refine⟨_,_,aX,rfl,u1, ?_,u3⟩
      have:=rk.trans u2 (by rw[bR];omega)
      simpa using this
   ·-- empty,and no room
    rw[Nat.zero_mul]at ho
    obtain rfl:=List.eq_nil_of_length_eq_zero ho
    have hj1:=((k1.le b (je hg)).1 j g1).1
    by_cases hm:m=0
    ·obtain rfl:=hm0 hm
     subst hm
     have hn':new'=[]:=by
      have:=hnew.length
      exact List.eq_nil_of_length_eq_zero (by simpa using this.symm)
     subst hn'
     obtain⟨aX,r1,r2,r3⟩:=zU s1 hj1 hg1 (cs:=[]++[]) (cs':=[]) (t:=c'++t) g2 (g3 rfl).1 (by simp[bf]) g5 (n:=0+0) (sz:=sz') (by simp) (Nat.le_refl _) hnp (s':=sz') (λ_=>rfl) (.inr ⟨rfl,rfl,rfl⟩)
     refine⟨_,M,aX, ?_,r1, ?_,by rw[bR];exact r3⟩
     ·cases p with
      | none=>simp[dw]
      | some p=>obtain rfl:=q4 (by simp);simp[dw]
     ·have:=k1.trans r2 (by omega)
      simpa using this
    ·obtain⟨r1,r2⟩:=s1.kill hj1 hg1 (M.get j)
     rw[Heap.wV rfl]at r1 r2
     have:=fresh _ _ _ r1 (by rw[bR];exact hlen) (k1.trans r2 (by omega)) p s' q4 rfl
     simpa using this
   ·rw[Nat.zero_mul]at ho
    obtain rfl:=List.eq_nil_of_length_eq_zero ho
    have hs1:=((k1.le b (je hg)).2 g1).1
    obtain⟨r1,r2⟩:=s1.IC hs1
    have:=fresh _ _ _ r1 (by rw[bR];exact hlen) (k1.trans r2 (by omega)) p s' q4 rfl
    simpa using this
  split at h
  ·rename_i c hg
   simp only[au,aD]at h
   obtain⟨rfl,rfl,rfl,rfl⟩:=h
   obtain⟨k1,k2,_⟩:=VL.kE s hx hg
   exact main c true H ι _ hg s rfl (.refl _ _ _ _ _ (Nat.le_refl _)) hg (wW k1 k2) (λc' t hc=>wX (by simpa using hc) k1 k2) rfl
  ·rename_i c hg
   split at h
   case h_2=>cases h
   split at h
   case h_2=>cases h
   rename_i p hp
   split at h
   case h_2=>cases h
   rename_i hb
   simp only[au,aD]at h
   obtain⟨rfl,rfl,rfl,rfl⟩:=h
   obtain⟨k1,k2,_⟩:=VL.kE s hx hg
   obtain⟨k3,k4⟩:=k2 rfl
   obtain⟨u1,u2⟩:=s.Fy p.2 (kI (λv p=>iX 5 true v p) _ _ hp)
   refine main c false (og H p.2) (ι.jM p.2) _ hg u1 (jZ _ _) u2 ?_ (by rw[w9 _ _ hp,k4]) (λc' t hc=>?_) rfl
   ·rw[o9,hb]
    exact hg
   ·simp only[Bool.false_eq_true,if_false]at hc
    have:=D5 s hp hc
    rw[List.drop_zero,k4,hc.length,List.take_left' rfl]
    exact this
  ·cases h
 ·cases h
theorem xu:∀ {p:List Nat} {b k:Nat},kV p b=some k→p[k]?=some b
 | [],b,k,h=>by simp[kV]at h
 | a::r,b,k,h=>by
  simp only[kV]at h
  split at h
  ·rename_i e
   obtain rfl:=ak h
   simp[aS e]
  ·split at h
   ·rename_i k' hk
    obtain rfl:=ak h
    simpa using xu hk
   ·cases h
theorem yE:∀ {p:List Nat} {b:Nat},kV p b=none→b∉p
 | [],b,_=>by simp
 | a::r,b,h=>by
  simp only[kV]at h
  split at h
  ·cases h
  ·rename_i e
   split at h
   ·cases h
   ·rename_i hr
    simp only[List.mem_cons,not_or]
    exact⟨λe'=>by subst e';simp at e,yE hr⟩
theorem qo:∀ {p:List Nat} (hp:p.Nodup) {b k:Nat} (h:p[k]?=some b),kV p b=some k
 | [],_,b,k,h=>by simp at h
 | a::r,hp,b,0,h=>by
  simp only[List.getElem?_cons_zero,au]at h
  subst h
  simp[kV]
 | a::r,hp,b,k+1,h=>by
  simp only[List.getElem?_cons_succ]at h
  rw[List.nodup_cons]at hp
  have hne:a≠b:=λe=>hp.1 (e ▸ List.mem_of_getElem? h)
  have:Nat.beq a b=false:=by
   cases hh:Nat.beq a b with
   | false=>rfl
   | true=>exact absurd (aS hh) hne
  simp only[kV,this,qo hp.2 h]
def Via(f:Nat→Option Nat)(κ jX:VI):Prop:=∀b k,f b=some k→(∀j,κ b=some j→jX k=some j)∧(κ.yx b=true→jX.yx k=true)∧(∀d,κ.dim b=some d→jX.dim k=some d)
mutual
theorem VL.rn{M M':Heap}{O O':Nat→Prop}(hk:Keeps M O M' O'){f:Nat→Option Nat}{κ jX:VI}(hf:Via f κ jX):∀(v a:AV),VL M O κ v a→VL M' O' jX (Proofs.Ytkedeiklmpkgkaa.rn f v) a
 |.undef,_,_=>by simp[Proofs.Ytkedeiklmpkgkaa.rn,VL]
 |.bool _,_,e=>by simpa[Proofs.Ytkedeiklmpkgkaa.rn,VL]using e
 |.int _ _,_,e=>by simpa[Proofs.Ytkedeiklmpkgkaa.rn,VL]using e
 |.str _,_,e=>by simpa[Proofs.Ytkedeiklmpkgkaa.rn,VL]using e
 |.ptr none,_,e=>by simpa[Proofs.Ytkedeiklmpkgkaa.rn,VL]using e
 |.ptr (some q),a,e=>by
  simp only[VL]at e
  obtain⟨j,h1,rfl⟩:=e
  simp only[Proofs.Ytkedeiklmpkgkaa.rn]
  split
  ·rename_i b hb
   simp only[VL]
   exact⟨j,(hf _ _ hb).1 j h1,rfl⟩
  ·simp[VL]
 |.slice none _ _ _ _,_,e=>by simpa[Proofs.Ytkedeiklmpkgkaa.rn,VL]using e
 |.slice (some _) _ _ _ _,_,e=>by simp[VL]at e
 |.map none,_,e=>by simpa[Proofs.Ytkedeiklmpkgkaa.rn,VL]using e
 |.map (some r),a,e=>by
  simp only[VL]at e
  obtain⟨j,h1,rfl⟩:=e
  simp only[Proofs.Ytkedeiklmpkgkaa.rn]
  split
  ·rename_i b hb
   simp only[VL]
   exact⟨j,(hf _ _ hb).1 j h1,rfl⟩
  ·simp[VL]
 |.func g cs,a,e=>by
  simp only[VL,Proofs.Ytkedeiklmpkgkaa.rn]at e ⊢
  obtain⟨cs',rfl,h⟩:=e
  exact⟨cs',rfl,bf.rn hk hf cs cs' h⟩
 |.nilFunc,_,e=>by simpa[Proofs.Ytkedeiklmpkgkaa.rn,VL]using e
 |.agg cs,a,e=>by
  simp only[VL,Proofs.Ytkedeiklmpkgkaa.rn]at e ⊢
  obtain⟨cs',rfl,h⟩:=e
  exact⟨cs',rfl,bf.rn hk hf cs cs' h⟩
 |.tuple cs,a,e=>by
  simp only[VL,Proofs.Ytkedeiklmpkgkaa.rn]at e ⊢
  obtain⟨cs',rfl,h⟩:=e
  exact⟨cs',rfl,bf.rn hk hf cs cs' h⟩
 |.list sz n cs ex,a,e=>by
  simp only[Proofs.Ytkedeiklmpkgkaa.rn]
  exact VL.mono hk κ jX _ _ (λi hi=>by simp[mP]at hi) e
 |.elem cs,a,e=>by
  simp only[Proofs.Ytkedeiklmpkgkaa.rn]
  exact VL.mono hk κ jX _ _ (λi hi=>by simp[mP]at hi) e
 |.acc b o sz n w,a,e=>by
  simp only[Proofs.Ytkedeiklmpkgkaa.rn]
  split
  ·rename_i b' hb
   simp only[VL]at e ⊢
   obtain⟨p,s',cap,ex,h1,h2,h3,h4,m,L,h5,h6,h7,h8⟩:=e
   obtain⟨f1,f2,f3⟩:=hf _ _ hb
   exact⟨p,s',cap,ex,h1,h2,h3,h4,m,L,f3 _ h5,h6,h7,h8.imp (λ⟨j,k1,k2⟩=>⟨j,f1 j k1,k2⟩) (λ⟨k1,k2⟩=>⟨f2 k1,k2⟩)⟩
  ·simp[VL]
theorem bf.rn{M M':Heap}{O O':Nat→Prop}(hk:Keeps M O M' O'){f:Nat→Option Nat}{κ jX:VI}(hf:Via f κ jX):∀(l r:List AV),bf M O κ l r→bf M' O' jX (BP f l) r
 | [],[],_=>by simp[BP,bf]
 | v::l,a::r,e=>by
  simp only[bf,BP]at e ⊢
  exact⟨VL.rn hk hf v a e.1,bf.rn hk hf l r e.2⟩
 | [],_::_,e=>by simp[bf]at e
 | _::_,[],e=>by simp[bf]at e
end
theorem IQ{f:Nat→Option Nat}:∀(l:List AV),(BP f l).length=l.length
 | []=>rfl
 | _::l=>by simp[BP,IQ l]
theorem BL.rn{M M':Heap}{O O':Nat→Prop}(hk:Keeps M O M' O'){f:Nat→Option Nat}{κ jX:VI}(hf:Via f κ jX){d:Option (Nat×Nat)}{x:fP}{y:Option fP}(r:BL M O κ d x y):BL M' O' jX d (Sy f x) y:=by
 cases x with
 | cells c ro sl =>
  obtain⟨c',t,ro',sl',L,rfl,h0,h1,h2,h3,h4⟩:=r
  cases sl with
  | true=>exact⟨c',t,ro',sl',L,rfl,h0,h1,h2,bf.mono hk _ _ c c' (.refl _ _) h3,h4⟩
  | false=>exact⟨c',t,ro',sl',L,rfl,h0,by rw[IQ];exact h1,h2,bf.rn hk hf c c' h3,h4⟩
 | map es=>exact r
theorem D6(f:Nat→Option Nat)(x:fP):(Sy f x).ro=x.ro:=by
 cases x with
 | cells c ro sl=>cases sl<;>rfl
 | map es=>rfl
mutual
theorem VL.retag{M:Heap}{O:Nat→Prop}{κ:VI}(v t a:AV)(h:VL M O κ v a):VL M O κ (Proofs.Ytkedeiklmpkgkaa.retag v t) a:=by
 rw[Proofs.Ytkedeiklmpkgkaa.retag.eq_def]
 split
 ·split
  ·simp only[VL]at h ⊢
   exact h
  ·exact h
 ·split
  ·simp only[VL]at h ⊢
   obtain⟨cs',rfl,h⟩:=h
   exact⟨cs',rfl,bf.retag _ _ _ h⟩
  ·exact h
 ·split
  ·simp only[VL]at h ⊢
   obtain⟨cs',rfl,h⟩:=h
   exact⟨cs',rfl,bf.retag _ _ _ h⟩
  ·exact h
 ·exact h
termination_by SizeOf.sizeOf v
theorem bf.retag{M:Heap}{O:Nat→Prop}{κ:VI}(l ts r:List AV)(h:bf M O κ l r):bf M O κ (h_ l ts) r:=by
 rw[h_.eq_def]
 split
 ·split
  ·cases r with
   | nil=>simp[bf]at h
   | cons a r =>
    simp only[bf]at h ⊢
    exact⟨VL.retag _ _ _ h.1,bf.retag _ _ _ h.2⟩
  ·exact h
 ·exact h
termination_by SizeOf.sizeOf l
end
theorem mD{H:WH}{p:List Nat}:∀(q:List Nat),(jS H p q).length=q.length
 | []=>rfl
 | _::q=>by simp[jS,mD q]
theorem iL {H:WH} {p:List Nat}:∀(q:List Nat) (k:Nat),bE (jS H p q) k=match q[k]? with
  | some b=>J4 (kV p) (bE H b)
  | none=>none
 | [],k=>by simp[jS,bE]
 | b::q,0=>by simp[jS,bE]
 | b::q,k+1=>by simp[jS,bE,iL q k]
theorem lg{f:Nat→Option Nat}{x:Option fP}{y:fP}(h:J4 f x=some y):∃z,x=some z∧y=Sy f z:=by
 cases x with
 | none=>simp[J4]at h
 | some z=>simp only[J4,au]at h;exact⟨z,rfl,h.symm⟩
def dx (ι:VI) (p:List Nat):VI:=⟨λk=>match p[k]? with
  | some b=>ι b
  | none=>none,λk=>match p[k]? with
  | some b=>ι.yx b
  | none=>false,λk=>match p[k]? with
  | some b=>ι.gone b
  | none=>true,λk=>match p[k]? with
  | some b=>ι.dim b
  | none=>none⟩
theorem oI{ι:VI}{p:List Nat}:Via (kV p) ι (dx ι p):=λb k h=>by
 have:=xu h
 simp only[dx,this]
 exact⟨λ_ h=>h,λh=>h,λ_ h=>h⟩
theorem mQ{ι:VI}{p:List Nat}{j:Nat}(h:own (dx ι p) j):∃b,b∈p∧ι b=some j∧ι.gone b=false:=by
 obtain⟨k,h1,h2⟩:=h
 simp only[dx]at h1 h2
 cases e:p[k]? with
 | none=>rw[e]at h1;cases h1
 | some b =>
  rw[e]at h1 h2
  exact⟨b,List.mem_of_getElem? e,h1,h2⟩
theorem VS.pick {R R':Nat→Prop} {ι:VI} {H:WH} {M:Heap} (s:VS R ι H M) {p:List Nat} (hp:p.Nodup) (hR:∀j,R' j→j<M.next∧∀b,b∈p→act ι H b→ι b≠some j) (hO:∀j,OR R' (dx ι p) j→OR R ι j) :
  VS R' (dx ι p) (jS H p p) M:=by
 have hk:Keeps M (OR R ι) M (OR R' (dx ι p)):=⟨Nat.le_refl _,λb _ h=>⟨rfl,λk=>h (hO b k)⟩⟩
 have ac:∀k,act (dx ι p) (jS H p p) k→∃b,p[k]?=some b∧act ι H b:=λk h=>by
  cases e:p[k]? with
  | none =>
   rcases h with⟨x,h⟩ | h
   ·rw[iL,e]at h;cases h
   ·simp only[dx,e]at h;cases h
  | some b =>
   refine⟨b,rfl, ?_⟩
   rcases h with⟨x,h⟩ | h
   ·rw[iL,e]at h
    obtain⟨z,hz,_⟩:=lg h
    exact .inl ⟨z,hz⟩
   ·simp only[dx,e]at h
    exact .inr h
 have at':∀ {k b},p[k]?=some b→(dx ι p) k=ι b∧(dx ι p).yx k=ι.yx b∧(dx ι p).gone k=ι.gone b∧(dx ι p).dim k=ι.dim b:=λe=>by simp[dx,e]
 refine⟨λk j h=>?_,λk k' j h h' e e' g=>?_,λk x hx=>?_,λk h=>?_,λk hk' c sl h=>?_,s.Fj,λj h=>⟨(hR j h).1,λk hk'=>?_⟩⟩
 ·cases e:p[k]? with
  | none=>simp only[dx,e]at h;cases h
  | some b =>
   rw[(at' e).1]at h
   exact⟨by rw[mD];exact(aF.1 e).1,(s.lt b j h).2⟩
 ·obtain⟨b,q1,q2⟩:=ac k h
  obtain⟨b',q1',q2'⟩:=ac k' h'
  rw[(at' q1).1]at e
  rw[(at' q1').1]at e'
  rw[(at' q1).2.2.1,(at' q1').2.2.1]at g
  have:=s.inj b b' j q2 q2' e e' g
  subst this
  have:=qo hp q1
  rw[qo hp q1']at this
  exact(ak this).symm
 ·cases e:p[k]? with
  | none=>rw[iL,e]at hx;cases hx
  | some b =>
   rw[iL,e]at hx
   obtain⟨z,hz,rfl⟩:=lg hx
   rw[(at' e).1,(at' e).2.1,(at' e).2.2.1,(at' e).2.2.2,D6]
   rcases s.blk b z hz with⟨h1,h2,ro,rfl⟩ |⟨j,h1,h2,h3⟩
   ·exact .inl ⟨h1,h2,ro,rfl⟩
   ·exact .inr ⟨j,h1,BL.rn hk oI h2,h3⟩
 ·cases e:p[k]? with
  | none=>simp only[dx,e]at h;cases h
  | some b =>
   rw[(at' e).2.1]at h
   rw[(at' e).1]
   exact⟨by rw[mD];exact(aF.1 e).1,(s.kW b h).2⟩
 ·cases e:p[k]? with
  | none=>rw[iL,e]at h;cases h
  | some b =>
   rw[(at' e).2.2.1]at hk'
   rw[iL,e]at h
   obtain⟨z,hz,h2⟩:=lg h
   have hr:=D6 (kV p) z
   rw[←h2]at hr
   cases z with
   | cells c' ro sl' =>
    simp only[fP.ro]at hr
    subst hr
    exact s.jM b hk' c' sl' hz
   | map es=>cases h2
 ·obtain⟨b,q1,q2⟩:=ac k hk'
  rw[(at' q1).1]
  exact(hR j h).2 b (List.mem_of_getElem? q1) q2
theorem uz{H:WH}{np:Nat}:∀(l seen:List Nat),(sM H np seen l).Nodup∧∀x,x∈sM H np seen l→x∈l∧jo seen x=false∧(x<np∨∃y,bE H x=some y)
 | [],seen=>by simp[sM]
 | a::r,seen=>by
  simp only[sM]
  cases h:jo seen a with
  | true =>
   obtain⟨h1,h2⟩:=uz r seen
   exact⟨h1,λx hx=>⟨List.mem_cons_of_mem _ (h2 x hx).1,(h2 x hx).2⟩⟩
  | false =>
   obtain⟨h1,h2⟩:=uz (H:=H) (np:=np) r (a::seen)
   have hne:∀x,x∈sM H np (a::seen) r→x≠a∧jo seen x=false:=λx hx=>by
    have:=(h2 x hx).2.1
    simp only[jo]at this
    split at this
    ·cases this
    ·rename_i e
     exact⟨λe'=>by subst e';simp at e,this⟩
   have PK:(x:Nat)→x∈sM H np (a::seen) r→x∈a::r∧jo seen x=false∧(x<np∨∃y,bE H x=some y):=λx hx =>
    ⟨List.mem_cons_of_mem _ (h2 x hx).1,(hne x hx).2,(h2 x hx).2.2⟩
   have both:(a<np∨∃y,bE H a=some y)→(a::sM H np (a::seen) r).Nodup∧∀x,x∈a::sM H np (a::seen) r→x∈a::r∧jo seen x=false∧(x<np∨∃y,bE H x=some y):=λha =>
    ⟨List.nodup_cons.2 ⟨λhm=>(hne a hm).1 rfl,h1⟩,λx hx=>by
     rcases List.mem_cons.1 hx with rfl | hx
     ·exact⟨List.mem_cons_self,h,ha⟩
     ·exact PK x hx⟩
   simp only
   split
   ·rename_i hb
    exact both (.inl (by simpa[Nat.blt_eq]using hb))
   ·split
    ·rename_i y hy
     exact both (.inr ⟨y,hy⟩)
    ·exact⟨h1,PK⟩
theorem Jy{a b:Nat}{l:List Nat}(h:a≠b):jo (a::l) b=jo l b:=by
 have:Nat.beq a b=false:=by
  cases hh:Nat.beq a b with
  | false=>rfl
  | true=>exact absurd (aS hh) h
 simp[jo,this]
theorem Fz{H:WH}{np:Nat}:∀(l seen r:List Nat),l.Nodup→(∀x,x∈l→x<np∧jo seen x=false)→∃r',sM H np seen (l++r)=l++r'
 | [],seen,r,_,_=>⟨sM H np seen r,rfl⟩
 | a::l,seen,r,hn,h=>by
  rw[List.nodup_cons]at hn
  obtain⟨h1,h2⟩:=h a (by simp)
  obtain⟨r',hr⟩:=Fz (H:=H) (np:=np) l (a::seen) r hn.2 (λx hx=>⟨(h x (by simp[hx])).1,by
   have hne:a≠x:=λe=>hn.1 (by rw[e];exact hx)
   rw[Jy hne]
   exact(h x (by simp[hx])).2⟩)
  refine⟨r', ?_⟩
  simp only[List.cons_append,sM,h2]
  rw[show Nat.blt a np=true by simpa[Nat.blt_eq]using h1]
  simp only[hr]
theorem AU(H:WH)(np:Nat)(roots:List Nat):(wQ H np roots).Nodup∧(∀x,x∈wQ H np roots→x<np∨∃y,bE H x=some y)∧∃r,wQ H np roots=List.range np++r:=by
 have pre:∀r,∃r',sM H np [] (List.range np++r)=List.range np++r':=λr =>
  Fz _ [] r List.nodup_range (λx hx=>⟨List.mem_range.1 hx,rfl⟩)
 have step:∀l,(∃r,l=List.range np++r)→∃r,KN H np l=List.range np++r:=λl ⟨r,h⟩=>by
  subst h
  unfold KN
  rw[aZ]
  exact pre _
 refine⟨(uz _ _).1,λx hx=>((uz _ _).2 x hx).2.2, ?_⟩
 exact step _ (step _ (step _ (pre _)))
theorem NH{H:WH}{np i:Nat}{roots:List Nat}(h:i<np):(wQ H np roots)[i]?=some i:=by
 obtain⟨_,_,r,hr⟩:=AU H np roots
 rw[hr,List.getElem?_append_left (by simpa using h)]
 simp[h]
theorem PL {R:Nat→Prop} {ι:VI} {H:WH} {M:Heap} (s:VS R ι H M) {np:Nat} (hn:np≤H.length) (roots:List Nat) {vs as:List AV} (hv:bf M (OR R ι) ι vs as) :
  ∃aX,VS R aX (jS H (wQ H np roots) (wQ H np roots)) M∧Stp np [] ι H M aX (jS H (wQ H np roots) (wQ H np roots)) M∧bf M (OR R aX) aX (BP (kV (wQ H np roots)) vs) as:=by
 obtain⟨h1,h2,r,hr⟩:=AU H np roots
 have hlow:∀i,i<np→(wQ H np roots)[i]?=some i:=λi=>NH
 generalize wQ H np roots=p at *
 have hsub:∀j,OR R (dx ι p) j→OR R ι j:=λj h=>h.imp (λh=>by
  obtain⟨b,_,h3,h4⟩:=mQ h
  exact⟨b,h3,h4⟩) id
 have hs:=s.pick h1 (R':=R) (λj h=>⟨(s.res j h).1,λb _ hb=>(s.res j h).2 b hb⟩) hsub
 have hko:Keeps M (own ι) M (own (dx ι p)):=⟨Nat.le_refl _,λb _ h=>⟨rfl,λk=>h (by obtain⟨b',_,h3,h4⟩:=mQ k;exact⟨b',h3,h4⟩)⟩⟩
 refine⟨_,hs,⟨hko,λi hi=>?_,λi hi h=>?_,λi hi=>by simp only[dx,hlow i hi],λi hi=>by simp only[dx,hlow i hi],λi hi _=>by simp only[dx,hlow i hi],λi hi h=>?_,λ_ _ _ _ _ _=>rfl, ?_⟩, ?_⟩
 ·have:=hlow i hi
  simp only[dx,this]
  exact⟨λ_ h=>⟨h,λ_ h=>h⟩,λh=>⟨h,λ_ h=>h⟩⟩
 ·simp only[dx,hlow i hi]
  exact h
 ·obtain⟨x,h⟩:=h
  rw[iL,hlow i hi]at h
  obtain⟨z,hz,_⟩:=lg h
  exact⟨z,hz⟩
 ·rw[mD,hr]
  simp
 ·exact bf.rn ⟨Nat.le_refl _,λb _ h=>⟨rfl,λk=>h (hsub b k)⟩⟩ oI _ _ hv
theorem yF {R:Nat→Prop} {ι:VI} {H:WH} {M:Heap} (s:VS R ι H M) {np:Nat} (hn:np≤H.length) {ms bs:List (Option Bool)} {ts vs as:List AV} (hv:bf M (OR R ι) ι vs as) {k:List AV→WH→Prop} (h:Az np ms bs ts vs H k) :
  ∃vs' blks aX,k vs' blks∧VS R aX blks M∧Stp np [] ι H M aX blks M∧bf M (OR R aX) aX vs' as:=by
 unfold Az at h
 obtain⟨gH,h1,h2,h3⟩:=xg ms (h_ vs ts) H ι M as s (bf.retag _ _ _ hv)
 generalize hr:uM ms (h_ vs ts) H=r at *
 obtain⟨vs1,H1⟩:=r
 simp only at h h1 h2 h3
 obtain⟨mo,k1,k2⟩:=xq bs none (wQ H1 np (fU vs1)) H1 gH M h1
 have k3:=bf.step h1 k2 h3
 obtain⟨Ta,q1,q2,q3⟩:=PL k1 (Nat.le_trans hn (Nat.le_trans h2.next k2.next)) (fU vs1) k3
 refine⟨_,_,Ta,h,q1, ?_,q3⟩
 have e1:Stp np [] ι H M gH H1 M:=h2.weak hn
 have e2:Stp np [] gH H1 M mo _ M:=k2.weak (Nat.le_trans hn h2.next)
 have:=(e1.trans e2 (Nat.le_refl _)).trans q2 (Nat.le_refl _)
 simpa using this
theorem vN{f:Nat→Option Nat}:∀(p:List Nat) (out H:WH),(mq f p out H).length=H.length
 | [],out,H=>by simp[mq]
 | b::p,[],H=>by simp[mq]
 | b::p,x::out,H=>by simp[mq,vN p,bR]
theorem tN{f:Nat→Option Nat}:∀(p:List Nat) (out H:WH) (i:Nat),i∉p→bE (mq f p out H) i=bE H i
 | [],out,H,i,_=>by simp[mq]
 | b::p,[],H,i,_=>by simp[mq]
 | b::p,x::out,H,i,h=>by
  simp only[List.mem_cons,not_or]at h
  simp only[mq]
  rw[tN p out _ i h.2,iV,if_neg (λe=>h.1 e.1)]
theorem AY{f:Nat→Option Nat}:∀(p:List Nat) (out H:WH) (k b:Nat),p.Nodup→p.length≤out.length→p[k]?=some b→b<H.length→bE (mq f p out H) b=J4 f (bE out k)
 | [],out,H,k,b,_,_,h,_=>by simp at h
 | a::p,[],H,k,b,_,hl,_,_=>by simp at hl
 | a::p,x::out,H,0,b,hp,hl,h,hb=>by
  simp only[List.getElem?_cons_zero,au]at h
  subst h
  rw[List.nodup_cons]at hp
  simp only[mq]
  rw[tN p out _ a hp.1,iV,if_pos ⟨rfl,hb⟩]
  rfl
 | a::p,x::out,H,k+1,b,hp,hl,h,hb=>by
  simp only[List.getElem?_cons_succ]at h
  rw[List.nodup_cons]at hp
  simp only[bA]at hl
  simp only[mq]
  rw[AY p out _ k b hp.2 (by omega) h (by rw[bR];exact hb)]
  rfl
theorem CY:∀(out:WH) (n k:Nat),bE (out.drop n) k=bE out (n+k)
 | out,0,k=>by simp
 | [],n+1,k=>by simp[bE]
 | x::out,n+1,k=>by
  rw[List.drop_succ_cons,CY out n k,Nat.add_right_comm]
  rfl
theorem FB{f:Nat→Option Nat}:∀(out:WH) (k:Nat),bE (out.map (J4 f)) k=J4 f (bE out k)
 | [],k=>by simp[bE,J4]
 | x::out,0=>by simp[bE]
 | x::out,k+1=>by simp[bE,FB out k]
def cls(n0:Nat)(p:List Nat)(i:Nat):Nat⊕Nat:=match kV p i with
 | some k=>.inl k
 | none=>if i<n0 then .inr i else .inl (p.length+(i-n0))
def jR (ι pW:VI) (n0:Nat) (p:List Nat):VI:=⟨λi=>match cls n0 p i with
  |.inl k=>pW k
  |.inr i=>ι i,λi=>match cls n0 p i with
  |.inl k=>pW.yx k
  |.inr i=>ι.yx i,λi=>match cls n0 p i with
  |.inl k=>pW.gone k
  |.inr i=>ι.gone i,λi=>match cls n0 p i with
  |.inl k=>pW.dim k
  |.inr i=>ι.dim i⟩
section
variable {R:Nat→Prop} {ι:VI} {H:WH} {M:Heap} (s:VS R ι H M) {p:List Nat} (hp:p.Nodup) (hl:∀b,b∈p→b<H.length) {out:WH} (ho:p.length≤out.length)
include hp hl
theorem uD{i k:Nat}(h:p[k]?=some i):cls H.length p i=.inl k:=by simp[cls,qo hp h]
theorem uE{i k:Nat}(h:cls H.length p i=.inl k):(p[k]?=some i∧i<H.length)∨(i∉p∧H.length≤i∧k=p.length+(i-H.length)):=by
 unfold cls at h
 cases e:kV p i with
 | some k' =>
  rw[e]at h
  simp only[Sum.inl.injEq]at h
  subst h
  have:=xu e
  exact .inl ⟨this,hl i (List.mem_of_getElem? this)⟩
 | none =>
  rw[e]at h
  simp only at h
  split at h
  ·cases h
  ·simp only[Sum.inl.injEq]at h
   exact .inr ⟨yE e,by omega,h.symm⟩
theorem mO{i i':Nat}(h:cls H.length p i=.inr i'):i'=i∧i∉p∧i<H.length:=by
 unfold cls at h
 cases e:kV p i with
 | some k'=>rw[e]at h;cases h
 | none =>
  rw[e]at h
  simp only at h
  split at h
  ·simp only[Sum.inr.injEq]at h
   exact⟨h.symm,yE e,by assumption⟩
  ·cases h
theorem NI{i i' k:Nat}(h:cls H.length p i=.inl k)(h':cls H.length p i'=.inl k):i=i':=by
 rcases uE hp hl h with⟨h1,_⟩ |⟨_,h2,h3⟩<;>rcases uE hp hl h' with⟨h1',_⟩ |⟨_,h2',h3'⟩
 ·rw[h1]at h1'
  exact ak h1'
 ·have:=(aF.1 h1).1
  omega
 ·have:=(aF.1 h1').1
  omega
 ·omega
theorem KZ{k i:Nat}(h:back p H.length k=some i):cls H.length p i=.inl k:=by
 unfold back at h
 cases e:p[k]? with
 | some b =>
  rw[e]at h
  obtain rfl:=ak h
  exact uD hp hl e
 | none =>
  rw[e]at h
  simp only[au]at h
  have hk:p.length≤k:=by
   rw[List.getElem?_eq_none_iff]at e
   exact e
  unfold cls
  have hn:kV p i=none:=by
   cases e':kV p i with
   | none=>rfl
   | some k' =>
    have:=hl i (List.mem_of_getElem? (xu e'))
    omega
  rw[hn]
  simp only
  rw[if_neg (by omega)]
  congr 1
  omega
include ho
theorem Jz (i:Nat):bE (sw H p out) i=match cls H.length p i with
  |.inl k=>J4 (back p H.length) (bE out k)
  |.inr i=>bE H i:=by
 unfold sw
 rw[wU,vN]
 cases h:cls H.length p i with
 | inl k =>
  rcases uE hp hl h with⟨h1,h2⟩ |⟨_,h2,rfl⟩
  ·rw[if_pos h2]
   simp only
   exact AY p out H k i hp ho h1 h2
  ·rw[if_neg (by omega)]
   simp only
   rw[FB,CY]
 | inr i' =>
  obtain⟨rfl,h2,h3⟩:=mO hp hl h
  rw[if_pos h3]
  exact tN p out H _ h2
theorem JA:(sw H p out).length=H.length+(out.length-p.length):=by
 unfold sw
 simp[vN]
theorem IU {R':Nat→Prop} (hR':∀j,R' j↔R j∨(own ι j∧¬own (dx ι p) j)) {pW:VI} {M':Heap} {blks:WH} (s:VS R ι H M) (sc:VS R' pW out M') (kc:Stp p.length (List.range p.length) (dx ι p) blks M pW out M') (hpl:∀b,b∈p→∃x,bE H b=some x) (hbk:∀k b,p[k]?=some b→(∃x,bE blks k=some x)→∃x,bE H b=some x) :
  VS R (jR ι pW H.length p) (sw H p out) M'∧Stp H.length p ι H M (jR ι pW H.length p) (sw H p out) M'∧∀v a,VL M' (OR R' pW) pW v a→VL M' (OR R (jR ι pW H.length p)) (jR ι pW H.length p) (rn (back p H.length) v) a:=by
 have hinl:∀ {i k},cls H.length p i=.inl k→(jR ι pW H.length p) i=pW k∧(jR ι pW H.length p).yx i=pW.yx k∧(jR ι pW H.length p).gone i=pW.gone k∧(jR ι pW H.length p).dim i=pW.dim k:=λh=>by simp[jR,h]
 have hinr:∀ {i i'},cls H.length p i=.inr i'→(jR ι pW H.length p) i=ι i∧(jR ι pW H.length p).yx i=ι.yx i∧(jR ι pW H.length p).gone i=ι.gone i∧(jR ι pW H.length p).dim i=ι.dim i:=λh=>by
  obtain⟨rfl,_⟩:=mO hp hl h
  simp[jR,h]
 have hget:=Jz (out:=out) hp hl ho
 have hlen:=JA (out:=out) hp hl ho
 have hold:∀ {i},i∉p→i<H.length→cls H.length p i=.inr i:=λ{i} h1 h2=>by
  cases h:cls H.length p i with
  | inl k =>
   rcases uE hp hl h with⟨h3,_⟩ |⟨_,h3,_⟩
   ·exact absurd (List.mem_of_getElem? h3) h1
   ·omega
  | inr i'=>rw[(mO hp hl h).1]
 have RD:∀ {i k},cls H.length p i=.inl k→act (jR ι pW H.length p) (sw H p out) i→act pW out k:=λh ha=>by
  rcases ha with⟨x,ha⟩ | ha
  ·rw[hget,h]at ha
   obtain⟨z,hz,_⟩:=lg ha
   exact .inl ⟨z,hz⟩
  ·rw[(hinl h).2.2.1]at ha
   exact .inr ha
 have RF:∀ {i i'},cls H.length p i=.inr i'→act (jR ι pW H.length p) (sw H p out) i→act ι H i:=λh ha=>by
  rcases ha with⟨x,ha⟩ | ha
  ·obtain⟨rfl,_⟩:=mO hp hl h
   rw[hget,h]at ha
   exact .inl ⟨x,ha⟩
  ·rw[(hinr h).2.2.1]at ha
   exact .inr ha
 -- what is the caller's alone
 have IV:∀ {i j},i∉p→act ι H i→ι i=some j→¬own (dx ι p) j:=λ{i j} h1 h2 h3 h4=>by
  obtain⟨b,q1,q2,q3⟩:=mQ h4
  have:=s.inj b i j (.inr q3) h2 q2 h3 (.inl q3)
  subst this
  exact h1 q1
 have stays:∀ {i j},i∉p→act ι H i→ι i=some j→M'.get j=M.get j∧¬own pW j:=λ{i j} h1 h2 h3=>kc.keep.get j (s.lt i j h3).2 (IV h1 h2 h3)
 have sub:∀j,own (dx ι p) j→own ι j:=λj h=>by
  obtain⟨b,_,h3,h4⟩:=mQ h
  exact⟨b,h3,h4⟩
 have RG:∀j,own (jR ι pW H.length p) j→own pW j∨(∃i,i∉p∧i<H.length∧ι i=some j∧ι.gone i=false):=λj ⟨i,h1,h2⟩=>by
  cases h:cls H.length p i with
  | inl k =>
   rw[(hinl h).1]at h1
   rw[(hinl h).2.2.1]at h2
   exact .inl ⟨k,h1,h2⟩
  | inr i' =>
   obtain⟨rfl,q1,q2⟩:=mO hp hl h
   rw[(hinr h).1]at h1
   rw[(hinr h).2.2.1]at h2
   exact .inr ⟨i',q1,q2,h1,h2⟩
 have UZ:∀j,OR R (jR ι pW H.length p) j→OR R' pW j:=λj h=>by
  rcases h with h | h
  ·rcases RG j h with h |⟨i,q1,q2,q3,q4⟩
   ·exact .inl h
   ·exact .inr ((hR' j).2 (.inr ⟨⟨i,q3,q4⟩,IV q1 (.inr q4) q3⟩))
  ·exact .inr ((hR' j).2 (.inl h))
 have hkeep:Keeps M (own ι) M' (own (jR ι pW H.length p)):=⟨kc.keep.next,λb hb h=>by
  obtain⟨e1,e2⟩:=kc.keep.get b hb (λk=>h (sub b k))
  refine⟨e1,λk=>?_⟩
  rcases RG b k with k |⟨i,q1,q2,q3,q4⟩
  ·exact e2 k
  ·exact h ⟨i,q3,q4⟩⟩
 have hle:∀S,VI.Le ι (jR ι pW H.length p) S:=λS i _=>by
  by_cases hi:i∈p
  ·obtain⟨k,hk⟩:=List.mem_iff_getElem?.1 hi
   have hc:=uD hp hl hk
   have hkl:=(aF.1 hk).1
   obtain⟨e1,e2,e3,e4⟩:=hinl hc
   have:=kc.le k hkl
   simp only[dx,hk]at this
   rw[e1,e2,e4]
   exact this
  ·by_cases hlt:i<H.length
   ·obtain⟨e1,e2,e3,e4⟩:=hinr (hold hi hlt)
    rw[e1,e2,e4]
    exact⟨λ_ h=>⟨h,λ_ h=>h⟩,λh=>⟨h,λ_ h=>h⟩⟩
   ·exact⟨λj h=>absurd (s.lt i j h).1 hlt,λh=>absurd (s.kW i h).1 hlt⟩
 have RH:Via (back p H.length) pW (jR ι pW H.length p):=λk i h=>by
  obtain⟨e1,e2,e3,e4⟩:=hinl (KZ hp hl h)
  rw[e1,e2,e4]
  exact⟨λ_ h=>h,λh=>h,λ_ h=>h⟩
 have Uj:Keeps M' (OR R' pW) M' (OR R (jR ι pW H.length p)):=⟨Nat.le_refl _,λb _ h=>⟨rfl,λk=>h (UZ b k)⟩⟩
 refine⟨⟨λi j h=>?_,λi i' j h h' e e' g=>?_,λi x hx=>?_,λi h=>?_,λi hi c sl h=>?_,sc.Fj,λj h=>⟨?_,λi hi=>?_⟩⟩,⟨hkeep,hle _,λi hi h=>?_,λi hi=>?_,λi hi=>?_,λi hi h=>?_,λi hi h=>?_,λi j hi h hj hn=>?_,by rw[hlen];omega⟩,λv a h=>VL.rn Uj RH v a h⟩
 ·rw[hlen]
  cases hc:cls H.length p i with
  | inl k =>
   rw[(hinl hc).1]at h
   obtain⟨q1,q2⟩:=sc.lt k j h
   refine⟨?_,q2⟩
   rcases uE hp hl hc with⟨_,h2⟩ |⟨_,h2,rfl⟩<;>omega
  | inr i' =>
   rw[(hinr hc).1]at h
   obtain⟨q1,q2⟩:=s.lt i j h
   exact⟨by omega,Nat.lt_of_lt_of_le q2 kc.keep.next⟩
 ·cases hc:cls H.length p i with
  | inl k =>
   cases hc':cls H.length p i' with
   | inl k' =>
    rw[(hinl hc).1]at e
    rw[(hinl hc').1]at e'
    rw[(hinl hc).2.2.1,(hinl hc').2.2.1]at g
    have:=sc.inj k k' j (RD hc h) (RD hc' h') e e' g
    subst this
    exact NI hp hl hc hc'
   | inr i2 =>
    exfalso
    obtain⟨rfl,q1,q2⟩:=mO hp hl hc'
    have ha:=RF hc' h'
    rw[(hinl hc).1]at e
    rw[(hinr hc').1]at e'
    rw[(hinl hc).2.2.1,(hinr hc').2.2.1]at g
    rcases g with g | g
    ·exact(stays q1 ha e').2 ⟨k,e,g⟩
    ·exact(sc.res j ((hR' j).2 (.inr ⟨⟨i2,e',g⟩,IV q1 ha e'⟩))).2 k (RD hc h) e
  | inr i1 =>
   obtain⟨rfl,q1,q2⟩:=mO hp hl hc
   have ha:=RF hc h
   rw[(hinr hc).1]at e
   cases hc':cls H.length p i' with
   | inl k' =>
    exfalso
    rw[(hinl hc').1]at e'
    rw[(hinr hc).2.2.1,(hinl hc').2.2.1]at g
    rcases g with g | g
    ·exact(sc.res j ((hR' j).2 (.inr ⟨⟨i1,e,g⟩,IV q1 ha e⟩))).2 k' (RD hc' h') e'
    ·exact(stays q1 ha e).2 ⟨k',e',g⟩
   | inr i2 =>
    obtain⟨rfl,q1',q2'⟩:=mO hp hl hc'
    rw[(hinr hc').1]at e'
    rw[(hinr hc).2.2.1,(hinr hc').2.2.1]at g
    exact s.inj i1 i2 j ha (RF hc' h') e e' g
 ·cases hc:cls H.length p i with
  | inl k =>
   rw[hget,hc]at hx
   obtain⟨z,hz,rfl⟩:=lg hx
   obtain⟨e1,e2,e3,e4⟩:=hinl hc
   rw[e1,e2,e3,e4,D6]
   rcases sc.blk k z hz with⟨h1,h2,ro,rfl⟩ |⟨j,h1,h2,h3⟩
   ·exact .inl ⟨h1,h2,ro,rfl⟩
   ·exact .inr ⟨j,h1,BL.rn Uj RH h2,h3⟩
  | inr i' =>
   obtain⟨rfl,q1,q2⟩:=mO hp hl hc
   rw[hget,hc]at hx
   obtain⟨e1,e2,e3,e4⟩:=hinr hc
   rw[e1,e2,e3,e4]
   rcases s.blk i' x hx with h |⟨j,h1,h2,h3⟩
   ·exact .inl h
   ·refine .inr ⟨j,h1, ?_,h3⟩
    rw[(stays q1 (.inl ⟨x,hx⟩) h1).1]
    exact h2.mono (hkeep.or R) hle (λ_ h=>h)
 ·rw[hlen]
  cases hc:cls H.length p i with
  | inl k =>
   rw[(hinl hc).2.1]at h
   rw[(hinl hc).1]
   obtain⟨q1,q2⟩:=sc.kW k h
   refine⟨?_,q2⟩
   rcases uE hp hl hc with⟨_,h2⟩ |⟨_,h2,rfl⟩<;>omega
  | inr i' =>
   rw[(hinr hc).2.1]at h
   rw[(hinr hc).1]
   obtain⟨q1,q2⟩:=s.kW i h
   exact⟨by omega,q2⟩
 ·cases hc:cls H.length p i with
  | inl k =>
   rw[(hinl hc).2.2.1]at hi
   rw[hget,hc]at h
   obtain⟨z,hz,h2⟩:=lg h
   have hr:=D6 (back p H.length) z
   rw[←h2]at hr
   cases z with
   | cells c' ro sl' =>
    simp only[fP.ro]at hr
    subst hr
    exact sc.jM k hi c' sl' hz
   | map es=>cases h2
  | inr i' =>
   obtain⟨rfl,q1,q2⟩:=mO hp hl hc
   rw[(hinr hc).2.2.1]at hi
   rw[hget,hc]at h
   exact s.jM i' hi c sl h
 ·exact Nat.lt_of_lt_of_le (s.res j h).1 kc.keep.next
 ·cases hc:cls H.length p i with
  | inl k =>
   rw[(hinl hc).1]
   exact(sc.res j ((hR' j).2 (.inl h))).2 k (RD hc hi)
  | inr i' =>
   rw[(hinr hc).1]
   exact(s.res j h).2 i (RF hc hi)
 ·by_cases hm:i∈p
  ·obtain⟨k,hk⟩:=List.mem_iff_getElem?.1 hm
   rw[(hinl (uD hp hl hk)).2.2.1]
   refine kc.gone k (aF.1 hk).1 ?_
   simp only[dx,hk]
   exact h
  ·rw[(hinr (hold hm hi)).2.2.1]
   exact h
 ·by_cases hm:i∈p
  ·obtain⟨k,hk⟩:=List.mem_iff_getElem?.1 hm
   rw[(hinl (uD hp hl hk)).1,kc.Py k (aF.1 hk).1]
   simp only[dx,hk]
  ·rw[(hinr (hold hm hi)).1]
 ·by_cases hm:i∈p
  ·obtain⟨k,hk⟩:=List.mem_iff_getElem?.1 hm
   rw[(hinl (uD hp hl hk)).2.2.2,kc.GH k (aF.1 hk).1]
   simp only[dx,hk]
  ·rw[(hinr (hold hm hi)).2.2.2]
 ·by_cases hm:i∈p
  ·obtain⟨x,hx⟩:=hpl i hm
   rw[h]at hx
   cases hx
  ·rw[(hinr (hold hm hi)).2.2.1]
 ·obtain⟨x,h⟩:=h
  by_cases hm:i∈p
  ·obtain⟨k,hk⟩:=List.mem_iff_getElem?.1 hm
   rw[hget,uD hp hl hk]at h
   obtain⟨z,hz,_⟩:=lg h
   exact hbk k i hk (kc.live k (aF.1 hk).1 ⟨z,hz⟩)
  ·rw[hget,hold hm hi]at h
   exact⟨x,h⟩
 ·exact(stays hn (RF (hold hn hi) h) hj).1
end
mutual
theorem FC{M M':Heap}{O O':Nat→Prop}{κ jX:VI}:∀(v a:AV),jB v=true→VL M O κ v a→VL M' O' jX v a
 |.bool _,a,_,h=>by simp only[VL]at h ⊢;exact h
 |.int ..,a,_,h=>by simp only[VL]at h ⊢;exact h
 |.str _,a,_,h=>by simp only[VL]at h ⊢;exact h
 |.ptr none,a,_,h=>by simp only[VL]at h ⊢;exact h
 |.nilFunc,a,_,h=>by simp only[VL]at h ⊢;exact h
 |.slice none s l c e,a,hs,h=>by simp only[VL]at h ⊢;exact h
 |.tuple cs,a,hs,h=>by
  simp only[jB]at hs
  simp only[VL]at h ⊢
  obtain⟨cs',e,h⟩:=h
  exact⟨cs',e,yG cs cs' hs h⟩
 |.agg cs,a,hs,h=>by
  simp only[jB]at hs
  simp only[VL]at h ⊢
  obtain⟨cs',e,h⟩:=h
  exact⟨cs',e,yG cs cs' hs h⟩
 |.undef,_,hs,_=>by simp[jB]at hs
 |.ptr (some _),_,hs,_=>by simp[jB]at hs
 |.slice (some _) _ _ _ _,_,hs,_=>by simp[jB]at hs
 |.map _,_,hs,_=>by simp[jB]at hs
 |.func _ _,_,hs,_=>by simp[jB]at hs
 |.list ..,_,hs,_=>by simp[jB]at hs
 |.elem _,_,hs,_=>by simp[jB]at hs
 |.acc ..,_,hs,_=>by simp[jB]at hs
theorem yG{M M':Heap}{O O':Nat→Prop}{κ jX:VI}:∀(v a:List AV),Fp v=true→bf M O κ v a→bf M' O' jX v a
 | [],[],_,_=>by simp[bf]
 | [],_::_,_,h=>by simp[bf]at h
 | _::_,[],_,h=>by simp[bf]at h
 | v::r,a::l,hs,h=>by
  simp only[Fp]at hs
  split at hs
  case h_2=>cases hs
  rename_i hv
  simp only[bf]at h ⊢
  exact⟨FC v a hv h.1,yG r l hs h.2⟩
end
theorem VS.ext{R:Nat→Prop}{ι:VI}{H:WH}{M M':Heap}(s:VS R ι H M)(hn:M.next≤M'.next)(hg:∀b,b<M.next→M'.get b=M.get b)(ok:M'.Ok):VS R ι H M'∧Stp H.length [] ι H M ι H M':=by
 have hk:Keeps M (own ι) M' (own ι):=⟨hn,λb hb ho=>⟨hg b hb,ho⟩⟩
 refine⟨⟨λi j h=>⟨(s.lt i j h).1,Nat.lt_of_lt_of_le (s.lt i j h).2 hn⟩,s.inj,λi x hx=>?_,s.kW,s.jM,ok,λj h=>⟨Nat.lt_of_lt_of_le (s.res j h).1 hn,(s.res j h).2⟩⟩,⟨hk,.refl _ _,λ_ _ h=>h,λ_ _=>rfl,λ_ _=>rfl,λ_ _ _=>rfl,λ_ _ h=>h,λi j _ _ hj _=>?_,Nat.le_refl _⟩⟩
 ·rcases s.blk i x hx with h |⟨j,h1,h2,h3⟩
  ·exact .inl h
  refine .inr ⟨j,h1, ?_,h3⟩
  rw[hg j (s.lt i j h1).2]
  exact h2.mono (hk.or R) (λ_=>.refl _ _) (λ_ h=>h)
 ·exact hg j (s.lt i j hj).2
theorem K3 {C:aY} {g:FuncId} {args as:List AV} {R:Nat→Prop} {ι:VI} {H:WH} {M:Heap} (s:VS R ι H M) (hv:bf M (OR R ι) ι args as) {ms:List (Option Bool)} {ts:List AV} {v:AV}
  (h0:wQ (uM ms (h_ args ts) H).2 0 (fU (uM ms (h_ args ts) H).1)=[]) (hs:jB v=true) (hspec:Spec C g (BP (kV []) (uM ms (h_ args ts) H).1) [] v []) :
  ∃a M',C g as M=some (a,M')∧VS R ι H M'∧Stp H.length [] ι H M ι H M'∧VL M' (OR R ι) ι v a:=by
 obtain⟨mo,k1,k2,k3⟩:=xg ms (h_ args ts) H ι M as s (bf.retag _ _ _ hv)
 generalize uM ms (h_ args ts) H=q at *
 obtain⟨vs,H2⟩:=q
 simp only at h0 hspec k1 k2 k3
 obtain⟨p1,p2,_⟩:=AU H2 0 (fU vs)
 rw[h0]at p1 p2
 let R':Nat→Prop:=λj=>R j∨(own mo j∧¬own (dx mo []) j)
 have hsub:∀j,OR R' (dx mo []) j→OR R mo j:=λj h=>by
  rcases h with h | h | h
  ·obtain⟨b,_,h3,h4⟩:=mQ h
   exact .inl ⟨b,h3,h4⟩
  ·exact .inr h
  ·exact .inl h.1
 have hpick:=k1.pick p1 (R':=R') (λj h=>by
  rcases h with h |⟨⟨i,q1,q2⟩,q3⟩
  ·exact⟨(k1.res j h).1,λb _ hb=>(k1.res j h).2 b hb⟩
  ·exact⟨(k1.lt i j q1).2,λb hb=>(nomatch hb)⟩) hsub
 have hargs:bf M (OR R' (dx mo [])) (dx mo []) (BP (kV []) vs) as:=bf.rn ⟨Nat.le_refl _,λb _ h=>⟨rfl,λk=>h (hsub b k)⟩⟩ (by have:=@oI;rw[←h0];exact oI) _ _ k3
 obtain⟨a,M',pW,e,q1,q2,q3⟩:=hspec R' (dx mo []) M as hpick hargs
 have hno:∀b,¬own (dx mo []) b:=λb h=>by
  obtain⟨c,hc,_⟩:=mQ h
  exact(nomatch hc)
 obtain⟨e1,e2⟩:=s.ext q2.keep.next (λb hb=>(q2.keep.get b hb (hno b)).1) q1.Fj
 exact⟨a,M',e,e1,e2,FC v a hs q3⟩
mutual
theorem CZ{M M':Heap}{O O':Nat→Prop}{κ:VI}:∀(v a:AV),clean v=true→VL M O κ v a→VL M' O' κ v a
 |.bool _,a,_,h=>by simp only[VL]at h ⊢;exact h
 |.int ..,a,_,h=>by simp only[VL]at h ⊢;exact h
 |.str _,a,_,h=>by simp only[VL]at h ⊢;exact h
 |.ptr none,a,_,h=>by simp only[VL]at h ⊢;exact h
 |.ptr (some _),a,_,h=>by simp only[VL]at h ⊢;exact h
 |.nilFunc,a,_,h=>by simp only[VL]at h ⊢;exact h
 |.slice none s l c e,a,hs,h=>by simp only[VL]at h ⊢;exact h
 |.slice (some _) s l c e,a,hs,h=>by simp only[VL]at h
 |.map none,a,_,h=>by simp only[VL]at h ⊢;exact h
 |.map (some _),a,_,h=>by simp only[VL]at h ⊢;exact h
 |.undef,_,_,_=>by simp[VL]
 |.acc ..,a,_,h=>by simp only[VL]at h ⊢;exact h
 |.tuple cs,a,hs,h=>by
  simp only[clean]at hs
  simp only[VL]at h ⊢
  obtain⟨cs',e,h⟩:=h
  exact⟨cs',e,o_ cs cs' hs h⟩
 |.agg cs,a,hs,h=>by
  simp only[clean]at hs
  simp only[VL]at h ⊢
  obtain⟨cs',e,h⟩:=h
  exact⟨cs',e,o_ cs cs' hs h⟩
 |.func f cs,a,hs,h=>by
  simp only[clean]at hs
  simp only[VL]at h ⊢
  obtain⟨cs',e,h⟩:=h
  exact⟨cs',e,o_ cs cs' hs h⟩
 |.list ..,_,hs,_=>by simp[clean]at hs
 |.elem _,_,hs,_=>by simp[clean]at hs
theorem o_{M M':Heap}{O O':Nat→Prop}{κ:VI}:∀(v a:List AV),kX v=true→bf M O κ v a→bf M' O' κ v a
 | [],[],_,_=>by simp[bf]
 | [],_::_,_,h=>by simp[bf]at h
 | _::_,[],_,h=>by simp[bf]at h
 | v::r,a::l,hs,h=>by
  simp only[kX]at hs
  split at hs
  case h_2=>cases hs
  rename_i hv
  simp only[bf]at h ⊢
  exact⟨CZ v a hv h.1,o_ r l hs h.2⟩
end
theorem VS.RI{R R':Nat→Prop}{ι:VI}{H:WH}{M:Heap}(s:VS R ι H M)(hc:∀i x,bE H i=some x→∃c sl,x=.cells c false sl∧kX c=true)(h:∀j,R' j→R j∨(j<M.next∧¬own ι j)):VS R' ι H M:=by
 refine⟨s.lt,s.inj,λi x hx=>?_,s.kW,s.jM,s.Fj,λj hj=>?_⟩
 ·rcases s.blk i x hx with h |⟨j,h1,h2,h3⟩
  ·exact .inl h
  obtain⟨c,sl,rfl,hcl⟩:=hc i x hx
  obtain⟨c',t,ro',sl',L,e,g0,g1,g2,g3,g4⟩:=h2
  exact .inr ⟨j,h1,⟨c',t,ro',sl',L,e,g0,g1,g2,o_ c c' hcl g3,g4⟩,h3⟩
 ·rcases h j hj with h |⟨h,ho⟩
  ·exact s.res j h
  refine⟨h,λi ha hi=>ho ⟨i,hi, ?_⟩⟩
  rcases ha with⟨x,hx⟩ | ha
  ·obtain⟨c,sl,rfl,_⟩:=hc i x hx
   rcases s.blk i _ hx with⟨q,_⟩ |⟨j',_,_,q⟩
   ·rw[(s.kW i q).2]at hi
    cases hi
   ·exact q rfl
  ·exact ha
theorem xw:∀ {out:WH} {k:TS→Prop} {tr:TS},CJ out k tr→(∃eO,k eO)∧∀i x,bE out i=some x→∃c sl,x=.cells c false sl∧kX c=true
 | [],k,tr,h=>⟨⟨tr,h⟩,λi x hx=>by simp[bE]at hx⟩
 | none::r,k,tr,h=>by
  obtain⟨h1,h2⟩:=xw (out:=r) h
  refine⟨h1,λi x hx=>?_⟩
  cases i with
  | zero=>simp[bE]at hx
  | succ i=>exact h2 i x hx
 | some (.map _)::_,k,tr,h=>h.elim
 | some (.cells c ro sl)::r,k,tr,h=>by
  have fin:kX c=true→ro=false→(∀i x,bE r i=some x→∃c sl,x=.cells c false sl∧kX c=true)→∀i x,bE (some (.cells c ro sl)::r) i=some x→∃c sl,x=.cells c false sl∧kX c=true:=λhc hr h2 i x hx=>by
   cases i with
   | zero =>
    simp only[bE,au]at hx
    subst hr
    exact⟨c,sl,hx.symm,hc⟩
   | succ i=>exact h2 i x hx
  simp only[CJ]at h
  cases ro
  case true=>cases sl<;>exact h.elim
  cases sl
  ·simp only at h
   split at h
   case h_2=>exact h.elim
   rename_i hc
   obtain⟨h1,h2⟩:=xw (out:=r) h
   exact⟨h1,fin hc rfl h2⟩
  ·obtain⟨eO,hc,h⟩:=eH h
   obtain⟨h1,h2⟩:=xw (out:=r) h
   exact⟨h1,fin hc rfl h2⟩
theorem FD{S:List Nat}:∀ {p:List Nat},apart S p=true→∀b∈p,jo S b=false
 | [],_,b,hb=>by cases hb
 | a::p,h,b,hb=>by
  simp only[apart]at h
  split at h
  ·cases h
  rename_i ha
  rcases List.mem_cons.1 hb with rfl | hb
  ·exact ha
  ·exact FD h b hb
theorem AZ{H:WH}:∀ {bs:List Bool} {vs:List AV} {q:List AV×List Nat},wR H bs vs=some q→∀b∈q.2,∃x,bE H b=some x
 | bs,[],q,h=>by
  simp only[wR,au]at h
  subst h
  intro b hb
  cases hb
 | bs,v::r,q,h=>by
  simp only[wR]at h
  split at h
  case h_2=>cases h
  rename_i q' hq
  have i:=AZ hq
  split at h
  ·simp only[au]at h
   subst h
   exact i
  ·split at h
   case h_2=>cases h
   rename_i p hp
   simp only[au]at h
   subst h
   intro b hb
   rcases List.mem_append.1 hb with hb | hb
   ·exact iX 5 false v p hp b hb
   ·exact i b hb
theorem yH{R:Nat→Prop}{ι:VI}{H:WH}{M:Heap}(s:VS R ι H M)(S:List Nat)(hS:∀b∈S,∃x,bE H b=some x):∀ {bs:List Bool} {vs as:List AV} {q:List AV×List Nat},wR H bs vs=some q→(∀b∈q.2,b∈S)→bf M (OR R ι) ι vs as→bf M (OR R (ι.jM S)) (ι.jM S) q.1 as
 | bs,[],as,q,h,_,hv=>by
  simp only[wR,au]at h
  subst h
  cases as with
  | nil=>simp[bf]
  | cons=>simp[bf]at hv
 | bs,v::r,as,q,h,hq,hv=>by
  cases as with
  | nil=>simp[bf]at hv
  | cons a as =>
  simp only[bf]at hv
  simp only[wR]at h
  split at h
  case h_2=>cases h
  rename_i q' hq'
  obtain⟨_,h2⟩:=s.Fy S hS
  split at h
  ·simp only[au]at h
   subst h
   simp only[bf]
   exact⟨VL.step s h2 hv.1,yH s S hS hq' hq hv.2⟩
  ·split at h
   case h_2=>cases h
   rename_i p hp
   simp only[au]at h
   subst h
   simp only[bf]
   refine⟨?_,yH s S hS hq' (λb hb=>hq b (List.mem_append_right _ hb)) hv.2⟩
   refine DY s (O':=OR R (ι.jM S)) (λj h=>h.imp wY id) (jX:=ι.jM S) (AO _ _ _) 5 false v p a hp hv.1 (λb hb j hj=>?_)
   have lv:=iX 5 false v p hp b hb
   rintro(⟨i,q1,q2⟩ | hR)
   ·simp only[VI.jM,Bool.or_eq_false_iff]at q1 q2
    have:=s.inj i b j (.inr q2.1) (.inl lv) q1 hj (.inl q2.1)
    subst this
    rw[kZ.2 (hq i (List.mem_append_left _ hb))]at q2
    cases q2.2
   ·exact(s.res j hR).2 b (.inl lv) hj
theorem K4 {C:aY} {g:FuncId} {Sm as:List AV} {R:Nat→Prop} {ι:VI} {H:WH} {M:Heap} (s:VS R ι H M) (hv:bf M (OR R ι) ι Sm as) {ls:List Bool} {q:List AV×List Nat} (hq:wR H ls Sm=some q) {p:List Nat}
  (hp:wQ (og H q.2) 0 (fU q.1)=p) {v:AV} {out:WH} (ho:p.length≤out.length) (ha:apart q.2 p=true) (hc:clean v=true) (hco:∀i x,bE out i=some x→∃c sl,x=.cells c false sl∧kX c=true)
  (hspec:Spec C g (BP (kV p) q.1) (jS (og H q.2) p p) v out) :
  ∃a M' aX,C g as=(λM=>C g as M)∧C g as M=some (a,M')∧VS R aX (sw H p out) M'∧Stp H.length p ι H M aX (sw H p out) M'∧VL M' (OR R aX) aX (rn (back p H.length) v) a:=by
 have hlive:=AZ hq
 obtain⟨k1,k2⟩:=s.Fy q.2 hlive
 have k3:=yH s q.2 hlive hq (λ_ h=>h) hv
 obtain⟨p1,p2,_⟩:=AU (og H q.2) 0 (fU q.1)
 rw[hp]at p1 p2
 have hap:=FD ha
 have hpk:dx (ι.jM q.2) p=dx ι p:=by
  unfold dx VI.jM
  congr 1
  funext k
  cases e:p[k]? with
  | none=>rfl
  | some b =>
   simp only
   rw[hap b (List.mem_of_getElem? e),Bool.or_false]
 have hpl:∀b,b∈p→∃x,bE H b=some x:=λb hb=>by
  obtain⟨y,hy⟩:=(p2 b hb).resolve_left (by omega)
  rw[o9]at hy
  split at hy
  ·obtain⟨z,hz,_⟩:=uy hy
   exact⟨z,hz⟩
  ·exact⟨y,hy⟩
 have hl:∀b,b∈p→b<H.length:=λb hb=>by
  obtain⟨x,hx⟩:=hpl b hb
  exact je hx
 let R':Nat→Prop:=λj=>R j∨(own (ι.jM q.2) j∧¬own (dx (ι.jM q.2) p) j)
 have hsub:∀j,OR R' (dx (ι.jM q.2) p) j→OR R (ι.jM q.2) j:=λj h=>by
  rcases h with h | h | h
  ·obtain⟨b,_,h3,h4⟩:=mQ h
   exact .inl ⟨b,h3,h4⟩
  ·exact .inr h
  ·exact .inl h.1
 have hpick:=k1.pick p1 (R':=R') (λj h=>by
  rcases h with h |⟨⟨i,q1,q2⟩,q3⟩
  ·exact⟨(k1.res j h).1,λb _ hb=>(k1.res j h).2 b hb⟩
  ·refine⟨(k1.lt i j q1).2,λb hb ha hj=>?_⟩
   have:=k1.inj i b j (.inr q2) ha q1 hj (.inl q2)
   subst this
   obtain⟨k,hk⟩:=List.mem_iff_getElem?.1 hb
   exact q3 ⟨k,by simp only[dx,hk];exact hj,by simp only[dx,hk];exact q2⟩) hsub
 have hargs:bf M (OR R' (dx (ι.jM q.2) p)) (dx (ι.jM q.2) p) (BP (kV p) q.1) as:=bf.rn ⟨Nat.le_refl _,λb _ h=>⟨rfl,λk=>h (hsub b k)⟩⟩ oI _ _ k3
 obtain⟨a,M',pW,e,q1,q2,q3⟩:=hspec R' (dx (ι.jM q.2) p) M as hpick hargs
 rw[mD]at q2
 let R2:Nat→Prop:=λj=>R j∨(own ι j∧¬own (dx ι p) j)
 have q4:VS R2 pW out M':=q1.RI hco λj hj=>by
  rcases hj with hj |⟨⟨i,g1,g2⟩,g3⟩
  ·exact .inl (.inl hj)
  ·have lt:=(s.lt i j g1).2
   refine .inr ⟨Nat.lt_of_lt_of_le lt q2.keep.next,(q2.keep.get j lt ?_).2⟩
   rw[hpk]
   exact g3
 have q5:VL M' (OR R2 pW) pW v a:=CZ v a hc q3
 rw[hpk]at q2
 obtain⟨u1,u2,u3⟩:=IU (R:=R) (R':=R2) p1 hl ho (λj=>Iff.rfl) s q4 q2 hpl (λk b hk ⟨x,hx⟩=>hpl b (List.mem_of_getElem? hk))
 exact⟨a,M',_,rfl,e,u1,u2,u3 v a q5⟩
theorem K5 {C:aY} {g:FuncId} {args as:List AV} {R:Nat→Prop} {ι:VI} {H:WH} {M:Heap} (s:VS R ι H M) (hv:bf M (OR R ι) ι args as) {tr:TS} {k:AV→WH→List Nat→TS→Prop} (h:KP C g args H tr k) :
  ∃a M' aX v H' t eO,C g as M=some (a,M')∧VS R aX H' M'∧Stp H.length t ι H M aX H' M'∧VL M' (OR R aX) aX v a∧k v H' t eO:=by
 unfold KP at h
 split at h
 case h_2 =>
  rename_i ms ls ts v out r
  simp only at h
  obtain⟨gH,h1,h2,h3⟩:=xg ms (h_ args ts) H ι M as s (bf.retag _ _ _ hv)
  generalize uM ms (h_ args ts) H=q0 at *
  obtain⟨vs,H1⟩:=q0
  simp only at h h1 h2 h3
  split at h
  case h_2=>exact h.elim
  rename_i q hq
  split at h
  case h_2=>exact h.elim
  rename_i e1 e2 e3
  obtain⟨⟨tr1,h⟩,hco⟩:=xw h
  obtain⟨eO,hspec,hk⟩:=eH h
  obtain⟨a,M',aX,_,f1,f2,f3,f4⟩:=K4 h1 h3 hq rfl (Nat.le_of_ble_eq_true e1) e2 e3 hco hspec
  refine⟨a,M',aX,_,_,_,_,f1,f2, ?_,f4,hk⟩
  exact h2.trans f3 h2.next
 case h_3 =>
  rename_i ms ts v r
  simp only at h
  split at h
  case h_2=>exact h.elim
  rename_i e1 e2
  obtain⟨eO,h⟩:=eH h
  obtain⟨a,M',f1,f2,f3,f4⟩:=K3 s hv e1 e2 h.1
  exact⟨a,M',ι,v,H,[],eO,f1,f2,f3,f4,h.2⟩
 case h_4=>exact h.elim
 rename_i ms m ts v out r
 obtain⟨gH,h1,h2,h3⟩:=xg ms (h_ args ts) H ι M as s (bf.retag _ _ _ hv)
 generalize hr:uM ms (h_ args ts) H=q at *
 obtain⟨vs,H1⟩:=q
 simp only at h h1 h2 h3
 obtain⟨mo,k1,k2⟩:=xq [] m (wQ H1 0 (fU vs)) H1 gH M h1
 have k3:=bf.step h1 k2 h3
 generalize zh [] m (wQ H1 0 (fU vs)) H1=H2 at *
 obtain⟨p1,p2,_⟩:=AU H2 0 (fU vs)
 generalize wQ H2 0 (fU vs)=p at *
 split at h
 case h_2=>exact h.elim
 rename_i ho
 have ho:=Nat.le_of_ble_eq_true ho
 obtain⟨eO,hspec,hk⟩:=eH h
 have hl:∀b,b∈p→b<H2.length:=λb hb=>by
  rcases p2 b hb with h |⟨y,h⟩
  ·omega
  ·exact je h
 let R':Nat→Prop:=λj=>R j∨(own mo j∧¬own (dx mo p) j)
 have hsub:∀j,OR R' (dx mo p) j→OR R mo j:=λj h=>by
  rcases h with h | h | h
  ·obtain⟨b,_,h3,h4⟩:=mQ h
   exact .inl ⟨b,h3,h4⟩
  ·exact .inr h
  ·exact .inl h.1
 have hpick:=k1.pick p1 (R':=R') (λj h=>by
  rcases h with h |⟨⟨i,q1,q2⟩,q3⟩
  ·exact⟨(k1.res j h).1,λb _ hb=>(k1.res j h).2 b hb⟩
  ·refine⟨(k1.lt i j q1).2,λb hb ha hj=>?_⟩
   have:=k1.inj i b j (.inr q2) ha q1 hj (.inl q2)
   subst this
   obtain⟨k,hk⟩:=List.mem_iff_getElem?.1 hb
   exact q3 ⟨k,by simp only[dx,hk];exact hj,by simp only[dx,hk];exact q2⟩) hsub
 have hargs:bf M (OR R' (dx mo p)) (dx mo p) (BP (kV p) vs) as:=bf.rn ⟨Nat.le_refl _,λb _ h=>⟨rfl,λk=>h (hsub b k)⟩⟩ oI _ _ k3
 obtain⟨a,M',pW,e,q1,q2,q3⟩:=hspec R' (dx mo p) M as hpick hargs
 rw[mD]at q2
 obtain⟨u1,u2,u3⟩:=IU (R:=R) (R':=R') p1 hl ho (λj=>Iff.rfl) k1 q1 q2 (λb hb=>(p2 b hb).resolve_left (by omega)) (λk b hk ⟨x,hx⟩=>by
  rw[iL,hk]at hx
  obtain⟨z,hz,_⟩:=lg hx
  exact⟨z,hz⟩)
 refine⟨a,M',_,_,_,_,_,e,u1, ?_,u3 v a q3,hk⟩
 have:=(h2.trans k2 h2.next).trans u2 (Nat.le_trans h2.next k2.next)
 simpa using this
def Gm(C:aY)(f:FuncId)(b:Bt):Prop:=∀(R:Nat→Prop) (ι:VI) (H:WH) (M:Heap) (args as:List AV) (d:Option Nat) (tr:TS) (k:AV→WH→List Nat→TS→Prop),VS R ι H M→bf M (OR R ι) ι args as→Rf b d args H tr k →
 ∃a M' aX v H' t eO,C f as M=some (a,M')∧VS R aX H' M'∧Stp H.length t ι H M aX H' M'∧VL M' (OR R aX) aX v a∧k v H' t eO
theorem D7{R:Nat→Prop}{d:Option Nat}{x:Option AV}{tr:TS}{k:AV→TS→Prop}(h:Rb d x tr k):∃v u eO,x=some v∧k u eO∧∀(M:Heap) (O:Nat→Prop) (κ:VI) (a:AV),VL M O κ v a→VL M O κ u a:=by
 have plain:∀ {tr},(match x with | some v=>k v tr | none=>False)→∃v u eO,x=some v∧k u eO∧∀(M:Heap) (O:Nat→Prop) (κ:VI) (a:AV),VL M O κ v a→VL M O κ u a:=λ{tr} h=>by
  cases x with
  | none=>exact h.elim
  | some v=>exact⟨v,v,tr,rfl,h,λ_ _ _ _ h=>h⟩
 unfold Rb at h
 split at h
 ·split at h
  ·obtain⟨eO,h⟩:=eH h
   exact⟨_,_,_,h.1,h.2,λ_ _ _ _ h=>h⟩
  ·exact plain h
 ·split at h
  ·split at h
   ·rename_i v
    exact⟨v,_,_,rfl,h,λ_ _ _ _ h=>VL.retag _ _ _ h⟩
   ·exact h.elim
  ·exact plain h
 ·exact plain h
theorem zV{d:Option Nat}{n:Nat}{cs:List AV}{tr:TS}{k:Nat→List AV→TS→Prop}(h:Ju d n cs tr k):∃eO,k n cs eO:=by
 unfold Ju at h
 split at h
 ·split at h
  ·obtain⟨_,rfl,h⟩:=eH h
   obtain⟨_,rfl,h⟩:=eH h
   exact⟨_,h⟩
  ·exact⟨_,h⟩
 ·exact⟨_,h⟩
theorem qE{M:Heap}{O:Nat→Prop}{κ:VI}:∀ {l r:List AV},l.all AV.flat=true→bf M O κ l r→bf M O VI.none l r
 | [],[],_,_=>by simp[bf]
 | v::l,a::r,h,e=>by
  simp only[List.all_cons,Bool.and_eq_true]at h
  simp only[bf]at e ⊢
  refine⟨?_,qE h.2 e.2⟩
  have h1:=h.1
  have e1:=e.1
  cases v with
  | ptr p=>cases p<;>simp_all [AV.flat,VL]
  | slice p=>cases p<;>simp_all [AV.flat,VL]
  | map p=>cases p<;>simp_all [AV.flat,VL]
  | func f cs =>
   cases cs with
   | nil =>
    simp only[VL]at e1 ⊢
    obtain⟨cs',rfl,e1⟩:=e1
    refine⟨cs',rfl, ?_⟩
    cases cs' with
    | nil=>simp[bf]
    | cons _ _=>simp[bf]at e1
   | cons _ _=>simp[AV.flat]at h1
  | _=>simp_all [AV.flat,VL]
 | [],_::_,_,e=>by simp[bf]at e
 | _::_,[],_,e=>by simp[bf]at e
theorem pq(z:List AV):∀n,(fA n z).length=n*z.length
 | 0=>by simp[fA]
 | n+1=>by simp only[fA,aG,pq z n,Nat.add_mul,Nat.one_mul];omega
section
variable {R:Nat→Prop} {ι:VI} {H:WH} {M:Heap} (s:VS R ι H M) {ρ σ:Nat→AV} (h:∀t,VL M (OR R ι) ι (ρ t) (σ t))
include s h
theorem A8 {sz:Nat}:∀ {ps:List (Nat×AX)} {cs cs' l:List AV},(ps.all λp=>p.2.bP)=true→bf M (OR R ι) ι cs cs' →
  jd cs (ps.map λp=>(p.1*sz,sz,(p.2.sub ρ).ev []))=some l→∃l',jd cs' (ps.map λp=>(p.1*sz,sz,(p.2.sub σ).ev []))=some l'∧bf M (OR R ι) ι l l'
 | [],cs,cs',l,_,hr,hf=>by
  simp only[List.map_nil,jd,au]at hf ⊢
  subst hf
  exact⟨cs',rfl,hr⟩
 | p::ps,cs,cs',l,hc,hr,hf=>by
  simp only[List.all_cons,Bool.and_eq_true]at hc
  simp only[List.map_cons,jd]at hf ⊢
  split at hf
  case h_2=>cases hf
  rename_i x hx
  split at hf
  case isFalse=>cases hf
  rename_i hle
  obtain⟨x',hx',Rz⟩:=(bJ h hc.1).cells hx
  rw[hx']
  simp only
  rw[if_pos (by rw[←Rz.length,←hr.length];exact hle)]
  refine A8 hc.2 ?_ hf
  exact((hr.take _).append Rz).append (hr.drop _)
theorem PN {d:Option Nat} {o:r_} (hc:o.bP=true) {tr:TS} {k:fP→(Nat→AV)→TS→Prop} (hv:wK d (o.sub ρ) tr k) :
  ∃c sl mk c' sl' Sz eO,k (.cells c false sl) mk eO∧aK (o.sub σ) []=some (.cells c' false sl',Sz)∧bf M (OR R ι) (if sl then VI.none else ι) c c'∧(sl=false→sl'=false) ∧
   ∀(M':Heap) (O:Nat→Prop) (κ:VI) (b j:Nat),κ b=some j→κ.dim b=some (c.length,c'.length)→VL M' O κ (mk b) (Sz.val j):=by
 have IW:∀(c c':List AV) (M':Heap) (O:Nat→Prop) (κ:VI) (b j:Nat),κ b=some j→κ.dim b=some (c.length,c'.length)→VL M' O κ (.ptr (some (b,0))) (Mk.ptr.val j):=λc c' M' O κ b j h1 _=>by
  simp only[Mk.val,VL]
  exact⟨j,h1,rfl⟩
 have K6:∀(c c':List AV) (sz n:Nat) (ex:Bool),c.length=n*sz→n*sz≤c'.length→∀(M':Heap) (O:Nat→Prop) (κ:VI) (b j:Nat),κ b=some j→κ.dim b=some (c.length,c'.length)→VL M' O κ (.acc b 0 sz n true) ((Mk.slice sz n n ex).val j):=λc c' sz n ex h0 hL M' O κ b j h1 h2=>by
  simp only[Mk.val,VL]
  exact⟨_,_,_,_,rfl,Nat.le_refl _,(λh=>by cases h),λ_=>rfl,_,_,h2,by omega,λ_=>⟨trivial,h0.symm⟩,.inl ⟨j,h1,.inl ⟨rfl,by omega⟩⟩⟩
 cases o with
 | alloc zero =>
  have hz:bf M (OR R ι) ι zero zero:=bf.const zero hc
  simp only[r_.sub,wK]at hv
  split at hv
  ·split at hv
   ·rename_i t r _
    exact⟨_,false,_,zero,false,.ptr,_,hv,rfl,bf.retag _ _ _ hz,(λ_=>rfl),IW _ _⟩
   ·exact⟨_,false,_,zero,false,.ptr,_,hv,rfl,hz,(λ_=>rfl),IW _ _⟩
  ·exact⟨_,false,_,zero,false,.ptr,_,hv,rfl,hz,(λ_=>rfl),IW _ _⟩
 | box x =>
  have hx:=bJ h hc
  simp only[r_.sub,wK]at hv
  split at hv
  case h_2=>exact hv.elim
  rename_i cs hcs
  obtain⟨cs',h1,h2⟩:=hx.cells hcs
  exact⟨cs,false,_,cs',false,.ptr,_,hv,by simp only[r_.sub,aK,h1,aM],h2,(λ_=>rfl),IW _ _⟩
 | buildSlice sz len zero parts =>
  simp only[r_.bP,Bool.and_eq_true]at hc
  simp only[r_.sub,wK,List.map_map]at hv
  split at hv
  case h_2=>exact hv.elim
  rename_i cs hcs
  split at hv
  case h_2=>exact hv.elim
  rename_i hz
  have hz:=aS hz
  obtain⟨cs',h1,h2⟩:=A8 s h hc.2 (bf.fA (M:=M) (O:=OR R ι) (κ:=ι) hc.1 len) hcs
  have hlen:∀ {l:List (Nat×Nat×AV)} {c c':List AV},jd c l=some c'→c'.length=c.length:=by
   intro l
   induction l with
   | nil=>intro c c' e;simp only[jd,au]at e;rw[e]
   | cons q l ih =>
    intro c c' e
    simp only[jd]at e
    split at e
    case h_2=>cases e
    split at e
    case isFalse=>cases e
    rename_i hle
    rw[ih e]
    simp only[aG,aQ,aJ]
    omega
  have hl:=hlen hcs
  rw[pq,hz]at hl
  refine⟨cs,false,_,cs',false,.slice sz len len true,_,hv, ?_,h2,(λ_=>rfl),K6 _ _ _ _ _ hl (by rw[←h2.length,hl];exact Nat.le_refl _)⟩
  simp only[r_.sub,aK,List.map_map]
  have e:(λp:Nat×AV=>(p.1*sz,sz,p.2))=λp=>(p.1*sz,sz,p.2):=rfl
  rw[show(jd (fA len zero) (parts.map ((λp=>(p.1*sz,sz,p.2.ev []))∘λp=>(p.1,p.2.sub σ))))=some cs' from h1]
  rfl
 | makeSlice sz bytes zero l c =>
  simp only[r_.bP,Bool.and_eq_true]at hc
  have hl:=bJ h hc.1.2
  have hcc:=bJ h hc.2
  simp only[r_.sub,wK]at hv
  split at hv
  case h_2=>exact hv.elim
  rename_i d' n cs r
  split at hv
  case h_2=>exact hv.elim
  split at hv
  case h_2=>exact hv.elim
  rename_i hz hfl
  obtain⟨_,⟨e1,e2,e3,e4⟩,hv⟩:=eH hv
  obtain⟨_,rfl,hk⟩:=eH hv
  rw[e1]at hl
  rw[e2]at hcc
  have hz:=aS hz
  refine⟨_,true,_,fA n zero,false,.slice sz n n true,_,hk, ?_, ?_,(λh=>by cases h),K6 _ _ _ _ _ (by rw[pq,hz]) (by rw[pq,hz];exact Nat.le_refl _)⟩
  ·simp only[r_.sub,aK,hl.eq rfl,hcc.eq rfl,rD]
   rw[if_pos (by simp;omega)]
   rfl
  ·exact qE (κ:=ι) (by
    have:∀n,(fA n zero).all AV.flat=true:=λn=>by
     induction n with
     | zero=>rfl
     | succ n ih=>simp only[fA,List.all_append,hfl,ih,Bool.and_self]
    exact this n) (bf.fA hc.1.1 n)
 | iq x =>
  have hx:=bJ h hc
  simp only[r_.sub,wK]at hv
  split at hv
  case h_2=>exact hv.elim
  rename_i t ht
  obtain⟨_,h1,h2⟩:=eH hv
  rw[ht]at hx
  refine⟨_,true,_,t.map λb=>.int .u8 b.toNat,true,.slice 1 t.length t.length false,_,h2,by simp only[r_.sub,aK,hx.eq rfl,if_pos h1], ?_,(λh=>by cases h),K6 _ _ _ _ _ (by simp) (by simp)⟩
  have:∀t:List UInt8,bf M (OR R ι) VI.none (t.map λb=>AV.int .u8 b.toNat) (t.map λb=>AV.int .u8 b.toNat):=λt=>by
   induction t with
   | nil=>simp[bf]
   | cons b t ih=>simp only[List.map_cons,bf,VL];exact⟨trivial,ih⟩
  exact this t
 | makeMap=>simp[r_.sub,wK]at hv
end
theorem BL.of{R:Nat→Prop}{ι:VI}{M:Heap}{c c':List AV}{sl sl':Bool}(hr:bf M (OR R ι) (if sl then VI.none else ι) c c')(hs:sl=false→sl'=false):BL M (OR R ι) ι (some (c.length,c'.length)) (.cells c false sl) (some (.cells c' false sl')) :=
 ⟨c',[],false,sl',c'.length,by simp,λ_=>rfl,rfl,by simp,hr,hs⟩
theorem NJ{c cs c':List AV}{o:Nat}(h:Fg c o cs=some c'):o+cs.length≤c.length∧c'=c.take o++cs++c.drop (o+cs.length)∧c'.length=c.length:=by
 unfold Fg at h
 split at h
 case isFalse=>cases h
 rename_i hle
 obtain rfl:=ak h
 refine⟨hle,rfl, ?_⟩
 simp only[aG,aQ,aJ]
 omega
theorem K7 {R:Nat→Prop} {ι:VI} {H:WH} {M:Heap} (s:VS R ι H M) {b j o:Nat} (hb:ι b=some j) {c:List AV} {sl:Bool} (hg:bE H b=some (.cells c false sl)) {cs cs' c':List AV} (hcs:bf M (OR R ι) (if sl then VI.none else ι) cs cs') (h:Fg c o cs=some c') :
  ∃M',M.write j o cs'=some M'∧VS R ι (dM H b (some (.cells c' false sl))) M'∧Stp H.length [b] ι H M ι (dM H b (some (.cells c' false sl))) M':=by
 obtain⟨h1,h2,h3⟩:=NJ h
 obtain⟨d,t,ro',sl',L,g1,g2,g3,g4,g5⟩:=s.at hb hg
 obtain⟨rfl,_⟩:=g2 rfl
 have hl:=g5.length
 have hl':=hcs.length
 have e:(d++t).take o++cs'++(d++t).drop (o+cs'.length)=(d.take o++cs'++d.drop (o+cs'.length))++t:=by
  rw[List.take_append_of_le_length (by omega),List.drop_append_of_le_length (by omega)]
  simp only[aZ]
 have hbl:BL M (OR R ι) ι (ι.dim b) (.cells c' false sl) (some (.cells ((d++t).take o++cs'++(d++t).drop (o+cs'.length)) false sl')):=by
  refine⟨d.take o++cs'++d.drop (o+cs'.length),t,false,sl',L,by rw[e],λ_=>rfl,by rw[h3];exact g3, ?_, ?_,λh=>s.PI hb hg g1 h⟩
  ·simp only[aG,aQ,aJ]at g4 ⊢
   omega
  ·rw[h2,hl']
   exact((g5.take o).append hcs).append (g5.drop _)
 obtain⟨q1,q2⟩:=s.put hb hg hbl
 refine⟨_, ?_,q1,q2⟩
 unfold Heap.write
 rw[g1]
 simp only
 rw[if_pos (by simp only[aG];omega)]
theorem JB {R:Nat→Prop} {ι:VI} {H:WH} {M:Heap} (s:VS R ι H M) {n:Nat} {a v a' v':AV} (ha:VL M (OR R ι) ι a a') (hv:VL M (OR R ι) ι v v') {tr:TS} {k:AV→WH→List Nat→TS→Prop} {C:aY} {B:FuncId→Option Bt} {d:Option Nat}
  (h:wN C B d (.store n (.c a) (.c v)) H tr k):∃r M' aX u H' t eO,z_ n a' v' M=some (r,M')∧VS R aX H' M'∧Stp H.length t ι H M aX H' M'∧VL M' (OR R aX) aX u r∧k u H' t eO:=by
 simp only[wN,AX.ev]at h
 split at h
 case h_2=>exact h.elim
 rename_i b off cs hcs
 split at h
 case h_2=>exact h.elim
 rename_i hn
 have hn:=aS hn
 split at h
 case h_2=>exact h.elim
 split at h
 case h_2=>exact h.elim
 rename_i c sl hg
 simp only[VL]at ha
 obtain⟨j,hj,rfl⟩:=ha
 obtain⟨cs',e1,e2⟩:=hv.cells hcs
 have fin:∀(gH:VI) (H1:WH) (x c':List AV) (r:TS),VS R gH H1 M→Stp H.length [] ι H M gH H1 M→H1.length=H.length→bE H1 b=some (.cells c false sl)→bf M (OR R gH) (if sl then VI.none else gH) x cs'→Fg c off x=some c'→k (.tuple []) (dM H1 b (some (.cells c' false sl))) [b] r →
   ∃r M' aX u H' t eO,z_ n (.ptr (some (j,off))) v' M=some (r,M')∧VS R aX H' M'∧Stp H.length t ι H M aX H' M'∧VL M' (OR R aX) aX u r∧k u H' t eO:=by
  intro gH H1 x c' r s1 k1 hlen hg1 hx hw hk
  have hj1:=((k1.le b (je hg)).1 j hj).1
  obtain⟨M',q1,q2,q3⟩:=K7 s1 hj1 hg1 hx hw
  refine⟨.tuple [],M',gH,.tuple [],_,[b],r, ?_,q2, ?_,by simp[VL,bf],hk⟩
  ·simp only[z_,e1]
   rw[if_pos (by rw[←e2.length];exact hn),q1]
   rfl
  ·have:=k1.trans q3 (by omega)
   simpa using this
 split at h
 ·split at h
  ·split at h
   case h_2=>exact h.elim
   rename_i c' hw
   exact fin ι H cs c' _ s (.refl _ _ _ _ _ (Nat.le_refl _)) rfl hg e2 hw h
  ·obtain⟨_,h⟩:=eH h
   exact fin ι H cs _ _ s (.refl _ _ _ _ _ (Nat.le_refl _)) rfl hg e2 h.1 h.2
 ·split at h
  case h_2=>exact h.elim
  rename_i p hp
  split at h
  ·exact h.elim
  rename_i hb
  obtain⟨u1,u2⟩:=s.Fy p.2 (kI (λv p=>iX 5 true v p) _ _ hp)
  have hx:=D5 s hp e2
  have hg1:bE (og H p.2) b=some (.cells c false true):=by
   rw[o9,hb]
   exact hg
  split at h
  ·split at h
   case h_2=>exact h.elim
   rename_i c' hw
   exact fin _ _ p.1 c' _ u1 u2 (jZ _ _) hg1 hx hw h
  ·obtain⟨_,h⟩:=eH h
   exact fin _ _ p.1 _ _ u1 u2 (jZ _ _) hg1 hx h.1 h.2
theorem PO {C:aY} {B:FuncId→Option Bt} (hB:∀f b,B f=some b→Gm C f b) {R:Nat→Prop} {ι:VI} {H:WH} {M:Heap} (s:VS R ι H M) {ρ σ:Nat→AV} (h:∀t,VL M (OR R ι) ι (ρ t) (σ t)) {d:Option Nat} {o:nD} (hc:o.bP=true) {tr:TS} {k:AV→WH→List Nat→TS→Prop}
  (hk:wN C B d (o.sub ρ) H tr k):∃a M' aX v H' t eO,aN C (o.sub σ) [] M=some (a,M')∧VS R aX H' M'∧Stp H.length t ι H M aX H' M'∧VL M' (OR R aX) aX v a∧k v H' t eO:=by
 cases o with
 | store n a v =>
  simp only[nD.bP,Bool.and_eq_true]at hc
  exact JB s (bJ h hc.1) (bJ h hc.2) (C:=C) (B:=B) (d:=d) (a:=(a.sub ρ).ev []) (v:=(v.sub ρ).ev []) (by simpa only[nD.sub,wN,AX.ev]using hk)
 | call f args =>
  simp only[nD.bP,Bool.and_eq_true]at hc
  have hf:=bJ h hc.1
  have ha:=zR h hc.2
  simp only[nD.sub,wN]at hk
  split at hk
  case h_2=>exact hk.elim
  rename_i g caps hg
  rw[hg]at hf
  simp only[VL]at hf
  obtain⟨Uk,hf,RJ⟩:=hf
  have hargs:=ha.append RJ
  simp only[nD.sub,aN,EC,hf]
  split at hk
  ·rename_i bt hbt
   obtain⟨a,M',aX,v,H',tt,eO,q1,q2,q3,q4,q5⟩:=hB g bt hbt R ι H M _ _ d tr _ s hargs hk
   exact⟨a,M',aX,v,H',tt,eO,q1,q2,q3,q4,q5⟩
  ·exact K5 s hargs hk
 | append sz bytes b x =>
  simp only[nD.bP,Bool.and_eq_true]at hc
  have hs:=bJ h hc.1
  have hx:=bJ h hc.2
  simp only[nD.sub,wN]at hk
  split at hk
  case h_2=>exact hk.elim
  rename_i m new S hel
  split at hk
  case h_2=>exact hk.elim
  rename_i len old H' t hbase
  obtain⟨_,hk⟩:=zV hk
  obtain⟨eO,hf,hk⟩:=eH hk
  obtain⟨e1,e2,cs',e3,e4⟩:=yD s hx hel
  obtain⟨u1,u2⟩:=s.Fy S (tL hel)
  obtain⟨a',M',aX,q1,q2,q3,q4⟩:=CX u1 (VL.step s u2 hs) e4 e2 hbase hf
  refine⟨a',M',aX,_,_,t,eO, ?_,q2, ?_,q4,hk⟩
  ·simp only[nD.sub,aN,e1,if_true,e3,aB]
   exact q1
  ·rw[jZ]at q3
   have:=u2.trans q3 (Nat.le_refl _)
   simpa using this
 | mapUpdate kd m x v =>
  simp only[nD.bP,Bool.and_eq_true]at hc
  have hm:=bJ h hc.1.1
  have hx:=bJ h hc.1.2
  have hv:=bJ h hc.2
  simp only[nD.sub,wN]at hk
  simp only[nD.sub,aN]
  generalize (m.sub ρ).ev []=X at *
  generalize (m.sub σ).ev []=X' at *
  generalize (x.sub ρ).ev []=Y at *
  generalize (x.sub σ).ev []=Y' at *
  generalize (v.sub ρ).ev []=Z at *
  generalize (v.sub σ).ev []=Z' at *
  split at hk
  case h_2=>exact hk.elim
  rename_i r
  split at hk
  case h_2=>exact hk.elim
  rename_i es cz hg s1 s2 s3 s4
  split at hk
  case h_2=>exact hk.elim
  rename_i es' t
  obtain⟨eO,hu,hk⟩:=eH hk
  obtain⟨j,rfl,hj,he,hr⟩:=s.DX hm hg
  obtain rfl:=IE s1 hx
  obtain rfl:=IE s3 hv
  have hes:CF es'=true:=by
   unfold Aw at hu
   obtain⟨f,hf,rfl⟩:=av.1 hu
   cases f with
   | none=>exact Fx s1 s3 he
   | some q=>exact II s1 s3 he
  have hd:ι.dim r=some (0,0):=by
   rcases s.blk r _ hg with⟨_,_,_,q⟩ |⟨_,_,⟨_,q,_⟩,_⟩
   ·cases q
   ·exact q
  obtain⟨q1,q2⟩:=s.Qv hr rfl hg (x:=.map es') (y:=.map es') ⟨rfl,hd,hes⟩
  refine⟨.tuple [],_,ι,.tuple [],_,[r],eO, ?_,q1,q2,by simp[VL,bf],hk⟩
  simp only[vF,hj,s4,s2]
  rw[if_neg (by simp)]
  unfold Aw at hu
  obtain⟨f,hf,rfl⟩:=av.1 hu
  rw[hf,aB]
  cases f with
  | none=>rfl
  | some q=>rfl
 | gM kd m x =>
  simp only[nD.bP,Bool.and_eq_true]at hc
  have hm:=bJ h hc.1
  have hx:=bJ h hc.2
  simp only[nD.sub,wN]at hk
  simp only[nD.sub,aN]
  generalize (m.sub ρ).ev []=X at *
  generalize (m.sub σ).ev []=X' at *
  generalize (x.sub ρ).ev []=Y at *
  generalize (x.sub σ).ev []=Y' at *
  split at hk
  case h_2=>exact hk.elim
  rename_i r
  split at hk
  case h_2=>exact hk.elim
  rename_i es hg s1
  split at hk
  case h_2=>exact hk.elim
  rename_i es' t
  obtain⟨eO,hu,hk⟩:=eH hk
  obtain⟨j,rfl,hj,he,hr⟩:=s.DX hm hg
  obtain rfl:=IE s1 hx
  unfold Px at hu
  obtain⟨f,hf,e⟩:=av.1 hu
  have hd:ι.dim r=some (0,0):=by
   rcases s.blk r _ hg with⟨_,_,_,q⟩ |⟨_,_,⟨_,q,_⟩,_⟩
   ·cases q
   ·exact q
  have hes:CF es'=true:=by
   subst e
   cases f with
   | none=>exact he
   | some q=>exact CV he
  obtain⟨q1,q2⟩:=s.Qv hr rfl hg (x:=.map es') (y:=.map es') ⟨rfl,hd,hes⟩
  refine⟨.tuple [],_,ι,.tuple [],_,[r],eO, ?_,q1,q2,by simp[VL,bf],hk⟩
  simp only[vG,hj]
  rw[hf,aB]
  subst e
  cases f with
  | none =>
   have hM:M.put j (some (.map es))=M:=by
    cases M with
    | mk g nx =>
     simp only[Heap.put,Heap.mk.injEq,and_true]
     funext i
     split
     ·rename_i e
      rw[e]
      exact hj.symm
     ·rfl
   simp only[hM]
  | some q=>rfl
 | j_ x =>
  have hx:=bJ h hc
  simp only[nD.sub,wN]at hk
  split at hk
  case h_2=>exact hk.elim
  rename_i b sz n hX
  split at hk
  case h_2=>exact hk.elim
  rename_i c sl hg
  split at hk
  case h_2=>exact hk.elim
  rename_i K8
  rw[hX]at hx
  have hx0:=hx
  obtain⟨k1,k2,p,s',cap,ex,ha,k3,k4,k5⟩:=VL.kE s hx hg
  rw[ha]at hx0
  rcases k5 with⟨j,c',t,ro',sl',L,g1,g2,g3,g4,g5,g6,rfl,g7⟩ |⟨e,_⟩
  ·obtain⟨rfl,_⟩:=g3 rfl
   have U0:bf M (OR R ι) VI.none c c':=by
    cases sl with
    | true=>exact g6
    | false=>exact qE (by simpa using K8) g6
   obtain⟨r1,r2⟩:=s.put g1 hg (x:=.cells c false true) (y:=.cells (c'++t) false true) ⟨c',t,false,true,L,rfl,λ_=>rfl,g4,g5,U0,λh=>by cases h⟩
   refine⟨_,_,ι,_,_,[b],_, ?_,r1,r2,VL.step s r2 hx0,hk⟩
   simp only[nD.sub,aN,ha,Aa]
   rw[if_neg (by omega),g2]
  ·cases e
 | _=>simp[nD.sub,wN]at hk
def kF(R:Nat→Prop)(ι:VI)(M:Heap)(l lA:Fast):Prop:=∀t,VL M (OR R ι) ι (look l t) (look lA t)
theorem kF.step{R:Nat→Prop}{t:List Nat}{ι aX:VI}{H H':WH}{M M':Heap}(s:VS R ι H M)(k:Stp H.length t ι H M aX H' M'){l lA:Fast}(h:kF R ι M l lA):kF R aX M' l lA:=λt=>VL.step s k (h t)
theorem kG{u t:Nat}{v:AV}{r:Fast}:look ((u,v)::r) t=if u=t then v else look r t:=by
 simp only[look]
 cases h:Nat.beq u t with
 | true=>simp[aS h]
 | false =>
  have:u≠t:=λe=>by subst e;simp at h
  simp[this]
theorem kJ(n:Nat)(d:Option Nat)(v:AV)(l:Fast)(t:Nat):look (gB n d v l) t=if d=some t∧t<n then v else look l t:=by
 cases d with
 | none=>simp[gB]
 | some d =>
  simp only[gB]
  cases hb:Nat.blt d n with
  | true =>
   have hd:d<n:=by simpa[Nat.blt_eq]using hb
   simp only[kG]
   by_cases he:d=t
   ·subst he
    simp[hd]
   ·simp[he]
  | false =>
   have hd:¬d<n:=λh=>by
    have:Nat.blt d n=true:=by simpa[Nat.blt_eq]using h
    rw[hb]at this
    cases this
   simp only
   rw[if_neg]
   rintro⟨h1,h2⟩
   obtain rfl:=ak h1
   exact hd h2
theorem VL.gB{M:Heap}{O:Nat→Prop}{κ:VI}{l lA:Fast}{n:Nat}{d:Option Nat}{v a:AV}{t:Nat}(h:VL M O κ (look l t) (look lA t))(hv:VL M O κ v a):VL M O κ (look (Proofs.Ytkedeiklmpkgkaa.gB n d v l) t) (look (Proofs.Ytkedeiklmpkgkaa.gB n d a lA) t):=by
 rw[kJ,kJ]
 split
 ·exact hv
 ·exact h
theorem kF.put{R:Nat→Prop}{ι:VI}{M:Heap}{l lA:Fast}(h:kF R ι M l lA)(n:Nat)(d:Option Nat){v a:AV}(hv:VL M (OR R ι) ι v a):kF R ι M (gB n d v l) (gB n d a lA):=λt=>VL.gB (h t) hv
theorem VL.unit{M:Heap}{O:Nat→Prop}{κ:VI}:VL M O κ (.tuple []) (.tuple []):=by simp[VL,bf]
def PS(l l':Fast):Prop:=∀t,look l' t=look l t∨∃b,look l t=.bool b∧look l' t=.bool b
theorem PS.eq{l l':Fast}(h:PS l l')(t:Nat):look l' t=look l t:=(h t).elim id λ⟨b,h1,h2⟩=>by rw[h1,h2]
theorem C8:∀ {H:WH} {b:Nat} {x:fP},bE H b=some x→dM H b (some x)=H
 | [],_,_,h=>by cases h
 | _::_,0,_,h=>by
  simp only[bE]at h
  subst h
  rfl
 | _::r,i+1,_,h=>by
  simp only[bE]at h
  simp only[dM,C8 h]
theorem rR{k:Fast→WH→TS→Prop}{R:Type}:∀ {f:Option R} (T:Tc f) (l:Fast) (H:WH),DL k T l H→∃l' eO,(∀t,look l' t=look l t)∧k l' H eO
 | _,.bd kk,l,H,h=>by
  obtain⟨x,q,h⟩:=h
  exact rR (kk x q) l H h
 | _,.gd kk,l,H,h=>by
  obtain⟨q,h⟩:=h
  exact rR (kk q) l H h
 | _,.ite (b:=b) x y,l,H,h=>by
  have hb:b=true∨b=false:=by cases b<;>simp
  rcases hb with hb | hb
  ·exact rR (x hb) l H (h.1 hb)
  ·exact rR (y hb) l H (h.2 hb)
 | _,.rv t u _ r,l,H,h=>by
  obtain⟨e,h⟩:=h
  obtain⟨l',eO,h1,h2⟩:=rR r ((t,u)::l) H h
  refine⟨l',eO,λs=>?_,h2⟩
  rw[h1,kG]
  split
  ·rename_i e'
   subst e'
   exact e.symm
  ·rfl
 | _,.rb b c _ r,l,H,h=>by
  simp only[DL]at h
  split at h
  case h_2=>exact h.elim
  rename_i c0 ro sl hg
  obtain⟨rfl,h⟩:=h
  rw[C8 hg]at h
  exact rR r l H h
 | _,.leaf x v,l,H,h=>⟨l,_,λ_=>rfl,h⟩
 | _,.vk x v Q q,l,H,h=>⟨l,_,λ_=>rfl,h⟩
 | _,.fail,l,H,h=>⟨l,_,λ_=>rfl,h⟩
 | _,.br _ _ _,l,H,h=>⟨l,_,λ_=>rfl,h⟩
 | _,.ob _ _,l,H,h=>⟨l,_,λ_=>rfl,h⟩
 | _,.v _ _ _,l,H,h=>⟨l,_,λ_=>rfl,h⟩
 | _,.z _ _ _,l,H,h=>⟨l,_,λ_=>rfl,h⟩
 | _,.ap _ _ _ _,l,H,h=>⟨l,_,λ_=>rfl,h⟩
 | _,.st _ _,l,H,h=>⟨l,_,λ_=>rfl,h⟩
 | _,.call _ _ _ _ _ _,l,H,h=>⟨l,_,λ_=>rfl,h⟩
 | _,.lp _ _ _ _ _ _ _,l,H,h=>⟨l,_,λ_=>rfl,h⟩
 | _,.jn _ _ _ _ _ _ _ _,l,H,h=>⟨l,_,λ_=>rfl,h⟩
 | _,.sk _,l,H,h=>⟨l,_,λ_=>rfl,h⟩
 | _,.cb _ _ _ _,l,H,h=>⟨l,_,λ_=>rfl,h⟩
 | _,.kl _ _,l,H,h=>⟨l,_,λ_=>rfl,h⟩
 | _,.mp _ _,l,H,h=>⟨l,_,λ_=>rfl,h⟩
 | _,.cl _ _ _ _ _ _,l,H,h=>⟨l,_,λ_=>rfl,h⟩
 | _,.er _,l,H,h=>⟨l,_,λ_=>rfl,h⟩
theorem lq{l:Fast}{H:WH}{tr:TS}{k:Fast→WH→TS→Prop}(h:vo l H tr k):∃l' eO,(∀t,look l' t=look l t)∧k l' H eO:=rR tr.tr l H h
theorem GU{g:Option (Nat×Bool)}{l:Fast}{tr:TS}{yes no:Fast→TS→Prop}(h:Rx g l tr yes no):∃l' eO,(∀t,look l' t=look l t)∧((dV g l=some true∧yes l' eO)∨(dV g l=some false∧no l' eO)):=by
 have self:∀t,look l t=look l t:=λ_=>rfl
 have like:∀ {t b},look l t=.bool b→∀u,look ((t,.bool b)::l) u=look l u:=λ{t b} hb u=>by
  rw[kG]
  split
  ·rename_i e
   subst e
   exact hb.symm
  ·rfl
 unfold Rx at h
 split at h
 ·exact⟨l,tr,self,.inl ⟨rfl,h⟩⟩
 ·rename_i t want
  split at h
  ·rename_i c hc
   have plain:∀tr,Ri c want (yes l tr) (no l tr)→∃l' eO,(∀t,look l' t=look l t)∧((dV (some (t,want)) l=some true∧yes l' eO)∨(dV (some (t,want)) l=some false∧no l' eO)):=λtr h=>by
    refine⟨l,tr,self, ?_⟩
    simp only[dV,hc]
    cases c<;>cases want<;>simp_all [Ri]
   split at h
   ·rename_i R0 f0 t' bq f g a b
    cases hb:Nat.beq t t' with
    | true =>
     rw[hb]at h
     simp only at h
     obtain⟨hcb,h⟩:=h
     subst hcb
     cases c with
     | true =>
      have h:=h.1 rfl
      cases want with
      | true=>exact⟨_,_,like hc,.inl ⟨by simp[dV,hc],h⟩⟩
      | false=>exact⟨_,_,like hc,.inr ⟨by simp[dV,hc],h⟩⟩
     | false =>
      have h:=h.2 rfl
      cases want with
      | true=>exact⟨_,_,like hc,.inr ⟨by simp[dV,hc],h⟩⟩
      | false=>exact⟨_,_,like hc,.inl ⟨by simp[dV,hc],h⟩⟩
    | false =>
     rw[hb]at h
     exact plain _ h
   ·exact plain _ h
  ·rename_i vs hc
   exact⟨l,tr,self,.inr ⟨by simp[dV,hc],h⟩⟩
  ·exact h.elim
theorem qp{R:Nat→Prop}{ι:VI}{M:Heap}{l lA:Fast}(h:kF R ι M l lA){g:Option (Nat×Bool)}{w:Bool}(hw:dV g l=some w):dV g lA=some w:=by
 cases g with
 | none=>exact hw
 | some g =>
  obtain⟨t,want⟩:=g
  have ht:=h t
  simp only[dV]at hw ⊢
  generalize look l t=X at *
  cases X<;>simp only at hw<;>first |(cases hw;done) | skip
  ·rw[ht.eq rfl]
   exact hw
  ·simp only[VL]at ht
   obtain⟨cs',e,_⟩:=ht
   rw[e]
   exact hw
theorem rT {C:aY} {B:FuncId→Option Bt} (hB:∀f b,B f=some b→Gm C f b) {R:Nat→Prop} {n:Nat}:∀(ops:List jQ) (l lA:Fast) (H:WH) (M:Heap) (ι:VI) (tr:TS) (k:Fast→WH→TS→Prop),VS R ι H M→kF R ι M l lA→(ops.all λo=>o.op.bP)=true →
  BQ C B n ops l H tr k→∃jY M' aX l' H' eO t,wO C n ops lA M=some (jY,M')∧VS R aX H' M'∧Stp H.length t ι H M aX H' M'∧kF R aX M' l' jY∧k l' H' eO
 | [],l,lA,H,M,ι,tr,k,s,he,hc,h=>⟨lA,M,ι,l,H,tr,[],rfl,s,.refl _ _ _ _ _ (Nat.le_refl _),he,h⟩
 | o::r,l,lA,H,M,ι,tr,k,s,he,hc,h=>by
  simp only[List.all_cons,Bool.and_eq_true]at hc
  simp only[BQ]at h
  obtain⟨l0,U1,hl0,h⟩:=lq h
  have he:kF R ι M l0 lA:=λt=>by rw[hl0 t];exact he t
  obtain⟨l1,tr1,hl,h⟩:=GU h
  have he1:kF R ι M l1 lA:=λt=>by rw[hl t];exact he t
  rcases h with⟨hw,h⟩ |⟨hw,h⟩
  ·obtain⟨l2,tr2,hl2,h⟩:=lq h
   have he1:kF R ι M l2 lA:=λt=>by rw[hl2 t];exact he1 t
   simp only[wO,qp he hw]
   cases ho:o.op with
   | p op =>
    rw[ho]at h hc
    simp only at h
    obtain⟨v,u,tr2,h1,h2,h3⟩:=D7 (R:=R) h
    obtain⟨a,h4,h5⟩:=KT he1 hc.1 h1
    obtain⟨jY,M',aX,l',H',eO,t,q1,q2⟩:=rT hB r _ _ H M ι tr2 k s (he1.put n o.dst (h3 _ _ _ _ h5)) hc.2 h2
    refine⟨jY,M',aX,l',H',eO,t, ?_,q2⟩
    simp only[mJ.sub,vH,h4,aM,force_eq]
    exact q1
   | l op =>
    rw[ho]at h hc
    simp only at h
    obtain⟨v,u,tr2,h1,h2,h3⟩:=D7 (R:=R) h
    obtain⟨a,h4,h5⟩:=CW s he1 hc.1 h1
    obtain⟨jY,M',aX,l',H',eO,t,q1,q2⟩:=rT hB r _ _ H M ι tr2 k s (he1.put n o.dst (h3 _ _ _ _ h5)) hc.2 h2
    refine⟨jY,M',aX,l',H',eO,t, ?_,q2⟩
    simp only[mJ.sub,vH,h4,aM,force_eq]
    exact q1
   | k op =>
    rw[ho]at h hc
    by_cases hmk:op=.makeMap
    ·subst hmk
     simp only at h
     obtain⟨s1,k1⟩:=s.push (x:=.map []) (y:=.map []) (d:=(0,0)) ⟨rfl,rfl,rfl⟩
     have hv:VL (M.push (.map [])) (OR R (ι.add H.length M.next (0,0))) (ι.add H.length M.next (0,0)) (.map (some H.length)) (.map (some M.next)):=by
      simp only[VL]
      exact⟨M.next,by simp[VI.add,setAt],rfl⟩
     obtain⟨jY,M',aX,l',H',eO,t,q1,q2,q3,q4⟩:=rT hB r _ _ _ _ _ tr2 k s1 ((he1.step s k1).put n o.dst hv) hc.2 h
     refine⟨jY,M',aX,l',H',eO,t, ?_,q2, ?_,q4⟩
     ·simp only[mJ.sub,r_.sub,vH,aK,aM,force_eq]
      exact q1
     ·have:=k1.trans q3 k1.next
      simpa using this
    have h:wK o.dst (op.sub (look l2)) tr2 (λx mk tr=>BQ C B n r (gB n o.dst (mk H.length) l2) (H++[some x]) tr k):=by
     cases op<;>first | exact h | exact absurd rfl hmk
    obtain⟨c,sl,mk,c',sl',Sz,tr2,h1,h2,h3,hss,h4⟩:=PN s he1 hc.1 h
    obtain⟨s1,k1⟩:=s.push (BL.of (sl':=sl') h3 hss)
    have hv:=h4 (M.push (.cells c' false sl')) (OR R (ι.add H.length M.next (c.length,c'.length))) (ι.add H.length M.next (c.length,c'.length)) H.length M.next (by simp[VI.add,setAt]) (by simp[VI.add,setAt])
    obtain⟨jY,M',aX,l',H',eO,t,q1,q2,q3,q4⟩:=rT hB r _ _ _ _ _ tr2 k s1 ((he1.step s k1).put n o.dst hv) hc.2 h1
    refine⟨jY,M',aX,l',H',eO,t, ?_,q2, ?_,q4⟩
    ·simp only[mJ.sub,vH,h2,aM,force_eq]
     exact q1
    ·have:=k1.trans q3 k1.next
     simpa using this
   | n op =>
    rw[ho]at h hc
    simp only at h
    obtain⟨a,M1,gH,v,H1,t1,tr2,h1,h2,h3,h4,h5⟩:=PO hB s he1 hc.1 h
    obtain⟨jY,M',aX,l',H',eO,t,q1,q2,q3,q4⟩:=rT hB r _ _ _ _ _ tr2 k h2 ((he1.step s h3).put n o.dst h4) hc.2 h5
    refine⟨jY,M',aX,l',H',eO,t1++t, ?_,q2,h3.trans q3 h3.next,q4⟩
    simp only[mJ.sub,vH,h1,force_eq]
    exact q1
  ·simp only[wO,qp he hw]
   exact rT hB r _ _ H M ι tr1 k s (he1.put n o.dst VL.unit) hc.2 h
theorem yI:∀(k i:Nat),bE (holes k) i=none
 | 0,i=>rfl
 | k+1,0=>rfl
 | k+1,i+1=>yI k i
theorem uF:∀k,(holes k).length=k
 | 0=>rfl
 | k+1=>by simp[holes,uF k]
def VI.room(ι:VI)(a b nk:Nat):VI:=⟨λi=>if a≤i∧i<a+nk then some (b+(i-a))else ι i,λi=>if a≤i∧i<a+nk then false else ι.yx i,λi=>if a≤i∧i<a+nk then false else ι.gone i,λi=>if a≤i∧i<a+nk then Option.none else ι.dim i⟩
theorem VS.room {R:Nat→Prop} {ι:VI} {H:WH} {M:Heap} (s:VS R ι H M) (nk:Nat) :
  VS R (ι.room H.length M.next nk) (H++holes nk) { M with next:=M.next+nk }∧Stp H.length [] ι H M (ι.room H.length M.next nk) (H++holes nk) { M with next:=M.next+nk }:=by
 have gp:∀i,bE (H++holes nk) i=bE H i:=λi=>by
  rw[wU]
  split
  ·rfl
  ·rename_i h
   rw[yI,DU (Nat.le_of_not_lt h)]
 have out:∀i,i<H.length→¬(H.length≤i∧i<H.length+nk):=λi h=>by omega
 have hls:∀S,VI.Le ι (ι.room H.length M.next nk) S:=λS i _ =>
  ⟨λj h=>by simp only[VI.room,if_neg (out i (s.lt i j h).1)];exact⟨h,λ_ h=>h⟩,λh=>by simp only[VI.room,if_neg (out i (s.kW i h).1)];exact⟨h,λ_ h=>h⟩⟩
 have hk:Keeps M (own ι) { M with next:=M.next+nk } (own (ι.room H.length M.next nk)):=⟨Nat.le_add_right _ _,λb hb ho=>⟨rfl,λ⟨i,hi,hg⟩=>by
  simp only[VI.room]at hi hg
  split at hi
  ·obtain rfl:=ak hi;omega
  ·rename_i hne
   rw[if_neg hne]at hg
   exact ho ⟨i,hi,hg⟩⟩⟩
 have ac:∀i,¬(H.length≤i∧i<H.length+nk)→act (ι.room H.length M.next nk) (H++holes nk) i→act ι H i:=λi hn h=>h.imp (λ⟨x,h⟩=>⟨x,by rw[gp]at h;exact h⟩) (λh=>by simpa only[VI.room,if_neg hn]using h)
 refine⟨⟨λi j h=>?_,λi i' j h h' e e' g=>?_,λi x hx=>?_,λi h=>?_,λi hi c sl h=>?_,λi hi=>s.Fj i (by have:M.next+nk≤i:=hi;omega),λj h=>⟨Nat.lt_of_lt_of_le (s.res j h).1 (Nat.le_add_right _ _),λi hi=>?_⟩⟩,
  ⟨hk,hls _,λi hi h=>by simp only[VI.room,if_neg (out i hi)];exact h,λi hi=>by simp only[VI.room,if_neg (out i hi)],λi hi=>by simp only[VI.room,if_neg (out i hi)],λi hi _=>by simp only[VI.room,if_neg (out i hi)],λi _ ⟨x,h⟩=>⟨x,by rw[gp]at h;exact h⟩,λ_ _ _ _ _ _=>rfl,by simp⟩⟩
 ·simp only[VI.room]at h
  simp only[aG,uF]
  split at h
  ·obtain rfl:=ak h
   omega
  ·have:=s.lt i j h
   omega
 ·simp only[VI.room]at e e'
  split at e<;>split at e'
  ·have e1:=ak e
   have e2:=ak e'
   omega
  ·obtain rfl:=ak e
   have:=(s.lt _ _ e').2
   omega
  ·obtain rfl:=ak e'
   have:=(s.lt _ _ e).2
   omega
  ·rename_i n1 n2
   simp only[VI.room,if_neg n1,if_neg n2]at g
   exact s.inj i i' j (ac i n1 h) (ac i' n2 h') e e' g
 ·rw[gp]at hx
  have hl:=out i (je hx)
  simp only[VI.room,if_neg hl]
  rcases s.blk i x hx with h |⟨j,h1,h2,h3⟩
  ·exact .inl h
  ·exact .inr ⟨j,h1,h2.mono (hk.or R) hls (λ_ h=>h),h3⟩
 ·simp only[VI.room]at h ⊢
  split at h
  ·cases h
  ·rename_i hn
   rw[if_neg hn]
   have:=s.kW i h
   simp only[aG,uF]
   exact⟨by omega,this.2⟩
 ·rw[gp]at h
  have hl:=out i (je h)
  simp only[VI.room,if_neg hl]at hi
  exact s.jM i hi c sl h
 ·simp only[VI.room]
  split
  ·rename_i hn
   intro e
   obtain rfl:=ak e
   have:=(s.res _ h).1
   omega
  ·rename_i hn
   exact(s.res j h).2 i (ac i hn hi)
def VI.fill(ι:VI)(i:Nat)(d:Nat×Nat):VI:=⟨ι.to,ι.yx,ι.gone,setAt ι.dim i (some d)⟩
theorem VS.fill {R:Nat→Prop} {ι:VI} {H:WH} {M:Heap} (s:VS R ι H M) {b j:Nat} (hb:ι b=some j) (hg:ι.gone b=false) (hd:ι.dim b=none) (hn:bE H b=none) {x y:fP} {d:Nat×Nat} (hx:BL M (OR R ι) ι (some d) x (some y)) :
  VS R (ι.fill b d) (dM H b (some x)) (M.put j (some y))∧Keeps M (own ι) (M.put j (some y)) (own (ι.fill b d))∧(∀S,VI.Le ι (ι.fill b d) S)∧(∀i j',i≠b→act ι H i→ι i=some j'→(M.put j (some y)).get j'=M.get j'):=by
 have hbl:=(s.lt b j hb).1
 have hk:Keeps M (own ι) (M.put j (some y)) (own (ι.fill b d)):=⟨Nat.le_refl _,λb' _ ho=>⟨by
  have:b'≠j:=λe=>ho (e ▸ ⟨b,hb,hg⟩)
  simp[Heap.put,this],ho⟩⟩
 have hls:∀S,VI.Le ι (ι.fill b d) S:=λS i _=>by
  by_cases e:i=b
  ·subst e
   exact⟨λj h=>⟨h,λd h=>by rw[hd]at h;cases h⟩,λh=>⟨h,λd h=>by rw[hd]at h;cases h⟩⟩
  ·simp only[VI.fill,bB _ _ e]
   exact⟨λj h=>⟨h,λd h=>h⟩,λh=>⟨h,λd h=>h⟩⟩
 have gp:∀k,bE (dM H b (some x)) k=if k=b then some x else bE H k:=λk=>by
  rw[iV]
  by_cases e:k=b
  ·rw[if_pos ⟨e,hbl⟩,if_pos e]
  ·rw[if_neg (λh=>e h.1),if_neg e]
 have ac:∀i,act (ι.fill b d) (dM H b (some x)) i→act ι H i:=λi h=>by
  rcases h with⟨z,h⟩ | h
  ·rw[gp]at h
   by_cases e:i=b
   ·subst e
    exact .inr hg
   ·rw[if_neg e]at h
    exact .inl ⟨z,h⟩
  ·exact .inr h
 have ne:∀i j',i≠b→act ι H i→ι i=some j'→j'≠j:=λi j' hi ha h e=>hi (s.inj i b j ha (.inr hg) (e ▸ h) hb (.inr hg))
 refine⟨⟨λi j h=>by rw[bR];exact s.lt i j h,λi i' j h h'=>s.inj i i' j (ac i h) (ac i' h'),λi z hz=>?_,λi h=>by rw[bR];exact s.kW i h,λi hi c sl h=>?_,λi hi=>?_,λj h=>⟨(s.res j h).1,λi hi=>(s.res j h).2 i (ac i hi)⟩⟩,hk,hls,λi j' hi ha h=>by simp[Heap.put,ne i j' hi ha h]⟩
 ·rw[gp]at hz
  by_cases e:i=b
  ·subst e
   rw[if_pos rfl]at hz
   obtain rfl:=ak hz
   refine .inr ⟨j,hb, ?_,λ_=>hg⟩
   simp only[Heap.put,if_true]
   exact hx.mono (hk.or R) hls (λ_ h=>by simpa[VI.fill,setAt]using h)
  ·rw[if_neg e]at hz
   rcases s.blk i z hz with⟨h1,h2,h3⟩ |⟨j',h1,h2,h3⟩
   ·exact .inl ⟨h1,by simp only[VI.fill,bB _ _ e];exact h2,h3⟩
   ·refine .inr ⟨j',h1, ?_,h3⟩
    simp only[Heap.put,if_neg (ne i j' e (.inl ⟨z,hz⟩) h1)]
    exact h2.mono (hk.or R) hls (λ_ h=>by simp only[VI.fill,bB _ _ e];exact h)
 ·rw[gp]at h
  by_cases e:i=b
  ·subst e
   have:ι.gone i=true:=hi
   rw[hg]at this
   cases this
  ·rw[if_neg e]at h
   exact s.jM i hi c sl h
 ·have:=(s.lt b j hb).2
  have:i≠j:=λe=>by subst e;simp only[Heap.put]at hi;omega
  simp only[Heap.put,if_neg this]
  exact s.Fj i hi
mutual
theorem VL.mR{M:Heap}{O:Nat→Prop}{κ:VI}:∀(v a:AV),known v=true→VL M O κ v a→AV.same a a=true
 |.undef,_,h,_=>by simp[known]at h
 |.bool _,_,_,e=>by simp only[VL]at e;subst e;simp[AV.same]
 |.int _ _,_,_,e=>by simp only[VL]at e;subst e;simp[AV.same]
 |.str _,_,_,e=>by simp only[VL]at e;subst e;simp[AV.same]
 |.ptr none,_,_,e=>by simp only[VL]at e;subst e;simp[AV.same]
 |.ptr (some q),_,_,e=>by simp only[VL]at e;obtain⟨j,_,rfl⟩:=e;simp[AV.same]
 |.slice none _ _ _ _,_,_,e=>by simp only[VL]at e;obtain⟨_,s',rfl⟩:=e;simp[AV.same]
 |.slice (some _) _ _ _ _,_,_,e=>by simp[VL]at e
 |.map none,_,_,e=>by simp only[VL]at e;subst e;simp[AV.same]
 |.map (some r),_,_,e=>by simp only[VL]at e;obtain⟨j,_,rfl⟩:=e;simp[AV.same]
 |.func f cs,_,h,e=>by
  simp only[VL]at e
  obtain⟨cs',rfl,e⟩:=e
  simp only[AV.same,Bool.and_eq_true,beq_self_eq_true,true_and]
  exact bf.mR cs cs' (by simpa[known]using h) e
 |.nilFunc,_,_,e=>by simp only[VL]at e;subst e;simp[AV.same]
 |.agg cs,_,h,e=>by
  simp only[VL]at e
  obtain⟨cs',rfl,e⟩:=e
  simp only[AV.same]
  exact bf.mR cs cs' (by simpa[known]using h) e
 |.tuple cs,_,h,e=>by
  simp only[VL]at e
  obtain⟨cs',rfl,e⟩:=e
  simp only[AV.same]
  exact bf.mR cs cs' (by simpa[known]using h) e
 |.list ..,_,_,e=>by
  simp only[VL]at e
  rcases e with⟨_,_,s',rfl⟩ |⟨b,o,cap,ex',rfl,_⟩<;>simp[AV.same]
 |.elem _,_,_,e=>by simp only[VL]at e;obtain⟨b,o,c,ro,sl,rfl,_⟩:=e;simp[AV.same]
 |.acc ..,_,_,e=>by simp only[VL]at e;obtain⟨p,s',cap,ex,rfl,_⟩:=e;simp[AV.same]
theorem bf.mR{M:Heap}{O:Nat→Prop}{κ:VI}:∀(l r:List AV),yA l=true→bf M O κ l r→AV.sQ r r=true
 | [],[],_,_=>by simp[AV.sQ]
 | v::l,a::r,h,e=>by
  simp only[bf]at e
  simp only[yA]at h
  split at h
  ·rename_i hv
   simp only[AV.sQ,Bool.and_eq_true]
   exact⟨VL.mR v a hv e.1,bf.mR l r h e.2⟩
  ·cases h
 | [],_::_,_,e=>by simp[bf]at e
 | _::_,[],_,e=>by simp[bf]at e
end
theorem FE(u k:Nat)(bt:List (Nat×Nat))(t:Nat):iK ((u,k)::bt) t=if u=t then k else iK bt t:=by
 simp only[iK]
 cases h:Nat.beq u t with
 | true=>simp[aS h]
 | false =>
  have:u≠t:=λe=>by subst e;simp at h
  simp[this]
theorem vO(n:Nat)(d:Option Nat)(k:Nat)(bt:List (Nat×Nat))(t:Nat):iK (gW n d k bt) t=if d=some t∧t<n then k else iK bt t:=by
 cases d with
 | none=>simp[gW]
 | some d =>
  simp only[gW]
  cases hb:Nat.blt d n with
  | true =>
   have hd:d<n:=by simpa[Nat.blt_eq]using hb
   simp only[FE]
   by_cases he:d=t
   ·subst he
    simp[hd]
   ·simp[he]
  | false =>
   have hd:¬d<n:=λh=>by
    have:Nat.blt d n=true:=by simpa[Nat.blt_eq]using h
    rw[hb]at this
    cases this
   simp only
   rw[if_neg]
   rintro⟨h1,h2⟩
   obtain rfl:=ak h1
   exact hd h2
def uN(bt:List (Nat×Nat))(k:Nat)(ρ:Nat→AV):Nat→AV:=λt=>if iK bt t≤k then ρ t else .undef
theorem IX{bt:List (Nat×Nat)}{k:Nat}{ρ:Nat→AV}{x:AX}(h:iA bt x≤k):x.sub (uN bt k ρ)=x.sub ρ:=by
 cases x with
 | t t=>simp only[iA]at h;simp only[AX.sub,uN];rw[if_pos h]
 | c v=>rfl
theorem K9{bt:List (Nat×Nat)}{k:Nat}{ρ:Nat→AV}{x:Option AX}(h:DN bt x≤k):AX.dY (uN bt k ρ) x=AX.dY ρ x:=by
 cases x with
 | none=>rfl
 | some x=>simp only[AX.dY,aM,IX h]
theorem JC{bt:List (Nat×Nat)}{n k:Nat}{ρ:Nat→AV}{o:gu}(hk:k<n)(h:Fq bt n o≤k):o.sub (uN bt k ρ)=o.sub ρ:=by
 cases o<;>simp only[Fq]at h<;>first | omega | skip
 all_goals simp only[gu.sub]
 all_goals (repeat rw[IX (by omega)])
 all_goals (repeat rw[K9 (by omega)])
theorem fV{b:Nat}{t:List Nat×WH}{r:List (List Nat×WH)}:touches b (t::r)=false↔b∉t.1∧touches b r=false:=by
 simp only[touches]
 cases h:jo t.1 b with
 | true=>simp[kZ.1 h]
 | false=>simp[show b∉t.1 from λe=>by rw[kZ.2 e]at h;cases h]
theorem zi{b:Nat}{t:List Nat×WH}:∀ {r:List (List Nat×WH)},touches b (r++[t])=false↔touches b r=false∧b∉t.1
 | []=>by rw[List.nil_append,fV];simp[touches]
 | u::r=>by rw[List.cons_append,fV,fV,zi,and_assoc]
structure HK(R:Nat→Prop)(base bL nk k:Nat)(jq ι:VI)(H:WH)(M:Heap)(l lA:Fast)(bt:List (Nat×Nat))(hs:List (List Nat×WH))(Mk:Heap)(kK:VI):Prop where
 keep:Keeps Mk (own kK) M (own ι)
 env:∀t,iK bt t≤k+1→VL Mk (OR R kK) kK (look l t) (look lA t)
 new:∀i,i<nk→kK (base+i)=some (bL+i)
 gone:∀i,i<nk→kK.gone (base+i)=true→ι.gone (base+i)=true
 same:∀i j,i<base→act ι H i→jq i=some j→touches i (hs.drop k)=false→M.get j=Mk.get j
structure DI(R:Nat→Prop)(base bL nk:Nat)(jq:VI)(M0:Heap)(ι:VI)(H:WH)(M:Heap)(l lA:Fast)(bt:List (Nat×Nat))(al:List Nat)(hs:List (List Nat×WH))(eu:List Heap):Prop where
 vs:VS R ι H M
 len:base+nk≤H.length
 env:kF R ι M l lA
 new:∀i,i<nk→ι (base+i)=some (bL+i)
 free:∀i,i<nk→jo al i=false→ι.gone (base+i)=false∧ι.dim (base+i)=none∧bE H (base+i)=none
 start:∀t,iK bt t=0→VL M0 (OR R jq) jq (look l t) (look lA t)
 low:∀i j,jq i=some j→i<base∧j<bL
 Qz:VI.Le jq ι (λi=>i<base)
 J5:∀i,i<base→ι i=jq i
 m0:M0.next=bL
 hlen:hs.length=eu.length
 hist:∀k Mk,eu[k]?=some Mk→∃kK,HK R base bL nk k jq ι H M l lA bt hs Mk kK∧∃t Hk,hs[k]?=some (t,Hk)∧VS R kK Hk Mk
section
variable {R:Nat→Prop} {base bL nk:Nat} {jq:VI} {M0:Heap} {ι:VI} {H:WH} {M:Heap} {l lA:Fast} {bt:List (Nat×Nat)} {al:List Nat} {hs:List (List Nat×WH)} {eu:List Heap}
theorem HK.put{k:Nat}{Mk:Heap}{kK:VI}(g:HK R base bL nk k jq ι H M l lA bt hs Mk kK)(n:Nat)(d:Option Nat)(b:Nat){v a:AV}(hv:b≤k+1→VL Mk (OR R kK) kK v a):HK R base bL nk k jq ι H M (gB n d v l) (gB n d a lA) (gW n d b bt) hs Mk kK :=
 ⟨g.keep,λt ht=>by
  rw[kJ,kJ]
  rw[vO]at ht
  split
  ·rename_i h
   rw[if_pos h]at ht
   exact hv ht
  ·rename_i h
   rw[if_neg h]at ht
   exact g.env t ht,g.new,g.gone,g.same⟩
theorem DI.put (g:DI R base bL nk jq M0 ι H M l lA bt al hs eu) (n:Nat) (d:Option Nat) (b:Nat) {v a:AV} (hv:VL M (OR R ι) ι v a) (h0:b=0→VL M0 (OR R jq) jq v a)
  (hk:∀k Mk kK,k<hs.length→HK R base bL nk k jq ι H M l lA bt hs Mk kK→b≤k+1→VL Mk (OR R kK) kK v a):DI R base bL nk jq M0 ι H M (gB n d v l) (gB n d a lA) (gW n d b bt) al hs eu :=
 ⟨g.vs,g.len,g.env.put n d hv,g.new,g.free,λt ht=>by
  rw[kJ,kJ]
  rw[vO]at ht
  split
  ·rename_i h
   rw[if_pos h]at ht
   exact h0 ht
  ·rename_i h
   rw[if_neg h]at ht
   exact g.start t ht,g.low,g.Qz,g.J5,g.m0,g.hlen,λk Mk h=>by
   obtain⟨kK,q,q2⟩:=g.hist k Mk h
   exact⟨kK,q.put n d b λhb=>hk k Mk kK (by rw[g.hlen];exact(aF.1 h).1) q hb,q2⟩⟩
theorem DI.Td (g:DI R base bL nk jq M0 ι H M l lA bt al hs eu) (n:Nat) (d:Option Nat) (b:Nat) {v a:AV} (hv:VL M (OR R ι) ι v a) (h0:b=0→VL M0 (OR R jq) jq v a)
  (hk:∀k Mk kK t Hk,eu[k]?=some Mk→HK R base bL nk k jq ι H M l lA bt hs Mk kK→hs[k]?=some (t,Hk)→VS R kK Hk Mk→b≤k+1→VL Mk (OR R kK) kK v a):DI R base bL nk jq M0 ι H M (gB n d v l) (gB n d a lA) (gW n d b bt) al hs eu :=
 ⟨g.vs,g.len,g.env.put n d hv,g.new,g.free,λt ht=>by
  rw[kJ,kJ]
  rw[vO]at ht
  split
  ·rename_i h
   rw[if_pos h]at ht
   exact h0 ht
  ·rename_i h
   rw[if_neg h]at ht
   exact g.start t ht,g.low,g.Qz,g.J5,g.m0,g.hlen,λk Mk h=>by
   obtain⟨kK,q,t,Hk,q2,q3⟩:=g.hist k Mk h
   exact⟨kK,q.put n d b λhb=>hk k Mk kK t Hk h q q2 q3 hb,t,Hk,q2,q3⟩⟩
theorem DI.now(g:DI R base bL nk jq M0 ι H M l lA bt al hs eu)(n:Nat)(d:Option Nat){v a:AV}(hv:VL M (OR R ι) ι v a):DI R base bL nk jq M0 ι H M (gB n d v l) (gB n d a lA) (gW n d (hs.length+1) bt) al hs eu :=
 g.put n d (hs.length+1) hv (λh=>by omega) (λk Mk kK hk _ hb=>by omega)
theorem DI.like{l':Fast}(g:DI R base bL nk jq M0 ι H M l lA bt al hs eu)(h:∀t,look l' t=look l t):DI R base bL nk jq M0 ι H M l' lA bt al hs eu :=
 ⟨g.vs,g.len,λt=>by rw[h t];exact g.env t,g.new,g.free,λt ht=>by rw[h t];exact g.start t ht,g.low,g.Qz,g.J5,g.m0,g.hlen,λk Mk e=>by
  obtain⟨kK,q,q2⟩:=g.hist k Mk e
  exact⟨kK,⟨q.keep,λt ht=>by rw[h t];exact q.env t ht,q.new,q.gone,q.same⟩,q2⟩⟩
theorem DI.loud(g:DI R base bL nk jq M0 ι H M l lA bt al hs eu){t:List Nat}{aX:VI}{H':WH}{M':Heap}(s':VS R aX H' M')(k:Stp H.length t ι H M aX H' M'):DI R base bL nk jq M0 aX H' M' l lA bt al (hs++[(t,H)]) (eu++[M]):=by
 have hb:∀i,i<nk→base+i<H.length:=λi hi=>by have:=g.len;omega
 have nw:∀i,i<nk→aX (base+i)=some (bL+i):=λi hi=>((k.le _ (hb i hi)).1 _ (g.new i hi)).1
 refine⟨s',Nat.le_trans g.len k.next,g.env.step g.vs k,nw,λi hi ha=>?_,g.start,g.low,g.Qz.trans (k.le.sub λi hi=>by have:=g.len;have:i<base:=hi;show i<H.length;omega),λi hi=>(k.Py i (by have:=g.len;omega)).trans (g.J5 i hi),g.m0,by simp[g.hlen],λq Mk hq=>?_⟩
 ·obtain⟨h1,h2,h3⟩:=g.free i hi ha
  refine⟨by rw[k.CG _ (hb i hi) h3];exact h1,by rw[k.GH _ (hb i hi)];exact h2, ?_⟩
  cases e:bE H' (base+i)with
  | none=>rfl
  | some x =>
   obtain⟨y,hy⟩:=k.live _ (hb i hi) ⟨x,e⟩
   rw[h3]at hy
   cases hy
 ·rcases Nat.lt_or_ge q eu.length with hlt | hge
  ·rw[List.getElem?_append_left hlt]at hq
   obtain⟨kK,w,t0,Hk,w2,w3⟩:=g.hist q Mk hq
   refine⟨kK,⟨w.keep.trans k.keep,w.env,w.new,λi hi h=>k.gone _ (hb i hi) (w.gone i hi h),λi j hi ha hj ht=>?_⟩,t0,Hk,by rw[List.getElem?_append_left (by rw[g.hlen];exact hlt)];exact w2,w3⟩
   rw[List.drop_append_of_le_length (by rw[g.hlen];omega),zi]at ht
   have hi':i<H.length:=by have:=g.len;omega
   exact(k.Rc i j hi' ha ((g.Qz i hi).1 j hj).1 ht.2).trans (w.same i j hi (k.act hi' ha) hj ht.1)
  ·rw[List.getElem?_append_right hge]at hq
   have hqe:q=eu.length:=by
    rcases Nat.eq_or_lt_of_le hge with e | e
    ·exact e.symm
    ·rw[List.getElem?_eq_none (by simp;omega)]at hq;cases hq
   subst hqe
   simp only[Nat.sub_self,List.getElem?_cons_zero,au]at hq
   subst hq
   refine⟨ι,⟨k.keep,λu _=>g.env u,g.new,λi hi h=>k.gone _ (hb i hi) h,λi j hi ha hj ht=>?_⟩,t,H,by rw[←g.hlen,List.getElem?_append_right (Nat.le_refl _)];simp,g.vs⟩
   rw[←g.hlen,List.drop_append_of_le_length (Nat.le_refl _),List.drop_length,List.nil_append,fV]at ht
   exact k.Rc i j (by have:=g.len;omega) ha ((g.Qz i hi).1 j hj).1 ht.1
theorem vP:∀ {al:List Nat} {m:Nat},qD H base al=true→jo al m=true→∃c sl,bE H (base+m)=some (.cells c false sl)
 | [],m,_,h=>by simp[jo]at h
 | a::r,m,ht,h=>by
  simp only[qD]at ht
  split at ht
  case h_2=>cases ht
  rename_i c sl hg
  rcases List.mem_cons.1 (kZ.1 h)with e | e
  ·exact⟨c,sl,e ▸ hg⟩
  ·exact vP ht (kZ.2 e)
theorem DI.owns(g:DI R base bL nk jq M0 ι H M l lA bt al hs eu)(ht:qD H base al=true){b:Nat}(h1:bL≤b)(h2:b<bL+nk):own ι b:=by
 have e:bL+(b-bL)=b:=by omega
 refine⟨base+(b-bL),by rw[g.new _ (by omega),e], ?_⟩
 cases ha:jo al (b-bL)with
 | false=>exact(g.free _ (by omega) ha).1
 | true =>
  obtain⟨c,sl,hg⟩:=vP ht ha
  cases hgo:ι.gone (base+(b-bL))with
  | false=>rfl
  | true=>exact absurd hg (g.vs.jM _ hgo c sl)
theorem DI.owned (g:DI R base bL nk jq M0 ι H M l lA bt al hs eu) {lo:Nat} (ht:(qD H base al||tH hs lo base al)=true) {b:Nat} (h1:bL≤b) (h2:b<bL+nk) :
  own ι b∨∃k Mk kK,lo≤k∧eu[k]?=some Mk∧HK R base bL nk k jq ι H M l lA bt hs Mk kK∧own kK b:=by
 rcases Bool.or_eq_true_iff.1 ht with ht | ht
 ·exact .inl (g.owns ht h1 h2)
 have e:bL+(b-bL)=b:=by omega
 cases ha:jo al (b-bL)with
 | false=>exact .inl ⟨base+(b-bL),by rw[g.new _ (by omega),e],(g.free _ (by omega) ha).1⟩
 | true =>
  right
  unfold tH at ht
  split at ht
  case h_2=>cases ht
  rename_i tk Hk rest hd
  have hk:hs[lo]?=some (tk,Hk):=by
   have:(hs.drop lo)[0]?=some (tk,Hk):=by rw[hd];rfl
   rw[List.getElem?_drop]at this
   exact this
  have hl:lo<eu.length:=by rw[←g.hlen];exact(aF.1 hk).1
  obtain⟨kK,w,t',VK,w2,w3⟩:=g.hist lo eu[lo] (aU hl)
  rw[hk]at w2
  cases w2
  obtain⟨c,sl,hg⟩:=vP ht ha
  refine⟨lo,_,kK,Nat.le_refl _,aU hl,w,base+(b-bL),by rw[w.new _ (by omega),e], ?_⟩
  cases hgo:kK.gone (base+(b-bL))with
  | false=>rfl
  | true=>exact absurd hg (w3.jM _ hgo c sl)
theorem mU{X:Heap}{b:Nat}(h:¬(bL≤b∧b<bL+nk)):(X.hide bL nk).get b=X.get b:=by
 simp only[Heap.hide]
 rw[if_neg h]
theorem uG{g:Bool}{n b o:Nat}{X Y:Heap}(h:X.get b=Y.get b):pX g n (.ptr (some (b,o))) X=pX g n (.ptr (some (b,o))) Y:=by
 simp only[pX,Heap.read,h]
theorem vw{sz len cap:Nat}{ex:Bool}{b o:Nat}{X Y:Heap}(h:len≠0→X.get b=Y.get b):jF (.slice (some (b,o)) sz len cap ex) X=jF (.slice (some (b,o)) sz len cap ex) Y:=by
 unfold jF
 split<;>first | rfl | skip
 rename_i e
 cases e
 split
 ·rfl
 ·rename_i hl
  simp only[Heap.read,h hl]
theorem NK (g:DI R base bL nk jq M0 ι H M l lA bt al hs eu) {o:kN} (hc:o.bP=true) {v u:AV} (hv:wL (o.sub (look l)) H=some v) (hu:∀(M:Heap) (O:Nat→Prop) (κ:VI) (a:AV),VL M O κ v a→VL M O κ u a) {lo:Nat} (hok:AA base al l bt lo o u H hs=true) :
  ∃a,aL (o.sub (look lA)) [] (M.hide bL nk)=some a∧VL M (OR R ι) ι u a∧∀k Mk,lo≤k→eu[k]?=some Mk→∃w,aL (o.sub (look lA)) [] (Mk.hide bL nk)=some w∧AV.same w a=true:=by
 obtain⟨a,h1,h2⟩:=CW g.vs g.env hc hv
 have h3:=hu _ _ _ _ h2
 -- all read the same
 have fin:known u=true→(∀X,(X=M∨∃k,lo≤k∧eu[k]?=some X)→aL (o.sub (look lA)) [] (X.hide bL nk)=aL (o.sub (look lA)) [] M)→∃a,aL (o.sub (look lA)) [] (M.hide bL nk)=some a∧VL M (OR R ι) ι u a∧∀k Mk,lo≤k→eu[k]?=some Mk→∃w,aL (o.sub (look lA)) [] (Mk.hide bL nk)=some w∧AV.same w a=true :=
  λhkn hX=>⟨a,(hX M (.inl rfl)).trans h1,h3,λk Mk hk hM=>⟨a,(hX Mk (.inr ⟨k,hk,hM⟩)).trans h1,VL.mR u a hkn h3⟩⟩
 unfold AA at hok
 -- a list
 have VN:∀(t:Nat),iA bt (.t t)=tF bt o→Nat.ble (tF bt o) lo=true→(qD H base al=true∨tF bt o=0) →
   ∀(P:Heap→(Nat→Prop)→VI→Nat→Prop),(∀M O κ,VL M O κ (look l t) (look lA t)→∃b,P M O κ b)→True:=λ_ _ _ _ _ _=>trivial
 cases o with
 | load ag n x =>
  cases x with
  | c w=>simp[BS]at hok
  | t t =>
   simp only[BS,tF,iA]at hok
   simp only[kN.sub,AX.sub,aL,AX.ev]at fin h1 ⊢
   have e0:=g.env t
   generalize hX:look l t=X at *
   cases X with
   | elem cs =>
    simp only at hok
    have hkn:known u=true:=by
     split at hok
     ·assumption
     ·assumption
     ·cases hok
    have hb:iK bt t≤lo+1:=by
     split at hok
     ·rename_i h _ _;exact Nat.le_of_ble_eq_true h
     ·rename_i h _ _;exact Nat.le_of_ble_eq_true h
     ·cases hok
    have hth:(qD H base al||tH hs lo base al)=true∨iK bt t=0:=by
     split at hok
     ·exact .inl (by assumption)
     ·exact .inr (aS hok)
     ·cases hok
    simp only[VL]at e0
    obtain⟨b,off,c,ro,sl,e1,g1,g2,g3,g4⟩:=e0
    have hout:¬(bL≤b∧b<bL+nk):=λ⟨q1,q2⟩=>by
     rcases hth with ht | h0
     ·rcases g.owned ht q1 q2 with o |⟨k,Mk,kK,hk,_,w,o⟩
      ·exact g2 (.inl o)
      ·have:=w.env t (by omega)
       rw[hX]at this
       simp only[VL]at this
       obtain⟨b',_,_,_,_,e2,_,p2,_⟩:=this
       rw[e1]at e2
       simp only[AV.ptr.injEq,au,aD]at e2
       rw[←e2.1]at p2
       exact p2 (.inl o)
     ·have:=g.start t h0
      rw[hX]at this
      simp only[VL]at this
      obtain⟨b',_,_,_,_,e2,_,_,p3,_⟩:=this
      rw[e1]at e2
      simp only[AV.ptr.injEq,au,aD]at e2
      rw[←e2.1,g.m0]at p3
      omega
    refine fin hkn λX IB=>?_
    rw[e1]
    refine uG ((mU hout).trans ?_)
    rcases IB with rfl |⟨k,hk,hM⟩
    ·rfl
    ·obtain⟨kK,w,_⟩:=g.hist k X hM
     have:=w.env t (by omega)
     rw[hX]at this
     simp only[VL]at this
     obtain⟨b',_,_,_,_,e2,_,p2,p3,_⟩:=this
     rw[e1]at e2
     simp only[AV.ptr.injEq,au,aD]at e2
     rw[←e2.1]at p2 p3
     exact(w.keep.get b p3 (λh=>p2 (.inl h))).1.symm
   | ptr p =>
    cases p with
    | none=>simp at hok
    | some q =>
     simp only at hok
     split at hok
     case h_2=>cases hok
     rename_i hkn hlt hto
     have hlt:q.1<base:=by simpa[Nat.blt_eq]using hlt
     simp only[VL]at e0
     obtain⟨j,k1,k2⟩:=e0
     rw[g.J5 _ hlt]at k1
     have hj:=(g.low _ _ k1).2
     have hact:act ι H q.1:=by
      simp only[kN.sub,AX.sub,wL,AX.ev,hX]at hv
      split at hv
      ·cases hv
      split at hv
      ·rename_i hg
       exact .inl ⟨_,hg⟩
      ·cases hv
     refine fin hkn λX IB=>?_
     rw[k2]
     refine uG ((mU (by omega)).trans ?_)
     rcases IB with rfl |⟨k,hk,hM⟩
     ·rfl
     ·obtain⟨kK,w,_⟩:=g.hist k X hM
      refine(w.same q.1 j hlt hact k1 ?_).symm
      have:hs.drop k=(hs.drop lo).drop (k-lo):=by rw[List.drop_drop];congr 1;omega
      rw[this]
      have mono:∀(r:List (List Nat×WH)) (n:Nat),touches q.1 r=false→touches q.1 (r.drop n)=false:=by
       intro r
       induction r with
       | nil=>intro n _;simp[touches]
       | cons u r ih =>
        intro n h
        cases n with
        | zero=>exact h
        | succ n=>exact ih n (fV.1 h).2
      exact mono _ _ hto
   | _=>simp at hok
 | fH x =>
  cases x with
  | c w=>simp[BS]at hok
  | t t =>
   simp only[BS,tF,iA]at hok
   simp only[kN.sub,AX.sub,aL,AX.ev]at fin h1 ⊢
   have e0:=g.env t
   generalize hX:look l t=X at *
   cases X with
   | list sz len cs ex =>
    simp only at hok
    have hkn:known u=true:=by
     split at hok
     ·assumption
     ·assumption
     ·cases hok
    have hb:iK bt t≤lo+1:=by
     split at hok
     ·rename_i h _ _;exact Nat.le_of_ble_eq_true h
     ·rename_i h _ _;exact Nat.le_of_ble_eq_true h
     ·cases hok
    have hth:(qD H base al||tH hs lo base al)=true∨iK bt t=0:=by
     split at hok
     ·exact .inl (by assumption)
     ·exact .inr (aS hok)
     ·cases hok
    simp only[VL]at e0
    rcases e0 with⟨_,_,s',e1⟩ |⟨b,off,cap,ex',e1,_,_,_,q4⟩
    ·exact fin hkn λX _=>by rw[e1];rfl
    refine fin hkn λX IB=>?_
    rw[e1]
    refine vw λhl=>?_
    obtain⟨c,ro,sl,g1,g2,g3,g4,g5⟩:=q4 hl
    have hout:¬(bL≤b∧b<bL+nk):=λ⟨q1,q2⟩=>by
     rcases hth with ht | h0
     ·rcases g.owned ht q1 q2 with o |⟨k,Mk,kK,hk,_,w,o⟩
      ·exact g2 (.inl o)
      ·have:=w.env t (by omega)
       rw[hX]at this
       simp only[VL]at this
       rcases this with⟨_,_,s',e2⟩ |⟨b',_,_,_,e2,_,_,_,p4⟩
       ·rw[e1]at e2;cases e2
       ·rw[e1]at e2
        cases e2
        obtain⟨_,_,_,_,p2,_⟩:=p4 hl
        exact p2 (.inl o)
     ·have:=g.start t h0
      rw[hX]at this
      simp only[VL]at this
      rcases this with⟨_,_,s',e2⟩ |⟨b',_,_,_,e2,_,_,_,p4⟩
      ·rw[e1]at e2;cases e2
      ·rw[e1]at e2
       cases e2
       obtain⟨_,_,_,_,_,p3,_⟩:=p4 hl
       rw[g.m0]at p3
       omega
    refine(mU hout).trans ?_
    rcases IB with rfl |⟨k,hk,hM⟩
    ·rfl
    ·obtain⟨kK,w,_⟩:=g.hist k X hM
     have:=w.env t (by omega)
     rw[hX]at this
     simp only[VL]at this
     rcases this with⟨_,_,s',e2⟩ |⟨b',_,_,_,e2,_,_,_,p4⟩
     ·rw[e1]at e2;cases e2
     ·rw[e1]at e2
      cases e2
      obtain⟨_,_,_,_,p2,p3,_⟩:=p4 hl
      exact(w.keep.get b p3 (λh=>p2 (.inl h))).1.symm
   | slice p sz len cap ex =>
    cases p with
    | some q=>simp[VL]at e0
    | none =>
     simp only at hok
     have hkn:known u=true:=by
      split at hok
      ·assumption
      ·assumption
      ·cases hok
     simp only[VL]at e0
     obtain⟨_,s',e1⟩:=e0
     exact fin hkn λX _=>by rw[e1];rfl
   | acc b off sz n w =>
    simp only at hok
    split at hok
    case h_2=>cases hok
    rename_i hkn hlt hto
    have hlt:b<base:=by simpa[Nat.blt_eq]using hlt
    simp only[VL]at e0
    obtain⟨p,s',cap,ex,k2,k3,k4,k5,m,L,k6,k7,k8,k9⟩:=e0
    have hact:act ι H b:=by
     simp only[kN.sub,AX.sub,wL,AX.ev,hX]at hv
     split at hv
     ·rename_i e;cases e
     ·rename_i e
      cases e
      split at hv
      ·rename_i hg
       exact .inl ⟨_,hg⟩
      ·cases hv
     ·rename_i e;cases e
     ·cases hv
    refine fin hkn λX IB=>?_
    rw[k2]
    cases p with
    | none=>rfl
    | some p =>
     refine vw λhl=>?_
     have k9:=k9.resolve_right (λh=>hl h.2.1)
     obtain⟨j,k1,k10⟩:=k9
     rw[g.J5 _ hlt]at k1
     have k10:=k10.resolve_right (λh=>hl h.1)
     have U2:p.1=j:=by
      have:=k10.1
      simp only[au]at this
      rw[this]
     have hj:=(g.low _ _ k1).2
     rw[U2]
     refine(mU (by omega)).trans ?_
     rcases IB with rfl |⟨k,hk,hM⟩
     ·rfl
     ·obtain⟨kK,w',_⟩:=g.hist k X hM
      refine(w'.same b j hlt hact k1 ?_).symm
      have:hs.drop k=(hs.drop lo).drop (k-lo):=by rw[List.drop_drop];congr 1;omega
      rw[this]
      have mono:∀(r:List (List Nat×WH)) (n:Nat),touches b r=false→touches b (r.drop n)=false:=by
       intro r
       induction r with
       | nil=>intro n _;simp[touches]
       | cons u r ih =>
        intro n h
        cases n with
        | zero=>exact h
        | succ n=>exact ih n (fV.1 h).2
      exact mono _ _ hto
   | _=>simp at hok
 | kC x =>
  cases x with
  | c w=>simp[BS]at hok
  | t t =>
   simp only[BS]at hok
   simp only[kN.sub,AX.sub,aL,AX.ev]at fin h1 ⊢
   have e0:=g.env t
   generalize hX:look l t=X at *
   cases X with
   | map p =>
    cases p with
    | none=>simp at hok
    | some q =>
     simp only at hok
     split at hok
     case h_2=>cases hok
     rename_i hkn hlt hto
     have hlt:q<base:=by simpa[Nat.blt_eq]using hlt
     simp only[VL]at e0
     obtain⟨j,k1,k2⟩:=e0
     rw[g.J5 _ hlt]at k1
     have hj:=(g.low _ _ k1).2
     have hact:act ι H q:=by
      simp only[kN.sub,AX.sub,wL,AX.ev,hX]at hv
      split at hv
      ·rename_i hg
       exact .inl ⟨_,hg⟩
      ·cases hv
     refine fin hkn λX IB=>?_
     rw[k2]
     have hget:(X.hide bL nk).get j=M.get j:=by
      refine(mU (by omega)).trans ?_
      rcases IB with rfl |⟨k,hk,hM⟩
      ·rfl
      ·obtain⟨kK,w,_⟩:=g.hist k X hM
       refine(w.same q j hlt hact k1 ?_).symm
       have:hs.drop k=(hs.drop lo).drop (k-lo):=by rw[List.drop_drop];congr 1;omega
       rw[this]
       have mono:∀(r:List (List Nat×WH)) (n:Nat),touches q r=false→touches q (r.drop n)=false:=by
        intro r
        induction r with
        | nil=>intro n _;simp[touches]
        | cons u r ih =>
         intro n h
         cases n with
         | zero=>exact h
         | succ n=>exact ih n (fV.1 h).2
       exact mono _ _ hto
     simp only[jv,hget]
   | _=>simp at hok
 | lookup kd ok z x w2 =>
  cases x with
  | c w=>simp[BS]at hok
  | t t =>
   simp only[BS]at hok
   simp only[kN.sub,AX.sub,aL,AX.ev]at fin h1 ⊢
   have e0:=g.env t
   generalize hX:look l t=X at *
   cases X with
   | map p =>
    cases p with
    | none=>simp at hok
    | some q =>
     simp only at hok
     split at hok
     case h_2=>cases hok
     rename_i hkn hlt hto
     have hlt:q<base:=by simpa[Nat.blt_eq]using hlt
     simp only[VL]at e0
     obtain⟨j,k1,k2⟩:=e0
     rw[g.J5 _ hlt]at k1
     have hj:=(g.low _ _ k1).2
     have hact:act ι H q:=by
      simp only[kN.sub,AX.sub,wL,AX.ev,hX]at hv
      split at hv
      ·rename_i hg _
       exact .inl ⟨_,hg⟩
      ·cases hv
     refine fin hkn λX IB=>?_
     rw[k2]
     have hget:(X.hide bL nk).get j=M.get j:=by
      refine(mU (by omega)).trans ?_
      rcases IB with rfl |⟨k,hk,hM⟩
      ·rfl
      ·obtain⟨kK,w,_⟩:=g.hist k X hM
       refine(w.same q j hlt hact k1 ?_).symm
       have:hs.drop k=(hs.drop lo).drop (k-lo):=by rw[List.drop_drop];congr 1;omega
       rw[this]
       have mono:∀(r:List (List Nat×WH)) (n:Nat),touches q r=false→touches q (r.drop n)=false:=by
        intro r
        induction r with
        | nil=>intro n _;simp[touches]
        | cons u r ih =>
         intro n h
         cases n with
         | zero=>exact h
         | succ n=>exact ih n (fV.1 h).2
       exact mono _ _ hto
     simp only[wu,jv,hget]
   | _=>simp at hok
theorem vQ{o:kN}{x:Option AV}{k:TS→Prop}:∀ {hs:List (List Nat×WH)} {tr:TS},wS o x k hs tr→∃eO,(∀(i:Nat) (t:List Nat) (Hk:WH),hs[i]?=some (t,Hk)→wL o Hk=x)∧k eO
 | [],tr,h=>⟨tr,λi t Hk e=>by simp at e,h⟩
 | p::r,tr,h=>by
  simp only[wS]at h
  obtain⟨_,h1,h2⟩:=eH h
  obtain⟨eO,q1,q2⟩:=vQ h2
  refine⟨eO,λi t Hk e=>?_,q2⟩
  cases i with
  | zero=>simp only[List.getElem?_cons_zero,au]at e;rw[e]at h1;exact h1
  | succ i=>exact q1 i t Hk (by simpa using e)
theorem GV (g:DI R base bL nk jq M0 ι H M l lA bt al hs eu) {o:kN} (hc:o.bP=true) {v u:AV} (hv:wL (o.sub (look l)) H=some v) (hu:∀(M:Heap) (O:Nat→Prop) (κ:VI) (a:AV),VL M O κ v a→VL M O κ u a) {lo:Nat} (hok:tJ base l bt lo o u=true)
  (hl:∀(i:Nat) (t:List Nat) (Hk:WH),(hs.drop lo)[i]?=some (t,Hk)→wL (o.sub (look l)) Hk=wL (o.sub (look l)) H) :
  ∃a,aL (o.sub (look lA)) [] (M.hide bL nk)=some a∧VL M (OR R ι) ι u a∧∀k Mk,lo≤k→eu[k]?=some Mk→∃w,aL (o.sub (look lA)) [] (Mk.hide bL nk)=some w∧AV.same w a=true:=by
 obtain⟨a,h1,h2⟩:=CW g.vs g.env hc hv
 have h3:=hu _ _ _ _ h2
 have U3:∀ {M':Heap} {O:Nat→Prop} {κ:VI} {w:AV},tJ base l bt lo o u=true→VL M' O κ u w→w=a:=by
  intro M' O κ w hb hw
  unfold tJ at hb
  split at hb
  case h_2=>cases hb
  split at hb
  ·simp only[VL]at hw h3;rw[hw,h3]
  ·simp only[VL]at hw h3;rw[hw,h3]
  ·simp only[VL]at hw h3;rw[hw,h3]
  ·cases hb
 have hkn:known u=true:=by
  unfold tJ at hok
  split at hok
  case h_2=>cases hok
  split at hok
  ·rfl
  ·rfl
  ·rfl
  ·cases hok
 cases o with
 | load ag n x =>
  cases x with
  | c w=>simp[tJ]at hok
  | t t =>
   have hp:∃b off,look l t=.ptr (some (b,off))∧b<base∧iK bt t≤lo+1:=by
    simp only[tJ]at hok
    split at hok
    ·rename_i b off _ _ hX
     simp only[Bool.and_eq_true,Nat.blt_eq]at hok
     exact⟨b,off,hX,hok.1,Nat.le_of_ble_eq_true hok.2⟩
    ·rename_i b off _ hX
     simp only[Bool.and_eq_true,Nat.blt_eq]at hok
     exact⟨b,off,hX,hok.1,Nat.le_of_ble_eq_true hok.2⟩
    ·rename_i b off _ hX
     simp only[Bool.and_eq_true,Nat.blt_eq]at hok
     exact⟨b,off,hX,hok.1,Nat.le_of_ble_eq_true hok.2⟩
    ·cases hok
   obtain⟨b,off,hX,hlt,hbt⟩:=hp
   have e0:=g.env t
   rw[hX]at e0
   simp only[VL]at e0
   obtain⟨j,k1,k2⟩:=e0
   rw[g.J5 _ hlt]at k1
   have hj:=(g.low _ _ k1).2
   have hide:∀X:Heap,aL (kN.sub (look lA) (.load ag n (.t t))) [] (X.hide bL nk)=aL (kN.sub (look lA) (.load ag n (.t t))) [] X:=by
    intro X
    simp only[kN.sub,AX.sub,aL,AX.ev]
    rw[k2]
    exact uG (mU (by omega))
   refine⟨a,(hide M).trans h1,h3,λk Mk hk hM=>?_⟩
   obtain⟨kK,w,tk,Hk,w2,w3⟩:=g.hist k Mk hM
   have hce:∀s,VL Mk (OR R kK) kK (uN bt (k+1) (look l) s) (look lA s):=λs=>by
    unfold uN
    split
    ·rename_i hb;exact w.env s hb
    ·simp[VL]
   have hsub:kN.sub (uN bt (k+1) (look l)) (.load ag n (.t t))=kN.sub (look l) (.load ag n (.t t)):=by
    simp only[kN.sub,AX.sub,uN]
    rw[if_pos (by omega)]
   have hv':wL (kN.sub (uN bt (k+1) (look l)) (.load ag n (.t t))) Hk=some v:=by
    rw[hsub,hl (k-lo) tk Hk (by rw[List.getElem?_drop,show lo+(k-lo)=k by omega];exact w2)]
    exact hv
   obtain⟨w',q1,q2⟩:=CW w3 hce hc hv'
   have:=U3 hok (hu _ _ _ _ q2)
   subst this
   exact⟨w',(hide Mk).trans q1,VL.mR u w' hkn h3⟩
 | _=>simp[tJ]at hok
theorem GX (g:DI R base bL nk jq M0 ι H M l lA bt al hs eu) {o:kN} (hc:o.bP=true) {v u a:AV} (hv:wL (o.sub (look l)) H=some v) (hu:∀(M:Heap) (O:Nat→Prop) (κ:VI) (a:AV),VL M O κ v a→VL M O κ u a) {lo b:Nat} (hok:AA base al l bt lo o u H hs=true)
  (hb:KQ l o=some b) (hbt:Nat.ble (tF bt o) (lo+1)=true) (ha:aL (o.sub (look lA)) [] (M.hide bL nk)=some a)
  (hl:∀(i:Nat) (t:List Nat) (Hk:WH),(hs.drop lo)[i]?=some (t,Hk)→wL (o.sub (look l)) Hk=wL (o.sub (look l)) H) :
  ∀k Mk kK t Hk,eu[k]?=some Mk→HK R base bL nk k jq ι H M l lA bt hs Mk kK→hs[k]?=some (t,Hk)→VS R kK Hk Mk→lo+1≤k+1→VL Mk (OR R kK) kK u a:=by
 intro k Mk kK tk Hk hM w w2 w3 hk
 cases o with
 | load ag n x =>
  cases x with
  | c w=>simp[KQ]at hb
  | t t =>
   simp only[tF,iA]at hbt
   have hbt:=Nat.le_of_ble_eq_true hbt
   unfold AA at hok
   simp only[BS,tF,iA]at hok
   simp only[KQ]at hb
   have e0:=g.env t
   have hX0:∃q,look l t=.ptr (some q):=by
    split at hb
    ·rename_i q h;exact⟨q,h⟩
    ·cases hb
   obtain⟨q,hX⟩:=hX0
   rw[hX]at hok e0
   simp only at hok
   split at hok
   case h_2=>cases hok
   rename_i hkn hlt hto
   have hlt:q.1<base:=by simpa[Nat.blt_eq]using hlt
   simp only[VL]at e0
   obtain⟨j,k1,k2⟩:=e0
   rw[g.J5 _ hlt]at k1
   have hj:=(g.low _ _ k1).2
   have hact:act ι H q.1:=by
    simp only[kN.sub,AX.sub,wL,AX.ev,hX]at hv
    split at hv
    ·cases hv
    split at hv
    ·rename_i hg
     exact .inl ⟨_,hg⟩
    ·cases hv
   have hsame:M.get j=Mk.get j:=by
    refine w.same q.1 j hlt hact k1 ?_
    have:hs.drop k=(hs.drop lo).drop (k-lo):=by rw[List.drop_drop];congr 1;omega
    rw[this]
    have mono:∀(r:List (List Nat×WH)) (n:Nat),touches q.1 r=false→touches q.1 (r.drop n)=false:=by
     intro r
     induction r with
     | nil=>intro n _;simp[touches]
     | cons u r ih =>
      intro n h
      cases n with
      | zero=>exact h
      | succ n=>exact ih n (fV.1 h).2
    exact mono _ _ hto
   have U4:aL (kN.sub (look lA) (.load ag n (.t t))) [] Mk=aL (kN.sub (look lA) (.load ag n (.t t))) [] (M.hide bL nk):=by
    simp only[kN.sub,AX.sub,aL,AX.ev]
    rw[k2]
    exact uG (hsame.symm.trans (mU (by omega)).symm)
   have hce:∀s,VL Mk (OR R kK) kK (uN bt (k+1) (look l) s) (look lA s):=λs=>by
    unfold uN
    split
    ·rename_i hb;exact w.env s hb
    ·simp[VL]
   have hsub:kN.sub (uN bt (k+1) (look l)) (.load ag n (.t t))=kN.sub (look l) (.load ag n (.t t)):=by
    simp only[kN.sub,AX.sub,uN]
    rw[if_pos (by omega)]
   have hv':wL (kN.sub (uN bt (k+1) (look l)) (.load ag n (.t t))) Hk=some v:=by
    rw[hsub,hl (k-lo) tk Hk (by rw[List.getElem?_drop,show lo+(k-lo)=k by omega];exact w2)]
    exact hv
   obtain⟨w',q1,q2⟩:=CW w3 hce hc hv'
   rw[U4,ha]at q1
   obtain rfl:=ak q1
   exact hu _ _ _ _ q2
 | _=>simp[KQ]at hb
end
theorem GY{a b:Nat}{l:List Nat}:jo (a::l) b=false↔a≠b∧jo l b=false:=by
 simp only[jo]
 cases h:Nat.beq a b with
 | true=>simp[aS h]
 | false =>
  have:a≠b:=λe=>by subst e;simp at h
  simp[this]
theorem lu {C:aY} {B:FuncId→Option Bt} (hB:∀f b,B f=some b→Gm C f b) {R:Nat→Prop} {n base bL nk:Nat} {jq:VI} {M0:Heap}:∀(ops:List b_) (l lA:Fast) (H:WH) (M:Heap) (ι:VI) (tr:TS) (hs:List (List Nat×WH)) (bt:List (Nat×Nat)) (al:List Nat) (eu:List Heap) (k:Fast→WH→TS→Prop),
  DI R base bL nk jq M0 ι H M l lA bt al hs eu→(ops.all λd=>d.o.op.bP)=true→qQ C B n base nk ops l H tr hs bt al k →
  ∃jY M' aX l' H' eO t,lW C n bL nk ops lA M eu=some (jY,M')∧VS R aX H' M'∧Stp base t ι H M aX H' M'∧kF R aX M' l' jY∧k l' H' eO
 | [],l,lA,H,M,ι,tr,hs,bt,al,eu,k,g,hc,h=>⟨lA,M,ι,l,H,tr,[],rfl,g.vs,.refl _ _ _ _ _ (by have:=g.len;omega),g.env,h⟩
 | d::r,l,lA,H,M,ι,tr,hs,bt,al,eu,k,g,hc,h=>by
  simp only[List.all_cons,Bool.and_eq_true]at hc
  simp only[qQ]at h
  obtain⟨VO,U5,K_,h⟩:=lq h
  have g:=g.like K_
  obtain⟨l0,tr1,hl,h⟩:=GU h
  have g1:=g.like hl
  have hbl:base≤H.length:=by have:=g.len;omega
  rcases h with⟨hw,h⟩ |⟨hw,h⟩
  ·obtain⟨l1,U6,hl1,h⟩:=lq h
   have g1:=g1.like hl1
   have he1:=g1.env
   simp only[lW,qp g.env hw]
   cases ho:d.o.op with
   | p op =>
    rw[ho]at h hc
    simp only at h
    obtain⟨v,u,tr2,h1,h2,h3⟩:=D7 (R:=R) h
    obtain⟨a,h4,h5⟩:=KT he1 hc.1 h1
    have cut:∀(X:Heap) (O:Nat→Prop) (κ:VI) (q:Nat),q<hs.length+1→(∀t,iK bt t≤q→VL X O κ (look l1 t) (look lA t))→Fq bt (hs.length+1) op≤q→VL X O κ u a:=λX O κ q hq he hb=>by
     have hce:∀t,VL X O κ (uN bt q (look l1) t) (look lA t):=λt=>by
      unfold uN
      split
      ·rename_i hb;exact he t hb
      ·simp[VL]
     obtain⟨a',e1,e2⟩:=KT hce hc.1 (by rw[JC hq hb];exact h1)
     rw[h4]at e1
     obtain rfl:=ak e1
     exact h3 _ _ _ _ e2
    obtain⟨jY,M',aX,l',H',eO,t,q1,q2⟩:=lu hB r _ _ H M ι tr2 hs _ al eu k (g1.put n d.o.dst (Fq bt (hs.length+1) op) (h3 _ _ _ _ h5) (λhb=>cut M0 _ jq 0 (by omega) (λt ht=>g1.start t (by omega)) (by omega)) (λq Mk kK hq w hb=>cut Mk _ kK (q+1) (by omega) w.env hb)) hc.2 h2
    refine⟨jY,M',aX,l',H',eO,t, ?_,q2⟩
    simp only[h4,force_eq]
    exact q1
   | l op =>
    rw[ho]at h hc
    simp only at h
    obtain⟨v,u,tr2,h1,h2,h3⟩:=D7 (R:=R) h
    have h2:∃tr2 b,(∃a,aL (op.sub (look lA)) [] (M.hide bL nk)=some a∧DI R base bL nk jq M0 ι H M (gB n d.o.dst u l1) (gB n d.o.dst a lA) (gW n d.o.dst b bt) al hs eu∧∀k Mk,d.lo≤k→eu[k]?=some Mk→∃w,aL (op.sub (look lA)) [] (Mk.hide bL nk)=some w∧AV.same w a=true)∧qQ C B n base nk r (gB n d.o.dst u l1) H tr2 hs (gW n d.o.dst b bt) al k:=by
     split at h2
     ·rename_i hok
      obtain⟨a,p1,p2,p3⟩:=NK g1 hc.1 h1 h3 hok
      split at h2
      ·split at h2
       case h_2=>exact h2.elim
       rename_i hb hbt
       obtain⟨Te,m1,m2⟩:=vQ h2
       exact⟨Te,d.lo+1,⟨a,p1,g1.Td n d.o.dst (d.lo+1) p2 (λe=>by omega) (GX g1 hc.1 h1 h3 hok hb hbt p1 m1),p3⟩,m2⟩
      ·exact⟨_,hs.length+1,⟨a,p1,g1.now n d.o.dst p2,p3⟩,h2⟩
     ·split at h2
      case h_2=>exact h2.elim
      rename_i hok
      obtain⟨Te,p1,p2⟩:=vQ h2
      obtain⟨a,m1,m2,m3⟩:=GV g1 hc.1 h1 h3 hok p1
      exact⟨Te,hs.length+1,⟨a,m1,g1.now n d.o.dst m2,m3⟩,p2⟩
    obtain⟨tr2,bb,⟨a,q1,q2,q3⟩,h2⟩:=h2
    obtain⟨jY,M',aX,l',H',eO,t,q4,q5⟩:=lu hB r _ _ H M ι tr2 hs _ al eu k q2 hc.2 h2
    refine⟨jY,M',aX,l',H',eO,t, ?_,q5⟩
    simp only[q1]
    rw[if_pos]
    ·simp only[force_eq]
     exact q4
    ·rw[List.all_eq_true]
     intro Mk U7
     obtain⟨i,hi⟩:=List.mem_iff_getElem?.1 U7
     rw[List.getElem?_drop]at hi
     obtain⟨w,w1,w2⟩:=q3 (d.lo+i) Mk (by omega) hi
     rw[w1]
     exact w2
   | k op =>
    rw[ho]at h hc
    simp only at h
    split at h
    case h_2=>exact h.elim
    rename_i hix hal
    have hix:d.ix<nk:=by simpa[Nat.blt_eq]using hix
    obtain⟨c,sl,mk,c',sl',Sz,tr2,h1,h2,h3,hss,h4⟩:=PN g1.vs he1 hc.1 h
    obtain⟨f1,f2,f3⟩:=g1.free d.ix hix hal
    have hnew:=g1.new d.ix hix
    obtain⟨s1,k1,k2,k3⟩:=g1.vs.fill hnew f1 f2 f3 (BL.of (sl':=sl') h3 hss)
    have hne:∀i,i<base→i≠base+d.ix:=λi hi=>by omega
    have gp:∀i,i≠base+d.ix→bE (dM H (base+d.ix) (some (.cells c false sl))) i=bE H i:=λi hi=>by
     rw[iV,if_neg (λe=>hi e.1)]
    have ac:∀i,i≠base+d.ix→act (ι.fill (base+d.ix) (c.length,c'.length)) (dM H (base+d.ix) (some (.cells c false sl))) i→act ι H i:=λi hi ha=>ha.imp (λ⟨x,hx⟩=>⟨x,by rw[gp i hi]at hx;exact hx⟩) id
    have U8:Stp base [] ι H M (ι.fill (base+d.ix) (c.length,c'.length)) (dM H (base+d.ix) (some (.cells c false sl))) (M.put (bL+d.ix) (some (.cells c' false sl'))) :=
     ⟨k1,k2 _,λ_ _ h=>h,λ_ _=>rfl,λi hi=>by simp only[VI.fill,bB _ _ (hne i hi)],λ_ _ _=>rfl,λi hi ⟨x,hx⟩=>⟨x,by rw[gp i (hne i hi)]at hx;exact hx⟩,λi j hi ha hj _=>k3 i j (hne i hi) (ac i (hne i hi) ha) hj,by rw[bR];exact hbl⟩
    have hval:=h4 (M.put (bL+d.ix) (some (.cells c' false sl'))) (OR R (ι.fill (base+d.ix) (c.length,c'.length))) (ι.fill (base+d.ix) (c.length,c'.length)) (base+d.ix) (bL+d.ix) hnew (by simp[VI.fill,setAt])
    have g2:DI R base bL nk jq M0 (ι.fill (base+d.ix) (c.length,c'.length)) (dM H (base+d.ix) (some (.cells c false sl))) (M.put (bL+d.ix) (some (.cells c' false sl'))) l1 lA bt (d.ix::al) hs eu :=
     ⟨s1,by rw[bR];exact g1.len,λt=>VL.mono (k1.or R) _ _ _ _ (k2 _) (he1 t),g1.new,λi hi ha=>by
      obtain⟨a1,a2⟩:=GY.1 ha
      obtain⟨b1,b2,b3⟩:=g1.free i hi a2
      have hn:base+i≠base+d.ix:=by omega
      exact⟨b1,by simp only[VI.fill,bB _ _ hn];exact b2,by rw[gp _ hn];exact b3⟩,g1.start,g1.low,g1.Qz.trans (k2 _),g1.J5,g1.m0,g1.hlen,λq Mk hq=>by
      obtain⟨kK,w,w2⟩:=g1.hist q Mk hq
      exact⟨kK,⟨w.keep.trans k1,w.env,w.new,w.gone,λi j hi ha hj ht=>by
       have ha':=ac i (hne i hi) ha
       exact(k3 i j (hne i hi) ha' (by rw[g1.J5 i hi];exact hj)).trans (w.same i j hi ha' hj ht)⟩,w2⟩⟩
    obtain⟨jY,M',aX,l',H',eO,t,q1,q2,q3,q4⟩:=lu hB r _ _ _ _ _ tr2 hs _ (d.ix::al) eu k (g2.now n d.o.dst hval) hc.2 h1
    refine⟨jY,M',aX,l',H',eO,t, ?_,q2, ?_,q4⟩
    ·simp only[h2]
     exact q1
    ·have:=U8.trans q3 (Nat.le_refl _)
     simpa using this
   | n op =>
    rw[ho]at h hc
    simp only at h
    obtain⟨a,M1,gH,v,H1,t1,tr2,h1,h2,h3,h4,h5⟩:=PO hB g1.vs he1 hc.1 h
    have g2:=(g1.loud h2 h3).now n d.o.dst h4
    rw[aG,List.length_singleton]at g2
    obtain⟨jY,M',aX,l',H',eO,t,q1,q2,q3,q4⟩:=lu hB r _ _ _ _ _ tr2 _ _ al _ k g2 hc.2 h5
    refine⟨jY,M',aX,l',H',eO,t1++t, ?_,q2,(h3.weak hbl).trans q3 (Nat.le_refl _),q4⟩
    simp only[h1,force_eq]
    exact q1
  ·simp only[lW,qp g.env hw]
   cases ho:d.o.op with
   | n op =>
    rw[ho]at h
    simp only at h
    have g2:=(g1.loud (t:=[]) g1.vs (.refl _ _ _ _ _ (Nat.le_refl _))).now n d.o.dst (v:=.tuple []) (a:=.tuple []) VL.unit
    rw[aG,List.length_singleton]at g2
    exact lu hB r _ _ H M ι tr1 _ _ al _ k g2 hc.2 h
   | p op=>rw[ho]at h;exact lu hB r _ _ H M ι tr1 _ _ al _ k (g1.now n d.o.dst VL.unit) hc.2 h
   | l op=>rw[ho]at h;exact lu hB r _ _ H M ι tr1 _ _ al _ k (g1.now n d.o.dst VL.unit) hc.2 h
   | k op=>rw[ho]at h;exact lu hB r _ _ H M ι tr1 _ _ al _ k (g1.now n d.o.dst VL.unit) hc.2 h
theorem La {C:aY} {B:FuncId→Option Bt} (hB:∀f b,B f=some b→Gm C f b) {R:Nat→Prop} {n nk:Nat} {ops:List b_} {l lA:Fast} {H:WH} {M:Heap} {ι:VI} {tr:TS} {k:Fast→WH→TS→Prop} (s:VS R ι H M) (he:kF R ι M l lA) (hc:(ops.all λd=>d.o.op.bP)=true)
  (h:qQ C B n H.length nk ops l (H++holes nk) tr [] [] [] k):∃jY M' aX l' H' eO t,lW C n M.next nk ops lA { M with next:=M.next+nk } []=some (jY,M')∧VS R aX H' M'∧Stp H.length t ι H M aX H' M'∧kF R aX M' l' jY∧k l' H' eO:=by
 obtain⟨s1,k1⟩:=s.room nk
 have inr:∀i,i<nk→H.length≤H.length+i∧H.length+i<H.length+nk:=λi hi=>by omega
 have g:DI R H.length M.next nk ι M (ι.room H.length M.next nk) (H++holes nk) { M with next:=M.next+nk } l lA [] [] [] [] :=
  ⟨s1,by simp[uF],he.step s k1,λi hi=>by simp only[VI.room,if_pos (inr i hi)];congr 1;omega,λi hi _=>⟨by simp only[VI.room,if_pos (inr i hi)],by simp only[VI.room,if_pos (inr i hi)],by rw[wU,if_neg (by omega),yI]⟩,
   λt _=>he t,λi j h=>s.lt i j h,k1.le,k1.Py,rfl,rfl,λk Mk h=>by simp at h⟩
 obtain⟨jY,M',aX,l',H',eO,t,q1,q2,q3,q4⟩:=lu hB ops l lA _ _ _ tr [] [] [] [] k g hc h
 refine⟨jY,M',aX,l',H',eO,[]++t,q1,q2,k1.trans q3 (Nat.le_refl _),q4⟩
theorem zW{M:Heap}{O:Nat→Prop}{κ:VI}{lA:Fast}:∀(keep:List Nat) (vs:List AV),bf M O κ vs (keep.map (look lA))→∀t,VL M O κ (look (gV keep vs) t) (look lA t)∧VL M O κ (look (gV keep vs) t) (look (qj lA keep) t)
 | [],vs,h,t=>by
  cases vs with
  | nil=>simp[gV,look,VL]
  | cons _ _=>simp[bf]at h
 | u::keep,vs,h,t=>by
  cases vs with
  | nil=>simp[bf]at h
  | cons v vs =>
   simp only[List.map_cons,bf]at h
   have ih:=zW keep vs h.2 t
   simp only[gV,qj,kG]
   split
   ·rename_i e
    subst e
    exact⟨h.1,h.1⟩
   ·exact ih
theorem kF.map{R:Nat→Prop}{ι:VI}{M:Heap}{l lA:Fast}(he:kF R ι M l lA):∀keep:List Nat,bf M (OR R ι) ι (keep.map (look l)) (keep.map (look lA))
 | []=>by simp[bf]
 | t::r=>by simp only[List.map_cons,bf];exact⟨he t,kF.map he r⟩
def sD(R:Nat→Prop)(np:Nat)(ι:VI)(H:WH)(M:Heap)(x:zB)(k:Ex→Fast→WH→TS→Prop):Prop :=
 ∃ex jY M' aX l' H' eO,x=some (ex,jY,M')∧VS R aX H' M'∧Stp np (List.range np) ι H M aX H' M'∧kF R aX M' l' jY∧k ex l' H' eO
theorem iM{n:Nat}{t:List Nat}{ι gH:VI}{H H1:WH}{M M1:Heap}(h:Stp n t ι H M gH H1 M1):Stp n (List.range n) ι H M gH H1 M1:=h.more λi hi _=>List.mem_range.2 hi
theorem sD.after{R:Nat→Prop}{np:Nat}{ι gH:VI}{H H1:WH}{M M1:Heap}{x:zB}{k:Ex→Fast→WH→TS→Prop}{t:List Nat}(h:Stp np t ι H M gH H1 M1)(g:sD R np gH H1 M1 x k):sD R np ι H M x k:=by
 obtain⟨ex,jY,M',aX,l',H',eO,q1,q2,q3,q4⟩:=g
 exact⟨ex,jY,M',aX,l',H',eO,q1,q2,iM (h.trans q3 (Nat.le_refl _)),q4⟩
theorem Lb(H:WH)(b:Nat):∀i x,bE (dM H b none) i=some x→bE H i=some x:=λi x h=>by
 rw[iV]at h
 split at h
 ·cases h
 ·exact h
theorem IY{R:Nat→Prop}{M:Heap}{ι:VI}:∀(bs:List Nat) {H:WH} (n:Nat),n≤H.length→VS R ι H M→VS R ι (Fh H bs) M∧Stp n [] ι H M ι (Fh H bs) M∧(Fh H bs).length=H.length
 | [],H,n,hn,s=>⟨s,.refl _ _ _ _ _ hn,rfl⟩
 | b::r,H,n,hn,s=>by
  have g:=Lb H b
  have ac:∀i,act ι (dM H b none) i→act ι H i:=λi h=>h.imp (λ⟨x,hx⟩=>⟨x,g i x hx⟩) id
  have hl:(dM H b none).length=H.length:=bR _ _ _
  have s1:VS R ι (dM H b none) M:=⟨λi j h=>by rw[hl];exact s.lt i j h,λi i' j h h'=>s.inj i i' j (ac i h) (ac i' h'),λi x h=>s.blk i x (g i x h),λi h=>by rw[hl];exact s.kW i h,λi h c sl e=>s.jM i h c sl (g i _ e),s.Fj,λj h=>⟨(s.res j h).1,λi ha=>(s.res j h).2 i (ac i ha)⟩⟩
  have k1:Stp n [] ι H M ι (dM H b none) M:=⟨⟨Nat.le_refl _,λ_ _ h=>⟨rfl,h⟩⟩,.refl _ _,λ_ _ h=>h,λ_ _=>rfl,λ_ _=>rfl,λ_ _ _=>rfl,λi _ ⟨x,hx⟩=>⟨x,g i x hx⟩,λ_ _ _ _ _ _=>rfl,by rw[hl];exact hn⟩
  obtain⟨s2,k2,h2⟩:=IY r (H:=dM H b none) n (by rw[hl];exact hn) s1
  refine⟨s2, ?_,h2.trans hl⟩
  exact k1.trans k2 (Nat.le_refl _)
theorem IZ{R:Nat→Prop}{M:Heap}{ι:VI}{H:WH}(tr:TS){n:Nat}(hn:n≤H.length)(s:VS R ι H M):VS R ι (Nv tr H) M∧Stp n [] ι H M ι (Nv tr H) M∧(Nv tr H).length=H.length:=by
 unfold Nv
 split
 ·exact IY _ n hn s
 ·exact⟨s,.refl _ _ _ _ _ hn,rfl⟩
set_option maxHeartbeats 2000000 in
theorem j5 {C:aY} {B:FuncId→Option Bt} (hB:∀f b,B f=some b→Gm C f b) {K n np:Nat} {R:Nat→Prop}:∀(code:dB) (l lA:Fast) (H:WH) (M:Heap) (ι:VI) (tr:TS) (k:Ex→Fast→WH→TS→Prop),code.bP=true→VS R ι H M→np≤H.length→kF R ι M l lA →
  nT C B K n np code l H tr k→sD R np ι H M (bO C K n code lA M) k
 |.skip,l,lA,H,M,ι,tr,k,_,s,hn,he,h=>⟨.normal,lA,M,ι,l,H,tr,rfl,s,.refl _ _ _ _ _ hn,he,h⟩
 |.reg ops,l,lA,H,M,ι,tr,k,hc,s,hn,he,h=>by
  obtain⟨jY,M',aX,l',H',eO,t,q1,q2,q3,q4,q5⟩:=rT hB ops l lA H M ι tr _ s he hc h
  exact⟨.normal,jY,M',aX,l',H',eO,by simp only[bO,q1,aM],q2,iM (q3.weak hn),q4,q5⟩
 |.zw nk ops,l,lA,H,M,ι,tr,k,hc,s,hn,he,h=>by
  obtain⟨jY,M',aX,l',H',eO,t,q1,q2,q3,q4,q5⟩:=La hB s he hc h
  exact⟨.normal,jY,M',aX,l',H',eO,by simp only[bO,q1,aM],q2,iM (q3.weak hn),q4,q5⟩
 |.seq a b,l,lA,H,M,ι,tr,k,hc,s,hn,he,h=>by
  simp only[dB.bP,Bool.and_eq_true]at hc
  simp only[nT]at h
  obtain⟨l0,tr,K_,h⟩:=lq h
  have he:kF R ι M l0 lA:=λt=>by rw[K_ t];exact he t
  split at h
  ·split at h
   case h_2=>exact h.elim
   rename_i keep ms bs ts ex outs out r0 _
   obtain⟨s0,k0,hl0⟩:=IZ tr hn s
   obtain⟨vs,blks,gH,hk,s1,k1,hv⟩:=yF s0 (by rw[hl0];exact hn) (he.map keep) h
   obtain⟨r,hrun,hk⟩:=eH hk
   obtain⟨jY,M',aX,q1,q2,q3,q4⟩:=hrun R gH M lA s1 (λt=>(zW keep vs hv t).1)
   refine sD.after (iM k0) (sD.after k1 (sD.after q3 ?_))
   simp only[bO,q1]
   cases ex with
   | normal=>exact j5 hB b outs jY out M' aX r k hc.2 q2 q3.next q4 hk
   | exit i=>exact⟨_,jY,M',aX,outs,out,r,rfl,q2,.refl _ _ _ _ _ q3.next,q4,hk⟩
   | ret=>exact⟨_,jY,M',aX,outs,out,r,rfl,q2,.refl _ _ _ _ _ q3.next,q4,hk⟩
  ·obtain⟨ex,jY,M',aX,l',H',eO,q1,q2,q3,q4,q5⟩:=j5 hB a l0 lA H M ι _ _ hc.1 s hn he h
   refine sD.after q3 ?_
   simp only[bO,q1]
   cases ex with
   | normal=>exact j5 hB b l' jY H' M' aX eO k hc.2 q2 q3.next q4 q5
   | exit i=>exact⟨_,jY,M',aX,l',H',eO,rfl,q2,.refl _ _ _ _ _ q3.next,q4,q5⟩
   | ret=>exact⟨_,jY,M',aX,l',H',eO,rfl,q2,.refl _ _ _ _ _ q3.next,q4,q5⟩
 |.cond c a b,l,lA,H,M,ι,tr,k,hc,s,hn,he,h=>by
  simp only[dB.bP,Bool.and_eq_true]at hc
  simp only[nT]at h
  obtain⟨l0,U1,hl0,h⟩:=lq h
  have he:kF R ι M l0 lA:=λt=>by rw[hl0 t];exact he t
  obtain⟨l',eO,hl,h⟩:=GU h
  have he':kF R ι M l' lA:=λt=>by rw[hl t];exact he t
  cases c with
  | c v =>
   simp only[dV]at h
   have h:=(h.resolve_right (λh=>by cases h.1)).2
   simp only[bO,AX.sub,AX.ev]
   cases v with
   | bool w =>
    cases w with
    | true=>exact j5 hB a l' lA H M ι eO k hc.1.2 s hn he' h
    | false=>exact j5 hB b l' lA H M ι eO k hc.2 s hn he' h
   | _=>exact h.elim
  | t t =>
   simp only[bO,AX.sub,AX.ev]
   have ht:=he t
   generalize l0=l at *
   simp only[dV]at h
   rcases h with⟨h1,h2⟩ |⟨h1,h2⟩
   ·generalize look l t=X at *
    cases X<;>simp only at h1<;>first |(cases h1;done) | skip
    rename_i w
    simp only[au,beq_iff_eq]at h1
    subst h1
    rw[ht.eq rfl]
    exact j5 hB a l' lA H M ι eO k hc.1.2 s hn he' h2
   ·rw[hl t]at h2
    generalize look l t=X at *
    cases X<;>simp only at h1 h2<;>first |(cases h1;done) | exact h2.elim | skip
    rename_i w
    simp only[au,beq_eq_false_iff_ne]at h1
    have:w=false:=by cases w<;>simp_all
    subst this
    rw[ht.eq rfl]
    exact j5 hB b l' lA H M ι eO k hc.2 s hn he' h2
 |.block id c,l,lA,H,M,ι,tr,k,hc,s,hn,he,h=>by
  simp only[dB.bP]at hc
  simp only[nT]at h
  obtain⟨ex,jY,M',aX,l',H',eO,q1,q2,q3,q4,q5⟩:=j5 hB c l lA H M ι tr _ hc s hn he h
  refine sD.after q3 ?_
  simp only[bO,q1]
  have re:=q3.next
  cases ex with
  | normal=>exact⟨_,jY,M',aX,l',H',eO,rfl,q2,.refl _ _ _ _ _ re,q4,q5⟩
  | ret=>exact⟨_,jY,M',aX,l',H',eO,rfl,q2,.refl _ _ _ _ _ re,q4,q5⟩
  | exit i =>
   cases e:Nat.beq i id with
   | true =>
    have q5:k .normal l' H' eO:=by simpa only[e]using q5
    simp only
    rw[if_pos (aS e)]
    exact⟨_,jY,M',aX,l',H',eO,rfl,q2,.refl _ _ _ _ _ re,q4,q5⟩
   | false =>
    have q5:k (.exit i) l' H' eO:=by simpa only[e]using q5
    simp only
    rw[if_neg (λe'=>by subst e';simp at e)]
    exact⟨_,jY,M',aX,l',H',eO,rfl,q2,.refl _ _ _ _ _ re,q4,q5⟩
 |.loop keep c,l,lA,H,M,ι,tr,k,hc,s,hn,he,h=>by
  simp only[nT]at h
  obtain⟨l0,tr,K_,h⟩:=lq h
  have he:kF R ι M l0 lA:=λt=>by rw[K_ t];exact he t
  split at h
  case h_2=>exact h.elim
  rename_i ms bs ts ex outs out r0 _
  obtain⟨s0,k0,hl0⟩:=IZ tr hn s
  obtain⟨vs,blks,gH,hk,s1,k1,hv⟩:=yF s0 (by rw[hl0];exact hn) (he.map keep) h
  obtain⟨r,hrun,hk⟩:=eH hk
  obtain⟨jY,M',aX,q1,q2,q3,q4⟩:=hrun R gH M lA s1 (λt=>(zW keep vs hv t).1)
  refine sD.after (iM k0) (sD.after k1 (sD.after q3 ?_))
  exact⟨ex,jY,M',aX,outs,out,r,by simp only[bO];exact q1,q2,.refl _ _ _ _ _ q3.next,q4,hk⟩
 |.exit i,l,lA,H,M,ι,tr,k,_,s,hn,he,h=>⟨.exit i,lA,M,ι,l,H,tr,rfl,s,.refl _ _ _ _ _ hn,he,h⟩
 |.ret,l,lA,H,M,ι,tr,k,_,s,hn,he,h=>⟨.ret,lA,M,ι,l,H,tr,rfl,s,.refl _ _ _ _ _ hn,he,h⟩
 |.fail,l,lA,H,M,ι,tr,k,_,s,hn,he,h=>by simp[nT]at h
theorem VL.JD{M:Heap}{O:Nat→Prop}{κ:VI}{v a:AV}(h:VL M O κ v a)(hv:v≠.undef):a≠.undef:=by
 cases v with
 | undef=>exact absurd rfl hv
 | ptr p=>cases p<;>simp only[VL]at h<;>first |(subst h;simp) |(obtain⟨_,_,rfl⟩:=h;simp)
 | slice p=>cases p<;>simp only[VL]at h;obtain⟨_,_,rfl⟩:=h;simp
 | map p=>cases p<;>simp only[VL]at h<;>first |(subst h;simp) |(obtain⟨_,_,rfl⟩:=h;simp)
 | func f cs=>simp only[VL]at h;obtain⟨_,rfl,_⟩:=h;simp
 | agg cs=>simp only[VL]at h;obtain⟨_,rfl,_⟩:=h;simp
 | tuple cs=>simp only[VL]at h;obtain⟨_,rfl,_⟩:=h;simp
 | list=>simp only[VL]at h;rcases h with⟨_,_,_,rfl⟩ |⟨_,_,_,_,rfl,_⟩<;>simp
 | elem=>simp only[VL]at h;obtain⟨_,_,_,_,_,rfl,_⟩:=h;simp
 | acc=>simp only[VL]at h;obtain⟨_,_,_,_,rfl,_⟩:=h;simp
 | _=>simp only[VL]at h;subst h;simp
theorem NM{R:Nat→Prop}{ι:VI}{H:WH}{M:Heap}(s:VS R ι H M){l lA:Fast}(he:kF R ι M l lA){r:qK}{v:AV}(h:Ny r l H=some v):∃a,uL r lA M=some a∧VL M (OR R ι) ι v a:=by
 cases r with
 | tmp t =>
  have ht:=he t
  simp only[Ny,uL]at h ⊢
  split at h
  ·cases h
  ·rename_i hne
   obtain rfl:=ak h
   have:=ht.JD hne
   generalize look lA t=Y at *
   cases Y<;>simp_all
 | cell t agg n =>
  simp only[Ny]at h
  have:=CW s he (o:=.load agg n (.t t)) rfl (v:=v) (by simpa only[kN.sub,AX.sub]using h)
  simpa only[kN.sub,AX.sub,aL,AX.ev,uL]using this
theorem A9{R:Nat→Prop}{ι:VI}{H:WH}{M:Heap}(s:VS R ι H M){l lA:Fast}(he:kF R ι M l lA):∀ {rs:List qK} {vs:List AV},Fu rs l H=some vs→∃as,oW rs lA M=some as∧bf M (OR R ι) ι vs as
 | [],vs,h=>by
  simp only[Fu,au]at h
  subst h
  exact⟨[],rfl,by simp[bf]⟩
 | r::rs,vs,h=>by
  simp only[Fu]at h
  split at h
  case h_2=>cases h
  rename_i v vs' h1 h2
  obtain rfl:=ak h
  obtain⟨a,e1,e2⟩:=NM s he h1
  obtain⟨as,e3,e4⟩:=A9 s he h2
  exact⟨a::as,by simp only[oW,e1,aB,e3,aM],by simp only[bf];exact⟨e2,e4⟩⟩
theorem FH{R:Nat→Prop}{ι:VI}{H:WH}{M:Heap}(s:VS R ι H M){l lA:Fast}(he:kF R ι M l lA){rs:List qK}{v:AV}(h:wT rs l H=some v):∃a,fK rs lA M=some a∧VL M (OR R ι) ι v a:=by
 unfold wT at h
 split at h
 ·rename_i u hu
  obtain rfl:=ak h
  obtain⟨as,e1,e2⟩:=A9 s he hu
  match as,e2 with
  | [],e2=>simp[bf]at e2
  | [a],e2 =>
   simp only[bf]at e2
   exact⟨a,by simp only[fK,e1,aM],e2.1⟩
  | _::_::_,e2=>simp[bf]at e2
 ·rename_i vs hne hvs
  obtain rfl:=ak h
  obtain⟨as,e1,e2⟩:=A9 s he hvs
  refine⟨.tuple as, ?_,by simp only[VL];exact⟨as,rfl,e2⟩⟩
  simp only[fK,e1,aM]
  match as,e2 with
  | [],e2=>rfl
  | [a],e2 =>
   match vs,e2 with
   | [],e2=>simp[bf]at e2
   | [u],e2=>exact absurd rfl (hne u)
   | _::_::_,e2=>simp[bf]at e2
  | _::_::_,e2=>rfl
 ·cases h
theorem NP {R:Nat→Prop} {ι:VI} {H:WH} {M:Heap} (s:VS R ι H M) {np:Nat} (hn:np≤H.length) {v a:AV} (hv:VL M (OR R ι) ι v a) {tr:TS} {v':AV} {out:WH} (h:Nz np v H tr v' out) :
  ∃aX,VS R aX out M∧Stp np [] ι H M aX out M∧VL M (OR R aX) aX v' a:=by
 unfold Nz at h
 split at h
 case h_2=>exact h.elim
 rename_i m ts mc _
 obtain⟨s0,k0,hl0⟩:=IZ tr hn s
 have hn0:=hn
 rw[←hl0]at hn
 generalize Nv tr H=H0 at *
 obtain⟨gH,h1,h2,h3⟩:=GQ m s0 (VL.retag v (ts.headD .undef) a hv)
 generalize hr:Qt m (Proofs.Ytkedeiklmpkgkaa.retag v (ts.headD .undef)) H0=r at *
 obtain⟨v1,H1⟩:=r
 simp only at h h1 h2 h3
 obtain⟨mo,k1,k2⟩:=xq [] mc (wQ H1 np (mP v1)) H1 gH M h1
 have k3:=VL.step h1 k2 h3
 obtain⟨rfl,rfl⟩:=h
 obtain⟨Ta,q1,q2,q3⟩:=PL k1 (Nat.le_trans hn (Nat.le_trans h2.next k2.next)) (mP v1) (vs:=[v1]) (as:=[a]) (by simp only[bf];exact⟨k3,trivial⟩)
 simp only[BP,bf]at q3
 refine⟨Ta,q1, ?_,q3.1⟩
 have e1:Stp np [] ι H0 M gH H1 M:=h2.weak hn
 have e2:Stp np [] gH H1 M mo _ M:=k2.weak (Nat.le_trans hn h2.next)
 have:=(k0.trans (e1.trans e2 (Nat.le_refl _)) (Nat.le_refl _)).trans q2 (Nat.le_refl _)
 simpa using this
theorem C9{M:Heap}{O:Nat→Prop}{κ:VI}:∀ {vs as:List AV} (i:Nat),bf M O κ vs as→∀t,VL M O κ (look (start i vs) t) (look (start i as) t)
 | [],[],i,_,t=>by simp[start,look,VL]
 | v::vs,a::as,i,h,t=>by
  simp only[bf]at h
  simp only[start,kG]
  split
  ·exact h.1
  ·exact C9 (i+1) h.2 t
 | [],_::_,_,h,_=>by simp[bf]at h
 | _::_,[],_,h,_=>by simp[bf]at h
theorem NQ {G:DJ} {T:FuncId→Option cu} {K d:Nat} {B:FuncId→Option Bt} (hB:∀f b,B f=some b→Gm (iI G T K d) f b) {f:FuncId} (hG:G f=none) {af:cu} (hT:T f=some af) (hc:af.code.bP=true) {args:List AV} {blks:WH} {tr:TS} {v:AV} {out:WH}
  (h1:args.length=af.nargs) (h2:af.nargs≤af.ntmps) (h3:Pz (iI G T K d) B K af args blks tr v out):Spec (iI G T K (d+1)) f args blks v out:=by
 intro R ι M as s hv
 have hl:=hv.length
 have hst:kF R ι M (start 0 (args++List.replicate (af.ntmps-af.nargs) (.tuple []))) (start 0 (as++List.replicate (af.ntmps-af.nargs) (.tuple []))):=by
  refine C9 0 (hv.append ?_)
  generalize af.ntmps-af.nargs=m
  induction m with
  | zero=>simp[bf]
  | succ m ih=>simp only[List.replicate_succ,bf];exact⟨VL.unit,ih⟩
 obtain⟨ex,jY,M',aX,l',H',eO,q1,q2,q3,q4,q5⟩:=j5 hB af.code _ _ blks M ι tr _ hc s (Nat.le_refl _) hst h3
 obtain⟨l1,tr1,hl1,q5⟩:=lq q5
 have q4:kF R aX M' l1 jY:=λt=>by rw[hl1 t];exact q4 t
 have fin:∀ {ex},(match wT af.results l1 H' with
   | some u=>Nz blks.length u H' tr1 v out
   | none=>False)→(ex=.normal∨ex=.ret)→bO (iI G T K d) K af.ntmps af.code (start 0 (as++List.replicate (af.ntmps-af.nargs) (.tuple []))) M=some (ex,jY,M') →
   ∃a M' aX,iI G T K (d+1) f as M=some (a,M')∧VS R aX out M'∧Stp blks.length (List.range blks.length) ι blks M aX out M'∧VL M' (OR R aX) aX v a:=by
  intro ex hm hx hrun
  split at hm
  case h_2=>exact hm.elim
  rename_i u hu
  obtain⟨a,e1,e2⟩:=FH q2 q4 hu
  obtain⟨mo,e3,e4,e5⟩:=NP q2 q3.next e2 hm
  refine⟨a,M',mo, ?_,e3,iM (q3.trans e4 (Nat.le_refl _)),e5⟩
  simp only[iI,hG,hT,bbody]
  rw[if_pos ⟨by rw[←hl];exact h1,h2⟩]
  rcases hx with rfl | rfl<;>simp only[hrun,e1,aM]
 cases ex with
 | normal=>exact fin q5 (.inl rfl) q1
 | ret=>exact fin q5 (.inr rfl) q1
 | exit i=>exact q5.elim
theorem NS {C:aY} {B:FuncId→Option Bt} (hB:∀f b,B f=some b→Gm C f b) {K n np:Nat} {code:dB} (hc:code.bP=true) {ins:Fast} {blks:WH} (hn:np≤blks.length) {tr:TS} {x:Ex×Fast×WH}
  (h:PE C B K n np code ins blks tr x):GI (bO C K n code) np ins blks x.1 x.2.1 x.2.2:=by
 intro R ι M lA s he
 obtain⟨ex',jY,M',aX,l',H',eO,q1,q2,q3,q4,q5⟩:=j5 hB code ins lA blks M ι tr _ hc s hn he h
 unfold PD at q5
 obtain⟨l1,eO,hl1,q5⟩:=lq q5
 have q4:kF R aX M' l1 jY:=λt=>by rw[hl1 t];exact q4 t
 split at q5
 case h_2=>exact q5.elim
 rename_i keep ms bs ts _
 obtain⟨s0,k0,hl0⟩:=IZ eO q3.next q2
 obtain⟨vs',out',mo,⟨rfl,e1,e2⟩,s2,k2,hv⟩:=yF s0 (by rw[hl0];exact q3.next) (q4.map keep) q5
 rw[←e1,←e2]
 exact⟨jY,M',mo,q1,s2,iM (q3.trans ((iM k0).trans k2 (Nat.le_refl _)) (Nat.le_refl _)),λt=>(zW keep vs' hv t).1⟩
theorem bZ {G:DJ} {T:FuncId→Option cu} {K d:Nat} {B:FuncId→Option Bt} (hB:∀f b,B f=some b→Gm (iI G T K d) f b) {f:FuncId} {af:cu} (hf:G f=none∧T f=some af∧af.code.bP=true) {args:List AV} {blks:WH} {R:Type} {o:R→AV×WH} {r:R} {F:Option R}
  (h:F=some r) (t:Tc F) (h1:args.length=af.nargs:=by rfl) (h2:Nat.ble af.nargs af.ntmps=true:=by rfl) (e:Pz (iI G T K d) B K af args blks ⟨t⟩ (o r).1 (o r).2=claim (λv=>(o v).1=(o r).1∧(o v).2=(o r).2) r t:=by kernel_rfl):Spec (iI G T K (d+1)) f args blks (o r).1 (o r).2 :=
 NQ hB hf.1 hf.2.1 hf.2.2 h1 (Nat.le_of_ble_eq_true h2) (e.mpr (dI ⟨rfl,rfl⟩ t h))
theorem iN {C:aY} {B:FuncId→Option Bt} (hB:∀f b,B f=some b→Gm C f b) {K n np:Nat} {code:dB} (hc:code.bP=true) {ins:Fast} {blks:WH} {R:Type} {o:R→Ex×Fast×WH} {r:R} {F:Option R}
  (h:F=some r) (t:Tc F) (hn:Nat.ble np blks.length=true:=by rfl) (e:PE C B K n np code ins blks ⟨t⟩ (o r)=claim (λv=>(o v).1=(o r).1∧(o v).2.1=(o r).2.1∧(o v).2.2=(o r).2.2) r t:=by kernel_rfl):GI (bO C K n code) np ins blks (o r).1 (o r).2.1 (o r).2.2 :=
 NS hB hc (Nat.le_of_ble_eq_true hn) (e.mpr (dI ⟨rfl,rfl,rfl⟩ t h))
def lX{S E:Type}(step:S→Option (S⊕E)):Nat→S→Option E
 | 0,_=>none
 | k+1,s=>match step s with
  | none=>none
  | some (.inl s)=>lX step k s
  | some (.inr e)=>some e
def pz{S E:Type}(keep:List Nat)(st:S→List AV×WH)(fin:E→Ex×Fast×WH):S⊕E→Ex×Fast×WH
 |.inl s=>(.normal,gV keep (st s).1,(st s).2)
 |.inr e=>fin e
theorem A_{l:Fast}(t:Nat):∀keep:List Nat,look (qj l keep) t=if t∈keep then look l t else .undef
 | []=>by simp[qj,look]
 | u::r=>by
  simp only[qj,kG,A_ t r,List.mem_cons]
  by_cases e:u=t
  ·subst e;simp
  ·simp[e,Ne.symm e,show ¬t=u from λh=>e h.symm]
theorem qw {S E:Type} {body:Fast→Heap→zB} {np:Nat} {keep:List Nat} {st:S→List AV×WH} {fin:E→Ex×Fast×WH} {step:S→Option (S⊕E)} (hE:∀e,(fin e).1≠.normal)
  (hr:∀s x,step s=some x→GI body np (gV keep (st s).1) (st s).2 (pz keep st fin x).1 (pz keep st fin x).2.1 (pz keep st fin x).2.2) :
  ∀(k:Nat) (s:S) (e:E),lX step k s=some e→GI (nS body keep k) np (gV keep (st s).1) (st s).2 (fin e).1 (fin e).2.1 (fin e).2.2
 | 0,s,e,h=>by simp[lX]at h
 | k+1,s,e,h=>by
  intro R ι M lA vs he
  have zk:∀(keep:List Nat) (xs:List AV) (t:Nat),t∉keep→look (gV keep xs) t=.undef:=λkeep=>by
   induction keep with
   | nil=>intro xs t _;cases xs<;>simp[gV,look]
   | cons u r ih =>
    intro xs t ht
    rw[List.mem_cons,not_or]at ht
    cases xs with
    | nil=>simp[gV,look]
    | cons v xs =>
     simp only[gV,kG]
     rw[if_neg (λe=>ht.1 e.symm)]
     exact ih xs t ht.2
  have he':∀t,VL M (OR R ι) ι (look (gV keep (st s).1) t) (look (qj lA keep) t):=λt=>by
   rw[A_]
   split
   ·exact he t
   ·rename_i ht
    rw[zk keep _ t ht]
    simp[VL]
  simp only[lX]at h
  split at h
  ·cases h
  ·rename_i s' hs
   have:=hr s _ hs
   obtain⟨jY,M',aX,q1,q2,q3,q4⟩:=this R ι M (qj lA keep) vs he'
   obtain⟨lA2,M2,mo,r1,r2,r3,r4⟩:=qw hE hr k s' e h R aX M' jY q2 q4
   refine⟨lA2,M2,mo, ?_,r2,iM (q3.trans r3 (Nat.le_refl _)),r4⟩
   simp only[nS,q1]
   exact r1
  ·rename_i e' hs
   obtain rfl:=ak h
   have:=hr s _ hs
   simp only[pz]at this
   obtain⟨jY,M',aX,q1,q2,q3,q4⟩:=this R ι M (qj lA keep) vs he'
   refine⟨jY,M',aX, ?_,q2,q3,q4⟩
   simp only[nS,q1]
   have:=hE e'
   generalize (fin e').1=x at *
   cases x with
   | normal=>exact absurd rfl this
   | exit i=>rfl
   | ret=>rfl
open Go.ChangeShapes Go.WideShapes Go.ChangeAt Go.RowKit
mutual
def mF:Sh→Nat
 |.agg ss=>oh ss
 | _=>1
def oh:List Sh→Nat
 | []=>0
 | s::r=>mF s+oh r
end
mutual
def encS:Sh→D→List AV
 |.bool,.bool b=>[.bool b]
 |.int _,.int k n=>[.int k n]
 |.str,.str s=>[.str s]
 |.list e,.list l=>[.list (mF e) l.length (D8 e l) false]
 |.agg ss,.agg l=>vB ss l
 | _,_=>[]
def D8(e:Sh):List D→List AV
 | []=>[]
 | d::r=>encS e d++D8 e r
def vB:List Sh→List D→List AV
 | s::ss,d::r=>encS s d++vB ss r
 | _,_=>[]
end
theorem sF{e:Sh}:∀ {l:List D} {n:Nat},l.length=n→vB (List.replicate n e) l=D8 e l
 | [],n,h=>by
  subst h
  simp[vB,D8]
 | d::r,n,h=>by
  subst h
  simp only[bA,List.replicate_succ,vB,D8]
  rw[sF rfl]
theorem qx(s:Sh):∀n,oh (List.replicate n s)=n*mF s
 | 0=>by simp[oh]
 | n+1=>by
  rw[List.replicate_succ,oh,qx s n,Nat.succ_mul,Nat.add_comm]
theorem yJ{P:Program}(hl:laidOutB P=true):∀(k:Nat) (t:TypeId) (s:Sh),vM P k t=some s→t<P.types.size→P.cellsOf t=mF s
 | 0,_,_,h,_=>by simp[vM]at h
 | k+1,t,s,h,ht=>by
  have hr:=Go.rowFine_of hl ht
  simp only[vM]at h
  split at h
  case h_7=>cases h
  ·rename_i hu
   obtain rfl:=ak h
   simpa[rowFine,isVar,ht,hu,kindOk,mF]using hr
  ·rename_i i hu
   obtain rfl:=ak h
   simpa[rowFine,isVar,ht,hu,kindOk,mF]using hr
  ·rename_i hu
   obtain rfl:=ak h
   simpa[rowFine,isVar,ht,hu,kindOk,mF]using hr
  ·rename_i e hu
   split at h
   ·cases h
   obtain⟨se,hse,rfl⟩:=av.1 h
   simp[rowFine,isVar,ht,hu,kindOk]at hr
   simpa[mF]using hr.2
  ·rename_i fs hu
   obtain⟨ss,hss,rfl⟩:=av.1 h
   obtain⟨h1,h2,_⟩:=Go.kid_struct hl ht hu
   rw[h2,mF]
   have hall:∀(fl:List Field) (ss:List Sh),(∀f∈fl,f.type<P.types.size)→BO (vM P k) (fl.map λf=>f.type)=some ss→(fl.map λf=>P.cellsOf f.type).sum=oh ss:=by
    intro fl
    induction fl with
    | nil =>
     intro ss _ h
     simp[BO]at h
     subst h
     simp[oh]
    | cons f fl ih =>
     intro ss hf h
     simp only[List.map_cons,BO]at h
     split at h
     case h_2=>cases h
     rename_i s r h1 h2
     obtain rfl:=ak h
     rw[List.map_cons,List.sum_cons,oh,yJ hl k _ _ h1 (hf f (by simp)),ih r (λg hg=>hf g (by simp[hg])) h2]
   exact hall fs.toList ss h1 hss
  ·rename_i n e hu
   obtain⟨se,hse,rfl⟩:=av.1 h
   obtain⟨h1,h2⟩:=Go.kid_array hl ht hu
   rw[h2,mF,qx,yJ hl k _ _ hse h1]
mutual
theorem VL.sub{M M':Heap}{κ jX:VI}(h:M.Sub M')(hn:M.next≤M'.next):∀(v a:AV),VL M (λ_=>False) VI.none v a→VL M' (λ_=>False) VI.none v a
 |.undef,_,_=>by simp[VL]
 |.bool _,_,e=>by simpa[VL]using e
 |.int _ _,_,e=>by simpa[VL]using e
 |.str _,_,e=>by simpa[VL]using e
 |.ptr none,_,e=>by simpa[VL]using e
 |.ptr (some q),_,e=>by simp[VL,VI.none]at e
 |.slice none _ _ _ _,_,e=>by simpa[VL]using e
 |.slice (some q) _ _ _ _,_,e=>by simp[VL,VI.none]at e
 |.map none,_,e=>by simpa[VL]using e
 |.map (some r),_,e=>by simp[VL,VI.none]at e
 |.func f cs,_,e=>by
  simp only[VL]at e ⊢
  obtain⟨cs',h1,h2⟩:=e
  exact⟨cs',h1,bf.sub h hn cs cs' h2⟩
 |.nilFunc,_,e=>by simpa[VL]using e
 |.agg cs,_,e=>by
  simp only[VL]at e ⊢
  obtain⟨cs',h1,h2⟩:=e
  exact⟨cs',h1,bf.sub h hn cs cs' h2⟩
 |.tuple cs,_,e=>by
  simp only[VL]at e ⊢
  obtain⟨cs',h1,h2⟩:=e
  exact⟨cs',h1,bf.sub h hn cs cs' h2⟩
 |.list sz len cs ex,_,e=>by
  simp only[VL]at e ⊢
  rcases e with e |⟨b,o,cap,ex',h1,h2,h3,h4,h5⟩
  ·exact .inl e
  refine .inr ⟨b,o,cap,ex',h1,h2,h3,h4,λhl=>?_⟩
  obtain⟨c,ro,sl,g1,g2,g3,g4,g5⟩:=h5 hl
  exact⟨c,ro,sl,h _ _ g1,g2,Nat.lt_of_lt_of_le g3 hn,g4,bf.sub h hn cs _ g5⟩
 |.elem cs,_,e=>by
  simp only[VL]at e ⊢
  obtain⟨b,o,c,ro,sl,h1,g1,g2,g3,g5⟩:=e
  exact⟨b,o,c,ro,sl,h1,h _ _ g1,g2,Nat.lt_of_lt_of_le g3 hn,bf.sub h hn cs _ g5⟩
 |.acc b o sz n w,_,e=>by simp[VL,VI.none]at e
theorem bf.sub{M M':Heap}(h:M.Sub M')(hn:M.next≤M'.next):∀(l r:List AV),bf M (λ_=>False) VI.none l r→bf M' (λ_=>False) VI.none l r
 | [],[],_=>by simp[bf]
 | a::l,v::r,e=>by
  simp only[bf]at e ⊢
  exact⟨VL.sub (κ:=VI.none) (jX:=VI.none) h hn a v e.1,bf.sub h hn l r e.2⟩
 | [],_::_,e=>by simp[bf]at e
 | _::_,[],e=>by simp[bf]at e
end
abbrev GZ(M:Heap):=bf M (λ_=>False) VI.none
def D9(W:World)(s:Sh)(cs:List Value)(d:D):Prop :=
 ∀ι M,R ι M W→jV M→∃aX M' GD,Grow ι M aX M' W∧bS aX GD cs∧(∀a∈GD,a.cO=true)∧GZ M' (encS s d) GD∧D.is s d
def dO(W:World):List Sh→List (List Value)→List D→Prop
 | [],[],[]=>True
 | s::ss,c::cs,d::ds=>D9 W s c d∧dO W ss cs ds
 | _,_,_=>False
theorem dO.open {W:World}:∀ {ss:List Sh} {css:List (List Value)} {ds:List D},dO W ss css ds→∀ι M,R ι M W→jV M →
  ∃aX M' ,∃pieces:List (List AV),Grow ι M aX M' W∧pieces.map List.length=css.map List.length∧bS aX pieces.flatten css.flatten∧(∀p∈pieces,∀a∈p,a.cO=true)∧GZ M' (vB ss ds) pieces.flatten∧D.are ss ds
 | [],[],[],_,ι,M,r,ro=>⟨ι,M,[],.refl r ro,rfl,by simp[bS],by simp,by simp[vB,GZ,bf],by simp[D.are]⟩
 | s::ss,c::css,d::ds,h,ι,M,r,ro=>by
  simp only[dO]at h
  obtain⟨gH,M1,GD,g1,v1,c1,r1,i1⟩:=h.1 ι M r ro
  obtain⟨mo,M2,ps,g2,l2,v2,c2,r2,i2⟩:=dO.open h.2 gH M1 g1.rel g1.ro
  refine⟨mo,M2,GD::ps,g1.trans g2, ?_, ?_, ?_, ?_, ?_⟩
  ·have:=v1.length
   simp[l2,this]
  ·simp only[List.flatten_cons]
   exact(v1.mono g2.le).append v2
  ·intro p hp
   rcases List.mem_cons.1 hp with rfl | hp
   ·exact c1
   ·exact c2 p hp
  ·simp only[vB,List.flatten_cons]
   exact(bf.sub g2.sub g2.next _ _ r1).append r2
  ·simp only[D.are]
   exact⟨i1,i2⟩
 | [],[],_::_,h,_,_,_,_=>by simp[dO]at h
 | [],_::_,_,h,_,_,_,_=>by simp[dO]at h
 | _::_,[],_,h,_,_,_,_=>by simp[dO]at h
 | _::_,_::_,[],h,_,_,_,_=>by simp[dO]at h
theorem dO.kR {W:World}:∀ {ss:List Sh} {css:List (List Value)} {ds:List D},ss.length=ds.length→css.length=ds.length →
  (∀(i:Nat) s c d,ss[i]?=some s→css[i]?=some c→ds[i]?=some d→D9 W s c d)→dO W ss css ds
 | [],[],[],_,_,_=>by simp[dO]
 | s::ss,c::css,d::ds,h1,h2,h=>by
  simp only[dO]
  exact⟨h 0 s c d (by simp) (by simp) (by simp),dO.kR (by simpa using h1) (by simpa using h2) λi s c d a1 a2 a3=>h (i+1) s c d (by simpa using a1) (by simpa using a2) (by simpa using a3)⟩
 | [],_,_::_,h1,_,_=>by simp at h1
 | _::_,_,[],h1,_,_=>by simp at h1
 | _,[],_::_,_,h2,_=>by simp at h2
 | _,_::_,[],_,h2,_=>by simp at h2
theorem rU{W:World}{s:Sh}{v:Value}{a:AV}{d:D}(hv:∀ι,VR ι a v)(hc:a.cO=true)(hr:∀M,GZ M (encS s d) [a])(hs:D.is s d):D9 W s [v] d:=λι M r ro =>
 ⟨ι,M,[a],.refl r ro,by simp only[bS];exact⟨hv ι,trivial⟩,λx hx=>by simp at hx;subst hx;exact hc,hr M,hs⟩
theorem rV {H:Type} {enc:TypeId×Value→H} {P:Program} (hl:laidOutB P=true) {W:World}:∀(k:Nat) (t:TypeId) (s:Sh),vM P k t=some s→t<P.types.size →
  ∀(fuel:Nat) (cs:List Value) (x:DataW H×List MemPlace),DataW.trod enc P W 0 (λ_=>true) true fuel t cs=some x→D9 W s cs (oU x.1)
 | 0,_,_,hs,_,_,_,_,_=>by simp[vM]at hs
 | k+1,t,s,hs,ht,fuel,cs,x,h=>by
  simp only[vM]at hs
  split at hs
  case h_7=>cases hs
  ·rename_i hu
   obtain rfl:=ak hs
   obtain⟨b,rfl,rfl⟩:=DataW.trod_bool hu h
   exact rU (a:=.bool b) (λι=>by simp[VR]) rfl (λM=>by simp[oU,encS,bf,VL]) ⟨b,rfl⟩
  ·rename_i i hu
   obtain rfl:=ak hs
   obtain⟨n,rfl,rfl,hw⟩:=DataW.trod_int hu h
   simp only[Lit.wf,Bool.and_eq_true,decide_eq_true_eq]at hw
   exact rU (a:=.int i n) (λι=>by simp[VR]) rfl (λM=>by simp[oU,encS,bf,VL]) ⟨n,rfl,hw⟩
  ·rename_i hu
   obtain rfl:=ak hs
   obtain⟨b,rfl,rfl,hw⟩:=DataW.trod_string hu h
   exact rU (a:=.str b.data.toList) (λι=>by simp only[VR];exact⟨b,rfl,rfl⟩) rfl (λM=>by simp[oU,encS,bf,VL]) ⟨_,rfl⟩
  ·rename_i e hu
   split at hs
   ·cases hs
   rename_i hsz
   obtain⟨se,hse,rfl⟩:=av.1 hs
   have hte:e<P.types.size:=Go.kid_slice hl ht hu
   rcases DataW.trod_slice hu h with⟨rfl,rfl⟩ |⟨a,len,cap,elems,rest,n,rfl,rfl,rfl,_,hlc,_,hlen,hel,hre,_⟩
   ·exact rU (a:=.slice none (mF se) 0 0 true) (λι=>by simp[VR]) rfl (λM=>by simp[oU,encS,D8,bf,VL]) ⟨[],by simp[oU],by simp⟩
   ·intro ι M r ro
    obtain⟨hrl,hre⟩:=hre rfl
    simp only[oU]
    have hsz':=yJ hl _ _ _ hse hte
    generalize hz:P.cellsOf e=sz at *
    rcases Nat.eq_zero_or_pos cap with hc0 | hcp
    ·subst hc0
     obtain rfl:len=0:=by omega
     have Tf:elems=[]:=by simpa using hlen
     subst Tf
     refine⟨_,_,[.slice (some (M.next,0)) sz 0 0 true],Grow.skip r ro ⟨a.block,0,0⟩, ?_, ?_, ?_, ?_⟩
     ·simp only[bS,VR,and_true]
      exact⟨⟨a.block,0,0⟩,a,0,by simp[dD.set],rfl,.inl rfl,.inl rfl,.inl rfl,Nat.le_refl _,Nat.le_refl _,λ_=>rfl,by simp,by omega⟩
     ·intro y hy
      simp at hy
      subst hy
      rfl
     ·simp only[List.map_nil,yu,encS,D8,bf,VL,and_true]
      exact .inr ⟨M.next,0,0,true,by rw[hsz'];rfl,Nat.le_refl _,by simp,by simp,λh=>absurd rfl h⟩
     ·exact⟨[],by simp[yu],by simp⟩
    ·-- every element's cells
     have all:∀i,i<cap→∃ci,W.cells? 0 (a.add (i*sz)) sz=some ci∧(i<len→∃y,elems[i]?=some y∧DataW.trod enc P W 0 (λ_=>true) true n e ci=some y):=by
      intro i hi
      by_cases hil:i<len
      ·have h1:=hel i hil
       rw[aU (by omega)]at h1
       obtain⟨ci,h2,h3⟩:=aC.1 h1
       exact⟨ci,h2,λ_=>⟨_,aU (by omega),h3⟩⟩
      ·have h1:=hre (i-len) (by omega)
       rw[aU (by omega)]at h1
       obtain⟨ci,h2,h3⟩:=aC.1 h1
       rw[show len+(i-len)=i from by omega]at h2
       exact⟨ci,h2,λhx=>absurd hx hil⟩
     obtain⟨c0,hc0,_⟩:=all 0 hcp
     obtain⟨_,hl0,hg0⟩:=World.cells?_some hc0
     have hone:=hg0 0 (by omega)
     rw[aU (by omega)]at hone
     obtain⟨c,el,fz,vI,hsp,_⟩:=Jr hone
     have ha0:(a.add (0*sz)).add 0=a:=by simp[Addr.add]
     rw[ha0]at vI hsp
     obtain⟨j,off,spot⟩:=a
     simp only at vI hsp
     subst hsp
     have Ul:∀i v,W.cell? ⟨j,i,none⟩=some v→c[i]?=some v:=λi v hv=>by
      simpa[World.cell?,vI]using hv
     have PU:∀i,W.cell? ⟨j,i,none⟩=c[i]?:=λi=>by simp[World.cell?,vI]
     have RL:∀i ci,W.cells? 0 ((⟨j,off,none⟩:Addr).add (i*sz)) sz=some ci→ci=(c.toList.drop (off+i*sz)).take sz∧off+i*sz+sz≤c.size:=by
      intro i ci hci
      obtain⟨_,q1,q2⟩:=World.cells?_some hci
      have hsize:off+i*sz+sz≤c.size:=by
       have:=q2 (sz-1) (by omega)
       rw[iw,iw,PU,aU (by omega)]at this
       have:=(Array.getElem?_eq_some_iff.1 this).1
       omega
      refine⟨?_,hsize⟩
      apply List.ext_getElem?
      intro q
      by_cases hq:q<sz
      ·have:=q2 q hq
       rw[iw,iw,PU]at this
       rw[←this,List.getElem?_take,if_pos hq,List.getElem?_drop,Array.getElem?_toList]
      ·rw[List.getElem?_eq_none (by omega),List.getElem?_eq_none (by simp;omega)]
     have hend:off+cap*sz≤c.size:=by
      obtain⟨ci,h1,_⟩:=all (cap-1) (by omega)
      have:=(RL _ _ h1).2
      have:(cap-1)*sz+sz=cap*sz:=by rw[←Nat.succ_mul];congr 1;omega
      omega
     have hrow:len*sz≤cap*sz:=Nat.mul_le_mul_right _ hlc
     have Ba:dO W (List.replicate len se) (chunks (List.replicate len sz) (c.toList.drop off)) (elems.map λy=>oU y.1):=by
      refine dO.kR (by simp[hlen]) (by simp[mM,hlen]) λi s0 ci d0 h1 h2 h3=>?_
      have hi:i<len:=by
       have:=(aF.1 h1).1
       simpa using this
      rw[List.getElem?_replicate,if_pos hi]at h1
      obtain rfl:=ak h1
      rw[rP _ _ i sz (by rw[List.getElem?_replicate,if_pos hi])]at h2
      obtain rfl:=ak h2
      obtain⟨ci,g1,g2⟩:=all i (by omega)
      obtain⟨y,g3,g4⟩:=g2 hi
      obtain⟨g5,_⟩:=RL i ci g1
      rw[List.getElem?_map,g3]at h3
      obtain rfl:=ak h3
      have e1:(List.take i (List.replicate len sz)).sum=i*sz:=by
       rw[List.take_replicate,Nat.min_eq_left (by omega),List.sum_replicate_nat]
      rw[e1,List.drop_drop,←g5]
      exact rV hl k e se hse hte n ci y g4
     obtain⟨gH,M1,pieces,g1,hpl,hpv,hpc,hpp,Lc⟩:=Ba.open ι M r ro
     have K8:(chunks (List.replicate len sz) (c.toList.drop off)).flatten=(c.toList.drop off).take (len*sz):=by
      rw[chunks_flatten,List.sum_replicate_nat]
     rw[K8]at hpv
     have hfl:pieces.flatten.length=len*sz:=by
      have:=hpv.length
      simp at this
      rw[List.length_flatten,this]
      omega
     have Lg:=Grow.see (c:=pieces.flatten) (l:=⟨j,off,cap*sz⟩) g1.rel g1.ro vI (by
      refine⟨c,el,fz,rfl,hend,by rw[hfl];exact hrow,(λh=>by cases h),λi b hb=>?_,λh=>by cases h⟩
      obtain⟨v,hv,Ke⟩:=hpv.get i b hb
      refine⟨v, ?_, ?_,Ke⟩
      ·rw[List.getElem?_take]at hv
       split at hv
       ·rw[List.getElem?_drop,Array.getElem?_toList]at hv
        exact hv
       ·cases hv
      ·obtain⟨p,hp,hbp⟩:=List.mem_flatten.1 (List.mem_of_getElem? hb)
       exact hpc p hp b hbp)
     have hdl:(yu (elems.map λy=>y.1)).length=len:=by rw[rO];simp[hlen]
     refine⟨_,_,[.slice (some (M1.next,0)) sz len cap true],g1.trans Lg, ?_, ?_, ?_, ?_⟩
     ·simp only[bS,VR,and_true]
      exact⟨⟨j,off,cap*sz⟩,⟨j,off,none⟩,cap,by simp[dD.set],rfl,.inr rfl,.inr rfl,.inr rfl,hlc,Nat.le_refl _,λ_=>rfl,by simp,by omega⟩
     ·intro y hy
      simp at hy
      subst hy
      rfl
     ·have e1:yu (elems.map λy=>y.1)=elems.map λy=>oU y.1:=by rw[rO];simp
      rw[sF]at hpp
      ·simp only[encS,bf,VL,and_true,e1]
       refine .inr ⟨M1.next,0,cap,true, ?_, ?_,by simp, ?_,λ_=>⟨pieces.flatten,true,true,by simp[Heap.push],λh=>h,by simp[Heap.push], ?_, ?_⟩⟩
       ·rw[hsz',List.length_map,hlen]
       ·rw[List.length_map,hlen];exact hlc
       ·rw[hpp.length,hfl,List.length_map,hlen,hsz']
       ·rw[List.length_map,hlen,←hsz'];omega
       ·rw[List.length_map,hlen,←hsz',List.drop_zero,List.take_of_length_le (by omega)]
        exact bf.sub Lg.sub Lg.next _ _ hpp
      ·simp[hlen]
     ·have e1:yu (elems.map λy=>y.1)=elems.map λy=>oU y.1:=by rw[rO];simp
      refine⟨_,rfl, ?_⟩
      rw[e1]
      exact(D.u_ Lc).2
  ·rename_i fs hu
   obtain⟨ss,hss,rfl⟩:=av.1 hs
   obtain⟨hsl,hsg⟩:=Cx hss
   obtain⟨kt,kc,ko⟩:=Go.kid_struct hl ht hu
   obtain⟨xs,n,rfl,rfl,hcl,hxl,hget⟩:=DataW.trod_struct hu h
   intro ι M r ro
   have Ba:dO W ss (chunks (fs.toList.map λf=>P.cellsOf f.type) cs) (xs.map λy=>oU y.1):=by
    refine dO.kR (by simp[hsl,hxl]) (by simp[mM,hxl]) λi s0 ci d0 h1 h2 h3=>?_
    have hi:i<fs.toList.length:=by
     have:=(aF.1 h1).1
     simpa[hsl]using this
    have hf:fs.toList[i]?=some fs.toList[i]:=aU hi
    obtain⟨s1,g1,g2⟩:=hsg i _ (by rw[List.getElem?_map,hf];rfl)
    rw[h1]at g1
    obtain rfl:=ak g1
    rw[rP _ _ i _ (by rw[List.getElem?_map,hf];rfl)]at h2
    obtain rfl:=ak h2
    have h4:=hget i fs.toList[i] (by rw[←Array.getElem?_toList];exact hf)
    rw[List.getElem?_map]at h3
    obtain⟨y,hy,rfl⟩:=av.1 h3
    rw[hy,ko i _ hf]at h4
    rw[←List.map_take]
    exact rV hl k _ _ g2 (kt _ (List.getElem_mem hi)) n _ y h4
   obtain⟨gH,M1,pieces,g1,hpl,hpv,hpc,hpp,Lc⟩:=Ba.open ι M r ro
   rw[chunks_flatten,←kc,←hcl,List.take_length]at hpv
   have e1:oU (DataW.agg (xs.map λy=>y.1))=.agg (xs.map λy=>oU y.1):=by simp[oU,rO]
   refine⟨gH,M1,pieces.flatten,g1,hpv,λa ha=>?_, ?_, ?_⟩
   ·obtain⟨p,hp,hap⟩:=List.mem_flatten.1 ha
    exact hpc p hp a hap
   ·rw[e1]
    simp only[encS]
    exact hpp
   ·rw[e1]
    exact⟨_,rfl,Lc⟩
  ·rename_i m e hu
   obtain⟨se,hse,rfl⟩:=av.1 hs
   obtain⟨hte,kc⟩:=Go.kid_array hl ht hu
   obtain⟨xs,n,rfl,rfl,hcl,hxl,hget⟩:=DataW.trod_array hu h
   intro ι M r ro
   have Ba:dO W (List.replicate m se) (chunks (List.replicate m (P.cellsOf e)) cs) (xs.map λy=>oU y.1):=by
    refine dO.kR (by simp[hxl]) (by simp[mM,hxl]) λi s0 ci d0 h1 h2 h3=>?_
    have hi:i<m:=by
     have:=(aF.1 h1).1
     simpa using this
    rw[List.getElem?_replicate,if_pos hi]at h1
    obtain rfl:=ak h1
    rw[rP _ _ i (P.cellsOf e) (by rw[List.getElem?_replicate,if_pos hi])]at h2
    obtain rfl:=ak h2
    have h4:=hget i hi
    rw[List.getElem?_map]at h3
    obtain⟨y,hy,rfl⟩:=av.1 h3
    rw[hy]at h4
    have e1:(List.take i (List.replicate m (P.cellsOf e))).sum=i*P.cellsOf e:=by
     rw[List.take_replicate,Nat.min_eq_left (by omega),List.sum_replicate_nat]
    rw[e1]
    exact rV hl k e se hse hte n _ y h4
   obtain⟨gH,M1,pieces,g1,hpl,hpv,hpc,hpp,Lc⟩:=Ba.open ι M r ro
   rw[chunks_flatten,List.sum_replicate_nat,←kc,←hcl,List.take_length]at hpv
   have e1:oU (DataW.agg (xs.map λy=>y.1))=.agg (xs.map λy=>oU y.1):=by simp[oU,rO]
   refine⟨gH,M1,pieces.flatten,g1,hpv,λa ha=>?_, ?_, ?_⟩
   ·obtain⟨p,hp,hap⟩:=List.mem_flatten.1 ha
    exact hpc p hp a hap
   ·rw[e1]
    simp only[encS]
    exact hpp
   ·rw[e1]
    exact⟨_,rfl,Lc⟩
def tO(s:Sh)(d:D):AV :=
 match s with
 |.agg ss=>.agg (encS s d)
 | s=>(encS s d).headD .undef
def encArgs:List Sh→List D→List AV
 | s::ss,d::r=>tO s d::encArgs ss r
 | _,_=>[]
theorem JE {H:Type} {enc:TypeId×Value→H} {P:Program} (hl:laidOutB P=true) {W:World} {k base:Nat} {t:TypeId} {s:Sh} (hs:vM P k t=some s) (ht:t<P.types.size) {v:Value} {d:DataW H} {ps:List MemPlace}
  (hval:Value.okWide P W .any base t v) (h:DataW.Trod enc P W 0 (λ_=>true) true t v d ps) {ι:dD} {M:Heap} (r:R ι M W) (ro:jV M) :
  ∃aX M' a,Grow ι M aX M' W∧VR aX a v∧VL M' (λ_=>False) VI.none (tO s (oU d)) a∧D.is s (oU d):=by
 obtain⟨fuel,hf⟩:=h
 obtain⟨aX,M',GD,g,hv,_,hr,hi⟩:=rV hl k t s hs ht fuel _ _ hf ι M r ro
 simp only at hr hi
 have one:v.cells=#[v]→(∀ss,s≠.agg ss)→∃aX M' a,Grow ι M aX M' W∧VR aX a v∧VL M' (λ_=>False) VI.none (tO s (oU d)) a∧D.is s (oU d):=by
  intro e1 e2
  rw[e1]at hv
  match GD,hv,hr with
  | [a],hv,hr =>
   simp only[bS]at hv
   refine⟨aX,M',a,g,hv.1, ?_,hi⟩
   have hlen:=hr.length
   have:∃x,encS s (oU d)=[x]:=by
    match hx:encS s (oU d),hlen with
    | [x],_=>exact⟨x,rfl⟩
    | [],h=>simp at h
    | _::_::_,h=>simp at h
   obtain⟨x,hx⟩:=this
   rw[hx]at hr
   simp only[bf]at hr
   have he:tO s (oU d)=x:=by
    cases s with
    | agg ss=>exact absurd rfl (e2 ss)
    | _=>simp[tO,hx]
   rw[he]
   exact hr.1
  | [],hv,_=>simp[bS]at hv
  | _::_::_,hv,_=>simp[bS]at hv
 have many:(∃cs,v=.agg cs)→(∃ss,s=.agg ss)→∃aX M' a,Grow ι M aX M' W∧VR aX a v∧VL M' (λ_=>False) VI.none (tO s (oU d)) a∧D.is s (oU d):=by
  rintro⟨cs,rfl⟩ ⟨ss,rfl⟩
  refine⟨aX,M',.agg GD,g, ?_, ?_,hi⟩
  ·simp only[VR]
   exact⟨cs,rfl,by simpa[Value.cells]using hv⟩
  ·simp only[tO,VL]
   exact⟨GD,rfl,hr⟩
 cases k with
 | zero=>simp[vM]at hs
 | succ k =>
  simp only[vM]at hs
  split at hs
  case h_7=>cases hs
  ·rename_i hu
   obtain rfl:=ak hs
   obtain⟨b,rfl⟩:=okWide_bool hu hval
   exact one rfl λl hl=>by cases hl
  ·rename_i i hu
   obtain rfl:=ak hs
   obtain⟨b,rfl⟩:=okWide_int hu hval
   exact one rfl λl hl=>by cases hl
  ·rename_i hu
   obtain rfl:=ak hs
   obtain⟨b,rfl⟩:=okWide_string hu hval
   exact one rfl λl hl=>by cases hl
  ·rename_i e hu
   split at hs
   ·cases hs
   obtain⟨se,hse,rfl⟩:=av.1 hs
   obtain⟨a,len,cap,rfl⟩:=okWide_slice hu hval
   exact one rfl λl hl=>by cases hl
  ·rename_i fs hu
   obtain⟨ss,hss,rfl⟩:=av.1 hs
   obtain⟨cs,hcs,_⟩:=okWide_struct hu hval
   exact many ⟨cs,hcs⟩ ⟨_,rfl⟩
  ·rename_i n e hu
   obtain⟨se,hse,rfl⟩:=av.1 hs
   simp only[Value.okWide,hu]at hval
   obtain⟨cs,hcs,_⟩:=hval
   exact many ⟨cs,hcs⟩ ⟨_,rfl⟩
theorem C_ {H:Type} {enc:TypeId×Value→H} {P:Program} (hl:laidOutB P=true) {W:World} {k base:Nat} :
  ∀(ts:List TypeId) (ss:List Sh) (vs:List Value) (ds:List (DataW H)) (p:List MemPlace),Ar P k ts=some ss→(ts.all λt=>decide (t<P.types.size))=true →
   (∀(j:Nat) t v,ts[j]?=some t→vs[j]?=some v→Value.okWide P W .any base t v)→DataW.TrodAll enc P W 0 (λ_=>true) true ts vs ds p →
   ∀ι M,R ι M W→jV M→∃aX M' as,Grow ι M aX M' W∧bS aX as vs∧GZ M' (encArgs ss (ds.map oU)) as∧D.are ss (ds.map oU)
 | [],ss,[],[],p,hs,_,_,_,ι,M,r,ro=>by
  simp[Ar,BO]at hs
  subst hs
  exact⟨ι,M,[],.refl r ro,by simp[bS],by simp[encArgs,GZ,bf],by simp[D.are]⟩
 | t::ts,ss,v::vs,d::ds,p,hs,ht,hval,h,ι,M,r,ro=>by
  simp only[Ar,BO]at hs
  split at hs
  case h_2=>cases hs
  rename_i s sr h1 h2
  obtain rfl:=ak hs
  simp only[List.all_cons,Bool.and_eq_true,decide_eq_true_eq]at ht
  simp only[DataW.TrodAll]at h
  obtain⟨p1,p2,g1,g2,_⟩:=h
  obtain⟨gH,M1,a,q1,q2,q3,q4⟩:=JE hl h1 ht.1 (hval 0 t v (by simp) (by simp)) g1 r ro
  obtain⟨mo,M2,as,w1,w2,w3,w4⟩:=C_ hl ts sr vs ds p2 h2 (by simpa using ht.2) (λj t v a b=>hval (j+1) t v (by simpa using a) (by simpa using b)) g2 gH M1 q1.rel q1.ro
  refine⟨mo,M2,a::as,q1.trans w1, ?_, ?_, ?_⟩
  ·simp only[bS]
   exact⟨q2.mono w1.le,w2⟩
  ·simp only[List.map_cons,encArgs,GZ,bf]
   exact⟨VL.sub (κ:=VI.none) (jX:=VI.none) w1.sub w1.next _ _ q3,w3⟩
  ·simp only[List.map_cons,D.are]
   exact⟨q4,w4⟩
 | [],_,_::_,_,_,_,_,_,h,_,_,_,_=>by simp[DataW.TrodAll]at h
 | [],_,[],_::_,_,_,_,_,h,_,_,_,_=>by simp[DataW.TrodAll]at h
 | _::_,_,[],_,_,_,_,_,h,_,_,_,_=>by simp[DataW.TrodAll]at h
 | _::_,_,_::_,[],_,_,_,_,h,_,_,_,_=>by simp[DataW.TrodAll]at h
def RN(C:aY)(f:FuncId)(ss:List Sh)(small:Nat):Prop :=
 ∀ds:List D,D.are ss ds→D.nR ds≤small→∃out,Spec C f (encArgs ss ds) [] (.bool true) out
theorem VS.empty{M:Heap}(h:M.Ok):VS (λ_=>False) VI.none [] M :=
 ⟨λ_ _ h=>(nomatch h),λ_ _ _ _ _ h=>(nomatch h),λi x h=>by simp[bE]at h,λ_ h=>(nomatch h),λ_ h=>(nomatch h),h,λ_ h=>h.elim⟩
theorem NT:OR (λ_=>False) VI.none=λ_=>False:=by
 funext j
 simp[OR,own,VI.none]
theorem FI {H:Type} {enc:TypeId×Value→H} {P:Program} (hl:laidOutB P=true) {f:FuncId} {C:aY} (hg:Sound P f (C f)) {ss:List Sh} {small:Nat} (hp:RN C f ss small)
  {W:World} {k base:Nat} {ts:List TypeId} {args:Array Value} {ds:List (DataW H)} {p:List MemPlace} (hs:Ar P k ts=some ss) (ht:(ts.all λt=>decide (t<P.types.size))=true)
  (hval:∀(j:Nat) t v,ts[j]?=some t→args.toList[j]?=some v→Value.okWide P W .any base t v) (hA:DataW.TrodAll enc P W 0 (λ_=>true) true ts args.toList ds p) (hb:D.nR (ds.map oU)≤small) :
  Calls P f args W λe W'=>e=.returned (.bool true)∧Below W.heap.size W W':=by
 obtain⟨ι,M,as,g1,g2,g3,g4⟩:=C_ hl ts ss args.toList ds p hs ht hval hA _ _ (R.empty W) (λb x h=>by simp[Heap.empty]at h)
 obtain⟨out,hH⟩:=hp _ g4 hb
 have hw:M.Ok:=λb hb=>(g1.rel.fresh b hb).1
 have g3':bf M (OR (λ_=>False) VI.none) VI.none (encArgs ss (ds.map oU)) as:=by rw[NT];exact g3
 obtain⟨a,M',gH,e1,e2,_,e3⟩:=hH _ VI.none M as (VS.empty hw) g3'
 simp only[VL]at e3
 subst e3
 refine(hg as M _ M' e1 ι W args g1.rel g2).mono ?_
 rintro e w' ⟨aX,v',rfl,hv,htr⟩
 simp only[VR]at hv
 subst hv
 exact⟨rfl,EZ htr g1.ro⟩
def KK:Nat:=2000000000000
abbrev Tab:=DJ×(FuncId→Option cu)
abbrev bn(A:Tab)(d:Nat):aY:=iI A.1 A.2 KK d
theorem VS.RO{R:Nat→Prop}{ι:VI}{H:WH}{M:Heap}(s:VS R ι H M)(y:fP):VS R ι H (M.push y)∧Stp H.length [] ι H M ι H (M.push y):=by
 have hk:Keeps M (own ι) (M.push y) (own ι):=⟨Nat.le_succ _,λb hb ho=>⟨by simp[Heap.push,Nat.ne_of_lt hb],ho⟩⟩
 refine⟨⟨λi j h=>?_,s.inj,λi x hx=>?_,s.kW,s.jM,λb hb=>?_,λj h=>⟨by simp only[Heap.push];have:=(s.res j h).1;omega,(s.res j h).2⟩⟩,⟨hk,.refl _ _,λ_ _ h=>h,λ_ _=>rfl,λ_ _=>rfl,λ_ _ _=>rfl,λ_ _ h=>h,λi j _ _ hj _=>?_,Nat.le_refl _⟩⟩
 ·have:=s.lt i j h
  simp only[Heap.push]
  omega
 ·rcases s.blk i x hx with h |⟨j,h1,h2,h3⟩
  ·exact .inl h
  refine .inr ⟨j,h1, ?_,h3⟩
  have:=(s.lt i j h1).2
  simp only[Heap.push,if_neg (show j≠M.next by omega)]
  exact h2.mono (hk.or R) (λ_=>.refl _ _) (λ_ h=>h)
 ·simp only[Heap.push]at hb ⊢
  rw[if_neg (by omega)]
  exact s.Fj b (by omega)
 ·have:=(s.lt i j hj).2
  simp only[Heap.push,if_neg (show j≠M.next by omega)]
def tQ(sz bytes:Nat)(zero:List AV):cu:={ nargs:=1,ntmps:=8,code:=(.seq (.reg [{ dst:=(some 2),op:=(.p (.move (.c (.slice none 1 0 0 true)))),guard:=none }]) (.seq (.seq (.reg [{ dst:=(some 3),op:=(.p (.move (.t 0))),guard:=none },{ dst:=(some 4),op:=(.p (.Jf false (.t 3) (.c (.slice none 1 0 0 true)))),guard:=none }]) (.cond (.t 4) (.seq (.reg [{ dst:=(some 2),op:=(.p (.move (.c (.slice none 1 0 0 true)))),guard:=none }]) .ret) .skip)) (.seq (.reg [{ dst:=(some 5),op:=(.k (.buildSlice sz 0 zero [])),guard:=none },{ dst:=(some 6),op:=(.p (.move (.t 0))),guard:=none },{ dst:=(some 7),op:=(.n (.append sz bytes (.t 5) (.t 6))),guard:=none },{ dst:=(some 2),op:=(.p (.move (.t 7))),guard:=none }]) .ret))),results:=[(.tmp 2)] }
theorem JF (C:aY) (K sz bytes:Nat) (zero:List AV) (M:Heap) (sz' len cap:Nat) (ex:Bool) :
  bbody C K (tQ sz bytes zero) [.slice none sz' len cap ex] M=some (.slice none 1 0 0 true,M):=by
 simp[bbody,tQ,start,List.replicate,List.replicate_succ,jL,jK,jJ,kU,Proofs.Ytkedeiklmpkgkaa.jH,jI,mJ.sub,gu.sub,AX.sub,vH,aP,Dn,AX.ev,bO,fK,oW,uL]
theorem G5 (C:aY) (K sz bytes:Nat) (zero:List AV) (M:Heap) (q:Nat×Nat) (len cap:Nat) (ex:Bool) (n:Nat) (cs:List AV) (he:gG (.slice (some q) sz len cap ex) (M.push (.cells [] false false))=some (n,cs)) (hn:n*bytes≤70368744177664∧n≤70368744177664) :
  bbody C K (tQ sz bytes zero) [.slice (some q) sz len cap ex] M=if n=0 then some (.slice (some (M.next,0)) sz 0 0 true,M.push (.cells [] false false))else some (.slice (some (M.next+1,0)) sz n n false,(M.push (.cells [] false false)).push (.cells cs false true)):=by
 have pn:∀(x:fP),(M.push x).next=M.next+1:=λ_=>rfl
 have hap:dw sz bytes (.slice (some (M.next,0)) sz 0 0 true) n cs (M.push (.cells [] false false))=if n=0 then some (.slice (some (M.next,0)) sz 0 0 true,M.push (.cells [] false false))else some (.slice (some (M.next+1,0)) sz n n false,(M.push (.cells [] false false)).push (.cells cs false true)):=by
  unfold dw
  by_cases h0:n=0
  ·subst h0
   simp
  ·simp only
   rw[if_neg (by simp),if_neg (by omega),if_pos (by simpa using hn),if_neg h0]
   simp[pn]
 by_cases h0:n=0
 ·subst h0
  simp only[if_true]at hap ⊢
  simp[bbody,tQ,start,List.replicate,List.replicate_succ,jL,jK,jJ,kU,mJ.sub,gu.sub,r_.sub,nD.sub,AX.sub,bO,Proofs.Ytkedeiklmpkgkaa.jH,jI,vH,aP,aK,aN,Dn,AX.ev,fA,jd,Mk.val,bN,he,hap,fK,oW,uL]
 ·simp only[if_neg h0]at hap ⊢
  simp[bbody,tQ,start,List.replicate,List.replicate_succ,jL,jK,jJ,kU,mJ.sub,gu.sub,r_.sub,nD.sub,AX.sub,bO,Proofs.Ytkedeiklmpkgkaa.jH,jI,vH,aP,aK,aN,Dn,AX.ev,fA,jd,Mk.val,bN,he,hap,fK,oW,uL]
theorem FJ{x:AV}{M:Heap}{y:fP}{n:Nat}{cs:List AV}(ok:M.Ok)(h:gG x M=some (n,cs)):gG x (M.push y)=some (n,cs):=by
 unfold gG at h ⊢
 split at h
 ·exact h
 ·split at h
  ·rename_i hl
   rw[if_pos hl]
   exact h
  ·rename_i hl
   rw[if_neg hl]
   obtain⟨c,h1,h2⟩:=av.1 h
   rw[av]
   refine⟨c, ?_,h2⟩
   rename_i b _ _ _ _ _
   have hb:M.get b≠none:=λe=>by simp[Heap.read,e]at h1
   have hne:b≠M.next:=λe=>hb (by rw[e];exact ok M.next (Nat.le_refl _))
   have:(M.push y).get b=M.get b:=by simp only[Heap.push,if_neg hne]
   simp only[Heap.read,this]at h1 ⊢
   exact h1
 ·exact h
 ·cases h
theorem JG{T:Tab}{d:Nat}{f:FuncId}{sz bytes:Nat}{zero:List AV}(hG:T.1 f=none)(hT:T.2 f=some (tQ sz bytes zero)):Gm (bn T (d+1)) f (.clone sz bytes):=by
 intro R ι H M args as dst tr k s hv h
 simp only[Rf]at h
 split at h
 case h_2=>exact h.elim
 rename_i v
 match as,hv with
 | [],hv=>simp[bf]at hv
 | _::_::_,hv=>simp[bf]at hv
 | [a],hv =>
 simp only[bf]at hv
 replace hv:=hv.1
 have run:bn T (d+1) f [a] M=bbody (bn T d) KK (tQ sz bytes zero) [a] M:=by simp only[bn,iI,hG,hT]
 rw[run]
 split at h
 ·exact h.elim
 rename_i hstr
 split at h
 case h_2=>exact h.elim
 rename_i n cs S hel
 obtain⟨_,h⟩:=zV h
 obtain⟨eO,hf,hk⟩:=eH h
 have hf':=yC hf
 obtain⟨e1,e2,cs',e3,e4⟩:=yD s hv hel
 obtain⟨u1,u2⟩:=s.Fy S (tL hel)
 have hlen:(og H S).length=H.length:=jZ S H
 have hn0:n=0→cs=[]:=λe=>by
  subst e
  rw[Nat.zero_mul]at e2
  exact List.eq_nil_of_length_eq_zero e2
 -- which it is
 have hcase:(∃s' l c x,a=.slice none s' l c x)∨∃q l c x,a=.slice (some q) sz l c x:=by
  cases a with
  | slice p s' l c x =>
   cases p with
   | none=>exact .inl ⟨_,_,_,_,rfl⟩
   | some q =>
    simp[bN]at e1
    subst e1
    exact .inr ⟨_,_,_,_,rfl⟩
  | str t =>
   exfalso
   cases v with
   | str t=>exact hstr t rfl
   | ptr p=>cases p<;>simp[VL]at hv
   | slice p=>cases p<;>simp[VL]at hv
   | map p=>cases p<;>simp[VL]at hv
   | _=>simp_all [VL,tC]
  | _=>simp[bN]at e1
 rcases hcase with⟨s',l,c,x,rfl⟩ |⟨q,l,c,x,rfl⟩
 ·simp only[gG,au,aD]at e3
  simp only[bN,beq_iff_eq]at e1
  obtain⟨rfl,rfl⟩:=e3
  subst e1
  obtain rfl:=hn0 rfl
  rw[JF]
  obtain⟨aX,q1,q2,q3⟩:=w_ u1 sz 1 none (by simp)
  rw[hlen]at q2 q3
  refine⟨_,M,aX,_,_,[],eO,rfl,q1, ?_,q3,hk⟩
  have:=u2.trans q2 (Nat.le_refl _)
  simpa using this
 ·obtain⟨s1,k1⟩:=u1.RO (.cells [] false false)
  have he':=FJ (y:=.cells [] false false) s.Fj e3
  rw[G5 (bn T d) KK sz bytes zero M q l c x n cs' he' hf']
  by_cases hn:n=0
  ·rw[if_pos hn]
   obtain rfl:=hn0 hn
   subst hn
   obtain⟨aX,q1,q2,q3⟩:=w_ s1 sz sz (some (M.next,0)) (λ_=>rfl)
   rw[hlen]at q2 q3 k1
   refine⟨_,_,aX,_,_,[],eO,rfl,q1, ?_,q3,hk⟩
   have:=(u2.trans k1 (Nat.le_refl _)).trans q2 (Nat.le_refl _)
   simpa using this
  ·rw[if_neg hn]
   have e4':=bf.CU k1 e4
   obtain⟨aX,q1,q2,q3⟩:=zT s1 (cs:=cs) (cs':=cs') e4' e2 false true
   rw[hlen]at q2 q3 k1
   refine⟨_,_,aX,_,_,[],eO,rfl,q1, ?_,q3,hk⟩
   have:=(u2.trans k1 (Nat.le_refl _)).trans q2 (Nat.le_refl _)
   simpa using this
def FK(sz:Nat):cu:={ nargs:=1,ntmps:=9,code:=(.seq (.reg [{ dst:=(some 2),op:=(.p (.move (.c (.slice none 1 0 0 true)))),guard:=none }]) (.seq (.reg [{ dst:=(some 3),op:=(.p (.move (.t 0))),guard:=none },{ dst:=(some 4),op:=(.p (.move (.t 0))),guard:=none },{ dst:=(some 5),op:=(.p (.len false (.t 4))),guard:=none },{ dst:=(some 6),op:=(.p (.move (.t 0))),guard:=none },{ dst:=(some 7),op:=(.p (.len false (.t 6))),guard:=none },{ dst:=(some 8),op:=(.p (.slice sz (.t 3) none (some (.t 5)) (some (.t 7)))),guard:=none },{ dst:=(some 2),op:=(.p (.move (.t 8))),guard:=none }]) .ret)),results:=[(.tmp 2)] }
theorem xA (C:aY) (K sz:Nat) (M:Heap) (p:Option (Nat×Nat)) (s' n cap:Nat) (ex:Bool) (hn:n≤cap) (hp:p≠none→s'=sz) :
  bbody C K (FK sz) [.slice p s' n cap ex] M=some (.slice p sz n n true,M):=by
 have hs:eD sz p s' n cap ex [] none (some (.c (.int .i64 n))) (some (.c (.int .i64 n)))=some (.slice p sz n n true):=by
  unfold eD
  rw[if_pos (by cases p with
   | none=>exact .inl rfl
   | some p=>exact .inr (hp (by simp)))]
  have h1:(0:Int)≤n:=by omega
  have h2:(n:Int)≤cap:=by omega
  have h3:fQ p 0=p:=by cases p<;>rfl
  simp[bC,gZ,AX.ev,h1,h2,h3]
 simp[bbody,FK,start,List.replicate,List.replicate_succ,jL,jK,jJ,kU,Proofs.Ytkedeiklmpkgkaa.jH,jI,mJ.sub,gu.sub,AX.sub,AX.dY,vH,aP,AX.ev,bO,hs,fK,oW,uL]
theorem Lh{T:Tab}{d:Nat}{f:FuncId}{sz:Nat}(hG:T.1 f=none)(hT:T.2 f=some (FK sz)):Gm (bn T (d+1)) f (.clip sz):=by
 intro R ι H M args as dst tr k s hv h
 have run:∀a,bn T (d+1) f [a] M=bbody (bn T d) KK (FK sz) [a] M:=λa=>by simp only[bn,iI,hG,hT]
 simp only[Rf]at h
 split at h
 ·match as,hv with
  | [],hv=>simp[bf]at hv
  | _::_::_,hv=>simp[bf]at hv
  | [a],hv =>
  simp only[bf,VL]at hv
  obtain⟨_,s',rfl⟩:=hv.1
  rw[run,xA (bn T d) KK sz M none _ 0 0 true (Nat.le_refl _) (by simp)]
  exact⟨_,M,ι,_,H,[],tr,rfl,s,.refl _ _ _ _ _ (Nat.le_refl _),by simp[VL],h⟩
 ·match as,hv with
  | [],hv=>simp[bf]at hv
  | _::_::_,hv=>simp[bf]at hv
  | [a],hv =>
  split at h
  case h_2=>exact h.elim
  rename_i e
  obtain rfl:=aS e
  simp only[bf,VL]at hv
  rcases hv.1 with⟨rfl,rfl,s',rfl⟩ |⟨b,o,cap,ex',rfl,h1,h2,h3,h4⟩
  ·rw[run,xA (bn T d) KK _ M none _ 0 0 true (Nat.le_refl _) (by simp)]
   exact⟨_,M,ι,_,H,[],tr,rfl,s,.refl _ _ _ _ _ (Nat.le_refl _),by simp[VL],h⟩
  ·rw[run,xA (bn T d) KK _ M (some (b,o)) _ _ cap ex' h1 (λ_=>rfl)]
   refine⟨_,M,ι,_,H,[],tr,rfl,s,.refl _ _ _ _ _ (Nat.le_refl _), ?_,h⟩
   simp only[VL]
   exact .inr ⟨b,o,_,true,rfl,Nat.le_refl _,λ_=>⟨rfl,rfl⟩,h3,h4⟩
 ·match as,hv with
  | [],hv=>simp[bf]at hv
  | _::_::_,hv=>simp[bf]at hv
  | [a],hv =>
  split at h
  case h_2=>exact h.elim
  rename_i e
  obtain rfl:=aS e
  simp only[bf,VL]at hv
  obtain⟨p,s',cap,ex,rfl,g1,g2,g3,m,L,g4,g5,g6,g7⟩:=hv.1
  rw[run,xA (bn T d) KK _ M p s' _ cap ex g1 g3]
  refine⟨_,M,ι,_,H,[],tr,rfl,s,.refl _ _ _ _ _ (Nat.le_refl _), ?_,h⟩
  simp only[VL]
  refine⟨p,_,_,true,rfl,Nat.le_refl _,λhp=>⟨?_,rfl⟩,λ_=>rfl,m,L,g4,g5,g6, ?_⟩
  ·have:=(g2 hp).1
   omega
  ·rcases g7 with⟨j,q1,q2⟩ |⟨q1,q2,q3,q4,q5⟩
   ·refine .inl ⟨j,q1, ?_⟩
    rcases q2 with⟨q2,q3⟩ |⟨q2,q3,q4⟩
    ·exact .inl ⟨q2,Nat.le_trans (Nat.add_le_add_left (Nat.mul_le_mul_right _ g1) _) q3⟩
    ·exact .inr ⟨q2,q2,rfl⟩
   ·exact .inr ⟨q1,q2,q2,rfl,q5⟩
 ·exact h.elim
abbrev oP(d:Nat)(o:gu):jQ:={ dst:=some d,op:=.p o,guard:=none }
abbrev oV(d s:Nat):jQ:={ dst:=some d,op:=.p (.move (.t s)),guard:=none }
abbrev oC(d:Nat)(v:AV):jQ:={ dst:=some d,op:=.p (.move (.c v)),guard:=none }
abbrev oN(d:Nat)(o:nD):jQ:={ dst:=some d,op:=.n o,guard:=none }
abbrev oZ(o:nD):jQ:={ dst:=none,op:=.n o,guard:=none }
abbrev oD(o:jQ)(lo ix:Nat):b_:={ o:=o,lo:=lo,ix:=ix }
abbrev iC(n:Int):AX:=.c (.int .i64 n)
def PV(b:UInt8):AV:=.int .u8 b.toNat
def iO{α:Type}(L:List α)(i:Int):Option α:=if 0≤i then L[i.toNat]? else none
def D_{α:Type}(L:List α)(lo hi:Int):Option (List α):=if 0≤lo∧lo≤hi∧hi≤(L.length:Int)then some ((L.drop lo.toNat).take (hi.toNat-lo.toNat))else none
def JH(k:IntKind)(x y:Int):Int:=x.fdiv (2 ^ (min y.toNat k.bits))
def NU(k:IntKind)(x y:Int):Option Int:=if y=0 then none else some (x.tmod y)
def QA(k:IntKind)(x y:Int):Option Int:=if y<0 then none else some (k.wrap (x*2 ^ (min y.toNat k.bits)))
structure Row{α:Type}(F:List α→List AV)(e:α→List AV)(sz:Nat):Prop where
 nil:F []=[]
 cons:∀x l,F (x::l)=e x++F l
 len:∀x,(e x).length=sz
def mE{K V:Type}(ck:K→AV)(cv:V→AV)(l:List (K×V)):List (AV×AV):=l.map λp=>(ck p.1,cv p.2)
def PW{K:Type} [DecidableEq K](kd:Kd)(ck:K→AV):Prop:=∀a b,xV kd (ck a) (ck b)=some (decide (a=b))
theorem QB:PW .s AV.str:=λa b=>by
 simp only[xV,au]
 rw[Bool.eq_iff_iff]
 simp
def vR{K V:Type} [DecidableEq K]:List (K×V)→K→Option V
 | [],_=>none
 | p::r,k=>if k=p.1 then some p.2 else vR r k
def sN{K V:Type} [DecidableEq K]:List (K×V)→K→V→List (K×V)
 | [],k,v=>[(k,v)]
 | p::r,k,v=>if k=p.1 then (k,v)::r else p::sN r k v
def JI{K V:Type} [DecidableEq K]:List (K×V)→K→List (K×V)
 | [],_=>[]
 | p::r,k=>if k=p.1 then r else p::JI r k
section
variable {K V:Type} [DecidableEq K] {kd:Kd} {ck:K→AV} (hk:PW kd ck) (cv:V→AV)
include hk
theorem Li:∀(l:List (K×V)) (k:K) (i:Nat),(vR l k=none∧lU kd (ck k) (mE ck cv l) i=some none∧(∀v,mE ck cv (sN l k v)=mE ck cv l++[(ck k,cv v)])∧JI l k=l) ∨
  ∃n x,vR l k=some x∧lU kd (ck k) (mE ck cv l) i=some (some (i+n,cv x))∧(∀v,mE ck cv (sN l k v)=(mE ck cv l).set n (ck k,cv v))∧mE ck cv (JI l k)=(mE ck cv l).eraseIdx n
 | [],k,i=>.inl ⟨rfl,rfl,λv=>rfl,rfl⟩
 | p::r,k,i=>by
  have e:lU kd (ck k) (mE ck cv (p::r)) i=match some (decide (k=p.1))with
   | some true=>some (some (i,cv p.2))
   | some false=>lU kd (ck k) (mE ck cv r) (i+1)
   | none=>none:=by
   rw[←hk k p.1]
   rfl
  by_cases h:k=p.1
  ·refine .inr ⟨0,p.2,by simp[vR,h],by rw[e];simp[h],λv=>by simp[sN,h,mE],by simp[JI,h,mE]⟩
  ·rcases Li r k (i+1)with⟨h1,h2,h3,h4⟩ |⟨n,x,h1,h2,h3,h4⟩
   ·refine .inl ⟨by simp[vR,h,h1],by rw[e];simp[h,h2],λv=>?_,by simp[JI,h,h4]⟩
    have:=h3 v
    simp only[sN,if_neg h]
    simp only[mE,List.map_cons,List.cons_append]at this ⊢
    rw[this]
   ·refine .inr ⟨n+1,x,by simp[vR,h,h1],by rw[e];simp only[h,decide_false,h2];congr 3;omega,λv=>?_, ?_⟩
    ·have:=h3 v
     simp only[sN,if_neg h]
     simp only[mE,List.map_cons,List.set_cons_succ]at this ⊢
     rw[this]
    ·simp only[JI,if_neg h]
     simp only[mE,List.map_cons,List.eraseIdx_cons_succ]at h4 ⊢
     rw[h4]
theorem Tg{l:List (K×V)}{k:K}{z x:V}(h:some ((vR l k).getD z)=some x):Fe kd false (cv z) (ck k) (mE ck cv l)=some (cv x):=by
 obtain rfl:=ak h
 unfold Fe
 rcases Li hk cv l k 0 with⟨h1,h2,_⟩ |⟨n,y,h1,h2,_⟩
 ·rw[h2,h1];rfl
 ·rw[h2,h1];rfl
theorem PX(l:List (K×V))(k:K)(v:V):Aw kd (ck k) (cv v) (mE ck cv l)=some (mE ck cv (sN l k v)):=by
 unfold Aw
 rcases Li hk cv l k 0 with⟨_,h2,h3,_⟩ |⟨n,y,_,h2,h3,_⟩
 ·rw[h2,h3];rfl
 ·rw[h2,h3,Nat.zero_add];rfl
end
theorem zX{α:Type}(c:α→AV):Row (λl=>l.map c) (λx=>[c x]) 1:=⟨rfl,λ_ _=>rfl,λ_=>rfl⟩
theorem FL{α:Type}{e:α→List AV}{sz:Nat}(h:∀x,(e x).length=sz):Row (λl=>l.flatMap e) e sz:=⟨rfl,λ_ _=>rfl,h⟩
section
variable {α:Type} {F:List α→List AV} {e:α→List AV} {sz:Nat} (hF:Row F e sz)
include hF
theorem Row.app:∀a b:List α,F (a++b)=F a++F b
 | [],b=>by simp[hF.nil]
 | x::a,b=>by rw[List.cons_append,hF.cons,hF.cons,Row.app a b,aZ]
theorem Row.length:∀l:List α,(F l).length=l.length*sz
 | []=>by simp[hF.nil]
 | x::l=>by rw[hF.cons,aG,hF.len,Row.length l,bA,Nat.succ_mul,Nat.add_comm]
theorem Row.drop:∀(l:List α) (n:Nat),(F l).drop (n*sz)=F (l.drop n)
 | l,0=>by simp
 | [],n+1=>by simp[hF.nil]
 | x::l,n+1=>by
  rw[hF.cons,Nat.succ_mul,Nat.add_comm,List.drop_succ_cons,←Row.drop l n,←List.drop_drop,List.drop_left' (hF.len x)]
theorem Row.take:∀(l:List α) (n:Nat),(F l).take (n*sz)=F (l.take n)
 | l,0=>by simp[hF.nil]
 | [],n+1=>by simp[hF.nil]
 | x::l,n+1=>by
  rw[hF.cons,Nat.succ_mul,Nat.add_comm,List.take_succ_cons,hF.cons,←Row.take l n,List.take_append,hF.len,List.take_of_length_le (by rw[hF.len];omega)]
  congr 2
  omega
theorem Row.get{l:List α}{i:Nat}{x:α}(h:l[i]?=some x):(F l).drop (i*sz)=e x++F (l.drop (i+1)):=by
 rw[hF.drop]
 obtain⟨h1,h2⟩:=aF.1 h
 rw[List.drop_eq_getElem_cons h1,h2,hF.cons]
theorem qR{l:List α}{i:Int}{x:α}(h:iO l i=some x):0≤i∧i<(l.length:Int)∧l[i.toNat]?=some x:=by
 unfold iO at h
 split at h
 case isFalse=>cases h
 rename_i h0
 have:=(aF.1 h).1
 exact⟨h0,by omega,h⟩
theorem tT{l r:List α}{a b:Int}(h:D_ l a b=some r):0≤a∧a≤b∧b≤(l.length:Int)∧r=(l.drop a.toNat).take (b.toNat-a.toNat)∧r.length=b.toNat-a.toNat:=by
 unfold D_ at h
 split at h
 case isFalse=>cases h
 rename_i h0
 obtain rfl:=ak h
 refine⟨h0.1,h0.2.1,h0.2.2,rfl, ?_⟩
 simp only[aQ,aJ]
 omega
theorem QC{l:List α}{i:Int}{x:α}{k:IntKind}{ex:Bool}(h:iO l i=some x):wP (.fG sz (.c (.list sz l.length (F l) ex)) (.c (.int k i)))=some (.elem (e x++F (l.drop (i.toNat+1)))):=by
 obtain⟨h1,h2,h3⟩:=qR hF h
 simp only[wP,AX.ev]
 rw[if_pos ⟨h1,h2,trivial⟩,hF.get h3]
theorem I4{l:List α}{i:Int}{x:α}{k:IntKind}{b:Nat}{w:Bool}(h:iO l i=some x):wP (.fG sz (.c (.acc b 0 sz l.length w)) (.c (.int k i)))=some (.ptr (some (b,0+i.toNat*sz))):=by
 obtain⟨h1,h2,h3⟩:=qR hF h
 simp only[wP,AX.ev]
 rw[if_pos ⟨h1,h2,trivial⟩]
theorem Ea{k:IntKind}{n:Nat}{i:Int}(h1:0≤i)(h2:i≤(n:Int)):gZ (.int k i) n=some i.toNat:=by
 simp only[gZ]
 rw[if_pos ⟨h1,h2⟩]
end
theorem zY{α:Type}(l r:List α):l.length+r.length=(l++r).length:=by simp
theorem QD{k:IntKind}{x y q:Int}(h:NU k x y=some q):qL .rem k x y=some (.int k q):=by
 unfold NU at h
 simp only[qL]
 split at h
 ·cases h
 ·rename_i e
  rw[if_neg e]
  obtain rfl:=ak h
  rfl
theorem Lj{s r:List UInt8}{b:Int}{k':IntKind}(h:D_ s 0 b=some r):wP (.gN (.c (.str s)) none (some (.c (.int k' b))))=some (.str r):=by
 obtain⟨h1,h2,h3,h4,h5⟩:=tT (zX PV) h
 simp only[wP,aP,AX.ev,oG,bC]
 rw[Ea (zX PV) h2 h3,aB,aB]
 simp only[Int.toNat_zero,Nat.sub_zero,List.drop_zero]at h4 ⊢
 rw[←h4]
theorem PY{α:Type}{F:List α→List AV}{c:α→AV}(hF:Row F (λx=>[c x]) 1){l:List α}{i:Int}{k:IntKind}{x:α}{n:Nat}(h:iO l i=some x)(hn:n=l.length:=by rfl):wP (.index false n 1 (.c (.agg (F l))) (.c (.int k i)))=some (c x):=by
 subst hn
 obtain⟨h1,h2,h3⟩:=qR hF h
 have:=hF.get h3
 simp only[wP,aP,AX.ev]
 rw[if_pos ⟨h1,h2⟩]
 have e:((F l).drop (i.toNat*1))[0]?=some (c x):=by rw[this];rfl
 rw[List.getElem?_drop]at e
 simp only[oJ]
 simpa using e
def zN{α β:Type}:α⊕β→Bool
 |.inl _=>true
 |.inr _=>false
def Ll{α β:Type} [Inhabited α]:α⊕β→α
 |.inl x=>x
 |.inr _=>default
def QE{α β:Type} [Inhabited β]:α⊕β→β
 |.inl _=>default
 |.inr x=>x
theorem RP{α β:Type} [Inhabited α]{e:α⊕β}(h:zN e=true):e=.inl (Ll e):=by cases e<;>simp_all [zN,Ll]
theorem RQ{α β:Type} [Inhabited β]{e:α⊕β}(h:zN e=false):e=.inr (QE e):=by cases e<;>simp_all [zN,QE]
instance QF{α β:Type} [Inhabited α]:Inhabited (α⊕β):=⟨.inl default⟩
theorem Da:∀(n:Nat) {a b l:List AV},tu n a=some l→tu n (a++b)=some l
 | 0,_,_,_,h=>by simpa[tu]using h
 | n+1,[],_,_,h=>by simp[tu]at h
 | n+1,c::a,b,l,h=>by
  simp only[tu,List.cons_append]at h ⊢
  split at h
  ·rename_i l' hl
   rw[Da n hl]
   exact h
  ·cases h
theorem I5:∀ {a b:List AV} (o:Nat) {v:AV},Iy a o=some v→Iy (a++b) o=some v
 | [],_,_,_,h=>by simp[Iy]at h
 | c::a,b,0,v,h=>by simpa[Iy]using h
 | c::a,b,o+1,v,h=>by
  simp only[Iy,List.cons_append]at h ⊢
  exact I5 o h
theorem FM:∀(c:List AV) (n o:Nat),Iy c (n+o)=Iy (c.drop n) o
 | c,0,o=>by simp
 | [],n+1,o=>by
  simp only[List.drop_nil]
  cases (n+1+o)<;>cases o<;>simp[Iy]
 | x::c,n+1,o=>by
  rw[Nat.add_right_comm,List.drop_succ_cons,←FM c n o]
  rfl
theorem JJ{a b:List AV}{agg:Bool}{o n:Nat}{v:AV}(h:o8 agg o n a=some v):o8 agg o n (a++b)=some v:=by
 cases agg with
 | false=>exact I5 o h
 | true =>
  simp only[o8]at h ⊢
  rw[List.drop_append]
  split at h
  ·rename_i l hl
   rw[Da n hl]
   exact h
  ·cases h
theorem G6{c:List AV}{agg:Bool}{m o n:Nat}:o8 agg (m+o) n c=o8 agg o n (c.drop m):=by
 cases agg with
 | false=>exact FM c m o
 | true=>simp only[o8,List.drop_drop]
section
variable {α:Type} {F:List α→List AV} {e:α→List AV} {sz:Nat} (hF:Row F e sz)
include hF
theorem QG{l:List α}{i:Int}{x:α}{agg:Bool}{o n:Nat}{v:AV}(h:iO l i=some x)(hv:o8 agg o n (e x)=some v):o8 agg (0+i.toNat*sz+o) n (F l)=some v:=by
 obtain⟨h1,h2,h3⟩:=qR hF h
 rw[Nat.zero_add,G6,hF.get h3]
 exact JJ hv
theorem NV{a b b' c cs:List AV}{o:Nat}(h:Fg b o cs=some b'):Fg (a++(b++c)) (a.length+o) cs=some (a++(b'++c)):=by
 unfold Fg at h ⊢
 split at h
 case isFalse=>cases h
 rename_i hl
 obtain rfl:=ak h
 rw[if_pos (by simp only[aG];omega)]
 congr 1
 have e1:(a++(b++c)).take (a.length+o)=a++b.take o:=by
  rw[List.take_length_add_append,List.take_append_of_le_length (by omega)]
 have e2:(a++(b++c)).drop (a.length+o+cs.length)=b.drop (o+cs.length)++c:=by
  rw[Nat.add_assoc,List.drop_length_add_append,List.drop_append_of_le_length (by omega)]
 rw[e1,e2]
 simp
theorem Eb{l:List α}{i:Int}{x x':α}{o:Nat}{cs:List AV}(h:iO l i=some x)(hx:Fg (e x) o cs=some (e x')):Fg (F l) (0+i.toNat*sz+o) cs=some (F (l.set i.toNat x')):=by
 obtain⟨h1,h2,h3⟩:=qR hF h
 obtain⟨g1,g2⟩:=aF.1 h3
 have e0:F l=F (l.take i.toNat)++(e x++F (l.drop (i.toNat+1))):=by
  rw[←hF.get h3,←hF.take,List.take_append_drop]
 have e1:F (l.set i.toNat x')=F (l.take i.toNat)++(e x'++F (l.drop (i.toNat+1))):=by
  rw[←hF.cons,←hF.app,List.set_eq_take_append_cons_drop,if_pos g1]
 have e2:(F (l.take i.toNat)).length=i.toNat*sz:=by
  rw[hF.length,aQ]
  congr 1
  omega
 rw[e0,e1,Nat.zero_add,←e2]
 exact NV hF hx
theorem j6{l r:List α}{a b:Int}(h:D_ l a b=some r):((F l).drop (0+a.toNat*sz)).take (r.length*sz)=F r:=by
 obtain⟨h1,h2,h3,h4,h5⟩:=tT hF h
 rw[Nat.zero_add,hF.drop,hF.take,h5,←h4]
theorem eF{l r:List α}{b:Int}(h:D_ l 0 b=some r):((F l).drop 0).take (r.length*sz)=F r:=by
 obtain⟨h1,h2,h3,h4,h5⟩:=tT hF h
 simp only[Int.toNat_zero,List.drop_zero]at h4 h5 ⊢
 rw[hF.take,h5,←h4]
theorem gI{l r:List α}{b:Int}(h:D_ l 0 b=some r):(F l).take (r.length*sz)=F r:=by
 have:=eF hF h
 rwa [List.drop_zero]at this
theorem Bb{l r:List α}{a:Int}{k:IntKind}{m:Nat}{w:Bool}(h:D_ l a l.length=some r):wP (.slice sz (.c (.acc m 0 sz l.length w)) (some (.c (.int k a))) none none)=some (.acc m (0+a.toNat*sz) sz r.length false):=by
 obtain⟨h1,h2,h3,h4,h5⟩:=tT hF h
 simp only[wP,AX.ev,ql,if_true,bC,aB]
 rw[Ea hF h1 h2,aB]
 simp only[bF]at h5
 rw[h5]
theorem Bc{l r:List α}{b:Int}{k:IntKind}{m:Nat}{w:Bool}(h:D_ l 0 b=some r):wP (.slice sz (.c (.acc m 0 sz l.length w)) none (some (.c (.int k b))) none)=some (.acc m 0 sz r.length false):=by
 obtain⟨h1,h2,h3,h4,h5⟩:=tT hF h
 simp only[wP,AX.ev,ql,if_true,bC]
 rw[Ea hF h2 h3,aB,aB]
 simp only[Int.toNat_zero,Nat.sub_zero]at h5
 rw[h5,Nat.zero_mul,Nat.sub_zero]
end
abbrev kM(f:Fast→Heap→zB)(np:Nat)(i:Fast×WH)(o:Ex×Fast×WH):Prop:=GI f np i.1 i.2 o.1 o.2.1 o.2.2
abbrev I6(keep:List Nat)(p:List AV×WH):Fast×WH:=(gV keep p.1,p.2)
theorem QH{k k':IntKind}{x y q:Int}(h:QA k x y=some q):zx .shl (.int k x) (.int k' y)=some (.int k q):=by
 unfold QA at h
 simp only[zx]
 split at h
 ·cases h
 ·rename_i e
  rw[if_neg e]
  obtain rfl:=ak h
  rfl
def jO{α:Type}(l:List α)(i:Int)(x:α):List α:=l.take i.toNat++(x::l.drop i.toNat)
def BX(bytes:Nat)(i:Int)(n:Nat):Bool:=decide (0≤i∧i≤(n:Int))&&d9 bytes (n+1)
theorem Ec{bytes n:Nat}{i:Int}(h:BX bytes i n=true):0≤i∧i≤(n:Int):=by
 simp only[BX,Bool.and_eq_true,decide_eq_true_eq]at h
 exact h.1
theorem Ed{bytes:Nat}{i:Int}{α:Type}{l:List α}{x:α}(h:BX bytes i l.length=true):l.length+1=(jO l i x).length:=by
 have:=Ec h
 simp only[jO,aG,aQ,bA,aJ]
 omega
theorem G7{bytes:Nat}{i:Int}{α:Type}{l:List α}{x:α}(h:BX bytes i l.length=true):d9 bytes (jO l i x).length=true:=by
 rw[←Ed h]
 simp only[BX,Bool.and_eq_true]at h
 exact h.2
theorem Ee{α:Type}{F:List α→List AV}{e:α→List AV}{sz:Nat}(hF:Row F e sz){l:List α}{i:Int}{x:α}{cs:List AV}(h:cs=e x):(F l).take (i.toNat*sz)++(cs++(F l).drop (i.toNat*sz))=F (jO l i x):=by
 subst h
 unfold jO
 rw[hF.app,hF.cons,hF.take,hF.drop]
def pE{α:Type}(l:List α)(i j:Int):List α:=l.take i.toNat++l.drop j.toNat
def G8(i j:Int)(n:Nat):Bool:=decide (0≤i∧i<j∧j≤(n:Int))
theorem Ef{n:Nat}{i j:Int}(h:G8 i j n=true):0≤i∧i<j∧j≤(n:Int):=of_decide_eq_true h
theorem G9{i j:Int}{α:Type}{l:List α}(h:G8 i j l.length=true):l.length-(j.toNat-i.toNat)=(pE l i j).length:=by
 have:=Ef h
 simp only[pE,aG,aQ,aJ]
 omega
theorem Eh{α:Type}{F:List α→List AV}{e:α→List AV}{sz:Nat}(hF:Row F e sz){l:List α}{i j:Int}:(F l).take (i.toNat*sz)++(F l).drop (j.toNat*sz)=F (pE l i j):=by
 unfold pE
 rw[hF.app,hF.take,hF.drop]
section
variable {α:Type} {F:List α→List AV} {e:α→List AV} {sz:Nat} (hF:Row F e sz)
include hF
end
theorem nB{C:aY}(f:FuncId)(b:Bt)(h:(λ_=>none:FuncId→Option Bt) f=some b):Gm C f b:=by cases h
theorem il{α β:Type} [Inhabited α]{e:α⊕β}(h:zN e=true):e=.inl (Ll e):=RP h
theorem QI{α β:Type} [Inhabited β]{e:α⊕β}(h:zN e=false):e=.inr (QE e):=RQ h
theorem I7{β:Type}{fin:β→Ex×Fast×WH}{r r':β}(e:r=r'){f:Fast→Heap→zB}{np:Nat}{i:Fast×WH}(h:kM f np i (fin r)):kM f np i (fin r'):=e ▸ h
def codeOf:Option cu→dB
 | some f=>f.code
 | none=>.fail
def cA:dB→dB
 |.seq a _=>a
 | c=>c
def cB:dB→dB
 |.seq _ b=>b
 | c=>c
def cT:dB→dB
 |.cond _ a _=>a
 | c=>c
def cF:dB→dB
 |.cond _ _ b=>b
 | c=>c
def cK:dB→dB
 |.block _ c=>c
 | c=>c
def cL:dB→dB
 |.loop _ c=>c
 | c=>c
def En(keep:List Nat):Lf:=.en keep (keep.map λ_=>none) [] []
def E0{Q:Type}{v:Q}(keep:List Nat):Tc (some v):=.leaf (En keep) v
def E1{Q:Type}{v:Q}(keep:List Nat)(ms bs:List (Option Bool))(ts:List AV):Tc (some v):=.leaf (.en keep ms bs ts) v
def Fn{Q:Type}{v:Q}(m:Option Bool)(ts:List AV)(mc:Option Bool):Tc (some v):=.leaf (.fin m ts mc) v
def Fo:Option Bool:=some false
def Tw:Option Bool:=some true
def uO{G:DJ}{T:FuncId→Option cu}{f:FuncId}{x:cu}(hG:G f=none)(hT:T f=some x)(hc:x.code.bP=true):G f=none∧T f=some x∧x.code.bP=true:=⟨hG,hT,hc⟩
section
variable {Q:Type} {f:Option Q}
section
variable {α:Type} {F:List α→List AV} {e:α→List AV} {sz:Nat} (hF:Row F e sz) {l r:List α} {i j:Int} {x:α}
def Ix(d:Nat)(h:iO l i=some x)(k:Tc f):Tc f:=.v d (.elem (e x++F (l.drop (i.toNat+1)))) (.ob (QC (k:=.i64) (ex:=false) hF h) k)
def Ia(d b:Nat)(h:iO l i=some x)(k:Tc f):Tc f:=.v d (.ptr (some (b,0+i.toNat*sz))) (.ob (I4 (k:=.i64) (b:=b) (w:=true) hF h) k)
def Ld(d:Nat)(agg:Bool)(n o:Nat)(h:iO l i=some x)(u:AV)(hv:o8 agg o n (e x)=some u)(k:Tc f):Tc f:=.v d u (.ob (QG hF h hv) k)
def Ap(d:Nat){b:Nat}(h:d9 b (l++r).length=true)(k:Tc f):Tc f:=.ap d (l++r).length (F (l++r)) (.ob (zY l r) (.ob (Row.app hF l r).symm (.ob h k)))
end
def U9{α:Type}{F:List α→List AV}{e:α→List AV}{sz:Nat}(_:Row F e sz)(d:Nat){r:List α}{b:Nat}(h:d9 b r.length=true)(k:Tc f):Tc f:=.ap d r.length (F r) (.ob (Nat.zero_add r.length) (.ob (@rfl _ (F r)) (.ob h k)))
def Cl(ms:List (Option Bool))(m:Option Bool)(ts:List AV){C:aY}{g:FuncId}{args:List AV}{blks:WH}{v:AV}{out:WH}(h:Spec C g args blks v out)(r:Tc f):Tc f:=.call ms m ts v out (.ob h r)
def I8{C:aY}{g:FuncId}{args:List AV}{blks:WH}{v:AV}{out:WH}(h:Spec C g args blks v out)(r:Tc f):Tc f:=.call [] none [] v out (.ob h r)
def Cb(ts:List AV){C:aY}{g:FuncId}{args:List AV}{blks:WH}{v:AV}{out:WH}(h:Spec C g args blks v out)(r:Tc f):Tc f:=.cb [] ts v (.ob h r)
def tV{C:aY}{g:FuncId}{args:List AV}{blks:WH}{v:AV}{out:WH}(h:Spec C g args blks v out)(r:Tc f):Tc f:=.cb [] [] v (.ob h r)
def Lp(ms bs:List (Option Bool))(ts:List AV){run:Fast→Heap→zB}{np:Nat}{i:Fast×WH}{o:Ex×Fast×WH}(h:kM run np i o)(r:Tc f):Tc f:=.lp ms bs ts o.1 o.2.1 o.2.2 (.ob h r)
def Jn(keep:List Nat)(ms bs:List (Option Bool))(ts:List AV){run:Fast→Heap→zB}{np:Nat}{i:Fast×WH}{o:Ex×Fast×WH}(h:kM run np i o)(r:Tc f):Tc f:=.jn keep ms bs ts o.1 o.2.1 o.2.2 (.ob h r)
end
structure Rt(s:Sh){α:Type}(e:α→List AV)(bk:α→Nat)(ok:α→Prop):Prop where
 rd:∀d,D.is s d→∃x,encS s d=e x∧bk x≤D.bulk d∧ok x
 sz:∀x,(e x).length=mF s
abbrev M9(x:Int):Prop:=-9223372036854775808≤x∧x≤9223372036854775807
abbrev eI(x:Int):List AV:=[.int .i64 x]
abbrev eS(x:List UInt8):List AV:=[.str x]
abbrev bk1{α:Type}(_:α):Nat:=1
abbrev Um(x:List UInt8):Nat:=x.length+1
abbrev Un{α:Type}(_:α):Prop:=True
def Rj{α:Type}(bk:α→Nat)(l:List α):Nat:=(l.map bk).sum+1
def Ti{α:Type}(ok:α→Prop)(l:List α):Prop:=∀x∈l,ok x
theorem Ei:Rt (.int .i64) eI bk1 M9:=⟨λd h=>by
 obtain⟨n,rfl,h1,h2⟩:=h
 exact⟨n,rfl,by simp[D.bulk],h1,h2⟩,λ_=>rfl⟩
theorem Tj:Rt .str eS Um Un:=⟨λd h=>by
 obtain⟨s,rfl⟩:=h
 exact⟨s,rfl,by simp[D.bulk],trivial⟩,λ_=>rfl⟩
theorem RS {s:Sh} {α:Type} {e:α→List AV} {bk:α→Nat} {ok:α→Prop} {F:List α→List AV} {n:Nat} (r:Rt s e bk ok) (hF:Row F e n) (hn:mF s=n) :
  Rt (.list s) (λl=>[.list n l.length (F l) false]) (Rj bk) (Ti ok):=⟨λd h=>by
 obtain⟨l,rfl,h⟩:=h
 have key:∀l:List D,(∀d∈l,D.is s d)→∃x:List α,x.length=l.length∧D8 s l=x.flatMap e∧(x.map bk).sum≤D.nR l∧∀y∈x,ok y:=by
  intro l
  induction l with
  | nil=>intro _;exact⟨[],rfl,rfl,by simp[D.nR],by simp⟩
  | cons d r' ih =>
   intro h
   obtain⟨y,h1,h2,h3⟩:=r.rd d (h d (by simp))
   obtain⟨x,q0,q1,q2,q3⟩:=ih λz hz=>h z (by simp[hz])
   refine⟨y::x,by simp[q0],by simp only[D8,h1,q1,List.flatMap_cons],by simp only[List.map_cons,List.sum_cons,D.nR];omega, ?_⟩
   intro z hz
   rcases List.mem_cons.1 hz with rfl | hz
   ·exact h3
   ·exact q3 z hz
 obtain⟨x,q0,q1,q2,q3⟩:=key l h
 refine⟨x, ?_,by simp only[Rj,D.bulk];omega,q3⟩
 have hr:F x=x.flatMap e:=by
  clear q0 q1 q2 q3
  induction x with
  | nil=>rw[hF.nil];rfl
  | cons y x ih=>rw[hF.cons,ih,List.flatMap_cons]
 simp only[encS,q0,q1,hn,hr],λ_=>rfl⟩
theorem RU {ss:List Sh} {α:Type} {e:α→List AV} {bk:α→Nat} {ok:α→Prop} (sz:∀x,(e x).length=oh ss)
  (h:∀l,D.are ss l→∃x,vB ss l=e x∧bk x≤D.nR l+1∧ok x):Rt (.agg ss) e bk ok:=⟨λd h0=>by
 obtain⟨l,rfl,hl⟩:=h0
 obtain⟨x,h1,h2,h3⟩:=h l hl
 exact⟨x,h1,h2,h3⟩,sz⟩
theorem iD {s:Sh} {ss:List Sh} {α:Type} {e:α→List AV} {bk:α→Nat} {ok:α→Prop} (r:Rt s e bk ok) {ds:List D} (h:D.are (s::ss) ds) :
  ∃d q,ds=d::q∧D.are ss q∧∃x,encS s d=e x∧bk x≤D.bulk d∧ok x:=by
 obtain⟨d,q,h1,h2,h3⟩:=KM h
 exact⟨d,q,h1,h3,r.rd d h2⟩
theorem I9{α:Type}{bk:α→Nat}(h:∀x,1≤bk x)(l:List α):l.length+1≤Rj bk l:=by
 have:l.length≤(l.map bk).sum:=by
  induction l with
  | nil=>simp
  | cons y l ih =>
   have:=h y
   simp only[List.map_cons,List.sum_cons,bA]
   omega
 unfold Rj
 omega
end Go.Proofs.Ytkedeiklmpkgkaa
