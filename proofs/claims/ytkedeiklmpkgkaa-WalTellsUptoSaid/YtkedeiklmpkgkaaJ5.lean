import Derived.Test.YtkedeiklmpkgkaaJ3
set_option linter.all false
namespace Go.Proofs.Ytkedeiklmpkgkaa
def NR(R:Nat→Prop)(ι:VI)(H:WH)(M:Heap)(v:AV)(H':WH)(a:AV):Prop:=∃aV,VS R aV H' M∧Stp H.length [] ι H M aV H' M∧VL M (OR R aV) aV v a
def NRL(R:Nat→Prop)(ι:VI)(H:WH)(M:Heap)(v:List AV)(H':WH)(a:List AV):Prop:=∃aV,VS R aV H' M∧Stp H.length [] ι H M aV H' M∧aZ M (OR R aV) aV v a
theorem NR.quiet{R:Nat→Prop}{ι:VI}{H:WH}{M:Heap}(s:VS R ι H M){v a:AV}(h:VL M (OR R ι) ι v a):NR R ι H M v H a:=⟨ι,s,.refl _ _ _ _ _ (Nat.le_refl _),h⟩
theorem Fe {R:Nat→Prop} {ι:VI} {H:WH} {M:Heap} (s:VS R ι H M) {cs cs':List AV} (h:aZ M (OR R ι) VI.none cs cs') {sz n:Nat} (hl:cs.length=n*sz) (ex sl:Bool) :
  ∃aV,VS R aV (H++[some (.cells cs false true)]) (M.push (.cells cs' false sl))∧Stp H.length [] ι H M aV (H++[some (.cells cs false true)]) (M.push (.cells cs' false sl)) ∧
   VL (M.push (.cells cs' false sl)) (OR R aV) aV (.acc H.length 0 sz n true) (.slice (some (M.next,0)) sz n n ex):=by
 have hl':=h.length
 obtain⟨h1,h2⟩:=s.push (x:=.cells cs false true) (y:=.cells cs' false sl) (d:=(cs.length,cs'.length)) ⟨cs',[],false,sl,cs'.length,by simp,λ_=>rfl,rfl,by simp,by simpa using h,λh=>by cases h⟩
 refine⟨_,h1,h2, ?_⟩
 simp only[VL]
 refine⟨_,_,_,_,rfl,Nat.le_refl _,(λh=>by cases h),λ_=>rfl,cs.length,cs'.length,by simp[VI.add,setAt],by omega,λ_=>⟨trivial,hl.symm⟩,.inl ⟨M.next,by simp[VI.add,setAt],.inl ⟨rfl,by omega⟩⟩⟩
theorem zG {R:Nat→Prop} {ι:VI} {H:WH} {M:Heap} (s:VS R ι H M) (sz s':Nat) (p:Option (Nat×Nat)) (hp:p≠none→s'=sz) :
  ∃aV,VS R aV (H++[some (.cells [] false true)]) M∧Stp H.length [] ι H M aV (H++[some (.cells [] false true)]) M∧VL M (OR R aV) aV (.acc H.length 0 sz 0 true) (.slice p s' 0 0 true):=by
 obtain⟨h1,h2⟩:=s.Ve
 refine⟨_,h1,h2, ?_⟩
 simp only[VL]
 exact⟨_,_,_,_,rfl,Nat.le_refl _,by simp,hp,0,0,by simp[VI.dM,setAt],by omega,by simp,.inr ⟨by simp[VI.dM,setAt],by simp⟩⟩
theorem Fg {R:Nat→Prop} {ι:VI} {H:WH} {M:Heap} (s:VS R ι H M) {b j:Nat} (hb:ι b=some j) {c0:List AV} {sl0:Bool} (hg:bD H b=some (.cells c0 false sl0)) {cs cs' t:List AV} {ro sl:Bool} {L:Nat}
  (hj:M.get j=some (.cells (cs'++t) ro sl)) (hro:ro=false) (h:aZ M (OR R ι) VI.none cs cs') (hL:L≤(cs'++t).length) {sz n cap:Nat} (hl:cs.length=n*sz) {p:Option (Nat×Nat)} {s':Nat} {ex:Bool} (hn:n≤cap) (hnp:p=none→cap=0∧ex=true) (hs:p≠none→s'=sz)
  (hp:(p=some (j,0)∧cap*sz≤L)∨(n=0∧cap=0∧ex=true)) :
  ∃aV,VS R aV (dP H b none++[some (.cells cs false true)]) M∧Stp H.length [b] ι H M aV (dP H b none++[some (.cells cs false true)]) M∧VL M (OR R aV) aV (.acc H.length 0 sz n true) (.slice p s' n cap ex):=by
 obtain⟨h1,h2,h3⟩:=s.swap hb hg (x:=.cells cs false true) (y:=.cells (cs'++t) ro sl) (d:=(cs.length,L)) ⟨cs',t,ro,sl,L,rfl,λ_=>hro,rfl,hL,by simpa using h⟩
 rw[Heap.FV hj]at h1 h2
 refine⟨_,h1,h2, ?_⟩
 simp only[VL]
 exact⟨_,_,_,_,rfl,hn,hnp,hs,cs.length,L,by simp[VI.add,setAt],by omega,λ_=>⟨trivial,hl.symm⟩,.inl ⟨j,h3,hp.imp (λh=>⟨h.1,by omega⟩) (λh=>h)⟩⟩
theorem Stp.still{n:Nat}{t t':List Nat}{ι iC:VI}{H H1:WH}{M:Heap}(h:Stp n t ι H M iC H1 M):Stp n t' ι H M iC H1 M :=
 ⟨h.keep,h.le,h.gone,h.XI,h.Nk,h.Ja,h.live,λ_ _ _ _ _ _=>rfl,h.next⟩
theorem Vf {R:Nat→Prop} {ι:VI} {H:WH} {M:Heap} (s:VS R ι H M) {b sz n:Nat} {w:Bool} {a:AV} (h:VL M (OR R ι) ι (.acc b 0 sz n w) a) {c:List AV} (hg:bD H b=some (.cells c false true)) :
  NR R ι H M (.acc H.length 0 sz n true) (dP H b none++[some (.cells (c.take (n*sz)) false true)]) a:=by
 obtain⟨k1,k2,p,s',cap,ex,rfl,k3,k4,k5⟩:=VL.uN s h hg
 simp only[Nat.zero_add]at k1
 have hnp:p=none→cap=0∧ex=true:=by
  simp only[VL]at h
  obtain⟨_,_,_,_,e,_,q,_⟩:=h
  simp only[AV.slice.injEq]at e
  obtain⟨rfl,rfl,_,rfl,rfl⟩:=e
  exact q
 have hlt:(c.take (n*sz)).length=n*sz:=by simp only[aJ];omega
 have part:∀ {c' t:List AV},(c'.take (n*sz))++(c'.drop (n*sz)++t)=c'++t:=λ{c' t}=>by rw[←bG,List.take_append_drop]
 rcases k5 with⟨j,c',t,ro',sl',L,g1,g2,g3,g4,g5,g6,rfl,g7⟩ |⟨rfl,rfl,rfl,⟨j,c',t,ro',sl',L,g1,g2,g3,g4,g5,g6⟩ |⟨g1,rfl,_⟩⟩
 ·simp only[if_true]at g6
  obtain⟨aV,q1,q2,q3⟩:=Fg s g1 hg (cs:=c.take (n*sz)) (cs':=c'.take (n*sz)) (t:=c'.drop (n*sz)++t) (by rw[part];exact g2) (g3 rfl).1 (g6.take _) (by rw[part];exact g5) hlt k3 hnp k4 (.inl ⟨rfl,by omega⟩)
  exact⟨aV,q1,q2.still,q3⟩
 ·simp only[if_true]at g6
  obtain⟨aV,q1,q2,q3⟩:=Fg s g1 hg (cs:=c.take (0*sz)) (cs':=c'.take (0*sz)) (t:=c'.drop (0*sz)++t) (by rw[part];exact g2) (g3 rfl).1 (g6.take _) (by rw[part];exact g5) hlt k3 hnp k4 (.inr ⟨rfl,rfl,rfl⟩)
  exact⟨aV,q1,q2.still,q3⟩
 ·obtain⟨h1,h2⟩:=s.Pj g1
  obtain⟨aV,q1,q2,q3⟩:=zG h1 sz s' p k4
  rw[bN]at q2 q3
  refine⟨aV,by simpa using q1, ?_,q3⟩
  have:=h2.trans q2 (Nat.le_refl _)
  simpa using this.still
mutual
theorem Pp{R:Nat→Prop}(v:AV)(H:WH)(ι:VI)(M:Heap)(a:AV)(s:VS R ι H M)(h:VL M (OR R ι) ι v a):NR R ι H M (Qb v H).1 (Qb v H).2 a:=by
 rw[Qb.eq_def]
 split
 ·simp only[VL]at h
  obtain⟨_,s',rfl⟩:=h
  exact zG s _ s' none (λh=>absurd rfl h)
 ·split
  ·rename_i w _ c hg
   have ht:=Vf s h hg
   cases w with
   | false=>exact ht
   | true =>
    have hc:=(VL.uN s h hg).2.1 rfl
    simp only[XF]
    rw[List.take_of_length_le (by omega)]at ht
    exact ht
  ·exact NR.quiet s h
 ·rename_i cs
  simp only[VL]at h
  obtain⟨cs',rfl,h⟩:=h
  obtain⟨aV,h1,h2,h3⟩:=FZ cs H ι M cs' s h
  split
  rename_i l H' e
  rw[e]at h1 h2 h3
  exact⟨aV,h1,h2,by simp only[VL];exact⟨cs',rfl,h3⟩⟩
 ·rename_i cs
  simp only[VL]at h
  obtain⟨cs',rfl,h⟩:=h
  obtain⟨aV,h1,h2,h3⟩:=FZ cs H ι M cs' s h
  split
  rename_i l H' e
  rw[e]at h1 h2 h3
  exact⟨aV,h1,h2,by simp only[VL];exact⟨cs',rfl,h3⟩⟩
 ·exact NR.quiet s h
termination_by SizeOf.sizeOf v
theorem FZ{R:Nat→Prop}(v:List AV)(H:WH)(ι:VI)(M:Heap)(a:List AV)(s:VS R ι H M)(h:aZ M (OR R ι) ι v a):NRL R ι H M (I9 v H).1 (I9 v H).2 a:=by
 rw[I9.eq_def]
 split
 ·exact⟨ι,s,.refl _ _ _ _ _ (Nat.le_refl _),h⟩
 ·rename_i v r
  cases a with
  | nil=>simp[aZ]at h
  | cons a l =>
   simp only[aZ]at h
   obtain⟨iC,h1,h2,h3⟩:=Pp v H ι M a s h.1
   obtain⟨oV,k1,k2,k3⟩:=FZ r (Qb v H).2 iC M l h1 (aZ.step s h2 h.2)
   split
   rename_i x1 x2 e
   rw[e]at h1 h2 h3 k1 k2 k3
   split
   rename_i y1 y2 e'
   rw[e']at k1 k2 k3
   refine⟨oV,k1, ?_,by simp only[aZ];exact⟨VL.step h1 k2 h3,k3⟩⟩
   have:=h2.trans k2 h2.next
   simpa using this
termination_by SizeOf.sizeOf v
end
theorem Nt{R:Nat→Prop}(m:Option Bool){v:AV}{H:WH}{ι:VI}{M:Heap}{a:AV}(s:VS R ι H M)(h:VL M (OR R ι) ι v a):NR R ι H M (Yo m v H).1 (Yo m v H).2 a:=by
 match m with
 | none=>exact NR.quiet s h
 | some true=>exact Pp v H ι M a s h
 | some false =>
  simp only[Yo]
  split
  case h_2=>exact NR.quiet s h
  rename_i p hp
  obtain⟨h1,h2⟩:=s.Nr p.2 (jZ 5 false v p hp)
  refine⟨_,h1,h2, ?_⟩
  have:=Kj s (O':=OR R (ι.kZ p.2)) (λj h=>h.imp BM id) (l7:=ι.kZ p.2) (FX _ _ _) 5 false v p a hp h (λb hb j hj=>?_)
  ·exact this
  ·have lv:=jZ 5 false v p hp b hb
   rintro(⟨i,q1,q2⟩ | hR)
   ·simp only[VI.kZ,Bool.or_eq_false_iff]at q1 q2
    have:=s.inj i b j (.inr q2.1) (.inl lv) q1 hj (.inl q2.1)
    subst this
    rw[nL.2 hb]at q2
    cases q2.2
   ·exact(s.res j hR).2 b (.inl lv) hj
theorem BP{R:Nat→Prop}:∀(ms:List (Option Bool)) (v:List AV) (H:WH) (ι:VI) (M:Heap) (a:List AV),VS R ι H M→aZ M (OR R ι) ι v a→NRL R ι H M (zT ms v H).1 (zT ms v H).2 a
 | ms,[],H,ι,M,a,s,h=>by
  simp only[zT]
  exact⟨ι,s,.refl _ _ _ _ _ (Nat.le_refl _),h⟩
 | ms,v::r,H,ι,M,a,s,h=>by
  cases a with
  | nil=>simp[aZ]at h
  | cons a l =>
   simp only[aZ]at h
   obtain⟨iC,h1,h2,h3⟩:=Nt (ms.headD (some false)) s h.1
   obtain⟨oV,k1,k2,k3⟩:=BP ms.tail r _ iC M l h1 (aZ.step s h2 h.2)
   simp only[zT]
   refine⟨oV,k1, ?_,by simp only[aZ];exact⟨VL.step h1 k2 h3,k3⟩⟩
   have:=h2.trans k2 h2.next
   simpa using this
theorem Pq{R:Nat→Prop}(m:Option Bool):∀(v:List AV) (H:WH) (ι:VI) (M:Heap) (a:List AV),VS R ι H M→aZ M (OR R ι) ι v a→NRL R ι H M (LB m v H).1 (LB m v H).2 a
 | [],H,ι,M,a,s,h=>by
  simp only[LB]
  exact⟨ι,s,.refl _ _ _ _ _ (Nat.le_refl _),h⟩
 | v::r,H,ι,M,a,s,h=>by
  cases a with
  | nil=>simp[aZ]at h
  | cons a l =>
   simp only[aZ]at h
   obtain⟨iC,h1,h2,h3⟩:=Nt m s h.1
   obtain⟨oV,k1,k2,k3⟩:=Pq m r _ iC M l h1 (aZ.step s h2 h.2)
   simp only[LB]
   refine⟨oV,k1, ?_,by simp only[aZ];exact⟨VL.step h1 k2 h3,k3⟩⟩
   have:=h2.trans k2 h2.next
   simpa using this
theorem VS.Yu {R:Nat→Prop} {ι:VI} {H:WH} {M:Heap} (s:VS R ι H M) {b:Nat} {c c':List AV} {ro:Bool} (hg:bD H b=some (.cells c ro false)) (hc:∀j d t ro' sl',ι b=some j→M.get j=some (.cells (d++t) ro' sl')→d.length=c.length→aZ M (OR R ι) ι c' d) (hl:c'.length=c.length) :
  VS R ι (dP H b (some (.cells c' ro false))) M∧Stp H.length [] ι H M ι (dP H b (some (.cells c' ro false))) M:=by
 have hbl:=kG hg
 have gp:∀k,bD (dP H b (some (.cells c' ro false))) k=if k=b then some (.cells c' ro false)else bD H k:=λk=>by
  rw[jX]
  by_cases e:k=b
  ·rw[if_pos ⟨e,hbl⟩,if_pos e]
  ·rw[if_neg (λh=>e h.1),if_neg e]
 have lv:∀k,(∃z,bD (dP H b (some (.cells c' ro false))) k=some z)→∃z,bD H k=some z:=λk ⟨z,hz⟩=>by
  rw[gp]at hz
  by_cases e:k=b
  ·exact⟨_,e ▸ hg⟩
  ·rw[if_neg e]at hz
   exact⟨z,hz⟩
 refine⟨⟨λi j h=>by rw[bN];exact s.lt i j h,λi i' j h h' e e'=>s.inj i i' j (h.imp (lv i) id) (h'.imp (lv i') id) e e',λi z hz=>?_,λi h=>by rw[bN];exact s.nI i h,λi hi c1 sl h=>?_,s.LD,λj h=>⟨(s.res j h).1,λi hi=>(s.res j h).2 i (hi.imp (lv i) id)⟩⟩,
  ⟨.refl _ _,.refl _ _,λ_ _ h=>h,λ_ _=>rfl,λ_ _=>rfl,λ_ _ _=>rfl,λi _=>lv i,λ_ _ _ _ _ _=>rfl,by rw[bN];exact Nat.le_refl _⟩⟩
 ·rw[gp]at hz
  by_cases e:i=b
  ·subst e
   rw[if_pos rfl]at hz
   obtain rfl:=aj hz
   rcases s.blk i _ hg with⟨_,_,ro',h⟩ |⟨j,h1,⟨d,t,ro',sl',L,g1,g2,g3,g4,g5,g6⟩,h2⟩
   ·cases h
   ·exact .inr ⟨j,h1,⟨d,t,ro',sl',L,g1,g2,by rw[hl];exact g3,g4,by simpa using hc j d t ro' sl' h1 g1 g5.length.symm,g6⟩,h2⟩
  ·rw[if_neg e]at hz
   exact s.blk i z hz
 ·rw[gp]at h
  by_cases e:i=b
  ·rw[if_pos e]at h
   subst e
   cases h
   exact s.kZ i hi c _ hg
  ·rw[if_neg e]at h
   exact s.kZ i hi c1 sl h
theorem Vg{R:Nat→Prop}(m:Option Bool)(b:Nat){H:WH}{ι:VI}{M:Heap}(s:VS R ι H M):∃aV,VS R aV (U8 m b H) M∧Stp H.length [] ι H M aV (U8 m b H) M:=by
 have quiet:∃aV,VS R aV H M∧Stp H.length [] ι H M aV H M:=⟨ι,s,.refl _ _ _ _ _ (Nat.le_refl _)⟩
 unfold U8
 cases m with
 | none=>exact quiet
 | some m =>
 simp only
 split
 case h_2=>exact quiet
 rename_i c ro hg
 rcases s.blk b _ hg with⟨_,_,ro',h⟩ |⟨j,h1,⟨d,t,ro',sl',L,g1,g2,g3,g4,g5,g6⟩,h2⟩
 ·cases h
 simp only[Bool.false_eq_true,if_false]at g5
 obtain⟨iC,k1,k2,k3⟩:=Pq (some m) c H ι M d s g5
 split
 case h_2=>exact⟨iC,k1,k2⟩
 rename_i c2 ro2 hg2
 have hj1:=((k2.le b (kG hg)).1 j h1).1
 have hd:=((k2.le b (kG hg)).1 j h1).2 _ g3
 have hl1:(LB (some m) c H).1.length=c.length:=by rw[k3.length,g5.length]
 have hl2:c2.length=c.length:=by
  obtain⟨_,_,_,_,_,_,_,e,_⟩:=k1.at hj1 hg2
  rw[hd]at e
  simp only[au,aD]at e
  exact e.1.symm
 obtain⟨q1,q2⟩:=k1.Yu hg2 (c':=(LB (some m) c H).1) (λj' d' t' ro' sl' e1 e2 e3=>by
  rw[hj1]at e1
  obtain rfl:=aj e1
  rw[g1]at e2
  simp only[au,ji.cells.injEq]at e2
  have:d'=d:=by
   have:=congrArg (List.take c.length) e2.1
   rw[List.take_left' (by rw[g5.length]),List.take_left' (by rw[e3,hl2])]at this
   exact this.symm
  rw[this]
  exact k3) (by rw[hl1,hl2])
 refine⟨iC,q1, ?_⟩
 have:=k2.trans q2 k2.next
 simpa using this
theorem BQ{R:Nat→Prop}:∀(ms:List (Option Bool)) (m:Option Bool) (p:List Nat) (H:WH) (ι:VI) (M:Heap),VS R ι H M→∃aV,VS R aV (Eo ms m p H) M∧Stp H.length [] ι H M aV (Eo ms m p H) M
 | ms,m,[],H,ι,M,s=>⟨ι,s,.refl _ _ _ _ _ (Nat.le_refl _)⟩
 | ms,m,b::p,H,ι,M,s=>by
  obtain⟨iC,h1,h2⟩:=Vg (ms.headD m) b s
  obtain⟨oV,k1,k2⟩:=BQ ms.tail m p _ iC M h1
  simp only[Eo]
  refine⟨oV,k1, ?_⟩
  have:=h2.trans k2 h2.next
  simpa using this
theorem Jj{bytes k:Nat}(h:dS bytes k=true):k*bytes≤70368744177664∧k≤70368744177664:=by simpa[dS]using h
theorem aZ.kZ{R:Nat→Prop}{ι:VI}{M:Heap}{S:List Nat}{l r:List AV}(h:aZ M (OR R ι) VI.none l r):aZ M (OR R (ι.kZ S)) VI.none l r :=
 aZ.mono ⟨Nat.le_refl _,λb _ h=>⟨rfl,λk=>h (k.imp BM id)⟩⟩ _ _ _ _ (.refl _ _) h
theorem Kk {R:Nat→Prop} {ι:VI} {H:WH} {M:Heap} (s:VS R ι H M) {k:Nat} {nested:Bool} {l:List AV} {p:List AV×List Nat} {r:List AV} (h:wz (LA H k nested) l=some p) (hr:aZ M (OR R ι) ι l r) :
  aZ M (OR R (ι.kZ p.2)) (BN nested (ι.kZ p.2)) p.1 r:=by
 refine FY (P:=λb=>b∈p.2) (λv q a hq hv hb=>?_) l p r h hr (λ_ h=>h)
 refine Kj s (O':=OR R (ι.kZ p.2)) (λj h=>h.imp BM id) (l7:=ι.kZ p.2) (FX _ _ _) k nested v q a hq hv (λb hb' j hj=>?_)
 have lv:=jZ k nested v q hq b hb'
 rintro(⟨i,q1,q2⟩ | hR)
 ·simp only[VI.kZ,Bool.or_eq_false_iff]at q1 q2
  have:=s.inj i b j (.inr q2.1) (.inl lv) q1 hj (.inl q2.1)
  subst this
  rw[nL.2 (hb _ hb')]at q2
  cases q2.2
 ·exact(s.res j hR).2 b (.inl lv) hj
theorem Jk {R:Nat→Prop} {ι:VI} {H:WH} {M:Heap} (s:VS R ι H M) {x a:AV} (hx:VL M (OR R ι) ι x a) {sz n:Nat} {cs:List AV} {S:List Nat} (h:yB x sz H=some (n,cs,S)) :
  dB a sz=true∧cs.length=n*sz∧∃cs',lN a M=some (n,cs')∧aZ M (OR R (ι.kZ S)) VI.none cs cs':=by
 unfold yB at h
 split at h
 ·rename_i sz' n' cs' ex
  split at h
  case h_2=>cases h
  rename_i e
  obtain rfl:=aM e
  simp only[au,aD]at h
  obtain⟨rfl,rfl,rfl⟩:=h
  simp only[VL]at hx
  rcases hx with⟨rfl,rfl,s',rfl⟩ |⟨b,o,cap,ex',rfl,q1,q2,q3,q4⟩
  ·exact⟨rfl,by simp,[],rfl,by simp[aZ]⟩
  ·refine⟨by simp[dB],q3, ?_⟩
   by_cases hn:n'=0
   ·subst hn
    rw[Nat.zero_mul]at q3
    obtain rfl:=List.eq_nil_of_length_eq_zero q3
    exact⟨[],by simp[lN],by simp[aZ]⟩
   ·obtain⟨c,ro,sl,g1,g2,g3,g4,g5⟩:=q4 hn
    refine⟨(c.drop o).take (n'*sz'), ?_,g5.kZ⟩
    simp only[lN,if_neg hn,Heap.read,g1,if_pos g4,aG]
 ·simp only[au,aD]at h
  obtain⟨rfl,rfl,rfl⟩:=h
  simp only[VL]at hx
  obtain⟨_,s',rfl⟩:=hx
  exact⟨rfl,by simp,[],rfl,by simp[aZ]⟩
 ·rename_i t
  split at h
  case h_2=>cases h
  rename_i e
  obtain rfl:=aM e
  simp only[au,aD]at h
  obtain⟨rfl,rfl,rfl⟩:=h
  obtain rfl:=hx.eq rfl
  refine⟨rfl,by simp,_,rfl, ?_⟩
  have:∀t:List UInt8,aZ M (OR R (ι.kZ [])) VI.none (t.map λb=>AV.int .u8 b.toNat) (t.map λb=>AV.int .u8 b.toNat):=λt=>by
   induction t with
   | nil=>simp[aZ]
   | cons b t ih=>simp only[List.map_cons,aZ,VL];exact⟨trivial,ih⟩
  exact this t
 ·rename_i b o sz' n' w
  split at h
  case h_2=>cases h
  rename_i e
  obtain rfl:=aM e
  split at h
  case h_2=>cases h
  rename_i c ro sl hg
  obtain⟨k1,k2,p,s',cap,ex,rfl,k3,k4,k5⟩:=VL.uN s hx hg
  have fin:∀(cs:List AV) (S:List Nat),cs.length=n'*sz'→(∀c' t,aZ M (OR R ι) (if sl then VI.none else ι) c c'→aZ M (OR R (ι.kZ S)) VI.none cs (((c'++t).drop o).take (n'*sz'))) →
    dB (.slice p s' n' cap ex) sz'=true∧cs.length=n'*sz'∧∃cs',lN (.slice p s' n' cap ex) M=some (n',cs')∧aZ M (OR R (ι.kZ S)) VI.none cs cs':=by
   intro cs S h1 h2
   have hz:dB (.slice p s' n' cap ex) sz'=true:=by
    cases p with
    | none =>
     rcases k5 with⟨j,_,_,_,_,_,_,_,_,_,_,_,e,_⟩ |⟨e,_⟩
     ·cases e
     ·simp[dB,e]
    | some p=>simp[dB,k4 (by simp)]
   refine⟨hz,h1, ?_⟩
   have hn0:n'=0→cs=[]:=λe=>by
    subst e
    rw[Nat.zero_mul]at h1
    exact List.eq_nil_of_length_eq_zero h1
   rcases k5 with⟨j,c',t,ro',sl',L,g1,g2,g3,g4,g5,g6,rfl,g7⟩ |⟨e,_⟩
   ·obtain rfl:=k4 (by simp)
    by_cases hn:n'=0
    ·rw[hn0 hn]
     subst hn
     exact⟨[],by simp[lN],by simp[aZ]⟩
    ·have hl:=g6.length
     refine⟨_, ?_,h2 c' t g6⟩
     simp only[lN,if_neg hn,Heap.read,g2]
     rw[if_pos (by simp only[aF];omega)]
     rfl
   ·rw[hn0 e]
    subst e
    refine⟨[], ?_,by simp[aZ]⟩
    cases p<;>simp[lN]
  split at h
  ·simp only[au,aD]at h
   obtain⟨rfl,rfl,rfl⟩:=h
   refine fin _ _ (BJ k1 k2) λc' t hc=>?_
   simp only[if_true]at hc
   exact(BK hc k1 k2).kZ
  ·split at h
   case h_2=>cases h
   split at h
   case h_2=>cases h
   rename_i q hq
   simp only[au,aD]at h
   obtain⟨rfl,rfl,rfl⟩:=h
   obtain⟨k6,k7⟩:=k2 rfl
   refine fin _ _ (by rw[BO _ _ hq,k7]) λc' t hc=>?_
   simp only[Bool.false_eq_true,if_false]at hc
   have:=Kk s hq hc
   rw[k6,List.drop_zero,k7,hc.length,List.take_left' rfl]
   exact this
 ·cases h
theorem Ep{H:WH}{x:AV}{sz n:Nat}{cs:List AV}{S:List Nat}(h:yB x sz H=some (n,cs,S)):∀b∈S,∃y,bD H b=some y:=by
 unfold yB at h
 split at h
 ·split at h
  ·cases h;simp
  ·cases h
 ·cases h;simp
 ·split at h
  ·cases h;simp
  ·cases h
 ·split at h
  case h_2=>cases h
  split at h
  case h_2=>cases h
  split at h
  ·cases h;simp
  ·split at h
   case h_2=>cases h
   split at h
   case h_2=>cases h
   rename_i q hq
   cases h
   exact mW (λv p=>jZ 5 true v p) _ _ hq
 ·cases h
theorem Qf {R:Nat→Prop} {ι:VI} {H:WH} {M:Heap} (s:VS R ι H M) {x a:AV} (hx:VL M (OR R ι) ι x a) {sz bytes m len:Nat} {new new' old:List AV} (hnew:aZ M (OR R ι) VI.none new new') (hl:new.length=m*sz) {H':WH} {t:List Nat}
  (h:Pb x sz H=some (len,old,H',t)) (hf:dS bytes (len+m)=true) :
  ∃a' M' aV,fH sz bytes a m new' M=some (a',M')∧VS R aV (H'++[some (.cells (old++new) false true)]) M'∧Stp H.length t ι H M aV (H'++[some (.cells (old++new) false true)]) M'∧VL M' (OR R aV) aV (.acc H'.length 0 sz (len+m) true) a':=by
 have hf':=Jj hf
 have hm0:m=0→new=[]:=λe=>by
  subst e
  rw[Nat.zero_mul]at hl
  exact List.eq_nil_of_length_eq_zero hl
 -- nothing was there
 have fresh:∀(kL:VI) (H0:WH) (t0:List Nat),VS R kL H0 M→H0.length=H.length→Stp H.length t0 ι H M kL H0 M→∀(p:Option (Nat×Nat)) (s':Nat),(p≠none→s'=sz)→0+m=len+m→∃a' M' aV,fH sz bytes (.slice p s' 0 0 true) m new' M=some (a',M')∧VS R aV (H0++[some (.cells ([]++new) false true)]) M'∧Stp H.length t0 ι H M aV (H0++[some (.cells ([]++new) false true)]) M'∧VL M' (OR R aV) aV (.acc H0.length 0 sz (0+m) true) a':=by
  intro kL H0 t0 s0 hlen k0 p s' hps hlm
  by_cases hm:m=0
  ·obtain rfl:=hm0 hm
   subst hm
   obtain⟨aV,q1,q2,q3⟩:=zG s0 sz sz p (λ_=>rfl)
   refine⟨.slice p sz 0 0 true,M,aV, ?_,q1, ?_,q3⟩
   ·unfold fH
    cases p with
    | none=>simp
    | some p=>obtain rfl:=hps (by simp);simp
   ·have:=k0.trans q2 (by omega)
    simpa using this
  ·have e:fH sz bytes (.slice p s' 0 0 true) m new' M=some (.slice (some (M.next,0)) sz (0+m) (0+m) false,M.push (.cells ([]++new') false true)):=by
    unfold fH
    simp only
    rw[if_neg (λhc=>hc.2 (hps hc.1)),if_neg (by omega),if_pos (by rw[hlm];exact hf')]
    cases p with
    | none=>rfl
    | some p=>rfl
   have Zo:=aZ.LP k0 hnew
   obtain⟨aV,q1,q2,q3⟩:=Fe s0 (cs:=[]++new) (cs':=[]++new') (by simpa using Zo) (n:=0+m) (sz:=sz) (by simpa using hl) false true
   rw[e]
   refine⟨_,_,aV,rfl,q1, ?_,q3⟩
   have:=k0.trans q2 (by omega)
   simpa using this
 unfold Pb at h
 split at h
 ·simp only[au,aD]at h
  obtain⟨rfl,rfl,rfl,rfl⟩:=h
  simp only[VL]at hx
  obtain⟨_,s',rfl⟩:=hx
  exact fresh ι H [] s rfl (.refl _ _ _ _ _ (Nat.le_refl _)) none s' (λh=>absurd rfl h) rfl
 ·rename_i b sz' n w
  split at h
  case h_2=>cases h
  rename_i e
  obtain rfl:=aM e
  -- one's own
  have main:∀(c:List AV) (sl:Bool) (H1:WH) (iC:VI) (old:List AV),bD H b=some (.cells c false sl)→VS R iC H1 M→H1.length=H.length→Stp H.length [] ι H M iC H1 M→bD H1 b=some (.cells c false sl)→old.length=n*sz' →
    (∀c' t,aZ M (OR R ι) (if sl then VI.none else ι) c c'→aZ M (OR R iC) VI.none old (((c'++t).drop 0).take (n*sz')))→len=n →
    ∃a' M' aV,fH sz' bytes a m new' M=some (a',M')∧VS R aV (dP H1 b none++[some (.cells (old++new) false true)]) M'∧Stp H.length [b] ι H M aV (dP H1 b none++[some (.cells (old++new) false true)]) M'∧VL M' (OR R aV) aV (.acc (dP H1 b none).length 0 sz' (n+m) true) a':=by
   intro c sl H1 iC old hg s1 hlen k1 hg1 ho hr hln
   subst hln
   obtain⟨q1,q2,p,s',cap,ex,rfl,q3,q4,q5⟩:=VL.uN s hx hg
   have hnp:p=none→cap=0∧ex=true:=by
    simp only[VL]at hx
    obtain⟨_,_,_,_,e,_,q,_⟩:=hx
    simp only[AV.slice.injEq]at e
    obtain⟨rfl,rfl,_,rfl,rfl⟩:=e
    exact q
   have hnew1:=aZ.LP k1 hnew
   rcases q5 with⟨j,c',t,ro',sl',L,g1,g2,g3,g4,g5,g6,rfl,g7⟩ |⟨rfl,rfl,rfl,⟨j,c',t,ro',sl',L,g1,g2,g3,g4,g5,g6⟩ |⟨g1,rfl,rfl⟩⟩
   ·obtain rfl:=q4 (by simp)
    obtain⟨rfl,_⟩:=g3 rfl
    have hj1:=((k1.le b (kG hg)).1 j g1).1
    have hlc:=g6.length
    have hcs:=Nat.mul_le_mul_right s' q3
    have hr':=hr c' t g6
    have hold:aZ M (OR R iC) VI.none old ((c'++t).take (len*s')):=by simpa using hr'
    simp only[aF]at g5
    by_cases hm:m=0
    ·obtain rfl:=hm0 hm
     subst hm
     have hn':new'=[]:=by
      have:=hnew.length
      exact List.eq_nil_of_length_eq_zero (by simpa using this.symm)
     subst hn'
     obtain⟨aV,r1,r2,r3⟩:=Fg s1 hj1 hg1 (cs:=old++[]) (cs':=(c'++t).take (len*s')) (t:=(c'++t).drop (len*s')) (by rw[List.take_append_drop];exact g2) rfl (by simpa using hold) (by rw[List.take_append_drop,aF];exact g5) (n:=len+0) (by simpa using ho) q3 hnp q4 (.inl ⟨rfl,by omega⟩)
     refine⟨_,M,aV, ?_,r1, ?_,by rw[bN];exact r3⟩
     ·simp[fH,q3]
     ·have:=k1.trans r2 (by omega)
      simpa using this
    by_cases hfit:len+m≤cap
    ·-- in place
     have hle:len*s'+new'.length≤(c'++t).length:=by
      have:=Nat.mul_le_mul_right s' hfit
      rw[←hnew.length,hl,aF,←Nat.add_mul]
      omega
     have hw:M.write j (0+len*s') new'=some (M.put j (some (.cells ((c'++t).take (len*s')++new'++(c'++t).drop (len*s'+new'.length)) false sl'))):=by
      simp only[Heap.write,g2,Nat.zero_add]
      rw[if_pos hle]
     have hlenp:L≤(((c'++t).take (len*s')++new')++(c'++t).drop (len*s'+new'.length)).length:=by
      simp only[aF,aJ,aO]at hle ⊢
      omega
     obtain⟨r1,r2,r3⟩:=s1.swap hj1 hg1 (x:=.cells (old++new) false true) (y:=.cells ((c'++t).take (len*s')++new'++(c'++t).drop (len*s'+new'.length)) false sl') (d:=((old++new).length,L))
      ⟨(c'++t).take (len*s')++new',(c'++t).drop (len*s'+new'.length),false,sl',L,rfl,λ_=>rfl,rfl,hlenp,by simpa using hold.append hnew1,λh=>by cases h⟩
     refine⟨.slice (some (j,0)) s' (len+m) cap ex,_,_, ?_,r1, ?_, ?_⟩
     rotate_left
     ·have:=k1.trans r2 (by omega)
      simpa using this
     ·rw[bN]
      simp only[VL]
      refine⟨some (j,0),s',cap,ex,rfl,hfit,(λh=>by cases h),λ_=>rfl,(old++new).length,L,by simp[VI.add,setAt], ?_,λ_=>⟨trivial, ?_⟩,.inl ⟨j,r3,.inl ⟨rfl,by omega⟩⟩⟩
      ·rw[aF,ho,hl,Nat.add_mul];omega
      ·rw[aF,ho,hl,Nat.add_mul]
     ·unfold fH
      simp only
      rw[if_neg (by simp),if_pos hfit,if_neg hm,hw]
      rfl
    ·obtain ⟨Nu,e1,e2⟩:∃Nu,(if (ex=true∧len=0)then some []else M.read j 0 (len*s'))=some Nu∧aZ M (OR R iC) VI.none old Nu:=by
      by_cases hc:ex=true∧len=0
      ·rw[if_pos hc]
       rw[hc.2,Nat.zero_mul]at ho
       obtain rfl:=List.eq_nil_of_length_eq_zero ho
       exact⟨[],rfl,by simp[aZ]⟩
      ·rw[if_neg hc]
       refine⟨(c'++t).take (len*s'), ?_,hold⟩
       simp only[Heap.read,g2]
       rw[if_pos (by simp only[aF];omega),List.drop_zero]
     have hlo:(old++new).length=(len+m)*s':=by rw[aF,ho,hl,Nat.add_mul]
     cases ex with
     | true =>
      have e:fH s' bytes (.slice (some (j,0)) s' len cap true) m new' M=some (.slice (some (M.next,0)) s' (len+m) (len+m) false,M.push (.cells (Nu++new') false true)):=by
       unfold fH
       simp only
       rw[if_neg (by simp),if_neg hfit,if_pos hf']
       simp only[eq_self,true_and,if_true]at e1 ⊢
       rw[e1]
       rfl
      obtain⟨r1,r2⟩:=s1.kill hj1 hg1 (M.get j)
      rw[Heap.FV rfl]at r1 r2
      have rk:=k1.trans r2 (by omega)
      obtain⟨aV,u1,u2,u3⟩:=Fe r1 (cs:=old++new) (cs':=Nu++new') (aZ.LP r2 (e2.append hnew1)) hlo false true
      rw[e]
      refine⟨_,_,aV,rfl,u1, ?_,u3⟩
      have:=rk.trans u2 (by rw[bN];omega)
      simpa using this
     | false =>
      have e:fH s' bytes (.slice (some (j,0)) s' len cap false) m new' M=some (.slice (some (M.next,0)) s' (len+m) (len+m) false,(M.put j none).push (.cells (Nu++new') false true)):=by
       unfold fH
       simp only
       rw[if_neg (by simp),if_neg hfit,if_pos hf']
       simp only[Bool.false_eq_true,false_and,if_false]at e1 ⊢
       rw[e1]
       simp[g2]
      obtain⟨r1,r2⟩:=s1.kill hj1 hg1 none
      have rk:=k1.trans r2 (by omega)
      obtain⟨aV,u1,u2,u3⟩:=Fe r1 (cs:=old++new) (cs':=Nu++new') (aZ.LP r2 (e2.append hnew1)) hlo false true
      rw[e]
      refine⟨_,_,aV,rfl,u1, ?_,u3⟩
      have:=rk.trans u2 (by rw[bN];omega)
      simpa using this
   ·-- empty,and no room
    rw[Nat.zero_mul]at ho
    obtain rfl:=List.eq_nil_of_length_eq_zero ho
    have hj1:=((k1.le b (kG hg)).1 j g1).1
    by_cases hm:m=0
    ·obtain rfl:=hm0 hm
     subst hm
     have hn':new'=[]:=by
      have:=hnew.length
      exact List.eq_nil_of_length_eq_zero (by simpa using this.symm)
     subst hn'
     obtain⟨aV,r1,r2,r3⟩:=Fg s1 hj1 hg1 (cs:=[]++[]) (cs':=[]) (t:=c'++t) g2 (g3 rfl).1 (by simp[aZ]) g5 (n:=0+0) (sz:=sz') (by simp) (Nat.le_refl _) hnp (s':=sz') (λ_=>rfl) (.inr ⟨rfl,rfl,rfl⟩)
     refine⟨_,M,aV, ?_,r1, ?_,by rw[bN];exact r3⟩
     ·cases p with
      | none=>simp[fH]
      | some p=>obtain rfl:=q4 (by simp);simp[fH]
     ·have:=k1.trans r2 (by omega)
      simpa using this
    ·obtain⟨r1,r2⟩:=s1.kill hj1 hg1 (M.get j)
     rw[Heap.FV rfl]at r1 r2
     have:=fresh _ _ _ r1 (by rw[bN];exact hlen) (k1.trans r2 (by omega)) p s' q4 rfl
     simpa using this
   ·rw[Nat.zero_mul]at ho
    obtain rfl:=List.eq_nil_of_length_eq_zero ho
    have hs1:=((k1.le b (kG hg)).2 g1).1
    obtain⟨r1,r2⟩:=s1.Pj hs1
    have:=fresh _ _ _ r1 (by rw[bN];exact hlen) (k1.trans r2 (by omega)) p s' q4 rfl
    simpa using this
  split at h
  ·rename_i c hg
   simp only[au,aD]at h
   obtain⟨rfl,rfl,rfl,rfl⟩:=h
   obtain⟨k1,k2,_⟩:=VL.uN s hx hg
   exact main c true H ι _ hg s rfl (.refl _ _ _ _ _ (Nat.le_refl _)) hg (BJ k1 k2) (λc' t hc=>BK (by simpa using hc) k1 k2) rfl
  ·rename_i c hg
   split at h
   case h_2=>cases h
   split at h
   case h_2=>cases h
   rename_i p hp
   split at h
   case h_2=>cases h
   rename_i hb
   simp only[au,aD]at h
   obtain⟨rfl,rfl,rfl,rfl⟩:=h
   obtain⟨k1,k2,_⟩:=VL.uN s hx hg
   obtain⟨k3,k4⟩:=k2 rfl
   obtain⟨u1,u2⟩:=s.Nr p.2 (mW (λv p=>jZ 5 true v p) _ _ hp)
   refine main c false (rD H p.2) (ι.kZ p.2) _ hg u1 (nM _ _) u2 ?_ (by rw[BO _ _ hp,k4]) (λc' t hc=>?_) rfl
   ·rw[sK,hb]
    exact hg
   ·simp only[Bool.false_eq_true,if_false]at hc
    have:=Kk s hp hc
    rw[List.drop_zero,k4,hc.length,List.take_left' rfl]
    exact this
  ·cases h
 ·cases h
theorem BS:∀ {p:List Nat} {b k:Nat},nH p b=some k→p[k]?=some b
 | [],b,k,h=>by simp[nH]at h
 | a::r,b,k,h=>by
  simp only[nH]at h
  split at h
  ·rename_i e
   obtain rfl:=aj h
   simp[aM e]
  ·split at h
   ·rename_i k' hk
    obtain rfl:=aj h
    simpa using BS hk
   ·cases h
theorem Dw:∀ {p:List Nat} {b:Nat},nH p b=none→b∉p
 | [],b,_=>by simp
 | a::r,b,h=>by
  simp only[nH]at h
  split at h
  ·cases h
  ·rename_i e
   split at h
   ·cases h
   ·rename_i hr
    simp only[List.mem_cons,not_or]
    exact⟨λe'=>by subst e';simp at e,Dw hr⟩
theorem uw:∀ {p:List Nat} (hp:p.Nodup) {b k:Nat} (h:p[k]?=some b),nH p b=some k
 | [],_,b,k,h=>by simp at h
 | a::r,hp,b,0,h=>by
  simp only[List.getElem?_cons_zero,au]at h
  subst h
  simp[nH]
 | a::r,hp,b,k+1,h=>by
  simp only[List.getElem?_cons_succ]at h
  rw[List.nodup_cons]at hp
  have hne:a≠b:=λe=>hp.1 (e ▸ List.mem_of_getElem? h)
  have:Nat.beq a b=false:=by
   cases hh:Nat.beq a b with
   | false=>rfl
   | true=>exact absurd (aM hh) hne
  simp only[nH,this,uw hp.2 h]
def Via(f:Nat→Option Nat)(κ l7:VI):Prop:=∀b k,f b=some k→(∀j,κ b=some j→l7 k=some j)∧(κ.Dt b=true→l7.Dt k=true)∧(∀d,κ.dim b=some d→l7.dim k=some d)
mutual
theorem VL.rn{M M':Heap}{O O':Nat→Prop}(hk:Keeps M O M' O'){f:Nat→Option Nat}{κ l7:VI}(hf:Via f κ l7):∀(v a:AV),VL M O κ v a→VL M' O' l7 (Proofs.Ytkedeiklmpkgkaa.rn f v) a
 |.undef,_,_=>by simp[Proofs.Ytkedeiklmpkgkaa.rn,VL]
 |.bool _,_,e=>by simpa[Proofs.Ytkedeiklmpkgkaa.rn,VL]using e
 |.int _ _,_,e=>by simpa[Proofs.Ytkedeiklmpkgkaa.rn,VL]using e
 |.str _,_,e=>by simpa[Proofs.Ytkedeiklmpkgkaa.rn,VL]using e
 |.ptr none,_,e=>by simpa[Proofs.Ytkedeiklmpkgkaa.rn,VL]using e
 |.ptr (some q),a,e=>by
  simp only[VL]at e
  obtain⟨j,h1,rfl⟩:=e
  simp only[Proofs.Ytkedeiklmpkgkaa.rn]
  split
  ·rename_i b hb
   simp only[VL]
   exact⟨j,(hf _ _ hb).1 j h1,rfl⟩
  ·simp[VL]
 |.slice none _ _ _ _,_,e=>by simpa[Proofs.Ytkedeiklmpkgkaa.rn,VL]using e
 |.slice (some _) _ _ _ _,_,e=>by simp[VL]at e
 |.map none,_,e=>by simpa[Proofs.Ytkedeiklmpkgkaa.rn,VL]using e
 |.map (some r),a,e=>by
  simp only[VL]at e
  obtain⟨j,h1,rfl⟩:=e
  simp only[Proofs.Ytkedeiklmpkgkaa.rn]
  split
  ·rename_i b hb
   simp only[VL]
   exact⟨j,(hf _ _ hb).1 j h1,rfl⟩
  ·simp[VL]
 |.func g cs,a,e=>by
  simp only[VL,Proofs.Ytkedeiklmpkgkaa.rn]at e ⊢
  obtain⟨cs',rfl,h⟩:=e
  exact⟨cs',rfl,aZ.rn hk hf cs cs' h⟩
 |.nilFunc,_,e=>by simpa[Proofs.Ytkedeiklmpkgkaa.rn,VL]using e
 |.agg cs,a,e=>by
  simp only[VL,Proofs.Ytkedeiklmpkgkaa.rn]at e ⊢
  obtain⟨cs',rfl,h⟩:=e
  exact⟨cs',rfl,aZ.rn hk hf cs cs' h⟩
 |.tuple cs,a,e=>by
  simp only[VL,Proofs.Ytkedeiklmpkgkaa.rn]at e ⊢
  obtain⟨cs',rfl,h⟩:=e
  exact⟨cs',rfl,aZ.rn hk hf cs cs' h⟩
 |.list sz n cs ex,a,e=>by
  simp only[Proofs.Ytkedeiklmpkgkaa.rn]
  exact VL.mono hk κ l7 _ _ (λi hi=>by simp[pU]at hi) e
 |.elem cs,a,e=>by
  simp only[Proofs.Ytkedeiklmpkgkaa.rn]
  exact VL.mono hk κ l7 _ _ (λi hi=>by simp[pU]at hi) e
 |.acc b o sz n w,a,e=>by
  simp only[Proofs.Ytkedeiklmpkgkaa.rn]
  split
  ·rename_i b' hb
   simp only[VL]at e ⊢
   obtain⟨p,s',cap,ex,h1,h2,h3,h4,m,L,h5,h6,h7,h8⟩:=e
   obtain⟨f1,f2,f3⟩:=hf _ _ hb
   exact⟨p,s',cap,ex,h1,h2,h3,h4,m,L,f3 _ h5,h6,h7,h8.imp (λ⟨j,k1,k2⟩=>⟨j,f1 j k1,k2⟩) (λ⟨k1,k2⟩=>⟨f2 k1,k2⟩)⟩
  ·simp[VL]
theorem aZ.rn{M M':Heap}{O O':Nat→Prop}(hk:Keeps M O M' O'){f:Nat→Option Nat}{κ l7:VI}(hf:Via f κ l7):∀(l r:List AV),aZ M O κ l r→aZ M' O' l7 (H6 f l) r
 | [],[],_=>by simp[H6,aZ]
 | v::l,a::r,e=>by
  simp only[aZ,H6]at e ⊢
  exact⟨VL.rn hk hf v a e.1,aZ.rn hk hf l r e.2⟩
 | [],_::_,e=>by simp[aZ]at e
 | _::_,[],e=>by simp[aZ]at e
end
theorem Pt{f:Nat→Option Nat}:∀(l:List AV),(H6 f l).length=l.length
 | []=>rfl
 | _::l=>by simp[H6,Pt l]
theorem BL.rn{M M':Heap}{O O':Nat→Prop}(hk:Keeps M O M' O'){f:Nat→Option Nat}{κ l7:VI}(hf:Via f κ l7){d:Option (Nat×Nat)}{x:ji}{y:Option ji}(r:BL M O κ d x y):BL M' O' l7 d (rnB f x) y:=by
 cases x with
 | cells c ro sl =>
  obtain⟨c',t,ro',sl',L,rfl,h0,h1,h2,h3,h4⟩:=r
  cases sl with
  | true=>exact⟨c',t,ro',sl',L,rfl,h0,h1,h2,aZ.mono hk _ _ c c' (.refl _ _) h3,h4⟩
  | false=>exact⟨c',t,ro',sl',L,rfl,h0,by rw[Pt];exact h1,h2,aZ.rn hk hf c c' h3,h4⟩
 | map es=>exact r
theorem Kl(f:Nat→Option Nat)(x:ji):(rnB f x).ro=x.ro:=by
 cases x with
 | cells c ro sl=>cases sl<;>rfl
 | map es=>rfl
mutual
theorem VL.retag{M:Heap}{O:Nat→Prop}{κ:VI}(v t a:AV)(h:VL M O κ v a):VL M O κ (Proofs.Ytkedeiklmpkgkaa.retag v t) a:=by
 rw[Proofs.Ytkedeiklmpkgkaa.retag.eq_def]
 split
 ·split
  ·simp only[VL]at h ⊢
   exact h
  ·exact h
 ·split
  ·simp only[VL]at h ⊢
   obtain⟨cs',rfl,h⟩:=h
   exact⟨cs',rfl,aZ.retag _ _ _ h⟩
  ·exact h
 ·split
  ·simp only[VL]at h ⊢
   obtain⟨cs',rfl,h⟩:=h
   exact⟨cs',rfl,aZ.retag _ _ _ h⟩
  ·exact h
 ·exact h
termination_by SizeOf.sizeOf v
theorem aZ.retag{M:Heap}{O:Nat→Prop}{κ:VI}(l ts r:List AV)(h:aZ M O κ l r):aZ M O κ (jg l ts) r:=by
 rw[jg.eq_def]
 split
 ·split
  ·cases r with
   | nil=>simp[aZ]at h
   | cons a r =>
    simp only[aZ]at h ⊢
    exact⟨VL.retag _ _ _ h.1,aZ.retag _ _ _ h.2⟩
  ·exact h
 ·exact h
termination_by SizeOf.sizeOf l
end
theorem oZ{H:WH}{p:List Nat}:∀(q:List Nat),(lS H p q).length=q.length
 | []=>rfl
 | _::q=>by simp[lS,oZ q]
theorem jS {H:WH} {p:List Nat}:∀(q:List Nat) (k:Nat),bD (lS H p q) k=match q[k]? with
  | some b=>Rh (nH p) (bD H b)
  | none=>none
 | [],k=>by simp[lS,bD]
 | b::q,0=>by simp[lS,bD]
 | b::q,k+1=>by simp[lS,bD,jS q k]
theorem nN{f:Nat→Option Nat}{x:Option ji}{y:ji}(h:Rh f x=some y):∃z,x=some z∧y=rnB f z:=by
 cases x with
 | none=>simp[Rh]at h
 | some z=>simp only[Rh,au]at h;exact⟨z,rfl,h.symm⟩
def bZ (ι:VI) (p:List Nat):VI:=⟨λk=>match p[k]? with
  | some b=>ι b
  | none=>none,λk=>match p[k]? with
  | some b=>ι.Dt b
  | none=>false,λk=>match p[k]? with
  | some b=>ι.gone b
  | none=>true,λk=>match p[k]? with
  | some b=>ι.dim b
  | none=>none⟩
theorem r_{ι:VI}{p:List Nat}:Via (nH p) ι (bZ ι p):=λb k h=>by
 have:=BS h
 simp only[bZ,this]
 exact⟨λ_ h=>h,λh=>h,λ_ h=>h⟩
theorem pV{ι:VI}{p:List Nat}{j:Nat}(h:own (bZ ι p) j):∃b,b∈p∧ι b=some j∧ι.gone b=false:=by
 obtain⟨k,h1,h2⟩:=h
 simp only[bZ]at h1 h2
 cases e:p[k]? with
 | none=>rw[e]at h1;cases h1
 | some b =>
  rw[e]at h1 h2
  exact⟨b,List.mem_of_getElem? e,h1,h2⟩
theorem VS.pick {R R':Nat→Prop} {ι:VI} {H:WH} {M:Heap} (s:VS R ι H M) {p:List Nat} (hp:p.Nodup) (hR:∀j,R' j→j<M.next∧∀b,b∈p→act ι H b→ι b≠some j) (hO:∀j,OR R' (bZ ι p) j→OR R ι j) :
  VS R' (bZ ι p) (lS H p p) M:=by
 have hk:Keeps M (OR R ι) M (OR R' (bZ ι p)):=⟨Nat.le_refl _,λb _ h=>⟨rfl,λk=>h (hO b k)⟩⟩
 have ac:∀k,act (bZ ι p) (lS H p p) k→∃b,p[k]?=some b∧act ι H b:=λk h=>by
  cases e:p[k]? with
  | none =>
   rcases h with⟨x,h⟩ | h
   ·rw[jS,e]at h;cases h
   ·simp only[bZ,e]at h;cases h
  | some b =>
   refine⟨b,rfl, ?_⟩
   rcases h with⟨x,h⟩ | h
   ·rw[jS,e]at h
    obtain⟨z,hz,_⟩:=nN h
    exact .inl ⟨z,hz⟩
   ·simp only[bZ,e]at h
    exact .inr h
 have at':∀ {k b},p[k]?=some b→(bZ ι p) k=ι b∧(bZ ι p).Dt k=ι.Dt b∧(bZ ι p).gone k=ι.gone b∧(bZ ι p).dim k=ι.dim b:=λe=>by simp[bZ,e]
 refine⟨λk j h=>?_,λk k' j h h' e e' g=>?_,λk x hx=>?_,λk h=>?_,λk hk' c sl h=>?_,s.LD,λj h=>⟨(hR j h).1,λk hk'=>?_⟩⟩
 ·cases e:p[k]? with
  | none=>simp only[bZ,e]at h;cases h
  | some b =>
   rw[(at' e).1]at h
   exact⟨by rw[oZ];exact(aC.1 e).1,(s.lt b j h).2⟩
 ·obtain⟨b,q1,q2⟩:=ac k h
  obtain⟨b',q1',q2'⟩:=ac k' h'
  rw[(at' q1).1]at e
  rw[(at' q1').1]at e'
  rw[(at' q1).2.2.1,(at' q1').2.2.1]at g
  have:=s.inj b b' j q2 q2' e e' g
  subst this
  have:=uw hp q1
  rw[uw hp q1']at this
  exact(aj this).symm
 ·cases e:p[k]? with
  | none=>rw[jS,e]at hx;cases hx
  | some b =>
   rw[jS,e]at hx
   obtain⟨z,hz,rfl⟩:=nN hx
   rw[(at' e).1,(at' e).2.1,(at' e).2.2.1,(at' e).2.2.2,Kl]
   rcases s.blk b z hz with⟨h1,h2,ro,rfl⟩ |⟨j,h1,h2,h3⟩
   ·exact .inl ⟨h1,h2,ro,rfl⟩
   ·exact .inr ⟨j,h1,BL.rn hk r_ h2,h3⟩
 ·cases e:p[k]? with
  | none=>simp only[bZ,e]at h;cases h
  | some b =>
   rw[(at' e).2.1]at h
   rw[(at' e).1]
   exact⟨by rw[oZ];exact(aC.1 e).1,(s.nI b h).2⟩
 ·cases e:p[k]? with
  | none=>rw[jS,e]at h;cases h
  | some b =>
   rw[(at' e).2.2.1]at hk'
   rw[jS,e]at h
   obtain⟨z,hz,h2⟩:=nN h
   have hr:=Kl (nH p) z
   rw[←h2]at hr
   cases z with
   | cells c' ro sl' =>
    simp only[ji.ro]at hr
    subst hr
    exact s.kZ b hk' c' sl' hz
   | map es=>cases h2
 ·obtain⟨b,q1,q2⟩:=ac k hk'
  rw[(at' q1).1]
  exact(hR j h).2 b (List.mem_of_getElem? q1) q2
theorem zH{H:WH}{np:Nat}:∀(l seen:List Nat),(xS H np seen l).Nodup∧∀x,x∈xS H np seen l→x∈l∧kK seen x=false∧(x<np∨∃y,bD H x=some y)
 | [],seen=>by simp[xS]
 | a::r,seen=>by
  simp only[xS]
  cases h:kK seen a with
  | true =>
   obtain⟨h1,h2⟩:=zH r seen
   exact⟨h1,λx hx=>⟨List.mem_cons_of_mem _ (h2 x hx).1,(h2 x hx).2⟩⟩
  | false =>
   obtain⟨h1,h2⟩:=zH (H:=H) (np:=np) r (a::seen)
   have hne:∀x,x∈xS H np (a::seen) r→x≠a∧kK seen x=false:=λx hx=>by
    have:=(h2 x hx).2.1
    simp only[kK]at this
    split at this
    ·cases this
    ·rename_i e
     exact⟨λe'=>by subst e';simp at e,this⟩
   have XO:(x:Nat)→x∈xS H np (a::seen) r→x∈a::r∧kK seen x=false∧(x<np∨∃y,bD H x=some y):=λx hx =>
    ⟨List.mem_cons_of_mem _ (h2 x hx).1,(hne x hx).2,(h2 x hx).2.2⟩
   have both:(a<np∨∃y,bD H a=some y)→(a::xS H np (a::seen) r).Nodup∧∀x,x∈a::xS H np (a::seen) r→x∈a::r∧kK seen x=false∧(x<np∨∃y,bD H x=some y):=λha =>
    ⟨List.nodup_cons.2 ⟨λhm=>(hne a hm).1 rfl,h1⟩,λx hx=>by
     rcases List.mem_cons.1 hx with rfl | hx
     ·exact⟨List.mem_cons_self,h,ha⟩
     ·exact XO x hx⟩
   simp only
   split
   ·rename_i hb
    exact both (.inl (by simpa[Nat.blt_eq]using hb))
   ·split
    ·rename_i y hy
     exact both (.inr ⟨y,hy⟩)
    ·exact⟨h1,XO⟩
theorem Qg{a b:Nat}{l:List Nat}(h:a≠b):kK (a::l) b=kK l b:=by
 have:Nat.beq a b=false:=by
  cases hh:Nat.beq a b with
  | false=>rfl
  | true=>exact absurd (aM hh) h
 simp[kK,this]
theorem LU{H:WH}{np:Nat}:∀(l seen r:List Nat),l.Nodup→(∀x,x∈l→x<np∧kK seen x=false)→∃r',xS H np seen (l++r)=l++r'
 | [],seen,r,_,_=>⟨xS H np seen r,rfl⟩
 | a::l,seen,r,hn,h=>by
  rw[List.nodup_cons]at hn
  obtain⟨h1,h2⟩:=h a (by simp)
  obtain⟨r',hr⟩:=LU (H:=H) (np:=np) l (a::seen) r hn.2 (λx hx=>⟨(h x (by simp[hx])).1,by
   have hne:a≠x:=λe=>hn.1 (by rw[e];exact hx)
   rw[Qg hne]
   exact(h x (by simp[hx])).2⟩)
  refine⟨r', ?_⟩
  simp only[List.cons_append,xS,h2]
  rw[show Nat.blt a np=true by simpa[Nat.blt_eq]using h1]
  simp only[hr]
theorem F3(H:WH)(np:Nat)(roots:List Nat):(BD H np roots).Nodup∧(∀x,x∈BD H np roots→x<np∨∃y,bD H x=some y)∧∃r,BD H np roots=List.range np++r:=by
 have pre:∀r,∃r',xS H np [] (List.range np++r)=List.range np++r':=λr =>
  LU _ [] r List.nodup_range (λx hx=>⟨List.mem_range.1 hx,rfl⟩)
 have step:∀l,(∃r,l=List.range np++r)→∃r,R8 H np l=List.range np++r:=λl ⟨r,h⟩=>by
  subst h
  unfold R8
  rw[bG]
  exact pre _
 refine⟨(zH _ _).1,λx hx=>((zH _ _).2 x hx).2.2, ?_⟩
 exact step _ (step _ (step _ (pre _)))
theorem Vh{H:WH}{np i:Nat}{roots:List Nat}(h:i<np):(BD H np roots)[i]?=some i:=by
 obtain⟨_,_,r,hr⟩:=F3 H np roots
 rw[hr,List.getElem?_append_left (by simpa using h)]
 simp[h]
theorem XP {R:Nat→Prop} {ι:VI} {H:WH} {M:Heap} (s:VS R ι H M) {np:Nat} (hn:np≤H.length) (roots:List Nat) {vs as:List AV} (hv:aZ M (OR R ι) ι vs as) :
  ∃aV,VS R aV (lS H (BD H np roots) (BD H np roots)) M∧Stp np [] ι H M aV (lS H (BD H np roots) (BD H np roots)) M∧aZ M (OR R aV) aV (H6 (nH (BD H np roots)) vs) as:=by
 obtain⟨h1,h2,r,hr⟩:=F3 H np roots
 have hlow:∀i,i<np→(BD H np roots)[i]?=some i:=λi=>Vh
 generalize BD H np roots=p at *
 have hsub:∀j,OR R (bZ ι p) j→OR R ι j:=λj h=>h.imp (λh=>by
  obtain⟨b,_,h3,h4⟩:=pV h
  exact⟨b,h3,h4⟩) id
 have hs:=s.pick h1 (R':=R) (λj h=>⟨(s.res j h).1,λb _ hb=>(s.res j h).2 b hb⟩) hsub
 have hko:Keeps M (own ι) M (own (bZ ι p)):=⟨Nat.le_refl _,λb _ h=>⟨rfl,λk=>h (by obtain⟨b',_,h3,h4⟩:=pV k;exact⟨b',h3,h4⟩)⟩⟩
 refine⟨_,hs,⟨hko,λi hi=>?_,λi hi h=>?_,λi hi=>by simp only[bZ,hlow i hi],λi hi=>by simp only[bZ,hlow i hi],λi hi _=>by simp only[bZ,hlow i hi],λi hi h=>?_,λ_ _ _ _ _ _=>rfl, ?_⟩, ?_⟩
 ·have:=hlow i hi
  simp only[bZ,this]
  exact⟨λ_ h=>⟨h,λ_ h=>h⟩,λh=>⟨h,λ_ h=>h⟩⟩
 ·simp only[bZ,hlow i hi]
  exact h
 ·obtain⟨x,h⟩:=h
  rw[jS,hlow i hi]at h
  obtain⟨z,hz,_⟩:=nN h
  exact⟨z,hz⟩
 ·rw[oZ,hr]
  simp
 ·exact aZ.rn ⟨Nat.le_refl _,λb _ h=>⟨rfl,λk=>h (hsub b k)⟩⟩ r_ _ _ hv
theorem Dx {R:Nat→Prop} {ι:VI} {H:WH} {M:Heap} (s:VS R ι H M) {np:Nat} (hn:np≤H.length) {ms bs:List (Option Bool)} {ts vs as:List AV} (hv:aZ M (OR R ι) ι vs as) {k:List AV→WH→Prop} (h:FQ np ms bs ts vs H k) :
  ∃vs' blks aV,k vs' blks∧VS R aV blks M∧Stp np [] ι H M aV blks M∧aZ M (OR R aV) aV vs' as:=by
 unfold FQ at h
 obtain⟨iC,h1,h2,h3⟩:=BP ms (jg vs ts) H ι M as s (aZ.retag _ _ _ hv)
 generalize hr:zT ms (jg vs ts) H=r at *
 obtain⟨vs1,H1⟩:=r
 simp only at h h1 h2 h3
 obtain⟨oV,k1,k2⟩:=BQ bs none (BD H1 np (gM vs1)) H1 iC M h1
 have k3:=aZ.step h1 k2 h3
 obtain⟨ι3,q1,q2,q3⟩:=XP k1 (Nat.le_trans hn (Nat.le_trans h2.next k2.next)) (gM vs1) k3
 refine⟨_,_,ι3,h,q1, ?_,q3⟩
 have e1:Stp np [] ι H M iC H1 M:=h2.weak hn
 have e2:Stp np [] iC H1 M oV _ M:=k2.weak (Nat.le_trans hn h2.next)
 have:=(e1.trans e2 (Nat.le_refl _)).trans q2 (Nat.le_refl _)
 simpa using this
theorem AO{f:Nat→Option Nat}:∀(p:List Nat) (out H:WH),(oW f p out H).length=H.length
 | [],out,H=>by simp[oW]
 | b::p,[],H=>by simp[oW]
 | b::p,x::out,H=>by simp[oW,AO p,bN]
theorem yH{f:Nat→Option Nat}:∀(p:List Nat) (out H:WH) (i:Nat),i∉p→bD (oW f p out H) i=bD H i
 | [],out,H,i,_=>by simp[oW]
 | b::p,[],H,i,_=>by simp[oW]
 | b::p,x::out,H,i,h=>by
  simp only[List.mem_cons,not_or]at h
  simp only[oW]
  rw[yH p out _ i h.2,jX,if_neg (λe=>h.1 e.1)]
theorem F4{f:Nat→Option Nat}:∀(p:List Nat) (out H:WH) (k b:Nat),p.Nodup→p.length≤out.length→p[k]?=some b→b<H.length→bD (oW f p out H) b=Rh f (bD out k)
 | [],out,H,k,b,_,_,h,_=>by simp at h
 | a::p,[],H,k,b,_,hl,_,_=>by simp at hl
 | a::p,x::out,H,0,b,hp,hl,h,hb=>by
  simp only[List.getElem?_cons_zero,au]at h
  subst h
  rw[List.nodup_cons]at hp
  simp only[oW]
  rw[yH p out _ a hp.1,jX,if_pos ⟨rfl,hb⟩]
  rfl
 | a::p,x::out,H,k+1,b,hp,hl,h,hb=>by
  simp only[List.getElem?_cons_succ]at h
  rw[List.nodup_cons]at hp
  simp only[aY]at hl
  simp only[oW]
  rw[F4 p out _ k b hp.2 (by omega) h (by rw[bN];exact hb)]
  rfl
theorem Jl:∀(out:WH) (n k:Nat),bD (out.drop n) k=bD out (n+k)
 | out,0,k=>by simp
 | [],n+1,k=>by simp[bD]
 | x::out,n+1,k=>by
  rw[List.drop_succ_cons,Jl out n k,Nat.add_right_comm]
  rfl
theorem LV{f:Nat→Option Nat}:∀(out:WH) (k:Nat),bD (out.map (Rh f)) k=Rh f (bD out k)
 | [],k=>by simp[bD,Rh]
 | x::out,0=>by simp[bD]
 | x::out,k+1=>by simp[bD,LV out k]
def cls(n0:Nat)(p:List Nat)(i:Nat):Nat⊕Nat:=match nH p i with
 | some k=>.inl k
 | none=>if i<n0 then .inr i else .inl (p.length+(i-n0))
def lH (ι tO:VI) (n0:Nat) (p:List Nat):VI:=⟨λi=>match cls n0 p i with
  |.inl k=>tO k
  |.inr i=>ι i,λi=>match cls n0 p i with
  |.inl k=>tO.Dt k
  |.inr i=>ι.Dt i,λi=>match cls n0 p i with
  |.inl k=>tO.gone k
  |.inr i=>ι.gone i,λi=>match cls n0 p i with
  |.inl k=>tO.dim k
  |.inr i=>ι.dim i⟩
section
variable {R:Nat→Prop} {ι:VI} {H:WH} {M:Heap} (s:VS R ι H M) {p:List Nat} (hp:p.Nodup) (hl:∀b,b∈p→b<H.length) {out:WH} (ho:p.length≤out.length)
include hp hl
theorem zI{i k:Nat}(h:p[k]?=some i):cls H.length p i=.inl k:=by simp[cls,uw hp h]
theorem zJ{i k:Nat}(h:cls H.length p i=.inl k):(p[k]?=some i∧i<H.length)∨(i∉p∧H.length≤i∧k=p.length+(i-H.length)):=by
 unfold cls at h
 cases e:nH p i with
 | some k' =>
  rw[e]at h
  simp only[Sum.inl.injEq]at h
  subst h
  have:=BS e
  exact .inl ⟨this,hl i (List.mem_of_getElem? this)⟩
 | none =>
  rw[e]at h
  simp only at h
  split at h
  ·cases h
  ·simp only[Sum.inl.injEq]at h
   exact .inr ⟨Dw e,by omega,h.symm⟩
theorem pK{i i':Nat}(h:cls H.length p i=.inr i'):i'=i∧i∉p∧i<H.length:=by
 unfold cls at h
 cases e:nH p i with
 | some k'=>rw[e]at h;cases h
 | none =>
  rw[e]at h
  simp only at h
  split at h
  ·simp only[Sum.inr.injEq]at h
   exact⟨h.symm,Dw e,by assumption⟩
  ·cases h
theorem Vi{i i' k:Nat}(h:cls H.length p i=.inl k)(h':cls H.length p i'=.inl k):i=i':=by
 rcases zJ hp hl h with⟨h1,_⟩ |⟨_,h2,h3⟩<;>rcases zJ hp hl h' with⟨h1',_⟩ |⟨_,h2',h3'⟩
 ·rw[h1]at h1'
  exact aj h1'
 ·have:=(aC.1 h1).1
  omega
 ·have:=(aC.1 h1').1
  omega
 ·omega
theorem Sv{k i:Nat}(h:back p H.length k=some i):cls H.length p i=.inl k:=by
 unfold back at h
 cases e:p[k]? with
 | some b =>
  rw[e]at h
  obtain rfl:=aj h
  exact zI hp hl e
 | none =>
  rw[e]at h
  simp only[au]at h
  have hk:p.length≤k:=by
   rw[List.getElem?_eq_none_iff]at e
   exact e
  unfold cls
  have hn:nH p i=none:=by
   cases e':nH p i with
   | none=>rfl
   | some k' =>
    have:=hl i (List.mem_of_getElem? (BS e'))
    omega
  rw[hn]
  simp only
  rw[if_neg (by omega)]
  congr 1
  omega
include ho
theorem Qh (i:Nat):bD (xE H p out) i=match cls H.length p i with
  |.inl k=>Rh (back p H.length) (bD out k)
  |.inr i=>bD H i:=by
 unfold xE
 rw[BI,AO]
 cases h:cls H.length p i with
 | inl k =>
  rcases zJ hp hl h with⟨h1,h2⟩ |⟨_,h2,rfl⟩
  ·rw[if_pos h2]
   simp only
   exact F4 p out H k i hp ho h1 h2
  ·rw[if_neg (by omega)]
   simp only
   rw[LV,Jl]
 | inr i' =>
  obtain⟨rfl,h2,h3⟩:=pK hp hl h
  rw[if_pos h3]
  exact yH p out H _ h2
theorem Qi:(xE H p out).length=H.length+(out.length-p.length):=by
 unfold xE
 simp[AO]
theorem Pv {R':Nat→Prop} (hR':∀j,R' j↔R j∨(own ι j∧¬own (bZ ι p) j)) {tO:VI} {M':Heap} {blks:WH} (s:VS R ι H M) (sc:VS R' tO out M') (kc:Stp p.length (List.range p.length) (bZ ι p) blks M tO out M') (hpl:∀b,b∈p→∃x,bD H b=some x) (hbk:∀k b,p[k]?=some b→(∃x,bD blks k=some x)→∃x,bD H b=some x) :
  VS R (lH ι tO H.length p) (xE H p out) M'∧Stp H.length p ι H M (lH ι tO H.length p) (xE H p out) M'∧∀v a,VL M' (OR R' tO) tO v a→VL M' (OR R (lH ι tO H.length p)) (lH ι tO H.length p) (rn (back p H.length) v) a:=by
 have hinl:∀ {i k},cls H.length p i=.inl k→(lH ι tO H.length p) i=tO k∧(lH ι tO H.length p).Dt i=tO.Dt k∧(lH ι tO H.length p).gone i=tO.gone k∧(lH ι tO H.length p).dim i=tO.dim k:=λh=>by simp[lH,h]
 have hinr:∀ {i i'},cls H.length p i=.inr i'→(lH ι tO H.length p) i=ι i∧(lH ι tO H.length p).Dt i=ι.Dt i∧(lH ι tO H.length p).gone i=ι.gone i∧(lH ι tO H.length p).dim i=ι.dim i:=λh=>by
  obtain⟨rfl,_⟩:=pK hp hl h
  simp[lH,h]
 have hget:=Qh (out:=out) hp hl ho
 have hlen:=Qi (out:=out) hp hl ho
 have hold:∀ {i},i∉p→i<H.length→cls H.length p i=.inr i:=λ{i} h1 h2=>by
  cases h:cls H.length p i with
  | inl k =>
   rcases zJ hp hl h with⟨h3,_⟩ |⟨_,h3,_⟩
   ·exact absurd (List.mem_of_getElem? h3) h1
   ·omega
  | inr i'=>rw[(pK hp hl h).1]
 have Zp:∀ {i k},cls H.length p i=.inl k→act (lH ι tO H.length p) (xE H p out) i→act tO out k:=λh ha=>by
  rcases ha with⟨x,ha⟩ | ha
  ·rw[hget,h]at ha
   obtain⟨z,hz,_⟩:=nN ha
   exact .inl ⟨z,hz⟩
  ·rw[(hinl h).2.2.1]at ha
   exact .inr ha
 have Zq:∀ {i i'},cls H.length p i=.inr i'→act (lH ι tO H.length p) (xE H p out) i→act ι H i:=λh ha=>by
  rcases ha with⟨x,ha⟩ | ha
  ·obtain⟨rfl,_⟩:=pK hp hl h
   rw[hget,h]at ha
   exact .inl ⟨x,ha⟩
  ·rw[(hinr h).2.2.1]at ha
   exact .inr ha
 -- what is the caller's alone
 have Pw:∀ {i j},i∉p→act ι H i→ι i=some j→¬own (bZ ι p) j:=λ{i j} h1 h2 h3 h4=>by
  obtain⟨b,q1,q2,q3⟩:=pV h4
  have:=s.inj b i j (.inr q3) h2 q2 h3 (.inl q3)
  subst this
  exact h1 q1
 have stays:∀ {i j},i∉p→act ι H i→ι i=some j→M'.get j=M.get j∧¬own tO j:=λ{i j} h1 h2 h3=>kc.keep.get j (s.lt i j h3).2 (Pw h1 h2 h3)
 have sub:∀j,own (bZ ι p) j→own ι j:=λj h=>by
  obtain⟨b,_,h3,h4⟩:=pV h
  exact⟨b,h3,h4⟩
 have Zr:∀j,own (lH ι tO H.length p) j→own tO j∨(∃i,i∉p∧i<H.length∧ι i=some j∧ι.gone i=false):=λj ⟨i,h1,h2⟩=>by
  cases h:cls H.length p i with
  | inl k =>
   rw[(hinl h).1]at h1
   rw[(hinl h).2.2.1]at h2
   exact .inl ⟨k,h1,h2⟩
  | inr i' =>
   obtain⟨rfl,q1,q2⟩:=pK hp hl h
   rw[(hinr h).1]at h1
   rw[(hinr h).2.2.1]at h2
   exact .inr ⟨i',q1,q2,h1,h2⟩
 have hOO:∀j,OR R (lH ι tO H.length p) j→OR R' tO j:=λj h=>by
  rcases h with h | h
  ·rcases Zr j h with h |⟨i,q1,q2,q3,q4⟩
   ·exact .inl h
   ·exact .inr ((hR' j).2 (.inr ⟨⟨i,q3,q4⟩,Pw q1 (.inr q4) q3⟩))
  ·exact .inr ((hR' j).2 (.inl h))
 have hkeep:Keeps M (own ι) M' (own (lH ι tO H.length p)):=⟨kc.keep.next,λb hb h=>by
  obtain⟨e1,e2⟩:=kc.keep.get b hb (λk=>h (sub b k))
  refine⟨e1,λk=>?_⟩
  rcases Zr b k with k |⟨i,q1,q2,q3,q4⟩
  ·exact e2 k
  ·exact h ⟨i,q3,q4⟩⟩
 have hle:∀S,VI.Le ι (lH ι tO H.length p) S:=λS i _=>by
  by_cases hi:i∈p
  ·obtain⟨k,hk⟩:=List.mem_iff_getElem?.1 hi
   have hc:=zI hp hl hk
   have hkl:=(aC.1 hk).1
   obtain⟨e1,e2,e3,e4⟩:=hinl hc
   have:=kc.le k hkl
   simp only[bZ,hk]at this
   rw[e1,e2,e4]
   exact this
  ·by_cases hlt:i<H.length
   ·obtain⟨e1,e2,e3,e4⟩:=hinr (hold hi hlt)
    rw[e1,e2,e4]
    exact⟨λ_ h=>⟨h,λ_ h=>h⟩,λh=>⟨h,λ_ h=>h⟩⟩
   ·exact⟨λj h=>absurd (s.lt i j h).1 hlt,λh=>absurd (s.nI i h).1 hlt⟩
 have Zt:Via (back p H.length) tO (lH ι tO H.length p):=λk i h=>by
  obtain⟨e1,e2,e3,e4⟩:=hinl (Sv hp hl h)
  rw[e1,e2,e4]
  exact⟨λ_ h=>h,λh=>h,λ_ h=>h⟩
 have hkO:Keeps M' (OR R' tO) M' (OR R (lH ι tO H.length p)):=⟨Nat.le_refl _,λb _ h=>⟨rfl,λk=>h (hOO b k)⟩⟩
 refine⟨⟨λi j h=>?_,λi i' j h h' e e' g=>?_,λi x hx=>?_,λi h=>?_,λi hi c sl h=>?_,sc.LD,λj h=>⟨?_,λi hi=>?_⟩⟩,⟨hkeep,hle _,λi hi h=>?_,λi hi=>?_,λi hi=>?_,λi hi h=>?_,λi hi h=>?_,λi j hi h hj hn=>?_,by rw[hlen];omega⟩,λv a h=>VL.rn hkO Zt v a h⟩
 ·rw[hlen]
  cases hc:cls H.length p i with
  | inl k =>
   rw[(hinl hc).1]at h
   obtain⟨q1,q2⟩:=sc.lt k j h
   refine⟨?_,q2⟩
   rcases zJ hp hl hc with⟨_,h2⟩ |⟨_,h2,rfl⟩<;>omega
  | inr i' =>
   rw[(hinr hc).1]at h
   obtain⟨q1,q2⟩:=s.lt i j h
   exact⟨by omega,Nat.lt_of_lt_of_le q2 kc.keep.next⟩
 ·cases hc:cls H.length p i with
  | inl k =>
   cases hc':cls H.length p i' with
   | inl k' =>
    rw[(hinl hc).1]at e
    rw[(hinl hc').1]at e'
    rw[(hinl hc).2.2.1,(hinl hc').2.2.1]at g
    have:=sc.inj k k' j (Zp hc h) (Zp hc' h') e e' g
    subst this
    exact Vi hp hl hc hc'
   | inr i2 =>
    exfalso
    obtain⟨rfl,q1,q2⟩:=pK hp hl hc'
    have ha:=Zq hc' h'
    rw[(hinl hc).1]at e
    rw[(hinr hc').1]at e'
    rw[(hinl hc).2.2.1,(hinr hc').2.2.1]at g
    rcases g with g | g
    ·exact(stays q1 ha e').2 ⟨k,e,g⟩
    ·exact(sc.res j ((hR' j).2 (.inr ⟨⟨i2,e',g⟩,Pw q1 ha e'⟩))).2 k (Zp hc h) e
  | inr i1 =>
   obtain⟨rfl,q1,q2⟩:=pK hp hl hc
   have ha:=Zq hc h
   rw[(hinr hc).1]at e
   cases hc':cls H.length p i' with
   | inl k' =>
    exfalso
    rw[(hinl hc').1]at e'
    rw[(hinr hc).2.2.1,(hinl hc').2.2.1]at g
    rcases g with g | g
    ·exact(sc.res j ((hR' j).2 (.inr ⟨⟨i1,e,g⟩,Pw q1 ha e⟩))).2 k' (Zp hc' h') e'
    ·exact(stays q1 ha e).2 ⟨k',e',g⟩
   | inr i2 =>
    obtain⟨rfl,q1',q2'⟩:=pK hp hl hc'
    rw[(hinr hc').1]at e'
    rw[(hinr hc).2.2.1,(hinr hc').2.2.1]at g
    exact s.inj i1 i2 j ha (Zq hc' h') e e' g
 ·cases hc:cls H.length p i with
  | inl k =>
   rw[hget,hc]at hx
   obtain⟨z,hz,rfl⟩:=nN hx
   obtain⟨e1,e2,e3,e4⟩:=hinl hc
   rw[e1,e2,e3,e4,Kl]
   rcases sc.blk k z hz with⟨h1,h2,ro,rfl⟩ |⟨j,h1,h2,h3⟩
   ·exact .inl ⟨h1,h2,ro,rfl⟩
   ·exact .inr ⟨j,h1,BL.rn hkO Zt h2,h3⟩
  | inr i' =>
   obtain⟨rfl,q1,q2⟩:=pK hp hl hc
   rw[hget,hc]at hx
   obtain⟨e1,e2,e3,e4⟩:=hinr hc
   rw[e1,e2,e3,e4]
   rcases s.blk i' x hx with h |⟨j,h1,h2,h3⟩
   ·exact .inl h
   ·refine .inr ⟨j,h1, ?_,h3⟩
    rw[(stays q1 (.inl ⟨x,hx⟩) h1).1]
    exact h2.mono (hkeep.or R) hle (λ_ h=>h)
 ·rw[hlen]
  cases hc:cls H.length p i with
  | inl k =>
   rw[(hinl hc).2.1]at h
   rw[(hinl hc).1]
   obtain⟨q1,q2⟩:=sc.nI k h
   refine⟨?_,q2⟩
   rcases zJ hp hl hc with⟨_,h2⟩ |⟨_,h2,rfl⟩<;>omega
  | inr i' =>
   rw[(hinr hc).2.1]at h
   rw[(hinr hc).1]
   obtain⟨q1,q2⟩:=s.nI i h
   exact⟨by omega,q2⟩
 ·cases hc:cls H.length p i with
  | inl k =>
   rw[(hinl hc).2.2.1]at hi
   rw[hget,hc]at h
   obtain⟨z,hz,h2⟩:=nN h
   have hr:=Kl (back p H.length) z
   rw[←h2]at hr
   cases z with
   | cells c' ro sl' =>
    simp only[ji.ro]at hr
    subst hr
    exact sc.kZ k hi c' sl' hz
   | map es=>cases h2
  | inr i' =>
   obtain⟨rfl,q1,q2⟩:=pK hp hl hc
   rw[(hinr hc).2.2.1]at hi
   rw[hget,hc]at h
   exact s.kZ i' hi c sl h
 ·exact Nat.lt_of_lt_of_le (s.res j h).1 kc.keep.next
 ·cases hc:cls H.length p i with
  | inl k =>
   rw[(hinl hc).1]
   exact(sc.res j ((hR' j).2 (.inl h))).2 k (Zp hc hi)
  | inr i' =>
   rw[(hinr hc).1]
   exact(s.res j h).2 i (Zq hc hi)
 ·by_cases hm:i∈p
  ·obtain⟨k,hk⟩:=List.mem_iff_getElem?.1 hm
   rw[(hinl (zI hp hl hk)).2.2.1]
   refine kc.gone k (aC.1 hk).1 ?_
   simp only[bZ,hk]
   exact h
  ·rw[(hinr (hold hm hi)).2.2.1]
   exact h
 ·by_cases hm:i∈p
  ·obtain⟨k,hk⟩:=List.mem_iff_getElem?.1 hm
   rw[(hinl (zI hp hl hk)).1,kc.XI k (aC.1 hk).1]
   simp only[bZ,hk]
  ·rw[(hinr (hold hm hi)).1]
 ·by_cases hm:i∈p
  ·obtain⟨k,hk⟩:=List.mem_iff_getElem?.1 hm
   rw[(hinl (zI hp hl hk)).2.2.2,kc.Nk k (aC.1 hk).1]
   simp only[bZ,hk]
  ·rw[(hinr (hold hm hi)).2.2.2]
 ·by_cases hm:i∈p
  ·obtain⟨x,hx⟩:=hpl i hm
   rw[h]at hx
   cases hx
  ·rw[(hinr (hold hm hi)).2.2.1]
 ·obtain⟨x,h⟩:=h
  by_cases hm:i∈p
  ·obtain⟨k,hk⟩:=List.mem_iff_getElem?.1 hm
   rw[hget,zI hp hl hk]at h
   obtain⟨z,hz,_⟩:=nN h
   exact hbk k i hk (kc.live k (aC.1 hk).1 ⟨z,hz⟩)
  ·rw[hget,hold hm hi]at h
   exact⟨x,h⟩
 ·exact(stays hn (Zq (hold hn hi) h) hj).1
end
mutual
theorem LW{M M':Heap}{O O':Nat→Prop}{κ l7:VI}:∀(v a:AV),kQ v=true→VL M O κ v a→VL M' O' l7 v a
 |.bool _,a,_,h=>by simp only[VL]at h ⊢;exact h
 |.int ..,a,_,h=>by simp only[VL]at h ⊢;exact h
 |.str _,a,_,h=>by simp only[VL]at h ⊢;exact h
 |.ptr none,a,_,h=>by simp only[VL]at h ⊢;exact h
 |.nilFunc,a,_,h=>by simp only[VL]at h ⊢;exact h
 |.slice none s l c e,a,hs,h=>by simp only[VL]at h ⊢;exact h
 |.tuple cs,a,hs,h=>by
  simp only[kQ]at hs
  simp only[VL]at h ⊢
  obtain⟨cs',e,h⟩:=h
  exact⟨cs',e,Dy cs cs' hs h⟩
 |.agg cs,a,hs,h=>by
  simp only[kQ]at hs
  simp only[VL]at h ⊢
  obtain⟨cs',e,h⟩:=h
  exact⟨cs',e,Dy cs cs' hs h⟩
 |.undef,_,hs,_=>by simp[kQ]at hs
 |.ptr (some _),_,hs,_=>by simp[kQ]at hs
 |.slice (some _) _ _ _ _,_,hs,_=>by simp[kQ]at hs
 |.map _,_,hs,_=>by simp[kQ]at hs
 |.func _ _,_,hs,_=>by simp[kQ]at hs
 |.list ..,_,hs,_=>by simp[kQ]at hs
 |.elem _,_,hs,_=>by simp[kQ]at hs
 |.acc ..,_,hs,_=>by simp[kQ]at hs
theorem Dy{M M':Heap}{O O':Nat→Prop}{κ l7:VI}:∀(v a:List AV),LG v=true→aZ M O κ v a→aZ M' O' l7 v a
 | [],[],_,_=>by simp[aZ]
 | [],_::_,_,h=>by simp[aZ]at h
 | _::_,[],_,h=>by simp[aZ]at h
 | v::r,a::l,hs,h=>by
  simp only[LG]at hs
  split at hs
  case h_2=>cases hs
  rename_i hv
  simp only[aZ]at h ⊢
  exact⟨LW v a hv h.1,Dy r l hs h.2⟩
end
theorem VS.ext{R:Nat→Prop}{ι:VI}{H:WH}{M M':Heap}(s:VS R ι H M)(hn:M.next≤M'.next)(hg:∀b,b<M.next→M'.get b=M.get b)(ok:M'.Ok):VS R ι H M'∧Stp H.length [] ι H M ι H M':=by
 have hk:Keeps M (own ι) M' (own ι):=⟨hn,λb hb ho=>⟨hg b hb,ho⟩⟩
 refine⟨⟨λi j h=>⟨(s.lt i j h).1,Nat.lt_of_lt_of_le (s.lt i j h).2 hn⟩,s.inj,λi x hx=>?_,s.nI,s.kZ,ok,λj h=>⟨Nat.lt_of_lt_of_le (s.res j h).1 hn,(s.res j h).2⟩⟩,⟨hk,.refl _ _,λ_ _ h=>h,λ_ _=>rfl,λ_ _=>rfl,λ_ _ _=>rfl,λ_ _ h=>h,λi j _ _ hj _=>?_,Nat.le_refl _⟩⟩
 ·rcases s.blk i x hx with h |⟨j,h1,h2,h3⟩
  ·exact .inl h
  refine .inr ⟨j,h1, ?_,h3⟩
  rw[hg j (s.lt i j h1).2]
  exact h2.mono (hk.or R) (λ_=>.refl _ _) (λ_ h=>h)
 ·exact hg j (s.lt i j hj).2
theorem Sw {C:aW} {g:FuncId} {args as:List AV} {R:Nat→Prop} {ι:VI} {H:WH} {M:Heap} (s:VS R ι H M) (hv:aZ M (OR R ι) ι args as) {ms:List (Option Bool)} {ts:List AV} {v:AV}
  (h0:BD (zT ms (jg args ts) H).2 0 (gM (zT ms (jg args ts) H).1)=[]) (hs:kQ v=true) (hspec:Spec C g (H6 (nH []) (zT ms (jg args ts) H).1) [] v []) :
  ∃a M',C g as M=some (a,M')∧VS R ι H M'∧Stp H.length [] ι H M ι H M'∧VL M' (OR R ι) ι v a:=by
 obtain⟨oV,k1,k2,k3⟩:=BP ms (jg args ts) H ι M as s (aZ.retag _ _ _ hv)
 generalize zT ms (jg args ts) H=q at *
 obtain⟨vs,H2⟩:=q
 simp only at h0 hspec k1 k2 k3
 obtain⟨p1,p2,_⟩:=F3 H2 0 (gM vs)
 rw[h0]at p1 p2
 let R':Nat→Prop:=λj=>R j∨(own oV j∧¬own (bZ oV []) j)
 have hsub:∀j,OR R' (bZ oV []) j→OR R oV j:=λj h=>by
  rcases h with h | h | h
  ·obtain⟨b,_,h3,h4⟩:=pV h
   exact .inl ⟨b,h3,h4⟩
  ·exact .inr h
  ·exact .inl h.1
 have hpick:=k1.pick p1 (R':=R') (λj h=>by
  rcases h with h |⟨⟨i,q1,q2⟩,q3⟩
  ·exact⟨(k1.res j h).1,λb _ hb=>(k1.res j h).2 b hb⟩
  ·exact⟨(k1.lt i j q1).2,λb hb=>(nomatch hb)⟩) hsub
 have hargs:aZ M (OR R' (bZ oV [])) (bZ oV []) (H6 (nH []) vs) as:=aZ.rn ⟨Nat.le_refl _,λb _ h=>⟨rfl,λk=>h (hsub b k)⟩⟩ (by have:=@r_;rw[←h0];exact r_) _ _ k3
 obtain⟨a,M',tO,e,q1,q2,q3⟩:=hspec R' (bZ oV []) M as hpick hargs
 have hno:∀b,¬own (bZ oV []) b:=λb h=>by
  obtain⟨c,hc,_⟩:=pV h
  exact(nomatch hc)
 obtain⟨e1,e2⟩:=s.ext q2.keep.next (λb hb=>(q2.keep.get b hb (hno b)).1) q1.LD
 exact⟨a,M',e,e1,e2,LW v a hs q3⟩
mutual
theorem Jm{M M':Heap}{O O':Nat→Prop}{κ:VI}:∀(v a:AV),clean v=true→VL M O κ v a→VL M' O' κ v a
 |.bool _,a,_,h=>by simp only[VL]at h ⊢;exact h
 |.int ..,a,_,h=>by simp only[VL]at h ⊢;exact h
 |.str _,a,_,h=>by simp only[VL]at h ⊢;exact h
 |.ptr none,a,_,h=>by simp only[VL]at h ⊢;exact h
 |.ptr (some _),a,_,h=>by simp only[VL]at h ⊢;exact h
 |.nilFunc,a,_,h=>by simp only[VL]at h ⊢;exact h
 |.slice none s l c e,a,hs,h=>by simp only[VL]at h ⊢;exact h
 |.slice (some _) s l c e,a,hs,h=>by simp only[VL]at h
 |.map none,a,_,h=>by simp only[VL]at h ⊢;exact h
 |.map (some _),a,_,h=>by simp only[VL]at h ⊢;exact h
 |.undef,_,_,_=>by simp[VL]
 |.acc ..,a,_,h=>by simp only[VL]at h ⊢;exact h
 |.tuple cs,a,hs,h=>by
  simp only[clean]at hs
  simp only[VL]at h ⊢
  obtain⟨cs',e,h⟩:=h
  exact⟨cs',e,sM cs cs' hs h⟩
 |.agg cs,a,hs,h=>by
  simp only[clean]at hs
  simp only[VL]at h ⊢
  obtain⟨cs',e,h⟩:=h
  exact⟨cs',e,sM cs cs' hs h⟩
 |.func f cs,a,hs,h=>by
  simp only[clean]at hs
  simp only[VL]at h ⊢
  obtain⟨cs',e,h⟩:=h
  exact⟨cs',e,sM cs cs' hs h⟩
 |.list ..,_,hs,_=>by simp[clean]at hs
 |.elem _,_,hs,_=>by simp[clean]at hs
theorem sM{M M':Heap}{O O':Nat→Prop}{κ:VI}:∀(v a:List AV),nJ v=true→aZ M O κ v a→aZ M' O' κ v a
 | [],[],_,_=>by simp[aZ]
 | [],_::_,_,h=>by simp[aZ]at h
 | _::_,[],_,h=>by simp[aZ]at h
 | v::r,a::l,hs,h=>by
  simp only[nJ]at hs
  split at hs
  case h_2=>cases hs
  rename_i hv
  simp only[aZ]at h ⊢
  exact⟨Jm v a hv h.1,sM r l hs h.2⟩
end
theorem VS.Zu{R R':Nat→Prop}{ι:VI}{H:WH}{M:Heap}(s:VS R ι H M)(hc:∀i x,bD H i=some x→∃c sl,x=.cells c false sl∧nJ c=true)(h:∀j,R' j→R j∨(j<M.next∧¬own ι j)):VS R' ι H M:=by
 refine⟨s.lt,s.inj,λi x hx=>?_,s.nI,s.kZ,s.LD,λj hj=>?_⟩
 ·rcases s.blk i x hx with h |⟨j,h1,h2,h3⟩
  ·exact .inl h
  obtain⟨c,sl,rfl,hcl⟩:=hc i x hx
  obtain⟨c',t,ro',sl',L,e,g0,g1,g2,g3,g4⟩:=h2
  exact .inr ⟨j,h1,⟨c',t,ro',sl',L,e,g0,g1,g2,sM c c' hcl g3,g4⟩,h3⟩
 ·rcases h j hj with h |⟨h,ho⟩
  ·exact s.res j h
  refine⟨h,λi ha hi=>ho ⟨i,hi, ?_⟩⟩
  rcases ha with⟨x,hx⟩ | ha
  ·obtain⟨c,sl,rfl,_⟩:=hc i x hx
   rcases s.blk i _ hx with⟨q,_⟩ |⟨j',_,_,q⟩
   ·rw[(s.nI i q).2]at hi
    cases hi
   ·exact q rfl
  ·exact ha
theorem BU:∀ {out:WH} {k:TS→Prop} {tr:TS},Jb out k tr→(∃fO,k fO)∧∀i x,bD out i=some x→∃c sl,x=.cells c false sl∧nJ c=true
 | [],k,tr,h=>⟨⟨tr,h⟩,λi x hx=>by simp[bD]at hx⟩
 | none::r,k,tr,h=>by
  obtain⟨h1,h2⟩:=BU (out:=r) h
  refine⟨h1,λi x hx=>?_⟩
  cases i with
  | zero=>simp[bD]at hx
  | succ i=>exact h2 i x hx
 | some (.map _)::_,k,tr,h=>h.elim
 | some (.cells c ro sl)::r,k,tr,h=>by
  have fin:nJ c=true→ro=false→(∀i x,bD r i=some x→∃c sl,x=.cells c false sl∧nJ c=true)→∀i x,bD (some (.cells c ro sl)::r) i=some x→∃c sl,x=.cells c false sl∧nJ c=true:=λhc hr h2 i x hx=>by
   cases i with
   | zero =>
    simp only[bD,au]at hx
    subst hr
    exact⟨c,sl,hx.symm,hc⟩
   | succ i=>exact h2 i x hx
  simp only[Jb]at h
  cases ro
  case true=>cases sl<;>exact h.elim
  cases sl
  ·simp only at h
   split at h
   case h_2=>exact h.elim
   rename_i hc
   obtain⟨h1,h2⟩:=BU (out:=r) h
   exact⟨h1,fin hc rfl h2⟩
  ·obtain⟨fO,hc,h⟩:=gq h
   obtain⟨h1,h2⟩:=BU (out:=r) h
   exact⟨h1,fin hc rfl h2⟩
theorem LX{S:List Nat}:∀ {p:List Nat},apart S p=true→∀b∈p,kK S b=false
 | [],_,b,hb=>by cases hb
 | a::p,h,b,hb=>by
  simp only[apart]at h
  split at h
  ·cases h
  rename_i ha
  rcases List.mem_cons.1 hb with rfl | hb
  ·exact ha
  ·exact LX h b hb
theorem F5{H:WH}:∀ {bs:List Bool} {vs:List AV} {q:List AV×List Nat},BF H bs vs=some q→∀b∈q.2,∃x,bD H b=some x
 | bs,[],q,h=>by
  simp only[BF,au]at h
  subst h
  intro b hb
  cases hb
 | bs,v::r,q,h=>by
  simp only[BF]at h
  split at h
  case h_2=>cases h
  rename_i q' hq
  have i:=F5 hq
  split at h
  ·simp only[au]at h
   subst h
   exact i
  ·split at h
   case h_2=>cases h
   rename_i p hp
   simp only[au]at h
   subst h
   intro b hb
   rcases List.mem_append.1 hb with hb | hb
   ·exact jZ 5 false v p hp b hb
   ·exact i b hb
theorem Dz{R:Nat→Prop}{ι:VI}{H:WH}{M:Heap}(s:VS R ι H M)(S:List Nat)(hS:∀b∈S,∃x,bD H b=some x):∀ {bs:List Bool} {vs as:List AV} {q:List AV×List Nat},BF H bs vs=some q→(∀b∈q.2,b∈S)→aZ M (OR R ι) ι vs as→aZ M (OR R (ι.kZ S)) (ι.kZ S) q.1 as
 | bs,[],as,q,h,_,hv=>by
  simp only[BF,au]at h
  subst h
  cases as with
  | nil=>simp[aZ]
  | cons=>simp[aZ]at hv
 | bs,v::r,as,q,h,hq,hv=>by
  cases as with
  | nil=>simp[aZ]at hv
  | cons a as =>
  simp only[aZ]at hv
  simp only[BF]at h
  split at h
  case h_2=>cases h
  rename_i q' hq'
  obtain⟨_,h2⟩:=s.Nr S hS
  split at h
  ·simp only[au]at h
   subst h
   simp only[aZ]
   exact⟨VL.step s h2 hv.1,Dz s S hS hq' hq hv.2⟩
  ·split at h
   case h_2=>cases h
   rename_i p hp
   simp only[au]at h
   subst h
   simp only[aZ]
   refine⟨?_,Dz s S hS hq' (λb hb=>hq b (List.mem_append_right _ hb)) hv.2⟩
   refine Kj s (O':=OR R (ι.kZ S)) (λj h=>h.imp BM id) (l7:=ι.kZ S) (FX _ _ _) 5 false v p a hp hv.1 (λb hb j hj=>?_)
   have lv:=jZ 5 false v p hp b hb
   rintro(⟨i,q1,q2⟩ | hR)
   ·simp only[VI.kZ,Bool.or_eq_false_iff]at q1 q2
    have:=s.inj i b j (.inr q2.1) (.inl lv) q1 hj (.inl q2.1)
    subst this
    rw[nL.2 (hq i (List.mem_append_left _ hb))]at q2
    cases q2.2
   ·exact(s.res j hR).2 b (.inl lv) hj
theorem Sy {C:aW} {g:FuncId} {vs0 as:List AV} {R:Nat→Prop} {ι:VI} {H:WH} {M:Heap} (s:VS R ι H M) (hv:aZ M (OR R ι) ι vs0 as) {ls:List Bool} {q:List AV×List Nat} (hq:BF H ls vs0=some q) {p:List Nat}
  (hp:BD (rD H q.2) 0 (gM q.1)=p) {v:AV} {out:WH} (ho:p.length≤out.length) (ha:apart q.2 p=true) (hc:clean v=true) (hco:∀i x,bD out i=some x→∃c sl,x=.cells c false sl∧nJ c=true)
  (hspec:Spec C g (H6 (nH p) q.1) (lS (rD H q.2) p p) v out) :
  ∃a M' aV,C g as=(λM=>C g as M)∧C g as M=some (a,M')∧VS R aV (xE H p out) M'∧Stp H.length p ι H M aV (xE H p out) M'∧VL M' (OR R aV) aV (rn (back p H.length) v) a:=by
 have hlive:=F5 hq
 obtain⟨k1,k2⟩:=s.Nr q.2 hlive
 have k3:=Dz s q.2 hlive hq (λ_ h=>h) hv
 obtain⟨p1,p2,_⟩:=F3 (rD H q.2) 0 (gM q.1)
 rw[hp]at p1 p2
 have hap:=LX ha
 have hpk:bZ (ι.kZ q.2) p=bZ ι p:=by
  unfold bZ VI.kZ
  congr 1
  funext k
  cases e:p[k]? with
  | none=>rfl
  | some b =>
   simp only
   rw[hap b (List.mem_of_getElem? e),Bool.or_false]
 have hpl:∀b,b∈p→∃x,bD H b=some x:=λb hb=>by
  obtain⟨y,hy⟩:=(p2 b hb).resolve_left (by omega)
  rw[sK]at hy
  split at hy
  ·obtain⟨z,hz,_⟩:=zF hy
   exact⟨z,hz⟩
  ·exact⟨y,hy⟩
 have hl:∀b,b∈p→b<H.length:=λb hb=>by
  obtain⟨x,hx⟩:=hpl b hb
  exact kG hx
 let R':Nat→Prop:=λj=>R j∨(own (ι.kZ q.2) j∧¬own (bZ (ι.kZ q.2) p) j)
 have hsub:∀j,OR R' (bZ (ι.kZ q.2) p) j→OR R (ι.kZ q.2) j:=λj h=>by
  rcases h with h | h | h
  ·obtain⟨b,_,h3,h4⟩:=pV h
   exact .inl ⟨b,h3,h4⟩
  ·exact .inr h
  ·exact .inl h.1
 have hpick:=k1.pick p1 (R':=R') (λj h=>by
  rcases h with h |⟨⟨i,q1,q2⟩,q3⟩
  ·exact⟨(k1.res j h).1,λb _ hb=>(k1.res j h).2 b hb⟩
  ·refine⟨(k1.lt i j q1).2,λb hb ha hj=>?_⟩
   have:=k1.inj i b j (.inr q2) ha q1 hj (.inl q2)
   subst this
   obtain⟨k,hk⟩:=List.mem_iff_getElem?.1 hb
   exact q3 ⟨k,by simp only[bZ,hk];exact hj,by simp only[bZ,hk];exact q2⟩) hsub
 have hargs:aZ M (OR R' (bZ (ι.kZ q.2) p)) (bZ (ι.kZ q.2) p) (H6 (nH p) q.1) as:=aZ.rn ⟨Nat.le_refl _,λb _ h=>⟨rfl,λk=>h (hsub b k)⟩⟩ r_ _ _ k3
 obtain⟨a,M',tO,e,q1,q2,q3⟩:=hspec R' (bZ (ι.kZ q.2) p) M as hpick hargs
 rw[oZ]at q2
 let R2:Nat→Prop:=λj=>R j∨(own ι j∧¬own (bZ ι p) j)
 have q4:VS R2 tO out M':=q1.Zu hco λj hj=>by
  rcases hj with hj |⟨⟨i,g1,g2⟩,g3⟩
  ·exact .inl (.inl hj)
  ·have lt:=(s.lt i j g1).2
   refine .inr ⟨Nat.lt_of_lt_of_le lt q2.keep.next,(q2.keep.get j lt ?_).2⟩
   rw[hpk]
   exact g3
 have q5:VL M' (OR R2 tO) tO v a:=Jm v a hc q3
 rw[hpk]at q2
 obtain⟨u1,u2,u3⟩:=Pv (R:=R) (R':=R2) p1 hl ho (λj=>Iff.rfl) s q4 q2 hpl (λk b hk ⟨x,hx⟩=>hpl b (List.mem_of_getElem? hk))
 exact⟨a,M',_,rfl,e,u1,u2,u3 v a q5⟩
theorem Sz {C:aW} {g:FuncId} {args as:List AV} {R:Nat→Prop} {ι:VI} {H:WH} {M:Heap} (s:VS R ι H M) (hv:aZ M (OR R ι) ι args as) {tr:TS} {k:AV→WH→List Nat→TS→Prop} (h:R_ C g args H tr k) :
  ∃a M' aV v H' t fO,C g as M=some (a,M')∧VS R aV H' M'∧Stp H.length t ι H M aV H' M'∧VL M' (OR R aV) aV v a∧k v H' t fO:=by
 unfold R_ at h
 split at h
 case h_2 =>
  rename_i ms ls ts v out r
  simp only at h
  obtain⟨iC,h1,h2,h3⟩:=BP ms (jg args ts) H ι M as s (aZ.retag _ _ _ hv)
  generalize zT ms (jg args ts) H=q0 at *
  obtain⟨vs,H1⟩:=q0
  simp only at h h1 h2 h3
  split at h
  case h_2=>exact h.elim
  rename_i q hq
  split at h
  case h_2=>exact h.elim
  rename_i e1 e2 e3
  obtain⟨⟨tr1,h⟩,hco⟩:=BU h
  obtain⟨fO,hspec,hk⟩:=gq h
  obtain⟨a,M',aV,_,f1,f2,f3,f4⟩:=Sy h1 h3 hq rfl (Nat.le_of_ble_eq_true e1) e2 e3 hco hspec
  refine⟨a,M',aV,_,_,_,_,f1,f2, ?_,f4,hk⟩
  exact h2.trans f3 h2.next
 case h_3 =>
  rename_i ms ts v r
  simp only at h
  split at h
  case h_2=>exact h.elim
  rename_i e1 e2
  obtain⟨fO,h⟩:=gq h
  obtain⟨a,M',f1,f2,f3,f4⟩:=Sw s hv e1 e2 h.1
  exact⟨a,M',ι,v,H,[],fO,f1,f2,f3,f4,h.2⟩
 case h_4=>exact h.elim
 rename_i ms m ts v out r
 obtain⟨iC,h1,h2,h3⟩:=BP ms (jg args ts) H ι M as s (aZ.retag _ _ _ hv)
 generalize hr:zT ms (jg args ts) H=q at *
 obtain⟨vs,H1⟩:=q
 simp only at h h1 h2 h3
 obtain⟨oV,k1,k2⟩:=BQ [] m (BD H1 0 (gM vs)) H1 iC M h1
 have k3:=aZ.step h1 k2 h3
 generalize Eo [] m (BD H1 0 (gM vs)) H1=H2 at *
 obtain⟨p1,p2,_⟩:=F3 H2 0 (gM vs)
 generalize BD H2 0 (gM vs)=p at *
 split at h
 case h_2=>exact h.elim
 rename_i ho
 have ho:=Nat.le_of_ble_eq_true ho
 obtain⟨fO,hspec,hk⟩:=gq h
 have hl:∀b,b∈p→b<H2.length:=λb hb=>by
  rcases p2 b hb with h |⟨y,h⟩
  ·omega
  ·exact kG h
 let R':Nat→Prop:=λj=>R j∨(own oV j∧¬own (bZ oV p) j)
 have hsub:∀j,OR R' (bZ oV p) j→OR R oV j:=λj h=>by
  rcases h with h | h | h
  ·obtain⟨b,_,h3,h4⟩:=pV h
   exact .inl ⟨b,h3,h4⟩
  ·exact .inr h
  ·exact .inl h.1
 have hpick:=k1.pick p1 (R':=R') (λj h=>by
  rcases h with h |⟨⟨i,q1,q2⟩,q3⟩
  ·exact⟨(k1.res j h).1,λb _ hb=>(k1.res j h).2 b hb⟩
  ·refine⟨(k1.lt i j q1).2,λb hb ha hj=>?_⟩
   have:=k1.inj i b j (.inr q2) ha q1 hj (.inl q2)
   subst this
   obtain⟨k,hk⟩:=List.mem_iff_getElem?.1 hb
   exact q3 ⟨k,by simp only[bZ,hk];exact hj,by simp only[bZ,hk];exact q2⟩) hsub
 have hargs:aZ M (OR R' (bZ oV p)) (bZ oV p) (H6 (nH p) vs) as:=aZ.rn ⟨Nat.le_refl _,λb _ h=>⟨rfl,λk=>h (hsub b k)⟩⟩ r_ _ _ k3
 obtain⟨a,M',tO,e,q1,q2,q3⟩:=hspec R' (bZ oV p) M as hpick hargs
 rw[oZ]at q2
 obtain⟨u1,u2,u3⟩:=Pv (R:=R) (R':=R') p1 hl ho (λj=>Iff.rfl) k1 q1 q2 (λb hb=>(p2 b hb).resolve_left (by omega)) (λk b hk ⟨x,hx⟩=>by
  rw[jS,hk]at hx
  obtain⟨z,hz,_⟩:=nN hx
  exact⟨z,hz⟩)
 refine⟨a,M',_,_,_,_,_,e,u1, ?_,u3 v a q3,hk⟩
 have:=(h2.trans k2 h2.next).trans u2 (Nat.le_trans h2.next k2.next)
 simpa using this
def Nv(C:aW)(f:FuncId)(b:Bt):Prop:=∀(R:Nat→Prop) (ι:VI) (H:WH) (M:Heap) (args as:List AV) (d:Option Nat) (tr:TS) (k:AV→WH→List Nat→TS→Prop),VS R ι H M→aZ M (OR R ι) ι args as→Zi b d args H tr k →
 ∃a M' aV v H' t fO,C f as M=some (a,M')∧VS R aV H' M'∧Stp H.length t ι H M aV H' M'∧VL M' (OR R aV) aV v a∧k v H' t fO
theorem Km{R:Nat→Prop}{d:Option Nat}{x:Option AV}{tr:TS}{k:AV→TS→Prop}(h:Y3 d x tr k):∃v u fO,x=some v∧k u fO∧∀(M:Heap) (O:Nat→Prop) (κ:VI) (a:AV),VL M O κ v a→VL M O κ u a:=by
 have plain:∀ {tr},(match x with | some v=>k v tr | none=>False)→∃v u fO,x=some v∧k u fO∧∀(M:Heap) (O:Nat→Prop) (κ:VI) (a:AV),VL M O κ v a→VL M O κ u a:=λ{tr} h=>by
  cases x with
  | none=>exact h.elim
  | some v=>exact⟨v,v,tr,rfl,h,λ_ _ _ _ h=>h⟩
 unfold Y3 at h
 split at h
 ·split at h
  ·obtain⟨fO,h⟩:=gq h
   exact⟨_,_,_,h.1,h.2,λ_ _ _ _ h=>h⟩
  ·exact plain h
 ·split at h
  ·split at h
   ·rename_i v
    exact⟨v,_,_,rfl,h,λ_ _ _ _ h=>VL.retag _ _ _ h⟩
   ·exact h.elim
  ·exact plain h
 ·exact plain h
theorem Px{d:Option Nat}{n:Nat}{cs:List AV}{tr:TS}{k:Nat→List AV→TS→Prop}(h:Qc d n cs tr k):∃fO,k n cs fO:=by
 unfold Qc at h
 split at h
 ·split at h
  ·obtain⟨_,rfl,h⟩:=gq h
   obtain⟨_,rfl,h⟩:=gq h
   exact⟨_,h⟩
  ·exact⟨_,h⟩
 ·exact⟨_,h⟩
theorem uO{M:Heap}{O:Nat→Prop}{κ:VI}:∀ {l r:List AV},l.all AV.flat=true→aZ M O κ l r→aZ M O VI.none l r
 | [],[],_,_=>by simp[aZ]
 | v::l,a::r,h,e=>by
  simp only[List.all_cons,Bool.and_eq_true]at h
  simp only[aZ]at e ⊢
  refine⟨?_,uO h.2 e.2⟩
  have h1:=h.1
  have e1:=e.1
  cases v with
  | ptr p=>cases p<;>simp_all [AV.flat,VL]
  | slice p=>cases p<;>simp_all [AV.flat,VL]
  | map p=>cases p<;>simp_all [AV.flat,VL]
  | func f cs =>
   cases cs with
   | nil =>
    simp only[VL]at e1 ⊢
    obtain⟨cs',rfl,e1⟩:=e1
    refine⟨cs',rfl, ?_⟩
    cases cs' with
    | nil=>simp[aZ]
    | cons _ _=>simp[aZ]at e1
   | cons _ _=>simp[AV.flat]at h1
  | _=>simp_all [AV.flat,VL]
 | [],_::_,_,e=>by simp[aZ]at e
 | _::_,[],_,e=>by simp[aZ]at e
theorem yI(z:List AV):∀n,(je n z).length=n*z.length
 | 0=>by simp[je]
 | n+1=>by simp only[je,aF,yI z n,Nat.add_mul,Nat.one_mul];omega
section
variable {R:Nat→Prop} {ι:VI} {H:WH} {M:Heap} (s:VS R ι H M) {ρ σ:Nat→AV} (h:∀t,VL M (OR R ι) ι (ρ t) (σ t))
include s h
theorem F6 {sz:Nat}:∀ {ps:List (Nat×AX)} {cs cs' l:List AV},(ps.all λp=>p.2.bE)=true→aZ M (OR R ι) ι cs cs' →
  kF cs (ps.map λp=>(p.1*sz,sz,(p.2.sub ρ).ev []))=some l→∃l',kF cs' (ps.map λp=>(p.1*sz,sz,(p.2.sub σ).ev []))=some l'∧aZ M (OR R ι) ι l l'
 | [],cs,cs',l,_,hr,hf=>by
  simp only[List.map_nil,kF,au]at hf ⊢
  subst hf
  exact⟨cs',rfl,hr⟩
 | p::ps,cs,cs',l,hc,hr,hf=>by
  simp only[List.all_cons,Bool.and_eq_true]at hc
  simp only[List.map_cons,kF]at hf ⊢
  split at hf
  case h_2=>cases hf
  rename_i x hx
  split at hf
  case isFalse=>cases hf
  rename_i hle
  obtain⟨x',hx',Zl⟩:=(bI h hc.1).cells hx
  rw[hx']
  simp only
  rw[if_pos (by rw[←Zl.length,←hr.length];exact hle)]
  refine F6 hc.2 ?_ hf
  exact((hr.take _).append Zl).append (hr.drop _)
theorem XQ {d:Option Nat} {o:xA} (hc:o.bE=true) {tr:TS} {k:ji→(Nat→AV)→TS→Prop} (hv:wK d (o.sub ρ) tr k) :
  ∃c sl mk c' sl' mkA fO,k (.cells c false sl) mk fO∧aK (o.sub σ) []=some (.cells c' false sl',mkA)∧aZ M (OR R ι) (if sl then VI.none else ι) c c'∧(sl=false→sl'=false) ∧
   ∀(M':Heap) (O:Nat→Prop) (κ:VI) (b j:Nat),κ b=some j→κ.dim b=some (c.length,c'.length)→VL M' O κ (mk b) (mkA.val j):=by
 have Py:∀(c c':List AV) (M':Heap) (O:Nat→Prop) (κ:VI) (b j:Nat),κ b=some j→κ.dim b=some (c.length,c'.length)→VL M' O κ (.ptr (some (b,0))) (Mk.ptr.val j):=λc c' M' O κ b j h1 _=>by
  simp only[Mk.val,VL]
  exact⟨j,h1,rfl⟩
 have SA:∀(c c':List AV) (sz n:Nat) (ex:Bool),c.length=n*sz→n*sz≤c'.length→∀(M':Heap) (O:Nat→Prop) (κ:VI) (b j:Nat),κ b=some j→κ.dim b=some (c.length,c'.length)→VL M' O κ (.acc b 0 sz n true) ((Mk.slice sz n n ex).val j):=λc c' sz n ex h0 hL M' O κ b j h1 h2=>by
  simp only[Mk.val,VL]
  exact⟨_,_,_,_,rfl,Nat.le_refl _,(λh=>by cases h),λ_=>rfl,_,_,h2,by omega,λ_=>⟨trivial,h0.symm⟩,.inl ⟨j,h1,.inl ⟨rfl,by omega⟩⟩⟩
 cases o with
 | alloc zero =>
  have hz:aZ M (OR R ι) ι zero zero:=aZ.const zero hc
  simp only[xA.sub,wK]at hv
  split at hv
  ·split at hv
   ·rename_i t r _
    exact⟨_,false,_,zero,false,.ptr,_,hv,rfl,aZ.retag _ _ _ hz,(λ_=>rfl),Py _ _⟩
   ·exact⟨_,false,_,zero,false,.ptr,_,hv,rfl,hz,(λ_=>rfl),Py _ _⟩
  ·exact⟨_,false,_,zero,false,.ptr,_,hv,rfl,hz,(λ_=>rfl),Py _ _⟩
 | box x =>
  have hx:=bI h hc
  simp only[xA.sub,wK]at hv
  split at hv
  case h_2=>exact hv.elim
  rename_i cs hcs
  obtain⟨cs',h1,h2⟩:=hx.cells hcs
  exact⟨cs,false,_,cs',false,.ptr,_,hv,by simp only[xA.sub,aK,h1,aG],h2,(λ_=>rfl),Py _ _⟩
 | buildSlice sz len zero parts =>
  simp only[xA.bE,Bool.and_eq_true]at hc
  simp only[xA.sub,wK,List.map_map]at hv
  split at hv
  case h_2=>exact hv.elim
  rename_i cs hcs
  split at hv
  case h_2=>exact hv.elim
  rename_i hz
  have hz:=aM hz
  obtain⟨cs',h1,h2⟩:=F6 s h hc.2 (aZ.je (M:=M) (O:=OR R ι) (κ:=ι) hc.1 len) hcs
  have hlen:∀ {l:List (Nat×Nat×AV)} {c c':List AV},kF c l=some c'→c'.length=c.length:=by
   intro l
   induction l with
   | nil=>intro c c' e;simp only[kF,au]at e;rw[e]
   | cons q l ih =>
    intro c c' e
    simp only[kF]at e
    split at e
    case h_2=>cases e
    split at e
    case isFalse=>cases e
    rename_i hle
    rw[ih e]
    simp only[aF,aJ,aO]
    omega
  have hl:=hlen hcs
  rw[yI,hz]at hl
  refine⟨cs,false,_,cs',false,.slice sz len len true,_,hv, ?_,h2,(λ_=>rfl),SA _ _ _ _ _ hl (by rw[←h2.length,hl];exact Nat.le_refl _)⟩
  simp only[xA.sub,aK,List.map_map]
  have e:(λp:Nat×AV=>(p.1*sz,sz,p.2))=λp=>(p.1*sz,sz,p.2):=rfl
  rw[show(kF (je len zero) (parts.map ((λp=>(p.1*sz,sz,p.2.ev []))∘λp=>(p.1,p.2.sub σ))))=some cs' from h1]
  rfl
 | makeSlice sz bytes zero l c =>
  simp only[xA.bE,Bool.and_eq_true]at hc
  have hl:=bI h hc.1.2
  have hcc:=bI h hc.2
  simp only[xA.sub,wK]at hv
  split at hv
  case h_2=>exact hv.elim
  rename_i d' n cs r
  split at hv
  case h_2=>exact hv.elim
  split at hv
  case h_2=>exact hv.elim
  rename_i hz hfl
  obtain⟨_,⟨e1,e2,e3,e4⟩,hv⟩:=gq hv
  obtain⟨_,rfl,hk⟩:=gq hv
  rw[e1]at hl
  rw[e2]at hcc
  have hz:=aM hz
  refine⟨_,true,_,je n zero,false,.slice sz n n true,_,hk, ?_, ?_,(λh=>by cases h),SA _ _ _ _ _ (by rw[yI,hz]) (by rw[yI,hz];exact Nat.le_refl _)⟩
  ·simp only[xA.sub,aK,hl.eq rfl,hcc.eq rfl,vW]
   rw[if_pos (by simp;omega)]
   rfl
  ·exact uO (κ:=ι) (by
    have:∀n,(je n zero).all AV.flat=true:=λn=>by
     induction n with
     | zero=>rfl
     | succ n ih=>simp only[je,List.all_append,hfl,ih,Bool.and_self]
    exact this n) (aZ.je hc.1.1 n)
 | jo x =>
  have hx:=bI h hc
  simp only[xA.sub,wK]at hv
  split at hv
  case h_2=>exact hv.elim
  rename_i t ht
  obtain⟨_,h1,h2⟩:=gq hv
  rw[ht]at hx
  refine⟨_,true,_,t.map λb=>.int .u8 b.toNat,true,.slice 1 t.length t.length false,_,h2,by simp only[xA.sub,aK,hx.eq rfl,if_pos h1], ?_,(λh=>by cases h),SA _ _ _ _ _ (by simp) (by simp)⟩
  have:∀t:List UInt8,aZ M (OR R ι) VI.none (t.map λb=>AV.int .u8 b.toNat) (t.map λb=>AV.int .u8 b.toNat):=λt=>by
   induction t with
   | nil=>simp[aZ]
   | cons b t ih=>simp only[List.map_cons,aZ,VL];exact⟨trivial,ih⟩
  exact this t
 | makeMap=>simp[xA.sub,wK]at hv
end
theorem BL.of{R:Nat→Prop}{ι:VI}{M:Heap}{c c':List AV}{sl sl':Bool}(hr:aZ M (OR R ι) (if sl then VI.none else ι) c c')(hs:sl=false→sl'=false):BL M (OR R ι) ι (some (c.length,c'.length)) (.cells c false sl) (some (.cells c' false sl')) :=
 ⟨c',[],false,sl',c'.length,by simp,λ_=>rfl,rfl,by simp,hr,hs⟩
theorem Vj{c cs c':List AV}{o:Nat}(h:Pf c o cs=some c'):o+cs.length≤c.length∧c'=c.take o++cs++c.drop (o+cs.length)∧c'.length=c.length:=by
 unfold Pf at h
 split at h
 case isFalse=>cases h
 rename_i hle
 obtain rfl:=aj h
 refine⟨hle,rfl, ?_⟩
 simp only[aF,aJ,aO]
 omega
theorem SB {R:Nat→Prop} {ι:VI} {H:WH} {M:Heap} (s:VS R ι H M) {b j o:Nat} (hb:ι b=some j) {c:List AV} {sl:Bool} (hg:bD H b=some (.cells c false sl)) {cs cs' c':List AV} (hcs:aZ M (OR R ι) (if sl then VI.none else ι) cs cs') (h:Pf c o cs=some c') :
  ∃M',M.write j o cs'=some M'∧VS R ι (dP H b (some (.cells c' false sl))) M'∧Stp H.length [b] ι H M ι (dP H b (some (.cells c' false sl))) M':=by
 obtain⟨h1,h2,h3⟩:=Vj h
 obtain⟨d,t,ro',sl',L,g1,g2,g3,g4,g5⟩:=s.at hb hg
 obtain⟨rfl,_⟩:=g2 rfl
 have hl:=g5.length
 have hl':=hcs.length
 have e:(d++t).take o++cs'++(d++t).drop (o+cs'.length)=(d.take o++cs'++d.drop (o+cs'.length))++t:=by
  rw[List.take_append_of_le_length (by omega),List.drop_append_of_le_length (by omega)]
  simp only[bG]
 have hbl:BL M (OR R ι) ι (ι.dim b) (.cells c' false sl) (some (.cells ((d++t).take o++cs'++(d++t).drop (o+cs'.length)) false sl')):=by
  refine⟨d.take o++cs'++d.drop (o+cs'.length),t,false,sl',L,by rw[e],λ_=>rfl,by rw[h3];exact g3, ?_, ?_,λh=>s.Zm hb hg g1 h⟩
  ·simp only[aF,aJ,aO]at g4 ⊢
   omega
  ·rw[h2,hl']
   exact((g5.take o).append hcs).append (g5.drop _)
 obtain⟨q1,q2⟩:=s.put hb hg hbl
 refine⟨_, ?_,q1,q2⟩
 unfold Heap.write
 rw[g1]
 simp only
 rw[if_pos (by simp only[aF];omega)]
theorem Qj {R:Nat→Prop} {ι:VI} {H:WH} {M:Heap} (s:VS R ι H M) {n:Nat} {a v a' v':AV} (ha:VL M (OR R ι) ι a a') (hv:VL M (OR R ι) ι v v') {tr:TS} {k:AV→WH→List Nat→TS→Prop} {C:aW} {B:FuncId→Option Bt} {d:Option Nat}
  (h:wN C B d (.store n (.c a) (.c v)) H tr k):∃r M' aV u H' t fO,Fp n a' v' M=some (r,M')∧VS R aV H' M'∧Stp H.length t ι H M aV H' M'∧VL M' (OR R aV) aV u r∧k u H' t fO:=by
 simp only[wN,AX.ev]at h
 split at h
 case h_2=>exact h.elim
 rename_i b off cs hcs
 split at h
 case h_2=>exact h.elim
 rename_i hn
 have hn:=aM hn
 split at h
 case h_2=>exact h.elim
 split at h
 case h_2=>exact h.elim
 rename_i c sl hg
 simp only[VL]at ha
 obtain⟨j,hj,rfl⟩:=ha
 obtain⟨cs',e1,e2⟩:=hv.cells hcs
 have fin:∀(iC:VI) (H1:WH) (x c':List AV) (r:TS),VS R iC H1 M→Stp H.length [] ι H M iC H1 M→H1.length=H.length→bD H1 b=some (.cells c false sl)→aZ M (OR R iC) (if sl then VI.none else iC) x cs'→Pf c off x=some c'→k (.tuple []) (dP H1 b (some (.cells c' false sl))) [b] r →
   ∃r M' aV u H' t fO,Fp n (.ptr (some (j,off))) v' M=some (r,M')∧VS R aV H' M'∧Stp H.length t ι H M aV H' M'∧VL M' (OR R aV) aV u r∧k u H' t fO:=by
  intro iC H1 x c' r s1 k1 hlen hg1 hx hw hk
  have hj1:=((k1.le b (kG hg)).1 j hj).1
  obtain⟨M',q1,q2,q3⟩:=SB s1 hj1 hg1 hx hw
  refine⟨.tuple [],M',iC,.tuple [],_,[b],r, ?_,q2, ?_,by simp[VL,aZ],hk⟩
  ·simp only[Fp,e1]
   rw[if_pos (by rw[←e2.length];exact hn),q1]
   rfl
  ·have:=k1.trans q3 (by omega)
   simpa using this
 split at h
 ·split at h
  ·split at h
   case h_2=>exact h.elim
   rename_i c' hw
   exact fin ι H cs c' _ s (.refl _ _ _ _ _ (Nat.le_refl _)) rfl hg e2 hw h
  ·obtain⟨_,h⟩:=gq h
   exact fin ι H cs _ _ s (.refl _ _ _ _ _ (Nat.le_refl _)) rfl hg e2 h.1 h.2
 ·split at h
  case h_2=>exact h.elim
  rename_i p hp
  split at h
  ·exact h.elim
  rename_i hb
  obtain⟨u1,u2⟩:=s.Nr p.2 (mW (λv p=>jZ 5 true v p) _ _ hp)
  have hx:=Kk s hp e2
  have hg1:bD (rD H p.2) b=some (.cells c false true):=by
   rw[sK,hb]
   exact hg
  split at h
  ·split at h
   case h_2=>exact h.elim
   rename_i c' hw
   exact fin _ _ p.1 c' _ u1 u2 (nM _ _) hg1 hx hw h
  ·obtain⟨_,h⟩:=gq h
   exact fin _ _ p.1 _ _ u1 u2 (nM _ _) hg1 hx h.1 h.2
theorem XR {C:aW} {B:FuncId→Option Bt} (hB:∀f b,B f=some b→Nv C f b) {R:Nat→Prop} {ι:VI} {H:WH} {M:Heap} (s:VS R ι H M) {ρ σ:Nat→AV} (h:∀t,VL M (OR R ι) ι (ρ t) (σ t)) {d:Option Nat} {o:tL} (hc:o.bE=true) {tr:TS} {k:AV→WH→List Nat→TS→Prop}
  (hk:wN C B d (o.sub ρ) H tr k):∃a M' aV v H' t fO,aN C (o.sub σ) [] M=some (a,M')∧VS R aV H' M'∧Stp H.length t ι H M aV H' M'∧VL M' (OR R aV) aV v a∧k v H' t fO:=by
 cases o with
 | store n a v =>
  simp only[tL.bE,Bool.and_eq_true]at hc
  exact Qj s (bI h hc.1) (bI h hc.2) (C:=C) (B:=B) (d:=d) (a:=(a.sub ρ).ev []) (v:=(v.sub ρ).ev []) (by simpa only[tL.sub,wN,AX.ev]using hk)
 | call f args =>
  simp only[tL.bE,Bool.and_eq_true]at hc
  have hf:=bI h hc.1
  have ha:=Fb h hc.2
  simp only[tL.sub,wN]at hk
  split at hk
  case h_2=>exact hk.elim
  rename_i g caps hg
  rw[hg]at hf
  simp only[VL]at hf
  obtain⟨aa3,hf,Zv⟩:=hf
  have hargs:=ha.append Zv
  simp only[tL.sub,aN,OQ,hf]
  split at hk
  ·rename_i bt hbt
   obtain⟨a,M',aV,v,H',tt,fO,q1,q2,q3,q4,q5⟩:=hB g bt hbt R ι H M _ _ d tr _ s hargs hk
   exact⟨a,M',aV,v,H',tt,fO,q1,q2,q3,q4,q5⟩
  ·exact Sz s hargs hk
 | append sz bytes b x =>
  simp only[tL.bE,Bool.and_eq_true]at hc
  have hs:=bI h hc.1
  have hx:=bI h hc.2
  simp only[tL.sub,wN]at hk
  split at hk
  case h_2=>exact hk.elim
  rename_i m new S hel
  split at hk
  case h_2=>exact hk.elim
  rename_i len old H' t hbase
  obtain⟨_,hk⟩:=Px hk
  obtain⟨fO,hf,hk⟩:=gq hk
  obtain⟨e1,e2,cs',e3,e4⟩:=Jk s hx hel
  obtain⟨u1,u2⟩:=s.Nr S (Ep hel)
  obtain⟨a',M',aV,q1,q2,q3,q4⟩:=Qf u1 (VL.step s u2 hs) e4 e2 hbase hf
  refine⟨a',M',aV,_,_,t,fO, ?_,q2, ?_,q4,hk⟩
  ·simp only[tL.sub,aN,e1,if_true,e3,ak]
   exact q1
  ·rw[nM]at q3
   have:=u2.trans q3 (Nat.le_refl _)
   simpa using this
 | mapUpdate kd m x v =>
  simp only[tL.bE,Bool.and_eq_true]at hc
  have hm:=bI h hc.1.1
  have hx:=bI h hc.1.2
  have hv:=bI h hc.2
  simp only[tL.sub,wN]at hk
  simp only[tL.sub,aN]
  generalize (m.sub ρ).ev []=X at *
  generalize (m.sub σ).ev []=X' at *
  generalize (x.sub ρ).ev []=Y at *
  generalize (x.sub σ).ev []=Y' at *
  generalize (v.sub ρ).ev []=Z at *
  generalize (v.sub σ).ev []=Z' at *
  split at hk
  case h_2=>exact hk.elim
  rename_i r
  split at hk
  case h_2=>exact hk.elim
  rename_i es cz hg s1 s2 s3 s4
  split at hk
  case h_2=>exact hk.elim
  rename_i es' t
  obtain⟨fO,hu,hk⟩:=gq hk
  obtain⟨j,rfl,hj,he,hr⟩:=s.Ki hm hg
  obtain rfl:=Pk s1 hx
  obtain rfl:=Pk s3 hv
  have hes:I_ es'=true:=by
   unfold R9 at hu
   obtain⟨f,hf,rfl⟩:=av.1 hu
   cases f with
   | none=>exact LQ s1 s3 he
   | some q=>exact Pn s1 s3 he
  have hd:ι.dim r=some (0,0):=by
   rcases s.blk r _ hg with⟨_,_,_,q⟩ |⟨_,_,⟨_,q,_⟩,_⟩
   ·cases q
   ·exact q
  obtain⟨q1,q2⟩:=s.Yq hr rfl hg (x:=.map es') (y:=.map es') ⟨rfl,hd,hes⟩
  refine⟨.tuple [],_,ι,.tuple [],_,[r],fO, ?_,q1,q2,by simp[VL,aZ],hk⟩
  simp only[Ay,hj,s4,s2]
  rw[if_neg (by simp)]
  unfold R9 at hu
  obtain⟨f,hf,rfl⟩:=av.1 hu
  rw[hf,ak]
  cases f with
  | none=>rfl
  | some q=>rfl
 | iO kd m x =>
  simp only[tL.bE,Bool.and_eq_true]at hc
  have hm:=bI h hc.1
  have hx:=bI h hc.2
  simp only[tL.sub,wN]at hk
  simp only[tL.sub,aN]
  generalize (m.sub ρ).ev []=X at *
  generalize (m.sub σ).ev []=X' at *
  generalize (x.sub ρ).ev []=Y at *
  generalize (x.sub σ).ev []=Y' at *
  split at hk
  case h_2=>exact hk.elim
  rename_i r
  split at hk
  case h_2=>exact hk.elim
  rename_i es hg s1
  split at hk
  case h_2=>exact hk.elim
  rename_i es' t
  obtain⟨fO,hu,hk⟩:=gq hk
  obtain⟨j,rfl,hj,he,hr⟩:=s.Ki hm hg
  obtain rfl:=Pk s1 hx
  unfold XG at hu
  obtain⟨f,hf,e⟩:=av.1 hu
  have hd:ι.dim r=some (0,0):=by
   rcases s.blk r _ hg with⟨_,_,_,q⟩ |⟨_,_,⟨_,q,_⟩,_⟩
   ·cases q
   ·exact q
  have hes:I_ es'=true:=by
   subst e
   cases f with
   | none=>exact he
   | some q=>exact Jh he
  obtain⟨q1,q2⟩:=s.Yq hr rfl hg (x:=.map es') (y:=.map es') ⟨rfl,hd,hes⟩
  refine⟨.tuple [],_,ι,.tuple [],_,[r],fO, ?_,q1,q2,by simp[VL,aZ],hk⟩
  simp only[Az,hj]
  rw[hf,ak]
  subst e
  cases f with
  | none =>
   have hM:M.put j (some (.map es))=M:=by
    cases M with
    | mk g nx =>
     simp only[Heap.put,Heap.mk.injEq,and_true]
     funext i
     split
     ·rename_i e
      rw[e]
      exact hj.symm
     ·rfl
   simp only[hM]
  | some q=>rfl
 | mD x =>
  have hx:=bI h hc
  simp only[tL.sub,wN]at hk
  split at hk
  case h_2=>exact hk.elim
  rename_i b sz n hX
  split at hk
  case h_2=>exact hk.elim
  rename_i c sl hg
  split at hk
  case h_2=>exact hk.elim
  rename_i SC
  rw[hX]at hx
  have hx0:=hx
  obtain⟨k1,k2,p,s',cap,ex,ha,k3,k4,k5⟩:=VL.uN s hx hg
  rw[ha]at hx0
  rcases k5 with⟨j,c',t,ro',sl',L,g1,g2,g3,g4,g5,g6,rfl,g7⟩ |⟨e,_⟩
  ·obtain⟨rfl,_⟩:=g3 rfl
   have g6':aZ M (OR R ι) VI.none c c':=by
    cases sl with
    | true=>exact g6
    | false=>exact uO (by simpa using SC) g6
   obtain⟨r1,r2⟩:=s.put g1 hg (x:=.cells c false true) (y:=.cells (c'++t) false true) ⟨c',t,false,true,L,rfl,λ_=>rfl,g4,g5,g6',λh=>by cases h⟩
   refine⟨_,_,ι,_,_,[b],_, ?_,r1,r2,VL.step s r2 hx0,hk⟩
   simp only[tL.sub,aN,ha,Fq]
   rw[if_neg (by omega),g2]
  ·cases e
 | _=>simp[tL.sub,wN]at hk
def mM(R:Nat→Prop)(ι:VI)(M:Heap)(l lA:Fast):Prop:=∀t,VL M (OR R ι) ι (look l t) (look lA t)
theorem mM.step{R:Nat→Prop}{t:List Nat}{ι aV:VI}{H H':WH}{M M':Heap}(s:VS R ι H M)(k:Stp H.length t ι H M aV H' M'){l lA:Fast}(h:mM R ι M l lA):mM R aV M' l lA:=λt=>VL.step s k (h t)
theorem mO{u t:Nat}{v:AV}{r:Fast}:look ((u,v)::r) t=if u=t then v else look r t:=by
 simp only[look]
 cases h:Nat.beq u t with
 | true=>simp[aM h]
 | false =>
  have:u≠t:=λe=>by subst e;simp at h
  simp[this]
theorem mX(n:Nat)(d:Option Nat)(v:AV)(l:Fast)(t:Nat):look (iD n d v l) t=if d=some t∧t<n then v else look l t:=by
 cases d with
 | none=>simp[iD]
 | some d =>
  simp only[iD]
  cases hb:Nat.blt d n with
  | true =>
   have hd:d<n:=by simpa[Nat.blt_eq]using hb
   simp only[mO]
   by_cases he:d=t
   ·subst he
    simp[hd]
   ·simp[he]
  | false =>
   have hd:¬d<n:=λh=>by
    have:Nat.blt d n=true:=by simpa[Nat.blt_eq]using h
    rw[hb]at this
    cases this
   simp only
   rw[if_neg]
   rintro⟨h1,h2⟩
   obtain rfl:=aj h1
   exact hd h2
theorem VL.iD{M:Heap}{O:Nat→Prop}{κ:VI}{l lA:Fast}{n:Nat}{d:Option Nat}{v a:AV}{t:Nat}(h:VL M O κ (look l t) (look lA t))(hv:VL M O κ v a):VL M O κ (look (Proofs.Ytkedeiklmpkgkaa.iD n d v l) t) (look (Proofs.Ytkedeiklmpkgkaa.iD n d a lA) t):=by
 rw[mX,mX]
 split
 ·exact hv
 ·exact h
theorem mM.put{R:Nat→Prop}{ι:VI}{M:Heap}{l lA:Fast}(h:mM R ι M l lA)(n:Nat)(d:Option Nat){v a:AV}(hv:VL M (OR R ι) ι v a):mM R ι M (iD n d v l) (iD n d a lA):=λt=>VL.iD (h t) hv
theorem VL.unit{M:Heap}{O:Nat→Prop}{κ:VI}:VL M O κ (.tuple []) (.tuple []):=by simp[VL,aZ]
def XT(l l':Fast):Prop:=∀t,look l' t=look l t∨∃b,look l t=.bool b∧look l' t=.bool b
theorem XT.eq{l l':Fast}(h:XT l l')(t:Nat):look l' t=look l t:=(h t).elim id λ⟨b,h1,h2⟩=>by rw[h1,h2]
theorem Jo:∀ {H:WH} {b:Nat} {x:ji},bD H b=some x→dP H b (some x)=H
 | [],_,_,h=>by cases h
 | _::_,0,_,h=>by
  simp only[bD]at h
  subst h
  rfl
 | _::r,i+1,_,h=>by
  simp only[bD]at h
  simp only[dP,Jo h]
theorem wD{k:Fast→WH→TS→Prop}{R:Type}:∀ {f:Option R} (T:Tc f) (l:Fast) (H:WH),J9 k T l H→∃l' fO,(∀t,look l' t=look l t)∧k l' H fO
 | _,.bd kk,l,H,h=>by
  obtain⟨x,q,h⟩:=h
  exact wD (kk x q) l H h
 | _,.gd kk,l,H,h=>by
  obtain⟨q,h⟩:=h
  exact wD (kk q) l H h
 | _,.ite (b:=b) x y,l,H,h=>by
  have hb:b=true∨b=false:=by cases b<;>simp
  rcases hb with hb | hb
  ·exact wD (x hb) l H (h.1 hb)
  ·exact wD (y hb) l H (h.2 hb)
 | _,.rv t u _ r,l,H,h=>by
  obtain⟨e,h⟩:=h
  obtain⟨l',fO,h1,h2⟩:=wD r ((t,u)::l) H h
  refine⟨l',fO,λs=>?_,h2⟩
  rw[h1,mO]
  split
  ·rename_i e'
   subst e'
   exact e.symm
  ·rfl
 | _,.rb b c _ r,l,H,h=>by
  simp only[J9]at h
  split at h
  case h_2=>exact h.elim
  rename_i c0 ro sl hg
  obtain⟨rfl,h⟩:=h
  rw[Jo hg]at h
  exact wD r l H h
 | _,.leaf x v,l,H,h=>⟨l,_,λ_=>rfl,h⟩
 | _,.yC x v Q q,l,H,h=>⟨l,_,λ_=>rfl,h⟩
 | _,.fail,l,H,h=>⟨l,_,λ_=>rfl,h⟩
 | _,.br _ _ _,l,H,h=>⟨l,_,λ_=>rfl,h⟩
 | _,.ob _ _,l,H,h=>⟨l,_,λ_=>rfl,h⟩
 | _,.v _ _ _,l,H,h=>⟨l,_,λ_=>rfl,h⟩
 | _,.z _ _ _,l,H,h=>⟨l,_,λ_=>rfl,h⟩
 | _,.ap _ _ _ _,l,H,h=>⟨l,_,λ_=>rfl,h⟩
 | _,.st _ _,l,H,h=>⟨l,_,λ_=>rfl,h⟩
 | _,.call _ _ _ _ _ _,l,H,h=>⟨l,_,λ_=>rfl,h⟩
 | _,.lp _ _ _ _ _ _ _,l,H,h=>⟨l,_,λ_=>rfl,h⟩
 | _,.jn _ _ _ _ _ _ _ _,l,H,h=>⟨l,_,λ_=>rfl,h⟩
 | _,.sk _,l,H,h=>⟨l,_,λ_=>rfl,h⟩
 | _,.cb _ _ _ _,l,H,h=>⟨l,_,λ_=>rfl,h⟩
 | _,.kl _ _,l,H,h=>⟨l,_,λ_=>rfl,h⟩
 | _,.mp _ _,l,H,h=>⟨l,_,λ_=>rfl,h⟩
 | _,.cl _ _ _ _ _ _,l,H,h=>⟨l,_,λ_=>rfl,h⟩
 | _,.er _,l,H,h=>⟨l,_,λ_=>rfl,h⟩
theorem nO{l:Fast}{H:WH}{tr:TS}{k:Fast→WH→TS→Prop}(h:Ae l H tr k):∃l' fO,(∀t,look l' t=look l t)∧k l' H fO:=wD tr.tr l H h
theorem Nw{g:Option (Nat×Bool)}{l:Fast}{tr:TS}{yes no:Fast→TS→Prop}(h:Zj g l tr yes no):∃l' fO,(∀t,look l' t=look l t)∧((f_ g l=some true∧yes l' fO)∨(f_ g l=some false∧no l' fO)):=by
 have self:∀t,look l t=look l t:=λ_=>rfl
 have like:∀ {t b},look l t=.bool b→∀u,look ((t,.bool b)::l) u=look l u:=λ{t b} hb u=>by
  rw[mO]
  split
  ·rename_i e
   subst e
   exact hb.symm
  ·rfl
 unfold Zj at h
 split at h
 ·exact⟨l,tr,self,.inl ⟨rfl,h⟩⟩
 ·rename_i t want
  split at h
  ·rename_i c hc
   have plain:∀tr,Y5 c want (yes l tr) (no l tr)→∃l' fO,(∀t,look l' t=look l t)∧((f_ (some (t,want)) l=some true∧yes l' fO)∨(f_ (some (t,want)) l=some false∧no l' fO)):=λtr h=>by
    refine⟨l,tr,self, ?_⟩
    simp only[f_,hc]
    cases c<;>cases want<;>simp_all [Y5]
   split at h
   ·rename_i R0 f0 t' bq f g a b
    cases hb:Nat.beq t t' with
    | true =>
     rw[hb]at h
     simp only at h
     obtain⟨hcb,h⟩:=h
     subst hcb
     cases c with
     | true =>
      have h:=h.1 rfl
      cases want with
      | true=>exact⟨_,_,like hc,.inl ⟨by simp[f_,hc],h⟩⟩
      | false=>exact⟨_,_,like hc,.inr ⟨by simp[f_,hc],h⟩⟩
     | false =>
      have h:=h.2 rfl
      cases want with
      | true=>exact⟨_,_,like hc,.inr ⟨by simp[f_,hc],h⟩⟩
      | false=>exact⟨_,_,like hc,.inl ⟨by simp[f_,hc],h⟩⟩
    | false =>
     rw[hb]at h
     exact plain _ h
   ·exact plain _ h
  ·rename_i vs hc
   exact⟨l,tr,self,.inr ⟨by simp[f_,hc],h⟩⟩
  ·exact h.elim
theorem uy{R:Nat→Prop}{ι:VI}{M:Heap}{l lA:Fast}(h:mM R ι M l lA){g:Option (Nat×Bool)}{w:Bool}(hw:f_ g l=some w):f_ g lA=some w:=by
 cases g with
 | none=>exact hw
 | some g =>
  obtain⟨t,want⟩:=g
  have ht:=h t
  simp only[f_]at hw ⊢
  generalize look l t=X at *
  cases X<;>simp only at hw<;>first |(cases hw;done) | skip
  ·rw[ht.eq rfl]
   exact hw
  ·simp only[VL]at ht
   obtain⟨cs',e,_⟩:=ht
   rw[e]
   exact hw
theorem wE {C:aW} {B:FuncId→Option Bt} (hB:∀f b,B f=some b→Nv C f b) {R:Nat→Prop} {n:Nat}:∀(ops:List qV) (l lA:Fast) (H:WH) (M:Heap) (ι:VI) (tr:TS) (k:Fast→WH→TS→Prop),VS R ι H M→mM R ι M l lA→(ops.all λo=>o.op.bE)=true →
  H7 C B n ops l H tr k→∃l8 M' aV l' H' fO t,BA C n ops lA M=some (l8,M')∧VS R aV H' M'∧Stp H.length t ι H M aV H' M'∧mM R aV M' l' l8∧k l' H' fO
 | [],l,lA,H,M,ι,tr,k,s,he,hc,h=>⟨lA,M,ι,l,H,tr,[],rfl,s,.refl _ _ _ _ _ (Nat.le_refl _),he,h⟩
 | o::r,l,lA,H,M,ι,tr,k,s,he,hc,h=>by
  simp only[List.all_cons,Bool.and_eq_true]at hc
  simp only[H7]at h
  obtain⟨l0,tr0,hl0,h⟩:=nO h
  have he:mM R ι M l0 lA:=λt=>by rw[hl0 t];exact he t
  obtain⟨l1,tr1,hl,h⟩:=Nw h
  have he1:mM R ι M l1 lA:=λt=>by rw[hl t];exact he t
  rcases h with⟨hw,h⟩ |⟨hw,h⟩
  ·obtain⟨l2,tr2,hl2,h⟩:=nO h
   have he1:mM R ι M l2 lA:=λt=>by rw[hl2 t];exact he1 t
   simp only[BA,uy he hw]
   cases ho:o.op with
   | p op =>
    rw[ho]at h hc
    simp only at h
    obtain⟨v,u,tr2,h1,h2,h3⟩:=Km (R:=R) h
    obtain⟨a,h4,h5⟩:=Sj he1 hc.1 h1
    obtain⟨l8,M',aV,l',H',fO,t,q1,q2⟩:=wE hB r _ _ H M ι tr2 k s (he1.put n o.dst (h3 _ _ _ _ h5)) hc.2 h2
    refine⟨l8,M',aV,l',H',fO,t, ?_,q2⟩
    simp only[qz.sub,Da,h4,aG,force_eq]
    exact q1
   | l op =>
    rw[ho]at h hc
    simp only at h
    obtain⟨v,u,tr2,h1,h2,h3⟩:=Km (R:=R) h
    obtain⟨a,h4,h5⟩:=Ji s he1 hc.1 h1
    obtain⟨l8,M',aV,l',H',fO,t,q1,q2⟩:=wE hB r _ _ H M ι tr2 k s (he1.put n o.dst (h3 _ _ _ _ h5)) hc.2 h2
    refine⟨l8,M',aV,l',H',fO,t, ?_,q2⟩
    simp only[qz.sub,Da,h4,aG,force_eq]
    exact q1
   | k op =>
    rw[ho]at h hc
    by_cases hmk:op=.makeMap
    ·subst hmk
     simp only at h
     obtain⟨s1,k1⟩:=s.push (x:=.map []) (y:=.map []) (d:=(0,0)) ⟨rfl,rfl,rfl⟩
     have hv:VL (M.push (.map [])) (OR R (ι.add H.length M.next (0,0))) (ι.add H.length M.next (0,0)) (.map (some H.length)) (.map (some M.next)):=by
      simp only[VL]
      exact⟨M.next,by simp[VI.add,setAt],rfl⟩
     obtain⟨l8,M',aV,l',H',fO,t,q1,q2,q3,q4⟩:=wE hB r _ _ _ _ _ tr2 k s1 ((he1.step s k1).put n o.dst hv) hc.2 h
     refine⟨l8,M',aV,l',H',fO,t, ?_,q2, ?_,q4⟩
     ·simp only[qz.sub,xA.sub,Da,aK,aG,force_eq]
      exact q1
     ·have:=k1.trans q3 k1.next
      simpa using this
    have h:wK o.dst (op.sub (look l2)) tr2 (λx mk tr=>H7 C B n r (iD n o.dst (mk H.length) l2) (H++[some x]) tr k):=by
     cases op<;>first | exact h | exact absurd rfl hmk
    obtain⟨c,sl,mk,c',sl',mkA,tr2,h1,h2,h3,hss,h4⟩:=XQ s he1 hc.1 h
    obtain⟨s1,k1⟩:=s.push (BL.of (sl':=sl') h3 hss)
    have hv:=h4 (M.push (.cells c' false sl')) (OR R (ι.add H.length M.next (c.length,c'.length))) (ι.add H.length M.next (c.length,c'.length)) H.length M.next (by simp[VI.add,setAt]) (by simp[VI.add,setAt])
    obtain⟨l8,M',aV,l',H',fO,t,q1,q2,q3,q4⟩:=wE hB r _ _ _ _ _ tr2 k s1 ((he1.step s k1).put n o.dst hv) hc.2 h1
    refine⟨l8,M',aV,l',H',fO,t, ?_,q2, ?_,q4⟩
    ·simp only[qz.sub,Da,h2,aG,force_eq]
     exact q1
    ·have:=k1.trans q3 k1.next
     simpa using this
   | n op =>
    rw[ho]at h hc
    simp only at h
    obtain⟨a,M1,iC,v,H1,t1,tr2,h1,h2,h3,h4,h5⟩:=XR hB s he1 hc.1 h
    obtain⟨l8,M',aV,l',H',fO,t,q1,q2,q3,q4⟩:=wE hB r _ _ _ _ _ tr2 k h2 ((he1.step s h3).put n o.dst h4) hc.2 h5
    refine⟨l8,M',aV,l',H',fO,t1++t, ?_,q2,h3.trans q3 h3.next,q4⟩
    simp only[qz.sub,Da,h1,force_eq]
    exact q1
  ·simp only[BA,uy he hw]
   exact wE hB r _ _ H M ι tr1 k s (he1.put n o.dst VL.unit) hc.2 h
theorem DC:∀(k i:Nat),bD (holes k) i=none
 | 0,i=>rfl
 | k+1,0=>rfl
 | k+1,i+1=>DC k i
theorem zK:∀k,(holes k).length=k
 | 0=>rfl
 | k+1=>by simp[holes,zK k]
def VI.room(ι:VI)(a b nk:Nat):VI:=⟨λi=>if a≤i∧i<a+nk then some (b+(i-a))else ι i,λi=>if a≤i∧i<a+nk then false else ι.Dt i,λi=>if a≤i∧i<a+nk then false else ι.gone i,λi=>if a≤i∧i<a+nk then Option.none else ι.dim i⟩
theorem VS.room {R:Nat→Prop} {ι:VI} {H:WH} {M:Heap} (s:VS R ι H M) (nk:Nat) :
  VS R (ι.room H.length M.next nk) (H++holes nk) { M with next:=M.next+nk }∧Stp H.length [] ι H M (ι.room H.length M.next nk) (H++holes nk) { M with next:=M.next+nk }:=by
 have gp:∀i,bD (H++holes nk) i=bD H i:=λi=>by
  rw[BI]
  split
  ·rfl
  ·rename_i h
   rw[DC,Ke (Nat.le_of_not_lt h)]
 have out:∀i,i<H.length→¬(H.length≤i∧i<H.length+nk):=λi h=>by omega
 have hls:∀S,VI.Le ι (ι.room H.length M.next nk) S:=λS i _ =>
  ⟨λj h=>by simp only[VI.room,if_neg (out i (s.lt i j h).1)];exact⟨h,λ_ h=>h⟩,λh=>by simp only[VI.room,if_neg (out i (s.nI i h).1)];exact⟨h,λ_ h=>h⟩⟩
 have hk:Keeps M (own ι) { M with next:=M.next+nk } (own (ι.room H.length M.next nk)):=⟨Nat.le_add_right _ _,λb hb ho=>⟨rfl,λ⟨i,hi,hg⟩=>by
  simp only[VI.room]at hi hg
  split at hi
  ·obtain rfl:=aj hi;omega
  ·rename_i hne
   rw[if_neg hne]at hg
   exact ho ⟨i,hi,hg⟩⟩⟩
 have ac:∀i,¬(H.length≤i∧i<H.length+nk)→act (ι.room H.length M.next nk) (H++holes nk) i→act ι H i:=λi hn h=>h.imp (λ⟨x,h⟩=>⟨x,by rw[gp]at h;exact h⟩) (λh=>by simpa only[VI.room,if_neg hn]using h)
 refine⟨⟨λi j h=>?_,λi i' j h h' e e' g=>?_,λi x hx=>?_,λi h=>?_,λi hi c sl h=>?_,λi hi=>s.LD i (by have:M.next+nk≤i:=hi;omega),λj h=>⟨Nat.lt_of_lt_of_le (s.res j h).1 (Nat.le_add_right _ _),λi hi=>?_⟩⟩,
  ⟨hk,hls _,λi hi h=>by simp only[VI.room,if_neg (out i hi)];exact h,λi hi=>by simp only[VI.room,if_neg (out i hi)],λi hi=>by simp only[VI.room,if_neg (out i hi)],λi hi _=>by simp only[VI.room,if_neg (out i hi)],λi _ ⟨x,h⟩=>⟨x,by rw[gp]at h;exact h⟩,λ_ _ _ _ _ _=>rfl,by simp⟩⟩
 ·simp only[VI.room]at h
  simp only[aF,zK]
  split at h
  ·obtain rfl:=aj h
   omega
  ·have:=s.lt i j h
   omega
 ·simp only[VI.room]at e e'
  split at e<;>split at e'
  ·have e1:=aj e
   have e2:=aj e'
   omega
  ·obtain rfl:=aj e
   have:=(s.lt _ _ e').2
   omega
  ·obtain rfl:=aj e'
   have:=(s.lt _ _ e).2
   omega
  ·rename_i n1 n2
   simp only[VI.room,if_neg n1,if_neg n2]at g
   exact s.inj i i' j (ac i n1 h) (ac i' n2 h') e e' g
 ·rw[gp]at hx
  have hl:=out i (kG hx)
  simp only[VI.room,if_neg hl]
  rcases s.blk i x hx with h |⟨j,h1,h2,h3⟩
  ·exact .inl h
  ·exact .inr ⟨j,h1,h2.mono (hk.or R) hls (λ_ h=>h),h3⟩
 ·simp only[VI.room]at h ⊢
  split at h
  ·cases h
  ·rename_i hn
   rw[if_neg hn]
   have:=s.nI i h
   simp only[aF,zK]
   exact⟨by omega,this.2⟩
 ·rw[gp]at h
  have hl:=out i (kG h)
  simp only[VI.room,if_neg hl]at hi
  exact s.kZ i hi c sl h
 ·simp only[VI.room]
  split
  ·rename_i hn
   intro e
   obtain rfl:=aj e
   have:=(s.res _ h).1
   omega
  ·rename_i hn
   exact(s.res j h).2 i (ac i hn hi)
def VI.fill(ι:VI)(i:Nat)(d:Nat×Nat):VI:=⟨ι.to,ι.Dt,ι.gone,setAt ι.dim i (some d)⟩
theorem VS.fill {R:Nat→Prop} {ι:VI} {H:WH} {M:Heap} (s:VS R ι H M) {b j:Nat} (hb:ι b=some j) (hg:ι.gone b=false) (hd:ι.dim b=none) (hn:bD H b=none) {x y:ji} {d:Nat×Nat} (hx:BL M (OR R ι) ι (some d) x (some y)) :
  VS R (ι.fill b d) (dP H b (some x)) (M.put j (some y))∧Keeps M (own ι) (M.put j (some y)) (own (ι.fill b d))∧(∀S,VI.Le ι (ι.fill b d) S)∧(∀i j',i≠b→act ι H i→ι i=some j'→(M.put j (some y)).get j'=M.get j'):=by
 have hbl:=(s.lt b j hb).1
 have hk:Keeps M (own ι) (M.put j (some y)) (own (ι.fill b d)):=⟨Nat.le_refl _,λb' _ ho=>⟨by
  have:b'≠j:=λe=>ho (e ▸ ⟨b,hb,hg⟩)
  simp[Heap.put,this],ho⟩⟩
 have hls:∀S,VI.Le ι (ι.fill b d) S:=λS i _=>by
  by_cases e:i=b
  ·subst e
   exact⟨λj h=>⟨h,λd h=>by rw[hd]at h;cases h⟩,λh=>⟨h,λd h=>by rw[hd]at h;cases h⟩⟩
  ·simp only[VI.fill,bn _ _ e]
   exact⟨λj h=>⟨h,λd h=>h⟩,λh=>⟨h,λd h=>h⟩⟩
 have gp:∀k,bD (dP H b (some x)) k=if k=b then some x else bD H k:=λk=>by
  rw[jX]
  by_cases e:k=b
  ·rw[if_pos ⟨e,hbl⟩,if_pos e]
  ·rw[if_neg (λh=>e h.1),if_neg e]
 have ac:∀i,act (ι.fill b d) (dP H b (some x)) i→act ι H i:=λi h=>by
  rcases h with⟨z,h⟩ | h
  ·rw[gp]at h
   by_cases e:i=b
   ·subst e
    exact .inr hg
   ·rw[if_neg e]at h
    exact .inl ⟨z,h⟩
  ·exact .inr h
 have ne:∀i j',i≠b→act ι H i→ι i=some j'→j'≠j:=λi j' hi ha h e=>hi (s.inj i b j ha (.inr hg) (e ▸ h) hb (.inr hg))
 refine⟨⟨λi j h=>by rw[bN];exact s.lt i j h,λi i' j h h'=>s.inj i i' j (ac i h) (ac i' h'),λi z hz=>?_,λi h=>by rw[bN];exact s.nI i h,λi hi c sl h=>?_,λi hi=>?_,λj h=>⟨(s.res j h).1,λi hi=>(s.res j h).2 i (ac i hi)⟩⟩,hk,hls,λi j' hi ha h=>by simp[Heap.put,ne i j' hi ha h]⟩
 ·rw[gp]at hz
  by_cases e:i=b
  ·subst e
   rw[if_pos rfl]at hz
   obtain rfl:=aj hz
   refine .inr ⟨j,hb, ?_,λ_=>hg⟩
   simp only[Heap.put,if_true]
   exact hx.mono (hk.or R) hls (λ_ h=>by simpa[VI.fill,setAt]using h)
  ·rw[if_neg e]at hz
   rcases s.blk i z hz with⟨h1,h2,h3⟩ |⟨j',h1,h2,h3⟩
   ·exact .inl ⟨h1,by simp only[VI.fill,bn _ _ e];exact h2,h3⟩
   ·refine .inr ⟨j',h1, ?_,h3⟩
    simp only[Heap.put,if_neg (ne i j' e (.inl ⟨z,hz⟩) h1)]
    exact h2.mono (hk.or R) hls (λ_ h=>by simp only[VI.fill,bn _ _ e];exact h)
 ·rw[gp]at h
  by_cases e:i=b
  ·subst e
   have:ι.gone i=true:=hi
   rw[hg]at this
   cases this
  ·rw[if_neg e]at h
   exact s.kZ i hi c sl h
 ·have:=(s.lt b j hb).2
  have:i≠j:=λe=>by subst e;simp only[Heap.put]at hi;omega
  simp only[Heap.put,if_neg this]
  exact s.LD i hi
mutual
theorem VL.pW{M:Heap}{O:Nat→Prop}{κ:VI}:∀(v a:AV),known v=true→VL M O κ v a→AV.same a a=true
 |.undef,_,h,_=>by simp[known]at h
 |.bool _,_,_,e=>by simp only[VL]at e;subst e;simp[AV.same]
 |.int _ _,_,_,e=>by simp only[VL]at e;subst e;simp[AV.same]
 |.str _,_,_,e=>by simp only[VL]at e;subst e;simp[AV.same]
 |.ptr none,_,_,e=>by simp only[VL]at e;subst e;simp[AV.same]
 |.ptr (some q),_,_,e=>by simp only[VL]at e;obtain⟨j,_,rfl⟩:=e;simp[AV.same]
 |.slice none _ _ _ _,_,_,e=>by simp only[VL]at e;obtain⟨_,s',rfl⟩:=e;simp[AV.same]
 |.slice (some _) _ _ _ _,_,_,e=>by simp[VL]at e
 |.map none,_,_,e=>by simp only[VL]at e;subst e;simp[AV.same]
 |.map (some r),_,_,e=>by simp only[VL]at e;obtain⟨j,_,rfl⟩:=e;simp[AV.same]
 |.func f cs,_,h,e=>by
  simp only[VL]at e
  obtain⟨cs',rfl,e⟩:=e
  simp only[AV.same,Bool.and_eq_true,beq_self_eq_true,true_and]
  exact aZ.pW cs cs' (by simpa[known]using h) e
 |.nilFunc,_,_,e=>by simp only[VL]at e;subst e;simp[AV.same]
 |.agg cs,_,h,e=>by
  simp only[VL]at e
  obtain⟨cs',rfl,e⟩:=e
  simp only[AV.same]
  exact aZ.pW cs cs' (by simpa[known]using h) e
 |.tuple cs,_,h,e=>by
  simp only[VL]at e
  obtain⟨cs',rfl,e⟩:=e
  simp only[AV.same]
  exact aZ.pW cs cs' (by simpa[known]using h) e
 |.list ..,_,_,e=>by
  simp only[VL]at e
  rcases e with⟨_,_,s',rfl⟩ |⟨b,o,cap,ex',rfl,_⟩<;>simp[AV.same]
 |.elem _,_,_,e=>by simp only[VL]at e;obtain⟨b,o,c,ro,sl,rfl,_⟩:=e;simp[AV.same]
 |.acc ..,_,_,e=>by simp only[VL]at e;obtain⟨p,s',cap,ex,rfl,_⟩:=e;simp[AV.same]
theorem aZ.pW{M:Heap}{O:Nat→Prop}{κ:VI}:∀(l r:List AV),Du l=true→aZ M O κ l r→AV.yg r r=true
 | [],[],_,_=>by simp[AV.yg]
 | v::l,a::r,h,e=>by
  simp only[aZ]at e
  simp only[Du]at h
  split at h
  ·rename_i hv
   simp only[AV.yg,Bool.and_eq_true]
   exact⟨VL.pW v a hv e.1,aZ.pW l r h e.2⟩
  ·cases h
 | [],_::_,_,e=>by simp[aZ]at e
 | _::_,[],_,e=>by simp[aZ]at e
end
theorem LY(u k:Nat)(bt:List (Nat×Nat))(t:Nat):jR ((u,k)::bt) t=if u=t then k else jR bt t:=by
 simp only[jR]
 cases h:Nat.beq u t with
 | true=>simp[aM h]
 | false =>
  have:u≠t:=λe=>by subst e;simp at h
  simp[this]
theorem AP(n:Nat)(d:Option Nat)(k:Nat)(bt:List (Nat×Nat))(t:Nat):jR (iV n d k bt) t=if d=some t∧t<n then k else jR bt t:=by
 cases d with
 | none=>simp[iV]
 | some d =>
  simp only[iV]
  cases hb:Nat.blt d n with
  | true =>
   have hd:d<n:=by simpa[Nat.blt_eq]using hb
   simp only[LY]
   by_cases he:d=t
   ·subst he
    simp[hd]
   ·simp[he]
  | false =>
   have hd:¬d<n:=λh=>by
    have:Nat.blt d n=true:=by simpa[Nat.blt_eq]using h
    rw[hb]at this
    cases this
   simp only
   rw[if_neg]
   rintro⟨h1,h2⟩
   obtain rfl:=aj h1
   exact hd h2
def zU(bt:List (Nat×Nat))(k:Nat)(ρ:Nat→AV):Nat→AV:=λt=>if jR bt t≤k then ρ t else .undef
theorem Pz{bt:List (Nat×Nat)}{k:Nat}{ρ:Nat→AV}{x:AX}(h:jv bt x≤k):x.sub (zU bt k ρ)=x.sub ρ:=by
 cases x with
 | t t=>simp only[jv]at h;simp only[AX.sub,zU];rw[if_pos h]
 | c v=>rfl
theorem SE{bt:List (Nat×Nat)}{k:Nat}{ρ:Nat→AV}{x:Option AX}(h:J_ bt x≤k):AX.fq (zU bt k ρ) x=AX.fq ρ x:=by
 cases x with
 | none=>rfl
 | some x=>simp only[AX.fq,aG,Pz h]
theorem Qk{bt:List (Nat×Nat)}{n k:Nat}{ρ:Nat→AV}{o:iJ}(hk:k<n)(h:LH bt n o≤k):o.sub (zU bt k ρ)=o.sub ρ:=by
 cases o<;>simp only[LH]at h<;>first | omega | skip
 all_goals simp only[iJ.sub]
 all_goals (repeat rw[Pz (by omega)])
 all_goals (repeat rw[SE (by omega)])
theorem gN{b:Nat}{t:List Nat×WH}{r:List (List Nat×WH)}:touches b (t::r)=false↔b∉t.1∧touches b r=false:=by
 simp only[touches]
 cases h:kK t.1 b with
 | true=>simp[nL.1 h]
 | false=>simp[show b∉t.1 from λe=>by rw[nL.2 e]at h;cases h]
theorem Er{b:Nat}{t:List Nat×WH}:∀ {r:List (List Nat×WH)},touches b (r++[t])=false↔touches b r=false∧b∉t.1
 | []=>by rw[List.nil_append,gN];simp[touches]
 | u::r=>by rw[List.cons_append,gN,gN,Er,and_assoc]
structure HK(R:Nat→Prop)(base bJ nk k:Nat)(kL ι:VI)(H:WH)(M:Heap)(l lA:Fast)(bt:List (Nat×Nat))(hs:List (List Nat×WH))(Mk:Heap)(mY:VI):Prop where
 keep:Keeps Mk (own mY) M (own ι)
 env:∀t,jR bt t≤k+1→VL Mk (OR R mY) mY (look l t) (look lA t)
 new:∀i,i<nk→mY (base+i)=some (bJ+i)
 gone:∀i,i<nk→mY.gone (base+i)=true→ι.gone (base+i)=true
 same:∀i j,i<base→act ι H i→kL i=some j→touches i (hs.drop k)=false→M.get j=Mk.get j
structure DI(R:Nat→Prop)(base bJ nk:Nat)(kL:VI)(M0:Heap)(ι:VI)(H:WH)(M:Heap)(l lA:Fast)(bt:List (Nat×Nat))(al:List Nat)(hs:List (List Nat×WH))(eZ:List Heap):Prop where
 vs:VS R ι H M
 len:base+nk≤H.length
 env:mM R ι M l lA
 new:∀i,i<nk→ι (base+i)=some (bJ+i)
 free:∀i,i<nk→kK al i=false→ι.gone (base+i)=false∧ι.dim (base+i)=none∧bD H (base+i)=none
 start:∀t,jR bt t=0→VL M0 (OR R kL) kL (look l t) (look lA t)
 low:∀i j,kL i=some j→i<base∧j<bJ
 Yv:VI.Le kL ι (λi=>i<base)
 Ri:∀i,i<base→ι i=kL i
 m0:M0.next=bJ
 hlen:hs.length=eZ.length
 hist:∀k Mk,eZ[k]?=some Mk→∃mY,HK R base bJ nk k kL ι H M l lA bt hs Mk mY∧∃t Hk,hs[k]?=some (t,Hk)∧VS R mY Hk Mk
section
variable {R:Nat→Prop} {base bJ nk:Nat} {kL:VI} {M0:Heap} {ι:VI} {H:WH} {M:Heap} {l lA:Fast} {bt:List (Nat×Nat)} {al:List Nat} {hs:List (List Nat×WH)} {eZ:List Heap}
theorem HK.put{k:Nat}{Mk:Heap}{mY:VI}(g:HK R base bJ nk k kL ι H M l lA bt hs Mk mY)(n:Nat)(d:Option Nat)(b:Nat){v a:AV}(hv:b≤k+1→VL Mk (OR R mY) mY v a):HK R base bJ nk k kL ι H M (iD n d v l) (iD n d a lA) (iV n d b bt) hs Mk mY :=
 ⟨g.keep,λt ht=>by
  rw[mX,mX]
  rw[AP]at ht
  split
  ·rename_i h
   rw[if_pos h]at ht
   exact hv ht
  ·rename_i h
   rw[if_neg h]at ht
   exact g.env t ht,g.new,g.gone,g.same⟩
theorem DI.put (g:DI R base bJ nk kL M0 ι H M l lA bt al hs eZ) (n:Nat) (d:Option Nat) (b:Nat) {v a:AV} (hv:VL M (OR R ι) ι v a) (h0:b=0→VL M0 (OR R kL) kL v a)
  (hk:∀k Mk mY,k<hs.length→HK R base bJ nk k kL ι H M l lA bt hs Mk mY→b≤k+1→VL Mk (OR R mY) mY v a):DI R base bJ nk kL M0 ι H M (iD n d v l) (iD n d a lA) (iV n d b bt) al hs eZ :=
 ⟨g.vs,g.len,g.env.put n d hv,g.new,g.free,λt ht=>by
  rw[mX,mX]
  rw[AP]at ht
  split
  ·rename_i h
   rw[if_pos h]at ht
   exact h0 ht
  ·rename_i h
   rw[if_neg h]at ht
   exact g.start t ht,g.low,g.Yv,g.Ri,g.m0,g.hlen,λk Mk h=>by
   obtain⟨mY,q,q2⟩:=g.hist k Mk h
   exact⟨mY,q.put n d b λhb=>hk k Mk mY (by rw[g.hlen];exact(aC.1 h).1) q hb,q2⟩⟩
theorem DI.aao (g:DI R base bJ nk kL M0 ι H M l lA bt al hs eZ) (n:Nat) (d:Option Nat) (b:Nat) {v a:AV} (hv:VL M (OR R ι) ι v a) (h0:b=0→VL M0 (OR R kL) kL v a)
  (hk:∀k Mk mY t Hk,eZ[k]?=some Mk→HK R base bJ nk k kL ι H M l lA bt hs Mk mY→hs[k]?=some (t,Hk)→VS R mY Hk Mk→b≤k+1→VL Mk (OR R mY) mY v a):DI R base bJ nk kL M0 ι H M (iD n d v l) (iD n d a lA) (iV n d b bt) al hs eZ :=
 ⟨g.vs,g.len,g.env.put n d hv,g.new,g.free,λt ht=>by
  rw[mX,mX]
  rw[AP]at ht
  split
  ·rename_i h
   rw[if_pos h]at ht
   exact h0 ht
  ·rename_i h
   rw[if_neg h]at ht
   exact g.start t ht,g.low,g.Yv,g.Ri,g.m0,g.hlen,λk Mk h=>by
   obtain⟨mY,q,t,Hk,q2,q3⟩:=g.hist k Mk h
   exact⟨mY,q.put n d b λhb=>hk k Mk mY t Hk h q q2 q3 hb,t,Hk,q2,q3⟩⟩
theorem DI.now(g:DI R base bJ nk kL M0 ι H M l lA bt al hs eZ)(n:Nat)(d:Option Nat){v a:AV}(hv:VL M (OR R ι) ι v a):DI R base bJ nk kL M0 ι H M (iD n d v l) (iD n d a lA) (iV n d (hs.length+1) bt) al hs eZ :=
 g.put n d (hs.length+1) hv (λh=>by omega) (λk Mk mY hk _ hb=>by omega)
theorem DI.like{l':Fast}(g:DI R base bJ nk kL M0 ι H M l lA bt al hs eZ)(h:∀t,look l' t=look l t):DI R base bJ nk kL M0 ι H M l' lA bt al hs eZ :=
 ⟨g.vs,g.len,λt=>by rw[h t];exact g.env t,g.new,g.free,λt ht=>by rw[h t];exact g.start t ht,g.low,g.Yv,g.Ri,g.m0,g.hlen,λk Mk e=>by
  obtain⟨mY,q,q2⟩:=g.hist k Mk e
  exact⟨mY,⟨q.keep,λt ht=>by rw[h t];exact q.env t ht,q.new,q.gone,q.same⟩,q2⟩⟩
theorem DI.loud(g:DI R base bJ nk kL M0 ι H M l lA bt al hs eZ){t:List Nat}{aV:VI}{H':WH}{M':Heap}(s':VS R aV H' M')(k:Stp H.length t ι H M aV H' M'):DI R base bJ nk kL M0 aV H' M' l lA bt al (hs++[(t,H)]) (eZ++[M]):=by
 have hb:∀i,i<nk→base+i<H.length:=λi hi=>by have:=g.len;omega
 have nw:∀i,i<nk→aV (base+i)=some (bJ+i):=λi hi=>((k.le _ (hb i hi)).1 _ (g.new i hi)).1
 refine⟨s',Nat.le_trans g.len k.next,g.env.step g.vs k,nw,λi hi ha=>?_,g.start,g.low,g.Yv.trans (k.le.sub λi hi=>by have:=g.len;have:i<base:=hi;show i<H.length;omega),λi hi=>(k.XI i (by have:=g.len;omega)).trans (g.Ri i hi),g.m0,by simp[g.hlen],λq Mk hq=>?_⟩
 ·obtain⟨h1,h2,h3⟩:=g.free i hi ha
  refine⟨by rw[k.Ja _ (hb i hi) h3];exact h1,by rw[k.Nk _ (hb i hi)];exact h2, ?_⟩
  cases e:bD H' (base+i)with
  | none=>rfl
  | some x =>
   obtain⟨y,hy⟩:=k.live _ (hb i hi) ⟨x,e⟩
   rw[h3]at hy
   cases hy
 ·rcases Nat.lt_or_ge q eZ.length with hlt | hge
  ·rw[List.getElem?_append_left hlt]at hq
   obtain⟨mY,w,t0,Hk,w2,w3⟩:=g.hist q Mk hq
   refine⟨mY,⟨w.keep.trans k.keep,w.env,w.new,λi hi h=>k.gone _ (hb i hi) (w.gone i hi h),λi j hi ha hj ht=>?_⟩,t0,Hk,by rw[List.getElem?_append_left (by rw[g.hlen];exact hlt)];exact w2,w3⟩
   rw[List.drop_append_of_le_length (by rw[g.hlen];omega),Er]at ht
   have hi':i<H.length:=by have:=g.len;omega
   exact(k.Y4 i j hi' ha ((g.Yv i hi).1 j hj).1 ht.2).trans (w.same i j hi (k.act hi' ha) hj ht.1)
  ·rw[List.getElem?_append_right hge]at hq
   have hqe:q=eZ.length:=by
    rcases Nat.eq_or_lt_of_le hge with e | e
    ·exact e.symm
    ·rw[List.getElem?_eq_none (by simp;omega)]at hq;cases hq
   subst hqe
   simp only[Nat.sub_self,List.getElem?_cons_zero,au]at hq
   subst hq
   refine⟨ι,⟨k.keep,λu _=>g.env u,g.new,λi hi h=>k.gone _ (hb i hi) h,λi j hi ha hj ht=>?_⟩,t,H,by rw[←g.hlen,List.getElem?_append_right (Nat.le_refl _)];simp,g.vs⟩
   rw[←g.hlen,List.drop_append_of_le_length (Nat.le_refl _),List.drop_length,List.nil_append,gN]at ht
   exact k.Y4 i j (by have:=g.len;omega) ha ((g.Yv i hi).1 j hj).1 ht.1
theorem AQ:∀ {al:List Nat} {m:Nat},uM H base al=true→kK al m=true→∃c sl,bD H (base+m)=some (.cells c false sl)
 | [],m,_,h=>by simp[kK]at h
 | a::r,m,ht,h=>by
  simp only[uM]at ht
  split at ht
  case h_2=>cases ht
  rename_i c sl hg
  rcases List.mem_cons.1 (nL.1 h)with e | e
  ·exact⟨c,sl,e ▸ hg⟩
  ·exact AQ ht (nL.2 e)
theorem DI.owns(g:DI R base bJ nk kL M0 ι H M l lA bt al hs eZ)(ht:uM H base al=true){b:Nat}(h1:bJ≤b)(h2:b<bJ+nk):own ι b:=by
 have e:bJ+(b-bJ)=b:=by omega
 refine⟨base+(b-bJ),by rw[g.new _ (by omega),e], ?_⟩
 cases ha:kK al (b-bJ)with
 | false=>exact(g.free _ (by omega) ha).1
 | true =>
  obtain⟨c,sl,hg⟩:=AQ ht ha
  cases hgo:ι.gone (base+(b-bJ))with
  | false=>rfl
  | true=>exact absurd hg (g.vs.kZ _ hgo c sl)
theorem DI.owned (g:DI R base bJ nk kL M0 ι H M l lA bt al hs eZ) {lo:Nat} (ht:(uM H base al||yE hs lo base al)=true) {b:Nat} (h1:bJ≤b) (h2:b<bJ+nk) :
  own ι b∨∃k Mk mY,lo≤k∧eZ[k]?=some Mk∧HK R base bJ nk k kL ι H M l lA bt hs Mk mY∧own mY b:=by
 rcases Bool.or_eq_true_iff.1 ht with ht | ht
 ·exact .inl (g.owns ht h1 h2)
 have e:bJ+(b-bJ)=b:=by omega
 cases ha:kK al (b-bJ)with
 | false=>exact .inl ⟨base+(b-bJ),by rw[g.new _ (by omega),e],(g.free _ (by omega) ha).1⟩
 | true =>
  right
  unfold yE at ht
  split at ht
  case h_2=>cases ht
  rename_i tk Hk rest hd
  have hk:hs[lo]?=some (tk,Hk):=by
   have:(hs.drop lo)[0]?=some (tk,Hk):=by rw[hd];rfl
   rw[List.getElem?_drop]at this
   exact this
  have hl:lo<eZ.length:=by rw[←g.hlen];exact(aC.1 hk).1
  obtain⟨mY,w,t',Hk',w2,w3⟩:=g.hist lo eZ[lo] (aS hl)
  rw[hk]at w2
  cases w2
  obtain⟨c,sl,hg⟩:=AQ ht ha
  refine⟨lo,_,mY,Nat.le_refl _,aS hl,w,base+(b-bJ),by rw[w.new _ (by omega),e], ?_⟩
  cases hgo:mY.gone (base+(b-bJ))with
  | false=>rfl
  | true=>exact absurd hg (w3.kZ _ hgo c sl)
theorem pX{X:Heap}{b:Nat}(h:¬(bJ≤b∧b<bJ+nk)):(X.hide bJ nk).get b=X.get b:=by
 simp only[Heap.hide]
 rw[if_neg h]
theorem zL{g:Bool}{n b o:Nat}{X Y:Heap}(h:X.get b=Y.get b):tY g n (.ptr (some (b,o))) X=tY g n (.ptr (some (b,o))) Y:=by
 simp only[tY,Heap.read,h]
theorem Af{sz len cap:Nat}{ex:Bool}{b o:Nat}{X Y:Heap}(h:len≠0→X.get b=Y.get b):kX (.slice (some (b,o)) sz len cap ex) X=kX (.slice (some (b,o)) sz len cap ex) Y:=by
 unfold kX
 split<;>first | rfl | skip
 rename_i e
 cases e
 split
 ·rfl
 ·rename_i hl
  simp only[Heap.read,h hl]
theorem Vk (g:DI R base bJ nk kL M0 ι H M l lA bt al hs eZ) {o:ny} (hc:o.bE=true) {v u:AV} (hv:wL (o.sub (look l)) H=some v) (hu:∀(M:Heap) (O:Nat→Prop) (κ:VI) (a:AV),VL M O κ v a→VL M O κ u a) {lo:Nat} (hok:FR base al l bt lo o u H hs=true) :
  ∃a,aL (o.sub (look lA)) [] (M.hide bJ nk)=some a∧VL M (OR R ι) ι u a∧∀k Mk,lo≤k→eZ[k]?=some Mk→∃w,aL (o.sub (look lA)) [] (Mk.hide bJ nk)=some w∧AV.same w a=true:=by
 obtain⟨a,h1,h2⟩:=Ji g.vs g.env hc hv
 have h3:=hu _ _ _ _ h2
 -- all read the same
 have fin:known u=true→(∀X,(X=M∨∃k,lo≤k∧eZ[k]?=some X)→aL (o.sub (look lA)) [] (X.hide bJ nk)=aL (o.sub (look lA)) [] M)→∃a,aL (o.sub (look lA)) [] (M.hide bJ nk)=some a∧VL M (OR R ι) ι u a∧∀k Mk,lo≤k→eZ[k]?=some Mk→∃w,aL (o.sub (look lA)) [] (Mk.hide bJ nk)=some w∧AV.same w a=true :=
  λhkn hX=>⟨a,(hX M (.inl rfl)).trans h1,h3,λk Mk hk hM=>⟨a,(hX Mk (.inr ⟨k,hk,hM⟩)).trans h1,VL.pW u a hkn h3⟩⟩
 unfold FR at hok
 -- a list
 have lst:∀(t:Nat),jv bt (.t t)=yD bt o→Nat.ble (yD bt o) lo=true→(uM H base al=true∨yD bt o=0) →
   ∀(P:Heap→(Nat→Prop)→VI→Nat→Prop),(∀M O κ,VL M O κ (look l t) (look lA t)→∃b,P M O κ b)→True:=λ_ _ _ _ _ _=>trivial
 cases o with
 | load ag n x =>
  cases x with
  | c w=>simp[H8]at hok
  | t t =>
   simp only[H8,yD,jv]at hok
   simp only[ny.sub,AX.sub,aL,AX.ev]at fin h1 ⊢
   have e0:=g.env t
   generalize hX:look l t=X at *
   cases X with
   | elem cs =>
    simp only at hok
    have hkn:known u=true:=by
     split at hok
     ·assumption
     ·assumption
     ·cases hok
    have hb:jR bt t≤lo+1:=by
     split at hok
     ·rename_i h _ _;exact Nat.le_of_ble_eq_true h
     ·rename_i h _ _;exact Nat.le_of_ble_eq_true h
     ·cases hok
    have hth:(uM H base al||yE hs lo base al)=true∨jR bt t=0:=by
     split at hok
     ·exact .inl (by assumption)
     ·exact .inr (aM hok)
     ·cases hok
    simp only[VL]at e0
    obtain⟨b,off,c,ro,sl,e1,g1,g2,g3,g4⟩:=e0
    have hout:¬(bJ≤b∧b<bJ+nk):=λ⟨q1,q2⟩=>by
     rcases hth with ht | h0
     ·rcases g.owned ht q1 q2 with o |⟨k,Mk,mY,hk,_,w,o⟩
      ·exact g2 (.inl o)
      ·have:=w.env t (by omega)
       rw[hX]at this
       simp only[VL]at this
       obtain⟨b',_,_,_,_,e2,_,p2,_⟩:=this
       rw[e1]at e2
       simp only[AV.ptr.injEq,au,aD]at e2
       rw[←e2.1]at p2
       exact p2 (.inl o)
     ·have:=g.start t h0
      rw[hX]at this
      simp only[VL]at this
      obtain⟨b',_,_,_,_,e2,_,_,p3,_⟩:=this
      rw[e1]at e2
      simp only[AV.ptr.injEq,au,aD]at e2
      rw[←e2.1,g.m0]at p3
      omega
    refine fin hkn λX Ph=>?_
    rw[e1]
    refine zL ((pX hout).trans ?_)
    rcases Ph with rfl |⟨k,hk,hM⟩
    ·rfl
    ·obtain⟨mY,w,_⟩:=g.hist k X hM
     have:=w.env t (by omega)
     rw[hX]at this
     simp only[VL]at this
     obtain⟨b',_,_,_,_,e2,_,p2,p3,_⟩:=this
     rw[e1]at e2
     simp only[AV.ptr.injEq,au,aD]at e2
     rw[←e2.1]at p2 p3
     exact(w.keep.get b p3 (λh=>p2 (.inl h))).1.symm
   | ptr p =>
    cases p with
    | none=>simp at hok
    | some q =>
     simp only at hok
     split at hok
     case h_2=>cases hok
     rename_i hkn hlt hto
     have hlt:q.1<base:=by simpa[Nat.blt_eq]using hlt
     simp only[VL]at e0
     obtain⟨j,k1,k2⟩:=e0
     rw[g.Ri _ hlt]at k1
     have hj:=(g.low _ _ k1).2
     have hact:act ι H q.1:=by
      simp only[ny.sub,AX.sub,wL,AX.ev,hX]at hv
      split at hv
      ·cases hv
      split at hv
      ·rename_i hg
       exact .inl ⟨_,hg⟩
      ·cases hv
     refine fin hkn λX Ph=>?_
     rw[k2]
     refine zL ((pX (by omega)).trans ?_)
     rcases Ph with rfl |⟨k,hk,hM⟩
     ·rfl
     ·obtain⟨mY,w,_⟩:=g.hist k X hM
      refine(w.same q.1 j hlt hact k1 ?_).symm
      have:hs.drop k=(hs.drop lo).drop (k-lo):=by rw[List.drop_drop];congr 1;omega
      rw[this]
      have mono:∀(r:List (List Nat×WH)) (n:Nat),touches q.1 r=false→touches q.1 (r.drop n)=false:=by
       intro r
       induction r with
       | nil=>intro n _;simp[touches]
       | cons u r ih =>
        intro n h
        cases n with
        | zero=>exact h
        | succ n=>exact ih n (gN.1 h).2
      exact mono _ _ hto
   | _=>simp at hok
 | gH x =>
  cases x with
  | c w=>simp[H8]at hok
  | t t =>
   simp only[H8,yD,jv]at hok
   simp only[ny.sub,AX.sub,aL,AX.ev]at fin h1 ⊢
   have e0:=g.env t
   generalize hX:look l t=X at *
   cases X with
   | list sz len cs ex =>
    simp only at hok
    have hkn:known u=true:=by
     split at hok
     ·assumption
     ·assumption
     ·cases hok
    have hb:jR bt t≤lo+1:=by
     split at hok
     ·rename_i h _ _;exact Nat.le_of_ble_eq_true h
     ·rename_i h _ _;exact Nat.le_of_ble_eq_true h
     ·cases hok
    have hth:(uM H base al||yE hs lo base al)=true∨jR bt t=0:=by
     split at hok
     ·exact .inl (by assumption)
     ·exact .inr (aM hok)
     ·cases hok
    simp only[VL]at e0
    rcases e0 with⟨_,_,s',e1⟩ |⟨b,off,cap,ex',e1,_,_,_,q4⟩
    ·exact fin hkn λX _=>by rw[e1];rfl
    refine fin hkn λX Ph=>?_
    rw[e1]
    refine Af λhl=>?_
    obtain⟨c,ro,sl,g1,g2,g3,g4,g5⟩:=q4 hl
    have hout:¬(bJ≤b∧b<bJ+nk):=λ⟨q1,q2⟩=>by
     rcases hth with ht | h0
     ·rcases g.owned ht q1 q2 with o |⟨k,Mk,mY,hk,_,w,o⟩
      ·exact g2 (.inl o)
      ·have:=w.env t (by omega)
       rw[hX]at this
       simp only[VL]at this
       rcases this with⟨_,_,s',e2⟩ |⟨b',_,_,_,e2,_,_,_,p4⟩
       ·rw[e1]at e2;cases e2
       ·rw[e1]at e2
        cases e2
        obtain⟨_,_,_,_,p2,_⟩:=p4 hl
        exact p2 (.inl o)
     ·have:=g.start t h0
      rw[hX]at this
      simp only[VL]at this
      rcases this with⟨_,_,s',e2⟩ |⟨b',_,_,_,e2,_,_,_,p4⟩
      ·rw[e1]at e2;cases e2
      ·rw[e1]at e2
       cases e2
       obtain⟨_,_,_,_,_,p3,_⟩:=p4 hl
       rw[g.m0]at p3
       omega
    refine(pX hout).trans ?_
    rcases Ph with rfl |⟨k,hk,hM⟩
    ·rfl
    ·obtain⟨mY,w,_⟩:=g.hist k X hM
     have:=w.env t (by omega)
     rw[hX]at this
     simp only[VL]at this
     rcases this with⟨_,_,s',e2⟩ |⟨b',_,_,_,e2,_,_,_,p4⟩
     ·rw[e1]at e2;cases e2
     ·rw[e1]at e2
      cases e2
      obtain⟨_,_,_,_,p2,p3,_⟩:=p4 hl
      exact(w.keep.get b p3 (λh=>p2 (.inl h))).1.symm
   | slice p sz len cap ex =>
    cases p with
    | some q=>simp[VL]at e0
    | none =>
     simp only at hok
     have hkn:known u=true:=by
      split at hok
      ·assumption
      ·assumption
      ·cases hok
     simp only[VL]at e0
     obtain⟨_,s',e1⟩:=e0
     exact fin hkn λX _=>by rw[e1];rfl
   | acc b off sz n w =>
    simp only at hok
    split at hok
    case h_2=>cases hok
    rename_i hkn hlt hto
    have hlt:b<base:=by simpa[Nat.blt_eq]using hlt
    simp only[VL]at e0
    obtain⟨p,s',cap,ex,k2,k3,k4,k5,m,L,k6,k7,k8,k9⟩:=e0
    have hact:act ι H b:=by
     simp only[ny.sub,AX.sub,wL,AX.ev,hX]at hv
     split at hv
     ·rename_i e;cases e
     ·rename_i e
      cases e
      split at hv
      ·rename_i hg
       exact .inl ⟨_,hg⟩
      ·cases hv
     ·rename_i e;cases e
     ·cases hv
    refine fin hkn λX Ph=>?_
    rw[k2]
    cases p with
    | none=>rfl
    | some p =>
     refine Af λhl=>?_
     have k9:=k9.resolve_right (λh=>hl h.2.1)
     obtain⟨j,k1,k10⟩:=k9
     rw[g.Ri _ hlt]at k1
     have k10:=k10.resolve_right (λh=>hl h.1)
     have hpj:p.1=j:=by
      have:=k10.1
      simp only[au]at this
      rw[this]
     have hj:=(g.low _ _ k1).2
     rw[hpj]
     refine(pX (by omega)).trans ?_
     rcases Ph with rfl |⟨k,hk,hM⟩
     ·rfl
     ·obtain⟨mY,w',_⟩:=g.hist k X hM
      refine(w'.same b j hlt hact k1 ?_).symm
      have:hs.drop k=(hs.drop lo).drop (k-lo):=by rw[List.drop_drop];congr 1;omega
      rw[this]
      have mono:∀(r:List (List Nat×WH)) (n:Nat),touches b r=false→touches b (r.drop n)=false:=by
       intro r
       induction r with
       | nil=>intro n _;simp[touches]
       | cons u r ih =>
        intro n h
        cases n with
        | zero=>exact h
        | succ n=>exact ih n (gN.1 h).2
      exact mono _ _ hto
   | _=>simp at hok
 | mJ x =>
  cases x with
  | c w=>simp[H8]at hok
  | t t =>
   simp only[H8]at hok
   simp only[ny.sub,AX.sub,aL,AX.ev]at fin h1 ⊢
   have e0:=g.env t
   generalize hX:look l t=X at *
   cases X with
   | map p =>
    cases p with
    | none=>simp at hok
    | some q =>
     simp only at hok
     split at hok
     case h_2=>cases hok
     rename_i hkn hlt hto
     have hlt:q<base:=by simpa[Nat.blt_eq]using hlt
     simp only[VL]at e0
     obtain⟨j,k1,k2⟩:=e0
     rw[g.Ri _ hlt]at k1
     have hj:=(g.low _ _ k1).2
     have hact:act ι H q:=by
      simp only[ny.sub,AX.sub,wL,AX.ev,hX]at hv
      split at hv
      ·rename_i hg
       exact .inl ⟨_,hg⟩
      ·cases hv
     refine fin hkn λX Ph=>?_
     rw[k2]
     have hget:(X.hide bJ nk).get j=M.get j:=by
      refine(pX (by omega)).trans ?_
      rcases Ph with rfl |⟨k,hk,hM⟩
      ·rfl
      ·obtain⟨mY,w,_⟩:=g.hist k X hM
       refine(w.same q j hlt hact k1 ?_).symm
       have:hs.drop k=(hs.drop lo).drop (k-lo):=by rw[List.drop_drop];congr 1;omega
       rw[this]
       have mono:∀(r:List (List Nat×WH)) (n:Nat),touches q r=false→touches q (r.drop n)=false:=by
        intro r
        induction r with
        | nil=>intro n _;simp[touches]
        | cons u r ih =>
         intro n h
         cases n with
         | zero=>exact h
         | succ n=>exact ih n (gN.1 h).2
       exact mono _ _ hto
     simp only[kM,hget]
   | _=>simp at hok
 | lookup kd ok z x w2 =>
  cases x with
  | c w=>simp[H8]at hok
  | t t =>
   simp only[H8]at hok
   simp only[ny.sub,AX.sub,aL,AX.ev]at fin h1 ⊢
   have e0:=g.env t
   generalize hX:look l t=X at *
   cases X with
   | map p =>
    cases p with
    | none=>simp at hok
    | some q =>
     simp only at hok
     split at hok
     case h_2=>cases hok
     rename_i hkn hlt hto
     have hlt:q<base:=by simpa[Nat.blt_eq]using hlt
     simp only[VL]at e0
     obtain⟨j,k1,k2⟩:=e0
     rw[g.Ri _ hlt]at k1
     have hj:=(g.low _ _ k1).2
     have hact:act ι H q:=by
      simp only[ny.sub,AX.sub,wL,AX.ev,hX]at hv
      split at hv
      ·rename_i hg _
       exact .inl ⟨_,hg⟩
      ·cases hv
     refine fin hkn λX Ph=>?_
     rw[k2]
     have hget:(X.hide bJ nk).get j=M.get j:=by
      refine(pX (by omega)).trans ?_
      rcases Ph with rfl |⟨k,hk,hM⟩
      ·rfl
      ·obtain⟨mY,w,_⟩:=g.hist k X hM
       refine(w.same q j hlt hact k1 ?_).symm
       have:hs.drop k=(hs.drop lo).drop (k-lo):=by rw[List.drop_drop];congr 1;omega
       rw[this]
       have mono:∀(r:List (List Nat×WH)) (n:Nat),touches q r=false→touches q (r.drop n)=false:=by
        intro r
        induction r with
        | nil=>intro n _;simp[touches]
        | cons u r ih =>
         intro n h
         cases n with
         | zero=>exact h
         | succ n=>exact ih n (gN.1 h).2
       exact mono _ _ hto
     simp only[Bn,kM,hget]
   | _=>simp at hok
theorem AU{o:ny}{x:Option AV}{k:TS→Prop}:∀ {hs:List (List Nat×WH)} {tr:TS},BG o x k hs tr→∃fO,(∀(i:Nat) (t:List Nat) (Hk:WH),hs[i]?=some (t,Hk)→wL o Hk=x)∧k fO
 | [],tr,h=>⟨tr,λi t Hk e=>by simp at e,h⟩
 | p::r,tr,h=>by
  simp only[BG]at h
  obtain⟨_,h1,h2⟩:=gq h
  obtain⟨fO,q1,q2⟩:=AU h2
  refine⟨fO,λi t Hk e=>?_,q2⟩
  cases i with
  | zero=>simp only[List.getElem?_cons_zero,au]at e;rw[e]at h1;exact h1
  | succ i=>exact q1 i t Hk (by simpa using e)
theorem Ny (g:DI R base bJ nk kL M0 ι H M l lA bt al hs eZ) {o:ny} (hc:o.bE=true) {v u:AV} (hv:wL (o.sub (look l)) H=some v) (hu:∀(M:Heap) (O:Nat→Prop) (κ:VI) (a:AV),VL M O κ v a→VL M O κ u a) {lo:Nat} (hok:yF base l bt lo o u=true)
  (hl:∀(i:Nat) (t:List Nat) (Hk:WH),(hs.drop lo)[i]?=some (t,Hk)→wL (o.sub (look l)) Hk=wL (o.sub (look l)) H) :
  ∃a,aL (o.sub (look lA)) [] (M.hide bJ nk)=some a∧VL M (OR R ι) ι u a∧∀k Mk,lo≤k→eZ[k]?=some Mk→∃w,aL (o.sub (look lA)) [] (Mk.hide bJ nk)=some w∧AV.same w a=true:=by
 obtain⟨a,h1,h2⟩:=Ji g.vs g.env hc hv
 have h3:=hu _ _ _ _ h2
 have rig:∀ {M':Heap} {O:Nat→Prop} {κ:VI} {w:AV},yF base l bt lo o u=true→VL M' O κ u w→w=a:=by
  intro M' O κ w hb hw
  unfold yF at hb
  split at hb
  case h_2=>cases hb
  split at hb
  ·simp only[VL]at hw h3;rw[hw,h3]
  ·simp only[VL]at hw h3;rw[hw,h3]
  ·simp only[VL]at hw h3;rw[hw,h3]
  ·cases hb
 have hkn:known u=true:=by
  unfold yF at hok
  split at hok
  case h_2=>cases hok
  split at hok
  ·rfl
  ·rfl
  ·rfl
  ·cases hok
 cases o with
 | load ag n x =>
  cases x with
  | c w=>simp[yF]at hok
  | t t =>
   have hp:∃b off,look l t=.ptr (some (b,off))∧b<base∧jR bt t≤lo+1:=by
    simp only[yF]at hok
    split at hok
    ·rename_i b off _ _ hX
     simp only[Bool.and_eq_true,Nat.blt_eq]at hok
     exact⟨b,off,hX,hok.1,Nat.le_of_ble_eq_true hok.2⟩
    ·rename_i b off _ hX
     simp only[Bool.and_eq_true,Nat.blt_eq]at hok
     exact⟨b,off,hX,hok.1,Nat.le_of_ble_eq_true hok.2⟩
    ·rename_i b off _ hX
     simp only[Bool.and_eq_true,Nat.blt_eq]at hok
     exact⟨b,off,hX,hok.1,Nat.le_of_ble_eq_true hok.2⟩
    ·cases hok
   obtain⟨b,off,hX,hlt,hbt⟩:=hp
   have e0:=g.env t
   rw[hX]at e0
   simp only[VL]at e0
   obtain⟨j,k1,k2⟩:=e0
   rw[g.Ri _ hlt]at k1
   have hj:=(g.low _ _ k1).2
   have hide:∀X:Heap,aL (ny.sub (look lA) (.load ag n (.t t))) [] (X.hide bJ nk)=aL (ny.sub (look lA) (.load ag n (.t t))) [] X:=by
    intro X
    simp only[ny.sub,AX.sub,aL,AX.ev]
    rw[k2]
    exact zL (pX (by omega))
   refine⟨a,(hide M).trans h1,h3,λk Mk hk hM=>?_⟩
   obtain⟨mY,w,tk,Hk,w2,w3⟩:=g.hist k Mk hM
   have hce:∀s,VL Mk (OR R mY) mY (zU bt (k+1) (look l) s) (look lA s):=λs=>by
    unfold zU
    split
    ·rename_i hb;exact w.env s hb
    ·simp[VL]
   have hsub:ny.sub (zU bt (k+1) (look l)) (.load ag n (.t t))=ny.sub (look l) (.load ag n (.t t)):=by
    simp only[ny.sub,AX.sub,zU]
    rw[if_pos (by omega)]
   have hv':wL (ny.sub (zU bt (k+1) (look l)) (.load ag n (.t t))) Hk=some v:=by
    rw[hsub,hl (k-lo) tk Hk (by rw[List.getElem?_drop,show lo+(k-lo)=k by omega];exact w2)]
    exact hv
   obtain⟨w',q1,q2⟩:=Ji w3 hce hc hv'
   have:=rig hok (hu _ _ _ _ q2)
   subst this
   exact⟨w',(hide Mk).trans q1,VL.pW u w' hkn h3⟩
 | _=>simp[yF]at hok
theorem Nz (g:DI R base bJ nk kL M0 ι H M l lA bt al hs eZ) {o:ny} (hc:o.bE=true) {v u a:AV} (hv:wL (o.sub (look l)) H=some v) (hu:∀(M:Heap) (O:Nat→Prop) (κ:VI) (a:AV),VL M O κ v a→VL M O κ u a) {lo b:Nat} (hok:FR base al l bt lo o u H hs=true)
  (hb:Sc l o=some b) (hbt:Nat.ble (yD bt o) (lo+1)=true) (ha:aL (o.sub (look lA)) [] (M.hide bJ nk)=some a)
  (hl:∀(i:Nat) (t:List Nat) (Hk:WH),(hs.drop lo)[i]?=some (t,Hk)→wL (o.sub (look l)) Hk=wL (o.sub (look l)) H) :
  ∀k Mk mY t Hk,eZ[k]?=some Mk→HK R base bJ nk k kL ι H M l lA bt hs Mk mY→hs[k]?=some (t,Hk)→VS R mY Hk Mk→lo+1≤k+1→VL Mk (OR R mY) mY u a:=by
 intro k Mk mY tk Hk hM w w2 w3 hk
 cases o with
 | load ag n x =>
  cases x with
  | c w=>simp[Sc]at hb
  | t t =>
   simp only[yD,jv]at hbt
   have hbt:=Nat.le_of_ble_eq_true hbt
   unfold FR at hok
   simp only[H8,yD,jv]at hok
   simp only[Sc]at hb
   have e0:=g.env t
   have hX0:∃q,look l t=.ptr (some q):=by
    split at hb
    ·rename_i q h;exact⟨q,h⟩
    ·cases hb
   obtain⟨q,hX⟩:=hX0
   rw[hX]at hok e0
   simp only at hok
   split at hok
   case h_2=>cases hok
   rename_i hkn hlt hto
   have hlt:q.1<base:=by simpa[Nat.blt_eq]using hlt
   simp only[VL]at e0
   obtain⟨j,k1,k2⟩:=e0
   rw[g.Ri _ hlt]at k1
   have hj:=(g.low _ _ k1).2
   have hact:act ι H q.1:=by
    simp only[ny.sub,AX.sub,wL,AX.ev,hX]at hv
    split at hv
    ·cases hv
    split at hv
    ·rename_i hg
     exact .inl ⟨_,hg⟩
    ·cases hv
   have hsame:M.get j=Mk.get j:=by
    refine w.same q.1 j hlt hact k1 ?_
    have:hs.drop k=(hs.drop lo).drop (k-lo):=by rw[List.drop_drop];congr 1;omega
    rw[this]
    have mono:∀(r:List (List Nat×WH)) (n:Nat),touches q.1 r=false→touches q.1 (r.drop n)=false:=by
     intro r
     induction r with
     | nil=>intro n _;simp[touches]
     | cons u r ih =>
      intro n h
      cases n with
      | zero=>exact h
      | succ n=>exact ih n (gN.1 h).2
    exact mono _ _ hto
   have eqk:aL (ny.sub (look lA) (.load ag n (.t t))) [] Mk=aL (ny.sub (look lA) (.load ag n (.t t))) [] (M.hide bJ nk):=by
    simp only[ny.sub,AX.sub,aL,AX.ev]
    rw[k2]
    exact zL (hsame.symm.trans (pX (by omega)).symm)
   have hce:∀s,VL Mk (OR R mY) mY (zU bt (k+1) (look l) s) (look lA s):=λs=>by
    unfold zU
    split
    ·rename_i hb;exact w.env s hb
    ·simp[VL]
   have hsub:ny.sub (zU bt (k+1) (look l)) (.load ag n (.t t))=ny.sub (look l) (.load ag n (.t t)):=by
    simp only[ny.sub,AX.sub,zU]
    rw[if_pos (by omega)]
   have hv':wL (ny.sub (zU bt (k+1) (look l)) (.load ag n (.t t))) Hk=some v:=by
    rw[hsub,hl (k-lo) tk Hk (by rw[List.getElem?_drop,show lo+(k-lo)=k by omega];exact w2)]
    exact hv
   obtain⟨w',q1,q2⟩:=Ji w3 hce hc hv'
   rw[eqk,ha]at q1
   obtain rfl:=aj q1
   exact hu _ _ _ _ q2
 | _=>simp[Sc]at hb
end
theorem NA{a b:Nat}{l:List Nat}:kK (a::l) b=false↔a≠b∧kK l b=false:=by
 simp only[kK]
 cases h:Nat.beq a b with
 | true=>simp[aM h]
 | false =>
  have:a≠b:=λe=>by subst e;simp at h
  simp[this]
theorem nP {C:aW} {B:FuncId→Option Bt} (hB:∀f b,B f=some b→Nv C f b) {R:Nat→Prop} {n base bJ nk:Nat} {kL:VI} {M0:Heap}:∀(ops:List bQ) (l lA:Fast) (H:WH) (M:Heap) (ι:VI) (tr:TS) (hs:List (List Nat×WH)) (bt:List (Nat×Nat)) (al:List Nat) (eZ:List Heap) (k:Fast→WH→TS→Prop),
  DI R base bJ nk kL M0 ι H M l lA bt al hs eZ→(ops.all λd=>d.o.op.bE)=true→vo C B n base nk ops l H tr hs bt al k →
  ∃l8 M' aV l' H' fO t,u_ C n bJ nk ops lA M eZ=some (l8,M')∧VS R aV H' M'∧Stp base t ι H M aV H' M'∧mM R aV M' l' l8∧k l' H' fO
 | [],l,lA,H,M,ι,tr,hs,bt,al,eZ,k,g,hc,h=>⟨lA,M,ι,l,H,tr,[],rfl,g.vs,.refl _ _ _ _ _ (by have:=g.len;omega),g.env,h⟩
 | d::r,l,lA,H,M,ι,tr,hs,bt,al,eZ,k,g,hc,h=>by
  simp only[List.all_cons,Bool.and_eq_true]at hc
  simp only[vo]at h
  obtain⟨l00,aa7,SF,h⟩:=nO h
  have g:=g.like SF
  obtain⟨l0,tr1,hl,h⟩:=Nw h
  have g1:=g.like hl
  have hbl:base≤H.length:=by have:=g.len;omega
  rcases h with⟨hw,h⟩ |⟨hw,h⟩
  ·obtain⟨l1,aa8,hl1,h⟩:=nO h
   have g1:=g1.like hl1
   have he1:=g1.env
   simp only[u_,uy g.env hw]
   cases ho:d.o.op with
   | p op =>
    rw[ho]at h hc
    simp only at h
    obtain⟨v,u,tr2,h1,h2,h3⟩:=Km (R:=R) h
    obtain⟨a,h4,h5⟩:=Sj he1 hc.1 h1
    have cut:∀(X:Heap) (O:Nat→Prop) (κ:VI) (q:Nat),q<hs.length+1→(∀t,jR bt t≤q→VL X O κ (look l1 t) (look lA t))→LH bt (hs.length+1) op≤q→VL X O κ u a:=λX O κ q hq he hb=>by
     have hce:∀t,VL X O κ (zU bt q (look l1) t) (look lA t):=λt=>by
      unfold zU
      split
      ·rename_i hb;exact he t hb
      ·simp[VL]
     obtain⟨a',e1,e2⟩:=Sj hce hc.1 (by rw[Qk hq hb];exact h1)
     rw[h4]at e1
     obtain rfl:=aj e1
     exact h3 _ _ _ _ e2
    obtain⟨l8,M',aV,l',H',fO,t,q1,q2⟩:=nP hB r _ _ H M ι tr2 hs _ al eZ k (g1.put n d.o.dst (LH bt (hs.length+1) op) (h3 _ _ _ _ h5) (λhb=>cut M0 _ kL 0 (by omega) (λt ht=>g1.start t (by omega)) (by omega)) (λq Mk mY hq w hb=>cut Mk _ mY (q+1) (by omega) w.env hb)) hc.2 h2
    refine⟨l8,M',aV,l',H',fO,t, ?_,q2⟩
    simp only[h4,force_eq]
    exact q1
   | l op =>
    rw[ho]at h hc
    simp only at h
    obtain⟨v,u,tr2,h1,h2,h3⟩:=Km (R:=R) h
    have h2:∃tr2 b,(∃a,aL (op.sub (look lA)) [] (M.hide bJ nk)=some a∧DI R base bJ nk kL M0 ι H M (iD n d.o.dst u l1) (iD n d.o.dst a lA) (iV n d.o.dst b bt) al hs eZ∧∀k Mk,d.lo≤k→eZ[k]?=some Mk→∃w,aL (op.sub (look lA)) [] (Mk.hide bJ nk)=some w∧AV.same w a=true)∧vo C B n base nk r (iD n d.o.dst u l1) H tr2 hs (iV n d.o.dst b bt) al k:=by
     split at h2
     ·rename_i hok
      obtain⟨a,p1,p2,p3⟩:=Vk g1 hc.1 h1 h3 hok
      split at h2
      ·split at h2
       case h_2=>exact h2.elim
       rename_i hb hbt
       obtain⟨tr3,m1,m2⟩:=AU h2
       exact⟨tr3,d.lo+1,⟨a,p1,g1.aao n d.o.dst (d.lo+1) p2 (λe=>by omega) (Nz g1 hc.1 h1 h3 hok hb hbt p1 m1),p3⟩,m2⟩
      ·exact⟨_,hs.length+1,⟨a,p1,g1.now n d.o.dst p2,p3⟩,h2⟩
     ·split at h2
      case h_2=>exact h2.elim
      rename_i hok
      obtain⟨tr3,p1,p2⟩:=AU h2
      obtain⟨a,m1,m2,m3⟩:=Ny g1 hc.1 h1 h3 hok p1
      exact⟨tr3,hs.length+1,⟨a,m1,g1.now n d.o.dst m2,m3⟩,p2⟩
    obtain⟨tr2,bb,⟨a,q1,q2,q3⟩,h2⟩:=h2
    obtain⟨l8,M',aV,l',H',fO,t,q4,q5⟩:=nP hB r _ _ H M ι tr2 hs _ al eZ k q2 hc.2 h2
    refine⟨l8,M',aV,l',H',fO,t, ?_,q5⟩
    simp only[q1]
    rw[if_pos]
    ·simp only[force_eq]
     exact q4
    ·rw[List.all_eq_true]
     intro Mk hMk
     obtain⟨i,hi⟩:=List.mem_iff_getElem?.1 hMk
     rw[List.getElem?_drop]at hi
     obtain⟨w,w1,w2⟩:=q3 (d.lo+i) Mk (by omega) hi
     rw[w1]
     exact w2
   | k op =>
    rw[ho]at h hc
    simp only at h
    split at h
    case h_2=>exact h.elim
    rename_i hix hal
    have hix:d.ix<nk:=by simpa[Nat.blt_eq]using hix
    obtain⟨c,sl,mk,c',sl',mkA,tr2,h1,h2,h3,hss,h4⟩:=XQ g1.vs he1 hc.1 h
    obtain⟨f1,f2,f3⟩:=g1.free d.ix hix hal
    have hnew:=g1.new d.ix hix
    obtain⟨s1,k1,k2,k3⟩:=g1.vs.fill hnew f1 f2 f3 (BL.of (sl':=sl') h3 hss)
    have hne:∀i,i<base→i≠base+d.ix:=λi hi=>by omega
    have gp:∀i,i≠base+d.ix→bD (dP H (base+d.ix) (some (.cells c false sl))) i=bD H i:=λi hi=>by
     rw[jX,if_neg (λe=>hi e.1)]
    have ac:∀i,i≠base+d.ix→act (ι.fill (base+d.ix) (c.length,c'.length)) (dP H (base+d.ix) (some (.cells c false sl))) i→act ι H i:=λi hi ha=>ha.imp (λ⟨x,hx⟩=>⟨x,by rw[gp i hi]at hx;exact hx⟩) id
    have stp:Stp base [] ι H M (ι.fill (base+d.ix) (c.length,c'.length)) (dP H (base+d.ix) (some (.cells c false sl))) (M.put (bJ+d.ix) (some (.cells c' false sl'))) :=
     ⟨k1,k2 _,λ_ _ h=>h,λ_ _=>rfl,λi hi=>by simp only[VI.fill,bn _ _ (hne i hi)],λ_ _ _=>rfl,λi hi ⟨x,hx⟩=>⟨x,by rw[gp i (hne i hi)]at hx;exact hx⟩,λi j hi ha hj _=>k3 i j (hne i hi) (ac i (hne i hi) ha) hj,by rw[bN];exact hbl⟩
    have hval:=h4 (M.put (bJ+d.ix) (some (.cells c' false sl'))) (OR R (ι.fill (base+d.ix) (c.length,c'.length))) (ι.fill (base+d.ix) (c.length,c'.length)) (base+d.ix) (bJ+d.ix) hnew (by simp[VI.fill,setAt])
    have g2:DI R base bJ nk kL M0 (ι.fill (base+d.ix) (c.length,c'.length)) (dP H (base+d.ix) (some (.cells c false sl))) (M.put (bJ+d.ix) (some (.cells c' false sl'))) l1 lA bt (d.ix::al) hs eZ :=
     ⟨s1,by rw[bN];exact g1.len,λt=>VL.mono (k1.or R) _ _ _ _ (k2 _) (he1 t),g1.new,λi hi ha=>by
      obtain⟨a1,a2⟩:=NA.1 ha
      obtain⟨b1,b2,b3⟩:=g1.free i hi a2
      have hn:base+i≠base+d.ix:=by omega
      exact⟨b1,by simp only[VI.fill,bn _ _ hn];exact b2,by rw[gp _ hn];exact b3⟩,g1.start,g1.low,g1.Yv.trans (k2 _),g1.Ri,g1.m0,g1.hlen,λq Mk hq=>by
      obtain⟨mY,w,w2⟩:=g1.hist q Mk hq
      exact⟨mY,⟨w.keep.trans k1,w.env,w.new,w.gone,λi j hi ha hj ht=>by
       have ha':=ac i (hne i hi) ha
       exact(k3 i j (hne i hi) ha' (by rw[g1.Ri i hi];exact hj)).trans (w.same i j hi ha' hj ht)⟩,w2⟩⟩
    obtain⟨l8,M',aV,l',H',fO,t,q1,q2,q3,q4⟩:=nP hB r _ _ _ _ _ tr2 hs _ (d.ix::al) eZ k (g2.now n d.o.dst hval) hc.2 h1
    refine⟨l8,M',aV,l',H',fO,t, ?_,q2, ?_,q4⟩
    ·simp only[h2]
     exact q1
    ·have:=stp.trans q3 (Nat.le_refl _)
     simpa using this
   | n op =>
    rw[ho]at h hc
    simp only at h
    obtain⟨a,M1,iC,v,H1,t1,tr2,h1,h2,h3,h4,h5⟩:=XR hB g1.vs he1 hc.1 h
    have g2:=(g1.loud h2 h3).now n d.o.dst h4
    rw[aF,List.length_singleton]at g2
    obtain⟨l8,M',aV,l',H',fO,t,q1,q2,q3,q4⟩:=nP hB r _ _ _ _ _ tr2 _ _ al _ k g2 hc.2 h5
    refine⟨l8,M',aV,l',H',fO,t1++t, ?_,q2,(h3.weak hbl).trans q3 (Nat.le_refl _),q4⟩
    simp only[h1,force_eq]
    exact q1
  ·simp only[u_,uy g.env hw]
   cases ho:d.o.op with
   | n op =>
    rw[ho]at h
    simp only at h
    have g2:=(g1.loud (t:=[]) g1.vs (.refl _ _ _ _ _ (Nat.le_refl _))).now n d.o.dst (v:=.tuple []) (a:=.tuple []) VL.unit
    rw[aF,List.length_singleton]at g2
    exact nP hB r _ _ H M ι tr1 _ _ al _ k g2 hc.2 h
   | p op=>rw[ho]at h;exact nP hB r _ _ H M ι tr1 _ _ al _ k (g1.now n d.o.dst VL.unit) hc.2 h
   | l op=>rw[ho]at h;exact nP hB r _ _ H M ι tr1 _ _ al _ k (g1.now n d.o.dst VL.unit) hc.2 h
   | k op=>rw[ho]at h;exact nP hB r _ _ H M ι tr1 _ _ al _ k (g1.now n d.o.dst VL.unit) hc.2 h
theorem SG {C:aW} {B:FuncId→Option Bt} (hB:∀f b,B f=some b→Nv C f b) {R:Nat→Prop} {n nk:Nat} {ops:List bQ} {l lA:Fast} {H:WH} {M:Heap} {ι:VI} {tr:TS} {k:Fast→WH→TS→Prop} (s:VS R ι H M) (he:mM R ι M l lA) (hc:(ops.all λd=>d.o.op.bE)=true)
  (h:vo C B n H.length nk ops l (H++holes nk) tr [] [] [] k):∃l8 M' aV l' H' fO t,u_ C n M.next nk ops lA { M with next:=M.next+nk } []=some (l8,M')∧VS R aV H' M'∧Stp H.length t ι H M aV H' M'∧mM R aV M' l' l8∧k l' H' fO:=by
 obtain⟨s1,k1⟩:=s.room nk
 have inr:∀i,i<nk→H.length≤H.length+i∧H.length+i<H.length+nk:=λi hi=>by omega
 have g:DI R H.length M.next nk ι M (ι.room H.length M.next nk) (H++holes nk) { M with next:=M.next+nk } l lA [] [] [] [] :=
  ⟨s1,by simp[zK],he.step s k1,λi hi=>by simp only[VI.room,if_pos (inr i hi)];congr 1;omega,λi hi _=>⟨by simp only[VI.room,if_pos (inr i hi)],by simp only[VI.room,if_pos (inr i hi)],by rw[BI,if_neg (by omega),DC]⟩,
   λt _=>he t,λi j h=>s.lt i j h,k1.le,k1.XI,rfl,rfl,λk Mk h=>by simp at h⟩
 obtain⟨l8,M',aV,l',H',fO,t,q1,q2,q3,q4⟩:=nP hB ops l lA _ _ _ tr [] [] [] [] k g hc h
 refine⟨l8,M',aV,l',H',fO,[]++t,q1,q2,k1.trans q3 (Nat.le_refl _),q4⟩
theorem Fh{M:Heap}{O:Nat→Prop}{κ:VI}{lA:Fast}:∀(keep:List Nat) (vs:List AV),aZ M O κ vs (keep.map (look lA))→∀t,VL M O κ (look (fA keep vs) t) (look lA t)∧VL M O κ (look (fA keep vs) t) (look (uo lA keep) t)
 | [],vs,h,t=>by
  cases vs with
  | nil=>simp[fA,look,VL]
  | cons _ _=>simp[aZ]at h
 | u::keep,vs,h,t=>by
  cases vs with
  | nil=>simp[aZ]at h
  | cons v vs =>
   simp only[List.map_cons,aZ]at h
   have ih:=Fh keep vs h.2 t
   simp only[fA,uo,mO]
   split
   ·rename_i e
    subst e
    exact⟨h.1,h.1⟩
   ·exact ih
theorem mM.map{R:Nat→Prop}{ι:VI}{M:Heap}{l lA:Fast}(he:mM R ι M l lA):∀keep:List Nat,aZ M (OR R ι) ι (keep.map (look l)) (keep.map (look lA))
 | []=>by simp[aZ]
 | t::r=>by simp only[List.map_cons,aZ];exact⟨he t,mM.map he r⟩
def xG(R:Nat→Prop)(np:Nat)(ι:VI)(H:WH)(M:Heap)(x:EI)(k:Ex→Fast→WH→TS→Prop):Prop :=
 ∃ex l8 M' aV l' H' fO,x=some (ex,l8,M')∧VS R aV H' M'∧Stp np (List.range np) ι H M aV H' M'∧mM R aV M' l' l8∧k ex l' H' fO
theorem jT{n:Nat}{t:List Nat}{ι iC:VI}{H H1:WH}{M M1:Heap}(h:Stp n t ι H M iC H1 M1):Stp n (List.range n) ι H M iC H1 M1:=h.more λi hi _=>List.mem_range.2 hi
theorem xG.after{R:Nat→Prop}{np:Nat}{ι iC:VI}{H H1:WH}{M M1:Heap}{x:EI}{k:Ex→Fast→WH→TS→Prop}{t:List Nat}(h:Stp np t ι H M iC H1 M1)(g:xG R np iC H1 M1 x k):xG R np ι H M x k:=by
 obtain⟨ex,l8,M',aV,l',H',fO,q1,q2,q3,q4⟩:=g
 exact⟨ex,l8,M',aV,l',H',fO,q1,q2,jT (h.trans q3 (Nat.le_refl _)),q4⟩
theorem SH(H:WH)(b:Nat):∀i x,bD (dP H b none) i=some x→bD H i=some x:=λi x h=>by
 rw[jX]at h
 split at h
 ·cases h
 ·exact h
theorem PD{R:Nat→Prop}{M:Heap}{ι:VI}:∀(bs:List Nat) {H:WH} (n:Nat),n≤H.length→VS R ι H M→VS R ι (LC H bs) M∧Stp n [] ι H M ι (LC H bs) M∧(LC H bs).length=H.length
 | [],H,n,hn,s=>⟨s,.refl _ _ _ _ _ hn,rfl⟩
 | b::r,H,n,hn,s=>by
  have g:=SH H b
  have ac:∀i,act ι (dP H b none) i→act ι H i:=λi h=>h.imp (λ⟨x,hx⟩=>⟨x,g i x hx⟩) id
  have hl:(dP H b none).length=H.length:=bN _ _ _
  have s1:VS R ι (dP H b none) M:=⟨λi j h=>by rw[hl];exact s.lt i j h,λi i' j h h'=>s.inj i i' j (ac i h) (ac i' h'),λi x h=>s.blk i x (g i x h),λi h=>by rw[hl];exact s.nI i h,λi h c sl e=>s.kZ i h c sl (g i _ e),s.LD,λj h=>⟨(s.res j h).1,λi ha=>(s.res j h).2 i (ac i ha)⟩⟩
  have k1:Stp n [] ι H M ι (dP H b none) M:=⟨⟨Nat.le_refl _,λ_ _ h=>⟨rfl,h⟩⟩,.refl _ _,λ_ _ h=>h,λ_ _=>rfl,λ_ _=>rfl,λ_ _ _=>rfl,λi _ ⟨x,hx⟩=>⟨x,g i x hx⟩,λ_ _ _ _ _ _=>rfl,by rw[hl];exact hn⟩
  obtain⟨s2,k2,h2⟩:=PD r (H:=dP H b none) n (by rw[hl];exact hn) s1
  refine⟨s2, ?_,h2.trans hl⟩
  exact k1.trans k2 (Nat.le_refl _)
theorem PE{R:Nat→Prop}{M:Heap}{ι:VI}{H:WH}(tr:TS){n:Nat}(hn:n≤H.length)(s:VS R ι H M):VS R ι (U_ tr H) M∧Stp n [] ι H M ι (U_ tr H) M∧(U_ tr H).length=H.length:=by
 unfold U_
 split
 ·exact PD _ n hn s
 ·exact⟨s,.refl _ _ _ _ _ hn,rfl⟩
set_option maxHeartbeats 2000000 in
theorem l9 {C:aW} {B:FuncId→Option Bt} (hB:∀f b,B f=some b→Nv C f b) {K n np:Nat} {R:Nat→Prop}:∀(code:bK) (l lA:Fast) (H:WH) (M:Heap) (ι:VI) (tr:TS) (k:Ex→Fast→WH→TS→Prop),code.bE=true→VS R ι H M→np≤H.length→mM R ι M l lA →
  qX C B K n np code l H tr k→xG R np ι H M (bf C K n code lA M) k
 |.skip,l,lA,H,M,ι,tr,k,_,s,hn,he,h=>⟨.normal,lA,M,ι,l,H,tr,rfl,s,.refl _ _ _ _ _ hn,he,h⟩
 |.reg ops,l,lA,H,M,ι,tr,k,hc,s,hn,he,h=>by
  obtain⟨l8,M',aV,l',H',fO,t,q1,q2,q3,q4,q5⟩:=wE hB ops l lA H M ι tr _ s he hc h
  exact⟨.normal,l8,M',aV,l',H',fO,by simp only[bf,q1,aG],q2,jT (q3.weak hn),q4,q5⟩
 |.JR nk ops,l,lA,H,M,ι,tr,k,hc,s,hn,he,h=>by
  obtain⟨l8,M',aV,l',H',fO,t,q1,q2,q3,q4,q5⟩:=SG hB s he hc h
  exact⟨.normal,l8,M',aV,l',H',fO,by simp only[bf,q1,aG],q2,jT (q3.weak hn),q4,q5⟩
 |.seq a b,l,lA,H,M,ι,tr,k,hc,s,hn,he,h=>by
  simp only[bK.bE,Bool.and_eq_true]at hc
  simp only[qX]at h
  obtain⟨l0,tr,SF,h⟩:=nO h
  have he:mM R ι M l0 lA:=λt=>by rw[SF t];exact he t
  split at h
  ·split at h
   case h_2=>exact h.elim
   rename_i keep ms bs ts ex outs out r0 _
   obtain⟨s0,k0,hl0⟩:=PE tr hn s
   obtain⟨vs,blks,iC,hk,s1,k1,hv⟩:=Dx s0 (by rw[hl0];exact hn) (he.map keep) h
   obtain⟨r,hrun,hk⟩:=gq hk
   obtain⟨l8,M',aV,q1,q2,q3,q4⟩:=hrun R iC M lA s1 (λt=>(Fh keep vs hv t).1)
   refine xG.after (jT k0) (xG.after k1 (xG.after q3 ?_))
   simp only[bf,q1]
   cases ex with
   | normal=>exact l9 hB b outs l8 out M' aV r k hc.2 q2 q3.next q4 hk
   | exit i=>exact⟨_,l8,M',aV,outs,out,r,rfl,q2,.refl _ _ _ _ _ q3.next,q4,hk⟩
   | ret=>exact⟨_,l8,M',aV,outs,out,r,rfl,q2,.refl _ _ _ _ _ q3.next,q4,hk⟩
  ·obtain⟨ex,l8,M',aV,l',H',fO,q1,q2,q3,q4,q5⟩:=l9 hB a l0 lA H M ι _ _ hc.1 s hn he h
   refine xG.after q3 ?_
   simp only[bf,q1]
   cases ex with
   | normal=>exact l9 hB b l' l8 H' M' aV fO k hc.2 q2 q3.next q4 q5
   | exit i=>exact⟨_,l8,M',aV,l',H',fO,rfl,q2,.refl _ _ _ _ _ q3.next,q4,q5⟩
   | ret=>exact⟨_,l8,M',aV,l',H',fO,rfl,q2,.refl _ _ _ _ _ q3.next,q4,q5⟩
 |.cond c a b,l,lA,H,M,ι,tr,k,hc,s,hn,he,h=>by
  simp only[bK.bE,Bool.and_eq_true]at hc
  simp only[qX]at h
  obtain⟨l0,tr0,hl0,h⟩:=nO h
  have he:mM R ι M l0 lA:=λt=>by rw[hl0 t];exact he t
  obtain⟨l',fO,hl,h⟩:=Nw h
  have he':mM R ι M l' lA:=λt=>by rw[hl t];exact he t
  cases c with
  | c v =>
   simp only[f_]at h
   have h:=(h.resolve_right (λh=>by cases h.1)).2
   simp only[bf,AX.sub,AX.ev]
   cases v with
   | bool w =>
    cases w with
    | true=>exact l9 hB a l' lA H M ι fO k hc.1.2 s hn he' h
    | false=>exact l9 hB b l' lA H M ι fO k hc.2 s hn he' h
   | _=>exact h.elim
  | t t =>
   simp only[bf,AX.sub,AX.ev]
   have ht:=he t
   generalize l0=l at *
   simp only[f_]at h
   rcases h with⟨h1,h2⟩ |⟨h1,h2⟩
   ·generalize look l t=X at *
    cases X<;>simp only at h1<;>first |(cases h1;done) | skip
    rename_i w
    simp only[au,beq_iff_eq]at h1
    subst h1
    rw[ht.eq rfl]
    exact l9 hB a l' lA H M ι fO k hc.1.2 s hn he' h2
   ·rw[hl t]at h2
    generalize look l t=X at *
    cases X<;>simp only at h1 h2<;>first |(cases h1;done) | exact h2.elim | skip
    rename_i w
    simp only[au,beq_eq_false_iff_ne]at h1
    have:w=false:=by cases w<;>simp_all
    subst this
    rw[ht.eq rfl]
    exact l9 hB b l' lA H M ι fO k hc.2 s hn he' h2
 |.block id c,l,lA,H,M,ι,tr,k,hc,s,hn,he,h=>by
  simp only[bK.bE]at hc
  simp only[qX]at h
  obtain⟨ex,l8,M',aV,l',H',fO,q1,q2,q3,q4,q5⟩:=l9 hB c l lA H M ι tr _ hc s hn he h
  refine xG.after q3 ?_
  simp only[bf,q1]
  have re:=q3.next
  cases ex with
  | normal=>exact⟨_,l8,M',aV,l',H',fO,rfl,q2,.refl _ _ _ _ _ re,q4,q5⟩
  | ret=>exact⟨_,l8,M',aV,l',H',fO,rfl,q2,.refl _ _ _ _ _ re,q4,q5⟩
  | exit i =>
   cases e:Nat.beq i id with
   | true =>
    have q5:k .normal l' H' fO:=by simpa only[e]using q5
    simp only
    rw[if_pos (aM e)]
    exact⟨_,l8,M',aV,l',H',fO,rfl,q2,.refl _ _ _ _ _ re,q4,q5⟩
   | false =>
    have q5:k (.exit i) l' H' fO:=by simpa only[e]using q5
    simp only
    rw[if_neg (λe'=>by subst e';simp at e)]
    exact⟨_,l8,M',aV,l',H',fO,rfl,q2,.refl _ _ _ _ _ re,q4,q5⟩
 |.loop keep c,l,lA,H,M,ι,tr,k,hc,s,hn,he,h=>by
  simp only[qX]at h
  obtain⟨l0,tr,SF,h⟩:=nO h
  have he:mM R ι M l0 lA:=λt=>by rw[SF t];exact he t
  split at h
  case h_2=>exact h.elim
  rename_i ms bs ts ex outs out r0 _
  obtain⟨s0,k0,hl0⟩:=PE tr hn s
  obtain⟨vs,blks,iC,hk,s1,k1,hv⟩:=Dx s0 (by rw[hl0];exact hn) (he.map keep) h
  obtain⟨r,hrun,hk⟩:=gq hk
  obtain⟨l8,M',aV,q1,q2,q3,q4⟩:=hrun R iC M lA s1 (λt=>(Fh keep vs hv t).1)
  refine xG.after (jT k0) (xG.after k1 (xG.after q3 ?_))
  exact⟨ex,l8,M',aV,outs,out,r,by simp only[bf];exact q1,q2,.refl _ _ _ _ _ q3.next,q4,hk⟩
 |.exit i,l,lA,H,M,ι,tr,k,_,s,hn,he,h=>⟨.exit i,lA,M,ι,l,H,tr,rfl,s,.refl _ _ _ _ _ hn,he,h⟩
 |.ret,l,lA,H,M,ι,tr,k,_,s,hn,he,h=>⟨.ret,lA,M,ι,l,H,tr,rfl,s,.refl _ _ _ _ _ hn,he,h⟩
 |.fail,l,lA,H,M,ι,tr,k,_,s,hn,he,h=>by simp[qX]at h
theorem VL.Ql{M:Heap}{O:Nat→Prop}{κ:VI}{v a:AV}(h:VL M O κ v a)(hv:v≠.undef):a≠.undef:=by
 cases v with
 | undef=>exact absurd rfl hv
 | ptr p=>cases p<;>simp only[VL]at h<;>first |(subst h;simp) |(obtain⟨_,_,rfl⟩:=h;simp)
 | slice p=>cases p<;>simp only[VL]at h;obtain⟨_,_,rfl⟩:=h;simp
 | map p=>cases p<;>simp only[VL]at h<;>first |(subst h;simp) |(obtain⟨_,_,rfl⟩:=h;simp)
 | func f cs=>simp only[VL]at h;obtain⟨_,rfl,_⟩:=h;simp
 | agg cs=>simp only[VL]at h;obtain⟨_,rfl,_⟩:=h;simp
 | tuple cs=>simp only[VL]at h;obtain⟨_,rfl,_⟩:=h;simp
 | list=>simp only[VL]at h;rcases h with⟨_,_,_,rfl⟩ |⟨_,_,_,_,rfl,_⟩<;>simp
 | elem=>simp only[VL]at h;obtain⟨_,_,_,_,_,rfl,_⟩:=h;simp
 | acc=>simp only[VL]at h;obtain⟨_,_,_,_,rfl,_⟩:=h;simp
 | _=>simp only[VL]at h;subst h;simp
theorem Vl{R:Nat→Prop}{ι:VI}{H:WH}{M:Heap}(s:VS R ι H M){l lA:Fast}(he:mM R ι M l lA){r:uX}{v:AV}(h:Va r l H=some v):∃a,Dq r lA M=some a∧VL M (OR R ι) ι v a:=by
 cases r with
 | tmp t =>
  have ht:=he t
  simp only[Va,Dq]at h ⊢
  split at h
  ·cases h
  ·rename_i hne
   obtain rfl:=aj h
   have:=ht.Ql hne
   generalize look lA t=Y at *
   cases Y<;>simp_all
 | cell t agg n =>
  simp only[Va]at h
  have:=Ji s he (o:=.load agg n (.t t)) rfl (v:=v) (by simpa only[ny.sub,AX.sub]using h)
  simpa only[ny.sub,AX.sub,aL,AX.ev,Dq]using this
theorem F7{R:Nat→Prop}{ι:VI}{H:WH}{M:Heap}(s:VS R ι H M){l lA:Fast}(he:mM R ι M l lA):∀ {rs:List uX} {vs:List AV},LJ rs l H=some vs→∃as,xC rs lA M=some as∧aZ M (OR R ι) ι vs as
 | [],vs,h=>by
  simp only[LJ,au]at h
  subst h
  exact⟨[],rfl,by simp[aZ]⟩
 | r::rs,vs,h=>by
  simp only[LJ]at h
  split at h
  case h_2=>cases h
  rename_i v vs' h1 h2
  obtain rfl:=aj h
  obtain⟨a,e1,e2⟩:=Vl s he h1
  obtain⟨as,e3,e4⟩:=F7 s he h2
  exact⟨a::as,by simp only[xC,e1,ak,e3,aG],by simp only[aZ];exact⟨e2,e4⟩⟩
theorem LZ{R:Nat→Prop}{ι:VI}{H:WH}{M:Heap}(s:VS R ι H M){l lA:Fast}(he:mM R ι M l lA){rs:List uX}{v:AV}(h:BH rs l H=some v):∃a,jr rs lA M=some a∧VL M (OR R ι) ι v a:=by
 unfold BH at h
 split at h
 ·rename_i u hu
  obtain rfl:=aj h
  obtain⟨as,e1,e2⟩:=F7 s he hu
  match as,e2 with
  | [],e2=>simp[aZ]at e2
  | [a],e2 =>
   simp only[aZ]at e2
   exact⟨a,by simp only[jr,e1,aG],e2.1⟩
  | _::_::_,e2=>simp[aZ]at e2
 ·rename_i vs hne hvs
  obtain rfl:=aj h
  obtain⟨as,e1,e2⟩:=F7 s he hvs
  refine⟨.tuple as, ?_,by simp only[VL];exact⟨as,rfl,e2⟩⟩
  simp only[jr,e1,aG]
  match as,e2 with
  | [],e2=>rfl
  | [a],e2 =>
   match vs,e2 with
   | [],e2=>simp[aZ]at e2
   | [u],e2=>exact absurd rfl (hne u)
   | _::_::_,e2=>simp[aZ]at e2
  | _::_::_,e2=>rfl
 ·cases h
theorem Vm {R:Nat→Prop} {ι:VI} {H:WH} {M:Heap} (s:VS R ι H M) {np:Nat} (hn:np≤H.length) {v a:AV} (hv:VL M (OR R ι) ι v a) {tr:TS} {v':AV} {out:WH} (h:Vb np v H tr v' out) :
  ∃aV,VS R aV out M∧Stp np [] ι H M aV out M∧VL M (OR R aV) aV v' a:=by
 unfold Vb at h
 split at h
 case h_2=>exact h.elim
 rename_i m ts mc _
 obtain⟨s0,k0,hl0⟩:=PE tr hn s
 have hn0:=hn
 rw[←hl0]at hn
 generalize U_ tr H=H0 at *
 obtain⟨iC,h1,h2,h3⟩:=Nt m s0 (VL.retag v (ts.headD .undef) a hv)
 generalize hr:Yo m (Proofs.Ytkedeiklmpkgkaa.retag v (ts.headD .undef)) H0=r at *
 obtain⟨v1,H1⟩:=r
 simp only at h h1 h2 h3
 obtain⟨oV,k1,k2⟩:=BQ [] mc (BD H1 np (pU v1)) H1 iC M h1
 have k3:=VL.step h1 k2 h3
 obtain⟨rfl,rfl⟩:=h
 obtain⟨ι3,q1,q2,q3⟩:=XP k1 (Nat.le_trans hn (Nat.le_trans h2.next k2.next)) (pU v1) (vs:=[v1]) (as:=[a]) (by simp only[aZ];exact⟨k3,trivial⟩)
 simp only[H6,aZ]at q3
 refine⟨ι3,q1, ?_,q3.1⟩
 have e1:Stp np [] ι H0 M iC H1 M:=h2.weak hn
 have e2:Stp np [] iC H1 M oV _ M:=k2.weak (Nat.le_trans hn h2.next)
 have:=(k0.trans (e1.trans e2 (Nat.le_refl _)) (Nat.le_refl _)).trans q2 (Nat.le_refl _)
 simpa using this
theorem Jp{M:Heap}{O:Nat→Prop}{κ:VI}:∀ {vs as:List AV} (i:Nat),aZ M O κ vs as→∀t,VL M O κ (look (start i vs) t) (look (start i as) t)
 | [],[],i,_,t=>by simp[start,look,VL]
 | v::vs,a::as,i,h,t=>by
  simp only[aZ]at h
  simp only[start,mO]
  split
  ·exact h.1
  ·exact Jp (i+1) h.2 t
 | [],_::_,_,h,_=>by simp[aZ]at h
 | _::_,[],_,h,_=>by simp[aZ]at h
theorem Vn {G:Lr} {T:FuncId→Option bF} {K d:Nat} {B:FuncId→Option Bt} (hB:∀f b,B f=some b→Nv (oK G T K d) f b) {f:FuncId} (hG:G f=none) {af:bF} (hT:T f=some af) (hc:af.code.bE=true) {args:List AV} {blks:WH} {tr:TS} {v:AV} {out:WH}
  (h1:args.length=af.nargs) (h2:af.nargs≤af.ntmps) (h3:XJ (oK G T K d) B K af args blks tr v out):Spec (oK G T K (d+1)) f args blks v out:=by
 intro R ι M as s hv
 have hl:=hv.length
 have hst:mM R ι M (start 0 (args++List.replicate (af.ntmps-af.nargs) (.tuple []))) (start 0 (as++List.replicate (af.ntmps-af.nargs) (.tuple []))):=by
  refine Jp 0 (hv.append ?_)
  generalize af.ntmps-af.nargs=m
  induction m with
  | zero=>simp[aZ]
  | succ m ih=>simp only[List.replicate_succ,aZ];exact⟨VL.unit,ih⟩
 obtain⟨ex,l8,M',aV,l',H',fO,q1,q2,q3,q4,q5⟩:=l9 hB af.code _ _ blks M ι tr _ hc s (Nat.le_refl _) hst h3
 obtain⟨l1,tr1,hl1,q5⟩:=nO q5
 have q4:mM R aV M' l1 l8:=λt=>by rw[hl1 t];exact q4 t
 have fin:∀ {ex},(match BH af.results l1 H' with
   | some u=>Vb blks.length u H' tr1 v out
   | none=>False)→(ex=.normal∨ex=.ret)→bf (oK G T K d) K af.ntmps af.code (start 0 (as++List.replicate (af.ntmps-af.nargs) (.tuple []))) M=some (ex,l8,M') →
   ∃a M' aV,oK G T K (d+1) f as M=some (a,M')∧VS R aV out M'∧Stp blks.length (List.range blks.length) ι blks M aV out M'∧VL M' (OR R aV) aV v a:=by
  intro ex hm hx hrun
  split at hm
  case h_2=>exact hm.elim
  rename_i u hu
  obtain⟨a,e1,e2⟩:=LZ q2 q4 hu
  obtain⟨oV,e3,e4,e5⟩:=Vm q2 q3.next e2 hm
  refine⟨a,M',oV, ?_,e3,jT (q3.trans e4 (Nat.le_refl _)),e5⟩
  simp only[oK,hG,hT,bbody]
  rw[if_pos ⟨by rw[←hl];exact h1,h2⟩]
  rcases hx with rfl | rfl<;>simp only[hrun,e1,aG]
 cases ex with
 | normal=>exact fin q5 (.inl rfl) q1
 | ret=>exact fin q5 (.inr rfl) q1
 | exit i=>exact q5.elim
theorem Vo {C:aW} {B:FuncId→Option Bt} (hB:∀f b,B f=some b→Nv C f b) {K n np:Nat} {code:bK} (hc:code.bE=true) {ins:Fast} {blks:WH} (hn:np≤blks.length) {tr:TS} {x:Ex×Fast×WH}
  (h:XL C B K n np code ins blks tr x):Nl (bf C K n code) np ins blks x.1 x.2.1 x.2.2:=by
 intro R ι M lA s he
 obtain⟨ex',l8,M',aV,l',H',fO,q1,q2,q3,q4,q5⟩:=l9 hB code ins lA blks M ι tr _ hc s hn he h
 unfold XK at q5
 obtain⟨l1,fO,hl1,q5⟩:=nO q5
 have q4:mM R aV M' l1 l8:=λt=>by rw[hl1 t];exact q4 t
 split at q5
 case h_2=>exact q5.elim
 rename_i keep ms bs ts _
 obtain⟨s0,k0,hl0⟩:=PE fO q3.next q2
 obtain⟨vs',out',oV,⟨rfl,e1,e2⟩,s2,k2,hv⟩:=Dx s0 (by rw[hl0];exact q3.next) (q4.map keep) q5
 rw[←e1,←e2]
 exact⟨l8,M',oV,q1,s2,jT (q3.trans ((jT k0).trans k2 (Nat.le_refl _)) (Nat.le_refl _)),λt=>(Fh keep vs' hv t).1⟩
theorem bC {G:Lr} {T:FuncId→Option bF} {K d:Nat} {B:FuncId→Option Bt} (hB:∀f b,B f=some b→Nv (oK G T K d) f b) {f:FuncId} {af:bF} (hf:G f=none∧T f=some af∧af.code.bE=true) {args:List AV} {blks:WH} {R:Type} {o:R→AV×WH} {r:R} {F:Option R}
  (h:F=some r) (t:Tc F) (h1:args.length=af.nargs:=by rfl) (h2:Nat.ble af.nargs af.ntmps=true:=by rfl) (e:XJ (oK G T K d) B K af args blks ⟨t⟩ (o r).1 (o r).2=claim (λv=>(o v).1=(o r).1∧(o v).2=(o r).2) r t:=by kernel_rfl):Spec (oK G T K (d+1)) f args blks (o r).1 (o r).2 :=
 Vn hB hf.1 hf.2.1 hf.2.2 h1 (Nat.le_of_ble_eq_true h2) (e.mpr (dJ ⟨rfl,rfl⟩ t h))
theorem bW {C:aW} {B:FuncId→Option Bt} (hB:∀f b,B f=some b→Nv C f b) {K n np:Nat} {code:bK} (hc:code.bE=true) {ins:Fast} {blks:WH} {R:Type} {o:R→Ex×Fast×WH} {r:R} {F:Option R}
  (h:F=some r) (t:Tc F) (hn:Nat.ble np blks.length=true:=by rfl) (e:XL C B K n np code ins blks ⟨t⟩ (o r)=claim (λv=>(o v).1=(o r).1∧(o v).2.1=(o r).2.1∧(o v).2.2=(o r).2.2) r t:=by kernel_rfl):Nl (bf C K n code) np ins blks (o r).1 (o r).2.1 (o r).2.2 :=
 Vo hB hc (Nat.le_of_ble_eq_true hn) (e.mpr (dJ ⟨rfl,rfl,rfl⟩ t h))
def dw{S E:Type}(step:S→Option (S⊕E)):Nat→S→Option E
 | 0,_=>none
 | k+1,s=>match step s with
  | none=>none
  | some (.inl s)=>dw step k s
  | some (.inr e)=>some e
def cZ{S E:Type}(keep:List Nat)(st:S→List AV×WH)(fin:E→Ex×Fast×WH):S⊕E→Ex×Fast×WH
 |.inl s=>(.normal,fA keep (st s).1,(st s).2)
 |.inr e=>fin e
theorem F8{l:Fast}(t:Nat):∀keep:List Nat,look (uo l keep) t=if t∈keep then look l t else .undef
 | []=>by simp[uo,look]
 | u::r=>by
  simp only[uo,mO,F8 t r,List.mem_cons]
  by_cases e:u=t
  ·subst e;simp
  ·simp[e,Ne.symm e,show ¬t=u from λh=>e h.symm]
theorem dA {S E:Type} {body:Fast→Heap→EI} {np:Nat} {keep:List Nat} {st:S→List AV×WH} {fin:E→Ex×Fast×WH} {step:S→Option (S⊕E)} (hE:∀e,(fin e).1≠.normal)
  (hr:∀s x,step s=some x→Nl body np (fA keep (st s).1) (st s).2 (cZ keep st fin x).1 (cZ keep st fin x).2.1 (cZ keep st fin x).2.2) :
  ∀(k:Nat) (s:S) (e:E),dw step k s=some e→Nl (fF body keep k) np (fA keep (st s).1) (st s).2 (fin e).1 (fin e).2.1 (fin e).2.2
 | 0,s,e,h=>by simp[dw]at h
 | k+1,s,e,h=>by
  intro R ι M lA vs he
  have zk:∀(keep:List Nat) (xs:List AV) (t:Nat),t∉keep→look (fA keep xs) t=.undef:=λkeep=>by
   induction keep with
   | nil=>intro xs t _;cases xs<;>simp[fA,look]
   | cons u r ih =>
    intro xs t ht
    rw[List.mem_cons,not_or]at ht
    cases xs with
    | nil=>simp[fA,look]
    | cons v xs =>
     simp only[fA,mO]
     rw[if_neg (λe=>ht.1 e.symm)]
     exact ih xs t ht.2
  have he':∀t,VL M (OR R ι) ι (look (fA keep (st s).1) t) (look (uo lA keep) t):=λt=>by
   rw[F8]
   split
   ·exact he t
   ·rename_i ht
    rw[zk keep _ t ht]
    simp[VL]
  simp only[dw]at h
  split at h
  ·cases h
  ·rename_i s' hs
   have:=hr s _ hs
   obtain⟨l8,M',aV,q1,q2,q3,q4⟩:=this R ι M (uo lA keep) vs he'
   obtain⟨lA2,M2,oV,r1,r2,r3,r4⟩:=dA hE hr k s' e h R aV M' l8 q2 q4
   refine⟨lA2,M2,oV, ?_,r2,jT (q3.trans r3 (Nat.le_refl _)),r4⟩
   simp only[fF,q1]
   exact r1
  ·rename_i e' hs
   obtain rfl:=aj h
   have:=hr s _ hs
   simp only[cZ]at this
   obtain⟨l8,M',aV,q1,q2,q3,q4⟩:=this R ι M (uo lA keep) vs he'
   refine⟨l8,M',aV, ?_,q2,q3,q4⟩
   simp only[fF,q1]
   have:=hE e'
   generalize (fin e').1=x at *
   cases x with
   | normal=>exact absurd rfl this
   | exit i=>rfl
   | ret=>rfl
open Go.ChangeShapes Go.WideShapes Go.ChangeAt Go.RowKit
mutual
def o7:Sh→Nat
 |.agg ss=>rE ss
 | _=>1
def rE:List Sh→Nat
 | []=>0
 | s::r=>o7 s+rE r
end
mutual
def encS:Sh→D→List AV
 |.bool,.bool b=>[.bool b]
 |.int _,.int k n=>[.int k n]
 |.str,.str s=>[.str s]
 |.list e,.list l=>[.list (o7 e) l.length (Kn e l) false]
 |.agg ss,.agg l=>Ag ss l
 | _,_=>[]
def Kn(e:Sh):List D→List AV
 | []=>[]
 | d::r=>encS e d++Kn e r
def Ag:List Sh→List D→List AV
 | s::ss,d::r=>encS s d++Ag ss r
 | _,_=>[]
end
theorem xH{e:Sh}:∀ {l:List D} {n:Nat},l.length=n→Ag (List.replicate n e) l=Kn e l
 | [],n,h=>by
  subst h
  simp[Ag,Kn]
 | d::r,n,h=>by
  subst h
  simp only[aY,List.replicate_succ,Ag,Kn]
  rw[xH rfl]
theorem uz(s:Sh):∀n,rE (List.replicate n s)=n*o7 s
 | 0=>by simp[rE]
 | n+1=>by
  rw[List.replicate_succ,rE,uz s n,Nat.succ_mul,Nat.add_comm]
theorem DF{P:Program}(hl:laidOutB P=true):∀(k:Nat) (t:TypeId) (s:Sh),AL P k t=some s→t<P.types.size→P.cellsOf t=o7 s
 | 0,_,_,h,_=>by simp[AL]at h
 | k+1,t,s,h,ht=>by
  have hr:=Go.rowFine_of hl ht
  simp only[AL]at h
  split at h
  case h_7=>cases h
  ·rename_i hu
   obtain rfl:=aj h
   simpa[rowFine,isVar,ht,hu,kindOk,o7]using hr
  ·rename_i i hu
   obtain rfl:=aj h
   simpa[rowFine,isVar,ht,hu,kindOk,o7]using hr
  ·rename_i hu
   obtain rfl:=aj h
   simpa[rowFine,isVar,ht,hu,kindOk,o7]using hr
  ·rename_i e hu
   split at h
   ·cases h
   obtain⟨se,hse,rfl⟩:=av.1 h
   simp[rowFine,isVar,ht,hu,kindOk]at hr
   simpa[o7]using hr.2
  ·rename_i fs hu
   obtain⟨ss,hss,rfl⟩:=av.1 h
   obtain⟨h1,h2,_⟩:=Go.kid_struct hl ht hu
   rw[h2,o7]
   have hall:∀(fl:List Field) (ss:List Sh),(∀f∈fl,f.type<P.types.size)→HZ (AL P k) (fl.map λf=>f.type)=some ss→(fl.map λf=>P.cellsOf f.type).sum=rE ss:=by
    intro fl
    induction fl with
    | nil =>
     intro ss _ h
     simp[HZ]at h
     subst h
     simp[rE]
    | cons f fl ih =>
     intro ss hf h
     simp only[List.map_cons,HZ]at h
     split at h
     case h_2=>cases h
     rename_i s r h1 h2
     obtain rfl:=aj h
     rw[List.map_cons,List.sum_cons,rE,DF hl k _ _ h1 (hf f (by simp)),ih r (λg hg=>hf g (by simp[hg])) h2]
   exact hall fs.toList ss h1 hss
  ·rename_i n e hu
   obtain⟨se,hse,rfl⟩:=av.1 h
   obtain⟨h1,h2⟩:=Go.kid_array hl ht hu
   rw[h2,o7,uz,DF hl k _ _ hse h1]
mutual
theorem VL.sub{M M':Heap}{κ l7:VI}(h:M.Sub M')(hn:M.next≤M'.next):∀(v a:AV),VL M (λ_=>False) VI.none v a→VL M' (λ_=>False) VI.none v a
 |.undef,_,_=>by simp[VL]
 |.bool _,_,e=>by simpa[VL]using e
 |.int _ _,_,e=>by simpa[VL]using e
 |.str _,_,e=>by simpa[VL]using e
 |.ptr none,_,e=>by simpa[VL]using e
 |.ptr (some q),_,e=>by simp[VL,VI.none]at e
 |.slice none _ _ _ _,_,e=>by simpa[VL]using e
 |.slice (some q) _ _ _ _,_,e=>by simp[VL,VI.none]at e
 |.map none,_,e=>by simpa[VL]using e
 |.map (some r),_,e=>by simp[VL,VI.none]at e
 |.func f cs,_,e=>by
  simp only[VL]at e ⊢
  obtain⟨cs',h1,h2⟩:=e
  exact⟨cs',h1,aZ.sub h hn cs cs' h2⟩
 |.nilFunc,_,e=>by simpa[VL]using e
 |.agg cs,_,e=>by
  simp only[VL]at e ⊢
  obtain⟨cs',h1,h2⟩:=e
  exact⟨cs',h1,aZ.sub h hn cs cs' h2⟩
 |.tuple cs,_,e=>by
  simp only[VL]at e ⊢
  obtain⟨cs',h1,h2⟩:=e
  exact⟨cs',h1,aZ.sub h hn cs cs' h2⟩
 |.list sz len cs ex,_,e=>by
  simp only[VL]at e ⊢
  rcases e with e |⟨b,o,cap,ex',h1,h2,h3,h4,h5⟩
  ·exact .inl e
  refine .inr ⟨b,o,cap,ex',h1,h2,h3,h4,λhl=>?_⟩
  obtain⟨c,ro,sl,g1,g2,g3,g4,g5⟩:=h5 hl
  exact⟨c,ro,sl,h _ _ g1,g2,Nat.lt_of_lt_of_le g3 hn,g4,aZ.sub h hn cs _ g5⟩
 |.elem cs,_,e=>by
  simp only[VL]at e ⊢
  obtain⟨b,o,c,ro,sl,h1,g1,g2,g3,g5⟩:=e
  exact⟨b,o,c,ro,sl,h1,h _ _ g1,g2,Nat.lt_of_lt_of_le g3 hn,aZ.sub h hn cs _ g5⟩
 |.acc b o sz n w,_,e=>by simp[VL,VI.none]at e
theorem aZ.sub{M M':Heap}(h:M.Sub M')(hn:M.next≤M'.next):∀(l r:List AV),aZ M (λ_=>False) VI.none l r→aZ M' (λ_=>False) VI.none l r
 | [],[],_=>by simp[aZ]
 | a::l,v::r,e=>by
  simp only[aZ]at e ⊢
  exact⟨VL.sub (κ:=VI.none) (l7:=VI.none) h hn a v e.1,aZ.sub h hn l r e.2⟩
 | [],_::_,e=>by simp[aZ]at e
 | _::_,[],e=>by simp[aZ]at e
end
abbrev NC(M:Heap):=aZ M (λ_=>False) VI.none
def Ko(W:World)(s:Sh)(cs:List Value)(d:D):Prop :=
 ∀ι M,R ι M W→l5 M→∃aV M' Nj,Grow ι M aV M' W∧bL aV Nj cs∧(∀a∈Nj,a.bU=true)∧NC M' (encS s d) Nj∧D.is s d
def dN(W:World):List Sh→List (List Value)→List D→Prop
 | [],[],[]=>True
 | s::ss,c::cs,d::ds=>Ko W s c d∧dN W ss cs ds
 | _,_,_=>False
theorem dN.open {W:World}:∀ {ss:List Sh} {css:List (List Value)} {ds:List D},dN W ss css ds→∀ι M,R ι M W→l5 M →
  ∃aV M' ,∃pieces:List (List AV),Grow ι M aV M' W∧pieces.map List.length=css.map List.length∧bL aV pieces.flatten css.flatten∧(∀p∈pieces,∀a∈p,a.bU=true)∧NC M' (Ag ss ds) pieces.flatten∧D.are ss ds
 | [],[],[],_,ι,M,r,ro=>⟨ι,M,[],.refl r ro,rfl,by simp[bL],by simp,by simp[Ag,NC,aZ],by simp[D.are]⟩
 | s::ss,c::css,d::ds,h,ι,M,r,ro=>by
  simp only[dN]at h
  obtain⟨iC,M1,Nj,g1,v1,c1,r1,i1⟩:=h.1 ι M r ro
  obtain⟨oV,M2,ps,g2,l2,v2,c2,r2,i2⟩:=dN.open h.2 iC M1 g1.rel g1.ro
  refine⟨oV,M2,Nj::ps,g1.trans g2, ?_, ?_, ?_, ?_, ?_⟩
  ·have:=v1.length
   simp[l2,this]
  ·simp only[List.flatten_cons]
   exact(v1.mono g2.le).append v2
  ·intro p hp
   rcases List.mem_cons.1 hp with rfl | hp
   ·exact c1
   ·exact c2 p hp
  ·simp only[Ag,List.flatten_cons]
   exact(aZ.sub g2.sub g2.next _ _ r1).append r2
  ·simp only[D.are]
   exact⟨i1,i2⟩
 | [],[],_::_,h,_,_,_,_=>by simp[dN]at h
 | [],_::_,_,h,_,_,_,_=>by simp[dN]at h
 | _::_,[],_,h,_,_,_,_=>by simp[dN]at h
 | _::_,_::_,[],h,_,_,_,_=>by simp[dN]at h
theorem dN.nD {W:World}:∀ {ss:List Sh} {css:List (List Value)} {ds:List D},ss.length=ds.length→css.length=ds.length →
  (∀(i:Nat) s c d,ss[i]?=some s→css[i]?=some c→ds[i]?=some d→Ko W s c d)→dN W ss css ds
 | [],[],[],_,_,_=>by simp[dN]
 | s::ss,c::css,d::ds,h1,h2,h=>by
  simp only[dN]
  exact⟨h 0 s c d (by simp) (by simp) (by simp),dN.nD (by simpa using h1) (by simpa using h2) λi s c d a1 a2 a3=>h (i+1) s c d (by simpa using a1) (by simpa using a2) (by simpa using a3)⟩
 | [],_,_::_,h1,_,_=>by simp at h1
 | _::_,_,[],h1,_,_=>by simp at h1
 | _,[],_::_,_,h2,_=>by simp at h2
 | _,_::_,[],_,h2,_=>by simp at h2
theorem wF{W:World}{s:Sh}{v:Value}{a:AV}{d:D}(hv:∀ι,VR ι a v)(hc:a.bU=true)(hr:∀M,NC M (encS s d) [a])(hs:D.is s d):Ko W s [v] d:=λι M r ro =>
 ⟨ι,M,[a],.refl r ro,by simp only[bL];exact⟨hv ι,trivial⟩,λx hx=>by simp at hx;subst hx;exact hc,hr M,hs⟩
theorem wH {H:Type} {enc:TypeId×Value→H} {P:Program} (hl:laidOutB P=true) {W:World}:∀(k:Nat) (t:TypeId) (s:Sh),AL P k t=some s→t<P.types.size →
  ∀(fuel:Nat) (cs:List Value) (x:DataW H×List MemPlace),DataW.trod enc P W 0 (λ_=>true) true fuel t cs=some x→Ko W s cs (sI x.1)
 | 0,_,_,hs,_,_,_,_,_=>by simp[AL]at hs
 | k+1,t,s,hs,ht,fuel,cs,x,h=>by
  simp only[AL]at hs
  split at hs
  case h_7=>cases hs
  ·rename_i hu
   obtain rfl:=aj hs
   obtain⟨b,rfl,rfl⟩:=DataW.trod_bool hu h
   exact wF (a:=.bool b) (λι=>by simp[VR]) rfl (λM=>by simp[sI,encS,aZ,VL]) ⟨b,rfl⟩
  ·rename_i i hu
   obtain rfl:=aj hs
   obtain⟨n,rfl,rfl,hw⟩:=DataW.trod_int hu h
   simp only[Lit.wf,Bool.and_eq_true,decide_eq_true_eq]at hw
   exact wF (a:=.int i n) (λι=>by simp[VR]) rfl (λM=>by simp[sI,encS,aZ,VL]) ⟨n,rfl,hw⟩
  ·rename_i hu
   obtain rfl:=aj hs
   obtain⟨b,rfl,rfl,hw⟩:=DataW.trod_string hu h
   exact wF (a:=.str b.data.toList) (λι=>by simp only[VR];exact⟨b,rfl,rfl⟩) rfl (λM=>by simp[sI,encS,aZ,VL]) ⟨_,rfl⟩
  ·rename_i e hu
   split at hs
   ·cases hs
   rename_i hsz
   obtain⟨se,hse,rfl⟩:=av.1 hs
   have hte:e<P.types.size:=Go.kid_slice hl ht hu
   rcases DataW.trod_slice hu h with⟨rfl,rfl⟩ |⟨a,len,cap,elems,rest,n,rfl,rfl,rfl,_,hlc,_,hlen,hel,hre,_⟩
   ·exact wF (a:=.slice none (o7 se) 0 0 true) (λι=>by simp[VR]) rfl (λM=>by simp[sI,encS,Kn,aZ,VL]) ⟨[],by simp[sI],by simp⟩
   ·intro ι M r ro
    obtain⟨hrl,hre⟩:=hre rfl
    simp only[sI]
    have hsz':=DF hl _ _ _ hse hte
    generalize hz:P.cellsOf e=sz at *
    rcases Nat.eq_zero_or_pos cap with hc0 | hcp
    ·subst hc0
     obtain rfl:len=0:=by omega
     have aap:elems=[]:=by simpa using hlen
     subst aap
     refine⟨_,_,[.slice (some (M.next,0)) sz 0 0 true],Grow.skip r ro ⟨a.block,0,0⟩, ?_, ?_, ?_, ?_⟩
     ·simp only[bL,VR,and_true]
      exact⟨⟨a.block,0,0⟩,a,0,by simp[cu.set],rfl,.inl rfl,.inl rfl,.inl rfl,Nat.le_refl _,Nat.le_refl _,λ_=>rfl,by simp,by omega⟩
     ·intro y hy
      simp at hy
      subst hy
      rfl
     ·simp only[List.map_nil,Dp,encS,Kn,aZ,VL,and_true]
      exact .inr ⟨M.next,0,0,true,by rw[hsz'];rfl,Nat.le_refl _,by simp,by simp,λh=>absurd rfl h⟩
     ·exact⟨[],by simp[Dp],by simp⟩
    ·-- every element's cells
     have all:∀i,i<cap→∃ci,W.cells? 0 (a.add (i*sz)) sz=some ci∧(i<len→∃y,elems[i]?=some y∧DataW.trod enc P W 0 (λ_=>true) true n e ci=some y):=by
      intro i hi
      by_cases hil:i<len
      ·have h1:=hel i hil
       rw[aS (by omega)]at h1
       obtain⟨ci,h2,h3⟩:=aA.1 h1
       exact⟨ci,h2,λ_=>⟨_,aS (by omega),h3⟩⟩
      ·have h1:=hre (i-len) (by omega)
       rw[aS (by omega)]at h1
       obtain⟨ci,h2,h3⟩:=aA.1 h1
       rw[show len+(i-len)=i from by omega]at h2
       exact⟨ci,h2,λhx=>absurd hx hil⟩
     obtain⟨c0,hc0,_⟩:=all 0 hcp
     obtain⟨_,hl0,hg0⟩:=World.cells?_some hc0
     have hone:=hg0 0 (by omega)
     rw[aS (by omega)]at hone
     obtain⟨c,el,fz,AA,hsp,_⟩:=P_ hone
     have ha0:(a.add (0*sz)).add 0=a:=by simp[Addr.add]
     rw[ha0]at AA hsp
     obtain⟨j,off,spot⟩:=a
     simp only at AA hsp
     subst hsp
     have aa4:∀i v,W.cell? ⟨j,i,none⟩=some v→c[i]?=some v:=λi v hv=>by
      simpa[World.cell?,AA]using hv
     have XU:∀i,W.cell? ⟨j,i,none⟩=c[i]?:=λi=>by simp[World.cell?,AA]
     have Zw:∀i ci,W.cells? 0 ((⟨j,off,none⟩:Addr).add (i*sz)) sz=some ci→ci=(c.toList.drop (off+i*sz)).take sz∧off+i*sz+sz≤c.size:=by
      intro i ci hci
      obtain⟨_,q1,q2⟩:=World.cells?_some hci
      have hsize:off+i*sz+sz≤c.size:=by
       have:=q2 (sz-1) (by omega)
       rw[jq,jq,XU,aS (by omega)]at this
       have:=(Array.getElem?_eq_some_iff.1 this).1
       omega
      refine⟨?_,hsize⟩
      apply List.ext_getElem?
      intro q
      by_cases hq:q<sz
      ·have:=q2 q hq
       rw[jq,jq,XU]at this
       rw[←this,List.getElem?_take,if_pos hq,List.getElem?_drop,Array.getElem?_toList]
      ·rw[List.getElem?_eq_none (by omega),List.getElem?_eq_none (by simp;omega)]
     have hend:off+cap*sz≤c.size:=by
      obtain⟨ci,h1,_⟩:=all (cap-1) (by omega)
      have:=(Zw _ _ h1).2
      have:(cap-1)*sz+sz=cap*sz:=by rw[←Nat.succ_mul];congr 1;omega
      omega
     have hrow:len*sz≤cap*sz:=Nat.mul_le_mul_right _ hlc
     have F9:dN W (List.replicate len se) (chunks (List.replicate len sz) (c.toList.drop off)) (elems.map λy=>sI y.1):=by
      refine dN.nD (by simp[hlen]) (by simp[pJ,hlen]) λi s0 ci d0 h1 h2 h3=>?_
      have hi:i<len:=by
       have:=(aC.1 h1).1
       simpa using this
      rw[List.getElem?_replicate,if_pos hi]at h1
      obtain rfl:=aj h1
      rw[wu _ _ i sz (by rw[List.getElem?_replicate,if_pos hi])]at h2
      obtain rfl:=aj h2
      obtain⟨ci,g1,g2⟩:=all i (by omega)
      obtain⟨y,g3,g4⟩:=g2 hi
      obtain⟨g5,_⟩:=Zw i ci g1
      rw[List.getElem?_map,g3]at h3
      obtain rfl:=aj h3
      have e1:(List.take i (List.replicate len sz)).sum=i*sz:=by
       rw[List.take_replicate,Nat.min_eq_left (by omega),List.sum_replicate_nat]
      rw[e1,List.drop_drop,←g5]
      exact wH hl k e se hse hte n ci y g4
     obtain⟨iC,M1,pieces,g1,hpl,hpv,hpc,hpp,SI⟩:=F9.open ι M r ro
     have SC:(chunks (List.replicate len sz) (c.toList.drop off)).flatten=(c.toList.drop off).take (len*sz):=by
      rw[chunks_flatten,List.sum_replicate_nat]
     rw[SC]at hpv
     have hfl:pieces.flatten.length=len*sz:=by
      have:=hpv.length
      simp at this
      rw[List.length_flatten,this]
      omega
     have SK:=Grow.see (c:=pieces.flatten) (l:=⟨j,off,cap*sz⟩) g1.rel g1.ro AA (by
      refine⟨c,el,fz,rfl,hend,by rw[hfl];exact hrow,(λh=>by cases h),λi b hb=>?_,λh=>by cases h⟩
      obtain⟨v,hv,Rv⟩:=hpv.get i b hb
      refine⟨v, ?_, ?_,Rv⟩
      ·rw[List.getElem?_take]at hv
       split at hv
       ·rw[List.getElem?_drop,Array.getElem?_toList]at hv
        exact hv
       ·cases hv
      ·obtain⟨p,hp,hbp⟩:=List.mem_flatten.1 (List.mem_of_getElem? hb)
       exact hpc p hp b hbp)
     have hdl:(Dp (elems.map λy=>y.1)).length=len:=by rw[wo];simp[hlen]
     refine⟨_,_,[.slice (some (M1.next,0)) sz len cap true],g1.trans SK, ?_, ?_, ?_, ?_⟩
     ·simp only[bL,VR,and_true]
      exact⟨⟨j,off,cap*sz⟩,⟨j,off,none⟩,cap,by simp[cu.set],rfl,.inr rfl,.inr rfl,.inr rfl,hlc,Nat.le_refl _,λ_=>rfl,by simp,by omega⟩
     ·intro y hy
      simp at hy
      subst hy
      rfl
     ·have e1:Dp (elems.map λy=>y.1)=elems.map λy=>sI y.1:=by rw[wo];simp
      rw[xH]at hpp
      ·simp only[encS,aZ,VL,and_true,e1]
       refine .inr ⟨M1.next,0,cap,true, ?_, ?_,by simp, ?_,λ_=>⟨pieces.flatten,true,true,by simp[Heap.push],λh=>h,by simp[Heap.push], ?_, ?_⟩⟩
       ·rw[hsz',List.length_map,hlen]
       ·rw[List.length_map,hlen];exact hlc
       ·rw[hpp.length,hfl,List.length_map,hlen,hsz']
       ·rw[List.length_map,hlen,←hsz'];omega
       ·rw[List.length_map,hlen,←hsz',List.drop_zero,List.take_of_length_le (by omega)]
        exact aZ.sub SK.sub SK.next _ _ hpp
      ·simp[hlen]
     ·have e1:Dp (elems.map λy=>y.1)=elems.map λy=>sI y.1:=by rw[wo];simp
      refine⟨_,rfl, ?_⟩
      rw[e1]
      exact(D.Ac SI).2
  ·rename_i fs hu
   obtain⟨ss,hss,rfl⟩:=av.1 hs
   obtain⟨hsl,hsg⟩:=I7 hss
   obtain⟨kt,kc,ko⟩:=Go.kid_struct hl ht hu
   obtain⟨xs,n,rfl,rfl,hcl,hxl,hget⟩:=DataW.trod_struct hu h
   intro ι M r ro
   have F9:dN W ss (chunks (fs.toList.map λf=>P.cellsOf f.type) cs) (xs.map λy=>sI y.1):=by
    refine dN.nD (by simp[hsl,hxl]) (by simp[pJ,hxl]) λi s0 ci d0 h1 h2 h3=>?_
    have hi:i<fs.toList.length:=by
     have:=(aC.1 h1).1
     simpa[hsl]using this
    have hf:fs.toList[i]?=some fs.toList[i]:=aS hi
    obtain⟨s1,g1,g2⟩:=hsg i _ (by rw[List.getElem?_map,hf];rfl)
    rw[h1]at g1
    obtain rfl:=aj g1
    rw[wu _ _ i _ (by rw[List.getElem?_map,hf];rfl)]at h2
    obtain rfl:=aj h2
    have h4:=hget i fs.toList[i] (by rw[←Array.getElem?_toList];exact hf)
    rw[List.getElem?_map]at h3
    obtain⟨y,hy,rfl⟩:=av.1 h3
    rw[hy,ko i _ hf]at h4
    rw[←List.map_take]
    exact wH hl k _ _ g2 (kt _ (List.getElem_mem hi)) n _ y h4
   obtain⟨iC,M1,pieces,g1,hpl,hpv,hpc,hpp,SI⟩:=F9.open ι M r ro
   rw[chunks_flatten,←kc,←hcl,List.take_length]at hpv
   have e1:sI (DataW.agg (xs.map λy=>y.1))=.agg (xs.map λy=>sI y.1):=by simp[sI,wo]
   refine⟨iC,M1,pieces.flatten,g1,hpv,λa ha=>?_, ?_, ?_⟩
   ·obtain⟨p,hp,hap⟩:=List.mem_flatten.1 ha
    exact hpc p hp a hap
   ·rw[e1]
    simp only[encS]
    exact hpp
   ·rw[e1]
    exact⟨_,rfl,SI⟩
  ·rename_i m e hu
   obtain⟨se,hse,rfl⟩:=av.1 hs
   obtain⟨hte,kc⟩:=Go.kid_array hl ht hu
   obtain⟨xs,n,rfl,rfl,hcl,hxl,hget⟩:=DataW.trod_array hu h
   intro ι M r ro
   have F9:dN W (List.replicate m se) (chunks (List.replicate m (P.cellsOf e)) cs) (xs.map λy=>sI y.1):=by
    refine dN.nD (by simp[hxl]) (by simp[pJ,hxl]) λi s0 ci d0 h1 h2 h3=>?_
    have hi:i<m:=by
     have:=(aC.1 h1).1
     simpa using this
    rw[List.getElem?_replicate,if_pos hi]at h1
    obtain rfl:=aj h1
    rw[wu _ _ i (P.cellsOf e) (by rw[List.getElem?_replicate,if_pos hi])]at h2
    obtain rfl:=aj h2
    have h4:=hget i hi
    rw[List.getElem?_map]at h3
    obtain⟨y,hy,rfl⟩:=av.1 h3
    rw[hy]at h4
    have e1:(List.take i (List.replicate m (P.cellsOf e))).sum=i*P.cellsOf e:=by
     rw[List.take_replicate,Nat.min_eq_left (by omega),List.sum_replicate_nat]
    rw[e1]
    exact wH hl k e se hse hte n _ y h4
   obtain⟨iC,M1,pieces,g1,hpl,hpv,hpc,hpp,SI⟩:=F9.open ι M r ro
   rw[chunks_flatten,List.sum_replicate_nat,←kc,←hcl,List.take_length]at hpv
   have e1:sI (DataW.agg (xs.map λy=>y.1))=.agg (xs.map λy=>sI y.1):=by simp[sI,wo]
   refine⟨iC,M1,pieces.flatten,g1,hpv,λa ha=>?_, ?_, ?_⟩
   ·obtain⟨p,hp,hap⟩:=List.mem_flatten.1 ha
    exact hpc p hp a hap
   ·rw[e1]
    simp only[encS]
    exact hpp
   ·rw[e1]
    exact⟨_,rfl,SI⟩
def yJ(s:Sh)(d:D):AV :=
 match s with
 |.agg ss=>.agg (encS s d)
 | s=>(encS s d).headD .undef
def encArgs:List Sh→List D→List AV
 | s::ss,d::r=>yJ s d::encArgs ss r
 | _,_=>[]
theorem Qm {H:Type} {enc:TypeId×Value→H} {P:Program} (hl:laidOutB P=true) {W:World} {k base:Nat} {t:TypeId} {s:Sh} (hs:AL P k t=some s) (ht:t<P.types.size) {v:Value} {d:DataW H} {ps:List MemPlace}
  (hval:Value.okWide P W .any base t v) (h:DataW.Trod enc P W 0 (λ_=>true) true t v d ps) {ι:cu} {M:Heap} (r:R ι M W) (ro:l5 M) :
  ∃aV M' a,Grow ι M aV M' W∧VR aV a v∧VL M' (λ_=>False) VI.none (yJ s (sI d)) a∧D.is s (sI d):=by
 obtain⟨fuel,hf⟩:=h
 obtain⟨aV,M',Nj,g,hv,_,hr,hi⟩:=wH hl k t s hs ht fuel _ _ hf ι M r ro
 simp only at hr hi
 have one:v.cells=#[v]→(∀ss,s≠.agg ss)→∃aV M' a,Grow ι M aV M' W∧VR aV a v∧VL M' (λ_=>False) VI.none (yJ s (sI d)) a∧D.is s (sI d):=by
  intro e1 e2
  rw[e1]at hv
  match Nj,hv,hr with
  | [a],hv,hr =>
   simp only[bL]at hv
   refine⟨aV,M',a,g,hv.1, ?_,hi⟩
   have hlen:=hr.length
   have:∃x,encS s (sI d)=[x]:=by
    match hx:encS s (sI d),hlen with
    | [x],_=>exact⟨x,rfl⟩
    | [],h=>simp at h
    | _::_::_,h=>simp at h
   obtain⟨x,hx⟩:=this
   rw[hx]at hr
   simp only[aZ]at hr
   have he:yJ s (sI d)=x:=by
    cases s with
    | agg ss=>exact absurd rfl (e2 ss)
    | _=>simp[yJ,hx]
   rw[he]
   exact hr.1
  | [],hv,_=>simp[bL]at hv
  | _::_::_,hv,_=>simp[bL]at hv
 have many:(∃cs,v=.agg cs)→(∃ss,s=.agg ss)→∃aV M' a,Grow ι M aV M' W∧VR aV a v∧VL M' (λ_=>False) VI.none (yJ s (sI d)) a∧D.is s (sI d):=by
  rintro⟨cs,rfl⟩ ⟨ss,rfl⟩
  refine⟨aV,M',.agg Nj,g, ?_, ?_,hi⟩
  ·simp only[VR]
   exact⟨cs,rfl,by simpa[Value.cells]using hv⟩
  ·simp only[yJ,VL]
   exact⟨Nj,rfl,hr⟩
 cases k with
 | zero=>simp[AL]at hs
 | succ k =>
  simp only[AL]at hs
  split at hs
  case h_7=>cases hs
  ·rename_i hu
   obtain rfl:=aj hs
   obtain⟨b,rfl⟩:=okWide_bool hu hval
   exact one rfl λl hl=>by cases hl
  ·rename_i i hu
   obtain rfl:=aj hs
   obtain⟨b,rfl⟩:=okWide_int hu hval
   exact one rfl λl hl=>by cases hl
  ·rename_i hu
   obtain rfl:=aj hs
   obtain⟨b,rfl⟩:=okWide_string hu hval
   exact one rfl λl hl=>by cases hl
  ·rename_i e hu
   split at hs
   ·cases hs
   obtain⟨se,hse,rfl⟩:=av.1 hs
   obtain⟨a,len,cap,rfl⟩:=okWide_slice hu hval
   exact one rfl λl hl=>by cases hl
  ·rename_i fs hu
   obtain⟨ss,hss,rfl⟩:=av.1 hs
   obtain⟨cs,hcs,_⟩:=okWide_struct hu hval
   exact many ⟨cs,hcs⟩ ⟨_,rfl⟩
  ·rename_i n e hu
   obtain⟨se,hse,rfl⟩:=av.1 hs
   simp only[Value.okWide,hu]at hval
   obtain⟨cs,hcs,_⟩:=hval
   exact many ⟨cs,hcs⟩ ⟨_,rfl⟩
theorem Jq {H:Type} {enc:TypeId×Value→H} {P:Program} (hl:laidOutB P=true) {W:World} {k base:Nat} :
  ∀(ts:List TypeId) (ss:List Sh) (vs:List Value) (ds:List (DataW H)) (p:List MemPlace),FL P k ts=some ss→(ts.all λt=>decide (t<P.types.size))=true →
   (∀(j:Nat) t v,ts[j]?=some t→vs[j]?=some v→Value.okWide P W .any base t v)→DataW.TrodAll enc P W 0 (λ_=>true) true ts vs ds p →
   ∀ι M,R ι M W→l5 M→∃aV M' as,Grow ι M aV M' W∧bL aV as vs∧NC M' (encArgs ss (ds.map sI)) as∧D.are ss (ds.map sI)
 | [],ss,[],[],p,hs,_,_,_,ι,M,r,ro=>by
  simp[FL,HZ]at hs
  subst hs
  exact⟨ι,M,[],.refl r ro,by simp[bL],by simp[encArgs,NC,aZ],by simp[D.are]⟩
 | t::ts,ss,v::vs,d::ds,p,hs,ht,hval,h,ι,M,r,ro=>by
  simp only[FL,HZ]at hs
  split at hs
  case h_2=>cases hs
  rename_i s sr h1 h2
  obtain rfl:=aj hs
  simp only[List.all_cons,Bool.and_eq_true,decide_eq_true_eq]at ht
  simp only[DataW.TrodAll]at h
  obtain⟨p1,p2,g1,g2,_⟩:=h
  obtain⟨iC,M1,a,q1,q2,q3,q4⟩:=Qm hl h1 ht.1 (hval 0 t v (by simp) (by simp)) g1 r ro
  obtain⟨oV,M2,as,w1,w2,w3,w4⟩:=Jq hl ts sr vs ds p2 h2 (by simpa using ht.2) (λj t v a b=>hval (j+1) t v (by simpa using a) (by simpa using b)) g2 iC M1 q1.rel q1.ro
  refine⟨oV,M2,a::as,q1.trans w1, ?_, ?_, ?_⟩
  ·simp only[bL]
   exact⟨q2.mono w1.le,w2⟩
  ·simp only[List.map_cons,encArgs,NC,aZ]
   exact⟨VL.sub (κ:=VI.none) (l7:=VI.none) w1.sub w1.next _ _ q3,w3⟩
  ·simp only[List.map_cons,D.are]
   exact⟨q4,w4⟩
 | [],_,_::_,_,_,_,_,_,h,_,_,_,_=>by simp[DataW.TrodAll]at h
 | [],_,[],_::_,_,_,_,_,h,_,_,_,_=>by simp[DataW.TrodAll]at h
 | _::_,_,[],_,_,_,_,_,h,_,_,_,_=>by simp[DataW.TrodAll]at h
 | _::_,_,_::_,[],_,_,_,_,h,_,_,_,_=>by simp[DataW.TrodAll]at h
def Zx(C:aW)(f:FuncId)(ss:List Sh)(small:Nat):Prop :=
 ∀ds:List D,D.are ss ds→D.qW ds≤small→∃out,Spec C f (encArgs ss ds) [] (.bool true) out
theorem VS.empty{M:Heap}(h:M.Ok):VS (λ_=>False) VI.none [] M :=
 ⟨λ_ _ h=>(nomatch h),λ_ _ _ _ _ h=>(nomatch h),λi x h=>by simp[bD]at h,λ_ h=>(nomatch h),λ_ h=>(nomatch h),h,λ_ h=>h.elim⟩
theorem Vp:OR (λ_=>False) VI.none=λ_=>False:=by
 funext j
 simp[OR,own,VI.none]
theorem L6 {H:Type} {enc:TypeId×Value→H} {P:Program} (hl:laidOutB P=true) {f:FuncId} {C:aW} (hg:Sound P f (C f)) {ss:List Sh} {small:Nat} (hp:Zx C f ss small)
  {W:World} {k base:Nat} {ts:List TypeId} {args:Array Value} {ds:List (DataW H)} {p:List MemPlace} (hs:FL P k ts=some ss) (ht:(ts.all λt=>decide (t<P.types.size))=true)
  (hval:∀(j:Nat) t v,ts[j]?=some t→args.toList[j]?=some v→Value.okWide P W .any base t v) (hA:DataW.TrodAll enc P W 0 (λ_=>true) true ts args.toList ds p) (hb:D.qW (ds.map sI)≤small) :
  Calls P f args W λe W'=>e=.returned (.bool true)∧Below W.heap.size W W':=by
 obtain⟨ι,M,as,g1,g2,g3,g4⟩:=Jq hl ts ss args.toList ds p hs ht hval hA _ _ (R.empty W) (λb x h=>by simp[Heap.empty]at h)
 obtain⟨out,hH⟩:=hp _ g4 hb
 have hw:M.Ok:=λb hb=>(g1.rel.fresh b hb).1
 have g3':aZ M (OR (λ_=>False) VI.none) VI.none (encArgs ss (ds.map sI)) as:=by rw[Vp];exact g3
 obtain⟨a,M',iC,e1,e2,_,e3⟩:=hH _ VI.none M as (VS.empty hw) g3'
 simp only[VL]at e3
 subst e3
 refine(hg as M _ M' e1 ι W args g1.rel g2).mono ?_
 rintro e w' ⟨aV,v',rfl,hv,htr⟩
 simp only[VR]at hv
 subst hv
 exact⟨rfl,Lm htr g1.ro⟩
def KK:Nat:=2000000000000
abbrev Tab:=Lr×(FuncId→Option bF)
abbrev aI(A:Tab)(d:Nat):aW:=oK A.1 A.2 KK d
theorem VS.Zy{R:Nat→Prop}{ι:VI}{H:WH}{M:Heap}(s:VS R ι H M)(y:ji):VS R ι H (M.push y)∧Stp H.length [] ι H M ι H (M.push y):=by
 have hk:Keeps M (own ι) (M.push y) (own ι):=⟨Nat.le_succ _,λb hb ho=>⟨by simp[Heap.push,Nat.ne_of_lt hb],ho⟩⟩
 refine⟨⟨λi j h=>?_,s.inj,λi x hx=>?_,s.nI,s.kZ,λb hb=>?_,λj h=>⟨by simp only[Heap.push];have:=(s.res j h).1;omega,(s.res j h).2⟩⟩,⟨hk,.refl _ _,λ_ _ h=>h,λ_ _=>rfl,λ_ _=>rfl,λ_ _ _=>rfl,λ_ _ h=>h,λi j _ _ hj _=>?_,Nat.le_refl _⟩⟩
 ·have:=s.lt i j h
  simp only[Heap.push]
  omega
 ·rcases s.blk i x hx with h |⟨j,h1,h2,h3⟩
  ·exact .inl h
  refine .inr ⟨j,h1, ?_,h3⟩
  have:=(s.lt i j h1).2
  simp only[Heap.push,if_neg (show j≠M.next by omega)]
  exact h2.mono (hk.or R) (λ_=>.refl _ _) (λ_ h=>h)
 ·simp only[Heap.push]at hb ⊢
  rw[if_neg (by omega)]
  exact s.LD b (by omega)
 ·have:=(s.lt i j hj).2
  simp only[Heap.push,if_neg (show j≠M.next by omega)]
def yK(sz bytes:Nat)(zero:List AV):bF:={ nargs:=1,ntmps:=8,code:=(.seq (.reg [{ dst:=(some 2),op:=(.p (.move (.c (.slice none 1 0 0 true)))),guard:=none }]) (.seq (.seq (.reg [{ dst:=(some 3),op:=(.p (.move (.t 0))),guard:=none },{ dst:=(some 4),op:=(.p (.PU false (.t 3) (.c (.slice none 1 0 0 true)))),guard:=none }]) (.cond (.t 4) (.seq (.reg [{ dst:=(some 2),op:=(.p (.move (.c (.slice none 1 0 0 true)))),guard:=none }]) .ret) .skip)) (.seq (.reg [{ dst:=(some 5),op:=(.k (.buildSlice sz 0 zero [])),guard:=none },{ dst:=(some 6),op:=(.p (.move (.t 0))),guard:=none },{ dst:=(some 7),op:=(.n (.append sz bytes (.t 5) (.t 6))),guard:=none },{ dst:=(some 2),op:=(.p (.move (.t 7))),guard:=none }]) .ret))),results:=[(.tmp 2)] }
theorem Qn (C:aW) (K sz bytes:Nat) (zero:List AV) (M:Heap) (sz' len cap:Nat) (ex:Bool) :
  bbody C K (yK sz bytes zero) [.slice none sz' len cap ex] M=some (.slice none 1 0 0 true,M):=by
 simp[bbody,yK,start,List.replicate,List.replicate_succ,r9,rZ,rY,vk,Proofs.Ytkedeiklmpkgkaa.rW,rX,qz.sub,iJ.sub,AX.sub,Da,aP,JU,AX.ev,bf,jr,xC,Dq]
theorem ND (C:aW) (K sz bytes:Nat) (zero:List AV) (M:Heap) (q:Nat×Nat) (len cap:Nat) (ex:Bool) (n:Nat) (cs:List AV) (he:lN (.slice (some q) sz len cap ex) (M.push (.cells [] false false))=some (n,cs)) (hn:n*bytes≤70368744177664∧n≤70368744177664) :
  bbody C K (yK sz bytes zero) [.slice (some q) sz len cap ex] M=if n=0 then some (.slice (some (M.next,0)) sz 0 0 true,M.push (.cells [] false false))else some (.slice (some (M.next+1,0)) sz n n false,(M.push (.cells [] false false)).push (.cells cs false true)):=by
 have pn:∀(x:ji),(M.push x).next=M.next+1:=λ_=>rfl
 have hap:fH sz bytes (.slice (some (M.next,0)) sz 0 0 true) n cs (M.push (.cells [] false false))=if n=0 then some (.slice (some (M.next,0)) sz 0 0 true,M.push (.cells [] false false))else some (.slice (some (M.next+1,0)) sz n n false,(M.push (.cells [] false false)).push (.cells cs false true)):=by
  unfold fH
  by_cases h0:n=0
  ·subst h0
   simp
  ·simp only
   rw[if_neg (by simp),if_neg (by omega),if_pos (by simpa using hn),if_neg h0]
   simp[pn]
 by_cases h0:n=0
 ·subst h0
  simp only[if_true]at hap ⊢
  simp[bbody,yK,start,List.replicate,List.replicate_succ,r9,rZ,rY,vk,qz.sub,iJ.sub,xA.sub,tL.sub,AX.sub,bf,Proofs.Ytkedeiklmpkgkaa.rW,rX,Da,aP,aK,aN,JU,AX.ev,je,kF,Mk.val,dB,he,hap,jr,xC,Dq]
 ·simp only[if_neg h0]at hap ⊢
  simp[bbody,yK,start,List.replicate,List.replicate_succ,r9,rZ,rY,vk,qz.sub,iJ.sub,xA.sub,tL.sub,AX.sub,bf,Proofs.Ytkedeiklmpkgkaa.rW,rX,Da,aP,aK,aN,JU,AX.ev,je,kF,Mk.val,dB,he,hap,jr,xC,Dq]
theorem L8{x:AV}{M:Heap}{y:ji}{n:Nat}{cs:List AV}(ok:M.Ok)(h:lN x M=some (n,cs)):lN x (M.push y)=some (n,cs):=by
 unfold lN at h ⊢
 split at h
 ·exact h
 ·split at h
  ·rename_i hl
   rw[if_pos hl]
   exact h
  ·rename_i hl
   rw[if_neg hl]
   obtain⟨c,h1,h2⟩:=av.1 h
   rw[av]
   refine⟨c, ?_,h2⟩
   rename_i b _ _ _ _ _
   have hb:M.get b≠none:=λe=>by simp[Heap.read,e]at h1
   have hne:b≠M.next:=λe=>hb (by rw[e];exact ok M.next (Nat.le_refl _))
   have:(M.push y).get b=M.get b:=by simp only[Heap.push,if_neg hne]
   simp only[Heap.read,this]at h1 ⊢
   exact h1
 ·exact h
 ·cases h
theorem Qo{T:Tab}{d:Nat}{f:FuncId}{sz bytes:Nat}{zero:List AV}(hG:T.1 f=none)(hT:T.2 f=some (yK sz bytes zero)):Nv (aI T (d+1)) f (.clone sz bytes):=by
 intro R ι H M args as dst tr k s hv h
 simp only[Zi]at h
 split at h
 case h_2=>exact h.elim
 rename_i v
 match as,hv with
 | [],hv=>simp[aZ]at hv
 | _::_::_,hv=>simp[aZ]at hv
 | [a],hv =>
 simp only[aZ]at hv
 replace hv:=hv.1
 have run:aI T (d+1) f [a] M=bbody (aI T d) KK (yK sz bytes zero) [a] M:=by simp only[aI,oK,hG,hT]
 rw[run]
 split at h
 ·exact h.elim
 rename_i hstr
 split at h
 case h_2=>exact h.elim
 rename_i n cs S hel
 obtain⟨_,h⟩:=Px h
 obtain⟨fO,hf,hk⟩:=gq h
 have hf':=Jj hf
 obtain⟨e1,e2,cs',e3,e4⟩:=Jk s hv hel
 obtain⟨u1,u2⟩:=s.Nr S (Ep hel)
 have hlen:(rD H S).length=H.length:=nM S H
 have hn0:n=0→cs=[]:=λe=>by
  subst e
  rw[Nat.zero_mul]at e2
  exact List.eq_nil_of_length_eq_zero e2
 -- which it is
 have hcase:(∃s' l c x,a=.slice none s' l c x)∨∃q l c x,a=.slice (some q) sz l c x:=by
  cases a with
  | slice p s' l c x =>
   cases p with
   | none=>exact .inl ⟨_,_,_,_,rfl⟩
   | some q =>
    simp[dB]at e1
    subst e1
    exact .inr ⟨_,_,_,_,rfl⟩
  | str t =>
   exfalso
   cases v with
   | str t=>exact hstr t rfl
   | ptr p=>cases p<;>simp[VL]at hv
   | slice p=>cases p<;>simp[VL]at hv
   | map p=>cases p<;>simp[VL]at hv
   | _=>simp_all [VL,yB]
  | _=>simp[dB]at e1
 rcases hcase with⟨s',l,c,x,rfl⟩ |⟨q,l,c,x,rfl⟩
 ·simp only[lN,au,aD]at e3
  simp only[dB,beq_iff_eq]at e1
  obtain⟨rfl,rfl⟩:=e3
  subst e1
  obtain rfl:=hn0 rfl
  rw[Qn]
  obtain⟨aV,q1,q2,q3⟩:=zG u1 sz 1 none (by simp)
  rw[hlen]at q2 q3
  refine⟨_,M,aV,_,_,[],fO,rfl,q1, ?_,q3,hk⟩
  have:=u2.trans q2 (Nat.le_refl _)
  simpa using this
 ·obtain⟨s1,k1⟩:=u1.Zy (.cells [] false false)
  have he':=L8 (y:=.cells [] false false) s.LD e3
  rw[ND (aI T d) KK sz bytes zero M q l c x n cs' he' hf']
  by_cases hn:n=0
  ·rw[if_pos hn]
   obtain rfl:=hn0 hn
   subst hn
   obtain⟨aV,q1,q2,q3⟩:=zG s1 sz sz (some (M.next,0)) (λ_=>rfl)
   rw[hlen]at q2 q3 k1
   refine⟨_,_,aV,_,_,[],fO,rfl,q1, ?_,q3,hk⟩
   have:=(u2.trans k1 (Nat.le_refl _)).trans q2 (Nat.le_refl _)
   simpa using this
  ·rw[if_neg hn]
   have e4':=aZ.LP k1 e4
   obtain⟨aV,q1,q2,q3⟩:=Fe s1 (cs:=cs) (cs':=cs') e4' e2 false true
   rw[hlen]at q2 q3 k1
   refine⟨_,_,aV,_,_,[],fO,rfl,q1, ?_,q3,hk⟩
   have:=(u2.trans k1 (Nat.le_refl _)).trans q2 (Nat.le_refl _)
   simpa using this
def Jr(sz:Nat):bF:={ nargs:=1,ntmps:=9,code:=(.seq (.reg [{ dst:=(some 2),op:=(.p (.move (.c (.slice none 1 0 0 true)))),guard:=none }]) (.seq (.reg [{ dst:=(some 3),op:=(.p (.move (.t 0))),guard:=none },{ dst:=(some 4),op:=(.p (.move (.t 0))),guard:=none },{ dst:=(some 5),op:=(.p (.len false (.t 4))),guard:=none },{ dst:=(some 6),op:=(.p (.move (.t 0))),guard:=none },{ dst:=(some 7),op:=(.p (.len false (.t 6))),guard:=none },{ dst:=(some 8),op:=(.p (.slice sz (.t 3) none (some (.t 5)) (some (.t 7)))),guard:=none },{ dst:=(some 2),op:=(.p (.move (.t 8))),guard:=none }]) .ret)),results:=[(.tmp 2)] }
theorem BX (C:aW) (K sz:Nat) (M:Heap) (p:Option (Nat×Nat)) (s' n cap:Nat) (ex:Bool) (hn:n≤cap) (hp:p≠none→s'=sz) :
  bbody C K (Jr sz) [.slice p s' n cap ex] M=some (.slice p sz n n true,M):=by
 have hs:iB sz p s' n cap ex [] none (some (.c (.int .i64 n))) (some (.c (.int .i64 n)))=some (.slice p sz n n true):=by
  unfold iB
  rw[if_pos (by cases p with
   | none=>exact .inl rfl
   | some p=>exact .inr (hp (by simp)))]
  have h1:(0:Int)≤n:=by omega
  have h2:(n:Int)≤cap:=by omega
  have h3:jd p 0=p:=by cases p<;>rfl
  simp[bA,kD,AX.ev,h1,h2,h3]
 simp[bbody,Jr,start,List.replicate,List.replicate_succ,r9,rZ,rY,vk,Proofs.Ytkedeiklmpkgkaa.rW,rX,qz.sub,iJ.sub,AX.sub,AX.fq,Da,aP,AX.ev,bf,hs,jr,xC,Dq]
theorem L9{T:Tab}{d:Nat}{f:FuncId}{sz:Nat}(hG:T.1 f=none)(hT:T.2 f=some (Jr sz)):Nv (aI T (d+1)) f (.clip sz):=by
 intro R ι H M args as dst tr k s hv h
 have run:∀a,aI T (d+1) f [a] M=bbody (aI T d) KK (Jr sz) [a] M:=λa=>by simp only[aI,oK,hG,hT]
 simp only[Zi]at h
 split at h
 ·match as,hv with
  | [],hv=>simp[aZ]at hv
  | _::_::_,hv=>simp[aZ]at hv
  | [a],hv =>
  simp only[aZ,VL]at hv
  obtain⟨_,s',rfl⟩:=hv.1
  rw[run,BX (aI T d) KK sz M none _ 0 0 true (Nat.le_refl _) (by simp)]
  exact⟨_,M,ι,_,H,[],tr,rfl,s,.refl _ _ _ _ _ (Nat.le_refl _),by simp[VL],h⟩
 ·match as,hv with
  | [],hv=>simp[aZ]at hv
  | _::_::_,hv=>simp[aZ]at hv
  | [a],hv =>
  split at h
  case h_2=>exact h.elim
  rename_i e
  obtain rfl:=aM e
  simp only[aZ,VL]at hv
  rcases hv.1 with⟨rfl,rfl,s',rfl⟩ |⟨b,o,cap,ex',rfl,h1,h2,h3,h4⟩
  ·rw[run,BX (aI T d) KK _ M none _ 0 0 true (Nat.le_refl _) (by simp)]
   exact⟨_,M,ι,_,H,[],tr,rfl,s,.refl _ _ _ _ _ (Nat.le_refl _),by simp[VL],h⟩
  ·rw[run,BX (aI T d) KK _ M (some (b,o)) _ _ cap ex' h1 (λ_=>rfl)]
   refine⟨_,M,ι,_,H,[],tr,rfl,s,.refl _ _ _ _ _ (Nat.le_refl _), ?_,h⟩
   simp only[VL]
   exact .inr ⟨b,o,_,true,rfl,Nat.le_refl _,λ_=>⟨rfl,rfl⟩,h3,h4⟩
 ·match as,hv with
  | [],hv=>simp[aZ]at hv
  | _::_::_,hv=>simp[aZ]at hv
  | [a],hv =>
  split at h
  case h_2=>exact h.elim
  rename_i e
  obtain rfl:=aM e
  simp only[aZ,VL]at hv
  obtain⟨p,s',cap,ex,rfl,g1,g2,g3,m,L,g4,g5,g6,g7⟩:=hv.1
  rw[run,BX (aI T d) KK _ M p s' _ cap ex g1 g3]
  refine⟨_,M,ι,_,H,[],tr,rfl,s,.refl _ _ _ _ _ (Nat.le_refl _), ?_,h⟩
  simp only[VL]
  refine⟨p,_,_,true,rfl,Nat.le_refl _,λhp=>⟨?_,rfl⟩,λ_=>rfl,m,L,g4,g5,g6, ?_⟩
  ·have:=(g2 hp).1
   omega
  ·rcases g7 with⟨j,q1,q2⟩ |⟨q1,q2,q3,q4,q5⟩
   ·refine .inl ⟨j,q1, ?_⟩
    rcases q2 with⟨q2,q3⟩ |⟨q2,q3,q4⟩
    ·exact .inl ⟨q2,Nat.le_trans (Nat.add_le_add_left (Nat.mul_le_mul_right _ g1) _) q3⟩
    ·exact .inr ⟨q2,q2,rfl⟩
   ·exact .inr ⟨q1,q2,q2,rfl,q5⟩
 ·exact h.elim
def Js(sz bytes:Nat)(zero:List AV):bF:={ nargs:=2,ntmps:=27,code:=(.seq (.reg [{ dst:=(some 4),op:=(.p (.move (.c (.slice none 1 0 0 true)))),guard:=none }]) (.seq (.seq (.reg [{ dst:=(some 5),op:=(.p (.move (.t 1))),guard:=none },{ dst:=(some 6),op:=(.p (.bin .lss (.t 5) (.c (.int .i64 0)))),guard:=none }]) (.cond (.t 6) (.reg [{ dst:=(some 7),op:=(.n .fail),guard:=none },{ dst:=none,op:=(.n .fail),guard:=none }]) .skip)) (.seq (.seq (.reg [{ dst:=(some 8),op:=(.p (.move (.t 1))),guard:=none },{ dst:=(some 9),op:=(.p (.move (.t 0))),guard:=none },{ dst:=(some 10),op:=(.p (.cap (.t 9))),guard:=none },{ dst:=(some 11),op:=(.p (.move (.t 0))),guard:=none },{ dst:=(some 12),op:=(.p (.len false (.t 11))),guard:=none },{ dst:=(some 13),op:=(.p (.bin .sub (.t 10) (.t 12))),guard:=none },{ dst:=(some 14),op:=(.p (.bin .sub (.t 8) (.t 13))),guard:=none },{ dst:=(some 1),op:=(.p (.move (.t 14))),guard:=none }]) (.seq (.reg [{ dst:=(some 15),op:=(.p (.move (.t 1))),guard:=none },{ dst:=(some 16),op:=(.p (.bin .gtr (.t 15) (.c (.int .i64 0)))),guard:=none }]) (.cond (.t 16) (.reg [{ dst:=(some 17),op:=(.p (.move (.t 0))),guard:=none },{ dst:=(some 18),op:=(.p (.move (.t 0))),guard:=none },{ dst:=(some 19),op:=(.p (.cap (.t 18))),guard:=none },{ dst:=(some 20),op:=(.p (.slice sz (.t 17) none (some (.t 19)) none)),guard:=none },{ dst:=(some 21),op:=(.p (.move (.t 1))),guard:=none },{ dst:=(some 22),op:=(.n (.nC sz bytes zero (.t 20) (.t 21))),guard:=none },{ dst:=(some 23),op:=(.p (.move (.t 0))),guard:=none },{ dst:=(some 24),op:=(.p (.len false (.t 23))),guard:=none },{ dst:=(some 25),op:=(.p (.slice sz (.t 22) none (some (.t 24)) none)),guard:=none },{ dst:=(some 0),op:=(.p (.move (.t 25))),guard:=none }]) .skip))) (.seq (.reg [{ dst:=(some 26),op:=(.p (.move (.t 0))),guard:=none },{ dst:=(some 4),op:=(.p (.move (.t 26))),guard:=none }]) .ret)))),results:=[(.tmp 4)] }
theorem SL (C:aW) (K sz bytes:Nat) (zero:List AV) (M:Heap) (s':Nat) (n:Int) (h0:0≤n) (h1:n≤70368744177664) (h2:bytes*n.toNat≤281474976710656) (h3:n.toNat*bytes≤70368744177664) :
  bbody C K (Js sz bytes zero) [.slice none s' 0 0 true,.int .i64 n] M=if n≤0 then some (.slice none s' 0 0 true,M)else some (.slice (some (M.next,0)) sz 0 n.toNat false,M.push (.cells (je n.toNat zero) false true)):=by
 have e1:IntKind.i64.wrap (n-IntKind.i64.wrap (0-0))=n:=by
  simp[IntKind.wrap,IntKind.signed,IntKind.bits]
  omega
 have e1':IntKind.i64.wrap (n-0)=n:=by
  simp[IntKind.wrap,IntKind.signed,IntKind.bits]
  omega
 have ew:IntKind.i64.wrap n=n:=by simpa using e1'
 have e0:IntKind.i64.wrap 0=0:=rfl
 have e2:¬n<0:=by omega
 have e3:∀m:Heap,fH sz bytes (.slice none sz 0 0 true) n.toNat (je n.toNat zero) m=if n≤0 then some (.slice none sz 0 0 true,m)else some (.slice (some (m.next,0)) sz n.toNat n.toNat false,m.push (.cells (je n.toNat zero) false true)):=λm=>by
  unfold fH
  by_cases h:n≤0
  ·have:n=0:=by omega
   subst this
   simp
  ·simp only
   rw[if_neg (by simp),if_neg (by omega),if_pos ⟨by simpa using h3,by omega⟩,if_neg h]
   simp
 by_cases h:n≤0
 ·have:n=0:=by omega
  subst this
  simp[bbody,Js,start,List.replicate,List.replicate_succ,r9,rZ,rY,vk,qz.sub,iJ.sub,AX.sub,AX.fq,bf,Proofs.Ytkedeiklmpkgkaa.rW,rX,Da,aP,AX.ev,ED,zZ,jr,xC,Dq,IntKind.wrap,IntKind.signed,IntKind.bits]
 ·have e4:n>0:=by omega
  have e5:decide (n>0)=true:=by simpa using e4
  have e6:0<n∧n≤70368744177664∧bytes*n.toNat≤281474976710656:=⟨by omega,h1,h2⟩
  have s1:iB sz none s' 0 0 true [] none (some (.c (.int .i64 0))) none=some (.slice none sz 0 0 true):=by
   simp[iB,bA,kD,AX.ev,jd]
  have s2:iB sz (some (M.next,0)) sz n.toNat n.toNat false [] none (some (.c (.int .i64 0))) none=some (.slice (some (M.next,0)) sz 0 n.toNat false):=by
   simp[iB,bA,kD,AX.ev,jd]
   rw[if_pos (by omega)]
   rfl
  have e3':=e3 M
  rw[if_neg h]at e3'
  rw[if_neg h]
  simp[bbody,Js,start,List.replicate,List.replicate_succ,r9,rZ,rY,vk,qz.sub,iJ.sub,tL.sub,AX.sub,AX.fq,bf,Proofs.Ytkedeiklmpkgkaa.rW,rX,Da,aP,aN,AX.ev,ED,zZ,jr,xC,Dq,e0,ew,h,e2,e4,h1,h2,s1,s2,e3']
theorem SN {R:Nat→Prop} {ι:VI} {H:WH} {M:Heap} (s:VS R ι H M) (t:List AV) (sz n:Nat) (hn:n*sz≤t.length) :
  ∃aV,VS R aV (H++[some (.cells [] false true)]) (M.push (.cells t false true))∧Stp H.length [] ι H M aV (H++[some (.cells [] false true)]) (M.push (.cells t false true)) ∧
   VL (M.push (.cells t false true)) (OR R aV) aV (.acc H.length 0 sz 0 true) (.slice (some (M.next,0)) sz 0 n false):=by
 obtain⟨h1,h2⟩:=s.push (x:=.cells [] false true) (y:=.cells t false true) (d:=(0,t.length)) ⟨[],t,false,true,t.length,by simp,λ_=>rfl,rfl,by simp,by simp[aZ],λh=>by cases h⟩
 refine⟨_,h1,h2, ?_⟩
 simp only[VL]
 exact⟨_,_,_,_,rfl,by omega,(λh=>by cases h),λ_=>rfl,0,t.length,by simp[VI.add,setAt],by omega,λ_=>⟨trivial,by omega⟩,.inl ⟨M.next,by simp[VI.add,setAt],.inl ⟨rfl,by omega⟩⟩⟩
theorem SQ{T:Tab}{d:Nat}{f:FuncId}{sz bytes:Nat}{zero:List AV}(hz:zero.length=sz)(hG:T.1 f=none)(hT:T.2 f=some (Js sz bytes zero)):Nv (aI T (d+1)) f (.grow sz bytes):=by
 intro R ι H M args as dst tr k s hv h
 simp only[Zi]at h
 split at h
 case h_2=>exact h.elim
 rename_i s0 n
 match as,hv with
 | [],hv=>simp[aZ]at hv
 | [_],hv=>simp[aZ]at hv
 | _::_::_::_,hv=>simp[aZ]at hv
 | [a,b],hv =>
 simp only[aZ,VL]at hv
 obtain⟨⟨_,s',rfl⟩,rfl,_⟩:=hv
 have run:aI T (d+1) f [.slice none s' 0 0 true,.int .i64 n] M=bbody (aI T d) KK (Js sz bytes zero) [.slice none s' 0 0 true,.int .i64 n] M:=by simp only[aI,oK,hG,hT]
 obtain⟨tr,⟨g0,g1,g2,g3⟩,hk⟩:=gq h
 rw[run,SL _ _ _ _ _ _ _ _ g0 g1 g2 g3]
 by_cases h0:n≤0
 ·rw[if_pos h0]
  obtain⟨aV,q1,q2,q3⟩:=zG s sz s' none (by simp)
  exact⟨_,M,aV,_,_,[],tr,rfl,q1,q2,q3,hk⟩
 ·rw[if_neg h0]
  obtain⟨aV,q1,q2,q3⟩:=SN s (je n.toNat zero) sz n.toNat (by rw[yI,hz];exact Nat.le_refl _)
  exact⟨_,_,aV,_,_,[],tr,rfl,q1,q2,q3,hk⟩
def mg(b:UInt8):AV:=.int .u8 b.toNat
def pY(x:Int):UInt8:=UInt8.ofNat (IntKind.u8.wrap x).toNat
theorem Yw(x:Int):mg (pY x)=.int .u8 (IntKind.u8.wrap x):=by
 have h:0≤IntKind.u8.wrap x∧IntKind.u8.wrap x<256:=by
  simp only[IntKind.wrap,IntKind.signed,IntKind.bits]
  constructor
  ·simp;omega
  ·simp;omega
 simp only[mg,pY,AV.int.injEq,true_and,UInt8.toNat_ofNat']
 omega
def iW{α:Type}(L:List α)(i:Int):Option α:=if 0≤i then L[i.toNat]? else none
def yL{α:Type}(L:List α)(lo hi:Int):Option (List α):=if 0≤lo∧lo≤hi∧hi≤(L.length:Int)then some ((L.drop lo.toNat).take (hi.toNat-lo.toNat))else none
def wI(k:IntKind)(x y:Int):Int:=k.wrap (BitVec.ofInt k.bits x &&& BitVec.ofInt k.bits y).toNat
def Vq(k:IntKind)(x y:Int):Int:=k.wrap (BitVec.ofInt k.bits x ||| BitVec.ofInt k.bits y).toNat
def Vr(k:IntKind)(x y:Int):Int:=k.wrap (BitVec.ofInt k.bits x ^^^ BitVec.ofInt k.bits y).toNat
def Vs(k:IntKind)(x y:Int):Int:=k.wrap (x*2 ^ (min y.toNat k.bits))
def Yx(k:IntKind)(x y:Int):Int:=x.fdiv (2 ^ (min y.toNat k.bits))
def Vt(k:IntKind)(x y:Int):Option Int:=if y=0 then none else some (x.tmod y)
def SS(k:IntKind)(x y:Int):Option Int:=if y<0 then none else some (k.wrap (x*2 ^ (min y.toNat k.bits)))
def SV(k:IntKind)(x y:Int):Option Int:=if y<0 then none else some (x.fdiv (2 ^ (min y.toNat k.bits)))
structure Row{α:Type}(F:List α→List AV)(e:α→List AV)(sz:Nat):Prop where
 nil:F []=[]
 cons:∀x l,F (x::l)=e x++F l
 len:∀x,(e x).length=sz
def Zz{K:Type} [DecidableEq K](kd:Kd)(ck:K→AV):Prop:=∀a b,EF kd (ck a) (ck b)=some (decide (a=b))
section
variable {K V:Type} [DecidableEq K] {kd:Kd} {ck:K→AV} (hk:Zz kd ck) (cv:V→AV)
include hk
end
theorem BZ{α:Type}(c:α→AV):Row (λl=>l.map c) (λx=>[c x]) 1:=⟨rfl,λ_ _=>rfl,λ_=>rfl⟩
theorem SX{α:Type}{e:α→List AV}{sz:Nat}(h:∀x,(e x).length=sz):Row (λl=>l.flatMap e) e sz:=⟨rfl,λ_ _=>rfl,h⟩
section
variable {α:Type} {F:List α→List AV} {e:α→List AV} {sz:Nat} (hF:Row F e sz)
include hF
theorem Row.app:∀a b:List α,F (a++b)=F a++F b
 | [],b=>by simp[hF.nil]
 | x::a,b=>by rw[List.cons_append,hF.cons,hF.cons,Row.app a b,bG]
theorem Row.length:∀l:List α,(F l).length=l.length*sz
 | []=>by simp[hF.nil]
 | x::l=>by rw[hF.cons,aF,hF.len,Row.length l,aY,Nat.succ_mul,Nat.add_comm]
theorem Row.drop:∀(l:List α) (n:Nat),(F l).drop (n*sz)=F (l.drop n)
 | l,0=>by simp
 | [],n+1=>by simp[hF.nil]
 | x::l,n+1=>by
  rw[hF.cons,Nat.succ_mul,Nat.add_comm,List.drop_succ_cons,←Row.drop l n,←List.drop_drop,List.drop_left' (hF.len x)]
theorem Row.take:∀(l:List α) (n:Nat),(F l).take (n*sz)=F (l.take n)
 | l,0=>by simp[hF.nil]
 | [],n+1=>by simp[hF.nil]
 | x::l,n+1=>by
  rw[hF.cons,Nat.succ_mul,Nat.add_comm,List.take_succ_cons,hF.cons,←Row.take l n,List.take_append,hF.len,List.take_of_length_le (by rw[hF.len];omega)]
  congr 2
  omega
theorem Row.get{l:List α}{i:Nat}{x:α}(h:l[i]?=some x):(F l).drop (i*sz)=e x++F (l.drop (i+1)):=by
 rw[hF.drop]
 obtain⟨h1,h2⟩:=aC.1 h
 rw[List.drop_eq_getElem_cons h1,h2,hF.cons]
theorem vv{l:List α}{i:Int}{x:α}(h:iW l i=some x):0≤i∧i<(l.length:Int)∧l[i.toNat]?=some x:=by
 unfold iW at h
 split at h
 case isFalse=>cases h
 rename_i h0
 have:=(aC.1 h).1
 exact⟨h0,by omega,h⟩
theorem yM{l r:List α}{a b:Int}(h:yL l a b=some r):0≤a∧a≤b∧b≤(l.length:Int)∧r=(l.drop a.toNat).take (b.toNat-a.toNat)∧r.length=b.toNat-a.toNat:=by
 unfold yL at h
 split at h
 case isFalse=>cases h
 rename_i h0
 obtain rfl:=aj h
 refine⟨h0.1,h0.2.1,h0.2.2,rfl, ?_⟩
 simp only[aJ,aO]
 omega
theorem Yy{l:List α}{i:Int}{x:α}{k:IntKind}{ex:Bool}(h:iW l i=some x):wP (.iy sz (.c (.list sz l.length (F l) ex)) (.c (.int k i)))=some (.elem (e x++F (l.drop (i.toNat+1)))):=by
 obtain⟨h1,h2,h3⟩:=vv hF h
 simp only[wP,AX.ev]
 rw[if_pos ⟨h1,h2,trivial⟩,hF.get h3]
theorem Vu{l:List α}{i:Int}{x:α}{k:IntKind}{b:Nat}{w:Bool}(h:iW l i=some x):wP (.iy sz (.c (.acc b 0 sz l.length w)) (.c (.int k i)))=some (.ptr (some (b,0+i.toNat*sz))):=by
 obtain⟨h1,h2,h3⟩:=vv hF h
 simp only[wP,AX.ev]
 rw[if_pos ⟨h1,h2,trivial⟩]
theorem B_{k:IntKind}{n:Nat}{i:Int}(h1:0≤i)(h2:i≤(n:Int)):kD (.int k i) n=some i.toNat:=by
 simp only[kD]
 rw[if_pos ⟨h1,h2⟩]
theorem SY{l r:List α}{a b:Int}{k k':IntKind}{ex:Bool}(h:yL l a b=some r):wP (.slice sz (.c (.list sz l.length (F l) ex)) (some (.c (.int k a))) (some (.c (.int k' b))) none)=some (.list sz r.length (F r) false):=by
 obtain⟨h1,h2,h3,h4,h5⟩:=yM hF h
 simp only[wP,AX.ev,FP,if_true,bA]
 rw[B_ hF (by omega) h3,ak,B_ hF h1 (by omega),ak,hF.drop,hF.take,←h4,h5]
theorem Vv{l r:List α}{a:Int}{k:IntKind}{ex:Bool}(h:yL l a l.length=some r):wP (.slice sz (.c (.list sz l.length (F l) ex)) (some (.c (.int k a))) none none)=some (.list sz r.length (F r) false):=by
 obtain⟨h1,h2,h3,h4,h5⟩:=yM hF h
 simp only[wP,AX.ev,FP,if_true,bA,ak]
 rw[B_ hF h1 h2,ak,hF.drop,hF.take]
 simp only[gG]at h4 h5
 rw[←h4,h5]
theorem Vw{l r:List α}{b:Int}{k:IntKind}{ex:Bool}(h:yL l 0 b=some r):wP (.slice sz (.c (.list sz l.length (F l) ex)) none (some (.c (.int k b))) none)=some (.list sz r.length (F r) false):=by
 obtain⟨h1,h2,h3,h4,h5⟩:=yM hF h
 simp only[wP,AX.ev,FP,if_true,bA]
 rw[B_ hF h2 h3,ak,ak]
 simp only[Int.toNat_zero,Nat.sub_zero,List.drop_zero,Nat.zero_mul]at h4 h5 ⊢
 rw[hF.take,←h4,h5]
end
theorem Vx{α:Type}(l r:List α):l.length+r.length=(l++r).length:=by simp
theorem fU:∀s:List UInt8,dI (s.map mg)=some s
 | []=>rfl
 | b::s=>by
  simp only[List.map_cons,mg,dI]
  rw[show(s.map mg)=s.map mg from rfl,fU s]
  simp
theorem Yz{k:IntKind}{x y q:Int}(h:Vt k x y=some q):zZ .rem k x y=some (.int k q):=by
 unfold Vt at h
 simp only[zZ]
 split at h
 ·cases h
 ·rename_i e
  rw[if_neg e]
  obtain rfl:=aj h
  rfl
theorem ZA{s:List UInt8}{i:Int}{k:IntKind}{x:UInt8}(h:iW s i=some x):wP (.jm (.c (.str s)) (.c (.int k i)))=some (.int .u8 x.toNat):=by
 obtain⟨h1,h2,h3⟩:=vv (BZ mg) h
 simp only[wP,aP,AX.ev]
 rw[if_pos h1,h3]
 rfl
def qw{α β:Type}:α⊕β→Bool
 |.inl _=>true
 |.inr _=>false
def zV{α β:Type} [Inhabited α]:α⊕β→α
 |.inl x=>x
 |.inr _=>default
def qC{α β:Type} [Inhabited β]:α⊕β→β
 |.inl _=>default
 |.inr x=>x
theorem ZB{α β:Type} [Inhabited α]{e:α⊕β}(h:qw e=true):e=.inl (zV e):=by cases e<;>simp_all [qw,zV]
theorem ZC{α β:Type} [Inhabited β]{e:α⊕β}(h:qw e=false):e=.inr (qC e):=by cases e<;>simp_all [qw,qC]
instance YA{α β:Type} [Inhabited α]:Inhabited (α⊕β):=⟨.inl default⟩
theorem NG(x:Int):some (AV.int .u8 (IntKind.u8.wrap x))=some (AV.int .u8 ((pY x).toNat:Int)):=by rw[←Yw];rfl
theorem XV{z y:Int}(h:z=IntKind.u8.wrap y):some (AV.int .u8 z)=some (AV.int .u8 ((pY z).toNat:Int)):=by
 have h1:0≤IntKind.u8.wrap y∧IntKind.u8.wrap y<256:=by
  simp only[IntKind.wrap,IntKind.signed,IntKind.bits]
  constructor
  ·simp;omega
  ·simp;omega
 have e:IntKind.u8.wrap z=z:=by
  subst h
  generalize IntKind.u8.wrap y=z at *
  simp only[IntKind.wrap,IntKind.signed,IntKind.bits]
  simp
  omega
 have:=NG z
 rwa [e]at this
theorem Jt:∀(n:Nat) {a b l:List AV},yA n a=some l→yA n (a++b)=some l
 | 0,_,_,_,h=>by simpa[yA]using h
 | n+1,[],_,_,h=>by simp[yA]at h
 | n+1,c::a,b,l,h=>by
  simp only[yA,List.cons_append]at h ⊢
  split at h
  ·rename_i l' hl
   rw[Jt n hl]
   exact h
  ·cases h
theorem PG:∀ {a b:List AV} (o:Nat) {v:AV},O_ a o=some v→O_ (a++b) o=some v
 | [],_,_,_,h=>by simp[O_]at h
 | c::a,b,0,v,h=>by simpa[O_]using h
 | c::a,b,o+1,v,h=>by
  simp only[O_,List.cons_append]at h ⊢
  exact PG o h
theorem L_:∀(c:List AV) (n o:Nat),O_ c (n+o)=O_ (c.drop n) o
 | c,0,o=>by simp
 | [],n+1,o=>by
  simp only[List.drop_nil]
  cases (n+1+o)<;>cases o<;>simp[O_]
 | x::c,n+1,o=>by
  rw[Nat.add_right_comm,List.drop_succ_cons,←L_ c n o]
  rfl
theorem Qp{a b:List AV}{agg:Bool}{o n:Nat}{v:AV}(h:sJ agg o n a=some v):sJ agg o n (a++b)=some v:=by
 cases agg with
 | false=>exact PG o h
 | true =>
  simp only[sJ]at h ⊢
  rw[List.drop_append]
  split at h
  ·rename_i l hl
   rw[Jt n hl]
   exact h
  ·cases h
theorem NH{c:List AV}{agg:Bool}{m o n:Nat}:sJ agg (m+o) n c=sJ agg o n (c.drop m):=by
 cases agg with
 | false=>exact L_ c m o
 | true=>simp only[sJ,List.drop_drop]
section
variable {α:Type} {F:List α→List AV} {e:α→List AV} {sz:Nat} (hF:Row F e sz)
include hF
theorem YB{l:List α}{i:Int}{x:α}{agg:Bool}{o n:Nat}{v:AV}(h:iW l i=some x)(hv:sJ agg o n (e x)=some v):sJ agg (0+i.toNat*sz+o) n (F l)=some v:=by
 obtain⟨h1,h2,h3⟩:=vv hF h
 rw[Nat.zero_add,NH,hF.get h3]
 exact Qp hv
theorem Vy{a b b' c cs:List AV}{o:Nat}(h:Pf b o cs=some b'):Pf (a++(b++c)) (a.length+o) cs=some (a++(b'++c)):=by
 unfold Pf at h ⊢
 split at h
 case isFalse=>cases h
 rename_i hl
 obtain rfl:=aj h
 rw[if_pos (by simp only[aF];omega)]
 congr 1
 have e1:(a++(b++c)).take (a.length+o)=a++b.take o:=by
  rw[List.take_length_add_append,List.take_append_of_le_length (by omega)]
 have e2:(a++(b++c)).drop (a.length+o+cs.length)=b.drop (o+cs.length)++c:=by
  rw[Nat.add_assoc,List.drop_length_add_append,List.drop_append_of_le_length (by omega)]
 rw[e1,e2]
 simp
theorem YC{l:List α}{i:Int}{x x':α}{o:Nat}{cs:List AV}(h:iW l i=some x)(hx:Pf (e x) o cs=some (e x')):Pf (F l) (0+i.toNat*sz+o) cs=some (F (l.set i.toNat x')):=by
 obtain⟨h1,h2,h3⟩:=vv hF h
 obtain⟨g1,g2⟩:=aC.1 h3
 have e0:F l=F (l.take i.toNat)++(e x++F (l.drop (i.toNat+1))):=by
  rw[←hF.get h3,←hF.take,List.take_append_drop]
 have e1:F (l.set i.toNat x')=F (l.take i.toNat)++(e x'++F (l.drop (i.toNat+1))):=by
  rw[←hF.cons,←hF.app,List.set_eq_take_append_cons_drop,if_pos g1]
 have e2:(F (l.take i.toNat)).length=i.toNat*sz:=by
  rw[hF.length,aJ]
  congr 1
  omega
 rw[e0,e1,Nat.zero_add,←e2]
 exact Vy hF hx
theorem DJ{l r:List α}{b:Int}(h:yL l 0 b=some r):((F l).drop 0).take (r.length*sz)=F r:=by
 obtain⟨h1,h2,h3,h4,h5⟩:=yM hF h
 simp only[Int.toNat_zero,List.drop_zero]at h4 h5 ⊢
 rw[hF.take,h5,←h4]
theorem Ma{l r:List α}{b:Int}(h:yL l 0 b=some r):(F l).take (r.length*sz)=F r:=by
 have:=DJ hF h
 rwa [List.drop_zero]at this
theorem Mc{l r:List α}{b:Int}{k:IntKind}{m:Nat}{w:Bool}(h:yL l 0 b=some r):wP (.slice sz (.c (.acc m 0 sz l.length w)) none (some (.c (.int k b))) none)=some (.acc m 0 sz r.length false):=by
 obtain⟨h1,h2,h3,h4,h5⟩:=yM hF h
 simp only[wP,AX.ev,wC,if_true,bA]
 rw[B_ hF h2 h3,ak,ak]
 simp only[Int.toNat_zero,Nat.sub_zero]at h5
 rw[h5,Nat.zero_mul,Nat.sub_zero]
theorem Md{x:α}{z:List AV}(hx:F [x]=z)(n:Nat):je n z=F (List.replicate n x):=by
 induction n with
 | zero=>simp[je,hF.nil]
 | succ n ih =>
  rw[List.replicate_succ,hF.cons,je,ih]
  rw[hF.cons,hF.nil,List.append_nil]at hx
  rw[hx]
end
def PI(bytes:Nat)(n:Int):Bool:=decide (0≤n∧n≤4611686018427387904∧bytes*n.toNat≤281474976710656)
theorem S9{bytes:Nat}{n:Int}(h:PI bytes n=true):wMk (.int .i64 n) (.int .i64 n) n.toNat bytes:=by
 obtain⟨h1,h2,h3⟩:=of_decide_eq_true h
 have e:(n.toNat:Int)=n:=by omega
 refine⟨by rw[e],by rw[e],by omega,h3⟩
abbrev dF(f:Fast→Heap→EI)(np:Nat)(i:Fast×WH)(o:Ex×Fast×WH):Prop:=Nl f np i.1 i.2 o.1 o.2.1 o.2.2
abbrev oz(keep:List Nat)(p:List AV×WH):Fast×WH:=(fA keep p.1,p.2)
theorem YD{k k':IntKind}{x y q:Int}(h:SV k x y=some q):ED .shr (.int k x) (.int k' y)=some (.int k q):=by
 unfold SV at h
 simp only[ED]
 split at h
 ·cases h
 ·rename_i e
  rw[if_neg e]
  obtain rfl:=aj h
  rfl
theorem YE{k k':IntKind}{x y q:Int}(h:SS k x y=some q):ED .shl (.int k x) (.int k' y)=some (.int k q):=by
 unfold SS at h
 simp only[ED]
 split at h
 ·cases h
 ·rename_i e
  rw[if_neg e]
  obtain rfl:=aj h
  rfl
def XW(bytes:Nat)(n:Int):Bool:=decide (0≤n∧n≤70368744177664∧bytes*n.toNat≤281474976710656∧n.toNat*bytes≤70368744177664)
section
variable {α:Type} {F:List α→List AV} {e:α→List AV} {sz:Nat} (hF:Row F e sz)
include hF
end
theorem nB{C:aW}(f:FuncId)(b:Bt)(h:(λ_=>none:FuncId→Option Bt) f=some b):Nv C f b:=by cases h
theorem il{α β:Type} [Inhabited α]{e:α⊕β}(h:qw e=true):e=.inl (zV e):=ZB h
theorem H_{α β:Type} [Inhabited β]{e:α⊕β}(h:qw e=false):e=.inr (qC e):=ZC h
theorem uW{β:Type}{fin:β→Ex×Fast×WH}{r r':β}(e:r=r'){f:Fast→Heap→EI}{np:Nat}{i:Fast×WH}(h:dF f np i (fin r)):dF f np i (fin r'):=e ▸ h
def codeOf:Option bF→bK
 | some f=>f.code
 | none=>.fail
def cA:bK→bK
 |.seq a _=>a
 | c=>c
def cB:bK→bK
 |.seq _ b=>b
 | c=>c
def cK:bK→bK
 |.block _ c=>c
 | c=>c
def cL:bK→bK
 |.loop _ c=>c
 | c=>c
def En(keep:List Nat):Lf:=.en keep (keep.map λ_=>none) [] []
def E0{Q:Type}{v:Q}(keep:List Nat):Tc (some v):=.leaf (En keep) v
def E1{Q:Type}{v:Q}(keep:List Nat)(ms bs:List (Option Bool))(ts:List AV):Tc (some v):=.leaf (.en keep ms bs ts) v
def Fn{Q:Type}{v:Q}(m:Option Bool)(ts:List AV)(mc:Option Bool):Tc (some v):=.leaf (.fin m ts mc) v
def Fo:Option Bool:=some false
def Tw:Option Bool:=some true
def oF{G:Lr}{T:FuncId→Option bF}{f:FuncId}{x:bF}(hG:G f=none)(hT:T f=some x)(hc:x.code.bE=true):G f=none∧T f=some x∧x.code.bE=true:=⟨hG,hT,hc⟩
section
variable {Q:Type} {f:Option Q}
section
variable {α:Type} {F:List α→List AV} {e:α→List AV} {sz:Nat} (hF:Row F e sz) {l r:List α} {i j:Int} {x:α}
def Ix(d:Nat)(h:iW l i=some x)(k:Tc f):Tc f:=.v d (.elem (e x++F (l.drop (i.toNat+1)))) (.ob (Yy (k:=.i64) (ex:=false) hF h) k)
def Si(d:Nat)(h:yL l 0 j=some r)(k:Tc f):Tc f:=.v d (.list sz r.length (F r) false) (.ob (Vw (k:=.i64) (ex:=false) hF h) k)
def Sl(d:Nat)(h:yL l i l.length=some r)(k:Tc f):Tc f:=.v d (.list sz r.length (F r) false) (.ob (Vv (k:=.i64) (ex:=false) hF h) k)
def Sb(d:Nat)(h:yL l i j=some r)(k:Tc f):Tc f:=.v d (.list sz r.length (F r) false) (.ob (SY (k:=.i64) (k':=.i64) (ex:=false) hF h) k)
def Ia(d b:Nat)(h:iW l i=some x)(k:Tc f):Tc f:=.v d (.ptr (some (b,0+i.toNat*sz))) (.ob (Vu (k:=.i64) (b:=b) (w:=true) hF h) k)
def Ld(d:Nat)(agg:Bool)(n o:Nat)(h:iW l i=some x)(u:AV)(hv:sJ agg o n (e x)=some u)(k:Tc f):Tc f:=.v d u (.ob (YB hF h hv) k)
def Ap(d:Nat){b:Nat}(h:dS b (l++r).length=true)(k:Tc f):Tc f:=.ap d (l++r).length (F (l++r)) (.ob (Vx l r) (.ob (Row.app hF l r).symm (.ob h k)))
end
def UM{α:Type}{F:List α→List AV}{e:α→List AV}{sz:Nat}(_:Row F e sz)(d:Nat){r:List α}{b:Nat}(h:dS b r.length=true)(k:Tc f):Tc f:=.ap d r.length (F r) (.ob (Nat.zero_add r.length) (.ob (@rfl _ (F r)) (.ob h k)))
def Cl(ms:List (Option Bool))(m:Option Bool)(ts:List AV){C:aW}{g:FuncId}{args:List AV}{blks:WH}{v:AV}{out:WH}(h:Spec C g args blks v out)(r:Tc f):Tc f:=.call ms m ts v out (.ob h r)
def Db{C:aW}{g:FuncId}{args:List AV}{blks:WH}{v:AV}{out:WH}(h:Spec C g args blks v out)(r:Tc f):Tc f:=.call [] none [] v out (.ob h r)
def EJ{C:aW}{g:FuncId}{args:List AV}{blks:WH}{v:AV}{out:WH}(h:Spec C g args blks v out)(r:Tc f):Tc f:=.cb [] [] v (.ob h r)
def Lp(ms bs:List (Option Bool))(ts:List AV){run:Fast→Heap→EI}{np:Nat}{i:Fast×WH}{o:Ex×Fast×WH}(h:dF run np i o)(r:Tc f):Tc f:=.lp ms bs ts o.1 o.2.1 o.2.2 (.ob h r)
def Jn(keep:List Nat)(ms bs:List (Option Bool))(ts:List AV){run:Fast→Heap→EI}{np:Nat}{i:Fast×WH}{o:Ex×Fast×WH}(h:dF run np i o)(r:Tc f):Tc f:=.jn keep ms bs ts o.1 o.2.1 o.2.2 (.ob h r)
end
structure Rt(s:Sh){α:Type}(e:α→List AV)(bk:α→Nat)(ok:α→Prop):Prop where
 rd:∀d,D.is s d→∃x,encS s d=e x∧bk x≤D.bulk d∧ok x
 sz:∀x,(e x).length=o7 s
abbrev okI(x:Int):Prop:=-9223372036854775808≤x∧x≤9223372036854775807
abbrev eI(x:Int):List AV:=[.int .i64 x]
abbrev eB(x:UInt8):List AV:=[mg x]
abbrev bk1{α:Type}(_:α):Nat:=1
abbrev okT{α:Type}(_:α):Prop:=True
def XY{α:Type}(bk:α→Nat)(l:List α):Nat:=(l.map bk).sum+1
def ZE{α:Type}(ok:α→Prop)(l:List α):Prop:=∀x∈l,ok x
theorem ZF:Rt (.int .i64) eI bk1 okI:=⟨λd h=>by
 obtain⟨n,rfl,h1,h2⟩:=h
 exact⟨n,rfl,by simp[D.bulk],h1,h2⟩,λ_=>rfl⟩
theorem ZG:Rt (.int .u8) eB bk1 okT:=⟨λd h=>by
 obtain⟨n,rfl,h1,h2⟩:=h
 have h3:0≤n:=h1
 have h4:n≤255:=h2
 refine⟨UInt8.ofNat n.toNat, ?_,by simp[D.bulk],trivial⟩
 simp only[encS,eB,mg,List.cons.injEq,AV.int.injEq,true_and,and_true]
 rw[UInt8.toNat_ofNat',Nat.mod_eq_of_lt (by omega)]
 omega,λ_=>rfl⟩
theorem Vz {s:Sh} {α:Type} {e:α→List AV} {bk:α→Nat} {ok:α→Prop} {F:List α→List AV} {n:Nat} (r:Rt s e bk ok) (hF:Row F e n) (hn:o7 s=n) :
  Rt (.list s) (λl=>[.list n l.length (F l) false]) (XY bk) (ZE ok):=⟨λd h=>by
 obtain⟨l,rfl,h⟩:=h
 have key:∀l:List D,(∀d∈l,D.is s d)→∃x:List α,x.length=l.length∧Kn s l=x.flatMap e∧(x.map bk).sum≤D.qW l∧∀y∈x,ok y:=by
  intro l
  induction l with
  | nil=>intro _;exact⟨[],rfl,rfl,by simp[D.qW],by simp⟩
  | cons d r' ih =>
   intro h
   obtain⟨y,h1,h2,h3⟩:=r.rd d (h d (by simp))
   obtain⟨x,q0,q1,q2,q3⟩:=ih λz hz=>h z (by simp[hz])
   refine⟨y::x,by simp[q0],by simp only[Kn,h1,q1,List.flatMap_cons],by simp only[List.map_cons,List.sum_cons,D.qW];omega, ?_⟩
   intro z hz
   rcases List.mem_cons.1 hz with rfl | hz
   ·exact h3
   ·exact q3 z hz
 obtain⟨x,q0,q1,q2,q3⟩:=key l h
 refine⟨x, ?_,by simp only[XY,D.bulk];omega,q3⟩
 have hr:F x=x.flatMap e:=by
  clear q0 q1 q2 q3
  induction x with
  | nil=>rw[hF.nil];rfl
  | cons y x ih=>rw[hF.cons,ih,List.flatMap_cons]
 simp only[encS,q0,q1,hn,hr],λ_=>rfl⟩
theorem ZH {ss:List Sh} {α:Type} {e:α→List AV} {bk:α→Nat} {ok:α→Prop} (sz:∀x,(e x).length=rE ss)
  (h:∀l,D.are ss l→∃x,Ag ss l=e x∧bk x≤D.qW l+1∧ok x):Rt (.agg ss) e bk ok:=⟨λd h0=>by
 obtain⟨l,rfl,hl⟩:=h0
 obtain⟨x,h1,h2,h3⟩:=h l hl
 exact⟨x,h1,h2,h3⟩,sz⟩
theorem vw {s:Sh} {ss:List Sh} {α:Type} {e:α→List AV} {bk:α→Nat} {ok:α→Prop} (r:Rt s e bk ok) {ds:List D} (h:D.are (s::ss) ds) :
  ∃d q,ds=d::q∧D.are ss q∧∃x,encS s d=e x∧bk x≤D.bulk d∧ok x:=by
 obtain⟨d,q,h1,h2,h3⟩:=R7 h
 exact⟨d,q,h1,h3,r.rd d h2⟩
theorem PK{α:Type}{bk:α→Nat}(h:∀x,1≤bk x)(l:List α):l.length+1≤XY bk l:=by
 have:l.length≤(l.map bk).sum:=by
  induction l with
  | nil=>simp
  | cons y l ih =>
   have:=h y
   simp only[List.map_cons,List.sum_cons,aY]
   omega
 unfold XY
 omega
end Go.Proofs.Ytkedeiklmpkgkaa
