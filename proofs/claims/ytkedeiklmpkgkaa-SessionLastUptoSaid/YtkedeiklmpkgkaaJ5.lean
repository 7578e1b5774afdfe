import Derived.Test.YtkedeiklmpkgkaaJ3
set_option linter.all false
namespace Go.Proofs.Ytkedeiklmpkgkaa
def NR(R:Nat→Prop)(ι:VI)(H:WH)(M:Heap)(v:AV)(H':WH)(a:AV):Prop:=∃aM,VS R aM H' M∧Stp H.length [] ι H M aM H' M∧VL M (OR R aM) aM v a
def Kg(R:Nat→Prop)(ι:VI)(H:WH)(M:Heap)(v:List AV)(H':WH)(a:List AV):Prop:=∃aM,VS R aM H' M∧Stp H.length [] ι H M aM H' M∧aR M (OR R aM) aM v a
theorem NR.quiet{R:Nat→Prop}{ι:VI}{H:WH}{M:Heap}(s:VS R ι H M){v a:AV}(h:VL M (OR R ι) ι v a):NR R ι H M v H a:=⟨ι,s,.refl _ _ _ _ _ (Nat.le_refl _),h⟩
theorem xQ {R:Nat→Prop} {ι:VI} {H:WH} {M:Heap} (s:VS R ι H M) {cs cs':List AV} (h:aR M (OR R ι) VI.none cs cs') {sz n:Nat} (hl:cs.length=n*sz) (ex sl:Bool) :
  ∃aM,VS R aM (H++[some (.cells cs false true)]) (M.push (.cells cs' false sl))∧Stp H.length [] ι H M aM (H++[some (.cells cs false true)]) (M.push (.cells cs' false sl)) ∧
   VL (M.push (.cells cs' false sl)) (OR R aM) aM (.acc H.length 0 sz n true) (.slice (some (M.next,0)) sz n n ex):=by
 have hl':=h.length
 obtain⟨h1,h2⟩:=s.push (x:=.cells cs false true) (y:=.cells cs' false sl) (d:=(cs.length,cs'.length)) ⟨cs',[],false,sl,cs'.length,by simp,λ_=>rfl,rfl,by simp,by simpa using h,λh=>by cases h⟩
 refine⟨_,h1,h2, ?_⟩
 simp only[VL]
 refine⟨_,_,_,_,rfl,Nat.le_refl _,(λh=>by cases h),λ_=>rfl,cs.length,cs'.length,by simp[VI.add,setAt],by omega,λ_=>⟨trivial,hl.symm⟩,.inl ⟨M.next,by simp[VI.add,setAt],.inl ⟨rfl,by omega⟩⟩⟩
theorem xR {R:Nat→Prop} {ι:VI} {H:WH} {M:Heap} (s:VS R ι H M) (sz s':Nat) (p:Option (Nat×Nat)) (hp:p≠none→s'=sz) :
  ∃aM,VS R aM (H++[some (.cells [] false true)]) M∧Stp H.length [] ι H M aM (H++[some (.cells [] false true)]) M∧VL M (OR R aM) aM (.acc H.length 0 sz 0 true) (.slice p s' 0 0 true):=by
 obtain⟨h1,h2⟩:=s.FE
 refine⟨_,h1,h2, ?_⟩
 simp only[VL]
 exact⟨_,_,_,_,rfl,Nat.le_refl _,by simp,hp,0,0,by simp[VI.bS,setAt],by omega,by simp,.inr ⟨by simp[VI.bS,setAt],by simp⟩⟩
theorem tV {R:Nat→Prop} {ι:VI} {H:WH} {M:Heap} (s:VS R ι H M) {b j:Nat} (hb:ι b=some j) {c0:List AV} {sl0:Bool} (hg:aU H b=some (.cells c0 false sl0)) {cs cs' t:List AV} {ro sl:Bool} {L:Nat}
  (hj:M.get j=some (.cells (cs'++t) ro sl)) (hro:ro=false) (h:aR M (OR R ι) VI.none cs cs') (hL:L≤(cs'++t).length) {sz n cap:Nat} (hl:cs.length=n*sz) {p:Option (Nat×Nat)} {s':Nat} {ex:Bool} (hn:n≤cap) (hnp:p=none→cap=0∧ex=true) (hs:p≠none→s'=sz)
  (hp:(p=some (j,0)∧cap*sz≤L)∨(n=0∧cap=0∧ex=true)) :
  ∃aM,VS R aM (bU H b none++[some (.cells cs false true)]) M∧Stp H.length [b] ι H M aM (bU H b none++[some (.cells cs false true)]) M∧VL M (OR R aM) aM (.acc H.length 0 sz n true) (.slice p s' n cap ex):=by
 obtain⟨h1,h2,h3⟩:=s.swap hb hg (x:=.cells cs false true) (y:=.cells (cs'++t) ro sl) (d:=(cs.length,L)) ⟨cs',t,ro,sl,L,rfl,λ_=>hro,rfl,hL,by simpa using h⟩
 rw[Heap.uQ hj]at h1 h2
 refine⟨_,h1,h2, ?_⟩
 simp only[VL]
 exact⟨_,_,_,_,rfl,hn,hnp,hs,cs.length,L,by simp[VI.add,setAt],by omega,λ_=>⟨trivial,hl.symm⟩,.inl ⟨j,h3,hp.imp (λh=>⟨h.1,by omega⟩) (λh=>h)⟩⟩
theorem Stp.still{n:Nat}{t t':List Nat}{ι eu:VI}{H H1:WH}{M:Heap}(h:Stp n t ι H M eu H1 M):Stp n t' ι H M eu H1 M :=
 ⟨h.keep,h.le,h.gone,h.GN,h.zZ,h.wz,h.live,λ_ _ _ _ _ _=>rfl,h.next⟩
theorem FH {R:Nat→Prop} {ι:VI} {H:WH} {M:Heap} (s:VS R ι H M) {b sz n:Nat} {w:Bool} {a:AV} (h:VL M (OR R ι) ι (.acc b 0 sz n w) a) {c:List AV} (hg:aU H b=some (.cells c false true)) :
  NR R ι H M (.acc H.length 0 sz n true) (bU H b none++[some (.cells (c.take (n*sz)) false true)]) a:=by
 obtain⟨k1,k2,p,s',cap,ex,rfl,k3,k4,k5⟩:=VL.mI s h hg
 simp only[Nat.zero_add]at k1
 have hnp:p=none→cap=0∧ex=true:=by
  simp only[VL]at h
  obtain⟨_,_,_,_,e,_,q,_⟩:=h
  simp only[AV.slice.injEq]at e
  obtain⟨rfl,rfl,_,rfl,rfl⟩:=e
  exact q
 have hlt:(c.take (n*sz)).length=n*sz:=by simp only[bC];omega
 have part:∀ {c' t:List AV},(c'.take (n*sz))++(c'.drop (n*sz)++t)=c'++t:=λ{c' t}=>by rw[←bD,List.take_append_drop]
 rcases k5 with⟨j,c',t,ro',sl',L,g1,g2,g3,g4,g5,g6,rfl,g7⟩ |⟨rfl,rfl,rfl,⟨j,c',t,ro',sl',L,g1,g2,g3,g4,g5,g6⟩ |⟨g1,rfl,_⟩⟩
 ·simp only[if_true]at g6
  obtain⟨aM,q1,q2,q3⟩:=tV s g1 hg (cs:=c.take (n*sz)) (cs':=c'.take (n*sz)) (t:=c'.drop (n*sz)++t) (by rw[part];exact g2) (g3 rfl).1 (g6.take _) (by rw[part];exact g5) hlt k3 hnp k4 (.inl ⟨rfl,by omega⟩)
  exact⟨aM,q1,q2.still,q3⟩
 ·simp only[if_true]at g6
  obtain⟨aM,q1,q2,q3⟩:=tV s g1 hg (cs:=c.take (0*sz)) (cs':=c'.take (0*sz)) (t:=c'.drop (0*sz)++t) (by rw[part];exact g2) (g3 rfl).1 (g6.take _) (by rw[part];exact g5) hlt k3 hnp k4 (.inr ⟨rfl,rfl,rfl⟩)
  exact⟨aM,q1,q2.still,q3⟩
 ·obtain⟨h1,h2⟩:=s.Bd g1
  obtain⟨aM,q1,q2,q3⟩:=xR h1 sz s' p k4
  rw[bn]at q2 q3
  refine⟨aM,by simpa using q1, ?_,q3⟩
  have:=h2.trans q2 (Nat.le_refl _)
  simpa using this.still
mutual
theorem Bl{R:Nat→Prop}(v:AV)(H:WH)(ι:VI)(M:Heap)(a:AV)(s:VS R ι H M)(h:VL M (OR R ι) ι v a):NR R ι H M (Cg v H).1 (Cg v H).2 a:=by
 rw[Cg.eq_def]
 split
 ·simp only[VL]at h
  obtain⟨_,s',rfl⟩:=h
  exact xR s _ s' none (λh=>absurd rfl h)
 ·split
  ·rename_i w _ c hg
   have ht:=FH s h hg
   cases w with
   | false=>exact ht
   | true =>
    have hc:=(VL.mI s h hg).2.1 rfl
    simp only[GK]
    rw[List.take_of_length_le (by omega)]at ht
    exact ht
  ·exact NR.quiet s h
 ·rename_i cs
  simp only[VL]at h
  obtain⟨cs',rfl,h⟩:=h
  obtain⟨aM,h1,h2,h3⟩:=uU cs H ι M cs' s h
  split
  rename_i l H' e
  rw[e]at h1 h2 h3
  exact⟨aM,h1,h2,by simp only[VL];exact⟨cs',rfl,h3⟩⟩
 ·rename_i cs
  simp only[VL]at h
  obtain⟨cs',rfl,h⟩:=h
  obtain⟨aM,h1,h2,h3⟩:=uU cs H ι M cs' s h
  split
  rename_i l H' e
  rw[e]at h1 h2 h3
  exact⟨aM,h1,h2,by simp only[VL];exact⟨cs',rfl,h3⟩⟩
 ·exact NR.quiet s h
termination_by SizeOf.sizeOf v
theorem uU{R:Nat→Prop}(v:List AV)(H:WH)(ι:VI)(M:Heap)(a:List AV)(s:VS R ι H M)(h:aR M (OR R ι) ι v a):Kg R ι H M (wh v H).1 (wh v H).2 a:=by
 rw[wh.eq_def]
 split
 ·exact⟨ι,s,.refl _ _ _ _ _ (Nat.le_refl _),h⟩
 ·rename_i v r
  cases a with
  | nil=>simp[aR]at h
  | cons a l =>
   simp only[aR]at h
   obtain⟨eu,h1,h2,h3⟩:=Bl v H ι M a s h.1
   obtain⟨jD,k1,k2,k3⟩:=uU r (Cg v H).2 eu M l h1 (aR.step s h2 h.2)
   split
   rename_i x1 x2 e
   rw[e]at h1 h2 h3 k1 k2 k3
   split
   rename_i y1 y2 e'
   rw[e']at k1 k2 k3
   refine⟨jD,k1, ?_,by simp only[aR];exact⟨VL.step h1 k2 h3,k3⟩⟩
   have:=h2.trans k2 h2.next
   simpa using this
termination_by SizeOf.sizeOf v
end
theorem Ad{R:Nat→Prop}(m:Option Bool){v:AV}{H:WH}{ι:VI}{M:Heap}{a:AV}(s:VS R ι H M)(h:VL M (OR R ι) ι v a):NR R ι H M (H_ m v H).1 (H_ m v H).2 a:=by
 match m with
 | none=>exact NR.quiet s h
 | some true=>exact Bl v H ι M a s h
 | some false =>
  simp only[H_]
  split
  case h_2=>exact NR.quiet s h
  rename_i p hp
  obtain⟨h1,h2⟩:=s.Ck p.2 (gG 5 false v p hp)
  refine⟨_,h1,h2, ?_⟩
  have:=xP s (O':=OR R (ι.iw p.2)) (λj h=>h.imp qN id) (iI:=ι.iw p.2) (uS _ _ _) 5 false v p a hp h (λb hb j hj=>?_)
  ·exact this
  ·have lv:=gG 5 false v p hp b hb
   rintro(⟨i,q1,q2⟩ | hR)
   ·simp only[VI.iw,Bool.or_eq_false_iff]at q1 q2
    have:=s.inj i b j (.inr q2.1) (.inl lv) q1 hj (.inl q2.1)
    subst this
    rw[jk.2 hb]at q2
    cases q2.2
   ·exact(s.res j hR).2 b (.inl lv) hj
theorem qQ{R:Nat→Prop}:∀(ms:List (Option Bool)) (v:List AV) (H:WH) (ι:VI) (M:Heap) (a:List AV),VS R ι H M→aR M (OR R ι) ι v a→Kg R ι H M (o8 ms v H).1 (o8 ms v H).2 a
 | ms,[],H,ι,M,a,s,h=>by
  simp only[o8]
  exact⟨ι,s,.refl _ _ _ _ _ (Nat.le_refl _),h⟩
 | ms,v::r,H,ι,M,a,s,h=>by
  cases a with
  | nil=>simp[aR]at h
  | cons a l =>
   simp only[aR]at h
   obtain⟨eu,h1,h2,h3⟩:=Ad (ms.headD (some false)) s h.1
   obtain⟨jD,k1,k2,k3⟩:=qQ ms.tail r _ eu M l h1 (aR.step s h2 h.2)
   simp only[o8]
   refine⟨jD,k1, ?_,by simp only[aR];exact⟨VL.step h1 k2 h3,k3⟩⟩
   have:=h2.trans k2 h2.next
   simpa using this
theorem Bn{R:Nat→Prop}(m:Option Bool):∀(v:List AV) (H:WH) (ι:VI) (M:Heap) (a:List AV),VS R ι H M→aR M (OR R ι) ι v a→Kg R ι H M (yV m v H).1 (yV m v H).2 a
 | [],H,ι,M,a,s,h=>by
  simp only[yV]
  exact⟨ι,s,.refl _ _ _ _ _ (Nat.le_refl _),h⟩
 | v::r,H,ι,M,a,s,h=>by
  cases a with
  | nil=>simp[aR]at h
  | cons a l =>
   simp only[aR]at h
   obtain⟨eu,h1,h2,h3⟩:=Ad m s h.1
   obtain⟨jD,k1,k2,k3⟩:=Bn m r _ eu M l h1 (aR.step s h2 h.2)
   simp only[yV]
   refine⟨jD,k1, ?_,by simp only[aR];exact⟨VL.step h1 k2 h3,k3⟩⟩
   have:=h2.trans k2 h2.next
   simpa using this
theorem VS.Ig {R:Nat→Prop} {ι:VI} {H:WH} {M:Heap} (s:VS R ι H M) {b:Nat} {c c':List AV} {ro:Bool} (hg:aU H b=some (.cells c ro false)) (hc:∀j d t ro' sl',ι b=some j→M.get j=some (.cells (d++t) ro' sl')→d.length=c.length→aR M (OR R ι) ι c' d) (hl:c'.length=c.length) :
  VS R ι (bU H b (some (.cells c' ro false))) M∧Stp H.length [] ι H M ι (bU H b (some (.cells c' ro false))) M:=by
 have hbl:=gK hg
 have gp:∀k,aU (bU H b (some (.cells c' ro false))) k=if k=b then some (.cells c' ro false)else aU H k:=λk=>by
  rw[gD]
  by_cases e:k=b
  ·rw[if_pos ⟨e,hbl⟩,if_pos e]
  ·rw[if_neg (λh=>e h.1),if_neg e]
 have lv:∀k,(∃z,aU (bU H b (some (.cells c' ro false))) k=some z)→∃z,aU H k=some z:=λk ⟨z,hz⟩=>by
  rw[gp]at hz
  by_cases e:k=b
  ·exact⟨_,e ▸ hg⟩
  ·rw[if_neg e]at hz
   exact⟨z,hz⟩
 refine⟨⟨λi j h=>by rw[bn];exact s.lt i j h,λi i' j h h' e e'=>s.inj i i' j (h.imp (lv i) id) (h'.imp (lv i') id) e e',λi z hz=>?_,λi h=>by rw[bn];exact s.jy i h,λi hi c1 sl h=>?_,s.zY,λj h=>⟨(s.res j h).1,λi hi=>(s.res j h).2 i (hi.imp (lv i) id)⟩⟩,
  ⟨.refl _ _,.refl _ _,λ_ _ h=>h,λ_ _=>rfl,λ_ _=>rfl,λ_ _ _=>rfl,λi _=>lv i,λ_ _ _ _ _ _=>rfl,by rw[bn];exact Nat.le_refl _⟩⟩
 ·rw[gp]at hz
  by_cases e:i=b
  ·subst e
   rw[if_pos rfl]at hz
   obtain rfl:=aj hz
   rcases s.blk i _ hg with⟨_,_,ro',h⟩ |⟨j,h1,⟨d,t,ro',sl',L,g1,g2,g3,g4,g5,g6⟩,h2⟩
   ·cases h
   ·exact .inr ⟨j,h1,⟨d,t,ro',sl',L,g1,g2,by rw[hl];exact g3,g4,by simpa using hc j d t ro' sl' h1 g1 g5.length.symm,g6⟩,h2⟩
  ·rw[if_neg e]at hz
   exact s.blk i z hz
 ·rw[gp]at h
  by_cases e:i=b
  ·rw[if_pos e]at h
   subst e
   cases h
   exact s.iw i hi c _ hg
  ·rw[if_neg e]at h
   exact s.iw i hi c1 sl h
theorem FI{R:Nat→Prop}(m:Option Bool)(b:Nat){H:WH}{ι:VI}{M:Heap}(s:VS R ι H M):∃aM,VS R aM (Fx m b H) M∧Stp H.length [] ι H M aM (Fx m b H) M:=by
 have quiet:∃aM,VS R aM H M∧Stp H.length [] ι H M aM H M:=⟨ι,s,.refl _ _ _ _ _ (Nat.le_refl _)⟩
 unfold Fx
 cases m with
 | none=>exact quiet
 | some m =>
 simp only
 split
 case h_2=>exact quiet
 rename_i c ro hg
 rcases s.blk b _ hg with⟨_,_,ro',h⟩ |⟨j,h1,⟨d,t,ro',sl',L,g1,g2,g3,g4,g5,g6⟩,h2⟩
 ·cases h
 simp only[Bool.false_eq_true,if_false]at g5
 obtain⟨eu,k1,k2,k3⟩:=Bn (some m) c H ι M d s g5
 split
 case h_2=>exact⟨eu,k1,k2⟩
 rename_i c2 K6 hg2
 have hj1:=((k2.le b (gK hg)).1 j h1).1
 have hd:=((k2.le b (gK hg)).1 j h1).2 _ g3
 have hl1:(yV (some m) c H).1.length=c.length:=by rw[k3.length,g5.length]
 have hl2:c2.length=c.length:=by
  obtain⟨_,_,_,_,_,_,_,e,_⟩:=k1.at hj1 hg2
  rw[hd]at e
  simp only[ak,aD]at e
  exact e.1.symm
 obtain⟨q1,q2⟩:=k1.Ig hg2 (c':=(yV (some m) c H).1) (λj' d' t' ro' sl' e1 e2 e3=>by
  rw[hj1]at e1
  obtain rfl:=aj e1
  rw[g1]at e2
  simp only[ak,fF.cells.injEq]at e2
  have:d'=d:=by
   have:=congrArg (List.take c.length) e2.1
   rw[List.take_left' (by rw[g5.length]),List.take_left' (by rw[e3,hl2])]at this
   exact this.symm
  rw[this]
  exact k3) (by rw[hl1,hl2])
 refine⟨eu,q1, ?_⟩
 have:=k2.trans q2 k2.next
 simpa using this
theorem qR{R:Nat→Prop}:∀(ms:List (Option Bool)) (m:Option Bool) (p:List Nat) (H:WH) (ι:VI) (M:Heap),VS R ι H M→∃aM,VS R aM (sU ms m p H) M∧Stp H.length [] ι H M aM (sU ms m p H) M
 | ms,m,[],H,ι,M,s=>⟨ι,s,.refl _ _ _ _ _ (Nat.le_refl _)⟩
 | ms,m,b::p,H,ι,M,s=>by
  obtain⟨eu,h1,h2⟩:=FI (ms.headD m) b s
  obtain⟨jD,k1,k2⟩:=qR ms.tail m p _ eu M h1
  simp only[sU]
  refine⟨jD,k1, ?_⟩
  have:=h2.trans k2 h2.next
  simpa using this
theorem Cm{bytes k:Nat}(h:pK bytes k=true):k*bytes≤70368744177664∧k≤70368744177664:=by simpa[pK]using h
theorem aR.iw{R:Nat→Prop}{ι:VI}{M:Heap}{S:List Nat}{l r:List AV}(h:aR M (OR R ι) VI.none l r):aR M (OR R (ι.iw S)) VI.none l r :=
 aR.mono ⟨Nat.le_refl _,λb _ h=>⟨rfl,λk=>h (k.imp qN id)⟩⟩ _ _ _ _ (.refl _ _) h
theorem xS {R:Nat→Prop} {ι:VI} {H:WH} {M:Heap} (s:VS R ι H M) {k:Nat} {nested:Bool} {l:List AV} {p:List AV×List Nat} {r:List AV} (h:nD (yU H k nested) l=some p) (hr:aR M (OR R ι) ι l r) :
  aR M (OR R (ι.iw p.2)) (qO nested (ι.iw p.2)) p.1 r:=by
 refine uT (P:=λb=>b∈p.2) (λv q a hq hv hb=>?_) l p r h hr (λ_ h=>h)
 refine xP s (O':=OR R (ι.iw p.2)) (λj h=>h.imp qN id) (iI:=ι.iw p.2) (uS _ _ _) k nested v q a hq hv (λb hb' j hj=>?_)
 have lv:=gG k nested v q hq b hb'
 rintro(⟨i,q1,q2⟩ | hR)
 ·simp only[VI.iw,Bool.or_eq_false_iff]at q1 q2
  have:=s.inj i b j (.inr q2.1) (.inl lv) q1 hj (.inl q2.1)
  subst this
  rw[jk.2 (hb _ hb')]at q2
  cases q2.2
 ·exact(s.res j hR).2 b (.inl lv) hj
theorem Cn {R:Nat→Prop} {ι:VI} {H:WH} {M:Heap} (s:VS R ι H M) {x a:AV} (hx:VL M (OR R ι) ι x a) {sz n:Nat} {cs:List AV} {S:List Nat} (h:p9 x sz H=some (n,cs,S)) :
  dF a sz=true∧cs.length=n*sz∧∃cs',kS a M=some (n,cs')∧aR M (OR R (ι.iw S)) VI.none cs cs':=by
 unfold p9 at h
 split at h
 ·rename_i sz' n' cs' ex
  split at h
  case h_2=>cases h
  rename_i e
  obtain rfl:=aH e
  simp only[ak,aD]at h
  obtain⟨rfl,rfl,rfl⟩:=h
  simp only[VL]at hx
  rcases hx with⟨rfl,rfl,s',rfl⟩ |⟨b,o,cap,ex',rfl,q1,q2,q3,q4⟩
  ·exact⟨rfl,by simp,[],rfl,by simp[aR]⟩
  ·refine⟨by simp[dF],q3, ?_⟩
   by_cases hn:n'=0
   ·subst hn
    rw[Nat.zero_mul]at q3
    obtain rfl:=List.eq_nil_of_length_eq_zero q3
    exact⟨[],by simp[kS],by simp[aR]⟩
   ·obtain⟨c,ro,sl,g1,g2,g3,g4,g5⟩:=q4 hn
    refine⟨(c.drop o).take (n'*sz'), ?_,g5.iw⟩
    simp only[kS,if_neg hn,Heap.read,g1,if_pos g4,aG]
 ·simp only[ak,aD]at h
  obtain⟨rfl,rfl,rfl⟩:=h
  simp only[VL]at hx
  obtain⟨_,s',rfl⟩:=hx
  exact⟨rfl,by simp,[],rfl,by simp[aR]⟩
 ·rename_i t
  split at h
  case h_2=>cases h
  rename_i e
  obtain rfl:=aH e
  simp only[ak,aD]at h
  obtain⟨rfl,rfl,rfl⟩:=h
  obtain rfl:=hx.eq rfl
  refine⟨rfl,by simp,_,rfl, ?_⟩
  have:∀t:List UInt8,aR M (OR R (ι.iw [])) VI.none (t.map λb=>AV.int .u8 b.toNat) (t.map λb=>AV.int .u8 b.toNat):=λt=>by
   induction t with
   | nil=>simp[aR]
   | cons b t ih=>simp only[List.map_cons,aR,VL];exact⟨trivial,ih⟩
  exact this t
 ·rename_i b o sz' n' w
  split at h
  case h_2=>cases h
  rename_i e
  obtain rfl:=aH e
  split at h
  case h_2=>cases h
  rename_i c ro sl hg
  obtain⟨k1,k2,p,s',cap,ex,rfl,k3,k4,k5⟩:=VL.mI s hx hg
  have fin:∀(cs:List AV) (S:List Nat),cs.length=n'*sz'→(∀c' t,aR M (OR R ι) (if sl then VI.none else ι) c c'→aR M (OR R (ι.iw S)) VI.none cs (((c'++t).drop o).take (n'*sz'))) →
    dF (.slice p s' n' cap ex) sz'=true∧cs.length=n'*sz'∧∃cs',kS (.slice p s' n' cap ex) M=some (n',cs')∧aR M (OR R (ι.iw S)) VI.none cs cs':=by
   intro cs S h1 h2
   have hz:dF (.slice p s' n' cap ex) sz'=true:=by
    cases p with
    | none =>
     rcases k5 with⟨j,_,_,_,_,_,_,_,_,_,_,_,e,_⟩ |⟨e,_⟩
     ·cases e
     ·simp[dF,e]
    | some p=>simp[dF,k4 (by simp)]
   refine⟨hz,h1, ?_⟩
   have hn0:n'=0→cs=[]:=λe=>by
    subst e
    rw[Nat.zero_mul]at h1
    exact List.eq_nil_of_length_eq_zero h1
   rcases k5 with⟨j,c',t,ro',sl',L,g1,g2,g3,g4,g5,g6,rfl,g7⟩ |⟨e,_⟩
   ·obtain rfl:=k4 (by simp)
    by_cases hn:n'=0
    ·rw[hn0 hn]
     subst hn
     exact⟨[],by simp[kS],by simp[aR]⟩
    ·have hl:=g6.length
     refine⟨_, ?_,h2 c' t g6⟩
     simp only[kS,if_neg hn,Heap.read,g2]
     rw[if_pos (by simp only[aI];omega)]
     rfl
   ·rw[hn0 e]
    subst e
    refine⟨[], ?_,by simp[aR]⟩
    cases p<;>simp[kS]
  split at h
  ·simp only[ak,aD]at h
   obtain⟨rfl,rfl,rfl⟩:=h
   refine fin _ _ (qL k1 k2) λc' t hc=>?_
   simp only[if_true]at hc
   exact(qM hc k1 k2).iw
  ·split at h
   case h_2=>cases h
   split at h
   case h_2=>cases h
   rename_i q hq
   simp only[ak,aD]at h
   obtain⟨rfl,rfl,rfl⟩:=h
   obtain⟨k6,k7⟩:=k2 rfl
   refine fin _ _ (by rw[qP _ _ hq,k7]) λc' t hc=>?_
   simp only[Bool.false_eq_true,if_false]at hc
   have:=xS s hq hc
   rw[k6,List.drop_zero,k7,hc.length,List.take_left' rfl]
   exact this
 ·cases h
theorem ze{H:WH}{x:AV}{sz n:Nat}{cs:List AV}{S:List Nat}(h:p9 x sz H=some (n,cs,S)):∀b∈S,∃y,aU H b=some y:=by
 unfold p9 at h
 split at h
 ·split at h
  ·cases h;simp
  ·cases h
 ·cases h;simp
 ·split at h
  ·cases h;simp
  ·cases h
 ·split at h
  case h_2=>cases h
  split at h
  case h_2=>cases h
  split at h
  ·cases h;simp
  ·split at h
   case h_2=>cases h
   split at h
   case h_2=>cases h
   rename_i q hq
   cases h
   exact iU (λv p=>gG 5 true v p) _ _ hq
 ·cases h
theorem Co {R:Nat→Prop} {ι:VI} {H:WH} {M:Heap} (s:VS R ι H M) {x a:AV} (hx:VL M (OR R ι) ι x a) {sz bytes m len:Nat} {new new' old:List AV} (hnew:aR M (OR R ι) VI.none new new') (hl:new.length=m*sz) {H':WH} {t:List Nat}
  (h:A9 x sz H=some (len,old,H',t)) (hf:pK bytes (len+m)=true) :
  ∃a' M' aM,eG sz bytes a m new' M=some (a',M')∧VS R aM (H'++[some (.cells (old++new) false true)]) M'∧Stp H.length t ι H M aM (H'++[some (.cells (old++new) false true)]) M'∧VL M' (OR R aM) aM (.acc H'.length 0 sz (len+m) true) a':=by
 have hf':=Cm hf
 have hm0:m=0→new=[]:=λe=>by
  subst e
  rw[Nat.zero_mul]at hl
  exact List.eq_nil_of_length_eq_zero hl
 -- nothing was there
 have fresh:∀(gP:VI) (H0:WH) (t0:List Nat),VS R gP H0 M→H0.length=H.length→Stp H.length t0 ι H M gP H0 M→∀(p:Option (Nat×Nat)) (s':Nat),(p≠none→s'=sz)→0+m=len+m→∃a' M' aM,eG sz bytes (.slice p s' 0 0 true) m new' M=some (a',M')∧VS R aM (H0++[some (.cells ([]++new) false true)]) M'∧Stp H.length t0 ι H M aM (H0++[some (.cells ([]++new) false true)]) M'∧VL M' (OR R aM) aM (.acc H0.length 0 sz (0+m) true) a':=by
  intro gP H0 t0 s0 hlen k0 p s' hps hlm
  by_cases hm:m=0
  ·obtain rfl:=hm0 hm
   subst hm
   obtain⟨aM,q1,q2,q3⟩:=xR s0 sz sz p (λ_=>rfl)
   refine⟨.slice p sz 0 0 true,M,aM, ?_,q1, ?_,q3⟩
   ·unfold eG
    cases p with
    | none=>simp
    | some p=>obtain rfl:=hps (by simp);simp
   ·have:=k0.trans q2 (by omega)
    simpa using this
  ·have e:eG sz bytes (.slice p s' 0 0 true) m new' M=some (.slice (some (M.next,0)) sz (0+m) (0+m) false,M.push (.cells ([]++new') false true)):=by
    unfold eG
    simp only
    rw[if_neg (λhc=>hc.2 (hps hc.1)),if_neg (by omega),if_pos (by rw[hlm];exact hf')]
    cases p with
    | none=>rfl
    | some p=>rfl
   have Ji:=aR.Bc k0 hnew
   obtain⟨aM,q1,q2,q3⟩:=xQ s0 (cs:=[]++new) (cs':=[]++new') (by simpa using Ji) (n:=0+m) (sz:=sz) (by simpa using hl) false true
   rw[e]
   refine⟨_,_,aM,rfl,q1, ?_,q3⟩
   have:=k0.trans q2 (by omega)
   simpa using this
 unfold A9 at h
 split at h
 ·simp only[ak,aD]at h
  obtain⟨rfl,rfl,rfl,rfl⟩:=h
  simp only[VL]at hx
  obtain⟨_,s',rfl⟩:=hx
  exact fresh ι H [] s rfl (.refl _ _ _ _ _ (Nat.le_refl _)) none s' (λh=>absurd rfl h) rfl
 ·rename_i b sz' n w
  split at h
  case h_2=>cases h
  rename_i e
  obtain rfl:=aH e
  -- one's own
  have main:∀(c:List AV) (sl:Bool) (H1:WH) (eu:VI) (old:List AV),aU H b=some (.cells c false sl)→VS R eu H1 M→H1.length=H.length→Stp H.length [] ι H M eu H1 M→aU H1 b=some (.cells c false sl)→old.length=n*sz' →
    (∀c' t,aR M (OR R ι) (if sl then VI.none else ι) c c'→aR M (OR R eu) VI.none old (((c'++t).drop 0).take (n*sz')))→len=n →
    ∃a' M' aM,eG sz' bytes a m new' M=some (a',M')∧VS R aM (bU H1 b none++[some (.cells (old++new) false true)]) M'∧Stp H.length [b] ι H M aM (bU H1 b none++[some (.cells (old++new) false true)]) M'∧VL M' (OR R aM) aM (.acc (bU H1 b none).length 0 sz' (n+m) true) a':=by
   intro c sl H1 eu old hg s1 hlen k1 hg1 ho hr hln
   subst hln
   obtain⟨q1,q2,p,s',cap,ex,rfl,q3,q4,q5⟩:=VL.mI s hx hg
   have hnp:p=none→cap=0∧ex=true:=by
    simp only[VL]at hx
    obtain⟨_,_,_,_,e,_,q,_⟩:=hx
    simp only[AV.slice.injEq]at e
    obtain⟨rfl,rfl,_,rfl,rfl⟩:=e
    exact q
   have hnew1:=aR.Bc k1 hnew
   rcases q5 with⟨j,c',t,ro',sl',L,g1,g2,g3,g4,g5,g6,rfl,g7⟩ |⟨rfl,rfl,rfl,⟨j,c',t,ro',sl',L,g1,g2,g3,g4,g5,g6⟩ |⟨g1,rfl,rfl⟩⟩
   ·obtain rfl:=q4 (by simp)
    obtain⟨rfl,_⟩:=g3 rfl
    have hj1:=((k1.le b (gK hg)).1 j g1).1
    have hlc:=g6.length
    have hcs:=Nat.mul_le_mul_right s' q3
    have hr':=hr c' t g6
    have hold:aR M (OR R eu) VI.none old ((c'++t).take (len*s')):=by simpa using hr'
    simp only[aI]at g5
    by_cases hm:m=0
    ·obtain rfl:=hm0 hm
     subst hm
     have hn':new'=[]:=by
      have:=hnew.length
      exact List.eq_nil_of_length_eq_zero (by simpa using this.symm)
     subst hn'
     obtain⟨aM,r1,r2,r3⟩:=tV s1 hj1 hg1 (cs:=old++[]) (cs':=(c'++t).take (len*s')) (t:=(c'++t).drop (len*s')) (by rw[List.take_append_drop];exact g2) rfl (by simpa using hold) (by rw[List.take_append_drop,aI];exact g5) (n:=len+0) (by simpa using ho) q3 hnp q4 (.inl ⟨rfl,by omega⟩)
     refine⟨_,M,aM, ?_,r1, ?_,by rw[bn];exact r3⟩
     ·simp[eG,q3]
     ·have:=k1.trans r2 (by omega)
      simpa using this
    by_cases hfit:len+m≤cap
    ·-- in place
     have hle:len*s'+new'.length≤(c'++t).length:=by
      have:=Nat.mul_le_mul_right s' hfit
      rw[←hnew.length,hl,aI,←Nat.add_mul]
      omega
     have hw:M.write j (0+len*s') new'=some (M.put j (some (.cells ((c'++t).take (len*s')++new'++(c'++t).drop (len*s'+new'.length)) false sl'))):=by
      simp only[Heap.write,g2,Nat.zero_add]
      rw[if_pos hle]
     have hlenp:L≤(((c'++t).take (len*s')++new')++(c'++t).drop (len*s'+new'.length)).length:=by
      simp only[aI,bC,aZ]at hle ⊢
      omega
     obtain⟨r1,r2,r3⟩:=s1.swap hj1 hg1 (x:=.cells (old++new) false true) (y:=.cells ((c'++t).take (len*s')++new'++(c'++t).drop (len*s'+new'.length)) false sl') (d:=((old++new).length,L))
      ⟨(c'++t).take (len*s')++new',(c'++t).drop (len*s'+new'.length),false,sl',L,rfl,λ_=>rfl,rfl,hlenp,by simpa using hold.append hnew1,λh=>by cases h⟩
     refine⟨.slice (some (j,0)) s' (len+m) cap ex,_,_, ?_,r1, ?_, ?_⟩
     rotate_left
     ·have:=k1.trans r2 (by omega)
      simpa using this
     ·rw[bn]
      simp only[VL]
      refine⟨some (j,0),s',cap,ex,rfl,hfit,(λh=>by cases h),λ_=>rfl,(old++new).length,L,by simp[VI.add,setAt], ?_,λ_=>⟨trivial, ?_⟩,.inl ⟨j,r3,.inl ⟨rfl,by omega⟩⟩⟩
      ·rw[aI,ho,hl,Nat.add_mul];omega
      ·rw[aI,ho,hl,Nat.add_mul]
     ·unfold eG
      simp only
      rw[if_neg (by simp),if_pos hfit,if_neg hm,hw]
      rfl
    ·obtain ⟨Ae,e1,e2⟩:∃Ae,(if (ex=true∧len=0)then some []else M.read j 0 (len*s'))=some Ae∧aR M (OR R eu) VI.none old Ae:=by
      by_cases hc:ex=true∧len=0
      ·rw[if_pos hc]
       rw[hc.2,Nat.zero_mul]at ho
       obtain rfl:=List.eq_nil_of_length_eq_zero ho
       exact⟨[],rfl,by simp[aR]⟩
      ·rw[if_neg hc]
       refine⟨(c'++t).take (len*s'), ?_,hold⟩
       simp only[Heap.read,g2]
       rw[if_pos (by simp only[aI];omega),List.drop_zero]
     have hlo:(old++new).length=(len+m)*s':=by rw[aI,ho,hl,Nat.add_mul]
     cases ex with
     | true =>
      have e:eG s' bytes (.slice (some (j,0)) s' len cap true) m new' M=some (.slice (some (M.next,0)) s' (len+m) (len+m) false,M.push (.cells (Ae++new') false true)):=by
       unfold eG
       simp only
       rw[if_neg (by simp),if_neg hfit,if_pos hf']
       simp only[eq_self,true_and,if_true]at e1 ⊢
       rw[e1]
       rfl
      obtain⟨r1,r2⟩:=s1.kill hj1 hg1 (M.get j)
      rw[Heap.uQ rfl]at r1 r2
      have rk:=k1.trans r2 (by omega)
      obtain⟨aM,u1,u2,u3⟩:=xQ r1 (cs:=old++new) (cs':=Ae++new') (aR.Bc r2 (e2.append hnew1)) hlo false true
      rw[e]
      refine⟨_,_,aM,rfl,u1, ?_,u3⟩
      have:=rk.trans u2 (by rw[bn];omega)
      simpa using this
     | false =>
      have e:eG s' bytes (.slice (some (j,0)) s' len cap false) m new' M=some (.slice (some (M.next,0)) s' (len+m) (len+m) false,(M.put j none).push (.cells (Ae++new') false true)):=by
       unfold eG
       simp only
       rw[if_neg (by simp),if_neg hfit,if_pos hf']
       simp only[Bool.false_eq_true,false_and,if_false]at e1 ⊢
       rw[e1]
       simp[g2]
      obtain⟨r1,r2⟩:=s1.kill hj1 hg1 none
      have rk:=k1.trans r2 (by omega)
      obtain⟨aM,u1,u2,u3⟩:=xQ r1 (cs:=old++new) (cs':=Ae++new') (aR.Bc r2 (e2.append hnew1)) hlo false true
      rw[e]
      refine⟨_,_,aM,rfl,u1, ?_,u3⟩
      have:=rk.trans u2 (by rw[bn];omega)
      simpa using this
   ·-- empty,and no room
    rw[Nat.zero_mul]at ho
    obtain rfl:=List.eq_nil_of_length_eq_zero ho
    have hj1:=((k1.le b (gK hg)).1 j g1).1
    by_cases hm:m=0
    ·obtain rfl:=hm0 hm
     subst hm
     have hn':new'=[]:=by
      have:=hnew.length
      exact List.eq_nil_of_length_eq_zero (by simpa using this.symm)
     subst hn'
     obtain⟨aM,r1,r2,r3⟩:=tV s1 hj1 hg1 (cs:=[]++[]) (cs':=[]) (t:=c'++t) g2 (g3 rfl).1 (by simp[aR]) g5 (n:=0+0) (sz:=sz') (by simp) (Nat.le_refl _) hnp (s':=sz') (λ_=>rfl) (.inr ⟨rfl,rfl,rfl⟩)
     refine⟨_,M,aM, ?_,r1, ?_,by rw[bn];exact r3⟩
     ·cases p with
      | none=>simp[eG]
      | some p=>obtain rfl:=q4 (by simp);simp[eG]
     ·have:=k1.trans r2 (by omega)
      simpa using this
    ·obtain⟨r1,r2⟩:=s1.kill hj1 hg1 (M.get j)
     rw[Heap.uQ rfl]at r1 r2
     have:=fresh _ _ _ r1 (by rw[bn];exact hlen) (k1.trans r2 (by omega)) p s' q4 rfl
     simpa using this
   ·rw[Nat.zero_mul]at ho
    obtain rfl:=List.eq_nil_of_length_eq_zero ho
    have hs1:=((k1.le b (gK hg)).2 g1).1
    obtain⟨r1,r2⟩:=s1.Bd hs1
    have:=fresh _ _ _ r1 (by rw[bn];exact hlen) (k1.trans r2 (by omega)) p s' q4 rfl
    simpa using this
  split at h
  ·rename_i c hg
   simp only[ak,aD]at h
   obtain⟨rfl,rfl,rfl,rfl⟩:=h
   obtain⟨k1,k2,_⟩:=VL.mI s hx hg
   exact main c true H ι _ hg s rfl (.refl _ _ _ _ _ (Nat.le_refl _)) hg (qL k1 k2) (λc' t hc=>qM (by simpa using hc) k1 k2) rfl
  ·rename_i c hg
   split at h
   case h_2=>cases h
   split at h
   case h_2=>cases h
   rename_i p hp
   split at h
   case h_2=>cases h
   rename_i hb
   simp only[ak,aD]at h
   obtain⟨rfl,rfl,rfl,rfl⟩:=h
   obtain⟨k1,k2,_⟩:=VL.mI s hx hg
   obtain⟨k3,k4⟩:=k2 rfl
   obtain⟨u1,u2⟩:=s.Ck p.2 (iU (λv p=>gG 5 true v p) _ _ hp)
   refine main c false (kZ H p.2) (ι.iw p.2) _ hg u1 (jR _ _) u2 ?_ (by rw[qP _ _ hp,k4]) (λc' t hc=>?_) rfl
   ·rw[lg,hb]
    exact hg
   ·simp only[Bool.false_eq_true,if_false]at hc
    have:=xS s hp hc
    rw[List.drop_zero,k4,hc.length,List.take_left' rfl]
    exact this
  ·cases h
 ·cases h
theorem qU:∀ {p:List Nat} {b k:Nat},jg p b=some k→p[k]?=some b
 | [],b,k,h=>by simp[jg]at h
 | a::r,b,k,h=>by
  simp only[jg]at h
  split at h
  ·rename_i e
   obtain rfl:=aj h
   simp[aH e]
  ·split at h
   ·rename_i k' hk
    obtain rfl:=aj h
    simpa using qU hk
   ·cases h
theorem r9:∀ {p:List Nat} {b:Nat},jg p b=none→b∉p
 | [],b,_=>by simp
 | a::r,b,h=>by
  simp only[jg]at h
  split at h
  ·cases h
  ·rename_i e
   split at h
   ·cases h
   ·rename_i hr
    simp only[List.mem_cons,not_or]
    exact⟨λe'=>by subst e';simp at e,r9 hr⟩
theorem l5:∀ {p:List Nat} (hp:p.Nodup) {b k:Nat} (h:p[k]?=some b),jg p b=some k
 | [],_,b,k,h=>by simp at h
 | a::r,hp,b,0,h=>by
  simp only[List.getElem?_cons_zero,ak]at h
  subst h
  simp[jg]
 | a::r,hp,b,k+1,h=>by
  simp only[List.getElem?_cons_succ]at h
  rw[List.nodup_cons]at hp
  have hne:a≠b:=λe=>hp.1 (e ▸ List.mem_of_getElem? h)
  have:Nat.beq a b=false:=by
   cases hh:Nat.beq a b with
   | false=>rfl
   | true=>exact absurd (aH hh) hne
  simp only[jg,this,l5 hp.2 h]
def Via(f:Nat→Option Nat)(κ iI:VI):Prop:=∀b k,f b=some k→(∀j,κ b=some j→iI k=some j)∧(κ.rX b=true→iI.rX k=true)∧(∀d,κ.dim b=some d→iI.dim k=some d)
mutual
theorem VL.rn{M M':Heap}{O O':Nat→Prop}(hk:Keeps M O M' O'){f:Nat→Option Nat}{κ iI:VI}(hf:Via f κ iI):∀(v a:AV),VL M O κ v a→VL M' O' iI (Proofs.Ytkedeiklmpkgkaa.rn f v) a
 |.undef,_,_=>by simp[Proofs.Ytkedeiklmpkgkaa.rn,VL]
 |.bool _,_,e=>by simpa[Proofs.Ytkedeiklmpkgkaa.rn,VL]using e
 |.int _ _,_,e=>by simpa[Proofs.Ytkedeiklmpkgkaa.rn,VL]using e
 |.str _,_,e=>by simpa[Proofs.Ytkedeiklmpkgkaa.rn,VL]using e
 |.ptr none,_,e=>by simpa[Proofs.Ytkedeiklmpkgkaa.rn,VL]using e
 |.ptr (some q),a,e=>by
  simp only[VL]at e
  obtain⟨j,h1,rfl⟩:=e
  simp only[Proofs.Ytkedeiklmpkgkaa.rn]
  split
  ·rename_i b hb
   simp only[VL]
   exact⟨j,(hf _ _ hb).1 j h1,rfl⟩
  ·simp[VL]
 |.slice none _ _ _ _,_,e=>by simpa[Proofs.Ytkedeiklmpkgkaa.rn,VL]using e
 |.slice (some _) _ _ _ _,_,e=>by simp[VL]at e
 |.map none,_,e=>by simpa[Proofs.Ytkedeiklmpkgkaa.rn,VL]using e
 |.map (some r),a,e=>by
  simp only[VL]at e
  obtain⟨j,h1,rfl⟩:=e
  simp only[Proofs.Ytkedeiklmpkgkaa.rn]
  split
  ·rename_i b hb
   simp only[VL]
   exact⟨j,(hf _ _ hb).1 j h1,rfl⟩
  ·simp[VL]
 |.func g cs,a,e=>by
  simp only[VL,Proofs.Ytkedeiklmpkgkaa.rn]at e ⊢
  obtain⟨cs',rfl,h⟩:=e
  exact⟨cs',rfl,aR.rn hk hf cs cs' h⟩
 |.nilFunc,_,e=>by simpa[Proofs.Ytkedeiklmpkgkaa.rn,VL]using e
 |.agg cs,a,e=>by
  simp only[VL,Proofs.Ytkedeiklmpkgkaa.rn]at e ⊢
  obtain⟨cs',rfl,h⟩:=e
  exact⟨cs',rfl,aR.rn hk hf cs cs' h⟩
 |.tuple cs,a,e=>by
  simp only[VL,Proofs.Ytkedeiklmpkgkaa.rn]at e ⊢
  obtain⟨cs',rfl,h⟩:=e
  exact⟨cs',rfl,aR.rn hk hf cs cs' h⟩
 |.list sz n cs ex,a,e=>by
  simp only[Proofs.Ytkedeiklmpkgkaa.rn]
  exact VL.mono hk κ iI _ _ (λi hi=>by simp[jP]at hi) e
 |.elem cs,a,e=>by
  simp only[Proofs.Ytkedeiklmpkgkaa.rn]
  exact VL.mono hk κ iI _ _ (λi hi=>by simp[jP]at hi) e
 |.acc b o sz n w,a,e=>by
  simp only[Proofs.Ytkedeiklmpkgkaa.rn]
  split
  ·rename_i b' hb
   simp only[VL]at e ⊢
   obtain⟨p,s',cap,ex,h1,h2,h3,h4,m,L,h5,h6,h7,h8⟩:=e
   obtain⟨f1,f2,f3⟩:=hf _ _ hb
   exact⟨p,s',cap,ex,h1,h2,h3,h4,m,L,f3 _ h5,h6,h7,h8.imp (λ⟨j,k1,k2⟩=>⟨j,f1 j k1,k2⟩) (λ⟨k1,k2⟩=>⟨f2 k1,k2⟩)⟩
  ·simp[VL]
theorem aR.rn{M M':Heap}{O O':Nat→Prop}(hk:Keeps M O M' O'){f:Nat→Option Nat}{κ iI:VI}(hf:Via f κ iI):∀(l r:List AV),aR M O κ l r→aR M' O' iI (vE f l) r
 | [],[],_=>by simp[vE,aR]
 | v::l,a::r,e=>by
  simp only[aR,vE]at e ⊢
  exact⟨VL.rn hk hf v a e.1,aR.rn hk hf l r e.2⟩
 | [],_::_,e=>by simp[aR]at e
 | _::_,[],e=>by simp[aR]at e
end
theorem Bo{f:Nat→Option Nat}:∀(l:List AV),(vE f l).length=l.length
 | []=>rfl
 | _::l=>by simp[vE,Bo l]
theorem BL.rn{M M':Heap}{O O':Nat→Prop}(hk:Keeps M O M' O'){f:Nat→Option Nat}{κ iI:VI}(hf:Via f κ iI){d:Option (Nat×Nat)}{x:fF}{y:Option fF}(r:BL M O κ d x y):BL M' O' iI d (JO f x) y:=by
 cases x with
 | cells c ro sl =>
  obtain⟨c',t,ro',sl',L,rfl,h0,h1,h2,h3,h4⟩:=r
  cases sl with
  | true=>exact⟨c',t,ro',sl',L,rfl,h0,h1,h2,aR.mono hk _ _ c c' (.refl _ _) h3,h4⟩
  | false=>exact⟨c',t,ro',sl',L,rfl,h0,by rw[Bo];exact h1,h2,aR.rn hk hf c c' h3,h4⟩
 | map es=>exact r
theorem xU(f:Nat→Option Nat)(x:fF):(JO f x).ro=x.ro:=by
 cases x with
 | cells c ro sl=>cases sl<;>rfl
 | map es=>rfl
mutual
theorem VL.retag{M:Heap}{O:Nat→Prop}{κ:VI}(v t a:AV)(h:VL M O κ v a):VL M O κ (Proofs.Ytkedeiklmpkgkaa.retag v t) a:=by
 rw[Proofs.Ytkedeiklmpkgkaa.retag.eq_def]
 split
 ·split
  ·simp only[VL]at h ⊢
   exact h
  ·exact h
 ·split
  ·simp only[VL]at h ⊢
   obtain⟨cs',rfl,h⟩:=h
   exact⟨cs',rfl,aR.retag _ _ _ h⟩
  ·exact h
 ·split
  ·simp only[VL]at h ⊢
   obtain⟨cs',rfl,h⟩:=h
   exact⟨cs',rfl,aR.retag _ _ _ h⟩
  ·exact h
 ·exact h
termination_by SizeOf.sizeOf v
theorem aR.retag{M:Heap}{O:Nat→Prop}{κ:VI}(l ts r:List AV)(h:aR M O κ l r):aR M O κ (fD l ts) r:=by
 rw[fD.eq_def]
 split
 ·split
  ·cases r with
   | nil=>simp[aR]at h
   | cons a r =>
    simp only[aR]at h ⊢
    exact⟨VL.retag _ _ _ h.1,aR.retag _ _ _ h.2⟩
  ·exact h
 ·exact h
termination_by SizeOf.sizeOf l
end
theorem jF{H:WH}{p:List Nat}:∀(q:List Nat),(iD H p q).length=q.length
 | []=>rfl
 | _::q=>by simp[iD,jF q]
theorem gq {H:WH} {p:List Nat}:∀(q:List Nat) (k:Nat),aU (iD H p q) k=match q[k]? with
  | some b=>CW (jg p) (aU H b)
  | none=>none
 | [],k=>by simp[iD,aU]
 | b::q,0=>by simp[iD,aU]
 | b::q,k+1=>by simp[iD,aU,gq q k]
theorem jl{f:Nat→Option Nat}{x:Option fF}{y:fF}(h:CW f x=some y):∃z,x=some z∧y=JO f z:=by
 cases x with
 | none=>simp[CW]at h
 | some z=>simp only[CW,ak]at h;exact⟨z,rfl,h.symm⟩
def bI (ι:VI) (p:List Nat):VI:=⟨λk=>match p[k]? with
  | some b=>ι b
  | none=>none,λk=>match p[k]? with
  | some b=>ι.rX b
  | none=>false,λk=>match p[k]? with
  | some b=>ι.gone b
  | none=>true,λk=>match p[k]? with
  | some b=>ι.dim b
  | none=>none⟩
theorem kQ{ι:VI}{p:List Nat}:Via (jg p) ι (bI ι p):=λb k h=>by
 have:=qU h
 simp only[bI,this]
 exact⟨λ_ h=>h,λh=>h,λ_ h=>h⟩
theorem jS{ι:VI}{p:List Nat}{j:Nat}(h:own (bI ι p) j):∃b,b∈p∧ι b=some j∧ι.gone b=false:=by
 obtain⟨k,h1,h2⟩:=h
 simp only[bI]at h1 h2
 cases e:p[k]? with
 | none=>rw[e]at h1;cases h1
 | some b =>
  rw[e]at h1 h2
  exact⟨b,List.mem_of_getElem? e,h1,h2⟩
theorem VS.pick {R R':Nat→Prop} {ι:VI} {H:WH} {M:Heap} (s:VS R ι H M) {p:List Nat} (hp:p.Nodup) (hR:∀j,R' j→j<M.next∧∀b,b∈p→act ι H b→ι b≠some j) (hO:∀j,OR R' (bI ι p) j→OR R ι j) :
  VS R' (bI ι p) (iD H p p) M:=by
 have hk:Keeps M (OR R ι) M (OR R' (bI ι p)):=⟨Nat.le_refl _,λb _ h=>⟨rfl,λk=>h (hO b k)⟩⟩
 have ac:∀k,act (bI ι p) (iD H p p) k→∃b,p[k]?=some b∧act ι H b:=λk h=>by
  cases e:p[k]? with
  | none =>
   rcases h with⟨x,h⟩ | h
   ·rw[gq,e]at h;cases h
   ·simp only[bI,e]at h;cases h
  | some b =>
   refine⟨b,rfl, ?_⟩
   rcases h with⟨x,h⟩ | h
   ·rw[gq,e]at h
    obtain⟨z,hz,_⟩:=jl h
    exact .inl ⟨z,hz⟩
   ·simp only[bI,e]at h
    exact .inr h
 have at':∀ {k b},p[k]?=some b→(bI ι p) k=ι b∧(bI ι p).rX k=ι.rX b∧(bI ι p).gone k=ι.gone b∧(bI ι p).dim k=ι.dim b:=λe=>by simp[bI,e]
 refine⟨λk j h=>?_,λk k' j h h' e e' g=>?_,λk x hx=>?_,λk h=>?_,λk hk' c sl h=>?_,s.zY,λj h=>⟨(hR j h).1,λk hk'=>?_⟩⟩
 ·cases e:p[k]? with
  | none=>simp only[bI,e]at h;cases h
  | some b =>
   rw[(at' e).1]at h
   exact⟨by rw[jF];exact(aA.1 e).1,(s.lt b j h).2⟩
 ·obtain⟨b,q1,q2⟩:=ac k h
  obtain⟨b',q1',q2'⟩:=ac k' h'
  rw[(at' q1).1]at e
  rw[(at' q1').1]at e'
  rw[(at' q1).2.2.1,(at' q1').2.2.1]at g
  have:=s.inj b b' j q2 q2' e e' g
  subst this
  have:=l5 hp q1
  rw[l5 hp q1']at this
  exact(aj this).symm
 ·cases e:p[k]? with
  | none=>rw[gq,e]at hx;cases hx
  | some b =>
   rw[gq,e]at hx
   obtain⟨z,hz,rfl⟩:=jl hx
   rw[(at' e).1,(at' e).2.1,(at' e).2.2.1,(at' e).2.2.2,xU]
   rcases s.blk b z hz with⟨h1,h2,ro,rfl⟩ |⟨j,h1,h2,h3⟩
   ·exact .inl ⟨h1,h2,ro,rfl⟩
   ·exact .inr ⟨j,h1,BL.rn hk kQ h2,h3⟩
 ·cases e:p[k]? with
  | none=>simp only[bI,e]at h;cases h
  | some b =>
   rw[(at' e).2.1]at h
   rw[(at' e).1]
   exact⟨by rw[jF];exact(aA.1 e).1,(s.jy b h).2⟩
 ·cases e:p[k]? with
  | none=>rw[gq,e]at h;cases h
  | some b =>
   rw[(at' e).2.2.1]at hk'
   rw[gq,e]at h
   obtain⟨z,hz,h2⟩:=jl h
   have hr:=xU (jg p) z
   rw[←h2]at hr
   cases z with
   | cells c' ro sl' =>
    simp only[fF.ro]at hr
    subst hr
    exact s.iw b hk' c' sl' hz
   | map es=>cases h2
 ·obtain⟨b,q1,q2⟩:=ac k hk'
  rw[(at' q1).1]
  exact(hR j h).2 b (List.mem_of_getElem? q1) q2
theorem oN{H:WH}{np:Nat}:∀(l seen:List Nat),(nX H np seen l).Nodup∧∀x,x∈nX H np seen l→x∈l∧gN seen x=false∧(x<np∨∃y,aU H x=some y)
 | [],seen=>by simp[nX]
 | a::r,seen=>by
  simp only[nX]
  cases h:gN seen a with
  | true =>
   obtain⟨h1,h2⟩:=oN r seen
   exact⟨h1,λx hx=>⟨List.mem_cons_of_mem _ (h2 x hx).1,(h2 x hx).2⟩⟩
  | false =>
   obtain⟨h1,h2⟩:=oN (H:=H) (np:=np) r (a::seen)
   have hne:∀x,x∈nX H np (a::seen) r→x≠a∧gN seen x=false:=λx hx=>by
    have:=(h2 x hx).2.1
    simp only[gN]at this
    split at this
    ·cases this
    ·rename_i e
     exact⟨λe'=>by subst e';simp at e,this⟩
   have GX:(x:Nat)→x∈nX H np (a::seen) r→x∈a::r∧gN seen x=false∧(x<np∨∃y,aU H x=some y):=λx hx =>
    ⟨List.mem_cons_of_mem _ (h2 x hx).1,(hne x hx).2,(h2 x hx).2.2⟩
   have both:(a<np∨∃y,aU H a=some y)→(a::nX H np (a::seen) r).Nodup∧∀x,x∈a::nX H np (a::seen) r→x∈a::r∧gN seen x=false∧(x<np∨∃y,aU H x=some y):=λha =>
    ⟨List.nodup_cons.2 ⟨λhm=>(hne a hm).1 rfl,h1⟩,λx hx=>by
     rcases List.mem_cons.1 hx with rfl | hx
     ·exact⟨List.mem_cons_self,h,ha⟩
     ·exact GX x hx⟩
   simp only
   split
   ·rename_i hb
    exact both (.inl (by simpa[Nat.blt_eq]using hb))
   ·split
    ·rename_i y hy
     exact both (.inr ⟨y,hy⟩)
    ·exact⟨h1,GX⟩
theorem Cq{a b:Nat}{l:List Nat}(h:a≠b):gN (a::l) b=gN l b:=by
 have:Nat.beq a b=false:=by
  cases hh:Nat.beq a b with
  | false=>rfl
  | true=>exact absurd (aH hh) h
 simp[gN,this]
theorem zf{H:WH}{np:Nat}:∀(l seen r:List Nat),l.Nodup→(∀x,x∈l→x<np∧gN seen x=false)→∃r',nX H np seen (l++r)=l++r'
 | [],seen,r,_,_=>⟨nX H np seen r,rfl⟩
 | a::l,seen,r,hn,h=>by
  rw[List.nodup_cons]at hn
  obtain⟨h1,h2⟩:=h a (by simp)
  obtain⟨r',hr⟩:=zf (H:=H) (np:=np) l (a::seen) r hn.2 (λx hx=>⟨(h x (by simp[hx])).1,by
   have hne:a≠x:=λe=>hn.1 (by rw[e];exact hx)
   rw[Cq hne]
   exact(h x (by simp[hx])).2⟩)
  refine⟨r', ?_⟩
  simp only[List.cons_append,nX,h2]
  rw[show Nat.blt a np=true by simpa[Nat.blt_eq]using h1]
  simp only[hr]
theorem uV(H:WH)(np:Nat)(roots:List Nat):(qG H np roots).Nodup∧(∀x,x∈qG H np roots→x<np∨∃y,aU H x=some y)∧∃r,qG H np roots=List.range np++r:=by
 have pre:∀r,∃r',nX H np [] (List.range np++r)=List.range np++r':=λr =>
  zf _ [] r List.nodup_range (λx hx=>⟨List.mem_range.1 hx,rfl⟩)
 have step:∀l,(∃r,l=List.range np++r)→∃r,DX H np l=List.range np++r:=λl ⟨r,h⟩=>by
  subst h
  unfold DX
  rw[bD]
  exact pre _
 refine⟨(oN _ _).1,λx hx=>((oN _ _).2 x hx).2.2, ?_⟩
 exact step _ (step _ (step _ (pre _)))
theorem FJ{H:WH}{np i:Nat}{roots:List Nat}(h:i<np):(qG H np roots)[i]?=some i:=by
 obtain⟨_,_,r,hr⟩:=uV H np roots
 rw[hr,List.getElem?_append_left (by simpa using h)]
 simp[h]
theorem GY {R:Nat→Prop} {ι:VI} {H:WH} {M:Heap} (s:VS R ι H M) {np:Nat} (hn:np≤H.length) (roots:List Nat) {vs as:List AV} (hv:aR M (OR R ι) ι vs as) :
  ∃aM,VS R aM (iD H (qG H np roots) (qG H np roots)) M∧Stp np [] ι H M aM (iD H (qG H np roots) (qG H np roots)) M∧aR M (OR R aM) aM (vE (jg (qG H np roots)) vs) as:=by
 obtain⟨h1,h2,r,hr⟩:=uV H np roots
 have hlow:∀i,i<np→(qG H np roots)[i]?=some i:=λi=>FJ
 generalize qG H np roots=p at *
 have hsub:∀j,OR R (bI ι p) j→OR R ι j:=λj h=>h.imp (λh=>by
  obtain⟨b,_,h3,h4⟩:=jS h
  exact⟨b,h3,h4⟩) id
 have hs:=s.pick h1 (R':=R) (λj h=>⟨(s.res j h).1,λb _ hb=>(s.res j h).2 b hb⟩) hsub
 have hko:Keeps M (own ι) M (own (bI ι p)):=⟨Nat.le_refl _,λb _ h=>⟨rfl,λk=>h (by obtain⟨b',_,h3,h4⟩:=jS k;exact⟨b',h3,h4⟩)⟩⟩
 refine⟨_,hs,⟨hko,λi hi=>?_,λi hi h=>?_,λi hi=>by simp only[bI,hlow i hi],λi hi=>by simp only[bI,hlow i hi],λi hi _=>by simp only[bI,hlow i hi],λi hi h=>?_,λ_ _ _ _ _ _=>rfl, ?_⟩, ?_⟩
 ·have:=hlow i hi
  simp only[bI,this]
  exact⟨λ_ h=>⟨h,λ_ h=>h⟩,λh=>⟨h,λ_ h=>h⟩⟩
 ·simp only[bI,hlow i hi]
  exact h
 ·obtain⟨x,h⟩:=h
  rw[gq,hlow i hi]at h
  obtain⟨z,hz,_⟩:=jl h
  exact⟨z,hz⟩
 ·rw[jF,hr]
  simp
 ·exact aR.rn ⟨Nat.le_refl _,λb _ h=>⟨rfl,λk=>h (hsub b k)⟩⟩ kQ _ _ hv
theorem r_ {R:Nat→Prop} {ι:VI} {H:WH} {M:Heap} (s:VS R ι H M) {np:Nat} (hn:np≤H.length) {ms bs:List (Option Bool)} {ts vs as:List AV} (hv:aR M (OR R ι) ι vs as) {k:List AV→WH→Prop} (h:uM np ms bs ts vs H k) :
  ∃vs' blks aM,k vs' blks∧VS R aM blks M∧Stp np [] ι H M aM blks M∧aR M (OR R aM) aM vs' as:=by
 unfold uM at h
 obtain⟨eu,h1,h2,h3⟩:=qQ ms (fD vs ts) H ι M as s (aR.retag _ _ _ hv)
 generalize hr:o8 ms (fD vs ts) H=r at *
 obtain⟨vs1,H1⟩:=r
 simp only at h h1 h2 h3
 obtain⟨jD,k1,k2⟩:=qR bs none (qG H1 np (dW vs1)) H1 eu M h1
 have k3:=aR.step h1 k2 h3
 obtain⟨Kh,q1,q2,q3⟩:=GY k1 (Nat.le_trans hn (Nat.le_trans h2.next k2.next)) (dW vs1) k3
 refine⟨_,_,Kh,h,q1, ?_,q3⟩
 have e1:Stp np [] ι H M eu H1 M:=h2.weak hn
 have e2:Stp np [] eu H1 M jD _ M:=k2.weak (Nat.le_trans hn h2.next)
 have:=(e1.trans e2 (Nat.le_refl _)).trans q2 (Nat.le_refl _)
 simpa using this
theorem qb{f:Nat→Option Nat}:∀(p:List Nat) (out H:WH),(jE f p out H).length=H.length
 | [],out,H=>by simp[jE]
 | b::p,[],H=>by simp[jE]
 | b::p,x::out,H=>by simp[jE,qb p,bn]
theorem oG{f:Nat→Option Nat}:∀(p:List Nat) (out H:WH) (i:Nat),i∉p→aU (jE f p out H) i=aU H i
 | [],out,H,i,_=>by simp[jE]
 | b::p,[],H,i,_=>by simp[jE]
 | b::p,x::out,H,i,h=>by
  simp only[List.mem_cons,not_or]at h
  simp only[jE]
  rw[oG p out _ i h.2,gD,if_neg (λe=>h.1 e.1)]
theorem uW{f:Nat→Option Nat}:∀(p:List Nat) (out H:WH) (k b:Nat),p.Nodup→p.length≤out.length→p[k]?=some b→b<H.length→aU (jE f p out H) b=CW f (aU out k)
 | [],out,H,k,b,_,_,h,_=>by simp at h
 | a::p,[],H,k,b,_,hl,_,_=>by simp at hl
 | a::p,x::out,H,0,b,hp,hl,h,hb=>by
  simp only[List.getElem?_cons_zero,ak]at h
  subst h
  rw[List.nodup_cons]at hp
  simp only[jE]
  rw[oG p out _ a hp.1,gD,if_pos ⟨rfl,hb⟩]
  rfl
 | a::p,x::out,H,k+1,b,hp,hl,h,hb=>by
  simp only[List.getElem?_cons_succ]at h
  rw[List.nodup_cons]at hp
  simp only[bV]at hl
  simp only[jE]
  rw[uW p out _ k b hp.2 (by omega) h (by rw[bn];exact hb)]
  rfl
theorem wO:∀(out:WH) (n k:Nat),aU (out.drop n) k=aU out (n+k)
 | out,0,k=>by simp
 | [],n+1,k=>by simp[aU]
 | x::out,n+1,k=>by
  rw[List.drop_succ_cons,wO out n k,Nat.add_right_comm]
  rfl
theorem zh{f:Nat→Option Nat}:∀(out:WH) (k:Nat),aU (out.map (CW f)) k=CW f (aU out k)
 | [],k=>by simp[aU,CW]
 | x::out,0=>by simp[aU]
 | x::out,k+1=>by simp[aU,zh out k]
def cls(n0:Nat)(p:List Nat)(i:Nat):Nat⊕Nat:=match jg p i with
 | some k=>.inl k
 | none=>if i<n0 then .inr i else .inl (p.length+(i-n0))
def iy (ι lJ:VI) (n0:Nat) (p:List Nat):VI:=⟨λi=>match cls n0 p i with
  |.inl k=>lJ k
  |.inr i=>ι i,λi=>match cls n0 p i with
  |.inl k=>lJ.rX k
  |.inr i=>ι.rX i,λi=>match cls n0 p i with
  |.inl k=>lJ.gone k
  |.inr i=>ι.gone i,λi=>match cls n0 p i with
  |.inl k=>lJ.dim k
  |.inr i=>ι.dim i⟩
section
variable {R:Nat→Prop} {ι:VI} {H:WH} {M:Heap} (s:VS R ι H M) {p:List Nat} (hp:p.Nodup) (hl:∀b,b∈p→b<H.length) {out:WH} (ho:p.length≤out.length)
include hp hl
theorem oO{i k:Nat}(h:p[k]?=some i):cls H.length p i=.inl k:=by simp[cls,l5 hp h]
theorem oP{i k:Nat}(h:cls H.length p i=.inl k):(p[k]?=some i∧i<H.length)∨(i∉p∧H.length≤i∧k=p.length+(i-H.length)):=by
 unfold cls at h
 cases e:jg p i with
 | some k' =>
  rw[e]at h
  simp only[Sum.inl.injEq]at h
  subst h
  have:=qU e
  exact .inl ⟨this,hl i (List.mem_of_getElem? this)⟩
 | none =>
  rw[e]at h
  simp only at h
  split at h
  ·cases h
  ·simp only[Sum.inl.injEq]at h
   exact .inr ⟨r9 e,by omega,h.symm⟩
theorem jN{i i':Nat}(h:cls H.length p i=.inr i'):i'=i∧i∉p∧i<H.length:=by
 unfold cls at h
 cases e:jg p i with
 | some k'=>rw[e]at h;cases h
 | none =>
  rw[e]at h
  simp only at h
  split at h
  ·simp only[Sum.inr.injEq]at h
   exact⟨h.symm,r9 e,by assumption⟩
  ·cases h
theorem FK{i i' k:Nat}(h:cls H.length p i=.inl k)(h':cls H.length p i'=.inl k):i=i':=by
 rcases oP hp hl h with⟨h1,_⟩ |⟨_,h2,h3⟩<;>rcases oP hp hl h' with⟨h1',_⟩ |⟨_,h2',h3'⟩
 ·rw[h1]at h1'
  exact aj h1'
 ·have:=(aA.1 h1).1
  omega
 ·have:=(aA.1 h1').1
  omega
 ·omega
theorem Ee{k i:Nat}(h:back p H.length k=some i):cls H.length p i=.inl k:=by
 unfold back at h
 cases e:p[k]? with
 | some b =>
  rw[e]at h
  obtain rfl:=aj h
  exact oO hp hl e
 | none =>
  rw[e]at h
  simp only[ak]at h
  have hk:p.length≤k:=by
   rw[List.getElem?_eq_none_iff]at e
   exact e
  unfold cls
  have hn:jg p i=none:=by
   cases e':jg p i with
   | none=>rfl
   | some k' =>
    have:=hl i (List.mem_of_getElem? (qU e'))
    omega
  rw[hn]
  simp only
  rw[if_neg (by omega)]
  congr 1
  omega
include ho
theorem Cr (i:Nat):aU (nQ H p out) i=match cls H.length p i with
  |.inl k=>CW (back p H.length) (aU out k)
  |.inr i=>aU H i:=by
 unfold nQ
 rw[qK,qb]
 cases h:cls H.length p i with
 | inl k =>
  rcases oP hp hl h with⟨h1,h2⟩ |⟨_,h2,rfl⟩
  ·rw[if_pos h2]
   simp only
   exact uW p out H k i hp ho h1 h2
  ·rw[if_neg (by omega)]
   simp only
   rw[zh,wO]
 | inr i' =>
  obtain⟨rfl,h2,h3⟩:=jN hp hl h
  rw[if_pos h3]
  exact oG p out H _ h2
theorem Ct:(nQ H p out).length=H.length+(out.length-p.length):=by
 unfold nQ
 simp[qb]
theorem Bp {R':Nat→Prop} (hR':∀j,R' j↔R j∨(own ι j∧¬own (bI ι p) j)) {lJ:VI} {M':Heap} {blks:WH} (s:VS R ι H M) (sc:VS R' lJ out M') (kc:Stp p.length (List.range p.length) (bI ι p) blks M lJ out M') (hpl:∀b,b∈p→∃x,aU H b=some x) (hbk:∀k b,p[k]?=some b→(∃x,aU blks k=some x)→∃x,aU H b=some x) :
  VS R (iy ι lJ H.length p) (nQ H p out) M'∧Stp H.length p ι H M (iy ι lJ H.length p) (nQ H p out) M'∧∀v a,VL M' (OR R' lJ) lJ v a→VL M' (OR R (iy ι lJ H.length p)) (iy ι lJ H.length p) (rn (back p H.length) v) a:=by
 have hinl:∀ {i k},cls H.length p i=.inl k→(iy ι lJ H.length p) i=lJ k∧(iy ι lJ H.length p).rX i=lJ.rX k∧(iy ι lJ H.length p).gone i=lJ.gone k∧(iy ι lJ H.length p).dim i=lJ.dim k:=λh=>by simp[iy,h]
 have hinr:∀ {i i'},cls H.length p i=.inr i'→(iy ι lJ H.length p) i=ι i∧(iy ι lJ H.length p).rX i=ι.rX i∧(iy ι lJ H.length p).gone i=ι.gone i∧(iy ι lJ H.length p).dim i=ι.dim i:=λh=>by
  obtain⟨rfl,_⟩:=jN hp hl h
  simp[iy,h]
 have hget:=Cr (out:=out) hp hl ho
 have hlen:=Ct (out:=out) hp hl ho
 have hold:∀ {i},i∉p→i<H.length→cls H.length p i=.inr i:=λ{i} h1 h2=>by
  cases h:cls H.length p i with
  | inl k =>
   rcases oP hp hl h with⟨h3,_⟩ |⟨_,h3,_⟩
   ·exact absurd (List.mem_of_getElem? h3) h1
   ·omega
  | inr i'=>rw[(jN hp hl h).1]
 have Jj:∀ {i k},cls H.length p i=.inl k→act (iy ι lJ H.length p) (nQ H p out) i→act lJ out k:=λh ha=>by
  rcases ha with⟨x,ha⟩ | ha
  ·rw[hget,h]at ha
   obtain⟨z,hz,_⟩:=jl ha
   exact .inl ⟨z,hz⟩
  ·rw[(hinl h).2.2.1]at ha
   exact .inr ha
 have Jk:∀ {i i'},cls H.length p i=.inr i'→act (iy ι lJ H.length p) (nQ H p out) i→act ι H i:=λh ha=>by
  rcases ha with⟨x,ha⟩ | ha
  ·obtain⟨rfl,_⟩:=jN hp hl h
   rw[hget,h]at ha
   exact .inl ⟨x,ha⟩
  ·rw[(hinr h).2.2.1]at ha
   exact .inr ha
 -- what is the caller's alone
 have Bq:∀ {i j},i∉p→act ι H i→ι i=some j→¬own (bI ι p) j:=λ{i j} h1 h2 h3 h4=>by
  obtain⟨b,q1,q2,q3⟩:=jS h4
  have:=s.inj b i j (.inr q3) h2 q2 h3 (.inl q3)
  subst this
  exact h1 q1
 have stays:∀ {i j},i∉p→act ι H i→ι i=some j→M'.get j=M.get j∧¬own lJ j:=λ{i j} h1 h2 h3=>kc.keep.get j (s.lt i j h3).2 (Bq h1 h2 h3)
 have sub:∀j,own (bI ι p) j→own ι j:=λj h=>by
  obtain⟨b,_,h3,h4⟩:=jS h
  exact⟨b,h3,h4⟩
 have Jl:∀j,own (iy ι lJ H.length p) j→own lJ j∨(∃i,i∉p∧i<H.length∧ι i=some j∧ι.gone i=false):=λj ⟨i,h1,h2⟩=>by
  cases h:cls H.length p i with
  | inl k =>
   rw[(hinl h).1]at h1
   rw[(hinl h).2.2.1]at h2
   exact .inl ⟨k,h1,h2⟩
  | inr i' =>
   obtain⟨rfl,q1,q2⟩:=jN hp hl h
   rw[(hinr h).1]at h1
   rw[(hinr h).2.2.1]at h2
   exact .inr ⟨i',q1,q2,h1,h2⟩
 have K7:∀j,OR R (iy ι lJ H.length p) j→OR R' lJ j:=λj h=>by
  rcases h with h | h
  ·rcases Jl j h with h |⟨i,q1,q2,q3,q4⟩
   ·exact .inl h
   ·exact .inr ((hR' j).2 (.inr ⟨⟨i,q3,q4⟩,Bq q1 (.inr q4) q3⟩))
  ·exact .inr ((hR' j).2 (.inl h))
 have hkeep:Keeps M (own ι) M' (own (iy ι lJ H.length p)):=⟨kc.keep.next,λb hb h=>by
  obtain⟨e1,e2⟩:=kc.keep.get b hb (λk=>h (sub b k))
  refine⟨e1,λk=>?_⟩
  rcases Jl b k with k |⟨i,q1,q2,q3,q4⟩
  ·exact e2 k
  ·exact h ⟨i,q3,q4⟩⟩
 have hle:∀S,VI.Le ι (iy ι lJ H.length p) S:=λS i _=>by
  by_cases hi:i∈p
  ·obtain⟨k,hk⟩:=List.mem_iff_getElem?.1 hi
   have hc:=oO hp hl hk
   have hkl:=(aA.1 hk).1
   obtain⟨e1,e2,e3,e4⟩:=hinl hc
   have:=kc.le k hkl
   simp only[bI,hk]at this
   rw[e1,e2,e4]
   exact this
  ·by_cases hlt:i<H.length
   ·obtain⟨e1,e2,e3,e4⟩:=hinr (hold hi hlt)
    rw[e1,e2,e4]
    exact⟨λ_ h=>⟨h,λ_ h=>h⟩,λh=>⟨h,λ_ h=>h⟩⟩
   ·exact⟨λj h=>absurd (s.lt i j h).1 hlt,λh=>absurd (s.jy i h).1 hlt⟩
 have Jm:Via (back p H.length) lJ (iy ι lJ H.length p):=λk i h=>by
  obtain⟨e1,e2,e3,e4⟩:=hinl (Ee hp hl h)
  rw[e1,e2,e4]
  exact⟨λ_ h=>h,λh=>h,λ_ h=>h⟩
 have KL:Keeps M' (OR R' lJ) M' (OR R (iy ι lJ H.length p)):=⟨Nat.le_refl _,λb _ h=>⟨rfl,λk=>h (K7 b k)⟩⟩
 refine⟨⟨λi j h=>?_,λi i' j h h' e e' g=>?_,λi x hx=>?_,λi h=>?_,λi hi c sl h=>?_,sc.zY,λj h=>⟨?_,λi hi=>?_⟩⟩,⟨hkeep,hle _,λi hi h=>?_,λi hi=>?_,λi hi=>?_,λi hi h=>?_,λi hi h=>?_,λi j hi h hj hn=>?_,by rw[hlen];omega⟩,λv a h=>VL.rn KL Jm v a h⟩
 ·rw[hlen]
  cases hc:cls H.length p i with
  | inl k =>
   rw[(hinl hc).1]at h
   obtain⟨q1,q2⟩:=sc.lt k j h
   refine⟨?_,q2⟩
   rcases oP hp hl hc with⟨_,h2⟩ |⟨_,h2,rfl⟩<;>omega
  | inr i' =>
   rw[(hinr hc).1]at h
   obtain⟨q1,q2⟩:=s.lt i j h
   exact⟨by omega,Nat.lt_of_lt_of_le q2 kc.keep.next⟩
 ·cases hc:cls H.length p i with
  | inl k =>
   cases hc':cls H.length p i' with
   | inl k' =>
    rw[(hinl hc).1]at e
    rw[(hinl hc').1]at e'
    rw[(hinl hc).2.2.1,(hinl hc').2.2.1]at g
    have:=sc.inj k k' j (Jj hc h) (Jj hc' h') e e' g
    subst this
    exact FK hp hl hc hc'
   | inr i2 =>
    exfalso
    obtain⟨rfl,q1,q2⟩:=jN hp hl hc'
    have ha:=Jk hc' h'
    rw[(hinl hc).1]at e
    rw[(hinr hc').1]at e'
    rw[(hinl hc).2.2.1,(hinr hc').2.2.1]at g
    rcases g with g | g
    ·exact(stays q1 ha e').2 ⟨k,e,g⟩
    ·exact(sc.res j ((hR' j).2 (.inr ⟨⟨i2,e',g⟩,Bq q1 ha e'⟩))).2 k (Jj hc h) e
  | inr i1 =>
   obtain⟨rfl,q1,q2⟩:=jN hp hl hc
   have ha:=Jk hc h
   rw[(hinr hc).1]at e
   cases hc':cls H.length p i' with
   | inl k' =>
    exfalso
    rw[(hinl hc').1]at e'
    rw[(hinr hc).2.2.1,(hinl hc').2.2.1]at g
    rcases g with g | g
    ·exact(sc.res j ((hR' j).2 (.inr ⟨⟨i1,e,g⟩,Bq q1 ha e⟩))).2 k' (Jj hc' h') e'
    ·exact(stays q1 ha e).2 ⟨k',e',g⟩
   | inr i2 =>
    obtain⟨rfl,q1',q2'⟩:=jN hp hl hc'
    rw[(hinr hc').1]at e'
    rw[(hinr hc).2.2.1,(hinr hc').2.2.1]at g
    exact s.inj i1 i2 j ha (Jk hc' h') e e' g
 ·cases hc:cls H.length p i with
  | inl k =>
   rw[hget,hc]at hx
   obtain⟨z,hz,rfl⟩:=jl hx
   obtain⟨e1,e2,e3,e4⟩:=hinl hc
   rw[e1,e2,e3,e4,xU]
   rcases sc.blk k z hz with⟨h1,h2,ro,rfl⟩ |⟨j,h1,h2,h3⟩
   ·exact .inl ⟨h1,h2,ro,rfl⟩
   ·exact .inr ⟨j,h1,BL.rn KL Jm h2,h3⟩
  | inr i' =>
   obtain⟨rfl,q1,q2⟩:=jN hp hl hc
   rw[hget,hc]at hx
   obtain⟨e1,e2,e3,e4⟩:=hinr hc
   rw[e1,e2,e3,e4]
   rcases s.blk i' x hx with h |⟨j,h1,h2,h3⟩
   ·exact .inl h
   ·refine .inr ⟨j,h1, ?_,h3⟩
    rw[(stays q1 (.inl ⟨x,hx⟩) h1).1]
    exact h2.mono (hkeep.or R) hle (λ_ h=>h)
 ·rw[hlen]
  cases hc:cls H.length p i with
  | inl k =>
   rw[(hinl hc).2.1]at h
   rw[(hinl hc).1]
   obtain⟨q1,q2⟩:=sc.jy k h
   refine⟨?_,q2⟩
   rcases oP hp hl hc with⟨_,h2⟩ |⟨_,h2,rfl⟩<;>omega
  | inr i' =>
   rw[(hinr hc).2.1]at h
   rw[(hinr hc).1]
   obtain⟨q1,q2⟩:=s.jy i h
   exact⟨by omega,q2⟩
 ·cases hc:cls H.length p i with
  | inl k =>
   rw[(hinl hc).2.2.1]at hi
   rw[hget,hc]at h
   obtain⟨z,hz,h2⟩:=jl h
   have hr:=xU (back p H.length) z
   rw[←h2]at hr
   cases z with
   | cells c' ro sl' =>
    simp only[fF.ro]at hr
    subst hr
    exact sc.iw k hi c' sl' hz
   | map es=>cases h2
  | inr i' =>
   obtain⟨rfl,q1,q2⟩:=jN hp hl hc
   rw[(hinr hc).2.2.1]at hi
   rw[hget,hc]at h
   exact s.iw i' hi c sl h
 ·exact Nat.lt_of_lt_of_le (s.res j h).1 kc.keep.next
 ·cases hc:cls H.length p i with
  | inl k =>
   rw[(hinl hc).1]
   exact(sc.res j ((hR' j).2 (.inl h))).2 k (Jj hc hi)
  | inr i' =>
   rw[(hinr hc).1]
   exact(s.res j h).2 i (Jk hc hi)
 ·by_cases hm:i∈p
  ·obtain⟨k,hk⟩:=List.mem_iff_getElem?.1 hm
   rw[(hinl (oO hp hl hk)).2.2.1]
   refine kc.gone k (aA.1 hk).1 ?_
   simp only[bI,hk]
   exact h
  ·rw[(hinr (hold hm hi)).2.2.1]
   exact h
 ·by_cases hm:i∈p
  ·obtain⟨k,hk⟩:=List.mem_iff_getElem?.1 hm
   rw[(hinl (oO hp hl hk)).1,kc.GN k (aA.1 hk).1]
   simp only[bI,hk]
  ·rw[(hinr (hold hm hi)).1]
 ·by_cases hm:i∈p
  ·obtain⟨k,hk⟩:=List.mem_iff_getElem?.1 hm
   rw[(hinl (oO hp hl hk)).2.2.2,kc.zZ k (aA.1 hk).1]
   simp only[bI,hk]
  ·rw[(hinr (hold hm hi)).2.2.2]
 ·by_cases hm:i∈p
  ·obtain⟨x,hx⟩:=hpl i hm
   rw[h]at hx
   cases hx
  ·rw[(hinr (hold hm hi)).2.2.1]
 ·obtain⟨x,h⟩:=h
  by_cases hm:i∈p
  ·obtain⟨k,hk⟩:=List.mem_iff_getElem?.1 hm
   rw[hget,oO hp hl hk]at h
   obtain⟨z,hz,_⟩:=jl h
   exact hbk k i hk (kc.live k (aA.1 hk).1 ⟨z,hz⟩)
  ·rw[hget,hold hm hi]at h
   exact⟨x,h⟩
 ·exact(stays hn (Jk (hold hn hi) h) hj).1
end
mutual
theorem zi{M M':Heap}{O O':Nat→Prop}{κ iI:VI}:∀(v a:AV),gW v=true→VL M O κ v a→VL M' O' iI v a
 |.bool _,a,_,h=>by simp only[VL]at h ⊢;exact h
 |.int ..,a,_,h=>by simp only[VL]at h ⊢;exact h
 |.str _,a,_,h=>by simp only[VL]at h ⊢;exact h
 |.ptr none,a,_,h=>by simp only[VL]at h ⊢;exact h
 |.nilFunc,a,_,h=>by simp only[VL]at h ⊢;exact h
 |.slice none s l c e,a,hs,h=>by simp only[VL]at h ⊢;exact h
 |.tuple cs,a,hs,h=>by
  simp only[gW]at hs
  simp only[VL]at h ⊢
  obtain⟨cs',e,h⟩:=h
  exact⟨cs',e,sj cs cs' hs h⟩
 |.agg cs,a,hs,h=>by
  simp only[gW]at hs
  simp only[VL]at h ⊢
  obtain⟨cs',e,h⟩:=h
  exact⟨cs',e,sj cs cs' hs h⟩
 |.undef,_,hs,_=>by simp[gW]at hs
 |.ptr (some _),_,hs,_=>by simp[gW]at hs
 |.slice (some _) _ _ _ _,_,hs,_=>by simp[gW]at hs
 |.map _,_,hs,_=>by simp[gW]at hs
 |.func _ _,_,hs,_=>by simp[gW]at hs
 |.list ..,_,hs,_=>by simp[gW]at hs
 |.elem _,_,hs,_=>by simp[gW]at hs
 |.acc ..,_,hs,_=>by simp[gW]at hs
theorem sj{M M':Heap}{O O':Nat→Prop}{κ iI:VI}:∀(v a:List AV),yY v=true→aR M O κ v a→aR M' O' iI v a
 | [],[],_,_=>by simp[aR]
 | [],_::_,_,h=>by simp[aR]at h
 | _::_,[],_,h=>by simp[aR]at h
 | v::r,a::l,hs,h=>by
  simp only[yY]at hs
  split at hs
  case h_2=>cases hs
  rename_i hv
  simp only[aR]at h ⊢
  exact⟨zi v a hv h.1,sj r l hs h.2⟩
end
theorem VS.ext{R:Nat→Prop}{ι:VI}{H:WH}{M M':Heap}(s:VS R ι H M)(hn:M.next≤M'.next)(hg:∀b,b<M.next→M'.get b=M.get b)(ok:M'.Ok):VS R ι H M'∧Stp H.length [] ι H M ι H M':=by
 have hk:Keeps M (own ι) M' (own ι):=⟨hn,λb hb ho=>⟨hg b hb,ho⟩⟩
 refine⟨⟨λi j h=>⟨(s.lt i j h).1,Nat.lt_of_lt_of_le (s.lt i j h).2 hn⟩,s.inj,λi x hx=>?_,s.jy,s.iw,ok,λj h=>⟨Nat.lt_of_lt_of_le (s.res j h).1 hn,(s.res j h).2⟩⟩,⟨hk,.refl _ _,λ_ _ h=>h,λ_ _=>rfl,λ_ _=>rfl,λ_ _ _=>rfl,λ_ _ h=>h,λi j _ _ hj _=>?_,Nat.le_refl _⟩⟩
 ·rcases s.blk i x hx with h |⟨j,h1,h2,h3⟩
  ·exact .inl h
  refine .inr ⟨j,h1, ?_,h3⟩
  rw[hg j (s.lt i j h1).2]
  exact h2.mono (hk.or R) (λ_=>.refl _ _) (λ_ h=>h)
 ·exact hg j (s.lt i j hj).2
theorem Ef {C:aQ} {g:FuncId} {args as:List AV} {R:Nat→Prop} {ι:VI} {H:WH} {M:Heap} (s:VS R ι H M) (hv:aR M (OR R ι) ι args as) {ms:List (Option Bool)} {ts:List AV} {v:AV}
  (h0:qG (o8 ms (fD args ts) H).2 0 (dW (o8 ms (fD args ts) H).1)=[]) (hs:gW v=true) (hspec:Spec C g (vE (jg []) (o8 ms (fD args ts) H).1) [] v []) :
  ∃a M',C g as M=some (a,M')∧VS R ι H M'∧Stp H.length [] ι H M ι H M'∧VL M' (OR R ι) ι v a:=by
 obtain⟨jD,k1,k2,k3⟩:=qQ ms (fD args ts) H ι M as s (aR.retag _ _ _ hv)
 generalize o8 ms (fD args ts) H=q at *
 obtain⟨vs,H2⟩:=q
 simp only at h0 hspec k1 k2 k3
 obtain⟨p1,p2,_⟩:=uV H2 0 (dW vs)
 rw[h0]at p1 p2
 let R':Nat→Prop:=λj=>R j∨(own jD j∧¬own (bI jD []) j)
 have hsub:∀j,OR R' (bI jD []) j→OR R jD j:=λj h=>by
  rcases h with h | h | h
  ·obtain⟨b,_,h3,h4⟩:=jS h
   exact .inl ⟨b,h3,h4⟩
  ·exact .inr h
  ·exact .inl h.1
 have hpick:=k1.pick p1 (R':=R') (λj h=>by
  rcases h with h |⟨⟨i,q1,q2⟩,q3⟩
  ·exact⟨(k1.res j h).1,λb _ hb=>(k1.res j h).2 b hb⟩
  ·exact⟨(k1.lt i j q1).2,λb hb=>(nomatch hb)⟩) hsub
 have hargs:aR M (OR R' (bI jD [])) (bI jD []) (vE (jg []) vs) as:=aR.rn ⟨Nat.le_refl _,λb _ h=>⟨rfl,λk=>h (hsub b k)⟩⟩ (by have:=@kQ;rw[←h0];exact kQ) _ _ k3
 obtain⟨a,M',lJ,e,q1,q2,q3⟩:=hspec R' (bI jD []) M as hpick hargs
 have hno:∀b,¬own (bI jD []) b:=λb h=>by
  obtain⟨c,hc,_⟩:=jS h
  exact(nomatch hc)
 obtain⟨e1,e2⟩:=s.ext q2.keep.next (λb hb=>(q2.keep.get b hb (hno b)).1) q1.zY
 exact⟨a,M',e,e1,e2,zi v a hs q3⟩
mutual
theorem wQ{M M':Heap}{O O':Nat→Prop}{κ:VI}:∀(v a:AV),clean v=true→VL M O κ v a→VL M' O' κ v a
 |.bool _,a,_,h=>by simp only[VL]at h ⊢;exact h
 |.int ..,a,_,h=>by simp only[VL]at h ⊢;exact h
 |.str _,a,_,h=>by simp only[VL]at h ⊢;exact h
 |.ptr none,a,_,h=>by simp only[VL]at h ⊢;exact h
 |.ptr (some _),a,_,h=>by simp only[VL]at h ⊢;exact h
 |.nilFunc,a,_,h=>by simp only[VL]at h ⊢;exact h
 |.slice none s l c e,a,hs,h=>by simp only[VL]at h ⊢;exact h
 |.slice (some _) s l c e,a,hs,h=>by simp only[VL]at h
 |.map none,a,_,h=>by simp only[VL]at h ⊢;exact h
 |.map (some _),a,_,h=>by simp only[VL]at h ⊢;exact h
 |.undef,_,_,_=>by simp[VL]
 |.acc ..,a,_,h=>by simp only[VL]at h ⊢;exact h
 |.tuple cs,a,hs,h=>by
  simp only[clean]at hs
  simp only[VL]at h ⊢
  obtain⟨cs',e,h⟩:=h
  exact⟨cs',e,lq cs cs' hs h⟩
 |.agg cs,a,hs,h=>by
  simp only[clean]at hs
  simp only[VL]at h ⊢
  obtain⟨cs',e,h⟩:=h
  exact⟨cs',e,lq cs cs' hs h⟩
 |.func f cs,a,hs,h=>by
  simp only[clean]at hs
  simp only[VL]at h ⊢
  obtain⟨cs',e,h⟩:=h
  exact⟨cs',e,lq cs cs' hs h⟩
 |.list ..,_,hs,_=>by simp[clean]at hs
 |.elem _,_,hs,_=>by simp[clean]at hs
theorem lq{M M':Heap}{O O':Nat→Prop}{κ:VI}:∀(v a:List AV),jh v=true→aR M O κ v a→aR M' O' κ v a
 | [],[],_,_=>by simp[aR]
 | [],_::_,_,h=>by simp[aR]at h
 | _::_,[],_,h=>by simp[aR]at h
 | v::r,a::l,hs,h=>by
  simp only[jh]at hs
  split at hs
  case h_2=>cases hs
  rename_i hv
  simp only[aR]at h ⊢
  exact⟨wQ v a hv h.1,lq r l hs h.2⟩
end
theorem VS.Jo{R R':Nat→Prop}{ι:VI}{H:WH}{M:Heap}(s:VS R ι H M)(hc:∀i x,aU H i=some x→∃c sl,x=.cells c false sl∧jh c=true)(h:∀j,R' j→R j∨(j<M.next∧¬own ι j)):VS R' ι H M:=by
 refine⟨s.lt,s.inj,λi x hx=>?_,s.jy,s.iw,s.zY,λj hj=>?_⟩
 ·rcases s.blk i x hx with h |⟨j,h1,h2,h3⟩
  ·exact .inl h
  obtain⟨c,sl,rfl,hcl⟩:=hc i x hx
  obtain⟨c',t,ro',sl',L,e,g0,g1,g2,g3,g4⟩:=h2
  exact .inr ⟨j,h1,⟨c',t,ro',sl',L,e,g0,g1,g2,lq c c' hcl g3,g4⟩,h3⟩
 ·rcases h j hj with h |⟨h,ho⟩
  ·exact s.res j h
  refine⟨h,λi ha hi=>ho ⟨i,hi, ?_⟩⟩
  rcases ha with⟨x,hx⟩ | ha
  ·obtain⟨c,sl,rfl,_⟩:=hc i x hx
   rcases s.blk i _ hx with⟨q,_⟩ |⟨j',_,_,q⟩
   ·rw[(s.jy i q).2]at hi
    cases hi
   ·exact q rfl
  ·exact ha
theorem qV:∀ {out:WH} {k:TS→Prop} {tr:TS},wC out k tr→(∃dK,k dK)∧∀i x,aU out i=some x→∃c sl,x=.cells c false sl∧jh c=true
 | [],k,tr,h=>⟨⟨tr,h⟩,λi x hx=>by simp[aU]at hx⟩
 | none::r,k,tr,h=>by
  obtain⟨h1,h2⟩:=qV (out:=r) h
  refine⟨h1,λi x hx=>?_⟩
  cases i with
  | zero=>simp[aU]at hx
  | succ i=>exact h2 i x hx
 | some (.map _)::_,k,tr,h=>h.elim
 | some (.cells c ro sl)::r,k,tr,h=>by
  have fin:jh c=true→ro=false→(∀i x,aU r i=some x→∃c sl,x=.cells c false sl∧jh c=true)→∀i x,aU (some (.cells c ro sl)::r) i=some x→∃c sl,x=.cells c false sl∧jh c=true:=λhc hr h2 i x hx=>by
   cases i with
   | zero =>
    simp only[aU,ak]at hx
    subst hr
    exact⟨c,sl,hx.symm,hc⟩
   | succ i=>exact h2 i x hx
  simp only[wC]at h
  cases ro
  case true=>cases sl<;>exact h.elim
  cases sl
  ·simp only at h
   split at h
   case h_2=>exact h.elim
   rename_i hc
   obtain⟨h1,h2⟩:=qV (out:=r) h
   exact⟨h1,fin hc rfl h2⟩
  ·obtain⟨dK,hc,h⟩:=eH h
   obtain⟨h1,h2⟩:=qV (out:=r) h
   exact⟨h1,fin hc rfl h2⟩
theorem zl{S:List Nat}:∀ {p:List Nat},apart S p=true→∀b∈p,gN S b=false
 | [],_,b,hb=>by cases hb
 | a::p,h,b,hb=>by
  simp only[apart]at h
  split at h
  ·cases h
  rename_i ha
  rcases List.mem_cons.1 hb with rfl | hb
  ·exact ha
  ·exact zl h b hb
theorem uX{H:WH}:∀ {bs:List Bool} {vs:List AV} {q:List AV×List Nat},qH H bs vs=some q→∀b∈q.2,∃x,aU H b=some x
 | bs,[],q,h=>by
  simp only[qH,ak]at h
  subst h
  intro b hb
  cases hb
 | bs,v::r,q,h=>by
  simp only[qH]at h
  split at h
  case h_2=>cases h
  rename_i q' hq
  have i:=uX hq
  split at h
  ·simp only[ak]at h
   subst h
   exact i
  ·split at h
   case h_2=>cases h
   rename_i p hp
   simp only[ak]at h
   subst h
   intro b hb
   rcases List.mem_append.1 hb with hb | hb
   ·exact gG 5 false v p hp b hb
   ·exact i b hb
theorem su{R:Nat→Prop}{ι:VI}{H:WH}{M:Heap}(s:VS R ι H M)(S:List Nat)(hS:∀b∈S,∃x,aU H b=some x):∀ {bs:List Bool} {vs as:List AV} {q:List AV×List Nat},qH H bs vs=some q→(∀b∈q.2,b∈S)→aR M (OR R ι) ι vs as→aR M (OR R (ι.iw S)) (ι.iw S) q.1 as
 | bs,[],as,q,h,_,hv=>by
  simp only[qH,ak]at h
  subst h
  cases as with
  | nil=>simp[aR]
  | cons=>simp[aR]at hv
 | bs,v::r,as,q,h,hq,hv=>by
  cases as with
  | nil=>simp[aR]at hv
  | cons a as =>
  simp only[aR]at hv
  simp only[qH]at h
  split at h
  case h_2=>cases h
  rename_i q' hq'
  obtain⟨_,h2⟩:=s.Ck S hS
  split at h
  ·simp only[ak]at h
   subst h
   simp only[aR]
   exact⟨VL.step s h2 hv.1,su s S hS hq' hq hv.2⟩
  ·split at h
   case h_2=>cases h
   rename_i p hp
   simp only[ak]at h
   subst h
   simp only[aR]
   refine⟨?_,su s S hS hq' (λb hb=>hq b (List.mem_append_right _ hb)) hv.2⟩
   refine xP s (O':=OR R (ι.iw S)) (λj h=>h.imp qN id) (iI:=ι.iw S) (uS _ _ _) 5 false v p a hp hv.1 (λb hb j hj=>?_)
   have lv:=gG 5 false v p hp b hb
   rintro(⟨i,q1,q2⟩ | hR)
   ·simp only[VI.iw,Bool.or_eq_false_iff]at q1 q2
    have:=s.inj i b j (.inr q2.1) (.inl lv) q1 hj (.inl q2.1)
    subst this
    rw[jk.2 (hq i (List.mem_append_left _ hb))]at q2
    cases q2.2
   ·exact(s.res j hR).2 b (.inl lv) hj
theorem Eh {C:aQ} {g:FuncId} {JI as:List AV} {R:Nat→Prop} {ι:VI} {H:WH} {M:Heap} (s:VS R ι H M) (hv:aR M (OR R ι) ι JI as) {ls:List Bool} {q:List AV×List Nat} (hq:qH H ls JI=some q) {p:List Nat}
  (hp:qG (kZ H q.2) 0 (dW q.1)=p) {v:AV} {out:WH} (ho:p.length≤out.length) (ha:apart q.2 p=true) (hc:clean v=true) (hco:∀i x,aU out i=some x→∃c sl,x=.cells c false sl∧jh c=true)
  (hspec:Spec C g (vE (jg p) q.1) (iD (kZ H q.2) p p) v out) :
  ∃a M' aM,C g as=(λM=>C g as M)∧C g as M=some (a,M')∧VS R aM (nQ H p out) M'∧Stp H.length p ι H M aM (nQ H p out) M'∧VL M' (OR R aM) aM (rn (back p H.length) v) a:=by
 have hlive:=uX hq
 obtain⟨k1,k2⟩:=s.Ck q.2 hlive
 have k3:=su s q.2 hlive hq (λ_ h=>h) hv
 obtain⟨p1,p2,_⟩:=uV (kZ H q.2) 0 (dW q.1)
 rw[hp]at p1 p2
 have hap:=zl ha
 have hpk:bI (ι.iw q.2) p=bI ι p:=by
  unfold bI VI.iw
  congr 1
  funext k
  cases e:p[k]? with
  | none=>rfl
  | some b =>
   simp only
   rw[hap b (List.mem_of_getElem? e),Bool.or_false]
 have hpl:∀b,b∈p→∃x,aU H b=some x:=λb hb=>by
  obtain⟨y,hy⟩:=(p2 b hb).resolve_left (by omega)
  rw[lg]at hy
  split at hy
  ·obtain⟨z,hz,_⟩:=oM hy
   exact⟨z,hz⟩
  ·exact⟨y,hy⟩
 have hl:∀b,b∈p→b<H.length:=λb hb=>by
  obtain⟨x,hx⟩:=hpl b hb
  exact gK hx
 let R':Nat→Prop:=λj=>R j∨(own (ι.iw q.2) j∧¬own (bI (ι.iw q.2) p) j)
 have hsub:∀j,OR R' (bI (ι.iw q.2) p) j→OR R (ι.iw q.2) j:=λj h=>by
  rcases h with h | h | h
  ·obtain⟨b,_,h3,h4⟩:=jS h
   exact .inl ⟨b,h3,h4⟩
  ·exact .inr h
  ·exact .inl h.1
 have hpick:=k1.pick p1 (R':=R') (λj h=>by
  rcases h with h |⟨⟨i,q1,q2⟩,q3⟩
  ·exact⟨(k1.res j h).1,λb _ hb=>(k1.res j h).2 b hb⟩
  ·refine⟨(k1.lt i j q1).2,λb hb ha hj=>?_⟩
   have:=k1.inj i b j (.inr q2) ha q1 hj (.inl q2)
   subst this
   obtain⟨k,hk⟩:=List.mem_iff_getElem?.1 hb
   exact q3 ⟨k,by simp only[bI,hk];exact hj,by simp only[bI,hk];exact q2⟩) hsub
 have hargs:aR M (OR R' (bI (ι.iw q.2) p)) (bI (ι.iw q.2) p) (vE (jg p) q.1) as:=aR.rn ⟨Nat.le_refl _,λb _ h=>⟨rfl,λk=>h (hsub b k)⟩⟩ kQ _ _ k3
 obtain⟨a,M',lJ,e,q1,q2,q3⟩:=hspec R' (bI (ι.iw q.2) p) M as hpick hargs
 rw[jF]at q2
 let R2:Nat→Prop:=λj=>R j∨(own ι j∧¬own (bI ι p) j)
 have q4:VS R2 lJ out M':=q1.Jo hco λj hj=>by
  rcases hj with hj |⟨⟨i,g1,g2⟩,g3⟩
  ·exact .inl (.inl hj)
  ·have lt:=(s.lt i j g1).2
   refine .inr ⟨Nat.lt_of_lt_of_le lt q2.keep.next,(q2.keep.get j lt ?_).2⟩
   rw[hpk]
   exact g3
 have q5:VL M' (OR R2 lJ) lJ v a:=wQ v a hc q3
 rw[hpk]at q2
 obtain⟨u1,u2,u3⟩:=Bp (R:=R) (R':=R2) p1 hl ho (λj=>Iff.rfl) s q4 q2 hpl (λk b hk ⟨x,hx⟩=>hpl b (List.mem_of_getElem? hk))
 exact⟨a,M',_,rfl,e,u1,u2,u3 v a q5⟩
theorem Ei {C:aQ} {g:FuncId} {args as:List AV} {R:Nat→Prop} {ι:VI} {H:WH} {M:Heap} (s:VS R ι H M) (hv:aR M (OR R ι) ι args as) {tr:TS} {k:AV→WH→List Nat→TS→Prop} (h:D5 C g args H tr k) :
  ∃a M' aM v H' t dK,C g as M=some (a,M')∧VS R aM H' M'∧Stp H.length t ι H M aM H' M'∧VL M' (OR R aM) aM v a∧k v H' t dK:=by
 unfold D5 at h
 split at h
 case h_2 =>
  rename_i ms ls ts v out r
  simp only at h
  obtain⟨eu,h1,h2,h3⟩:=qQ ms (fD args ts) H ι M as s (aR.retag _ _ _ hv)
  generalize o8 ms (fD args ts) H=q0 at *
  obtain⟨vs,H1⟩:=q0
  simp only at h h1 h2 h3
  split at h
  case h_2=>exact h.elim
  rename_i q hq
  split at h
  case h_2=>exact h.elim
  rename_i e1 e2 e3
  obtain⟨⟨tr1,h⟩,hco⟩:=qV h
  obtain⟨dK,hspec,hk⟩:=eH h
  obtain⟨a,M',aM,_,f1,f2,f3,f4⟩:=Eh h1 h3 hq rfl (Nat.le_of_ble_eq_true e1) e2 e3 hco hspec
  refine⟨a,M',aM,_,_,_,_,f1,f2, ?_,f4,hk⟩
  exact h2.trans f3 h2.next
 case h_3 =>
  rename_i ms ts v r
  simp only at h
  split at h
  case h_2=>exact h.elim
  rename_i e1 e2
  obtain⟨dK,h⟩:=eH h
  obtain⟨a,M',f1,f2,f3,f4⟩:=Ef s hv e1 e2 h.1
  exact⟨a,M',ι,v,H,[],dK,f1,f2,f3,f4,h.2⟩
 case h_4=>exact h.elim
 rename_i ms m ts v out r
 obtain⟨eu,h1,h2,h3⟩:=qQ ms (fD args ts) H ι M as s (aR.retag _ _ _ hv)
 generalize hr:o8 ms (fD args ts) H=q at *
 obtain⟨vs,H1⟩:=q
 simp only at h h1 h2 h3
 obtain⟨jD,k1,k2⟩:=qR [] m (qG H1 0 (dW vs)) H1 eu M h1
 have k3:=aR.step h1 k2 h3
 generalize sU [] m (qG H1 0 (dW vs)) H1=H2 at *
 obtain⟨p1,p2,_⟩:=uV H2 0 (dW vs)
 generalize qG H2 0 (dW vs)=p at *
 split at h
 case h_2=>exact h.elim
 rename_i ho
 have ho:=Nat.le_of_ble_eq_true ho
 obtain⟨dK,hspec,hk⟩:=eH h
 have hl:∀b,b∈p→b<H2.length:=λb hb=>by
  rcases p2 b hb with h |⟨y,h⟩
  ·omega
  ·exact gK h
 let R':Nat→Prop:=λj=>R j∨(own jD j∧¬own (bI jD p) j)
 have hsub:∀j,OR R' (bI jD p) j→OR R jD j:=λj h=>by
  rcases h with h | h | h
  ·obtain⟨b,_,h3,h4⟩:=jS h
   exact .inl ⟨b,h3,h4⟩
  ·exact .inr h
  ·exact .inl h.1
 have hpick:=k1.pick p1 (R':=R') (λj h=>by
  rcases h with h |⟨⟨i,q1,q2⟩,q3⟩
  ·exact⟨(k1.res j h).1,λb _ hb=>(k1.res j h).2 b hb⟩
  ·refine⟨(k1.lt i j q1).2,λb hb ha hj=>?_⟩
   have:=k1.inj i b j (.inr q2) ha q1 hj (.inl q2)
   subst this
   obtain⟨k,hk⟩:=List.mem_iff_getElem?.1 hb
   exact q3 ⟨k,by simp only[bI,hk];exact hj,by simp only[bI,hk];exact q2⟩) hsub
 have hargs:aR M (OR R' (bI jD p)) (bI jD p) (vE (jg p) vs) as:=aR.rn ⟨Nat.le_refl _,λb _ h=>⟨rfl,λk=>h (hsub b k)⟩⟩ kQ _ _ k3
 obtain⟨a,M',lJ,e,q1,q2,q3⟩:=hspec R' (bI jD p) M as hpick hargs
 rw[jF]at q2
 obtain⟨u1,u2,u3⟩:=Bp (R:=R) (R':=R') p1 hl ho (λj=>Iff.rfl) k1 q1 q2 (λb hb=>(p2 b hb).resolve_left (by omega)) (λk b hk ⟨x,hx⟩=>by
  rw[gq,hk]at hx
  obtain⟨z,hz,_⟩:=jl hx
  exact⟨z,hz⟩)
 refine⟨a,M',_,_,_,_,_,e,u1, ?_,u3 v a q3,hk⟩
 have:=(h2.trans k2 h2.next).trans u2 (Nat.le_trans h2.next k2.next)
 simpa using this
def Cu(C:aQ)(f:FuncId)(b:Bt):Prop:=∀(R:Nat→Prop) (ι:VI) (H:WH) (M:Heap) (args as:List AV) (d:Option Nat) (tr:TS) (k:AV→WH→List Nat→TS→Prop),VS R ι H M→aR M (OR R ι) ι args as→J9 b d args H tr k →
 ∃a M' aM v H' t dK,C f as M=some (a,M')∧VS R aM H' M'∧Stp H.length t ι H M aM H' M'∧VL M' (OR R aM) aM v a∧k v H' t dK
theorem xV{R:Nat→Prop}{d:Option Nat}{x:Option AV}{tr:TS}{k:AV→TS→Prop}(h:IV d x tr k):∃v u dK,x=some v∧k u dK∧∀(M:Heap) (O:Nat→Prop) (κ:VI) (a:AV),VL M O κ v a→VL M O κ u a:=by
 have plain:∀ {tr},(match x with | some v=>k v tr | none=>False)→∃v u dK,x=some v∧k u dK∧∀(M:Heap) (O:Nat→Prop) (κ:VI) (a:AV),VL M O κ v a→VL M O κ u a:=λ{tr} h=>by
  cases x with
  | none=>exact h.elim
  | some v=>exact⟨v,v,tr,rfl,h,λ_ _ _ _ h=>h⟩
 unfold IV at h
 split at h
 ·split at h
  ·obtain⟨dK,h⟩:=eH h
   exact⟨_,_,_,h.1,h.2,λ_ _ _ _ h=>h⟩
  ·exact plain h
 ·split at h
  ·split at h
   ·rename_i v
    exact⟨v,_,_,rfl,h,λ_ _ _ _ h=>VL.retag _ _ _ h⟩
   ·exact h.elim
  ·exact plain h
 ·exact plain h
theorem FL{d:Option Nat}{n:Nat}{cs:List AV}{tr:TS}{k:Nat→List AV→TS→Prop}(h:Ch d n cs tr k):∃dK,k n cs dK:=by
 unfold Ch at h
 split at h
 ·split at h
  ·obtain⟨_,rfl,h⟩:=eH h
   obtain⟨_,rfl,h⟩:=eH h
   exact⟨_,h⟩
  ·exact⟨_,h⟩
 ·exact⟨_,h⟩
theorem mJ{M:Heap}{O:Nat→Prop}{κ:VI}:∀ {l r:List AV},l.all AV.flat=true→aR M O κ l r→aR M O VI.none l r
 | [],[],_,_=>by simp[aR]
 | v::l,a::r,h,e=>by
  simp only[List.all_cons,Bool.and_eq_true]at h
  simp only[aR]at e ⊢
  refine⟨?_,mJ h.2 e.2⟩
  have h1:=h.1
  have e1:=e.1
  cases v with
  | ptr p=>cases p<;>simp_all [AV.flat,VL]
  | slice p=>cases p<;>simp_all [AV.flat,VL]
  | map p=>cases p<;>simp_all [AV.flat,VL]
  | func f cs =>
   cases cs with
   | nil =>
    simp only[VL]at e1 ⊢
    obtain⟨cs',rfl,e1⟩:=e1
    refine⟨cs',rfl, ?_⟩
    cases cs' with
    | nil=>simp[aR]
    | cons _ _=>simp[aR]at e1
   | cons _ _=>simp[AV.flat]at h1
  | _=>simp_all [AV.flat,VL]
 | [],_::_,_,e=>by simp[aR]at e
 | _::_,[],_,e=>by simp[aR]at e
theorem qW(z:List AV):∀n,(iE n z).length=n*z.length
 | 0=>by simp[iE]
 | n+1=>by simp only[iE,aI,qW z n,Nat.add_mul,Nat.one_mul];omega
section
variable {R:Nat→Prop} {ι:VI} {H:WH} {M:Heap} (s:VS R ι H M) {ρ σ:Nat→AV} (h:∀t,VL M (OR R ι) ι (ρ t) (σ t))
include s h
theorem uY {sz:Nat}:∀ {ps:List (Nat×AX)} {cs cs' l:List AV},(ps.all λp=>p.2.bO)=true→aR M (OR R ι) ι cs cs' →
  iq cs (ps.map λp=>(p.1*sz,sz,(p.2.sub ρ).ev []))=some l→∃l',iq cs' (ps.map λp=>(p.1*sz,sz,(p.2.sub σ).ev []))=some l'∧aR M (OR R ι) ι l l'
 | [],cs,cs',l,_,hr,hf=>by
  simp only[List.map_nil,iq,ak]at hf ⊢
  subst hf
  exact⟨cs',rfl,hr⟩
 | p::ps,cs,cs',l,hc,hr,hf=>by
  simp only[List.all_cons,Bool.and_eq_true]at hc
  simp only[List.map_cons,iq]at hf ⊢
  split at hf
  case h_2=>cases hf
  rename_i x hx
  split at hf
  case isFalse=>cases hf
  rename_i hle
  obtain⟨x',hx',Jf⟩:=(aX h hc.1).cells hx
  rw[hx']
  simp only
  rw[if_pos (by rw[←Jf.length,←hr.length];exact hle)]
  refine uY hc.2 ?_ hf
  exact((hr.take _).append Jf).append (hr.drop _)
theorem GZ {d:Option Nat} {o:nZ} (hc:o.bO=true) {tr:TS} {k:fF→(Nat→AV)→TS→Prop} (hv:wK d (o.sub ρ) tr k) :
  ∃c sl mk c' sl' JQ dK,k (.cells c false sl) mk dK∧aK (o.sub σ) []=some (.cells c' false sl',JQ)∧aR M (OR R ι) (if sl then VI.none else ι) c c'∧(sl=false→sl'=false) ∧
   ∀(M':Heap) (O:Nat→Prop) (κ:VI) (b j:Nat),κ b=some j→κ.dim b=some (c.length,c'.length)→VL M' O κ (mk b) (JQ.val j):=by
 have Br:∀(c c':List AV) (M':Heap) (O:Nat→Prop) (κ:VI) (b j:Nat),κ b=some j→κ.dim b=some (c.length,c'.length)→VL M' O κ (.ptr (some (b,0))) (Mk.ptr.val j):=λc c' M' O κ b j h1 _=>by
  simp only[Mk.val,VL]
  exact⟨j,h1,rfl⟩
 have Ej:∀(c c':List AV) (sz n:Nat) (ex:Bool),c.length=n*sz→n*sz≤c'.length→∀(M':Heap) (O:Nat→Prop) (κ:VI) (b j:Nat),κ b=some j→κ.dim b=some (c.length,c'.length)→VL M' O κ (.acc b 0 sz n true) ((Mk.slice sz n n ex).val j):=λc c' sz n ex h0 hL M' O κ b j h1 h2=>by
  simp only[Mk.val,VL]
  exact⟨_,_,_,_,rfl,Nat.le_refl _,(λh=>by cases h),λ_=>rfl,_,_,h2,by omega,λ_=>⟨trivial,h0.symm⟩,.inl ⟨j,h1,.inl ⟨rfl,by omega⟩⟩⟩
 cases o with
 | alloc zero =>
  have hz:aR M (OR R ι) ι zero zero:=aR.const zero hc
  simp only[nZ.sub,wK]at hv
  split at hv
  ·split at hv
   ·rename_i t r _
    exact⟨_,false,_,zero,false,.ptr,_,hv,rfl,aR.retag _ _ _ hz,(λ_=>rfl),Br _ _⟩
   ·exact⟨_,false,_,zero,false,.ptr,_,hv,rfl,hz,(λ_=>rfl),Br _ _⟩
  ·exact⟨_,false,_,zero,false,.ptr,_,hv,rfl,hz,(λ_=>rfl),Br _ _⟩
 | box x =>
  have hx:=aX h hc
  simp only[nZ.sub,wK]at hv
  split at hv
  case h_2=>exact hv.elim
  rename_i cs hcs
  obtain⟨cs',h1,h2⟩:=hx.cells hcs
  exact⟨cs,false,_,cs',false,.ptr,_,hv,by simp only[nZ.sub,aK,h1,aG],h2,(λ_=>rfl),Br _ _⟩
 | buildSlice sz len zero parts =>
  simp only[nZ.bO,Bool.and_eq_true]at hc
  simp only[nZ.sub,wK,List.map_map]at hv
  split at hv
  case h_2=>exact hv.elim
  rename_i cs hcs
  split at hv
  case h_2=>exact hv.elim
  rename_i hz
  have hz:=aH hz
  obtain⟨cs',h1,h2⟩:=uY s h hc.2 (aR.iE (M:=M) (O:=OR R ι) (κ:=ι) hc.1 len) hcs
  have hlen:∀ {l:List (Nat×Nat×AV)} {c c':List AV},iq c l=some c'→c'.length=c.length:=by
   intro l
   induction l with
   | nil=>intro c c' e;simp only[iq,ak]at e;rw[e]
   | cons q l ih =>
    intro c c' e
    simp only[iq]at e
    split at e
    case h_2=>cases e
    split at e
    case isFalse=>cases e
    rename_i hle
    rw[ih e]
    simp only[aI,bC,aZ]
    omega
  have hl:=hlen hcs
  rw[qW,hz]at hl
  refine⟨cs,false,_,cs',false,.slice sz len len true,_,hv, ?_,h2,(λ_=>rfl),Ej _ _ _ _ _ hl (by rw[←h2.length,hl];exact Nat.le_refl _)⟩
  simp only[nZ.sub,aK,List.map_map]
  have e:(λp:Nat×AV=>(p.1*sz,sz,p.2))=λp=>(p.1*sz,sz,p.2):=rfl
  rw[show(iq (iE len zero) (parts.map ((λp=>(p.1*sz,sz,p.2.ev []))∘λp=>(p.1,p.2.sub σ))))=some cs' from h1]
  rfl
 | makeSlice sz bytes zero l c =>
  simp only[nZ.bO,Bool.and_eq_true]at hc
  have hl:=aX h hc.1.2
  have hcc:=aX h hc.2
  simp only[nZ.sub,wK]at hv
  split at hv
  case h_2=>exact hv.elim
  rename_i d' n cs r
  split at hv
  case h_2=>exact hv.elim
  split at hv
  case h_2=>exact hv.elim
  rename_i hz hfl
  obtain⟨_,⟨e1,e2,e3,e4⟩,hv⟩:=eH hv
  obtain⟨_,rfl,hk⟩:=eH hv
  rw[e1]at hl
  rw[e2]at hcc
  have hz:=aH hz
  refine⟨_,true,_,iE n zero,false,.slice sz n n true,_,hk, ?_, ?_,(λh=>by cases h),Ej _ _ _ _ _ (by rw[qW,hz]) (by rw[qW,hz];exact Nat.le_refl _)⟩
  ·simp only[nZ.sub,aK,hl.eq rfl,hcc.eq rfl,mZ]
   rw[if_pos (by simp;omega)]
   rfl
  ·exact mJ (κ:=ι) (by
    have:∀n,(iE n zero).all AV.flat=true:=λn=>by
     induction n with
     | zero=>rfl
     | succ n ih=>simp only[iE,List.all_append,hfl,ih,Bool.and_self]
    exact this n) (aR.iE hc.1.1 n)
 | fG x =>
  have hx:=aX h hc
  simp only[nZ.sub,wK]at hv
  split at hv
  case h_2=>exact hv.elim
  rename_i t ht
  obtain⟨_,h1,h2⟩:=eH hv
  rw[ht]at hx
  refine⟨_,true,_,t.map λb=>.int .u8 b.toNat,true,.slice 1 t.length t.length false,_,h2,by simp only[nZ.sub,aK,hx.eq rfl,if_pos h1], ?_,(λh=>by cases h),Ej _ _ _ _ _ (by simp) (by simp)⟩
  have:∀t:List UInt8,aR M (OR R ι) VI.none (t.map λb=>AV.int .u8 b.toNat) (t.map λb=>AV.int .u8 b.toNat):=λt=>by
   induction t with
   | nil=>simp[aR]
   | cons b t ih=>simp only[List.map_cons,aR,VL];exact⟨trivial,ih⟩
  exact this t
 | makeMap=>simp[nZ.sub,wK]at hv
end
theorem BL.of{R:Nat→Prop}{ι:VI}{M:Heap}{c c':List AV}{sl sl':Bool}(hr:aR M (OR R ι) (if sl then VI.none else ι) c c')(hs:sl=false→sl'=false):BL M (OR R ι) ι (some (c.length,c'.length)) (.cells c false sl) (some (.cells c' false sl')) :=
 ⟨c',[],false,sl',c'.length,by simp,λ_=>rfl,rfl,by simp,hr,hs⟩
theorem FM{c cs c':List AV}{o:Nat}(h:zI c o cs=some c'):o+cs.length≤c.length∧c'=c.take o++cs++c.drop (o+cs.length)∧c'.length=c.length:=by
 unfold zI at h
 split at h
 case isFalse=>cases h
 rename_i hle
 obtain rfl:=aj h
 refine⟨hle,rfl, ?_⟩
 simp only[aI,bC,aZ]
 omega
theorem El {R:Nat→Prop} {ι:VI} {H:WH} {M:Heap} (s:VS R ι H M) {b j o:Nat} (hb:ι b=some j) {c:List AV} {sl:Bool} (hg:aU H b=some (.cells c false sl)) {cs cs' c':List AV} (hcs:aR M (OR R ι) (if sl then VI.none else ι) cs cs') (h:zI c o cs=some c') :
  ∃M',M.write j o cs'=some M'∧VS R ι (bU H b (some (.cells c' false sl))) M'∧Stp H.length [b] ι H M ι (bU H b (some (.cells c' false sl))) M':=by
 obtain⟨h1,h2,h3⟩:=FM h
 obtain⟨d,t,ro',sl',L,g1,g2,g3,g4,g5⟩:=s.at hb hg
 obtain⟨rfl,_⟩:=g2 rfl
 have hl:=g5.length
 have hl':=hcs.length
 have e:(d++t).take o++cs'++(d++t).drop (o+cs'.length)=(d.take o++cs'++d.drop (o+cs'.length))++t:=by
  rw[List.take_append_of_le_length (by omega),List.drop_append_of_le_length (by omega)]
  simp only[bD]
 have hbl:BL M (OR R ι) ι (ι.dim b) (.cells c' false sl) (some (.cells ((d++t).take o++cs'++(d++t).drop (o+cs'.length)) false sl')):=by
  refine⟨d.take o++cs'++d.drop (o+cs'.length),t,false,sl',L,by rw[e],λ_=>rfl,by rw[h3];exact g3, ?_, ?_,λh=>s.Jg hb hg g1 h⟩
  ·simp only[aI,bC,aZ]at g4 ⊢
   omega
  ·rw[h2,hl']
   exact((g5.take o).append hcs).append (g5.drop _)
 obtain⟨q1,q2⟩:=s.put hb hg hbl
 refine⟨_, ?_,q1,q2⟩
 unfold Heap.write
 rw[g1]
 simp only
 rw[if_pos (by simp only[aI];omega)]
theorem Cv {R:Nat→Prop} {ι:VI} {H:WH} {M:Heap} (s:VS R ι H M) {n:Nat} {a v a' v':AV} (ha:VL M (OR R ι) ι a a') (hv:VL M (OR R ι) ι v v') {tr:TS} {k:AV→WH→List Nat→TS→Prop} {C:aQ} {B:FuncId→Option Bt} {d:Option Nat}
  (h:wN C B d (.store n (.c a) (.c v)) H tr k):∃r M' aM u H' t dK,tZ n a' v' M=some (r,M')∧VS R aM H' M'∧Stp H.length t ι H M aM H' M'∧VL M' (OR R aM) aM u r∧k u H' t dK:=by
 simp only[wN,AX.ev]at h
 split at h
 case h_2=>exact h.elim
 rename_i b off cs hcs
 split at h
 case h_2=>exact h.elim
 rename_i hn
 have hn:=aH hn
 split at h
 case h_2=>exact h.elim
 split at h
 case h_2=>exact h.elim
 rename_i c sl hg
 simp only[VL]at ha
 obtain⟨j,hj,rfl⟩:=ha
 obtain⟨cs',e1,e2⟩:=hv.cells hcs
 have fin:∀(eu:VI) (H1:WH) (x c':List AV) (r:TS),VS R eu H1 M→Stp H.length [] ι H M eu H1 M→H1.length=H.length→aU H1 b=some (.cells c false sl)→aR M (OR R eu) (if sl then VI.none else eu) x cs'→zI c off x=some c'→k (.tuple []) (bU H1 b (some (.cells c' false sl))) [b] r →
   ∃r M' aM u H' t dK,tZ n (.ptr (some (j,off))) v' M=some (r,M')∧VS R aM H' M'∧Stp H.length t ι H M aM H' M'∧VL M' (OR R aM) aM u r∧k u H' t dK:=by
  intro eu H1 x c' r s1 k1 hlen hg1 hx hw hk
  have hj1:=((k1.le b (gK hg)).1 j hj).1
  obtain⟨M',q1,q2,q3⟩:=El s1 hj1 hg1 hx hw
  refine⟨.tuple [],M',eu,.tuple [],_,[b],r, ?_,q2, ?_,by simp[VL,aR],hk⟩
  ·simp only[tZ,e1]
   rw[if_pos (by rw[←e2.length];exact hn),q1]
   rfl
  ·have:=k1.trans q3 (by omega)
   simpa using this
 split at h
 ·split at h
  ·split at h
   case h_2=>exact h.elim
   rename_i c' hw
   exact fin ι H cs c' _ s (.refl _ _ _ _ _ (Nat.le_refl _)) rfl hg e2 hw h
  ·obtain⟨_,h⟩:=eH h
   exact fin ι H cs _ _ s (.refl _ _ _ _ _ (Nat.le_refl _)) rfl hg e2 h.1 h.2
 ·split at h
  case h_2=>exact h.elim
  rename_i p hp
  split at h
  ·exact h.elim
  rename_i hb
  obtain⟨u1,u2⟩:=s.Ck p.2 (iU (λv p=>gG 5 true v p) _ _ hp)
  have hx:=xS s hp e2
  have hg1:aU (kZ H p.2) b=some (.cells c false true):=by
   rw[lg,hb]
   exact hg
  split at h
  ·split at h
   case h_2=>exact h.elim
   rename_i c' hw
   exact fin _ _ p.1 c' _ u1 u2 (jR _ _) hg1 hx hw h
  ·obtain⟨_,h⟩:=eH h
   exact fin _ _ p.1 _ _ u1 u2 (jR _ _) hg1 hx h.1 h.2
theorem G5 {C:aQ} {B:FuncId→Option Bt} (hB:∀f b,B f=some b→Cu C f b) {R:Nat→Prop} {ι:VI} {H:WH} {M:Heap} (s:VS R ι H M) {ρ σ:Nat→AV} (h:∀t,VL M (OR R ι) ι (ρ t) (σ t)) {d:Option Nat} {o:mq} (hc:o.bO=true) {tr:TS} {k:AV→WH→List Nat→TS→Prop}
  (hk:wN C B d (o.sub ρ) H tr k):∃a M' aM v H' t dK,aN C (o.sub σ) [] M=some (a,M')∧VS R aM H' M'∧Stp H.length t ι H M aM H' M'∧VL M' (OR R aM) aM v a∧k v H' t dK:=by
 cases o with
 | store n a v =>
  simp only[mq.bO,Bool.and_eq_true]at hc
  exact Cv s (aX h hc.1) (aX h hc.2) (C:=C) (B:=B) (d:=d) (a:=(a.sub ρ).ev []) (v:=(v.sub ρ).ev []) (by simpa only[mq.sub,wN,AX.ev]using hk)
 | call f args =>
  simp only[mq.bO,Bool.and_eq_true]at hc
  have hf:=aX h hc.1
  have ha:=tT h hc.2
  simp only[mq.sub,wN]at hk
  split at hk
  case h_2=>exact hk.elim
  rename_i g caps hg
  rw[hg]at hf
  simp only[VL]at hf
  obtain⟨KM,hf,Jp⟩:=hf
  have hargs:=ha.append Jp
  simp only[mq.sub,aN,Av,hf]
  split at hk
  ·rename_i bt hbt
   obtain⟨a,M',aM,v,H',tt,dK,q1,q2,q3,q4,q5⟩:=hB g bt hbt R ι H M _ _ d tr _ s hargs hk
   exact⟨a,M',aM,v,H',tt,dK,q1,q2,q3,q4,q5⟩
  ·exact Ei s hargs hk
 | append sz bytes b x =>
  simp only[mq.bO,Bool.and_eq_true]at hc
  have hs:=aX h hc.1
  have hx:=aX h hc.2
  simp only[mq.sub,wN]at hk
  split at hk
  case h_2=>exact hk.elim
  rename_i m new S hel
  split at hk
  case h_2=>exact hk.elim
  rename_i len old H' t hbase
  obtain⟨_,hk⟩:=FL hk
  obtain⟨dK,hf,hk⟩:=eH hk
  obtain⟨e1,e2,cs',e3,e4⟩:=Cn s hx hel
  obtain⟨u1,u2⟩:=s.Ck S (ze hel)
  obtain⟨a',M',aM,q1,q2,q3,q4⟩:=Co u1 (VL.step s u2 hs) e4 e2 hbase hf
  refine⟨a',M',aM,_,_,t,dK, ?_,q2, ?_,q4,hk⟩
  ·simp only[mq.sub,aN,e1,if_true,e3,aC]
   exact q1
  ·rw[jR]at q3
   have:=u2.trans q3 (Nat.le_refl _)
   simpa using this
 | mapUpdate kd m x v =>
  simp only[mq.bO,Bool.and_eq_true]at hc
  have hm:=aX h hc.1.1
  have hx:=aX h hc.1.2
  have hv:=aX h hc.2
  simp only[mq.sub,wN]at hk
  simp only[mq.sub,aN]
  generalize (m.sub ρ).ev []=X at *
  generalize (m.sub σ).ev []=X' at *
  generalize (x.sub ρ).ev []=Y at *
  generalize (x.sub σ).ev []=Y' at *
  generalize (v.sub ρ).ev []=Z at *
  generalize (v.sub σ).ev []=Z' at *
  split at hk
  case h_2=>exact hk.elim
  rename_i r
  split at hk
  case h_2=>exact hk.elim
  rename_i es cz hg s1 s2 s3 s4
  split at hk
  case h_2=>exact hk.elim
  rename_i es' t
  obtain⟨dK,hu,hk⟩:=eH hk
  obtain⟨j,rfl,hj,he,hr⟩:=s.xO hm hg
  obtain rfl:=Bf s1 hx
  obtain rfl:=Bf s3 hv
  have hes:wm es'=true:=by
   unfold wo at hu
   obtain⟨f,hf,rfl⟩:=au.1 hu
   cases f with
   | none=>exact y9 s1 s3 he
   | some q=>exact Bh s1 s3 he
  have hd:ι.dim r=some (0,0):=by
   rcases s.blk r _ hg with⟨_,_,_,q⟩ |⟨_,_,⟨_,q,_⟩,_⟩
   ·cases q
   ·exact q
  obtain⟨q1,q2⟩:=s.Ib hr rfl hg (x:=.map es') (y:=.map es') ⟨rfl,hd,hes⟩
  refine⟨.tuple [],_,ι,.tuple [],_,[r],dK, ?_,q1,q2,by simp[VL,aR],hk⟩
  simp only[pU,hj,s4,s2]
  rw[if_neg (by simp)]
  unfold wo at hu
  obtain⟨f,hf,rfl⟩:=au.1 hu
  rw[hf,aC]
  cases f with
  | none=>rfl
  | some q=>rfl
 | eO kd m x =>
  simp only[mq.bO,Bool.and_eq_true]at hc
  have hm:=aX h hc.1
  have hx:=aX h hc.2
  simp only[mq.sub,wN]at hk
  simp only[mq.sub,aN]
  generalize (m.sub ρ).ev []=X at *
  generalize (m.sub σ).ev []=X' at *
  generalize (x.sub ρ).ev []=Y at *
  generalize (x.sub σ).ev []=Y' at *
  split at hk
  case h_2=>exact hk.elim
  rename_i r
  split at hk
  case h_2=>exact hk.elim
  rename_i es hg s1
  split at hk
  case h_2=>exact hk.elim
  rename_i es' t
  obtain⟨dK,hu,hk⟩:=eH hk
  obtain⟨j,rfl,hj,he,hr⟩:=s.xO hm hg
  obtain rfl:=Bf s1 hx
  unfold GL at hu
  obtain⟨f,hf,e⟩:=au.1 hu
  have hd:ι.dim r=some (0,0):=by
   rcases s.blk r _ hg with⟨_,_,_,q⟩ |⟨_,_,⟨_,q,_⟩,_⟩
   ·cases q
   ·exact q
  have hes:wm es'=true:=by
   subst e
   cases f with
   | none=>exact he
   | some q=>exact wJ he
  obtain⟨q1,q2⟩:=s.Ib hr rfl hg (x:=.map es') (y:=.map es') ⟨rfl,hd,hes⟩
  refine⟨.tuple [],_,ι,.tuple [],_,[r],dK, ?_,q1,q2,by simp[VL,aR],hk⟩
  simp only[pV,hj]
  rw[hf,aC]
  subst e
  cases f with
  | none =>
   have hM:M.put j (some (.map es))=M:=by
    cases M with
    | mk g nx =>
     simp only[Heap.put,Heap.mk.injEq,and_true]
     funext i
     split
     ·rename_i e
      rw[e]
      exact hj.symm
     ·rfl
   simp only[hM]
  | some q=>rfl
 | iM x =>
  have hx:=aX h hc
  simp only[mq.sub,wN]at hk
  split at hk
  case h_2=>exact hk.elim
  rename_i b sz n hX
  split at hk
  case h_2=>exact hk.elim
  rename_i c sl hg
  split at hk
  case h_2=>exact hk.elim
  rename_i Em
  rw[hX]at hx
  have hx0:=hx
  obtain⟨k1,k2,p,s',cap,ex,ha,k3,k4,k5⟩:=VL.mI s hx hg
  rw[ha]at hx0
  rcases k5 with⟨j,c',t,ro',sl',L,g1,g2,g3,g4,g5,g6,rfl,g7⟩ |⟨e,_⟩
  ·obtain⟨rfl,_⟩:=g3 rfl
   have K8:aR M (OR R ι) VI.none c c':=by
    cases sl with
    | true=>exact g6
    | false=>exact mJ (by simpa using Em) g6
   obtain⟨r1,r2⟩:=s.put g1 hg (x:=.cells c false true) (y:=.cells (c'++t) false true) ⟨c',t,false,true,L,rfl,λ_=>rfl,g4,g5,K8,λh=>by cases h⟩
   refine⟨_,_,ι,_,_,[b],_, ?_,r1,r2,VL.step s r2 hx0,hk⟩
   simp only[mq.sub,aN,ha,t_]
   rw[if_neg (by omega),g2]
  ·cases e
 | _=>simp[mq.sub,wN]at hk
def iR(R:Nat→Prop)(ι:VI)(M:Heap)(l lA:Fast):Prop:=∀t,VL M (OR R ι) ι (look l t) (look lA t)
theorem iR.step{R:Nat→Prop}{t:List Nat}{ι aM:VI}{H H':WH}{M M':Heap}(s:VS R ι H M)(k:Stp H.length t ι H M aM H' M'){l lA:Fast}(h:iR R ι M l lA):iR R aM M' l lA:=λt=>VL.step s k (h t)
theorem iT{u t:Nat}{v:AV}{r:Fast}:look ((u,v)::r) t=if u=t then v else look r t:=by
 simp only[look]
 cases h:Nat.beq u t with
 | true=>simp[aH h]
 | false =>
  have:u≠t:=λe=>by subst e;simp at h
  simp[this]
theorem iV(n:Nat)(d:Option Nat)(v:AV)(l:Fast)(t:Nat):look (eB n d v l) t=if d=some t∧t<n then v else look l t:=by
 cases d with
 | none=>simp[eB]
 | some d =>
  simp only[eB]
  cases hb:Nat.blt d n with
  | true =>
   have hd:d<n:=by simpa[Nat.blt_eq]using hb
   simp only[iT]
   by_cases he:d=t
   ·subst he
    simp[hd]
   ·simp[he]
  | false =>
   have hd:¬d<n:=λh=>by
    have:Nat.blt d n=true:=by simpa[Nat.blt_eq]using h
    rw[hb]at this
    cases this
   simp only
   rw[if_neg]
   rintro⟨h1,h2⟩
   obtain rfl:=aj h1
   exact hd h2
theorem VL.eB{M:Heap}{O:Nat→Prop}{κ:VI}{l lA:Fast}{n:Nat}{d:Option Nat}{v a:AV}{t:Nat}(h:VL M O κ (look l t) (look lA t))(hv:VL M O κ v a):VL M O κ (look (Proofs.Ytkedeiklmpkgkaa.eB n d v l) t) (look (Proofs.Ytkedeiklmpkgkaa.eB n d a lA) t):=by
 rw[iV,iV]
 split
 ·exact hv
 ·exact h
theorem iR.put{R:Nat→Prop}{ι:VI}{M:Heap}{l lA:Fast}(h:iR R ι M l lA)(n:Nat)(d:Option Nat){v a:AV}(hv:VL M (OR R ι) ι v a):iR R ι M (eB n d v l) (eB n d a lA):=λt=>VL.eB (h t) hv
theorem VL.unit{M:Heap}{O:Nat→Prop}{κ:VI}:VL M O κ (.tuple []) (.tuple []):=by simp[VL,aR]
def G6(l l':Fast):Prop:=∀t,look l' t=look l t∨∃b,look l t=.bool b∧look l' t=.bool b
theorem G6.eq{l l':Fast}(h:G6 l l')(t:Nat):look l' t=look l t:=(h t).elim id λ⟨b,h1,h2⟩=>by rw[h1,h2]
theorem wR:∀ {H:WH} {b:Nat} {x:fF},aU H b=some x→bU H b (some x)=H
 | [],_,_,h=>by cases h
 | _::_,0,_,h=>by
  simp only[aU]at h
  subst h
  rfl
 | _::r,i+1,_,h=>by
  simp only[aU]at h
  simp only[bU,wR h]
theorem nE{k:Fast→WH→TS→Prop}{R:Type}:∀ {f:Option R} (T:Tc f) (l:Fast) (H:WH),xG k T l H→∃l' dK,(∀t,look l' t=look l t)∧k l' H dK
 | _,.bd kk,l,H,h=>by
  obtain⟨x,q,h⟩:=h
  exact nE (kk x q) l H h
 | _,.gd kk,l,H,h=>by
  obtain⟨q,h⟩:=h
  exact nE (kk q) l H h
 | _,.ite (b:=b) x y,l,H,h=>by
  have hb:b=true∨b=false:=by cases b<;>simp
  rcases hb with hb | hb
  ·exact nE (x hb) l H (h.1 hb)
  ·exact nE (y hb) l H (h.2 hb)
 | _,.rv t u _ r,l,H,h=>by
  obtain⟨e,h⟩:=h
  obtain⟨l',dK,h1,h2⟩:=nE r ((t,u)::l) H h
  refine⟨l',dK,λs=>?_,h2⟩
  rw[h1,iT]
  split
  ·rename_i e'
   subst e'
   exact e.symm
  ·rfl
 | _,.rb b c _ r,l,H,h=>by
  simp only[xG]at h
  split at h
  case h_2=>exact h.elim
  rename_i c0 ro sl hg
  obtain⟨rfl,h⟩:=h
  rw[wR hg]at h
  exact nE r l H h
 | _,.leaf x v,l,H,h=>⟨l,_,λ_=>rfl,h⟩
 | _,.A_ x v Q q,l,H,h=>⟨l,_,λ_=>rfl,h⟩
 | _,.fail,l,H,h=>⟨l,_,λ_=>rfl,h⟩
 | _,.br _ _ _,l,H,h=>⟨l,_,λ_=>rfl,h⟩
 | _,.ob _ _,l,H,h=>⟨l,_,λ_=>rfl,h⟩
 | _,.v _ _ _,l,H,h=>⟨l,_,λ_=>rfl,h⟩
 | _,.z _ _ _,l,H,h=>⟨l,_,λ_=>rfl,h⟩
 | _,.ap _ _ _ _,l,H,h=>⟨l,_,λ_=>rfl,h⟩
 | _,.st _ _,l,H,h=>⟨l,_,λ_=>rfl,h⟩
 | _,.call _ _ _ _ _ _,l,H,h=>⟨l,_,λ_=>rfl,h⟩
 | _,.lp _ _ _ _ _ _ _,l,H,h=>⟨l,_,λ_=>rfl,h⟩
 | _,.jn _ _ _ _ _ _ _ _,l,H,h=>⟨l,_,λ_=>rfl,h⟩
 | _,.sk _,l,H,h=>⟨l,_,λ_=>rfl,h⟩
 | _,.cb _ _ _ _,l,H,h=>⟨l,_,λ_=>rfl,h⟩
 | _,.kl _ _,l,H,h=>⟨l,_,λ_=>rfl,h⟩
 | _,.mp _ _,l,H,h=>⟨l,_,λ_=>rfl,h⟩
 | _,.cl _ _ _ _ _ _,l,H,h=>⟨l,_,λ_=>rfl,h⟩
 | _,.er _,l,H,h=>⟨l,_,λ_=>rfl,h⟩
theorem jm{l:Fast}{H:WH}{tr:TS}{k:Fast→WH→TS→Prop}(h:pO l H tr k):∃l' dK,(∀t,look l' t=look l t)∧k l' H dK:=nE tr.tr l H h
theorem Af{g:Option (Nat×Bool)}{l:Fast}{tr:TS}{yes no:Fast→TS→Prop}(h:Jd g l tr yes no):∃l' dK,(∀t,look l' t=look l t)∧((dL g l=some true∧yes l' dK)∨(dL g l=some false∧no l' dK)):=by
 have self:∀t,look l t=look l t:=λ_=>rfl
 have like:∀ {t b},look l t=.bool b→∀u,look ((t,.bool b)::l) u=look l u:=λ{t b} hb u=>by
  rw[iT]
  split
  ·rename_i e
   subst e
   exact hb.symm
  ·rfl
 unfold Jd at h
 split at h
 ·exact⟨l,tr,self,.inl ⟨rfl,h⟩⟩
 ·rename_i t want
  split at h
  ·rename_i c hc
   have plain:∀tr,IX c want (yes l tr) (no l tr)→∃l' dK,(∀t,look l' t=look l t)∧((dL (some (t,want)) l=some true∧yes l' dK)∨(dL (some (t,want)) l=some false∧no l' dK)):=λtr h=>by
    refine⟨l,tr,self, ?_⟩
    simp only[dL,hc]
    cases c<;>cases want<;>simp_all [IX]
   split at h
   ·rename_i R0 f0 t' bq f g a b
    cases hb:Nat.beq t t' with
    | true =>
     rw[hb]at h
     simp only at h
     obtain⟨hcb,h⟩:=h
     subst hcb
     cases c with
     | true =>
      have h:=h.1 rfl
      cases want with
      | true=>exact⟨_,_,like hc,.inl ⟨by simp[dL,hc],h⟩⟩
      | false=>exact⟨_,_,like hc,.inr ⟨by simp[dL,hc],h⟩⟩
     | false =>
      have h:=h.2 rfl
      cases want with
      | true=>exact⟨_,_,like hc,.inr ⟨by simp[dL,hc],h⟩⟩
      | false=>exact⟨_,_,like hc,.inl ⟨by simp[dL,hc],h⟩⟩
    | false =>
     rw[hb]at h
     exact plain _ h
   ·exact plain _ h
  ·rename_i vs hc
   exact⟨l,tr,self,.inr ⟨by simp[dL,hc],h⟩⟩
  ·exact h.elim
theorem l6{R:Nat→Prop}{ι:VI}{M:Heap}{l lA:Fast}(h:iR R ι M l lA){g:Option (Nat×Bool)}{w:Bool}(hw:dL g l=some w):dL g lA=some w:=by
 cases g with
 | none=>exact hw
 | some g =>
  obtain⟨t,want⟩:=g
  have ht:=h t
  simp only[dL]at hw ⊢
  generalize look l t=X at *
  cases X<;>simp only at hw<;>first |(cases hw;done) | skip
  ·rw[ht.eq rfl]
   exact hw
  ·simp only[VL]at ht
   obtain⟨cs',e,_⟩:=ht
   rw[e]
   exact hw
theorem nG {C:aQ} {B:FuncId→Option Bt} (hB:∀f b,B f=some b→Cu C f b) {R:Nat→Prop} {n:Nat}:∀(ops:List kG) (l lA:Fast) (H:WH) (M:Heap) (ι:VI) (tr:TS) (k:Fast→WH→TS→Prop),VS R ι H M→iR R ι M l lA→(ops.all λo=>o.op.bO)=true →
  vF C B n ops l H tr k→∃iJ M' aM l' H' dK t,qF C n ops lA M=some (iJ,M')∧VS R aM H' M'∧Stp H.length t ι H M aM H' M'∧iR R aM M' l' iJ∧k l' H' dK
 | [],l,lA,H,M,ι,tr,k,s,he,hc,h=>⟨lA,M,ι,l,H,tr,[],rfl,s,.refl _ _ _ _ _ (Nat.le_refl _),he,h⟩
 | o::r,l,lA,H,M,ι,tr,k,s,he,hc,h=>by
  simp only[List.all_cons,Bool.and_eq_true]at hc
  simp only[vF]at h
  obtain⟨l0,K9,hl0,h⟩:=jm h
  have he:iR R ι M l0 lA:=λt=>by rw[hl0 t];exact he t
  obtain⟨l1,tr1,hl,h⟩:=Af h
  have he1:iR R ι M l1 lA:=λt=>by rw[hl t];exact he t
  rcases h with⟨hw,h⟩ |⟨hw,h⟩
  ·obtain⟨l2,tr2,hl2,h⟩:=jm h
   have he1:iR R ι M l2 lA:=λt=>by rw[hl2 t];exact he1 t
   simp only[qF,l6 he hw]
   cases ho:o.op with
   | p op =>
    rw[ho]at h hc
    simp only at h
    obtain⟨v,u,tr2,h1,h2,h3⟩:=xV (R:=R) h
    obtain⟨a,h4,h5⟩:=D9 he1 hc.1 h1
    obtain⟨iJ,M',aM,l',H',dK,t,q1,q2⟩:=nG hB r _ _ H M ι tr2 k s (he1.put n o.dst (h3 _ _ _ _ h5)) hc.2 h2
    refine⟨iJ,M',aM,l',H',dK,t, ?_,q2⟩
    simp only[lH.sub,uf,h4,aG,force_eq]
    exact q1
   | l op =>
    rw[ho]at h hc
    simp only at h
    obtain⟨v,u,tr2,h1,h2,h3⟩:=xV (R:=R) h
    obtain⟨a,h4,h5⟩:=wM s he1 hc.1 h1
    obtain⟨iJ,M',aM,l',H',dK,t,q1,q2⟩:=nG hB r _ _ H M ι tr2 k s (he1.put n o.dst (h3 _ _ _ _ h5)) hc.2 h2
    refine⟨iJ,M',aM,l',H',dK,t, ?_,q2⟩
    simp only[lH.sub,uf,h4,aG,force_eq]
    exact q1
   | k op =>
    rw[ho]at h hc
    by_cases hmk:op=.makeMap
    ·subst hmk
     simp only at h
     obtain⟨s1,k1⟩:=s.push (x:=.map []) (y:=.map []) (d:=(0,0)) ⟨rfl,rfl,rfl⟩
     have hv:VL (M.push (.map [])) (OR R (ι.add H.length M.next (0,0))) (ι.add H.length M.next (0,0)) (.map (some H.length)) (.map (some M.next)):=by
      simp only[VL]
      exact⟨M.next,by simp[VI.add,setAt],rfl⟩
     obtain⟨iJ,M',aM,l',H',dK,t,q1,q2,q3,q4⟩:=nG hB r _ _ _ _ _ tr2 k s1 ((he1.step s k1).put n o.dst hv) hc.2 h
     refine⟨iJ,M',aM,l',H',dK,t, ?_,q2, ?_,q4⟩
     ·simp only[lH.sub,nZ.sub,uf,aK,aG,force_eq]
      exact q1
     ·have:=k1.trans q3 k1.next
      simpa using this
    have h:wK o.dst (op.sub (look l2)) tr2 (λx mk tr=>vF C B n r (eB n o.dst (mk H.length) l2) (H++[some x]) tr k):=by
     cases op<;>first | exact h | exact absurd rfl hmk
    obtain⟨c,sl,mk,c',sl',JQ,tr2,h1,h2,h3,hss,h4⟩:=GZ s he1 hc.1 h
    obtain⟨s1,k1⟩:=s.push (BL.of (sl':=sl') h3 hss)
    have hv:=h4 (M.push (.cells c' false sl')) (OR R (ι.add H.length M.next (c.length,c'.length))) (ι.add H.length M.next (c.length,c'.length)) H.length M.next (by simp[VI.add,setAt]) (by simp[VI.add,setAt])
    obtain⟨iJ,M',aM,l',H',dK,t,q1,q2,q3,q4⟩:=nG hB r _ _ _ _ _ tr2 k s1 ((he1.step s k1).put n o.dst hv) hc.2 h1
    refine⟨iJ,M',aM,l',H',dK,t, ?_,q2, ?_,q4⟩
    ·simp only[lH.sub,uf,h2,aG,force_eq]
     exact q1
    ·have:=k1.trans q3 k1.next
     simpa using this
   | n op =>
    rw[ho]at h hc
    simp only at h
    obtain⟨a,M1,eu,v,H1,t1,tr2,h1,h2,h3,h4,h5⟩:=G5 hB s he1 hc.1 h
    obtain⟨iJ,M',aM,l',H',dK,t,q1,q2,q3,q4⟩:=nG hB r _ _ _ _ _ tr2 k h2 ((he1.step s h3).put n o.dst h4) hc.2 h5
    refine⟨iJ,M',aM,l',H',dK,t1++t, ?_,q2,h3.trans q3 h3.next,q4⟩
    simp only[lH.sub,uf,h1,force_eq]
    exact q1
  ·simp only[qF,l6 he hw]
   exact nG hB r _ _ H M ι tr1 k s (he1.put n o.dst VL.unit) hc.2 h
theorem sw:∀(k i:Nat),aU (holes k) i=none
 | 0,i=>rfl
 | k+1,0=>rfl
 | k+1,i+1=>sw k i
theorem oQ:∀k,(holes k).length=k
 | 0=>rfl
 | k+1=>by simp[holes,oQ k]
def VI.room(ι:VI)(a b nk:Nat):VI:=⟨λi=>if a≤i∧i<a+nk then some (b+(i-a))else ι i,λi=>if a≤i∧i<a+nk then false else ι.rX i,λi=>if a≤i∧i<a+nk then false else ι.gone i,λi=>if a≤i∧i<a+nk then Option.none else ι.dim i⟩
theorem VS.room {R:Nat→Prop} {ι:VI} {H:WH} {M:Heap} (s:VS R ι H M) (nk:Nat) :
  VS R (ι.room H.length M.next nk) (H++holes nk) { M with next:=M.next+nk }∧Stp H.length [] ι H M (ι.room H.length M.next nk) (H++holes nk) { M with next:=M.next+nk }:=by
 have gp:∀i,aU (H++holes nk) i=aU H i:=λi=>by
  rw[qK]
  split
  ·rfl
  ·rename_i h
   rw[sw,xK (Nat.le_of_not_lt h)]
 have out:∀i,i<H.length→¬(H.length≤i∧i<H.length+nk):=λi h=>by omega
 have hls:∀S,VI.Le ι (ι.room H.length M.next nk) S:=λS i _ =>
  ⟨λj h=>by simp only[VI.room,if_neg (out i (s.lt i j h).1)];exact⟨h,λ_ h=>h⟩,λh=>by simp only[VI.room,if_neg (out i (s.jy i h).1)];exact⟨h,λ_ h=>h⟩⟩
 have hk:Keeps M (own ι) { M with next:=M.next+nk } (own (ι.room H.length M.next nk)):=⟨Nat.le_add_right _ _,λb hb ho=>⟨rfl,λ⟨i,hi,hg⟩=>by
  simp only[VI.room]at hi hg
  split at hi
  ·obtain rfl:=aj hi;omega
  ·rename_i hne
   rw[if_neg hne]at hg
   exact ho ⟨i,hi,hg⟩⟩⟩
 have ac:∀i,¬(H.length≤i∧i<H.length+nk)→act (ι.room H.length M.next nk) (H++holes nk) i→act ι H i:=λi hn h=>h.imp (λ⟨x,h⟩=>⟨x,by rw[gp]at h;exact h⟩) (λh=>by simpa only[VI.room,if_neg hn]using h)
 refine⟨⟨λi j h=>?_,λi i' j h h' e e' g=>?_,λi x hx=>?_,λi h=>?_,λi hi c sl h=>?_,λi hi=>s.zY i (by have:M.next+nk≤i:=hi;omega),λj h=>⟨Nat.lt_of_lt_of_le (s.res j h).1 (Nat.le_add_right _ _),λi hi=>?_⟩⟩,
  ⟨hk,hls _,λi hi h=>by simp only[VI.room,if_neg (out i hi)];exact h,λi hi=>by simp only[VI.room,if_neg (out i hi)],λi hi=>by simp only[VI.room,if_neg (out i hi)],λi hi _=>by simp only[VI.room,if_neg (out i hi)],λi _ ⟨x,h⟩=>⟨x,by rw[gp]at h;exact h⟩,λ_ _ _ _ _ _=>rfl,by simp⟩⟩
 ·simp only[VI.room]at h
  simp only[aI,oQ]
  split at h
  ·obtain rfl:=aj h
   omega
  ·have:=s.lt i j h
   omega
 ·simp only[VI.room]at e e'
  split at e<;>split at e'
  ·have e1:=aj e
   have e2:=aj e'
   omega
  ·obtain rfl:=aj e
   have:=(s.lt _ _ e').2
   omega
  ·obtain rfl:=aj e'
   have:=(s.lt _ _ e).2
   omega
  ·rename_i n1 n2
   simp only[VI.room,if_neg n1,if_neg n2]at g
   exact s.inj i i' j (ac i n1 h) (ac i' n2 h') e e' g
 ·rw[gp]at hx
  have hl:=out i (gK hx)
  simp only[VI.room,if_neg hl]
  rcases s.blk i x hx with h |⟨j,h1,h2,h3⟩
  ·exact .inl h
  ·exact .inr ⟨j,h1,h2.mono (hk.or R) hls (λ_ h=>h),h3⟩
 ·simp only[VI.room]at h ⊢
  split at h
  ·cases h
  ·rename_i hn
   rw[if_neg hn]
   have:=s.jy i h
   simp only[aI,oQ]
   exact⟨by omega,this.2⟩
 ·rw[gp]at h
  have hl:=out i (gK h)
  simp only[VI.room,if_neg hl]at hi
  exact s.iw i hi c sl h
 ·simp only[VI.room]
  split
  ·rename_i hn
   intro e
   obtain rfl:=aj e
   have:=(s.res _ h).1
   omega
  ·rename_i hn
   exact(s.res j h).2 i (ac i hn hi)
def VI.fill(ι:VI)(i:Nat)(d:Nat×Nat):VI:=⟨ι.to,ι.rX,ι.gone,setAt ι.dim i (some d)⟩
theorem VS.fill {R:Nat→Prop} {ι:VI} {H:WH} {M:Heap} (s:VS R ι H M) {b j:Nat} (hb:ι b=some j) (hg:ι.gone b=false) (hd:ι.dim b=none) (hn:aU H b=none) {x y:fF} {d:Nat×Nat} (hx:BL M (OR R ι) ι (some d) x (some y)) :
  VS R (ι.fill b d) (bU H b (some x)) (M.put j (some y))∧Keeps M (own ι) (M.put j (some y)) (own (ι.fill b d))∧(∀S,VI.Le ι (ι.fill b d) S)∧(∀i j',i≠b→act ι H i→ι i=some j'→(M.put j (some y)).get j'=M.get j'):=by
 have hbl:=(s.lt b j hb).1
 have hk:Keeps M (own ι) (M.put j (some y)) (own (ι.fill b d)):=⟨Nat.le_refl _,λb' _ ho=>⟨by
  have:b'≠j:=λe=>ho (e ▸ ⟨b,hb,hg⟩)
  simp[Heap.put,this],ho⟩⟩
 have hls:∀S,VI.Le ι (ι.fill b d) S:=λS i _=>by
  by_cases e:i=b
  ·subst e
   exact⟨λj h=>⟨h,λd h=>by rw[hd]at h;cases h⟩,λh=>⟨h,λd h=>by rw[hd]at h;cases h⟩⟩
  ·simp only[VI.fill,aS _ _ e]
   exact⟨λj h=>⟨h,λd h=>h⟩,λh=>⟨h,λd h=>h⟩⟩
 have gp:∀k,aU (bU H b (some x)) k=if k=b then some x else aU H k:=λk=>by
  rw[gD]
  by_cases e:k=b
  ·rw[if_pos ⟨e,hbl⟩,if_pos e]
  ·rw[if_neg (λh=>e h.1),if_neg e]
 have ac:∀i,act (ι.fill b d) (bU H b (some x)) i→act ι H i:=λi h=>by
  rcases h with⟨z,h⟩ | h
  ·rw[gp]at h
   by_cases e:i=b
   ·subst e
    exact .inr hg
   ·rw[if_neg e]at h
    exact .inl ⟨z,h⟩
  ·exact .inr h
 have ne:∀i j',i≠b→act ι H i→ι i=some j'→j'≠j:=λi j' hi ha h e=>hi (s.inj i b j ha (.inr hg) (e ▸ h) hb (.inr hg))
 refine⟨⟨λi j h=>by rw[bn];exact s.lt i j h,λi i' j h h'=>s.inj i i' j (ac i h) (ac i' h'),λi z hz=>?_,λi h=>by rw[bn];exact s.jy i h,λi hi c sl h=>?_,λi hi=>?_,λj h=>⟨(s.res j h).1,λi hi=>(s.res j h).2 i (ac i hi)⟩⟩,hk,hls,λi j' hi ha h=>by simp[Heap.put,ne i j' hi ha h]⟩
 ·rw[gp]at hz
  by_cases e:i=b
  ·subst e
   rw[if_pos rfl]at hz
   obtain rfl:=aj hz
   refine .inr ⟨j,hb, ?_,λ_=>hg⟩
   simp only[Heap.put,if_true]
   exact hx.mono (hk.or R) hls (λ_ h=>by simpa[VI.fill,setAt]using h)
  ·rw[if_neg e]at hz
   rcases s.blk i z hz with⟨h1,h2,h3⟩ |⟨j',h1,h2,h3⟩
   ·exact .inl ⟨h1,by simp only[VI.fill,aS _ _ e];exact h2,h3⟩
   ·refine .inr ⟨j',h1, ?_,h3⟩
    simp only[Heap.put,if_neg (ne i j' e (.inl ⟨z,hz⟩) h1)]
    exact h2.mono (hk.or R) hls (λ_ h=>by simp only[VI.fill,aS _ _ e];exact h)
 ·rw[gp]at h
  by_cases e:i=b
  ·subst e
   have:ι.gone i=true:=hi
   rw[hg]at this
   cases this
  ·rw[if_neg e]at h
   exact s.iw i hi c sl h
 ·have:=(s.lt b j hb).2
  have:i≠j:=λe=>by subst e;simp only[Heap.put]at hi;omega
  simp only[Heap.put,if_neg this]
  exact s.zY i hi
mutual
theorem VL.jT{M:Heap}{O:Nat→Prop}{κ:VI}:∀(v a:AV),known v=true→VL M O κ v a→AV.same a a=true
 |.undef,_,h,_=>by simp[known]at h
 |.bool _,_,_,e=>by simp only[VL]at e;subst e;simp[AV.same]
 |.int _ _,_,_,e=>by simp only[VL]at e;subst e;simp[AV.same]
 |.str _,_,_,e=>by simp only[VL]at e;subst e;simp[AV.same]
 |.ptr none,_,_,e=>by simp only[VL]at e;subst e;simp[AV.same]
 |.ptr (some q),_,_,e=>by simp only[VL]at e;obtain⟨j,_,rfl⟩:=e;simp[AV.same]
 |.slice none _ _ _ _,_,_,e=>by simp only[VL]at e;obtain⟨_,s',rfl⟩:=e;simp[AV.same]
 |.slice (some _) _ _ _ _,_,_,e=>by simp[VL]at e
 |.map none,_,_,e=>by simp only[VL]at e;subst e;simp[AV.same]
 |.map (some r),_,_,e=>by simp only[VL]at e;obtain⟨j,_,rfl⟩:=e;simp[AV.same]
 |.func f cs,_,h,e=>by
  simp only[VL]at e
  obtain⟨cs',rfl,e⟩:=e
  simp only[AV.same,Bool.and_eq_true,beq_self_eq_true,true_and]
  exact aR.jT cs cs' (by simpa[known]using h) e
 |.nilFunc,_,_,e=>by simp only[VL]at e;subst e;simp[AV.same]
 |.agg cs,_,h,e=>by
  simp only[VL]at e
  obtain⟨cs',rfl,e⟩:=e
  simp only[AV.same]
  exact aR.jT cs cs' (by simpa[known]using h) e
 |.tuple cs,_,h,e=>by
  simp only[VL]at e
  obtain⟨cs',rfl,e⟩:=e
  simp only[AV.same]
  exact aR.jT cs cs' (by simpa[known]using h) e
 |.list ..,_,_,e=>by
  simp only[VL]at e
  rcases e with⟨_,_,s',rfl⟩ |⟨b,o,cap,ex',rfl,_⟩<;>simp[AV.same]
 |.elem _,_,_,e=>by simp only[VL]at e;obtain⟨b,o,c,ro,sl,rfl,_⟩:=e;simp[AV.same]
 |.acc ..,_,_,e=>by simp only[VL]at e;obtain⟨p,s',cap,ex,rfl,_⟩:=e;simp[AV.same]
theorem aR.jT{M:Heap}{O:Nat→Prop}{κ:VI}:∀(l r:List AV),rY l=true→aR M O κ l r→AV.n_ r r=true
 | [],[],_,_=>by simp[AV.n_]
 | v::l,a::r,h,e=>by
  simp only[aR]at e
  simp only[rY]at h
  split at h
  ·rename_i hv
   simp only[AV.n_,Bool.and_eq_true]
   exact⟨VL.jT v a hv e.1,aR.jT l r h e.2⟩
  ·cases h
 | [],_::_,_,e=>by simp[aR]at e
 | _::_,[],_,e=>by simp[aR]at e
end
theorem zm(u k:Nat)(bt:List (Nat×Nat))(t:Nat):f_ ((u,k)::bt) t=if u=t then k else f_ bt t:=by
 simp only[f_]
 cases h:Nat.beq u t with
 | true=>simp[aH h]
 | false =>
  have:u≠t:=λe=>by subst e;simp at h
  simp[this]
theorem qc(n:Nat)(d:Option Nat)(k:Nat)(bt:List (Nat×Nat))(t:Nat):f_ (fq n d k bt) t=if d=some t∧t<n then k else f_ bt t:=by
 cases d with
 | none=>simp[fq]
 | some d =>
  simp only[fq]
  cases hb:Nat.blt d n with
  | true =>
   have hd:d<n:=by simpa[Nat.blt_eq]using hb
   simp only[zm]
   by_cases he:d=t
   ·subst he
    simp[hd]
   ·simp[he]
  | false =>
   have hd:¬d<n:=λh=>by
    have:Nat.blt d n=true:=by simpa[Nat.blt_eq]using h
    rw[hb]at this
    cases this
   simp only
   rw[if_neg]
   rintro⟨h1,h2⟩
   obtain rfl:=aj h1
   exact hd h2
def o9(bt:List (Nat×Nat))(k:Nat)(ρ:Nat→AV):Nat→AV:=λt=>if f_ bt t≤k then ρ t else .undef
theorem Bu{bt:List (Nat×Nat)}{k:Nat}{ρ:Nat→AV}{x:AX}(h:fI bt x≤k):x.sub (o9 bt k ρ)=x.sub ρ:=by
 cases x with
 | t t=>simp only[fI]at h;simp only[AX.sub,o9];rw[if_pos h]
 | c v=>rfl
theorem Eo{bt:List (Nat×Nat)}{k:Nat}{ρ:Nat→AV}{x:Option AX}(h:xH bt x≤k):AX.dG (o9 bt k ρ) x=AX.dG ρ x:=by
 cases x with
 | none=>rfl
 | some x=>simp only[AX.dG,aG,Bu h]
theorem Cw{bt:List (Nat×Nat)}{n k:Nat}{ρ:Nat→AV}{o:fB}(hk:k<n)(h:yZ bt n o≤k):o.sub (o9 bt k ρ)=o.sub ρ:=by
 cases o<;>simp only[yZ]at h<;>first | omega | skip
 all_goals simp only[fB.sub]
 all_goals (repeat rw[Bu (by omega)])
 all_goals (repeat rw[Eo (by omega)])
theorem dX{b:Nat}{t:List Nat×WH}{r:List (List Nat×WH)}:touches b (t::r)=false↔b∉t.1∧touches b r=false:=by
 simp only[touches]
 cases h:gN t.1 b with
 | true=>simp[jk.1 h]
 | false=>simp[show b∉t.1 from λe=>by rw[jk.2 e]at h;cases h]
theorem sV{b:Nat}{t:List Nat×WH}:∀ {r:List (List Nat×WH)},touches b (r++[t])=false↔touches b r=false∧b∉t.1
 | []=>by rw[List.nil_append,dX];simp[touches]
 | u::r=>by rw[List.cons_append,dX,dX,sV,and_assoc]
structure HK(R:Nat→Prop)(base aY nk k:Nat)(gP ι:VI)(H:WH)(M:Heap)(l lA:Fast)(bt:List (Nat×Nat))(hs:List (List Nat×WH))(Mk:Heap)(iW:VI):Prop where
 keep:Keeps Mk (own iW) M (own ι)
 env:∀t,f_ bt t≤k+1→VL Mk (OR R iW) iW (look l t) (look lA t)
 new:∀i,i<nk→iW (base+i)=some (aY+i)
 gone:∀i,i<nk→iW.gone (base+i)=true→ι.gone (base+i)=true
 same:∀i j,i<base→act ι H i→gP i=some j→touches i (hs.drop k)=false→M.get j=Mk.get j
structure DI(R:Nat→Prop)(base aY nk:Nat)(gP:VI)(M0:Heap)(ι:VI)(H:WH)(M:Heap)(l lA:Fast)(bt:List (Nat×Nat))(al:List Nat)(hs:List (List Nat×WH))(dh:List Heap):Prop where
 vs:VS R ι H M
 len:base+nk≤H.length
 env:iR R ι M l lA
 new:∀i,i<nk→ι (base+i)=some (aY+i)
 free:∀i,i<nk→gN al i=false→ι.gone (base+i)=false∧ι.dim (base+i)=none∧aU H (base+i)=none
 start:∀t,f_ bt t=0→VL M0 (OR R gP) gP (look l t) (look lA t)
 low:∀i j,gP i=some j→i<base∧j<aY
 Ih:VI.Le gP ι (λi=>i<base)
 CX:∀i,i<base→ι i=gP i
 m0:M0.next=aY
 hlen:hs.length=dh.length
 hist:∀k Mk,dh[k]?=some Mk→∃iW,HK R base aY nk k gP ι H M l lA bt hs Mk iW∧∃t Hk,hs[k]?=some (t,Hk)∧VS R iW Hk Mk
section
variable {R:Nat→Prop} {base aY nk:Nat} {gP:VI} {M0:Heap} {ι:VI} {H:WH} {M:Heap} {l lA:Fast} {bt:List (Nat×Nat)} {al:List Nat} {hs:List (List Nat×WH)} {dh:List Heap}
theorem HK.put{k:Nat}{Mk:Heap}{iW:VI}(g:HK R base aY nk k gP ι H M l lA bt hs Mk iW)(n:Nat)(d:Option Nat)(b:Nat){v a:AV}(hv:b≤k+1→VL Mk (OR R iW) iW v a):HK R base aY nk k gP ι H M (eB n d v l) (eB n d a lA) (fq n d b bt) hs Mk iW :=
 ⟨g.keep,λt ht=>by
  rw[iV,iV]
  rw[qc]at ht
  split
  ·rename_i h
   rw[if_pos h]at ht
   exact hv ht
  ·rename_i h
   rw[if_neg h]at ht
   exact g.env t ht,g.new,g.gone,g.same⟩
theorem DI.put (g:DI R base aY nk gP M0 ι H M l lA bt al hs dh) (n:Nat) (d:Option Nat) (b:Nat) {v a:AV} (hv:VL M (OR R ι) ι v a) (h0:b=0→VL M0 (OR R gP) gP v a)
  (hk:∀k Mk iW,k<hs.length→HK R base aY nk k gP ι H M l lA bt hs Mk iW→b≤k+1→VL Mk (OR R iW) iW v a):DI R base aY nk gP M0 ι H M (eB n d v l) (eB n d a lA) (fq n d b bt) al hs dh :=
 ⟨g.vs,g.len,g.env.put n d hv,g.new,g.free,λt ht=>by
  rw[iV,iV]
  rw[qc]at ht
  split
  ·rename_i h
   rw[if_pos h]at ht
   exact h0 ht
  ·rename_i h
   rw[if_neg h]at ht
   exact g.start t ht,g.low,g.Ih,g.CX,g.m0,g.hlen,λk Mk h=>by
   obtain⟨iW,q,q2⟩:=g.hist k Mk h
   exact⟨iW,q.put n d b λhb=>hk k Mk iW (by rw[g.hlen];exact(aA.1 h).1) q hb,q2⟩⟩
theorem DI.Ki (g:DI R base aY nk gP M0 ι H M l lA bt al hs dh) (n:Nat) (d:Option Nat) (b:Nat) {v a:AV} (hv:VL M (OR R ι) ι v a) (h0:b=0→VL M0 (OR R gP) gP v a)
  (hk:∀k Mk iW t Hk,dh[k]?=some Mk→HK R base aY nk k gP ι H M l lA bt hs Mk iW→hs[k]?=some (t,Hk)→VS R iW Hk Mk→b≤k+1→VL Mk (OR R iW) iW v a):DI R base aY nk gP M0 ι H M (eB n d v l) (eB n d a lA) (fq n d b bt) al hs dh :=
 ⟨g.vs,g.len,g.env.put n d hv,g.new,g.free,λt ht=>by
  rw[iV,iV]
  rw[qc]at ht
  split
  ·rename_i h
   rw[if_pos h]at ht
   exact h0 ht
  ·rename_i h
   rw[if_neg h]at ht
   exact g.start t ht,g.low,g.Ih,g.CX,g.m0,g.hlen,λk Mk h=>by
   obtain⟨iW,q,t,Hk,q2,q3⟩:=g.hist k Mk h
   exact⟨iW,q.put n d b λhb=>hk k Mk iW t Hk h q q2 q3 hb,t,Hk,q2,q3⟩⟩
theorem DI.now(g:DI R base aY nk gP M0 ι H M l lA bt al hs dh)(n:Nat)(d:Option Nat){v a:AV}(hv:VL M (OR R ι) ι v a):DI R base aY nk gP M0 ι H M (eB n d v l) (eB n d a lA) (fq n d (hs.length+1) bt) al hs dh :=
 g.put n d (hs.length+1) hv (λh=>by omega) (λk Mk iW hk _ hb=>by omega)
theorem DI.like{l':Fast}(g:DI R base aY nk gP M0 ι H M l lA bt al hs dh)(h:∀t,look l' t=look l t):DI R base aY nk gP M0 ι H M l' lA bt al hs dh :=
 ⟨g.vs,g.len,λt=>by rw[h t];exact g.env t,g.new,g.free,λt ht=>by rw[h t];exact g.start t ht,g.low,g.Ih,g.CX,g.m0,g.hlen,λk Mk e=>by
  obtain⟨iW,q,q2⟩:=g.hist k Mk e
  exact⟨iW,⟨q.keep,λt ht=>by rw[h t];exact q.env t ht,q.new,q.gone,q.same⟩,q2⟩⟩
theorem DI.loud(g:DI R base aY nk gP M0 ι H M l lA bt al hs dh){t:List Nat}{aM:VI}{H':WH}{M':Heap}(s':VS R aM H' M')(k:Stp H.length t ι H M aM H' M'):DI R base aY nk gP M0 aM H' M' l lA bt al (hs++[(t,H)]) (dh++[M]):=by
 have hb:∀i,i<nk→base+i<H.length:=λi hi=>by have:=g.len;omega
 have nw:∀i,i<nk→aM (base+i)=some (aY+i):=λi hi=>((k.le _ (hb i hi)).1 _ (g.new i hi)).1
 refine⟨s',Nat.le_trans g.len k.next,g.env.step g.vs k,nw,λi hi ha=>?_,g.start,g.low,g.Ih.trans (k.le.sub λi hi=>by have:=g.len;have:i<base:=hi;show i<H.length;omega),λi hi=>(k.GN i (by have:=g.len;omega)).trans (g.CX i hi),g.m0,by simp[g.hlen],λq Mk hq=>?_⟩
 ·obtain⟨h1,h2,h3⟩:=g.free i hi ha
  refine⟨by rw[k.wz _ (hb i hi) h3];exact h1,by rw[k.zZ _ (hb i hi)];exact h2, ?_⟩
  cases e:aU H' (base+i)with
  | none=>rfl
  | some x =>
   obtain⟨y,hy⟩:=k.live _ (hb i hi) ⟨x,e⟩
   rw[h3]at hy
   cases hy
 ·rcases Nat.lt_or_ge q dh.length with hlt | hge
  ·rw[List.getElem?_append_left hlt]at hq
   obtain⟨iW,w,t0,Hk,w2,w3⟩:=g.hist q Mk hq
   refine⟨iW,⟨w.keep.trans k.keep,w.env,w.new,λi hi h=>k.gone _ (hb i hi) (w.gone i hi h),λi j hi ha hj ht=>?_⟩,t0,Hk,by rw[List.getElem?_append_left (by rw[g.hlen];exact hlt)];exact w2,w3⟩
   rw[List.drop_append_of_le_length (by rw[g.hlen];omega),sV]at ht
   have hi':i<H.length:=by have:=g.len;omega
   exact(k.IW i j hi' ha ((g.Ih i hi).1 j hj).1 ht.2).trans (w.same i j hi (k.act hi' ha) hj ht.1)
  ·rw[List.getElem?_append_right hge]at hq
   have hqe:q=dh.length:=by
    rcases Nat.eq_or_lt_of_le hge with e | e
    ·exact e.symm
    ·rw[List.getElem?_eq_none (by simp;omega)]at hq;cases hq
   subst hqe
   simp only[Nat.sub_self,List.getElem?_cons_zero,ak]at hq
   subst hq
   refine⟨ι,⟨k.keep,λu _=>g.env u,g.new,λi hi h=>k.gone _ (hb i hi) h,λi j hi ha hj ht=>?_⟩,t,H,by rw[←g.hlen,List.getElem?_append_right (Nat.le_refl _)];simp,g.vs⟩
   rw[←g.hlen,List.drop_append_of_le_length (Nat.le_refl _),List.drop_length,List.nil_append,dX]at ht
   exact k.IW i j (by have:=g.len;omega) ha ((g.Ih i hi).1 j hj).1 ht.1
theorem qd:∀ {al:List Nat} {m:Nat},mH H base al=true→gN al m=true→∃c sl,aU H (base+m)=some (.cells c false sl)
 | [],m,_,h=>by simp[gN]at h
 | a::r,m,ht,h=>by
  simp only[mH]at ht
  split at ht
  case h_2=>cases ht
  rename_i c sl hg
  rcases List.mem_cons.1 (jk.1 h)with e | e
  ·exact⟨c,sl,e ▸ hg⟩
  ·exact qd ht (jk.2 e)
theorem DI.owns(g:DI R base aY nk gP M0 ι H M l lA bt al hs dh)(ht:mH H base al=true){b:Nat}(h1:aY≤b)(h2:b<aY+nk):own ι b:=by
 have e:aY+(b-aY)=b:=by omega
 refine⟨base+(b-aY),by rw[g.new _ (by omega),e], ?_⟩
 cases ha:gN al (b-aY)with
 | false=>exact(g.free _ (by omega) ha).1
 | true =>
  obtain⟨c,sl,hg⟩:=qd ht ha
  cases hgo:ι.gone (base+(b-aY))with
  | false=>rfl
  | true=>exact absurd hg (g.vs.iw _ hgo c sl)
theorem DI.owned (g:DI R base aY nk gP M0 ι H M l lA bt al hs dh) {lo:Nat} (ht:(mH H base al||oC hs lo base al)=true) {b:Nat} (h1:aY≤b) (h2:b<aY+nk) :
  own ι b∨∃k Mk iW,lo≤k∧dh[k]?=some Mk∧HK R base aY nk k gP ι H M l lA bt hs Mk iW∧own iW b:=by
 rcases Bool.or_eq_true_iff.1 ht with ht | ht
 ·exact .inl (g.owns ht h1 h2)
 have e:aY+(b-aY)=b:=by omega
 cases ha:gN al (b-aY)with
 | false=>exact .inl ⟨base+(b-aY),by rw[g.new _ (by omega),e],(g.free _ (by omega) ha).1⟩
 | true =>
  right
  unfold oC at ht
  split at ht
  case h_2=>cases ht
  rename_i tk Hk rest hd
  have hk:hs[lo]?=some (tk,Hk):=by
   have:(hs.drop lo)[0]?=some (tk,Hk):=by rw[hd];rfl
   rw[List.getElem?_drop]at this
   exact this
  have hl:lo<dh.length:=by rw[←g.hlen];exact(aA.1 hk).1
  obtain⟨iW,w,t',LD,w2,w3⟩:=g.hist lo dh[lo] (aJ hl)
  rw[hk]at w2
  cases w2
  obtain⟨c,sl,hg⟩:=qd ht ha
  refine⟨lo,_,iW,Nat.le_refl _,aJ hl,w,base+(b-aY),by rw[w.new _ (by omega),e], ?_⟩
  cases hgo:iW.gone (base+(b-aY))with
  | false=>rfl
  | true=>exact absurd hg (w3.iw _ hgo c sl)
theorem jU{X:Heap}{b:Nat}(h:¬(aY≤b∧b<aY+nk)):(X.hide aY nk).get b=X.get b:=by
 simp only[Heap.hide]
 rw[if_neg h]
theorem oU{g:Bool}{n b o:Nat}{X Y:Heap}(h:X.get b=Y.get b):lQ g n (.ptr (some (b,o))) X=lQ g n (.ptr (some (b,o))) Y:=by
 simp only[lQ,Heap.read,h]
theorem pQ{sz len cap:Nat}{ex:Bool}{b o:Nat}{X Y:Heap}(h:len≠0→X.get b=Y.get b):gZ (.slice (some (b,o)) sz len cap ex) X=gZ (.slice (some (b,o)) sz len cap ex) Y:=by
 unfold gZ
 split<;>first | rfl | skip
 rename_i e
 cases e
 split
 ·rfl
 ·rename_i hl
  simp only[Heap.read,h hl]
theorem FN (g:DI R base aY nk gP M0 ι H M l lA bt al hs dh) {o:iY} (hc:o.bO=true) {v u:AV} (hv:wL (o.sub (look l)) H=some v) (hu:∀(M:Heap) (O:Nat→Prop) (κ:VI) (a:AV),VL M O κ v a→VL M O κ u a) {lo:Nat} (hok:uN base al l bt lo o u H hs=true) :
  ∃a,aL (o.sub (look lA)) [] (M.hide aY nk)=some a∧VL M (OR R ι) ι u a∧∀k Mk,lo≤k→dh[k]?=some Mk→∃w,aL (o.sub (look lA)) [] (Mk.hide aY nk)=some w∧AV.same w a=true:=by
 obtain⟨a,h1,h2⟩:=wM g.vs g.env hc hv
 have h3:=hu _ _ _ _ h2
 -- all read the same
 have fin:known u=true→(∀X,(X=M∨∃k,lo≤k∧dh[k]?=some X)→aL (o.sub (look lA)) [] (X.hide aY nk)=aL (o.sub (look lA)) [] M)→∃a,aL (o.sub (look lA)) [] (M.hide aY nk)=some a∧VL M (OR R ι) ι u a∧∀k Mk,lo≤k→dh[k]?=some Mk→∃w,aL (o.sub (look lA)) [] (Mk.hide aY nk)=some w∧AV.same w a=true :=
  λhkn hX=>⟨a,(hX M (.inl rfl)).trans h1,h3,λk Mk hk hM=>⟨a,(hX Mk (.inr ⟨k,hk,hM⟩)).trans h1,VL.jT u a hkn h3⟩⟩
 unfold uN at hok
 -- a list
 have LG:∀(t:Nat),fI bt (.t t)=oz bt o→Nat.ble (oz bt o) lo=true→(mH H base al=true∨oz bt o=0) →
   ∀(P:Heap→(Nat→Prop)→VI→Nat→Prop),(∀M O κ,VL M O κ (look l t) (look lA t)→∃b,P M O κ b)→True:=λ_ _ _ _ _ _=>trivial
 cases o with
 | load ag n x =>
  cases x with
  | c w=>simp[vG]at hok
  | t t =>
   simp only[vG,oz,fI]at hok
   simp only[iY.sub,AX.sub,aL,AX.ev]at fin h1 ⊢
   have e0:=g.env t
   generalize hX:look l t=X at *
   cases X with
   | elem cs =>
    simp only at hok
    have hkn:known u=true:=by
     split at hok
     ·assumption
     ·assumption
     ·cases hok
    have hb:f_ bt t≤lo+1:=by
     split at hok
     ·rename_i h _ _;exact Nat.le_of_ble_eq_true h
     ·rename_i h _ _;exact Nat.le_of_ble_eq_true h
     ·cases hok
    have hth:(mH H base al||oC hs lo base al)=true∨f_ bt t=0:=by
     split at hok
     ·exact .inl (by assumption)
     ·exact .inr (aH hok)
     ·cases hok
    simp only[VL]at e0
    obtain⟨b,off,c,ro,sl,e1,g1,g2,g3,g4⟩:=e0
    have hout:¬(aY≤b∧b<aY+nk):=λ⟨q1,q2⟩=>by
     rcases hth with ht | h0
     ·rcases g.owned ht q1 q2 with o |⟨k,Mk,iW,hk,_,w,o⟩
      ·exact g2 (.inl o)
      ·have:=w.env t (by omega)
       rw[hX]at this
       simp only[VL]at this
       obtain⟨b',_,_,_,_,e2,_,p2,_⟩:=this
       rw[e1]at e2
       simp only[AV.ptr.injEq,ak,aD]at e2
       rw[←e2.1]at p2
       exact p2 (.inl o)
     ·have:=g.start t h0
      rw[hX]at this
      simp only[VL]at this
      obtain⟨b',_,_,_,_,e2,_,_,p3,_⟩:=this
      rw[e1]at e2
      simp only[AV.ptr.injEq,ak,aD]at e2
      rw[←e2.1,g.m0]at p3
      omega
    refine fin hkn λX Bb=>?_
    rw[e1]
    refine oU ((jU hout).trans ?_)
    rcases Bb with rfl |⟨k,hk,hM⟩
    ·rfl
    ·obtain⟨iW,w,_⟩:=g.hist k X hM
     have:=w.env t (by omega)
     rw[hX]at this
     simp only[VL]at this
     obtain⟨b',_,_,_,_,e2,_,p2,p3,_⟩:=this
     rw[e1]at e2
     simp only[AV.ptr.injEq,ak,aD]at e2
     rw[←e2.1]at p2 p3
     exact(w.keep.get b p3 (λh=>p2 (.inl h))).1.symm
   | ptr p =>
    cases p with
    | none=>simp at hok
    | some q =>
     simp only at hok
     split at hok
     case h_2=>cases hok
     rename_i hkn hlt hto
     have hlt:q.1<base:=by simpa[Nat.blt_eq]using hlt
     simp only[VL]at e0
     obtain⟨j,k1,k2⟩:=e0
     rw[g.CX _ hlt]at k1
     have hj:=(g.low _ _ k1).2
     have hact:act ι H q.1:=by
      simp only[iY.sub,AX.sub,wL,AX.ev,hX]at hv
      split at hv
      ·cases hv
      split at hv
      ·rename_i hg
       exact .inl ⟨_,hg⟩
      ·cases hv
     refine fin hkn λX Bb=>?_
     rw[k2]
     refine oU ((jU (by omega)).trans ?_)
     rcases Bb with rfl |⟨k,hk,hM⟩
     ·rfl
     ·obtain⟨iW,w,_⟩:=g.hist k X hM
      refine(w.same q.1 j hlt hact k1 ?_).symm
      have:hs.drop k=(hs.drop lo).drop (k-lo):=by rw[List.drop_drop];congr 1;omega
      rw[this]
      have mono:∀(r:List (List Nat×WH)) (n:Nat),touches q.1 r=false→touches q.1 (r.drop n)=false:=by
       intro r
       induction r with
       | nil=>intro n _;simp[touches]
       | cons u r ih =>
        intro n h
        cases n with
        | zero=>exact h
        | succ n=>exact ih n (dX.1 h).2
      exact mono _ _ hto
   | _=>simp at hok
 | dQ x =>
  cases x with
  | c w=>simp[vG]at hok
  | t t =>
   simp only[vG,oz,fI]at hok
   simp only[iY.sub,AX.sub,aL,AX.ev]at fin h1 ⊢
   have e0:=g.env t
   generalize hX:look l t=X at *
   cases X with
   | list sz len cs ex =>
    simp only at hok
    have hkn:known u=true:=by
     split at hok
     ·assumption
     ·assumption
     ·cases hok
    have hb:f_ bt t≤lo+1:=by
     split at hok
     ·rename_i h _ _;exact Nat.le_of_ble_eq_true h
     ·rename_i h _ _;exact Nat.le_of_ble_eq_true h
     ·cases hok
    have hth:(mH H base al||oC hs lo base al)=true∨f_ bt t=0:=by
     split at hok
     ·exact .inl (by assumption)
     ·exact .inr (aH hok)
     ·cases hok
    simp only[VL]at e0
    rcases e0 with⟨_,_,s',e1⟩ |⟨b,off,cap,ex',e1,_,_,_,q4⟩
    ·exact fin hkn λX _=>by rw[e1];rfl
    refine fin hkn λX Bb=>?_
    rw[e1]
    refine pQ λhl=>?_
    obtain⟨c,ro,sl,g1,g2,g3,g4,g5⟩:=q4 hl
    have hout:¬(aY≤b∧b<aY+nk):=λ⟨q1,q2⟩=>by
     rcases hth with ht | h0
     ·rcases g.owned ht q1 q2 with o |⟨k,Mk,iW,hk,_,w,o⟩
      ·exact g2 (.inl o)
      ·have:=w.env t (by omega)
       rw[hX]at this
       simp only[VL]at this
       rcases this with⟨_,_,s',e2⟩ |⟨b',_,_,_,e2,_,_,_,p4⟩
       ·rw[e1]at e2;cases e2
       ·rw[e1]at e2
        cases e2
        obtain⟨_,_,_,_,p2,_⟩:=p4 hl
        exact p2 (.inl o)
     ·have:=g.start t h0
      rw[hX]at this
      simp only[VL]at this
      rcases this with⟨_,_,s',e2⟩ |⟨b',_,_,_,e2,_,_,_,p4⟩
      ·rw[e1]at e2;cases e2
      ·rw[e1]at e2
       cases e2
       obtain⟨_,_,_,_,_,p3,_⟩:=p4 hl
       rw[g.m0]at p3
       omega
    refine(jU hout).trans ?_
    rcases Bb with rfl |⟨k,hk,hM⟩
    ·rfl
    ·obtain⟨iW,w,_⟩:=g.hist k X hM
     have:=w.env t (by omega)
     rw[hX]at this
     simp only[VL]at this
     rcases this with⟨_,_,s',e2⟩ |⟨b',_,_,_,e2,_,_,_,p4⟩
     ·rw[e1]at e2;cases e2
     ·rw[e1]at e2
      cases e2
      obtain⟨_,_,_,_,p2,p3,_⟩:=p4 hl
      exact(w.keep.get b p3 (λh=>p2 (.inl h))).1.symm
   | slice p sz len cap ex =>
    cases p with
    | some q=>simp[VL]at e0
    | none =>
     simp only at hok
     have hkn:known u=true:=by
      split at hok
      ·assumption
      ·assumption
      ·cases hok
     simp only[VL]at e0
     obtain⟨_,s',e1⟩:=e0
     exact fin hkn λX _=>by rw[e1];rfl
   | acc b off sz n w =>
    simp only at hok
    split at hok
    case h_2=>cases hok
    rename_i hkn hlt hto
    have hlt:b<base:=by simpa[Nat.blt_eq]using hlt
    simp only[VL]at e0
    obtain⟨p,s',cap,ex,k2,k3,k4,k5,m,L,k6,k7,k8,k9⟩:=e0
    have hact:act ι H b:=by
     simp only[iY.sub,AX.sub,wL,AX.ev,hX]at hv
     split at hv
     ·rename_i e;cases e
     ·rename_i e
      cases e
      split at hv
      ·rename_i hg
       exact .inl ⟨_,hg⟩
      ·cases hv
     ·rename_i e;cases e
     ·cases hv
    refine fin hkn λX Bb=>?_
    rw[k2]
    cases p with
    | none=>rfl
    | some p =>
     refine pQ λhl=>?_
     have k9:=k9.resolve_right (λh=>hl h.2.1)
     obtain⟨j,k1,k10⟩:=k9
     rw[g.CX _ hlt]at k1
     have k10:=k10.resolve_right (λh=>hl h.1)
     have K_:p.1=j:=by
      have:=k10.1
      simp only[ak]at this
      rw[this]
     have hj:=(g.low _ _ k1).2
     rw[K_]
     refine(jU (by omega)).trans ?_
     rcases Bb with rfl |⟨k,hk,hM⟩
     ·rfl
     ·obtain⟨iW,w',_⟩:=g.hist k X hM
      refine(w'.same b j hlt hact k1 ?_).symm
      have:hs.drop k=(hs.drop lo).drop (k-lo):=by rw[List.drop_drop];congr 1;omega
      rw[this]
      have mono:∀(r:List (List Nat×WH)) (n:Nat),touches b r=false→touches b (r.drop n)=false:=by
       intro r
       induction r with
       | nil=>intro n _;simp[touches]
       | cons u r ih =>
        intro n h
        cases n with
        | zero=>exact h
        | succ n=>exact ih n (dX.1 h).2
      exact mono _ _ hto
   | _=>simp at hok
 | iP x =>
  cases x with
  | c w=>simp[vG]at hok
  | t t =>
   simp only[vG]at hok
   simp only[iY.sub,AX.sub,aL,AX.ev]at fin h1 ⊢
   have e0:=g.env t
   generalize hX:look l t=X at *
   cases X with
   | map p =>
    cases p with
    | none=>simp at hok
    | some q =>
     simp only at hok
     split at hok
     case h_2=>cases hok
     rename_i hkn hlt hto
     have hlt:q<base:=by simpa[Nat.blt_eq]using hlt
     simp only[VL]at e0
     obtain⟨j,k1,k2⟩:=e0
     rw[g.CX _ hlt]at k1
     have hj:=(g.low _ _ k1).2
     have hact:act ι H q:=by
      simp only[iY.sub,AX.sub,wL,AX.ev,hX]at hv
      split at hv
      ·rename_i hg
       exact .inl ⟨_,hg⟩
      ·cases hv
     refine fin hkn λX Bb=>?_
     rw[k2]
     have hget:(X.hide aY nk).get j=M.get j:=by
      refine(jU (by omega)).trans ?_
      rcases Bb with rfl |⟨k,hk,hM⟩
      ·rfl
      ·obtain⟨iW,w,_⟩:=g.hist k X hM
       refine(w.same q j hlt hact k1 ?_).symm
       have:hs.drop k=(hs.drop lo).drop (k-lo):=by rw[List.drop_drop];congr 1;omega
       rw[this]
       have mono:∀(r:List (List Nat×WH)) (n:Nat),touches q r=false→touches q (r.drop n)=false:=by
        intro r
        induction r with
        | nil=>intro n _;simp[touches]
        | cons u r ih =>
         intro n h
         cases n with
         | zero=>exact h
         | succ n=>exact ih n (dX.1 h).2
       exact mono _ _ hto
     simp only[gT,hget]
   | _=>simp at hok
 | lookup kd ok z x w2 =>
  cases x with
  | c w=>simp[vG]at hok
  | t t =>
   simp only[vG]at hok
   simp only[iY.sub,AX.sub,aL,AX.ev]at fin h1 ⊢
   have e0:=g.env t
   generalize hX:look l t=X at *
   cases X with
   | map p =>
    cases p with
    | none=>simp at hok
    | some q =>
     simp only at hok
     split at hok
     case h_2=>cases hok
     rename_i hkn hlt hto
     have hlt:q<base:=by simpa[Nat.blt_eq]using hlt
     simp only[VL]at e0
     obtain⟨j,k1,k2⟩:=e0
     rw[g.CX _ hlt]at k1
     have hj:=(g.low _ _ k1).2
     have hact:act ι H q:=by
      simp only[iY.sub,AX.sub,wL,AX.ev,hX]at hv
      split at hv
      ·rename_i hg _
       exact .inl ⟨_,hg⟩
      ·cases hv
     refine fin hkn λX Bb=>?_
     rw[k2]
     have hget:(X.hide aY nk).get j=M.get j:=by
      refine(jU (by omega)).trans ?_
      rcases Bb with rfl |⟨k,hk,hM⟩
      ·rfl
      ·obtain⟨iW,w,_⟩:=g.hist k X hM
       refine(w.same q j hlt hact k1 ?_).symm
       have:hs.drop k=(hs.drop lo).drop (k-lo):=by rw[List.drop_drop];congr 1;omega
       rw[this]
       have mono:∀(r:List (List Nat×WH)) (n:Nat),touches q r=false→touches q (r.drop n)=false:=by
        intro r
        induction r with
        | nil=>intro n _;simp[touches]
        | cons u r ih =>
         intro n h
         cases n with
         | zero=>exact h
         | succ n=>exact ih n (dX.1 h).2
       exact mono _ _ hto
     simp only[qw,gT,hget]
   | _=>simp at hok
theorem qg{o:iY}{x:Option AV}{k:TS→Prop}:∀ {hs:List (List Nat×WH)} {tr:TS},qI o x k hs tr→∃dK,(∀(i:Nat) (t:List Nat) (Hk:WH),hs[i]?=some (t,Hk)→wL o Hk=x)∧k dK
 | [],tr,h=>⟨tr,λi t Hk e=>by simp at e,h⟩
 | p::r,tr,h=>by
  simp only[qI]at h
  obtain⟨_,h1,h2⟩:=eH h
  obtain⟨dK,q1,q2⟩:=qg h2
  refine⟨dK,λi t Hk e=>?_,q2⟩
  cases i with
  | zero=>simp only[List.getElem?_cons_zero,ak]at e;rw[e]at h1;exact h1
  | succ i=>exact q1 i t Hk (by simpa using e)
theorem Ag (g:DI R base aY nk gP M0 ι H M l lA bt al hs dh) {o:iY} (hc:o.bO=true) {v u:AV} (hv:wL (o.sub (look l)) H=some v) (hu:∀(M:Heap) (O:Nat→Prop) (κ:VI) (a:AV),VL M O κ v a→VL M O κ u a) {lo:Nat} (hok:oD base l bt lo o u=true)
  (hl:∀(i:Nat) (t:List Nat) (Hk:WH),(hs.drop lo)[i]?=some (t,Hk)→wL (o.sub (look l)) Hk=wL (o.sub (look l)) H) :
  ∃a,aL (o.sub (look lA)) [] (M.hide aY nk)=some a∧VL M (OR R ι) ι u a∧∀k Mk,lo≤k→dh[k]?=some Mk→∃w,aL (o.sub (look lA)) [] (Mk.hide aY nk)=some w∧AV.same w a=true:=by
 obtain⟨a,h1,h2⟩:=wM g.vs g.env hc hv
 have h3:=hu _ _ _ _ h2
 have La:∀ {M':Heap} {O:Nat→Prop} {κ:VI} {w:AV},oD base l bt lo o u=true→VL M' O κ u w→w=a:=by
  intro M' O κ w hb hw
  unfold oD at hb
  split at hb
  case h_2=>cases hb
  split at hb
  ·simp only[VL]at hw h3;rw[hw,h3]
  ·simp only[VL]at hw h3;rw[hw,h3]
  ·simp only[VL]at hw h3;rw[hw,h3]
  ·cases hb
 have hkn:known u=true:=by
  unfold oD at hok
  split at hok
  case h_2=>cases hok
  split at hok
  ·rfl
  ·rfl
  ·rfl
  ·cases hok
 cases o with
 | load ag n x =>
  cases x with
  | c w=>simp[oD]at hok
  | t t =>
   have hp:∃b off,look l t=.ptr (some (b,off))∧b<base∧f_ bt t≤lo+1:=by
    simp only[oD]at hok
    split at hok
    ·rename_i b off _ _ hX
     simp only[Bool.and_eq_true,Nat.blt_eq]at hok
     exact⟨b,off,hX,hok.1,Nat.le_of_ble_eq_true hok.2⟩
    ·rename_i b off _ hX
     simp only[Bool.and_eq_true,Nat.blt_eq]at hok
     exact⟨b,off,hX,hok.1,Nat.le_of_ble_eq_true hok.2⟩
    ·rename_i b off _ hX
     simp only[Bool.and_eq_true,Nat.blt_eq]at hok
     exact⟨b,off,hX,hok.1,Nat.le_of_ble_eq_true hok.2⟩
    ·cases hok
   obtain⟨b,off,hX,hlt,hbt⟩:=hp
   have e0:=g.env t
   rw[hX]at e0
   simp only[VL]at e0
   obtain⟨j,k1,k2⟩:=e0
   rw[g.CX _ hlt]at k1
   have hj:=(g.low _ _ k1).2
   have hide:∀X:Heap,aL (iY.sub (look lA) (.load ag n (.t t))) [] (X.hide aY nk)=aL (iY.sub (look lA) (.load ag n (.t t))) [] X:=by
    intro X
    simp only[iY.sub,AX.sub,aL,AX.ev]
    rw[k2]
    exact oU (jU (by omega))
   refine⟨a,(hide M).trans h1,h3,λk Mk hk hM=>?_⟩
   obtain⟨iW,w,tk,Hk,w2,w3⟩:=g.hist k Mk hM
   have hce:∀s,VL Mk (OR R iW) iW (o9 bt (k+1) (look l) s) (look lA s):=λs=>by
    unfold o9
    split
    ·rename_i hb;exact w.env s hb
    ·simp[VL]
   have hsub:iY.sub (o9 bt (k+1) (look l)) (.load ag n (.t t))=iY.sub (look l) (.load ag n (.t t)):=by
    simp only[iY.sub,AX.sub,o9]
    rw[if_pos (by omega)]
   have hv':wL (iY.sub (o9 bt (k+1) (look l)) (.load ag n (.t t))) Hk=some v:=by
    rw[hsub,hl (k-lo) tk Hk (by rw[List.getElem?_drop,show lo+(k-lo)=k by omega];exact w2)]
    exact hv
   obtain⟨w',q1,q2⟩:=wM w3 hce hc hv'
   have:=La hok (hu _ _ _ _ q2)
   subst this
   exact⟨w',(hide Mk).trans q1,VL.jT u w' hkn h3⟩
 | _=>simp[oD]at hok
theorem Ah (g:DI R base aY nk gP M0 ι H M l lA bt al hs dh) {o:iY} (hc:o.bO=true) {v u a:AV} (hv:wL (o.sub (look l)) H=some v) (hu:∀(M:Heap) (O:Nat→Prop) (κ:VI) (a:AV),VL M O κ v a→VL M O κ u a) {lo b:Nat} (hok:uN base al l bt lo o u H hs=true)
  (hb:D6 l o=some b) (hbt:Nat.ble (oz bt o) (lo+1)=true) (ha:aL (o.sub (look lA)) [] (M.hide aY nk)=some a)
  (hl:∀(i:Nat) (t:List Nat) (Hk:WH),(hs.drop lo)[i]?=some (t,Hk)→wL (o.sub (look l)) Hk=wL (o.sub (look l)) H) :
  ∀k Mk iW t Hk,dh[k]?=some Mk→HK R base aY nk k gP ι H M l lA bt hs Mk iW→hs[k]?=some (t,Hk)→VS R iW Hk Mk→lo+1≤k+1→VL Mk (OR R iW) iW u a:=by
 intro k Mk iW tk Hk hM w w2 w3 hk
 cases o with
 | load ag n x =>
  cases x with
  | c w=>simp[D6]at hb
  | t t =>
   simp only[oz,fI]at hbt
   have hbt:=Nat.le_of_ble_eq_true hbt
   unfold uN at hok
   simp only[vG,oz,fI]at hok
   simp only[D6]at hb
   have e0:=g.env t
   have hX0:∃q,look l t=.ptr (some q):=by
    split at hb
    ·rename_i q h;exact⟨q,h⟩
    ·cases hb
   obtain⟨q,hX⟩:=hX0
   rw[hX]at hok e0
   simp only at hok
   split at hok
   case h_2=>cases hok
   rename_i hkn hlt hto
   have hlt:q.1<base:=by simpa[Nat.blt_eq]using hlt
   simp only[VL]at e0
   obtain⟨j,k1,k2⟩:=e0
   rw[g.CX _ hlt]at k1
   have hj:=(g.low _ _ k1).2
   have hact:act ι H q.1:=by
    simp only[iY.sub,AX.sub,wL,AX.ev,hX]at hv
    split at hv
    ·cases hv
    split at hv
    ·rename_i hg
     exact .inl ⟨_,hg⟩
    ·cases hv
   have hsame:M.get j=Mk.get j:=by
    refine w.same q.1 j hlt hact k1 ?_
    have:hs.drop k=(hs.drop lo).drop (k-lo):=by rw[List.drop_drop];congr 1;omega
    rw[this]
    have mono:∀(r:List (List Nat×WH)) (n:Nat),touches q.1 r=false→touches q.1 (r.drop n)=false:=by
     intro r
     induction r with
     | nil=>intro n _;simp[touches]
     | cons u r ih =>
      intro n h
      cases n with
      | zero=>exact h
      | succ n=>exact ih n (dX.1 h).2
    exact mono _ _ hto
   have Lb:aL (iY.sub (look lA) (.load ag n (.t t))) [] Mk=aL (iY.sub (look lA) (.load ag n (.t t))) [] (M.hide aY nk):=by
    simp only[iY.sub,AX.sub,aL,AX.ev]
    rw[k2]
    exact oU (hsame.symm.trans (jU (by omega)).symm)
   have hce:∀s,VL Mk (OR R iW) iW (o9 bt (k+1) (look l) s) (look lA s):=λs=>by
    unfold o9
    split
    ·rename_i hb;exact w.env s hb
    ·simp[VL]
   have hsub:iY.sub (o9 bt (k+1) (look l)) (.load ag n (.t t))=iY.sub (look l) (.load ag n (.t t)):=by
    simp only[iY.sub,AX.sub,o9]
    rw[if_pos (by omega)]
   have hv':wL (iY.sub (o9 bt (k+1) (look l)) (.load ag n (.t t))) Hk=some v:=by
    rw[hsub,hl (k-lo) tk Hk (by rw[List.getElem?_drop,show lo+(k-lo)=k by omega];exact w2)]
    exact hv
   obtain⟨w',q1,q2⟩:=wM w3 hce hc hv'
   rw[Lb,ha]at q1
   obtain rfl:=aj q1
   exact hu _ _ _ _ q2
 | _=>simp[D6]at hb
end
theorem Ai{a b:Nat}{l:List Nat}:gN (a::l) b=false↔a≠b∧gN l b=false:=by
 simp only[gN]
 cases h:Nat.beq a b with
 | true=>simp[aH h]
 | false =>
  have:a≠b:=λe=>by subst e;simp at h
  simp[this]
theorem jo {C:aQ} {B:FuncId→Option Bt} (hB:∀f b,B f=some b→Cu C f b) {R:Nat→Prop} {n base aY nk:Nat} {gP:VI} {M0:Heap}:∀(ops:List bE) (l lA:Fast) (H:WH) (M:Heap) (ι:VI) (tr:TS) (hs:List (List Nat×WH)) (bt:List (Nat×Nat)) (al:List Nat) (dh:List Heap) (k:Fast→WH→TS→Prop),
  DI R base aY nk gP M0 ι H M l lA bt al hs dh→(ops.all λd=>d.o.op.bO)=true→mV C B n base nk ops l H tr hs bt al k →
  ∃iJ M' aM l' H' dK t,mR C n aY nk ops lA M dh=some (iJ,M')∧VS R aM H' M'∧Stp base t ι H M aM H' M'∧iR R aM M' l' iJ∧k l' H' dK
 | [],l,lA,H,M,ι,tr,hs,bt,al,dh,k,g,hc,h=>⟨lA,M,ι,l,H,tr,[],rfl,g.vs,.refl _ _ _ _ _ (by have:=g.len;omega),g.env,h⟩
 | d::r,l,lA,H,M,ι,tr,hs,bt,al,dh,k,g,hc,h=>by
  simp only[List.all_cons,Bool.and_eq_true]at hc
  simp only[mV]at h
  obtain⟨LH,Lc,Ep,h⟩:=jm h
  have g:=g.like Ep
  obtain⟨l0,tr1,hl,h⟩:=Af h
  have g1:=g.like hl
  have hbl:base≤H.length:=by have:=g.len;omega
  rcases h with⟨hw,h⟩ |⟨hw,h⟩
  ·obtain⟨l1,Ld,hl1,h⟩:=jm h
   have g1:=g1.like hl1
   have he1:=g1.env
   simp only[mR,l6 g.env hw]
   cases ho:d.o.op with
   | p op =>
    rw[ho]at h hc
    simp only at h
    obtain⟨v,u,tr2,h1,h2,h3⟩:=xV (R:=R) h
    obtain⟨a,h4,h5⟩:=D9 he1 hc.1 h1
    have cut:∀(X:Heap) (O:Nat→Prop) (κ:VI) (q:Nat),q<hs.length+1→(∀t,f_ bt t≤q→VL X O κ (look l1 t) (look lA t))→yZ bt (hs.length+1) op≤q→VL X O κ u a:=λX O κ q hq he hb=>by
     have hce:∀t,VL X O κ (o9 bt q (look l1) t) (look lA t):=λt=>by
      unfold o9
      split
      ·rename_i hb;exact he t hb
      ·simp[VL]
     obtain⟨a',e1,e2⟩:=D9 hce hc.1 (by rw[Cw hq hb];exact h1)
     rw[h4]at e1
     obtain rfl:=aj e1
     exact h3 _ _ _ _ e2
    obtain⟨iJ,M',aM,l',H',dK,t,q1,q2⟩:=jo hB r _ _ H M ι tr2 hs _ al dh k (g1.put n d.o.dst (yZ bt (hs.length+1) op) (h3 _ _ _ _ h5) (λhb=>cut M0 _ gP 0 (by omega) (λt ht=>g1.start t (by omega)) (by omega)) (λq Mk iW hq w hb=>cut Mk _ iW (q+1) (by omega) w.env hb)) hc.2 h2
    refine⟨iJ,M',aM,l',H',dK,t, ?_,q2⟩
    simp only[h4,force_eq]
    exact q1
   | l op =>
    rw[ho]at h hc
    simp only at h
    obtain⟨v,u,tr2,h1,h2,h3⟩:=xV (R:=R) h
    have h2:∃tr2 b,(∃a,aL (op.sub (look lA)) [] (M.hide aY nk)=some a∧DI R base aY nk gP M0 ι H M (eB n d.o.dst u l1) (eB n d.o.dst a lA) (fq n d.o.dst b bt) al hs dh∧∀k Mk,d.lo≤k→dh[k]?=some Mk→∃w,aL (op.sub (look lA)) [] (Mk.hide aY nk)=some w∧AV.same w a=true)∧mV C B n base nk r (eB n d.o.dst u l1) H tr2 hs (fq n d.o.dst b bt) al k:=by
     split at h2
     ·rename_i hok
      obtain⟨a,p1,p2,p3⟩:=FN g1 hc.1 h1 h3 hok
      split at h2
      ·split at h2
       case h_2=>exact h2.elim
       rename_i hb hbt
       obtain⟨Kj,m1,m2⟩:=qg h2
       exact⟨Kj,d.lo+1,⟨a,p1,g1.Ki n d.o.dst (d.lo+1) p2 (λe=>by omega) (Ah g1 hc.1 h1 h3 hok hb hbt p1 m1),p3⟩,m2⟩
      ·exact⟨_,hs.length+1,⟨a,p1,g1.now n d.o.dst p2,p3⟩,h2⟩
     ·split at h2
      case h_2=>exact h2.elim
      rename_i hok
      obtain⟨Kj,p1,p2⟩:=qg h2
      obtain⟨a,m1,m2,m3⟩:=Ag g1 hc.1 h1 h3 hok p1
      exact⟨Kj,hs.length+1,⟨a,m1,g1.now n d.o.dst m2,m3⟩,p2⟩
    obtain⟨tr2,bb,⟨a,q1,q2,q3⟩,h2⟩:=h2
    obtain⟨iJ,M',aM,l',H',dK,t,q4,q5⟩:=jo hB r _ _ H M ι tr2 hs _ al dh k q2 hc.2 h2
    refine⟨iJ,M',aM,l',H',dK,t, ?_,q5⟩
    simp only[q1]
    rw[if_pos]
    ·simp only[force_eq]
     exact q4
    ·rw[List.all_eq_true]
     intro Mk Lg
     obtain⟨i,hi⟩:=List.mem_iff_getElem?.1 Lg
     rw[List.getElem?_drop]at hi
     obtain⟨w,w1,w2⟩:=q3 (d.lo+i) Mk (by omega) hi
     rw[w1]
     exact w2
   | k op =>
    rw[ho]at h hc
    simp only at h
    split at h
    case h_2=>exact h.elim
    rename_i hix hal
    have hix:d.ix<nk:=by simpa[Nat.blt_eq]using hix
    obtain⟨c,sl,mk,c',sl',JQ,tr2,h1,h2,h3,hss,h4⟩:=GZ g1.vs he1 hc.1 h
    obtain⟨f1,f2,f3⟩:=g1.free d.ix hix hal
    have hnew:=g1.new d.ix hix
    obtain⟨s1,k1,k2,k3⟩:=g1.vs.fill hnew f1 f2 f3 (BL.of (sl':=sl') h3 hss)
    have hne:∀i,i<base→i≠base+d.ix:=λi hi=>by omega
    have gp:∀i,i≠base+d.ix→aU (bU H (base+d.ix) (some (.cells c false sl))) i=aU H i:=λi hi=>by
     rw[gD,if_neg (λe=>hi e.1)]
    have ac:∀i,i≠base+d.ix→act (ι.fill (base+d.ix) (c.length,c'.length)) (bU H (base+d.ix) (some (.cells c false sl))) i→act ι H i:=λi hi ha=>ha.imp (λ⟨x,hx⟩=>⟨x,by rw[gp i hi]at hx;exact hx⟩) id
    have Lh:Stp base [] ι H M (ι.fill (base+d.ix) (c.length,c'.length)) (bU H (base+d.ix) (some (.cells c false sl))) (M.put (aY+d.ix) (some (.cells c' false sl'))) :=
     ⟨k1,k2 _,λ_ _ h=>h,λ_ _=>rfl,λi hi=>by simp only[VI.fill,aS _ _ (hne i hi)],λ_ _ _=>rfl,λi hi ⟨x,hx⟩=>⟨x,by rw[gp i (hne i hi)]at hx;exact hx⟩,λi j hi ha hj _=>k3 i j (hne i hi) (ac i (hne i hi) ha) hj,by rw[bn];exact hbl⟩
    have hval:=h4 (M.put (aY+d.ix) (some (.cells c' false sl'))) (OR R (ι.fill (base+d.ix) (c.length,c'.length))) (ι.fill (base+d.ix) (c.length,c'.length)) (base+d.ix) (aY+d.ix) hnew (by simp[VI.fill,setAt])
    have g2:DI R base aY nk gP M0 (ι.fill (base+d.ix) (c.length,c'.length)) (bU H (base+d.ix) (some (.cells c false sl))) (M.put (aY+d.ix) (some (.cells c' false sl'))) l1 lA bt (d.ix::al) hs dh :=
     ⟨s1,by rw[bn];exact g1.len,λt=>VL.mono (k1.or R) _ _ _ _ (k2 _) (he1 t),g1.new,λi hi ha=>by
      obtain⟨a1,a2⟩:=Ai.1 ha
      obtain⟨b1,b2,b3⟩:=g1.free i hi a2
      have hn:base+i≠base+d.ix:=by omega
      exact⟨b1,by simp only[VI.fill,aS _ _ hn];exact b2,by rw[gp _ hn];exact b3⟩,g1.start,g1.low,g1.Ih.trans (k2 _),g1.CX,g1.m0,g1.hlen,λq Mk hq=>by
      obtain⟨iW,w,w2⟩:=g1.hist q Mk hq
      exact⟨iW,⟨w.keep.trans k1,w.env,w.new,w.gone,λi j hi ha hj ht=>by
       have ha':=ac i (hne i hi) ha
       exact(k3 i j (hne i hi) ha' (by rw[g1.CX i hi];exact hj)).trans (w.same i j hi ha' hj ht)⟩,w2⟩⟩
    obtain⟨iJ,M',aM,l',H',dK,t,q1,q2,q3,q4⟩:=jo hB r _ _ _ _ _ tr2 hs _ (d.ix::al) dh k (g2.now n d.o.dst hval) hc.2 h1
    refine⟨iJ,M',aM,l',H',dK,t, ?_,q2, ?_,q4⟩
    ·simp only[h2]
     exact q1
    ·have:=Lh.trans q3 (Nat.le_refl _)
     simpa using this
   | n op =>
    rw[ho]at h hc
    simp only at h
    obtain⟨a,M1,eu,v,H1,t1,tr2,h1,h2,h3,h4,h5⟩:=G5 hB g1.vs he1 hc.1 h
    have g2:=(g1.loud h2 h3).now n d.o.dst h4
    rw[aI,List.length_singleton]at g2
    obtain⟨iJ,M',aM,l',H',dK,t,q1,q2,q3,q4⟩:=jo hB r _ _ _ _ _ tr2 _ _ al _ k g2 hc.2 h5
    refine⟨iJ,M',aM,l',H',dK,t1++t, ?_,q2,(h3.weak hbl).trans q3 (Nat.le_refl _),q4⟩
    simp only[h1,force_eq]
    exact q1
  ·simp only[mR,l6 g.env hw]
   cases ho:d.o.op with
   | n op =>
    rw[ho]at h
    simp only at h
    have g2:=(g1.loud (t:=[]) g1.vs (.refl _ _ _ _ _ (Nat.le_refl _))).now n d.o.dst (v:=.tuple []) (a:=.tuple []) VL.unit
    rw[aI,List.length_singleton]at g2
    exact jo hB r _ _ H M ι tr1 _ _ al _ k g2 hc.2 h
   | p op=>rw[ho]at h;exact jo hB r _ _ H M ι tr1 _ _ al _ k (g1.now n d.o.dst VL.unit) hc.2 h
   | l op=>rw[ho]at h;exact jo hB r _ _ H M ι tr1 _ _ al _ k (g1.now n d.o.dst VL.unit) hc.2 h
   | k op=>rw[ho]at h;exact jo hB r _ _ H M ι tr1 _ _ al _ k (g1.now n d.o.dst VL.unit) hc.2 h
theorem Er {C:aQ} {B:FuncId→Option Bt} (hB:∀f b,B f=some b→Cu C f b) {R:Nat→Prop} {n nk:Nat} {ops:List bE} {l lA:Fast} {H:WH} {M:Heap} {ι:VI} {tr:TS} {k:Fast→WH→TS→Prop} (s:VS R ι H M) (he:iR R ι M l lA) (hc:(ops.all λd=>d.o.op.bO)=true)
  (h:mV C B n H.length nk ops l (H++holes nk) tr [] [] [] k):∃iJ M' aM l' H' dK t,mR C n M.next nk ops lA { M with next:=M.next+nk } []=some (iJ,M')∧VS R aM H' M'∧Stp H.length t ι H M aM H' M'∧iR R aM M' l' iJ∧k l' H' dK:=by
 obtain⟨s1,k1⟩:=s.room nk
 have inr:∀i,i<nk→H.length≤H.length+i∧H.length+i<H.length+nk:=λi hi=>by omega
 have g:DI R H.length M.next nk ι M (ι.room H.length M.next nk) (H++holes nk) { M with next:=M.next+nk } l lA [] [] [] [] :=
  ⟨s1,by simp[oQ],he.step s k1,λi hi=>by simp only[VI.room,if_pos (inr i hi)];congr 1;omega,λi hi _=>⟨by simp only[VI.room,if_pos (inr i hi)],by simp only[VI.room,if_pos (inr i hi)],by rw[qK,if_neg (by omega),sw]⟩,
   λt _=>he t,λi j h=>s.lt i j h,k1.le,k1.GN,rfl,rfl,λk Mk h=>by simp at h⟩
 obtain⟨iJ,M',aM,l',H',dK,t,q1,q2,q3,q4⟩:=jo hB ops l lA _ _ _ tr [] [] [] [] k g hc h
 refine⟨iJ,M',aM,l',H',dK,[]++t,q1,q2,k1.trans q3 (Nat.le_refl _),q4⟩
theorem tX{M:Heap}{O:Nat→Prop}{κ:VI}{lA:Fast}:∀(keep:List Nat) (vs:List AV),aR M O κ vs (keep.map (look lA))→∀t,VL M O κ (look (eZ keep vs) t) (look lA t)∧VL M O κ (look (eZ keep vs) t) (look (lY lA keep) t)
 | [],vs,h,t=>by
  cases vs with
  | nil=>simp[eZ,look,VL]
  | cons _ _=>simp[aR]at h
 | u::keep,vs,h,t=>by
  cases vs with
  | nil=>simp[aR]at h
  | cons v vs =>
   simp only[List.map_cons,aR]at h
   have ih:=tX keep vs h.2 t
   simp only[eZ,lY,iT]
   split
   ·rename_i e
    subst e
    exact⟨h.1,h.1⟩
   ·exact ih
theorem iR.map{R:Nat→Prop}{ι:VI}{M:Heap}{l lA:Fast}(he:iR R ι M l lA):∀keep:List Nat,aR M (OR R ι) ι (keep.map (look l)) (keep.map (look lA))
 | []=>by simp[aR]
 | t::r=>by simp only[List.map_cons,aR];exact⟨he t,iR.map he r⟩
def nR(R:Nat→Prop)(np:Nat)(ι:VI)(H:WH)(M:Heap)(x:tF)(k:Ex→Fast→WH→TS→Prop):Prop :=
 ∃ex iJ M' aM l' H' dK,x=some (ex,iJ,M')∧VS R aM H' M'∧Stp np (List.range np) ι H M aM H' M'∧iR R aM M' l' iJ∧k ex l' H' dK
theorem gu{n:Nat}{t:List Nat}{ι eu:VI}{H H1:WH}{M M1:Heap}(h:Stp n t ι H M eu H1 M1):Stp n (List.range n) ι H M eu H1 M1:=h.more λi hi _=>List.mem_range.2 hi
theorem nR.after{R:Nat→Prop}{np:Nat}{ι eu:VI}{H H1:WH}{M M1:Heap}{x:tF}{k:Ex→Fast→WH→TS→Prop}{t:List Nat}(h:Stp np t ι H M eu H1 M1)(g:nR R np eu H1 M1 x k):nR R np ι H M x k:=by
 obtain⟨ex,iJ,M',aM,l',H',dK,q1,q2,q3,q4⟩:=g
 exact⟨ex,iJ,M',aM,l',H',dK,q1,q2,gu (h.trans q3 (Nat.le_refl _)),q4⟩
theorem Es(H:WH)(b:Nat):∀i x,aU (bU H b none) i=some x→aU H i=some x:=λi x h=>by
 rw[gD]at h
 split at h
 ·cases h
 ·exact h
theorem Bv{R:Nat→Prop}{M:Heap}{ι:VI}:∀(bs:List Nat) {H:WH} (n:Nat),n≤H.length→VS R ι H M→VS R ι (yX H bs) M∧Stp n [] ι H M ι (yX H bs) M∧(yX H bs).length=H.length
 | [],H,n,hn,s=>⟨s,.refl _ _ _ _ _ hn,rfl⟩
 | b::r,H,n,hn,s=>by
  have g:=Es H b
  have ac:∀i,act ι (bU H b none) i→act ι H i:=λi h=>h.imp (λ⟨x,hx⟩=>⟨x,g i x hx⟩) id
  have hl:(bU H b none).length=H.length:=bn _ _ _
  have s1:VS R ι (bU H b none) M:=⟨λi j h=>by rw[hl];exact s.lt i j h,λi i' j h h'=>s.inj i i' j (ac i h) (ac i' h'),λi x h=>s.blk i x (g i x h),λi h=>by rw[hl];exact s.jy i h,λi h c sl e=>s.iw i h c sl (g i _ e),s.zY,λj h=>⟨(s.res j h).1,λi ha=>(s.res j h).2 i (ac i ha)⟩⟩
  have k1:Stp n [] ι H M ι (bU H b none) M:=⟨⟨Nat.le_refl _,λ_ _ h=>⟨rfl,h⟩⟩,.refl _ _,λ_ _ h=>h,λ_ _=>rfl,λ_ _=>rfl,λ_ _ _=>rfl,λi _ ⟨x,hx⟩=>⟨x,g i x hx⟩,λ_ _ _ _ _ _=>rfl,by rw[hl];exact hn⟩
  obtain⟨s2,k2,h2⟩:=Bv r (H:=bU H b none) n (by rw[hl];exact hn) s1
  refine⟨s2, ?_,h2.trans hl⟩
  exact k1.trans k2 (Nat.le_refl _)
theorem Bw{R:Nat→Prop}{M:Heap}{ι:VI}{H:WH}(tr:TS){n:Nat}(hn:n≤H.length)(s:VS R ι H M):VS R ι (Fz tr H) M∧Stp n [] ι H M ι (Fz tr H) M∧(Fz tr H).length=H.length:=by
 unfold Fz
 split
 ·exact Bv _ n hn s
 ·exact⟨s,.refl _ _ _ _ _ hn,rfl⟩
set_option maxHeartbeats 2000000 in
theorem iK {C:aQ} {B:FuncId→Option Bt} (hB:∀f b,B f=some b→Cu C f b) {K n np:Nat} {R:Nat→Prop}:∀(code:dw) (l lA:Fast) (H:WH) (M:Heap) (ι:VI) (tr:TS) (k:Ex→Fast→WH→TS→Prop),code.bO=true→VS R ι H M→np≤H.length→iR R ι M l lA →
  kK C B K n np code l H tr k→nR R np ι H M (bW C K n code lA M) k
 |.skip,l,lA,H,M,ι,tr,k,_,s,hn,he,h=>⟨.normal,lA,M,ι,l,H,tr,rfl,s,.refl _ _ _ _ _ hn,he,h⟩
 |.reg ops,l,lA,H,M,ι,tr,k,hc,s,hn,he,h=>by
  obtain⟨iJ,M',aM,l',H',dK,t,q1,q2,q3,q4,q5⟩:=nG hB ops l lA H M ι tr _ s he hc h
  exact⟨.normal,iJ,M',aM,l',H',dK,by simp only[bW,q1,aG],q2,gu (q3.weak hn),q4,q5⟩
 |.wY nk ops,l,lA,H,M,ι,tr,k,hc,s,hn,he,h=>by
  obtain⟨iJ,M',aM,l',H',dK,t,q1,q2,q3,q4,q5⟩:=Er hB s he hc h
  exact⟨.normal,iJ,M',aM,l',H',dK,by simp only[bW,q1,aG],q2,gu (q3.weak hn),q4,q5⟩
 |.seq a b,l,lA,H,M,ι,tr,k,hc,s,hn,he,h=>by
  simp only[dw.bO,Bool.and_eq_true]at hc
  simp only[kK]at h
  obtain⟨l0,tr,Ep,h⟩:=jm h
  have he:iR R ι M l0 lA:=λt=>by rw[Ep t];exact he t
  split at h
  ·split at h
   case h_2=>exact h.elim
   rename_i keep ms bs ts ex outs out r0 _
   obtain⟨s0,k0,hl0⟩:=Bw tr hn s
   obtain⟨vs,blks,eu,hk,s1,k1,hv⟩:=r_ s0 (by rw[hl0];exact hn) (he.map keep) h
   obtain⟨r,hrun,hk⟩:=eH hk
   obtain⟨iJ,M',aM,q1,q2,q3,q4⟩:=hrun R eu M lA s1 (λt=>(tX keep vs hv t).1)
   refine nR.after (gu k0) (nR.after k1 (nR.after q3 ?_))
   simp only[bW,q1]
   cases ex with
   | normal=>exact iK hB b outs iJ out M' aM r k hc.2 q2 q3.next q4 hk
   | exit i=>exact⟨_,iJ,M',aM,outs,out,r,rfl,q2,.refl _ _ _ _ _ q3.next,q4,hk⟩
   | ret=>exact⟨_,iJ,M',aM,outs,out,r,rfl,q2,.refl _ _ _ _ _ q3.next,q4,hk⟩
  ·obtain⟨ex,iJ,M',aM,l',H',dK,q1,q2,q3,q4,q5⟩:=iK hB a l0 lA H M ι _ _ hc.1 s hn he h
   refine nR.after q3 ?_
   simp only[bW,q1]
   cases ex with
   | normal=>exact iK hB b l' iJ H' M' aM dK k hc.2 q2 q3.next q4 q5
   | exit i=>exact⟨_,iJ,M',aM,l',H',dK,rfl,q2,.refl _ _ _ _ _ q3.next,q4,q5⟩
   | ret=>exact⟨_,iJ,M',aM,l',H',dK,rfl,q2,.refl _ _ _ _ _ q3.next,q4,q5⟩
 |.cond c a b,l,lA,H,M,ι,tr,k,hc,s,hn,he,h=>by
  simp only[dw.bO,Bool.and_eq_true]at hc
  simp only[kK]at h
  obtain⟨l0,K9,hl0,h⟩:=jm h
  have he:iR R ι M l0 lA:=λt=>by rw[hl0 t];exact he t
  obtain⟨l',dK,hl,h⟩:=Af h
  have he':iR R ι M l' lA:=λt=>by rw[hl t];exact he t
  cases c with
  | c v =>
   simp only[dL]at h
   have h:=(h.resolve_right (λh=>by cases h.1)).2
   simp only[bW,AX.sub,AX.ev]
   cases v with
   | bool w =>
    cases w with
    | true=>exact iK hB a l' lA H M ι dK k hc.1.2 s hn he' h
    | false=>exact iK hB b l' lA H M ι dK k hc.2 s hn he' h
   | _=>exact h.elim
  | t t =>
   simp only[bW,AX.sub,AX.ev]
   have ht:=he t
   generalize l0=l at *
   simp only[dL]at h
   rcases h with⟨h1,h2⟩ |⟨h1,h2⟩
   ·generalize look l t=X at *
    cases X<;>simp only at h1<;>first |(cases h1;done) | skip
    rename_i w
    simp only[ak,beq_iff_eq]at h1
    subst h1
    rw[ht.eq rfl]
    exact iK hB a l' lA H M ι dK k hc.1.2 s hn he' h2
   ·rw[hl t]at h2
    generalize look l t=X at *
    cases X<;>simp only at h1 h2<;>first |(cases h1;done) | exact h2.elim | skip
    rename_i w
    simp only[ak,beq_eq_false_iff_ne]at h1
    have:w=false:=by cases w<;>simp_all
    subst this
    rw[ht.eq rfl]
    exact iK hB b l' lA H M ι dK k hc.2 s hn he' h2
 |.block id c,l,lA,H,M,ι,tr,k,hc,s,hn,he,h=>by
  simp only[dw.bO]at hc
  simp only[kK]at h
  obtain⟨ex,iJ,M',aM,l',H',dK,q1,q2,q3,q4,q5⟩:=iK hB c l lA H M ι tr _ hc s hn he h
  refine nR.after q3 ?_
  simp only[bW,q1]
  have re:=q3.next
  cases ex with
  | normal=>exact⟨_,iJ,M',aM,l',H',dK,rfl,q2,.refl _ _ _ _ _ re,q4,q5⟩
  | ret=>exact⟨_,iJ,M',aM,l',H',dK,rfl,q2,.refl _ _ _ _ _ re,q4,q5⟩
  | exit i =>
   cases e:Nat.beq i id with
   | true =>
    have q5:k .normal l' H' dK:=by simpa only[e]using q5
    simp only
    rw[if_pos (aH e)]
    exact⟨_,iJ,M',aM,l',H',dK,rfl,q2,.refl _ _ _ _ _ re,q4,q5⟩
   | false =>
    have q5:k (.exit i) l' H' dK:=by simpa only[e]using q5
    simp only
    rw[if_neg (λe'=>by subst e';simp at e)]
    exact⟨_,iJ,M',aM,l',H',dK,rfl,q2,.refl _ _ _ _ _ re,q4,q5⟩
 |.loop keep c,l,lA,H,M,ι,tr,k,hc,s,hn,he,h=>by
  simp only[kK]at h
  obtain⟨l0,tr,Ep,h⟩:=jm h
  have he:iR R ι M l0 lA:=λt=>by rw[Ep t];exact he t
  split at h
  case h_2=>exact h.elim
  rename_i ms bs ts ex outs out r0 _
  obtain⟨s0,k0,hl0⟩:=Bw tr hn s
  obtain⟨vs,blks,eu,hk,s1,k1,hv⟩:=r_ s0 (by rw[hl0];exact hn) (he.map keep) h
  obtain⟨r,hrun,hk⟩:=eH hk
  obtain⟨iJ,M',aM,q1,q2,q3,q4⟩:=hrun R eu M lA s1 (λt=>(tX keep vs hv t).1)
  refine nR.after (gu k0) (nR.after k1 (nR.after q3 ?_))
  exact⟨ex,iJ,M',aM,outs,out,r,by simp only[bW];exact q1,q2,.refl _ _ _ _ _ q3.next,q4,hk⟩
 |.exit i,l,lA,H,M,ι,tr,k,_,s,hn,he,h=>⟨.exit i,lA,M,ι,l,H,tr,rfl,s,.refl _ _ _ _ _ hn,he,h⟩
 |.ret,l,lA,H,M,ι,tr,k,_,s,hn,he,h=>⟨.ret,lA,M,ι,l,H,tr,rfl,s,.refl _ _ _ _ _ hn,he,h⟩
 |.fail,l,lA,H,M,ι,tr,k,_,s,hn,he,h=>by simp[kK]at h
theorem VL.Cx{M:Heap}{O:Nat→Prop}{κ:VI}{v a:AV}(h:VL M O κ v a)(hv:v≠.undef):a≠.undef:=by
 cases v with
 | undef=>exact absurd rfl hv
 | ptr p=>cases p<;>simp only[VL]at h<;>first |(subst h;simp) |(obtain⟨_,_,rfl⟩:=h;simp)
 | slice p=>cases p<;>simp only[VL]at h;obtain⟨_,_,rfl⟩:=h;simp
 | map p=>cases p<;>simp only[VL]at h<;>first |(subst h;simp) |(obtain⟨_,_,rfl⟩:=h;simp)
 | func f cs=>simp only[VL]at h;obtain⟨_,rfl,_⟩:=h;simp
 | agg cs=>simp only[VL]at h;obtain⟨_,rfl,_⟩:=h;simp
 | tuple cs=>simp only[VL]at h;obtain⟨_,rfl,_⟩:=h;simp
 | list=>simp only[VL]at h;rcases h with⟨_,_,_,rfl⟩ |⟨_,_,_,_,rfl,_⟩<;>simp
 | elem=>simp only[VL]at h;obtain⟨_,_,_,_,_,rfl,_⟩:=h;simp
 | acc=>simp only[VL]at h;obtain⟨_,_,_,_,rfl,_⟩:=h;simp
 | _=>simp only[VL]at h;subst h;simp
theorem FP{R:Nat→Prop}{ι:VI}{H:WH}{M:Heap}(s:VS R ι H M){l lA:Fast}(he:iR R ι M l lA){r:mK}{v:AV}(h:FB r l H=some v):∃a,yO r lA M=some a∧VL M (OR R ι) ι v a:=by
 cases r with
 | tmp t =>
  have ht:=he t
  simp only[FB,yO]at h ⊢
  split at h
  ·cases h
  ·rename_i hne
   obtain rfl:=aj h
   have:=ht.Cx hne
   generalize look lA t=Y at *
   cases Y<;>simp_all
 | cell t agg n =>
  simp only[FB]at h
  have:=wM s he (o:=.load agg n (.t t)) rfl (v:=v) (by simpa only[iY.sub,AX.sub]using h)
  simpa only[iY.sub,AX.sub,aL,AX.ev,yO]using this
theorem uZ{R:Nat→Prop}{ι:VI}{H:WH}{M:Heap}(s:VS R ι H M){l lA:Fast}(he:iR R ι M l lA):∀ {rs:List mK} {vs:List AV},y5 rs l H=some vs→∃as,uK rs lA M=some as∧aR M (OR R ι) ι vs as
 | [],vs,h=>by
  simp only[y5,ak]at h
  subst h
  exact⟨[],rfl,by simp[aR]⟩
 | r::rs,vs,h=>by
  simp only[y5]at h
  split at h
  case h_2=>cases h
  rename_i v vs' h1 h2
  obtain rfl:=aj h
  obtain⟨a,e1,e2⟩:=FP s he h1
  obtain⟨as,e3,e4⟩:=uZ s he h2
  exact⟨a::as,by simp only[uK,e1,aC,e3,aG],by simp only[aR];exact⟨e2,e4⟩⟩
theorem zn{R:Nat→Prop}{ι:VI}{H:WH}{M:Heap}(s:VS R ι H M){l lA:Fast}(he:iR R ι M l lA){rs:List mK}{v:AV}(h:qJ rs l H=some v):∃a,jO rs lA M=some a∧VL M (OR R ι) ι v a:=by
 unfold qJ at h
 split at h
 ·rename_i u hu
  obtain rfl:=aj h
  obtain⟨as,e1,e2⟩:=uZ s he hu
  match as,e2 with
  | [],e2=>simp[aR]at e2
  | [a],e2 =>
   simp only[aR]at e2
   exact⟨a,by simp only[jO,e1,aG],e2.1⟩
  | _::_::_,e2=>simp[aR]at e2
 ·rename_i vs hne hvs
  obtain rfl:=aj h
  obtain⟨as,e1,e2⟩:=uZ s he hvs
  refine⟨.tuple as, ?_,by simp only[VL];exact⟨as,rfl,e2⟩⟩
  simp only[jO,e1,aG]
  match as,e2 with
  | [],e2=>rfl
  | [a],e2 =>
   match vs,e2 with
   | [],e2=>simp[aR]at e2
   | [u],e2=>exact absurd rfl (hne u)
   | _::_::_,e2=>simp[aR]at e2
  | _::_::_,e2=>rfl
 ·cases h
theorem FQ {R:Nat→Prop} {ι:VI} {H:WH} {M:Heap} (s:VS R ι H M) {np:Nat} (hn:np≤H.length) {v a:AV} (hv:VL M (OR R ι) ι v a) {tr:TS} {v':AV} {out:WH} (h:FC np v H tr v' out) :
  ∃aM,VS R aM out M∧Stp np [] ι H M aM out M∧VL M (OR R aM) aM v' a:=by
 unfold FC at h
 split at h
 case h_2=>exact h.elim
 rename_i m ts mc _
 obtain⟨s0,k0,hl0⟩:=Bw tr hn s
 have hn0:=hn
 rw[←hl0]at hn
 generalize Fz tr H=H0 at *
 obtain⟨eu,h1,h2,h3⟩:=Ad m s0 (VL.retag v (ts.headD .undef) a hv)
 generalize hr:H_ m (Proofs.Ytkedeiklmpkgkaa.retag v (ts.headD .undef)) H0=r at *
 obtain⟨v1,H1⟩:=r
 simp only at h h1 h2 h3
 obtain⟨jD,k1,k2⟩:=qR [] mc (qG H1 np (jP v1)) H1 eu M h1
 have k3:=VL.step h1 k2 h3
 obtain⟨rfl,rfl⟩:=h
 obtain⟨Kh,q1,q2,q3⟩:=GY k1 (Nat.le_trans hn (Nat.le_trans h2.next k2.next)) (jP v1) (vs:=[v1]) (as:=[a]) (by simp only[aR];exact⟨k3,trivial⟩)
 simp only[vE,aR]at q3
 refine⟨Kh,q1, ?_,q3.1⟩
 have e1:Stp np [] ι H0 M eu H1 M:=h2.weak hn
 have e2:Stp np [] eu H1 M jD _ M:=k2.weak (Nat.le_trans hn h2.next)
 have:=(k0.trans (e1.trans e2 (Nat.le_refl _)) (Nat.le_refl _)).trans q2 (Nat.le_refl _)
 simpa using this
theorem wS{M:Heap}{O:Nat→Prop}{κ:VI}:∀ {vs as:List AV} (i:Nat),aR M O κ vs as→∀t,VL M O κ (look (start i vs) t) (look (start i as) t)
 | [],[],i,_,t=>by simp[start,look,VL]
 | v::vs,a::as,i,h,t=>by
  simp only[aR]at h
  simp only[start,iT]
  split
  ·exact h.1
  ·exact wS (i+1) h.2 t
 | [],_::_,_,h,_=>by simp[aR]at h
 | _::_,[],_,h,_=>by simp[aR]at h
theorem FR {G:yP} {T:FuncId→Option dR} {K d:Nat} {B:FuncId→Option Bt} (hB:∀f b,B f=some b→Cu (kJ G T K d) f b) {f:FuncId} (hG:G f=none) {af:dR} (hT:T f=some af) (hc:af.code.bO=true) {args:List AV} {blks:WH} {tr:TS} {v:AV} {out:WH}
  (h1:args.length=af.nargs) (h2:af.nargs≤af.ntmps) (h3:GQ (kJ G T K d) B K af args blks tr v out):Spec (kJ G T K (d+1)) f args blks v out:=by
 intro R ι M as s hv
 have hl:=hv.length
 have hst:iR R ι M (start 0 (args++List.replicate (af.ntmps-af.nargs) (.tuple []))) (start 0 (as++List.replicate (af.ntmps-af.nargs) (.tuple []))):=by
  refine wS 0 (hv.append ?_)
  generalize af.ntmps-af.nargs=m
  induction m with
  | zero=>simp[aR]
  | succ m ih=>simp only[List.replicate_succ,aR];exact⟨VL.unit,ih⟩
 obtain⟨ex,iJ,M',aM,l',H',dK,q1,q2,q3,q4,q5⟩:=iK hB af.code _ _ blks M ι tr _ hc s (Nat.le_refl _) hst h3
 obtain⟨l1,tr1,hl1,q5⟩:=jm q5
 have q4:iR R aM M' l1 iJ:=λt=>by rw[hl1 t];exact q4 t
 have fin:∀ {ex},(match qJ af.results l1 H' with
   | some u=>FC blks.length u H' tr1 v out
   | none=>False)→(ex=.normal∨ex=.ret)→bW (kJ G T K d) K af.ntmps af.code (start 0 (as++List.replicate (af.ntmps-af.nargs) (.tuple []))) M=some (ex,iJ,M') →
   ∃a M' aM,kJ G T K (d+1) f as M=some (a,M')∧VS R aM out M'∧Stp blks.length (List.range blks.length) ι blks M aM out M'∧VL M' (OR R aM) aM v a:=by
  intro ex hm hx hrun
  split at hm
  case h_2=>exact hm.elim
  rename_i u hu
  obtain⟨a,e1,e2⟩:=zn q2 q4 hu
  obtain⟨jD,e3,e4,e5⟩:=FQ q2 q3.next e2 hm
  refine⟨a,M',jD, ?_,e3,gu (q3.trans e4 (Nat.le_refl _)),e5⟩
  simp only[kJ,hG,hT,bbody]
  rw[if_pos ⟨by rw[←hl];exact h1,h2⟩]
  rcases hx with rfl | rfl<;>simp only[hrun,e1,aG]
 cases ex with
 | normal=>exact fin q5 (.inl rfl) q1
 | ret=>exact fin q5 (.inr rfl) q1
 | exit i=>exact q5.elim
theorem FT {C:aQ} {B:FuncId→Option Bt} (hB:∀f b,B f=some b→Cu C f b) {K n np:Nat} {code:dw} (hc:code.bO=true) {ins:Fast} {blks:WH} (hn:np≤blks.length) {tr:TS} {x:Ex×Fast×WH}
  (h:GU C B K n np code ins blks tr x):z8 (bW C K n code) np ins blks x.1 x.2.1 x.2.2:=by
 intro R ι M lA s he
 obtain⟨ex',iJ,M',aM,l',H',dK,q1,q2,q3,q4,q5⟩:=iK hB code ins lA blks M ι tr _ hc s hn he h
 unfold GR at q5
 obtain⟨l1,dK,hl1,q5⟩:=jm q5
 have q4:iR R aM M' l1 iJ:=λt=>by rw[hl1 t];exact q4 t
 split at q5
 case h_2=>exact q5.elim
 rename_i keep ms bs ts _
 obtain⟨s0,k0,hl0⟩:=Bw dK q3.next q2
 obtain⟨vs',out',jD,⟨rfl,e1,e2⟩,s2,k2,hv⟩:=r_ s0 (by rw[hl0];exact q3.next) (q4.map keep) q5
 rw[←e1,←e2]
 exact⟨iJ,M',jD,q1,s2,gu (q3.trans ((gu k0).trans k2 (Nat.le_refl _)) (Nat.le_refl _)),λt=>(tX keep vs' hv t).1⟩
theorem l7 {G:yP} {T:FuncId→Option dR} {K d:Nat} {B:FuncId→Option Bt} (hB:∀f b,B f=some b→Cu (kJ G T K d) f b) {f:FuncId} {af:dR} (hf:G f=none∧T f=some af∧af.code.bO=true) {args:List AV} {blks:WH} {R:Type} {o:R→AV×WH} {r:R} {F:Option R}
  (h:F=some r) (t:Tc F) (h1:args.length=af.nargs:=by rfl) (h2:Nat.ble af.nargs af.ntmps=true:=by rfl) (e:GQ (kJ G T K d) B K af args blks ⟨t⟩ (o r).1 (o r).2=claim (λv=>(o v).1=(o r).1∧(o v).2=(o r).2) r t:=by kernel_rfl):Spec (kJ G T K (d+1)) f args blks (o r).1 (o r).2 :=
 FR hB hf.1 hf.2.1 hf.2.2 h1 (Nat.le_of_ble_eq_true h2) (e.mpr (bR ⟨rfl,rfl⟩ t h))
theorem qh {C:aQ} {B:FuncId→Option Bt} (hB:∀f b,B f=some b→Cu C f b) {K n np:Nat} {code:dw} (hc:code.bO=true) {ins:Fast} {blks:WH} {R:Type} {o:R→Ex×Fast×WH} {r:R} {F:Option R}
  (h:F=some r) (t:Tc F) (hn:Nat.ble np blks.length=true:=by rfl) (e:GU C B K n np code ins blks ⟨t⟩ (o r)=claim (λv=>(o v).1=(o r).1∧(o v).2.1=(o r).2.1∧(o v).2.2=(o r).2.2) r t:=by kernel_rfl):z8 (bW C K n code) np ins blks (o r).1 (o r).2.1 (o r).2.2 :=
 FT hB hc (Nat.le_of_ble_eq_true hn) (e.mpr (bR ⟨rfl,rfl,rfl⟩ t h))
def l8{S E:Type}(step:S→Option (S⊕E)):Nat→S→Option E
 | 0,_=>none
 | k+1,s=>match step s with
  | none=>none
  | some (.inl s)=>l8 step k s
  | some (.inr e)=>some e
def qj{S E:Type}(keep:List Nat)(st:S→List AV×WH)(fin:E→Ex×Fast×WH):S⊕E→Ex×Fast×WH
 |.inl s=>(.normal,eZ keep (st s).1,(st s).2)
 |.inr e=>fin e
theorem u6{l:Fast}(t:Nat):∀keep:List Nat,look (lY l keep) t=if t∈keep then look l t else .undef
 | []=>by simp[lY,look]
 | u::r=>by
  simp only[lY,iT,u6 t r,List.mem_cons]
  by_cases e:u=t
  ·subst e;simp
  ·simp[e,Ne.symm e,show ¬t=u from λh=>e h.symm]
theorem tY {S E:Type} {body:Fast→Heap→tF} {np:Nat} {keep:List Nat} {st:S→List AV×WH} {fin:E→Ex×Fast×WH} {step:S→Option (S⊕E)} (hE:∀e,(fin e).1≠.normal)
  (hr:∀s x,step s=some x→z8 body np (eZ keep (st s).1) (st s).2 (qj keep st fin x).1 (qj keep st fin x).2.1 (qj keep st fin x).2.2) :
  ∀(k:Nat) (s:S) (e:E),l8 step k s=some e→z8 (nO body keep k) np (eZ keep (st s).1) (st s).2 (fin e).1 (fin e).2.1 (fin e).2.2
 | 0,s,e,h=>by simp[l8]at h
 | k+1,s,e,h=>by
  intro R ι M lA vs he
  have zk:∀(keep:List Nat) (xs:List AV) (t:Nat),t∉keep→look (eZ keep xs) t=.undef:=λkeep=>by
   induction keep with
   | nil=>intro xs t _;cases xs<;>simp[eZ,look]
   | cons u r ih =>
    intro xs t ht
    rw[List.mem_cons,not_or]at ht
    cases xs with
    | nil=>simp[eZ,look]
    | cons v xs =>
     simp only[eZ,iT]
     rw[if_neg (λe=>ht.1 e.symm)]
     exact ih xs t ht.2
  have he':∀t,VL M (OR R ι) ι (look (eZ keep (st s).1) t) (look (lY lA keep) t):=λt=>by
   rw[u6]
   split
   ·exact he t
   ·rename_i ht
    rw[zk keep _ t ht]
    simp[VL]
  simp only[l8]at h
  split at h
  ·cases h
  ·rename_i s' hs
   have:=hr s _ hs
   obtain⟨iJ,M',aM,q1,q2,q3,q4⟩:=this R ι M (lY lA keep) vs he'
   obtain⟨lA2,M2,jD,r1,r2,r3,r4⟩:=tY hE hr k s' e h R aM M' iJ q2 q4
   refine⟨lA2,M2,jD, ?_,r2,gu (q3.trans r3 (Nat.le_refl _)),r4⟩
   simp only[nO,q1]
   exact r1
  ·rename_i e' hs
   obtain rfl:=aj h
   have:=hr s _ hs
   simp only[qj]at this
   obtain⟨iJ,M',aM,q1,q2,q3,q4⟩:=this R ι M (lY lA keep) vs he'
   refine⟨iJ,M',aM, ?_,q2,q3,q4⟩
   simp only[nO,q1]
   have:=hE e'
   generalize (fin e').1=x at *
   cases x with
   | normal=>exact absurd rfl this
   | exit i=>rfl
   | ret=>rfl
open Go.ChangeShapes Go.WideShapes Go.ChangeAt Go.RowKit
mutual
def jG:Sh→Nat
 |.agg ss=>kM ss
 | _=>1
def kM:List Sh→Nat
 | []=>0
 | s::r=>jG s+kM r
end
mutual
def encS:Sh→D→List AV
 |.bool,.bool b=>[.bool b]
 |.int _,.int k n=>[.int k n]
 |.str,.str s=>[.str s]
 |.list e,.list l=>[.list (jG e) l.length (xW e l) false]
 |.agg ss,.agg l=>pR ss l
 | _,_=>[]
def xW(e:Sh):List D→List AV
 | []=>[]
 | d::r=>encS e d++xW e r
def pR:List Sh→List D→List AV
 | s::ss,d::r=>encS s d++pR ss r
 | _,_=>[]
end
theorem nS{e:Sh}:∀ {l:List D} {n:Nat},l.length=n→pR (List.replicate n e) l=xW e l
 | [],n,h=>by
  subst h
  simp[pR,xW]
 | d::r,n,h=>by
  subst h
  simp only[bV,List.replicate_succ,pR,xW]
  rw[nS rfl]
theorem l9(s:Sh):∀n,kM (List.replicate n s)=n*jG s
 | 0=>by simp[kM]
 | n+1=>by
  rw[List.replicate_succ,kM,l9 s n,Nat.succ_mul,Nat.add_comm]
theorem sD{P:Program}(hl:laidOutB P=true):∀(k:Nat) (t:TypeId) (s:Sh),p8 P k t=some s→t<P.types.size→P.cellsOf t=jG s
 | 0,_,_,h,_=>by simp[p8]at h
 | k+1,t,s,h,ht=>by
  have hr:=Go.rowFine_of hl ht
  simp only[p8]at h
  split at h
  case h_7=>cases h
  ·rename_i hu
   obtain rfl:=aj h
   simpa[rowFine,isVar,ht,hu,kindOk,jG]using hr
  ·rename_i i hu
   obtain rfl:=aj h
   simpa[rowFine,isVar,ht,hu,kindOk,jG]using hr
  ·rename_i hu
   obtain rfl:=aj h
   simpa[rowFine,isVar,ht,hu,kindOk,jG]using hr
  ·rename_i e hu
   split at h
   ·cases h
   obtain⟨se,hse,rfl⟩:=au.1 h
   simp[rowFine,isVar,ht,hu,kindOk]at hr
   simpa[jG]using hr.2
  ·rename_i fs hu
   obtain⟨ss,hss,rfl⟩:=au.1 h
   obtain⟨h1,h2,_⟩:=Go.kid_struct hl ht hu
   rw[h2,jG]
   have hall:∀(fl:List Field) (ss:List Sh),(∀f∈fl,f.type<P.types.size)→vD (p8 P k) (fl.map λf=>f.type)=some ss→(fl.map λf=>P.cellsOf f.type).sum=kM ss:=by
    intro fl
    induction fl with
    | nil =>
     intro ss _ h
     simp[vD]at h
     subst h
     simp[kM]
    | cons f fl ih =>
     intro ss hf h
     simp only[List.map_cons,vD]at h
     split at h
     case h_2=>cases h
     rename_i s r h1 h2
     obtain rfl:=aj h
     rw[List.map_cons,List.sum_cons,kM,sD hl k _ _ h1 (hf f (by simp)),ih r (λg hg=>hf g (by simp[hg])) h2]
   exact hall fs.toList ss h1 hss
  ·rename_i n e hu
   obtain⟨se,hse,rfl⟩:=au.1 h
   obtain⟨h1,h2⟩:=Go.kid_array hl ht hu
   rw[h2,jG,l9,sD hl k _ _ hse h1]
mutual
theorem VL.sub{M M':Heap}{κ iI:VI}(h:M.Sub M')(hn:M.next≤M'.next):∀(v a:AV),VL M (λ_=>False) VI.none v a→VL M' (λ_=>False) VI.none v a
 |.undef,_,_=>by simp[VL]
 |.bool _,_,e=>by simpa[VL]using e
 |.int _ _,_,e=>by simpa[VL]using e
 |.str _,_,e=>by simpa[VL]using e
 |.ptr none,_,e=>by simpa[VL]using e
 |.ptr (some q),_,e=>by simp[VL,VI.none]at e
 |.slice none _ _ _ _,_,e=>by simpa[VL]using e
 |.slice (some q) _ _ _ _,_,e=>by simp[VL,VI.none]at e
 |.map none,_,e=>by simpa[VL]using e
 |.map (some r),_,e=>by simp[VL,VI.none]at e
 |.func f cs,_,e=>by
  simp only[VL]at e ⊢
  obtain⟨cs',h1,h2⟩:=e
  exact⟨cs',h1,aR.sub h hn cs cs' h2⟩
 |.nilFunc,_,e=>by simpa[VL]using e
 |.agg cs,_,e=>by
  simp only[VL]at e ⊢
  obtain⟨cs',h1,h2⟩:=e
  exact⟨cs',h1,aR.sub h hn cs cs' h2⟩
 |.tuple cs,_,e=>by
  simp only[VL]at e ⊢
  obtain⟨cs',h1,h2⟩:=e
  exact⟨cs',h1,aR.sub h hn cs cs' h2⟩
 |.list sz len cs ex,_,e=>by
  simp only[VL]at e ⊢
  rcases e with e |⟨b,o,cap,ex',h1,h2,h3,h4,h5⟩
  ·exact .inl e
  refine .inr ⟨b,o,cap,ex',h1,h2,h3,h4,λhl=>?_⟩
  obtain⟨c,ro,sl,g1,g2,g3,g4,g5⟩:=h5 hl
  exact⟨c,ro,sl,h _ _ g1,g2,Nat.lt_of_lt_of_le g3 hn,g4,aR.sub h hn cs _ g5⟩
 |.elem cs,_,e=>by
  simp only[VL]at e ⊢
  obtain⟨b,o,c,ro,sl,h1,g1,g2,g3,g5⟩:=e
  exact⟨b,o,c,ro,sl,h1,h _ _ g1,g2,Nat.lt_of_lt_of_le g3 hn,aR.sub h hn cs _ g5⟩
 |.acc b o sz n w,_,e=>by simp[VL,VI.none]at e
theorem aR.sub{M M':Heap}(h:M.Sub M')(hn:M.next≤M'.next):∀(l r:List AV),aR M (λ_=>False) VI.none l r→aR M' (λ_=>False) VI.none l r
 | [],[],_=>by simp[aR]
 | a::l,v::r,e=>by
  simp only[aR]at e ⊢
  exact⟨VL.sub (κ:=VI.none) (iI:=VI.none) h hn a v e.1,aR.sub h hn l r e.2⟩
 | [],_::_,e=>by simp[aR]at e
 | _::_,[],e=>by simp[aR]at e
end
abbrev Aj(M:Heap):=aR M (λ_=>False) VI.none
def xX(W:World)(s:Sh)(cs:List Value)(d:D):Prop :=
 ∀ι M,R ι M W→iG M→∃aM M' zX,Grow ι M aM M' W∧bg aM zX cs∧(∀a∈zX,a.bH=true)∧Aj M' (encS s d) zX∧D.is s d
def bT(W:World):List Sh→List (List Value)→List D→Prop
 | [],[],[]=>True
 | s::ss,c::cs,d::ds=>xX W s c d∧bT W ss cs ds
 | _,_,_=>False
theorem bT.open {W:World}:∀ {ss:List Sh} {css:List (List Value)} {ds:List D},bT W ss css ds→∀ι M,R ι M W→iG M →
  ∃aM M' ,∃pieces:List (List AV),Grow ι M aM M' W∧pieces.map List.length=css.map List.length∧bg aM pieces.flatten css.flatten∧(∀p∈pieces,∀a∈p,a.bH=true)∧Aj M' (pR ss ds) pieces.flatten∧D.are ss ds
 | [],[],[],_,ι,M,r,ro=>⟨ι,M,[],.refl r ro,rfl,by simp[bg],by simp,by simp[pR,Aj,aR],by simp[D.are]⟩
 | s::ss,c::css,d::ds,h,ι,M,r,ro=>by
  simp only[bT]at h
  obtain⟨eu,M1,zX,g1,v1,c1,r1,i1⟩:=h.1 ι M r ro
  obtain⟨jD,M2,ps,g2,l2,v2,c2,r2,i2⟩:=bT.open h.2 eu M1 g1.rel g1.ro
  refine⟨jD,M2,zX::ps,g1.trans g2, ?_, ?_, ?_, ?_, ?_⟩
  ·have:=v1.length
   simp[l2,this]
  ·simp only[List.flatten_cons]
   exact(v1.mono g2.le).append v2
  ·intro p hp
   rcases List.mem_cons.1 hp with rfl | hp
   ·exact c1
   ·exact c2 p hp
  ·simp only[pR,List.flatten_cons]
   exact(aR.sub g2.sub g2.next _ _ r1).append r2
  ·simp only[D.are]
   exact⟨i1,i2⟩
 | [],[],_::_,h,_,_,_,_=>by simp[bT]at h
 | [],_::_,_,h,_,_,_,_=>by simp[bT]at h
 | _::_,[],_,h,_,_,_,_=>by simp[bT]at h
 | _::_,_::_,[],h,_,_,_,_=>by simp[bT]at h
theorem bT.jd {W:World}:∀ {ss:List Sh} {css:List (List Value)} {ds:List D},ss.length=ds.length→css.length=ds.length →
  (∀(i:Nat) s c d,ss[i]?=some s→css[i]?=some c→ds[i]?=some d→xX W s c d)→bT W ss css ds
 | [],[],[],_,_,_=>by simp[bT]
 | s::ss,c::css,d::ds,h1,h2,h=>by
  simp only[bT]
  exact⟨h 0 s c d (by simp) (by simp) (by simp),bT.jd (by simpa using h1) (by simpa using h2) λi s c d a1 a2 a3=>h (i+1) s c d (by simpa using a1) (by simpa using a2) (by simpa using a3)⟩
 | [],_,_::_,h1,_,_=>by simp at h1
 | _::_,_,[],h1,_,_=>by simp at h1
 | _,[],_::_,_,h2,_=>by simp at h2
 | _,_::_,[],_,h2,_=>by simp at h2
theorem nH{W:World}{s:Sh}{v:Value}{a:AV}{d:D}(hv:∀ι,VR ι a v)(hc:a.bH=true)(hr:∀M,Aj M (encS s d) [a])(hs:D.is s d):xX W s [v] d:=λι M r ro =>
 ⟨ι,M,[a],.refl r ro,by simp only[bg];exact⟨hv ι,trivial⟩,λx hx=>by simp at hx;subst hx;exact hc,hr M,hs⟩
theorem nI {H:Type} {enc:TypeId×Value→H} {P:Program} (hl:laidOutB P=true) {W:World}:∀(k:Nat) (t:TypeId) (s:Sh),p8 P k t=some s→t<P.types.size →
  ∀(fuel:Nat) (cs:List Value) (x:DataW H×List MemPlace),DataW.trod enc P W 0 (λ_=>true) true fuel t cs=some x→xX W s cs (kY x.1)
 | 0,_,_,hs,_,_,_,_,_=>by simp[p8]at hs
 | k+1,t,s,hs,ht,fuel,cs,x,h=>by
  simp only[p8]at hs
  split at hs
  case h_7=>cases hs
  ·rename_i hu
   obtain rfl:=aj hs
   obtain⟨b,rfl,rfl⟩:=DataW.trod_bool hu h
   exact nH (a:=.bool b) (λι=>by simp[VR]) rfl (λM=>by simp[kY,encS,aR,VL]) ⟨b,rfl⟩
  ·rename_i i hu
   obtain rfl:=aj hs
   obtain⟨n,rfl,rfl,hw⟩:=DataW.trod_int hu h
   simp only[Lit.wf,Bool.and_eq_true,decide_eq_true_eq]at hw
   exact nH (a:=.int i n) (λι=>by simp[VR]) rfl (λM=>by simp[kY,encS,aR,VL]) ⟨n,rfl,hw⟩
  ·rename_i hu
   obtain rfl:=aj hs
   obtain⟨b,rfl,rfl,hw⟩:=DataW.trod_string hu h
   exact nH (a:=.str b.data.toList) (λι=>by simp only[VR];exact⟨b,rfl,rfl⟩) rfl (λM=>by simp[kY,encS,aR,VL]) ⟨_,rfl⟩
  ·rename_i e hu
   split at hs
   ·cases hs
   rename_i hsz
   obtain⟨se,hse,rfl⟩:=au.1 hs
   have hte:e<P.types.size:=Go.kid_slice hl ht hu
   rcases DataW.trod_slice hu h with⟨rfl,rfl⟩ |⟨a,len,cap,elems,rest,n,rfl,rfl,rfl,_,hlc,_,hlen,hel,hre,_⟩
   ·exact nH (a:=.slice none (jG se) 0 0 true) (λι=>by simp[VR]) rfl (λM=>by simp[kY,encS,xW,aR,VL]) ⟨[],by simp[kY],by simp⟩
   ·intro ι M r ro
    obtain⟨hrl,hre⟩:=hre rfl
    simp only[kY]
    have hsz':=sD hl _ _ _ hse hte
    generalize hz:P.cellsOf e=sz at *
    rcases Nat.eq_zero_or_pos cap with hc0 | hcp
    ·subst hc0
     obtain rfl:len=0:=by omega
     have Kk:elems=[]:=by simpa using hlen
     subst Kk
     refine⟨_,_,[.slice (some (M.next,0)) sz 0 0 true],Grow.skip r ro ⟨a.block,0,0⟩, ?_, ?_, ?_, ?_⟩
     ·simp only[bg,VR,and_true]
      exact⟨⟨a.block,0,0⟩,a,0,by simp[bJ.set],rfl,.inl rfl,.inl rfl,.inl rfl,Nat.le_refl _,Nat.le_refl _,λ_=>rfl,by simp,by omega⟩
     ·intro y hy
      simp at hy
      subst hy
      rfl
     ·simp only[List.map_nil,rV,encS,xW,aR,VL,and_true]
      exact .inr ⟨M.next,0,0,true,by rw[hsz'];rfl,Nat.le_refl _,by simp,by simp,λh=>absurd rfl h⟩
     ·exact⟨[],by simp[rV],by simp⟩
    ·-- every element's cells
     have all:∀i,i<cap→∃ci,W.cells? 0 (a.add (i*sz)) sz=some ci∧(i<len→∃y,elems[i]?=some y∧DataW.trod enc P W 0 (λ_=>true) true n e ci=some y):=by
      intro i hi
      by_cases hil:i<len
      ·have h1:=hel i hil
       rw[aJ (by omega)]at h1
       obtain⟨ci,h2,h3⟩:=av.1 h1
       exact⟨ci,h2,λ_=>⟨_,aJ (by omega),h3⟩⟩
      ·have h1:=hre (i-len) (by omega)
       rw[aJ (by omega)]at h1
       obtain⟨ci,h2,h3⟩:=av.1 h1
       rw[show len+(i-len)=i from by omega]at h2
       exact⟨ci,h2,λhx=>absurd hx hil⟩
     obtain⟨c0,hc0,_⟩:=all 0 hcp
     obtain⟨_,hl0,hg0⟩:=World.cells?_some hc0
     have hone:=hg0 0 (by omega)
     rw[aJ (by omega)]at hone
     obtain⟨c,el,fz,pW,hsp,_⟩:=BX hone
     have ha0:(a.add (0*sz)).add 0=a:=by simp[Addr.add]
     rw[ha0]at pW hsp
     obtain⟨j,off,spot⟩:=a
     simp only at pW hsp
     subst hsp
     have KN:∀i v,W.cell? ⟨j,i,none⟩=some v→c[i]?=some v:=λi v hv=>by
      simpa[World.cell?,pW]using hv
     have G7:∀i,W.cell? ⟨j,i,none⟩=c[i]?:=λi=>by simp[World.cell?,pW]
     have Jq:∀i ci,W.cells? 0 ((⟨j,off,none⟩:Addr).add (i*sz)) sz=some ci→ci=(c.toList.drop (off+i*sz)).take sz∧off+i*sz+sz≤c.size:=by
      intro i ci hci
      obtain⟨_,q1,q2⟩:=World.cells?_some hci
      have hsize:off+i*sz+sz≤c.size:=by
       have:=q2 (sz-1) (by omega)
       rw[fH,fH,G7,aJ (by omega)]at this
       have:=(Array.getElem?_eq_some_iff.1 this).1
       omega
      refine⟨?_,hsize⟩
      apply List.ext_getElem?
      intro q
      by_cases hq:q<sz
      ·have:=q2 q hq
       rw[fH,fH,G7]at this
       rw[←this,List.getElem?_take,if_pos hq,List.getElem?_drop,Array.getElem?_toList]
      ·rw[List.getElem?_eq_none (by omega),List.getElem?_eq_none (by simp;omega)]
     have hend:off+cap*sz≤c.size:=by
      obtain⟨ci,h1,_⟩:=all (cap-1) (by omega)
      have:=(Jq _ _ h1).2
      have:(cap-1)*sz+sz=cap*sz:=by rw[←Nat.succ_mul];congr 1;omega
      omega
     have hrow:len*sz≤cap*sz:=Nat.mul_le_mul_right _ hlc
     have u7:bT W (List.replicate len se) (chunks (List.replicate len sz) (c.toList.drop off)) (elems.map λy=>kY y.1):=by
      refine bT.jd (by simp[hlen]) (by simp[jM,hlen]) λi s0 ci d0 h1 h2 h3=>?_
      have hi:i<len:=by
       have:=(aA.1 h1).1
       simpa using this
      rw[List.getElem?_replicate,if_pos hi]at h1
      obtain rfl:=aj h1
      rw[nC _ _ i sz (by rw[List.getElem?_replicate,if_pos hi])]at h2
      obtain rfl:=aj h2
      obtain⟨ci,g1,g2⟩:=all i (by omega)
      obtain⟨y,g3,g4⟩:=g2 hi
      obtain⟨g5,_⟩:=Jq i ci g1
      rw[List.getElem?_map,g3]at h3
      obtain rfl:=aj h3
      have e1:(List.take i (List.replicate len sz)).sum=i*sz:=by
       rw[List.take_replicate,Nat.min_eq_left (by omega),List.sum_replicate_nat]
      rw[e1,List.drop_drop,←g5]
      exact nI hl k e se hse hte n ci y g4
     obtain⟨eu,M1,pieces,g1,hpl,hpv,hpc,hpp,Et⟩:=u7.open ι M r ro
     have Em:(chunks (List.replicate len sz) (c.toList.drop off)).flatten=(c.toList.drop off).take (len*sz):=by
      rw[chunks_flatten,List.sum_replicate_nat]
     rw[Em]at hpv
     have hfl:pieces.flatten.length=len*sz:=by
      have:=hpv.length
      simp at this
      rw[List.length_flatten,this]
      omega
     have Eu:=Grow.see (c:=pieces.flatten) (l:=⟨j,off,cap*sz⟩) g1.rel g1.ro pW (by
      refine⟨c,el,fz,rfl,hend,by rw[hfl];exact hrow,(λh=>by cases h),λi b hb=>?_,λh=>by cases h⟩
      obtain⟨v,hv,Df⟩:=hpv.get i b hb
      refine⟨v, ?_, ?_,Df⟩
      ·rw[List.getElem?_take]at hv
       split at hv
       ·rw[List.getElem?_drop,Array.getElem?_toList]at hv
        exact hv
       ·cases hv
      ·obtain⟨p,hp,hbp⟩:=List.mem_flatten.1 (List.mem_of_getElem? hb)
       exact hpc p hp b hbp)
     have hdl:(rV (elems.map λy=>y.1)).length=len:=by rw[nA];simp[hlen]
     refine⟨_,_,[.slice (some (M1.next,0)) sz len cap true],g1.trans Eu, ?_, ?_, ?_, ?_⟩
     ·simp only[bg,VR,and_true]
      exact⟨⟨j,off,cap*sz⟩,⟨j,off,none⟩,cap,by simp[bJ.set],rfl,.inr rfl,.inr rfl,.inr rfl,hlc,Nat.le_refl _,λ_=>rfl,by simp,by omega⟩
     ·intro y hy
      simp at hy
      subst hy
      rfl
     ·have e1:rV (elems.map λy=>y.1)=elems.map λy=>kY y.1:=by rw[nA];simp
      rw[nS]at hpp
      ·simp only[encS,aR,VL,and_true,e1]
       refine .inr ⟨M1.next,0,cap,true, ?_, ?_,by simp, ?_,λ_=>⟨pieces.flatten,true,true,by simp[Heap.push],λh=>h,by simp[Heap.push], ?_, ?_⟩⟩
       ·rw[hsz',List.length_map,hlen]
       ·rw[List.length_map,hlen];exact hlc
       ·rw[hpp.length,hfl,List.length_map,hlen,hsz']
       ·rw[List.length_map,hlen,←hsz'];omega
       ·rw[List.length_map,hlen,←hsz',List.drop_zero,List.take_of_length_le (by omega)]
        exact aR.sub Eu.sub Eu.next _ _ hpp
      ·simp[hlen]
     ·have e1:rV (elems.map λy=>y.1)=elems.map λy=>kY y.1:=by rw[nA];simp
      refine⟨_,rfl, ?_⟩
      rw[e1]
      exact(D.pI Et).2
  ·rename_i fs hu
   obtain⟨ss,hss,rfl⟩:=au.1 hs
   obtain⟨hsl,hsg⟩:=vY hss
   obtain⟨kt,kc,ko⟩:=Go.kid_struct hl ht hu
   obtain⟨xs,n,rfl,rfl,hcl,hxl,hget⟩:=DataW.trod_struct hu h
   intro ι M r ro
   have u7:bT W ss (chunks (fs.toList.map λf=>P.cellsOf f.type) cs) (xs.map λy=>kY y.1):=by
    refine bT.jd (by simp[hsl,hxl]) (by simp[jM,hxl]) λi s0 ci d0 h1 h2 h3=>?_
    have hi:i<fs.toList.length:=by
     have:=(aA.1 h1).1
     simpa[hsl]using this
    have hf:fs.toList[i]?=some fs.toList[i]:=aJ hi
    obtain⟨s1,g1,g2⟩:=hsg i _ (by rw[List.getElem?_map,hf];rfl)
    rw[h1]at g1
    obtain rfl:=aj g1
    rw[nC _ _ i _ (by rw[List.getElem?_map,hf];rfl)]at h2
    obtain rfl:=aj h2
    have h4:=hget i fs.toList[i] (by rw[←Array.getElem?_toList];exact hf)
    rw[List.getElem?_map]at h3
    obtain⟨y,hy,rfl⟩:=au.1 h3
    rw[hy,ko i _ hf]at h4
    rw[←List.map_take]
    exact nI hl k _ _ g2 (kt _ (List.getElem_mem hi)) n _ y h4
   obtain⟨eu,M1,pieces,g1,hpl,hpv,hpc,hpp,Et⟩:=u7.open ι M r ro
   rw[chunks_flatten,←kc,←hcl,List.take_length]at hpv
   have e1:kY (DataW.agg (xs.map λy=>y.1))=.agg (xs.map λy=>kY y.1):=by simp[kY,nA]
   refine⟨eu,M1,pieces.flatten,g1,hpv,λa ha=>?_, ?_, ?_⟩
   ·obtain⟨p,hp,hap⟩:=List.mem_flatten.1 ha
    exact hpc p hp a hap
   ·rw[e1]
    simp only[encS]
    exact hpp
   ·rw[e1]
    exact⟨_,rfl,Et⟩
  ·rename_i m e hu
   obtain⟨se,hse,rfl⟩:=au.1 hs
   obtain⟨hte,kc⟩:=Go.kid_array hl ht hu
   obtain⟨xs,n,rfl,rfl,hcl,hxl,hget⟩:=DataW.trod_array hu h
   intro ι M r ro
   have u7:bT W (List.replicate m se) (chunks (List.replicate m (P.cellsOf e)) cs) (xs.map λy=>kY y.1):=by
    refine bT.jd (by simp[hxl]) (by simp[jM,hxl]) λi s0 ci d0 h1 h2 h3=>?_
    have hi:i<m:=by
     have:=(aA.1 h1).1
     simpa using this
    rw[List.getElem?_replicate,if_pos hi]at h1
    obtain rfl:=aj h1
    rw[nC _ _ i (P.cellsOf e) (by rw[List.getElem?_replicate,if_pos hi])]at h2
    obtain rfl:=aj h2
    have h4:=hget i hi
    rw[List.getElem?_map]at h3
    obtain⟨y,hy,rfl⟩:=au.1 h3
    rw[hy]at h4
    have e1:(List.take i (List.replicate m (P.cellsOf e))).sum=i*P.cellsOf e:=by
     rw[List.take_replicate,Nat.min_eq_left (by omega),List.sum_replicate_nat]
    rw[e1]
    exact nI hl k e se hse hte n _ y h4
   obtain⟨eu,M1,pieces,g1,hpl,hpv,hpc,hpp,Et⟩:=u7.open ι M r ro
   rw[chunks_flatten,List.sum_replicate_nat,←kc,←hcl,List.take_length]at hpv
   have e1:kY (DataW.agg (xs.map λy=>y.1))=.agg (xs.map λy=>kY y.1):=by simp[kY,nA]
   refine⟨eu,M1,pieces.flatten,g1,hpv,λa ha=>?_, ?_, ?_⟩
   ·obtain⟨p,hp,hap⟩:=List.mem_flatten.1 ha
    exact hpc p hp a hap
   ·rw[e1]
    simp only[encS]
    exact hpp
   ·rw[e1]
    exact⟨_,rfl,Et⟩
def oH(s:Sh)(d:D):AV :=
 match s with
 |.agg ss=>.agg (encS s d)
 | s=>(encS s d).headD .undef
def encArgs:List Sh→List D→List AV
 | s::ss,d::r=>oH s d::encArgs ss r
 | _,_=>[]
theorem Cy {H:Type} {enc:TypeId×Value→H} {P:Program} (hl:laidOutB P=true) {W:World} {k base:Nat} {t:TypeId} {s:Sh} (hs:p8 P k t=some s) (ht:t<P.types.size) {v:Value} {d:DataW H} {ps:List MemPlace}
  (hval:Value.okWide P W .any base t v) (h:DataW.Trod enc P W 0 (λ_=>true) true t v d ps) {ι:bJ} {M:Heap} (r:R ι M W) (ro:iG M) :
  ∃aM M' a,Grow ι M aM M' W∧VR aM a v∧VL M' (λ_=>False) VI.none (oH s (kY d)) a∧D.is s (kY d):=by
 obtain⟨fuel,hf⟩:=h
 obtain⟨aM,M',zX,g,hv,_,hr,hi⟩:=nI hl k t s hs ht fuel _ _ hf ι M r ro
 simp only at hr hi
 have one:v.cells=#[v]→(∀ss,s≠.agg ss)→∃aM M' a,Grow ι M aM M' W∧VR aM a v∧VL M' (λ_=>False) VI.none (oH s (kY d)) a∧D.is s (kY d):=by
  intro e1 e2
  rw[e1]at hv
  match zX,hv,hr with
  | [a],hv,hr =>
   simp only[bg]at hv
   refine⟨aM,M',a,g,hv.1, ?_,hi⟩
   have hlen:=hr.length
   have:∃x,encS s (kY d)=[x]:=by
    match hx:encS s (kY d),hlen with
    | [x],_=>exact⟨x,rfl⟩
    | [],h=>simp at h
    | _::_::_,h=>simp at h
   obtain⟨x,hx⟩:=this
   rw[hx]at hr
   simp only[aR]at hr
   have he:oH s (kY d)=x:=by
    cases s with
    | agg ss=>exact absurd rfl (e2 ss)
    | _=>simp[oH,hx]
   rw[he]
   exact hr.1
  | [],hv,_=>simp[bg]at hv
  | _::_::_,hv,_=>simp[bg]at hv
 have many:(∃cs,v=.agg cs)→(∃ss,s=.agg ss)→∃aM M' a,Grow ι M aM M' W∧VR aM a v∧VL M' (λ_=>False) VI.none (oH s (kY d)) a∧D.is s (kY d):=by
  rintro⟨cs,rfl⟩ ⟨ss,rfl⟩
  refine⟨aM,M',.agg zX,g, ?_, ?_,hi⟩
  ·simp only[VR]
   exact⟨cs,rfl,by simpa[Value.cells]using hv⟩
  ·simp only[oH,VL]
   exact⟨zX,rfl,hr⟩
 cases k with
 | zero=>simp[p8]at hs
 | succ k =>
  simp only[p8]at hs
  split at hs
  case h_7=>cases hs
  ·rename_i hu
   obtain rfl:=aj hs
   obtain⟨b,rfl⟩:=okWide_bool hu hval
   exact one rfl λl hl=>by cases hl
  ·rename_i i hu
   obtain rfl:=aj hs
   obtain⟨b,rfl⟩:=okWide_int hu hval
   exact one rfl λl hl=>by cases hl
  ·rename_i hu
   obtain rfl:=aj hs
   obtain⟨b,rfl⟩:=okWide_string hu hval
   exact one rfl λl hl=>by cases hl
  ·rename_i e hu
   split at hs
   ·cases hs
   obtain⟨se,hse,rfl⟩:=au.1 hs
   obtain⟨a,len,cap,rfl⟩:=okWide_slice hu hval
   exact one rfl λl hl=>by cases hl
  ·rename_i fs hu
   obtain⟨ss,hss,rfl⟩:=au.1 hs
   obtain⟨cs,hcs,_⟩:=okWide_struct hu hval
   exact many ⟨cs,hcs⟩ ⟨_,rfl⟩
  ·rename_i n e hu
   obtain⟨se,hse,rfl⟩:=au.1 hs
   simp only[Value.okWide,hu]at hval
   obtain⟨cs,hcs,_⟩:=hval
   exact many ⟨cs,hcs⟩ ⟨_,rfl⟩
theorem wT {H:Type} {enc:TypeId×Value→H} {P:Program} (hl:laidOutB P=true) {W:World} {k base:Nat} :
  ∀(ts:List TypeId) (ss:List Sh) (vs:List Value) (ds:List (DataW H)) (p:List MemPlace),uI P k ts=some ss→(ts.all λt=>decide (t<P.types.size))=true →
   (∀(j:Nat) t v,ts[j]?=some t→vs[j]?=some v→Value.okWide P W .any base t v)→DataW.TrodAll enc P W 0 (λ_=>true) true ts vs ds p →
   ∀ι M,R ι M W→iG M→∃aM M' as,Grow ι M aM M' W∧bg aM as vs∧Aj M' (encArgs ss (ds.map kY)) as∧D.are ss (ds.map kY)
 | [],ss,[],[],p,hs,_,_,_,ι,M,r,ro=>by
  simp[uI,vD]at hs
  subst hs
  exact⟨ι,M,[],.refl r ro,by simp[bg],by simp[encArgs,Aj,aR],by simp[D.are]⟩
 | t::ts,ss,v::vs,d::ds,p,hs,ht,hval,h,ι,M,r,ro=>by
  simp only[uI,vD]at hs
  split at hs
  case h_2=>cases hs
  rename_i s sr h1 h2
  obtain rfl:=aj hs
  simp only[List.all_cons,Bool.and_eq_true,decide_eq_true_eq]at ht
  simp only[DataW.TrodAll]at h
  obtain⟨p1,p2,g1,g2,_⟩:=h
  obtain⟨eu,M1,a,q1,q2,q3,q4⟩:=Cy hl h1 ht.1 (hval 0 t v (by simp) (by simp)) g1 r ro
  obtain⟨jD,M2,as,w1,w2,w3,w4⟩:=wT hl ts sr vs ds p2 h2 (by simpa using ht.2) (λj t v a b=>hval (j+1) t v (by simpa using a) (by simpa using b)) g2 eu M1 q1.rel q1.ro
  refine⟨jD,M2,a::as,q1.trans w1, ?_, ?_, ?_⟩
  ·simp only[bg]
   exact⟨q2.mono w1.le,w2⟩
  ·simp only[List.map_cons,encArgs,Aj,aR]
   exact⟨VL.sub (κ:=VI.none) (iI:=VI.none) w1.sub w1.next _ _ q3,w3⟩
  ·simp only[List.map_cons,D.are]
   exact⟨q4,w4⟩
 | [],_,_::_,_,_,_,_,_,h,_,_,_,_=>by simp[DataW.TrodAll]at h
 | [],_,[],_::_,_,_,_,_,h,_,_,_,_=>by simp[DataW.TrodAll]at h
 | _::_,_,[],_,_,_,_,_,h,_,_,_,_=>by simp[DataW.TrodAll]at h
 | _::_,_,_::_,[],_,_,_,_,h,_,_,_,_=>by simp[DataW.TrodAll]at h
def Jr(C:aQ)(f:FuncId)(ss:List Sh)(small:Nat):Prop :=
 ∀ds:List D,D.are ss ds→D.kI ds≤small→∃out,Spec C f (encArgs ss ds) [] (.bool true) out
theorem VS.empty{M:Heap}(h:M.Ok):VS (λ_=>False) VI.none [] M :=
 ⟨λ_ _ h=>(nomatch h),λ_ _ _ _ _ h=>(nomatch h),λi x h=>by simp[aU]at h,λ_ h=>(nomatch h),λ_ h=>(nomatch h),h,λ_ h=>h.elim⟩
theorem FU:OR (λ_=>False) VI.none=λ_=>False:=by
 funext j
 simp[OR,own,VI.none]
theorem zo {H:Type} {enc:TypeId×Value→H} {P:Program} (hl:laidOutB P=true) {f:FuncId} {C:aQ} (hg:Sound P f (C f)) {ss:List Sh} {small:Nat} (hp:Jr C f ss small)
  {W:World} {k base:Nat} {ts:List TypeId} {args:Array Value} {ds:List (DataW H)} {p:List MemPlace} (hs:uI P k ts=some ss) (ht:(ts.all λt=>decide (t<P.types.size))=true)
  (hval:∀(j:Nat) t v,ts[j]?=some t→args.toList[j]?=some v→Value.okWide P W .any base t v) (hA:DataW.TrodAll enc P W 0 (λ_=>true) true ts args.toList ds p) (hb:D.kI (ds.map kY)≤small) :
  Calls P f args W λe W'=>e=.returned (.bool true)∧Below W.heap.size W W':=by
 obtain⟨ι,M,as,g1,g2,g3,g4⟩:=wT hl ts ss args.toList ds p hs ht hval hA _ _ (R.empty W) (λb x h=>by simp[Heap.empty]at h)
 obtain⟨out,hH⟩:=hp _ g4 hb
 have hw:M.Ok:=λb hb=>(g1.rel.fresh b hb).1
 have g3':aR M (OR (λ_=>False) VI.none) VI.none (encArgs ss (ds.map kY)) as:=by rw[FU];exact g3
 obtain⟨a,M',eu,e1,e2,_,e3⟩:=hH _ VI.none M as (VS.empty hw) g3'
 simp only[VL]at e3
 subst e3
 refine(hg as M _ M' e1 ι W args g1.rel g2).mono ?_
 rintro e w' ⟨aM,v',rfl,hv,htr⟩
 simp only[VR]at hv
 subst hv
 exact⟨rfl,yN htr g1.ro⟩
def KK:Nat:=2000000000000
abbrev Tab:=yP×(FuncId→Option dR)
abbrev dx(A:Tab)(d:Nat):aQ:=kJ A.1 A.2 KK d
def zq(sz:Nat):dR:={ nargs:=1,ntmps:=9,code:=(.seq (.reg [{ dst:=(some 2),op:=(.p (.move (.c (.slice none 1 0 0 true)))),guard:=none }]) (.seq (.reg [{ dst:=(some 3),op:=(.p (.move (.t 0))),guard:=none },{ dst:=(some 4),op:=(.p (.move (.t 0))),guard:=none },{ dst:=(some 5),op:=(.p (.len false (.t 4))),guard:=none },{ dst:=(some 6),op:=(.p (.move (.t 0))),guard:=none },{ dst:=(some 7),op:=(.p (.len false (.t 6))),guard:=none },{ dst:=(some 8),op:=(.p (.slice sz (.t 3) none (some (.t 5)) (some (.t 7)))),guard:=none },{ dst:=(some 2),op:=(.p (.move (.t 8))),guard:=none }]) .ret)),results:=[(.tmp 2)] }
theorem qX (C:aQ) (K sz:Nat) (M:Heap) (p:Option (Nat×Nat)) (s' n cap:Nat) (ex:Bool) (hn:n≤cap) (hp:p≠none→s'=sz) :
  bbody C K (zq sz) [.slice p s' n cap ex] M=some (.slice p sz n n true,M):=by
 have hs:fV sz p s' n cap ex [] none (some (.c (.int .i64 n))) (some (.c (.int .i64 n)))=some (.slice p sz n n true):=by
  unfold fV
  rw[if_pos (by cases p with
   | none=>exact .inl rfl
   | some p=>exact .inr (hp (by simp)))]
  have h1:(0:Int)≤n:=by omega
  have h2:(n:Int)≤cap:=by omega
  have h3:fU p 0=p:=by cases p<;>rfl
  simp[aV,jc,AX.ev,h1,h2,h3]
 simp[bbody,zq,start,List.replicate,List.replicate_succ,Cc,Cb,Ca,DU,Proofs.Ytkedeiklmpkgkaa.BZ,B_,lH.sub,fB.sub,AX.sub,AX.dG,uf,aP,AX.ev,bW,hs,jO,uK,yO]
theorem Ev{T:Tab}{d:Nat}{f:FuncId}{sz:Nat}(hG:T.1 f=none)(hT:T.2 f=some (zq sz)):Cu (dx T (d+1)) f (.clip sz):=by
 intro R ι H M args as dst tr k s hv h
 have run:∀a,dx T (d+1) f [a] M=bbody (dx T d) KK (zq sz) [a] M:=λa=>by simp only[dx,kJ,hG,hT]
 simp only[J9]at h
 split at h
 ·match as,hv with
  | [],hv=>simp[aR]at hv
  | _::_::_,hv=>simp[aR]at hv
  | [a],hv =>
  simp only[aR,VL]at hv
  obtain⟨_,s',rfl⟩:=hv.1
  rw[run,qX (dx T d) KK sz M none _ 0 0 true (Nat.le_refl _) (by simp)]
  exact⟨_,M,ι,_,H,[],tr,rfl,s,.refl _ _ _ _ _ (Nat.le_refl _),by simp[VL],h⟩
 ·match as,hv with
  | [],hv=>simp[aR]at hv
  | _::_::_,hv=>simp[aR]at hv
  | [a],hv =>
  split at h
  case h_2=>exact h.elim
  rename_i e
  obtain rfl:=aH e
  simp only[aR,VL]at hv
  rcases hv.1 with⟨rfl,rfl,s',rfl⟩ |⟨b,o,cap,ex',rfl,h1,h2,h3,h4⟩
  ·rw[run,qX (dx T d) KK _ M none _ 0 0 true (Nat.le_refl _) (by simp)]
   exact⟨_,M,ι,_,H,[],tr,rfl,s,.refl _ _ _ _ _ (Nat.le_refl _),by simp[VL],h⟩
  ·rw[run,qX (dx T d) KK _ M (some (b,o)) _ _ cap ex' h1 (λ_=>rfl)]
   refine⟨_,M,ι,_,H,[],tr,rfl,s,.refl _ _ _ _ _ (Nat.le_refl _), ?_,h⟩
   simp only[VL]
   exact .inr ⟨b,o,_,true,rfl,Nat.le_refl _,λ_=>⟨rfl,rfl⟩,h3,h4⟩
 ·match as,hv with
  | [],hv=>simp[aR]at hv
  | _::_::_,hv=>simp[aR]at hv
  | [a],hv =>
  split at h
  case h_2=>exact h.elim
  rename_i e
  obtain rfl:=aH e
  simp only[aR,VL]at hv
  obtain⟨p,s',cap,ex,rfl,g1,g2,g3,m,L,g4,g5,g6,g7⟩:=hv.1
  rw[run,qX (dx T d) KK _ M p s' _ cap ex g1 g3]
  refine⟨_,M,ι,_,H,[],tr,rfl,s,.refl _ _ _ _ _ (Nat.le_refl _), ?_,h⟩
  simp only[VL]
  refine⟨p,_,_,true,rfl,Nat.le_refl _,λhp=>⟨?_,rfl⟩,λ_=>rfl,m,L,g4,g5,g6, ?_⟩
  ·have:=(g2 hp).1
   omega
  ·rcases g7 with⟨j,q1,q2⟩ |⟨q1,q2,q3,q4,q5⟩
   ·refine .inl ⟨j,q1, ?_⟩
    rcases q2 with⟨q2,q3⟩ |⟨q2,q3,q4⟩
    ·exact .inl ⟨q2,Nat.le_trans (Nat.add_le_add_left (Nat.mul_le_mul_right _ g1) _) q3⟩
    ·exact .inr ⟨q2,q2,rfl⟩
   ·exact .inr ⟨q1,q2,q2,rfl,q5⟩
 ·exact h.elim
def kr{α:Type}(L:List α)(i:Int):Option α:=if 0≤i then L[i.toNat]? else none
def FV(k:IntKind)(x y:Int):Option Int:=if y=0 then none else some (x.tmod y)
def Ew(k:IntKind)(x y:Int):Option Int:=if y<0 then none else some (k.wrap (x*2 ^ (min y.toNat k.bits)))
structure Row{α:Type}(F:List α→List AV)(e:α→List AV)(sz:Nat):Prop where
 nil:F []=[]
 cons:∀x l,F (x::l)=e x++F l
 len:∀x,(e x).length=sz
def mE{K V:Type}(ck:K→AV)(cv:V→AV)(l:List (K×V)):List (AV×AV):=l.map λp=>(ck p.1,cv p.2)
def G8{K:Type} [DecidableEq K](kd:Kd)(ck:K→AV):Prop:=∀a b,rD kd (ck a) (ck b)=some (decide (a=b))
theorem Ii:G8 .i (AV.int .i64):=λa b=>by simp[rD,Bool.beq_eq_decide_eq]
def nJ{K V:Type} [DecidableEq K]:List (K×V)→K→Option V
 | [],_=>none
 | p::r,k=>if k=p.1 then some p.2 else nJ r k
def nK{K V:Type} [DecidableEq K]:List (K×V)→K→V→List (K×V)
 | [],k,v=>[(k,v)]
 | p::r,k,v=>if k=p.1 then (k,v)::r else p::nK r k v
def Cz{K V:Type} [DecidableEq K]:List (K×V)→K→List (K×V)
 | [],_=>[]
 | p::r,k=>if k=p.1 then r else p::Cz r k
section
variable {K V:Type} [DecidableEq K] {kd:Kd} {ck:K→AV} (hk:G8 kd ck) (cv:V→AV)
include hk
theorem Ey:∀(l:List (K×V)) (k:K) (i:Nat),(nJ l k=none∧jA kd (ck k) (mE ck cv l) i=some none∧(∀v,mE ck cv (nK l k v)=mE ck cv l++[(ck k,cv v)])∧Cz l k=l) ∨
  ∃n x,nJ l k=some x∧jA kd (ck k) (mE ck cv l) i=some (some (i+n,cv x))∧(∀v,mE ck cv (nK l k v)=(mE ck cv l).set n (ck k,cv v))∧mE ck cv (Cz l k)=(mE ck cv l).eraseIdx n
 | [],k,i=>.inl ⟨rfl,rfl,λv=>rfl,rfl⟩
 | p::r,k,i=>by
  have e:jA kd (ck k) (mE ck cv (p::r)) i=match some (decide (k=p.1))with
   | some true=>some (some (i,cv p.2))
   | some false=>jA kd (ck k) (mE ck cv r) (i+1)
   | none=>none:=by
   rw[←hk k p.1]
   rfl
  by_cases h:k=p.1
  ·refine .inr ⟨0,p.2,by simp[nJ,h],by rw[e];simp[h],λv=>by simp[nK,h,mE],by simp[Cz,h,mE]⟩
  ·rcases Ey r k (i+1)with⟨h1,h2,h3,h4⟩ |⟨n,x,h1,h2,h3,h4⟩
   ·refine .inl ⟨by simp[nJ,h,h1],by rw[e];simp[h,h2],λv=>?_,by simp[Cz,h,h4]⟩
    have:=h3 v
    simp only[nK,if_neg h]
    simp only[mE,List.map_cons,List.cons_append]at this ⊢
    rw[this]
   ·refine .inr ⟨n+1,x,by simp[nJ,h,h1],by rw[e];simp only[h,decide_false,h2];congr 3;omega,λv=>?_, ?_⟩
    ·have:=h3 v
     simp only[nK,if_neg h]
     simp only[mE,List.map_cons,List.set_cons_succ]at this ⊢
     rw[this]
    ·simp only[Cz,if_neg h]
     simp only[mE,List.map_cons,List.eraseIdx_cons_succ]at h4 ⊢
     rw[h4]
theorem Js{l:List (K×V)}{k:K}{z x:V}(h:some ((nJ l k).getD z)=some x):wu kd false (cv z) (ck k) (mE ck cv l)=some (cv x):=by
 obtain rfl:=aj h
 unfold wu
 rcases Ey hk cv l k 0 with⟨h1,h2,_⟩ |⟨n,y,h1,h2,_⟩
 ·rw[h2,h1];rfl
 ·rw[h2,h1];rfl
theorem Jt(l:List (K×V))(k:K)(v:V):wo kd (ck k) (cv v) (mE ck cv l)=some (mE ck cv (nK l k v)):=by
 unfold wo
 rcases Ey hk cv l k 0 with⟨_,h2,h3,_⟩ |⟨n,y,_,h2,h3,_⟩
 ·rw[h2,h3];rfl
 ·rw[h2,h3,Nat.zero_add];rfl
end
theorem Ju{K V:Type}(ck:K→AV)(cv:V→AV)(l:List (K×V)):@Eq (Option AV) (some (.int .i64 (mE ck cv l).length)) (some (.int .i64 l.length)):=by
 unfold mE
 rw[List.length_map]
theorem FW{α:Type}(c:α→AV):Row (λl=>l.map c) (λx=>[c x]) 1:=⟨rfl,λ_ _=>rfl,λ_=>rfl⟩
theorem zu{α:Type}{e:α→List AV}{sz:Nat}(h:∀x,(e x).length=sz):Row (λl=>l.flatMap e) e sz:=⟨rfl,λ_ _=>rfl,h⟩
section
variable {α:Type} {F:List α→List AV} {e:α→List AV} {sz:Nat} (hF:Row F e sz)
include hF
theorem Row.app:∀a b:List α,F (a++b)=F a++F b
 | [],b=>by simp[hF.nil]
 | x::a,b=>by rw[List.cons_append,hF.cons,hF.cons,Row.app a b,bD]
theorem Row.length:∀l:List α,(F l).length=l.length*sz
 | []=>by simp[hF.nil]
 | x::l=>by rw[hF.cons,aI,hF.len,Row.length l,bV,Nat.succ_mul,Nat.add_comm]
theorem Row.drop:∀(l:List α) (n:Nat),(F l).drop (n*sz)=F (l.drop n)
 | l,0=>by simp
 | [],n+1=>by simp[hF.nil]
 | x::l,n+1=>by
  rw[hF.cons,Nat.succ_mul,Nat.add_comm,List.drop_succ_cons,←Row.drop l n,←List.drop_drop,List.drop_left' (hF.len x)]
theorem Row.take:∀(l:List α) (n:Nat),(F l).take (n*sz)=F (l.take n)
 | l,0=>by simp[hF.nil]
 | [],n+1=>by simp[hF.nil]
 | x::l,n+1=>by
  rw[hF.cons,Nat.succ_mul,Nat.add_comm,List.take_succ_cons,hF.cons,←Row.take l n,List.take_append,hF.len,List.take_of_length_le (by rw[hF.len];omega)]
  congr 2
  omega
theorem Row.get{l:List α}{i:Nat}{x:α}(h:l[i]?=some x):(F l).drop (i*sz)=e x++F (l.drop (i+1)):=by
 rw[hF.drop]
 obtain⟨h1,h2⟩:=aA.1 h
 rw[List.drop_eq_getElem_cons h1,h2,hF.cons]
theorem kR{l:List α}{i:Int}{x:α}(h:kr l i=some x):0≤i∧i<(l.length:Int)∧l[i.toNat]?=some x:=by
 unfold kr at h
 split at h
 case isFalse=>cases h
 rename_i h0
 have:=(aA.1 h).1
 exact⟨h0,by omega,h⟩
theorem Ij{l:List α}{i:Int}{x:α}{k:IntKind}{ex:Bool}(h:kr l i=some x):wP (.eP sz (.c (.list sz l.length (F l) ex)) (.c (.int k i)))=some (.elem (e x++F (l.drop (i.toNat+1)))):=by
 obtain⟨h1,h2,h3⟩:=kR hF h
 simp only[wP,AX.ev]
 rw[if_pos ⟨h1,h2,trivial⟩,hF.get h3]
end
theorem FX{α:Type}(l r:List α):l.length+r.length=(l++r).length:=by simp
theorem Ik{k:IntKind}{x y q:Int}(h:FV k x y=some q):sG .rem k x y=some (.int k q):=by
 unfold FV at h
 simp only[sG]
 split at h
 ·cases h
 ·rename_i e
  rw[if_neg e]
  obtain rfl:=aj h
  rfl
theorem Jv{α:Type}{F:List α→List AV}{c:α→AV}(hF:Row F (λx=>[c x]) 1){l:List α}{i:Int}{k:IntKind}{x:α}{n:Nat}(h:kr l i=some x)(hn:n=l.length:=by rfl):wP (.index false n 1 (.c (.agg (F l))) (.c (.int k i)))=some (c x):=by
 subst hn
 obtain⟨h1,h2,h3⟩:=kR hF h
 have:=hF.get h3
 simp only[wP,aP,AX.ev]
 rw[if_pos ⟨h1,h2⟩]
 have e:((F l).drop (i.toNat*1))[0]?=some (c x):=by rw[this];rfl
 rw[List.getElem?_drop]at e
 simp only[kH]
 simpa using e
def zO{α β:Type}:α⊕β→Bool
 |.inl _=>true
 |.inr _=>false
def Il{α β:Type} [Inhabited α]:α⊕β→α
 |.inl x=>x
 |.inr _=>default
def o_{α β:Type} [Inhabited β]:α⊕β→β
 |.inl _=>default
 |.inr x=>x
theorem Jw{α β:Type} [Inhabited α]{e:α⊕β}(h:zO e=true):e=.inl (Il e):=by cases e<;>simp_all [zO,Il]
theorem Jy{α β:Type} [Inhabited β]{e:α⊕β}(h:zO e=false):e=.inr (o_ e):=by cases e<;>simp_all [zO,o_]
instance Im{α β:Type} [Inhabited α]:Inhabited (α⊕β):=⟨.inl default⟩
theorem wU:∀(n:Nat) {a b l:List AV},ow n a=some l→ow n (a++b)=some l
 | 0,_,_,_,h=>by simpa[ow]using h
 | n+1,[],_,_,h=>by simp[ow]at h
 | n+1,c::a,b,l,h=>by
  simp only[ow,List.cons_append]at h ⊢
  split at h
  ·rename_i l' hl
   rw[wU n hl]
   exact h
  ·cases h
theorem Bz:∀ {a b:List AV} (o:Nat) {v:AV},A8 a o=some v→A8 (a++b) o=some v
 | [],_,_,_,h=>by simp[A8]at h
 | c::a,b,0,v,h=>by simpa[A8]using h
 | c::a,b,o+1,v,h=>by
  simp only[A8,List.cons_append]at h ⊢
  exact Bz o h
theorem zw:∀(c:List AV) (n o:Nat),A8 c (n+o)=A8 (c.drop n) o
 | c,0,o=>by simp
 | [],n+1,o=>by
  simp only[List.drop_nil]
  cases (n+1+o)<;>cases o<;>simp[A8]
 | x::c,n+1,o=>by
  rw[Nat.add_right_comm,List.drop_succ_cons,←zw c n o]
  rfl
theorem wV{a b:List AV}{agg:Bool}{o n:Nat}{v:AV}(h:jQ agg o n a=some v):jQ agg o n (a++b)=some v:=by
 cases agg with
 | false=>exact Bz o h
 | true =>
  simp only[jQ]at h ⊢
  rw[List.drop_append]
  split at h
  ·rename_i l hl
   rw[wU n hl]
   exact h
  ·cases h
theorem nL{c:List AV}{agg:Bool}{m o n:Nat}:jQ agg (m+o) n c=jQ agg o n (c.drop m):=by
 cases agg with
 | false=>exact zw c m o
 | true=>simp only[jQ,List.drop_drop]
section
variable {α:Type} {F:List α→List AV} {e:α→List AV} {sz:Nat} (hF:Row F e sz)
include hF
theorem Io{l:List α}{i:Int}{x:α}{agg:Bool}{o n:Nat}{v:AV}(h:kr l i=some x)(hv:jQ agg o n (e x)=some v):jQ agg (0+i.toNat*sz+o) n (F l)=some v:=by
 obtain⟨h1,h2,h3⟩:=kR hF h
 rw[Nat.zero_add,nL,hF.get h3]
 exact wV hv
theorem BA{a b b' c cs:List AV}{o:Nat}(h:zI b o cs=some b'):zI (a++(b++c)) (a.length+o) cs=some (a++(b'++c)):=by
 unfold zI at h ⊢
 split at h
 case isFalse=>cases h
 rename_i hl
 obtain rfl:=aj h
 rw[if_pos (by simp only[aI];omega)]
 congr 1
 have e1:(a++(b++c)).take (a.length+o)=a++b.take o:=by
  rw[List.take_length_add_append,List.take_append_of_le_length (by omega)]
 have e2:(a++(b++c)).drop (a.length+o+cs.length)=b.drop (o+cs.length)++c:=by
  rw[Nat.add_assoc,List.drop_length_add_append,List.drop_append_of_le_length (by omega)]
 rw[e1,e2]
 simp
theorem Ip{l:List α}{i:Int}{x x':α}{o:Nat}{cs:List AV}(h:kr l i=some x)(hx:zI (e x) o cs=some (e x')):zI (F l) (0+i.toNat*sz+o) cs=some (F (l.set i.toNat x')):=by
 obtain⟨h1,h2,h3⟩:=kR hF h
 obtain⟨g1,g2⟩:=aA.1 h3
 have e0:F l=F (l.take i.toNat)++(e x++F (l.drop (i.toNat+1))):=by
  rw[←hF.get h3,←hF.take,List.take_append_drop]
 have e1:F (l.set i.toNat x')=F (l.take i.toNat)++(e x'++F (l.drop (i.toNat+1))):=by
  rw[←hF.cons,←hF.app,List.set_eq_take_append_cons_drop,if_pos g1]
 have e2:(F (l.take i.toNat)).length=i.toNat*sz:=by
  rw[hF.length,bC]
  congr 1
  omega
 rw[e0,e1,Nat.zero_add,←e2]
 exact BA hF hx
end
abbrev qY(f:Fast→Heap→tF)(np:Nat)(i:Fast×WH)(o:Ex×Fast×WH):Prop:=z8 f np i.1 i.2 o.1 o.2.1 o.2.2
abbrev IY(keep:List Nat)(p:List AV×WH):Fast×WH:=(eZ keep p.1,p.2)
theorem Iq{k k':IntKind}{x y q:Int}(h:Ew k x y=some q):zJ .shl (.int k x) (.int k' y)=some (.int k q):=by
 unfold Ew at h
 simp only[zJ]
 split at h
 ·cases h
 ·rename_i e
  rw[if_neg e]
  obtain rfl:=aj h
  rfl
theorem Ez{α:Type}{n sz b off:Nat}{k:IntKind}{l:List α}{i:Int}{x:α}(h:kr l i=some x)(hn:l.length=n):wP (.iB n sz (.c (.ptr (some (b,off)))) (.c (.int k i)))=some (.ptr (some (b,off+i.toNat*sz))):=by
 have h1:0≤i∧i<(n:Int):=by
  unfold kr at h
  split at h
  ·have:=(aA.1 h).1
   omega
  ·cases h
 simp only[wP,AX.ev,aP]
 rw[if_pos h1]
section
variable {α:Type} {F:List α→List AV} {e:α→List AV} {sz:Nat} (hF:Row F e sz)
include hF
theorem Ir{l:List α}{i:Int}{x:α}{agg:Bool}{o n p:Nat}{v:AV}{whole:List AV}(h:kr l i=some x)(hw:(whole.drop p).take (l.length*sz)=F l)(hv:jQ agg o n (e x)=some v):jQ agg (p+i.toNat*sz+o) n whole=some v:=by
 have h1:=Io hF h hv
 rw[←hw]at h1
 rw[Nat.zero_add]at h1
 have e1:whole=whole.take p++((whole.drop p).take (l.length*sz)++(whole.drop p).drop (l.length*sz)):=by rw[List.take_append_drop,List.take_append_drop]
 rw[nL]at h1
 rw[show p+i.toNat*sz+o=p+(i.toNat*sz+o)from Nat.add_assoc _ _ _,nL]
 have h2:=wV (b:=(whole.drop p).drop (l.length*sz)) h1
 obtain⟨g1,g2,g3⟩:=kR hF h
 have hl:(whole.drop p).take (l.length*sz)=F l:=hw
 have hlen:((whole.drop p).take (l.length*sz)).length=l.length*sz:=by rw[hl,hF.length]
 have hi:i.toNat*sz≤l.length*sz:=Nat.mul_le_mul_right _ (by omega)
 rw[←List.drop_append_of_le_length (by omega),List.take_append_drop,List.drop_drop]at h2
 rw[nL,List.drop_drop]
 exact h2
theorem Iu {l l':List α} {i:Int} {x x':α} {o p:Nat} {cs whole after:List AV} (h:kr l i=some x) (hl:l'=l.set i.toNat x') (hx:zI (e x) o cs=some (e x')) (hp:p≤whole.length) (hw:(whole.drop p).take (l.length*sz)=F l) (ha:after=whole.take p++(F l'++whole.drop (p+l.length*sz))) :
  zI whole (p+i.toNat*sz+o) cs=some after:=by
 have h1:=Ip hF h hx
 rw[Nat.zero_add]at h1
 have h2:=BA (a:=whole.take p) (c:=whole.drop (p+l.length*sz)) hF h1
 have e1:whole=whole.take p++(F l++whole.drop (p+l.length*sz)):=by
  rw[←hw,←List.drop_drop,List.take_append_drop,List.take_append_drop]
 rw[←e1,bC,Nat.min_eq_left hp,←hl,←ha]at h2
 rw[Nat.add_assoc]
 exact h2
end
theorem Iw{α:Type}{F:List α→List AV}{e:α→List AV}{sz:Nat}(hF:Row F e sz){l:List α}{i:Int}{k:IntKind}{x:α}{n:Nat}(h:kr l i=some x)(hn:n=l.length:=by rfl):wP (.index true n sz (.c (.agg (F l))) (.c (.int k i)))=some (.agg (e x)):=by
 subst hn
 obtain⟨h1,h2,h3⟩:=kR hF h
 have:=hF.get h3
 simp only[wP,aP,AX.ev]
 rw[if_pos ⟨h1,h2⟩]
 simp only[kH,if_true]
 rw[this,List.take_left' (hF.len x)]
theorem nB{C:aQ}(f:FuncId)(b:Bt)(h:(λ_=>none:FuncId→Option Bt) f=some b):Cu C f b:=by cases h
theorem il{α β:Type} [Inhabited α]{e:α⊕β}(h:zO e=true):e=.inl (Il e):=Jw h
theorem JR{α β:Type} [Inhabited β]{e:α⊕β}(h:zO e=false):e=.inr (o_ e):=Jy h
theorem G9{β:Type}{fin:β→Ex×Fast×WH}{r r':β}(e:r=r'){f:Fast→Heap→tF}{np:Nat}{i:Fast×WH}(h:qY f np i (fin r)):qY f np i (fin r'):=e ▸ h
def codeOf:Option dR→dw
 | some f=>f.code
 | none=>.fail
def cA:dw→dw
 |.seq a _=>a
 | c=>c
def cB:dw→dw
 |.seq _ b=>b
 | c=>c
def cK:dw→dw
 |.block _ c=>c
 | c=>c
def cL:dw→dw
 |.loop _ c=>c
 | c=>c
def En(keep:List Nat):Lf:=.en keep (keep.map λ_=>none) [] []
def E0{Q:Type}{v:Q}(keep:List Nat):Tc (some v):=.leaf (En keep) v
def E1{Q:Type}{v:Q}(keep:List Nat)(ms bs:List (Option Bool))(ts:List AV):Tc (some v):=.leaf (.en keep ms bs ts) v
def Fn{Q:Type}{v:Q}(m:Option Bool)(ts:List AV)(mc:Option Bool):Tc (some v):=.leaf (.fin m ts mc) v
def Fo:Option Bool:=some false
def Tw:Option Bool:=some true
def FY{G:yP}{T:FuncId→Option dR}{f:FuncId}{x:dR}(hG:G f=none)(hT:T f=some x)(hc:x.code.bO=true):G f=none∧T f=some x∧x.code.bO=true:=⟨hG,hT,hc⟩
section
variable {Q:Type} {f:Option Q}
section
variable {α:Type} {F:List α→List AV} {e:α→List AV} {sz:Nat} (hF:Row F e sz) {l r:List α} {i j:Int} {x:α}
def Ix(d:Nat)(h:kr l i=some x)(k:Tc f):Tc f:=.v d (.elem (e x++F (l.drop (i.toNat+1)))) (.ob (Ij (k:=.i64) (ex:=false) hF h) k)
def Ap(d:Nat){b:Nat}(h:pK b (l++r).length=true)(k:Tc f):Tc f:=.ap d (l++r).length (F (l++r)) (.ob (FX l r) (.ob (Row.app hF l r).symm (.ob h k)))
end
def Cl(ms:List (Option Bool))(m:Option Bool)(ts:List AV){C:aQ}{g:FuncId}{args:List AV}{blks:WH}{v:AV}{out:WH}(h:Spec C g args blks v out)(r:Tc f):Tc f:=.call ms m ts v out (.ob h r)
def Ak{C:aQ}{g:FuncId}{args:List AV}{blks:WH}{v:AV}{out:WH}(h:Spec C g args blks v out)(r:Tc f):Tc f:=.cb [] [] v (.ob h r)
def Lp(ms bs:List (Option Bool))(ts:List AV){run:Fast→Heap→tF}{np:Nat}{i:Fast×WH}{o:Ex×Fast×WH}(h:qY run np i o)(r:Tc f):Tc f:=.lp ms bs ts o.1 o.2.1 o.2.2 (.ob h r)
def Jn(keep:List Nat)(ms bs:List (Option Bool))(ts:List AV){run:Fast→Heap→tF}{np:Nat}{i:Fast×WH}{o:Ex×Fast×WH}(h:qY run np i o)(r:Tc f):Tc f:=.jn keep ms bs ts o.1 o.2.1 o.2.2 (.ob h r)
end
structure Rt(s:Sh){α:Type}(e:α→List AV)(bk:α→Nat)(ok:α→Prop):Prop where
 rd:∀d,D.is s d→∃x,encS s d=e x∧bk x≤D.bulk d∧ok x
 sz:∀x,(e x).length=jG s
abbrev Jz(x:Int):Prop:=-9223372036854775808≤x∧x≤9223372036854775807
abbrev eI(x:Int):List AV:=[.int .i64 x]
abbrev bk1{α:Type}(_:α):Nat:=1
def JA{α:Type}(bk:α→Nat)(l:List α):Nat:=(l.map bk).sum+1
def KO{α:Type}(ok:α→Prop)(l:List α):Prop:=∀x∈l,ok x
theorem FZ:Rt (.int .i64) eI bk1 Jz:=⟨λd h=>by
 obtain⟨n,rfl,h1,h2⟩:=h
 exact⟨n,rfl,by simp[D.bulk],h1,h2⟩,λ_=>rfl⟩
theorem Kl {s:Sh} {α:Type} {e:α→List AV} {bk:α→Nat} {ok:α→Prop} {F:List α→List AV} {n:Nat} (r:Rt s e bk ok) (hF:Row F e n) (hn:jG s=n) :
  Rt (.list s) (λl=>[.list n l.length (F l) false]) (JA bk) (KO ok):=⟨λd h=>by
 obtain⟨l,rfl,h⟩:=h
 have key:∀l:List D,(∀d∈l,D.is s d)→∃x:List α,x.length=l.length∧xW s l=x.flatMap e∧(x.map bk).sum≤D.kI l∧∀y∈x,ok y:=by
  intro l
  induction l with
  | nil=>intro _;exact⟨[],rfl,rfl,by simp[D.kI],by simp⟩
  | cons d r' ih =>
   intro h
   obtain⟨y,h1,h2,h3⟩:=r.rd d (h d (by simp))
   obtain⟨x,q0,q1,q2,q3⟩:=ih λz hz=>h z (by simp[hz])
   refine⟨y::x,by simp[q0],by simp only[xW,h1,q1,List.flatMap_cons],by simp only[List.map_cons,List.sum_cons,D.kI];omega, ?_⟩
   intro z hz
   rcases List.mem_cons.1 hz with rfl | hz
   ·exact h3
   ·exact q3 z hz
 obtain⟨x,q0,q1,q2,q3⟩:=key l h
 refine⟨x, ?_,by simp only[JA,D.bulk];omega,q3⟩
 have hr:F x=x.flatMap e:=by
  clear q0 q1 q2 q3
  induction x with
  | nil=>rw[hF.nil];rfl
  | cons y x ih=>rw[hF.cons,ih,List.flatMap_cons]
 simp only[encS,q0,q1,hn,hr],λ_=>rfl⟩
theorem JB {ss:List Sh} {α:Type} {e:α→List AV} {bk:α→Nat} {ok:α→Prop} (sz:∀x,(e x).length=kM ss)
  (h:∀l,D.are ss l→∃x,pR ss l=e x∧bk x≤D.kI l+1∧ok x):Rt (.agg ss) e bk ok:=⟨λd h0=>by
 obtain⟨l,rfl,hl⟩:=h0
 obtain⟨x,h1,h2,h3⟩:=h l hl
 exact⟨x,h1,h2,h3⟩,sz⟩
theorem mW {s:Sh} {ss:List Sh} {α:Type} {e:α→List AV} {bk:α→Nat} {ok:α→Prop} (r:Rt s e bk ok) {ds:List D} (h:D.are (s::ss) ds) :
  ∃d q,ds=d::q∧D.are ss q∧∃x,encS s d=e x∧bk x≤D.bulk d∧ok x:=by
 obtain⟨d,q,h1,h2,h3⟩:=DW h
 exact⟨d,q,h1,h3,r.rd d h2⟩
theorem F3{α:Type}{bk:α→Nat}(h:∀x,1≤bk x)(l:List α):l.length+1≤JA bk l:=by
 have:l.length≤(l.map bk).sum:=by
  induction l with
  | nil=>simp
  | cons y l ih =>
   have:=h y
   simp only[List.map_cons,List.sum_cons,bV]
   omega
 unfold JA
 omega
end Go.Proofs.Ytkedeiklmpkgkaa
