import Derived.Test.YtohoggieaanllaaGreatJ3
section
set_option linter.all false
set_option linter.unusedSimpArgs false
namespace Go.Proofs.YtohoggieaanllaaGreat
def NR (R:Nat→Prop) (ι:VI) (H:WH) (M:Heap) (v:AV) (H':WH) (a:AV):Prop:=∃ bP,VS R bP H' M∧Stp H.length [] ι H M bP H' M∧VL M (OR R bP) bP v a
def NRL (R:Nat→Prop) (ι:VI) (H:WH) (M:Heap) (v:List AV) (H':WH) (a:List AV):Prop:=∃ bP,VS R bP H' M∧Stp H.length [] ι H M bP H' M∧bZ M (OR R bP) bP v a
theorem NR.quiet {R:Nat→Prop} {ι:VI} {H:WH} {M:Heap} (s:VS R ι H M) {v a:AV} (h:VL M (OR R ι) ι v a):NR R ι H M v H a:=⟨ι,s,.refl _ _ _ _ _ (Nat.le_refl _),h⟩
theorem Zc {R:Nat→Prop} {ι:VI} {H:WH} {M:Heap} (s:VS R ι H M) {cs cs':List AV} (h:bZ M (OR R ι) VI.none cs cs') {sz n:Nat} (hl:cs.length=n * sz) (ex sl:Bool) :
  ∃ bP,VS R bP (H++[some (.cells cs false true)]) (M.push (.cells cs' false sl))∧Stp H.length [] ι H M bP (H++[some (.cells cs false true)]) (M.push (.cells cs' false sl)) ∧
   VL (M.push (.cells cs' false sl)) (OR R bP) bP (.acc H.length 0 sz n true) (.slice (some (M.next,0)) sz n n ex):=by
 have hl':=h.length
 obtain ⟨h1,h2⟩:=s.push (x:=.cells cs false true) (y:=.cells cs' false sl) (d:=(cs.length,cs'.length)) ⟨cs',[],false,sl,cs'.length,by simp,λ_=>rfl,rfl,by simp,by simpa using h,λh=>by cases h⟩
 refine ⟨_,h1,h2, ?_⟩
 simp only [VL]
 refine ⟨_,_,_,_,rfl,Nat.le_refl _,(λh=>by cases h),λ_=>rfl,cs.length,cs'.length,by simp [VI.add,setAt],by omega,λ_=>⟨trivial,hl.symm⟩,.inl ⟨M.next,by simp [VI.add,setAt],.inl ⟨rfl,by omega⟩⟩⟩
theorem TM {R:Nat→Prop} {ι:VI} {H:WH} {M:Heap} (s:VS R ι H M) (sz s':Nat) (p:Option (Nat×Nat)) (hp:p≠none→s'=sz) :
  ∃ bP,VS R bP (H++[some (.cells [] false true)]) M∧Stp H.length [] ι H M bP (H++[some (.cells [] false true)]) M∧VL M (OR R bP) bP (.acc H.length 0 sz 0 true) (.slice p s' 0 0 true):=by
 obtain ⟨h1,h2⟩:=s.aq7
 refine ⟨_,h1,h2, ?_⟩
 simp only [VL]
 exact ⟨_,_,_,_,rfl,Nat.le_refl _,by simp,hp,0,0,by simp [VI.iJ,setAt],by omega,by simp,.inr ⟨by simp [VI.iJ,setAt],by simp⟩⟩
theorem Zd {R:Nat→Prop} {ι:VI} {H:WH} {M:Heap} (s:VS R ι H M) {b j:Nat} (hb:ι b=some j) {c0:List AV} {sl0:Bool} (hg:dS H b=some (.cells c0 false sl0)) {cs cs' t:List AV} {ro sl:Bool} {L:Nat}
  (hj:M.get j=some (.cells (cs'++t) ro sl)) (hro:ro=false) (h:bZ M (OR R ι) VI.none cs cs') (hL:L≤(cs'++t).length) {sz n cap:Nat} (hl:cs.length=n * sz) {p:Option (Nat×Nat)} {s':Nat} {ex:Bool} (hn:n≤cap) (hnp:p=none→cap=0∧ex=true) (hs:p≠none→s'=sz)
  (hp:(p=some (j,0)∧cap * sz≤L)∨(n=0∧cap=0∧ex=true)) :
  ∃ bP,VS R bP (iU H b none++[some (.cells cs false true)]) M∧Stp H.length [b] ι H M bP (iU H b none++[some (.cells cs false true)]) M∧VL M (OR R bP) bP (.acc H.length 0 sz n true) (.slice p s' n cap ex):=by
 obtain ⟨h1,h2,h3⟩:=s.swap hb hg (x:=.cells cs false true) (y:=.cells (cs'++t) ro sl) (d:=(cs.length,L)) ⟨cs',t,ro,sl,L,rfl,λ_=>hro,rfl,hL,by simpa using h⟩
 rw [Heap.TH hj] at h1 h2
 refine ⟨_,h1,h2, ?_⟩
 simp only [VL]
 exact ⟨_,_,_,_,rfl,hn,hnp,hs,cs.length,L,by simp [VI.add,setAt],by omega,λ_=>⟨trivial,hl.symm⟩,.inl ⟨j,h3,hp.imp (λh=>⟨h.1,by omega⟩) (λh=>h)⟩⟩
theorem Stp.still {n:Nat} {t t':List Nat} {ι oQ:VI} {H H1:WH} {M:Heap} (h:Stp n t ι H M oQ H1 M):Stp n t' ι H M oQ H1 M :=
 ⟨h.keep,h.le,h.gone,h.toq,h.aik,h.acY,h.live,λ_ _ _ _ _ _=>rfl,h.next⟩
theorem aq8 {R:Nat→Prop} {ι:VI} {H:WH} {M:Heap} (s:VS R ι H M) {b sz n:Nat} {w:Bool} {a:AV} (h:VL M (OR R ι) ι (.acc b 0 sz n w) a) {c:List AV} (hg:dS H b=some (.cells c false true)) :
  NR R ι H M (.acc H.length 0 sz n true) (iU H b none++[some (.cells (c.take (n * sz)) false true)]) a:=by
 obtain ⟨k1,k2,p,s',cap,ex,rfl,k3,k4,k5⟩:=VL.zu s h hg
 simp only [Nat.zero_add] at k1
 have hnp:p=none→cap=0∧ex=true:=by
  simp only [VL] at h
  obtain ⟨_,_,_,_,e,_,q,_⟩:=h
  simp only [AV.slice.injEq] at e
  obtain ⟨rfl,rfl,_,rfl,rfl⟩:=e
  exact q
 have hlt:(c.take (n * sz)).length=n * sz:=by simp only [List.length_take];omega
 have part:∀ {c' t:List AV},(c'.take (n * sz))++(c'.drop (n * sz)++t)=c'++t:=λ{c' t}=>by rw [← List.append_assoc,List.take_append_drop]
 rcases k5 with ⟨j,c',t,ro',sl',L,g1,g2,g3,g4,g5,g6,rfl,g7⟩ | ⟨rfl,rfl,rfl,⟨j,c',t,ro',sl',L,g1,g2,g3,g4,g5,g6⟩ | ⟨g1,rfl,_⟩⟩
 ·simp only [if_true] at g6
  obtain ⟨bP,q1,q2,q3⟩:=Zd s g1 hg (cs:=c.take (n * sz)) (cs':=c'.take (n * sz)) (t:=c'.drop (n * sz)++t) (by rw [part];exact g2) (g3 rfl).1 (g6.take _) (by rw [part];exact g5) hlt k3 hnp k4 (.inl ⟨rfl,by omega⟩)
  exact ⟨bP,q1,q2.still,q3⟩
 ·simp only [if_true] at g6
  obtain ⟨bP,q1,q2,q3⟩:=Zd s g1 hg (cs:=c.take (0 * sz)) (cs':=c'.take (0 * sz)) (t:=c'.drop (0 * sz)++t) (by rw [part];exact g2) (g3 rfl).1 (g6.take _) (by rw [part];exact g5) hlt k3 hnp k4 (.inr ⟨rfl,rfl,rfl⟩)
  exact ⟨bP,q1,q2.still,q3⟩
 ·obtain ⟨h1,h2⟩:=s.ako g1
  obtain ⟨bP,q1,q2,q3⟩:=TM h1 sz s' p k4
  rw [fG] at q2 q3
  refine ⟨bP,by simpa using q1, ?_,q3⟩
  have:=h2.trans q2 (Nat.le_refl _)
  simpa using this.still
mutual
theorem akq {R:Nat→Prop} (v:AV) (H:WH) (ι:VI) (M:Heap) (a:AV) (s:VS R ι H M) (h:VL M (OR R ι) ι v a):NR R ι H M (ak7 v H).1 (ak7 v H).2 a:=by
 rw [ak7.eq_def]
 split
 ·simp only [VL] at h
  obtain ⟨_,s',rfl⟩:=h
  exact TM s _ s' none (λh=>absurd rfl h)
 ·split
  ·rename_i w _ c hg
   have ht:=aq8 s h hg
   cases w with
   | false=>exact ht
   | true =>
    have hc:=(VL.zu s h hg).2.1 rfl
    simp only [auM]
    rw [List.take_of_length_le (by omega)] at ht
    exact ht
  ·exact NR.quiet s h
 ·rename_i cs
  simp only [VL] at h
  obtain ⟨cs',rfl,h⟩:=h
  obtain ⟨bP,h1,h2,h3⟩:=ZL cs H ι M cs' s h
  split
  rename_i l H' e
  rw [e] at h1 h2 h3
  exact ⟨bP,h1,h2,by simp only [VL];exact ⟨cs',rfl,h3⟩⟩
 ·rename_i cs
  simp only [VL] at h
  obtain ⟨cs',rfl,h⟩:=h
  obtain ⟨bP,h1,h2,h3⟩:=ZL cs H ι M cs' s h
  split
  rename_i l H' e
  rw [e] at h1 h2 h3
  exact ⟨bP,h1,h2,by simp only [VL];exact ⟨cs',rfl,h3⟩⟩
 ·exact NR.quiet s h
termination_by SizeOf.sizeOf v
theorem ZL {R:Nat→Prop} (v:List AV) (H:WH) (ι:VI) (M:Heap) (a:List AV) (s:VS R ι H M) (h:bZ M (OR R ι) ι v a):NRL R ι H M (acX v H).1 (acX v H).2 a:=by
 rw [acX.eq_def]
 split
 ·exact ⟨ι,s,.refl _ _ _ _ _ (Nat.le_refl _),h⟩
 ·rename_i v r
  cases a with
  | nil=>simp [bZ] at h
  | cons a l =>
   simp only [bZ] at h
   obtain ⟨oQ,h1,h2,h3⟩:=akq v H ι M a s h.1
   obtain ⟨Cv,k1,k2,k3⟩:=ZL r (ak7 v H).2 oQ M l h1 (bZ.step s h2 h.2)
   split
   rename_i x1 x2 e
   rw [e] at h1 h2 h3 k1 k2 k3
   split
   rename_i y1 y2 e'
   rw [e'] at k1 k2 k3
   refine ⟨Cv,k1, ?_,by simp only [bZ];exact ⟨VL.step h1 k2 h3,k3⟩⟩
   have:=h2.trans k2 h2.next
   simpa using this
termination_by SizeOf.sizeOf v
end
theorem ais {R:Nat→Prop} (m:Option Bool) {v:AV} {H:WH} {ι:VI} {M:Heap} {a:AV} (s:VS R ι H M) (h:VL M (OR R ι) ι v a):NR R ι H M (nrm m v H).1 (nrm m v H).2 a:=by
 match m with
 | none=>exact NR.quiet s h
 | some true=>exact akq v H ι M a s h
 | some false =>
  simp only [nrm]
  split
  case h_2=>exact NR.quiet s h
  rename_i p hp
  obtain ⟨h1,h2⟩:=s.alb p.2 (yE 5 false v p hp)
  refine ⟨_,h1,h2, ?_⟩
  have:=air s (O':=OR R (ι.Dc p.2)) (λj h=>h.imp Zb id) (y7:=ι.Dc p.2) (aen _ _ _) 5 false v p a hp h (λb hb j hj=>?_)
  ·exact this
  ·have lv:=yE 5 false v p hp b hb
   rintro (⟨i,q1,q2⟩ | hR)
   ·simp only [VI.Dc,Bool.or_eq_false_iff] at q1 q2
    have:=s.inj i b j (.inr q2.1) (.inl lv) q1 hj (.inl q2.1)
    subst this
    rw [Dx.2 hb] at q2
    cases q2.2
   ·exact (s.res j hR).2 b (.inl lv) hj
theorem Ze {R:Nat→Prop}:∀ (ms:List (Option Bool)) (v:List AV) (H:WH) (ι:VI) (M:Heap) (a:List AV),VS R ι H M→bZ M (OR R ι) ι v a→NRL R ι H M (TB ms v H).1 (TB ms v H).2 a
 | ms,[],H,ι,M,a,s,h=>by
  simp only [TB]
  exact ⟨ι,s,.refl _ _ _ _ _ (Nat.le_refl _),h⟩
 | ms,v::r,H,ι,M,a,s,h=>by
  cases a with
  | nil=>simp [bZ] at h
  | cons a l =>
   simp only [bZ] at h
   obtain ⟨oQ,h1,h2,h3⟩:=ais (ms.headD (some false)) s h.1
   obtain ⟨Cv,k1,k2,k3⟩:=Ze ms.tail r _ oQ M l h1 (bZ.step s h2 h.2)
   simp only [TB]
   refine ⟨Cv,k1, ?_,by simp only [bZ];exact ⟨VL.step h1 k2 h3,k3⟩⟩
   have:=h2.trans k2 h2.next
   simpa using this
theorem akr {R:Nat→Prop} (m:Option Bool):∀ (v:List AV) (H:WH) (ι:VI) (M:Heap) (a:List AV),VS R ι H M→bZ M (OR R ι) ι v a→NRL R ι H M (afX m v H).1 (afX m v H).2 a
 | [],H,ι,M,a,s,h=>by
  simp only [afX]
  exact ⟨ι,s,.refl _ _ _ _ _ (Nat.le_refl _),h⟩
 | v::r,H,ι,M,a,s,h=>by
  cases a with
  | nil=>simp [bZ] at h
  | cons a l =>
   simp only [bZ] at h
   obtain ⟨oQ,h1,h2,h3⟩:=ais m s h.1
   obtain ⟨Cv,k1,k2,k3⟩:=akr m r _ oQ M l h1 (bZ.step s h2 h.2)
   simp only [afX]
   refine ⟨Cv,k1, ?_,by simp only [bZ];exact ⟨VL.step h1 k2 h3,k3⟩⟩
   have:=h2.trans k2 h2.next
   simpa using this
theorem VS.avp {R:Nat→Prop} {ι:VI} {H:WH} {M:Heap} (s:VS R ι H M) {b:Nat} {c c':List AV} {ro:Bool} (hg:dS H b=some (.cells c ro false)) (hc:∀ j d t ro' sl',ι b=some j→M.get j=some (.cells (d++t) ro' sl')→d.length=c.length→bZ M (OR R ι) ι c' d) (hl:c'.length=c.length) :
  VS R ι (iU H b (some (.cells c' ro false))) M∧Stp H.length [] ι H M ι (iU H b (some (.cells c' ro false))) M:=by
 have hbl:=wX hg
 have gp:∀ k,dS (iU H b (some (.cells c' ro false))) k=if k=b then some (.cells c' ro false) else dS H k:=λk=>by
  rw [uf]
  by_cases e:k=b
  ·rw [if_pos ⟨e,hbl⟩,if_pos e]
  ·rw [if_neg (λh=>e h.1),if_neg e]
 have lv:∀ k,(∃ z,dS (iU H b (some (.cells c' ro false))) k=some z)→∃ z,dS H k=some z:=λk ⟨z,hz⟩=>by
  rw [gp] at hz
  by_cases e:k=b
  ·exact ⟨_,e ▸ hg⟩
  ·rw [if_neg e] at hz
   exact ⟨z,hz⟩
 refine ⟨⟨λi j h=>by rw [fG];exact s.lt i j h,λi i' j h h' e e'=>s.inj i i' j (h.imp (lv i) id) (h'.imp (lv i') id) e e',λi z hz=>?_,λi h=>by rw [fG];exact s.Dw i h,λi hi c1 sl h=>?_,s.okM,λj h=>⟨(s.res j h).1,λi hi=>(s.res j h).2 i (hi.imp (lv i) id)⟩⟩,
  ⟨.refl _ _,.refl _ _,λ_ _ h=>h,λ_ _=>rfl,λ_ _=>rfl,λ_ _ _=>rfl,λi _=>lv i,λ_ _ _ _ _ _=>rfl,by rw [fG];exact Nat.le_refl _⟩⟩
 ·rw [gp] at hz
  by_cases e:i=b
  ·subst e
   rw [if_pos rfl] at hz
   obtain rfl:=Option.some.inj hz
   rcases s.blk i _ hg with ⟨_,_,ro',h⟩ | ⟨j,h1,⟨d,t,ro',sl',L,g1,g2,g3,g4,g5,g6⟩,h2⟩
   ·cases h
   ·exact .inr ⟨j,h1,⟨d,t,ro',sl',L,g1,g2,by rw [hl];exact g3,g4,by simpa using hc j d t ro' sl' h1 g1 g5.length.symm,g6⟩,h2⟩
  ·rw [if_neg e] at hz
   exact s.blk i z hz
 ·rw [gp] at h
  by_cases e:i=b
  ·rw [if_pos e] at h
   subst e
   cases h
   exact s.Dc i hi c _ hg
  ·rw [if_neg e] at h
   exact s.Dc i hi c1 sl h
theorem aq9 {R:Nat→Prop} (m:Option Bool) (b:Nat) {H:WH} {ι:VI} {M:Heap} (s:VS R ι H M):∃ bP,VS R bP (aq2 m b H) M∧Stp H.length [] ι H M bP (aq2 m b H) M:=by
 have quiet:∃ bP,VS R bP H M∧Stp H.length [] ι H M bP H M:=⟨ι,s,.refl _ _ _ _ _ (Nat.le_refl _)⟩
 unfold aq2
 cases m with
 | none=>exact quiet
 | some m =>
 simp only
 split
 case h_2=>exact quiet
 rename_i c ro hg
 rcases s.blk b _ hg with ⟨_,_,ro',h⟩ | ⟨j,h1,⟨d,t,ro',sl',L,g1,g2,g3,g4,g5,g6⟩,h2⟩
 ·cases h
 simp only [Bool.false_eq_true,if_false] at g5
 obtain ⟨oQ,k1,k2,k3⟩:=akr (some m) c H ι M d s g5
 split
 case h_2=>exact ⟨oQ,k1,k2⟩
 rename_i c2 ro2 hg2
 have hj1:=((k2.le b (wX hg)).1 j h1).1
 have hd:=((k2.le b (wX hg)).1 j h1).2 _ g3
 have hl1:(afX (some m) c H).1.length=c.length:=by rw [k3.length,g5.length]
 have hl2:c2.length=c.length:=by
  obtain ⟨_,_,_,_,_,_,_,e,_⟩:=k1.at hj1 hg2
  rw [hd] at e
  simp only [Option.some.injEq,Prod.mk.injEq] at e
  exact e.1.symm
 obtain ⟨q1,q2⟩:=k1.avp hg2 (c':=(afX (some m) c H).1) (λj' d' t' ro' sl' e1 e2 e3=>by
  rw [hj1] at e1
  obtain rfl:=Option.some.inj e1
  rw [g1] at e2
  simp only [Option.some.injEq,nT.cells.injEq] at e2
  have:d'=d:=by
   have:=congrArg (List.take c.length) e2.1
   rw [List.take_left' (by rw [g5.length]),List.take_left' (by rw [e3,hl2])] at this
   exact this.symm
  rw [this]
  exact k3) (by rw [hl1,hl2])
 refine ⟨oQ,q1, ?_⟩
 have:=k2.trans q2 k2.next
 simpa using this
theorem TN {R:Nat→Prop}:∀ (ms:List (Option Bool)) (m:Option Bool) (p:List Nat) (H:WH) (ι:VI) (M:Heap),VS R ι H M→∃ bP,VS R bP (Xu ms m p H) M∧Stp H.length [] ι H M bP (Xu ms m p H) M
 | ms,m,[],H,ι,M,s=>⟨ι,s,.refl _ _ _ _ _ (Nat.le_refl _)⟩
 | ms,m,b::p,H,ι,M,s=>by
  obtain ⟨oQ,h1,h2⟩:=aq9 (ms.headD m) b s
  obtain ⟨Cv,k1,k2⟩:=TN ms.tail m p _ oQ M h1
  simp only [Xu]
  refine ⟨Cv,k1, ?_⟩
  have:=h2.trans k2 h2.next
  simpa using this
end Go.Proofs.YtohoggieaanllaaGreat
end
section
set_option linter.all false
set_option linter.unusedSimpArgs false
namespace Go.Proofs.YtohoggieaanllaaGreat
theorem VO {bytes k:Nat} (h:dx bytes k=true):k * bytes≤70368744177664∧k≤70368744177664:=by simpa [dx] using h
theorem bZ.Dc {R:Nat→Prop} {ι:VI} {M:Heap} {S:List Nat} {l r:List AV} (h:bZ M (OR R ι) VI.none l r):bZ M (OR R (ι.Dc S)) VI.none l r :=
 bZ.mono ⟨Nat.le_refl _,λb _ h=>⟨rfl,λk=>h (k.imp Zb id)⟩⟩ _ _ _ _ (.refl _ _) h
theorem aeo {R:Nat→Prop} {ι:VI} {H:WH} {M:Heap} (s:VS R ι H M) {k:Nat} {nested:Bool} {l:List AV} {p:List AV×List Nat} {r:List AV} (h:Li (frz H k nested) l=some p) (hr:bZ M (OR R ι) ι l r) :
  bZ M (OR R (ι.Dc p.2)) (TK nested (ι.Dc p.2)) p.1 r:=by
 refine ZK (P:=λb=>b∈p.2) (λv q a hq hv hb=>?_) l p r h hr (λ_ h=>h)
 refine air s (O':=OR R (ι.Dc p.2)) (λj h=>h.imp Zb id) (y7:=ι.Dc p.2) (aen _ _ _) k nested v q a hq hv (λb hb' j hj=>?_)
 have lv:=yE k nested v q hq b hb'
 rintro (⟨i,q1,q2⟩ | hR)
 ·simp only [VI.Dc,Bool.or_eq_false_iff] at q1 q2
  have:=s.inj i b j (.inr q2.1) (.inl lv) q1 hj (.inl q2.1)
  subst this
  rw [Dx.2 (hb _ hb')] at q2
  cases q2.2
 ·exact (s.res j hR).2 b (.inl lv) hj
theorem VP {R:Nat→Prop} {ι:VI} {H:WH} {M:Heap} (s:VS R ι H M) {x a:AV} (hx:VL M (OR R ι) ι x a) {sz n:Nat} {cs:List AV} {S:List Nat} (h:NT x sz H=some (n,cs,S)) :
  fC a sz=true∧cs.length=n * sz∧∃ cs',oh a M=some (n,cs')∧bZ M (OR R (ι.Dc S)) VI.none cs cs':=by
 unfold NT at h
 split at h
 ·rename_i sz' n' cs' ex
  split at h
  case h_2=>cases h
  rename_i e
  obtain rfl:=Nat.eq_of_beq_eq_true e
  simp only [Option.some.injEq,Prod.mk.injEq] at h
  obtain ⟨rfl,rfl,rfl⟩:=h
  simp only [VL] at hx
  rcases hx with ⟨rfl,rfl,s',rfl⟩ | ⟨b,o,cap,ex',rfl,q1,q2,q3,q4⟩
  ·exact ⟨rfl,by simp,[],rfl,by simp [bZ]⟩
  ·refine ⟨by simp [fC],q3, ?_⟩
   by_cases hn:n'=0
   ·subst hn
    rw [Nat.zero_mul] at q3
    obtain rfl:=List.eq_nil_of_length_eq_zero q3
    exact ⟨[],by simp [oh],by simp [bZ]⟩
   ·obtain ⟨c,ro,sl,g1,g2,g3,g4,g5⟩:=q4 hn
    refine ⟨(c.drop o).take (n' * sz'), ?_,g5.Dc⟩
    simp only [oh,if_neg hn,Heap.read,g1,if_pos g4,Option.map_some]
 ·simp only [Option.some.injEq,Prod.mk.injEq] at h
  obtain ⟨rfl,rfl,rfl⟩:=h
  simp only [VL] at hx
  obtain ⟨_,s',rfl⟩:=hx
  exact ⟨rfl,by simp,[],rfl,by simp [bZ]⟩
 ·rename_i t
  split at h
  case h_2=>cases h
  rename_i e
  obtain rfl:=Nat.eq_of_beq_eq_true e
  simp only [Option.some.injEq,Prod.mk.injEq] at h
  obtain ⟨rfl,rfl,rfl⟩:=h
  obtain rfl:=hx.eq rfl
  refine ⟨rfl,by simp,_,rfl, ?_⟩
  have:∀ t:List UInt8,bZ M (OR R (ι.Dc [])) VI.none (t.map λb=>AV.int .u8 b.toNat) (t.map λb=>AV.int .u8 b.toNat):=λt=>by
   induction t with
   | nil=>simp [bZ]
   | cons b t ih=>simp only [List.map_cons,bZ,VL];exact ⟨trivial,ih⟩
  exact this t
 ·rename_i b o sz' n' w
  split at h
  case h_2=>cases h
  rename_i e
  obtain rfl:=Nat.eq_of_beq_eq_true e
  split at h
  case h_2=>cases h
  rename_i c ro sl hg
  obtain ⟨k1,k2,p,s',cap,ex,rfl,k3,k4,k5⟩:=VL.zu s hx hg
  have fin:∀ (cs:List AV) (S:List Nat),cs.length=n' * sz'→(∀ c' t,bZ M (OR R ι) (if sl then VI.none else ι) c c'→bZ M (OR R (ι.Dc S)) VI.none cs (((c'++t).drop o).take (n' * sz'))) →
    fC (.slice p s' n' cap ex) sz'=true∧cs.length=n' * sz'∧∃ cs',oh (.slice p s' n' cap ex) M=some (n',cs')∧bZ M (OR R (ι.Dc S)) VI.none cs cs':=by
   intro cs S h1 h2
   have hz:fC (.slice p s' n' cap ex) sz'=true:=by
    cases p with
    | none =>
     rcases k5 with ⟨j,_,_,_,_,_,_,_,_,_,_,_,e,_⟩ | ⟨e,_⟩
     ·cases e
     ·simp [fC,e]
    | some p=>simp [fC,k4 (by simp)]
   refine ⟨hz,h1, ?_⟩
   have hn0:n'=0→cs=[]:=λe=>by
    subst e
    rw [Nat.zero_mul] at h1
    exact List.eq_nil_of_length_eq_zero h1
   rcases k5 with ⟨j,c',t,ro',sl',L,g1,g2,g3,g4,g5,g6,rfl,g7⟩ | ⟨e,_⟩
   ·obtain rfl:=k4 (by simp)
    by_cases hn:n'=0
    ·rw [hn0 hn]
     subst hn
     exact ⟨[],by simp [oh],by simp [bZ]⟩
    ·have hl:=g6.length
     refine ⟨_, ?_,h2 c' t g6⟩
     simp only [oh,if_neg hn,Heap.read,g2]
     rw [if_pos (by simp only [List.length_append];omega)]
     rfl
   ·rw [hn0 e]
    subst e
    refine ⟨[], ?_,by simp [bZ]⟩
    cases p<;>simp [oh]
  split at h
  ·simp only [Option.some.injEq,Prod.mk.injEq] at h
   obtain ⟨rfl,rfl,rfl⟩:=h
   refine fin _ _ (TI k1 k2) λc' t hc=>?_
   simp only [if_true] at hc
   exact (TJ hc k1 k2).Dc
  ·split at h
   case h_2=>cases h
   split at h
   case h_2=>cases h
   rename_i q hq
   simp only [Option.some.injEq,Prod.mk.injEq] at h
   obtain ⟨rfl,rfl,rfl⟩:=h
   obtain ⟨k6,k7⟩:=k2 rfl
   refine fin _ _ (by rw [TL _ _ hq,k7]) λc' t hc=>?_
   simp only [Bool.false_eq_true,if_false] at hc
   have:=aeo s hq hc
   rw [k6,List.drop_zero,k7,hc.length,List.take_left' rfl]
   exact this
 ·cases h
theorem NZ {H:WH} {x:AV} {sz n:Nat} {cs:List AV} {S:List Nat} (h:NT x sz H=some (n,cs,S)):∀ b∈S,∃ y,dS H b=some y:=by
 unfold NT at h
 split at h
 ·split at h
  ·cases h;simp
  ·cases h
 ·cases h;simp
 ·split at h
  ·cases h;simp
  ·cases h
 ·split at h
  case h_2=>cases h
  split at h
  case h_2=>cases h
  split at h
  ·cases h;simp
  ·split at h
   case h_2=>cases h
   split at h
   case h_2=>cases h
   rename_i q hq
   cases h
   exact zT (λv p=>yE 5 true v p) _ _ hq
 ·cases h
theorem ac6 {R:Nat→Prop} {ι:VI} {H:WH} {M:Heap} (s:VS R ι H M) {x a:AV} (hx:VL M (OR R ι) ι x a) {sz bytes m len:Nat} {new new' old:List AV} (hnew:bZ M (OR R ι) VI.none new new') (hl:new.length=m * sz) {H':WH} {t:List Nat}
  (h:ZF x sz H=some (len,old,H',t)) (hf:dx bytes (len+m)=true) :
  ∃ a' M' bP,gQ sz bytes a m new' M=some (a',M')∧VS R bP (H'++[some (.cells (old++new) false true)]) M'∧Stp H.length t ι H M bP (H'++[some (.cells (old++new) false true)]) M'∧VL M' (OR R bP) bP (.acc H'.length 0 sz (len+m) true) a':=by
 have hf':=VO hf
 have hm0:m=0→new=[]:=λe=>by
  subst e
  rw [Nat.zero_mul] at hl
  exact List.eq_nil_of_length_eq_zero hl
 -- nothing was there
 have fresh:∀ (vH:VI) (H0:WH) (t0:List Nat),VS R vH H0 M→H0.length=H.length→Stp H.length t0 ι H M vH H0 M→∀ (p:Option (Nat×Nat)) (s':Nat),(p≠none→s'=sz)→0+m=len+m→∃ a' M' bP,gQ sz bytes (.slice p s' 0 0 true) m new' M=some (a',M')∧VS R bP (H0++[some (.cells ([]++new) false true)]) M'∧Stp H.length t0 ι H M bP (H0++[some (.cells ([]++new) false true)]) M'∧VL M' (OR R bP) bP (.acc H0.length 0 sz (0+m) true) a':=by
  intro vH H0 t0 s0 hlen k0 p s' hps hlm
  by_cases hm:m=0
  ·obtain rfl:=hm0 hm
   subst hm
   obtain ⟨bP,q1,q2,q3⟩:=TM s0 sz sz p (λ_=>rfl)
   refine ⟨.slice p sz 0 0 true,M,bP, ?_,q1, ?_,q3⟩
   ·unfold gQ
    cases p with
    | none=>simp
    | some p=>obtain rfl:=hps (by simp);simp
   ·have:=k0.trans q2 (by omega)
    simpa using this
  ·have e:gQ sz bytes (.slice p s' 0 0 true) m new' M=some (.slice (some (M.next,0)) sz (0+m) (0+m) false,M.push (.cells ([]++new') false true)):=by
    unfold gQ
    simp only
    rw [if_neg (λhc=>hc.2 (hps hc.1)),if_neg (by omega),if_pos (by rw [hlm];exact hf')]
    cases p with
    | none=>rfl
    | some p=>rfl
   have awK:=bZ.ac4 k0 hnew
   obtain ⟨bP,q1,q2,q3⟩:=Zc s0 (cs:=[]++new) (cs':=[]++new') (by simpa using awK) (n:=0+m) (sz:=sz) (by simpa using hl) false true
   rw [e]
   refine ⟨_,_,bP,rfl,q1, ?_,q3⟩
   have:=k0.trans q2 (by omega)
   simpa using this
 unfold ZF at h
 split at h
 ·simp only [Option.some.injEq,Prod.mk.injEq] at h
  obtain ⟨rfl,rfl,rfl,rfl⟩:=h
  simp only [VL] at hx
  obtain ⟨_,s',rfl⟩:=hx
  exact fresh ι H [] s rfl (.refl _ _ _ _ _ (Nat.le_refl _)) none s' (λh=>absurd rfl h) rfl
 ·rename_i b sz' n w
  split at h
  case h_2=>cases h
  rename_i e
  obtain rfl:=Nat.eq_of_beq_eq_true e
  -- one's own
  have main:∀ (c:List AV) (sl:Bool) (H1:WH) (oQ:VI) (old:List AV),dS H b=some (.cells c false sl)→VS R oQ H1 M→H1.length=H.length→Stp H.length [] ι H M oQ H1 M→dS H1 b=some (.cells c false sl)→old.length=n * sz' →
    (∀ c' t,bZ M (OR R ι) (if sl then VI.none else ι) c c'→bZ M (OR R oQ) VI.none old (((c'++t).drop 0).take (n * sz')))→len=n →
    ∃ a' M' bP,gQ sz' bytes a m new' M=some (a',M')∧VS R bP (iU H1 b none++[some (.cells (old++new) false true)]) M'∧Stp H.length [b] ι H M bP (iU H1 b none++[some (.cells (old++new) false true)]) M'∧VL M' (OR R bP) bP (.acc (iU H1 b none).length 0 sz' (n+m) true) a':=by
   intro c sl H1 oQ old hg s1 hlen k1 hg1 ho hr hln
   subst hln
   obtain ⟨q1,q2,p,s',cap,ex,rfl,q3,q4,q5⟩:=VL.zu s hx hg
   have hnp:p=none→cap=0∧ex=true:=by
    simp only [VL] at hx
    obtain ⟨_,_,_,_,e,_,q,_⟩:=hx
    simp only [AV.slice.injEq] at e
    obtain ⟨rfl,rfl,_,rfl,rfl⟩:=e
    exact q
   have hnew1:=bZ.ac4 k1 hnew
   rcases q5 with ⟨j,c',t,ro',sl',L,g1,g2,g3,g4,g5,g6,rfl,g7⟩ | ⟨rfl,rfl,rfl,⟨j,c',t,ro',sl',L,g1,g2,g3,g4,g5,g6⟩ | ⟨g1,rfl,rfl⟩⟩
   ·obtain rfl:=q4 (by simp)
    obtain ⟨rfl,_⟩:=g3 rfl
    have hj1:=((k1.le b (wX hg)).1 j g1).1
    have hlc:=g6.length
    have hcs:=Nat.mul_le_mul_right s' q3
    have hr':=hr c' t g6
    have hold:bZ M (OR R oQ) VI.none old ((c'++t).take (len * s')):=by simpa using hr'
    simp only [List.length_append] at g5
    by_cases hm:m=0
    ·obtain rfl:=hm0 hm
     subst hm
     have hn':new'=[]:=by
      have:=hnew.length
      exact List.eq_nil_of_length_eq_zero (by simpa using this.symm)
     subst hn'
     obtain ⟨bP,r1,r2,r3⟩:=Zd s1 hj1 hg1 (cs:=old++[]) (cs':=(c'++t).take (len * s')) (t:=(c'++t).drop (len * s')) (by rw [List.take_append_drop];exact g2) rfl (by simpa using hold) (by rw [List.take_append_drop,List.length_append];exact g5) (n:=len+0) (by simpa using ho) q3 hnp q4 (.inl ⟨rfl,by omega⟩)
     refine ⟨_,M,bP, ?_,r1, ?_,by rw [fG];exact r3⟩
     ·simp [gQ,q3]
     ·have:=k1.trans r2 (by omega)
      simpa using this
    by_cases hfit:len+m≤cap
    ·-- in place
     have hle:len * s'+new'.length≤(c'++t).length:=by
      have:=Nat.mul_le_mul_right s' hfit
      rw [← hnew.length,hl,List.length_append,← Nat.add_mul]
      omega
     have hw:M.write j (0+len * s') new'=some (M.put j (some (.cells ((c'++t).take (len * s')++new'++(c'++t).drop (len * s'+new'.length)) false sl'))):=by
      simp only [Heap.write,g2,Nat.zero_add]
      rw [if_pos hle]
     have hlenp:L≤(((c'++t).take (len * s')++new')++(c'++t).drop (len * s'+new'.length)).length:=by
      simp only [List.length_append,List.length_take,List.length_drop] at hle ⊢
      omega
     obtain ⟨r1,r2,r3⟩:=s1.swap hj1 hg1 (x:=.cells (old++new) false true) (y:=.cells ((c'++t).take (len * s')++new'++(c'++t).drop (len * s'+new'.length)) false sl') (d:=((old++new).length,L))
      ⟨(c'++t).take (len * s')++new',(c'++t).drop (len * s'+new'.length),false,sl',L,rfl,λ_=>rfl,rfl,hlenp,by simpa using hold.append hnew1,λh=>by cases h⟩
     refine ⟨.slice (some (j,0)) s' (len+m) cap ex,_,_, ?_,r1, ?_, ?_⟩
     rotate_left
     ·have:=k1.trans r2 (by omega)
      simpa using this
     ·rw [fG]
      simp only [VL]
      refine ⟨some (j,0),s',cap,ex,rfl,hfit,(λh=>by cases h),λ_=>rfl,(old++new).length,L,by simp [VI.add,setAt], ?_,λ_=>⟨trivial, ?_⟩,.inl ⟨j,r3,.inl ⟨rfl,by omega⟩⟩⟩
      ·rw [List.length_append,ho,hl,Nat.add_mul];omega
      ·rw [List.length_append,ho,hl,Nat.add_mul]
     ·unfold gQ
      simp only
      rw [if_neg (by simp),if_pos hfit,if_neg hm,hw]
      rfl
    ·obtain ⟨ait,e1,e2⟩:∃ ait,(if (ex=true∧len=0) then some [] else M.read j 0 (len * s'))=some ait∧bZ M (OR R oQ) VI.none old ait:=by
      by_cases hc:ex=true∧len=0
      ·rw [if_pos hc]
       rw [hc.2,Nat.zero_mul] at ho
       obtain rfl:=List.eq_nil_of_length_eq_zero ho
       exact ⟨[],rfl,by simp [bZ]⟩
      ·rw [if_neg hc]
       refine ⟨(c'++t).take (len * s'), ?_,hold⟩
       simp only [Heap.read,g2]
       rw [if_pos (by simp only [List.length_append];omega),List.drop_zero]
     have hlo:(old++new).length=(len+m) * s':=by rw [List.length_append,ho,hl,Nat.add_mul]
     cases ex with
     | true =>
      have e:gQ s' bytes (.slice (some (j,0)) s' len cap true) m new' M=some (.slice (some (M.next,0)) s' (len+m) (len+m) false,M.push (.cells (ait++new') false true)):=by
       unfold gQ
       simp only
       rw [if_neg (by simp),if_neg hfit,if_pos hf']
       simp only [eq_self,true_and,if_true] at e1 ⊢
       rw [e1]
       rfl
      obtain ⟨r1,r2⟩:=s1.kill hj1 hg1 (M.get j)
      rw [Heap.TH rfl] at r1 r2
      have rk:=k1.trans r2 (by omega)
      obtain ⟨bP,u1,u2,u3⟩:=Zc r1 (cs:=old++new) (cs':=ait++new') (bZ.ac4 r2 (e2.append hnew1)) hlo false true
      rw [e]
      refine ⟨_,_,bP,rfl,u1, ?_,u3⟩
      have:=rk.trans u2 (by rw [fG];omega)
      simpa using this
     | false =>
      have e:gQ s' bytes (.slice (some (j,0)) s' len cap false) m new' M=some (.slice (some (M.next,0)) s' (len+m) (len+m) false,(M.put j none).push (.cells (ait++new') false true)):=by
       unfold gQ
       simp only
       rw [if_neg (by simp),if_neg hfit,if_pos hf']
       simp only [Bool.false_eq_true,false_and,if_false] at e1 ⊢
       rw [e1]
       simp [g2]
      obtain ⟨r1,r2⟩:=s1.kill hj1 hg1 none
      have rk:=k1.trans r2 (by omega)
      obtain ⟨bP,u1,u2,u3⟩:=Zc r1 (cs:=old++new) (cs':=ait++new') (bZ.ac4 r2 (e2.append hnew1)) hlo false true
      rw [e]
      refine ⟨_,_,bP,rfl,u1, ?_,u3⟩
      have:=rk.trans u2 (by rw [fG];omega)
      simpa using this
   ·-- empty,and no room
    rw [Nat.zero_mul] at ho
    obtain rfl:=List.eq_nil_of_length_eq_zero ho
    have hj1:=((k1.le b (wX hg)).1 j g1).1
    by_cases hm:m=0
    ·obtain rfl:=hm0 hm
     subst hm
     have hn':new'=[]:=by
      have:=hnew.length
      exact List.eq_nil_of_length_eq_zero (by simpa using this.symm)
     subst hn'
     obtain ⟨bP,r1,r2,r3⟩:=Zd s1 hj1 hg1 (cs:=[]++[]) (cs':=[]) (t:=c'++t) g2 (g3 rfl).1 (by simp [bZ]) g5 (n:=0+0) (sz:=sz') (by simp) (Nat.le_refl _) hnp (s':=sz') (λ_=>rfl) (.inr ⟨rfl,rfl,rfl⟩)
     refine ⟨_,M,bP, ?_,r1, ?_,by rw [fG];exact r3⟩
     ·cases p with
      | none=>simp [gQ]
      | some p=>obtain rfl:=q4 (by simp);simp [gQ]
     ·have:=k1.trans r2 (by omega)
      simpa using this
    ·obtain ⟨r1,r2⟩:=s1.kill hj1 hg1 (M.get j)
     rw [Heap.TH rfl] at r1 r2
     have:=fresh _ _ _ r1 (by rw [fG];exact hlen) (k1.trans r2 (by omega)) p s' q4 rfl
     simpa using this
   ·rw [Nat.zero_mul] at ho
    obtain rfl:=List.eq_nil_of_length_eq_zero ho
    have hs1:=((k1.le b (wX hg)).2 g1).1
    obtain ⟨r1,r2⟩:=s1.ako hs1
    have:=fresh _ _ _ r1 (by rw [fG];exact hlen) (k1.trans r2 (by omega)) p s' q4 rfl
    simpa using this
  split at h
  ·rename_i c hg
   simp only [Option.some.injEq,Prod.mk.injEq] at h
   obtain ⟨rfl,rfl,rfl,rfl⟩:=h
   obtain ⟨k1,k2,_⟩:=VL.zu s hx hg
   exact main c true H ι _ hg s rfl (.refl _ _ _ _ _ (Nat.le_refl _)) hg (TI k1 k2) (λc' t hc=>TJ (by simpa using hc) k1 k2) rfl
  ·rename_i c hg
   split at h
   case h_2=>cases h
   split at h
   case h_2=>cases h
   rename_i p hp
   split at h
   case h_2=>cases h
   rename_i hb
   simp only [Option.some.injEq,Prod.mk.injEq] at h
   obtain ⟨rfl,rfl,rfl,rfl⟩:=h
   obtain ⟨k1,k2,_⟩:=VL.zu s hx hg
   obtain ⟨k3,k4⟩:=k2 rfl
   obtain ⟨u1,u2⟩:=s.alb p.2 (zT (λv p=>yE 5 true v p) _ _ hp)
   refine main c false (Lj H p.2) (ι.Dc p.2) _ hg u1 (yD _ _) u2 ?_ (by rw [TL _ _ hp,k4]) (λc' t hc=>?_) rfl
   ·rw [J5,hb]
    exact hg
   ·simp only [Bool.false_eq_true,if_false] at hc
    have:=aeo s hp hc
    rw [List.drop_zero,k4,hc.length,List.take_left' rfl]
    exact this
  ·cases h
 ·cases h
end Go.Proofs.YtohoggieaanllaaGreat
end
section
set_option linter.all false
set_option linter.unusedSimpArgs false
namespace Go.Proofs.YtohoggieaanllaaGreat
theorem TP:∀ {p:List Nat} {b k:Nat},Dv p b=some k→p[k]?=some b
 | [],b,k,h=>by simp [Dv] at h
 | a::r,b,k,h=>by
  simp only [Dv] at h
  split at h
  ·rename_i e
   obtain rfl:=Option.some.inj h
   simp [Nat.eq_of_beq_eq_true e]
  ·split at h
   ·rename_i k' hk
    obtain rfl:=Option.some.inj h
    simpa using TP hk
   ·cases h
theorem VQ:∀ {p:List Nat} {b:Nat},Dv p b=none→b ∉ p
 | [],b,_=>by simp
 | a::r,b,h=>by
  simp only [Dv] at h
  split at h
  ·cases h
  ·rename_i e
   split at h
   ·cases h
   ·rename_i hr
    simp only [List.mem_cons,not_or]
    exact ⟨λe'=>by subst e';simp at e,VQ hr⟩
theorem Iw:∀ {p:List Nat} (hp:p.Nodup) {b k:Nat} (h:p[k]?=some b),Dv p b=some k
 | [],_,b,k,h=>by simp at h
 | a::r,hp,b,0,h=>by
  simp only [List.getElem?_cons_zero,Option.some.injEq] at h
  subst h
  simp [Dv]
 | a::r,hp,b,k+1,h=>by
  simp only [List.getElem?_cons_succ] at h
  rw [List.nodup_cons] at hp
  have hne:a≠b:=λe=>hp.1 (e ▸ List.mem_of_getElem? h)
  have:Nat.beq a b=false:=by
   cases hh:Nat.beq a b with
   | false=>rfl
   | true=>exact absurd (Nat.eq_of_beq_eq_true hh) hne
  simp only [Dv,this,Iw hp.2 h]
def Via (f:Nat→Option Nat) (κ y7:VI):Prop:=∀ b k,f b=some k→(∀ j,κ b=some j→y7 k=some j)∧(κ.VH b=true→y7.VH k=true)∧(∀ d,κ.dim b=some d→y7.dim k=some d)
mutual
theorem VL.rn {M M':Heap} {O O':Nat→Prop} (hk:Keeps M O M' O') {f:Nat→Option Nat} {κ y7:VI} (hf:Via f κ y7):∀ (v a:AV),VL M O κ v a→VL M' O' y7 (Proofs.YtohoggieaanllaaGreat.rn f v) a
 | .undef,_,_=>by simp [Proofs.YtohoggieaanllaaGreat.rn,VL]
 | .bool _,_,e=>by simpa [Proofs.YtohoggieaanllaaGreat.rn,VL] using e
 | .int _ _,_,e=>by simpa [Proofs.YtohoggieaanllaaGreat.rn,VL] using e
 | .str _,_,e=>by simpa [Proofs.YtohoggieaanllaaGreat.rn,VL] using e
 | .ptr none,_,e=>by simpa [Proofs.YtohoggieaanllaaGreat.rn,VL] using e
 | .ptr (some q),a,e=>by
  simp only [VL] at e
  obtain ⟨j,h1,rfl⟩:=e
  simp only [Proofs.YtohoggieaanllaaGreat.rn]
  split
  ·rename_i b hb
   simp only [VL]
   exact ⟨j,(hf _ _ hb).1 j h1,rfl⟩
  ·simp [VL]
 | .slice none _ _ _ _,_,e=>by simpa [Proofs.YtohoggieaanllaaGreat.rn,VL] using e
 | .slice (some _) _ _ _ _,_,e=>by simp [VL] at e
 | .map none,_,e=>by simpa [Proofs.YtohoggieaanllaaGreat.rn,VL] using e
 | .map (some r),a,e=>by
  simp only [VL] at e
  obtain ⟨j,h1,rfl⟩:=e
  simp only [Proofs.YtohoggieaanllaaGreat.rn]
  split
  ·rename_i b hb
   simp only [VL]
   exact ⟨j,(hf _ _ hb).1 j h1,rfl⟩
  ·simp [VL]
 | .func g cs,a,e=>by
  simp only [VL,Proofs.YtohoggieaanllaaGreat.rn] at e ⊢
  obtain ⟨cs',rfl,h⟩:=e
  exact ⟨cs',rfl,bZ.rn hk hf cs cs' h⟩
 | .nilFunc,_,e=>by simpa [Proofs.YtohoggieaanllaaGreat.rn,VL] using e
 | .agg cs,a,e=>by
  simp only [VL,Proofs.YtohoggieaanllaaGreat.rn] at e ⊢
  obtain ⟨cs',rfl,h⟩:=e
  exact ⟨cs',rfl,bZ.rn hk hf cs cs' h⟩
 | .tuple cs,a,e=>by
  simp only [VL,Proofs.YtohoggieaanllaaGreat.rn] at e ⊢
  obtain ⟨cs',rfl,h⟩:=e
  exact ⟨cs',rfl,bZ.rn hk hf cs cs' h⟩
 | .list sz n cs ex,a,e=>by
  simp only [Proofs.YtohoggieaanllaaGreat.rn]
  exact VL.mono hk κ y7 _ _ (λi hi=>by simp [Du] at hi) e
 | .elem cs,a,e=>by
  simp only [Proofs.YtohoggieaanllaaGreat.rn]
  exact VL.mono hk κ y7 _ _ (λi hi=>by simp [Du] at hi) e
 | .acc b o sz n w,a,e=>by
  simp only [Proofs.YtohoggieaanllaaGreat.rn]
  split
  ·rename_i b' hb
   simp only [VL] at e ⊢
   obtain ⟨p,s',cap,ex,h1,h2,h3,h4,m,L,h5,h6,h7,h8⟩:=e
   obtain ⟨f1,f2,f3⟩:=hf _ _ hb
   exact ⟨p,s',cap,ex,h1,h2,h3,h4,m,L,f3 _ h5,h6,h7,h8.imp (λ⟨j,k1,k2⟩=>⟨j,f1 j k1,k2⟩) (λ⟨k1,k2⟩=>⟨f2 k1,k2⟩)⟩
  ·simp [VL]
theorem bZ.rn {M M':Heap} {O O':Nat→Prop} (hk:Keeps M O M' O') {f:Nat→Option Nat} {κ y7:VI} (hf:Via f κ y7):∀ (l r:List AV),bZ M O κ l r→bZ M' O' y7 (rnL f l) r
 | [],[],_=>by simp [rnL,bZ]
 | v::l,a::r,e=>by
  simp only [bZ,rnL] at e ⊢
  exact ⟨VL.rn hk hf v a e.1,bZ.rn hk hf l r e.2⟩
 | [],_::_,e=>by simp [bZ] at e
 | _::_,[],e=>by simp [bZ] at e
end
theorem aks {f:Nat→Option Nat}:∀ (l:List AV),(rnL f l).length=l.length
 | []=>rfl
 | _::l=>by simp [rnL,aks l]
theorem BL.rn {M M':Heap} {O O':Nat→Prop} (hk:Keeps M O M' O') {f:Nat→Option Nat} {κ y7:VI} (hf:Via f κ y7) {d:Option (Nat×Nat)} {x:nT} {y:Option nT} (r:BL M O κ d x y):BL M' O' y7 d (rnB f x) y:=by
 cases x with
 | cells c ro sl =>
  obtain ⟨c',t,ro',sl',L,rfl,h0,h1,h2,h3,h4⟩:=r
  cases sl with
  | true=>exact ⟨c',t,ro',sl',L,rfl,h0,h1,h2,bZ.mono hk _ _ c c' (.refl _ _) h3,h4⟩
  | false=>exact ⟨c',t,ro',sl',L,rfl,h0,by rw [aks];exact h1,h2,bZ.rn hk hf c c' h3,h4⟩
 | map es=>exact r.elim
theorem aep (f:Nat→Option Nat) (x:nT):(rnB f x).ro=x.ro:=by
 cases x with
 | cells c ro sl=>cases sl<;>rfl
 | map es=>rfl
mutual
theorem VL.retag {M:Heap} {O:Nat→Prop} {κ:VI} (v t a:AV) (h:VL M O κ v a):VL M O κ (Proofs.YtohoggieaanllaaGreat.retag v t) a:=by
 rw [Proofs.YtohoggieaanllaaGreat.retag.eq_def]
 split
 ·split
  ·simp only [VL] at h ⊢
   exact h
  ·exact h
 ·split
  ·simp only [VL] at h ⊢
   obtain ⟨cs',rfl,h⟩:=h
   exact ⟨cs',rfl,bZ.retag _ _ _ h⟩
  ·exact h
 ·split
  ·simp only [VL] at h ⊢
   obtain ⟨cs',rfl,h⟩:=h
   exact ⟨cs',rfl,bZ.retag _ _ _ h⟩
  ·exact h
 ·exact h
termination_by SizeOf.sizeOf v
theorem bZ.retag {M:Heap} {O:Nat→Prop} {κ:VI} (l ts r:List AV) (h:bZ M O κ l r):bZ M O κ (uK l ts) r:=by
 rw [uK.eq_def]
 split
 ·split
  ·cases r with
   | nil=>simp [bZ] at h
   | cons a r =>
    simp only [bZ] at h ⊢
    exact ⟨VL.retag _ _ _ h.1,bZ.retag _ _ _ h.2⟩
  ·exact h
 ·exact h
termination_by SizeOf.sizeOf l
end
theorem F5 {H:WH} {p:List Nat}:∀ (q:List Nat),(Au H p q).length=q.length
 | []=>rfl
 | _::q=>by simp [Au,F5 q]
theorem sP {H:WH} {p:List Nat}:∀ (q:List Nat) (k:Nat),dS (Au H p q) k=match q[k]? with
  | some b=>rnO (Dv p) (dS H b)
  | none=>none
 | [],k=>by simp [Au,dS]
 | b::q,0=>by simp [Au,dS]
 | b::q,k+1=>by simp [Au,dS,sP q k]
theorem Aw {f:Nat→Option Nat} {x:Option nT} {y:nT} (h:rnO f x=some y):∃ z,x=some z∧y=rnB f z:=by
 cases x with
 | none=>simp [rnO] at h
 | some z=>simp only [rnO,Option.some.injEq] at h;exact ⟨z,rfl,h.symm⟩
def jf (ι:VI) (p:List Nat):VI:=⟨λk=>match p[k]? with
  | some b=>ι b
  | none=>none,λk=>match p[k]? with
  | some b=>ι.VH b
  | none=>false,λk=>match p[k]? with
  | some b=>ι.gone b
  | none=>true,λk=>match p[k]? with
  | some b=>ι.dim b
  | none=>none⟩
theorem J6 {ι:VI} {p:List Nat}:Via (Dv p) ι (jf ι p):=λb k h=>by
 have:=TP h
 simp only [jf,this]
 exact ⟨λ_ h=>h,λh=>h,λ_ h=>h⟩
theorem F6 {ι:VI} {p:List Nat} {j:Nat} (h:own (jf ι p) j):∃ b,b∈p∧ι b=some j∧ι.gone b=false:=by
 obtain ⟨k,h1,h2⟩:=h
 simp only [jf] at h1 h2
 cases e:p[k]? with
 | none=>rw [e] at h1;cases h1
 | some b =>
  rw [e] at h1 h2
  exact ⟨b,List.mem_of_getElem? e,h1,h2⟩
theorem VS.pick {R R':Nat→Prop} {ι:VI} {H:WH} {M:Heap} (s:VS R ι H M) {p:List Nat} (hp:p.Nodup) (hR:∀ j,R' j→j < M.next∧∀ b,b∈p→act ι H b→ι b≠some j) (hO:∀ j,OR R' (jf ι p) j→OR R ι j) :
  VS R' (jf ι p) (Au H p p) M:=by
 have hk:Keeps M (OR R ι) M (OR R' (jf ι p)):=⟨Nat.le_refl _,λb _ h=>⟨rfl,λk=>h (hO b k)⟩⟩
 have ac:∀ k,act (jf ι p) (Au H p p) k→∃ b,p[k]?=some b∧act ι H b:=λk h=>by
  cases e:p[k]? with
  | none =>
   rcases h with ⟨x,h⟩ | h
   ·rw [sP,e] at h;cases h
   ·simp only [jf,e] at h;cases h
  | some b =>
   refine ⟨b,rfl, ?_⟩
   rcases h with ⟨x,h⟩ | h
   ·rw [sP,e] at h
    obtain ⟨z,hz,_⟩:=Aw h
    exact .inl ⟨z,hz⟩
   ·simp only [jf,e] at h
    exact .inr h
 have at':∀ {k b},p[k]?=some b→(jf ι p) k=ι b∧(jf ι p).VH k=ι.VH b∧(jf ι p).gone k=ι.gone b∧(jf ι p).dim k=ι.dim b:=λe=>by simp [jf,e]
 refine ⟨λk j h=>?_,λk k' j h h' e e' g=>?_,λk x hx=>?_,λk h=>?_,λk hk' c sl h=>?_,s.okM,λj h=>⟨(hR j h).1,λk hk'=>?_⟩⟩
 ·cases e:p[k]? with
  | none=>simp only [jf,e] at h;cases h
  | some b =>
   rw [(at' e).1] at h
   exact ⟨by rw [F5];exact (List.getElem?_eq_some_iff.1 e).1,(s.lt b j h).2⟩
 ·obtain ⟨b,q1,q2⟩:=ac k h
  obtain ⟨b',q1',q2'⟩:=ac k' h'
  rw [(at' q1).1] at e
  rw [(at' q1').1] at e'
  rw [(at' q1).2.2.1,(at' q1').2.2.1] at g
  have:=s.inj b b' j q2 q2' e e' g
  subst this
  have:=Iw hp q1
  rw [Iw hp q1'] at this
  exact (Option.some.inj this).symm
 ·cases e:p[k]? with
  | none=>rw [sP,e] at hx;cases hx
  | some b =>
   rw [sP,e] at hx
   obtain ⟨z,hz,rfl⟩:=Aw hx
   rw [(at' e).1,(at' e).2.1,(at' e).2.2.1,(at' e).2.2.2,aep]
   rcases s.blk b z hz with ⟨h1,h2,ro,rfl⟩ | ⟨j,h1,h2,h3⟩
   ·exact .inl ⟨h1,h2,ro,rfl⟩
   ·exact .inr ⟨j,h1,BL.rn hk J6 h2,h3⟩
 ·cases e:p[k]? with
  | none=>simp only [jf,e] at h;cases h
  | some b =>
   rw [(at' e).2.1] at h
   rw [(at' e).1]
   exact ⟨by rw [F5];exact (List.getElem?_eq_some_iff.1 e).1,(s.Dw b h).2⟩
 ·cases e:p[k]? with
  | none=>rw [sP,e] at h;cases h
  | some b =>
   rw [(at' e).2.2.1] at hk'
   rw [sP,e] at h
   obtain ⟨z,hz,h2⟩:=Aw h
   have hr:=aep (Dv p) z
   rw [← h2] at hr
   cases z with
   | cells c' ro sl' =>
    simp only [nT.ro] at hr
    subst hr
    exact s.Dc b hk' c' sl' hz
   | map es=>cases h2
 ·obtain ⟨b,q1,q2⟩:=ac k hk'
  rw [(at' q1).1]
  exact (hR j h).2 b (List.mem_of_getElem? q1) q2
theorem Qb {H:WH} {np:Nat}:∀ (l seen:List Nat),(Nk H np seen l).Nodup∧∀ x,x∈Nk H np seen l→x∈l∧wV seen x=false∧(x < np∨∃ y,dS H x=some y)
 | [],seen=>by simp [Nk]
 | a::r,seen=>by
  simp only [Nk]
  cases h:wV seen a with
  | true =>
   obtain ⟨h1,h2⟩:=Qb r seen
   exact ⟨h1,λx hx=>⟨List.mem_cons_of_mem _ (h2 x hx).1,(h2 x hx).2⟩⟩
  | false =>
   obtain ⟨h1,h2⟩:=Qb (H:=H) (np:=np) r (a::seen)
   have hne:∀ x,x∈Nk H np (a::seen) r→x≠a∧wV seen x=false:=λx hx=>by
    have:=(h2 x hx).2.1
    simp only [wV] at this
    split at this
    ·cases this
    ·rename_i e
     exact ⟨λe'=>by subst e';simp at e,this⟩
   have auS:(x:Nat)→x∈Nk H np (a::seen) r→x∈a::r∧wV seen x=false∧(x < np∨∃ y,dS H x=some y):=λx hx =>
    ⟨List.mem_cons_of_mem _ (h2 x hx).1,(hne x hx).2,(h2 x hx).2.2⟩
   have both:(a < np∨∃ y,dS H a=some y)→(a::Nk H np (a::seen) r).Nodup∧∀ x,x∈a::Nk H np (a::seen) r→x∈a::r∧wV seen x=false∧(x < np∨∃ y,dS H x=some y):=λha =>
    ⟨List.nodup_cons.2 ⟨λhm=>(hne a hm).1 rfl,h1⟩,λx hx=>by
     rcases List.mem_cons.1 hx with rfl | hx
     ·exact ⟨List.mem_cons_self,h,ha⟩
     ·exact auS x hx⟩
   simp only
   split
   ·rename_i hb
    exact both (.inl (by simpa [Nat.blt_eq] using hb))
   ·split
    ·rename_i y hy
     exact both (.inr ⟨y,hy⟩)
    ·exact ⟨h1,auS⟩
theorem alc {a b:Nat} {l:List Nat} (h:a≠b):wV (a::l) b=wV l b:=by
 have:Nat.beq a b=false:=by
  cases hh:Nat.beq a b with
  | false=>rfl
  | true=>exact absurd (Nat.eq_of_beq_eq_true hh) h
 simp [wV,this]
theorem af7 {H:WH} {np:Nat}:∀ (l seen r:List Nat),l.Nodup→(∀ x,x∈l→x < np∧wV seen x=false)→∃ r',Nk H np seen (l++r)=l++r'
 | [],seen,r,_,_=>⟨Nk H np seen r,rfl⟩
 | a::l,seen,r,hn,h=>by
  rw [List.nodup_cons] at hn
  obtain ⟨h1,h2⟩:=h a (by simp)
  obtain ⟨r',hr⟩:=af7 (H:=H) (np:=np) l (a::seen) r hn.2 (λx hx=>⟨(h x (by simp [hx])).1,by
   have hne:a≠x:=λe=>hn.1 (by rw [e];exact hx)
   rw [alc hne]
   exact (h x (by simp [hx])).2⟩)
  refine ⟨r', ?_⟩
  simp only [List.cons_append,Nk,h2]
  rw [show Nat.blt a np=true by simpa [Nat.blt_eq] using h1]
  simp only [hr]
theorem aer (H:WH) (np:Nat) (roots:List Nat):(VG H np roots).Nodup∧(∀ x,x∈VG H np roots→x < np∨∃ y,dS H x=some y)∧∃ r,VG H np roots=List.range np++r:=by
 have pre:∀ r,∃ r',Nk H np [] (List.range np++r)=List.range np++r':=λr =>
  af7 _ [] r List.nodup_range (λx hx=>⟨List.mem_range.1 hx,rfl⟩)
 have step:∀ l,(∃ r,l=List.range np++r)→∃ r,amS H np l=List.range np++r:=λl ⟨r,h⟩=>by
  subst h
  unfold amS
  rw [List.append_assoc]
  exact pre _
 refine ⟨(Qb _ _).1,λx hx=>((Qb _ _).2 x hx).2.2, ?_⟩
 exact step _ (step _ (step _ (pre _)))
theorem ara {H:WH} {np i:Nat} {roots:List Nat} (h:i < np):(VG H np roots)[i]?=some i:=by
 obtain ⟨_,_,r,hr⟩:=aer H np roots
 rw [hr,List.getElem?_append_left (by simpa using h)]
 simp [h]
theorem auT {R:Nat→Prop} {ι:VI} {H:WH} {M:Heap} (s:VS R ι H M) {np:Nat} (hn:np≤H.length) (roots:List Nat) {vs as:List AV} (hv:bZ M (OR R ι) ι vs as) :
  ∃ bP,VS R bP (Au H (VG H np roots) (VG H np roots)) M∧Stp np [] ι H M bP (Au H (VG H np roots) (VG H np roots)) M∧bZ M (OR R bP) bP (rnL (Dv (VG H np roots)) vs) as:=by
 obtain ⟨h1,h2,r,hr⟩:=aer H np roots
 have hlow:∀ i,i < np→(VG H np roots)[i]?=some i:=λi=>ara
 generalize VG H np roots=p at *
 have hsub:∀ j,OR R (jf ι p) j→OR R ι j:=λj h=>h.imp (λh=>by
  obtain ⟨b,_,h3,h4⟩:=F6 h
  exact ⟨b,h3,h4⟩) id
 have hs:=s.pick h1 (R':=R) (λj h=>⟨(s.res j h).1,λb _ hb=>(s.res j h).2 b hb⟩) hsub
 have hko:Keeps M (own ι) M (own (jf ι p)):=⟨Nat.le_refl _,λb _ h=>⟨rfl,λk=>h (by obtain ⟨b',_,h3,h4⟩:=F6 k;exact ⟨b',h3,h4⟩)⟩⟩
 refine ⟨_,hs,⟨hko,λi hi=>?_,λi hi h=>?_,λi hi=>by simp only [jf,hlow i hi],λi hi=>by simp only [jf,hlow i hi],λi hi _=>by simp only [jf,hlow i hi],λi hi h=>?_,λ_ _ _ _ _ _=>rfl, ?_⟩, ?_⟩
 ·have:=hlow i hi
  simp only [jf,this]
  exact ⟨λ_ h=>⟨h,λ_ h=>h⟩,λh=>⟨h,λ_ h=>h⟩⟩
 ·simp only [jf,hlow i hi]
  exact h
 ·obtain ⟨x,h⟩:=h
  rw [sP,hlow i hi] at h
  obtain ⟨z,hz,_⟩:=Aw h
  exact ⟨z,hz⟩
 ·rw [F5,hr]
  simp
 ·exact bZ.rn ⟨Nat.le_refl _,λb _ h=>⟨rfl,λk=>h (hsub b k)⟩⟩ J6 _ _ hv
theorem VT {R:Nat→Prop} {ι:VI} {H:WH} {M:Heap} (s:VS R ι H M) {np:Nat} (hn:np≤H.length) {ms bs:List (Option Bool)} {ts vs as:List AV} (hv:bZ M (OR R ι) ι vs as) {k:List AV→WH→Prop} (h:ZG np ms bs ts vs H k) :
  ∃ vs' blks bP,k vs' blks∧VS R bP blks M∧Stp np [] ι H M bP blks M∧bZ M (OR R bP) bP vs' as:=by
 unfold ZG at h
 obtain ⟨oQ,h1,h2,h3⟩:=Ze ms (uK vs ts) H ι M as s (bZ.retag _ _ _ hv)
 generalize hr:TB ms (uK vs ts) H=r at *
 obtain ⟨vs1,H1⟩:=r
 simp only at h h1 h2 h3
 obtain ⟨Cv,k1,k2⟩:=TN bs none (VG H1 np (qW vs1)) H1 oQ M h1
 have k3:=bZ.step h1 k2 h3
 obtain ⟨ι3,q1,q2,q3⟩:=auT k1 (Nat.le_trans hn (Nat.le_trans h2.next k2.next)) (qW vs1) k3
 refine ⟨_,_,ι3,h,q1, ?_,q3⟩
 have e1:Stp np [] ι H M oQ H1 M:=h2.weak hn
 have e2:Stp np [] oQ H1 M Cv _ M:=k2.weak (Nat.le_trans hn h2.next)
 have:=(e1.trans e2 (Nat.le_refl _)).trans q2 (Nat.le_refl _)
 simpa using this
end Go.Proofs.YtohoggieaanllaaGreat
end
section
set_option linter.all false
set_option linter.unusedSimpArgs false
namespace Go.Proofs.YtohoggieaanllaaGreat
theorem RP {f:Nat→Option Nat}:∀ (p:List Nat) (out H:WH),(Cw f p out H).length=H.length
 | [],out,H=>by simp [Cw]
 | b::p,[],H=>by simp [Cw]
 | b::p,x::out,H=>by simp [Cw,RP p,fG]
theorem N7 {f:Nat→Option Nat}:∀ (p:List Nat) (out H:WH) (i:Nat),i ∉ p→dS (Cw f p out H) i=dS H i
 | [],out,H,i,_=>by simp [Cw]
 | b::p,[],H,i,_=>by simp [Cw]
 | b::p,x::out,H,i,h=>by
  simp only [List.mem_cons,not_or] at h
  simp only [Cw]
  rw [N7 p out _ i h.2,uf,if_neg (λe=>h.1 e.1)]
theorem ZM {f:Nat→Option Nat}:∀ (p:List Nat) (out H:WH) (k b:Nat),p.Nodup→p.length≤out.length→p[k]?=some b→b < H.length→dS (Cw f p out H) b=rnO f (dS out k)
 | [],out,H,k,b,_,_,h,_=>by simp at h
 | a::p,[],H,k,b,_,hl,_,_=>by simp at hl
 | a::p,x::out,H,0,b,hp,hl,h,hb=>by
  simp only [List.getElem?_cons_zero,Option.some.injEq] at h
  subst h
  rw [List.nodup_cons] at hp
  simp only [Cw]
  rw [N7 p out _ a hp.1,uf,if_pos ⟨rfl,hb⟩]
  rfl
 | a::p,x::out,H,k+1,b,hp,hl,h,hb=>by
  simp only [List.getElem?_cons_succ] at h
  rw [List.nodup_cons] at hp
  simp only [List.length_cons] at hl
  simp only [Cw]
  rw [ZM p out _ k b hp.2 (by omega) h (by rw [fG];exact hb)]
  rfl
theorem ac7:∀ (out:WH) (n k:Nat),dS (out.drop n) k=dS out (n+k)
 | out,0,k=>by simp
 | [],n+1,k=>by simp [dS]
 | x::out,n+1,k=>by
  rw [List.drop_succ_cons,ac7 out n k,Nat.add_right_comm]
  rfl
theorem af8 {f:Nat→Option Nat}:∀ (out:WH) (k:Nat),dS (out.map (rnO f)) k=rnO f (dS out k)
 | [],k=>by simp [dS,rnO]
 | x::out,0=>by simp [dS]
 | x::out,k+1=>by simp [dS,af8 out k]
def cls (n0:Nat) (p:List Nat) (i:Nat):Nat⊕Nat:=match Dv p i with
 | some k=>.inl k
 | none=>if i < n0 then .inr i else .inl (p.length+(i - n0))
def xR (ι J7:VI) (n0:Nat) (p:List Nat):VI:=⟨λi=>match cls n0 p i with
  | .inl k=>J7 k
  | .inr i=>ι i,λi=>match cls n0 p i with
  | .inl k=>J7.VH k
  | .inr i=>ι.VH i,λi=>match cls n0 p i with
  | .inl k=>J7.gone k
  | .inr i=>ι.gone i,λi=>match cls n0 p i with
  | .inl k=>J7.dim k
  | .inr i=>ι.dim i⟩
section
variable {R:Nat→Prop} {ι:VI} {H:WH} {M:Heap} (s:VS R ι H M) {p:List Nat} (hp:p.Nodup) (hl:∀ b,b∈p→b < H.length) {out:WH} (ho:p.length≤out.length)
include hp hl
theorem Qc {i k:Nat} (h:p[k]?=some i):cls H.length p i=.inl k:=by simp [cls,Iw hp h]
theorem Qd {i k:Nat} (h:cls H.length p i=.inl k):(p[k]?=some i∧i < H.length)∨(i ∉ p∧H.length≤i∧k=p.length+(i - H.length)):=by
 unfold cls at h
 cases e:Dv p i with
 | some k' =>
  rw [e] at h
  simp only [Sum.inl.injEq] at h
  subst h
  have:=TP e
  exact .inl ⟨this,hl i (List.mem_of_getElem? this)⟩
 | none =>
  rw [e] at h
  simp only at h
  split at h
  ·cases h
  ·simp only [Sum.inl.injEq] at h
   exact .inr ⟨VQ e,by omega,h.symm⟩
theorem Df {i i':Nat} (h:cls H.length p i=.inr i'):i'=i∧i ∉ p∧i < H.length:=by
 unfold cls at h
 cases e:Dv p i with
 | some k'=>rw [e] at h;cases h
 | none =>
  rw [e] at h
  simp only at h
  split at h
  ·simp only [Sum.inr.injEq] at h
   exact ⟨h.symm,VQ e,by assumption⟩
  ·cases h
theorem arb {i i' k:Nat} (h:cls H.length p i=.inl k) (h':cls H.length p i'=.inl k):i=i':=by
 rcases Qd hp hl h with ⟨h1,_⟩ | ⟨_,h2,h3⟩<;>rcases Qd hp hl h' with ⟨h1',_⟩ | ⟨_,h2',h3'⟩
 ·rw [h1] at h1'
  exact Option.some.inj h1'
 ·have:=(List.getElem?_eq_some_iff.1 h1).1
  omega
 ·have:=(List.getElem?_eq_some_iff.1 h1').1
  omega
 ·omega
theorem am1 {k i:Nat} (h:back p H.length k=some i):cls H.length p i=.inl k:=by
 unfold back at h
 cases e:p[k]? with
 | some b =>
  rw [e] at h
  obtain rfl:=Option.some.inj h
  exact Qc hp hl e
 | none =>
  rw [e] at h
  simp only [Option.some.injEq] at h
  have hk:p.length≤k:=by
   rw [List.getElem?_eq_none_iff] at e
   exact e
  unfold cls
  have hn:Dv p i=none:=by
   cases e':Dv p i with
   | none=>rfl
   | some k' =>
    have:=hl i (List.mem_of_getElem? (TP e'))
    omega
  rw [hn]
  simp only
  rw [if_neg (by omega)]
  congr 1
  omega
include ho
theorem ald (i:Nat):dS (TA H p out) i=match cls H.length p i with
  | .inl k=>rnO (back p H.length) (dS out k)
  | .inr i=>dS H i:=by
 unfold TA
 rw [TG,RP]
 cases h:cls H.length p i with
 | inl k =>
  rcases Qd hp hl h with ⟨h1,h2⟩ | ⟨_,h2,rfl⟩
  ·rw [if_pos h2]
   simp only
   exact ZM p out H k i hp ho h1 h2
  ·rw [if_neg (by omega)]
   simp only
   rw [af8,ac7]
 | inr i' =>
  obtain ⟨rfl,h2,h3⟩:=Df hp hl h
  rw [if_pos h3]
  exact N7 p out H _ h2
theorem ale:(TA H p out).length=H.length+(out.length - p.length):=by
 unfold TA
 simp [RP]
theorem ard {R':Nat→Prop} (hR':∀ j,R' j↔R j∨(own ι j∧¬ own (jf ι p) j)) {J7:VI} {M':Heap} {blks:WH} (s:VS R ι H M) (sc:VS R' J7 out M') (kc:Stp p.length (List.range p.length) (jf ι p) blks M J7 out M') (hpl:∀ b,b∈p→∃ x,dS H b=some x) (hbk:∀ k b,p[k]?=some b→(∃ x,dS blks k=some x)→∃ x,dS H b=some x) :
  VS R (xR ι J7 H.length p) (TA H p out) M'∧Stp H.length p ι H M (xR ι J7 H.length p) (TA H p out) M'∧∀ v a,VL M' (OR R' J7) J7 v a→VL M' (OR R (xR ι J7 H.length p)) (xR ι J7 H.length p) (rn (back p H.length) v) a:=by
 have hinl:∀ {i k},cls H.length p i=.inl k→(xR ι J7 H.length p) i=J7 k∧(xR ι J7 H.length p).VH i=J7.VH k∧(xR ι J7 H.length p).gone i=J7.gone k∧(xR ι J7 H.length p).dim i=J7.dim k:=λh=>by simp [xR,h]
 have hinr:∀ {i i'},cls H.length p i=.inr i'→(xR ι J7 H.length p) i=ι i∧(xR ι J7 H.length p).VH i=ι.VH i∧(xR ι J7 H.length p).gone i=ι.gone i∧(xR ι J7 H.length p).dim i=ι.dim i:=λh=>by
  obtain ⟨rfl,_⟩:=Df hp hl h
  simp [xR,h]
 have hget:=ald (out:=out) hp hl ho
 have hlen:=ale (out:=out) hp hl ho
 have hold:∀ {i},i ∉ p→i < H.length→cls H.length p i=.inr i:=λ{i} h1 h2=>by
  cases h:cls H.length p i with
  | inl k =>
   rcases Qd hp hl h with ⟨h3,_⟩ | ⟨_,h3,_⟩
   ·exact absurd (List.mem_of_getElem? h3) h1
   ·omega
  | inr i'=>rw [(Df hp hl h).1]
 have aci:∀ {i k},cls H.length p i=.inl k→act (xR ι J7 H.length p) (TA H p out) i→act J7 out k:=λh ha=>by
  rcases ha with ⟨x,ha⟩ | ha
  ·rw [hget,h] at ha
   obtain ⟨z,hz,_⟩:=Aw ha
   exact .inl ⟨z,hz⟩
  ·rw [(hinl h).2.2.1] at ha
   exact .inr ha
 have aco:∀ {i i'},cls H.length p i=.inr i'→act (xR ι J7 H.length p) (TA H p out) i→act ι H i:=λh ha=>by
  rcases ha with ⟨x,ha⟩ | ha
  ·obtain ⟨rfl,_⟩:=Df hp hl h
   rw [hget,h] at ha
   exact .inl ⟨x,ha⟩
  ·rw [(hinr h).2.2.1] at ha
   exact .inr ha
 -- what is the caller's alone
 have akt:∀ {i j},i ∉ p→act ι H i→ι i=some j→¬ own (jf ι p) j:=λ{i j} h1 h2 h3 h4=>by
  obtain ⟨b,q1,q2,q3⟩:=F6 h4
  have:=s.inj b i j (.inr q3) h2 q2 h3 (.inl q3)
  subst this
  exact h1 q1
 have stays:∀ {i j},i ∉ p→act ι H i→ι i=some j→M'.get j=M.get j∧¬ own J7 j:=λ{i j} h1 h2 h3=>kc.keep.get j (s.lt i j h3).2 (akt h1 h2 h3)
 have sub:∀ j,own (jf ι p) j→own ι j:=λj h=>by
  obtain ⟨b,_,h3,h4⟩:=F6 h
  exact ⟨b,h3,h4⟩
 have awL:∀ j,own (xR ι J7 H.length p) j→own J7 j∨(∃ i,i ∉ p∧i < H.length∧ι i=some j∧ι.gone i=false):=λj ⟨i,h1,h2⟩=>by
  cases h:cls H.length p i with
  | inl k =>
   rw [(hinl h).1] at h1
   rw [(hinl h).2.2.1] at h2
   exact .inl ⟨k,h1,h2⟩
  | inr i' =>
   obtain ⟨rfl,q1,q2⟩:=Df hp hl h
   rw [(hinr h).1] at h1
   rw [(hinr h).2.2.1] at h2
   exact .inr ⟨i',q1,q2,h1,h2⟩
 have hOO:∀ j,OR R (xR ι J7 H.length p) j→OR R' J7 j:=λj h=>by
  rcases h with h | h
  ·rcases awL j h with h | ⟨i,q1,q2,q3,q4⟩
   ·exact .inl h
   ·exact .inr ((hR' j).2 (.inr ⟨⟨i,q3,q4⟩,akt q1 (.inr q4) q3⟩))
  ·exact .inr ((hR' j).2 (.inl h))
 have hkeep:Keeps M (own ι) M' (own (xR ι J7 H.length p)):=⟨kc.keep.next,λb hb h=>by
  obtain ⟨e1,e2⟩:=kc.keep.get b hb (λk=>h (sub b k))
  refine ⟨e1,λk=>?_⟩
  rcases awL b k with k | ⟨i,q1,q2,q3,q4⟩
  ·exact e2 k
  ·exact h ⟨i,q3,q4⟩⟩
 have hle:∀ S,VI.Le ι (xR ι J7 H.length p) S:=λS i _=>by
  by_cases hi:i∈p
  ·obtain ⟨k,hk⟩:=List.mem_iff_getElem?.1 hi
   have hc:=Qc hp hl hk
   have hkl:=(List.getElem?_eq_some_iff.1 hk).1
   obtain ⟨e1,e2,e3,e4⟩:=hinl hc
   have:=kc.le k hkl
   simp only [jf,hk] at this
   rw [e1,e2,e4]
   exact this
  ·by_cases hlt:i < H.length
   ·obtain ⟨e1,e2,e3,e4⟩:=hinr (hold hi hlt)
    rw [e1,e2,e4]
    exact ⟨λ_ h=>⟨h,λ_ h=>h⟩,λh=>⟨h,λ_ h=>h⟩⟩
   ·exact ⟨λj h=>absurd (s.lt i j h).1 hlt,λh=>absurd (s.Dw i h).1 hlt⟩
 have awM:Via (back p H.length) J7 (xR ι J7 H.length p):=λk i h=>by
  obtain ⟨e1,e2,e3,e4⟩:=hinl (am1 hp hl h)
  rw [e1,e2,e4]
  exact ⟨λ_ h=>h,λh=>h,λ_ h=>h⟩
 have hkO:Keeps M' (OR R' J7) M' (OR R (xR ι J7 H.length p)):=⟨Nat.le_refl _,λb _ h=>⟨rfl,λk=>h (hOO b k)⟩⟩
 refine ⟨⟨λi j h=>?_,λi i' j h h' e e' g=>?_,λi x hx=>?_,λi h=>?_,λi hi c sl h=>?_,sc.okM,λj h=>⟨?_,λi hi=>?_⟩⟩,⟨hkeep,hle _,λi hi h=>?_,λi hi=>?_,λi hi=>?_,λi hi h=>?_,λi hi h=>?_,λi j hi h hj hn=>?_,by rw [hlen];omega⟩,λv a h=>VL.rn hkO awM v a h⟩
 ·rw [hlen]
  cases hc:cls H.length p i with
  | inl k =>
   rw [(hinl hc).1] at h
   obtain ⟨q1,q2⟩:=sc.lt k j h
   refine ⟨?_,q2⟩
   rcases Qd hp hl hc with ⟨_,h2⟩ | ⟨_,h2,rfl⟩<;>omega
  | inr i' =>
   rw [(hinr hc).1] at h
   obtain ⟨q1,q2⟩:=s.lt i j h
   exact ⟨by omega,Nat.lt_of_lt_of_le q2 kc.keep.next⟩
 ·cases hc:cls H.length p i with
  | inl k =>
   cases hc':cls H.length p i' with
   | inl k' =>
    rw [(hinl hc).1] at e
    rw [(hinl hc').1] at e'
    rw [(hinl hc).2.2.1,(hinl hc').2.2.1] at g
    have:=sc.inj k k' j (aci hc h) (aci hc' h') e e' g
    subst this
    exact arb hp hl hc hc'
   | inr i2 =>
    exfalso
    obtain ⟨rfl,q1,q2⟩:=Df hp hl hc'
    have ha:=aco hc' h'
    rw [(hinl hc).1] at e
    rw [(hinr hc').1] at e'
    rw [(hinl hc).2.2.1,(hinr hc').2.2.1] at g
    rcases g with g | g
    ·exact (stays q1 ha e').2 ⟨k,e,g⟩
    ·exact (sc.res j ((hR' j).2 (.inr ⟨⟨i2,e',g⟩,akt q1 ha e'⟩))).2 k (aci hc h) e
  | inr i1 =>
   obtain ⟨rfl,q1,q2⟩:=Df hp hl hc
   have ha:=aco hc h
   rw [(hinr hc).1] at e
   cases hc':cls H.length p i' with
   | inl k' =>
    exfalso
    rw [(hinl hc').1] at e'
    rw [(hinr hc).2.2.1,(hinl hc').2.2.1] at g
    rcases g with g | g
    ·exact (sc.res j ((hR' j).2 (.inr ⟨⟨i1,e,g⟩,akt q1 ha e⟩))).2 k' (aci hc' h') e'
    ·exact (stays q1 ha e).2 ⟨k',e',g⟩
   | inr i2 =>
    obtain ⟨rfl,q1',q2'⟩:=Df hp hl hc'
    rw [(hinr hc').1] at e'
    rw [(hinr hc).2.2.1,(hinr hc').2.2.1] at g
    exact s.inj i1 i2 j ha (aco hc' h') e e' g
 ·cases hc:cls H.length p i with
  | inl k =>
   rw [hget,hc] at hx
   obtain ⟨z,hz,rfl⟩:=Aw hx
   obtain ⟨e1,e2,e3,e4⟩:=hinl hc
   rw [e1,e2,e3,e4,aep]
   rcases sc.blk k z hz with ⟨h1,h2,ro,rfl⟩ | ⟨j,h1,h2,h3⟩
   ·exact .inl ⟨h1,h2,ro,rfl⟩
   ·exact .inr ⟨j,h1,BL.rn hkO awM h2,h3⟩
  | inr i' =>
   obtain ⟨rfl,q1,q2⟩:=Df hp hl hc
   rw [hget,hc] at hx
   obtain ⟨e1,e2,e3,e4⟩:=hinr hc
   rw [e1,e2,e3,e4]
   rcases s.blk i' x hx with h | ⟨j,h1,h2,h3⟩
   ·exact .inl h
   ·refine .inr ⟨j,h1, ?_,h3⟩
    rw [(stays q1 (.inl ⟨x,hx⟩) h1).1]
    exact h2.mono (hkeep.or R) hle (λ_ h=>h)
 ·rw [hlen]
  cases hc:cls H.length p i with
  | inl k =>
   rw [(hinl hc).2.1] at h
   rw [(hinl hc).1]
   obtain ⟨q1,q2⟩:=sc.Dw k h
   refine ⟨?_,q2⟩
   rcases Qd hp hl hc with ⟨_,h2⟩ | ⟨_,h2,rfl⟩<;>omega
  | inr i' =>
   rw [(hinr hc).2.1] at h
   rw [(hinr hc).1]
   obtain ⟨q1,q2⟩:=s.Dw i h
   exact ⟨by omega,q2⟩
 ·cases hc:cls H.length p i with
  | inl k =>
   rw [(hinl hc).2.2.1] at hi
   rw [hget,hc] at h
   obtain ⟨z,hz,h2⟩:=Aw h
   have hr:=aep (back p H.length) z
   rw [← h2] at hr
   cases z with
   | cells c' ro sl' =>
    simp only [nT.ro] at hr
    subst hr
    exact sc.Dc k hi c' sl' hz
   | map es=>cases h2
  | inr i' =>
   obtain ⟨rfl,q1,q2⟩:=Df hp hl hc
   rw [(hinr hc).2.2.1] at hi
   rw [hget,hc] at h
   exact s.Dc i' hi c sl h
 ·exact Nat.lt_of_lt_of_le (s.res j h).1 kc.keep.next
 ·cases hc:cls H.length p i with
  | inl k =>
   rw [(hinl hc).1]
   exact (sc.res j ((hR' j).2 (.inl h))).2 k (aci hc hi)
  | inr i' =>
   rw [(hinr hc).1]
   exact (s.res j h).2 i (aco hc hi)
 ·by_cases hm:i∈p
  ·obtain ⟨k,hk⟩:=List.mem_iff_getElem?.1 hm
   rw [(hinl (Qc hp hl hk)).2.2.1]
   refine kc.gone k (List.getElem?_eq_some_iff.1 hk).1 ?_
   simp only [jf,hk]
   exact h
  ·rw [(hinr (hold hm hi)).2.2.1]
   exact h
 ·by_cases hm:i∈p
  ·obtain ⟨k,hk⟩:=List.mem_iff_getElem?.1 hm
   rw [(hinl (Qc hp hl hk)).1,kc.toq k (List.getElem?_eq_some_iff.1 hk).1]
   simp only [jf,hk]
  ·rw [(hinr (hold hm hi)).1]
 ·by_cases hm:i∈p
  ·obtain ⟨k,hk⟩:=List.mem_iff_getElem?.1 hm
   rw [(hinl (Qc hp hl hk)).2.2.2,kc.aik k (List.getElem?_eq_some_iff.1 hk).1]
   simp only [jf,hk]
  ·rw [(hinr (hold hm hi)).2.2.2]
 ·by_cases hm:i∈p
  ·obtain ⟨x,hx⟩:=hpl i hm
   rw [h] at hx
   cases hx
  ·rw [(hinr (hold hm hi)).2.2.1]
 ·obtain ⟨x,h⟩:=h
  by_cases hm:i∈p
  ·obtain ⟨k,hk⟩:=List.mem_iff_getElem?.1 hm
   rw [hget,Qc hp hl hk] at h
   obtain ⟨z,hz,_⟩:=Aw h
   exact hbk k i hk (kc.live k (List.getElem?_eq_some_iff.1 hk).1 ⟨z,hz⟩)
  ·rw [hget,hold hm hi] at h
   exact ⟨x,h⟩
 ·exact (stays hn (aco (hold hn hi) h) hj).1
end
mutual
theorem af9 {M M':Heap} {O O':Nat→Prop} {κ y7:VI}:∀ (v a:AV),vM v=true→VL M O κ v a→VL M' O' y7 v a
 | .bool _,a,_,h=>by simp only [VL] at h ⊢;exact h
 | .int ..,a,_,h=>by simp only [VL] at h ⊢;exact h
 | .str _,a,_,h=>by simp only [VL] at h ⊢;exact h
 | .ptr none,a,_,h=>by simp only [VL] at h ⊢;exact h
 | .nilFunc,a,_,h=>by simp only [VL] at h ⊢;exact h
 | .slice none s l c e,a,hs,h=>by simp only [VL] at h ⊢;exact h
 | .tuple cs,a,hs,h=>by
  simp only [vM] at hs
  simp only [VL] at h ⊢
  obtain ⟨cs',e,h⟩:=h
  exact ⟨cs',e,VU cs cs' hs h⟩
 | .agg cs,a,hs,h=>by
  simp only [vM] at hs
  simp only [VL] at h ⊢
  obtain ⟨cs',e,h⟩:=h
  exact ⟨cs',e,VU cs cs' hs h⟩
 | .undef,_,hs,_=>by simp [vM] at hs
 | .ptr (some _),_,hs,_=>by simp [vM] at hs
 | .slice (some _) _ _ _ _,_,hs,_=>by simp [vM] at hs
 | .map _,_,hs,_=>by simp [vM] at hs
 | .func _ _,_,hs,_=>by simp [vM] at hs
 | .list ..,_,hs,_=>by simp [vM] at hs
 | .elem _,_,hs,_=>by simp [vM] at hs
 | .acc ..,_,hs,_=>by simp [vM] at hs
theorem VU {M M':Heap} {O O':Nat→Prop} {κ y7:VI}:∀ (v a:List AV),afZ v=true→bZ M O κ v a→bZ M' O' y7 v a
 | [],[],_,_=>by simp [bZ]
 | [],_::_,_,h=>by simp [bZ] at h
 | _::_,[],_,h=>by simp [bZ] at h
 | v::r,a::l,hs,h=>by
  simp only [afZ] at hs
  split at hs
  case h_2=>cases hs
  rename_i hv
  simp only [bZ] at h ⊢
  exact ⟨af9 v a hv h.1,VU r l hs h.2⟩
end
theorem VS.ext {R:Nat→Prop} {ι:VI} {H:WH} {M M':Heap} (s:VS R ι H M) (hn:M.next≤M'.next) (hg:∀ b,b < M.next→M'.get b=M.get b) (ok:M'.Ok):VS R ι H M'∧Stp H.length [] ι H M ι H M':=by
 have hk:Keeps M (own ι) M' (own ι):=⟨hn,λb hb ho=>⟨hg b hb,ho⟩⟩
 refine ⟨⟨λi j h=>⟨(s.lt i j h).1,Nat.lt_of_lt_of_le (s.lt i j h).2 hn⟩,s.inj,λi x hx=>?_,s.Dw,s.Dc,ok,λj h=>⟨Nat.lt_of_lt_of_le (s.res j h).1 hn,(s.res j h).2⟩⟩,⟨hk,.refl _ _,λ_ _ h=>h,λ_ _=>rfl,λ_ _=>rfl,λ_ _ _=>rfl,λ_ _ h=>h,λi j _ _ hj _=>?_,Nat.le_refl _⟩⟩
 ·rcases s.blk i x hx with h | ⟨j,h1,h2,h3⟩
  ·exact .inl h
  refine .inr ⟨j,h1, ?_,h3⟩
  rw [hg j (s.lt i j h1).2]
  exact h2.mono (hk.or R) (λ_=>.refl _ _) (λ_ h=>h)
 ·exact hg j (s.lt i j hj).2
theorem am2 {C:bU} {g:FuncId} {args as:List AV} {R:Nat→Prop} {ι:VI} {H:WH} {M:Heap} (s:VS R ι H M) (hv:bZ M (OR R ι) ι args as) {ms:List (Option Bool)} {ts:List AV} {v:AV}
  (h0:VG (TB ms (uK args ts) H).2 0 (qW (TB ms (uK args ts) H).1)=[]) (hs:vM v=true) (hspec:Spec C g (rnL (Dv []) (TB ms (uK args ts) H).1) [] v []) :
  ∃ a M',C g as M=some (a,M')∧VS R ι H M'∧Stp H.length [] ι H M ι H M'∧VL M' (OR R ι) ι v a:=by
 obtain ⟨Cv,k1,k2,k3⟩:=Ze ms (uK args ts) H ι M as s (bZ.retag _ _ _ hv)
 generalize TB ms (uK args ts) H=q at *
 obtain ⟨vs,H2⟩:=q
 simp only at h0 hspec k1 k2 k3
 obtain ⟨p1,p2,_⟩:=aer H2 0 (qW vs)
 rw [h0] at p1 p2
 let R':Nat→Prop:=λj=>R j∨(own Cv j∧¬ own (jf Cv []) j)
 have hsub:∀ j,OR R' (jf Cv []) j→OR R Cv j:=λj h=>by
  rcases h with h | h | h
  ·obtain ⟨b,_,h3,h4⟩:=F6 h
   exact .inl ⟨b,h3,h4⟩
  ·exact .inr h
  ·exact .inl h.1
 have hpick:=k1.pick p1 (R':=R') (λj h=>by
  rcases h with h | ⟨⟨i,q1,q2⟩,q3⟩
  ·exact ⟨(k1.res j h).1,λb _ hb=>(k1.res j h).2 b hb⟩
  ·exact ⟨(k1.lt i j q1).2,λb hb=>(nomatch hb)⟩) hsub
 have hargs:bZ M (OR R' (jf Cv [])) (jf Cv []) (rnL (Dv []) vs) as:=bZ.rn ⟨Nat.le_refl _,λb _ h=>⟨rfl,λk=>h (hsub b k)⟩⟩ (by have:=@J6;rw [← h0];exact J6) _ _ k3
 obtain ⟨a,M',J7,e,q1,q2,q3⟩:=hspec R' (jf Cv []) M as hpick hargs
 have hno:∀ b,¬ own (jf Cv []) b:=λb h=>by
  obtain ⟨c,hc,_⟩:=F6 h
  exact (nomatch hc)
 obtain ⟨e1,e2⟩:=s.ext q2.keep.next (λb hb=>(q2.keep.get b hb (hno b)).1) q1.okM
 exact ⟨a,M',e,e1,e2,af9 v a hs q3⟩
theorem am3 {C:bU} {g:FuncId} {args as:List AV} {R:Nat→Prop} {ι:VI} {H:WH} {M:Heap} (s:VS R ι H M) (hv:bZ M (OR R ι) ι args as) {tr:TS} {k:AV→WH→List Nat→TS→Prop} (h:amT C g args H tr k) :
  ∃ a M' bP v H' t mo,C g as M=some (a,M')∧VS R bP H' M'∧Stp H.length t ι H M bP H' M'∧VL M' (OR R bP) bP v a∧k v H' t mo:=by
 unfold amT at h
 split at h
 case h_2 =>
  rename_i ms ts v r
  simp only at h
  split at h
  case h_2=>exact h.elim
  rename_i e1 e2
  obtain ⟨mo,h⟩:=oU h
  obtain ⟨a,M',f1,f2,f3,f4⟩:=am2 s hv e1 e2 h.1
  exact ⟨a,M',ι,v,H,[],mo,f1,f2,f3,f4,h.2⟩
 case h_3=>exact h.elim
 rename_i ms m ts v out r
 obtain ⟨oQ,h1,h2,h3⟩:=Ze ms (uK args ts) H ι M as s (bZ.retag _ _ _ hv)
 generalize hr:TB ms (uK args ts) H=q at *
 obtain ⟨vs,H1⟩:=q
 simp only at h h1 h2 h3
 obtain ⟨Cv,k1,k2⟩:=TN [] m (VG H1 0 (qW vs)) H1 oQ M h1
 have k3:=bZ.step h1 k2 h3
 generalize Xu [] m (VG H1 0 (qW vs)) H1=H2 at *
 obtain ⟨p1,p2,_⟩:=aer H2 0 (qW vs)
 generalize VG H2 0 (qW vs)=p at *
 split at h
 case h_2=>exact h.elim
 rename_i ho
 have ho:=Nat.le_of_ble_eq_true ho
 obtain ⟨mo,hspec,hk⟩:=oU h
 have hl:∀ b,b∈p→b < H2.length:=λb hb=>by
  rcases p2 b hb with h | ⟨y,h⟩
  ·omega
  ·exact wX h
 let R':Nat→Prop:=λj=>R j∨(own Cv j∧¬ own (jf Cv p) j)
 have hsub:∀ j,OR R' (jf Cv p) j→OR R Cv j:=λj h=>by
  rcases h with h | h | h
  ·obtain ⟨b,_,h3,h4⟩:=F6 h
   exact .inl ⟨b,h3,h4⟩
  ·exact .inr h
  ·exact .inl h.1
 have hpick:=k1.pick p1 (R':=R') (λj h=>by
  rcases h with h | ⟨⟨i,q1,q2⟩,q3⟩
  ·exact ⟨(k1.res j h).1,λb _ hb=>(k1.res j h).2 b hb⟩
  ·refine ⟨(k1.lt i j q1).2,λb hb ha hj=>?_⟩
   have:=k1.inj i b j (.inr q2) ha q1 hj (.inl q2)
   subst this
   obtain ⟨k,hk⟩:=List.mem_iff_getElem?.1 hb
   exact q3 ⟨k,by simp only [jf,hk];exact hj,by simp only [jf,hk];exact q2⟩) hsub
 have hargs:bZ M (OR R' (jf Cv p)) (jf Cv p) (rnL (Dv p) vs) as:=bZ.rn ⟨Nat.le_refl _,λb _ h=>⟨rfl,λk=>h (hsub b k)⟩⟩ J6 _ _ k3
 obtain ⟨a,M',J7,e,q1,q2,q3⟩:=hspec R' (jf Cv p) M as hpick hargs
 rw [F5] at q2
 obtain ⟨u1,u2,u3⟩:=ard (R:=R) (R':=R') p1 hl ho (λj=>Iff.rfl) k1 q1 q2 (λb hb=>(p2 b hb).resolve_left (by omega)) (λk b hk ⟨x,hx⟩=>by
  rw [sP,hk] at hx
  obtain ⟨z,hz,_⟩:=Aw hx
  exact ⟨z,hz⟩)
 refine ⟨a,M',_,_,_,_,_,e,u1, ?_,u3 v a q3,hk⟩
 have:=(h2.trans k2 h2.next).trans u2 (Nat.le_trans h2.next k2.next)
 simpa using this
end Go.Proofs.YtohoggieaanllaaGreat
end
section
set_option linter.all false
set_option linter.unusedSimpArgs false
namespace Go.Proofs.YtohoggieaanllaaGreat
def BOk (C:bU) (f:FuncId) (b:Bt):Prop:=∀ (R:Nat→Prop) (ι:VI) (H:WH) (M:Heap) (args as:List AV) (d:Option Nat) (tr:TS) (k:AV→WH→List Nat→TS→Prop),VS R ι H M→bZ M (OR R ι) ι args as→wBt b d args H tr k →
 ∃ a M' bP v H' t mo,C f as M=some (a,M')∧VS R bP H' M'∧Stp H.length t ι H M bP H' M'∧VL M' (OR R bP) bP v a∧k v H' t mo
theorem aes {R:Nat→Prop} {d:Option Nat} {x:Option AV} {tr:TS} {k:AV→TS→Prop} (h:ovr d x tr k):∃ v u mo,x=some v∧k u mo∧∀ (M:Heap) (O:Nat→Prop) (κ:VI) (a:AV),VL M O κ v a→VL M O κ u a:=by
 have plain:∀ {tr},(match x with | some v=>k v tr | none=>False)→∃ v u mo,x=some v∧k u mo∧∀ (M:Heap) (O:Nat→Prop) (κ:VI) (a:AV),VL M O κ v a→VL M O κ u a:=λ{tr} h=>by
  cases x with
  | none=>exact h.elim
  | some v=>exact ⟨v,v,tr,rfl,h,λ_ _ _ _ h=>h⟩
 unfold ovr at h
 split at h
 ·split at h
  ·obtain ⟨mo,h⟩:=oU h
   exact ⟨_,_,_,h.1,h.2,λ_ _ _ _ h=>h⟩
  ·exact plain h
 ·split at h
  ·split at h
   ·rename_i v
    exact ⟨v,_,_,rfl,h,λ_ _ _ _ h=>VL.retag _ _ _ h⟩
   ·exact h.elim
  ·exact plain h
 ·exact plain h
theorem Zf {d:Option Nat} {n:Nat} {cs:List AV} {tr:TS} {k:Nat→List AV→TS→Prop} (h:ak8 d n cs tr k):∃ mo,k n cs mo:=by
 unfold ak8 at h
 split at h
 ·split at h
  ·obtain ⟨_,rfl,h⟩:=oU h
   obtain ⟨_,rfl,h⟩:=oU h
   exact ⟨_,h⟩
  ·exact ⟨_,h⟩
 ·exact ⟨_,h⟩
theorem Ji {M:Heap} {O:Nat→Prop} {κ:VI}:∀ {l r:List AV},l.all AV.flat=true→bZ M O κ l r→bZ M O VI.none l r
 | [],[],_,_=>by simp [bZ]
 | v::l,a::r,h,e=>by
  simp only [List.all_cons,Bool.and_eq_true] at h
  simp only [bZ] at e ⊢
  refine ⟨?_,Ji h.2 e.2⟩
  have h1:=h.1
  have e1:=e.1
  cases v with
  | ptr p=>cases p<;>simp_all [AV.flat,VL]
  | slice p=>cases p<;>simp_all [AV.flat,VL]
  | map p=>cases p<;>simp_all [AV.flat,VL]
  | func f cs =>
   cases cs with
   | nil =>
    simp only [VL] at e1 ⊢
    obtain ⟨cs',rfl,e1⟩:=e1
    refine ⟨cs',rfl, ?_⟩
    cases cs' with
    | nil=>simp [bZ]
    | cons _ _=>simp [bZ] at e1
   | cons _ _=>simp [AV.flat] at h1
  | _=>simp_all [AV.flat,VL]
 | [],_::_,_,e=>by simp [bZ] at e
 | _::_,[],_,e=>by simp [bZ] at e
theorem F7 (z:List AV):∀ n,(kN n z).length=n * z.length
 | 0=>by simp [kN]
 | n+1=>by simp only [kN,List.length_append,F7 z n,Nat.add_mul,Nat.one_mul];omega
section
variable {R:Nat→Prop} {ι:VI} {H:WH} {M:Heap} (s:VS R ι H M) {ρ σ:Nat→AV} (h:∀ t,VL M (OR R ι) ι (ρ t) (σ t))
include s h
theorem ZN {sz:Nat}:∀ {ps:List (Nat×AX)} {cs cs' l:List AV},(ps.all λp=>p.2.bD)=true→bZ M (OR R ι) ι cs cs' →
  uU cs (ps.map λp=>(p.1 * sz,sz,(p.2.sub ρ).ev []))=some l→∃ l',uU cs' (ps.map λp=>(p.1 * sz,sz,(p.2.sub σ).ev []))=some l'∧bZ M (OR R ι) ι l l'
 | [],cs,cs',l,_,hr,hf=>by
  simp only [List.map_nil,uU,Option.some.injEq] at hf ⊢
  subst hf
  exact ⟨cs',rfl,hr⟩
 | p::ps,cs,cs',l,hc,hr,hf=>by
  simp only [List.all_cons,Bool.and_eq_true] at hc
  simp only [List.map_cons,uU] at hf ⊢
  split at hf
  case h_2=>cases hf
  rename_i x hx
  split at hf
  case isFalse=>cases hf
  rename_i hle
  obtain ⟨x',hx',hxr⟩:=(fT h hc.1).cells hx
  rw [hx']
  simp only
  rw [if_pos (by rw [← hxr.length,← hr.length];exact hle)]
  refine ZN hc.2 ?_ hf
  exact ((hr.take _).append hxr).append (hr.drop _)
theorem auU {d:Option Nat} {o:Ng} (hc:o.bD=true) {tr:TS} {k:nT→(Nat→AV)→TS→Prop} (hv:wK d (o.sub ρ) tr k) :
  ∃ c sl mk c' sl' mkA mo,k (.cells c false sl) mk mo∧aK (o.sub σ) []=some (.cells c' false sl',mkA)∧bZ M (OR R ι) (if sl then VI.none else ι) c c'∧(sl=false→sl'=false) ∧
   ∀ (M':Heap) (O:Nat→Prop) (κ:VI) (b j:Nat),κ b=some j→κ.dim b=some (c.length,c'.length)→VL M' O κ (mk b) (mkA.val j):=by
 have aku:∀ (c c':List AV) (M':Heap) (O:Nat→Prop) (κ:VI) (b j:Nat),κ b=some j→κ.dim b=some (c.length,c'.length)→VL M' O κ (.ptr (some (b,0))) (Mk.ptr.val j):=λc c' M' O κ b j h1 _=>by
  simp only [Mk.val,VL]
  exact ⟨j,h1,rfl⟩
 have am4:∀ (c c':List AV) (sz n:Nat) (ex:Bool),c.length=n * sz→n * sz≤c'.length→∀ (M':Heap) (O:Nat→Prop) (κ:VI) (b j:Nat),κ b=some j→κ.dim b=some (c.length,c'.length)→VL M' O κ (.acc b 0 sz n true) ((Mk.slice sz n n ex).val j):=λc c' sz n ex h0 hL M' O κ b j h1 h2=>by
  simp only [Mk.val,VL]
  exact ⟨_,_,_,_,rfl,Nat.le_refl _,(λh=>by cases h),λ_=>rfl,_,_,h2,by omega,λ_=>⟨trivial,h0.symm⟩,.inl ⟨j,h1,.inl ⟨rfl,by omega⟩⟩⟩
 cases o with
 | alloc zero =>
  have hz:bZ M (OR R ι) ι zero zero:=bZ.const zero hc
  simp only [Ng.sub,wK] at hv
  split at hv
  ·split at hv
   ·rename_i t r _
    exact ⟨_,false,_,zero,false,.ptr,_,hv,rfl,bZ.retag _ _ _ hz,(λ_=>rfl),aku _ _⟩
   ·exact ⟨_,false,_,zero,false,.ptr,_,hv,rfl,hz,(λ_=>rfl),aku _ _⟩
  ·exact ⟨_,false,_,zero,false,.ptr,_,hv,rfl,hz,(λ_=>rfl),aku _ _⟩
 | box x =>
  have hx:=fT h hc
  simp only [Ng.sub,wK] at hv
  split at hv
  case h_2=>exact hv.elim
  rename_i cs hcs
  obtain ⟨cs',h1,h2⟩:=hx.cells hcs
  exact ⟨cs,false,_,cs',false,.ptr,_,hv,by simp only [Ng.sub,aK,h1,Option.map_some],h2,(λ_=>rfl),aku _ _⟩
 | buildSlice sz len zero parts =>
  simp only [Ng.bD,Bool.and_eq_true] at hc
  simp only [Ng.sub,wK,List.map_map] at hv
  split at hv
  case h_2=>exact hv.elim
  rename_i cs hcs
  split at hv
  case h_2=>exact hv.elim
  rename_i hz
  have hz:=Nat.eq_of_beq_eq_true hz
  obtain ⟨cs',h1,h2⟩:=ZN s h hc.2 (bZ.kN (M:=M) (O:=OR R ι) (κ:=ι) hc.1 len) hcs
  have hlen:∀ {l:List (Nat×Nat×AV)} {c c':List AV},uU c l=some c'→c'.length=c.length:=by
   intro l
   induction l with
   | nil=>intro c c' e;simp only [uU,Option.some.injEq] at e;rw [e]
   | cons q l ih =>
    intro c c' e
    simp only [uU] at e
    split at e
    case h_2=>cases e
    split at e
    case isFalse=>cases e
    rename_i hle
    rw [ih e]
    simp only [List.length_append,List.length_take,List.length_drop]
    omega
  have hl:=hlen hcs
  rw [F7,hz] at hl
  refine ⟨cs,false,_,cs',false,.slice sz len len true,_,hv, ?_,h2,(λ_=>rfl),am4 _ _ _ _ _ hl (by rw [← h2.length,hl];exact Nat.le_refl _)⟩
  simp only [Ng.sub,aK,List.map_map]
  have e:(λp:Nat×AV=>(p.1 * sz,sz,p.2))=λp=>(p.1 * sz,sz,p.2):=rfl
  rw [show (uU (kN len zero) (parts.map ((λp=>(p.1 * sz,sz,p.2.ev [])) ∘ λp=>(p.1,p.2.sub σ))))=some cs' from h1]
  rfl
 | makeSlice sz bytes zero l c =>
  simp only [Ng.bD,Bool.and_eq_true] at hc
  have hl:=fT h hc.1.2
  have hcc:=fT h hc.2
  simp only [Ng.sub,wK] at hv
  split at hv
  case h_2=>exact hv.elim
  rename_i d' n cs r
  split at hv
  case h_2=>exact hv.elim
  split at hv
  case h_2=>exact hv.elim
  rename_i hz hfl
  obtain ⟨_,⟨e1,e2,e3,e4⟩,hv⟩:=oU hv
  obtain ⟨_,rfl,hk⟩:=oU hv
  rw [e1] at hl
  rw [e2] at hcc
  have hz:=Nat.eq_of_beq_eq_true hz
  refine ⟨_,true,_,kN n zero,false,.slice sz n n true,_,hk, ?_, ?_,(λh=>by cases h),am4 _ _ _ _ _ (by rw [F7,hz]) (by rw [F7,hz];exact Nat.le_refl _)⟩
  ·simp only [Ng.sub,aK,hl.eq rfl,hcc.eq rfl,K_]
   rw [if_pos (by simp;omega)]
   rfl
  ·exact Ji (κ:=ι) (by
    have:∀ n,(kN n zero).all AV.flat=true:=λn=>by
     induction n with
     | zero=>rfl
     | succ n ih=>simp only [kN,List.all_append,hfl,ih,Bool.and_self]
    exact this n) (bZ.kN hc.1.1 n)
 | rG x =>
  have hx:=fT h hc
  simp only [Ng.sub,wK] at hv
  split at hv
  case h_2=>exact hv.elim
  rename_i t ht
  obtain ⟨_,h1,h2⟩:=oU hv
  rw [ht] at hx
  refine ⟨_,true,_,t.map λb=>.int .u8 b.toNat,true,.slice 1 t.length t.length false,_,h2,by simp only [Ng.sub,aK,hx.eq rfl,if_pos h1], ?_,(λh=>by cases h),am4 _ _ _ _ _ (by simp) (by simp)⟩
  have:∀ t:List UInt8,bZ M (OR R ι) VI.none (t.map λb=>AV.int .u8 b.toNat) (t.map λb=>AV.int .u8 b.toNat):=λt=>by
   induction t with
   | nil=>simp [bZ]
   | cons b t ih=>simp only [List.map_cons,bZ,VL];exact ⟨trivial,ih⟩
  exact this t
 | makeMap=>simp [Ng.sub,wK] at hv
end
theorem BL.of {R:Nat→Prop} {ι:VI} {M:Heap} {c c':List AV} {sl sl':Bool} (hr:bZ M (OR R ι) (if sl then VI.none else ι) c c') (hs:sl=false→sl'=false):BL M (OR R ι) ι (some (c.length,c'.length)) (.cells c false sl) (some (.cells c' false sl')) :=
 ⟨c',[],false,sl',c'.length,by simp,λ_=>rfl,rfl,by simp,hr,hs⟩
theorem arf {c cs c':List AV} {o:Nat} (h:Xv c o cs=some c'):o+cs.length≤c.length∧c'=c.take o++cs++c.drop (o+cs.length)∧c'.length=c.length:=by
 unfold Xv at h
 split at h
 case isFalse=>cases h
 rename_i hle
 obtain rfl:=Option.some.inj h
 refine ⟨hle,rfl, ?_⟩
 simp only [List.length_append,List.length_take,List.length_drop]
 omega
theorem am5 {R:Nat→Prop} {ι:VI} {H:WH} {M:Heap} (s:VS R ι H M) {b j o:Nat} (hb:ι b=some j) {c:List AV} {sl:Bool} (hg:dS H b=some (.cells c false sl)) {cs cs' c':List AV} (hcs:bZ M (OR R ι) (if sl then VI.none else ι) cs cs') (h:Xv c o cs=some c') :
  ∃ M',M.write j o cs'=some M'∧VS R ι (iU H b (some (.cells c' false sl))) M'∧Stp H.length [b] ι H M ι (iU H b (some (.cells c' false sl))) M':=by
 obtain ⟨h1,h2,h3⟩:=arf h
 obtain ⟨d,t,ro',sl',L,g1,g2,g3,g4,g5⟩:=s.at hb hg
 obtain ⟨rfl,_⟩:=g2 rfl
 have hl:=g5.length
 have hl':=hcs.length
 have e:(d++t).take o++cs'++(d++t).drop (o+cs'.length)=(d.take o++cs'++d.drop (o+cs'.length))++t:=by
  rw [List.take_append_of_le_length (by omega),List.drop_append_of_le_length (by omega)]
  simp only [List.append_assoc]
 have hbl:BL M (OR R ι) ι (ι.dim b) (.cells c' false sl) (some (.cells ((d++t).take o++cs'++(d++t).drop (o+cs'.length)) false sl')):=by
  refine ⟨d.take o++cs'++d.drop (o+cs'.length),t,false,sl',L,by rw [e],λ_=>rfl,by rw [h3];exact g3, ?_, ?_,λh=>s.auR hb hg g1 h⟩
  ·simp only [List.length_append,List.length_take,List.length_drop] at g4 ⊢
   omega
  ·rw [h2,hl']
   exact ((g5.take o).append hcs).append (g5.drop _)
 obtain ⟨q1,q2⟩:=s.put hb hg hbl
 refine ⟨_, ?_,q1,q2⟩
 unfold Heap.write
 rw [g1]
 simp only
 rw [if_pos (by simp only [List.length_append];omega)]
theorem alf {R:Nat→Prop} {ι:VI} {H:WH} {M:Heap} (s:VS R ι H M) {n:Nat} {a v a' v':AV} (ha:VL M (OR R ι) ι a a') (hv:VL M (OR R ι) ι v v') {tr:TS} {k:AV→WH→List Nat→TS→Prop} {C:bU} {B:FuncId→Option Bt} {d:Option Nat}
  (h:wN C B d (.store n (.c a) (.c v)) H tr k):∃ r M' bP u H' t mo,Zm n a' v' M=some (r,M')∧VS R bP H' M'∧Stp H.length t ι H M bP H' M'∧VL M' (OR R bP) bP u r∧k u H' t mo:=by
 simp only [wN,AX.ev] at h
 split at h
 case h_2=>exact h.elim
 rename_i b off cs hcs
 split at h
 case h_2=>exact h.elim
 rename_i hn
 have hn:=Nat.eq_of_beq_eq_true hn
 split at h
 case h_2=>exact h.elim
 split at h
 case h_2=>exact h.elim
 rename_i c sl hg
 simp only [VL] at ha
 obtain ⟨j,hj,rfl⟩:=ha
 obtain ⟨cs',e1,e2⟩:=hv.cells hcs
 have fin:∀ (oQ:VI) (H1:WH) (x c':List AV) (r:TS),VS R oQ H1 M→Stp H.length [] ι H M oQ H1 M→H1.length=H.length→dS H1 b=some (.cells c false sl)→bZ M (OR R oQ) (if sl then VI.none else oQ) x cs'→Xv c off x=some c'→k (.tuple []) (iU H1 b (some (.cells c' false sl))) [b] r →
   ∃ r M' bP u H' t mo,Zm n (.ptr (some (j,off))) v' M=some (r,M')∧VS R bP H' M'∧Stp H.length t ι H M bP H' M'∧VL M' (OR R bP) bP u r∧k u H' t mo:=by
  intro oQ H1 x c' r s1 k1 hlen hg1 hx hw hk
  have hj1:=((k1.le b (wX hg)).1 j hj).1
  obtain ⟨M',q1,q2,q3⟩:=am5 s1 hj1 hg1 hx hw
  refine ⟨.tuple [],M',oQ,.tuple [],_,[b],r, ?_,q2, ?_,by simp [VL,bZ],hk⟩
  ·simp only [Zm,e1]
   rw [if_pos (by rw [← e2.length];exact hn),q1]
   rfl
  ·have:=k1.trans q3 (by omega)
   simpa using this
 split at h
 ·split at h
  ·split at h
   case h_2=>exact h.elim
   rename_i c' hw
   exact fin ι H cs c' _ s (.refl _ _ _ _ _ (Nat.le_refl _)) rfl hg e2 hw h
  ·obtain ⟨_,h⟩:=oU h
   exact fin ι H cs _ _ s (.refl _ _ _ _ _ (Nat.le_refl _)) rfl hg e2 h.1 h.2
 ·split at h
  case h_2=>exact h.elim
  rename_i p hp
  split at h
  ·exact h.elim
  rename_i hb
  obtain ⟨u1,u2⟩:=s.alb p.2 (zT (λv p=>yE 5 true v p) _ _ hp)
  have hx:=aeo s hp e2
  have hg1:dS (Lj H p.2) b=some (.cells c false true):=by
   rw [J5,hb]
   exact hg
  split at h
  ·split at h
   case h_2=>exact h.elim
   rename_i c' hw
   exact fin _ _ p.1 c' _ u1 u2 (yD _ _) hg1 hx hw h
  ·obtain ⟨_,h⟩:=oU h
   exact fin _ _ p.1 _ _ u1 u2 (yD _ _) hg1 hx h.1 h.2
theorem auV {C:bU} {B:FuncId→Option Bt} (hB:∀ f b,B f=some b→BOk C f b) {R:Nat→Prop} {ι:VI} {H:WH} {M:Heap} (s:VS R ι H M) {ρ σ:Nat→AV} (h:∀ t,VL M (OR R ι) ι (ρ t) (σ t)) {d:Option Nat} {o:Hw} (hc:o.bD=true) {tr:TS} {k:AV→WH→List Nat→TS→Prop}
  (hk:wN C B d (o.sub ρ) H tr k):∃ a M' bP v H' t mo,aN C (o.sub σ) [] M=some (a,M')∧VS R bP H' M'∧Stp H.length t ι H M bP H' M'∧VL M' (OR R bP) bP v a∧k v H' t mo:=by
 cases o with
 | store n a v =>
  simp only [Hw.bD,Bool.and_eq_true] at hc
  exact alf s (fT h hc.1) (fT h hc.2) (C:=C) (B:=B) (d:=d) (a:=(a.sub ρ).ev []) (v:=(v.sub ρ).ev []) (by simpa only [Hw.sub,wN,AX.ev] using hk)
 | call f args =>
  simp only [Hw.bD,Bool.and_eq_true] at hc
  have hf:=fT h hc.1
  have ha:=Y_ h hc.2
  simp only [Hw.sub,wN] at hk
  split at hk
  case h_2=>exact hk.elim
  rename_i g caps hg
  rw [hg] at hf
  simp only [VL] at hf
  obtain ⟨azy,hf,awN⟩:=hf
  have hargs:=ha.append awN
  simp only [Hw.sub,aN,afA,hf]
  split at hk
  ·rename_i bt hbt
   obtain ⟨a,M',bP,v,H',tt,mo,q1,q2,q3,q4,q5⟩:=hB g bt hbt R ι H M _ _ d tr _ s hargs hk
   exact ⟨a,M',bP,v,H',tt,mo,q1,q2,q3,q4,q5⟩
  ·exact am3 s hargs hk
 | append sz bytes b x =>
  simp only [Hw.bD,Bool.and_eq_true] at hc
  have hs:=fT h hc.1
  have hx:=fT h hc.2
  simp only [Hw.sub,wN] at hk
  split at hk
  case h_2=>exact hk.elim
  rename_i m new S hel
  split at hk
  case h_2=>exact hk.elim
  rename_i len old H' t hbase
  obtain ⟨_,hk⟩:=Zf hk
  obtain ⟨mo,hf,hk⟩:=oU hk
  obtain ⟨e1,e2,cs',e3,e4⟩:=VP s hx hel
  obtain ⟨u1,u2⟩:=s.alb S (NZ hel)
  obtain ⟨a',M',bP,q1,q2,q3,q4⟩:=ac6 u1 (VL.step s u2 hs) e4 e2 hbase hf
  refine ⟨a',M',bP,_,_,t,mo, ?_,q2, ?_,q4,hk⟩
  ·simp only [Hw.sub,aN,e1,if_true,e3,Option.bind_some]
   exact q1
  ·rw [yD] at q3
   have:=u2.trans q3 (Nat.le_refl _)
   simpa using this
 | yZ x =>
  have hx:=fT h hc
  simp only [Hw.sub,wN] at hk
  split at hk
  case h_2=>exact hk.elim
  rename_i b sz n hX
  split at hk
  case h_2=>exact hk.elim
  rename_i c sl hg
  split at hk
  case h_2=>exact hk.elim
  rename_i am6
  rw [hX] at hx
  have hx0:=hx
  obtain ⟨k1,k2,p,s',cap,ex,ha,k3,k4,k5⟩:=VL.zu s hx hg
  rw [ha] at hx0
  rcases k5 with ⟨j,c',t,ro',sl',L,g1,g2,g3,g4,g5,g6,rfl,g7⟩ | ⟨e,_⟩
  ·obtain ⟨rfl,_⟩:=g3 rfl
   have g6':bZ M (OR R ι) VI.none c c':=by
    cases sl with
    | true=>exact g6
    | false=>exact Ji (by simpa using am6) g6
   obtain ⟨r1,r2⟩:=s.put g1 hg (x:=.cells c false true) (y:=.cells (c'++t) false true) ⟨c',t,false,true,L,rfl,λ_=>rfl,g4,g5,g6',λh=>by cases h⟩
   refine ⟨_,_,ι,_,_,[b],_, ?_,r1,r2,VL.step s r2 hx0,hk⟩
   simp only [Hw.sub,aN,ha,Zn]
   rw [if_neg (by omega),g2]
  ·cases e
 | _=>simp [Hw.sub,wN] at hk
end Go.Proofs.YtohoggieaanllaaGreat
end
section
set_option linter.all false
set_option linter.unusedSimpArgs false
namespace Go.Proofs.YtohoggieaanllaaGreat
def zw (R:Nat→Prop) (ι:VI) (M:Heap) (l lA:Fast):Prop:=∀ t,VL M (OR R ι) ι (look l t) (look lA t)
theorem zw.step {R:Nat→Prop} {t:List Nat} {ι bP:VI} {H H':WH} {M M':Heap} (s:VS R ι H M) (k:Stp H.length t ι H M bP H' M') {l lA:Fast} (h:zw R ι M l lA):zw R bP M' l lA:=λt=>VL.step s k (h t)
theorem zy {u t:Nat} {v:AV} {r:Fast}:look ((u,v)::r) t=if u=t then v else look r t:=by
 simp only [look]
 cases h:Nat.beq u t with
 | true=>simp [Nat.eq_of_beq_eq_true h]
 | false =>
  have:u≠t:=λe=>by subst e;simp at h
  simp [this]
theorem zU (n:Nat) (d:Option Nat) (v:AV) (l:Fast) (t:Nat):look (pW n d v l) t=if d=some t∧t < n then v else look l t:=by
 cases d with
 | none=>simp [pW]
 | some d =>
  simp only [pW]
  cases hb:Nat.blt d n with
  | true =>
   have hd:d < n:=by simpa [Nat.blt_eq] using hb
   simp only [zy]
   by_cases he:d=t
   ·subst he
    simp [hd]
   ·simp [he]
  | false =>
   have hd:¬ d < n:=λh=>by
    have:Nat.blt d n=true:=by simpa [Nat.blt_eq] using h
    rw [hb] at this
    cases this
   simp only
   rw [if_neg]
   rintro ⟨h1,h2⟩
   obtain rfl:=Option.some.inj h1
   exact hd h2
theorem VL.pW {M:Heap} {O:Nat→Prop} {κ:VI} {l lA:Fast} {n:Nat} {d:Option Nat} {v a:AV} {t:Nat} (h:VL M O κ (look l t) (look lA t)) (hv:VL M O κ v a):VL M O κ (look (Proofs.YtohoggieaanllaaGreat.pW n d v l) t) (look (Proofs.YtohoggieaanllaaGreat.pW n d a lA) t):=by
 rw [zU,zU]
 split
 ·exact hv
 ·exact h
theorem zw.put {R:Nat→Prop} {ι:VI} {M:Heap} {l lA:Fast} (h:zw R ι M l lA) (n:Nat) (d:Option Nat) {v a:AV} (hv:VL M (OR R ι) ι v a):zw R ι M (pW n d v l) (pW n d a lA):=λt=>VL.pW (h t) hv
theorem VL.unit {M:Heap} {O:Nat→Prop} {κ:VI}:VL M O κ (.tuple []) (.tuple []):=by simp [VL,bZ]
def auW (l l':Fast):Prop:=∀ t,look l' t=look l t∨∃ b,look l t=.bool b∧look l' t=.bool b
theorem auW.eq {l l':Fast} (h:auW l l') (t:Nat):look l' t=look l t:=(h t).elim id λ⟨b,h1,h2⟩=>by rw [h1,h2]
theorem ac8:∀ {H:WH} {b:Nat} {x:nT},dS H b=some x→iU H b (some x)=H
 | [],_,_,h=>by cases h
 | _::_,0,_,h=>by
  simp only [dS] at h
  subst h
  rfl
 | _::r,i+1,_,h=>by
  simp only [dS] at h
  simp only [iU,ac8 h]
theorem Ll {k:Fast→WH→TS→Prop} {R:Type}:∀ {f:Option R} (T:Tc f) (l:Fast) (H:WH),aej k T l H→∃ l' mo,(∀ t,look l' t=look l t)∧k l' H mo
 | _,.bd kk,l,H,h=>by
  obtain ⟨x,q,h⟩:=h
  exact Ll (kk x q) l H h
 | _,.gd kk,l,H,h=>by
  obtain ⟨q,h⟩:=h
  exact Ll (kk q) l H h
 | _,.ite (b:=b) x y,l,H,h=>by
  have hb:b=true∨b=false:=by cases b<;>simp
  rcases hb with hb | hb
  ·exact Ll (x hb) l H (h.1 hb)
  ·exact Ll (y hb) l H (h.2 hb)
 | _,.rv t u _ r,l,H,h=>by
  obtain ⟨e,h⟩:=h
  obtain ⟨l',mo,h1,h2⟩:=Ll r ((t,u)::l) H h
  refine ⟨l',mo,λs=>?_,h2⟩
  rw [h1,zy]
  split
  ·rename_i e'
   subst e'
   exact e.symm
  ·rfl
 | _,.rb b c _ r,l,H,h=>by
  simp only [aej] at h
  split at h
  case h_2=>exact h.elim
  rename_i c0 ro sl hg
  obtain ⟨rfl,h⟩:=h
  rw [ac8 hg] at h
  exact Ll r l H h
 | _,.leaf x v,l,H,h=>⟨l,_,λ_=>rfl,h⟩
 | _,.xQ x v Q q,l,H,h=>⟨l,_,λ_=>rfl,h⟩
 | _,.fail,l,H,h=>⟨l,_,λ_=>rfl,h⟩
 | _,.br _ _ _,l,H,h=>⟨l,_,λ_=>rfl,h⟩
 | _,.ob _ _,l,H,h=>⟨l,_,λ_=>rfl,h⟩
 | _,.v _ _ _,l,H,h=>⟨l,_,λ_=>rfl,h⟩
 | _,.z _ _ _,l,H,h=>⟨l,_,λ_=>rfl,h⟩
 | _,.ap _ _ _ _,l,H,h=>⟨l,_,λ_=>rfl,h⟩
 | _,.st _ _,l,H,h=>⟨l,_,λ_=>rfl,h⟩
 | _,.call _ _ _ _ _ _,l,H,h=>⟨l,_,λ_=>rfl,h⟩
 | _,.lp _ _ _ _ _ _ _,l,H,h=>⟨l,_,λ_=>rfl,h⟩
 | _,.jn _ _ _ _ _ _ _ _,l,H,h=>⟨l,_,λ_=>rfl,h⟩
 | _,.sk _,l,H,h=>⟨l,_,λ_=>rfl,h⟩
 | _,.cb _ _ _ _,l,H,h=>⟨l,_,λ_=>rfl,h⟩
 | _,.kl _ _,l,H,h=>⟨l,_,λ_=>rfl,h⟩
 | _,.er _,l,H,h=>⟨l,_,λ_=>rfl,h⟩
theorem Ay {l:Fast} {H:WH} {tr:TS} {k:Fast→WH→TS→Prop} (h:Q0 l H tr k):∃ l' mo,(∀ t,look l' t=look l t)∧k l' H mo:=Ll tr.tr l H h
theorem aiu {g:Option (Nat×Bool)} {l:Fast} {tr:TS} {yes no:Fast→TS→Prop} (h:wGd g l tr yes no):∃ l' mo,(∀ t,look l' t=look l t)∧((jF g l=some true∧yes l' mo)∨(jF g l=some false∧no l' mo)):=by
 have self:∀ t,look l t=look l t:=λ_=>rfl
 have like:∀ {t b},look l t=.bool b→∀ u,look ((t,.bool b)::l) u=look l u:=λ{t b} hb u=>by
  rw [zy]
  split
  ·rename_i e
   subst e
   exact hb.symm
  ·rfl
 unfold wGd at h
 split at h
 ·exact ⟨l,tr,self,.inl ⟨rfl,h⟩⟩
 ·rename_i t want
  split at h
  ·rename_i c hc
   have plain:∀ tr,wIf c want (yes l tr) (no l tr)→∃ l' mo,(∀ t,look l' t=look l t)∧((jF (some (t,want)) l=some true∧yes l' mo)∨(jF (some (t,want)) l=some false∧no l' mo)):=λtr h=>by
    refine ⟨l,tr,self, ?_⟩
    simp only [jF,hc]
    cases c<;>cases want<;>simp_all [wIf]
   split at h
   ·rename_i R0 f0 t' bq f g a b
    cases hb:Nat.beq t t' with
    | true =>
     rw [hb] at h
     simp only at h
     obtain ⟨hcb,h⟩:=h
     subst hcb
     cases c with
     | true =>
      have h:=h.1 rfl
      cases want with
      | true=>exact ⟨_,_,like hc,.inl ⟨by simp [jF,hc],h⟩⟩
      | false=>exact ⟨_,_,like hc,.inr ⟨by simp [jF,hc],h⟩⟩
     | false =>
      have h:=h.2 rfl
      cases want with
      | true=>exact ⟨_,_,like hc,.inr ⟨by simp [jF,hc],h⟩⟩
      | false=>exact ⟨_,_,like hc,.inl ⟨by simp [jF,hc],h⟩⟩
    | false =>
     rw [hb] at h
     exact plain _ h
   ·exact plain _ h
  ·rename_i vs hc
   exact ⟨l,tr,self,.inr ⟨by simp [jF,hc],h⟩⟩
  ·exact h.elim
theorem Iy {R:Nat→Prop} {ι:VI} {M:Heap} {l lA:Fast} (h:zw R ι M l lA) {g:Option (Nat×Bool)} {w:Bool} (hw:jF g l=some w):jF g lA=some w:=by
 cases g with
 | none=>exact hw
 | some g =>
  obtain ⟨t,want⟩:=g
  have ht:=h t
  simp only [jF] at hw ⊢
  generalize look l t=X at *
  cases X<;>simp only at hw<;>first | (cases hw;done) | skip
  ·rw [ht.eq rfl]
   exact hw
  ·simp only [VL] at ht
   obtain ⟨cs',e,_⟩:=ht
   rw [e]
   exact hw
theorem Qe {C:bU} {B:FuncId→Option Bt} (hB:∀ f b,B f=some b→BOk C f b) {R:Nat→Prop} {n:Nat}:∀ (ops:List xP) (l lA:Fast) (H:WH) (M:Heap) (ι:VI) (tr:TS) (k:Fast→WH→TS→Prop),VS R ι H M→zw R ι M l lA→(ops.all λo=>o.op.bD)=true →
  af0 C B n ops l H tr k→∃ zo M' bP l' H' mo t,Tz C n ops lA M=some (zo,M')∧VS R bP H' M'∧Stp H.length t ι H M bP H' M'∧zw R bP M' l' zo∧k l' H' mo
 | [],l,lA,H,M,ι,tr,k,s,he,hc,h=>⟨lA,M,ι,l,H,tr,[],rfl,s,.refl _ _ _ _ _ (Nat.le_refl _),he,h⟩
 | o::r,l,lA,H,M,ι,tr,k,s,he,hc,h=>by
  simp only [List.all_cons,Bool.and_eq_true] at hc
  simp only [af0] at h
  obtain ⟨l0,tr0,hl0,h⟩:=Ay h
  have he:zw R ι M l0 lA:=λt=>by rw [hl0 t];exact he t
  obtain ⟨l1,tr1,hl,h⟩:=aiu h
  have he1:zw R ι M l1 lA:=λt=>by rw [hl t];exact he t
  rcases h with ⟨hw,h⟩ | ⟨hw,h⟩
  ·obtain ⟨l2,tr2,hl2,h⟩:=Ay h
   have he1:zw R ι M l2 lA:=λt=>by rw [hl2 t];exact he1 t
   simp only [Tz,Iy he hw]
   cases ho:o.op with
   | p op =>
    rw [ho] at h hc
    simp only at h
    obtain ⟨v,u,tr2,h1,h2,h3⟩:=aes (R:=R) h
    obtain ⟨a,h4,h5⟩:=amX he1 hc.1 h1
    obtain ⟨zo,M',bP,l',H',mo,t,q1,q2⟩:=Qe hB r _ _ H M ι tr2 k s (he1.put n o.dst (h3 _ _ _ _ h5)) hc.2 h2
    refine ⟨zo,M',bP,l',H',mo,t, ?_,q2⟩
    simp only [Dt.sub,Tg,h4,Option.map_some,force_eq]
    exact q1
   | l op =>
    rw [ho] at h hc
    simp only at h
    obtain ⟨v,u,tr2,h1,h2,h3⟩:=aes (R:=R) h
    obtain ⟨a,h4,h5⟩:=ac5 s he1 hc.1 h1
    obtain ⟨zo,M',bP,l',H',mo,t,q1,q2⟩:=Qe hB r _ _ H M ι tr2 k s (he1.put n o.dst (h3 _ _ _ _ h5)) hc.2 h2
    refine ⟨zo,M',bP,l',H',mo,t, ?_,q2⟩
    simp only [Dt.sub,Tg,h4,Option.map_some,force_eq]
    exact q1
   | k op =>
    rw [ho] at h hc
    simp only at h
    obtain ⟨c,sl,mk,c',sl',mkA,tr2,h1,h2,h3,hss,h4⟩:=auU s he1 hc.1 h
    obtain ⟨s1,k1⟩:=s.push (BL.of (sl':=sl') h3 hss)
    have hv:=h4 (M.push (.cells c' false sl')) (OR R (ι.add H.length M.next (c.length,c'.length))) (ι.add H.length M.next (c.length,c'.length)) H.length M.next (by simp [VI.add,setAt]) (by simp [VI.add,setAt])
    obtain ⟨zo,M',bP,l',H',mo,t,q1,q2,q3,q4⟩:=Qe hB r _ _ _ _ _ tr2 k s1 ((he1.step s k1).put n o.dst hv) hc.2 h1
    refine ⟨zo,M',bP,l',H',mo,t, ?_,q2, ?_,q4⟩
    ·simp only [Dt.sub,Tg,h2,Option.map_some,force_eq]
     exact q1
    ·have:=k1.trans q3 k1.next
     simpa using this
   | n op =>
    rw [ho] at h hc
    simp only at h
    obtain ⟨a,M1,oQ,v,H1,t1,tr2,h1,h2,h3,h4,h5⟩:=auV hB s he1 hc.1 h
    obtain ⟨zo,M',bP,l',H',mo,t,q1,q2,q3,q4⟩:=Qe hB r _ _ _ _ _ tr2 k h2 ((he1.step s h3).put n o.dst h4) hc.2 h5
    refine ⟨zo,M',bP,l',H',mo,t1++t, ?_,q2,h3.trans q3 h3.next,q4⟩
    simp only [Dt.sub,Tg,h1,force_eq]
    exact q1
  ·simp only [Tz,Iy he hw]
   exact Qe hB r _ _ H M ι tr1 k s (he1.put n o.dst VL.unit) hc.2 h
theorem VW:∀ (k i:Nat),dS (holes k) i=none
 | 0,i=>rfl
 | k+1,0=>rfl
 | k+1,i+1=>VW k i
theorem Qf:∀ k,(holes k).length=k
 | 0=>rfl
 | k+1=>by simp [holes,Qf k]
def VI.room (ι:VI) (a b nk:Nat):VI:=⟨λi=>if a≤i∧i < a+nk then some (b+(i - a)) else ι i,λi=>if a≤i∧i < a+nk then false else ι.VH i,λi=>if a≤i∧i < a+nk then false else ι.gone i,λi=>if a≤i∧i < a+nk then Option.none else ι.dim i⟩
theorem VS.room {R:Nat→Prop} {ι:VI} {H:WH} {M:Heap} (s:VS R ι H M) (nk:Nat) :
  VS R (ι.room H.length M.next nk) (H++holes nk) { M with next:=M.next+nk }∧Stp H.length [] ι H M (ι.room H.length M.next nk) (H++holes nk) { M with next:=M.next+nk }:=by
 have gp:∀ i,dS (H++holes nk) i=dS H i:=λi=>by
  rw [TG]
  split
  ·rfl
  ·rename_i h
   rw [VW,aem (Nat.le_of_not_lt h)]
 have out:∀ i,i < H.length→¬ (H.length≤i∧i < H.length+nk):=λi h=>by omega
 have hls:∀ S,VI.Le ι (ι.room H.length M.next nk) S:=λS i _ =>
  ⟨λj h=>by simp only [VI.room,if_neg (out i (s.lt i j h).1)];exact ⟨h,λ_ h=>h⟩,λh=>by simp only [VI.room,if_neg (out i (s.Dw i h).1)];exact ⟨h,λ_ h=>h⟩⟩
 have hk:Keeps M (own ι) { M with next:=M.next+nk } (own (ι.room H.length M.next nk)):=⟨Nat.le_add_right _ _,λb hb ho=>⟨rfl,λ⟨i,hi,hg⟩=>by
  simp only [VI.room] at hi hg
  split at hi
  ·obtain rfl:=Option.some.inj hi;omega
  ·rename_i hne
   rw [if_neg hne] at hg
   exact ho ⟨i,hi,hg⟩⟩⟩
 have ac:∀ i,¬ (H.length≤i∧i < H.length+nk)→act (ι.room H.length M.next nk) (H++holes nk) i→act ι H i:=λi hn h=>h.imp (λ⟨x,h⟩=>⟨x,by rw [gp] at h;exact h⟩) (λh=>by simpa only [VI.room,if_neg hn] using h)
 refine ⟨⟨λi j h=>?_,λi i' j h h' e e' g=>?_,λi x hx=>?_,λi h=>?_,λi hi c sl h=>?_,λi hi=>s.okM i (by have:M.next+nk≤i:=hi;omega),λj h=>⟨Nat.lt_of_lt_of_le (s.res j h).1 (Nat.le_add_right _ _),λi hi=>?_⟩⟩,
  ⟨hk,hls _,λi hi h=>by simp only [VI.room,if_neg (out i hi)];exact h,λi hi=>by simp only [VI.room,if_neg (out i hi)],λi hi=>by simp only [VI.room,if_neg (out i hi)],λi hi _=>by simp only [VI.room,if_neg (out i hi)],λi _ ⟨x,h⟩=>⟨x,by rw [gp] at h;exact h⟩,λ_ _ _ _ _ _=>rfl,by simp⟩⟩
 ·simp only [VI.room] at h
  simp only [List.length_append,Qf]
  split at h
  ·obtain rfl:=Option.some.inj h
   omega
  ·have:=s.lt i j h
   omega
 ·simp only [VI.room] at e e'
  split at e<;>split at e'
  ·have e1:=Option.some.inj e
   have e2:=Option.some.inj e'
   omega
  ·obtain rfl:=Option.some.inj e
   have:=(s.lt _ _ e').2
   omega
  ·obtain rfl:=Option.some.inj e'
   have:=(s.lt _ _ e).2
   omega
  ·rename_i n1 n2
   simp only [VI.room,if_neg n1,if_neg n2] at g
   exact s.inj i i' j (ac i n1 h) (ac i' n2 h') e e' g
 ·rw [gp] at hx
  have hl:=out i (wX hx)
  simp only [VI.room,if_neg hl]
  rcases s.blk i x hx with h | ⟨j,h1,h2,h3⟩
  ·exact .inl h
  ·exact .inr ⟨j,h1,h2.mono (hk.or R) hls (λ_ h=>h),h3⟩
 ·simp only [VI.room] at h ⊢
  split at h
  ·cases h
  ·rename_i hn
   rw [if_neg hn]
   have:=s.Dw i h
   simp only [List.length_append,Qf]
   exact ⟨by omega,this.2⟩
 ·rw [gp] at h
  have hl:=out i (wX h)
  simp only [VI.room,if_neg hl] at hi
  exact s.Dc i hi c sl h
 ·simp only [VI.room]
  split
  ·rename_i hn
   intro e
   obtain rfl:=Option.some.inj e
   have:=(s.res _ h).1
   omega
  ·rename_i hn
   exact (s.res j h).2 i (ac i hn hi)
def VI.fill (ι:VI) (i:Nat) (d:Nat×Nat):VI:=⟨ι.to,ι.VH,ι.gone,setAt ι.dim i (some d)⟩
theorem VS.fill {R:Nat→Prop} {ι:VI} {H:WH} {M:Heap} (s:VS R ι H M) {b j:Nat} (hb:ι b=some j) (hg:ι.gone b=false) (hd:ι.dim b=none) (hn:dS H b=none) {x y:nT} {d:Nat×Nat} (hx:BL M (OR R ι) ι (some d) x (some y)) :
  VS R (ι.fill b d) (iU H b (some x)) (M.put j (some y))∧Keeps M (own ι) (M.put j (some y)) (own (ι.fill b d))∧(∀ S,VI.Le ι (ι.fill b d) S)∧(∀ i j',i≠b→act ι H i→ι i=some j'→(M.put j (some y)).get j'=M.get j'):=by
 have hbl:=(s.lt b j hb).1
 have hk:Keeps M (own ι) (M.put j (some y)) (own (ι.fill b d)):=⟨Nat.le_refl _,λb' _ ho=>⟨by
  have:b'≠j:=λe=>ho (e ▸ ⟨b,hb,hg⟩)
  simp [Heap.put,this],ho⟩⟩
 have hls:∀ S,VI.Le ι (ι.fill b d) S:=λS i _=>by
  by_cases e:i=b
  ·subst e
   exact ⟨λj h=>⟨h,λd h=>by rw [hd] at h;cases h⟩,λh=>⟨h,λd h=>by rw [hd] at h;cases h⟩⟩
  ·simp only [VI.fill,cu _ _ e]
   exact ⟨λj h=>⟨h,λd h=>h⟩,λh=>⟨h,λd h=>h⟩⟩
 have gp:∀ k,dS (iU H b (some x)) k=if k=b then some x else dS H k:=λk=>by
  rw [uf]
  by_cases e:k=b
  ·rw [if_pos ⟨e,hbl⟩,if_pos e]
  ·rw [if_neg (λh=>e h.1),if_neg e]
 have ac:∀ i,act (ι.fill b d) (iU H b (some x)) i→act ι H i:=λi h=>by
  rcases h with ⟨z,h⟩ | h
  ·rw [gp] at h
   by_cases e:i=b
   ·subst e
    exact .inr hg
   ·rw [if_neg e] at h
    exact .inl ⟨z,h⟩
  ·exact .inr h
 have ne:∀ i j',i≠b→act ι H i→ι i=some j'→j'≠j:=λi j' hi ha h e=>hi (s.inj i b j ha (.inr hg) (e ▸ h) hb (.inr hg))
 refine ⟨⟨λi j h=>by rw [fG];exact s.lt i j h,λi i' j h h'=>s.inj i i' j (ac i h) (ac i' h'),λi z hz=>?_,λi h=>by rw [fG];exact s.Dw i h,λi hi c sl h=>?_,λi hi=>?_,λj h=>⟨(s.res j h).1,λi hi=>(s.res j h).2 i (ac i hi)⟩⟩,hk,hls,λi j' hi ha h=>by simp [Heap.put,ne i j' hi ha h]⟩
 ·rw [gp] at hz
  by_cases e:i=b
  ·subst e
   rw [if_pos rfl] at hz
   obtain rfl:=Option.some.inj hz
   refine .inr ⟨j,hb, ?_,λ_=>hg⟩
   simp only [Heap.put,if_true]
   exact hx.mono (hk.or R) hls (λ_ h=>by simpa [VI.fill,setAt] using h)
  ·rw [if_neg e] at hz
   rcases s.blk i z hz with ⟨h1,h2,h3⟩ | ⟨j',h1,h2,h3⟩
   ·exact .inl ⟨h1,by simp only [VI.fill,cu _ _ e];exact h2,h3⟩
   ·refine .inr ⟨j',h1, ?_,h3⟩
    simp only [Heap.put,if_neg (ne i j' e (.inl ⟨z,hz⟩) h1)]
    exact h2.mono (hk.or R) hls (λ_ h=>by simp only [VI.fill,cu _ _ e];exact h)
 ·rw [gp] at h
  by_cases e:i=b
  ·subst e
   have:ι.gone i=true:=hi
   rw [hg] at this
   cases this
  ·rw [if_neg e] at h
   exact s.Dc i hi c sl h
 ·have:=(s.lt b j hb).2
  have:i≠j:=λe=>by subst e;simp only [Heap.put] at hi;omega
  simp only [Heap.put,if_neg this]
  exact s.okM i hi
mutual
theorem VL.Dy {M:Heap} {O:Nat→Prop} {κ:VI}:∀ (v a:AV),known v=true→VL M O κ v a→AV.same a a=true
 | .undef,_,h,_=>by simp [known] at h
 | .bool _,_,_,e=>by simp only [VL] at e;subst e;simp [AV.same]
 | .int _ _,_,_,e=>by simp only [VL] at e;subst e;simp [AV.same]
 | .str _,_,_,e=>by simp only [VL] at e;subst e;simp [AV.same]
 | .ptr none,_,_,e=>by simp only [VL] at e;subst e;simp [AV.same]
 | .ptr (some q),_,_,e=>by simp only [VL] at e;obtain ⟨j,_,rfl⟩:=e;simp [AV.same]
 | .slice none _ _ _ _,_,_,e=>by simp only [VL] at e;obtain ⟨_,s',rfl⟩:=e;simp [AV.same]
 | .slice (some _) _ _ _ _,_,_,e=>by simp [VL] at e
 | .map none,_,_,e=>by simp only [VL] at e;subst e;simp [AV.same]
 | .map (some r),_,_,e=>by simp only [VL] at e;obtain ⟨j,_,rfl⟩:=e;simp [AV.same]
 | .func f cs,_,h,e=>by
  simp only [VL] at e
  obtain ⟨cs',rfl,e⟩:=e
  simp only [AV.same,Bool.and_eq_true,beq_self_eq_true,true_and]
  exact bZ.Dy cs cs' (by simpa [known] using h) e
 | .nilFunc,_,_,e=>by simp only [VL] at e;subst e;simp [AV.same]
 | .agg cs,_,h,e=>by
  simp only [VL] at e
  obtain ⟨cs',rfl,e⟩:=e
  simp only [AV.same]
  exact bZ.Dy cs cs' (by simpa [known] using h) e
 | .tuple cs,_,h,e=>by
  simp only [VL] at e
  obtain ⟨cs',rfl,e⟩:=e
  simp only [AV.same]
  exact bZ.Dy cs cs' (by simpa [known] using h) e
 | .list ..,_,_,e=>by
  simp only [VL] at e
  rcases e with ⟨_,_,s',rfl⟩ | ⟨b,o,cap,ex',rfl,_⟩<;>simp [AV.same]
 | .elem _,_,_,e=>by simp only [VL] at e;obtain ⟨b,o,c,ro,sl,rfl,_⟩:=e;simp [AV.same]
 | .acc ..,_,_,e=>by simp only [VL] at e;obtain ⟨p,s',cap,ex,rfl,_⟩:=e;simp [AV.same]
theorem bZ.Dy {M:Heap} {O:Nat→Prop} {κ:VI}:∀ (l r:List AV),VJ l=true→bZ M O κ l r→AV.NG r r=true
 | [],[],_,_=>by simp [AV.NG]
 | v::l,a::r,h,e=>by
  simp only [bZ] at e
  simp only [VJ] at h
  split at h
  ·rename_i hv
   simp only [AV.NG,Bool.and_eq_true]
   exact ⟨VL.Dy v a hv e.1,bZ.Dy l r h e.2⟩
  ·cases h
 | [],_::_,_,e=>by simp [bZ] at e
 | _::_,[],_,e=>by simp [bZ] at e
end
end Go.Proofs.YtohoggieaanllaaGreat
end
section
set_option linter.all false
set_option linter.unusedSimpArgs false
namespace Go.Proofs.YtohoggieaanllaaGreat
theorem aga (u k:Nat) (bt:List (Nat×Nat)) (t:Nat):sO ((u,k)::bt) t=if u=t then k else sO bt t:=by
 simp only [sO]
 cases h:Nat.beq u t with
 | true=>simp [Nat.eq_of_beq_eq_true h]
 | false =>
  have:u≠t:=λe=>by subst e;simp at h
  simp [this]
theorem RQ (n:Nat) (d:Option Nat) (k:Nat) (bt:List (Nat×Nat)) (t:Nat):sO (qC n d k bt) t=if d=some t∧t < n then k else sO bt t:=by
 cases d with
 | none=>simp [qC]
 | some d =>
  simp only [qC]
  cases hb:Nat.blt d n with
  | true =>
   have hd:d < n:=by simpa [Nat.blt_eq] using hb
   simp only [aga]
   by_cases he:d=t
   ·subst he
    simp [hd]
   ·simp [he]
  | false =>
   have hd:¬ d < n:=λh=>by
    have:Nat.blt d n=true:=by simpa [Nat.blt_eq] using h
    rw [hb] at this
    cases this
   simp only
   rw [if_neg]
   rintro ⟨h1,h2⟩
   obtain rfl:=Option.some.inj h1
   exact hd h2
def Qr (bt:List (Nat×Nat)) (k:Nat) (ρ:Nat→AV):Nat→AV:=λt=>if sO bt t≤k then ρ t else .undef
theorem akv {bt:List (Nat×Nat)} {k:Nat} {ρ:Nat→AV} {x:AX} (h:rP bt x≤k):x.sub (Qr bt k ρ)=x.sub ρ:=by
 cases x with
 | t t=>simp only [rP] at h;simp only [AX.sub,Qr];rw [if_pos h]
 | c v=>rfl
theorem am7 {bt:List (Nat×Nat)} {k:Nat} {ρ:Nat→AV} {x:Option AX} (h:aek bt x≤k):AX.jK (Qr bt k ρ) x=AX.jK ρ x:=by
 cases x with
 | none=>rfl
 | some x=>simp only [AX.jK,Option.map_some,akv h]
theorem alg {bt:List (Nat×Nat)} {n k:Nat} {ρ:Nat→AV} {o:nU} (hk:k < n) (h:af2 bt n o≤k):o.sub (Qr bt k ρ)=o.sub ρ:=by
 cases o<;>simp only [af2] at h<;>first | omega | skip
 all_goals simp only [nU.sub]
 all_goals (repeat rw [akv (by omega)])
 all_goals (repeat rw [am7 (by omega)])
theorem sQ {b:Nat} {t:List Nat×WH} {r:List (List Nat×WH)}:touches b (t::r)=false↔b ∉ t.1∧touches b r=false:=by
 simp only [touches]
 cases h:wV t.1 b with
 | true=>simp [Dx.1 h]
 | false=>simp [show b ∉ t.1 from λe=>by rw [Dx.2 e] at h;cases h]
theorem Xw {b:Nat} {t:List Nat×WH}:∀ {r:List (List Nat×WH)},touches b (r++[t])=false↔touches b r=false∧b ∉ t.1
 | []=>by rw [List.nil_append,sQ];simp [touches]
 | u::r=>by rw [List.cons_append,sQ,sQ,Xw,and_assoc]
structure HK (R:Nat→Prop) (base fB nk k:Nat) (vH ι:VI) (H:WH) (M:Heap) (l lA:Fast) (bt:List (Nat×Nat)) (hs:List (List Nat×WH)) (Mk:Heap) (Ah:VI):Prop where
 keep:Keeps Mk (own Ah) M (own ι)
 env:∀ t,sO bt t≤k+1→VL Mk (OR R Ah) Ah (look l t) (look lA t)
 new:∀ i,i < nk→Ah (base+i)=some (fB+i)
 gone:∀ i,i < nk→Ah.gone (base+i)=true→ι.gone (base+i)=true
 same:∀ i j,i < base→act ι H i→vH i=some j→touches i (hs.drop k)=false→M.get j=Mk.get j
structure DI (R:Nat→Prop) (base fB nk:Nat) (vH:VI) (M0:Heap) (ι:VI) (H:WH) (M:Heap) (l lA:Fast) (bt:List (Nat×Nat)) (al:List Nat) (hs:List (List Nat×WH)) (jZ:List Heap):Prop where
 vs:VS R ι H M
 len:base+nk≤H.length
 env:zw R ι M l lA
 new:∀ i,i < nk→ι (base+i)=some (fB+i)
 free:∀ i,i < nk→wV al i=false→ι.gone (base+i)=false∧ι.dim (base+i)=none∧dS H (base+i)=none
 start:∀ t,sO bt t=0→VL M0 (OR R vH) vH (look l t) (look lA t)
 low:∀ i j,vH i=some j→i < base∧j < fB
 le0:VI.Le vH ι (λi=>i < base)
 to0:∀ i,i < base→ι i=vH i
 m0:M0.next=fB
 hlen:hs.length=jZ.length
 hist:∀ k Mk,jZ[k]?=some Mk→∃ Ah,HK R base fB nk k vH ι H M l lA bt hs Mk Ah∧∃ t Hk,hs[k]?=some (t,Hk)∧VS R Ah Hk Mk
section
variable {R:Nat→Prop} {base fB nk:Nat} {vH:VI} {M0:Heap} {ι:VI} {H:WH} {M:Heap} {l lA:Fast} {bt:List (Nat×Nat)} {al:List Nat} {hs:List (List Nat×WH)} {jZ:List Heap}
theorem HK.put {k:Nat} {Mk:Heap} {Ah:VI} (g:HK R base fB nk k vH ι H M l lA bt hs Mk Ah) (n:Nat) (d:Option Nat) (b:Nat) {v a:AV} (hv:b≤k+1→VL Mk (OR R Ah) Ah v a):HK R base fB nk k vH ι H M (pW n d v l) (pW n d a lA) (qC n d b bt) hs Mk Ah :=
 ⟨g.keep,λt ht=>by
  rw [zU,zU]
  rw [RQ] at ht
  split
  ·rename_i h
   rw [if_pos h] at ht
   exact hv ht
  ·rename_i h
   rw [if_neg h] at ht
   exact g.env t ht,g.new,g.gone,g.same⟩
theorem DI.put (g:DI R base fB nk vH M0 ι H M l lA bt al hs jZ) (n:Nat) (d:Option Nat) (b:Nat) {v a:AV} (hv:VL M (OR R ι) ι v a) (h0:b=0→VL M0 (OR R vH) vH v a)
  (hk:∀ k Mk Ah,k < hs.length→HK R base fB nk k vH ι H M l lA bt hs Mk Ah→b≤k+1→VL Mk (OR R Ah) Ah v a):DI R base fB nk vH M0 ι H M (pW n d v l) (pW n d a lA) (qC n d b bt) al hs jZ :=
 ⟨g.vs,g.len,g.env.put n d hv,g.new,g.free,λt ht=>by
  rw [zU,zU]
  rw [RQ] at ht
  split
  ·rename_i h
   rw [if_pos h] at ht
   exact h0 ht
  ·rename_i h
   rw [if_neg h] at ht
   exact g.start t ht,g.low,g.le0,g.to0,g.m0,g.hlen,λk Mk h=>by
   obtain ⟨Ah,q,q2⟩:=g.hist k Mk h
   exact ⟨Ah,q.put n d b λhb=>hk k Mk Ah (by rw [g.hlen];exact (List.getElem?_eq_some_iff.1 h).1) q hb,q2⟩⟩
theorem DI.ayd (g:DI R base fB nk vH M0 ι H M l lA bt al hs jZ) (n:Nat) (d:Option Nat) (b:Nat) {v a:AV} (hv:VL M (OR R ι) ι v a) (h0:b=0→VL M0 (OR R vH) vH v a)
  (hk:∀ k Mk Ah t Hk,jZ[k]?=some Mk→HK R base fB nk k vH ι H M l lA bt hs Mk Ah→hs[k]?=some (t,Hk)→VS R Ah Hk Mk→b≤k+1→VL Mk (OR R Ah) Ah v a):DI R base fB nk vH M0 ι H M (pW n d v l) (pW n d a lA) (qC n d b bt) al hs jZ :=
 ⟨g.vs,g.len,g.env.put n d hv,g.new,g.free,λt ht=>by
  rw [zU,zU]
  rw [RQ] at ht
  split
  ·rename_i h
   rw [if_pos h] at ht
   exact h0 ht
  ·rename_i h
   rw [if_neg h] at ht
   exact g.start t ht,g.low,g.le0,g.to0,g.m0,g.hlen,λk Mk h=>by
   obtain ⟨Ah,q,t,Hk,q2,q3⟩:=g.hist k Mk h
   exact ⟨Ah,q.put n d b λhb=>hk k Mk Ah t Hk h q q2 q3 hb,t,Hk,q2,q3⟩⟩
theorem DI.now (g:DI R base fB nk vH M0 ι H M l lA bt al hs jZ) (n:Nat) (d:Option Nat) {v a:AV} (hv:VL M (OR R ι) ι v a):DI R base fB nk vH M0 ι H M (pW n d v l) (pW n d a lA) (qC n d (hs.length+1) bt) al hs jZ :=
 g.put n d (hs.length+1) hv (λh=>by omega) (λk Mk Ah hk _ hb=>by omega)
theorem DI.like {l':Fast} (g:DI R base fB nk vH M0 ι H M l lA bt al hs jZ) (h:∀ t,look l' t=look l t):DI R base fB nk vH M0 ι H M l' lA bt al hs jZ :=
 ⟨g.vs,g.len,λt=>by rw [h t];exact g.env t,g.new,g.free,λt ht=>by rw [h t];exact g.start t ht,g.low,g.le0,g.to0,g.m0,g.hlen,λk Mk e=>by
  obtain ⟨Ah,q,q2⟩:=g.hist k Mk e
  exact ⟨Ah,⟨q.keep,λt ht=>by rw [h t];exact q.env t ht,q.new,q.gone,q.same⟩,q2⟩⟩
theorem DI.loud (g:DI R base fB nk vH M0 ι H M l lA bt al hs jZ) {t:List Nat} {bP:VI} {H':WH} {M':Heap} (s':VS R bP H' M') (k:Stp H.length t ι H M bP H' M'):DI R base fB nk vH M0 bP H' M' l lA bt al (hs++[(t,H)]) (jZ++[M]):=by
 have hb:∀ i,i < nk→base+i < H.length:=λi hi=>by have:=g.len;omega
 have nw:∀ i,i < nk→bP (base+i)=some (fB+i):=λi hi=>((k.le _ (hb i hi)).1 _ (g.new i hi)).1
 refine ⟨s',Nat.le_trans g.len k.next,g.env.step g.vs k,nw,λi hi ha=>?_,g.start,g.low,g.le0.trans (k.le.sub λi hi=>by have:=g.len;have:i < base:=hi;show i < H.length;omega),λi hi=>(k.toq i (by have:=g.len;omega)).trans (g.to0 i hi),g.m0,by simp [g.hlen],λq Mk hq=>?_⟩
 ·obtain ⟨h1,h2,h3⟩:=g.free i hi ha
  refine ⟨by rw [k.acY _ (hb i hi) h3];exact h1,by rw [k.aik _ (hb i hi)];exact h2, ?_⟩
  cases e:dS H' (base+i) with
  | none=>rfl
  | some x =>
   obtain ⟨y,hy⟩:=k.live _ (hb i hi) ⟨x,e⟩
   rw [h3] at hy
   cases hy
 ·rcases Nat.lt_or_ge q jZ.length with hlt | hge
  ·rw [List.getElem?_append_left hlt] at hq
   obtain ⟨Ah,w,t0,Hk,w2,w3⟩:=g.hist q Mk hq
   refine ⟨Ah,⟨w.keep.trans k.keep,w.env,w.new,λi hi h=>k.gone _ (hb i hi) (w.gone i hi h),λi j hi ha hj ht=>?_⟩,t0,Hk,by rw [List.getElem?_append_left (by rw [g.hlen];exact hlt)];exact w2,w3⟩
   rw [List.drop_append_of_le_length (by rw [g.hlen];omega),Xw] at ht
   have hi':i < H.length:=by have:=g.len;omega
   exact (k.tch i j hi' ha ((g.le0 i hi).1 j hj).1 ht.2).trans (w.same i j hi (k.act hi' ha) hj ht.1)
  ·rw [List.getElem?_append_right hge] at hq
   have hqe:q=jZ.length:=by
    rcases Nat.eq_or_lt_of_le hge with e | e
    ·exact e.symm
    ·rw [List.getElem?_eq_none (by simp;omega)] at hq;cases hq
   subst hqe
   simp only [Nat.sub_self,List.getElem?_cons_zero,Option.some.injEq] at hq
   subst hq
   refine ⟨ι,⟨k.keep,λu _=>g.env u,g.new,λi hi h=>k.gone _ (hb i hi) h,λi j hi ha hj ht=>?_⟩,t,H,by rw [← g.hlen,List.getElem?_append_right (Nat.le_refl _)];simp,g.vs⟩
   rw [← g.hlen,List.drop_append_of_le_length (Nat.le_refl _),List.drop_length,List.nil_append,sQ] at ht
   exact k.tch i j (by have:=g.len;omega) ha ((g.le0 i hi).1 j hj).1 ht.1
theorem RS:∀ {al:List Nat} {m:Nat},Jh H base al=true→wV al m=true→∃ c sl,dS H (base+m)=some (.cells c false sl)
 | [],m,_,h=>by simp [wV] at h
 | a::r,m,ht,h=>by
  simp only [Jh] at ht
  split at ht
  case h_2=>cases ht
  rename_i c sl hg
  rcases List.mem_cons.1 (Dx.1 h) with e | e
  ·exact ⟨c,sl,e ▸ hg⟩
  ·exact RS ht (Dx.2 e)
theorem DI.owns (g:DI R base fB nk vH M0 ι H M l lA bt al hs jZ) (ht:Jh H base al=true) {b:Nat} (h1:fB≤b) (h2:b < fB+nk):own ι b:=by
 have e:fB+(b - fB)=b:=by omega
 refine ⟨base+(b - fB),by rw [g.new _ (by omega),e], ?_⟩
 cases ha:wV al (b - fB) with
 | false=>exact (g.free _ (by omega) ha).1
 | true =>
  obtain ⟨c,sl,hg⟩:=RS ht ha
  cases hgo:ι.gone (base+(b - fB)) with
  | false=>rfl
  | true=>exact absurd hg (g.vs.Dc _ hgo c sl)
theorem DI.owned (g:DI R base fB nk vH M0 ι H M l lA bt al hs jZ) {lo:Nat} (ht:(Jh H base al || NV hs lo base al)=true) {b:Nat} (h1:fB≤b) (h2:b < fB+nk) :
  own ι b∨∃ k Mk Ah,lo≤k∧jZ[k]?=some Mk∧HK R base fB nk k vH ι H M l lA bt hs Mk Ah∧own Ah b:=by
 rcases Bool.or_eq_true_iff.1 ht with ht | ht
 ·exact .inl (g.owns ht h1 h2)
 have e:fB+(b - fB)=b:=by omega
 cases ha:wV al (b - fB) with
 | false=>exact .inl ⟨base+(b - fB),by rw [g.new _ (by omega),e],(g.free _ (by omega) ha).1⟩
 | true =>
  right
  unfold NV at ht
  split at ht
  case h_2=>cases ht
  rename_i tk Hk rest hd
  have hk:hs[lo]?=some (tk,Hk):=by
   have:(hs.drop lo)[0]?=some (tk,Hk):=by rw [hd];rfl
   rw [List.getElem?_drop] at this
   exact this
  have hl:lo < jZ.length:=by rw [← g.hlen];exact (List.getElem?_eq_some_iff.1 hk).1
  obtain ⟨Ah,w,t',Hk',w2,w3⟩:=g.hist lo jZ[lo] (List.getElem?_eq_getElem hl)
  rw [hk] at w2
  cases w2
  obtain ⟨c,sl,hg⟩:=RS ht ha
  refine ⟨lo,_,Ah,Nat.le_refl _,List.getElem?_eq_getElem hl,w,base+(b - fB),by rw [w.new _ (by omega),e], ?_⟩
  cases hgo:Ah.gone (base+(b - fB)) with
  | false=>rfl
  | true=>exact absurd hg (w3.Dc _ hgo c sl)
theorem J8 {X:Heap} {b:Nat} (h:¬ (fB≤b∧b < fB+nk)):(X.hide fB nk).get b=X.get b:=by
 simp only [Heap.hide]
 rw [if_neg h]
theorem Qg {g:Bool} {n b o:Nat} {X Y:Heap} (h:X.get b=Y.get b):Ij g n (.ptr (some (b,o))) X=Ij g n (.ptr (some (b,o))) Y:=by
 simp only [Ij,Heap.read,h]
theorem Q5 {sz len cap:Nat} {ex:Bool} {b o:Nat} {X Y:Heap} (h:len≠0→X.get b=Y.get b):wM (.slice (some (b,o)) sz len cap ex) X=wM (.slice (some (b,o)) sz len cap ex) Y:=by
 unfold wM
 split<;>first | rfl | skip
 rename_i e
 cases e
 split
 ·rfl
 ·rename_i hl
  simp only [Heap.read,h hl]
theorem arh (g:DI R base fB nk vH M0 ι H M l lA bt al hs jZ) {o:Cu} (hc:o.bD=true) {v u:AV} (hv:wL (o.sub (look l)) H=some v) (hu:∀ (M:Heap) (O:Nat→Prop) (κ:VI) (a:AV),VL M O κ v a→VL M O κ u a) {lo:Nat} (hok:ZH base al l bt lo o u H hs=true) :
  ∃ a,aL (o.sub (look lA)) [] (M.hide fB nk)=some a∧VL M (OR R ι) ι u a∧∀ k Mk,lo≤k→jZ[k]?=some Mk→∃ w,aL (o.sub (look lA)) [] (Mk.hide fB nk)=some w∧AV.same w a=true:=by
 obtain ⟨a,h1,h2⟩:=ac5 g.vs g.env hc hv
 have h3:=hu _ _ _ _ h2
 -- all read the same
 have fin:known u=true→(∀ X,(X=M∨∃ k,lo≤k∧jZ[k]?=some X)→aL (o.sub (look lA)) [] (X.hide fB nk)=aL (o.sub (look lA)) [] M)→∃ a,aL (o.sub (look lA)) [] (M.hide fB nk)=some a∧VL M (OR R ι) ι u a∧∀ k Mk,lo≤k→jZ[k]?=some Mk→∃ w,aL (o.sub (look lA)) [] (Mk.hide fB nk)=some w∧AV.same w a=true :=
  λhkn hX=>⟨a,(hX M (.inl rfl)).trans h1,h3,λk Mk hk hM=>⟨a,(hX Mk (.inr ⟨k,hk,hM⟩)).trans h1,VL.Dy u a hkn h3⟩⟩
 unfold ZH at hok
 -- a list
 have lst:∀ (t:Nat),rP bt (.t t)=NU bt o→Nat.ble (NU bt o) lo=true→(Jh H base al=true∨NU bt o=0) →
   ∀ (P:Heap→(Nat→Prop)→VI→Nat→Prop),(∀ M O κ,VL M O κ (look l t) (look lA t)→∃ b,P M O κ b)→True:=λ_ _ _ _ _ _=>trivial
 cases o with
 | load ag n x =>
  cases x with
  | c w=>simp [af3] at hok
  | t t =>
   simp only [af3,NU,rP] at hok
   simp only [Cu.sub,AX.sub,aL,AX.ev] at fin h1 ⊢
   have e0:=g.env t
   generalize hX:look l t=X at *
   cases X with
   | elem cs =>
    simp only at hok
    have hkn:known u=true:=by
     split at hok
     ·assumption
     ·assumption
     ·cases hok
    have hb:sO bt t≤lo+1:=by
     split at hok
     ·rename_i h _ _;exact Nat.le_of_ble_eq_true h
     ·rename_i h _ _;exact Nat.le_of_ble_eq_true h
     ·cases hok
    have hth:(Jh H base al || NV hs lo base al)=true∨sO bt t=0:=by
     split at hok
     ·exact .inl (by assumption)
     ·exact .inr (Nat.eq_of_beq_eq_true hok)
     ·cases hok
    simp only [VL] at e0
    obtain ⟨b,off,c,ro,sl,e1,g1,g2,g3,g4⟩:=e0
    have hout:¬ (fB≤b∧b < fB+nk):=λ⟨q1,q2⟩=>by
     rcases hth with ht | h0
     ·rcases g.owned ht q1 q2 with o | ⟨k,Mk,Ah,hk,_,w,o⟩
      ·exact g2 (.inl o)
      ·have:=w.env t (by omega)
       rw [hX] at this
       simp only [VL] at this
       obtain ⟨b',_,_,_,_,e2,_,p2,_⟩:=this
       rw [e1] at e2
       simp only [AV.ptr.injEq,Option.some.injEq,Prod.mk.injEq] at e2
       rw [← e2.1] at p2
       exact p2 (.inl o)
     ·have:=g.start t h0
      rw [hX] at this
      simp only [VL] at this
      obtain ⟨b',_,_,_,_,e2,_,_,p3,_⟩:=this
      rw [e1] at e2
      simp only [AV.ptr.injEq,Option.some.injEq,Prod.mk.injEq] at e2
      rw [← e2.1,g.m0] at p3
      omega
    refine fin hkn λX hX'=>?_
    rw [e1]
    refine Qg ((J8 hout).trans ?_)
    rcases hX' with rfl | ⟨k,hk,hM⟩
    ·rfl
    ·obtain ⟨Ah,w,_⟩:=g.hist k X hM
     have:=w.env t (by omega)
     rw [hX] at this
     simp only [VL] at this
     obtain ⟨b',_,_,_,_,e2,_,p2,p3,_⟩:=this
     rw [e1] at e2
     simp only [AV.ptr.injEq,Option.some.injEq,Prod.mk.injEq] at e2
     rw [← e2.1] at p2 p3
     exact (w.keep.get b p3 (λh=>p2 (.inl h))).1.symm
   | ptr p =>
    cases p with
    | none=>simp at hok
    | some q =>
     simp only at hok
     split at hok
     case h_2=>cases hok
     rename_i hkn hlt hto
     have hlt:q.1 < base:=by simpa [Nat.blt_eq] using hlt
     simp only [VL] at e0
     obtain ⟨j,k1,k2⟩:=e0
     rw [g.to0 _ hlt] at k1
     have hj:=(g.low _ _ k1).2
     have hact:act ι H q.1:=by
      simp only [Cu.sub,AX.sub,wL,AX.ev,hX] at hv
      split at hv
      ·cases hv
      split at hv
      ·rename_i hg
       exact .inl ⟨_,hg⟩
      ·cases hv
     refine fin hkn λX hX'=>?_
     rw [k2]
     refine Qg ((J8 (by omega)).trans ?_)
     rcases hX' with rfl | ⟨k,hk,hM⟩
     ·rfl
     ·obtain ⟨Ah,w,_⟩:=g.hist k X hM
      refine (w.same q.1 j hlt hact k1 ?_).symm
      have:hs.drop k=(hs.drop lo).drop (k - lo):=by rw [List.drop_drop];congr 1;omega
      rw [this]
      have mono:∀ (r:List (List Nat×WH)) (n:Nat),touches q.1 r=false→touches q.1 (r.drop n)=false:=by
       intro r
       induction r with
       | nil=>intro n _;simp [touches]
       | cons u r ih =>
        intro n h
        cases n with
        | zero=>exact h
        | succ n=>exact ih n (sQ.1 h).2
      exact mono _ _ hto
   | _=>simp at hok
 | mV x =>
  cases x with
  | c w=>simp [af3] at hok
  | t t =>
   simp only [af3,NU,rP] at hok
   simp only [Cu.sub,AX.sub,aL,AX.ev] at fin h1 ⊢
   have e0:=g.env t
   generalize hX:look l t=X at *
   cases X with
   | list sz len cs ex =>
    simp only at hok
    have hkn:known u=true:=by
     split at hok
     ·assumption
     ·assumption
     ·cases hok
    have hb:sO bt t≤lo+1:=by
     split at hok
     ·rename_i h _ _;exact Nat.le_of_ble_eq_true h
     ·rename_i h _ _;exact Nat.le_of_ble_eq_true h
     ·cases hok
    have hth:(Jh H base al || NV hs lo base al)=true∨sO bt t=0:=by
     split at hok
     ·exact .inl (by assumption)
     ·exact .inr (Nat.eq_of_beq_eq_true hok)
     ·cases hok
    simp only [VL] at e0
    rcases e0 with ⟨_,_,s',e1⟩ | ⟨b,off,cap,ex',e1,_,_,_,q4⟩
    ·exact fin hkn λX _=>by rw [e1];rfl
    refine fin hkn λX hX'=>?_
    rw [e1]
    refine Q5 λhl=>?_
    obtain ⟨c,ro,sl,g1,g2,g3,g4,g5⟩:=q4 hl
    have hout:¬ (fB≤b∧b < fB+nk):=λ⟨q1,q2⟩=>by
     rcases hth with ht | h0
     ·rcases g.owned ht q1 q2 with o | ⟨k,Mk,Ah,hk,_,w,o⟩
      ·exact g2 (.inl o)
      ·have:=w.env t (by omega)
       rw [hX] at this
       simp only [VL] at this
       rcases this with ⟨_,_,s',e2⟩ | ⟨b',_,_,_,e2,_,_,_,p4⟩
       ·rw [e1] at e2;cases e2
       ·rw [e1] at e2
        cases e2
        obtain ⟨_,_,_,_,p2,_⟩:=p4 hl
        exact p2 (.inl o)
     ·have:=g.start t h0
      rw [hX] at this
      simp only [VL] at this
      rcases this with ⟨_,_,s',e2⟩ | ⟨b',_,_,_,e2,_,_,_,p4⟩
      ·rw [e1] at e2;cases e2
      ·rw [e1] at e2
       cases e2
       obtain ⟨_,_,_,_,_,p3,_⟩:=p4 hl
       rw [g.m0] at p3
       omega
    refine (J8 hout).trans ?_
    rcases hX' with rfl | ⟨k,hk,hM⟩
    ·rfl
    ·obtain ⟨Ah,w,_⟩:=g.hist k X hM
     have:=w.env t (by omega)
     rw [hX] at this
     simp only [VL] at this
     rcases this with ⟨_,_,s',e2⟩ | ⟨b',_,_,_,e2,_,_,_,p4⟩
     ·rw [e1] at e2;cases e2
     ·rw [e1] at e2
      cases e2
      obtain ⟨_,_,_,_,p2,p3,_⟩:=p4 hl
      exact (w.keep.get b p3 (λh=>p2 (.inl h))).1.symm
   | slice p sz len cap ex =>
    cases p with
    | some q=>simp [VL] at e0
    | none =>
     simp only at hok
     have hkn:known u=true:=by
      split at hok
      ·assumption
      ·assumption
      ·cases hok
     simp only [VL] at e0
     obtain ⟨_,s',e1⟩:=e0
     exact fin hkn λX _=>by rw [e1];rfl
   | acc b off sz n w =>
    simp only at hok
    split at hok
    case h_2=>cases hok
    rename_i hkn hlt hto
    have hlt:b < base:=by simpa [Nat.blt_eq] using hlt
    simp only [VL] at e0
    obtain ⟨p,s',cap,ex,k2,k3,k4,k5,m,L,k6,k7,k8,k9⟩:=e0
    have hact:act ι H b:=by
     simp only [Cu.sub,AX.sub,wL,AX.ev,hX] at hv
     split at hv
     ·rename_i e;cases e
     ·rename_i e
      cases e
      split at hv
      ·rename_i hg
       exact .inl ⟨_,hg⟩
      ·cases hv
     ·rename_i e;cases e
     ·cases hv
    refine fin hkn λX hX'=>?_
    rw [k2]
    cases p with
    | none=>rfl
    | some p =>
     refine Q5 λhl=>?_
     have k9:=k9.resolve_right (λh=>hl h.2.1)
     obtain ⟨j,k1,k10⟩:=k9
     rw [g.to0 _ hlt] at k1
     have k10:=k10.resolve_right (λh=>hl h.1)
     have hpj:p.1=j:=by
      have:=k10.1
      simp only [Option.some.injEq] at this
      rw [this]
     have hj:=(g.low _ _ k1).2
     rw [hpj]
     refine (J8 (by omega)).trans ?_
     rcases hX' with rfl | ⟨k,hk,hM⟩
     ·rfl
     ·obtain ⟨Ah,w',_⟩:=g.hist k X hM
      refine (w'.same b j hlt hact k1 ?_).symm
      have:hs.drop k=(hs.drop lo).drop (k - lo):=by rw [List.drop_drop];congr 1;omega
      rw [this]
      have mono:∀ (r:List (List Nat×WH)) (n:Nat),touches b r=false→touches b (r.drop n)=false:=by
       intro r
       induction r with
       | nil=>intro n _;simp [touches]
       | cons u r ih =>
        intro n h
        cases n with
        | zero=>exact h
        | succ n=>exact ih n (sQ.1 h).2
      exact mono _ _ hto
   | _=>simp at hok
 | K9 x=>simp [af3] at hok
 | lookup ok z x w=>simp [af3] at hok
theorem RU {o:Cu} {x:Option AV} {k:TS→Prop}:∀ {hs:List (List Nat×WH)} {tr:TS},TD o x k hs tr→∃ mo,(∀ (i:Nat) (t:List Nat) (Hk:WH),hs[i]?=some (t,Hk)→wL o Hk=x)∧k mo
 | [],tr,h=>⟨tr,λi t Hk e=>by simp at e,h⟩
 | p::r,tr,h=>by
  simp only [TD] at h
  obtain ⟨_,h1,h2⟩:=oU h
  obtain ⟨mo,q1,q2⟩:=RU h2
  refine ⟨mo,λi t Hk e=>?_,q2⟩
  cases i with
  | zero=>simp only [List.getElem?_cons_zero,Option.some.injEq] at e;rw [e] at h1;exact h1
  | succ i=>exact q1 i t Hk (by simpa using e)
theorem aiv (g:DI R base fB nk vH M0 ι H M l lA bt al hs jZ) {o:Cu} (hc:o.bD=true) {v u:AV} (hv:wL (o.sub (look l)) H=some v) (hu:∀ (M:Heap) (O:Nat→Prop) (κ:VI) (a:AV),VL M O κ v a→VL M O κ u a) {lo:Nat} (hok:NW base l bt lo o u=true)
  (hl:∀ (i:Nat) (t:List Nat) (Hk:WH),(hs.drop lo)[i]?=some (t,Hk)→wL (o.sub (look l)) Hk=wL (o.sub (look l)) H) :
  ∃ a,aL (o.sub (look lA)) [] (M.hide fB nk)=some a∧VL M (OR R ι) ι u a∧∀ k Mk,lo≤k→jZ[k]?=some Mk→∃ w,aL (o.sub (look lA)) [] (Mk.hide fB nk)=some w∧AV.same w a=true:=by
 obtain ⟨a,h1,h2⟩:=ac5 g.vs g.env hc hv
 have h3:=hu _ _ _ _ h2
 have rig:∀ {M':Heap} {O:Nat→Prop} {κ:VI} {w:AV},NW base l bt lo o u=true→VL M' O κ u w→w=a:=by
  intro M' O κ w hb hw
  unfold NW at hb
  split at hb
  case h_2=>cases hb
  split at hb
  ·simp only [VL] at hw h3;rw [hw,h3]
  ·simp only [VL] at hw h3;rw [hw,h3]
  ·simp only [VL] at hw h3;rw [hw,h3]
  ·cases hb
 have hkn:known u=true:=by
  unfold NW at hok
  split at hok
  case h_2=>cases hok
  split at hok
  ·rfl
  ·rfl
  ·rfl
  ·cases hok
 cases o with
 | load ag n x =>
  cases x with
  | c w=>simp [NW] at hok
  | t t =>
   have hp:∃ b off,look l t=.ptr (some (b,off))∧b < base∧sO bt t≤lo+1:=by
    simp only [NW] at hok
    split at hok
    ·rename_i b off _ _ hX
     simp only [Bool.and_eq_true,Nat.blt_eq] at hok
     exact ⟨b,off,hX,hok.1,Nat.le_of_ble_eq_true hok.2⟩
    ·rename_i b off _ hX
     simp only [Bool.and_eq_true,Nat.blt_eq] at hok
     exact ⟨b,off,hX,hok.1,Nat.le_of_ble_eq_true hok.2⟩
    ·rename_i b off _ hX
     simp only [Bool.and_eq_true,Nat.blt_eq] at hok
     exact ⟨b,off,hX,hok.1,Nat.le_of_ble_eq_true hok.2⟩
    ·cases hok
   obtain ⟨b,off,hX,hlt,hbt⟩:=hp
   have e0:=g.env t
   rw [hX] at e0
   simp only [VL] at e0
   obtain ⟨j,k1,k2⟩:=e0
   rw [g.to0 _ hlt] at k1
   have hj:=(g.low _ _ k1).2
   have hide:∀ X:Heap,aL (Cu.sub (look lA) (.load ag n (.t t))) [] (X.hide fB nk)=aL (Cu.sub (look lA) (.load ag n (.t t))) [] X:=by
    intro X
    simp only [Cu.sub,AX.sub,aL,AX.ev]
    rw [k2]
    exact Qg (J8 (by omega))
   refine ⟨a,(hide M).trans h1,h3,λk Mk hk hM=>?_⟩
   obtain ⟨Ah,w,tk,Hk,w2,w3⟩:=g.hist k Mk hM
   have hce:∀ s,VL Mk (OR R Ah) Ah (Qr bt (k+1) (look l) s) (look lA s):=λs=>by
    unfold Qr
    split
    ·rename_i hb;exact w.env s hb
    ·simp [VL]
   have hsub:Cu.sub (Qr bt (k+1) (look l)) (.load ag n (.t t))=Cu.sub (look l) (.load ag n (.t t)):=by
    simp only [Cu.sub,AX.sub,Qr]
    rw [if_pos (by omega)]
   have hv':wL (Cu.sub (Qr bt (k+1) (look l)) (.load ag n (.t t))) Hk=some v:=by
    rw [hsub,hl (k - lo) tk Hk (by rw [List.getElem?_drop,show lo+(k - lo)=k by omega];exact w2)]
    exact hv
   obtain ⟨w',q1,q2⟩:=ac5 w3 hce hc hv'
   have:=rig hok (hu _ _ _ _ q2)
   subst this
   exact ⟨w',(hide Mk).trans q1,VL.Dy u w' hkn h3⟩
 | _=>simp [NW] at hok
theorem aiw (g:DI R base fB nk vH M0 ι H M l lA bt al hs jZ) {o:Cu} (hc:o.bD=true) {v u a:AV} (hv:wL (o.sub (look l)) H=some v) (hu:∀ (M:Heap) (O:Nat→Prop) (κ:VI) (a:AV),VL M O κ v a→VL M O κ u a) {lo b:Nat} (hok:ZH base al l bt lo o u H hs=true)
  (hb:amU l o=some b) (hbt:Nat.ble (NU bt o) (lo+1)=true) (ha:aL (o.sub (look lA)) [] (M.hide fB nk)=some a)
  (hl:∀ (i:Nat) (t:List Nat) (Hk:WH),(hs.drop lo)[i]?=some (t,Hk)→wL (o.sub (look l)) Hk=wL (o.sub (look l)) H) :
  ∀ k Mk Ah t Hk,jZ[k]?=some Mk→HK R base fB nk k vH ι H M l lA bt hs Mk Ah→hs[k]?=some (t,Hk)→VS R Ah Hk Mk→lo+1≤k+1→VL Mk (OR R Ah) Ah u a:=by
 intro k Mk Ah tk Hk hM w w2 w3 hk
 cases o with
 | load ag n x =>
  cases x with
  | c w=>simp [amU] at hb
  | t t =>
   simp only [NU,rP] at hbt
   have hbt:=Nat.le_of_ble_eq_true hbt
   unfold ZH at hok
   simp only [af3,NU,rP] at hok
   simp only [amU] at hb
   have e0:=g.env t
   have hX0:∃ q,look l t=.ptr (some q):=by
    split at hb
    ·rename_i q h;exact ⟨q,h⟩
    ·cases hb
   obtain ⟨q,hX⟩:=hX0
   rw [hX] at hok e0
   simp only at hok
   split at hok
   case h_2=>cases hok
   rename_i hkn hlt hto
   have hlt:q.1 < base:=by simpa [Nat.blt_eq] using hlt
   simp only [VL] at e0
   obtain ⟨j,k1,k2⟩:=e0
   rw [g.to0 _ hlt] at k1
   have hj:=(g.low _ _ k1).2
   have hact:act ι H q.1:=by
    simp only [Cu.sub,AX.sub,wL,AX.ev,hX] at hv
    split at hv
    ·cases hv
    split at hv
    ·rename_i hg
     exact .inl ⟨_,hg⟩
    ·cases hv
   have hsame:M.get j=Mk.get j:=by
    refine w.same q.1 j hlt hact k1 ?_
    have:hs.drop k=(hs.drop lo).drop (k - lo):=by rw [List.drop_drop];congr 1;omega
    rw [this]
    have mono:∀ (r:List (List Nat×WH)) (n:Nat),touches q.1 r=false→touches q.1 (r.drop n)=false:=by
     intro r
     induction r with
     | nil=>intro n _;simp [touches]
     | cons u r ih =>
      intro n h
      cases n with
      | zero=>exact h
      | succ n=>exact ih n (sQ.1 h).2
    exact mono _ _ hto
   have eqk:aL (Cu.sub (look lA) (.load ag n (.t t))) [] Mk=aL (Cu.sub (look lA) (.load ag n (.t t))) [] (M.hide fB nk):=by
    simp only [Cu.sub,AX.sub,aL,AX.ev]
    rw [k2]
    exact Qg (hsame.symm.trans (J8 (by omega)).symm)
   have hce:∀ s,VL Mk (OR R Ah) Ah (Qr bt (k+1) (look l) s) (look lA s):=λs=>by
    unfold Qr
    split
    ·rename_i hb;exact w.env s hb
    ·simp [VL]
   have hsub:Cu.sub (Qr bt (k+1) (look l)) (.load ag n (.t t))=Cu.sub (look l) (.load ag n (.t t)):=by
    simp only [Cu.sub,AX.sub,Qr]
    rw [if_pos (by omega)]
   have hv':wL (Cu.sub (Qr bt (k+1) (look l)) (.load ag n (.t t))) Hk=some v:=by
    rw [hsub,hl (k - lo) tk Hk (by rw [List.getElem?_drop,show lo+(k - lo)=k by omega];exact w2)]
    exact hv
   obtain ⟨w',q1,q2⟩:=ac5 w3 hce hc hv'
   rw [eqk,ha] at q1
   obtain rfl:=Option.some.inj q1
   exact hu _ _ _ _ q2
 | _=>simp [amU] at hb
end
end Go.Proofs.YtohoggieaanllaaGreat
end
