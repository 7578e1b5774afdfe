import Derived.Test.YtohoggieaanllaaGreatJ3
section
set_option linter.all false
set_option linter.unusedSimpArgs false
namespace Go.Proofs.YtohoggieaanllaaGreat
def NR (R:Nat→Prop) (ι:VI) (H:WH) (M:Heap) (v:AV) (H':WH) (a:AV):Prop:=∃ bL,VS R bL H' M∧Stp H.length [] ι H M bL H' M∧VL M (OR R bL) bL v a
def NRL (R:Nat→Prop) (ι:VI) (H:WH) (M:Heap) (v:List AV) (H':WH) (a:List AV):Prop:=∃ bL,VS R bL H' M∧Stp H.length [] ι H M bL H' M∧bV M (OR R bL) bL v a
theorem NR.quiet {R:Nat→Prop} {ι:VI} {H:WH} {M:Heap} (s:VS R ι H M) {v a:AV} (h:VL M (OR R ι) ι v a):NR R ι H M v H a:=⟨ι,s,.refl _ _ _ _ _ (Nat.le_refl _),h⟩
theorem Yr {R:Nat→Prop} {ι:VI} {H:WH} {M:Heap} (s:VS R ι H M) {cs cs':List AV} (h:bV M (OR R ι) VI.none cs cs') {sz n:Nat} (hl:cs.length=n * sz) (ex sl:Bool) :
  ∃ bL,VS R bL (H++[some (.cells cs false true)]) (M.push (.cells cs' false sl))∧Stp H.length [] ι H M bL (H++[some (.cells cs false true)]) (M.push (.cells cs' false sl)) ∧
   VL (M.push (.cells cs' false sl)) (OR R bL) bL (.acc H.length 0 sz n true) (.slice (some (M.next,0)) sz n n ex):=by
 have hl':=h.length
 obtain ⟨h1,h2⟩:=s.push (x:=.cells cs false true) (y:=.cells cs' false sl) (d:=(cs.length,cs'.length)) ⟨cs',[],false,sl,cs'.length,by simp,λ_=>rfl,rfl,by simp,by simpa using h,λh=>by cases h⟩
 refine ⟨_,h1,h2, ?_⟩
 simp only [VL]
 refine ⟨_,_,_,_,rfl,Nat.le_refl _,(λh=>by cases h),λ_=>rfl,cs.length,cs'.length,by simp [VI.add,setAt],by omega,λ_=>⟨trivial,hl.symm⟩,.inl ⟨M.next,by simp [VI.add,setAt],.inl ⟨rfl,by omega⟩⟩⟩
theorem Ta {R:Nat→Prop} {ι:VI} {H:WH} {M:Heap} (s:VS R ι H M) (sz s':Nat) (p:Option (Nat×Nat)) (hp:p≠none→s'=sz) :
  ∃ bL,VS R bL (H++[some (.cells [] false true)]) M∧Stp H.length [] ι H M bL (H++[some (.cells [] false true)]) M∧VL M (OR R bL) bL (.acc H.length 0 sz 0 true) (.slice p s' 0 0 true):=by
 obtain ⟨h1,h2⟩:=s.aq7
 refine ⟨_,h1,h2, ?_⟩
 simp only [VL]
 exact ⟨_,_,_,_,rfl,Nat.le_refl _,by simp,hp,0,0,by simp [VI.g_,setAt],by omega,by simp,.inr ⟨by simp [VI.g_,setAt],by simp⟩⟩
theorem Yt {R:Nat→Prop} {ι:VI} {H:WH} {M:Heap} (s:VS R ι H M) {b j:Nat} (hb:ι b=some j) {c0:List AV} {sl0:Bool} (hg:dJ H b=some (.cells c0 false sl0)) {cs cs' t:List AV} {ro sl:Bool} {L:Nat}
  (hj:M.get j=some (.cells (cs'++t) ro sl)) (hro:ro=false) (h:bV M (OR R ι) VI.none cs cs') (hL:L≤(cs'++t).length) {sz n cap:Nat} (hl:cs.length=n * sz) {p:Option (Nat×Nat)} {s':Nat} {ex:Bool} (hn:n≤cap) (hnp:p=none→cap=0∧ex=true) (hs:p≠none→s'=sz)
  (hp:(p=some (j,0)∧cap * sz≤L)∨(n=0∧cap=0∧ex=true)) :
  ∃ bL,VS R bL (iG H b none++[some (.cells cs false true)]) M∧Stp H.length [b] ι H M bL (iG H b none++[some (.cells cs false true)]) M∧VL M (OR R bL) bL (.acc H.length 0 sz n true) (.slice p s' n cap ex):=by
 obtain ⟨h1,h2,h3⟩:=s.swap hb hg (x:=.cells cs false true) (y:=.cells (cs'++t) ro sl) (d:=(cs.length,L)) ⟨cs',t,ro,sl,L,rfl,λ_=>hro,rfl,hL,by simpa using h⟩
 rw [Heap.SS hj] at h1 h2
 refine ⟨_,h1,h2, ?_⟩
 simp only [VL]
 exact ⟨_,_,_,_,rfl,hn,hnp,hs,cs.length,L,by simp [VI.add,setAt],by omega,λ_=>⟨trivial,hl.symm⟩,.inl ⟨j,h3,hp.imp (λh=>⟨h.1,by omega⟩) (λh=>h)⟩⟩
theorem Stp.still {n:Nat} {t t':List Nat} {ι nO:VI} {H H1:WH} {M:Heap} (h:Stp n t ι H M nO H1 M):Stp n t' ι H M nO H1 M :=
 ⟨h.keep,h.le,h.gone,h.toq,h.ahL,h.acj,h.live,λ_ _ _ _ _ _=>rfl,h.next⟩
theorem aq8 {R:Nat→Prop} {ι:VI} {H:WH} {M:Heap} (s:VS R ι H M) {b sz n:Nat} {w:Bool} {a:AV} (h:VL M (OR R ι) ι (.acc b 0 sz n w) a) {c:List AV} (hg:dJ H b=some (.cells c false true)) :
  NR R ι H M (.acc H.length 0 sz n true) (iG H b none++[some (.cells (c.take (n * sz)) false true)]) a:=by
 obtain ⟨k1,k2,p,s',cap,ex,rfl,k3,k4,k5⟩:=VL.yR s h hg
 simp only [Nat.zero_add] at k1
 have hnp:p=none→cap=0∧ex=true:=by
  simp only [VL] at h
  obtain ⟨_,_,_,_,e,_,q,_⟩:=h
  simp only [AV.slice.injEq] at e
  obtain ⟨rfl,rfl,_,rfl,rfl⟩:=e
  exact q
 have hlt:(c.take (n * sz)).length=n * sz:=by simp only [List.length_take];omega
 have part:∀ {c' t:List AV},(c'.take (n * sz))++(c'.drop (n * sz)++t)=c'++t:=λ{c' t}=>by rw [← List.append_assoc,List.take_append_drop]
 rcases k5 with ⟨j,c',t,ro',sl',L,g1,g2,g3,g4,g5,g6,rfl,g7⟩ | ⟨rfl,rfl,rfl,⟨j,c',t,ro',sl',L,g1,g2,g3,g4,g5,g6⟩ | ⟨g1,rfl,_⟩⟩
 ·simp only [if_true] at g6
  obtain ⟨bL,q1,q2,q3⟩:=Yt s g1 hg (cs:=c.take (n * sz)) (cs':=c'.take (n * sz)) (t:=c'.drop (n * sz)++t) (by rw [part];exact g2) (g3 rfl).1 (g6.take _) (by rw [part];exact g5) hlt k3 hnp k4 (.inl ⟨rfl,by omega⟩)
  exact ⟨bL,q1,q2.still,q3⟩
 ·simp only [if_true] at g6
  obtain ⟨bL,q1,q2,q3⟩:=Yt s g1 hg (cs:=c.take (0 * sz)) (cs':=c'.take (0 * sz)) (t:=c'.drop (0 * sz)++t) (by rw [part];exact g2) (g3 rfl).1 (g6.take _) (by rw [part];exact g5) hlt k3 hnp k4 (.inr ⟨rfl,rfl,rfl⟩)
  exact ⟨bL,q1,q2.still,q3⟩
 ·obtain ⟨h1,h2⟩:=s.ajU g1
  obtain ⟨bL,q1,q2,q3⟩:=Ta h1 sz s' p k4
  rw [fu] at q2 q3
  refine ⟨bL,by simpa using q1, ?_,q3⟩
  have:=h2.trans q2 (Nat.le_refl _)
  simpa using this.still
mutual
theorem ajW {R:Nat→Prop} (v:AV) (H:WH) (ι:VI) (M:Heap) (a:AV) (s:VS R ι H M) (h:VL M (OR R ι) ι v a):NR R ι H M (akK v H).1 (akK v H).2 a:=by
 rw [akK.eq_def]
 split
 ·simp only [VL] at h
  obtain ⟨_,s',rfl⟩:=h
  exact Ta s _ s' none (λh=>absurd rfl h)
 ·split
  ·rename_i w _ c hg
   have ht:=aq8 s h hg
   cases w with
   | false=>exact ht
   | true =>
    have hc:=(VL.yR s h hg).2.1 rfl
    simp only [auR]
    rw [List.take_of_length_le (by omega)] at ht
    exact ht
  ·exact NR.quiet s h
 ·rename_i cs
  simp only [VL] at h
  obtain ⟨cs',rfl,h⟩:=h
  obtain ⟨bL,h1,h2,h3⟩:=Y0 cs H ι M cs' s h
  split
  rename_i l H' e
  rw [e] at h1 h2 h3
  exact ⟨bL,h1,h2,by simp only [VL];exact ⟨cs',rfl,h3⟩⟩
 ·rename_i cs
  simp only [VL] at h
  obtain ⟨cs',rfl,h⟩:=h
  obtain ⟨bL,h1,h2,h3⟩:=Y0 cs H ι M cs' s h
  split
  rename_i l H' e
  rw [e] at h1 h2 h3
  exact ⟨bL,h1,h2,by simp only [VL];exact ⟨cs',rfl,h3⟩⟩
 ·exact NR.quiet s h
termination_by SizeOf.sizeOf v
theorem Y0 {R:Nat→Prop} (v:List AV) (H:WH) (ι:VI) (M:Heap) (a:List AV) (s:VS R ι H M) (h:bV M (OR R ι) ι v a):NRL R ι H M (ach v H).1 (ach v H).2 a:=by
 rw [ach.eq_def]
 split
 ·exact ⟨ι,s,.refl _ _ _ _ _ (Nat.le_refl _),h⟩
 ·rename_i v r
  cases a with
  | nil=>simp [bV] at h
  | cons a l =>
   simp only [bV] at h
   obtain ⟨nO,h1,h2,h3⟩:=ajW v H ι M a s h.1
   obtain ⟨BK,k1,k2,k3⟩:=Y0 r (akK v H).2 nO M l h1 (bV.step s h2 h.2)
   split
   rename_i x1 x2 e
   rw [e] at h1 h2 h3 k1 k2 k3
   split
   rename_i y1 y2 e'
   rw [e'] at k1 k2 k3
   refine ⟨BK,k1, ?_,by simp only [bV];exact ⟨VL.step h1 k2 h3,k3⟩⟩
   have:=h2.trans k2 h2.next
   simpa using this
termination_by SizeOf.sizeOf v
end
theorem ahS {R:Nat→Prop} (m:Option Bool) {v:AV} {H:WH} {ι:VI} {M:Heap} {a:AV} (s:VS R ι H M) (h:VL M (OR R ι) ι v a):NR R ι H M (nrm m v H).1 (nrm m v H).2 a:=by
 match m with
 | none=>exact NR.quiet s h
 | some true=>exact ajW v H ι M a s h
 | some false =>
  simp only [nrm]
  split
  case h_2=>exact NR.quiet s h
  rename_i p hp
  obtain ⟨h1,h2⟩:=s.akO p.2 (xR 5 false v p hp)
  refine ⟨_,h1,h2, ?_⟩
  have:=ahR s (O':=OR R (ι.Cq p.2)) (λj h=>h.imp Yq id) (yE:=ι.Cq p.2) (adL _ _ _) 5 false v p a hp h (λb hb j hj=>?_)
  ·exact this
  ·have lv:=xR 5 false v p hp b hb
   rintro (⟨i,q1,q2⟩ | hR)
   ·simp only [VI.Cq,Bool.or_eq_false_iff] at q1 q2
    have:=s.inj i b j (.inr q2.1) (.inl lv) q1 hj (.inl q2.1)
    subst this
    rw [CQ.2 hb] at q2
    cases q2.2
   ·exact (s.res j hR).2 b (.inl lv) hj
theorem Yu {R:Nat→Prop}:∀ (ms:List (Option Bool)) (v:List AV) (H:WH) (ι:VI) (M:Heap) (a:List AV),VS R ι H M→bV M (OR R ι) ι v a→NRL R ι H M (SK ms v H).1 (SK ms v H).2 a
 | ms,[],H,ι,M,a,s,h=>by
  simp only [SK]
  exact ⟨ι,s,.refl _ _ _ _ _ (Nat.le_refl _),h⟩
 | ms,v::r,H,ι,M,a,s,h=>by
  cases a with
  | nil=>simp [bV] at h
  | cons a l =>
   simp only [bV] at h
   obtain ⟨nO,h1,h2,h3⟩:=ahS (ms.headD (some false)) s h.1
   obtain ⟨BK,k1,k2,k3⟩:=Yu ms.tail r _ nO M l h1 (bV.step s h2 h.2)
   simp only [SK]
   refine ⟨BK,k1, ?_,by simp only [bV];exact ⟨VL.step h1 k2 h3,k3⟩⟩
   have:=h2.trans k2 h2.next
   simpa using this
theorem ajX {R:Nat→Prop} (m:Option Bool):∀ (v:List AV) (H:WH) (ι:VI) (M:Heap) (a:List AV),VS R ι H M→bV M (OR R ι) ι v a→NRL R ι H M (afr m v H).1 (afr m v H).2 a
 | [],H,ι,M,a,s,h=>by
  simp only [afr]
  exact ⟨ι,s,.refl _ _ _ _ _ (Nat.le_refl _),h⟩
 | v::r,H,ι,M,a,s,h=>by
  cases a with
  | nil=>simp [bV] at h
  | cons a l =>
   simp only [bV] at h
   obtain ⟨nO,h1,h2,h3⟩:=ahS m s h.1
   obtain ⟨BK,k1,k2,k3⟩:=ajX m r _ nO M l h1 (bV.step s h2 h.2)
   simp only [afr]
   refine ⟨BK,k1, ?_,by simp only [bV];exact ⟨VL.step h1 k2 h3,k3⟩⟩
   have:=h2.trans k2 h2.next
   simpa using this
theorem VS.avx {R:Nat→Prop} {ι:VI} {H:WH} {M:Heap} (s:VS R ι H M) {b:Nat} {c c':List AV} {ro:Bool} (hg:dJ H b=some (.cells c ro false)) (hc:∀ j d t ro' sl',ι b=some j→M.get j=some (.cells (d++t) ro' sl')→d.length=c.length→bV M (OR R ι) ι c' d) (hl:c'.length=c.length) :
  VS R ι (iG H b (some (.cells c' ro false))) M∧Stp H.length [] ι H M ι (iG H b (some (.cells c' ro false))) M:=by
 have hbl:=vU hg
 have gp:∀ k,dJ (iG H b (some (.cells c' ro false))) k=if k=b then some (.cells c' ro false) else dJ H k:=λk=>by
  rw [sG]
  by_cases e:k=b
  ·rw [if_pos ⟨e,hbl⟩,if_pos e]
  ·rw [if_neg (λh=>e h.1),if_neg e]
 have lv:∀ k,(∃ z,dJ (iG H b (some (.cells c' ro false))) k=some z)→∃ z,dJ H k=some z:=λk ⟨z,hz⟩=>by
  rw [gp] at hz
  by_cases e:k=b
  ·exact ⟨_,e ▸ hg⟩
  ·rw [if_neg e] at hz
   exact ⟨z,hz⟩
 refine ⟨⟨λi j h=>by rw [fu];exact s.lt i j h,λi i' j h h' e e'=>s.inj i i' j (h.imp (lv i) id) (h'.imp (lv i') id) e e',λi z hz=>?_,λi h=>by rw [fu];exact s.CP i h,λi hi c1 sl h=>?_,s.okM,λj h=>⟨(s.res j h).1,λi hi=>(s.res j h).2 i (hi.imp (lv i) id)⟩⟩,
  ⟨.refl _ _,.refl _ _,λ_ _ h=>h,λ_ _=>rfl,λ_ _=>rfl,λ_ _ _=>rfl,λi _=>lv i,λ_ _ _ _ _ _=>rfl,by rw [fu];exact Nat.le_refl _⟩⟩
 ·rw [gp] at hz
  by_cases e:i=b
  ·subst e
   rw [if_pos rfl] at hz
   obtain rfl:=Option.some.inj hz
   rcases s.blk i _ hg with ⟨_,_,ro',h⟩ | ⟨j,h1,⟨d,t,ro',sl',L,g1,g2,g3,g4,g5,g6⟩,h2⟩
   ·cases h
   ·exact .inr ⟨j,h1,⟨d,t,ro',sl',L,g1,g2,by rw [hl];exact g3,g4,by simpa using hc j d t ro' sl' h1 g1 g5.length.symm,g6⟩,h2⟩
  ·rw [if_neg e] at hz
   exact s.blk i z hz
 ·rw [gp] at h
  by_cases e:i=b
  ·rw [if_pos e] at h
   subst e
   cases h
   exact s.Cq i hi c _ hg
  ·rw [if_neg e] at h
   exact s.Cq i hi c1 sl h
theorem aq9 {R:Nat→Prop} (m:Option Bool) (b:Nat) {H:WH} {ι:VI} {M:Heap} (s:VS R ι H M):∃ bL,VS R bL (aq2 m b H) M∧Stp H.length [] ι H M bL (aq2 m b H) M:=by
 have quiet:∃ bL,VS R bL H M∧Stp H.length [] ι H M bL H M:=⟨ι,s,.refl _ _ _ _ _ (Nat.le_refl _)⟩
 unfold aq2
 cases m with
 | none=>exact quiet
 | some m =>
 simp only
 split
 case h_2=>exact quiet
 rename_i c ro hg
 rcases s.blk b _ hg with ⟨_,_,ro',h⟩ | ⟨j,h1,⟨d,t,ro',sl',L,g1,g2,g3,g4,g5,g6⟩,h2⟩
 ·cases h
 simp only [Bool.false_eq_true,if_false] at g5
 obtain ⟨nO,k1,k2,k3⟩:=ajX (some m) c H ι M d s g5
 split
 case h_2=>exact ⟨nO,k1,k2⟩
 rename_i c2 ro2 hg2
 have hj1:=((k2.le b (vU hg)).1 j h1).1
 have hd:=((k2.le b (vU hg)).1 j h1).2 _ g3
 have hl1:(afr (some m) c H).1.length=c.length:=by rw [k3.length,g5.length]
 have hl2:c2.length=c.length:=by
  obtain ⟨_,_,_,_,_,_,_,e,_⟩:=k1.at hj1 hg2
  rw [hd] at e
  simp only [Option.some.injEq,Prod.mk.injEq] at e
  exact e.1.symm
 obtain ⟨q1,q2⟩:=k1.avx hg2 (c':=(afr (some m) c H).1) (λj' d' t' ro' sl' e1 e2 e3=>by
  rw [hj1] at e1
  obtain rfl:=Option.some.inj e1
  rw [g1] at e2
  simp only [Option.some.injEq,mU.cells.injEq] at e2
  have:d'=d:=by
   have:=congrArg (List.take c.length) e2.1
   rw [List.take_left' (by rw [g5.length]),List.take_left' (by rw [e3,hl2])] at this
   exact this.symm
  rw [this]
  exact k3) (by rw [hl1,hl2])
 refine ⟨nO,q1, ?_⟩
 have:=k2.trans q2 k2.next
 simpa using this
theorem Td {R:Nat→Prop}:∀ (ms:List (Option Bool)) (m:Option Bool) (p:List Nat) (H:WH) (ι:VI) (M:Heap),VS R ι H M→∃ bL,VS R bL (WA ms m p H) M∧Stp H.length [] ι H M bL (WA ms m p H) M
 | ms,m,[],H,ι,M,s=>⟨ι,s,.refl _ _ _ _ _ (Nat.le_refl _)⟩
 | ms,m,b::p,H,ι,M,s=>by
  obtain ⟨nO,h1,h2⟩:=aq9 (ms.headD m) b s
  obtain ⟨BK,k1,k2⟩:=Td ms.tail m p _ nO M h1
  simp only [WA]
  refine ⟨BK,k1, ?_⟩
  have:=h2.trans k2 h2.next
  simpa using this
end Go.Proofs.YtohoggieaanllaaGreat
end
section
set_option linter.all false
set_option linter.unusedSimpArgs false
namespace Go.Proofs.YtohoggieaanllaaGreat
theorem U7 {bytes k:Nat} (h:dh bytes k=true):k * bytes≤70368744177664∧k≤70368744177664:=by simpa [dh] using h
theorem bV.Cq {R:Nat→Prop} {ι:VI} {M:Heap} {S:List Nat} {l r:List AV} (h:bV M (OR R ι) VI.none l r):bV M (OR R (ι.Cq S)) VI.none l r :=
 bV.mono ⟨Nat.le_refl _,λb _ h=>⟨rfl,λk=>h (k.imp Yq id)⟩⟩ _ _ _ _ (.refl _ _) h
theorem adM {R:Nat→Prop} {ι:VI} {H:WH} {M:Heap} (s:VS R ι H M) {k:Nat} {nested:Bool} {l:List AV} {p:List AV×List Nat} {r:List AV} (h:KL (frz H k nested) l=some p) (hr:bV M (OR R ι) ι l r) :
  bV M (OR R (ι.Cq p.2)) (SY nested (ι.Cq p.2)) p.1 r:=by
 refine YZ (P:=λb=>b∈p.2) (λv q a hq hv hb=>?_) l p r h hr (λ_ h=>h)
 refine ahR s (O':=OR R (ι.Cq p.2)) (λj h=>h.imp Yq id) (yE:=ι.Cq p.2) (adL _ _ _) k nested v q a hq hv (λb hb' j hj=>?_)
 have lv:=xR k nested v q hq b hb'
 rintro (⟨i,q1,q2⟩ | hR)
 ·simp only [VI.Cq,Bool.or_eq_false_iff] at q1 q2
  have:=s.inj i b j (.inr q2.1) (.inl lv) q1 hj (.inl q2.1)
  subst this
  rw [CQ.2 (hb _ hb')] at q2
  cases q2.2
 ·exact (s.res j hR).2 b (.inl lv) hj
theorem U8 {R:Nat→Prop} {ι:VI} {H:WH} {M:Heap} (s:VS R ι H M) {x a:AV} (hx:VL M (OR R ι) ι x a) {sz n:Nat} {cs:List AV} {S:List Nat} (h:Ni x sz H=some (n,cs,S)) :
  eX a sz=true∧cs.length=n * sz∧∃ cs',nu a M=some (n,cs')∧bV M (OR R (ι.Cq S)) VI.none cs cs':=by
 unfold Ni at h
 split at h
 ·rename_i sz' n' cs' ex
  split at h
  case h_2=>cases h
  rename_i e
  obtain rfl:=Nat.eq_of_beq_eq_true e
  simp only [Option.some.injEq,Prod.mk.injEq] at h
  obtain ⟨rfl,rfl,rfl⟩:=h
  simp only [VL] at hx
  rcases hx with ⟨rfl,rfl,s',rfl⟩ | ⟨b,o,cap,ex',rfl,q1,q2,q3,q4⟩
  ·exact ⟨rfl,by simp,[],rfl,by simp [bV]⟩
  ·refine ⟨by simp [eX],q3, ?_⟩
   by_cases hn:n'=0
   ·subst hn
    rw [Nat.zero_mul] at q3
    obtain rfl:=List.eq_nil_of_length_eq_zero q3
    exact ⟨[],by simp [nu],by simp [bV]⟩
   ·obtain ⟨c,ro,sl,g1,g2,g3,g4,g5⟩:=q4 hn
    refine ⟨(c.drop o).take (n' * sz'), ?_,g5.Cq⟩
    simp only [nu,if_neg hn,Heap.read,g1,if_pos g4,Option.map_some]
 ·simp only [Option.some.injEq,Prod.mk.injEq] at h
  obtain ⟨rfl,rfl,rfl⟩:=h
  simp only [VL] at hx
  obtain ⟨_,s',rfl⟩:=hx
  exact ⟨rfl,by simp,[],rfl,by simp [bV]⟩
 ·rename_i t
  split at h
  case h_2=>cases h
  rename_i e
  obtain rfl:=Nat.eq_of_beq_eq_true e
  simp only [Option.some.injEq,Prod.mk.injEq] at h
  obtain ⟨rfl,rfl,rfl⟩:=h
  obtain rfl:=hx.eq rfl
  refine ⟨rfl,by simp,_,rfl, ?_⟩
  have:∀ t:List UInt8,bV M (OR R (ι.Cq [])) VI.none (t.map λb=>AV.int .u8 b.toNat) (t.map λb=>AV.int .u8 b.toNat):=λt=>by
   induction t with
   | nil=>simp [bV]
   | cons b t ih=>simp only [List.map_cons,bV,VL];exact ⟨trivial,ih⟩
  exact this t
 ·rename_i b o sz' n' w
  split at h
  case h_2=>cases h
  rename_i e
  obtain rfl:=Nat.eq_of_beq_eq_true e
  split at h
  case h_2=>cases h
  rename_i c ro sl hg
  obtain ⟨k1,k2,p,s',cap,ex,rfl,k3,k4,k5⟩:=VL.yR s hx hg
  have fin:∀ (cs:List AV) (S:List Nat),cs.length=n' * sz'→(∀ c' t,bV M (OR R ι) (if sl then VI.none else ι) c c'→bV M (OR R (ι.Cq S)) VI.none cs (((c'++t).drop o).take (n' * sz'))) →
    eX (.slice p s' n' cap ex) sz'=true∧cs.length=n' * sz'∧∃ cs',nu (.slice p s' n' cap ex) M=some (n',cs')∧bV M (OR R (ι.Cq S)) VI.none cs cs':=by
   intro cs S h1 h2
   have hz:eX (.slice p s' n' cap ex) sz'=true:=by
    cases p with
    | none =>
     rcases k5 with ⟨j,_,_,_,_,_,_,_,_,_,_,_,e,_⟩ | ⟨e,_⟩
     ·cases e
     ·simp [eX,e]
    | some p=>simp [eX,k4 (by simp)]
   refine ⟨hz,h1, ?_⟩
   have hn0:n'=0→cs=[]:=λe=>by
    subst e
    rw [Nat.zero_mul] at h1
    exact List.eq_nil_of_length_eq_zero h1
   rcases k5 with ⟨j,c',t,ro',sl',L,g1,g2,g3,g4,g5,g6,rfl,g7⟩ | ⟨e,_⟩
   ·obtain rfl:=k4 (by simp)
    by_cases hn:n'=0
    ·rw [hn0 hn]
     subst hn
     exact ⟨[],by simp [nu],by simp [bV]⟩
    ·have hl:=g6.length
     refine ⟨_, ?_,h2 c' t g6⟩
     simp only [nu,if_neg hn,Heap.read,g2]
     rw [if_pos (by simp only [List.length_append];omega)]
     rfl
   ·rw [hn0 e]
    subst e
    refine ⟨[], ?_,by simp [bV]⟩
    cases p<;>simp [nu]
  split at h
  ·simp only [Option.some.injEq,Prod.mk.injEq] at h
   obtain ⟨rfl,rfl,rfl⟩:=h
   refine fin _ _ (SV k1 k2) λc' t hc=>?_
   simp only [if_true] at hc
   exact (SX hc k1 k2).Cq
  ·split at h
   case h_2=>cases h
   split at h
   case h_2=>cases h
   rename_i q hq
   simp only [Option.some.injEq,Prod.mk.injEq] at h
   obtain ⟨rfl,rfl,rfl⟩:=h
   obtain ⟨k6,k7⟩:=k2 rfl
   refine fin _ _ (by rw [S9 _ _ hq,k7]) λc' t hc=>?_
   simp only [Bool.false_eq_true,if_false] at hc
   have:=adM s hq hc
   rw [k6,List.drop_zero,k7,hc.length,List.take_left' rfl]
   exact this
 ·cases h
theorem Np {H:WH} {x:AV} {sz n:Nat} {cs:List AV} {S:List Nat} (h:Ni x sz H=some (n,cs,S)):∀ b∈S,∃ y,dJ H b=some y:=by
 unfold Ni at h
 split at h
 ·split at h
  ·cases h;simp
  ·cases h
 ·cases h;simp
 ·split at h
  ·cases h;simp
  ·cases h
 ·split at h
  case h_2=>cases h
  split at h
  case h_2=>cases h
  split at h
  ·cases h;simp
  ·split at h
   case h_2=>cases h
   split at h
   case h_2=>cases h
   rename_i q hq
   cases h
   exact zw (λv p=>xR 5 true v p) _ _ hq
 ·cases h
theorem acy {R:Nat→Prop} {ι:VI} {H:WH} {M:Heap} (s:VS R ι H M) {x a:AV} (hx:VL M (OR R ι) ι x a) {sz bytes m len:Nat} {new new' old:List AV} (hnew:bV M (OR R ι) VI.none new new') (hl:new.length=m * sz) {H':WH} {t:List Nat}
  (h:YT x sz H=some (len,old,H',t)) (hf:dh bytes (len+m)=true) :
  ∃ a' M' bL,gq sz bytes a m new' M=some (a',M')∧VS R bL (H'++[some (.cells (old++new) false true)]) M'∧Stp H.length t ι H M bL (H'++[some (.cells (old++new) false true)]) M'∧VL M' (OR R bL) bL (.acc H'.length 0 sz (len+m) true) a':=by
 have hf':=U7 hf
 have hm0:m=0→new=[]:=λe=>by
  subst e
  rw [Nat.zero_mul] at hl
  exact List.eq_nil_of_length_eq_zero hl
 -- nothing was there
 have fresh:∀ (uD:VI) (H0:WH) (t0:List Nat),VS R uD H0 M→H0.length=H.length→Stp H.length t0 ι H M uD H0 M→∀ (p:Option (Nat×Nat)) (s':Nat),(p≠none→s'=sz)→0+m=len+m→∃ a' M' bL,gq sz bytes (.slice p s' 0 0 true) m new' M=some (a',M')∧VS R bL (H0++[some (.cells ([]++new) false true)]) M'∧Stp H.length t0 ι H M bL (H0++[some (.cells ([]++new) false true)]) M'∧VL M' (OR R bL) bL (.acc H0.length 0 sz (0+m) true) a':=by
  intro uD H0 t0 s0 hlen k0 p s' hps hlm
  by_cases hm:m=0
  ·obtain rfl:=hm0 hm
   subst hm
   obtain ⟨bL,q1,q2,q3⟩:=Ta s0 sz sz p (λ_=>rfl)
   refine ⟨.slice p sz 0 0 true,M,bL, ?_,q1, ?_,q3⟩
   ·unfold gq
    cases p with
    | none=>simp
    | some p=>obtain rfl:=hps (by simp);simp
   ·have:=k0.trans q2 (by omega)
    simpa using this
  ·have e:gq sz bytes (.slice p s' 0 0 true) m new' M=some (.slice (some (M.next,0)) sz (0+m) (0+m) false,M.push (.cells ([]++new') false true)):=by
    unfold gq
    simp only
    rw [if_neg (λhc=>hc.2 (hps hc.1)),if_neg (by omega),if_pos (by rw [hlm];exact hf')]
    cases p with
    | none=>rfl
    | some p=>rfl
   have awp:=bV.acv k0 hnew
   obtain ⟨bL,q1,q2,q3⟩:=Yr s0 (cs:=[]++new) (cs':=[]++new') (by simpa using awp) (n:=0+m) (sz:=sz) (by simpa using hl) false true
   rw [e]
   refine ⟨_,_,bL,rfl,q1, ?_,q3⟩
   have:=k0.trans q2 (by omega)
   simpa using this
 unfold YT at h
 split at h
 ·simp only [Option.some.injEq,Prod.mk.injEq] at h
  obtain ⟨rfl,rfl,rfl,rfl⟩:=h
  simp only [VL] at hx
  obtain ⟨_,s',rfl⟩:=hx
  exact fresh ι H [] s rfl (.refl _ _ _ _ _ (Nat.le_refl _)) none s' (λh=>absurd rfl h) rfl
 ·rename_i b sz' n w
  split at h
  case h_2=>cases h
  rename_i e
  obtain rfl:=Nat.eq_of_beq_eq_true e
  -- one's own
  have main:∀ (c:List AV) (sl:Bool) (H1:WH) (nO:VI) (old:List AV),dJ H b=some (.cells c false sl)→VS R nO H1 M→H1.length=H.length→Stp H.length [] ι H M nO H1 M→dJ H1 b=some (.cells c false sl)→old.length=n * sz' →
    (∀ c' t,bV M (OR R ι) (if sl then VI.none else ι) c c'→bV M (OR R nO) VI.none old (((c'++t).drop 0).take (n * sz')))→len=n →
    ∃ a' M' bL,gq sz' bytes a m new' M=some (a',M')∧VS R bL (iG H1 b none++[some (.cells (old++new) false true)]) M'∧Stp H.length [b] ι H M bL (iG H1 b none++[some (.cells (old++new) false true)]) M'∧VL M' (OR R bL) bL (.acc (iG H1 b none).length 0 sz' (n+m) true) a':=by
   intro c sl H1 nO old hg s1 hlen k1 hg1 ho hr hln
   subst hln
   obtain ⟨q1,q2,p,s',cap,ex,rfl,q3,q4,q5⟩:=VL.yR s hx hg
   have hnp:p=none→cap=0∧ex=true:=by
    simp only [VL] at hx
    obtain ⟨_,_,_,_,e,_,q,_⟩:=hx
    simp only [AV.slice.injEq] at e
    obtain ⟨rfl,rfl,_,rfl,rfl⟩:=e
    exact q
   have hnew1:=bV.acv k1 hnew
   rcases q5 with ⟨j,c',t,ro',sl',L,g1,g2,g3,g4,g5,g6,rfl,g7⟩ | ⟨rfl,rfl,rfl,⟨j,c',t,ro',sl',L,g1,g2,g3,g4,g5,g6⟩ | ⟨g1,rfl,rfl⟩⟩
   ·obtain rfl:=q4 (by simp)
    obtain ⟨rfl,_⟩:=g3 rfl
    have hj1:=((k1.le b (vU hg)).1 j g1).1
    have hlc:=g6.length
    have hcs:=Nat.mul_le_mul_right s' q3
    have hr':=hr c' t g6
    have hold:bV M (OR R nO) VI.none old ((c'++t).take (len * s')):=by simpa using hr'
    simp only [List.length_append] at g5
    by_cases hm:m=0
    ·obtain rfl:=hm0 hm
     subst hm
     have hn':new'=[]:=by
      have:=hnew.length
      exact List.eq_nil_of_length_eq_zero (by simpa using this.symm)
     subst hn'
     obtain ⟨bL,r1,r2,r3⟩:=Yt s1 hj1 hg1 (cs:=old++[]) (cs':=(c'++t).take (len * s')) (t:=(c'++t).drop (len * s')) (by rw [List.take_append_drop];exact g2) rfl (by simpa using hold) (by rw [List.take_append_drop,List.length_append];exact g5) (n:=len+0) (by simpa using ho) q3 hnp q4 (.inl ⟨rfl,by omega⟩)
     refine ⟨_,M,bL, ?_,r1, ?_,by rw [fu];exact r3⟩
     ·simp [gq,q3]
     ·have:=k1.trans r2 (by omega)
      simpa using this
    by_cases hfit:len+m≤cap
    ·-- in place
     have hle:len * s'+new'.length≤(c'++t).length:=by
      have:=Nat.mul_le_mul_right s' hfit
      rw [← hnew.length,hl,List.length_append,← Nat.add_mul]
      omega
     have hw:M.write j (0+len * s') new'=some (M.put j (some (.cells ((c'++t).take (len * s')++new'++(c'++t).drop (len * s'+new'.length)) false sl'))):=by
      simp only [Heap.write,g2,Nat.zero_add]
      rw [if_pos hle]
     have hlenp:L≤(((c'++t).take (len * s')++new')++(c'++t).drop (len * s'+new'.length)).length:=by
      simp only [List.length_append,List.length_take,List.length_drop] at hle ⊢
      omega
     obtain ⟨r1,r2,r3⟩:=s1.swap hj1 hg1 (x:=.cells (old++new) false true) (y:=.cells ((c'++t).take (len * s')++new'++(c'++t).drop (len * s'+new'.length)) false sl') (d:=((old++new).length,L))
      ⟨(c'++t).take (len * s')++new',(c'++t).drop (len * s'+new'.length),false,sl',L,rfl,λ_=>rfl,rfl,hlenp,by simpa using hold.append hnew1,λh=>by cases h⟩
     refine ⟨.slice (some (j,0)) s' (len+m) cap ex,_,_, ?_,r1, ?_, ?_⟩
     rotate_left
     ·have:=k1.trans r2 (by omega)
      simpa using this
     ·rw [fu]
      simp only [VL]
      refine ⟨some (j,0),s',cap,ex,rfl,hfit,(λh=>by cases h),λ_=>rfl,(old++new).length,L,by simp [VI.add,setAt], ?_,λ_=>⟨trivial, ?_⟩,.inl ⟨j,r3,.inl ⟨rfl,by omega⟩⟩⟩
      ·rw [List.length_append,ho,hl,Nat.add_mul];omega
      ·rw [List.length_append,ho,hl,Nat.add_mul]
     ·unfold gq
      simp only
      rw [if_neg (by simp),if_pos hfit,if_neg hm,hw]
      rfl
    ·obtain ⟨ahT,e1,e2⟩:∃ ahT,(if (ex=true∧len=0) then some [] else M.read j 0 (len * s'))=some ahT∧bV M (OR R nO) VI.none old ahT:=by
      by_cases hc:ex=true∧len=0
      ·rw [if_pos hc]
       rw [hc.2,Nat.zero_mul] at ho
       obtain rfl:=List.eq_nil_of_length_eq_zero ho
       exact ⟨[],rfl,by simp [bV]⟩
      ·rw [if_neg hc]
       refine ⟨(c'++t).take (len * s'), ?_,hold⟩
       simp only [Heap.read,g2]
       rw [if_pos (by simp only [List.length_append];omega),List.drop_zero]
     have hlo:(old++new).length=(len+m) * s':=by rw [List.length_append,ho,hl,Nat.add_mul]
     cases ex with
     | true =>
      have e:gq s' bytes (.slice (some (j,0)) s' len cap true) m new' M=some (.slice (some (M.next,0)) s' (len+m) (len+m) false,M.push (.cells (ahT++new') false true)):=by
       unfold gq
       simp only
       rw [if_neg (by simp),if_neg hfit,if_pos hf']
       simp only [eq_self,true_and,if_true] at e1 ⊢
       rw [e1]
       rfl
      obtain ⟨r1,r2⟩:=s1.kill hj1 hg1 (M.get j)
      rw [Heap.SS rfl] at r1 r2
      have rk:=k1.trans r2 (by omega)
      obtain ⟨bL,u1,u2,u3⟩:=Yr r1 (cs:=old++new) (cs':=ahT++new') (bV.acv r2 (e2.append hnew1)) hlo false true
      rw [e]
      refine ⟨_,_,bL,rfl,u1, ?_,u3⟩
      have:=rk.trans u2 (by rw [fu];omega)
      simpa using this
     | false =>
      have e:gq s' bytes (.slice (some (j,0)) s' len cap false) m new' M=some (.slice (some (M.next,0)) s' (len+m) (len+m) false,(M.put j none).push (.cells (ahT++new') false true)):=by
       unfold gq
       simp only
       rw [if_neg (by simp),if_neg hfit,if_pos hf']
       simp only [Bool.false_eq_true,false_and,if_false] at e1 ⊢
       rw [e1]
       simp [g2]
      obtain ⟨r1,r2⟩:=s1.kill hj1 hg1 none
      have rk:=k1.trans r2 (by omega)
      obtain ⟨bL,u1,u2,u3⟩:=Yr r1 (cs:=old++new) (cs':=ahT++new') (bV.acv r2 (e2.append hnew1)) hlo false true
      rw [e]
      refine ⟨_,_,bL,rfl,u1, ?_,u3⟩
      have:=rk.trans u2 (by rw [fu];omega)
      simpa using this
   ·-- empty,and no room
    rw [Nat.zero_mul] at ho
    obtain rfl:=List.eq_nil_of_length_eq_zero ho
    have hj1:=((k1.le b (vU hg)).1 j g1).1
    by_cases hm:m=0
    ·obtain rfl:=hm0 hm
     subst hm
     have hn':new'=[]:=by
      have:=hnew.length
      exact List.eq_nil_of_length_eq_zero (by simpa using this.symm)
     subst hn'
     obtain ⟨bL,r1,r2,r3⟩:=Yt s1 hj1 hg1 (cs:=[]++[]) (cs':=[]) (t:=c'++t) g2 (g3 rfl).1 (by simp [bV]) g5 (n:=0+0) (sz:=sz') (by simp) (Nat.le_refl _) hnp (s':=sz') (λ_=>rfl) (.inr ⟨rfl,rfl,rfl⟩)
     refine ⟨_,M,bL, ?_,r1, ?_,by rw [fu];exact r3⟩
     ·cases p with
      | none=>simp [gq]
      | some p=>obtain rfl:=q4 (by simp);simp [gq]
     ·have:=k1.trans r2 (by omega)
      simpa using this
    ·obtain ⟨r1,r2⟩:=s1.kill hj1 hg1 (M.get j)
     rw [Heap.SS rfl] at r1 r2
     have:=fresh _ _ _ r1 (by rw [fu];exact hlen) (k1.trans r2 (by omega)) p s' q4 rfl
     simpa using this
   ·rw [Nat.zero_mul] at ho
    obtain rfl:=List.eq_nil_of_length_eq_zero ho
    have hs1:=((k1.le b (vU hg)).2 g1).1
    obtain ⟨r1,r2⟩:=s1.ajU hs1
    have:=fresh _ _ _ r1 (by rw [fu];exact hlen) (k1.trans r2 (by omega)) p s' q4 rfl
    simpa using this
  split at h
  ·rename_i c hg
   simp only [Option.some.injEq,Prod.mk.injEq] at h
   obtain ⟨rfl,rfl,rfl,rfl⟩:=h
   obtain ⟨k1,k2,_⟩:=VL.yR s hx hg
   exact main c true H ι _ hg s rfl (.refl _ _ _ _ _ (Nat.le_refl _)) hg (SV k1 k2) (λc' t hc=>SX (by simpa using hc) k1 k2) rfl
  ·rename_i c hg
   split at h
   case h_2=>cases h
   split at h
   case h_2=>cases h
   rename_i p hp
   split at h
   case h_2=>cases h
   rename_i hb
   simp only [Option.some.injEq,Prod.mk.injEq] at h
   obtain ⟨rfl,rfl,rfl,rfl⟩:=h
   obtain ⟨k1,k2,_⟩:=VL.yR s hx hg
   obtain ⟨k3,k4⟩:=k2 rfl
   obtain ⟨u1,u2⟩:=s.akO p.2 (zw (λv p=>xR 5 true v p) _ _ hp)
   refine main c false (KM H p.2) (ι.Cq p.2) _ hg u1 (xQ _ _) u2 ?_ (by rw [S9 _ _ hp,k4]) (λc' t hc=>?_) rfl
   ·rw [Jy,hb]
    exact hg
   ·simp only [Bool.false_eq_true,if_false] at hc
    have:=adM s hp hc
    rw [List.drop_zero,k4,hc.length,List.take_left' rfl]
    exact this
  ·cases h
 ·cases h
end Go.Proofs.YtohoggieaanllaaGreat
end
section
set_option linter.all false
set_option linter.unusedSimpArgs false
namespace Go.Proofs.YtohoggieaanllaaGreat
theorem Te:∀ {p:List Nat} {b k:Nat},CO p b=some k→p[k]?=some b
 | [],b,k,h=>by simp [CO] at h
 | a::r,b,k,h=>by
  simp only [CO] at h
  split at h
  ·rename_i e
   obtain rfl:=Option.some.inj h
   simp [Nat.eq_of_beq_eq_true e]
  ·split at h
   ·rename_i k' hk
    obtain rfl:=Option.some.inj h
    simpa using Te hk
   ·cases h
theorem U9:∀ {p:List Nat} {b:Nat},CO p b=none→b ∉ p
 | [],b,_=>by simp
 | a::r,b,h=>by
  simp only [CO] at h
  split at h
  ·cases h
  ·rename_i e
   split at h
   ·cases h
   ·rename_i hr
    simp only [List.mem_cons,not_or]
    exact ⟨λe'=>by subst e';simp at e,U9 hr⟩
theorem Ho:∀ {p:List Nat} (hp:p.Nodup) {b k:Nat} (h:p[k]?=some b),CO p b=some k
 | [],_,b,k,h=>by simp at h
 | a::r,hp,b,0,h=>by
  simp only [List.getElem?_cons_zero,Option.some.injEq] at h
  subst h
  simp [CO]
 | a::r,hp,b,k+1,h=>by
  simp only [List.getElem?_cons_succ] at h
  rw [List.nodup_cons] at hp
  have hne:a≠b:=λe=>hp.1 (e ▸ List.mem_of_getElem? h)
  have:Nat.beq a b=false:=by
   cases hh:Nat.beq a b with
   | false=>rfl
   | true=>exact absurd (Nat.eq_of_beq_eq_true hh) hne
  simp only [CO,this,Ho hp.2 h]
def Via (f:Nat→Option Nat) (κ yE:VI):Prop:=∀ b k,f b=some k→(∀ j,κ b=some j→yE k=some j)∧(κ.U3 b=true→yE.U3 k=true)∧(∀ d,κ.dim b=some d→yE.dim k=some d)
mutual
theorem VL.rn {M M':Heap} {O O':Nat→Prop} (hk:Keeps M O M' O') {f:Nat→Option Nat} {κ yE:VI} (hf:Via f κ yE):∀ (v a:AV),VL M O κ v a→VL M' O' yE (Proofs.YtohoggieaanllaaGreat.rn f v) a
 | .undef,_,_=>by simp [Proofs.YtohoggieaanllaaGreat.rn,VL]
 | .bool _,_,e=>by simpa [Proofs.YtohoggieaanllaaGreat.rn,VL] using e
 | .int _ _,_,e=>by simpa [Proofs.YtohoggieaanllaaGreat.rn,VL] using e
 | .str _,_,e=>by simpa [Proofs.YtohoggieaanllaaGreat.rn,VL] using e
 | .ptr none,_,e=>by simpa [Proofs.YtohoggieaanllaaGreat.rn,VL] using e
 | .ptr (some q),a,e=>by
  simp only [VL] at e
  obtain ⟨j,h1,rfl⟩:=e
  simp only [Proofs.YtohoggieaanllaaGreat.rn]
  split
  ·rename_i b hb
   simp only [VL]
   exact ⟨j,(hf _ _ hb).1 j h1,rfl⟩
  ·simp [VL]
 | .slice none _ _ _ _,_,e=>by simpa [Proofs.YtohoggieaanllaaGreat.rn,VL] using e
 | .slice (some _) _ _ _ _,_,e=>by simp [VL] at e
 | .map none,_,e=>by simpa [Proofs.YtohoggieaanllaaGreat.rn,VL] using e
 | .map (some r),a,e=>by
  simp only [VL] at e
  obtain ⟨j,h1,rfl⟩:=e
  simp only [Proofs.YtohoggieaanllaaGreat.rn]
  split
  ·rename_i b hb
   simp only [VL]
   exact ⟨j,(hf _ _ hb).1 j h1,rfl⟩
  ·simp [VL]
 | .func g cs,a,e=>by
  simp only [VL,Proofs.YtohoggieaanllaaGreat.rn] at e ⊢
  obtain ⟨cs',rfl,h⟩:=e
  exact ⟨cs',rfl,bV.rn hk hf cs cs' h⟩
 | .nilFunc,_,e=>by simpa [Proofs.YtohoggieaanllaaGreat.rn,VL] using e
 | .agg cs,a,e=>by
  simp only [VL,Proofs.YtohoggieaanllaaGreat.rn] at e ⊢
  obtain ⟨cs',rfl,h⟩:=e
  exact ⟨cs',rfl,bV.rn hk hf cs cs' h⟩
 | .tuple cs,a,e=>by
  simp only [VL,Proofs.YtohoggieaanllaaGreat.rn] at e ⊢
  obtain ⟨cs',rfl,h⟩:=e
  exact ⟨cs',rfl,bV.rn hk hf cs cs' h⟩
 | .list sz n cs ex,a,e=>by
  simp only [Proofs.YtohoggieaanllaaGreat.rn]
  exact VL.mono hk κ yE _ _ (λi hi=>by simp [CK] at hi) e
 | .elem cs,a,e=>by
  simp only [Proofs.YtohoggieaanllaaGreat.rn]
  exact VL.mono hk κ yE _ _ (λi hi=>by simp [CK] at hi) e
 | .acc b o sz n w,a,e=>by
  simp only [Proofs.YtohoggieaanllaaGreat.rn]
  split
  ·rename_i b' hb
   simp only [VL] at e ⊢
   obtain ⟨p,s',cap,ex,h1,h2,h3,h4,m,L,h5,h6,h7,h8⟩:=e
   obtain ⟨f1,f2,f3⟩:=hf _ _ hb
   exact ⟨p,s',cap,ex,h1,h2,h3,h4,m,L,f3 _ h5,h6,h7,h8.imp (λ⟨j,k1,k2⟩=>⟨j,f1 j k1,k2⟩) (λ⟨k1,k2⟩=>⟨f2 k1,k2⟩)⟩
  ·simp [VL]
theorem bV.rn {M M':Heap} {O O':Nat→Prop} (hk:Keeps M O M' O') {f:Nat→Option Nat} {κ yE:VI} (hf:Via f κ yE):∀ (l r:List AV),bV M O κ l r→bV M' O' yE (rnL f l) r
 | [],[],_=>by simp [rnL,bV]
 | v::l,a::r,e=>by
  simp only [bV,rnL] at e ⊢
  exact ⟨VL.rn hk hf v a e.1,bV.rn hk hf l r e.2⟩
 | [],_::_,e=>by simp [bV] at e
 | _::_,[],e=>by simp [bV] at e
end
theorem ajY {f:Nat→Option Nat}:∀ (l:List AV),(rnL f l).length=l.length
 | []=>rfl
 | _::l=>by simp [rnL,ajY l]
theorem BL.rn {M M':Heap} {O O':Nat→Prop} (hk:Keeps M O M' O') {f:Nat→Option Nat} {κ yE:VI} (hf:Via f κ yE) {d:Option (Nat×Nat)} {x:mU} {y:Option mU} (r:BL M O κ d x y):BL M' O' yE d (rnB f x) y:=by
 cases x with
 | cells c ro sl =>
  obtain ⟨c',t,ro',sl',L,rfl,h0,h1,h2,h3,h4⟩:=r
  cases sl with
  | true=>exact ⟨c',t,ro',sl',L,rfl,h0,h1,h2,bV.mono hk _ _ c c' (.refl _ _) h3,h4⟩
  | false=>exact ⟨c',t,ro',sl',L,rfl,h0,by rw [ajY];exact h1,h2,bV.rn hk hf c c' h3,h4⟩
 | map es=>exact r.elim
theorem adN (f:Nat→Option Nat) (x:mU):(rnB f x).ro=x.ro:=by
 cases x with
 | cells c ro sl=>cases sl<;>rfl
 | map es=>rfl
mutual
theorem VL.retag {M:Heap} {O:Nat→Prop} {κ:VI} (v t a:AV) (h:VL M O κ v a):VL M O κ (Proofs.YtohoggieaanllaaGreat.retag v t) a:=by
 rw [Proofs.YtohoggieaanllaaGreat.retag.eq_def]
 split
 ·split
  ·simp only [VL] at h ⊢
   exact h
  ·exact h
 ·split
  ·simp only [VL] at h ⊢
   obtain ⟨cs',rfl,h⟩:=h
   exact ⟨cs',rfl,bV.retag _ _ _ h⟩
  ·exact h
 ·split
  ·simp only [VL] at h ⊢
   obtain ⟨cs',rfl,h⟩:=h
   exact ⟨cs',rfl,bV.retag _ _ _ h⟩
  ·exact h
 ·exact h
termination_by SizeOf.sizeOf v
theorem bV.retag {M:Heap} {O:Nat→Prop} {κ:VI} (l ts r:List AV) (h:bV M O κ l r):bV M O κ (sV l ts) r:=by
 rw [sV.eq_def]
 split
 ·split
  ·cases r with
   | nil=>simp [bV] at h
   | cons a r =>
    simp only [bV] at h ⊢
    exact ⟨VL.retag _ _ _ h.1,bV.retag _ _ _ h.2⟩
  ·exact h
 ·exact h
termination_by SizeOf.sizeOf l
end
theorem Fv {H:WH} {p:List Nat}:∀ (q:List Nat),(zW H p q).length=q.length
 | []=>rfl
 | _::q=>by simp [zW,Fv q]
theorem rD {H:WH} {p:List Nat}:∀ (q:List Nat) (k:Nat),dJ (zW H p q) k=match q[k]? with
  | some b=>rnO (CO p) (dJ H b)
  | none=>none
 | [],k=>by simp [zW,dJ]
 | b::q,0=>by simp [zW,dJ]
 | b::q,k+1=>by simp [zW,dJ,rD q k]
theorem zY {f:Nat→Option Nat} {x:Option mU} {y:mU} (h:rnO f x=some y):∃ z,x=some z∧y=rnB f z:=by
 cases x with
 | none=>simp [rnO] at h
 | some z=>simp only [rnO,Option.some.injEq] at h;exact ⟨z,rfl,h.symm⟩
def iP (ι:VI) (p:List Nat):VI:=⟨λk=>match p[k]? with
  | some b=>ι b
  | none=>none,λk=>match p[k]? with
  | some b=>ι.U3 b
  | none=>false,λk=>match p[k]? with
  | some b=>ι.gone b
  | none=>true,λk=>match p[k]? with
  | some b=>ι.dim b
  | none=>none⟩
theorem Jz {ι:VI} {p:List Nat}:Via (CO p) ι (iP ι p):=λb k h=>by
 have:=Te h
 simp only [iP,this]
 exact ⟨λ_ h=>h,λh=>h,λ_ h=>h⟩
theorem Fw {ι:VI} {p:List Nat} {j:Nat} (h:own (iP ι p) j):∃ b,b∈p∧ι b=some j∧ι.gone b=false:=by
 obtain ⟨k,h1,h2⟩:=h
 simp only [iP] at h1 h2
 cases e:p[k]? with
 | none=>rw [e] at h1;cases h1
 | some b =>
  rw [e] at h1 h2
  exact ⟨b,List.mem_of_getElem? e,h1,h2⟩
theorem VS.pick {R R':Nat→Prop} {ι:VI} {H:WH} {M:Heap} (s:VS R ι H M) {p:List Nat} (hp:p.Nodup) (hR:∀ j,R' j→j < M.next∧∀ b,b∈p→act ι H b→ι b≠some j) (hO:∀ j,OR R' (iP ι p) j→OR R ι j) :
  VS R' (iP ι p) (zW H p p) M:=by
 have hk:Keeps M (OR R ι) M (OR R' (iP ι p)):=⟨Nat.le_refl _,λb _ h=>⟨rfl,λk=>h (hO b k)⟩⟩
 have ac:∀ k,act (iP ι p) (zW H p p) k→∃ b,p[k]?=some b∧act ι H b:=λk h=>by
  cases e:p[k]? with
  | none =>
   rcases h with ⟨x,h⟩ | h
   ·rw [rD,e] at h;cases h
   ·simp only [iP,e] at h;cases h
  | some b =>
   refine ⟨b,rfl, ?_⟩
   rcases h with ⟨x,h⟩ | h
   ·rw [rD,e] at h
    obtain ⟨z,hz,_⟩:=zY h
    exact .inl ⟨z,hz⟩
   ·simp only [iP,e] at h
    exact .inr h
 have at':∀ {k b},p[k]?=some b→(iP ι p) k=ι b∧(iP ι p).U3 k=ι.U3 b∧(iP ι p).gone k=ι.gone b∧(iP ι p).dim k=ι.dim b:=λe=>by simp [iP,e]
 refine ⟨λk j h=>?_,λk k' j h h' e e' g=>?_,λk x hx=>?_,λk h=>?_,λk hk' c sl h=>?_,s.okM,λj h=>⟨(hR j h).1,λk hk'=>?_⟩⟩
 ·cases e:p[k]? with
  | none=>simp only [iP,e] at h;cases h
  | some b =>
   rw [(at' e).1] at h
   exact ⟨by rw [Fv];exact (List.getElem?_eq_some_iff.1 e).1,(s.lt b j h).2⟩
 ·obtain ⟨b,q1,q2⟩:=ac k h
  obtain ⟨b',q1',q2'⟩:=ac k' h'
  rw [(at' q1).1] at e
  rw [(at' q1').1] at e'
  rw [(at' q1).2.2.1,(at' q1').2.2.1] at g
  have:=s.inj b b' j q2 q2' e e' g
  subst this
  have:=Ho hp q1
  rw [Ho hp q1'] at this
  exact (Option.some.inj this).symm
 ·cases e:p[k]? with
  | none=>rw [rD,e] at hx;cases hx
  | some b =>
   rw [rD,e] at hx
   obtain ⟨z,hz,rfl⟩:=zY hx
   rw [(at' e).1,(at' e).2.1,(at' e).2.2.1,(at' e).2.2.2,adN]
   rcases s.blk b z hz with ⟨h1,h2,ro,rfl⟩ | ⟨j,h1,h2,h3⟩
   ·exact .inl ⟨h1,h2,ro,rfl⟩
   ·exact .inr ⟨j,h1,BL.rn hk Jz h2,h3⟩
 ·cases e:p[k]? with
  | none=>simp only [iP,e] at h;cases h
  | some b =>
   rw [(at' e).2.1] at h
   rw [(at' e).1]
   exact ⟨by rw [Fv];exact (List.getElem?_eq_some_iff.1 e).1,(s.CP b h).2⟩
 ·cases e:p[k]? with
  | none=>rw [rD,e] at h;cases h
  | some b =>
   rw [(at' e).2.2.1] at hk'
   rw [rD,e] at h
   obtain ⟨z,hz,h2⟩:=zY h
   have hr:=adN (CO p) z
   rw [← h2] at hr
   cases z with
   | cells c' ro sl' =>
    simp only [mU.ro] at hr
    subst hr
    exact s.Cq b hk' c' sl' hz
   | map es=>cases h2
 ·obtain ⟨b,q1,q2⟩:=ac k hk'
  rw [(at' q1).1]
  exact (hR j h).2 b (List.mem_of_getElem? q1) q2
theorem Pw {H:WH} {np:Nat}:∀ (l seen:List Nat),(MJ H np seen l).Nodup∧∀ x,x∈MJ H np seen l→x∈l∧vS seen x=false∧(x < np∨∃ y,dJ H x=some y)
 | [],seen=>by simp [MJ]
 | a::r,seen=>by
  simp only [MJ]
  cases h:vS seen a with
  | true =>
   obtain ⟨h1,h2⟩:=Pw r seen
   exact ⟨h1,λx hx=>⟨List.mem_cons_of_mem _ (h2 x hx).1,(h2 x hx).2⟩⟩
  | false =>
   obtain ⟨h1,h2⟩:=Pw (H:=H) (np:=np) r (a::seen)
   have hne:∀ x,x∈MJ H np (a::seen) r→x≠a∧vS seen x=false:=λx hx=>by
    have:=(h2 x hx).2.1
    simp only [vS] at this
    split at this
    ·cases this
    ·rename_i e
     exact ⟨λe'=>by subst e';simp at e,this⟩
   have auX:(x:Nat)→x∈MJ H np (a::seen) r→x∈a::r∧vS seen x=false∧(x < np∨∃ y,dJ H x=some y):=λx hx =>
    ⟨List.mem_cons_of_mem _ (h2 x hx).1,(hne x hx).2,(h2 x hx).2.2⟩
   have both:(a < np∨∃ y,dJ H a=some y)→(a::MJ H np (a::seen) r).Nodup∧∀ x,x∈a::MJ H np (a::seen) r→x∈a::r∧vS seen x=false∧(x < np∨∃ y,dJ H x=some y):=λha =>
    ⟨List.nodup_cons.2 ⟨λhm=>(hne a hm).1 rfl,h1⟩,λx hx=>by
     rcases List.mem_cons.1 hx with rfl | hx
     ·exact ⟨List.mem_cons_self,h,ha⟩
     ·exact auX x hx⟩
   simp only
   split
   ·rename_i hb
    exact both (.inl (by simpa [Nat.blt_eq] using hb))
   ·split
    ·rename_i y hy
     exact both (.inr ⟨y,hy⟩)
    ·exact ⟨h1,auX⟩
theorem akP {a b:Nat} {l:List Nat} (h:a≠b):vS (a::l) b=vS l b:=by
 have:Nat.beq a b=false:=by
  cases hh:Nat.beq a b with
  | false=>rfl
  | true=>exact absurd (Nat.eq_of_beq_eq_true hh) h
 simp [vS,this]
theorem afA {H:WH} {np:Nat}:∀ (l seen r:List Nat),l.Nodup→(∀ x,x∈l→x < np∧vS seen x=false)→∃ r',MJ H np seen (l++r)=l++r'
 | [],seen,r,_,_=>⟨MJ H np seen r,rfl⟩
 | a::l,seen,r,hn,h=>by
  rw [List.nodup_cons] at hn
  obtain ⟨h1,h2⟩:=h a (by simp)
  obtain ⟨r',hr⟩:=afA (H:=H) (np:=np) l (a::seen) r hn.2 (λx hx=>⟨(h x (by simp [hx])).1,by
   have hne:a≠x:=λe=>hn.1 (by rw [e];exact hx)
   rw [akP hne]
   exact (h x (by simp [hx])).2⟩)
  refine ⟨r', ?_⟩
  simp only [List.cons_append,MJ,h2]
  rw [show Nat.blt a np=true by simpa [Nat.blt_eq] using h1]
  simp only [hr]
theorem adO (H:WH) (np:Nat) (roots:List Nat):(U1 H np roots).Nodup∧(∀ x,x∈U1 H np roots→x < np∨∃ y,dJ H x=some y)∧∃ r,U1 H np roots=List.range np++r:=by
 have pre:∀ r,∃ r',MJ H np [] (List.range np++r)=List.range np++r':=λr =>
  afA _ [] r List.nodup_range (λx hx=>⟨List.mem_range.1 hx,rfl⟩)
 have step:∀ l,(∃ r,l=List.range np++r)→∃ r,amJ H np l=List.range np++r:=λl ⟨r,h⟩=>by
  subst h
  unfold amJ
  rw [List.append_assoc]
  exact pre _
 refine ⟨(Pw _ _).1,λx hx=>((Pw _ _).2 x hx).2.2, ?_⟩
 exact step _ (step _ (step _ (pre _)))
theorem ara {H:WH} {np i:Nat} {roots:List Nat} (h:i < np):(U1 H np roots)[i]?=some i:=by
 obtain ⟨_,_,r,hr⟩:=adO H np roots
 rw [hr,List.getElem?_append_left (by simpa using h)]
 simp [h]
theorem auY {R:Nat→Prop} {ι:VI} {H:WH} {M:Heap} (s:VS R ι H M) {np:Nat} (hn:np≤H.length) (roots:List Nat) {vs as:List AV} (hv:bV M (OR R ι) ι vs as) :
  ∃ bL,VS R bL (zW H (U1 H np roots) (U1 H np roots)) M∧Stp np [] ι H M bL (zW H (U1 H np roots) (U1 H np roots)) M∧bV M (OR R bL) bL (rnL (CO (U1 H np roots)) vs) as:=by
 obtain ⟨h1,h2,r,hr⟩:=adO H np roots
 have hlow:∀ i,i < np→(U1 H np roots)[i]?=some i:=λi=>ara
 generalize U1 H np roots=p at *
 have hsub:∀ j,OR R (iP ι p) j→OR R ι j:=λj h=>h.imp (λh=>by
  obtain ⟨b,_,h3,h4⟩:=Fw h
  exact ⟨b,h3,h4⟩) id
 have hs:=s.pick h1 (R':=R) (λj h=>⟨(s.res j h).1,λb _ hb=>(s.res j h).2 b hb⟩) hsub
 have hko:Keeps M (own ι) M (own (iP ι p)):=⟨Nat.le_refl _,λb _ h=>⟨rfl,λk=>h (by obtain ⟨b',_,h3,h4⟩:=Fw k;exact ⟨b',h3,h4⟩)⟩⟩
 refine ⟨_,hs,⟨hko,λi hi=>?_,λi hi h=>?_,λi hi=>by simp only [iP,hlow i hi],λi hi=>by simp only [iP,hlow i hi],λi hi _=>by simp only [iP,hlow i hi],λi hi h=>?_,λ_ _ _ _ _ _=>rfl, ?_⟩, ?_⟩
 ·have:=hlow i hi
  simp only [iP,this]
  exact ⟨λ_ h=>⟨h,λ_ h=>h⟩,λh=>⟨h,λ_ h=>h⟩⟩
 ·simp only [iP,hlow i hi]
  exact h
 ·obtain ⟨x,h⟩:=h
  rw [rD,hlow i hi] at h
  obtain ⟨z,hz,_⟩:=zY h
  exact ⟨z,hz⟩
 ·rw [Fv,hr]
  simp
 ·exact bV.rn ⟨Nat.le_refl _,λb _ h=>⟨rfl,λk=>h (hsub b k)⟩⟩ Jz _ _ hv
theorem U_ {R:Nat→Prop} {ι:VI} {H:WH} {M:Heap} (s:VS R ι H M) {np:Nat} (hn:np≤H.length) {ms bs:List (Option Bool)} {ts vs as:List AV} (hv:bV M (OR R ι) ι vs as) {k:List AV→WH→Prop} (h:YU np ms bs ts vs H k) :
  ∃ vs' blks bL,k vs' blks∧VS R bL blks M∧Stp np [] ι H M bL blks M∧bV M (OR R bL) bL vs' as:=by
 unfold YU at h
 obtain ⟨nO,h1,h2,h3⟩:=Yu ms (sV vs ts) H ι M as s (bV.retag _ _ _ hv)
 generalize hr:SK ms (sV vs ts) H=r at *
 obtain ⟨vs1,H1⟩:=r
 simp only at h h1 h2 h3
 obtain ⟨BK,k1,k2⟩:=Td bs none (U1 H1 np (qc vs1)) H1 nO M h1
 have k3:=bV.step h1 k2 h3
 obtain ⟨ι3,q1,q2,q3⟩:=auY k1 (Nat.le_trans hn (Nat.le_trans h2.next k2.next)) (qc vs1) k3
 refine ⟨_,_,ι3,h,q1, ?_,q3⟩
 have e1:Stp np [] ι H M nO H1 M:=h2.weak hn
 have e2:Stp np [] nO H1 M BK _ M:=k2.weak (Nat.le_trans hn h2.next)
 have:=(e1.trans e2 (Nat.le_refl _)).trans q2 (Nat.le_refl _)
 simpa using this
end Go.Proofs.YtohoggieaanllaaGreat
end
section
set_option linter.all false
set_option linter.unusedSimpArgs false
namespace Go.Proofs.YtohoggieaanllaaGreat
theorem Ri {f:Nat→Option Nat}:∀ (p:List Nat) (out H:WH),(BM f p out H).length=H.length
 | [],out,H=>by simp [BM]
 | b::p,[],H=>by simp [BM]
 | b::p,x::out,H=>by simp [BM,Ri p,fu]
theorem Nq {f:Nat→Option Nat}:∀ (p:List Nat) (out H:WH) (i:Nat),i ∉ p→dJ (BM f p out H) i=dJ H i
 | [],out,H,i,_=>by simp [BM]
 | b::p,[],H,i,_=>by simp [BM]
 | b::p,x::out,H,i,h=>by
  simp only [List.mem_cons,not_or] at h
  simp only [BM]
  rw [Nq p out _ i h.2,sG,if_neg (λe=>h.1 e.1)]
theorem Y1 {f:Nat→Option Nat}:∀ (p:List Nat) (out H:WH) (k b:Nat),p.Nodup→p.length≤out.length→p[k]?=some b→b < H.length→dJ (BM f p out H) b=rnO f (dJ out k)
 | [],out,H,k,b,_,_,h,_=>by simp at h
 | a::p,[],H,k,b,_,hl,_,_=>by simp at hl
 | a::p,x::out,H,0,b,hp,hl,h,hb=>by
  simp only [List.getElem?_cons_zero,Option.some.injEq] at h
  subst h
  rw [List.nodup_cons] at hp
  simp only [BM]
  rw [Nq p out _ a hp.1,sG,if_pos ⟨rfl,hb⟩]
  rfl
 | a::p,x::out,H,k+1,b,hp,hl,h,hb=>by
  simp only [List.getElem?_cons_succ] at h
  rw [List.nodup_cons] at hp
  simp only [List.length_cons] at hl
  simp only [BM]
  rw [Y1 p out _ k b hp.2 (by omega) h (by rw [fu];exact hb)]
  rfl
theorem acz:∀ (out:WH) (n k:Nat),dJ (out.drop n) k=dJ out (n+k)
 | out,0,k=>by simp
 | [],n+1,k=>by simp [dJ]
 | x::out,n+1,k=>by
  rw [List.drop_succ_cons,acz out n k,Nat.add_right_comm]
  rfl
theorem afB {f:Nat→Option Nat}:∀ (out:WH) (k:Nat),dJ (out.map (rnO f)) k=rnO f (dJ out k)
 | [],k=>by simp [dJ,rnO]
 | x::out,0=>by simp [dJ]
 | x::out,k+1=>by simp [dJ,afB out k]
def cls (n0:Nat) (p:List Nat) (i:Nat):Nat⊕Nat:=match CO p i with
 | some k=>.inl k
 | none=>if i < n0 then .inr i else .inl (p.length+(i - n0))
def w_ (ι JA:VI) (n0:Nat) (p:List Nat):VI:=⟨λi=>match cls n0 p i with
  | .inl k=>JA k
  | .inr i=>ι i,λi=>match cls n0 p i with
  | .inl k=>JA.U3 k
  | .inr i=>ι.U3 i,λi=>match cls n0 p i with
  | .inl k=>JA.gone k
  | .inr i=>ι.gone i,λi=>match cls n0 p i with
  | .inl k=>JA.dim k
  | .inr i=>ι.dim i⟩
section
variable {R:Nat→Prop} {ι:VI} {H:WH} {M:Heap} (s:VS R ι H M) {p:List Nat} (hp:p.Nodup) (hl:∀ b,b∈p→b < H.length) {out:WH} (ho:p.length≤out.length)
include hp hl
theorem Px {i k:Nat} (h:p[k]?=some i):cls H.length p i=.inl k:=by simp [cls,Ho hp h]
theorem Py {i k:Nat} (h:cls H.length p i=.inl k):(p[k]?=some i∧i < H.length)∨(i ∉ p∧H.length≤i∧k=p.length+(i - H.length)):=by
 unfold cls at h
 cases e:CO p i with
 | some k' =>
  rw [e] at h
  simp only [Sum.inl.injEq] at h
  subst h
  have:=Te e
  exact .inl ⟨this,hl i (List.mem_of_getElem? this)⟩
 | none =>
  rw [e] at h
  simp only at h
  split at h
  ·cases h
  ·simp only [Sum.inl.injEq] at h
   exact .inr ⟨U9 e,by omega,h.symm⟩
theorem Cr {i i':Nat} (h:cls H.length p i=.inr i'):i'=i∧i ∉ p∧i < H.length:=by
 unfold cls at h
 cases e:CO p i with
 | some k'=>rw [e] at h;cases h
 | none =>
  rw [e] at h
  simp only at h
  split at h
  ·simp only [Sum.inr.injEq] at h
   exact ⟨h.symm,U9 e,by assumption⟩
  ·cases h
theorem arb {i i' k:Nat} (h:cls H.length p i=.inl k) (h':cls H.length p i'=.inl k):i=i':=by
 rcases Py hp hl h with ⟨h1,_⟩ | ⟨_,h2,h3⟩<;>rcases Py hp hl h' with ⟨h1',_⟩ | ⟨_,h2',h3'⟩
 ·rw [h1] at h1'
  exact Option.some.inj h1'
 ·have:=(List.getElem?_eq_some_iff.1 h1).1
  omega
 ·have:=(List.getElem?_eq_some_iff.1 h1').1
  omega
 ·omega
theorem amS {k i:Nat} (h:back p H.length k=some i):cls H.length p i=.inl k:=by
 unfold back at h
 cases e:p[k]? with
 | some b =>
  rw [e] at h
  obtain rfl:=Option.some.inj h
  exact Px hp hl e
 | none =>
  rw [e] at h
  simp only [Option.some.injEq] at h
  have hk:p.length≤k:=by
   rw [List.getElem?_eq_none_iff] at e
   exact e
  unfold cls
  have hn:CO p i=none:=by
   cases e':CO p i with
   | none=>rfl
   | some k' =>
    have:=hl i (List.mem_of_getElem? (Te e'))
    omega
  rw [hn]
  simp only
  rw [if_neg (by omega)]
  congr 1
  omega
include ho
theorem akQ (i:Nat):dJ (SI H p out) i=match cls H.length p i with
  | .inl k=>rnO (back p H.length) (dJ out k)
  | .inr i=>dJ H i:=by
 unfold SI
 rw [SQ,Ri]
 cases h:cls H.length p i with
 | inl k =>
  rcases Py hp hl h with ⟨h1,h2⟩ | ⟨_,h2,rfl⟩
  ·rw [if_pos h2]
   simp only
   exact Y1 p out H k i hp ho h1 h2
  ·rw [if_neg (by omega)]
   simp only
   rw [afB,acz]
 | inr i' =>
  obtain ⟨rfl,h2,h3⟩:=Cr hp hl h
  rw [if_pos h3]
  exact Nq p out H _ h2
theorem akR:(SI H p out).length=H.length+(out.length - p.length):=by
 unfold SI
 simp [Ri]
theorem ard {R':Nat→Prop} (hR':∀ j,R' j↔R j∨(own ι j∧¬ own (iP ι p) j)) {JA:VI} {M':Heap} {blks:WH} (s:VS R ι H M) (sc:VS R' JA out M') (kc:Stp p.length (List.range p.length) (iP ι p) blks M JA out M') (hpl:∀ b,b∈p→∃ x,dJ H b=some x) (hbk:∀ k b,p[k]?=some b→(∃ x,dJ blks k=some x)→∃ x,dJ H b=some x) :
  VS R (w_ ι JA H.length p) (SI H p out) M'∧Stp H.length p ι H M (w_ ι JA H.length p) (SI H p out) M'∧∀ v a,VL M' (OR R' JA) JA v a→VL M' (OR R (w_ ι JA H.length p)) (w_ ι JA H.length p) (rn (back p H.length) v) a:=by
 have hinl:∀ {i k},cls H.length p i=.inl k→(w_ ι JA H.length p) i=JA k∧(w_ ι JA H.length p).U3 i=JA.U3 k∧(w_ ι JA H.length p).gone i=JA.gone k∧(w_ ι JA H.length p).dim i=JA.dim k:=λh=>by simp [w_,h]
 have hinr:∀ {i i'},cls H.length p i=.inr i'→(w_ ι JA H.length p) i=ι i∧(w_ ι JA H.length p).U3 i=ι.U3 i∧(w_ ι JA H.length p).gone i=ι.gone i∧(w_ ι JA H.length p).dim i=ι.dim i:=λh=>by
  obtain ⟨rfl,_⟩:=Cr hp hl h
  simp [w_,h]
 have hget:=akQ (out:=out) hp hl ho
 have hlen:=akR (out:=out) hp hl ho
 have hold:∀ {i},i ∉ p→i < H.length→cls H.length p i=.inr i:=λ{i} h1 h2=>by
  cases h:cls H.length p i with
  | inl k =>
   rcases Py hp hl h with ⟨h3,_⟩ | ⟨_,h3,_⟩
   ·exact absurd (List.mem_of_getElem? h3) h1
   ·omega
  | inr i'=>rw [(Cr hp hl h).1]
 have aci:∀ {i k},cls H.length p i=.inl k→act (w_ ι JA H.length p) (SI H p out) i→act JA out k:=λh ha=>by
  rcases ha with ⟨x,ha⟩ | ha
  ·rw [hget,h] at ha
   obtain ⟨z,hz,_⟩:=zY ha
   exact .inl ⟨z,hz⟩
  ·rw [(hinl h).2.2.1] at ha
   exact .inr ha
 have aco:∀ {i i'},cls H.length p i=.inr i'→act (w_ ι JA H.length p) (SI H p out) i→act ι H i:=λh ha=>by
  rcases ha with ⟨x,ha⟩ | ha
  ·obtain ⟨rfl,_⟩:=Cr hp hl h
   rw [hget,h] at ha
   exact .inl ⟨x,ha⟩
  ·rw [(hinr h).2.2.1] at ha
   exact .inr ha
 -- what is the caller's alone
 have ajZ:∀ {i j},i ∉ p→act ι H i→ι i=some j→¬ own (iP ι p) j:=λ{i j} h1 h2 h3 h4=>by
  obtain ⟨b,q1,q2,q3⟩:=Fw h4
  have:=s.inj b i j (.inr q3) h2 q2 h3 (.inl q3)
  subst this
  exact h1 q1
 have stays:∀ {i j},i ∉ p→act ι H i→ι i=some j→M'.get j=M.get j∧¬ own JA j:=λ{i j} h1 h2 h3=>kc.keep.get j (s.lt i j h3).2 (ajZ h1 h2 h3)
 have sub:∀ j,own (iP ι p) j→own ι j:=λj h=>by
  obtain ⟨b,_,h3,h4⟩:=Fw h
  exact ⟨b,h3,h4⟩
 have awq:∀ j,own (w_ ι JA H.length p) j→own JA j∨(∃ i,i ∉ p∧i < H.length∧ι i=some j∧ι.gone i=false):=λj ⟨i,h1,h2⟩=>by
  cases h:cls H.length p i with
  | inl k =>
   rw [(hinl h).1] at h1
   rw [(hinl h).2.2.1] at h2
   exact .inl ⟨k,h1,h2⟩
  | inr i' =>
   obtain ⟨rfl,q1,q2⟩:=Cr hp hl h
   rw [(hinr h).1] at h1
   rw [(hinr h).2.2.1] at h2
   exact .inr ⟨i',q1,q2,h1,h2⟩
 have hOO:∀ j,OR R (w_ ι JA H.length p) j→OR R' JA j:=λj h=>by
  rcases h with h | h
  ·rcases awq j h with h | ⟨i,q1,q2,q3,q4⟩
   ·exact .inl h
   ·exact .inr ((hR' j).2 (.inr ⟨⟨i,q3,q4⟩,ajZ q1 (.inr q4) q3⟩))
  ·exact .inr ((hR' j).2 (.inl h))
 have hkeep:Keeps M (own ι) M' (own (w_ ι JA H.length p)):=⟨kc.keep.next,λb hb h=>by
  obtain ⟨e1,e2⟩:=kc.keep.get b hb (λk=>h (sub b k))
  refine ⟨e1,λk=>?_⟩
  rcases awq b k with k | ⟨i,q1,q2,q3,q4⟩
  ·exact e2 k
  ·exact h ⟨i,q3,q4⟩⟩
 have hle:∀ S,VI.Le ι (w_ ι JA H.length p) S:=λS i _=>by
  by_cases hi:i∈p
  ·obtain ⟨k,hk⟩:=List.mem_iff_getElem?.1 hi
   have hc:=Px hp hl hk
   have hkl:=(List.getElem?_eq_some_iff.1 hk).1
   obtain ⟨e1,e2,e3,e4⟩:=hinl hc
   have:=kc.le k hkl
   simp only [iP,hk] at this
   rw [e1,e2,e4]
   exact this
  ·by_cases hlt:i < H.length
   ·obtain ⟨e1,e2,e3,e4⟩:=hinr (hold hi hlt)
    rw [e1,e2,e4]
    exact ⟨λ_ h=>⟨h,λ_ h=>h⟩,λh=>⟨h,λ_ h=>h⟩⟩
   ·exact ⟨λj h=>absurd (s.lt i j h).1 hlt,λh=>absurd (s.CP i h).1 hlt⟩
 have awr:Via (back p H.length) JA (w_ ι JA H.length p):=λk i h=>by
  obtain ⟨e1,e2,e3,e4⟩:=hinl (amS hp hl h)
  rw [e1,e2,e4]
  exact ⟨λ_ h=>h,λh=>h,λ_ h=>h⟩
 have hkO:Keeps M' (OR R' JA) M' (OR R (w_ ι JA H.length p)):=⟨Nat.le_refl _,λb _ h=>⟨rfl,λk=>h (hOO b k)⟩⟩
 refine ⟨⟨λi j h=>?_,λi i' j h h' e e' g=>?_,λi x hx=>?_,λi h=>?_,λi hi c sl h=>?_,sc.okM,λj h=>⟨?_,λi hi=>?_⟩⟩,⟨hkeep,hle _,λi hi h=>?_,λi hi=>?_,λi hi=>?_,λi hi h=>?_,λi hi h=>?_,λi j hi h hj hn=>?_,by rw [hlen];omega⟩,λv a h=>VL.rn hkO awr v a h⟩
 ·rw [hlen]
  cases hc:cls H.length p i with
  | inl k =>
   rw [(hinl hc).1] at h
   obtain ⟨q1,q2⟩:=sc.lt k j h
   refine ⟨?_,q2⟩
   rcases Py hp hl hc with ⟨_,h2⟩ | ⟨_,h2,rfl⟩<;>omega
  | inr i' =>
   rw [(hinr hc).1] at h
   obtain ⟨q1,q2⟩:=s.lt i j h
   exact ⟨by omega,Nat.lt_of_lt_of_le q2 kc.keep.next⟩
 ·cases hc:cls H.length p i with
  | inl k =>
   cases hc':cls H.length p i' with
   | inl k' =>
    rw [(hinl hc).1] at e
    rw [(hinl hc').1] at e'
    rw [(hinl hc).2.2.1,(hinl hc').2.2.1] at g
    have:=sc.inj k k' j (aci hc h) (aci hc' h') e e' g
    subst this
    exact arb hp hl hc hc'
   | inr i2 =>
    exfalso
    obtain ⟨rfl,q1,q2⟩:=Cr hp hl hc'
    have ha:=aco hc' h'
    rw [(hinl hc).1] at e
    rw [(hinr hc').1] at e'
    rw [(hinl hc).2.2.1,(hinr hc').2.2.1] at g
    rcases g with g | g
    ·exact (stays q1 ha e').2 ⟨k,e,g⟩
    ·exact (sc.res j ((hR' j).2 (.inr ⟨⟨i2,e',g⟩,ajZ q1 ha e'⟩))).2 k (aci hc h) e
  | inr i1 =>
   obtain ⟨rfl,q1,q2⟩:=Cr hp hl hc
   have ha:=aco hc h
   rw [(hinr hc).1] at e
   cases hc':cls H.length p i' with
   | inl k' =>
    exfalso
    rw [(hinl hc').1] at e'
    rw [(hinr hc).2.2.1,(hinl hc').2.2.1] at g
    rcases g with g | g
    ·exact (sc.res j ((hR' j).2 (.inr ⟨⟨i1,e,g⟩,ajZ q1 ha e⟩))).2 k' (aci hc' h') e'
    ·exact (stays q1 ha e).2 ⟨k',e',g⟩
   | inr i2 =>
    obtain ⟨rfl,q1',q2'⟩:=Cr hp hl hc'
    rw [(hinr hc').1] at e'
    rw [(hinr hc).2.2.1,(hinr hc').2.2.1] at g
    exact s.inj i1 i2 j ha (aco hc' h') e e' g
 ·cases hc:cls H.length p i with
  | inl k =>
   rw [hget,hc] at hx
   obtain ⟨z,hz,rfl⟩:=zY hx
   obtain ⟨e1,e2,e3,e4⟩:=hinl hc
   rw [e1,e2,e3,e4,adN]
   rcases sc.blk k z hz with ⟨h1,h2,ro,rfl⟩ | ⟨j,h1,h2,h3⟩
   ·exact .inl ⟨h1,h2,ro,rfl⟩
   ·exact .inr ⟨j,h1,BL.rn hkO awr h2,h3⟩
  | inr i' =>
   obtain ⟨rfl,q1,q2⟩:=Cr hp hl hc
   rw [hget,hc] at hx
   obtain ⟨e1,e2,e3,e4⟩:=hinr hc
   rw [e1,e2,e3,e4]
   rcases s.blk i' x hx with h | ⟨j,h1,h2,h3⟩
   ·exact .inl h
   ·refine .inr ⟨j,h1, ?_,h3⟩
    rw [(stays q1 (.inl ⟨x,hx⟩) h1).1]
    exact h2.mono (hkeep.or R) hle (λ_ h=>h)
 ·rw [hlen]
  cases hc:cls H.length p i with
  | inl k =>
   rw [(hinl hc).2.1] at h
   rw [(hinl hc).1]
   obtain ⟨q1,q2⟩:=sc.CP k h
   refine ⟨?_,q2⟩
   rcases Py hp hl hc with ⟨_,h2⟩ | ⟨_,h2,rfl⟩<;>omega
  | inr i' =>
   rw [(hinr hc).2.1] at h
   rw [(hinr hc).1]
   obtain ⟨q1,q2⟩:=s.CP i h
   exact ⟨by omega,q2⟩
 ·cases hc:cls H.length p i with
  | inl k =>
   rw [(hinl hc).2.2.1] at hi
   rw [hget,hc] at h
   obtain ⟨z,hz,h2⟩:=zY h
   have hr:=adN (back p H.length) z
   rw [← h2] at hr
   cases z with
   | cells c' ro sl' =>
    simp only [mU.ro] at hr
    subst hr
    exact sc.Cq k hi c' sl' hz
   | map es=>cases h2
  | inr i' =>
   obtain ⟨rfl,q1,q2⟩:=Cr hp hl hc
   rw [(hinr hc).2.2.1] at hi
   rw [hget,hc] at h
   exact s.Cq i' hi c sl h
 ·exact Nat.lt_of_lt_of_le (s.res j h).1 kc.keep.next
 ·cases hc:cls H.length p i with
  | inl k =>
   rw [(hinl hc).1]
   exact (sc.res j ((hR' j).2 (.inl h))).2 k (aci hc hi)
  | inr i' =>
   rw [(hinr hc).1]
   exact (s.res j h).2 i (aco hc hi)
 ·by_cases hm:i∈p
  ·obtain ⟨k,hk⟩:=List.mem_iff_getElem?.1 hm
   rw [(hinl (Px hp hl hk)).2.2.1]
   refine kc.gone k (List.getElem?_eq_some_iff.1 hk).1 ?_
   simp only [iP,hk]
   exact h
  ·rw [(hinr (hold hm hi)).2.2.1]
   exact h
 ·by_cases hm:i∈p
  ·obtain ⟨k,hk⟩:=List.mem_iff_getElem?.1 hm
   rw [(hinl (Px hp hl hk)).1,kc.toq k (List.getElem?_eq_some_iff.1 hk).1]
   simp only [iP,hk]
  ·rw [(hinr (hold hm hi)).1]
 ·by_cases hm:i∈p
  ·obtain ⟨k,hk⟩:=List.mem_iff_getElem?.1 hm
   rw [(hinl (Px hp hl hk)).2.2.2,kc.ahL k (List.getElem?_eq_some_iff.1 hk).1]
   simp only [iP,hk]
  ·rw [(hinr (hold hm hi)).2.2.2]
 ·by_cases hm:i∈p
  ·obtain ⟨x,hx⟩:=hpl i hm
   rw [h] at hx
   cases hx
  ·rw [(hinr (hold hm hi)).2.2.1]
 ·obtain ⟨x,h⟩:=h
  by_cases hm:i∈p
  ·obtain ⟨k,hk⟩:=List.mem_iff_getElem?.1 hm
   rw [hget,Px hp hl hk] at h
   obtain ⟨z,hz,_⟩:=zY h
   exact hbk k i hk (kc.live k (List.getElem?_eq_some_iff.1 hk).1 ⟨z,hz⟩)
  ·rw [hget,hold hm hi] at h
   exact ⟨x,h⟩
 ·exact (stays hn (aco (hold hn hi) h) hj).1
end
mutual
theorem afC {M M':Heap} {O O':Nat→Prop} {κ yE:VI}:∀ (v a:AV),uI v=true→VL M O κ v a→VL M' O' yE v a
 | .bool _,a,_,h=>by simp only [VL] at h ⊢;exact h
 | .int ..,a,_,h=>by simp only [VL] at h ⊢;exact h
 | .str _,a,_,h=>by simp only [VL] at h ⊢;exact h
 | .ptr none,a,_,h=>by simp only [VL] at h ⊢;exact h
 | .nilFunc,a,_,h=>by simp only [VL] at h ⊢;exact h
 | .slice none s l c e,a,hs,h=>by simp only [VL] at h ⊢;exact h
 | .tuple cs,a,hs,h=>by
  simp only [uI] at hs
  simp only [VL] at h ⊢
  obtain ⟨cs',e,h⟩:=h
  exact ⟨cs',e,Va cs cs' hs h⟩
 | .agg cs,a,hs,h=>by
  simp only [uI] at hs
  simp only [VL] at h ⊢
  obtain ⟨cs',e,h⟩:=h
  exact ⟨cs',e,Va cs cs' hs h⟩
 | .undef,_,hs,_=>by simp [uI] at hs
 | .ptr (some _),_,hs,_=>by simp [uI] at hs
 | .slice (some _) _ _ _ _,_,hs,_=>by simp [uI] at hs
 | .map _,_,hs,_=>by simp [uI] at hs
 | .func _ _,_,hs,_=>by simp [uI] at hs
 | .list ..,_,hs,_=>by simp [uI] at hs
 | .elem _,_,hs,_=>by simp [uI] at hs
 | .acc ..,_,hs,_=>by simp [uI] at hs
theorem Va {M M':Heap} {O O':Nat→Prop} {κ yE:VI}:∀ (v a:List AV),aft v=true→bV M O κ v a→bV M' O' yE v a
 | [],[],_,_=>by simp [bV]
 | [],_::_,_,h=>by simp [bV] at h
 | _::_,[],_,h=>by simp [bV] at h
 | v::r,a::l,hs,h=>by
  simp only [aft] at hs
  split at hs
  case h_2=>cases hs
  rename_i hv
  simp only [bV] at h ⊢
  exact ⟨afC v a hv h.1,Va r l hs h.2⟩
end
theorem VS.ext {R:Nat→Prop} {ι:VI} {H:WH} {M M':Heap} (s:VS R ι H M) (hn:M.next≤M'.next) (hg:∀ b,b < M.next→M'.get b=M.get b) (ok:M'.Ok):VS R ι H M'∧Stp H.length [] ι H M ι H M':=by
 have hk:Keeps M (own ι) M' (own ι):=⟨hn,λb hb ho=>⟨hg b hb,ho⟩⟩
 refine ⟨⟨λi j h=>⟨(s.lt i j h).1,Nat.lt_of_lt_of_le (s.lt i j h).2 hn⟩,s.inj,λi x hx=>?_,s.CP,s.Cq,ok,λj h=>⟨Nat.lt_of_lt_of_le (s.res j h).1 hn,(s.res j h).2⟩⟩,⟨hk,.refl _ _,λ_ _ h=>h,λ_ _=>rfl,λ_ _=>rfl,λ_ _ _=>rfl,λ_ _ h=>h,λi j _ _ hj _=>?_,Nat.le_refl _⟩⟩
 ·rcases s.blk i x hx with h | ⟨j,h1,h2,h3⟩
  ·exact .inl h
  refine .inr ⟨j,h1, ?_,h3⟩
  rw [hg j (s.lt i j h1).2]
  exact h2.mono (hk.or R) (λ_=>.refl _ _) (λ_ h=>h)
 ·exact hg j (s.lt i j hj).2
theorem amT {C:bP} {g:FuncId} {args as:List AV} {R:Nat→Prop} {ι:VI} {H:WH} {M:Heap} (s:VS R ι H M) (hv:bV M (OR R ι) ι args as) {ms:List (Option Bool)} {ts:List AV} {v:AV}
  (h0:U1 (SK ms (sV args ts) H).2 0 (qc (SK ms (sV args ts) H).1)=[]) (hs:uI v=true) (hspec:Spec C g (rnL (CO []) (SK ms (sV args ts) H).1) [] v []) :
  ∃ a M',C g as M=some (a,M')∧VS R ι H M'∧Stp H.length [] ι H M ι H M'∧VL M' (OR R ι) ι v a:=by
 obtain ⟨BK,k1,k2,k3⟩:=Yu ms (sV args ts) H ι M as s (bV.retag _ _ _ hv)
 generalize SK ms (sV args ts) H=q at *
 obtain ⟨vs,H2⟩:=q
 simp only at h0 hspec k1 k2 k3
 obtain ⟨p1,p2,_⟩:=adO H2 0 (qc vs)
 rw [h0] at p1 p2
 let R':Nat→Prop:=λj=>R j∨(own BK j∧¬ own (iP BK []) j)
 have hsub:∀ j,OR R' (iP BK []) j→OR R BK j:=λj h=>by
  rcases h with h | h | h
  ·obtain ⟨b,_,h3,h4⟩:=Fw h
   exact .inl ⟨b,h3,h4⟩
  ·exact .inr h
  ·exact .inl h.1
 have hpick:=k1.pick p1 (R':=R') (λj h=>by
  rcases h with h | ⟨⟨i,q1,q2⟩,q3⟩
  ·exact ⟨(k1.res j h).1,λb _ hb=>(k1.res j h).2 b hb⟩
  ·exact ⟨(k1.lt i j q1).2,λb hb=>(nomatch hb)⟩) hsub
 have hargs:bV M (OR R' (iP BK [])) (iP BK []) (rnL (CO []) vs) as:=bV.rn ⟨Nat.le_refl _,λb _ h=>⟨rfl,λk=>h (hsub b k)⟩⟩ (by have:=@Jz;rw [← h0];exact Jz) _ _ k3
 obtain ⟨a,M',JA,e,q1,q2,q3⟩:=hspec R' (iP BK []) M as hpick hargs
 have hno:∀ b,¬ own (iP BK []) b:=λb h=>by
  obtain ⟨c,hc,_⟩:=Fw h
  exact (nomatch hc)
 obtain ⟨e1,e2⟩:=s.ext q2.keep.next (λb hb=>(q2.keep.get b hb (hno b)).1) q1.okM
 exact ⟨a,M',e,e1,e2,afC v a hs q3⟩
theorem amU {C:bP} {g:FuncId} {args as:List AV} {R:Nat→Prop} {ι:VI} {H:WH} {M:Heap} (s:VS R ι H M) (hv:bV M (OR R ι) ι args as) {tr:TS} {k:AV→WH→List Nat→TS→Prop} (h:amK C g args H tr k) :
  ∃ a M' bL v H' t lG,C g as M=some (a,M')∧VS R bL H' M'∧Stp H.length t ι H M bL H' M'∧VL M' (OR R bL) bL v a∧k v H' t lG:=by
 unfold amK at h
 split at h
 case h_2 =>
  rename_i ms ts v r
  simp only at h
  split at h
  case h_2=>exact h.elim
  rename_i e1 e2
  obtain ⟨lG,h⟩:=nP h
  obtain ⟨a,M',f1,f2,f3,f4⟩:=amT s hv e1 e2 h.1
  exact ⟨a,M',ι,v,H,[],lG,f1,f2,f3,f4,h.2⟩
 case h_3=>exact h.elim
 rename_i ms m ts v out r
 obtain ⟨nO,h1,h2,h3⟩:=Yu ms (sV args ts) H ι M as s (bV.retag _ _ _ hv)
 generalize hr:SK ms (sV args ts) H=q at *
 obtain ⟨vs,H1⟩:=q
 simp only at h h1 h2 h3
 obtain ⟨BK,k1,k2⟩:=Td [] m (U1 H1 0 (qc vs)) H1 nO M h1
 have k3:=bV.step h1 k2 h3
 generalize WA [] m (U1 H1 0 (qc vs)) H1=H2 at *
 obtain ⟨p1,p2,_⟩:=adO H2 0 (qc vs)
 generalize U1 H2 0 (qc vs)=p at *
 split at h
 case h_2=>exact h.elim
 rename_i ho
 have ho:=Nat.le_of_ble_eq_true ho
 obtain ⟨lG,hspec,hk⟩:=nP h
 have hl:∀ b,b∈p→b < H2.length:=λb hb=>by
  rcases p2 b hb with h | ⟨y,h⟩
  ·omega
  ·exact vU h
 let R':Nat→Prop:=λj=>R j∨(own BK j∧¬ own (iP BK p) j)
 have hsub:∀ j,OR R' (iP BK p) j→OR R BK j:=λj h=>by
  rcases h with h | h | h
  ·obtain ⟨b,_,h3,h4⟩:=Fw h
   exact .inl ⟨b,h3,h4⟩
  ·exact .inr h
  ·exact .inl h.1
 have hpick:=k1.pick p1 (R':=R') (λj h=>by
  rcases h with h | ⟨⟨i,q1,q2⟩,q3⟩
  ·exact ⟨(k1.res j h).1,λb _ hb=>(k1.res j h).2 b hb⟩
  ·refine ⟨(k1.lt i j q1).2,λb hb ha hj=>?_⟩
   have:=k1.inj i b j (.inr q2) ha q1 hj (.inl q2)
   subst this
   obtain ⟨k,hk⟩:=List.mem_iff_getElem?.1 hb
   exact q3 ⟨k,by simp only [iP,hk];exact hj,by simp only [iP,hk];exact q2⟩) hsub
 have hargs:bV M (OR R' (iP BK p)) (iP BK p) (rnL (CO p) vs) as:=bV.rn ⟨Nat.le_refl _,λb _ h=>⟨rfl,λk=>h (hsub b k)⟩⟩ Jz _ _ k3
 obtain ⟨a,M',JA,e,q1,q2,q3⟩:=hspec R' (iP BK p) M as hpick hargs
 rw [Fv] at q2
 obtain ⟨u1,u2,u3⟩:=ard (R:=R) (R':=R') p1 hl ho (λj=>Iff.rfl) k1 q1 q2 (λb hb=>(p2 b hb).resolve_left (by omega)) (λk b hk ⟨x,hx⟩=>by
  rw [rD,hk] at hx
  obtain ⟨z,hz,_⟩:=zY hx
  exact ⟨z,hz⟩)
 refine ⟨a,M',_,_,_,_,_,e,u1, ?_,u3 v a q3,hk⟩
 have:=(h2.trans k2 h2.next).trans u2 (Nat.le_trans h2.next k2.next)
 simpa using this
end Go.Proofs.YtohoggieaanllaaGreat
end
section
set_option linter.all false
set_option linter.unusedSimpArgs false
namespace Go.Proofs.YtohoggieaanllaaGreat
def BOk (C:bP) (f:FuncId) (b:Bt):Prop:=∀ (R:Nat→Prop) (ι:VI) (H:WH) (M:Heap) (args as:List AV) (d:Option Nat) (tr:TS) (k:AV→WH→List Nat→TS→Prop),VS R ι H M→bV M (OR R ι) ι args as→wBt b d args H tr k →
 ∃ a M' bL v H' t lG,C f as M=some (a,M')∧VS R bL H' M'∧Stp H.length t ι H M bL H' M'∧VL M' (OR R bL) bL v a∧k v H' t lG
theorem adP {R:Nat→Prop} {d:Option Nat} {x:Option AV} {tr:TS} {k:AV→TS→Prop} (h:ovr d x tr k):∃ v u lG,x=some v∧k u lG∧∀ (M:Heap) (O:Nat→Prop) (κ:VI) (a:AV),VL M O κ v a→VL M O κ u a:=by
 have plain:∀ {tr},(match x with | some v=>k v tr | none=>False)→∃ v u lG,x=some v∧k u lG∧∀ (M:Heap) (O:Nat→Prop) (κ:VI) (a:AV),VL M O κ v a→VL M O κ u a:=λ{tr} h=>by
  cases x with
  | none=>exact h.elim
  | some v=>exact ⟨v,v,tr,rfl,h,λ_ _ _ _ h=>h⟩
 unfold ovr at h
 split at h
 ·split at h
  ·obtain ⟨lG,h⟩:=nP h
   exact ⟨_,_,_,h.1,h.2,λ_ _ _ _ h=>h⟩
  ·exact plain h
 ·split at h
  ·split at h
   ·rename_i v
    exact ⟨v,_,_,rfl,h,λ_ _ _ _ h=>VL.retag _ _ _ h⟩
   ·exact h.elim
  ·exact plain h
 ·exact plain h
theorem Yv {d:Option Nat} {n:Nat} {cs:List AV} {tr:TS} {k:Nat→List AV→TS→Prop} (h:akL d n cs tr k):∃ lG,k n cs lG:=by
 unfold akL at h
 split at h
 ·split at h
  ·obtain ⟨_,rfl,h⟩:=nP h
   obtain ⟨_,rfl,h⟩:=nP h
   exact ⟨_,h⟩
  ·exact ⟨_,h⟩
 ·exact ⟨_,h⟩
theorem II {M:Heap} {O:Nat→Prop} {κ:VI}:∀ {l r:List AV},l.all AV.flat=true→bV M O κ l r→bV M O VI.none l r
 | [],[],_,_=>by simp [bV]
 | v::l,a::r,h,e=>by
  simp only [List.all_cons,Bool.and_eq_true] at h
  simp only [bV] at e ⊢
  refine ⟨?_,II h.2 e.2⟩
  have h1:=h.1
  have e1:=e.1
  cases v with
  | ptr p=>cases p<;>simp_all [AV.flat,VL]
  | slice p=>cases p<;>simp_all [AV.flat,VL]
  | map p=>cases p<;>simp_all [AV.flat,VL]
  | func f cs =>
   cases cs with
   | nil =>
    simp only [VL] at e1 ⊢
    obtain ⟨cs',rfl,e1⟩:=e1
    refine ⟨cs',rfl, ?_⟩
    cases cs' with
    | nil=>simp [bV]
    | cons _ _=>simp [bV] at e1
   | cons _ _=>simp [AV.flat] at h1
  | _=>simp_all [AV.flat,VL]
 | [],_::_,_,e=>by simp [bV] at e
 | _::_,[],_,e=>by simp [bV] at e
theorem Fx (z:List AV):∀ n,(jX n z).length=n * z.length
 | 0=>by simp [jX]
 | n+1=>by simp only [jX,List.length_append,Fx z n,Nat.add_mul,Nat.one_mul];omega
section
variable {R:Nat→Prop} {ι:VI} {H:WH} {M:Heap} (s:VS R ι H M) {ρ σ:Nat→AV} (h:∀ t,VL M (OR R ι) ι (ρ t) (σ t))
include s h
theorem Y2 {sz:Nat}:∀ {ps:List (Nat×AX)} {cs cs' l:List AV},(ps.all λp=>p.2.bB)=true→bV M (OR R ι) ι cs cs' →
  tL cs (ps.map λp=>(p.1 * sz,sz,(p.2.sub ρ).ev []))=some l→∃ l',tL cs' (ps.map λp=>(p.1 * sz,sz,(p.2.sub σ).ev []))=some l'∧bV M (OR R ι) ι l l'
 | [],cs,cs',l,_,hr,hf=>by
  simp only [List.map_nil,tL,Option.some.injEq] at hf ⊢
  subst hf
  exact ⟨cs',rfl,hr⟩
 | p::ps,cs,cs',l,hc,hr,hf=>by
  simp only [List.all_cons,Bool.and_eq_true] at hc
  simp only [List.map_cons,tL] at hf ⊢
  split at hf
  case h_2=>cases hf
  rename_i x hx
  split at hf
  case isFalse=>cases hf
  rename_i hle
  obtain ⟨x',hx',hxr⟩:=(fG h hc.1).cells hx
  rw [hx']
  simp only
  rw [if_pos (by rw [← hxr.length,← hr.length];exact hle)]
  refine Y2 hc.2 ?_ hf
  exact ((hr.take _).append hxr).append (hr.drop _)
theorem auZ {d:Option Nat} {o:MF} (hc:o.bB=true) {tr:TS} {k:mU→(Nat→AV)→TS→Prop} (hv:wK d (o.sub ρ) tr k) :
  ∃ c sl mk c' sl' mkA lG,k (.cells c false sl) mk lG∧aK (o.sub σ) []=some (.cells c' false sl',mkA)∧bV M (OR R ι) (if sl then VI.none else ι) c c'∧(sl=false→sl'=false) ∧
   ∀ (M':Heap) (O:Nat→Prop) (κ:VI) (b j:Nat),κ b=some j→κ.dim b=some (c.length,c'.length)→VL M' O κ (mk b) (mkA.val j):=by
 have aj0:∀ (c c':List AV) (M':Heap) (O:Nat→Prop) (κ:VI) (b j:Nat),κ b=some j→κ.dim b=some (c.length,c'.length)→VL M' O κ (.ptr (some (b,0))) (Mk.ptr.val j):=λc c' M' O κ b j h1 _=>by
  simp only [Mk.val,VL]
  exact ⟨j,h1,rfl⟩
 have amV:∀ (c c':List AV) (sz n:Nat) (ex:Bool),c.length=n * sz→n * sz≤c'.length→∀ (M':Heap) (O:Nat→Prop) (κ:VI) (b j:Nat),κ b=some j→κ.dim b=some (c.length,c'.length)→VL M' O κ (.acc b 0 sz n true) ((Mk.slice sz n n ex).val j):=λc c' sz n ex h0 hL M' O κ b j h1 h2=>by
  simp only [Mk.val,VL]
  exact ⟨_,_,_,_,rfl,Nat.le_refl _,(λh=>by cases h),λ_=>rfl,_,_,h2,by omega,λ_=>⟨trivial,h0.symm⟩,.inl ⟨j,h1,.inl ⟨rfl,by omega⟩⟩⟩
 cases o with
 | alloc zero =>
  have hz:bV M (OR R ι) ι zero zero:=bV.const zero hc
  simp only [MF.sub,wK] at hv
  split at hv
  ·split at hv
   ·rename_i t r _
    exact ⟨_,false,_,zero,false,.ptr,_,hv,rfl,bV.retag _ _ _ hz,(λ_=>rfl),aj0 _ _⟩
   ·exact ⟨_,false,_,zero,false,.ptr,_,hv,rfl,hz,(λ_=>rfl),aj0 _ _⟩
  ·exact ⟨_,false,_,zero,false,.ptr,_,hv,rfl,hz,(λ_=>rfl),aj0 _ _⟩
 | box x =>
  have hx:=fG h hc
  simp only [MF.sub,wK] at hv
  split at hv
  case h_2=>exact hv.elim
  rename_i cs hcs
  obtain ⟨cs',h1,h2⟩:=hx.cells hcs
  exact ⟨cs,false,_,cs',false,.ptr,_,hv,by simp only [MF.sub,aK,h1,Option.map_some],h2,(λ_=>rfl),aj0 _ _⟩
 | buildSlice sz len zero parts =>
  simp only [MF.bB,Bool.and_eq_true] at hc
  simp only [MF.sub,wK,List.map_map] at hv
  split at hv
  case h_2=>exact hv.elim
  rename_i cs hcs
  split at hv
  case h_2=>exact hv.elim
  rename_i hz
  have hz:=Nat.eq_of_beq_eq_true hz
  obtain ⟨cs',h1,h2⟩:=Y2 s h hc.2 (bV.jX (M:=M) (O:=OR R ι) (κ:=ι) hc.1 len) hcs
  have hlen:∀ {l:List (Nat×Nat×AV)} {c c':List AV},tL c l=some c'→c'.length=c.length:=by
   intro l
   induction l with
   | nil=>intro c c' e;simp only [tL,Option.some.injEq] at e;rw [e]
   | cons q l ih =>
    intro c c' e
    simp only [tL] at e
    split at e
    case h_2=>cases e
    split at e
    case isFalse=>cases e
    rename_i hle
    rw [ih e]
    simp only [List.length_append,List.length_take,List.length_drop]
    omega
  have hl:=hlen hcs
  rw [Fx,hz] at hl
  refine ⟨cs,false,_,cs',false,.slice sz len len true,_,hv, ?_,h2,(λ_=>rfl),amV _ _ _ _ _ hl (by rw [← h2.length,hl];exact Nat.le_refl _)⟩
  simp only [MF.sub,aK,List.map_map]
  have e:(λp:Nat×AV=>(p.1 * sz,sz,p.2))=λp=>(p.1 * sz,sz,p.2):=rfl
  rw [show (tL (jX len zero) (parts.map ((λp=>(p.1 * sz,sz,p.2.ev [])) ∘ λp=>(p.1,p.2.sub σ))))=some cs' from h1]
  rfl
 | makeSlice sz bytes zero l c =>
  simp only [MF.bB,Bool.and_eq_true] at hc
  have hl:=fG h hc.1.2
  have hcc:=fG h hc.2
  simp only [MF.sub,wK] at hv
  split at hv
  case h_2=>exact hv.elim
  rename_i d' n cs r
  split at hv
  case h_2=>exact hv.elim
  split at hv
  case h_2=>exact hv.elim
  rename_i hz hfl
  obtain ⟨_,⟨e1,e2,e3,e4⟩,hv⟩:=nP hv
  obtain ⟨_,rfl,hk⟩:=nP hv
  rw [e1] at hl
  rw [e2] at hcc
  have hz:=Nat.eq_of_beq_eq_true hz
  refine ⟨_,true,_,jX n zero,false,.slice sz n n true,_,hk, ?_, ?_,(λh=>by cases h),amV _ _ _ _ _ (by rw [Fx,hz]) (by rw [Fx,hz];exact Nat.le_refl _)⟩
  ·simp only [MF.sub,aK,hl.eq rfl,hcc.eq rfl,KE]
   rw [if_pos (by simp;omega)]
   rfl
  ·exact II (κ:=ι) (by
    have:∀ n,(jX n zero).all AV.flat=true:=λn=>by
     induction n with
     | zero=>rfl
     | succ n ih=>simp only [jX,List.all_append,hfl,ih,Bool.and_self]
    exact this n) (bV.jX hc.1.1 n)
 | qE x =>
  have hx:=fG h hc
  simp only [MF.sub,wK] at hv
  split at hv
  case h_2=>exact hv.elim
  rename_i t ht
  obtain ⟨_,h1,h2⟩:=nP hv
  rw [ht] at hx
  refine ⟨_,true,_,t.map λb=>.int .u8 b.toNat,true,.slice 1 t.length t.length false,_,h2,by simp only [MF.sub,aK,hx.eq rfl,if_pos h1], ?_,(λh=>by cases h),amV _ _ _ _ _ (by simp) (by simp)⟩
  have:∀ t:List UInt8,bV M (OR R ι) VI.none (t.map λb=>AV.int .u8 b.toNat) (t.map λb=>AV.int .u8 b.toNat):=λt=>by
   induction t with
   | nil=>simp [bV]
   | cons b t ih=>simp only [List.map_cons,bV,VL];exact ⟨trivial,ih⟩
  exact this t
 | makeMap=>simp [MF.sub,wK] at hv
end
theorem BL.of {R:Nat→Prop} {ι:VI} {M:Heap} {c c':List AV} {sl sl':Bool} (hr:bV M (OR R ι) (if sl then VI.none else ι) c c') (hs:sl=false→sl'=false):BL M (OR R ι) ι (some (c.length,c'.length)) (.cells c false sl) (some (.cells c' false sl')) :=
 ⟨c',[],false,sl',c'.length,by simp,λ_=>rfl,rfl,by simp,hr,hs⟩
theorem arf {c cs c':List AV} {o:Nat} (h:U2 c o cs=some c'):o+cs.length≤c.length∧c'=c.take o++cs++c.drop (o+cs.length)∧c'.length=c.length:=by
 unfold U2 at h
 split at h
 case isFalse=>cases h
 rename_i hle
 obtain rfl:=Option.some.inj h
 refine ⟨hle,rfl, ?_⟩
 simp only [List.length_append,List.length_take,List.length_drop]
 omega
theorem amW {R:Nat→Prop} {ι:VI} {H:WH} {M:Heap} (s:VS R ι H M) {b j o:Nat} (hb:ι b=some j) {c:List AV} {sl:Bool} (hg:dJ H b=some (.cells c false sl)) {cs cs' c':List AV} (hcs:bV M (OR R ι) (if sl then VI.none else ι) cs cs') (h:U2 c o cs=some c') :
  ∃ M',M.write j o cs'=some M'∧VS R ι (iG H b (some (.cells c' false sl))) M'∧Stp H.length [b] ι H M ι (iG H b (some (.cells c' false sl))) M':=by
 obtain ⟨h1,h2,h3⟩:=arf h
 obtain ⟨d,t,ro',sl',L,g1,g2,g3,g4,g5⟩:=s.at hb hg
 obtain ⟨rfl,_⟩:=g2 rfl
 have hl:=g5.length
 have hl':=hcs.length
 have e:(d++t).take o++cs'++(d++t).drop (o+cs'.length)=(d.take o++cs'++d.drop (o+cs'.length))++t:=by
  rw [List.take_append_of_le_length (by omega),List.drop_append_of_le_length (by omega)]
  simp only [List.append_assoc]
 have hbl:BL M (OR R ι) ι (ι.dim b) (.cells c' false sl) (some (.cells ((d++t).take o++cs'++(d++t).drop (o+cs'.length)) false sl')):=by
  refine ⟨d.take o++cs'++d.drop (o+cs'.length),t,false,sl',L,by rw [e],λ_=>rfl,by rw [h3];exact g3, ?_, ?_,λh=>s.auW hb hg g1 h⟩
  ·simp only [List.length_append,List.length_take,List.length_drop] at g4 ⊢
   omega
  ·rw [h2,hl']
   exact ((g5.take o).append hcs).append (g5.drop _)
 obtain ⟨q1,q2⟩:=s.put hb hg hbl
 refine ⟨_, ?_,q1,q2⟩
 unfold Heap.write
 rw [g1]
 simp only
 rw [if_pos (by simp only [List.length_append];omega)]
theorem akS {R:Nat→Prop} {ι:VI} {H:WH} {M:Heap} (s:VS R ι H M) {n:Nat} {a v a' v':AV} (ha:VL M (OR R ι) ι a a') (hv:VL M (OR R ι) ι v v') {tr:TS} {k:AV→WH→List Nat→TS→Prop} {C:bP} {B:FuncId→Option Bt} {d:Option Nat}
  (h:wN C B d (.store n (.c a) (.c v)) H tr k):∃ r M' bL u H' t lG,YC n a' v' M=some (r,M')∧VS R bL H' M'∧Stp H.length t ι H M bL H' M'∧VL M' (OR R bL) bL u r∧k u H' t lG:=by
 simp only [wN,AX.ev] at h
 split at h
 case h_2=>exact h.elim
 rename_i b off cs hcs
 split at h
 case h_2=>exact h.elim
 rename_i hn
 have hn:=Nat.eq_of_beq_eq_true hn
 split at h
 case h_2=>exact h.elim
 split at h
 case h_2=>exact h.elim
 rename_i c sl hg
 simp only [VL] at ha
 obtain ⟨j,hj,rfl⟩:=ha
 obtain ⟨cs',e1,e2⟩:=hv.cells hcs
 have fin:∀ (nO:VI) (H1:WH) (x c':List AV) (r:TS),VS R nO H1 M→Stp H.length [] ι H M nO H1 M→H1.length=H.length→dJ H1 b=some (.cells c false sl)→bV M (OR R nO) (if sl then VI.none else nO) x cs'→U2 c off x=some c'→k (.tuple []) (iG H1 b (some (.cells c' false sl))) [b] r →
   ∃ r M' bL u H' t lG,YC n (.ptr (some (j,off))) v' M=some (r,M')∧VS R bL H' M'∧Stp H.length t ι H M bL H' M'∧VL M' (OR R bL) bL u r∧k u H' t lG:=by
  intro nO H1 x c' r s1 k1 hlen hg1 hx hw hk
  have hj1:=((k1.le b (vU hg)).1 j hj).1
  obtain ⟨M',q1,q2,q3⟩:=amW s1 hj1 hg1 hx hw
  refine ⟨.tuple [],M',nO,.tuple [],_,[b],r, ?_,q2, ?_,by simp [VL,bV],hk⟩
  ·simp only [YC,e1]
   rw [if_pos (by rw [← e2.length];exact hn),q1]
   rfl
  ·have:=k1.trans q3 (by omega)
   simpa using this
 split at h
 ·split at h
  ·split at h
   case h_2=>exact h.elim
   rename_i c' hw
   exact fin ι H cs c' _ s (.refl _ _ _ _ _ (Nat.le_refl _)) rfl hg e2 hw h
  ·obtain ⟨_,h⟩:=nP h
   exact fin ι H cs _ _ s (.refl _ _ _ _ _ (Nat.le_refl _)) rfl hg e2 h.1 h.2
 ·split at h
  case h_2=>exact h.elim
  rename_i p hp
  split at h
  ·exact h.elim
  rename_i hb
  obtain ⟨u1,u2⟩:=s.akO p.2 (zw (λv p=>xR 5 true v p) _ _ hp)
  have hx:=adM s hp e2
  have hg1:dJ (KM H p.2) b=some (.cells c false true):=by
   rw [Jy,hb]
   exact hg
  split at h
  ·split at h
   case h_2=>exact h.elim
   rename_i c' hw
   exact fin _ _ p.1 c' _ u1 u2 (xQ _ _) hg1 hx hw h
  ·obtain ⟨_,h⟩:=nP h
   exact fin _ _ p.1 _ _ u1 u2 (xQ _ _) hg1 hx h.1 h.2
theorem au0 {C:bP} {B:FuncId→Option Bt} (hB:∀ f b,B f=some b→BOk C f b) {R:Nat→Prop} {ι:VI} {H:WH} {M:Heap} (s:VS R ι H M) {ρ σ:Nat→AV} (h:∀ t,VL M (OR R ι) ι (ρ t) (σ t)) {d:Option Nat} {o:Gz} (hc:o.bB=true) {tr:TS} {k:AV→WH→List Nat→TS→Prop}
  (hk:wN C B d (o.sub ρ) H tr k):∃ a M' bL v H' t lG,aN C (o.sub σ) [] M=some (a,M')∧VS R bL H' M'∧Stp H.length t ι H M bL H' M'∧VL M' (OR R bL) bL v a∧k v H' t lG:=by
 cases o with
 | store n a v =>
  simp only [Gz.bB,Bool.and_eq_true] at hc
  exact akS s (fG h hc.1) (fG h hc.2) (C:=C) (B:=B) (d:=d) (a:=(a.sub ρ).ev []) (v:=(v.sub ρ).ev []) (by simpa only [Gz.sub,wN,AX.ev] using hk)
 | call f args =>
  simp only [Gz.bB,Bool.and_eq_true] at hc
  have hf:=fG h hc.1
  have ha:=Yo h hc.2
  simp only [Gz.sub,wN] at hk
  split at hk
  case h_2=>exact hk.elim
  rename_i g caps hg
  rw [hg] at hf
  simp only [VL] at hf
  obtain ⟨ay7,hf,awt⟩:=hf
  have hargs:=ha.append awt
  simp only [Gz.sub,aN,ae4,hf]
  split at hk
  ·rename_i bt hbt
   obtain ⟨a,M',bL,v,H',tt,lG,q1,q2,q3,q4,q5⟩:=hB g bt hbt R ι H M _ _ d tr _ s hargs hk
   exact ⟨a,M',bL,v,H',tt,lG,q1,q2,q3,q4,q5⟩
  ·exact amU s hargs hk
 | append sz bytes b x =>
  simp only [Gz.bB,Bool.and_eq_true] at hc
  have hs:=fG h hc.1
  have hx:=fG h hc.2
  simp only [Gz.sub,wN] at hk
  split at hk
  case h_2=>exact hk.elim
  rename_i m new S hel
  split at hk
  case h_2=>exact hk.elim
  rename_i len old H' t hbase
  obtain ⟨_,hk⟩:=Yv hk
  obtain ⟨lG,hf,hk⟩:=nP hk
  obtain ⟨e1,e2,cs',e3,e4⟩:=U8 s hx hel
  obtain ⟨u1,u2⟩:=s.akO S (Np hel)
  obtain ⟨a',M',bL,q1,q2,q3,q4⟩:=acy u1 (VL.step s u2 hs) e4 e2 hbase hf
  refine ⟨a',M',bL,_,_,t,lG, ?_,q2, ?_,q4,hk⟩
  ·simp only [Gz.sub,aN,e1,if_true,e3,Option.bind_some]
   exact q1
  ·rw [xQ] at q3
   have:=u2.trans q3 (Nat.le_refl _)
   simpa using this
 | yD x =>
  have hx:=fG h hc
  simp only [Gz.sub,wN] at hk
  split at hk
  case h_2=>exact hk.elim
  rename_i b sz n hX
  split at hk
  case h_2=>exact hk.elim
  rename_i c sl hg
  split at hk
  case h_2=>exact hk.elim
  rename_i amX
  rw [hX] at hx
  have hx0:=hx
  obtain ⟨k1,k2,p,s',cap,ex,ha,k3,k4,k5⟩:=VL.yR s hx hg
  rw [ha] at hx0
  rcases k5 with ⟨j,c',t,ro',sl',L,g1,g2,g3,g4,g5,g6,rfl,g7⟩ | ⟨e,_⟩
  ·obtain ⟨rfl,_⟩:=g3 rfl
   have g6':bV M (OR R ι) VI.none c c':=by
    cases sl with
    | true=>exact g6
    | false=>exact II (by simpa using amX) g6
   obtain ⟨r1,r2⟩:=s.put g1 hg (x:=.cells c false true) (y:=.cells (c'++t) false true) ⟨c',t,false,true,L,rfl,λ_=>rfl,g4,g5,g6',λh=>by cases h⟩
   refine ⟨_,_,ι,_,_,[b],_, ?_,r1,r2,VL.step s r2 hx0,hk⟩
   simp only [Gz.sub,aN,ha,YD]
   rw [if_neg (by omega),g2]
  ·cases e
 | _=>simp [Gz.sub,wN] at hk
end Go.Proofs.YtohoggieaanllaaGreat
end
section
set_option linter.all false
set_option linter.unusedSimpArgs false
namespace Go.Proofs.YtohoggieaanllaaGreat
def yS (R:Nat→Prop) (ι:VI) (M:Heap) (l lA:Fast):Prop:=∀ t,VL M (OR R ι) ι (look l t) (look lA t)
theorem yS.step {R:Nat→Prop} {t:List Nat} {ι bL:VI} {H H':WH} {M M':Heap} (s:VS R ι H M) (k:Stp H.length t ι H M bL H' M') {l lA:Fast} (h:yS R ι M l lA):yS R bL M' l lA:=λt=>VL.step s k (h t)
theorem yT {u t:Nat} {v:AV} {r:Fast}:look ((u,v)::r) t=if u=t then v else look r t:=by
 simp only [look]
 cases h:Nat.beq u t with
 | true=>simp [Nat.eq_of_beq_eq_true h]
 | false =>
  have:u≠t:=λe=>by subst e;simp at h
  simp [this]
theorem zx (n:Nat) (d:Option Nat) (v:AV) (l:Fast) (t:Nat):look (oh n d v l) t=if d=some t∧t < n then v else look l t:=by
 cases d with
 | none=>simp [oh]
 | some d =>
  simp only [oh]
  cases hb:Nat.blt d n with
  | true =>
   have hd:d < n:=by simpa [Nat.blt_eq] using hb
   simp only [yT]
   by_cases he:d=t
   ·subst he
    simp [hd]
   ·simp [he]
  | false =>
   have hd:¬ d < n:=λh=>by
    have:Nat.blt d n=true:=by simpa [Nat.blt_eq] using h
    rw [hb] at this
    cases this
   simp only
   rw [if_neg]
   rintro ⟨h1,h2⟩
   obtain rfl:=Option.some.inj h1
   exact hd h2
theorem VL.oh {M:Heap} {O:Nat→Prop} {κ:VI} {l lA:Fast} {n:Nat} {d:Option Nat} {v a:AV} {t:Nat} (h:VL M O κ (look l t) (look lA t)) (hv:VL M O κ v a):VL M O κ (look (Proofs.YtohoggieaanllaaGreat.oh n d v l) t) (look (Proofs.YtohoggieaanllaaGreat.oh n d a lA) t):=by
 rw [zx,zx]
 split
 ·exact hv
 ·exact h
theorem yS.put {R:Nat→Prop} {ι:VI} {M:Heap} {l lA:Fast} (h:yS R ι M l lA) (n:Nat) (d:Option Nat) {v a:AV} (hv:VL M (OR R ι) ι v a):yS R ι M (oh n d v l) (oh n d a lA):=λt=>VL.oh (h t) hv
theorem VL.unit {M:Heap} {O:Nat→Prop} {κ:VI}:VL M O κ (.tuple []) (.tuple []):=by simp [VL,bV]
def au1 (l l':Fast):Prop:=∀ t,look l' t=look l t∨∃ b,look l t=.bool b∧look l' t=.bool b
theorem au1.eq {l l':Fast} (h:au1 l l') (t:Nat):look l' t=look l t:=(h t).elim id λ⟨b,h1,h2⟩=>by rw [h1,h2]
theorem acA:∀ {H:WH} {b:Nat} {x:mU},dJ H b=some x→iG H b (some x)=H
 | [],_,_,h=>by cases h
 | _::_,0,_,h=>by
  simp only [dJ] at h
  subst h
  rfl
 | _::r,i+1,_,h=>by
  simp only [dJ] at h
  simp only [iG,acA h]
theorem KN {k:Fast→WH→TS→Prop} {R:Type}:∀ {f:Option R} (T:Tc f) (l:Fast) (H:WH),adH k T l H→∃ l' lG,(∀ t,look l' t=look l t)∧k l' H lG
 | _,.bd kk,l,H,h=>by
  obtain ⟨x,q,h⟩:=h
  exact KN (kk x q) l H h
 | _,.gd kk,l,H,h=>by
  obtain ⟨q,h⟩:=h
  exact KN (kk q) l H h
 | _,.ite (b:=b) x y,l,H,h=>by
  have hb:b=true∨b=false:=by cases b<;>simp
  rcases hb with hb | hb
  ·exact KN (x hb) l H (h.1 hb)
  ·exact KN (y hb) l H (h.2 hb)
 | _,.rv t u _ r,l,H,h=>by
  obtain ⟨e,h⟩:=h
  obtain ⟨l',lG,h1,h2⟩:=KN r ((t,u)::l) H h
  refine ⟨l',lG,λs=>?_,h2⟩
  rw [h1,yT]
  split
  ·rename_i e'
   subst e'
   exact e.symm
  ·rfl
 | _,.rb b c _ r,l,H,h=>by
  simp only [adH] at h
  split at h
  case h_2=>exact h.elim
  rename_i c0 ro sl hg
  obtain ⟨rfl,h⟩:=h
  rw [acA hg] at h
  exact KN r l H h
 | _,.leaf x v,l,H,h=>⟨l,_,λ_=>rfl,h⟩
 | _,.xP x v Q q,l,H,h=>⟨l,_,λ_=>rfl,h⟩
 | _,.fail,l,H,h=>⟨l,_,λ_=>rfl,h⟩
 | _,.br _ _ _,l,H,h=>⟨l,_,λ_=>rfl,h⟩
 | _,.ob _ _,l,H,h=>⟨l,_,λ_=>rfl,h⟩
 | _,.v _ _ _,l,H,h=>⟨l,_,λ_=>rfl,h⟩
 | _,.z _ _ _,l,H,h=>⟨l,_,λ_=>rfl,h⟩
 | _,.ap _ _ _ _,l,H,h=>⟨l,_,λ_=>rfl,h⟩
 | _,.st _ _,l,H,h=>⟨l,_,λ_=>rfl,h⟩
 | _,.call _ _ _ _ _ _,l,H,h=>⟨l,_,λ_=>rfl,h⟩
 | _,.lp _ _ _ _ _ _ _,l,H,h=>⟨l,_,λ_=>rfl,h⟩
 | _,.jn _ _ _ _ _ _ _ _,l,H,h=>⟨l,_,λ_=>rfl,h⟩
 | _,.sk _,l,H,h=>⟨l,_,λ_=>rfl,h⟩
 | _,.cb _ _ _ _,l,H,h=>⟨l,_,λ_=>rfl,h⟩
 | _,.kl _ _,l,H,h=>⟨l,_,λ_=>rfl,h⟩
 | _,.er _,l,H,h=>⟨l,_,λ_=>rfl,h⟩
theorem zZ {l:Fast} {H:WH} {tr:TS} {k:Fast→WH→TS→Prop} (h:Qv l H tr k):∃ l' lG,(∀ t,look l' t=look l t)∧k l' H lG:=KN tr.tr l H h
theorem ahU {g:Option (Nat×Bool)} {l:Fast} {tr:TS} {yes no:Fast→TS→Prop} (h:wGd g l tr yes no):∃ l' lG,(∀ t,look l' t=look l t)∧((jh g l=some true∧yes l' lG)∨(jh g l=some false∧no l' lG)):=by
 have self:∀ t,look l t=look l t:=λ_=>rfl
 have like:∀ {t b},look l t=.bool b→∀ u,look ((t,.bool b)::l) u=look l u:=λ{t b} hb u=>by
  rw [yT]
  split
  ·rename_i e
   subst e
   exact hb.symm
  ·rfl
 unfold wGd at h
 split at h
 ·exact ⟨l,tr,self,.inl ⟨rfl,h⟩⟩
 ·rename_i t want
  split at h
  ·rename_i c hc
   have plain:∀ tr,wIf c want (yes l tr) (no l tr)→∃ l' lG,(∀ t,look l' t=look l t)∧((jh (some (t,want)) l=some true∧yes l' lG)∨(jh (some (t,want)) l=some false∧no l' lG)):=λtr h=>by
    refine ⟨l,tr,self, ?_⟩
    simp only [jh,hc]
    cases c<;>cases want<;>simp_all [wIf]
   split at h
   ·rename_i R0 f0 t' bq f g a b
    cases hb:Nat.beq t t' with
    | true =>
     rw [hb] at h
     simp only at h
     obtain ⟨hcb,h⟩:=h
     subst hcb
     cases c with
     | true =>
      have h:=h.1 rfl
      cases want with
      | true=>exact ⟨_,_,like hc,.inl ⟨by simp [jh,hc],h⟩⟩
      | false=>exact ⟨_,_,like hc,.inr ⟨by simp [jh,hc],h⟩⟩
     | false =>
      have h:=h.2 rfl
      cases want with
      | true=>exact ⟨_,_,like hc,.inr ⟨by simp [jh,hc],h⟩⟩
      | false=>exact ⟨_,_,like hc,.inl ⟨by simp [jh,hc],h⟩⟩
    | false =>
     rw [hb] at h
     exact plain _ h
   ·exact plain _ h
  ·rename_i vs hc
   exact ⟨l,tr,self,.inr ⟨by simp [jh,hc],h⟩⟩
  ·exact h.elim
theorem Hq {R:Nat→Prop} {ι:VI} {M:Heap} {l lA:Fast} (h:yS R ι M l lA) {g:Option (Nat×Bool)} {w:Bool} (hw:jh g l=some w):jh g lA=some w:=by
 cases g with
 | none=>exact hw
 | some g =>
  obtain ⟨t,want⟩:=g
  have ht:=h t
  simp only [jh] at hw ⊢
  generalize look l t=X at *
  cases X<;>simp only at hw<;>first | (cases hw;done) | skip
  ·rw [ht.eq rfl]
   exact hw
  ·simp only [VL] at ht
   obtain ⟨cs',e,_⟩:=ht
   rw [e]
   exact hw
theorem Pz {C:bP} {B:FuncId→Option Bt} (hB:∀ f b,B f=some b→BOk C f b) {R:Nat→Prop} {n:Nat}:∀ (ops:List w9) (l lA:Fast) (H:WH) (M:Heap) (ι:VI) (tr:TS) (k:Fast→WH→TS→Prop),VS R ι H M→yS R ι M l lA→(ops.all λo=>o.op.bB)=true →
  afu C B n ops l H tr k→∃ yP M' bL l' H' lG t,SH C n ops lA M=some (yP,M')∧VS R bL H' M'∧Stp H.length t ι H M bL H' M'∧yS R bL M' l' yP∧k l' H' lG
 | [],l,lA,H,M,ι,tr,k,s,he,hc,h=>⟨lA,M,ι,l,H,tr,[],rfl,s,.refl _ _ _ _ _ (Nat.le_refl _),he,h⟩
 | o::r,l,lA,H,M,ι,tr,k,s,he,hc,h=>by
  simp only [List.all_cons,Bool.and_eq_true] at hc
  simp only [afu] at h
  obtain ⟨l0,tr0,hl0,h⟩:=zZ h
  have he:yS R ι M l0 lA:=λt=>by rw [hl0 t];exact he t
  obtain ⟨l1,tr1,hl,h⟩:=ahU h
  have he1:yS R ι M l1 lA:=λt=>by rw [hl t];exact he t
  rcases h with ⟨hw,h⟩ | ⟨hw,h⟩
  ·obtain ⟨l2,tr2,hl2,h⟩:=zZ h
   have he1:yS R ι M l2 lA:=λt=>by rw [hl2 t];exact he1 t
   simp only [SH,Hq he hw]
   cases ho:o.op with
   | p op =>
    rw [ho] at h hc
    simp only at h
    obtain ⟨v,u,tr2,h1,h2,h3⟩:=adP (R:=R) h
    obtain ⟨a,h4,h5⟩:=amO he1 hc.1 h1
    obtain ⟨yP,M',bL,l',H',lG,t,q1,q2⟩:=Pz hB r _ _ H M ι tr2 k s (he1.put n o.dst (h3 _ _ _ _ h5)) hc.2 h2
    refine ⟨yP,M',bL,l',H',lG,t, ?_,q2⟩
    simp only [CJ.sub,Sv,h4,Option.map_some,force_eq]
    exact q1
   | l op =>
    rw [ho] at h hc
    simp only at h
    obtain ⟨v,u,tr2,h1,h2,h3⟩:=adP (R:=R) h
    obtain ⟨a,h4,h5⟩:=acw s he1 hc.1 h1
    obtain ⟨yP,M',bL,l',H',lG,t,q1,q2⟩:=Pz hB r _ _ H M ι tr2 k s (he1.put n o.dst (h3 _ _ _ _ h5)) hc.2 h2
    refine ⟨yP,M',bL,l',H',lG,t, ?_,q2⟩
    simp only [CJ.sub,Sv,h4,Option.map_some,force_eq]
    exact q1
   | k op =>
    rw [ho] at h hc
    simp only at h
    obtain ⟨c,sl,mk,c',sl',mkA,tr2,h1,h2,h3,hss,h4⟩:=auZ s he1 hc.1 h
    obtain ⟨s1,k1⟩:=s.push (BL.of (sl':=sl') h3 hss)
    have hv:=h4 (M.push (.cells c' false sl')) (OR R (ι.add H.length M.next (c.length,c'.length))) (ι.add H.length M.next (c.length,c'.length)) H.length M.next (by simp [VI.add,setAt]) (by simp [VI.add,setAt])
    obtain ⟨yP,M',bL,l',H',lG,t,q1,q2,q3,q4⟩:=Pz hB r _ _ _ _ _ tr2 k s1 ((he1.step s k1).put n o.dst hv) hc.2 h1
    refine ⟨yP,M',bL,l',H',lG,t, ?_,q2, ?_,q4⟩
    ·simp only [CJ.sub,Sv,h2,Option.map_some,force_eq]
     exact q1
    ·have:=k1.trans q3 k1.next
     simpa using this
   | n op =>
    rw [ho] at h hc
    simp only at h
    obtain ⟨a,M1,nO,v,H1,t1,tr2,h1,h2,h3,h4,h5⟩:=au0 hB s he1 hc.1 h
    obtain ⟨yP,M',bL,l',H',lG,t,q1,q2,q3,q4⟩:=Pz hB r _ _ _ _ _ tr2 k h2 ((he1.step s h3).put n o.dst h4) hc.2 h5
    refine ⟨yP,M',bL,l',H',lG,t1++t, ?_,q2,h3.trans q3 h3.next,q4⟩
    simp only [CJ.sub,Sv,h1,force_eq]
    exact q1
  ·simp only [SH,Hq he hw]
   exact Pz hB r _ _ H M ι tr1 k s (he1.put n o.dst VL.unit) hc.2 h
theorem Vb:∀ (k i:Nat),dJ (holes k) i=none
 | 0,i=>rfl
 | k+1,0=>rfl
 | k+1,i+1=>Vb k i
theorem PD:∀ k,(holes k).length=k
 | 0=>rfl
 | k+1=>by simp [holes,PD k]
def VI.room (ι:VI) (a b nk:Nat):VI:=⟨λi=>if a≤i∧i < a+nk then some (b+(i - a)) else ι i,λi=>if a≤i∧i < a+nk then false else ι.U3 i,λi=>if a≤i∧i < a+nk then false else ι.gone i,λi=>if a≤i∧i < a+nk then Option.none else ι.dim i⟩
theorem VS.room {R:Nat→Prop} {ι:VI} {H:WH} {M:Heap} (s:VS R ι H M) (nk:Nat) :
  VS R (ι.room H.length M.next nk) (H++holes nk) { M with next:=M.next+nk }∧Stp H.length [] ι H M (ι.room H.length M.next nk) (H++holes nk) { M with next:=M.next+nk }:=by
 have gp:∀ i,dJ (H++holes nk) i=dJ H i:=λi=>by
  rw [SQ]
  split
  ·rfl
  ·rename_i h
   rw [Vb,adK (Nat.le_of_not_lt h)]
 have out:∀ i,i < H.length→¬ (H.length≤i∧i < H.length+nk):=λi h=>by omega
 have hls:∀ S,VI.Le ι (ι.room H.length M.next nk) S:=λS i _ =>
  ⟨λj h=>by simp only [VI.room,if_neg (out i (s.lt i j h).1)];exact ⟨h,λ_ h=>h⟩,λh=>by simp only [VI.room,if_neg (out i (s.CP i h).1)];exact ⟨h,λ_ h=>h⟩⟩
 have hk:Keeps M (own ι) { M with next:=M.next+nk } (own (ι.room H.length M.next nk)):=⟨Nat.le_add_right _ _,λb hb ho=>⟨rfl,λ⟨i,hi,hg⟩=>by
  simp only [VI.room] at hi hg
  split at hi
  ·obtain rfl:=Option.some.inj hi;omega
  ·rename_i hne
   rw [if_neg hne] at hg
   exact ho ⟨i,hi,hg⟩⟩⟩
 have ac:∀ i,¬ (H.length≤i∧i < H.length+nk)→act (ι.room H.length M.next nk) (H++holes nk) i→act ι H i:=λi hn h=>h.imp (λ⟨x,h⟩=>⟨x,by rw [gp] at h;exact h⟩) (λh=>by simpa only [VI.room,if_neg hn] using h)
 refine ⟨⟨λi j h=>?_,λi i' j h h' e e' g=>?_,λi x hx=>?_,λi h=>?_,λi hi c sl h=>?_,λi hi=>s.okM i (by have:M.next+nk≤i:=hi;omega),λj h=>⟨Nat.lt_of_lt_of_le (s.res j h).1 (Nat.le_add_right _ _),λi hi=>?_⟩⟩,
  ⟨hk,hls _,λi hi h=>by simp only [VI.room,if_neg (out i hi)];exact h,λi hi=>by simp only [VI.room,if_neg (out i hi)],λi hi=>by simp only [VI.room,if_neg (out i hi)],λi hi _=>by simp only [VI.room,if_neg (out i hi)],λi _ ⟨x,h⟩=>⟨x,by rw [gp] at h;exact h⟩,λ_ _ _ _ _ _=>rfl,by simp⟩⟩
 ·simp only [VI.room] at h
  simp only [List.length_append,PD]
  split at h
  ·obtain rfl:=Option.some.inj h
   omega
  ·have:=s.lt i j h
   omega
 ·simp only [VI.room] at e e'
  split at e<;>split at e'
  ·have e1:=Option.some.inj e
   have e2:=Option.some.inj e'
   omega
  ·obtain rfl:=Option.some.inj e
   have:=(s.lt _ _ e').2
   omega
  ·obtain rfl:=Option.some.inj e'
   have:=(s.lt _ _ e).2
   omega
  ·rename_i n1 n2
   simp only [VI.room,if_neg n1,if_neg n2] at g
   exact s.inj i i' j (ac i n1 h) (ac i' n2 h') e e' g
 ·rw [gp] at hx
  have hl:=out i (vU hx)
  simp only [VI.room,if_neg hl]
  rcases s.blk i x hx with h | ⟨j,h1,h2,h3⟩
  ·exact .inl h
  ·exact .inr ⟨j,h1,h2.mono (hk.or R) hls (λ_ h=>h),h3⟩
 ·simp only [VI.room] at h ⊢
  split at h
  ·cases h
  ·rename_i hn
   rw [if_neg hn]
   have:=s.CP i h
   simp only [List.length_append,PD]
   exact ⟨by omega,this.2⟩
 ·rw [gp] at h
  have hl:=out i (vU h)
  simp only [VI.room,if_neg hl] at hi
  exact s.Cq i hi c sl h
 ·simp only [VI.room]
  split
  ·rename_i hn
   intro e
   obtain rfl:=Option.some.inj e
   have:=(s.res _ h).1
   omega
  ·rename_i hn
   exact (s.res j h).2 i (ac i hn hi)
def VI.fill (ι:VI) (i:Nat) (d:Nat×Nat):VI:=⟨ι.to,ι.U3,ι.gone,setAt ι.dim i (some d)⟩
theorem VS.fill {R:Nat→Prop} {ι:VI} {H:WH} {M:Heap} (s:VS R ι H M) {b j:Nat} (hb:ι b=some j) (hg:ι.gone b=false) (hd:ι.dim b=none) (hn:dJ H b=none) {x y:mU} {d:Nat×Nat} (hx:BL M (OR R ι) ι (some d) x (some y)) :
  VS R (ι.fill b d) (iG H b (some x)) (M.put j (some y))∧Keeps M (own ι) (M.put j (some y)) (own (ι.fill b d))∧(∀ S,VI.Le ι (ι.fill b d) S)∧(∀ i j',i≠b→act ι H i→ι i=some j'→(M.put j (some y)).get j'=M.get j'):=by
 have hbl:=(s.lt b j hb).1
 have hk:Keeps M (own ι) (M.put j (some y)) (own (ι.fill b d)):=⟨Nat.le_refl _,λb' _ ho=>⟨by
  have:b'≠j:=λe=>ho (e ▸ ⟨b,hb,hg⟩)
  simp [Heap.put,this],ho⟩⟩
 have hls:∀ S,VI.Le ι (ι.fill b d) S:=λS i _=>by
  by_cases e:i=b
  ·subst e
   exact ⟨λj h=>⟨h,λd h=>by rw [hd] at h;cases h⟩,λh=>⟨h,λd h=>by rw [hd] at h;cases h⟩⟩
  ·simp only [VI.fill,bZ _ _ e]
   exact ⟨λj h=>⟨h,λd h=>h⟩,λh=>⟨h,λd h=>h⟩⟩
 have gp:∀ k,dJ (iG H b (some x)) k=if k=b then some x else dJ H k:=λk=>by
  rw [sG]
  by_cases e:k=b
  ·rw [if_pos ⟨e,hbl⟩,if_pos e]
  ·rw [if_neg (λh=>e h.1),if_neg e]
 have ac:∀ i,act (ι.fill b d) (iG H b (some x)) i→act ι H i:=λi h=>by
  rcases h with ⟨z,h⟩ | h
  ·rw [gp] at h
   by_cases e:i=b
   ·subst e
    exact .inr hg
   ·rw [if_neg e] at h
    exact .inl ⟨z,h⟩
  ·exact .inr h
 have ne:∀ i j',i≠b→act ι H i→ι i=some j'→j'≠j:=λi j' hi ha h e=>hi (s.inj i b j ha (.inr hg) (e ▸ h) hb (.inr hg))
 refine ⟨⟨λi j h=>by rw [fu];exact s.lt i j h,λi i' j h h'=>s.inj i i' j (ac i h) (ac i' h'),λi z hz=>?_,λi h=>by rw [fu];exact s.CP i h,λi hi c sl h=>?_,λi hi=>?_,λj h=>⟨(s.res j h).1,λi hi=>(s.res j h).2 i (ac i hi)⟩⟩,hk,hls,λi j' hi ha h=>by simp [Heap.put,ne i j' hi ha h]⟩
 ·rw [gp] at hz
  by_cases e:i=b
  ·subst e
   rw [if_pos rfl] at hz
   obtain rfl:=Option.some.inj hz
   refine .inr ⟨j,hb, ?_,λ_=>hg⟩
   simp only [Heap.put,if_true]
   exact hx.mono (hk.or R) hls (λ_ h=>by simpa [VI.fill,setAt] using h)
  ·rw [if_neg e] at hz
   rcases s.blk i z hz with ⟨h1,h2,h3⟩ | ⟨j',h1,h2,h3⟩
   ·exact .inl ⟨h1,by simp only [VI.fill,bZ _ _ e];exact h2,h3⟩
   ·refine .inr ⟨j',h1, ?_,h3⟩
    simp only [Heap.put,if_neg (ne i j' e (.inl ⟨z,hz⟩) h1)]
    exact h2.mono (hk.or R) hls (λ_ h=>by simp only [VI.fill,bZ _ _ e];exact h)
 ·rw [gp] at h
  by_cases e:i=b
  ·subst e
   have:ι.gone i=true:=hi
   rw [hg] at this
   cases this
  ·rw [if_neg e] at h
   exact s.Cq i hi c sl h
 ·have:=(s.lt b j hb).2
  have:i≠j:=λe=>by subst e;simp only [Heap.put] at hi;omega
  simp only [Heap.put,if_neg this]
  exact s.okM i hi
mutual
theorem VL.CS {M:Heap} {O:Nat→Prop} {κ:VI}:∀ (v a:AV),known v=true→VL M O κ v a→AV.same a a=true
 | .undef,_,h,_=>by simp [known] at h
 | .bool _,_,_,e=>by simp only [VL] at e;subst e;simp [AV.same]
 | .int _ _,_,_,e=>by simp only [VL] at e;subst e;simp [AV.same]
 | .str _,_,_,e=>by simp only [VL] at e;subst e;simp [AV.same]
 | .ptr none,_,_,e=>by simp only [VL] at e;subst e;simp [AV.same]
 | .ptr (some q),_,_,e=>by simp only [VL] at e;obtain ⟨j,_,rfl⟩:=e;simp [AV.same]
 | .slice none _ _ _ _,_,_,e=>by simp only [VL] at e;obtain ⟨_,s',rfl⟩:=e;simp [AV.same]
 | .slice (some _) _ _ _ _,_,_,e=>by simp [VL] at e
 | .map none,_,_,e=>by simp only [VL] at e;subst e;simp [AV.same]
 | .map (some r),_,_,e=>by simp only [VL] at e;obtain ⟨j,_,rfl⟩:=e;simp [AV.same]
 | .func f cs,_,h,e=>by
  simp only [VL] at e
  obtain ⟨cs',rfl,e⟩:=e
  simp only [AV.same,Bool.and_eq_true,beq_self_eq_true,true_and]
  exact bV.CS cs cs' (by simpa [known] using h) e
 | .nilFunc,_,_,e=>by simp only [VL] at e;subst e;simp [AV.same]
 | .agg cs,_,h,e=>by
  simp only [VL] at e
  obtain ⟨cs',rfl,e⟩:=e
  simp only [AV.same]
  exact bV.CS cs cs' (by simpa [known] using h) e
 | .tuple cs,_,h,e=>by
  simp only [VL] at e
  obtain ⟨cs',rfl,e⟩:=e
  simp only [AV.same]
  exact bV.CS cs cs' (by simpa [known] using h) e
 | .list ..,_,_,e=>by
  simp only [VL] at e
  rcases e with ⟨_,_,s',rfl⟩ | ⟨b,o,cap,ex',rfl,_⟩<;>simp [AV.same]
 | .elem _,_,_,e=>by simp only [VL] at e;obtain ⟨b,o,c,ro,sl,rfl,_⟩:=e;simp [AV.same]
 | .acc ..,_,_,e=>by simp only [VL] at e;obtain ⟨p,s',cap,ex,rfl,_⟩:=e;simp [AV.same]
theorem bV.CS {M:Heap} {O:Nat→Prop} {κ:VI}:∀ (l r:List AV),U4 l=true→bV M O κ l r→AV.M8 r r=true
 | [],[],_,_=>by simp [AV.M8]
 | v::l,a::r,h,e=>by
  simp only [bV] at e
  simp only [U4] at h
  split at h
  ·rename_i hv
   simp only [AV.M8,Bool.and_eq_true]
   exact ⟨VL.CS v a hv e.1,bV.CS l r h e.2⟩
  ·cases h
 | [],_::_,_,e=>by simp [bV] at e
 | _::_,[],_,e=>by simp [bV] at e
end
end Go.Proofs.YtohoggieaanllaaGreat
end
section
set_option linter.all false
set_option linter.unusedSimpArgs false
namespace Go.Proofs.YtohoggieaanllaaGreat
theorem afD (u k:Nat) (bt:List (Nat×Nat)) (t:Nat):rC ((u,k)::bt) t=if u=t then k else rC bt t:=by
 simp only [rC]
 cases h:Nat.beq u t with
 | true=>simp [Nat.eq_of_beq_eq_true h]
 | false =>
  have:u≠t:=λe=>by subst e;simp at h
  simp [this]
theorem Rj (n:Nat) (d:Option Nat) (k:Nat) (bt:List (Nat×Nat)) (t:Nat):rC (oO n d k bt) t=if d=some t∧t < n then k else rC bt t:=by
 cases d with
 | none=>simp [oO]
 | some d =>
  simp only [oO]
  cases hb:Nat.blt d n with
  | true =>
   have hd:d < n:=by simpa [Nat.blt_eq] using hb
   simp only [afD]
   by_cases he:d=t
   ·subst he
    simp [hd]
   ·simp [he]
  | false =>
   have hd:¬ d < n:=λh=>by
    have:Nat.blt d n=true:=by simpa [Nat.blt_eq] using h
    rw [hb] at this
    cases this
   simp only
   rw [if_neg]
   rintro ⟨h1,h2⟩
   obtain rfl:=Option.some.inj h1
   exact hd h2
def PV (bt:List (Nat×Nat)) (k:Nat) (ρ:Nat→AV):Nat→AV:=λt=>if rC bt t≤k then ρ t else .undef
theorem aj1 {bt:List (Nat×Nat)} {k:Nat} {ρ:Nat→AV} {x:AX} (h:qH bt x≤k):x.sub (PV bt k ρ)=x.sub ρ:=by
 cases x with
 | t t=>simp only [qH] at h;simp only [AX.sub,PV];rw [if_pos h]
 | c v=>rfl
theorem amY {bt:List (Nat×Nat)} {k:Nat} {ρ:Nat→AV} {x:Option AX} (h:adI bt x≤k):AX.jl (PV bt k ρ) x=AX.jl ρ x:=by
 cases x with
 | none=>rfl
 | some x=>simp only [AX.jl,Option.map_some,aj1 h]
theorem akT {bt:List (Nat×Nat)} {n k:Nat} {ρ:Nat→AV} {o:mV} (hk:k < n) (h:afv bt n o≤k):o.sub (PV bt k ρ)=o.sub ρ:=by
 cases o<;>simp only [afv] at h<;>first | omega | skip
 all_goals simp only [mV.sub]
 all_goals (repeat rw [aj1 (by omega)])
 all_goals (repeat rw [amY (by omega)])
theorem rE {b:Nat} {t:List Nat×WH} {r:List (List Nat×WH)}:touches b (t::r)=false↔b ∉ t.1∧touches b r=false:=by
 simp only [touches]
 cases h:vS t.1 b with
 | true=>simp [CQ.1 h]
 | false=>simp [show b ∉ t.1 from λe=>by rw [CQ.2 e] at h;cases h]
theorem WB {b:Nat} {t:List Nat×WH}:∀ {r:List (List Nat×WH)},touches b (r++[t])=false↔touches b r=false∧b ∉ t.1
 | []=>by rw [List.nil_append,rE];simp [touches]
 | u::r=>by rw [List.cons_append,rE,rE,WB,and_assoc]
structure HK (R:Nat→Prop) (base eU nk k:Nat) (uD ι:VI) (H:WH) (M:Heap) (l lA:Fast) (bt:List (Nat×Nat)) (hs:List (List Nat×WH)) (Mk:Heap) (zP:VI):Prop where
 keep:Keeps Mk (own zP) M (own ι)
 env:∀ t,rC bt t≤k+1→VL Mk (OR R zP) zP (look l t) (look lA t)
 new:∀ i,i < nk→zP (base+i)=some (eU+i)
 gone:∀ i,i < nk→zP.gone (base+i)=true→ι.gone (base+i)=true
 same:∀ i j,i < base→act ι H i→uD i=some j→touches i (hs.drop k)=false→M.get j=Mk.get j
structure DI (R:Nat→Prop) (base eU nk:Nat) (uD:VI) (M0:Heap) (ι:VI) (H:WH) (M:Heap) (l lA:Fast) (bt:List (Nat×Nat)) (al:List Nat) (hs:List (List Nat×WH)) (jG:List Heap):Prop where
 vs:VS R ι H M
 len:base+nk≤H.length
 env:yS R ι M l lA
 new:∀ i,i < nk→ι (base+i)=some (eU+i)
 free:∀ i,i < nk→vS al i=false→ι.gone (base+i)=false∧ι.dim (base+i)=none∧dJ H (base+i)=none
 start:∀ t,rC bt t=0→VL M0 (OR R uD) uD (look l t) (look lA t)
 low:∀ i j,uD i=some j→i < base∧j < eU
 le0:VI.Le uD ι (λi=>i < base)
 to0:∀ i,i < base→ι i=uD i
 m0:M0.next=eU
 hlen:hs.length=jG.length
 hist:∀ k Mk,jG[k]?=some Mk→∃ zP,HK R base eU nk k uD ι H M l lA bt hs Mk zP∧∃ t Hk,hs[k]?=some (t,Hk)∧VS R zP Hk Mk
section
variable {R:Nat→Prop} {base eU nk:Nat} {uD:VI} {M0:Heap} {ι:VI} {H:WH} {M:Heap} {l lA:Fast} {bt:List (Nat×Nat)} {al:List Nat} {hs:List (List Nat×WH)} {jG:List Heap}
theorem HK.put {k:Nat} {Mk:Heap} {zP:VI} (g:HK R base eU nk k uD ι H M l lA bt hs Mk zP) (n:Nat) (d:Option Nat) (b:Nat) {v a:AV} (hv:b≤k+1→VL Mk (OR R zP) zP v a):HK R base eU nk k uD ι H M (oh n d v l) (oh n d a lA) (oO n d b bt) hs Mk zP :=
 ⟨g.keep,λt ht=>by
  rw [zx,zx]
  rw [Rj] at ht
  split
  ·rename_i h
   rw [if_pos h] at ht
   exact hv ht
  ·rename_i h
   rw [if_neg h] at ht
   exact g.env t ht,g.new,g.gone,g.same⟩
theorem DI.put (g:DI R base eU nk uD M0 ι H M l lA bt al hs jG) (n:Nat) (d:Option Nat) (b:Nat) {v a:AV} (hv:VL M (OR R ι) ι v a) (h0:b=0→VL M0 (OR R uD) uD v a)
  (hk:∀ k Mk zP,k < hs.length→HK R base eU nk k uD ι H M l lA bt hs Mk zP→b≤k+1→VL Mk (OR R zP) zP v a):DI R base eU nk uD M0 ι H M (oh n d v l) (oh n d a lA) (oO n d b bt) al hs jG :=
 ⟨g.vs,g.len,g.env.put n d hv,g.new,g.free,λt ht=>by
  rw [zx,zx]
  rw [Rj] at ht
  split
  ·rename_i h
   rw [if_pos h] at ht
   exact h0 ht
  ·rename_i h
   rw [if_neg h] at ht
   exact g.start t ht,g.low,g.le0,g.to0,g.m0,g.hlen,λk Mk h=>by
   obtain ⟨zP,q,q2⟩:=g.hist k Mk h
   exact ⟨zP,q.put n d b λhb=>hk k Mk zP (by rw [g.hlen];exact (List.getElem?_eq_some_iff.1 h).1) q hb,q2⟩⟩
theorem DI.axL (g:DI R base eU nk uD M0 ι H M l lA bt al hs jG) (n:Nat) (d:Option Nat) (b:Nat) {v a:AV} (hv:VL M (OR R ι) ι v a) (h0:b=0→VL M0 (OR R uD) uD v a)
  (hk:∀ k Mk zP t Hk,jG[k]?=some Mk→HK R base eU nk k uD ι H M l lA bt hs Mk zP→hs[k]?=some (t,Hk)→VS R zP Hk Mk→b≤k+1→VL Mk (OR R zP) zP v a):DI R base eU nk uD M0 ι H M (oh n d v l) (oh n d a lA) (oO n d b bt) al hs jG :=
 ⟨g.vs,g.len,g.env.put n d hv,g.new,g.free,λt ht=>by
  rw [zx,zx]
  rw [Rj] at ht
  split
  ·rename_i h
   rw [if_pos h] at ht
   exact h0 ht
  ·rename_i h
   rw [if_neg h] at ht
   exact g.start t ht,g.low,g.le0,g.to0,g.m0,g.hlen,λk Mk h=>by
   obtain ⟨zP,q,t,Hk,q2,q3⟩:=g.hist k Mk h
   exact ⟨zP,q.put n d b λhb=>hk k Mk zP t Hk h q q2 q3 hb,t,Hk,q2,q3⟩⟩
theorem DI.now (g:DI R base eU nk uD M0 ι H M l lA bt al hs jG) (n:Nat) (d:Option Nat) {v a:AV} (hv:VL M (OR R ι) ι v a):DI R base eU nk uD M0 ι H M (oh n d v l) (oh n d a lA) (oO n d (hs.length+1) bt) al hs jG :=
 g.put n d (hs.length+1) hv (λh=>by omega) (λk Mk zP hk _ hb=>by omega)
theorem DI.like {l':Fast} (g:DI R base eU nk uD M0 ι H M l lA bt al hs jG) (h:∀ t,look l' t=look l t):DI R base eU nk uD M0 ι H M l' lA bt al hs jG :=
 ⟨g.vs,g.len,λt=>by rw [h t];exact g.env t,g.new,g.free,λt ht=>by rw [h t];exact g.start t ht,g.low,g.le0,g.to0,g.m0,g.hlen,λk Mk e=>by
  obtain ⟨zP,q,q2⟩:=g.hist k Mk e
  exact ⟨zP,⟨q.keep,λt ht=>by rw [h t];exact q.env t ht,q.new,q.gone,q.same⟩,q2⟩⟩
theorem DI.loud (g:DI R base eU nk uD M0 ι H M l lA bt al hs jG) {t:List Nat} {bL:VI} {H':WH} {M':Heap} (s':VS R bL H' M') (k:Stp H.length t ι H M bL H' M'):DI R base eU nk uD M0 bL H' M' l lA bt al (hs++[(t,H)]) (jG++[M]):=by
 have hb:∀ i,i < nk→base+i < H.length:=λi hi=>by have:=g.len;omega
 have nw:∀ i,i < nk→bL (base+i)=some (eU+i):=λi hi=>((k.le _ (hb i hi)).1 _ (g.new i hi)).1
 refine ⟨s',Nat.le_trans g.len k.next,g.env.step g.vs k,nw,λi hi ha=>?_,g.start,g.low,g.le0.trans (k.le.sub λi hi=>by have:=g.len;have:i < base:=hi;show i < H.length;omega),λi hi=>(k.toq i (by have:=g.len;omega)).trans (g.to0 i hi),g.m0,by simp [g.hlen],λq Mk hq=>?_⟩
 ·obtain ⟨h1,h2,h3⟩:=g.free i hi ha
  refine ⟨by rw [k.acj _ (hb i hi) h3];exact h1,by rw [k.ahL _ (hb i hi)];exact h2, ?_⟩
  cases e:dJ H' (base+i) with
  | none=>rfl
  | some x =>
   obtain ⟨y,hy⟩:=k.live _ (hb i hi) ⟨x,e⟩
   rw [h3] at hy
   cases hy
 ·rcases Nat.lt_or_ge q jG.length with hlt | hge
  ·rw [List.getElem?_append_left hlt] at hq
   obtain ⟨zP,w,t0,Hk,w2,w3⟩:=g.hist q Mk hq
   refine ⟨zP,⟨w.keep.trans k.keep,w.env,w.new,λi hi h=>k.gone _ (hb i hi) (w.gone i hi h),λi j hi ha hj ht=>?_⟩,t0,Hk,by rw [List.getElem?_append_left (by rw [g.hlen];exact hlt)];exact w2,w3⟩
   rw [List.drop_append_of_le_length (by rw [g.hlen];omega),WB] at ht
   have hi':i < H.length:=by have:=g.len;omega
   exact (k.tch i j hi' ha ((g.le0 i hi).1 j hj).1 ht.2).trans (w.same i j hi (k.act hi' ha) hj ht.1)
  ·rw [List.getElem?_append_right hge] at hq
   have hqe:q=jG.length:=by
    rcases Nat.eq_or_lt_of_le hge with e | e
    ·exact e.symm
    ·rw [List.getElem?_eq_none (by simp;omega)] at hq;cases hq
   subst hqe
   simp only [Nat.sub_self,List.getElem?_cons_zero,Option.some.injEq] at hq
   subst hq
   refine ⟨ι,⟨k.keep,λu _=>g.env u,g.new,λi hi h=>k.gone _ (hb i hi) h,λi j hi ha hj ht=>?_⟩,t,H,by rw [← g.hlen,List.getElem?_append_right (Nat.le_refl _)];simp,g.vs⟩
   rw [← g.hlen,List.drop_append_of_le_length (Nat.le_refl _),List.drop_length,List.nil_append,rE] at ht
   exact k.tch i j (by have:=g.len;omega) ha ((g.le0 i hi).1 j hj).1 ht.1
theorem Rk:∀ {al:List Nat} {m:Nat},IG H base al=true→vS al m=true→∃ c sl,dJ H (base+m)=some (.cells c false sl)
 | [],m,_,h=>by simp [vS] at h
 | a::r,m,ht,h=>by
  simp only [IG] at ht
  split at ht
  case h_2=>cases ht
  rename_i c sl hg
  rcases List.mem_cons.1 (CQ.1 h) with e | e
  ·exact ⟨c,sl,e ▸ hg⟩
  ·exact Rk ht (CQ.2 e)
theorem DI.owns (g:DI R base eU nk uD M0 ι H M l lA bt al hs jG) (ht:IG H base al=true) {b:Nat} (h1:eU≤b) (h2:b < eU+nk):own ι b:=by
 have e:eU+(b - eU)=b:=by omega
 refine ⟨base+(b - eU),by rw [g.new _ (by omega),e], ?_⟩
 cases ha:vS al (b - eU) with
 | false=>exact (g.free _ (by omega) ha).1
 | true =>
  obtain ⟨c,sl,hg⟩:=Rk ht ha
  cases hgo:ι.gone (base+(b - eU)) with
  | false=>rfl
  | true=>exact absurd hg (g.vs.Cq _ hgo c sl)
theorem DI.owned (g:DI R base eU nk uD M0 ι H M l lA bt al hs jG) {lo:Nat} (ht:(IG H base al || Nk hs lo base al)=true) {b:Nat} (h1:eU≤b) (h2:b < eU+nk) :
  own ι b∨∃ k Mk zP,lo≤k∧jG[k]?=some Mk∧HK R base eU nk k uD ι H M l lA bt hs Mk zP∧own zP b:=by
 rcases Bool.or_eq_true_iff.1 ht with ht | ht
 ·exact .inl (g.owns ht h1 h2)
 have e:eU+(b - eU)=b:=by omega
 cases ha:vS al (b - eU) with
 | false=>exact .inl ⟨base+(b - eU),by rw [g.new _ (by omega),e],(g.free _ (by omega) ha).1⟩
 | true =>
  right
  unfold Nk at ht
  split at ht
  case h_2=>cases ht
  rename_i tk Hk rest hd
  have hk:hs[lo]?=some (tk,Hk):=by
   have:(hs.drop lo)[0]?=some (tk,Hk):=by rw [hd];rfl
   rw [List.getElem?_drop] at this
   exact this
  have hl:lo < jG.length:=by rw [← g.hlen];exact (List.getElem?_eq_some_iff.1 hk).1
  obtain ⟨zP,w,t',Hk',w2,w3⟩:=g.hist lo jG[lo] (List.getElem?_eq_getElem hl)
  rw [hk] at w2
  cases w2
  obtain ⟨c,sl,hg⟩:=Rk ht ha
  refine ⟨lo,_,zP,Nat.le_refl _,List.getElem?_eq_getElem hl,w,base+(b - eU),by rw [w.new _ (by omega),e], ?_⟩
  cases hgo:zP.gone (base+(b - eU)) with
  | false=>rfl
  | true=>exact absurd hg (w3.Cq _ hgo c sl)
theorem JB {X:Heap} {b:Nat} (h:¬ (eU≤b∧b < eU+nk)):(X.hide eU nk).get b=X.get b:=by
 simp only [Heap.hide]
 rw [if_neg h]
theorem PE {g:Bool} {n b o:Nat} {X Y:Heap} (h:X.get b=Y.get b):G6 g n (.ptr (some (b,o))) X=G6 g n (.ptr (some (b,o))) Y:=by
 simp only [G6,Heap.read,h]
theorem Qw {sz len cap:Nat} {ex:Bool} {b o:Nat} {X Y:Heap} (h:len≠0→X.get b=Y.get b):vL (.slice (some (b,o)) sz len cap ex) X=vL (.slice (some (b,o)) sz len cap ex) Y:=by
 unfold vL
 split<;>first | rfl | skip
 rename_i e
 cases e
 split
 ·rfl
 ·rename_i hl
  simp only [Heap.read,h hl]
theorem arh (g:DI R base eU nk uD M0 ι H M l lA bt al hs jG) {o:BJ} (hc:o.bB=true) {v u:AV} (hv:wL (o.sub (look l)) H=some v) (hu:∀ (M:Heap) (O:Nat→Prop) (κ:VI) (a:AV),VL M O κ v a→VL M O κ u a) {lo:Nat} (hok:YV base al l bt lo o u H hs=true) :
  ∃ a,aL (o.sub (look lA)) [] (M.hide eU nk)=some a∧VL M (OR R ι) ι u a∧∀ k Mk,lo≤k→jG[k]?=some Mk→∃ w,aL (o.sub (look lA)) [] (Mk.hide eU nk)=some w∧AV.same w a=true:=by
 obtain ⟨a,h1,h2⟩:=acw g.vs g.env hc hv
 have h3:=hu _ _ _ _ h2
 -- all read the same
 have fin:known u=true→(∀ X,(X=M∨∃ k,lo≤k∧jG[k]?=some X)→aL (o.sub (look lA)) [] (X.hide eU nk)=aL (o.sub (look lA)) [] M)→∃ a,aL (o.sub (look lA)) [] (M.hide eU nk)=some a∧VL M (OR R ι) ι u a∧∀ k Mk,lo≤k→jG[k]?=some Mk→∃ w,aL (o.sub (look lA)) [] (Mk.hide eU nk)=some w∧AV.same w a=true :=
  λhkn hX=>⟨a,(hX M (.inl rfl)).trans h1,h3,λk Mk hk hM=>⟨a,(hX Mk (.inr ⟨k,hk,hM⟩)).trans h1,VL.CS u a hkn h3⟩⟩
 unfold YV at hok
 -- a list
 have lst:∀ (t:Nat),qH bt (.t t)=Nj bt o→Nat.ble (Nj bt o) lo=true→(IG H base al=true∨Nj bt o=0) →
   ∀ (P:Heap→(Nat→Prop)→VI→Nat→Prop),(∀ M O κ,VL M O κ (look l t) (look lA t)→∃ b,P M O κ b)→True:=λ_ _ _ _ _ _=>trivial
 cases o with
 | load ag n x =>
  cases x with
  | c w=>simp [afw] at hok
  | t t =>
   simp only [afw,Nj,qH] at hok
   simp only [BJ.sub,AX.sub,aL,AX.ev] at fin h1 ⊢
   have e0:=g.env t
   generalize hX:look l t=X at *
   cases X with
   | elem cs =>
    simp only at hok
    have hkn:known u=true:=by
     split at hok
     ·assumption
     ·assumption
     ·cases hok
    have hb:rC bt t≤lo+1:=by
     split at hok
     ·rename_i h _ _;exact Nat.le_of_ble_eq_true h
     ·rename_i h _ _;exact Nat.le_of_ble_eq_true h
     ·cases hok
    have hth:(IG H base al || Nk hs lo base al)=true∨rC bt t=0:=by
     split at hok
     ·exact .inl (by assumption)
     ·exact .inr (Nat.eq_of_beq_eq_true hok)
     ·cases hok
    simp only [VL] at e0
    obtain ⟨b,off,c,ro,sl,e1,g1,g2,g3,g4⟩:=e0
    have hout:¬ (eU≤b∧b < eU+nk):=λ⟨q1,q2⟩=>by
     rcases hth with ht | h0
     ·rcases g.owned ht q1 q2 with o | ⟨k,Mk,zP,hk,_,w,o⟩
      ·exact g2 (.inl o)
      ·have:=w.env t (by omega)
       rw [hX] at this
       simp only [VL] at this
       obtain ⟨b',_,_,_,_,e2,_,p2,_⟩:=this
       rw [e1] at e2
       simp only [AV.ptr.injEq,Option.some.injEq,Prod.mk.injEq] at e2
       rw [← e2.1] at p2
       exact p2 (.inl o)
     ·have:=g.start t h0
      rw [hX] at this
      simp only [VL] at this
      obtain ⟨b',_,_,_,_,e2,_,_,p3,_⟩:=this
      rw [e1] at e2
      simp only [AV.ptr.injEq,Option.some.injEq,Prod.mk.injEq] at e2
      rw [← e2.1,g.m0] at p3
      omega
    refine fin hkn λX hX'=>?_
    rw [e1]
    refine PE ((JB hout).trans ?_)
    rcases hX' with rfl | ⟨k,hk,hM⟩
    ·rfl
    ·obtain ⟨zP,w,_⟩:=g.hist k X hM
     have:=w.env t (by omega)
     rw [hX] at this
     simp only [VL] at this
     obtain ⟨b',_,_,_,_,e2,_,p2,p3,_⟩:=this
     rw [e1] at e2
     simp only [AV.ptr.injEq,Option.some.injEq,Prod.mk.injEq] at e2
     rw [← e2.1] at p2 p3
     exact (w.keep.get b p3 (λh=>p2 (.inl h))).1.symm
   | ptr p =>
    cases p with
    | none=>simp at hok
    | some q =>
     simp only at hok
     split at hok
     case h_2=>cases hok
     rename_i hkn hlt hto
     have hlt:q.1 < base:=by simpa [Nat.blt_eq] using hlt
     simp only [VL] at e0
     obtain ⟨j,k1,k2⟩:=e0
     rw [g.to0 _ hlt] at k1
     have hj:=(g.low _ _ k1).2
     have hact:act ι H q.1:=by
      simp only [BJ.sub,AX.sub,wL,AX.ev,hX] at hv
      split at hv
      ·cases hv
      split at hv
      ·rename_i hg
       exact .inl ⟨_,hg⟩
      ·cases hv
     refine fin hkn λX hX'=>?_
     rw [k2]
     refine PE ((JB (by omega)).trans ?_)
     rcases hX' with rfl | ⟨k,hk,hM⟩
     ·rfl
     ·obtain ⟨zP,w,_⟩:=g.hist k X hM
      refine (w.same q.1 j hlt hact k1 ?_).symm
      have:hs.drop k=(hs.drop lo).drop (k - lo):=by rw [List.drop_drop];congr 1;omega
      rw [this]
      have mono:∀ (r:List (List Nat×WH)) (n:Nat),touches q.1 r=false→touches q.1 (r.drop n)=false:=by
       intro r
       induction r with
       | nil=>intro n _;simp [touches]
       | cons u r ih =>
        intro n h
        cases n with
        | zero=>exact h
        | succ n=>exact ih n (rE.1 h).2
      exact mono _ _ hto
   | _=>simp at hok
 | lY x =>
  cases x with
  | c w=>simp [afw] at hok
  | t t =>
   simp only [afw,Nj,qH] at hok
   simp only [BJ.sub,AX.sub,aL,AX.ev] at fin h1 ⊢
   have e0:=g.env t
   generalize hX:look l t=X at *
   cases X with
   | list sz len cs ex =>
    simp only at hok
    have hkn:known u=true:=by
     split at hok
     ·assumption
     ·assumption
     ·cases hok
    have hb:rC bt t≤lo+1:=by
     split at hok
     ·rename_i h _ _;exact Nat.le_of_ble_eq_true h
     ·rename_i h _ _;exact Nat.le_of_ble_eq_true h
     ·cases hok
    have hth:(IG H base al || Nk hs lo base al)=true∨rC bt t=0:=by
     split at hok
     ·exact .inl (by assumption)
     ·exact .inr (Nat.eq_of_beq_eq_true hok)
     ·cases hok
    simp only [VL] at e0
    rcases e0 with ⟨_,_,s',e1⟩ | ⟨b,off,cap,ex',e1,_,_,_,q4⟩
    ·exact fin hkn λX _=>by rw [e1];rfl
    refine fin hkn λX hX'=>?_
    rw [e1]
    refine Qw λhl=>?_
    obtain ⟨c,ro,sl,g1,g2,g3,g4,g5⟩:=q4 hl
    have hout:¬ (eU≤b∧b < eU+nk):=λ⟨q1,q2⟩=>by
     rcases hth with ht | h0
     ·rcases g.owned ht q1 q2 with o | ⟨k,Mk,zP,hk,_,w,o⟩
      ·exact g2 (.inl o)
      ·have:=w.env t (by omega)
       rw [hX] at this
       simp only [VL] at this
       rcases this with ⟨_,_,s',e2⟩ | ⟨b',_,_,_,e2,_,_,_,p4⟩
       ·rw [e1] at e2;cases e2
       ·rw [e1] at e2
        cases e2
        obtain ⟨_,_,_,_,p2,_⟩:=p4 hl
        exact p2 (.inl o)
     ·have:=g.start t h0
      rw [hX] at this
      simp only [VL] at this
      rcases this with ⟨_,_,s',e2⟩ | ⟨b',_,_,_,e2,_,_,_,p4⟩
      ·rw [e1] at e2;cases e2
      ·rw [e1] at e2
       cases e2
       obtain ⟨_,_,_,_,_,p3,_⟩:=p4 hl
       rw [g.m0] at p3
       omega
    refine (JB hout).trans ?_
    rcases hX' with rfl | ⟨k,hk,hM⟩
    ·rfl
    ·obtain ⟨zP,w,_⟩:=g.hist k X hM
     have:=w.env t (by omega)
     rw [hX] at this
     simp only [VL] at this
     rcases this with ⟨_,_,s',e2⟩ | ⟨b',_,_,_,e2,_,_,_,p4⟩
     ·rw [e1] at e2;cases e2
     ·rw [e1] at e2
      cases e2
      obtain ⟨_,_,_,_,p2,p3,_⟩:=p4 hl
      exact (w.keep.get b p3 (λh=>p2 (.inl h))).1.symm
   | slice p sz len cap ex =>
    cases p with
    | some q=>simp [VL] at e0
    | none =>
     simp only at hok
     have hkn:known u=true:=by
      split at hok
      ·assumption
      ·assumption
      ·cases hok
     simp only [VL] at e0
     obtain ⟨_,s',e1⟩:=e0
     exact fin hkn λX _=>by rw [e1];rfl
   | acc b off sz n w =>
    simp only at hok
    split at hok
    case h_2=>cases hok
    rename_i hkn hlt hto
    have hlt:b < base:=by simpa [Nat.blt_eq] using hlt
    simp only [VL] at e0
    obtain ⟨p,s',cap,ex,k2,k3,k4,k5,m,L,k6,k7,k8,k9⟩:=e0
    have hact:act ι H b:=by
     simp only [BJ.sub,AX.sub,wL,AX.ev,hX] at hv
     split at hv
     ·rename_i e;cases e
     ·rename_i e
      cases e
      split at hv
      ·rename_i hg
       exact .inl ⟨_,hg⟩
      ·cases hv
     ·rename_i e;cases e
     ·cases hv
    refine fin hkn λX hX'=>?_
    rw [k2]
    cases p with
    | none=>rfl
    | some p =>
     refine Qw λhl=>?_
     have k9:=k9.resolve_right (λh=>hl h.2.1)
     obtain ⟨j,k1,k10⟩:=k9
     rw [g.to0 _ hlt] at k1
     have k10:=k10.resolve_right (λh=>hl h.1)
     have hpj:p.1=j:=by
      have:=k10.1
      simp only [Option.some.injEq] at this
      rw [this]
     have hj:=(g.low _ _ k1).2
     rw [hpj]
     refine (JB (by omega)).trans ?_
     rcases hX' with rfl | ⟨k,hk,hM⟩
     ·rfl
     ·obtain ⟨zP,w',_⟩:=g.hist k X hM
      refine (w'.same b j hlt hact k1 ?_).symm
      have:hs.drop k=(hs.drop lo).drop (k - lo):=by rw [List.drop_drop];congr 1;omega
      rw [this]
      have mono:∀ (r:List (List Nat×WH)) (n:Nat),touches b r=false→touches b (r.drop n)=false:=by
       intro r
       induction r with
       | nil=>intro n _;simp [touches]
       | cons u r ih =>
        intro n h
        cases n with
        | zero=>exact h
        | succ n=>exact ih n (rE.1 h).2
      exact mono _ _ hto
   | _=>simp at hok
 | KD x=>simp [afw] at hok
 | lookup ok z x w=>simp [afw] at hok
theorem Rl {o:BJ} {x:Option AV} {k:TS→Prop}:∀ {hs:List (List Nat×WH)} {tr:TS},SL o x k hs tr→∃ lG,(∀ (i:Nat) (t:List Nat) (Hk:WH),hs[i]?=some (t,Hk)→wL o Hk=x)∧k lG
 | [],tr,h=>⟨tr,λi t Hk e=>by simp at e,h⟩
 | p::r,tr,h=>by
  simp only [SL] at h
  obtain ⟨_,h1,h2⟩:=nP h
  obtain ⟨lG,q1,q2⟩:=Rl h2
  refine ⟨lG,λi t Hk e=>?_,q2⟩
  cases i with
  | zero=>simp only [List.getElem?_cons_zero,Option.some.injEq] at e;rw [e] at h1;exact h1
  | succ i=>exact q1 i t Hk (by simpa using e)
theorem ahV (g:DI R base eU nk uD M0 ι H M l lA bt al hs jG) {o:BJ} (hc:o.bB=true) {v u:AV} (hv:wL (o.sub (look l)) H=some v) (hu:∀ (M:Heap) (O:Nat→Prop) (κ:VI) (a:AV),VL M O κ v a→VL M O κ u a) {lo:Nat} (hok:Nl base l bt lo o u=true)
  (hl:∀ (i:Nat) (t:List Nat) (Hk:WH),(hs.drop lo)[i]?=some (t,Hk)→wL (o.sub (look l)) Hk=wL (o.sub (look l)) H) :
  ∃ a,aL (o.sub (look lA)) [] (M.hide eU nk)=some a∧VL M (OR R ι) ι u a∧∀ k Mk,lo≤k→jG[k]?=some Mk→∃ w,aL (o.sub (look lA)) [] (Mk.hide eU nk)=some w∧AV.same w a=true:=by
 obtain ⟨a,h1,h2⟩:=acw g.vs g.env hc hv
 have h3:=hu _ _ _ _ h2
 have rig:∀ {M':Heap} {O:Nat→Prop} {κ:VI} {w:AV},Nl base l bt lo o u=true→VL M' O κ u w→w=a:=by
  intro M' O κ w hb hw
  unfold Nl at hb
  split at hb
  case h_2=>cases hb
  split at hb
  ·simp only [VL] at hw h3;rw [hw,h3]
  ·simp only [VL] at hw h3;rw [hw,h3]
  ·simp only [VL] at hw h3;rw [hw,h3]
  ·cases hb
 have hkn:known u=true:=by
  unfold Nl at hok
  split at hok
  case h_2=>cases hok
  split at hok
  ·rfl
  ·rfl
  ·rfl
  ·cases hok
 cases o with
 | load ag n x =>
  cases x with
  | c w=>simp [Nl] at hok
  | t t =>
   have hp:∃ b off,look l t=.ptr (some (b,off))∧b < base∧rC bt t≤lo+1:=by
    simp only [Nl] at hok
    split at hok
    ·rename_i b off _ _ hX
     simp only [Bool.and_eq_true,Nat.blt_eq] at hok
     exact ⟨b,off,hX,hok.1,Nat.le_of_ble_eq_true hok.2⟩
    ·rename_i b off _ hX
     simp only [Bool.and_eq_true,Nat.blt_eq] at hok
     exact ⟨b,off,hX,hok.1,Nat.le_of_ble_eq_true hok.2⟩
    ·rename_i b off _ hX
     simp only [Bool.and_eq_true,Nat.blt_eq] at hok
     exact ⟨b,off,hX,hok.1,Nat.le_of_ble_eq_true hok.2⟩
    ·cases hok
   obtain ⟨b,off,hX,hlt,hbt⟩:=hp
   have e0:=g.env t
   rw [hX] at e0
   simp only [VL] at e0
   obtain ⟨j,k1,k2⟩:=e0
   rw [g.to0 _ hlt] at k1
   have hj:=(g.low _ _ k1).2
   have hide:∀ X:Heap,aL (BJ.sub (look lA) (.load ag n (.t t))) [] (X.hide eU nk)=aL (BJ.sub (look lA) (.load ag n (.t t))) [] X:=by
    intro X
    simp only [BJ.sub,AX.sub,aL,AX.ev]
    rw [k2]
    exact PE (JB (by omega))
   refine ⟨a,(hide M).trans h1,h3,λk Mk hk hM=>?_⟩
   obtain ⟨zP,w,tk,Hk,w2,w3⟩:=g.hist k Mk hM
   have hce:∀ s,VL Mk (OR R zP) zP (PV bt (k+1) (look l) s) (look lA s):=λs=>by
    unfold PV
    split
    ·rename_i hb;exact w.env s hb
    ·simp [VL]
   have hsub:BJ.sub (PV bt (k+1) (look l)) (.load ag n (.t t))=BJ.sub (look l) (.load ag n (.t t)):=by
    simp only [BJ.sub,AX.sub,PV]
    rw [if_pos (by omega)]
   have hv':wL (BJ.sub (PV bt (k+1) (look l)) (.load ag n (.t t))) Hk=some v:=by
    rw [hsub,hl (k - lo) tk Hk (by rw [List.getElem?_drop,show lo+(k - lo)=k by omega];exact w2)]
    exact hv
   obtain ⟨w',q1,q2⟩:=acw w3 hce hc hv'
   have:=rig hok (hu _ _ _ _ q2)
   subst this
   exact ⟨w',(hide Mk).trans q1,VL.CS u w' hkn h3⟩
 | _=>simp [Nl] at hok
theorem ahW (g:DI R base eU nk uD M0 ι H M l lA bt al hs jG) {o:BJ} (hc:o.bB=true) {v u a:AV} (hv:wL (o.sub (look l)) H=some v) (hu:∀ (M:Heap) (O:Nat→Prop) (κ:VI) (a:AV),VL M O κ v a→VL M O κ u a) {lo b:Nat} (hok:YV base al l bt lo o u H hs=true)
  (hb:amL l o=some b) (hbt:Nat.ble (Nj bt o) (lo+1)=true) (ha:aL (o.sub (look lA)) [] (M.hide eU nk)=some a)
  (hl:∀ (i:Nat) (t:List Nat) (Hk:WH),(hs.drop lo)[i]?=some (t,Hk)→wL (o.sub (look l)) Hk=wL (o.sub (look l)) H) :
  ∀ k Mk zP t Hk,jG[k]?=some Mk→HK R base eU nk k uD ι H M l lA bt hs Mk zP→hs[k]?=some (t,Hk)→VS R zP Hk Mk→lo+1≤k+1→VL Mk (OR R zP) zP u a:=by
 intro k Mk zP tk Hk hM w w2 w3 hk
 cases o with
 | load ag n x =>
  cases x with
  | c w=>simp [amL] at hb
  | t t =>
   simp only [Nj,qH] at hbt
   have hbt:=Nat.le_of_ble_eq_true hbt
   unfold YV at hok
   simp only [afw,Nj,qH] at hok
   simp only [amL] at hb
   have e0:=g.env t
   have hX0:∃ q,look l t=.ptr (some q):=by
    split at hb
    ·rename_i q h;exact ⟨q,h⟩
    ·cases hb
   obtain ⟨q,hX⟩:=hX0
   rw [hX] at hok e0
   simp only at hok
   split at hok
   case h_2=>cases hok
   rename_i hkn hlt hto
   have hlt:q.1 < base:=by simpa [Nat.blt_eq] using hlt
   simp only [VL] at e0
   obtain ⟨j,k1,k2⟩:=e0
   rw [g.to0 _ hlt] at k1
   have hj:=(g.low _ _ k1).2
   have hact:act ι H q.1:=by
    simp only [BJ.sub,AX.sub,wL,AX.ev,hX] at hv
    split at hv
    ·cases hv
    split at hv
    ·rename_i hg
     exact .inl ⟨_,hg⟩
    ·cases hv
   have hsame:M.get j=Mk.get j:=by
    refine w.same q.1 j hlt hact k1 ?_
    have:hs.drop k=(hs.drop lo).drop (k - lo):=by rw [List.drop_drop];congr 1;omega
    rw [this]
    have mono:∀ (r:List (List Nat×WH)) (n:Nat),touches q.1 r=false→touches q.1 (r.drop n)=false:=by
     intro r
     induction r with
     | nil=>intro n _;simp [touches]
     | cons u r ih =>
      intro n h
      cases n with
      | zero=>exact h
      | succ n=>exact ih n (rE.1 h).2
    exact mono _ _ hto
   have eqk:aL (BJ.sub (look lA) (.load ag n (.t t))) [] Mk=aL (BJ.sub (look lA) (.load ag n (.t t))) [] (M.hide eU nk):=by
    simp only [BJ.sub,AX.sub,aL,AX.ev]
    rw [k2]
    exact PE (hsame.symm.trans (JB (by omega)).symm)
   have hce:∀ s,VL Mk (OR R zP) zP (PV bt (k+1) (look l) s) (look lA s):=λs=>by
    unfold PV
    split
    ·rename_i hb;exact w.env s hb
    ·simp [VL]
   have hsub:BJ.sub (PV bt (k+1) (look l)) (.load ag n (.t t))=BJ.sub (look l) (.load ag n (.t t)):=by
    simp only [BJ.sub,AX.sub,PV]
    rw [if_pos (by omega)]
   have hv':wL (BJ.sub (PV bt (k+1) (look l)) (.load ag n (.t t))) Hk=some v:=by
    rw [hsub,hl (k - lo) tk Hk (by rw [List.getElem?_drop,show lo+(k - lo)=k by omega];exact w2)]
    exact hv
   obtain ⟨w',q1,q2⟩:=acw w3 hce hc hv'
   rw [eqk,ha] at q1
   obtain rfl:=Option.some.inj q1
   exact hu _ _ _ _ q2
 | _=>simp [amL] at hb
end
end Go.Proofs.YtohoggieaanllaaGreat
end
